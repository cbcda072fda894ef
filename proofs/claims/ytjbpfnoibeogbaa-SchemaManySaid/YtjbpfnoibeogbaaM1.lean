/- Part 1 of what the law needs: A1, A2, A3, A4, A5, A6, A7, A8, A9, A10, Facts, SbFacts, SmFacts. -/
import Derived.Below
import Derived.Orders
import Derived.Tactics
import Derived.Laws.Rows
import Derived.Laws.AppendOwn
import Derived.LoopN
import Derived.Deep.LoopGhost
import Derived.Laws.Strings
import Derived.Lib.Strings
import Derived.IntWalk
import Derived.Laws.IdiomStrings
import Derived.Laws.BytesArg
import Derived.ProofKit
import Derived.ChangeOld
import Derived.Test.YtjbpfnoibeogbaaProg
import Derived.KernelRfl
namespace Go.AV
open Go.RowKit
def plain : Value → Bool
  | .bool _ => true
  | .int _ _ => true
  | .string _ => true
  | .pointer none => true
  | .slice none 0 0 => true
  | .map none => true
  | .nilFunc => true
  | .nilIface => true
  | _ => false
inductive DV where
  | v (x : Value)
  | agg (cs : List DV)
  | lst (sz : Nat) (xs : List DV)
def DV.cells : DV → List DV
  | .agg cs => cs
  | x => [x]
def DV.one : DV → Bool
  | .agg _ => false
  | _ => true
def flat (xs : List DV) : List DV := xs.flatMap DV.cells
theorem flat_length {sz : Nat} : ∀ {xs : List DV}, (∀ x ∈ xs, x.cells.length = sz) → (flat xs).length = xs.length * sz
  | [], _ => by simp [flat]
  | x :: xs, h => by
    have ih := flat_length (xs := xs) fun y hy => h y (List.mem_cons_of_mem _ hy)
    have hx := h x (List.mem_cons_self ..)
    simp only [flat, List.flatMap_cons, List.length_append, List.length_cons, Nat.add_mul, Nat.one_mul] at ih ⊢
    omega
theorem flat_append (xs ys : List DV) : flat (xs ++ ys) = flat xs ++ flat ys := by simp [flat]
theorem flat_get {sz : Nat} : ∀ {xs : List DV} (_ : ∀ x ∈ xs, x.cells.length = sz) (i : Nat) (hi : i < xs.length) (k : Nat), k < sz → (flat xs)[i * sz + k]? = (xs[i]).cells[k]?
  | [], _, i, hi, _, _ => by simp at hi
  | x :: xs, h, i, hi, k, hk => by
    have hx := h x (List.mem_cons_self ..)
    have h' : ∀ y ∈ xs, y.cells.length = sz := fun y hy => h y (List.mem_cons_of_mem _ hy)
    cases i with
    | zero => simp [flat, List.getElem?_append_left (show k < x.cells.length by omega)]
    | succ i =>
      have ih := flat_get h' i (by simpa using hi) k hk
      have e : (i + 1) * sz + k = x.cells.length + (i * sz + k) := by rw [hx, Nat.add_mul]; omega
      show (x.cells ++ flat xs)[(i + 1) * sz + k]? = _
      rw [e, List.getElem?_append_right (by omega), Nat.add_sub_cancel_left]
      simpa using ih
abbrev Mem := Nat → Nat → Option Value
inductive RepD (m : Mem) : Value → DV → Prop
  | v (x : Value) (h : plain x = true) : RepD m x (.v x)
  | agg (vs : Array Value) (cs : List DV) (hl : vs.size = cs.length) (h1 : ∀ c ∈ cs, c.one = true) (h : ∀ i (hi : i < cs.length), RepD m (vs.getD i undef) cs[i]) : RepD m (.agg vs) (.agg cs)
  | lst (g o n cap sz : Nat) (xs : List DV) (us : Nat → Value) (hn : xs.length = n) (hc : n ≤ cap) (hsz : ∀ x ∈ xs, x.cells.length = sz) (h1 : ∀ c ∈ flat xs, c.one = true)
      (hm : ∀ i, i < (flat xs).length → m g (o + i) = some (us i)) (h : ∀ i (hi : i < (flat xs).length), RepD m (us i) (flat xs)[i]) : RepD m (.slice (some ⟨g, o, none⟩) n cap) (.lst sz xs)
  | lstE (a : Option Addr) (cap sz : Nat) : RepD m (.slice a 0 cap) (.lst sz [])
inductive AV where
  | un
  | nv
  | d (x : DV)
  | own (t : Option Nat) (sz : Nat) (xs : List DV)
  | elt (cs : List DV)
  | ptr (id off : Nat)
  | arr (id n cap : Nat)
  | sub (id off n cap : Nat)
  | agg (cs : List AV)
  | tup (cs : List AV)
  | fn (f : Fn) (first cap : List AV)
  | map (id : Nat)
  | iter (id : Nat)
def AV.one : AV → Bool
  | .d x => x.one
  | .un => false
  | .nv => false
  | .agg _ => false
  | .tup _ => false
  | _ => true
def AV.cells : AV → List AV
  | .agg cs => cs
  | .d (.agg cs) => cs.map .d
  | x => [x]
structure Tok where
  g : Nat
  cap : Nat
  sz : Nat
  mark : Nat
structure Ctx where
  mem : Mem
  blk : List Nat
  tok : List Tok
  maps : List Nat := []
inductive Rep (c : Ctx) : Value → AV → Prop
  | un (x : Value) : Rep c x .un
  | nv : Rep c undef .nv
  | d {x : Value} {y : DV} (h : RepD c.mem x y) : Rep c x (.d y)
  | own0 (sz : Nat) : Rep c (.slice none 0 0) (.own none sz [])
  | own1 (g o n sz : Nat) (xs : List DV) (h : RepD c.mem (.slice (some ⟨g, o, none⟩) n n) (.lst sz xs)) : Rep c (.slice (some ⟨g, o, none⟩) n n) (.own none sz xs)
  | ownt (i : Nat) (e : Tok) (g n cap sz : Nat) (xs : List DV) (h : RepD c.mem (.slice (some ⟨g, 0, none⟩) n cap) (.lst sz xs)) (ht : c.tok[i]? = some e) (hn : n ≤ e.mark)
      (he : e.mark = n → e.g = g ∧ e.cap = cap ∧ e.sz = sz) : Rep c (.slice (some ⟨g, 0, none⟩) n cap) (.own (some i) sz xs)
  | elt (g o : Nat) (cs : List DV) (us : Nat → Value) (h1 : ∀ x ∈ cs, x.one = true) (hm : ∀ i, i < cs.length → c.mem g (o + i) = some (us i)) (h : ∀ i (hi : i < cs.length), RepD c.mem (us i) cs[i]) :
      Rep c (.pointer (some ⟨g, o, none⟩)) (.elt cs)
  | ptr (id off g : Nat) (h : c.blk[id]? = some g) : Rep c (.pointer (some ⟨g, off, none⟩)) (.ptr id off)
  | arr (id n cap g : Nat) (h : c.blk[id]? = some g) : Rep c (.slice (some ⟨g, 0, none⟩) n cap) (.arr id n cap)
  | sub (id off n cap g : Nat) (h : c.blk[id]? = some g) : Rep c (.slice (some ⟨g, off, none⟩) n cap) (.sub id off n cap)
  | agg (vs : Array Value) (cs : List AV) (hl : vs.size = cs.length) (h : ∀ i (hi : i < cs.length), Rep c (vs.getD i undef) cs[i]) : Rep c (.agg vs) (.agg cs)
  | tup (vs : Array Value) (cs : List AV) (hl : vs.size = cs.length) (h : ∀ i (hi : i < cs.length), Rep c (vs.getD i undef) cs[i]) : Rep c (.tuple vs) (.tup cs)
  | fn (f : Fn) (fs cs : Array Value) (fs' cs' : List AV) (hl : fs.size = fs'.length) (h : ∀ i (hi : i < fs'.length), Rep c (fs.getD i undef) fs'[i])
      (hl' : cs.size = cs'.length) (h' : ∀ i (hi : i < cs'.length), Rep c (cs.getD i undef) cs'[i]) (hy : ∀ l, f ≠ .yield l := by intro l h; cases h) : Rep c (.func f fs cs) (.fn f fs' cs')
  | yld (l idx : Nat) (tmps : Array Value) (T : List AV) (hm : c.maps[idx]? = some l) (hs : tmps.size = T.length) (h : ∀ i (hi : i < T.length), Rep c (tmps.getD i undef) T[i]) : Rep c (.func (.yield l) #[] #[]) (.fn (.yield l) T (.iter idx :: tmps.toList.map fun v => .d (.v v)))
  | map (id g : Nat) (h : c.maps[id]? = some g) : Rep c (.map (some g)) (.map id)
  | iter (id g : Nat) (h : c.maps[id]? = some g) : Rep c (.pointer (some ⟨g, 0, none⟩)) (.iter id)
def MemLe (m m' : Mem) : Prop := ∀ g o u, m g o = some u → m' g o = some u
structure Le (c c' : Ctx) : Prop where
  mem : MemLe c.mem c'.mem
  blk : ∀ (i g : Nat), c.blk[i]? = some g → c'.blk[i]? = some g
  tok : ∀ (i : Nat) (e : Tok), c.tok[i]? = some e → ∃ e' : Tok, c'.tok[i]? = some e' ∧ (e' = e ∨ e.mark < e'.mark)
  maps : ∀ (i g : Nat), c.maps[i]? = some g → c'.maps[i]? = some g
theorem MemLe.refl (m : Mem) : MemLe m m := fun _ _ _ h => h
theorem MemLe.trans {a b c : Mem} (h : MemLe a b) (k : MemLe b c) : MemLe a c := fun g o u e => k g o u (h g o u e)
theorem Le.refl (c : Ctx) : Le c c := ⟨fun _ _ _ h => h, fun _ _ h => h, fun _ e h => ⟨e, h, .inl rfl⟩, fun _ _ h => h⟩
theorem Le.trans {a b c : Ctx} (h : Le a b) (k : Le b c) : Le a c := by
  refine ⟨h.mem.trans k.mem, fun i g e => k.blk i g (h.blk i g e), fun i e he => ?_, fun i g e => k.maps i g (h.maps i g e)⟩
  obtain ⟨e1, h1, h2⟩ := h.tok i e he
  obtain ⟨e2, h3, h4⟩ := k.tok i e1 h1
  refine ⟨e2, h3, ?_⟩
  rcases h2 with rfl | h2
  · exact h4
  · rcases h4 with rfl | h4
    · exact .inr h2
    · exact .inr (Nat.lt_trans h2 h4)
theorem RepD.mono {m m' : Mem} (hm : MemLe m m') {x : Value} {y : DV} (h : RepD m x y) : RepD m' x y := by
  induction h with
  | v x h => exact .v x h
  | agg vs cs hl h1 _ ih => exact .agg vs cs hl h1 ih
  | lst g o n cap sz xs us hn hc hsz h1 hmm _ ih => exact .lst g o n cap sz xs us hn hc hsz h1 (fun i hi => hm _ _ _ (hmm i hi)) ih
  | lstE a cap sz => exact .lstE a cap sz
theorem Rep.mono {c c' : Ctx} (hc : Le c c') {x : Value} {y : AV} (h : Rep c x y) : Rep c' x y := by
  induction h with
  | un x => exact .un x
  | nv => exact .nv
  | d h => exact .d (h.mono hc.mem)
  | own0 sz => exact .own0 sz
  | own1 g o n sz xs h => exact .own1 g o n sz xs (h.mono hc.mem)
  | ownt i e g n cap sz xs h ht hn he =>
    obtain ⟨e', ht', hh⟩ := hc.tok i e ht
    rcases hh with rfl | hh
    · exact .ownt i e' g n cap sz xs (h.mono hc.mem) ht' hn he
    · exact .ownt i e' g n cap sz xs (h.mono hc.mem) ht' (by omega) (fun e => by omega)
  | elt g o cs us h1 hm h => exact .elt g o cs us h1 (fun i hi => hc.mem _ _ _ (hm i hi)) fun i hi => (h i hi).mono hc.mem
  | ptr id off g h => exact .ptr id off g (hc.blk _ _ h)
  | arr id n cap g h => exact .arr id n cap g (hc.blk _ _ h)
  | sub id off n cap g h => exact .sub id off n cap g (hc.blk _ _ h)
  | agg vs cs hl _ ih => exact .agg vs cs hl ih
  | tup vs cs hl _ ih => exact .tup vs cs hl ih
  | fn f fs cs fs' cs' hl _ hl' _ hy ih ih' => exact .fn f fs cs fs' cs' hl ih hl' ih' hy
  | yld l idx tmps T hm hs _ ih => exact .yld l idx tmps T (hc.maps _ _ hm) hs ih
  | map id g h => exact .map id g (hc.maps _ _ h)
  | iter id g h => exact .iter id g (hc.maps _ _ h)
structure HB where
  elem : TypeId
  cs : List AV
  frz : Bool := false
inductive MB where
  | map (es : List (List UInt8 × DV))
  | iter (over : Option Nat) (n : Nat) (last : Option (List UInt8 × DV))
  | obj (o : Obj)
structure HS where
  blks : List HB
  toks : List Nat
  maps : List MB := []
structure MapObj (m : Mem) (es : List (List UInt8 × DV)) (xs : Array MapEntry) (clock : Nat) : Prop where
  len : xs.size = es.length
  born : (xs.toList.map (·.born)).Nodup
  lt : ∀ e ∈ xs.toList, e.born < clock
  rep : ∀ i (h : i < es.length), ∃ e, xs[i]? = some e ∧ e.key = .string ⟨(es[i]).1.toArray⟩ ∧ RepD m e.val (es[i]).2
inductive MIs (c : Ctx) (w : World) : MB → Nat → Prop
  | map (g : Nat) (es : List (List UInt8 × DV)) (xs : Array MapEntry) (clock : Nat) (hw : w.heap[g]? = some (.map xs clock)) (h : MapObj c.mem es xs clock) : MIs c w (.map es) g
  | iter (g id r n : Nat) (last : Option (List UInt8 × DV)) (xs : Array MapEntry) (clock : Nat) (seen : Array Nat) (hm : c.maps[id]? = some r) (hr : w.heap[r]? = some (.map xs clock)) (hw : w.heap[g]? = some (.mapIter (some r) clock seen clock))
      (hn : seen.size = n) (hd : seen.toList.Nodup) (hs : ∀ b ∈ seen.toList, b ∈ xs.toList.map (·.born))
      (hl : ∀ k d, last = some (k, d) → ∃ e ∈ xs.toList, ∃ s0 : Array Nat, seen = s0.push e.born ∧ e.key = .string ⟨k.toArray⟩ ∧ RepD c.mem e.val d) : MIs c w (.iter (some id) n last) g
  | dead (g n : Nat) (last : Option (List UInt8 × DV)) (r : Option Nat) (a b : Nat) (seen : Array Nat) (hw : w.heap[g]? = some (.mapIter r a seen b)) : MIs c w (.iter none n last) g
  | other (g : Nat) (o : Obj) (hw : w.heap[g]? = some o) (hn : ∀ cs e fr, o ≠ Obj.cells cs e fr) (hnm : ∀ xs cl, o ≠ Obj.map xs cl) : MIs c w (.obj o) g
structure MInv (B : Nat) (c : Ctx) (H : HS) (w : World) : Prop where
  len : c.maps.length = H.maps.length
  inj : ∀ (i j g : Nat), c.maps[i]? = some g → c.maps[j]? = some g → i = j
  is : ∀ (i g : Nat) (m : MB), c.maps[i]? = some g → H.maps[i]? = some m → B ≤ g ∧ MIs c w m g
def Keeps (w w' : World) : Prop := ∀ (g : Nat) (o : Obj), w.heap[g]? = some o → (∀ cs e fr, o ≠ Obj.cells cs e fr) → w'.heap[g]? = some o
theorem Keeps.refl (w : World) : Keeps w w := fun _ _ h _ => h
theorem MapObj.mono {m m' : Mem} (hc : MemLe m m') {es : List (List UInt8 × DV)} {xs : Array MapEntry} {clock : Nat} (h : MapObj m es xs clock) : MapObj m' es xs clock :=
  ⟨h.len, h.born, h.lt, fun i hi => by obtain ⟨e, h1, h2, h3⟩ := h.rep i hi; exact ⟨e, h1, h2, h3.mono hc⟩⟩
theorem MIs.keep {c c' : Ctx} {w w' : World} (hc : Le c c') (hk : Keeps w w') {m : MB} {g : Nat} (h : MIs c w m g) : MIs c' w' m g := by
  cases h with
  | map g es xs clock hw h => exact .map g es xs clock (hk _ _ hw (by intros; simp)) (h.mono hc.mem)
  | iter g id r n last xs clock seen hm hr hw hn hd hs hl => exact .iter g id r n last xs clock seen (hc.maps _ _ hm) (hk _ _ hr (by intros; simp)) (hk _ _ hw (by intros; simp)) hn hd hs (fun k d e => (hl k d e).elim fun x hx => ⟨x, hx.1, hx.2.elim fun s0 h => ⟨s0, h.1, h.2.1, h.2.2.mono hc.mem⟩⟩)
  | dead g n last r a b seen hw => exact .dead g n last r a b seen (hk _ _ hw (by intros; simp))
  | other g o hw hn hnm => exact .other g o (hk _ _ hw hn) hn hnm
theorem MInv.keep {B : Nat} {c c' : Ctx} {H H' : HS} {w w' : World} (h : MInv B c H w) (hc : Le c c') (hm : c'.maps = c.maps) (hH : H'.maps = H.maps) (hk : Keeps w w') : MInv B c' H' w' :=
  ⟨by rw [hm, hH]; exact h.len, fun i j g hi hj => h.inj i j g (hm ▸ hi) (hm ▸ hj), fun i g m hi hj => by
    obtain ⟨h1, h2⟩ := h.is i g m (hm ▸ hi) (hH ▸ hj)
    exact ⟨h1, h2.keep hc hk⟩⟩
theorem MIs.obj {c : Ctx} {w : World} {m : MB} {g : Nat} (h : MIs c w m g) : ∃ o, w.heap[g]? = some o ∧ ∀ cs e fr, o ≠ Obj.cells cs e fr := by
  cases h with
  | map g es xs clock hw h => exact ⟨_, hw, by intros; simp⟩
  | iter g id r n last xs clock seen hm hr hw hn hd hs hl => exact ⟨_, hw, by intros; simp⟩
  | dead g n last r a b seen hw => exact ⟨_, hw, by intros; simp⟩
  | other g o hw hn hnm => exact ⟨_, hw, hn⟩
structure Inv (B : Nat) (w0 : World) (c : Ctx) (H : HS) (w : World) : Prop where
  base : B ≤ w.heap.size
  below : Below B w0 w
  mem : ∀ g o u, c.mem g o = some u → w.cell? ⟨g, o, none⟩ = some u
  blkLen : c.blk.length = H.blks.length
  blk : ∀ (i g : Nat) (b : HB), c.blk[i]? = some g → H.blks[i]? = some b → B ≤ g ∧ (∀ o, c.mem g o = none) ∧
    ∃ (cur : Array Value) (fr : Nat × Nat), w.heap[g]? = some (Obj.cells cur b.elem fr) ∧ cur.size = b.cs.length ∧ (b.frz = false → ∀ o, ¬ (fr.1 ≤ o ∧ o < fr.2)) ∧ ∀ j (hj : j < b.cs.length), Rep c (cur.getD j undef) b.cs[j]
  blkInj : ∀ (i j g : Nat), c.blk[i]? = some g → c.blk[j]? = some g → i = j
  tokLen : c.tok.length = H.toks.length
  tok : ∀ (i : Nat) (e : Tok), c.tok[i]? = some e → H.toks[i]? = some e.mark ∧ B ≤ e.g ∧ e.mark ≤ e.cap ∧ (∀ o, e.mark * e.sz ≤ o → c.mem e.g o = none) ∧ (∀ j : Nat, c.blk[j]? ≠ some e.g) ∧
    ∃ (cur : Array Value) (et : TypeId) (fr : Nat × Nat), w.heap[e.g]? = some (Obj.cells cur et fr) ∧ cur.size = e.cap * e.sz ∧ (∀ o, o < cur.size → ¬ (fr.1 ≤ o ∧ o < fr.2))
  tokInj : ∀ (i j : Nat) (e e' : Tok), c.tok[i]? = some e → c.tok[j]? = some e' → e.g = e'.g → i = j
  maps : MInv B c H w
theorem Inv.mem_lt {B : Nat} {w0 w : World} {c : Ctx} {H : HS} (h : Inv B w0 c H w) {g o : Nat} {u : Value} (hm : c.mem g o = some u) : g < w.heap.size :=
  World.block_lt_of_cell? w ⟨g, o, none⟩ (h.mem g o u hm)
theorem Inv.fresh {B : Nat} {w0 w : World} {c : Ctx} {H : HS} (h : Inv B w0 c H w) {g : Nat} (hg : w.heap.size ≤ g) (o : Nat) : c.mem g o = none := by
  cases hm : c.mem g o with
  | none => rfl
  | some u => have := h.mem_lt hm; omega
theorem Inv.blk_lt {B : Nat} {w0 w : World} {c : Ctx} {H : HS} (h : Inv B w0 c H w) {i g : Nat} (hi : c.blk[i]? = some g) : g < w.heap.size := by
  have hlt : i < c.blk.length := (List.getElem?_eq_some_iff.1 hi).1
  have hb : ∃ b, H.blks[i]? = some b := ⟨_, List.getElem?_eq_getElem (h.blkLen ▸ hlt)⟩
  obtain ⟨b, hb⟩ := hb
  obtain ⟨_, _, cur, fr, hw, _⟩ := h.blk i g b hi hb
  exact (Array.getElem?_eq_some_iff.1 hw).1
theorem Inv.tok_lt {B : Nat} {w0 w : World} {c : Ctx} {H : HS} (h : Inv B w0 c H w) {i : Nat} {e : Tok} (hi : c.tok[i]? = some e) : e.g < w.heap.size := by
  obtain ⟨_, _, _, _, _, cur, et, fr, hw, _⟩ := h.tok i e hi
  exact (Array.getElem?_eq_some_iff.1 hw).1
theorem Inv.drew {B : Nat} {w0 w : World} {c : Ctx} {H : HS} (h : Inv B w0 c H w) : Inv B w0 c H w.drew :=
  ⟨h.base, h.below.drew, h.mem, h.blkLen, h.blk, h.blkInj, h.tokLen, h.tok, h.tokInj, h.maps.keep (.refl c) rfl rfl fun _ _ h _ => h⟩
theorem heap_new (w : World) (o : Obj) : (w.alloc o).heap[w.heap.size]? = some o := by
  show (w.heap.push o)[w.heap.size]? = some o
  simp
theorem heap_old (w : World) (o : Obj) {g : Nat} (hg : g < w.heap.size) : (w.alloc o).heap[g]? = w.heap[g]? := by
  show (w.heap.push o)[g]? = _
  rw [Array.getElem?_push, if_neg (by omega)]
theorem heap_size_alloc (w : World) (o : Obj) : (w.alloc o).heap.size = w.heap.size + 1 := by
  show (w.heap.push o).size = _
  simp
theorem cell_old (w : World) (o : Obj) {a : Addr} {u : Value} (h : w.cell? a = some u) : (w.alloc o).cell? a = some u := by
  have := World.block_lt_of_cell? w a h
  rw [← h]
  exact World.cell?_of_block (heap_old w o this)
theorem keeps_alloc (w : World) (o : Obj) : Keeps w (w.alloc o) := fun g _ h _ => by
  rw [heap_old w o (Array.getElem?_eq_some_iff.1 h).1]; exact h
theorem Inv.alloc {B : Nat} {w0 w : World} {c : Ctx} {H : HS} (h : Inv B w0 c H w) (o : Obj) : Inv B w0 c H (w.alloc o) where
  base := by have := h.base; rw [heap_size_alloc]; omega
  below := h.below.alloc h.base o
  mem := fun g off u hm => cell_old w o (h.mem g off u hm)
  blkLen := h.blkLen
  blk := fun i g b hg hb => by
    have hlt := h.blk_lt hg
    rw [heap_old w o hlt]
    exact h.blk i g b hg hb
  blkInj := h.blkInj
  tokLen := h.tokLen
  tok := fun i e he => by
    have hlt := h.tok_lt he
    rw [heap_old w o hlt]
    exact h.tok i e he
  tokInj := h.tokInj
  maps := h.maps.keep (.refl c) rfl rfl (keeps_alloc w o)
def Ctx.prot (c : Ctx) (g n : Nat) (us : Nat → Value) : Ctx := { c with mem := fun b o => if b = g ∧ o < n then some (us o) else c.mem b o }
theorem Ctx.prot_le {c : Ctx} {g n : Nat} {us : Nat → Value} (h : ∀ o, o < n → c.mem g o = none ∨ c.mem g o = some (us o)) : Le c (c.prot g n us) := by
  refine ⟨fun b o u hm => ?_, fun _ _ h => h, fun _ e h => ⟨e, h, .inl rfl⟩, fun _ _ h => h⟩
  show (if b = g ∧ o < n then some (us o) else c.mem b o) = some u
  by_cases hb : b = g ∧ o < n
  · obtain ⟨rfl, ho⟩ := hb
    rcases h o ho with e | e
    · rw [e] at hm; cases hm
    · rw [if_pos ⟨rfl, ho⟩, ← hm, e]
  · rw [if_neg hb]; exact hm
theorem Inv.allocProt {B : Nat} {w0 w : World} {c : Ctx} {H : HS} (h : Inv B w0 c H w) (cs : Array Value) (et : TypeId) (fr : Nat × Nat) (n : Nat) (hn : n ≤ cs.size) :
    Inv B w0 (c.prot w.heap.size n (fun o => cs.getD o undef)) H (w.alloc (.cells cs et fr)) ∧ Le c (c.prot w.heap.size n (fun o => cs.getD o undef)) := by
  have hle : Le c (c.prot w.heap.size n (fun o => cs.getD o undef)) := Ctx.prot_le fun o _ => .inl (h.fresh (Nat.le_refl _) o)
  have h' := h.alloc (.cells cs et fr)
  refine ⟨⟨h'.base, h'.below, fun g o u hm => ?_, h'.blkLen, fun i g b hg hb => ?_, h'.blkInj, h'.tokLen, fun i e he => ?_, h'.tokInj, h'.maps.keep hle rfl rfl (.refl _)⟩, hle⟩
  · simp only [Ctx.prot] at hm
    split at hm
    · rename_i hh
      obtain ⟨rfl, ho⟩ := hh
      have : o < cs.size := by omega
      simp only [World.cell?, heap_new]
      simp at hm
      simp [this] at hm ⊢
      exact hm
    · exact h'.mem g o u hm
  · obtain ⟨h1, h2, cur, fr', h3, h4, h5, h6⟩ := h'.blk i g b hg hb
    have hlt := h.blk_lt hg
    refine ⟨h1, fun o => ?_, cur, fr', h3, h4, h5, fun j hj => (h6 j hj).mono hle⟩
    simp only [Ctx.prot]
    rw [if_neg (by omega)]
    exact h2 o
  · obtain ⟨h1, h2, h3, h4, h5, h6⟩ := h'.tok i e he
    have hlt := h.tok_lt he
    refine ⟨h1, h2, h3, fun o ho => ?_, h5, h6⟩
    simp only [Ctx.prot]
    rw [if_neg (by omega)]
    exact h4 o ho
def HS.push (H : HS) (e : TypeId) (cs : List AV) : HS := { H with blks := H.blks ++ [⟨e, cs, false⟩] }
def HS.nb (H : HS) : Nat := H.blks.length
theorem Inv.allocBlk {B : Nat} {w0 w : World} {c : Ctx} {H : HS} (h : Inv B w0 c H w) (cur : Array Value) (et : TypeId) (cs : List AV) (hl : cur.size = cs.length) (hr : ∀ j (hj : j < cs.length), Rep c (cur.getD j undef) cs[j]) :
    Inv B w0 { c with blk := c.blk ++ [w.heap.size] } (H.push et cs) (w.alloc (.cells cur et)) ∧ Le c { c with blk := c.blk ++ [w.heap.size] } := by
  have hle : Le c { c with blk := c.blk ++ [w.heap.size] } := by
    refine ⟨fun _ _ _ h => h, fun i g hi => ?_, fun _ e h => ⟨e, h, .inl rfl⟩, fun _ _ h => h⟩
    have : i < c.blk.length := (List.getElem?_eq_some_iff.1 hi).1
    show (c.blk ++ [w.heap.size])[i]? = some g
    rw [List.getElem?_append_left this]; exact hi
  have h' := h.alloc (.cells cur et)
  have lt_or : ∀ i g, (c.blk ++ [w.heap.size])[i]? = some g → (c.blk[i]? = some g ∧ i < c.blk.length) ∨ (i = c.blk.length ∧ g = w.heap.size) := by
    intro i g hi
    by_cases hlt : i < c.blk.length
    · rw [List.getElem?_append_left hlt] at hi
      exact .inl ⟨hi, hlt⟩
    · rw [List.getElem?_append_right (by omega)] at hi
      have : i - c.blk.length = 0 := by
        have := (List.getElem?_eq_some_iff.1 hi).1
        simp at this; omega
      rw [this] at hi
      simp at hi
      exact .inr ⟨by omega, hi.symm⟩
  refine ⟨⟨h'.base, h'.below, h'.mem, ?_, fun i g b hg hb => ?_, fun i j g hi hj => ?_, h'.tokLen, fun i e he => ?_, h'.tokInj, h'.maps.keep hle rfl rfl (.refl _)⟩, hle⟩
  · simp [HS.push, h.blkLen]
  · rcases lt_or i g hg with ⟨hg', hlt⟩ | ⟨rfl, rfl⟩
    · have hb' : H.blks[i]? = some b := by
        simp only [HS.push] at hb
        rwa [List.getElem?_append_left (by rw [← h.blkLen]; exact hlt)] at hb
      obtain ⟨h1, h2, cur', fr', h3, h4, h5, h6⟩ := h'.blk i g b hg' hb'
      exact ⟨h1, h2, cur', fr', h3, h4, h5, fun j hj => (h6 j hj).mono hle⟩
    · have hb' : b = ⟨et, cs, false⟩ := by
        simp only [HS.push] at hb
        rw [h.blkLen] at hb
        simpa using hb.symm
      subst hb'
      exact ⟨h.base, fun o => h.fresh (Nat.le_refl _) o, cur, (0, 0), heap_new w _, hl, fun _ o => by simp, fun j hj => (hr j hj).mono hle⟩
  · rcases lt_or i g hi with ⟨hi', _⟩ | ⟨rfl, rfl⟩
    · rcases lt_or j g hj with ⟨hj', _⟩ | ⟨rfl, rfl⟩
      · exact h.blkInj i j g hi' hj'
      · have := h.blk_lt hi'; omega
    · rcases lt_or j _ hj with ⟨hj', _⟩ | ⟨rfl, _⟩
      · have := h.blk_lt hj'; omega
      · rfl
  · obtain ⟨h1, h2, h3, h4, h5, h6⟩ := h'.tok i e he
    refine ⟨h1, h2, h3, h4, fun j hj => ?_, h6⟩
    rcases lt_or j _ hj with ⟨hj', _⟩ | ⟨_, hh⟩
    · exact h5 j hj'
    · have := h.tok_lt he; omega
end Go.AV
namespace Go.AV
open Go.RowKit
theorem addr_add (g o i : Nat) : (⟨g, o, none⟩ : Addr).add i = ⟨g, o + i, none⟩ := by unfold Addr.add; split <;> simp_all
def putA (cur : Array Value) (k : Nat) (vs : List Value) : Array Value := (cur.toList.take k ++ vs ++ cur.toList.drop (k + vs.length)).toArray
theorem putA_size {cur : Array Value} {k : Nat} {vs : List Value} (h : k + vs.length ≤ cur.size) : (putA cur k vs).size = cur.size := by
  simp only [putA, List.size_toArray, List.length_append, List.length_take, List.length_drop, Array.length_toList]
  omega
theorem putA_get {cur : Array Value} {k : Nat} {vs : List Value} (h : k + vs.length ≤ cur.size) (j : Nat) :
    (putA cur k vs)[j]? = if k ≤ j ∧ j < k + vs.length then vs[j - k]? else cur[j]? := by
  have hk : (cur.toList.take k).length = k := by simp; omega
  simp only [putA, List.getElem?_toArray]
  by_cases h1 : j < k
  · rw [if_neg (by omega), List.append_assoc, List.getElem?_append_left (by omega), List.getElem?_take, if_pos h1, Array.getElem?_toList]
  · by_cases h2 : j < k + vs.length
    · rw [if_pos ⟨by omega, h2⟩, List.append_assoc, List.getElem?_append_right (by omega), hk, List.getElem?_append_left (by omega)]
    · rw [if_neg (by omega), List.getElem?_append_right (by simp; omega), List.getElem?_drop, Array.getElem?_toList]
      congr 1
      simp only [List.length_append, hk]
      omega
theorem run_storeCells_fr (P : Program) (g o : Nat) (t : TypeId) (fr : Nat × Nat) : ∀ (vs : List Value) (i : Nat) (cur : Array Value) (w : World), w.heap[g]? = some (.cells cur t fr) → (∀ o, o < cur.size → ¬ (fr.1 ≤ o ∧ o < fr.2)) →
    o + i + vs.length ≤ cur.size → (∀ v ∈ vs, v.oneCell' = true) →
    (storeCells ⟨g, o, none⟩ vs i).run P w = .ok () (w.setRow g (putA cur (o + i) vs))
  | [], i, cur, w, hg, _, _, _ => by
    simp only [storeCells, putA, List.append_nil, List.length_nil, Nat.add_zero, List.take_append_drop, Array.toArray_toList]
    rw [setRow_self w g cur t fr hg]
    rfl
  | v :: rest, i, cur, w, hg, hfr, hl, h1 => by
    have hi : o + i < cur.size := by simp at hl; omega
    have hcell : w.cell? ⟨g, o + i, none⟩ = some cur[o + i] := by simp [World.cell?, hg, hi]
    have hfro : w.frozen? ⟨g, o + i, none⟩ = false := by
      have := hfr (o + i) hi
      simp only [World.frozen?, hg]
      simp only [Bool.and_eq_false_iff, decide_eq_false_iff_not]
      omega
    have hst : (store ((⟨g, o, none⟩ : Addr).add i) v).run P w = .ok () (w.setRow g (cur.setIfInBounds (o + i) v)) := by
      rw [addr_add, run_store P w _ v _ (h1 v (by simp)), hcell]
      simp [hfro, setCell_eq_setRow w g (o + i) cur t fr v hg]
    have ih := run_storeCells_fr P g o t fr rest (i + 1) (cur.setIfInBounds (o + i) v) (w.setRow g (cur.setIfInBounds (o + i) v)) (setRow_heap w g cur _ t _ hg) (by simpa using hfr) (by simp at hl ⊢; omega) (fun x hx => h1 x (by simp [hx]))
    simp only [storeCells, Sem.run_bind, hst, Result.andThen_ok, ih, setRow_setRow]
    congr 2
    have e := list_seg_step cur.toList (o + i) v rest (by simp at hl ⊢; omega)
    simp only [putA]
    congr 1
    simpa [Array.toList_setIfInBounds, Nat.add_assoc] using e
theorem RepD.one {m : Mem} {x : Value} {y : DV} (h : RepD m x y) (h1 : y.one = true) : x.oneCell' = true := by
  cases h with
  | v x h => cases x <;> first | rfl | (simp [plain] at h)
  | agg => simp [DV.one] at h1
  | lst => rfl
  | lstE => rfl
theorem Rep.one {c : Ctx} {x : Value} {y : AV} (h : Rep c x y) (h1 : y.one = true) : x.oneCell' = true := by
  cases h with
  | d h => exact h.one h1
  | un => simp [AV.one] at h1
  | nv => simp [AV.one] at h1
  | agg => simp [AV.one] at h1
  | tup => simp [AV.one] at h1
  | _ => rfl
theorem RepD.lst_cells {B : Nat} {w0 w : World} {c : Ctx} {H : HS} (hI : Inv B w0 c H w) {a : Option Addr} {n cap sz : Nat} {xs : List DV} (h : RepD c.mem (.slice a n cap) (.lst sz xs)) :
    xs.length = n ∧ n ≤ cap ∧ (∀ x ∈ xs, x.cells.length = sz) ∧ (∀ x ∈ flat xs, x.one = true) ∧
    ∃ us : List Value, us.length = n * sz ∧ us.length = (flat xs).length ∧ (∀ i (hi : i < us.length) (hi' : i < (flat xs).length), RepD c.mem us[i] (flat xs)[i]) ∧ (∀ u ∈ us, u.oneCell' = true) ∧
      (n = 0 ∨ ∃ g o, a = some ⟨g, o, none⟩ ∧ ∀ j u, us[j]? = some u → c.mem g (o + j) = some u ∧ w.cell? ⟨g, o + j, none⟩ = some u) := by
  cases h with
  | lst g o n cap sz xs us hn hc hsz h1 hm h =>
    have hfl := flat_length hsz
    refine ⟨hn, hc, hsz, h1, (List.range (flat xs).length).map us, by simp [hfl, hn], by simp, ?_, ?_, ?_⟩
    · intro i hi hi'
      simpa using h i hi'
    · intro u hu
      simp only [List.mem_map, List.mem_range] at hu
      obtain ⟨i, hi, rfl⟩ := hu
      exact (h i hi).one (h1 _ (List.getElem_mem hi))
    · refine .inr ⟨g, o, rfl, fun j u hu => ?_⟩
      have hj : j < (flat xs).length := by
        have := (List.getElem?_eq_some_iff.1 hu).1
        simpa using this
      have : u = us j := by
        simp [hj] at hu
        exact hu.symm
      subst this
      exact ⟨hm j hj, hI.mem _ _ _ (hm j hj)⟩
  | lstE a cap sz => exact ⟨rfl, Nat.zero_le _, by simp, by simp [flat], [], by simp, by simp [flat], by simp, by simp, .inl rfl⟩
theorem RepD.v_eq {m : Mem} {x X : Value} (h : RepD m x (.v X)) : x = X := by cases h; rfl
theorem Rep.v_eq {c : Ctx} {x X : Value} (h : Rep c x (.d (.v X))) : x = X := by
  cases h with
  | d h => exact h.v_eq
theorem RepD.mk_lst {m : Mem} {g o n cap sz : Nat} {xs : List DV} (us : List Value) (hn : xs.length = n) (hc : n ≤ cap) (hsz : ∀ x ∈ xs, x.cells.length = sz) (h1 : ∀ x ∈ flat xs, x.one = true)
    (hl : us.length = (flat xs).length) (hm : ∀ j u, us[j]? = some u → m g (o + j) = some u) (h : ∀ i (hi : i < us.length) (hi' : i < (flat xs).length), RepD m us[i] (flat xs)[i]) :
    RepD m (.slice (some ⟨g, o, none⟩) n cap) (.lst sz xs) :=
  .lst g o n cap sz xs (fun i => us.getD i undef) hn hc hsz h1
    (fun i hi => by
      have : i < us.length := by omega
      have hh := hm i us[i] (by simp [this])
      simpa [List.getD_eq_getElem?_getD, this] using hh)
    (fun i hi => by
      have : i < us.length := by omega
      have hh := h i this hi
      simpa [List.getD_eq_getElem?_getD, this] using hh)
def HS.tk (H : HS) : Option Nat → Nat
  | none => H.toks.length
  | some i => i
def HS.up (H : HS) (t : Option Nat) (n : Nat) : HS :=
  match t with
  | none => { H with toks := H.toks ++ [n] }
  | some i => { H with toks := H.toks.set i n }
def HS.ok (H : HS) (t : Option Nat) (n : Nat) : Prop := ∀ i, t = some i → H.toks[i]? = some n
theorem HS.ok_none (H : HS) (n : Nat) : H.ok none n := fun _ h => by cases h
theorem HS.ok_up (H : HS) (t : Option Nat) {m : Nat} (n : Nat) (h : H.ok t m) : (H.up t n).ok (some (H.tk t)) n := by
  intro i hi
  cases hi
  cases t with
  | none => simp [HS.up, HS.tk]
  | some i =>
    have := (List.getElem?_eq_some_iff.1 (h i rfl)).1
    simp [HS.up, HS.tk, this]
theorem HS.up_up (H : HS) (t : Option Nat) (n m : Nat) : (H.up t n).up (some (H.tk t)) m = H.up t m := by
  cases t with
  | none => simp [HS.up, HS.tk]
  | some i => simp [HS.up, HS.tk]
theorem HS.tk_some (H : HS) (i : Nat) : H.tk (some i) = i := rfl
theorem HS.up_blks (H : HS) (t : Option Nat) (n : Nat) : (H.up t n).blks = H.blks := by cases t <;> rfl
theorem Inv.newTok {B : Nat} {w0 w : World} {c : Ctx} {H : HS} (h : Inv B w0 c H w) (t : Option Nat) (m0 : Nat) (hok : H.ok t m0) (cur : Array Value) (e : TypeId) (fr : Nat × Nat) (cap sz n : Nat) (hlt : m0 < n ∨ t = none)
    (hcap : n ≤ cap) (hsz : cur.size = cap * sz) (hfr : ∀ o, o < cur.size → ¬ (fr.1 ≤ o ∧ o < fr.2)) :
    ∃ c', Le c c' ∧ Inv B w0 c' (H.up t n) (w.alloc (.cells cur e fr)) ∧ (∀ o, o < n * sz → c'.mem w.heap.size o = cur[o]?) ∧
      c'.tok[H.tk t]? = some ⟨w.heap.size, cap, sz, n⟩ ∧ c'.blk = c.blk := by
  have hfit : n * sz ≤ cur.size := by rw [hsz]; exact Nat.mul_le_mul_right _ hcap
  obtain ⟨h1, h2⟩ := h.allocProt cur e fr (n * sz) hfit
  have hmem : ∀ o, o < n * sz → (c.prot w.heap.size (n * sz) (fun o => cur.getD o undef)).mem w.heap.size o = cur[o]? := by
    intro o ho
    have : o < cur.size := by omega
    simp [Ctx.prot, ho, this]
  have hnone : ∀ o, n * sz ≤ o → (c.prot w.heap.size (n * sz) (fun o => cur.getD o undef)).mem w.heap.size o = none := by
    intro o ho
    simp only [Ctx.prot]
    rw [if_neg (by omega)]
    exact h.fresh (Nat.le_refl _) o
  have hnb : ∀ j : Nat, c.blk[j]? ≠ some w.heap.size := fun j hj => by have := h.blk_lt hj; omega
  cases t with
  | none =>
    have hlast : ∀ i e1, (c.tok ++ [⟨w.heap.size, cap, sz, n⟩])[i]? = some e1 → (c.tok[i]? = some e1 ∧ i < c.tok.length) ∨ (i = c.tok.length ∧ e1 = ⟨w.heap.size, cap, sz, n⟩) := by
      intro i e1 hi
      by_cases hlt : i < c.tok.length
      · rw [List.getElem?_append_left hlt] at hi
        exact .inl ⟨hi, hlt⟩
      · rw [List.getElem?_append_right (by omega)] at hi
        have : i - c.tok.length = 0 := by
          have := (List.getElem?_eq_some_iff.1 hi).1
          simp at this; omega
        rw [this] at hi
        simp at hi
        exact .inr ⟨by omega, hi.symm⟩
    have hle : Le (c.prot w.heap.size (n * sz) (fun o => cur.getD o undef)) { c.prot w.heap.size (n * sz) (fun o => cur.getD o undef) with tok := c.tok ++ [⟨w.heap.size, cap, sz, n⟩] } := by
      refine ⟨fun _ _ _ h => h, fun _ _ h => h, fun i e1 he => ⟨e1, ?_, .inl rfl⟩, fun _ _ h => h⟩
      have : i < c.tok.length := (List.getElem?_eq_some_iff.1 he).1
      show (c.tok ++ _)[i]? = _
      rw [List.getElem?_append_left this]
      exact he
    refine ⟨{ c.prot w.heap.size (n * sz) (fun o => cur.getD o undef) with tok := c.tok ++ [⟨w.heap.size, cap, sz, n⟩] }, h2.trans hle, ?_, hmem, ?_, rfl⟩
    · refine ⟨h1.base, h1.below, h1.mem, h1.blkLen, fun i g b hg hb => ?_, h1.blkInj, ?_, fun i e1 he => ?_, fun i j e1 e2 hi hj hg => ?_, h1.maps.keep hle rfl rfl (.refl _)⟩
      · obtain ⟨q1, q2, cur', fr', q3, q4, q5, q6⟩ := h1.blk i g b hg hb
        exact ⟨q1, q2, cur', fr', q3, q4, q5, fun j hj => (q6 j hj).mono hle⟩
      · have := h1.tokLen
        simp only [HS.up, List.length_append, List.length_cons, List.length_nil] at this ⊢
        have h3 : (c.prot w.heap.size (n * sz) (fun o => cur.getD o undef)).tok = c.tok := rfl
        rw [h3] at this
        omega
      · rcases hlast i e1 he with ⟨he', hlt'⟩ | ⟨rfl, rfl⟩
        · obtain ⟨q1, q⟩ := h1.tok i e1 he'
          refine ⟨?_, q⟩
          have := h.tokLen
          simp only [HS.up]
          rw [List.getElem?_append_left (by omega)]
          exact q1
        · refine ⟨by simp [HS.up, h.tokLen], h.base, hcap, hnone, hnb, cur, e, fr, heap_new w _, hsz, hfr⟩
      · rcases hlast i e1 hi with ⟨hi', _⟩ | ⟨rfl, rfl⟩
        · rcases hlast j e2 hj with ⟨hj', _⟩ | ⟨rfl, rfl⟩
          · exact h.tokInj i j e1 e2 hi' hj' hg
          · have := h.tok_lt hi'; simp at hg; omega
        · rcases hlast j e2 hj with ⟨hj', _⟩ | ⟨rfl, rfl⟩
          · have := h.tok_lt hj'; simp at hg; omega
          · rfl
    · simp [HS.tk, ← h.tokLen]
  | some k =>
    have hk : k < c.tok.length := by
      have := (List.getElem?_eq_some_iff.1 (hok k rfl)).1
      have := h.tokLen
      omega
    obtain ⟨e0, he0⟩ : ∃ e0, c.tok[k]? = some e0 := ⟨_, List.getElem?_eq_getElem hk⟩
    have hm0 : e0.mark = m0 := by
      have := (h.tok k e0 he0).1
      rw [hok k rfl] at this
      exact (Option.some.inj this).symm
    have hgt : m0 < n := by rcases hlt with h | h; exact h; cases h
    have hset : ∀ i e1, (c.tok.set k ⟨w.heap.size, cap, sz, n⟩)[i]? = some e1 → (i ≠ k ∧ c.tok[i]? = some e1) ∨ (i = k ∧ e1 = ⟨w.heap.size, cap, sz, n⟩) := by
      intro i e1 hi
      by_cases hik : i = k
      · subst hik
        rw [List.getElem?_set_self hk] at hi
        exact .inr ⟨rfl, (Option.some.inj hi).symm⟩
      · rw [List.getElem?_set_ne (fun e => hik e.symm)] at hi
        exact .inl ⟨hik, hi⟩
    have hle : Le (c.prot w.heap.size (n * sz) (fun o => cur.getD o undef)) { c.prot w.heap.size (n * sz) (fun o => cur.getD o undef) with tok := c.tok.set k ⟨w.heap.size, cap, sz, n⟩ } := by
      refine ⟨fun _ _ _ h => h, fun _ _ h => h, fun i e1 he => ?_, fun _ _ h => h⟩
      by_cases hik : i = k
      · subst hik
        refine ⟨⟨w.heap.size, cap, sz, n⟩, ?_, .inr ?_⟩
        · show (c.tok.set i _)[i]? = _
          rw [List.getElem?_set_self hk]
        · have : e1 = e0 := by
            have hh : c.tok[i]? = some e1 := he
            rw [he0] at hh; exact (Option.some.inj hh).symm
          subst this
          show e1.mark < n
          omega
      · refine ⟨e1, ?_, .inl rfl⟩
        show (c.tok.set k _)[i]? = _
        rw [List.getElem?_set_ne (fun e => hik e.symm)]
        exact he
    refine ⟨{ c.prot w.heap.size (n * sz) (fun o => cur.getD o undef) with tok := c.tok.set k ⟨w.heap.size, cap, sz, n⟩ }, h2.trans hle, ?_, hmem, ?_, rfl⟩
    · refine ⟨h1.base, h1.below, h1.mem, h1.blkLen, fun i g b hg hb => ?_, h1.blkInj, ?_, fun i e1 he => ?_, fun i j e1 e2 hi hj hg => ?_, h1.maps.keep hle rfl rfl (.refl _)⟩
      · obtain ⟨q1, q2, cur', fr', q3, q4, q5, q6⟩ := h1.blk i g b hg hb
        exact ⟨q1, q2, cur', fr', q3, q4, q5, fun j hj => (q6 j hj).mono hle⟩
      · simpa [HS.up] using h.tokLen
      · rcases hset i e1 he with ⟨hik, he'⟩ | ⟨rfl, rfl⟩
        · obtain ⟨q1, q⟩ := h1.tok i e1 he'
          refine ⟨?_, q⟩
          simp only [HS.up]
          rw [List.getElem?_set_ne (fun e => hik e.symm)]
          exact q1
        · refine ⟨?_, h.base, hcap, hnone, hnb, cur, e, fr, heap_new w _, hsz, hfr⟩
          simp only [HS.up]
          rw [List.getElem?_set_self (by have := h.tokLen; omega)]
      · rcases hset i e1 hi with ⟨_, hi'⟩ | ⟨rfl, rfl⟩
        · rcases hset j e2 hj with ⟨_, hj'⟩ | ⟨rfl, rfl⟩
          · exact h.tokInj i j e1 e2 hi' hj' hg
          · have := h.tok_lt hi'; simp at hg; omega
        · rcases hset j e2 hj with ⟨_, hj'⟩ | ⟨rfl, rfl⟩
          · have := h.tok_lt hj'; simp at hg; omega
          · rfl
    · show (c.tok.set k _)[k]? = _
      rw [List.getElem?_set_self hk]
theorem setRow_size (w : World) (g : Nat) (cs : Array Value) : (w.setRow g cs).heap.size = w.heap.size := by simp [World.setRow]
theorem Below.setRow' {B : Nat} {w0 w : World} (h : Below B w0 w) {g : Nat} (hg : B ≤ g) (cs : Array Value) : Below B w0 (w.setRow g cs) :=
  h.trans ⟨rfl, rfl, rfl, by rw [setRow_size]; exact Nat.le_refl _, fun k hk => setRow_other w g k cs (by omega)⟩
theorem keeps_setRow {w : World} {g : Nat} {cur : Array Value} {et : TypeId} {fr : Nat × Nat} (hw : w.heap[g]? = some (.cells cur et fr)) (cs : Array Value) : Keeps w (w.setRow g cs) := fun k o h hn => by
  by_cases hk : k = g
  · subst hk; rw [hw] at h; exact absurd (Option.some.inj h).symm (hn _ _ _)
  · rw [setRow_other w g k cs hk]; exact h
theorem Inv.growTok {B : Nat} {w0 w : World} {c : Ctx} {H : HS} (h : Inv B w0 c H w) (k : Nat) (e : Tok) (he : c.tok[k]? = some e) (cur : Array Value) (et : TypeId) (fr : Nat × Nat) (hw : w.heap[e.g]? = some (.cells cur et fr))
    (vs : List Value) (m : Nat) (hl : vs.length = m * e.sz) (hm : 0 < m) (hfit : e.mark + m ≤ e.cap) :
    ∃ c', Le c c' ∧ Inv B w0 c' (H.up (some k) (e.mark + m)) (w.setRow e.g (putA cur (e.mark * e.sz) vs)) ∧ (∀ j u, vs[j]? = some u → c'.mem e.g (e.mark * e.sz + j) = some u) ∧
      c'.tok[k]? = some { e with mark := e.mark + m } ∧ c'.blk = c.blk := by
  obtain ⟨p1, p2, p3, p4, p5, cur', et', fr', p6, p7, p8⟩ := h.tok k e he
  rw [hw] at p6
  injection p6 with p6
  injection p6 with q1 q2 q3
  subst q1 q2 q3
  have hk : k < c.tok.length := (List.getElem?_eq_some_iff.1 he).1
  have hsz : (e.mark + m) * e.sz ≤ cur.size := by rw [p7]; exact Nat.mul_le_mul_right _ hfit
  have hms : (e.mark + m) * e.sz = e.mark * e.sz + vs.length := by rw [Nat.add_mul, hl]
  have hput : e.mark * e.sz + vs.length ≤ cur.size := by omega
  let c1 : Ctx := { mem := fun b o => if b = e.g ∧ e.mark * e.sz ≤ o ∧ o < e.mark * e.sz + vs.length then vs[o - e.mark * e.sz]? else c.mem b o, blk := c.blk, tok := c.tok.set k { e with mark := e.mark + m }, maps := c.maps }
  have hle : Le c c1 := by
    refine ⟨fun b o u hu => ?_, fun _ _ h => h, fun i e1 hi => ?_, fun _ _ h => h⟩
    · show (if _ then _ else _) = _
      by_cases hb : b = e.g ∧ e.mark * e.sz ≤ o ∧ o < e.mark * e.sz + vs.length
      · obtain ⟨rfl, h1, h2⟩ := hb
        rw [p4 o h1] at hu
        cases hu
      · rw [if_neg hb]; exact hu
    · by_cases hik : i = k
      · subst hik
        refine ⟨{ e with mark := e.mark + m }, List.getElem?_set_self hk, .inr ?_⟩
        have : e1 = e := by rw [he] at hi; exact (Option.some.inj hi).symm
        subst this
        show e1.mark < e1.mark + m
        omega
      · refine ⟨e1, ?_, .inl rfl⟩
        show (c.tok.set k _)[i]? = _
        rw [List.getElem?_set_ne (fun e => hik e.symm)]
        exact hi
  have hset : ∀ i e1, c1.tok[i]? = some e1 → (i ≠ k ∧ c.tok[i]? = some e1) ∨ (i = k ∧ e1 = { e with mark := e.mark + m }) := by
    intro i e1 hi
    by_cases hik : i = k
    · subst hik
      have : c1.tok[i]? = some { e with mark := e.mark + m } := List.getElem?_set_self hk
      rw [this] at hi
      exact .inr ⟨rfl, (Option.some.inj hi).symm⟩
    · have : c1.tok[i]? = c.tok[i]? := List.getElem?_set_ne (fun e => hik e.symm)
      rw [this] at hi
      exact .inl ⟨hik, hi⟩
  refine ⟨c1, hle, ?_, ?_, List.getElem?_set_self hk, rfl⟩
  · refine ⟨by rw [setRow_size]; exact h.base, Below.setRow' h.below p2 _, fun b o u hu => ?_, by rw [HS.up_blks]; exact h.blkLen, fun i g b hg hb => ?_, h.blkInj, ?_, fun i e1 hi => ?_, fun i j e1 e2 hi hj hg => ?_, h.maps.keep hle rfl rfl (keeps_setRow hw _)⟩
    · have hu' : (if b = e.g ∧ e.mark * e.sz ≤ o ∧ o < e.mark * e.sz + vs.length then vs[o - e.mark * e.sz]? else c.mem b o) = some u := hu
      by_cases hb : b = e.g
      · subst hb
        rw [cell_setRow_same w e.g o cur _ et fr hw, putA_get hput]
        by_cases ho : e.mark * e.sz ≤ o ∧ o < e.mark * e.sz + vs.length
        · rw [if_pos ⟨rfl, ho⟩] at hu'
          rw [if_pos ho]; exact hu'
        · rw [if_neg (fun hh => ho hh.2)] at hu'
          rw [if_neg ho]
          have := h.mem _ _ _ hu'
          simpa [World.cell?, hw] using this
      · rw [if_neg (fun hh => hb hh.1)] at hu'
        rw [cell_setRow_other w e.g _ _ hb]
        exact h.mem _ _ _ hu'
    · have hne : g ≠ e.g := fun hh => p5 i (hh ▸ hg)
      obtain ⟨q1, q2, cur', fr', q3, q4, q5, q6⟩ := h.blk i g b hg (by rw [HS.up_blks] at hb; exact hb)
      refine ⟨q1, fun o => ?_, cur', fr', ?_, q4, q5, fun j hj => (q6 j hj).mono hle⟩
      · show (if _ then _ else _) = _
        rw [if_neg (fun hh => hne hh.1)]
        exact q2 o
      · rw [setRow_other w e.g g _ hne]; exact q3
    · show (c.tok.set k _).length = _
      simpa [HS.up] using h.tokLen
    · rcases hset i e1 hi with ⟨hik, he'⟩ | ⟨rfl, rfl⟩
      · obtain ⟨q1, q2, q3, q4, q5, cur', et', fr', q6, q7⟩ := h.tok i e1 he'
        have hne : e1.g ≠ e.g := fun hh => hik (h.tokInj i k e1 e he' he hh)
        refine ⟨?_, q2, q3, fun o ho => ?_, q5, cur', et', fr', ?_, q7⟩
        · simp only [HS.up]
          rw [List.getElem?_set_ne (fun e => hik e.symm)]
          exact q1
        · show (if _ then _ else _) = _
          rw [if_neg (fun hh => hne hh.1)]
          exact q4 o ho
        · rw [setRow_other w e.g e1.g _ hne]; exact q6
      · refine ⟨?_, p2, hfit, fun o ho => ?_, p5, putA cur (e.mark * e.sz) vs, et, fr, setRow_heap w e.g cur _ et fr hw, ?_, ?_⟩
        · simp only [HS.up]
          rw [List.getElem?_set_self (by have := h.tokLen; omega)]
        · show (if _ then _ else _) = _
          rw [if_neg (by
            intro hh
            have h3 : (e.mark + m) * e.sz ≤ o := ho
            omega)]
          exact p4 o (by
            have h3 : (e.mark + m) * e.sz ≤ o := ho
            omega)
        · show (putA cur (e.mark * e.sz) vs).size = e.cap * e.sz
          rw [putA_size hput]; exact p7
        · intro o ho
          rw [putA_size hput] at ho
          exact p8 o ho
    · rcases hset i e1 hi with ⟨hik, hi'⟩ | ⟨rfl, rfl⟩
      · rcases hset j e2 hj with ⟨hjk, hj'⟩ | ⟨rfl, rfl⟩
        · exact h.tokInj i j e1 e2 hi' hj' hg
        · exact absurd (h.tokInj i j e1 e hi' he hg) hik
      · rcases hset j e2 hj with ⟨hjk, hj'⟩ | ⟨rfl, rfl⟩
        · exact absurd (h.tokInj j i e2 e hj' he hg.symm) hjk
        · rfl
  · intro j u hu
    have hj : j < vs.length := (List.getElem?_eq_some_iff.1 hu).1
    show (if _ then _ else _) = _
    rw [if_pos ⟨rfl, by omega, by omega⟩, Nat.add_sub_cancel_left]
    exact hu
def putL : List AV → Nat → List AV → List AV
  | cs, _, [] => cs
  | cs, k, v :: vs => putL (cs.set k v) (k + 1) vs
def HS.put (H : HS) (id off : Nat) (vs : List AV) : HS := { H with blks := H.blks.modify id fun b => { b with cs := putL b.cs off vs } }
theorem putL_length : ∀ (vs cs : List AV) (k : Nat), (putL cs k vs).length = cs.length
  | [], _, _ => rfl
  | v :: vs, cs, k => by rw [putL, putL_length vs]; simp
theorem putL_get : ∀ (vs cs : List AV) (k j : Nat), k + vs.length ≤ cs.length → (putL cs k vs)[j]? = if k ≤ j ∧ j < k + vs.length then vs[j - k]? else cs[j]?
  | [], cs, k, j, _ => by rw [if_neg (by simp only [List.length_nil]; omega)]; rfl
  | v :: vs, cs, k, j, h => by
    simp at h
    rw [putL, putL_get vs _ _ _ (by simp; omega)]
    by_cases h1 : k + 1 ≤ j ∧ j < k + 1 + vs.length
    · rw [if_pos h1, if_pos (by simp only [List.length_cons]; omega)]
      have : j - k = (j - (k + 1)) + 1 := by omega
      rw [this, List.getElem?_cons_succ]
    · rw [if_neg h1]
      by_cases h2 : j = k
      · subst h2
        rw [if_pos (by simp), List.getElem?_set_self (by omega)]
        simp
      · rw [if_neg (by simp only [List.length_cons]; omega), List.getElem?_set_ne (fun e => h2 e.symm)]
theorem Inv.putBlk {B : Nat} {w0 w : World} {c : Ctx} {H : HS} (h : Inv B w0 c H w) (id g off : Nat) (b : HB) (hg : c.blk[id]? = some g) (hb : H.blks[id]? = some b)
    (vs : List Value) (avs : List AV) (hl : vs.length = avs.length) (hr : ∀ j (hj : j < vs.length) (hj' : j < avs.length), Rep c vs[j] avs[j]) (hfit : off + avs.length ≤ b.cs.length)
    (cur : Array Value) (et : TypeId) (fr : Nat × Nat) (hw : w.heap[g]? = some (.cells cur et fr)) :
    Inv B w0 c (H.put id off avs) (w.setRow g (putA cur off vs)) := by
  obtain ⟨p1, p2, cur', fr', p3, p4, p5, p6⟩ := h.blk id g b hg hb
  rw [hw] at p3
  injection p3 with p3
  injection p3 with q1 q2 q3
  subst q1 q2 q3
  have hput : off + vs.length ≤ cur.size := by omega
  refine ⟨by rw [setRow_size]; exact h.base, Below.setRow' h.below p1 _, fun b' o u hu => ?_, ?_, fun i g' b' hg' hb' => ?_, h.blkInj, h.tokLen, fun i e he => ?_, h.tokInj, h.maps.keep (.refl c) rfl rfl (keeps_setRow hw _)⟩
  · have hne : b' ≠ g := fun hh => by subst hh; rw [p2] at hu; cases hu
    rw [cell_setRow_other w g _ _ hne]
    exact h.mem _ _ _ hu
  · simp [HS.put, h.blkLen]
  · by_cases hi : i = id
    · subst hi
      have : g' = g := by rw [hg] at hg'; exact (Option.some.inj hg').symm
      subst this
      have hb2 : b' = { b with cs := putL b.cs off avs } := by
        have : (H.put i off avs).blks[i]? = some { b with cs := putL b.cs off avs } := by simp [HS.put, hb]
        rw [this] at hb'; exact (Option.some.inj hb').symm
      subst hb2
      refine ⟨p1, p2, putA cur off vs, fr, setRow_heap w g' cur _ _ fr hw, ?_, ?_, ?_⟩
      · rw [putA_size hput, putL_length]; exact p4
      · intro hfz o; exact p5 hfz o
      · intro j hj
        have hj1 : j < b.cs.length := by
          have : (putL b.cs off avs).length = b.cs.length := putL_length ..
          have hj' : j < (putL b.cs off avs).length := hj
          omega
        have e1 : (putL b.cs off avs)[j]? = some ((putL b.cs off avs)[j]'hj) := List.getElem?_eq_getElem hj
        rw [putL_get _ _ _ _ hfit] at e1
        have e2 : (putA cur off vs).getD j undef = ((putA cur off vs)[j]?).getD undef := by simp
        show Rep c ((putA cur off vs).getD j undef) ((putL b.cs off avs)[j]'hj)
        rw [e2, putA_get hput]
        by_cases hh : off ≤ j ∧ j < off + avs.length
        · rw [if_pos hh] at e1
          rw [if_pos (by omega)]
          have ha : j - off < avs.length := by omega
          have hv : j - off < vs.length := by omega
          rw [List.getElem?_eq_getElem ha] at e1
          rw [List.getElem?_eq_getElem hv]
          have := hr (j - off) hv ha
          rw [Option.some.inj e1] at this
          exact this
        · rw [if_neg hh] at e1
          rw [if_neg (by omega)]
          have := p6 j hj1
          rw [List.getElem?_eq_getElem hj1] at e1
          rw [← Option.some.inj e1]
          simpa using this
    · have hne : g' ≠ g := fun hh => hi (h.blkInj i id g (hh ▸ hg') hg)
      have hb3 : H.blks[i]? = some b' := by
        have : (H.put id off avs).blks[i]? = H.blks[i]? := by
          have hne2 : ¬ id = i := fun e => hi e.symm
          cases hq : H.blks[i]? <;> simp [HS.put, hne2, hq]
        rw [← this]; exact hb'
      obtain ⟨q1, q2, cur', fr', q3, q4⟩ := h.blk i g' b' hg' hb3
      exact ⟨q1, q2, cur', fr', by rw [setRow_other w g g' _ hne]; exact q3, q4⟩
  · obtain ⟨q1, q2, q3, q4, q5, cur', et', fr', q6, q7⟩ := h.tok i e he
    have hne : e.g ≠ g := fun hh => q5 id (hh ▸ hg)
    exact ⟨q1, q2, q3, q4, q5, cur', et', fr', by rw [setRow_other w g e.g _ hne]; exact q6, q7⟩
end Go.AV
namespace Go.AV
open Go.RowKit
def constAV (v : Value) : AV := match plain v with
  | true => .d (.v v)
  | false => .un
def evalT (T : List AV) : Operand → AV
  | .tmp t => T.getD t .un
  | .const v => constAV v
  | .func f => .fn (.func f) [] []
  | .global _ => .un
def putT (T : List AV) (d : Option Tmp) (v : AV) : List AV :=
  match d with
  | none => T
  | some d => T.set d v
theorem zS {T : List AV} {d : Tmp} {v : AV} : putT T (some d) v = T.set d v := rfl
theorem zN {T : List AV} {v : AV} : putT T none v = T := rfl
theorem zH {α : Type} {a b : α} {l : List α} : (a :: l).set 0 b = b :: l := rfl
theorem zT {α : Type} {a b : α} {l : List α} {n : Nat} : (a :: l).set (n + 1) b = a :: l.set n b := rfl
structure RepT (c : Ctx) (tmps : Array Value) (T : List AV) : Prop where
  size : tmps.size = T.length
  at_ : ∀ i, i < T.length → Rep c (tmps.getD i undef) (T.getD i .un)
theorem RepT.mono {c c' : Ctx} (hc : Le c c') {tmps : Array Value} {T : List AV} (h : RepT c tmps T) : RepT c' tmps T := ⟨h.size, fun i hi => (h.at_ i hi).mono hc⟩
theorem rep_const (c : Ctx) (v : Value) : Rep c v (constAV v) := by
  unfold constAV
  cases h : plain v with
  | true => exact .d (.v v h)
  | false => exact .un v
theorem rep_func (c : Ctx) (f : FuncId) : Rep c (.func (.func f) #[] #[]) (.fn (.func f) [] []) := .fn _ _ _ _ _ rfl (fun i hi => by simp at hi) rfl (fun i hi => by simp at hi)
theorem RepT.eval {c : Ctx} {a : Act} {T : List AV} (h : RepT c a.tmps T) (x : Operand) : Rep c (a.eval x) (evalT T x) := by
  cases x with
  | tmp t =>
    show Rep c (a.tmps.getD t undef) (T.getD t .un)
    by_cases ht : t < T.length
    · exact h.at_ t ht
    · have hle : T.length ≤ t := Nat.le_of_not_lt ht
      have : T.getD t .un = .un := by rw [List.getD_eq_getElem?_getD, List.getElem?_eq_none hle]; rfl
      rw [this]; exact .un _
  | const v => exact rep_const c v
  | func f => exact rep_func c f
  | global g => exact .un _
theorem RepT.put {c : Ctx} {a : Act} {T : List AV} (h : RepT c a.tmps T) (d : Option Tmp) {v : Value} {y : AV} (hv : Rep c v y) : RepT c (a.put d v).tmps (putT T d y) := by
  cases d with
  | none => exact h
  | some d =>
    refine ⟨by simp [Act.put, putT, h.size], fun i hi => ?_⟩
    have hi' : i < T.length := by simpa [putT] using hi
    by_cases hd : d = i
    · subst hd
      have h1 : d < a.tmps.size := by rw [h.size]; exact hi'
      simp only [Act.put, putT]
      simp [List.getD_eq_getElem?_getD, hi', h1]
      exact hv
    · have := h.at_ i hi'
      simp only [Act.put, putT]
      simp only [List.getD_eq_getElem?_getD, List.getElem?_set_ne hd] at this ⊢
      simpa [Array.getElem?_setIfInBounds_ne hd] using this
theorem getD_left {xs ys : Array Value} {i : Nat} (h : i < xs.size) (u : Value) : (xs ++ ys).getD i u = xs.getD i u := by
  rw [Array.getD_eq_getD_getElem?, Array.getD_eq_getD_getElem?, Array.getElem?_append_left h]
theorem getD_right {xs ys : Array Value} {i : Nat} (h : xs.size ≤ i) (u : Value) : (xs ++ ys).getD i u = ys.getD (i - xs.size) u := by
  rw [Array.getD_eq_getD_getElem?, Array.getD_eq_getD_getElem?, Array.getElem?_append_right h]
def OpR (P : Program) (o : Oper) (E : Operand → AV) (H : HS) (R : AV → HS → Prop) : Prop :=
  ∀ (B : Nat) (w0 : World) (c : Ctx) (w : World) (a : Act) (next : Act → World → Prop) (Q : Exit → Act → World → Prop), Inv B w0 c H w → (∀ x ∈ o.op.operands, Rep c (a.eval x) (E x)) →
    (∀ v' w' c' av H', Le c c' → Rep c' v' av → Inv B w0 c' H' w' → R av H' → next (a.put o.dst v') w') → o.wp P a w next Q
def Ret (v : AV) (H : HS) : AV → HS → Prop := fun v' H' => v' = v ∧ H' = H
def ACalls (P : Program) (f : FuncId) (args : List AV) (H : HS) (R : AV → HS → Prop) : Prop :=
  ∀ (B : Nat) (w0 : World) (c : Ctx) (w : World) (vs : Array Value), Inv B w0 c H w → vs.size = args.length → (∀ i (hi : i < args.length), Rep c (vs.getD i undef) args[i]) →
    Calls P f vs w fun e w' => ∃ v av H' c', e = .returned v ∧ Le c c' ∧ Rep c' v av ∧ Inv B w0 c' H' w' ∧ R av H'
theorem ACalls.mono {P : Program} {f : FuncId} {args : List AV} {H : HS} {R R' : AV → HS → Prop} (h : ACalls P f args H R) (hr : ∀ v H', R v H' → R' v H') : ACalls P f args H R' :=
  fun B w0 c w vs hI hs ha => (h B w0 c w vs hI hs ha).mono fun _ _ ⟨v, av, H', c', h1, h2, h3, h4, h5⟩ => ⟨v, av, H', c', h1, h2, h3, h4, hr _ _ h5⟩
abbrev Post := Exit → List AV → HS → Prop
def Done (B : Nat) (w0 : World) (c0 : Ctx) (Q : Post) : Exit → Act → World → Prop := fun e a w => ∃ c T H, Le c0 c ∧ Inv B w0 c H w ∧ RepT c a.tmps T ∧ a.defers = [] ∧ Q e T H
def AW (P : Program) (k : Code) (Q : Post) (T : List AV) (H : HS) : Prop :=
  ∀ (B : Nat) (w0 : World) (c0 c : Ctx) (w : World) (a : Act), Le c0 c → Inv B w0 c H w → RepT c a.tmps T → a.defers = [] → k.wp P (Done B w0 c0 Q) a w
def AL (P : Program) (ops : Array Oper) (l : List Oper) (Q : Post) (T : List AV) (H : HS) : Prop :=
  ∀ (B : Nat) (w0 : World) (c0 c : Ctx) (w : World) (a : Act), Le c0 c → Inv B w0 c H w → RepT c a.tmps T → a.defers = [] → wpList P ops (Done B w0 c0 Q) l a w
section
variable {P : Program} {Q : Post} {T : List AV} {H : HS}
theorem aw_mono {k : Code} {Q' : Post} (h : AW P k Q T H) (hq : ∀ e T H, Q e T H → Q' e T H) : AW P k Q' T H :=
  fun B w0 c0 c w a h0 h1 h2 h3 => wp_mono (h B w0 c0 c w a h0 h1 h2 h3) fun _ _ _ ⟨c, T, H, x1, x2, x3, x4, x5⟩ => ⟨c, T, H, x1, x2, x3, x4, hq _ _ _ x5⟩
theorem aw_skip (h : Q .normal T H) : AW P .skip Q T H := fun _ _ _ c _ _ h0 h1 h2 h3 => wp_skip ⟨c, T, H, h0, h1, h2, h3, h⟩
theorem aw_exit {id : Nat} (h : Q (.exit id) T H) : AW P (.exit id) Q T H := fun _ _ _ c _ _ h0 h1 h2 h3 => wp_exit ⟨c, T, H, h0, h1, h2, h3, h⟩
theorem aw_ret (h : Q .ret T H) : AW P .ret Q T H := fun _ _ _ c _ _ h0 h1 h2 h3 => wp_ret ⟨c, T, H, h0, h1, h2, h3, h⟩
def Then (P : Program) (y : Code) (Q : Post) : Post
  | .normal, T, H => AW P y Q T H
  | e, T, H => Q e T H
theorem then_normal {y : Code} (h : AW P y Q T H) : Then P y Q .normal T H := h
theorem then_exit {y : Code} {i : Nat} (h : Q (.exit i) T H) : Then P y Q (.exit i) T H := h
theorem then_ret {y : Code} (h : Q .ret T H) : Then P y Q .ret T H := h
theorem aw_seq {x y : Code} (h : AW P x (Then P y Q) T H) : AW P (.seq x y) Q T H := by
  intro B w0 c0 c w a h0 h1 h2 h3
  refine wp_seq (wp_mono (h B w0 c0 c w a h0 h1 h2 h3) ?_)
  rintro e a' w' ⟨c', T', H', x1, x2, x3, x4, x5⟩
  cases e with
  | normal => exact x5 B w0 c0 c' w' a' x1 x2 x3 x4
  | exit id => exact ⟨c', T', H', x1, x2, x3, x4, x5⟩
  | goto l => exact ⟨c', T', H', x1, x2, x3, x4, x5⟩
  | ret => exact ⟨c', T', H', x1, x2, x3, x4, x5⟩
  | panic ch => exact ⟨c', T', H', x1, x2, x3, x4, x5⟩
  | outgrown => exact ⟨c', T', H', x1, x2, x3, x4, x5⟩
def InBlock (id : Nat) (Q : Post) : Post
  | .exit id', T, H => if id' = id then Q .normal T H else Q (.exit id') T H
  | e, T, H => Q e T H
theorem inBlock_normal {id : Nat} (h : Q .normal T H) : InBlock id Q .normal T H := h
theorem inBlock_ret {id : Nat} (h : Q .ret T H) : InBlock id Q .ret T H := h
theorem inBlock_here {id : Nat} (h : Q .normal T H) : InBlock id Q (.exit id) T H := by simpa [InBlock] using h
theorem aw_block {id : Nat} {k : Code} (h : AW P k (InBlock id Q) T H) : AW P (.block id k) Q T H := by
  intro B w0 c0 c w a h0 h1 h2 h3
  refine wp_block (wp_mono (h B w0 c0 c w a h0 h1 h2 h3) ?_)
  rintro e a' w' ⟨c', T', H', x1, x2, x3, x4, x5⟩
  cases e with
  | exit id' =>
    simp only [InBlock] at x5
    simp only [Exit.inBlock]
    split
    · rename_i hh
      rw [if_pos hh] at x5
      exact ⟨c', T', H', x1, x2, x3, x4, x5⟩
    · rename_i hh
      rw [if_neg hh] at x5
      exact ⟨c', T', H', x1, x2, x3, x4, x5⟩
  | normal => exact ⟨c', T', H', x1, x2, x3, x4, x5⟩
  | goto l => exact ⟨c', T', H', x1, x2, x3, x4, x5⟩
  | ret => exact ⟨c', T', H', x1, x2, x3, x4, x5⟩
  | panic ch => exact ⟨c', T', H', x1, x2, x3, x4, x5⟩
  | outgrown => exact ⟨c', T', H', x1, x2, x3, x4, x5⟩
theorem aw_cond {k : Operand} {x y : Code} {b : Bool} (hc : evalT T k = .d (.v (.bool b))) (ht : b = true → AW P x Q T H) (hf : b = false → AW P y Q T H) : AW P (.cond k x y) Q T H := by
  intro B w0 c0 c w a h0 h1 h2 h3
  have he := h2.eval k
  rw [hc] at he
  have he' := he.v_eq
  exact wp_cond_split he' (fun h => ht h B w0 c0 c w a h0 h1 h2 h3) (fun h => hf h B w0 c0 c w a h0 h1 h2 h3)
def Again (n : Nat) (I : Nat → List AV → HS → Prop) (Q : Post) : Post
  | .normal, T, H => ∃ m, m < n ∧ I m T H
  | e, T, H => Q e T H
theorem again_exit {n : Nat} {I : Nat → List AV → HS → Prop} {i : Nat} (h : Q (.exit i) T H) : Again n I Q (.exit i) T H := h
theorem again_ret {n : Nat} {I : Nat → List AV → HS → Prop} (h : Q .ret T H) : Again n I Q .ret T H := h
theorem aw_loop {k : Code} (I : Nat → List AV → HS → Prop) (n : Nat) (h0 : I n T H) (h : ∀ n T H, I n T H → AW P k (Again n I Q) T H) : AW P (.loop k) Q T H := by
  intro B w0 c0 c w a q0 q1 q2 q3
  refine wp_loop_ghost (fun n a w => ∃ c T H, Le c0 c ∧ Inv B w0 c H w ∧ RepT c a.tmps T ∧ a.defers = [] ∧ I n T H) n ⟨c, T, H, q0, q1, q2, q3, h0⟩ ?_
  rintro n a w ⟨c, T, H, x1, x2, x3, x4, x5⟩
  refine wp_mono (h n T H x5 B w0 c0 c w a x1 x2 x3 x4) ?_
  rintro e a' w' ⟨c', T', H', y1, y2, y3, y4, y5⟩
  cases e with
  | normal =>
    obtain ⟨m, hm, hI⟩ := y5
    exact ⟨m, hm, c', T', H', y1, y2, y3, y4, hI⟩
  | exit id => exact ⟨c', T', H', y1, y2, y3, y4, y5⟩
  | goto l => exact ⟨c', T', H', y1, y2, y3, y4, y5⟩
  | ret => exact ⟨c', T', H', y1, y2, y3, y4, y5⟩
  | panic ch => exact ⟨c', T', H', y1, y2, y3, y4, y5⟩
  | outgrown => exact ⟨c', T', H', y1, y2, y3, y4, y5⟩
theorem aw_region {id : Nat} {l : List Oper} (h : AL P l.toArray l Q T H) : AW P (.region id l.toArray false) Q T H :=
  fun B w0 c0 c w a h0 h1 h2 h3 => wp_region_lit (h B w0 c0 c w a h0 h1 h2 h3)
theorem al_nil {ops : Array Oper} (h : Q .normal T H) : AL P ops [] Q T H := fun _ _ _ c _ _ h0 h1 h2 h3 => wpList_nil ⟨c, T, H, h0, h1, h2, h3, h⟩
theorem put_defers (a : Act) (d : Option Tmp) (v : Value) : (a.put d v).defers = a.defers := by cases d <;> rfl
theorem al_cons {ops : Array Oper} {o : Oper} {l : List Oper} (R : AV → HS → Prop) (ho : OpR P o (evalT T) H R) (hg : o.guard = none) (h : ∀ v H', R v H' → AL P ops l Q (putT T o.dst v) H') : AL P ops (o :: l) Q T H := by
  intro B w0 c0 c w a h0 h1 h2 h3
  refine wpList_plain hg fun K hK => ?_
  refine ho B w0 c w a K _ h1 (fun x _ => h2.eval x) fun v' w' c' av H' l1 r1 i1 rr => ?_
  exact hK _ _ (h av H' rr B w0 c0 c' w' _ (h0.trans l1) i1 ((h2.mono l1).put o.dst r1) (by rw [put_defers]; exact h3))
theorem al_step {ops : Array Oper} {o : Oper} {l : List Oper} {v : AV} {H' : HS} (ho : OpR P o (evalT T) H (Ret v H')) (hg : o.guard = none) (h : AL P ops l Q (putT T o.dst v) H') : AL P ops (o :: l) Q T H :=
  al_cons _ ho hg fun _ _ ⟨h1, h2⟩ => by subst h1; subst h2; exact h
theorem yielded_of {c : Ctx} {a : Act} {ops : Array Oper} (h2 : RepT c a.tmps T) {g d : Nat} {x : Bool} (hd : ((ops[g]?).bind (·.dst)) = some d) (hx : T[d]? = some (.d (.v (.bool x)))) : yielded ops a.tmps g = some x := by
  have hlt : d < T.length := (List.getElem?_eq_some_iff.1 hx).1
  have := h2.at_ d hlt
  rw [List.getD_eq_getElem?_getD, hx] at this
  have e := this.v_eq
  have hs : d < a.tmps.size := by rw [h2.size]; exact hlt
  simp [hs] at e
  unfold yielded
  rw [hd]
  simp [hs, e]
theorem al_wanted {ops : Array Oper} {o : Oper} {l : List Oper} {v : AV} {H' : HS} {g d : Nat} {x : Bool} (hg : o.guard = some (g, x)) (hd : ((ops[g]?).bind (·.dst)) = some d) (hx : T[d]? = some (.d (.v (.bool x))))
    (ho : OpR P o (evalT T) H (Ret v H')) (h : AL P ops l Q (putT T o.dst v) H') : AL P ops (o :: l) Q T H := by
  intro B w0 c0 c w a h0 h1 h2 h3
  unfold wpList
  rw [if_pos (by simp [Region.wanted, hg, yielded_of h2 hd hx])]
  refine .inl (ho B w0 c w a _ _ h1 (fun x _ => h2.eval x) ?_)
  rintro v' w' c' av H'' l1 r1 i1 ⟨rfl, rfl⟩
  exact h B w0 c0 c' w' _ (h0.trans l1) i1 ((h2.mono l1).put o.dst r1) (by rw [put_defers]; exact h3)
theorem al_unwanted {ops : Array Oper} {o : Oper} {l : List Oper} {g d : Nat} {x y : Bool} (hg : o.guard = some (g, y)) (hd : ((ops[g]?).bind (·.dst)) = some d) (hx : T[d]? = some (.d (.v (.bool x)))) (hne : (x == y) = false)
    (h : AL P ops l Q (putT T o.dst .nv) H) : AL P ops (o :: l) Q T H := by
  intro B w0 c0 c w a h0 h1 h2 h3
  unfold wpList
  rw [if_neg (by
    have : x ≠ y := by simpa using hne
    simp [Region.wanted, hg, yielded_of h2 hd hx, this])]
  exact h B w0 c0 c w _ h0 h1 (h2.put o.dst .nv) (by rw [put_defers]; exact h3)
theorem Rep.nv_eq {c : Ctx} {x : Value} (h : Rep c x .nv) : x = undef := by
  cases h with
  | nv => rfl
def RetPost (rs : Array ResultVar) (R : AV → HS → Prop) : Post := fun e T H => (e = .ret ∨ e = .normal) ∧
  ∃ av, R av H ∧ ((∃ t, rs = #[.tmp t] ∧ T[t]? = some av) ∨ (∃ t u x y, rs = #[.tmp t, .tmp u] ∧ T[t]? = some x ∧ T[u]? = some y ∧ av = .tup [x, y]) ∨ (rs = #[] ∧ av = .tup []) ∨
    (∃ t u s x y z, rs = #[.tmp t, .tmp u, .tmp s] ∧ T[t]? = some x ∧ T[u]? = some y ∧ T[s]? = some z ∧ av = .tup [x, y, z]))
theorem retPost1 {rs : Array ResultVar} {R : AV → HS → Prop} {t : Tmp} {av : AV} (hr : rs = #[.tmp t]) (ht : T[t]? = some av) (h : R av H) : RetPost rs R .ret T H := ⟨.inl rfl, av, h, .inl ⟨t, hr, ht⟩⟩
theorem retPost2 {rs : Array ResultVar} {R : AV → HS → Prop} {t u : Tmp} {x y : AV} (hr : rs = #[.tmp t, .tmp u]) (ht : T[t]? = some x) (hu : T[u]? = some y) (h : R (.tup [x, y]) H) : RetPost rs R .ret T H :=
  ⟨.inl rfl, _, h, .inr (.inl ⟨t, u, x, y, hr, ht, hu, rfl⟩)⟩
theorem retPost3 {rs : Array ResultVar} {R : AV → HS → Prop} {t u s : Tmp} {x y z : AV} (hr : rs = #[.tmp t, .tmp u, .tmp s]) (ht : T[t]? = some x) (hu : T[u]? = some y) (hs : T[s]? = some z) (h : R (.tup [x, y, z]) H) : RetPost rs R .ret T H :=
  ⟨.inl rfl, _, h, .inr (.inr (.inr ⟨t, u, s, x, y, z, hr, ht, hu, hs, rfl⟩))⟩
theorem retPost0 {rs : Array ResultVar} {R : AV → HS → Prop} {e : Exit} (he : e = .ret ∨ e = .normal) (hr : rs = #[]) (h : R (.tup []) H) : RetPost rs R e T H := ⟨he, _, h, .inr (.inr (.inl ⟨hr, rfl⟩))⟩
theorem getD_of {c : Ctx} {tmps : Array Value} (h : RepT c tmps T) {t : Nat} {av : AV} (ht : T[t]? = some av) : Rep c (tmps.getD t undef) av := by
  have hlt : t < T.length := (List.getElem?_eq_some_iff.1 ht).1
  have := h.at_ t hlt
  rwa [List.getD_eq_getElem?_getD, ht] at this
theorem acalls_of_aw {f : FuncId} {fn : Func} {k : Code} {args : List AV} {R : AV → HS → Prop} (hf : P.funcs[f]? = some fn) (hb : fn.body = some k)
    (h : AW P k (RetPost fn.results R) (args ++ List.replicate (fn.ntmps - args.length) .un) H) : ACalls P f args H R := by
  intro B w0 c w vs hI hs ha
  refine calls_of_wp hf hb ?_
  have hT : RepT c (vs ++ Array.replicate (fn.ntmps - vs.size) undef) (args ++ List.replicate (fn.ntmps - args.length) .un) := by
    refine ⟨by simp [hs], fun i hi => ?_⟩
    by_cases hlt : i < args.length
    · have e1 : (vs ++ Array.replicate (fn.ntmps - vs.size) undef).getD i undef = vs.getD i undef := by
        have : i < vs.size := by omega
        have h2 : i < vs.size + (fn.ntmps - vs.size) := by omega
        simp [this, h2, Array.getElem_append_left this]
      have e2 : (args ++ List.replicate (fn.ntmps - args.length) AV.un).getD i .un = args[i] := by
        simp [List.getD_eq_getElem?_getD, List.getElem?_append_left hlt, hlt]
      rw [e1, e2]
      exact ha i hlt
    · have e2 : (args ++ List.replicate (fn.ntmps - args.length) AV.un).getD i .un = .un := by
        rw [List.getD_eq_getElem?_getD, List.getElem?_append_right (by omega), List.getElem?_replicate]
        split <;> rfl
      rw [e2]
      exact .un _
  refine wp_mono (h B w0 c c w _ (Le.refl c) hI hT rfl) ?_
  rintro e a' w' ⟨c', T', H', x1, x2, x3, x4, he, av, hR, hres⟩
  have key : ∃ v, (results fn a'.tmps).run P w' = .ok v w' ∧ Rep c' v av := by
    rcases hres with ⟨t, hr, ht⟩ | ⟨t, u, x, y, hr, ht, hu, rfl⟩ | ⟨hr, rfl⟩ | ⟨t, u, s, x, y, z, hr, ht, hu, hs', rfl⟩
    · exact ⟨_, results_tmp hr _ P w', getD_of x3 ht⟩
    · refine ⟨_, results_tmp2 hr _ P w', .tup _ _ rfl fun i hi => ?_⟩
      have hh1 := getD_of x3 ht
      have hh2 := getD_of x3 hu
      rcases i with _ | _ | i
      · exact hh1
      · exact hh2
      · simp at hi; omega
    · exact ⟨_, results_none hr _ P w', .tup _ _ rfl fun i hi => by simp at hi⟩
    · refine ⟨.tuple #[a'.tmps.getD t undef, a'.tmps.getD u undef, a'.tmps.getD s undef], by simp [results, hr], .tup _ _ rfl fun i hi => ?_⟩
      have hh1 := getD_of x3 ht
      have hh2 := getD_of x3 hu
      have hh3 := getD_of x3 hs'
      rcases i with _ | _ | _ | i
      · exact hh1
      · exact hh2
      · exact hh3
      · simp at hi; omega
  obtain ⟨v, hv, hrep⟩ := key
  rcases he with rfl | rfl
  · exact ⟨x4, v, hv, v, av, H', c', rfl, x1, hrep, x2, hR⟩
  · exact ⟨x4, v, hv, v, av, H', c', rfl, x1, hrep, x2, hR⟩
end
def HS.cut (H : HS) (nb nt : Nat) : HS := { H with blks := H.blks.take nb, toks := H.toks.take nt }
def Ctx.cut (c : Ctx) (nb nt : Nat) : Ctx := { c with blk := c.blk.take nb, tok := c.tok.take nt }
inductive Fits (nb nt : Nat) : AV → Prop
  | un : Fits nb nt .un
  | nv : Fits nb nt .nv
  | d (x : DV) : Fits nb nt (.d x)
  | own0 (sz : Nat) (xs : List DV) : Fits nb nt (.own none sz xs)
  | own (i sz : Nat) (xs : List DV) (h : i < nt) : Fits nb nt (.own (some i) sz xs)
  | elt (cs : List DV) : Fits nb nt (.elt cs)
  | ptr (id off : Nat) (h : id < nb) : Fits nb nt (.ptr id off)
  | arr (id n cap : Nat) (h : id < nb) : Fits nb nt (.arr id n cap)
  | sub (id off n cap : Nat) (h : id < nb) : Fits nb nt (.sub id off n cap)
  | agg (cs : List AV) (h : ∀ i (hi : i < cs.length), Fits nb nt cs[i]) : Fits nb nt (.agg cs)
  | tup (cs : List AV) (h : ∀ i (hi : i < cs.length), Fits nb nt cs[i]) : Fits nb nt (.tup cs)
  | fn (f : Fn) (fs cs : List AV) (h : ∀ i (hi : i < fs.length), Fits nb nt fs[i]) (h' : ∀ i (hi : i < cs.length), Fits nb nt cs[i]) : Fits nb nt (.fn f fs cs)
  | map (id : Nat) : Fits nb nt (.map id)
  | iter (id : Nat) : Fits nb nt (.iter id)
theorem Rep.cut {c : Ctx} {nb nt : Nat} {x : Value} {y : AV} (h : Rep c x y) (hf : Fits nb nt y) : Rep (c.cut nb nt) x y := by
  induction h with
  | un x => exact .un x
  | nv => exact .nv
  | d h => exact .d h
  | own0 sz => exact .own0 sz
  | own1 g o n sz xs h => exact .own1 g o n sz xs h
  | ownt i e g n cap sz xs h ht hn he =>
    cases hf with
    | own _ _ _ hi => exact .ownt i e g n cap sz xs h (by show (c.tok.take nt)[i]? = _; rw [List.getElem?_take, if_pos hi]; exact ht) hn he
  | elt g o cs us h1 hm h => exact .elt g o cs us h1 hm h
  | ptr id off g h =>
    cases hf with
    | ptr _ _ hi => exact .ptr id off g (by show (c.blk.take nb)[id]? = _; rw [List.getElem?_take, if_pos hi]; exact h)
  | arr id n cap g h =>
    cases hf with
    | arr _ _ _ hi => exact .arr id n cap g (by show (c.blk.take nb)[id]? = _; rw [List.getElem?_take, if_pos hi]; exact h)
  | sub id off n cap g h =>
    cases hf with
    | sub _ _ _ _ hi => exact .sub id off n cap g (by show (c.blk.take nb)[id]? = _; rw [List.getElem?_take, if_pos hi]; exact h)
  | agg vs cs hl _ ih =>
    cases hf with
    | agg _ h => exact .agg vs cs hl fun i hi => ih i hi (h i hi)
  | tup vs cs hl _ ih =>
    cases hf with
    | tup _ h => exact .tup vs cs hl fun i hi => ih i hi (h i hi)
  | fn f fs cs fs' cs' hl _ hl' _ hy ih ih' =>
    cases hf with
    | fn _ _ _ h h' => exact .fn f fs cs fs' cs' hl (fun i hi => ih i hi (h i hi)) hl' (fun i hi => ih' i hi (h' i hi)) hy
  | yld l idx tmps T hm hs _ ih =>
    cases hf with
    | fn _ _ _ h h' => exact .yld l idx tmps T hm hs fun i hi => ih i hi (h i hi)
  | map id g h => exact .map id g h
  | iter id g h => exact .iter id g h
theorem Inv.cut {B : Nat} {w0 w : World} {c : Ctx} {H : HS} (h : Inv B w0 c H w) (nb nt : Nat) (hf : ∀ i b, i < nb → H.blks[i]? = some b → ∀ j (hj : j < b.cs.length), Fits nb nt b.cs[j]) : Inv B w0 (c.cut nb nt) (H.cut nb nt) w := by
  have hb : ∀ (i g : Nat), (c.blk.take nb)[i]? = some g → i < nb ∧ c.blk[i]? = some g := by
    intro i g hi
    rw [List.getElem?_take] at hi
    split at hi
    · exact ⟨by assumption, hi⟩
    · cases hi
  have ht : ∀ (i : Nat) (e : Tok), (c.tok.take nt)[i]? = some e → i < nt ∧ c.tok[i]? = some e := by
    intro i g hi
    rw [List.getElem?_take] at hi
    split at hi
    · exact ⟨by assumption, hi⟩
    · cases hi
  refine ⟨h.base, h.below, h.mem, by simp [Ctx.cut, HS.cut, h.blkLen], fun i g b hg hbb => ?_, fun i j g hi hj => h.blkInj i j g (hb i g hi).2 (hb j g hj).2, by simp [Ctx.cut, HS.cut, h.tokLen], fun i e he => ?_, fun i j e e' hi hj => h.tokInj i j e e' (ht i e hi).2 (ht j e' hj).2, h.maps.len, h.maps.inj, fun i g m hi hj => ?_⟩
  · obtain ⟨hlt, hg'⟩ := hb i g hg
    have hb' : H.blks[i]? = some b := by
      have : (H.blks.take nb)[i]? = some b := hbb
      rwa [List.getElem?_take, if_pos hlt] at this
    obtain ⟨q1, q2, cur, fr, q3, q4, q5, q6⟩ := h.blk i g b hg' hb'
    exact ⟨q1, q2, cur, fr, q3, q4, q5, fun j hj => (q6 j hj).cut (hf i b hlt hb' j hj)⟩
  · obtain ⟨hlt, he'⟩ := ht i e he
    obtain ⟨q1, q2, q3, q4, q5, q6⟩ := h.tok i e he'
    refine ⟨?_, q2, q3, q4, fun j hj => q5 j (hb j _ hj).2, q6⟩
    show (H.toks.take nt)[i]? = _
    rw [List.getElem?_take, if_pos hlt]
    exact q1
  · obtain ⟨q1, q2⟩ := h.maps.is i g m hi hj
    refine ⟨q1, ?_⟩
    cases q2 with
    | map g es xs clock hw h => exact .map g es xs clock hw h
    | iter g id r n last xs clock seen hm hr hw hn hd hs hl => exact .iter g id r n last xs clock seen hm hr hw hn hd hs hl
    | dead g n last r a b seen hw => exact .dead g n last r a b seen hw
    | other g o hw hn hnm => exact .other g o hw hn hnm
theorem op_call {P : Program} {E : Operand → AV} {H : HS} {R : AV → HS → Prop} {dst : Option Tmp} {fo : Operand} {args : Array Operand} {ts : Array TypeId} {ty : TypeId} {pos : String} {after : Array Edge} {gd : Option (Nat × Bool)}
    {f : FuncId} {fs cs : List AV} {fn : Func} (hE : E fo = .fn (.func f) fs cs) (hfn : P.funcs[f]? = some fn) (hname : (fn.name == "runtime.NumGoroutine") = false) (hbody : fn.body.isNone = false)
    (h : ACalls P f (fs ++ args.toList.map E ++ cs) H R) : OpR P ⟨dst, .call ⟨.value fo, args, ts⟩, ty, pos, after, gd⟩ E H R := by
  intro B w0 c w a next Q hI hops hnext
  have hf : Rep c (a.eval fo) (.fn (.func f) fs cs) := hE ▸ hops fo (by simp [Op.operands, Call.operands])
  cases hv : a.eval fo with
  | func fn' fv cv =>
    rw [hv] at hf
    cases hf with
    | fn _ _ _ _ _ hl h1 hl' h1' =>
    have hrun : (execOp a.eval ⟨dst, .call ⟨.value fo, args, ts⟩, ty, pos, after, gd⟩).run P w = .ok (.enter f (fv ++ args.map a.eval ++ cv)) w := by
      have hn : fn.name ≠ "runtime.NumGoroutine" := by simpa using hname
      have hb : ¬ fn.body = none := by intro hh; rw [hh] at hbody; cases hbody
      simp [execOp, resolve, hv, Deferred.ofValue, invoke, callFunc, program, Sem.run, hfn, hn, hb]
    unfold Oper.wp
    rw [hrun, Oper.upon_enter]
    refine (h B w0 c w _ hI (by simp [hl, hl']) ?_).mono ?_
    · intro i hi
      by_cases h2 : i < fv.size
      · have e1 : (fv ++ args.map a.eval ++ cv).getD i undef = fv.getD i undef := by
          rw [getD_left (by simp; omega), getD_left h2]
        have e2 : (fs ++ args.toList.map E ++ cs)[i] = fs[i]'(by omega) := by
          rw [List.getElem_append_left (by simp; omega), List.getElem_append_left]
        rw [e1, e2]
        exact h1 i (by omega)
      · by_cases h3 : i < fv.size + args.size
        · have hx : i - fv.size < args.size := by omega
          have e1 : (fv ++ args.map a.eval ++ cv).getD i undef = a.eval (args[i - fv.size]'hx) := by
            rw [getD_left (by simp; omega), getD_right (by omega)]
            simp [hx]
          have e2 : (fs ++ args.toList.map E ++ cs)[i] = E (args[i - fv.size]'hx) := by
            rw [List.getElem_append_left (by simp; omega), List.getElem_append_right (by omega)]
            simp only [List.getElem_map, Array.getElem_toList]
            congr 2
            omega
          rw [e1, e2]
          exact hops _ (by simp [Op.operands, Call.operands])
        · simp at hi
          have e1 : (fv ++ args.map a.eval ++ cv).getD i undef = cv.getD (i - (fv.size + args.size)) undef := by
            rw [getD_right (by simp; omega)]
            simp
          have h6 : i - (fv.size + args.size) < cs.length := by omega
          have e2 : (fs ++ args.toList.map E ++ cs)[i] = cs[i - (fv.size + args.size)]'h6 := by
            rw [List.getElem_append_right (by simp; omega)]
            congr 1
            simp
            omega
          rw [e1, e2]
          exact h1' _ h6
    · rintro e w' ⟨v, av, H', c', rfl, q1, q2, q3, q4⟩
      exact hnext v w' c' av H' q1 q2 q3 q4
  | _ =>
    rw [hv] at hf
    cases hf
end Go.AV
namespace Go.AV
open Go.RowKit
def Step (P : Program) (Φ : HS → Prop) (ops : Array Oper) (o : Oper) (f : Nat) (T : List AV) (H : HS) (v : AV) (H' : HS) : Prop :=
  (∃ b, (match o.guard with
    | none => b = true
    | some (g, want) => (∃ d x, (ops[g]?).bind (·.dst) = some d ∧ T[d]? = some (.d (.v (.bool x))) ∧ b = (x == want)) ∨ (∃ d, (ops[g]?).bind (·.dst) = some d ∧ T[d]? = some .nv ∧ b = false)) ∧
   match b with
   | true => match f with
     | 0 => H' = H ∧ ∀ H, Φ H → OpR P o (evalT T) H (Ret v H)
     | 1 => H' = H ∧ OpR P o (evalT T) H (Ret v H)
     | _ => OpR P o (evalT T) H (Ret v H')
   | false => v = .nv ∧ H' = H)
def DRunX (P : Program) (Φ : HS → Prop) (ops : Array Oper) : List Oper → List Nat → List AV → HS → (List AV → HS → Prop) → Prop
  | [], _, T, H, Q => Q T H
  | o :: l, fl, T, H, Q => ∃ v H', Step P Φ ops o (fl.headD 2) T H v H' ∧ (l = [] ∨ (Φ H → Φ H')) ∧ DRunX P Φ ops l fl.tail (putT T o.dst v) H' Q
abbrev DRun (P : Program) (ops : Array Oper) := DRunX P (fun _ => True) ops
def bit (B : Array Nat) (i j : Nat) : Bool := (B.getD j 0).testBit i
def clash (ops : Array Oper) (fl : List Nat) (i j : Nat) (oi oj : Oper) : Bool :=
  (match oi.dst with
   | some d => (oj.looksAt ops).contains d || oj.dst == some d
   | none => false) ||
  (match oj.dst with
   | some d => (oi.looksAt ops).contains d
   | none => false) ||
  (fl.getD i 2 ≥ 2 && fl.getD j 2 ≥ 1) || (fl.getD j 2 ≥ 2 && fl.getD i 2 ≥ 1)
def drawOk (ops : Array Oper) (fl : List Nat) (B : Array Nat) : Bool :=
  (List.range ops.size).all fun j => match ops[j]? with
    | none => false
    | some oj =>
      (oj.after.all fun e => !Region.binds .any e || e.on < j) &&
      (List.range ops.size).all fun i => match ops[i]? with
        | none => false
        | some oi => (!bit B i j || oj.after.any fun e => Region.binds .any e && (e.on == i || bit B i e.on)) && (!(i < j) || !(clash ops fl i j oi oj || clash ops fl j i oj oi) || bit B i j)
section
variable {P : Program} {Q : Post} {ops : Array Oper} {fl : List Nat} {B : Array Nat} {T0 : List AV} {vs : Nat → AV} {hs : Nat → HS}
def dstAt (ops : Array Oper) (i : Nat) : Option Tmp := (ops[i]?).bind (·.dst)
def W (ops : Array Oper) (T0 : List AV) (vs : Nat → AV) (S : Nat → Bool) : Nat → Nat → AV
  | 0, t => T0.getD t .un
  | k + 1, t => if S k = true ∧ dstAt ops k = some t then vs k else W ops T0 vs S k t
def Hc (fl : List Nat) (hs : Nat → HS) (S : Nat → Bool) : Nat → HS
  | 0 => hs 0
  | k + 1 => if S k = true ∧ fl.getD k 2 ≥ 2 then hs (k + 1) else Hc fl hs S k
def Tref (ops : Array Oper) (T0 : List AV) (vs : Nat → AV) : Nat → List AV
  | 0 => T0
  | k + 1 => putT (Tref ops T0 vs k) (dstAt ops k) (vs k)
theorem putT_length (T : List AV) (d : Option Tmp) (v : AV) : (putT T d v).length = T.length := by cases d <;> simp [putT]
theorem Tref_length : ∀ k, (Tref ops T0 vs k).length = T0.length
  | 0 => rfl
  | k + 1 => by rw [Tref, putT_length, Tref_length k]
theorem Tref_getD {t : Nat} (ht : t < T0.length) : ∀ k, (Tref ops T0 vs k).getD t .un = W ops T0 vs (fun _ => true) k t
  | 0 => rfl
  | k + 1 => by
    have ih := Tref_getD ht k
    have hl : t < (Tref ops T0 vs k).length := by rw [Tref_length]; exact ht
    simp only [Tref, W]
    cases hd : dstAt ops k with
    | none => simpa [putT] using ih
    | some d =>
      by_cases hdt : d = t
      · subst hdt
        simp [putT, List.getD_eq_getElem?_getD, hl]
      · rw [if_neg (by simpa using hdt), ← ih]
        simp [putT, List.getD_eq_getElem?_getD, List.getElem?_set_ne hdt]
theorem W_agree {S S' : Nat → Bool} {t : Nat} : ∀ k, (∀ i, i < k → dstAt ops i = some t → S i = S' i) → W ops T0 vs S k t = W ops T0 vs S' k t
  | 0, _ => rfl
  | k + 1, h => by
    have ih := W_agree k fun i hi => h i (by omega)
    simp only [W]
    by_cases hd : dstAt ops k = some t
    · rw [h k (by omega) hd, ih]
    · rw [if_neg (fun hh => hd hh.2), if_neg (fun hh => hd hh.2), ih]
theorem W_at {S : Nat → Bool} {t j n : Nat} (hj : j ≤ n) (h : ∀ i, i < n → dstAt ops i = some t → S i = decide (i < j)) : W ops T0 vs S n t = W ops T0 vs (fun _ => true) j t := by
  induction n with
  | zero => have : j = 0 := by omega
            subst this; rfl
  | succ n ih =>
    by_cases hjn : j = n + 1
    · subst hjn
      exact W_agree (n + 1) fun i hi hd => by rw [h i hi hd]; simpa using hi
    · have hd : ¬ (S n = true ∧ dstAt ops n = some t) := by
        rintro ⟨h1, h2⟩
        have := h n (by omega) h2
        rw [h1] at this
        have : n < j := by simpa using this.symm
        omega
      rw [W, if_neg hd]
      exact ih (by omega) fun i hi => h i (by omega)
theorem Hc_agree {S S' : Nat → Bool} : ∀ k, (∀ i, i < k → fl.getD i 2 ≥ 2 → S i = S' i) → Hc fl hs S k = Hc fl hs S' k
  | 0, _ => rfl
  | k + 1, h => by
    have ih := Hc_agree k fun i hi => h i (by omega)
    simp only [Hc]
    by_cases hd : fl.getD k 2 ≥ 2
    · rw [h k (by omega) hd, ih]
    · rw [if_neg (fun hh => hd hh.2), if_neg (fun hh => hd hh.2), ih]
theorem Hc_at {S : Nat → Bool} {j n : Nat} (hj : j ≤ n) (h : ∀ i, i < n → fl.getD i 2 ≥ 2 → S i = decide (i < j)) : Hc fl hs S n = Hc fl hs (fun _ => true) j := by
  induction n with
  | zero => have : j = 0 := by omega
            subst this; rfl
  | succ n ih =>
    by_cases hjn : j = n + 1
    · subst hjn
      exact Hc_agree (n + 1) fun i hi hd => by rw [h i hi hd]; simpa using hi
    · have hd : ¬ (S n = true ∧ fl.getD n 2 ≥ 2) := by
        rintro ⟨h1, h2⟩
        have := h n (by omega) h2
        rw [h1] at this
        have : n < j := by simpa using this.symm
        omega
      rw [Hc, if_neg hd]
      exact ih (by omega) fun i hi => h i (by omega)
theorem filter_lt (l : List Nat) (S S' : Nat → Bool) (j : Nat) (hj : j ∈ l) (h1 : S j = false) (h2 : S' j = true) (h : ∀ i, S i = true → S' i = true) :
    (l.filter fun i => !S' i).length < (l.filter fun i => !S i).length := by
  have le : ∀ l : List Nat, (l.filter fun i => !S' i).length ≤ (l.filter fun i => !S i).length := by
    intro l
    induction l with
    | nil => simp
    | cons x l ih =>
      cases hx : S x <;> cases hx' : S' x <;> simp [hx, hx'] <;> first | omega | (have := h x hx; rw [hx'] at this; cases this)
  induction l with
  | nil => cases hj
  | cons x l ih =>
    by_cases hxj : x = j
    · subst hxj
      have := le l
      simp [h1, h2]
      omega
    · have hj' : j ∈ l := by
        cases hj with
        | head => exact absurd rfl hxj
        | tail _ h => exact h
      have := ih hj'
      cases hx : S x <;> cases hx' : S' x <;> simp [hx, hx'] <;> first | omega | (have := h x hx; rw [hx'] at this; cases this)
structure RefRun (P : Program) (Φ : HS → Prop) (B : Array Nat) (ops : Array Oper) (fl : List Nat) (T0 : List AV) (vs : Nat → AV) (hs : Nat → HS) : Prop where
  step : ∀ k o, ops[k]? = some o → Step P Φ ops o (fl.getD k 2) (Tref ops T0 vs k) (hs k) (vs k) (hs (k + 1))
  phi : ∀ k, k < ops.size → Φ (hs k)
  last : Φ (hs ops.size) ∨ ∀ j, j + 1 < ops.size → bit B j (ops.size - 1) = true
theorem Hc_phi {Φ : HS → Prop} {S : Nat → Bool} : ∀ n, (∀ k, k ≤ n → Φ (hs k)) → Φ (Hc fl hs S n)
  | 0, h => h 0 (Nat.le_refl _)
  | n + 1, h => by
    simp only [Hc]
    split
    · exact h (n + 1) (Nat.le_refl _)
    · exact Hc_phi n fun k hk => h k (by omega)
theorem RefRun.Hc {Φ : HS → Prop} (h : RefRun P Φ B ops fl T0 vs hs) : ∀ k, k ≤ ops.size → Hc fl hs (fun _ => true) k = hs k
  | 0, _ => rfl
  | k + 1, hk => by
    have ih := h.Hc k (by omega)
    simp only [AV.Hc]
    by_cases hd : fl.getD k 2 ≥ 2
    · rw [if_pos ⟨trivial, hd⟩]
    · rw [if_neg (fun hh => hd hh.2), ih]
      obtain ⟨b, _, hb⟩ := h.step k ops[k] (by simp [show k < ops.size by omega])
      cases b with
      | false => exact hb.2.symm
      | true =>
        rcases hf : fl.getD k 2 with _ | _ | f
        · rw [hf] at hb; exact hb.1.symm
        · rw [hf] at hb; exact hb.1.symm
        · omega
theorem drawOk_edge (h : drawOk ops fl B = true) {j : Nat} {oj : Oper} (hj : ops[j]? = some oj) {e : Edge} (he : e ∈ oj.after) (hb : Region.binds .any e = true) : e.on < j := by
  have hlt : j < ops.size := (Array.getElem?_eq_some_iff.1 hj).1
  have := List.all_eq_true.1 h j (List.mem_range.2 hlt)
  simp only [hj, Bool.and_eq_true] at this
  have := Array.all_eq_true_iff_forall_mem.1 this.1 e he
  simpa [hb] using this
theorem drawOk_pre (h : drawOk ops fl B = true) {i j : Nat} {oi oj : Oper} (hi : ops[i]? = some oi) (hj : ops[j]? = some oj) (hb : bit B i j = true) :
    ∃ e ∈ oj.after, Region.binds .any e = true ∧ (e.on = i ∨ bit B i e.on = true) := by
  have hlt : j < ops.size := (Array.getElem?_eq_some_iff.1 hj).1
  have hlt' : i < ops.size := (Array.getElem?_eq_some_iff.1 hi).1
  have h1 := List.all_eq_true.1 h j (List.mem_range.2 hlt)
  simp only [hj, Bool.and_eq_true] at h1
  have h2 := List.all_eq_true.1 h1.2 i (List.mem_range.2 hlt')
  simp only [hi, Bool.and_eq_true, hb, Bool.not_true, Bool.false_or] at h2
  obtain ⟨e, he, h3⟩ := Array.any_eq_true'.1 h2.1
  simp only [Bool.and_eq_true, Bool.or_eq_true, beq_iff_eq] at h3
  exact ⟨e, he, h3.1, h3.2⟩
theorem drawOk_clash (h : drawOk ops fl B = true) {i j : Nat} {oi oj : Oper} (hi : ops[i]? = some oi) (hj : ops[j]? = some oj) (hij : i < j) (hc : (clash ops fl i j oi oj || clash ops fl j i oj oi) = true) : bit B i j = true := by
  have hlt : j < ops.size := (Array.getElem?_eq_some_iff.1 hj).1
  have hlt' : i < ops.size := (Array.getElem?_eq_some_iff.1 hi).1
  have h1 := List.all_eq_true.1 h j (List.mem_range.2 hlt)
  simp only [hj, Bool.and_eq_true] at h1
  have h2 := List.all_eq_true.1 h1.2 i (List.mem_range.2 hlt')
  simp only [hi, Bool.and_eq_true, hij, decide_true, hc, Bool.not_true, Bool.false_or] at h2
  exact h2.2
def inS (listed : Array Bool) (i : Nat) : Bool := listed.getD i false
def Closed (ops : Array Oper) (B : Array Nat) (S : Nat → Bool) : Prop := ∀ i j, j < ops.size → i < ops.size → S j = true → bit B i j = true → S i = true
theorem step_sets (hok : drawOk ops fl B = true) {S : Nat → Bool} (hS : Closed ops B S) {i j : Nat} {oi oj : Oper} (hi : ops[i]? = some oi) (hj : ops[j]? = some oj) (hne : i ≠ j) (hjS : S j = false)
    (hpre : ∀ k, k < ops.size → bit B k j = true → S k = true) (hc : (clash ops fl i j oi oj || clash ops fl j i oj oi) = true) : S i = decide (i < j) := by
  have hlt : j < ops.size := (Array.getElem?_eq_some_iff.1 hj).1
  have hlt' : i < ops.size := (Array.getElem?_eq_some_iff.1 hi).1
  by_cases hij : i < j
  · have hb : bit B i j = true := drawOk_clash hok hi hj hij hc
    rw [hpre i hlt' hb]
    simpa using hij
  · have hb : bit B j i = true := drawOk_clash hok hj hi (by omega) (by rw [Bool.or_comm]; exact hc)
    have : S i = false := by
      cases hs : S i with
      | false => rfl
      | true => rw [hS j i hlt' hlt hs hb] at hjS; cases hjS
    rw [this]
    simpa using hij
theorem clash_dst {i j : Nat} {oi oj : Oper} {t : Tmp} (hd : oi.dst = some t) (h : t ∈ oj.looksAt ops ∨ oj.dst = some t) : (clash ops fl i j oi oj || clash ops fl j i oj oi) = true := by
  have h1 : clash ops fl i j oi oj = true := by
    unfold clash
    simp only [hd]
    rcases h with h | h
    · have : (oj.looksAt ops).contains t = true := by simpa using h
      simp only [this, Bool.true_or]
    · simp [h]
  simp [h1]
theorem clash_state {i j : Nat} {oi oj : Oper} (h1 : fl.getD i 2 ≥ 2) (h2 : fl.getD j 2 ≥ 1) : (clash ops fl i j oi oj || clash ops fl j i oj oi) = true := by
  have h : clash ops fl i j oi oj = true := by
    unfold clash
    have a1 : decide (fl.getD i 2 ≥ 2) = true := decide_eq_true h1
    have a2 : decide (fl.getD j 2 ≥ 1) = true := decide_eq_true h2
    simp only [a1, a2, Bool.and_self, Bool.or_true, Bool.true_or]
  simp [h]
theorem draw_main {Φ : HS → Prop} (hok : drawOk ops fl B = true) (href : RefRun P Φ B ops fl T0 vs hs) (hend : Q .normal (Tref ops T0 vs ops.size) (hs ops.size)) (B0 : Nat) (w0 : World) (c0 : Ctx) :
    ∀ (fuel : Nat) (listed : Array Bool) (c : Ctx) (w : World) (a : Act), listed.size = ops.size → ((List.range ops.size).filter fun i => !inS listed i).length ≤ fuel → Closed ops B (inS listed) → Le c0 c →
      Inv B0 w0 c (Hc fl hs (inS listed) ops.size) w → a.tmps.size = T0.length → (∀ t, t < T0.length → Rep c (a.tmps.getD t undef) (W ops T0 vs (inS listed) ops.size t)) → a.defers = [] →
      wpAny P .any ops (Done B0 w0 c0 Q) fuel listed a w := by
  have getD_eq : ∀ {listed : Array Bool} {i : Nat}, listed.size = ops.size → i < ops.size → listed.getD i true = inS listed i := by
    intro listed i h1 h2
    have : i < listed.size := by omega
    simp [inS, this]
  have done : ∀ (listed : Array Bool) (c : Ctx) (w : World) (a : Act), listed.size = ops.size → Region.ready .any ops listed = [] → Le c0 c →
      Inv B0 w0 c (Hc fl hs (inS listed) ops.size) w → a.tmps.size = T0.length → (∀ t, t < T0.length → Rep c (a.tmps.getD t undef) (W ops T0 vs (inS listed) ops.size t)) → a.defers = [] → Done B0 w0 c0 Q .normal a w := by
    intro listed c w a hsz hr hle hI hts hT hdef
    have hall : ∀ j, j < ops.size → inS listed j = true := by
      intro j
      induction j using Nat.strongRecOn with
      | _ j ih =>
        intro hj
        cases hs : inS listed j with
        | true => rfl
        | false =>
          have hmem : j ∈ Region.ready .any ops listed := by
            rw [mem_ready]
            refine ⟨by rw [getD_eq hsz hj]; exact hs, ops[j], by simp [hj], fun e he hb => ?_⟩
            have := drawOk_edge hok (show ops[j]? = some ops[j] by simp [hj]) he hb
            exact ih e.on this (by omega)
          rw [hr] at hmem
          cases hmem
    refine ⟨c, Tref ops T0 vs ops.size, hs ops.size, hle, ?_, ⟨by rw [hts, Tref_length], fun t ht => ?_⟩, hdef, hend⟩
    · rw [Hc_at (Nat.le_refl _) (fun i hi _ => by rw [hall i hi]; simpa using hi), href.Hc _ (Nat.le_refl _)] at hI
      exact hI
    · rw [Tref_length] at ht
      rw [Tref_getD ht, ← W_at (S := inS listed) (n := ops.size) (Nat.le_refl _) (fun i hi _ => by rw [hall i hi]; simpa using hi)]
      exact hT t ht
  intro fuel
  induction fuel with
  | zero =>
    intro listed c w a hsz hcount hcl hle hI hts hT hdef
    have hr : Region.ready .any ops listed = [] := by
      cases hr : Region.ready .any ops listed with
      | nil => rfl
      | cons j l =>
        have hj : j ∈ Region.ready .any ops listed := by rw [hr]; exact List.mem_cons_self ..
        obtain ⟨h1, o, ho, _⟩ := mem_ready.1 hj
        have hlt : j < ops.size := (Array.getElem?_eq_some_iff.1 ho).1
        rw [getD_eq hsz hlt] at h1
        have : j ∈ (List.range ops.size).filter fun i => !inS listed i := by simp [hlt, h1]
        have := List.length_pos_of_mem this
        omega
    exact ⟨hr, done listed c w a hsz hr hle hI hts hT hdef⟩
  | succ fuel ih =>
    intro listed c w a hsz hcount hcl hle hI hts hT hdef
    refine ⟨fun hr => done listed c w a hsz hr hle hI hts hT hdef, fun j hj => ?_⟩
    obtain ⟨h1, oj, hoj, hedge⟩ := mem_ready.1 hj
    have hlt : j < ops.size := (Array.getElem?_eq_some_iff.1 hoj).1
    have hjS : inS listed j = false := by rw [← getD_eq hsz hlt]; exact h1
    have hpre : ∀ k, k < ops.size → bit B k j = true → inS listed k = true := by
      intro k hk hb
      obtain ⟨e, he, hbind, hh⟩ := drawOk_pre hok (show ops[k]? = some ops[k] by simp [hk]) hoj hb
      have h2 : inS listed e.on = true := hedge e he hbind
      rcases hh with rfl | hh
      · exact h2
      · have := drawOk_edge hok hoj he hbind
        exact hcl k e.on (by omega) hk h2 hh
    have hS' : ∀ i, inS (listed.setIfInBounds j true) i = if i = j then true else inS listed i := by
      intro i
      unfold inS
      by_cases hij : i = j
      · subst hij
        have : i < listed.size := by omega
        simp [this]
      · rw [if_neg hij]
        have := getD_set_ne (listed := listed) (i := j) (j := i) false (fun e => hij e.symm)
        exact this
    have hcl' : Closed ops B (inS (listed.setIfInBounds j true)) := by
      intro i k hk hi hS hb
      rw [hS'] at hS ⊢
      by_cases hij : i = j
      · rw [if_pos hij]
      · rw [if_neg hij]
        by_cases hkj : k = j
        · subst hkj; exact hpre i hi hb
        · rw [if_neg hkj] at hS; exact hcl i k hk hi hS hb
    have hcount' : ((List.range ops.size).filter fun i => !inS (listed.setIfInBounds j true) i).length ≤ fuel := by
      have := filter_lt (List.range ops.size) (inS listed) (inS (listed.setIfInBounds j true)) j (by simpa using hlt) hjS (by rw [hS', if_pos rfl]) (fun i hi => by rw [hS']; split; rfl; exact hi)
      omega
    have writers : ∀ t, (t ∈ oj.looksAt ops ∨ oj.dst = some t) → ∀ i, i < ops.size → i ≠ j → dstAt ops i = some t → inS listed i = decide (i < j) := by
      intro t ht i hi hne hd
      have hio : ops[i]? = some ops[i] := by simp [hi]
      have hd' : (ops[i]).dst = some t := by simpa [dstAt, hio] using hd
      exact step_sets hok hcl hio hoj hne hjS hpre (clash_dst hd' ht)
    have slot : ∀ t, t ∈ oj.looksAt ops → W ops T0 vs (inS listed) ops.size t = W ops T0 vs (fun _ => true) j t := by
      intro t ht
      refine W_at (Nat.le_of_lt hlt) fun i hi hd => ?_
      by_cases hij : i = j
      · subst hij; rw [hjS]; simp
      · exact writers t (.inl ht) i hi hij hd
    have state : fl.getD j 2 ≥ 1 → Hc fl hs (inS listed) ops.size = hs j := by
      intro hf
      rw [Hc_at (Nat.le_of_lt hlt) fun i hi hd => ?_]
      · exact href.Hc j (Nat.le_of_lt hlt)
      · by_cases hij : i = j
        · subst hij; rw [hjS]; simp
        · exact step_sets hok hcl (show ops[i]? = some ops[i] by simp [hi]) hoj hij hjS hpre (clash_state hd hf)
    have slots' : ∀ (c' : Ctx) (v' : Value), Le c c' → Rep c' v' (vs j) → ∀ t, t < T0.length → Rep c' ((a.put oj.dst v').tmps.getD t undef) (W ops T0 vs (inS (listed.setIfInBounds j true)) ops.size t) := by
      intro c' v' hl hv t ht
      by_cases hd : oj.dst = some t
      · have e1 : W ops T0 vs (inS (listed.setIfInBounds j true)) ops.size t = vs j := by
          rw [W_at (j := j + 1) (by omega) fun i hi hdi => ?_]
          · simp only [W]
            rw [if_pos ⟨trivial, by simp [dstAt, hoj, hd]⟩]
          · rw [hS']
            by_cases hij : i = j
            · subst hij; simp
            · rw [if_neg hij, writers t (.inr hd) i hi hij hdi]
              have : (i < j) ↔ (i < j + 1) := by omega
              simp [this]
        rw [e1]
        have : t < a.tmps.size := Nat.lt_of_lt_of_eq ht hts.symm
        simp [Act.put, hd, this]
        exact hv
      · have e1 : W ops T0 vs (inS (listed.setIfInBounds j true)) ops.size t = W ops T0 vs (inS listed) ops.size t := by
          refine W_agree _ fun i hi hdi => ?_
          rw [hS', if_neg]
          intro hij
          subst hij
          rw [dstAt, hoj] at hdi
          exact hd hdi
        rw [e1]
        have e2 : (a.put oj.dst v').tmps.getD t undef = a.tmps.getD t undef := by
          cases hdd : oj.dst with
          | none => rfl
          | some d =>
            have hne : d ≠ t := fun e => hd (by rw [hdd, e])
            simp [Act.put, Array.getElem?_setIfInBounds_ne hne]
        rw [e2]
        exact (hT t ht).mono hl
    have size' : ∀ v', (a.put oj.dst v').tmps.size = T0.length := by
      intro v'
      cases oj.dst <;> simp [Act.put, hts]
    have hc' : ∀ (v' : Value) (w' : World) (c' : Ctx), Le c c' → Rep c' v' (vs j) → Inv B0 w0 c' (Hc fl hs (inS (listed.setIfInBounds j true)) ops.size) w' →
        wpAny P .any ops (Done B0 w0 c0 Q) fuel (listed.setIfInBounds j true) (a.put oj.dst v') w' := by
      intro v' w' c' hl hv hI'
      exact ih _ c' w' _ (by simpa using hsz) hcount' hcl' (hle.trans hl) hI' (size' v') (slots' c' v' hl hv) (by rw [put_defers]; exact hdef)
    have keep : fl.getD j 2 < 2 → Hc fl hs (inS (listed.setIfInBounds j true)) ops.size = Hc fl hs (inS listed) ops.size := by
      intro hf
      refine Hc_agree _ fun i hi hd => ?_
      rw [hS', if_neg]
      intro hij
      subst hij
      omega
    have turn : fl.getD j 2 ≥ 2 → Hc fl hs (inS (listed.setIfInBounds j true)) ops.size = hs (j + 1) := by
      intro hf
      rw [Hc_at (j := j + 1) (by omega) fun i hi hd => ?_]
      · exact href.Hc (j + 1) hlt
      · rw [hS']
        by_cases hij : i = j
        · subst hij; simp
        · rw [if_neg hij, step_sets hok hcl (show ops[i]? = some ops[i] by simp [hi]) hoj hij hjS hpre (clash_state hd (by omega))]
          have : (i < j) ↔ (i < j + 1) := by omega
          simp [this]
    obtain ⟨b, hg, hb⟩ := href.step j oj hoj
    have hslotRep : ∀ t, t ∈ oj.looksAt ops → Rep c (a.tmps.getD t undef) ((Tref ops T0 vs j).getD t .un) := by
      intro t ht
      by_cases hlt' : t < T0.length
      · rw [Tref_getD hlt', ← slot t ht]
        exact hT t hlt'
      · have : (Tref ops T0 vs j).getD t .un = .un := by
          rw [List.getD_eq_getElem?_getD, List.getElem?_eq_none (by rw [Tref_length]; exact Nat.le_of_not_lt hlt')]; rfl
        rw [this]; exact .un _
    have hops : ∀ x ∈ oj.op.operands, Rep c (a.eval x) (evalT (Tref ops T0 vs j) x) := by
      intro x hx
      cases x with
      | tmp t => exact hslotRep t (List.mem_append_left _ (List.mem_filterMap.2 ⟨.tmp t, by simpa using hx, rfl⟩))
      | const v => exact rep_const c v
      | func f => exact rep_func c f
      | global g => exact .un _
    have hwant : Region.wanted oj (yielded ops a.tmps) = b := by
      cases hgd : oj.guard with
      | none => rw [hgd] at hg; simp only [] at hg; simp [Region.wanted, hgd, hg]
      | some gw =>
        obtain ⟨g, want⟩ := gw
        rw [hgd] at hg
        rcases hg with ⟨d, x, hd, hx, rfl⟩ | ⟨d, hd, hx, rfl⟩
        · have hlt' : d < T0.length := by
            have := (List.getElem?_eq_some_iff.1 hx).1
            rwa [Tref_length] at this
          have hdt : d < a.tmps.size := Nat.lt_of_lt_of_eq hlt' hts.symm
          have hrep := hslotRep d (by
            refine List.mem_append_right _ ?_
            simp [hgd, hd])
          rw [List.getD_eq_getElem?_getD, hx] at hrep
          have e := hrep.v_eq
          have hs := hdt
          have hy : yielded ops a.tmps g = some x := by
            unfold yielded
            rw [hd]
            simp [hs] at e ⊢
            rw [e]
          simp only [Region.wanted, hgd, hy]
          cases x <;> cases want <;> rfl
        · have hlt' : d < T0.length := by
            have := (List.getElem?_eq_some_iff.1 hx).1
            rwa [Tref_length] at this
          have hdt : d < a.tmps.size := Nat.lt_of_lt_of_eq hlt' hts.symm
          have hrep := hslotRep d (by
            refine List.mem_append_right _ ?_
            simp [hgd, hd])
          rw [List.getD_eq_getElem?_getD, hx] at hrep
          have e := hrep.nv_eq
          have hs := hdt
          have hy : yielded ops a.tmps g = none := by
            unfold yielded
            rw [hd]
            simp [hs] at e ⊢
            simp [e, undef]
          simp only [Region.wanted, hgd, hy]
          cases want <;> rfl
    unfold wpOp
    simp only [hoj, hwant]
    cases b with
    | false =>
      rw [if_neg (by simp)]
      obtain ⟨hv, hH⟩ := hb
      refine hc' undef w c (Le.refl c) (by rw [hv]; exact .nv) ?_
      by_cases hf : fl.getD j 2 ≥ 2
      · rw [turn hf, hH]
        rw [state (by omega)] at hI
        exact hI
      · rw [keep (by omega)]; exact hI
    | true =>
      rw [if_pos rfl]
      refine .inl ?_
      rcases hf : fl.getD j 2 with _ | _ | f
      · rw [hf] at hb
        obtain ⟨hH, hR⟩ := hb
        have hphi : Φ (Hc fl hs (inS listed) ops.size) := by
          rcases href.last with hL | hL
          · exact Hc_phi _ fun k hk => by
              rcases Nat.lt_or_ge k ops.size with h | h
              · exact href.phi k h
              · rw [show k = ops.size by omega]; exact hL
          · obtain ⟨m, hm⟩ : ∃ m, ops.size = m + 1 := ⟨ops.size - 1, by omega⟩
            have hlast : inS listed m = false := by
              by_cases hjm : j = m
              · rw [← hjm]; exact hjS
              · cases hs' : inS listed m with
                | false => rfl
                | true =>
                  have hb2 := hL j (by omega)
                  rw [hm, Nat.add_sub_cancel] at hb2
                  rw [hcl j m (by omega) hlt hs' hb2] at hjS
                  cases hjS
            rw [hm]
            simp only [AV.Hc]
            rw [if_neg (by rw [hlast]; simp)]
            exact Hc_phi _ fun k hk => href.phi k (by omega)
        refine hR _ hphi B0 w0 c w a _ _ hI hops ?_
        rintro v' w' c' av H' l1 r1 i1 ⟨rfl, rfl⟩
        refine hc' v' w' c' l1 r1 ?_
        rw [keep (by omega)]; exact i1
      · rw [hf] at hb
        obtain ⟨hH, hR⟩ := hb
        have hst := state (by omega)
        rw [hst] at hI
        refine hR B0 w0 c w a _ _ hI hops ?_
        rintro v' w' c' av H' l1 r1 i1 ⟨rfl, rfl⟩
        refine hc' v' w' c' l1 r1 ?_
        rw [keep (by omega), hst]; exact i1
      · rw [hf] at hb
        have hst := state (by omega)
        rw [hst] at hI
        refine hb B0 w0 c w a _ _ hI hops ?_
        rintro v' w' c' av H' l1 r1 i1 ⟨rfl, rfl⟩
        refine hc' v' w' c' l1 r1 ?_
        rw [turn (by omega)]; exact i1
theorem drun_ref {Φ : HS → Prop} : ∀ (l : List Oper) (k : Nat) (fl' : List Nat) (T : List AV) (H : HS) (R : List AV → HS → Prop), (∀ i, l[i]? = ops[k + i]?) → (∀ i, fl'.getD i 2 = fl.getD (k + i) 2) → DRunX P Φ ops l fl' T H R →
    ∃ (vs : Nat → AV) (hs : Nat → HS), hs k = H ∧ (Φ H → ∀ i, i < l.length → Φ (hs (k + i))) ∧ (∀ i o, l[i]? = some o → Step P Φ ops o (fl.getD (k + i) 2) ((List.range i).foldl (fun T j => putT T (dstAt ops (k + j)) (vs (k + j))) T) (hs (k + i)) (vs (k + i)) (hs (k + i + 1))) ∧
      R ((List.range l.length).foldl (fun T j => putT T (dstAt ops (k + j)) (vs (k + j))) T) (hs (k + l.length))
  | [], k, fl', T, H, R, _, _, h => ⟨fun _ => .un, fun _ => H, rfl, fun hp i hi => by simp at hi, fun i o hi => by simp at hi, by simpa [DRunX] using h⟩
  | o :: l, k, fl', T, H, R, hl, hf, h => by
    obtain ⟨v, H', hs1, hp1, hrest⟩ := h
    obtain ⟨vs, hs, e1, ep, e2, e3⟩ := drun_ref l (k + 1) fl'.tail (putT T o.dst v) H' R (fun i => by have := hl (i + 1); simpa [Nat.add_assoc, Nat.add_comm 1 i] using this)
      (fun i => by
        have := hf (i + 1)
        rw [show k + 1 + i = k + (i + 1) by omega, ← this]
        cases fl' <;> simp) hrest
    have hok : ops[k]? = some o := by have := hl 0; simpa using this.symm
    have hdst : dstAt ops k = o.dst := by simp [dstAt, hok]
    have fold : ∀ n, (List.range (n + 1)).foldl (fun T j => putT T (dstAt ops (k + j)) ((fun i => if i = k then v else vs i) (k + j))) T =
        (List.range n).foldl (fun T j => putT T (dstAt ops (k + 1 + j)) (vs (k + 1 + j))) (putT T o.dst v) := by
      intro n
      rw [List.range_succ_eq_map, List.foldl_cons, List.foldl_map]
      simp only [Nat.add_zero, hdst, if_true]
      have hfun : (fun (x : List AV) (y : Nat) => putT x (dstAt ops (k + y.succ)) (if k + y.succ = k then v else vs (k + y.succ))) = (fun T j => putT T (dstAt ops (k + 1 + j)) (vs (k + 1 + j))) := by
        funext x y
        have h1 : ¬ (k + y.succ = k) := by omega
        have h2 : k + y.succ = k + 1 + y := by omega
        have h3 : ¬ (k + 1 + y = k) := by omega
        simp only [h2, if_neg h3]
      rw [hfun]
    refine ⟨fun i => if i = k then v else vs i, fun i => if i = k then H else hs i, if_pos rfl, ?_, ?_, ?_⟩
    · intro hp i hi
      cases i with
      | zero => simpa using hp
      | succ i =>
        have h1 : ¬ (k + (i + 1) = k) := by omega
        simp only [if_neg h1]
        have hi' : i < l.length := by simpa using hi
        have hp2 : Φ H' := by
          rcases hp1 with h0 | h0
          · subst h0; simp at hi'
          · exact h0 hp
        have := ep hp2 i hi'
        rw [show k + (i + 1) = k + 1 + i by omega]
        exact this
    · intro i o' hi
      cases i with
      | zero =>
        simp at hi
        subst hi
        have hh := hf 0
        simp only [Nat.add_zero] at hh ⊢
        have hk1 : ¬ (k + 1 = k) := by omega
        simp only [List.range_zero, List.foldl_nil, if_true, if_neg hk1, e1]
        rw [← hh]
        have : fl'.headD 2 = fl'.getD 0 2 := by cases fl' <;> rfl
        rw [← this]; exact hs1
      | succ i =>
        have hh := e2 i o' (by simpa using hi)
        rw [fold i]
        have h1 : ¬ (k + (i + 1) = k) := by omega
        have h2 : ¬ (k + (i + 1) + 1 = k) := by omega
        have h3 : k + 1 + i = k + (i + 1) := by omega
        simp only [if_neg h1, if_neg h2]
        rw [← h3]
        exact hh
    · rw [List.length_cons, fold l.length]
      have h1 : ¬ (k + (l.length + 1) = k) := by omega
      simp only [if_neg h1]
      have h3 : k + 1 + l.length = k + (l.length + 1) := by omega
      rw [← h3]
      exact e3
theorem inS_none (n i : Nat) : inS (Array.replicate n false) i = false := by
  by_cases h : i < n <;> simp [inS, h]
theorem aw_drawX (Φ : HS → Prop) {id : Nat} {T : List AV} {H : HS} {l : List Oper} (fl : List Nat) (hm : P.follows .mixedOrders = true) (hok : drawOk l.toArray fl (Region.before l.toArray) = true)
    (hΦ : Φ H) (hlast : (∀ K, Φ K) ∨ ((List.range (l.length - 1)).all fun j => bit (Region.before l.toArray) j (l.length - 1)) = true) (hrun : DRunX P Φ l.toArray l fl T H fun T' H' => Q .normal T' H') : AW P (.region id l.toArray true) Q T H := by
  intro B0 w0 c0 c w a h0 h1 h2 h3
  obtain ⟨vs, hs, e1, ep, e2, e3⟩ := drun_ref (P := P) (ops := l.toArray) (fl := fl) l 0 fl T H _ (fun i => by simp) (fun i => by simp) hrun
  have htref : ∀ k, (List.range k).foldl (fun T j => putT T (dstAt l.toArray (0 + j)) (vs (0 + j))) T = Tref l.toArray T vs k := by
    intro k
    induction k with
    | zero => rfl
    | succ k ih => rw [List.range_succ, List.foldl_append, ih]; simp [Tref]
  simp only [htref] at e2 e3
  refine wp_region_any hm (draw_main (Q := Q) (vs := vs) (hs := hs) (T0 := T) hok ⟨fun k o hk => ?_, fun k hk => by have := ep hΦ k (by simpa using hk); simpa using this, hlast.imp (fun h => h _) (fun h j hj => by simp at hj ⊢; exact List.all_eq_true.1 h j (by simp; omega))⟩ ?_ B0 w0 c0 _ _ c _ a (by simp) ?_ ?_ h0 ?_ h2.size ?_ h3)
  · have := e2 k o (by simpa using hk)
    simpa using this
  · simpa using e3
  · have : ((List.range l.toArray.size).filter fun i => !inS (Array.replicate l.toArray.size false) i).length ≤ (List.range l.toArray.size).length := List.length_filter_le _ _
    simpa using this
  · intro i j hj hi hS hb
    simp only [inS] at hS
    simp at hS hj
    simp [hj] at hS
  · rw [Hc_at (j := 0) (Nat.zero_le _) (fun i hi _ => by rw [inS_none]; rfl)]
    show Inv B0 w0 c (hs 0) _
    rw [e1]
    exact h1.drew
  · intro t ht
    rw [W_at (j := 0) (Nat.zero_le _) (fun i hi _ => by rw [inS_none]; rfl)]
    exact h2.at_ t ht
theorem aw_draw {id : Nat} {T : List AV} {H : HS} {l : List Oper} (fl : List Nat) (hm : P.follows .mixedOrders = true) (hok : drawOk l.toArray fl (Region.before l.toArray) = true)
    (hrun : DRun P l.toArray l fl T H fun T' H' => Q .normal T' H') : AW P (.region id l.toArray true) Q T H := aw_drawX (fun _ => True) fl hm hok trivial (.inl fun _ => trivial) hrun
end
end Go.AV
namespace Go.AV
open Go.RowKit
def S (l : List UInt8) : DV := .v (.string ⟨l.toArray⟩)
def BY (b : UInt8) : DV := .v (.int .u8 (b.toNat : Int))
def I (n : Int) : DV := .v (.int .i64 n)
def TF (b : Bool) : DV := .v (.bool b)
abbrev nilS : AV := .d (.v (.slice none 0 0))
section
variable {P : Program} {E : Operand → AV} {H : HS} {R : AV → HS → Prop} {dst : Option Tmp} {ty : TypeId} {pos : String} {after : Array Edge} {gd : Option (Nat × Bool)}
theorem opR_value {o : Oper} (h : ∀ (B : Nat) (w0 : World) (c : Ctx) (w : World) (a : Act), Inv B w0 c H w → (∀ x ∈ o.op.operands, Rep c (a.eval x) (E x)) →
    ∃ v' w' c' av H', (execOp a.eval o).run P w = .ok (.value v') w' ∧ Le c c' ∧ Rep c' v' av ∧ Inv B w0 c' H' w' ∧ R av H') : OpR P o E H R := by
  intro B w0 c w a next Q hI hops hnext
  obtain ⟨v', w', c', av, H', h1, h2, h3, h4, h5⟩ := h B w0 c w a hI hops
  unfold Oper.wp
  rw [h1]
  exact hnext v' w' c' av H' h2 h3 h4 h5
theorem opR_pure {o : Oper} {v : AV} (h : ∀ (c : Ctx) (w : World) (a : Act), (∀ g o u, c.mem g o = some u → w.cell? ⟨g, o, none⟩ = some u) → (∀ x ∈ o.op.operands, Rep c (a.eval x) (E x)) →
    ∃ v', (execOp a.eval o).run P w = .ok (.value v') w ∧ Rep c v' v) : OpR P o E H (Ret v H) :=
  opR_value fun B w0 c w a hI hops => by
    obtain ⟨v', h1, h2⟩ := h c w a hI.mem hops
    exact ⟨v', w, c, v, H, h1, Le.refl c, h2, hI, rfl, rfl⟩
theorem op_move {x : Operand} : OpR P ⟨dst, .move x, ty, pos, after, gd⟩ E H (Ret (E x) H) :=
  opR_pure fun c w a _ hops => ⟨a.eval x, rfl, hops x (by simp [Op.operands])⟩
theorem op_assign {x : Operand} : OpR P ⟨dst, .assign x, ty, pos, after, gd⟩ E H (Ret (E x) H) :=
  opR_pure fun c w a _ hops => ⟨a.eval x, rfl, hops x (by simp [Op.operands])⟩
theorem op_bin_of {op : BinOp} {x y : Operand} {t t' : TypeId} {X Y : Value} (r : Value) (hx : E x = .d (.v X)) (hy : E y = .d (.v Y)) (hp : plain r = true)
    (hg : ∀ w, (eqGuard op t x y X Y).run P w = .ok () w) (hr : ∀ w, (binOp op t X Y).run P w = .ok r w) : OpR P ⟨dst, .binOp op t x y t', ty, pos, after, gd⟩ E H (Ret (.d (.v r)) H) :=
  opR_pure fun c w a _ hops => by
    have h1 := hops x (by simp [Op.operands])
    have h2 := hops y (by simp [Op.operands])
    rw [hx] at h1
    rw [hy] at h2
    have e1 := h1.v_eq
    have e2 := h2.v_eq
    refine ⟨r, ?_, .d (.v r hp)⟩
    simp [execOp, e1, e2, hg w, hr w]
theorem guard_int {op : BinOp} {x y : Operand} {t : TypeId} {k k' : IntKind} {m n : Int} (w : World) : (eqGuard op t x y (.int k m) (.int k' n)).run P w = .ok () w := by
  cases op <;> simp [eqGuard]
theorem guard_str {op : BinOp} {x y : Operand} {t : TypeId} {m n : ByteArray} (w : World) : (eqGuard op t x y (.string m) (.string n)).run P w = .ok () w := by
  cases op <;> simp [eqGuard]
section
variable {x y : Operand} {t t' : TypeId} {k : IntKind} {m n : Int}
theorem op_add {r : Int} (hx : E x = .d (.v (.int k m))) (hy : E y = .d (.v (.int k n))) (hr : k.wrap (m + n) = r) : OpR P ⟨dst, .binOp .add t x y t', ty, pos, after, gd⟩ E H (Ret (.d (.v (.int k r))) H) :=
  op_bin_of (.int k r) hx hy rfl (fun w => guard_int w) fun w => by simp [binOp, Op.intArith, hr]
theorem op_sub {r : Int} (hx : E x = .d (.v (.int k m))) (hy : E y = .d (.v (.int k n))) (hr : k.wrap (m - n) = r) : OpR P ⟨dst, .binOp .sub t x y t', ty, pos, after, gd⟩ E H (Ret (.d (.v (.int k r))) H) :=
  op_bin_of (.int k r) hx hy rfl (fun w => guard_int w) fun w => by simp [binOp, Op.intArith, hr]
theorem op_mul {r : Int} (hx : E x = .d (.v (.int k m))) (hy : E y = .d (.v (.int k n))) (hr : k.wrap (m * n) = r) : OpR P ⟨dst, .binOp .mul t x y t', ty, pos, after, gd⟩ E H (Ret (.d (.v (.int k r))) H) :=
  op_bin_of (.int k r) hx hy rfl (fun w => guard_int w) fun w => by simp [binOp, Op.intArith, hr]
theorem op_quo {r : Int} (hx : E x = .d (.v (.int k m))) (hy : E y = .d (.v (.int k n))) (hn : n ≠ 0) (hr : k.wrap (m.tdiv n) = r) : OpR P ⟨dst, .binOp .quo t x y t', ty, pos, after, gd⟩ E H (Ret (.d (.v (.int k r))) H) :=
  op_bin_of (.int k r) hx hy rfl (fun w => guard_int w) fun w => by simp [binOp, Op.intDiv, hn, hr]
theorem op_or {r : Int} (hx : E x = .d (.v (.int k m))) (hy : E y = .d (.v (.int k n))) (hr : k.wrap (BitVec.ofInt k.bits m ||| BitVec.ofInt k.bits n).toNat = r) : OpR P ⟨dst, .binOp .or t x y t', ty, pos, after, gd⟩ E H (Ret (.d (.v (.int k r))) H) :=
  op_bin_of (.int k r) hx hy rfl (fun w => guard_int w) fun w => by
    subst hr
    show Sem.run P (if k ≠ k then _ else _) w = _
    rw [if_neg (fun h => h rfl)]
    rfl
theorem op_shl {k' : IntKind} {r : Int} (hx : E x = .d (.v (.int k m))) (hy : E y = .d (.v (.int k' n))) (hn : 0 ≤ n) (hr : k.wrap (m * 2 ^ (min n.toNat k.bits)) = r) : OpR P ⟨dst, .binOp .shl t x y t', ty, pos, after, gd⟩ E H (Ret (.d (.v (.int k r))) H) :=
  op_bin_of (.int k r) hx hy rfl (fun w => guard_int w) fun w => by
    have : ¬ n < 0 := by omega
    simp [binOp, Op.shift, this, hr]
theorem op_shr {k' : IntKind} {r : Int} (hx : E x = .d (.v (.int k m))) (hy : E y = .d (.v (.int k' n))) (hn : 0 ≤ n) (hr : m.fdiv (2 ^ (min n.toNat k.bits)) = r) : OpR P ⟨dst, .binOp .shr t x y t', ty, pos, after, gd⟩ E H (Ret (.d (.v (.int k r))) H) :=
  op_bin_of (.int k r) hx hy rfl (fun w => guard_int w) fun w => by
    have : ¬ n < 0 := by omega
    simp [binOp, Op.shift, this, hr]
theorem op_eqI (hx : E x = .d (.v (.int k m))) (hy : E y = .d (.v (.int k n))) : OpR P ⟨dst, .binOp .eql t x y t', ty, pos, after, gd⟩ E H (Ret (.d (TF (m == n))) H) :=
  op_bin_of _ hx hy rfl (fun w => guard_int w) fun w => by simp [binOp, Op.intCmp]
theorem op_neI (hx : E x = .d (.v (.int k m))) (hy : E y = .d (.v (.int k n))) : OpR P ⟨dst, .binOp .neq t x y t', ty, pos, after, gd⟩ E H (Ret (.d (TF (m != n))) H) :=
  op_bin_of _ hx hy rfl (fun w => guard_int w) fun w => by simp [binOp, Op.intCmp]
theorem op_ltI (hx : E x = .d (.v (.int k m))) (hy : E y = .d (.v (.int k n))) : OpR P ⟨dst, .binOp .lss t x y t', ty, pos, after, gd⟩ E H (Ret (.d (TF (decide (m < n)))) H) :=
  op_bin_of _ hx hy rfl (fun w => guard_int w) fun w => by simp [binOp, Op.intCmp]
theorem op_leI (hx : E x = .d (.v (.int k m))) (hy : E y = .d (.v (.int k n))) : OpR P ⟨dst, .binOp .leq t x y t', ty, pos, after, gd⟩ E H (Ret (.d (TF (decide (m ≤ n)))) H) :=
  op_bin_of _ hx hy rfl (fun w => guard_int w) fun w => by simp [binOp, Op.intCmp]
theorem op_gtI (hx : E x = .d (.v (.int k m))) (hy : E y = .d (.v (.int k n))) : OpR P ⟨dst, .binOp .gtr t x y t', ty, pos, after, gd⟩ E H (Ret (.d (TF (decide (n < m)))) H) :=
  op_bin_of _ hx hy rfl (fun w => guard_int w) fun w => by simp [binOp, Op.intCmp]
theorem op_geI (hx : E x = .d (.v (.int k m))) (hy : E y = .d (.v (.int k n))) : OpR P ⟨dst, .binOp .geq t x y t', ty, pos, after, gd⟩ E H (Ret (.d (TF (decide (n ≤ m)))) H) :=
  op_bin_of _ hx hy rfl (fun w => guard_int w) fun w => by simp [binOp, Op.intCmp]
theorem op_eqS {l l' : List UInt8} (hx : E x = .d (S l)) (hy : E y = .d (S l')) : OpR P ⟨dst, .binOp .eql t x y t', ty, pos, after, gd⟩ E H (Ret (.d (TF (l == l'))) H) :=
  op_bin_of _ hx hy rfl (fun w => guard_str w) fun w => by simp [binOp, Op.stringOp]
theorem op_neS {l l' : List UInt8} (hx : E x = .d (S l)) (hy : E y = .d (S l')) : OpR P ⟨dst, .binOp .neq t x y t', ty, pos, after, gd⟩ E H (Ret (.d (TF (!(l == l')))) H) :=
  op_bin_of _ hx hy rfl (fun w => guard_str w) fun w => by simp [binOp, Op.stringOp]
theorem op_gtS {l l' : List UInt8} (hx : E x = .d (S l)) (hy : E y = .d (S l')) : OpR P ⟨dst, .binOp .gtr t x y t', ty, pos, after, gd⟩ E H (Ret (.d (TF (!(Op.bytesLess l l' || l == l')))) H) :=
  op_bin_of _ hx hy rfl (fun w => guard_str w) fun w => by simp [binOp, Op.stringOp]
theorem equalIn_ptr (w : World) (d : Nat) {t el : TypeId} (ht : P.underlying t = some (.pointer el)) (a : Addr) : (Op.equalIn (d + 1) t (.pointer (some a)) (.pointer none)).run P w = .ok false w := by
  simp [Op.equalIn, run_underlying ht]
theorem op_un_of {op : UnOp} {X : Value} (r : Value) (hx : E x = .d (.v X)) (hp : plain r = true) (hr : ∀ w, (Op.unary op X).run P w = .ok r w) : OpR P ⟨dst, .unOp op t x, ty, pos, after, gd⟩ E H (Ret (.d (.v r)) H) :=
  opR_pure fun c w a _ hops => by
    have h1 := hops x (by simp [Op.operands])
    rw [hx] at h1
    have e1 := h1.v_eq
    refine ⟨r, ?_, .d (.v r hp)⟩
    simp [execOp, e1, hr w]
theorem op_not {b : Bool} (hx : E x = .d (.v (.bool b))) : OpR P ⟨dst, .unOp .not t x, ty, pos, after, gd⟩ E H (Ret (.d (TF (!b))) H) := op_un_of _ hx rfl fun w => by simp [Op.unary]
theorem op_convI {k' : IntKind} {r : Int} (hs : (P.underlying t).isSome = true) (hd : P.underlying t' = some (.int k')) (hx : E x = .d (.v (.int k m))) (hr : k'.wrap m = r) : OpR P ⟨dst, .convert t t' x, ty, pos, after, gd⟩ E H (Ret (.d (.v (.int k' r))) H) :=
  opR_pure fun c w a _ hops => by
    have h1 := hops x (by simp [Op.operands])
    rw [hx] at h1
    have e1 := h1.v_eq
    refine ⟨.int k' r, ?_, .d (.v _ rfl)⟩
    obtain ⟨d, hd'⟩ := Option.isSome_iff_exists.1 hs
    simp [execOp, e1, convert, run_underlying hd, run_underlying hd', Conv.intToInt, hr]
end
theorem op_max {x y : Operand} {ts : Array TypeId} {k k' : IntKind} {m n : Int} (hx : E x = .d (.v (.int k m))) (hy : E y = .d (.v (.int k' n))) :
    OpR P ⟨dst, .call ⟨.builtin .max, #[x, y], ts⟩, ty, pos, after, gd⟩ E H (Ret (.d (.v (.int k (if n > m then n else m)))) H) :=
  opR_pure fun c w a _ hops => by
    have h1 := hops x (by simp [Op.operands, Call.operands])
    have h2 := hops y (by simp [Op.operands, Call.operands])
    rw [hx] at h1
    rw [hy] at h2
    refine ⟨_, ?_, .d (.v _ rfl)⟩
    simp [execOp, resolve, invoke, builtin, h1.v_eq, h2.v_eq, Builtin.max_, Builtin.max2]
theorem op_pick {x y z : Operand} {b : Bool} (hx : E x = .d (.v (.bool b))) : OpR P ⟨dst, .pick x y z, ty, pos, after, gd⟩ E H (Ret (if b then E y else E z) H) :=
  opR_pure fun c w a _ hops => by
    have h1 := hops x (by simp [Op.operands])
    rw [hx] at h1
    cases b with
    | true => exact ⟨a.eval y, by simp [execOp, h1.v_eq, asBool], hops y (by simp [Op.operands])⟩
    | false => exact ⟨a.eval z, by simp [execOp, h1.v_eq, asBool], hops z (by simp [Op.operands])⟩
theorem str_size (l : List UInt8) : (⟨l.toArray⟩ : ByteArray).size = l.length := by simp [ByteArray.size]
theorem op_lenS {x : Operand} {t : TypeId} {l : List UInt8} (ht : P.underlying t = some .string) (hx : E x = .d (S l)) : OpR P ⟨dst, .call ⟨.builtin .len, #[x], #[t]⟩, ty, pos, after, gd⟩ E H (Ret (.d (I l.length)) H) :=
  opR_pure fun c w a _ hops => by
    have h1 := hops x (by simp [Op.operands, Call.operands])
    rw [hx] at h1
    refine ⟨_, ?_, .d (.v _ rfl)⟩
    simp [execOp, resolve, invoke, builtin, h1.v_eq, Builtin.len_, run_underlying ht, goInt, str_size]
theorem op_indexS {x y : Operand} {t : TypeId} {k : IntKind} {l : List UInt8} {n : Int} {b : UInt8} (ht : P.underlying t = some .string) (hx : E x = .d (S l)) (hy : E y = .d (.v (.int k n))) (h0 : 0 ≤ n) (hb : l[n.toNat]? = some b) :
    OpR P ⟨dst, .index t x y, ty, pos, after, gd⟩ E H (Ret (.d (BY b)) H) :=
  opR_pure fun c w a _ hops => by
    have h1 := hops x (by simp [Op.operands])
    have h2 := hops y (by simp [Op.operands])
    rw [hx] at h1
    rw [hy] at h2
    refine ⟨_, ?_, .d (.v _ rfl)⟩
    have hlt : n.toNat < l.length := (List.getElem?_eq_some_iff.1 hb).1
    have hg : (⟨l.toArray⟩ : ByteArray)[n.toNat]? = some b := by
      have hs : n.toNat < (⟨l.toArray⟩ : ByteArray).size := by rw [str_size]; exact hlt
      rw [getElem?_pos (⟨l.toArray⟩ : ByteArray) n.toNat hs]
      have := (List.getElem?_eq_some_iff.1 hb).2
      simp [ByteArray.getElem_eq_getElem_data, this]
    simp [execOp, h1.v_eq, h2.v_eq, Instr.index, run_underlying ht, asIntOf, h0, hg]
theorem extract_str (l : List UInt8) (i j : Nat) : (⟨l.toArray⟩ : ByteArray).extract i j = ⟨((l.drop i).take (j - i)).toArray⟩ := by
  apply ByteArray.ext
  apply Array.ext'
  rw [Lib.extract_data]
theorem bound_ok {k : IntKind} {n : Int} {y : Nat} {code : BoundsCode} (w : World) (h0 : 0 ≤ n) (h1 : n ≤ y) : (Instr.sliceBound (.int k n) y code).run P w = .ok n.toNat w := by
  simp [Instr.sliceBound, asIntOf, h0, h1]
theorem op_sliceS2 {x y z : Operand} {t : TypeId} {k k' : IntKind} {l : List UInt8} {i j : Int} (r : List UInt8) (ht : P.underlying t = some .string) (hx : E x = .d (S l)) (hy : E y = .d (.v (.int k i))) (hz : E z = .d (.v (.int k' j))) (h0 : 0 ≤ i) (h1 : i ≤ j) (h2 : j ≤ l.length)
    (hr : (l.drop i.toNat).take (j.toNat - i.toNat) = r) : OpR P ⟨dst, .slice t x (some y) (some z) none, ty, pos, after, gd⟩ E H (Ret (.d (S r)) H) :=
  opR_pure fun c w a _ hops => by
    have q1 := hops x (by simp [Op.operands])
    have q2 := hops y (by simp [Op.operands])
    have q3 := hops z (by simp [Op.operands])
    rw [hx] at q1
    rw [hy] at q2
    rw [hz] at q3
    refine ⟨_, ?_, .d (.v _ rfl)⟩
    have e1 := bound_ok (P := P) (k := k') (y := l.length) (code := .sliceAlen) w (show 0 ≤ j by omega) h2
    have e2 := bound_ok (P := P) (k := k) (y := j.toNat) (code := .sliceB) w h0 (by omega)
    simp [execOp, q1.v_eq, q2.v_eq, q3.v_eq, Instr.sliceAt, Instr.slice, Instr.sliceBounds, run_underlying ht, str_size, e1, e2, extract_str, hr]
theorem op_sliceS1 {x y : Operand} {t : TypeId} {k : IntKind} {l : List UInt8} {i : Int} (r : List UInt8) (ht : P.underlying t = some .string) (hx : E x = .d (S l)) (hy : E y = .d (.v (.int k i))) (h0 : 0 ≤ i) (h2 : i ≤ l.length)
    (hr : l.drop i.toNat = r) : OpR P ⟨dst, .slice t x (some y) none none, ty, pos, after, gd⟩ E H (Ret (.d (S r)) H) :=
  opR_pure fun c w a _ hops => by
    have q1 := hops x (by simp [Op.operands])
    have q2 := hops y (by simp [Op.operands])
    rw [hx] at q1
    rw [hy] at q2
    refine ⟨_, ?_, .d (.v _ rfl)⟩
    have e2 := bound_ok (P := P) (k := k) (y := l.length) (code := .sliceB) w h0 h2
    have e3 : (l.drop i.toNat).take (l.length - i.toNat) = r := by rw [← hr]; exact List.take_of_length_le (by simp)
    simp [execOp, q1.v_eq, q2.v_eq, Instr.sliceAt, Instr.slice, Instr.sliceBounds, run_underlying ht, str_size, e2, extract_str, e3]
theorem op_sliceS0 {x z : Operand} {t : TypeId} {k' : IntKind} {l : List UInt8} {j : Int} (r : List UInt8) (ht : P.underlying t = some .string) (hx : E x = .d (S l)) (hz : E z = .d (.v (.int k' j))) (h0 : 0 ≤ j) (h2 : j ≤ l.length)
    (hr : l.take j.toNat = r) : OpR P ⟨dst, .slice t x none (some z) none, ty, pos, after, gd⟩ E H (Ret (.d (S r)) H) :=
  opR_pure fun c w a _ hops => by
    have q1 := hops x (by simp [Op.operands])
    have q3 := hops z (by simp [Op.operands])
    rw [hx] at q1
    rw [hz] at q3
    refine ⟨_, ?_, .d (.v _ rfl)⟩
    have e1 := bound_ok (P := P) (k := k') (y := l.length) (code := .sliceAlen) w h0 h2
    have e3 : (l.drop 0).take (j.toNat - 0) = r := by simpa using hr
    simp only [List.drop_zero, Nat.sub_zero] at e3
    simp [execOp, q1.v_eq, q3.v_eq, Instr.sliceAt, Instr.slice, Instr.sliceBounds, run_underlying ht, str_size, e1, extract_str, e3]
theorem op_extract {x : Operand} {i : Nat} {cs : List AV} {v : AV} (hx : E x = .tup cs) (hv : cs[i]? = some v) : OpR P ⟨dst, .extract x i, ty, pos, after, gd⟩ E H (Ret v H) :=
  opR_pure fun c w a _ hops => by
    have h1 := hops x (by simp [Op.operands])
    rw [hx] at h1
    have hlt : i < cs.length := (List.getElem?_eq_some_iff.1 hv).1
    cases hq : a.eval x with
    | tuple vs =>
      rw [hq] at h1
      cases h1 with
      | tup _ _ hl h =>
      have h2 := h i hlt
      rw [(List.getElem?_eq_some_iff.1 hv).2] at h2
      refine ⟨vs.getD i undef, ?_, h2⟩
      have : i < vs.size := by omega
      simp [execOp, hq, Instr.extract, this]
    | _ => rw [hq] at h1; cases h1
theorem op_makeFunc {f0 : FuncId} {first cap : Array Operand} : OpR P ⟨dst, .makeFunc (.func f0) first cap, ty, pos, after, gd⟩ E H (Ret (.fn (.func f0) (first.toList.map E) (cap.toList.map E)) H) :=
  opR_pure fun c w a _ hops => by
    refine ⟨_, rfl, .fn _ _ _ _ _ (by simp) (fun i hi => ?_) (by simp) (fun i hi => ?_)⟩
    · have hi' : i < first.size := by simpa using hi
      have := hops first[i] (by simp [Op.operands])
      simpa [hi'] using this
    · have hi' : i < cap.size := by simpa using hi
      have := hops cap[i] (by simp [Op.operands])
      simpa [hi'] using this
def notAgg : TypeDesc → Bool
  | .struct _ => false
  | .array _ _ => false
  | _ => true
theorem run_isAgg {t : TypeId} {d : TypeDesc} (ht : P.underlying t = some d) (w : World) : (isAgg t).run P w = .ok (!notAgg d) w := by
  unfold isAgg
  rw [Sem.run_bind, run_underlying ht w]
  cases d <;> rfl
theorem run_sizeOf {t : TypeId} {n : Nat} (h : (P.info? t).map (·.size) = some n) (w : World) : (sizeOf t).run P w = .ok n w := by
  obtain ⟨i, h1, h2⟩ := Option.map_eq_some_iff.1 h
  simp [sizeOf, typeInfo, h1, h2]
theorem run_load_one {t : TypeId} {d : TypeDesc} (ht : P.underlying t = some d) (hd : notAgg d = true) {g o : Nat} {v : Value} (w : World) (h : w.cell? ⟨g, o, none⟩ = some v) : (loadVar t ⟨g, o, none⟩).run P w = .ok v w := by
  simp [loadVar, run_isAgg ht, hd, load, Sem.run, h]
theorem run_load_agg {t : TypeId} {d : TypeDesc} (ht : P.underlying t = some d) (hd : notAgg d = false) {n : Nat} (hn : (P.info? t).map (·.size) = some n) {g o : Nat} (cs : List Value) (hl : cs.length = n) (w : World) (h : ∀ j u, cs[j]? = some u → w.cell? ⟨g, o + j, none⟩ = some u) :
    (loadVar t ⟨g, o, none⟩).run P w = .ok (.agg cs.toArray) w := by
  have hc := run_loadCells_list (P := P) w ⟨g, o, none⟩ cs (fun j v hv => by rw [addr_add]; exact h j v hv)
  rw [hl] at hc
  simp [loadVar, run_isAgg ht, hd, run_sizeOf hn, hc]
theorem Rep.elt_inv {c : Ctx} {x : Value} {cs : List DV} (h : Rep c x (.elt cs)) : ∃ (g o : Nat) (us : Nat → Value), x = .pointer (some ⟨g, o, none⟩) ∧ (∀ y ∈ cs, y.one = true) ∧ (∀ i, i < cs.length → c.mem g (o + i) = some (us i)) ∧ ∀ i (hi : i < cs.length), RepD c.mem (us i) cs[i] := by
  cases h with
  | elt g o cs us h1 hm h => exact ⟨g, o, us, rfl, h1, hm, h⟩
theorem Rep.ptr_inv {c : Ctx} {x : Value} {id off : Nat} (h : Rep c x (.ptr id off)) : ∃ g, x = .pointer (some ⟨g, off, none⟩) ∧ c.blk[id]? = some g := by
  cases h with
  | ptr id off g h => exact ⟨g, rfl, h⟩
theorem op_load_elt {x : Operand} {t : TypeId} {d : TypeDesc} {cs : List DV} {y : DV} (ht : P.underlying t = some d) (hd : notAgg d = true) (hx : E x = .elt cs) (hy : cs[0]? = some y) : OpR P ⟨dst, .load t x, ty, pos, after, gd⟩ E H (Ret (.d y) H) :=
  opR_pure fun c w a hm hops => by
    have h1 := hops x (by simp [Op.operands])
    rw [hx] at h1
    obtain ⟨g, o, us, e, hone, hmem, hrep⟩ := h1.elt_inv
    have hlt : 0 < cs.length := (List.getElem?_eq_some_iff.1 hy).1
    have hr := hrep 0 hlt
    rw [(List.getElem?_eq_some_iff.1 hy).2] at hr
    refine ⟨us 0, ?_, .d hr⟩
    have hc := hm g o (us 0) (by simpa using hmem 0 hlt)
    simp [execOp, e, Instr.loadAt, Instr.sureAddr, run_load_one ht hd w hc]
theorem op_load_elts {x : Operand} {t : TypeId} {d : TypeDesc} {cs ds : List DV} {n : Nat} (ht : P.underlying t = some d) (hd : notAgg d = false) (hn : (P.info? t).map (·.size) = some n) (hx : E x = .elt cs) (hl : n ≤ cs.length) (hds : cs.take n = ds) :
    OpR P ⟨dst, .load t x, ty, pos, after, gd⟩ E H (Ret (.d (.agg ds)) H) :=
  opR_pure fun c w a hm hops => by
    have h1 := hops x (by simp [Op.operands])
    rw [hx] at h1
    obtain ⟨g, o, us, e, hone, hmem, hrep⟩ := h1.elt_inv
    subst hds
    refine ⟨.agg ((List.range n).map us).toArray, ?_, .d (.agg _ _ (by simp [hl]) (fun y hy => hone y (List.mem_of_mem_take hy)) fun i hi => ?_)⟩
    · have := run_load_agg (P := P) ht hd hn (g := g) (o := o) ((List.range n).map us) (by simp) w (fun j u hu => by
        have hj : j < n := by have := (List.getElem?_eq_some_iff.1 hu).1; simpa using this
        have : u = us j := by simp [hj] at hu; exact hu.symm
        subst this
        exact hm _ _ _ (hmem j (by omega)))
      simp [execOp, e, Instr.loadAt, Instr.sureAddr, this]
    · have hi' : i < n := by simp at hi; omega
      have := hrep i (by omega)
      simpa [hi'] using this
theorem Inv.cell {B : Nat} {w0 w : World} {c : Ctx} (h : Inv B w0 c H w) {id g : Nat} (hg : c.blk[id]? = some g) {b : HB} (hb : H.blks[id]? = some b) {off : Nat} {v : AV} (hv : b.cs[off]? = some v) : ∃ u, w.cell? ⟨g, off, none⟩ = some u ∧ Rep c u v := by
  obtain ⟨_, _, cur, fr, hw, hl, _, hr⟩ := h.blk id g b hg hb
  have hlt : off < b.cs.length := (List.getElem?_eq_some_iff.1 hv).1
  have h1 := hr off hlt
  rw [(List.getElem?_eq_some_iff.1 hv).2] at h1
  have hs : off < cur.size := by omega
  exact ⟨cur.getD off undef, by simp [World.cell?, hw, hs], h1⟩
theorem op_load_ptr {x : Operand} {t : TypeId} {d : TypeDesc} {id off : Nat} {b : HB} {v : AV} (ht : P.underlying t = some d) (hd : notAgg d = true) (hx : E x = .ptr id off) (hb : H.blks[id]? = some b) (hv : b.cs[off]? = some v) :
    OpR P ⟨dst, .load t x, ty, pos, after, gd⟩ E H (Ret v H) :=
  opR_value fun B w0 c w a hI hops => by
    have h1 := hops x (by simp [Op.operands])
    rw [hx] at h1
    obtain ⟨g, e, hg⟩ := h1.ptr_inv
    obtain ⟨u, hc, hr⟩ := hI.cell hg hb hv
    refine ⟨u, w, c, v, H, ?_, Le.refl c, hr, hI, rfl, rfl⟩
    simp [execOp, e, Instr.loadAt, Instr.sureAddr, run_load_one ht hd w hc]
theorem op_load_ptrs {x : Operand} {t : TypeId} {d : TypeDesc} {id off n : Nat} {b : HB} {vs : List AV} (ht : P.underlying t = some d) (hd : notAgg d = false) (hn : (P.info? t).map (·.size) = some n) (hx : E x = .ptr id off) (hb : H.blks[id]? = some b)
    (hl : off + n ≤ b.cs.length) (hvs : (b.cs.drop off).take n = vs) : OpR P ⟨dst, .load t x, ty, pos, after, gd⟩ E H (Ret (.agg vs) H) :=
  opR_value fun B w0 c w a hI hops => by
    have h1 := hops x (by simp [Op.operands])
    rw [hx] at h1
    obtain ⟨g, e, hg⟩ := h1.ptr_inv
    subst hvs
    have hall : ∀ j, j < n → ∃ u, w.cell? ⟨g, off + j, none⟩ = some u ∧ ∃ v, b.cs[off + j]? = some v ∧ Rep c u v := fun j hj => by
      have hlt : off + j < b.cs.length := by omega
      obtain ⟨u, h2, h3⟩ := hI.cell hg hb (List.getElem?_eq_getElem hlt)
      exact ⟨u, h2, _, List.getElem?_eq_getElem hlt, h3⟩
    let f : Nat → Value := fun j => (w.cell? ⟨g, off + j, none⟩).getD undef
    refine ⟨.agg ((List.range n).map f).toArray, w, c, _, H, ?_, Le.refl c, .agg _ _ (by simp; omega) (fun i hi => ?_), hI, rfl, rfl⟩
    · have := run_load_agg (P := P) ht hd hn (g := g) (o := off) ((List.range n).map f) (by simp) w (fun j u hu => by
        have hj : j < n := by have := (List.getElem?_eq_some_iff.1 hu).1; simpa using this
        have : u = f j := by simp [hj] at hu; exact hu.symm
        subst this
        obtain ⟨u, h2, _⟩ := hall j hj
        simp [f, h2])
      simp [execOp, e, Instr.loadAt, Instr.sureAddr, this]
    · have hi' : i < n := by simp at hi; omega
      obtain ⟨u, h2, v, h3, h4⟩ := hall i hi'
      have e1 : (((List.range n).map f).toArray).getD i undef = u := by simp [hi', f, h2]
      rw [e1]
      have e2 : ((b.cs.drop off).take n)[i] = v := by
        rw [List.getElem_take, List.getElem_drop]
        have := (List.getElem?_eq_some_iff.1 h3).2
        exact this
      rw [e2]
      exact h4
theorem op_fieldAddr_elt {x : Operand} {t : TypeId} {i : Nat} {fs : Array Field} {f : Field} {n : Nat} {cs ds : List DV} (ht : P.underlying t = some (.struct fs)) (hf : fs[i]? = some f) (hn : (P.info? f.type).map (·.size) = some n) (hn0 : (n == 0) = false) (hx : E x = .elt cs)
    (hds : cs.drop f.offset = ds) : OpR P ⟨dst, .fieldAddr t x i, ty, pos, after, gd⟩ E H (Ret (.elt ds) H) :=
  opR_pure fun c w a hm hops => by
    have h1 := hops x (by simp [Op.operands])
    rw [hx] at h1
    obtain ⟨g, o, us, e, hone, hmem, hrep⟩ := h1.elt_inv
    subst hds
    have hn0' : n ≠ 0 := by simpa using hn0
    refine ⟨.pointer (some ⟨g, o + f.offset, none⟩), ?_, .elt g (o + f.offset) _ (fun j => us (f.offset + j)) (fun y hy => hone y (List.mem_of_mem_drop hy)) (fun j hj => ?_) (fun j hj => ?_)⟩
    · simp [execOp, e, Instr.fieldAt, run_underlying ht, hf, Instr.sureAddr, fieldPlace, run_sizeOf hn, hn0', addr_add]
    · simp at hj
      rw [Nat.add_assoc]
      exact hmem (f.offset + j) (by omega)
    · simp at hj
      rw [List.getElem_drop]
      exact hrep (f.offset + j) (by omega)
theorem op_fieldAddr_ptr {x : Operand} {t : TypeId} {i : Nat} {fs : Array Field} {f : Field} {n id off : Nat} (ht : P.underlying t = some (.struct fs)) (hf : fs[i]? = some f) (hn : (P.info? f.type).map (·.size) = some n) (hn0 : (n == 0) = false) (hx : E x = .ptr id off) :
    OpR P ⟨dst, .fieldAddr t x i, ty, pos, after, gd⟩ E H (Ret (.ptr id (off + f.offset)) H) :=
  opR_pure fun c w a hm hops => by
    have h1 := hops x (by simp [Op.operands])
    rw [hx] at h1
    obtain ⟨g, e, hg⟩ := h1.ptr_inv
    have hn0' : n ≠ 0 := by simpa using hn0
    refine ⟨.pointer (some ⟨g, off + f.offset, none⟩), ?_, .ptr id _ g hg⟩
    simp [execOp, e, Instr.fieldAt, run_underlying ht, hf, Instr.sureAddr, fieldPlace, run_sizeOf hn, hn0', addr_add]
theorem op_nilCheck_ptr {x : Operand} {id off : Nat} (hx : E x = .ptr id off) : OpR P ⟨dst, .nilCheck x, ty, pos, after, gd⟩ E H (Ret (.ptr id off) H) :=
  opR_pure fun c w a hm hops => by
    have h1 := hops x (by simp [Op.operands])
    rw [hx] at h1
    obtain ⟨g, e, hg⟩ := h1.ptr_inv
    exact ⟨_, by simp [execOp, e], .ptr id _ g hg⟩
theorem op_nilCheck_elt {x : Operand} {cs : List DV} (hx : E x = .elt cs) : OpR P ⟨dst, .nilCheck x, ty, pos, after, gd⟩ E H (Ret (.elt cs) H) :=
  opR_pure fun c w a hm hops => by
    have h1 := hops x (by simp [Op.operands])
    rw [hx] at h1
    obtain ⟨g, o, us, e, hone, hmem, hrep⟩ := h1.elt_inv
    exact ⟨.pointer (some ⟨g, o, none⟩), by simp [execOp, e], by rw [← e]; exact h1⟩
theorem op_ptr_nil {x y : Operand} {t t' el : TypeId} {id off : Nat} (ht : P.underlying t = some (.pointer el)) (hx : E x = .ptr id off) (hy : E y = .d (.v (.pointer none))) : OpR P ⟨dst, .binOp .eql t x y t', ty, pos, after, gd⟩ E H (Ret (.d (TF false)) H) :=
  opR_pure fun c w a hm hops => by
    have h1 := hops x (by simp [Op.operands])
    have h2 := hops y (by simp [Op.operands])
    rw [hx] at h1
    rw [hy] at h2
    obtain ⟨g, e, hg⟩ := h1.ptr_inv
    refine ⟨.bool false, ?_, .d (.v _ rfl)⟩
    have hb : (binOp .eql t (.pointer (some ⟨g, off, none⟩)) (.pointer none)).run P w = .ok (.bool false) w := by
      simp only [binOp]
      simp [Op.equal, Op.maxDepth, equalIn_ptr w 9999 ht]
    simp [execOp, e, h2.v_eq, eqGuard, hb]
theorem op_ptr_some {x y : Operand} {t t' el : TypeId} {id off : Nat} (ht : P.underlying t = some (.pointer el)) (hx : E x = .ptr id off) (hy : E y = .d (.v (.pointer none))) : OpR P ⟨dst, .binOp .neq t x y t', ty, pos, after, gd⟩ E H (Ret (.d (TF true)) H) :=
  opR_pure fun c w a hm hops => by
    have h1 := hops x (by simp [Op.operands])
    have h2 := hops y (by simp [Op.operands])
    rw [hx] at h1
    rw [hy] at h2
    obtain ⟨g, e, hg⟩ := h1.ptr_inv
    refine ⟨.bool true, ?_, .d (.v _ rfl)⟩
    have hb : (binOp .neq t (.pointer (some ⟨g, off, none⟩)) (.pointer none)).run P w = .ok (.bool true) w := by
      simp only [binOp]
      simp [Op.equal, Op.maxDepth, equalIn_ptr w 9999 ht]
    simp [execOp, e, h2.v_eq, eqGuard, hb]
end
end Go.AV
namespace Go.AV
open Go.RowKit
inductive LL : AV → Nat → List DV → Prop
  | d (sz : Nat) (xs : List DV) : LL (.d (.lst sz xs)) sz xs
  | own (t : Option Nat) (sz : Nat) (xs : List DV) : LL (.own t sz xs) sz xs
  | nil (sz : Nat) : LL nilS sz []
theorem LL.rep {c : Ctx} {x : Value} {v : AV} {sz : Nat} {xs : List DV} (h : LL v sz xs) (hr : Rep c x v) : ∃ a n cap, x = .slice a n cap ∧ RepD c.mem (.slice a n cap) (.lst sz xs) := by
  cases h with
  | d =>
    cases hr with
    | d h =>
      cases h with
      | lst g o n cap sz xs us hn hc hsz h1 hm h => exact ⟨_, _, _, rfl, .lst g o n cap sz xs us hn hc hsz h1 hm h⟩
      | lstE a cap sz => exact ⟨_, _, _, rfl, .lstE a cap sz⟩
  | own =>
    cases hr with
    | own0 sz => exact ⟨_, _, _, rfl, .lstE _ _ _⟩
    | own1 g o n sz xs h => exact ⟨_, _, _, rfl, h⟩
    | ownt i e g n cap sz xs h => exact ⟨_, _, _, rfl, h⟩
  | nil sz => rw [hr.v_eq]; exact ⟨_, _, _, rfl, .lstE _ _ _⟩
theorem RepD.lst_len {m : Mem} {a : Option Addr} {n cap sz : Nat} {xs : List DV} (h : RepD m (.slice a n cap) (.lst sz xs)) : xs.length = n ∧ n ≤ cap := by
  cases h with
  | lst g o n cap sz xs us hn hc => exact ⟨hn, hc⟩
  | lstE => exact ⟨rfl, Nat.zero_le _⟩
section
variable {P : Program} {E : Operand → AV} {H : HS} {R : AV → HS → Prop} {dst : Option Tmp} {ty : TypeId} {pos : String} {after : Array Edge} {gd : Option (Nat × Bool)}
theorem op_lenL {x : Operand} {t e : TypeId} {sz : Nat} {xs : List DV} (ht : P.underlying t = some (.slice e)) (hx : LL (E x) sz xs) : OpR P ⟨dst, .call ⟨.builtin .len, #[x], #[t]⟩, ty, pos, after, gd⟩ E H (Ret (.d (I xs.length)) H) :=
  opR_pure fun c w a _ hops => by
    obtain ⟨ad, n, cap, e1, h⟩ := hx.rep (hops x (by simp [Op.operands, Call.operands]))
    refine ⟨_, ?_, .d (.v _ rfl)⟩
    simp [execOp, resolve, invoke, builtin, e1, Builtin.len_, run_underlying ht, goInt, h.lst_len.1]
theorem op_indexAddr {x y : Operand} {t e : TypeId} {sz : Nat} {xs : List DV} {k : IntKind} {n : Int} {z : DV} {cs : List DV} (ht : P.underlying t = some (.slice e)) (hn : (P.info? e).map (·.size) = some sz) (hx : LL (E x) sz xs) (hy : E y = .d (.v (.int k n))) (h0 : 0 ≤ n)
    (hz : xs[n.toNat]? = some z) (hcs : z.cells = cs) : OpR P ⟨dst, .indexAddr t x y, ty, pos, after, gd⟩ E H (Ret (.elt cs) H) :=
  opR_pure fun c w a hm hops => by
    obtain ⟨ad, m, cap, e1, h⟩ := hx.rep (hops x (by simp [Op.operands]))
    have h2 := hops y (by simp [Op.operands])
    rw [hy] at h2
    have hlt : n.toNat < xs.length := (List.getElem?_eq_some_iff.1 hz).1
    cases h with
    | lstE => simp at hlt
    | lst g o m cap sz xs us hm1 hc hsz h1 hmem hrep =>
      have hfl := flat_length hsz
      have hbase : ∀ j, j < sz → n.toNat * sz + j < (flat xs).length := by
        intro j hj
        rw [hfl]
        have : (n.toNat + 1) * sz ≤ xs.length * sz := Nat.mul_le_mul_right _ hlt
        rw [Nat.add_mul] at this
        omega
      have hzl : z.cells.length = sz := by rw [← (List.getElem?_eq_some_iff.1 hz).2]; exact hsz _ (List.getElem_mem hlt)
      have hget : ∀ j (hj : j < sz), (flat xs)[n.toNat * sz + j]? = z.cells[j]? := by
        intro j hj
        rw [flat_get hsz n.toNat hlt j hj, (List.getElem?_eq_some_iff.1 hz).2]
      subst hcs
      refine ⟨.pointer (some ⟨g, o + n.toNat * sz, none⟩), ?_, .elt g _ _ (fun j => us (n.toNat * sz + j)) (fun y hy => ?_) (fun j hj => ?_) (fun j hj => ?_)⟩
      · have hlt' : n < (m : Int) := by omega
        simp [execOp, e1, h2.v_eq, Instr.indexAt, asIntOf, run_underlying ht, h0, hlt', run_sizeOf hn, addr_add]
      · obtain ⟨j, hj, rfl⟩ := List.getElem_of_mem hy
        have := hget j (by omega)
        rw [List.getElem?_eq_getElem hj, List.getElem?_eq_getElem (hbase j (by omega))] at this
        rw [← Option.some.inj this]
        exact h1 _ (List.getElem_mem _)
      · rw [Nat.add_assoc]
        exact hmem _ (hbase j (by omega))
      · have := hget j (by omega)
        rw [List.getElem?_eq_getElem hj, List.getElem?_eq_getElem (hbase j (by omega))] at this
        have h3 := hrep _ (hbase j (by omega))
        rwa [Option.some.inj this] at h3
theorem RepD.sub {m : Mem} {a : Option Addr} {n cap sz : Nat} {xs : List DV} (h : RepD m (.slice a n cap) (.lst sz xs)) {l k : Nat} (hl : l ≤ k) (hk : k ≤ n) :
    RepD m (.slice (if cap = l then a else a.map (·.add (l * sz))) (k - l) (cap - l)) (.lst sz ((xs.drop l).take (k - l))) := by
  by_cases hlk : k - l = 0
  · rw [hlk]
    simp only [List.take_zero]
    exact .lstE _ _ _
  · cases h with
    | lstE => omega
    | lst g o n cap sz xs us hn hc hsz h1 hmem hrep =>
      rw [if_neg (by omega)]
      have hsz' : ∀ x ∈ (xs.drop l).take (k - l), x.cells.length = sz := fun x hx => hsz x (List.mem_of_mem_drop (List.mem_of_mem_take hx))
      have hlen : ((xs.drop l).take (k - l)).length = k - l := by simp; omega
      have hfl := flat_length hsz
      have hfl' := flat_length hsz'
      have hb : ∀ i, i < (flat ((xs.drop l).take (k - l))).length → l * sz + i < (flat xs).length := by
        intro i hi
        rw [hfl', hlen] at hi
        rw [hfl]
        have : (l + (k - l)) * sz ≤ xs.length * sz := Nat.mul_le_mul_right _ (by omega)
        rw [Nat.add_mul] at this
        omega
      have hget : ∀ i, i < (flat ((xs.drop l).take (k - l))).length → (flat ((xs.drop l).take (k - l)))[i]? = (flat xs)[l * sz + i]? := by
        intro i hi
        rw [hfl', hlen] at hi
        have hsp : 0 < sz := by
          rcases Nat.eq_zero_or_pos sz with h0 | h0
          · subst h0; simp at hi
          · exact h0
        have e1 : i = (i / sz) * sz + i % sz := by rw [Nat.mul_comm]; exact (Nat.div_add_mod i sz).symm
        have e2 : i % sz < sz := Nat.mod_lt _ hsp
        have e3 : i / sz < k - l := by rw [Nat.div_lt_iff_lt_mul hsp]; exact hi
        have e4 : l * sz + i = (l + i / sz) * sz + i % sz := by rw [Nat.add_mul]; omega
        rw [e4, flat_get hsz (l + i / sz) (by omega) _ e2]
        rw [show (flat ((xs.drop l).take (k - l)))[i]? = (flat ((xs.drop l).take (k - l)))[i / sz * sz + i % sz]? from by rw [← e1]]
        rw [flat_get hsz' (i / sz) (by omega) _ e2]
        simp
      have ha : Option.map (fun x => x.add (l * sz)) (some (⟨g, o, none⟩ : Addr)) = some ⟨g, o + l * sz, none⟩ := by simp [addr_add]
      rw [ha]
      refine .lst g (o + l * sz) (k - l) (cap - l) sz _ (fun i => us (l * sz + i)) hlen (by omega) hsz' (fun x hx => ?_) (fun i hi => ?_) (fun i hi => ?_)
      · obtain ⟨i, hi, rfl⟩ := List.getElem_of_mem hx
        have := hget i hi
        rw [List.getElem?_eq_getElem hi, List.getElem?_eq_getElem (hb i hi)] at this
        rw [Option.some.inj this]
        exact h1 _ (List.getElem_mem _)
      · rw [Nat.add_assoc]
        exact hmem _ (hb i hi)
      · have := hget i hi
        rw [List.getElem?_eq_getElem hi, List.getElem?_eq_getElem (hb i hi)] at this
        rw [Option.some.inj this]
        exact hrep _ (hb i hi)
theorem op_sliceL0 {x z : Operand} {t e : TypeId} {sz : Nat} {xs : List DV} {k' : IntKind} {j : Int} (r : List DV) (ht : P.underlying t = some (.slice e)) (hn : (P.info? e).map (·.size) = some sz) (hx : LL (E x) sz xs) (hz : E z = .d (.v (.int k' j)))
    (h1 : 0 ≤ j) (h2 : j ≤ xs.length) (hr : xs.take j.toNat = r) : OpR P ⟨dst, .slice t x none (some z) none, ty, pos, after, gd⟩ E H (Ret (.d (.lst sz r)) H) :=
  opR_pure fun c w a _ hops => by
    obtain ⟨ad, m, cap, e1, h⟩ := hx.rep (hops x (by simp [Op.operands]))
    have q3 := hops z (by simp [Op.operands])
    rw [hz] at q3
    have hl := h.lst_len
    have hr' : (xs.drop 0).take (j.toNat - 0) = r := by simpa using hr
    refine ⟨_, ?_, .d (hr' ▸ h.sub (l := 0) (k := j.toNat) (by omega) (by omega))⟩
    have b1 := bound_ok (P := P) (k := k') (y := cap) (code := .sliceAcap) w (show 0 ≤ j by omega) (by omega)
    simp [execOp, e1, q3.v_eq, Instr.sliceAt, Instr.slice, Instr.sliceBounds, run_underlying ht, b1, run_sizeOf hn]
theorem RepD.cells {m : Mem} {x : Value} {y : DV} (h : RepD m x y) : x.cells.size = y.cells.length ∧ (∀ z ∈ y.cells, z.one = true) ∧ ∀ i (hi : i < y.cells.length), RepD m (x.cells.getD i undef) y.cells[i] := by
  cases h with
  | v x h =>
    have hc : x.cells = #[x] := by cases x <;> first | rfl | (simp [plain] at h)
    rw [hc]
    refine ⟨rfl, by simp [DV.cells, DV.one], fun i hi => ?_⟩
    simp [DV.cells] at hi
    subst hi
    exact .v x h
  | agg vs cs hl h1 h => exact ⟨hl, h1, h⟩
  | lst g o n cap sz xs us hn hc hsz h1 hmem hrep =>
    refine ⟨rfl, by simp [DV.cells, DV.one], fun i hi => ?_⟩
    simp [DV.cells] at hi
    subst hi
    exact .lst g o n cap sz xs us hn hc hsz h1 hmem hrep
  | lstE a cap sz =>
    refine ⟨rfl, by simp [DV.cells, DV.one], fun i hi => ?_⟩
    simp [DV.cells] at hi
    subst hi
    exact .lstE a cap sz
theorem Rep.cells {c : Ctx} {x : Value} {y : AV} (h : Rep c x y) (hu : y ≠ .un) : x.cells.size = y.cells.length ∧ ∀ i (hi : i < y.cells.length), Rep c (x.cells.getD i undef) y.cells[i] := by
  have lone : ∀ (x : Value) (y : AV), Rep c x y → x.cells = #[x] → y.cells = [y] → x.cells.size = y.cells.length ∧ ∀ i (hi : i < y.cells.length), Rep c (x.cells.getD i undef) y.cells[i] := by
    intro x y h e1 e2
    rw [e1]
    refine ⟨by rw [e2]; rfl, fun i hi => ?_⟩
    have hi' : i < 1 := by rw [e2] at hi; exact hi
    have : i = 0 := by omega
    subst this
    have : y.cells[0] = y := by simp [e2]
    rw [this]
    exact h
  cases h with
  | un => exact absurd rfl hu
  | nv => exact lone _ _ .nv rfl rfl
  | @d x y h =>
    have hd := h.cells
    cases y with
    | v X => 
      have := h.v_eq
      subst this
      cases h with
      | v _ hp =>
        refine lone _ _ (.d (.v x hp)) ?_ rfl
        cases x <;> first | rfl | (simp [plain] at hp)
    | lst sz xs =>
      refine lone _ _ (.d h) ?_ rfl
      cases h <;> rfl
    | agg cs =>
      refine ⟨by rw [hd.1]; simp [DV.cells, AV.cells], fun i hi => ?_⟩
      simp [AV.cells] at hi
      have h2 : RepD c.mem (x.cells.getD i undef) cs[i] := hd.2.2 i hi
      have e : (AV.cells (.d (.agg cs)))[i]'(by simp [AV.cells, hi]) = .d cs[i] := by simp [AV.cells]
      rw [e]
      exact .d h2
  | own0 sz => exact lone _ _ (.own0 sz) rfl rfl
  | own1 g o n sz xs h => exact lone _ _ (.own1 g o n sz xs h) rfl rfl
  | ownt i e g n cap sz xs h ht hn he => exact lone _ _ (.ownt i e g n cap sz xs h ht hn he) rfl rfl
  | elt g o cs us h1 hm h => exact lone _ _ (.elt g o cs us h1 hm h) rfl rfl
  | ptr id off g h => exact lone _ _ (.ptr id off g h) rfl rfl
  | arr id n cap g h => exact lone _ _ (.arr id n cap g h) rfl rfl
  | sub id off n cap g h => exact lone _ _ (.sub id off n cap g h) rfl rfl
  | agg vs cs hl h => exact ⟨hl, h⟩
  | tup vs cs hl h => exact lone _ _ (.tup vs cs hl h) rfl rfl
  | fn f fs cs fs' cs' hl h hl' h' hy => exact lone _ _ (.fn f fs cs fs' cs' hl h hl' h' hy) rfl rfl
  | yld l idx tmps T hm hs h => exact lone _ _ (.yld l idx tmps T hm hs h) rfl rfl
  | map id g h => exact lone _ _ (.map id g h) rfl rfl
  | iter id g h => exact lone _ _ (.iter id g h) rfl rfl
theorem Rep.d_inv {c : Ctx} {x : Value} {y : DV} (h : Rep c x (.d y)) : RepD c.mem x y := by
  cases h with
  | d h => exact h
theorem op_box_elt {x : Operand} {t : TypeId} {y : DV} {cs : List DV} (hx : E x = .d y) (hcs : y.cells = cs) : OpR P ⟨dst, .box t x, ty, pos, after, gd⟩ E H (Ret (.elt cs) H) :=
  opR_value fun B w0 c w a hI hops => by
    have h1 := hops x (by simp [Op.operands])
    rw [hx] at h1
    obtain ⟨hl, hone, hr⟩ := h1.d_inv.cells
    obtain ⟨i1, l1⟩ := hI.allocProt (a.eval x).cells t (0, 0) (a.eval x).cells.size (Nat.le_refl _)
    subst hcs
    refine ⟨.pointer (some ⟨w.heap.size, 0, none⟩), _, _, _, H, ?_, l1, .elt w.heap.size 0 _ (fun j => (a.eval x).cells.getD j undef) hone (fun i hi => ?_) (fun i hi => (hr i hi).mono l1.mem), i1, rfl, rfl⟩
    · rfl
    · simp [Ctx.prot, hl, hi]
theorem op_box_ptr {x : Operand} {t : TypeId} {cs : List AV} (hu : E x ≠ .un) (hcs : (E x).cells = cs) : OpR P ⟨dst, .box t x, ty, pos, after, gd⟩ E H (Ret (.ptr H.nb 0) (H.push t cs)) :=
  opR_value fun B w0 c w a hI hops => by
    have h1 := hops x (by simp [Op.operands])
    obtain ⟨hl, hr⟩ := h1.cells hu
    subst hcs
    obtain ⟨i1, l1⟩ := hI.allocBlk (a.eval x).cells t _ hl hr
    refine ⟨.pointer (some ⟨w.heap.size, 0, none⟩), _, _, _, _, ?_, l1, .ptr _ _ w.heap.size ?_, i1, rfl, rfl⟩
    · rfl
    · simp [HS.nb, ← hI.blkLen]
theorem const_cells (z : Value) (c : Ctx) : ∀ i (hi : i < (z.cells.toList.map constAV).length), Rep c (z.cells.getD i undef) (z.cells.toList.map constAV)[i] := by
  intro i hi
  have hi' : i < z.cells.size := by simpa using hi
  have := rep_const c z.cells[i]
  simpa [hi'] using this
theorem op_alloc {t : TypeId} {z : Value} {cs : List AV} (hz : (P.info? t).map (·.zero) = some (some z)) (hcs : z.cells.toList.map constAV = cs) : OpR P ⟨dst, .alloc t, ty, pos, after, gd⟩ E H (Ret (.ptr H.nb 0) (H.push t cs)) :=
  opR_value fun B w0 c w a hI hops => by
    obtain ⟨inf, hi1, hi2⟩ := Option.map_eq_some_iff.1 hz
    subst hcs
    obtain ⟨i1, l1⟩ := hI.allocBlk z.cells t (z.cells.toList.map constAV) (by simp) (const_cells z c)
    refine ⟨.pointer (some ⟨w.heap.size, 0, none⟩), _, _, _, _, ?_, l1, .ptr _ _ w.heap.size ?_, i1, rfl, rfl⟩
    · have hzv : (zeroValue t).run P w = .ok z w := by simp [zeroValue, typeInfo, hi1, hi2]
      have : (Instr.alloc t true (.tuple #[])).run P w = .ok (.pointer (some ⟨w.heap.size, 0, none⟩)) (w.alloc (.cells z.cells t)) := by
        unfold Instr.alloc
        rw [Sem.run_bind, hzv]
        rfl
      simp [execOp, this]
    · simp [HS.nb, ← hI.blkLen]
theorem opR_skip {o : Oper} (h : ∀ (B : Nat) (w0 : World) (c : Ctx) (w : World) (a : Act), Inv B w0 c H w → (∀ x ∈ o.op.operands, Rep c (a.eval x) (E x)) →
    ∃ w' c' H', (execOp a.eval o).run P w = .ok .skip w' ∧ Le c c' ∧ Inv B w0 c' H' w' ∧ R .un H') : OpR P o E H R := by
  intro B w0 c w a next Q hI hops hnext
  obtain ⟨w', c', H', h1, h2, h4, h5⟩ := h B w0 c w a hI hops
  unfold Oper.wp
  rw [h1]
  exact hnext undef w' c' .un H' h2 (.un _) h4 h5
theorem op_store {x y : Operand} {t : TypeId} {id off n : Nat} {b : HB} {vs : List AV} (hn : (P.info? t).map (·.size) = some n) (hx : E x = .ptr id off) (hb : H.blks[id]? = some b) (hu : E y ≠ .un) (hvs : (E y).cells = vs) (hl : vs.length = n) (hfit : off + n ≤ b.cs.length)
    (hone : ∀ v ∈ vs, v.one = true) (hfz : b.frz = false := by rfl) : OpR P ⟨dst, .store t x y, ty, pos, after, gd⟩ E H (Ret .un (H.put id off vs)) :=
  opR_skip fun B w0 c w a hI hops => by
    have h1 := hops x (by simp [Op.operands])
    have h2 := hops y (by simp [Op.operands])
    rw [hx] at h1
    obtain ⟨g, e, hg⟩ := h1.ptr_inv
    obtain ⟨hl2, hr⟩ := h2.cells hu
    subst hvs
    obtain ⟨p1, p2, cur, fr, p3, p4, p5, p6⟩ := hI.blk id g b hg hb
    have hlen : (a.eval y).cells.toList.length = (E y).cells.length := by simpa using hl2
    have i1 := hI.putBlk id g off b hg hb (a.eval y).cells.toList (E y).cells hlen (fun j hj hj' => by
      have := hr j hj'
      have hj2 : j < (a.eval y).cells.size := by omega
      simpa [hj2] using this) (by omega) cur _ fr p3
    refine ⟨_, c, _, ?_, Le.refl c, i1, rfl, rfl⟩
    have hst := run_storeCells_fr P g off b.elem fr (a.eval y).cells.toList 0 cur w p3 (fun o _ => p5 hfz o) (by simp; omega) (fun v hv => by
      obtain ⟨j, hj, rfl⟩ := List.getElem_of_mem hv
      have hj' : j < (E y).cells.length := by omega
      have := hr j hj'
      have hj2 : j < (a.eval y).cells.size := by omega
      have h3 := this.one (hone _ (List.getElem_mem hj'))
      simpa [hj2] using h3)
    simp only [Nat.add_zero] at hst
    have hsz : (a.eval y).cells.size = n := by omega
    simp [execOp, e, Instr.storeAt, Instr.sureAddr, storeVar, run_sizeOf hn, hsz, hst]
theorem bytes_flat (l : List UInt8) : flat (l.map BY) = l.map BY := by
  induction l with
  | nil => rfl
  | cons b l ih => simp only [List.map_cons, flat, List.flatMap_cons] at ih ⊢; rw [ih]; rfl
theorem RepD.bytes {m : Mem} {g n cap : Nat} (l : List UInt8) (hl : l.length = n) (hc : n ≤ cap) (h : ∀ j (hj : j < l.length), m g j = some (.int .u8 (l[j].toNat : Int))) : RepD m (.slice (some ⟨g, 0, none⟩) n cap) (.lst 1 (l.map BY)) := by
  refine .lst g 0 n cap 1 _ (fun i => .int .u8 (((l[i]?).getD 0).toNat : Int)) (by simpa using hl) hc (by simp [BY, DV.cells]) (by rw [bytes_flat]; simp [BY, DV.one]) (fun i hi => ?_) (fun i hi => ?_)
  · rw [bytes_flat] at hi
    have hi' : i < l.length := by simpa using hi
    simp [h i hi', hi']
  · have hi' : i < l.length := by rw [bytes_flat] at hi; simpa using hi
    have : (flat (l.map BY))[i] = BY l[i] := by simp [bytes_flat]
    rw [this]
    simp only [List.getElem?_eq_getElem hi', Option.getD_some]
    exact .v _ rfl
theorem bytesRow_get (l : List UInt8) (cap j : Nat) (hj : j < l.length) : (bytesRow ⟨l.toArray⟩ cap)[j]? = some (.int .u8 (l[j].toNat : Int)) := by
  simp [bytesRow, hj, Array.getElem?_append]
theorem bytesRow_size (l : List UInt8) (cap : Nat) (h : l.length ≤ cap) : (bytesRow ⟨l.toArray⟩ cap).size = cap := by
  simp [bytesRow, ByteArray.size]
  omega
theorem op_bytes {x : Operand} {t t' e : TypeId} {l : List UInt8} (ht : P.underlying t = some .string) (ht' : P.underlying t' = some (.slice e)) (he : P.underlying e = some (.int .u8)) (hx : E x = .d (S l)) :
    OpR P ⟨dst, .convert t t' x, ty, pos, after, gd⟩ E H (Ret (.d (.lst 1 (l.map BY))) H) :=
  opR_value fun B w0 c w a hI hops => by
    have h1 := hops x (by simp [Op.operands])
    rw [hx] at h1
    have hr := run_bytes_of_string w t t' e ⟨l.toArray⟩ ht ht' he
    have hge : l.length ≤ grownCap w (⟨l.toArray⟩ : ByteArray).size 0 e := by have := grownCap_ge w (⟨l.toArray⟩ : ByteArray).size 0 e; rwa [str_size] at this
    have hsz := bytesRow_size l _ hge
    obtain ⟨i1, l1⟩ := hI.drew.allocProt (bytesRow ⟨l.toArray⟩ (grownCap w (⟨l.toArray⟩ : ByteArray).size 0 e)) e
      ((bytesRow ⟨l.toArray⟩ (grownCap w (⟨l.toArray⟩ : ByteArray).size 0 e)).size, (bytesRow ⟨l.toArray⟩ (grownCap w (⟨l.toArray⟩ : ByteArray).size 0 e)).size + 1) l.length (by omega)
    refine ⟨_, _, _, _, _, ?_, l1, .d (RepD.bytes (g := w.heap.size) l rfl hge fun j hj => ?_), i1, rfl, rfl⟩
    · have e2 : (execOp a.eval ⟨dst, .convert t t' x, ty, pos, after, gd⟩).run P w = ((convert t t' (.string ⟨l.toArray⟩)).run P w).andThen fun v w => .ok (.value v) w := by
        simp [execOp, h1.v_eq]
      rw [e2, hr]
      simp only [str_size]
      rfl
    · have h2 := bytesRow_get l (grownCap w (⟨l.toArray⟩ : ByteArray).size 0 e) j hj
      have h3 : j < (bytesRow ⟨l.toArray⟩ (grownCap w (⟨l.toArray⟩ : ByteArray).size 0 e)).size := by omega
      show (if w.heap.size = w.drew.heap.size ∧ j < l.length then _ else _) = _
      rw [if_pos ⟨rfl, hj⟩]
      simp only [Array.getD_eq_getD_getElem?, h2, Option.getD_some]
theorem RepD.lst_inv {m : Mem} {a : Option Addr} {n cap sz : Nat} {xs : List DV} (h : RepD m (.slice a n cap) (.lst sz xs)) : xs = [] ∧ n = 0 ∨
    ∃ (g o : Nat) (us : Nat → Value), a = some ⟨g, o, none⟩ ∧ (∀ x ∈ xs, x.cells.length = sz) ∧ (∀ i, i < (flat xs).length → m g (o + i) = some (us i)) ∧ ∀ i (hi : i < (flat xs).length), RepD m (us i) (flat xs)[i] := by
  cases h with
  | lst g o n cap sz xs us hn hc hsz h1 hmem hrep => exact .inr ⟨g, o, us, rfl, hsz, hmem, hrep⟩
  | lstE => exact .inl ⟨rfl, rfl⟩
theorem op_string {x : Operand} {t t' e : TypeId} {xs : List DV} {l : List UInt8} (ht : P.underlying t = some (.slice e)) (ht' : P.underlying t' = some .string) (he : P.underlying e = some (.int .u8)) (hx : LL (E x) 1 xs) (hl : xs = l.map BY) :
    OpR P ⟨dst, .convert t t' x, ty, pos, after, gd⟩ E H (Ret (.d (S l)) H) :=
  opR_pure fun c w a hm hops => by
    obtain ⟨ad, n, cap, e1, h⟩ := hx.rep (hops x (by simp [Op.operands]))
    subst hl
    refine ⟨.string ⟨l.toArray⟩, ?_, .d (.v _ rfl)⟩
    have e2 : (execOp a.eval ⟨dst, .convert t t' x, ty, pos, after, gd⟩).run P w = ((convert t t' (.slice ad n cap)).run P w).andThen fun v w => .ok (.value v) w := by
      simp [execOp, e1]
    rw [e2]
    have hlen : l.length = n := by simpa using h.lst_len.1
    rcases h.lst_inv with ⟨h0, hn0⟩ | ⟨g, o, us, rfl, hsz, hmem, hrep⟩
    · have hl0 : l = [] := by simpa using h0
      subst hl0
      subst hn0
      cases ad with
      | none =>
        rw [run_convert_bytes_nil w t e ht he 0 cap t' ht']
        rfl
      | some ad =>
        have := run_convert_bytes_back w t t' e ad cap [] ht he ht' (fun j hj => by simp at hj)
        simp only [List.length_nil] at this
        rw [this]
        rfl
    · have := run_convert_bytes_back w t t' e ⟨g, o, none⟩ cap l ht he ht' (fun j hj => by
        rw [addr_add]
        have hj' : j < (flat (l.map BY)).length := by rw [bytes_flat]; simpa using hj
        have h3 := hm _ _ _ (hmem j hj')
        have h4 := hrep j hj'
        have h5 : (flat (l.map BY))[j] = BY l[j] := by simp [bytes_flat]
        rw [h5] at h4
        rw [h3, h4.v_eq])
      rw [hlen] at this
      rw [this]
      rfl
end
end Go.AV
namespace Go.AV
open Go.RowKit
def tInfo (P : Program) (e : TypeId) (z : Value) (sz bytes : Nat) : Prop := (P.info? e).map (fun i => (i.zero, i.size, i.bytes)) = some (some z, sz, bytes)
theorem tInfo.size {P : Program} {e : TypeId} {z : Value} {sz bytes : Nat} (h : tInfo P e z sz bytes) : (P.info? e).map (·.size) = some sz := by
  unfold tInfo at h
  cases hi : P.info? e with
  | none => rw [hi] at h; cases h
  | some i =>
    rw [hi] at h
    simp only [Option.map_some, Option.some.injEq, Prod.mk.injEq] at h ⊢
    exact h.2.1
theorem tInfo.get {P : Program} {e : TypeId} {z : Value} {sz bytes : Nat} (h : tInfo P e z sz bytes) : ∃ i, P.info? e = some i ∧ i.zero = some z ∧ i.size = sz ∧ i.bytes = bytes := by
  unfold tInfo at h
  cases hi : P.info? e with
  | none => rw [hi] at h; cases h
  | some i =>
    rw [hi] at h
    simp only [Option.map_some, Option.some.injEq, Prod.mk.injEq] at h
    exact ⟨i, rfl, h⟩
section
variable {P : Program}
def Src (P : Program) (tx : TypeId) (x : Value) (w : World) (sz m : Nat) (news : List Value) : Prop :=
  (P.underlying tx = some .string ∨ ∃ e', P.underlying tx = some (.slice e')) ∧ (∀ w', (Builtin.lenOf x).run P w' = .ok m w') ∧ (∀ w', w'.heap = w.heap → (Builtin.firstCells sz m x).run P w' = .ok news.toArray w')
theorem run_app_room (w : World) (t tx ty e : TypeId) (z : Value) (sz bytes : Nat) (ht : P.underlying t = some (.slice e)) (hi : tInfo P e z sz bytes) (x : Value) (m : Nat) (news : List Value) (hsrc : Src P tx x w sz m news)
    (g n cap : Nat) (cur : Array Value) (fr : Nat × Nat) (hg : w.heap[g]? = some (.cells cur e fr)) (hfr : ∀ o, o < cur.size → ¬ (fr.1 ≤ o ∧ o < fr.2)) (h1 : ∀ u ∈ news, u.oneCell' = true) (hroom : n + m ≤ cap) (hfit : n * sz + news.length ≤ cur.size) :
    (Builtin.append_ #[t, tx] ty #[.slice (some ⟨g, 0, none⟩) n cap, x]).run P w = .ok (.slice (some ⟨g, 0, none⟩) (n + m) cap) (w.setRow g (putA cur (n * sz) news)) := by
  obtain ⟨hd, hlen, hf⟩ := hsrc
  obtain ⟨i, h2, h3, h4, h5⟩ := hi.get
  subst h4
  have hst := run_storeCells_fr P g (n * i.size) e fr news 0 cur w hg hfr (by simpa using hfit) h1
  simp only [Nat.add_zero] at hst
  have hadd : (⟨g, 0, none⟩ : Addr).add (n * i.size) = ⟨g, n * i.size, none⟩ := by rw [addr_add]; simp
  have hti : ∀ w, (typeInfo e).run P w = .ok i w := fun w => by simp [typeInfo, h2]
  have hso : ∀ w, (sizeOf e).run P w = .ok i.size w := fun w => by simp [sizeOf, hti]
  rcases hd with hd | ⟨e', hd⟩ <;> simp [Builtin.append_, run_underlying ht, run_underlying hd, hso, hlen, hroom, hf w rfl, hadd, hst]
theorem run_app_grow (w : World) (t tx ty e : TypeId) (z : Value) (sz bytes : Nat) (ht : P.underlying t = some (.slice e)) (hi : tInfo P e z sz bytes) (x : Value) (m : Nat) (news : List Value) (hsrc : Src P tx x w sz m news)
    (base : Option Addr) (n cap : Nat) (olds : List Value) (hold : ∀ w', w'.heap = w.heap → (Builtin.firstCells sz n (.slice base n cap)).run P w' = .ok olds.toArray w') (hroom : cap < n + m) (hb : (n + m) * bytes ≤ 140737488355328) (hn : n + m ≤ 140737488355328) :
    (Builtin.append_ #[t, tx] ty #[.slice base n cap, x]).run P w = .ok (.slice (some ⟨w.heap.size, 0, none⟩) (n + m) (grownCap w (n + m) cap e))
      (w.drew.alloc (.cells (olds.toArray ++ (news.toArray ++ Builtin.zeroCells z.cells (grownCap w (n + m) cap e - (n + m)))) e)) := by
  obtain ⟨hd, hlen, hf⟩ := hsrc
  obtain ⟨i, h2, h3, h4, h5⟩ := hi.get
  subst h4
  subst h5
  have hr : ¬ (n + m ≤ cap) := by omega
  have hfit := growslice_fits (need := n + m) (old := cap) (bytes := i.bytes) (by omega) hb
  have h48 : ¬ (281474976710656 < Builtin.nextslicecap (n + m) cap * i.bytes) := by omega
  have h63 : ¬ (9223372036854775807 < ((n : Int) + (m : Int))) := by omega
  have hwd : w.drew.heap = w.heap := rfl
  have hti : ∀ w, (typeInfo e).run P w = .ok i w := fun w => by simp [typeInfo, h2]
  have hso : ∀ w, (sizeOf e).run P w = .ok i.size w := fun w => by simp [sizeOf, hti]
  have hzv : ∀ w, (zeroValue e).run P w = .ok z w := fun w => by simp [zeroValue, hti, h3]
  rcases hd with hd | ⟨e', hd⟩ <;> simp [Builtin.append_, run_underlying ht, run_underlying hd, hso, hti, hzv, hlen, hr, h48, h63, Question.forced, hf w.drew hwd, hold w.drew hwd, newRow, grownCap]
inductive App : AV → Option Nat → Nat → List DV → Prop
  | own (t : Option Nat) (sz : Nat) (xs : List DV) : App (.own t sz xs) t sz xs
  | nil (sz : Nat) : App nilS none sz []
inductive Adds (P : Program) (tx : TypeId) : AV → Nat → List DV → Prop
  | list (v : AV) (sz : Nat) (ys : List DV) (e' : TypeId) (ht : P.underlying tx = some (.slice e')) (h : LL v sz ys) : Adds P tx v sz ys
  | str (l : List UInt8) (ht : P.underlying tx = some .string) : Adds P tx (.d (S l)) 1 (l.map BY)
theorem firstCells_of {w : World} {g o n sz m c : Nat} {us : List Value} (hl : us.length = n * sz) (h : ∀ j u, us[j]? = some u → w.cell? ⟨g, o + j, none⟩ = some u) :
    ∀ w', w'.heap = w.heap → (Builtin.firstCells sz n (.slice (some ⟨g, o, none⟩) m c)).run P w' = .ok us.toArray w' := by
  intro w' hw
  refine run_firstCells_some w' sz n ⟨g, o, none⟩ m c us hl fun j u hu => ?_
  rw [addr_add]
  have := h j u hu
  simp only [World.cell?, hw] at this ⊢
  exact this
theorem Adds.src {B : Nat} {w0 w : World} {c : Ctx} {H : HS} (hI : Inv B w0 c H w) {tx : TypeId} {v : AV} {sz : Nat} {ys : List DV} (h : Adds P tx v sz ys) {x : Value} (hr : Rep c x v) :
    ∃ news : List Value, Src P tx x w sz ys.length news ∧ news.length = ys.length * sz ∧ news.length = (flat ys).length ∧ (∀ y ∈ ys, y.cells.length = sz) ∧ (∀ y ∈ flat ys, y.one = true) ∧ (∀ u ∈ news, u.oneCell' = true) ∧
      ∀ i (hi : i < news.length) (hi' : i < (flat ys).length), RepD c.mem news[i] (flat ys)[i] := by
  cases h with
  | list v sz ys e' ht h =>
    obtain ⟨a, n, cap, rfl, hd⟩ := h.rep hr
    obtain ⟨h1, h2, h3, h4, us, h5, h6, h7, h8, h9⟩ := hd.lst_cells hI
    refine ⟨us, ⟨.inr ⟨e', ht⟩, fun w' => by simp [Builtin.lenOf, h1], ?_⟩, by rw [h5, h1], h6, h3, h4, h8, h7⟩
    rcases h9 with h9 | ⟨g, o, rfl, h9⟩
    · have : us = [] := List.eq_nil_of_length_eq_zero (by rw [h5, h9, Nat.zero_mul])
      subst this
      intro w' _
      rw [h1, h9]
      cases a with
      | none => simp [Builtin.firstCells]
      | some a => simp [Builtin.firstCells, loadCells, loadCellsFrom]
    · rw [h1]
      exact firstCells_of h5 fun j u hu => (h9 j u hu).2
  | str l ht =>
    rw [hr.v_eq]
    have hf := bytes_flat l
    refine ⟨l.map fun b => .int .u8 (b.toNat : Int), ⟨.inl ht, fun w' => by simp [Builtin.lenOf, str_size], fun w' _ => ?_⟩, by simp, by rw [hf]; simp, by simp [BY, DV.cells], by rw [hf]; simp [BY, DV.one], by simp [Value.oneCell'], fun i hi hi' => ?_⟩
    · have : (⟨l.toArray⟩ : ByteArray).extract 0 (l.map BY).length = ⟨l.toArray⟩ := by rw [extract_str]; simp
      simp only [Builtin.firstCells, this]
      simp
    · have e : (flat (l.map BY))[i] = BY (l[i]'(by simpa using hi)) := by simp [hf]
      rw [e]
      simp only [List.getElem_map]
      exact .v _ rfl
section
variable {E : Operand → AV} {H : HS} {R : AV → HS → Prop} {dst : Option Tmp} {ty : TypeId} {pos : String} {after : Array Edge} {gd : Option (Nat × Bool)}
theorem app_grown {B : Nat} {w0 w : World} {c : Ctx} (hI : Inv B w0 c H w) (t : Option Nat) (e : TypeId) (z : Value) (sz n m cap : Nat) (hzs : z.cells.size = sz) (xs ys : List DV) (olds news : List Value) (hok : H.ok t xs.length) (hm : 0 < m)
    (hxl : xs.length = n) (hyl : ys.length = m) (hol : olds.length = n * sz) (hnl : news.length = m * sz) (hxs : ∀ x ∈ xs, x.cells.length = sz) (hys : ∀ x ∈ ys, x.cells.length = sz) (hx1 : ∀ x ∈ flat xs, x.one = true) (hy1 : ∀ x ∈ flat ys, x.one = true)
    (hxr : ∀ i (hi : i < olds.length) (hi' : i < (flat xs).length), RepD c.mem olds[i] (flat xs)[i]) (hyr : ∀ i (hi : i < news.length) (hi' : i < (flat ys).length), RepD c.mem news[i] (flat ys)[i]) (hcap : n + m ≤ cap) :
    ∃ c', Le c c' ∧ Inv B w0 c' (H.up t (n + m)) (w.drew.alloc (.cells (olds.toArray ++ (news.toArray ++ Builtin.zeroCells z.cells (cap - (n + m)))) e)) ∧
      Rep c' (.slice (some ⟨w.heap.size, 0, none⟩) (n + m) cap) (.own (some (H.tk t)) sz (xs ++ ys)) := by
  have hsize : (olds.toArray ++ (news.toArray ++ Builtin.zeroCells z.cells (cap - (n + m)))).size = cap * sz := by
    simp only [Array.size_append, List.size_toArray, size_zeroCells, hzs, hol, hnl]
    rw [← Nat.add_mul, ← Nat.add_mul]
    congr 1
    omega
  obtain ⟨c', l1, i1, hmem, htk, _⟩ := hI.drew.newTok t xs.length hok (olds.toArray ++ (news.toArray ++ Builtin.zeroCells z.cells (cap - (n + m)))) e (0, 0) cap sz (n + m) (by
    cases t with
    | none => exact .inr rfl
    | some i => exact .inl (by omega)) hcap hsize (fun o _ => by simp)
  have hfx := flat_length hxs
  have hfy := flat_length hys
  refine ⟨c', l1, i1, .ownt _ _ w.heap.size (n + m) cap sz _ (RepD.mk_lst (olds ++ news) (by simp [hxl, hyl]) hcap ?_ ?_ ?_ ?_ ?_) htk (Nat.le_refl _) (fun _ => ⟨rfl, rfl, rfl⟩)⟩
  · intro x hx
    rcases List.mem_append.1 hx with h | h
    · exact hxs x h
    · exact hys x h
  · intro x hx
    rw [flat_append] at hx
    rcases List.mem_append.1 hx with h | h
    · exact hx1 x h
    · exact hy1 x h
  · rw [flat_append]
    simp only [List.length_append, hfx, hfy, hol, hnl, hxl, hyl]
  · intro j u hu
    have hj : j < (olds ++ news).length := (List.getElem?_eq_some_iff.1 hu).1
    have hj' : j < (n + m) * sz := by
      rw [Nat.add_mul]
      simp [hol, hnl] at hj
      exact hj
    have h2 := hmem j hj'
    have hh : c'.mem w.heap.size (0 + j) = c'.mem w.drew.heap.size j := by rw [Nat.zero_add]; rfl
    rw [hh, h2, ← hu]
    have e1 : (olds.toArray ++ (news.toArray ++ Builtin.zeroCells z.cells (cap - (n + m))))[j]? = ((olds ++ news) ++ (Builtin.zeroCells z.cells (cap - (n + m))).toList)[j]? := by
      rw [← Array.getElem?_toList]
      simp
    rw [e1, List.getElem?_append_left hj]
  · intro i hi hi'
    have hi2 : i < (flat xs ++ flat ys).length := by rw [flat_append] at hi'; exact hi'
    have e0 : (flat (xs ++ ys))[i] = (flat xs ++ flat ys)[i]'hi2 := by simp [flat_append]
    rw [e0]
    by_cases hlt : i < olds.length
    · have hlt' : i < (flat xs).length := by rw [hfx, hxl, ← hol]; exact hlt
      rw [List.getElem_append_left hlt, List.getElem_append_left hlt']
      exact (hxr i hlt hlt').mono l1.mem
    · have hle : (flat xs).length ≤ i := by rw [hfx, hxl, ← hol]; omega
      have he : (flat xs).length = olds.length := by rw [hfx, hxl, ← hol]
      rw [List.getElem_append_right (by omega), List.getElem_append_right hle]
      have h3 : i - olds.length < news.length := by simp at hi; omega
      have h4 : i - olds.length < (flat ys).length := by rw [hfy, hyl, ← hnl]; exact h3
      have h5 := (hyr (i - olds.length) h3 h4).mono l1.mem
      have h6 : (flat ys)[i - (flat xs).length]'(by rw [he]; exact h4) = (flat ys)[i - olds.length] := by congr 1; rw [he]
      rw [h6]
      exact h5
theorem op_append {x y : Operand} {t' tx e : TypeId} {z : Value} {sz bytes : Nat} {t : Option Nat} {xs ys : List DV} (ht : P.underlying t' = some (.slice e)) (hi : tInfo P e z sz bytes) (hzs : z.cells.size = sz) (hx : App (E x) t sz xs) (hy : Adds P tx (E y) sz ys)
    (hok : H.ok t xs.length) (hne : 0 < ys.length) (hb : (xs.length + ys.length) * bytes ≤ 140737488355328) (hn : xs.length + ys.length ≤ 140737488355328) :
    OpR P ⟨dst, .call ⟨.builtin .append, #[x, y], #[t', tx]⟩, ty, pos, after, gd⟩ E H (Ret (.own (some (H.tk t)) sz (xs ++ ys)) (H.up t (xs.length + ys.length))) :=
  opR_value fun B w0 c w a hI hops => by
    have q1 := hops x (by simp [Op.operands, Call.operands])
    have q2 := hops y (by simp [Op.operands, Call.operands])
    obtain ⟨news, hsrc, hnl, hnf, hys, hy1, hone, hyr⟩ := hy.src hI q2
    have hrun : ∀ r, (Builtin.append_ #[t', tx] ty #[a.eval x, a.eval y]).run P w = r → (execOp a.eval ⟨dst, .call ⟨.builtin .append, #[x, y], #[t', tx]⟩, ty, pos, after, gd⟩).run P w = r.andThen fun v w => .ok (.value v) w := by
      intro r hr
      simp [execOp, resolve, invoke, builtin, hr]
    have grow : ∀ (base : Option Addr) (n cap : Nat) (olds : List Value), a.eval x = .slice base n cap → n = xs.length → cap < n + ys.length → olds.length = n * sz → (∀ x ∈ xs, x.cells.length = sz) → (∀ x ∈ flat xs, x.one = true) →
        (∀ i (hi : i < olds.length) (hi' : i < (flat xs).length), RepD c.mem olds[i] (flat xs)[i]) → (∀ w', w'.heap = w.heap → (Builtin.firstCells sz n (.slice base n cap)).run P w' = .ok olds.toArray w') →
        ∃ v' w' c' av H', (execOp a.eval ⟨dst, .call ⟨.builtin .append, #[x, y], #[t', tx]⟩, ty, pos, after, gd⟩).run P w = .ok (.value v') w' ∧ Le c c' ∧ Rep c' v' av ∧ Inv B w0 c' H' w' ∧
          Ret (.own (some (H.tk t)) sz (xs ++ ys)) (H.up t (xs.length + ys.length)) av H' := by
      intro base n cap olds hev hn' hcap hol hxs hx1 hxr hold
      subst hn'
      have hr := run_app_grow w t' tx ty e z sz bytes ht hi (a.eval y) ys.length news hsrc base xs.length cap olds hold hcap hb hn
      rw [← hev] at hr
      obtain ⟨c', l1, i1, r1⟩ := app_grown hI t e z sz xs.length ys.length (grownCap w (xs.length + ys.length) cap e) hzs xs ys olds news hok hne rfl rfl hol hnl hxs hys hx1 hy1 hxr hyr (grownCap_ge _ _ _ _)
      exact ⟨_, _, c', _, _, hrun _ hr, l1, r1, i1, rfl, rfl⟩
    have atNil : xs = [] → a.eval x = .slice none 0 0 → _ := fun hxs hev => grow none 0 0 [] hev (by simp [hxs]) (by omega) (by simp) (by simp [hxs]) (by simp [hxs, flat]) (by simp) (fun w' _ => by simp [Builtin.firstCells])
    cases hE : E x with
    | d dv =>
      rw [hE] at hx
      cases hx with
      | nil sz =>
        rw [hE] at q1
        exact atNil rfl q1.v_eq
    | own t'' sz'' xs'' =>
      rw [hE] at hx q1
      cases hx with
      | own =>
      generalize hev : a.eval x = X at q1
      cases q1 with
      | own0 => exact atNil rfl hev
      | own1 g o n _ _ h =>
        obtain ⟨h1, h2, h3, h4, us, h5, h6, h7, h8, h9⟩ := h.lst_cells hI
        refine grow _ n n us hev h1.symm (by omega) h5 h3 h4 h7 ?_
        rcases h9 with h9 | ⟨g', o', he, h9⟩
        · have : us = [] := List.eq_nil_of_length_eq_zero (by rw [h5, h9, Nat.zero_mul])
          subst this
          intro w' _
          rw [h9]
          simp [Builtin.firstCells, loadCells, loadCellsFrom]
        · cases he
          exact firstCells_of h5 fun j u hu => (h9 j u hu).2
      | ownt i e1 g n cap _ _ h htk hnm heq =>
        obtain ⟨h1, h2, h3, h4, us, h5, h6, h7, h8, h9⟩ := h.lst_cells hI
        have hmark : e1.mark = xs.length := by
          have := (hI.tok i e1 htk).1
          rw [hok i rfl] at this
          exact (Option.some.inj this).symm
        obtain ⟨he1, he2, he3⟩ := heq (by rw [hmark, h1])
        by_cases hroom : n + ys.length ≤ cap
        · obtain ⟨p1, p2, p3, p4, p5, cur, et, fr, p6, p7, p8⟩ := hI.tok i e1 htk
          have hnl' : news.length = ys.length * e1.sz := by rw [he3]; exact hnl
          obtain ⟨c', l1, i1, hm', htk', _⟩ := hI.growTok i e1 htk cur et fr p6 news ys.length hnl' hne (by rw [hmark, he2, h1]; exact hroom)
          have hfit : n * sz + news.length ≤ cur.size := by
            rw [hnl, p7, he2, he3, ← Nat.add_mul]
            exact Nat.mul_le_mul_right _ hroom
          have hput : e1.mark * e1.sz = n * sz := by rw [hmark, he3, h1]
          rw [he1, hput] at i1
          rw [he1] at p6
          have hr : (Builtin.append_ #[t', tx] ty #[.slice (some ⟨g, 0, none⟩) n cap, a.eval y]).run P w = .ok (.slice (some ⟨g, 0, none⟩) (n + ys.length) cap) (w.setRow g (putA cur (n * sz) news)) := by
            obtain ⟨hd', hlen', hf'⟩ := hsrc
            obtain ⟨inf, hinf, hz0, hsz0, hby0⟩ := hi.get
            subst hsz0
            have hst := run_storeCells_fr P g (n * inf.size) et fr news 0 cur w p6 p8 (by simpa using hfit) hone
            simp only [Nat.add_zero] at hst
            have hadd : (⟨g, 0, none⟩ : Addr).add (n * inf.size) = ⟨g, n * inf.size, none⟩ := by rw [addr_add]; simp
            have hso : ∀ w, (sizeOf e).run P w = .ok inf.size w := fun w => by simp [sizeOf, typeInfo, hinf]
            rcases hd' with hd' | ⟨e', hd'⟩ <;> simp [Builtin.append_, run_underlying ht, run_underlying hd', hso, hlen', hroom, hf' w rfl, hadd, hst]
          rw [← hev] at hr
          rw [hmark] at i1
          refine ⟨_, _, c', _, _, hrun _ hr, l1, ?_, i1, rfl, rfl⟩
          have hfx := flat_length h3
          have hfy := flat_length hys
          refine .ownt i _ g (n + ys.length) cap sz _ (RepD.mk_lst (us ++ news) (by simp [h1]) hroom ?_ ?_ ?_ ?_ ?_) htk' (by show n + ys.length ≤ e1.mark + ys.length; omega) (fun _ => ⟨he1, he2, he3⟩)
          · intro x hx
            rcases List.mem_append.1 hx with h | h
            · exact h3 x h
            · exact hys x h
          · intro x hx
            rw [flat_append] at hx
            rcases List.mem_append.1 hx with h | h
            · exact h4 x h
            · exact hy1 x h
          · rw [flat_append]
            simp only [List.length_append, h6, hnf]
          · intro j u hu
            by_cases hlt : j < us.length
            · rw [List.getElem?_append_left hlt] at hu
              rcases h9 with h9 | ⟨g', o', he, h9⟩
              · rw [h5, h9, Nat.zero_mul] at hlt; omega
              · cases he
                exact l1.mem _ _ _ (h9 j u hu).1
            · rw [List.getElem?_append_right (by omega)] at hu
              have := hm' _ u hu
              rw [he1, hput, ← h5, show us.length + (j - us.length) = 0 + j by omega] at this
              exact this
          · intro i' hi1 hi2
            have hi3 : i' < (flat xs ++ flat ys).length := by rw [flat_append] at hi2; exact hi2
            have e0 : (flat (xs ++ ys))[i'] = (flat xs ++ flat ys)[i']'hi3 := by simp [flat_append]
            rw [e0]
            by_cases hlt : i' < us.length
            · have hlt' : i' < (flat xs).length := by rw [← h6]; exact hlt
              rw [List.getElem_append_left hlt, List.getElem_append_left hlt']
              exact (h7 i' hlt hlt').mono l1.mem
            · have hle : (flat xs).length ≤ i' := by rw [← h6]; omega
              rw [List.getElem_append_right (by omega), List.getElem_append_right hle]
              have h10 : i' - us.length < news.length := by simp at hi1; omega
              have h11 : i' - us.length < (flat ys).length := by rw [← hnf]; exact h10
              have h12 := (hyr (i' - us.length) h10 h11).mono l1.mem
              have h13 : (flat ys)[i' - (flat xs).length]'(by rw [← h6]; exact h11) = (flat ys)[i' - us.length] := by congr 1; rw [← h6]
              rw [h13]
              exact h12
        · refine grow _ n cap us hev h1.symm (by omega) h5 h3 h4 h7 ?_
          rcases h9 with h9 | ⟨g', o', he, h9⟩
          · have : us = [] := List.eq_nil_of_length_eq_zero (by rw [h5, h9, Nat.zero_mul])
            subst this
            intro w' _
            rw [h9]
            simp [Builtin.firstCells, loadCells, loadCellsFrom]
          · cases he
            exact firstCells_of h5 fun j u hu => (h9 j u hu).2
    | un => rw [hE] at hx; cases hx
    | nv => rw [hE] at hx; cases hx
    | elt => rw [hE] at hx; cases hx
    | ptr => rw [hE] at hx; cases hx
    | arr => rw [hE] at hx; cases hx
    | sub => rw [hE] at hx; cases hx
    | agg => rw [hE] at hx; cases hx
    | tup => rw [hE] at hx; cases hx
    | fn => rw [hE] at hx; cases hx
    | map => rw [hE] at hx; cases hx
    | iter => rw [hE] at hx; cases hx
theorem op_append0 {x y : Operand} {t' tx e : TypeId} {z : Value} {sz bytes : Nat} {xs : List DV} (ht : P.underlying t' = some (.slice e)) (hi : tInfo P e z sz bytes) (hx : LL (E x) sz xs) (hy : Adds P tx (E y) sz []) :
    OpR P ⟨dst, .call ⟨.builtin .append, #[x, y], #[t', tx]⟩, ty, pos, after, gd⟩ E H (Ret (E x) H) :=
  opR_value fun B w0 c w a hI hops => by
    have q1 := hops x (by simp [Op.operands, Call.operands])
    have q2 := hops y (by simp [Op.operands, Call.operands])
    obtain ⟨news, ⟨hd', hlen', hf'⟩, hnl, _⟩ := hy.src hI q2
    have hn : news = [] := List.eq_nil_of_length_eq_zero (by simpa using hnl)
    subst hn
    obtain ⟨ad, n, cap, e1, h⟩ := hx.rep q1
    have hl := h.lst_len
    refine ⟨a.eval x, w, c, _, H, ?_, Le.refl c, q1, hI, rfl, rfl⟩
    obtain ⟨inf, hinf, hz0, hsz0, hby0⟩ := hi.get
    subst hsz0
    have hso : ∀ w, (sizeOf e).run P w = .ok inf.size w := fun w => by simp [sizeOf, typeInfo, hinf]
    have hr : (Builtin.append_ #[t', tx] ty #[.slice ad n cap, a.eval y]).run P w = .ok (.slice ad n cap) w := by
      have hf0 := hf' w rfl
      have hl0 := hlen'
      simp only [List.length_nil] at hf0 hl0
      cases ad <;> rcases hd' with hd' | ⟨e', hd'⟩ <;> simp [Builtin.append_, run_underlying ht, run_underlying hd', hso, hl0, hl.2, hf0, storeCells]
    simp [execOp, resolve, invoke, builtin, e1, hr]
end
end
end Go.AV
namespace Go.AV
open Go.RowKit
def AV.known : AV → Bool
  | .un => false
  | _ => true
theorem AV.known_ne {v : AV} (h : v.known = true) : v ≠ .un := by intro e; subst e; cases h
def putV : Array Value → Nat → List Value → Array Value
  | cs, _, [] => cs
  | cs, k, v :: vs => putV (cs.setIfInBounds k v) (k + 1) vs
theorem foldl_putV (off : Nat) : ∀ (l : List Value) (k : Nat) (cells : Array Value), (l.zipIdx k).foldl (fun cs (p : Value × Nat) => cs.setIfInBounds (off + p.2) p.1) cells = putV cells (off + k) l
  | [], _, _ => rfl
  | v :: l, k, cells => by
    rw [List.zipIdx_cons, List.foldl_cons, foldl_putV off l (k + 1)]
    rfl
structure Cells (c : Ctx) (vs : Array Value) (cs : List AV) : Prop where
  size : vs.size = cs.length
  at_ : ∀ i (hi : i < cs.length), Rep c (vs.getD i undef) cs[i]
theorem Cells.put {c : Ctx} : ∀ {l : List Value} {m : List AV} {vs : Array Value} {cs : List AV} {k : Nat}, Cells c vs cs → l.length = m.length → (∀ i (hi : i < m.length), Rep c (l.getD i undef) m[i]) → Cells c (putV vs k l) (putL cs k m)
  | [], [], _, _, _, h, _, _ => h
  | v :: l, x :: m, vs, cs, k, h, hl, hr => by
    refine Cells.put (l := l) (m := m) ⟨by simp [h.size], fun i hi => ?_⟩ (by simpa using hl) (fun i hi => by
      have := hr (i + 1) (by simp; omega)
      simpa using this)
    have hi' : i < cs.length := by simpa using hi
    have hi2 : i < vs.size := by rw [h.size]; exact hi'
    by_cases hik : k = i
    · subst hik
      have h0 := hr 0 (by simp)
      simp [hi2]
      simpa using h0
    · have := h.at_ i hi'
      rw [Array.getD_eq_getD_getElem?] at this ⊢
      rw [Array.getElem?_setIfInBounds_ne hik]
      simpa [List.getElem_set_ne hik] using this
  | [], _ :: _, _, _, _, _, hl, _ => by simp at hl
  | _ :: _, [], _, _, _, _, hl, _ => by simp at hl
def fillA (place : Nat → Option (Nat × Nat)) : List AV → List (Nat × List AV) → Option (List AV)
  | cs, [] => some cs
  | cs, (i, v) :: rest =>
    match place i with
    | none => none
    | some (off, size) => if v.length = size then if off + v.length ≤ cs.length then fillA place (putL cs off v) rest else none else none
theorem fill_rep {c : Ctx} {place : Nat → Option (Nat × Nat)} : ∀ (ps : List (Nat × List AV)) (parts : List (Nat × Value)) (vs : Array Value) (cs cs' : List AV), Cells c vs cs → parts.length = ps.length →
    (∀ j (hj : j < parts.length) (hj' : j < ps.length), parts[j].1 = ps[j].1 ∧ Cells c parts[j].2.cells ps[j].2) → fillA place cs ps = some cs' → ∃ vs', Instr.fill place vs parts = some vs' ∧ Cells c vs' cs'
  | [], [], vs, cs, cs', h, _, _, hf => by
    simp [fillA] at hf
    subst hf
    exact ⟨vs, rfl, h⟩
  | (i, m) :: ps, (i', v) :: parts, vs, cs, cs', h, hl, hp, hf => by
    obtain ⟨e1, e2⟩ := hp 0 (by simp) (by simp)
    simp at e1 e2
    subst e1
    simp only [fillA] at hf
    cases hpl : place i' with
    | none => rw [hpl] at hf; cases hf
    | some os =>
      obtain ⟨off, size⟩ := os
      rw [hpl] at hf
      simp only [] at hf
      by_cases h1 : m.length = size
      · rw [if_pos h1] at hf
        by_cases h2 : off + m.length ≤ cs.length
        · rw [if_pos h2] at hf
          have hc := Cells.put (k := off) h (l := v.cells.toList) (m := m) (by simpa using e2.size) (fun i hi => by
            have := e2.at_ i hi
            have hi2 : i < v.cells.size := by rw [e2.size]; exact hi
            simpa [hi2] using this)
          obtain ⟨vs', q1, q2⟩ := fill_rep ps parts _ _ cs' hc (by simpa using hl) (fun j hj hj' => by
            have := hp (j + 1) (by simp; omega) (by simp; omega)
            simpa using this) hf
          refine ⟨vs', ?_, q2⟩
          have hfold : v.cells.zipIdx.foldl (fun cs (p : Value × Nat) => cs.setIfInBounds (off + p.2) p.1) vs = putV vs off v.cells.toList := by
            rw [← Array.foldl_toList, Array.toList_zipIdx, foldl_putV]
            rfl
          simp only [Instr.fill, hpl]
          rw [if_neg (by
            simp only [Bool.or_eq_true, decide_eq_true_eq, not_or, ne_eq]
            have := e2.size
            have := h.size
            omega)]
          rw [← q1, ← hfold]
        · rw [if_neg h2] at hf; cases hf
      · rw [if_neg h1] at hf; cases hf
  | [], _ :: _, _, _, _, _, hl, _, _ => by simp at hl
  | _ :: _, [], _, _, _, _, hl, _, _ => by simp at hl
def places (P : Program) : List Field → Option (List (Nat × Nat))
  | [] => some []
  | f :: fs => match P.info? f.type, places P fs with
    | some i, some r => some ((f.offset, i.size) :: r)
    | _, _ => none
theorem run_places {P : Program} : ∀ (fs : List Field) (pl : List (Nat × Nat)), places P fs = some pl → ∀ w, (fs.mapM fun f => (do pure (f.offset, ← sizeOf f.type) : Sem (Nat × Nat))).run P w = .ok pl w
  | [], pl, h, w => by simp [places] at h; subst h; rfl
  | f :: fs, pl, h, w => by
    simp only [places] at h
    cases hi : P.info? f.type with
    | none => rw [hi] at h; cases h
    | some i =>
      rw [hi] at h
      cases hr : places P fs with
      | none => rw [hr] at h; cases h
      | some r =>
        rw [hr] at h
        simp at h
        subst h
        have ih := run_places fs r hr w
        have hs : (sizeOf f.type).run P w = .ok i.size w := by simp [sizeOf, typeInfo, hi]
        rw [List.mapM_cons]
        simp [hs]
        simp at ih
        rw [ih]
        rfl
section
variable {P : Program} {E : Operand → AV} {H : HS} {R : AV → HS → Prop} {dst : Option Tmp} {ty : TypeId} {pos : String} {after : Array Edge} {gd : Option (Nat × Bool)}
def evP (a : Act) (l : List (Nat × Operand)) : List (Nat × Value) := l.map fun p => (p.1, a.eval p.2)
theorem parts_cells {c : Ctx} {a : Act} {parts : Array (Nat × Operand)} {ps : List (Nat × List AV)} (hk : parts.toList.all (fun p => (E p.2).known) = true) (hps : parts.toList.map (fun p => (p.1, (E p.2).cells)) = ps) (hops : ∀ x ∈ (parts.toList.map (·.2)), Rep c (a.eval x) (E x)) :
    (evP a parts.toList).length = ps.length ∧ ∀ j (hj : j < (evP a parts.toList).length) (hj' : j < ps.length), ((evP a parts.toList)[j]).1 = ps[j].1 ∧ Cells c ((evP a parts.toList)[j]).2.cells ps[j].2 := by
  subst hps
  refine ⟨by simp [evP], fun j hj hj' => ?_⟩
  have hj2 : j < parts.toList.length := by simpa [evP] using hj
  simp only [evP, List.getElem_map]
  have hmem : parts.toList[j] ∈ parts.toList := List.getElem_mem hj2
  have h1 := hops _ (List.mem_map.2 ⟨_, hmem, rfl⟩)
  have h2 := List.all_eq_true.1 hk _ hmem
  obtain ⟨h3, h4⟩ := h1.cells (AV.known_ne h2)
  refine ⟨trivial, h3, h4⟩
theorem op_build {t : TypeId} {parts : Array (Nat × Operand)} {fs : Array Field} {z : Value} {pl : List (Nat × Nat)} {ps : List (Nat × List AV)} {cs : List AV} (ht : P.underlying t = some (.struct fs)) (hz : (P.info? t).map (·.zero) = some (some z)) (hpl : places P fs.toList = some pl)
    (hk : parts.toList.all (fun p => (E p.2).known) = true) (hps : parts.toList.map (fun p => (p.1, (E p.2).cells)) = ps) (hcs : fillA (fun i => pl[i]?) (z.cells.toList.map constAV) ps = some cs) :
    OpR P ⟨dst, .build t parts, ty, pos, after, gd⟩ E H (Ret (.agg cs) H) :=
  opR_pure fun c w a hm hops => by
    obtain ⟨inf, hi1, hi2⟩ := Option.map_eq_some_iff.1 hz
    obtain ⟨q1, q2⟩ := parts_cells (c := c) (a := a) hk hps (fun x hx => hops x (by simpa [Op.operands] using hx))
    obtain ⟨vs', f1, f2⟩ := fill_rep (c := c) ps (evP a parts.toList) z.cells (z.cells.toList.map constAV) cs ⟨by simp, const_cells z c⟩ q1 q2 hcs
    have hzv : ∀ w, (zeroValue t).run P w = .ok z w := fun w => by simp [zeroValue, typeInfo, hi1, hi2]
    have hpr := run_places (P := P) fs.toList pl hpl
    refine ⟨.agg vs', ?_, .agg _ _ f2.size f2.at_⟩
    have hfill : Instr.fill (fun i => pl.toArray[i]?) z.cells (parts.map fun p => (p.1, a.eval p.2)).toList = some vs' := by
      rw [Array.toList_map, ← f1]
      congr 1
      funext i
      simp
    have hmap : (fs.mapM fun f => (do pure (f.offset, ← sizeOf f.type) : Sem (Nat × Nat))).run P w = .ok pl.toArray w := by
      rw [Array.mapM_eq_mapM_toList]
      have := hpr w
      simp at this ⊢
      rw [this]
      rfl
    have hb : (Instr.build t (parts.map fun p => (p.1, a.eval p.2))).run P w = .ok (.agg vs') w := by
      unfold Instr.build
      rw [Sem.run_bind, hzv]
      simp only [Result.andThen_ok]
      rw [Sem.run_bind, run_underlying ht]
      simp only [Result.andThen_ok]
      rw [Sem.run_bind, hmap]
      simp only [Result.andThen_ok]
      rw [hfill]
      rfl
    simp [execOp, hb]
theorem rep_agg_d {c : Ctx} {x : Value} {ds : List DV} (h1 : ∀ d ∈ ds, d.one = true) (h : Rep c x (.agg (ds.map .d))) : Rep c x (.d (.agg ds)) := by
  cases h with
  | agg vs cs hl h =>
    refine .d (.agg vs ds (by simpa using hl) h1 fun i hi => ?_)
    have := h i (by simpa using hi)
    simp at this
    simpa using this.d_inv
theorem opR_weaken {o : Oper} {v v' : AV} {H' : HS} (h : OpR P o E H (Ret v H')) (hw : ∀ c x, Rep c x v → Rep c x v') : OpR P o E H (Ret v' H') := by
  intro B w0 c w a next Q hI hops hnext
  refine h B w0 c w a next Q hI hops ?_
  rintro x w' c' av H'' l1 r1 i1 ⟨rfl, rfl⟩
  exact hnext x w' c' v' _ l1 (hw _ _ r1) i1 ⟨rfl, rfl⟩
theorem op_buildD {t : TypeId} {parts : Array (Nat × Operand)} {fs : Array Field} {z : Value} {pl : List (Nat × Nat)} {ps : List (Nat × List AV)} (ds : List DV) (ht : P.underlying t = some (.struct fs)) (hz : (P.info? t).map (·.zero) = some (some z)) (hpl : places P fs.toList = some pl)
    (hk : parts.toList.all (fun p => (E p.2).known) = true) (hps : parts.toList.map (fun p => (p.1, (E p.2).cells)) = ps) (hcs : fillA (fun i => pl[i]?) (z.cells.toList.map constAV) ps = some (ds.map .d)) (h1 : ∀ d ∈ ds, d.one = true) :
    OpR P ⟨dst, .build t parts, ty, pos, after, gd⟩ E H (Ret (.d (.agg ds)) H) :=
  opR_weaken (op_build ht hz hpl hk hps hcs) fun _ _ h => rep_agg_d h1 h
theorem cells_un (c : Ctx) (vs : Array Value) : Cells c vs (List.replicate vs.size .un) := ⟨by simp, fun i hi => by simp; exact .un _⟩
theorem op_buildSlice {t e : TypeId} {len sz : Nat} {parts : Array (Nat × Operand)} {z : Value} {ps : List (Nat × List AV)} (ys : List DV) (ht : P.underlying t = some (.slice e)) (hz : (P.info? e).map (fun i => (i.zero, i.size)) = some (some z, sz))
    (hk : parts.toList.all (fun p => (E p.2).known) = true) (hps : parts.toList.map (fun p => (p.1, (E p.2).cells)) = ps) (hcs : fillA (fun i => some (i * sz, sz)) (List.replicate (len * sz) .un) ps = some ((flat ys).map .d)) (hl : ys.length = len) (hy : ∀ y ∈ ys, y.cells.length = sz)
    (h1 : ∀ d ∈ flat ys, d.one = true) (hsm : len * sz ≤ 16777216) : OpR P ⟨dst, .buildSlice t len parts, ty, pos, after, gd⟩ E H (Ret (.own none sz ys) H) :=
  opR_value fun B w0 c w a hI hops => by
    obtain ⟨inf, hi1, hi2⟩ := Option.map_eq_some_iff.1 hz
    simp only [Prod.mk.injEq] at hi2
    obtain ⟨hi2, hi3⟩ := hi2
    obtain ⟨q1, q2⟩ := parts_cells (c := c) (a := a) hk hps (fun x hx => hops x (by simpa [Op.operands] using hx))
    have hzv : ∀ w, (zeroValue e).run P w = .ok z w := fun w => by simp [zeroValue, typeInfo, hi1, hi2]
    have hso : ∀ w, (sizeOf e).run P w = .ok sz w := fun w => by simp [sizeOf, typeInfo, hi1, hi3]
    have run : ∀ (zero : Array Value), ((Array.range (len * sz)).map (zero[· % zero.size]!)).size = len * sz → ∃ vs', Instr.fill (fun i => some (i * sz, sz)) ((Array.range (len * sz)).map (zero[· % zero.size]!)) (parts.map fun p => (p.1, a.eval p.2)).toList = some vs' ∧ Cells c vs' ((flat ys).map .d) := by
      intro zero hs
      have hc := cells_un c ((Array.range (len * sz)).map (zero[· % zero.size]!))
      rw [hs] at hc
      obtain ⟨vs', f1, f2⟩ := fill_rep (c := c) ps (evP a parts.toList) _ _ _ hc q1 q2 hcs
      exact ⟨vs', by rw [Array.toList_map]; exact f1, f2⟩
    have hbs : ∃ vs', (Instr.buildSlice t len (parts.map fun p => (p.1, a.eval p.2))).run P w = .ok (.slice (some ⟨w.heap.size, 0, none⟩) len len) (w.alloc (.cells vs' e)) ∧ Cells c vs' ((flat ys).map .d) := by
      unfold Instr.buildSlice
      rw [Sem.run_bind, run_underlying ht]
      simp only [Result.andThen_ok]
      rw [Sem.run_bind, hso]
      simp only [Result.andThen_ok]
      have hsm' : ¬ (len * sz > 2 ^ 24) := by omega
      rw [if_neg hsm']
      by_cases h0 : len * sz = 0
      · rw [if_pos h0]
        obtain ⟨vs', f1, f2⟩ := run #[] (by simp)
        refine ⟨vs', ?_, f2⟩
        simp only [Sem.run_bind, Sem.run_pure, Result.andThen_ok]
        rw [f1]
        simp [newRow]
      · rw [if_neg h0]
        obtain ⟨vs', f1, f2⟩ := run z.cells (by simp)
        refine ⟨vs', ?_, f2⟩
        simp only [Sem.run_bind, Sem.run_pure, Result.andThen_ok, hzv]
        rw [f1]
        simp [newRow]
    obtain ⟨vs', hr, hc⟩ := hbs
    have hfl := flat_length hy
    have hvl : vs'.size = len * sz := by rw [hc.size]; simp [hfl, hl]
    obtain ⟨i1, l1⟩ := hI.allocProt vs' e (0, 0) vs'.size (Nat.le_refl _)
    refine ⟨_, _, _, _, _, ?_, l1, .own1 w.heap.size 0 len sz ys (RepD.mk_lst vs'.toList hl (Nat.le_refl _) hy h1 (by simp [hvl, hfl, hl]) (fun j u hu => ?_) (fun i hi hi' => ?_)), i1, rfl, rfl⟩
    · simp [execOp, hr]
    · have hj : j < vs'.size := by have := (List.getElem?_eq_some_iff.1 hu).1; simpa using this
      show (if w.heap.size = w.heap.size ∧ 0 + j < vs'.size then some (vs'.getD (0 + j) undef) else _) = _
      rw [if_pos ⟨rfl, by omega⟩, ← hu]
      simp [hj]
    · have h2 := hc.at_ i (by simpa using hi')
      have hi2 : i < vs'.size := by simpa using hi
      simp [hi2] at h2
      simpa using (h2.d_inv).mono l1.mem
end
end Go.AV
namespace Go.AV
open Go.RowKit
theorem App.ll {v : AV} {t : Option Nat} {sz : Nat} {xs : List DV} (h : App v t sz xs) : LL v sz xs := by
  cases h with
  | own => exact .own _ _ _
  | nil => exact .nil _
structure Heir (H : HS) (t : Option Nat) (H' : HS) (t' : Option Nat) : Prop where
  up : ∀ n, H'.up t' n = H.up t n
  tk : H'.tk t' = H.tk t
theorem Heir.refl (H : HS) (t : Option Nat) : Heir H t H t := ⟨fun _ => rfl, rfl⟩
theorem Heir.step {H H' : HS} {t t' : Option Nat} (h : Heir H t H' t') (n : Nat) : Heir H t (H'.up t' n) (some (H'.tk t')) := ⟨fun m => by rw [HS.up_up]; exact h.up m, by rw [HS.tk_some]; exact h.tk⟩
theorem Heir.trans {H H' H'' : HS} {t t' t'' : Option Nat} (h : Heir H t H' t') (k : Heir H' t' H'' t'') : Heir H t H'' t'' := ⟨fun n => (k.up n).trans (h.up n), k.tk.trans h.tk⟩
structure Bytes (H : HS) (t : Option Nat) (v : AV) (H' : HS) (l : List UInt8) : Prop where
  ex : ∃ t', App v t' 1 (l.map BY) ∧ Heir H t H' t' ∧ H'.ok t' l.length
theorem Bytes.own {H : HS} {t : Option Nat} {v : AV} {l : List UInt8} (h : App v t 1 (l.map BY)) (hok : H.ok t l.length) : Bytes H t v H l := ⟨⟨t, h, Heir.refl _ _, hok⟩⟩
theorem Bytes.grown {H H' : HS} {t t' : Option Nat} {l' : List UInt8} {m n : Nat} (hh : Heir H t H' t') (hok : H'.ok t' m) (hm : n = l'.length) : Bytes H t (.own (some (H'.tk t')) 1 (l'.map BY)) (H'.up t' n) l' :=
  ⟨⟨_, .own _ _ _, hh.step n, by rw [← hm]; exact HS.ok_up H' t' n hok⟩⟩
theorem Bytes.grown' {H H' : HS} {t t' : Option Nat} {xs : List DV} {l' : List UInt8} {m n : Nat} (hh : Heir H t H' t') (hok : H'.ok t' m) (hx : xs = l'.map BY) (hm : n = xs.length) : Bytes H t (.own (some (H'.tk t')) 1 xs) (H'.up t' n) l' := by
  subst hx
  exact Bytes.grown (l' := l') hh hok (by simpa using hm)
abbrev ownB (H : HS) (t : Option Nat) (l : List UInt8) : AV := .own (some (H.tk t)) 1 (l.map BY)
abbrev upB (H : HS) (t : Option Nat) (l : List UInt8) : HS := H.up t l.length
def Grew (H : HS) (t : Option Nat) (v0 : AV) (bs : List UInt8) (v : AV) (H' : HS) (ys : List UInt8) : Prop := (ys = [] ∧ v = v0 ∧ H' = H) ∨ (v = ownB H t (bs ++ ys) ∧ H' = upB H t (bs ++ ys))
theorem Grew.none (H : HS) (t : Option Nat) (v0 : AV) (bs : List UInt8) : Grew H t v0 bs v0 H [] := .inl ⟨rfl, rfl, rfl⟩
theorem Grew.mk {H H' : HS} {t t' : Option Nat} {v0 : AV} {bs ys : List UInt8} {xs : List DV} {n : Nat} (hh : Heir H t H' t') (hx : xs = (bs ++ ys).map BY) (hn : n = (bs ++ ys).length) : Grew H t v0 bs (.own (some (H'.tk t')) 1 xs) (H'.up t' n) ys :=
  .inr ⟨by rw [hh.tk, hx], by rw [hh.up, hn]⟩
theorem Grew.use {H H' : HS} {t : Option Nat} {v0 v : AV} {bs ys : List UInt8} (h : Grew H t v0 bs v H' ys) (hv : App v0 t 1 (bs.map BY)) (hok : H.ok t bs.length) : ∃ t', App v t' 1 ((bs ++ ys).map BY) ∧ Heir H t H' t' ∧ H'.ok t' (bs ++ ys).length := by
  rcases h with ⟨rfl, rfl, rfl⟩ | ⟨rfl, rfl⟩
  · exact ⟨t, by simpa using hv, Heir.refl _ _, by simpa using hok⟩
  · exact ⟨_, .own _ _ _, (Heir.refl H t).step _, HS.ok_up H t _ hok⟩
theorem Grew.ret {H H' : HS} {t : Option Nat} {v0 v : AV} {bs ys : List UInt8} (h : Grew H t v0 bs v H' ys) (hne : ys ≠ []) : v = ownB H t (bs ++ ys) ∧ H' = upB H t (bs ++ ys) := by
  rcases h with ⟨rfl, _⟩ | h
  · exact absurd rfl hne
  · exact h
theorem okB (H : HS) (t : Option Nat) {m : Nat} (l : List UInt8) (h : H.ok t m) : (upB H t l).ok (some (H.tk t)) l.length := HS.ok_up H t _ h
theorem up_upB (H : HS) (t : Option Nat) (l m : List UInt8) : upB (upB H t l) (some (H.tk t)) m = upB H t m := HS.up_up H t _ _
theorem HS.ok_up' {H : HS} {t : Option Nat} {m n k : Nat} (h : H.ok t m) (e : n = k) : (H.up t n).ok (some (H.tk t)) k := e ▸ HS.ok_up H t n h
theorem Rep.fits {c : Ctx} {x : Value} {y : AV} (h : Rep c x y) : Fits c.blk.length c.tok.length y := by
  induction h with
  | un x => exact .un
  | nv => exact .nv
  | d h => exact .d _
  | own0 sz => exact .own0 _ _
  | own1 g o n sz xs h => exact .own0 _ _
  | ownt i e g n cap sz xs h ht hn he => exact .own _ _ _ (List.getElem?_eq_some_iff.1 ht).1
  | elt g o cs us h1 hm h => exact .elt _
  | ptr id off g h => exact .ptr _ _ (List.getElem?_eq_some_iff.1 h).1
  | arr id n cap g h => exact .arr _ _ _ (List.getElem?_eq_some_iff.1 h).1
  | sub id off n cap g h => exact .sub _ _ _ _ (List.getElem?_eq_some_iff.1 h).1
  | agg vs cs hl _ ih => exact .agg _ ih
  | tup vs cs hl _ ih => exact .tup _ ih
  | fn f fs cs fs' cs' hl _ hl' _ _ ih ih' => exact .fn _ _ _ ih ih'
  | yld l idx tmps T hm hs _ ih =>
    refine .fn _ _ _ ih fun i hi => ?_
    cases i with
    | zero => exact .iter _
    | succ i =>
      simp only [List.getElem_cons_succ, List.getElem_map]
      exact .d _
  | map id g h => exact .map _
  | iter id g h => exact .iter _
theorem HS.up_maps (H : HS) (t : Option Nat) (n : Nat) : (H.up t n).maps = H.maps := by cases t <;> rfl
structure Ext (H H' : HS) : Prop where
  blks : ∃ l, H'.blks = H.blks ++ l
  toks : ∃ l, H'.toks = H.toks ++ l
  maps : H'.maps = H.maps
theorem Ext.refl (H : HS) : Ext H H := ⟨⟨[], by simp⟩, ⟨[], by simp⟩, rfl⟩
theorem Ext.trans {a b c : HS} (h : Ext a b) (k : Ext b c) : Ext a c := by
  obtain ⟨⟨l1, h1⟩, ⟨l2, h2⟩, hm⟩ := h
  obtain ⟨⟨l3, h3⟩, ⟨l4, h4⟩, km⟩ := k
  exact ⟨⟨l1 ++ l3, by rw [h3, h1, List.append_assoc]⟩, ⟨l2 ++ l4, by rw [h4, h2, List.append_assoc]⟩, km.trans hm⟩
theorem Ext.push {H H' : HS} (h : Ext H H') (e : TypeId) (cs : List AV) : Ext H (H'.push e cs) := h.trans ⟨⟨[⟨e, cs, false⟩], rfl⟩, ⟨[], by simp [HS.push]⟩, rfl⟩
theorem Ext.new {H H' : HS} (h : Ext H H') (n : Nat) : Ext H (H'.up none n) := h.trans ⟨⟨[], by simp [HS.up]⟩, ⟨[n], rfl⟩, rfl⟩
theorem Ext.up {H H' : HS} (h : Ext H H') {i : Nat} (hi : H.toks.length ≤ i) (n : Nat) : Ext H (H'.up (some i) n) := by
  obtain ⟨⟨l1, h1⟩, ⟨l2, h2⟩, hm⟩ := h
  refine ⟨⟨l1, by simp [HS.up, h1]⟩, ⟨l2.set (i - H.toks.length) n, ?_⟩, hm⟩
  simp only [HS.up, h2]
  rw [List.set_append_right _ _ hi]
theorem Ext.put {H H' : HS} (h : Ext H H') {id : Nat} (hi : H.blks.length ≤ id) (o : Nat) (vs : List AV) : Ext H (H'.put id o vs) := by
  obtain ⟨⟨l1, h1⟩, ⟨l2, h2⟩, hm⟩ := h
  refine ⟨⟨l1.modify (id - H.blks.length) fun b => { b with cs := putL b.cs o vs }, ?_⟩, ⟨l2, by simp [HS.put, h2]⟩, hm⟩
  simp only [HS.put, h1]
  apply List.ext_getElem?
  intro j
  by_cases hj : j < H.blks.length
  · rw [List.getElem?_append_left hj, List.getElem?_modify, List.getElem?_append_left hj]
    have : ¬ id = j := by omega
    cases hq : H.blks[j]? <;> simp [this]
  · rw [List.getElem?_append_right (by omega), List.getElem?_modify, List.getElem?_append_right (by omega), List.getElem?_modify]
    by_cases he : id = j
    · subst he; simp
    · have : ¬ (id - H.blks.length = j - H.blks.length) := by omega
      cases hq : l1[j - H.blks.length]? <;> simp [this, he]
theorem Heir.ext {H H' : HS} {t' : Option Nat} (h : Heir H none H' t') : Ext H H' := by
  have h0 := h.up 0
  cases t' with
  | none =>
    have h1 : H'.blks = H.blks := by have := congrArg HS.blks h0; simpa [HS.up] using this
    have h2 : H'.toks ++ [0] = H.toks ++ [0] := congrArg HS.toks h0
    exact ⟨⟨[], by simp [h1]⟩, ⟨[], by simpa using List.append_cancel_right h2⟩, by have := congrArg HS.maps h0; simpa [HS.up] using this⟩
  | some i =>
    have hi : i = H.toks.length := h.tk
    have h1 : H'.blks = H.blks := by have := congrArg HS.blks h0; simpa [HS.up] using this
    have h2 : H'.toks.set i 0 = H.toks ++ [0] := congrArg HS.toks h0
    refine ⟨⟨[], by simp [h1]⟩, ⟨H'.toks.drop H.toks.length, ?_⟩, by have := congrArg HS.maps h0; simpa [HS.up] using this⟩
    have h3 : H'.toks.take H.toks.length = H.toks := by
      have := congrArg (List.take H.toks.length) h2
      rw [List.take_left, hi, List.take_set, List.set_eq_of_length_le (by simp; omega)] at this
      exact this
    have h4 := (List.take_append_drop H.toks.length H'.toks).symm
    rw [h3] at h4
    exact h4
theorem ACalls.tidy {P : Program} {f : FuncId} {args : List AV} {H : HS} {R : AV → Prop} (h : ACalls P f args H fun av H' => Fits H.blks.length H.toks.length av ∧ Ext H H' ∧ R av) : ACalls P f args H fun av H' => R av ∧ H' = H := by
  intro B w0 c w vs hI hs ha
  refine (h B w0 c w vs hI hs ha).mono ?_
  rintro e w' ⟨v, av, H', c', rfl, h1, h2, h3, h4, ⟨⟨l1, h5⟩, ⟨l2, h6⟩, hmm⟩, h7⟩
  have hcut : H'.cut H.blks.length H.toks.length = H := by
    cases H
    simp only [HS.cut, h5, h6, List.take_left, hmm]
  have i1 := h3.cut H.blks.length H.toks.length (fun i b hi hb j hj => by
    have hb' : H.blks[i]? = some b := by rw [h5, List.getElem?_append_left hi] at hb; exact hb
    have hlt : i < c.blk.length := by rw [hI.blkLen]; exact hi
    obtain ⟨_, _, cur, fr, _, _, _, q⟩ := hI.blk i _ b (List.getElem?_eq_getElem hlt) hb'
    have := (q j hj).fits
    rwa [hI.blkLen, hI.tokLen] at this)
  rw [hcut] at i1
  refine ⟨v, av, H, c'.cut H.blks.length H.toks.length, rfl, ⟨h1.mem, fun i g hi => ?_, fun i e he => ?_, fun i g hi => h1.maps i g hi⟩, h2.cut h4, i1, h7, rfl⟩
  · have : i < c.blk.length := (List.getElem?_eq_some_iff.1 hi).1
    show (c'.blk.take _)[i]? = _
    rw [List.getElem?_take, if_pos (by have := hI.blkLen; omega)]
    exact h1.blk i g hi
  · have : i < c.tok.length := (List.getElem?_eq_some_iff.1 he).1
    obtain ⟨e', q1, q2⟩ := h1.tok i e he
    refine ⟨e', ?_, q2⟩
    show (c'.tok.take _)[i]? = _
    rw [List.getElem?_take, if_pos (by have := hI.tokLen; omega)]
    exact q1
theorem ACalls.tidy1 {P : Program} {f : FuncId} {args : List AV} {H : HS} {x : DV} (h : ACalls P f args H fun av H' => av = .d x ∧ Ext H H') : ACalls P f args H (Ret (.d x) H) :=
  ACalls.tidy (R := fun av => av = .d x) (h.mono fun v H' ⟨h1, h2⟩ => ⟨by rw [h1]; exact .d _, h2, h1⟩)
inductive TLe : List AV → List AV → Prop
  | nil : TLe [] []
  | same {x : AV} {l m : List AV} (h : TLe l m) : TLe (x :: l) (x :: m)
  | un {x : AV} {l m : List AV} (h : TLe l m) : TLe (x :: l) (.un :: m)
theorem TLe.rep {c : Ctx} {tmps : Array Value} {T T' : List AV} (h : TLe T T') (hr : RepT c tmps T) : RepT c tmps T' := by
  have key : ∀ {T T' : List AV}, TLe T T' → T.length = T'.length ∧ ∀ i, T'.getD i .un = T.getD i .un ∨ T'.getD i .un = .un := by
    intro T T' h
    induction h with
    | nil => exact ⟨rfl, fun i => .inl rfl⟩
    | same h ih => exact ⟨by simp [ih.1], fun i => by cases i with
      | zero => exact .inl rfl
      | succ i => simpa using ih.2 i⟩
    | un h ih => exact ⟨by simp [ih.1], fun i => by cases i with
      | zero => exact .inr rfl
      | succ i => simpa using ih.2 i⟩
  obtain ⟨h1, h2⟩ := key h
  refine ⟨by rw [hr.size, h1], fun i hi => ?_⟩
  rcases h2 i with e | e
  · rw [e]; exact hr.at_ i (by omega)
  · rw [e]; exact .un _
section
variable {P : Program} {Q : Post} {T T' : List AV} {H : HS}
theorem aw_forget {k : Code} (h : AW P k Q T' H) (hT : TLe T T') : AW P k Q T H :=
  fun B w0 c0 c w a h0 h1 h2 h3 => h B w0 c0 c w a h0 h1 (hT.rep h2) h3
def maskT : List Bool → List AV → List AV
  | b :: bs, x :: l => (match b with | true => x | false => .un) :: maskT bs l
  | _, _ => []
theorem maskT_le : ∀ (m : List Bool) (T : List AV), m.length = T.length → TLe T (maskT m T)
  | [], [], _ => .nil
  | true :: m, x :: T, h => .same (maskT_le m T (by simpa using h))
  | false :: m, x :: T, h => .un (maskT_le m T (by simpa using h))
  | [], _ :: _, h => by simp at h
  | _ :: _, [], h => by simp at h
theorem aw_loopF {k : Code} (I : Nat → List AV → HS → Prop) (n : Nat) (m : List Bool) (hm : maskT m T = T') (hl : m.length = T.length) (h0 : I n T' H) (h : ∀ n T H, I n T H → AW P k (Again n (fun m T H => ∃ T', TLe T T' ∧ I m T' H) Q) T H) : AW P (.loop k) Q T H := by
  refine aw_loop (fun m T H => ∃ T', TLe T T' ∧ I m T' H) n ⟨T', hm ▸ maskT_le m T hl, h0⟩ ?_
  rintro n T H ⟨T1, hT1, hI⟩
  exact aw_forget (h n T1 H hI) hT1
theorem again_to {n : Nat} {I : Nat → List AV → HS → Prop} (k : Nat) (m : List Bool) (hm : maskT m T = T') (hl : m.length = T.length) (hlt : k < n) (h : I k T' H) : Again n (fun m T H => ∃ T', TLe T T' ∧ I m T' H) Q .normal T H := ⟨k, hlt, T', hm ▸ maskT_le m T hl, h⟩
end
theorem wrap_i64 {n : Int} (h : -9223372036854775808 ≤ n ∧ n ≤ 9223372036854775807) : IntKind.i64.wrap n = n := IntWalk.i64_in n h
theorem wrap_u64 {n : Int} (h : 0 ≤ n ∧ n ≤ 18446744073709551615) : IntKind.u64.wrap n = n := IntWalk.u64_in n h
section
variable {P : Program} {T T' : List AV} {H : HS} {Q : Post} {dst : Option Tmp} {ty : TypeId} {pos : String} {after : Array Edge} {gd : Option (Nat × Bool)}
theorem evalT_tmp {i : Nat} {v : AV} (h : T[i]? = some v) : evalT T (.tmp i) = v := by simp [evalT, List.getD_eq_getElem?_getD, h]
theorem evalT_const {x : Value} (h : plain x = true) : evalT T (.const x) = .d (.v x) := by simp [evalT, constAV, h]
theorem op_move_tmp {i : Nat} {v : AV} (h : T[i]? = some v) : OpR P ⟨dst, .move (.tmp i), ty, pos, after, gd⟩ (evalT T) H (Ret v H) := by
  rw [← evalT_tmp h]; exact op_move
theorem op_assign_tmp {i : Nat} {v : AV} (h : T[i]? = some v) : OpR P ⟨dst, .assign (.tmp i), ty, pos, after, gd⟩ (evalT T) H (Ret v H) := by
  rw [← evalT_tmp h]; exact op_assign
theorem op_move_const {x : Value} (h : plain x = true) : OpR P ⟨dst, .move (.const x), ty, pos, after, gd⟩ (evalT T) H (Ret (.d (.v x)) H) := by
  have h2 := op_move (P := P) (E := evalT T) (H := H) (dst := dst) (ty := ty) (pos := pos) (after := after) (gd := gd) (x := .const x)
  rwa [evalT_const h] at h2
theorem op_assign_const {x : Value} (h : plain x = true) : OpR P ⟨dst, .assign (.const x), ty, pos, after, gd⟩ (evalT T) H (Ret (.d (.v x)) H) := by
  have h2 := op_assign (P := P) (E := evalT T) (H := H) (dst := dst) (ty := ty) (pos := pos) (after := after) (gd := gd) (x := .const x)
  rwa [evalT_const h] at h2
theorem al_end {ops : Array Oper} (hT : T = T') (h : Q .normal T' H) : AL P ops [] Q T H := by subst hT; exact al_nil h
theorem aw_cut {x y : Code} (R : List AV → HS → Prop) (h1 : AW P x (fun e T H => match e with | .normal => ∃ T', TLe T T' ∧ R T' H | e => Q e T H) T H) (h2 : ∀ T H, R T H → AW P y Q T H) : AW P (.seq x y) Q T H := by
  refine aw_seq (aw_mono h1 ?_)
  intro e T H hq
  cases e with
  | normal =>
    obtain ⟨T', hT, hR⟩ := hq
    exact aw_forget (h2 T' H hR) hT
  | _ => exact hq
inductive Els (E : Operand → AV) : Nat → List (Nat × Operand) → List DV → Prop
  | nil (i : Nat) : Els E i [] []
  | cons {i : Nat} {x : Operand} {y : DV} {l : List (Nat × Operand)} {ys : List DV} (hx : E x = .d y) (h : Els E (i + 1) l ys) : Els E i ((i, x) :: l) (y :: ys)
theorem d_cells (y : DV) : (AV.d y).cells = y.cells.map .d := by cases y <;> rfl
theorem Els.known {E : Operand → AV} {i : Nat} {l : List (Nat × Operand)} {ys : List DV} (h : Els E i l ys) : l.all (fun p => (E p.2).known) = true := by
  induction h with
  | nil i => rfl
  | cons hx h ih => simp only [List.all_cons, hx, ih, Bool.and_true]; rfl
theorem Els.parts {E : Operand → AV} {i : Nat} {l : List (Nat × Operand)} {ys : List DV} (h : Els E i l ys) : l.map (fun p => (p.1, (E p.2).cells)) = (ys.zipIdx i).map fun p => (p.2, p.1.cells.map .d) := by
  induction h with
  | nil i => rfl
  | cons hx h ih => simp only [List.map_cons, hx, d_cells, ih, List.zipIdx_cons]
theorem putL_block : ∀ (v A R : List AV), putL (A ++ (List.replicate v.length .un ++ R)) A.length v = A ++ (v ++ R)
  | [], A, R => rfl
  | x :: v, A, R => by
    rw [putL]
    have e1 : (A ++ (List.replicate (x :: v).length AV.un ++ R)).set A.length x = (A ++ [x]) ++ (List.replicate v.length .un ++ R) := by
      rw [List.set_append_right _ _ (Nat.le_refl _)]
      simp [List.replicate_succ]
    rw [e1]
    have := putL_block v (A ++ [x]) R
    simp only [List.length_append, List.length_cons, List.length_nil] at this
    rw [this]
    simp
theorem fill_els {sz : Nat} : ∀ (ys done : List DV), (∀ y ∈ ys, y.cells.length = sz) → (∀ y ∈ done, y.cells.length = sz) →
    fillA (fun i => some (i * sz, sz)) ((flat done).map .d ++ List.replicate (ys.length * sz) .un) ((ys.zipIdx done.length).map fun p => (p.2, p.1.cells.map .d)) = some ((flat (done ++ ys)).map .d)
  | [], done, _, _ => by simp [fillA]
  | y :: ys, done, h, hd => by
    have hy := h y (by simp)
    have hfl := flat_length hd
    rw [List.zipIdx_cons, List.map_cons, fillA]
    simp only []
    rw [if_pos (by simp [hy]), if_pos (by simp [hfl, hy, Nat.add_mul])]
    have e1 : List.replicate ((y :: ys).length * sz) AV.un = List.replicate (y.cells.map AV.d).length .un ++ List.replicate (ys.length * sz) .un := by
      rw [List.replicate_append_replicate]
      congr 1
      simp [hy, Nat.add_mul]
      omega
    have e2 : done.length * sz = ((flat done).map AV.d).length := by simp [hfl]
    rw [e1, e2, putL_block]
    have ih := fill_els ys (done ++ [y]) (fun z hz => h z (by simp [hz])) (fun z hz => by
      rcases List.mem_append.1 hz with h1 | h1
      · exact hd z h1
      · simp at h1; subst h1; exact hy)
    simp only [flat_append, List.map_append, List.length_append, List.length_cons, List.length_nil, List.append_assoc] at ih
    have e3 : flat [y] = y.cells := by simp [flat]
    rw [e3] at ih
    rw [ih]
    simp [flat]
theorem op_lit {t e : TypeId} {len sz : Nat} {parts : Array (Nat × Operand)} {z : Value} {ys : List DV} (ht : P.underlying t = some (.slice e)) (hz : (P.info? e).map (fun i => (i.zero, i.size)) = some (some z, sz)) (hE : Els (evalT T) 0 parts.toList ys) (hl : ys.length = len)
    (hy : ∀ y ∈ ys, y.cells.length = sz) (h1 : ∀ d ∈ flat ys, d.one = true) (hsm : len * sz ≤ 16777216) : OpR P ⟨dst, .buildSlice t len parts, ty, pos, after, gd⟩ (evalT T) H (Ret (.own none sz ys) H) := by
  have hf := fill_els ys [] hy (by simp)
  simp only [flat, List.flatMap_nil, List.map_nil, List.nil_append, List.length_nil] at hf
  rw [hl] at hf
  exact op_buildSlice ys ht hz hE.known hE.parts hf hl hy h1 hsm
theorem aw_start {k : Code} (hT : T = T') (h : AW P k Q T' H) : AW P k Q T H := by subst hT; exact h
theorem set_same {d : Nat} {v : AV} (hd : T[d]? = some v) : T.set d v = T := by
  have hlt := (List.getElem?_eq_some_iff.1 hd).1
  have := (List.getElem?_eq_some_iff.1 hd).2
  rw [← this]
  exact List.set_getElem_self hlt
theorem al_split {ops : Array Oper} {l : List Oper} {b : Bool} (d : Nat) (hd : T[d]? = some (.d (.v (.bool b)))) (ht : b = true → AL P ops l Q (T.set d (.d (.v (.bool true)))) H) (hf : b = false → AL P ops l Q (T.set d (.d (.v (.bool false)))) H) : AL P ops l Q T H := by
  cases b with
  | true => have := ht rfl; rwa [set_same hd] at this
  | false => have := hf rfl; rwa [set_same hd] at this
theorem drun_split {Φ : HS → Prop} {ops : Array Oper} {l : List Oper} {fl : List Nat} {R : List AV → HS → Prop} {b : Bool} (d : Nat) (hd : T[d]? = some (.d (.v (.bool b)))) (ht : b = true → DRunX P Φ ops l fl (T.set d (.d (.v (.bool true)))) H R) (hf : b = false → DRunX P Φ ops l fl (T.set d (.d (.v (.bool false)))) H R) : DRunX P Φ ops l fl T H R := by
  cases b with
  | true => have := ht rfl; rwa [set_same hd] at this
  | false => have := hf rfl; rwa [set_same hd] at this
section
variable {Φ : HS → Prop} {ops : Array Oper} {o : Oper} {l : List Oper} {fl : List Nat} {v : AV} {H' : HS} {R : List AV → HS → Prop} {g d : Nat} {x y : Bool}
theorem drun0 (ho : ∀ H, OpR P o (evalT T) H (Ret v H)) (hg : o.guard = none) (h : DRunX P Φ ops l fl (putT T o.dst v) H R) : DRunX P Φ ops (o :: l) (0 :: fl) T H R := ⟨v, H, ⟨true, by rw [hg], rfl, fun H _ => ho H⟩, .inr fun h => h, h⟩
theorem drun1 (ho : OpR P o (evalT T) H (Ret v H)) (hg : o.guard = none) (h : DRunX P Φ ops l fl (putT T o.dst v) H R) : DRunX P Φ ops (o :: l) (1 :: fl) T H R := ⟨v, H, ⟨true, by rw [hg], rfl, ho⟩, .inr fun h => h, h⟩
theorem drun2 (ho : OpR P o (evalT T) H (Ret v H')) (hg : o.guard = none) (h : DRun P ops l fl (putT T o.dst v) H' R) : DRun P ops (o :: l) (2 :: fl) T H R := ⟨v, H', ⟨true, by rw [hg], ho⟩, .inr fun _ => trivial, h⟩
theorem drun0w (hg : o.guard = some (g, x)) (hd : ((ops[g]?).bind (·.dst)) = some d) (hx : T[d]? = some (.d (.v (.bool x)))) (ho : ∀ H, OpR P o (evalT T) H (Ret v H)) (h : DRunX P Φ ops l fl (putT T o.dst v) H R) : DRunX P Φ ops (o :: l) (0 :: fl) T H R :=
  ⟨v, H, ⟨true, by rw [hg]; exact .inl ⟨d, x, hd, hx, by simp⟩, rfl, fun H _ => ho H⟩, .inr fun h => h, h⟩
theorem drun1w (hg : o.guard = some (g, x)) (hd : ((ops[g]?).bind (·.dst)) = some d) (hx : T[d]? = some (.d (.v (.bool x)))) (ho : OpR P o (evalT T) H (Ret v H)) (h : DRunX P Φ ops l fl (putT T o.dst v) H R) : DRunX P Φ ops (o :: l) (1 :: fl) T H R :=
  ⟨v, H, ⟨true, by rw [hg]; exact .inl ⟨d, x, hd, hx, by simp⟩, rfl, ho⟩, .inr fun h => h, h⟩
theorem drunU {f : Nat} (hg : o.guard = some (g, y)) (hd : ((ops[g]?).bind (·.dst)) = some d) (hx : T[d]? = some (.d (.v (.bool x)))) (hne : (x == y) = false) (h : DRunX P Φ ops l fl (putT T o.dst .nv) H R) : DRunX P Φ ops (o :: l) (f :: fl) T H R :=
  ⟨.nv, H, ⟨false, by rw [hg]; exact .inl ⟨d, x, hd, hx, hne.symm⟩, rfl, rfl⟩, .inr fun h => h, h⟩
theorem drunU0 {f : Nat} (hg : o.guard = some (g, y)) (hd : ((ops[g]?).bind (·.dst)) = some d) (hx : T[d]? = some .nv) (h : DRunX P Φ ops l fl (putT T o.dst .nv) H R) : DRunX P Φ ops (o :: l) (f :: fl) T H R :=
  ⟨.nv, H, ⟨false, by rw [hg]; exact .inr ⟨d, hd, hx, rfl⟩, rfl, rfl⟩, .inr fun h => h, h⟩
theorem drun_end (hT : T = T') (h : Q .normal T' H) : DRunX P Φ ops [] fl T H (fun T H => Q .normal T H) := by subst hT; exact h
end
theorem al_stepN {ops : Array Oper} {o : Oper} {l : List Oper} {v : AV} {H' : HS} (ho : OpR P o (evalT T) H (Ret v H')) (hg : o.guard = none) (hT : putT T o.dst v = T') (h : AL P ops l Q T' H') : AL P ops (o :: l) Q T H := by
  subst hT; exact al_step ho hg h
theorem al_wantedN {ops : Array Oper} {o : Oper} {l : List Oper} {v : AV} {H' : HS} {g d : Nat} {x : Bool} (hg : o.guard = some (g, x)) (hd : ((ops[g]?).bind (·.dst)) = some d) (hx : T[d]? = some (.d (.v (.bool x))))
    (ho : OpR P o (evalT T) H (Ret v H')) (hT : putT T o.dst v = T') (h : AL P ops l Q T' H') : AL P ops (o :: l) Q T H := by
  subst hT; exact al_wanted hg hd hx ho h
theorem al_normT {ops : Array Oper} {l : List Oper} (hT : T = T') (h : AL P ops l Q T' H) : AL P ops l Q T H := by subst hT; exact h
theorem drun_normT {Φ : HS → Prop} {ops : Array Oper} {l : List Oper} {fl : List Nat} {R : List AV → HS → Prop} (hT : T = T') (h : DRunX P Φ ops l fl T' H R) : DRunX P Φ ops l fl T H R := by subst hT; exact h
section
variable {ops : Array Oper} {o : Oper} {l : List Oper} {v : AV} {H' : HS} {g d : Nat} {x y : Bool}
theorem zst (ho : OpR P o (evalT T) H (Ret v H')) (hg : o.guard = none) (hT : putT T o.dst v = T') (h : AL P ops l Q T' H') : AL P ops (o :: l) Q T H := al_stepN ho hg hT h
theorem zsw (hg : o.guard = some (g, x)) (hd : ((ops[g]?).bind (·.dst)) = some d) (hx : T[d]? = some (.d (.v (.bool x)))) (ho : OpR P o (evalT T) H (Ret v H')) (hT : putT T o.dst v = T') (h : AL P ops l Q T' H') : AL P ops (o :: l) Q T H := al_wantedN hg hd hx ho hT h
theorem zuw (hg : o.guard = some (g, y)) (hd : ((ops[g]?).bind (·.dst)) = some d) (hx : T[d]? = some (.d (.v (.bool x)))) (hne : (x == y) = false) (hT : putT T o.dst .nv = T') (h : AL P ops l Q T' H) : AL P ops (o :: l) Q T H := by
  subst hT; exact al_unwanted hg hd hx hne h
end
section
variable {Φ : HS → Prop} {ops : Array Oper} {o : Oper} {l : List Oper} {fl : List Nat} {v : AV} {H' : HS} {R : List AV → HS → Prop} {g d : Nat} {x y : Bool}
theorem zd0 (ho : ∀ H, OpR P o (evalT T) H (Ret v H)) (hg : o.guard = none) (hT : putT T o.dst v = T') (h : DRunX P Φ ops l fl T' H R) : DRunX P Φ ops (o :: l) (0 :: fl) T H R := by subst hT; exact drun0 ho hg h
theorem zd1 (ho : OpR P o (evalT T) H (Ret v H)) (hg : o.guard = none) (hT : putT T o.dst v = T') (h : DRunX P Φ ops l fl T' H R) : DRunX P Φ ops (o :: l) (1 :: fl) T H R := by subst hT; exact drun1 ho hg h
theorem zd2 (ho : OpR P o (evalT T) H (Ret v H')) (hg : o.guard = none) (hT : putT T o.dst v = T') (h : DRun P ops l fl T' H' R) : DRun P ops (o :: l) (2 :: fl) T H R := by subst hT; exact drun2 ho hg h
theorem zd0w (hg : o.guard = some (g, x)) (hd : ((ops[g]?).bind (·.dst)) = some d) (hx : T[d]? = some (.d (.v (.bool x)))) (ho : ∀ H, OpR P o (evalT T) H (Ret v H)) (hT : putT T o.dst v = T') (h : DRunX P Φ ops l fl T' H R) : DRunX P Φ ops (o :: l) (0 :: fl) T H R := by subst hT; exact drun0w hg hd hx ho h
theorem zd1w (hg : o.guard = some (g, x)) (hd : ((ops[g]?).bind (·.dst)) = some d) (hx : T[d]? = some (.d (.v (.bool x)))) (ho : OpR P o (evalT T) H (Ret v H)) (hT : putT T o.dst v = T') (h : DRunX P Φ ops l fl T' H R) : DRunX P Φ ops (o :: l) (1 :: fl) T H R := by subst hT; exact drun1w hg hd hx ho h
theorem zdU {f : Nat} (hg : o.guard = some (g, y)) (hd : ((ops[g]?).bind (·.dst)) = some d) (hx : T[d]? = some (.d (.v (.bool x)))) (hne : (x == y) = false) (hT : putT T o.dst .nv = T') (h : DRunX P Φ ops l fl T' H R) : DRunX P Φ ops (o :: l) (f :: fl) T H R := by subst hT; exact drunU hg hd hx hne h
theorem zdV {f : Nat} (hg : o.guard = some (g, y)) (hd : ((ops[g]?).bind (·.dst)) = some d) (hx : T[d]? = some .nv) (hT : putT T o.dst .nv = T') (h : DRunX P Φ ops l fl T' H R) : DRunX P Φ ops (o :: l) (f :: fl) T H R := by subst hT; exact drunU0 hg hd hx h
end
theorem y1 {p : Prop} [Decidable p] : (decide p = true) = p := decide_eq_true_eq
theorem y2 {p : Prop} [Decidable p] : decide p = false ↔ ¬p := decide_eq_false_iff_not
theorem y3 {α : Type} [BEq α] [LawfulBEq α] {a b : α} : (a == b) = true ↔ a = b := beq_iff_eq
theorem y4 {α : Type} [BEq α] [LawfulBEq α] {a b : α} : (a == b) = false ↔ a ≠ b := beq_eq_false_iff_ne
theorem y5 {b : Bool} : ((!b) = true) = (b = false) := Bool.not_eq_true' b
theorem y6 {b : Bool} : ((!b) = false) = (b = true) := Bool.not_eq_false' b
theorem y7 {α : Type} [BEq α] [LawfulBEq α] {a b : α} : (a != b) = true ↔ a ≠ b := bne_iff_ne
theorem y8 {α : Type} [BEq α] [LawfulBEq α] {a b : α} : (a != b) = false ↔ a = b := bne_eq_false_iff_eq
theorem y9 {α : Type} {a b : α} : (a ≠ b) = ¬(a = b) := rfl
theorem y0 {p : Prop} [Decidable p] : ¬¬p ↔ p := Decidable.not_not
theorem val_tmp {i : Nat} {v : AV} (h : T[i]? = some v) : evalT T (.tmp i) = v := evalT_tmp h
theorem val_const {x : Value} (h : plain x = true) : evalT T (.const x) = .d (.v x) := evalT_const h
theorem op_pick_tt {x y z : Operand} {v : AV} (hx : evalT T x = .d (.v (.bool true))) (hy : evalT T y = v) : OpR P ⟨dst, .pick x y z, ty, pos, after, gd⟩ (evalT T) H (Ret v H) := by
  have h := op_pick (P := P) (E := evalT T) (H := H) (dst := dst) (ty := ty) (pos := pos) (after := after) (gd := gd) (x := x) (y := y) (z := z) hx
  rw [if_pos rfl, hy] at h
  exact h
theorem op_pick_ff {x y z : Operand} {v : AV} (hx : evalT T x = .d (.v (.bool false))) (hz : evalT T z = v) : OpR P ⟨dst, .pick x y z, ty, pos, after, gd⟩ (evalT T) H (Ret v H) := by
  have h := op_pick (P := P) (E := evalT T) (H := H) (dst := dst) (ty := ty) (pos := pos) (after := after) (gd := gd) (x := x) (y := y) (z := z) hx
  rw [if_neg (by simp), hz] at h
  exact h
inductive Vals (T : List AV) : List Operand → List AV → Prop
  | nil : Vals T [] []
  | tmp {i : Nat} {v : AV} {l : List Operand} {vs : List AV} (h : T[i]? = some v) (r : Vals T l vs) : Vals T (.tmp i :: l) (v :: vs)
  | const {x : Value} {l : List Operand} {vs : List AV} (h : plain x = true) (r : Vals T l vs) : Vals T (.const x :: l) (.d (.v x) :: vs)
  | func {f : FuncId} {l : List Operand} {vs : List AV} (r : Vals T l vs) : Vals T (.func f :: l) (.fn (.func f) [] [] :: vs)
theorem Vals.eq {l : List Operand} {vs : List AV} (h : Vals T l vs) : l.map (evalT T) = vs := by
  induction h with
  | nil => rfl
  | tmp h _ ih => rw [List.map_cons, ih, evalT_tmp h]
  | const h _ ih => rw [List.map_cons, ih, evalT_const h]
  | func _ ih => rw [List.map_cons, ih]; rfl
theorem op_callF {args : Array Operand} {ts : Array TypeId} {f : FuncId} {fn : Func} {avs : List AV} {R : AV → HS → Prop} (hfn : P.funcs[f]? = some fn) (hname : (fn.name == "runtime.NumGoroutine") = false) (hbody : fn.body.isNone = false) (hargs : Vals T args.toList avs)
    (h : ACalls P f avs H R) : OpR P ⟨dst, .call ⟨.value (.func f), args, ts⟩, ty, pos, after, gd⟩ (evalT T) H R :=
  op_call (fs := []) (cs := []) rfl hfn hname hbody (by simpa [hargs.eq] using h)
theorem op_callV {i : Nat} {args : Array Operand} {ts : Array TypeId} {f : FuncId} {fn : Func} {fs cs avs : List AV} {R : AV → HS → Prop} (hi : T[i]? = some (.fn (.func f) fs cs)) (hfn : P.funcs[f]? = some fn) (hname : (fn.name == "runtime.NumGoroutine") = false) (hbody : fn.body.isNone = false) (hargs : Vals T args.toList avs)
    (h : ACalls P f (fs ++ avs ++ cs) H R) : OpR P ⟨dst, .call ⟨.value (.tmp i), args, ts⟩, ty, pos, after, gd⟩ (evalT T) H R :=
  op_call (fs := fs) (cs := cs) (evalT_tmp hi) hfn hname hbody (by simpa [hargs.eq] using h)
theorem op_makeFn {f0 : FuncId} {first cap : Array Operand} {fs cs : List AV} (h1 : Vals T first.toList fs) (h2 : Vals T cap.toList cs) : OpR P ⟨dst, .makeFunc (.func f0) first cap, ty, pos, after, gd⟩ (evalT T) H (Ret (.fn (.func f0) fs cs) H) := by
  rw [← h1.eq, ← h2.eq]; exact op_makeFunc
end
end Go.AV
namespace Go.AV
open Go.RowKit
def ctx0 (w : World) : Ctx := { mem := fun g o => w.cell? ⟨g, o, none⟩, blk := [], tok := [] }
def H0 : HS := { blks := [], toks := [] }
theorem inv0 (w : World) : Inv w.heap.size w (ctx0 w) H0 w :=
  ⟨Nat.le_refl _, Below.refl _ _, fun _ _ _ h => h, rfl, fun i g b h => by simp [ctx0] at h, fun i j g h => by simp [ctx0] at h, rfl, fun i e h => by simp [ctx0] at h, fun i j e e' h => by simp [ctx0] at h, ⟨rfl, fun i j g h => by simp [ctx0] at h, fun i g m h => by simp [ctx0] at h⟩⟩
theorem law_calls {P : Program} {f : FuncId} {args : Array Value} {avs : List AV} {W : World} (hs : args.size = avs.length) (hr : ∀ i (hi : i < avs.length), Rep (ctx0 W) (args.getD i undef) avs[i])
    (h : ACalls P f avs H0 fun av _ => av = .d (TF true)) : Calls P f args W fun e w' => e = .returned (.bool true) ∧ Below W.heap.size W w' := by
  refine (h W.heap.size W (ctx0 W) W args (inv0 W) hs hr).mono ?_
  rintro e w' ⟨v, av, H', c', rfl, _, h2, h3, rfl⟩
  exact ⟨by rw [h2.v_eq], h3.below⟩
section
variable {H : Type} {enc : TypeId × Value → H} {P : Program} {W : World} {sp : Nat → Bool} {held : Bool}
theorem mapM_opt {α β : Type} {f : α → Option β} : ∀ {l : List α} {r : List β}, l.mapM f = some r → r.length = l.length ∧ ∀ i (hi : i < l.length) (hi' : i < r.length), f l[i] = some r[i]
  | [], r, h => by
    simp at h
    subst h
    exact ⟨rfl, fun i hi => by simp at hi⟩
  | x :: l, r, h => by
    rw [List.mapM_cons] at h
    cases hx : f x with
    | none => rw [hx] at h; cases h
    | some y =>
      cases hl : l.mapM f with
      | none => rw [hx, hl] at h; cases h
      | some ys =>
        rw [hx, hl] at h
        have e : r = y :: ys := by simpa using h.symm
        subst e
        obtain ⟨h1, h2⟩ := mapM_opt hl
        refine ⟨by simp [h1], fun i hi hi' => ?_⟩
        cases i with
        | zero => simpa using hx
        | succ i => simpa using h2 i (by simpa using hi) (by simpa using hi')
theorem cells_opt {a : Addr} {n : Nat} {cs : List Value} (h : W.cells? 0 a n = some cs) : cs.length = n ∧ ∀ i (_ : i < n) (hi' : i < cs.length), W.cell? (a.add i) = some cs[i] := by
  unfold World.cells? at h
  rw [if_pos (Nat.zero_le _)] at h
  obtain ⟨h1, h2⟩ := mapM_opt h
  simp at h1
  refine ⟨h1, fun i hi hi' => ?_⟩
  have := h2 i (by simpa using hi) hi'
  simpa using this
structure Reads (W : World) (Good : DV → Prop) (sz : Nat) (cs : List Value) (y : DV) : Prop where
  len : cs.length = sz
  ylen : y.cells.length = sz
  one : ∀ z ∈ y.cells, z.one = true
  good : Good y
  at_ : ∀ i (hi : i < cs.length) (hi' : i < y.cells.length), RepD (ctx0 W).mem cs[i] y.cells[i]
theorem choose_list {α : Type} {n : Nat} {p : Nat → α → Prop} (h : ∀ i, i < n → ∃ y, p i y) : ∃ ys : List α, ys.length = n ∧ ∀ i (hi : i < ys.length), p i ys[i] := by
  induction n with
  | zero => exact ⟨[], rfl, fun i hi => by simp at hi⟩
  | succ n ih =>
    obtain ⟨ys, h1, h2⟩ := ih fun i hi => h i (by omega)
    obtain ⟨y, hy⟩ := h n (by omega)
    refine ⟨ys ++ [y], by simp [h1], fun i hi => ?_⟩
    by_cases hlt : i < ys.length
    · rw [List.getElem_append_left hlt]; exact h2 i hlt
    · have : i = n := by simp at hi; omega
      subst this
      rw [List.getElem_append_right (by omega)]
      simpa [h1] using hy
theorem addr_spot (a : Addr) {v : Value} (h : W.cell? a = some v) : a = ⟨a.block, a.off, none⟩ := by
  unfold World.cell? at h
  split at h
  · split at h
    · cases h
    · rename_i hs
      cases a with
      | mk b o s => cases s with
        | none => rfl
        | some _ => simp at hs
  · cases h
theorem add_add (a : Addr) (m n : Nat) : ((a.add m).add n) = if m + n = 0 then a else ⟨a.block, a.off + (m + n), none⟩ := by
  unfold Addr.add
  by_cases h1 : m = 0 <;> by_cases h2 : n = 0 <;> simp [h1, h2, Nat.add_assoc]
theorem rep_slice {fuel : Nat} {t e : TypeId} {sz : Nat} (hsz0 : 0 < sz) (Good : DV → Prop) (ht : P.underlying t = some (.slice e)) (hsz : P.cellsOf e = sz)
    (hel : ∀ cs d p, DataW.trod enc P W 0 sp held fuel e cs = some (d, p) → cs.length = sz → ∃ y, Reads W Good sz cs y) {a : Option Addr} {n cap : Nat} {d : DataW H} {p : List MemPlace} (h : DataW.trod enc P W 0 sp held (fuel + 1) t [.slice a n cap] = some (d, p)) :
    ∃ ys, RepD (ctx0 W).mem (.slice a n cap) (.lst sz ys) ∧ (∀ y ∈ ys, Good y) := by
  simp only [DataW.trod, ht] at h
  cases a with
  | none =>
    cases n with
    | zero => exact ⟨[], .lstE _ _ _, by simp⟩
    | succ n => simp at h
  | some ad =>
    simp only [] at h
    split at h
    · rename_i hc
      obtain ⟨es, he, _⟩ := Option.bind_eq_some_iff.1 h
      obtain ⟨h1, h2⟩ := mapM_opt he
      simp at h1
      rw [hsz] at h2
      by_cases hn0 : n = 0
      · subst hn0
        exact ⟨[], .lstE _ _ _, by simp⟩
      have hall : ∀ i, i < n → ∃ (cs : List Value) (y : DV), W.cells? 0 (ad.add (i * sz)) sz = some cs ∧ Reads W Good sz cs y := by
        intro i hi
        have h3 := h2 i (by simpa using hi) (by omega)
        simp only [List.getElem_range] at h3
        obtain ⟨cs, h4, h5⟩ := Option.bind_eq_some_iff.1 h3
        have hl := (cells_opt h4).1
        obtain ⟨y, hy⟩ := hel cs _ _ h5 hl
        exact ⟨cs, y, h4, hy⟩
      obtain ⟨ys, hy1, hy2⟩ := choose_list (p := fun i y => ∃ cs, W.cells? 0 (ad.add (i * sz)) sz = some cs ∧ Reads W Good sz cs y) (n := n) (fun i hi => by
        obtain ⟨cs, y, h⟩ := hall i hi
        exact ⟨y, cs, h⟩)
      have hysz : ∀ y ∈ ys, y.cells.length = sz := by
        intro y hy
        obtain ⟨i, hi, rfl⟩ := List.getElem_of_mem hy
        obtain ⟨cs, _, h4⟩ := hy2 i hi
        exact h4.ylen
      have hfl := flat_length hysz
      have had : ad = ⟨ad.block, ad.off, none⟩ := by
        obtain ⟨cs, h3, h4⟩ := hy2 0 (by omega)
        obtain ⟨h5, h6⟩ := cells_opt h3
        have h7 := h6 0 hsz0 (by omega)
        rw [add_add, if_pos (by simp)] at h7
        exact addr_spot ad h7
      have hcell : ∀ i (hi : i < ys.length) k (hk : k < sz), ∃ u, W.cell? ⟨ad.block, ad.off + (i * sz + k), none⟩ = some u ∧ ∃ z, (ys[i]).cells[k]? = some z ∧ RepD (ctx0 W).mem u z := by
        intro i hi k hk
        obtain ⟨cs, h3, h4⟩ := hy2 i hi
        obtain ⟨h5, h6⟩ := cells_opt h3
        have h7 := h6 k hk (by omega)
        rw [had, addr_add, addr_add, Nat.add_assoc] at h7
        exact ⟨_, h7, _, List.getElem?_eq_getElem (by rw [h4.ylen]; exact hk), h4.at_ k (by omega) (by rw [h4.ylen]; exact hk)⟩
      have split : ∀ i, i < (flat ys).length → ∃ u, W.cell? ⟨ad.block, ad.off + i, none⟩ = some u ∧ ∃ z, (flat ys)[i]? = some z ∧ RepD (ctx0 W).mem u z := by
        intro i hi
        rw [hfl] at hi
        have e1 : i = (i / sz) * sz + i % sz := by rw [Nat.mul_comm]; exact (Nat.div_add_mod i sz).symm
        have e2 : i % sz < sz := Nat.mod_lt _ hsz0
        have e3 : i / sz < ys.length := by rw [Nat.div_lt_iff_lt_mul hsz0]; exact hi
        obtain ⟨u, h3, z, h4, h5⟩ := hcell (i / sz) e3 (i % sz) e2
        refine ⟨u, by rw [e1]; exact h3, z, ?_, h5⟩
        have h6 := flat_get hysz (i / sz) e3 (i % sz) e2
        rw [← e1] at h6
        rw [h6, h4]
      refine ⟨ys, ?_, fun y hy => ?_⟩
      · rw [had]
        refine .lst ad.block ad.off n cap sz ys (fun i => (W.cell? ⟨ad.block, ad.off + i, none⟩).getD undef) hy1 hc.2.1 hysz (fun z hz => ?_) (fun i hi => ?_) (fun i hi => ?_)
        · obtain ⟨y, hy, hz'⟩ := List.mem_flatMap.1 hz
          obtain ⟨i, hi, rfl⟩ := List.getElem_of_mem hy
          obtain ⟨cs, _, h4⟩ := hy2 i hi
          exact h4.one z hz'
        · obtain ⟨u, h3, _⟩ := split i hi
          show W.cell? _ = _
          rw [h3]; rfl
        · obtain ⟨u, h3, z, h4, h5⟩ := split i hi
          have : (flat ys)[i] = z := by rw [List.getElem?_eq_getElem hi] at h4; exact Option.some.inj h4
          rw [this, h3]
          exact h5
      · obtain ⟨i, hi, rfl⟩ := List.getElem_of_mem hy
        obtain ⟨cs, _, h4⟩ := hy2 i hi
        exact h4.good
    · cases h
theorem reads_str {fuel : Nat} {t : TypeId} (ht : P.underlying t = some .string) {cs : List Value} {d : DataW H} {p : List MemPlace} (h : DataW.trod enc P W 0 sp held fuel t cs = some (d, p)) : ∃ y, Reads W (fun y => ∃ l : List UInt8, y = S l) 1 cs y := by
  cases fuel with
  | zero => cases h
  | succ fuel =>
    simp only [DataW.trod, ht] at h
    split at h <;> first | (rename_i e; cases e; done) | skip
    all_goals first | (cases h; done) | skip
    rename_i s e1
    refine ⟨S s.data.toList, rfl, rfl, by simp [S, DV.cells, DV.one], ⟨_, rfl⟩, fun i hi hi' => ?_⟩
    have : i = 0 := by simp at hi; omega
    subst this
    have e2 : (⟨s.data.toList.toArray⟩ : ByteArray) = s := by cases s; simp
    have e3 : (DV.cells (S s.data.toList))[0] = .v (.string s) := by simp [S, DV.cells, e2]
    simp only [List.getElem_cons_zero]
    rw [e3]
    exact .v _ rfl
theorem reads_int {fuel : Nat} {t : TypeId} {k : IntKind} (ht : P.underlying t = some (.int k)) {cs : List Value} {d : DataW H} {p : List MemPlace} (h : DataW.trod enc P W 0 sp held fuel t cs = some (d, p)) : ∃ y, Reads W (fun y => ∃ n : Int, y = .v (.int k n) ∧ (Lit.int k n).wf = true) 1 cs y := by
  cases fuel with
  | zero => cases h
  | succ fuel =>
    simp only [DataW.trod, ht] at h
    split at h <;> first | (rename_i e; cases e; done) | skip
    all_goals first | (cases h; done) | skip
    rename_i k1 k' n e1
    cases e1
    split at h
    · rename_i hc
      obtain ⟨rfl, hw⟩ := hc
      refine ⟨.v (.int k' n), rfl, rfl, by simp [DV.cells, DV.one], ⟨n, rfl, hw⟩, fun i hi hi' => ?_⟩
      have : i = 0 := by simp at hi; omega
      subst this
      exact .v _ rfl
    · cases h
theorem reads_bool {fuel : Nat} {t : TypeId} (ht : P.underlying t = some .bool) {cs : List Value} {d : DataW H} {p : List MemPlace} (h : DataW.trod enc P W 0 sp held fuel t cs = some (d, p)) : ∃ y, Reads W (fun y => ∃ b : Bool, y = TF b) 1 cs y := by
  cases fuel with
  | zero => cases h
  | succ fuel =>
    simp only [DataW.trod, ht] at h
    split at h <;> first | (rename_i e; cases e; done) | skip
    all_goals first | (cases h; done) | skip
    rename_i b _
    refine ⟨TF b, rfl, rfl, by simp [TF, DV.cells, DV.one], ⟨b, rfl⟩, fun i hi hi' => ?_⟩
    have : i = 0 := by simp at hi; omega
    subst this
    exact .v _ rfl
theorem Reads.imp {Good Good' : DV → Prop} {sz : Nat} {cs : List Value} {y : DV} (h : Reads W Good sz cs y) (hg : Good y → Good' y) : Reads W Good' sz cs y := ⟨h.len, h.ylen, h.one, hg h.good, h.at_⟩
theorem all_map {α : Type} {f : α → DV} : ∀ {ys : List DV}, (∀ y ∈ ys, ∃ x, y = f x) → ∃ xs : List α, ys = xs.map f
  | [], _ => ⟨[], rfl⟩
  | y :: ys, h => by
    obtain ⟨x, rfl⟩ := h y (by simp)
    obtain ⟨xs, rfl⟩ := all_map (ys := ys) fun z hz => h z (by simp [hz])
    exact ⟨x :: xs, rfl⟩
section
variable {r : Reach} {b0 : Nat} {t : TypeId} {v : Value} {d : DataW H} {ps : List MemPlace}
theorem arg_list {e : TypeId} {sz : Nat} (hsz0 : 0 < sz) (Good : DV → Prop) (ht : P.underlying t = some (.slice e)) (hsz : P.cellsOf e = sz) (hval : Value.okWide P W r b0 t v) (hd : DataW.Trod enc P W 0 sp held t v d ps)
    (hel : ∀ fuel cs d p, DataW.trod enc P W 0 sp held fuel e cs = some (d, p) → cs.length = sz → ∃ y, Reads W Good sz cs y) : ∃ ys : List DV, (∀ y ∈ ys, Good y) ∧ Rep (ctx0 W) v (.d (.lst sz ys)) := by
  obtain ⟨a, n, cap, rfl⟩ := WideShapes.okWide_slice ht hval
  obtain ⟨fuel, hf⟩ := hd
  cases fuel with
  | zero => cases hf
  | succ fuel =>
    obtain ⟨ys, h1, h2⟩ := rep_slice hsz0 Good ht hsz (hel fuel) hf
    exact ⟨ys, h2, .d h1⟩
end
end
end Go.AV
namespace Go.Proofs.Ytjbpfnoibeogbaa
open Go.AV
set_option linter.unusedVariables false
set_option linter.unusedSimpArgs false
theorem Inf2 : tInfo Try.prog 2 (Value.int IntKind.i64 (0)) 1 8 := by unfold tInfo; kernel_rfl
theorem Sz2 : (Try.prog.info? 2).map (·.size) = some 1 := Inf2.size
theorem Inf3 : tInfo Try.prog 3 (Value.int IntKind.i64 (0)) 1 8 := by unfold tInfo; kernel_rfl
theorem Sz3 : (Try.prog.info? 3).map (·.size) = some 1 := Inf3.size
theorem ZS3 : (Try.prog.info? 3).map (fun i => (i.zero, i.size)) = some (some (Value.int IntKind.i64 (0)), 1) := by kernel_rfl
theorem Inf4 : tInfo Try.prog 4 (Value.bool false) 1 1 := by unfold tInfo; kernel_rfl
theorem Sz4 : (Try.prog.info? 4).map (·.size) = some 1 := Inf4.size
theorem Zr4 : (Try.prog.info? 4).map (·.zero) = some (some (Value.bool false)) := by kernel_rfl
theorem Inf5 : tInfo Try.prog 5 (Value.int IntKind.u8 (0)) 1 1 := by unfold tInfo; kernel_rfl
theorem Sz5 : (Try.prog.info? 5).map (·.size) = some 1 := Inf5.size
theorem ZS5 : (Try.prog.info? 5).map (fun i => (i.zero, i.size)) = some (some (Value.int IntKind.u8 (0)), 1) := by kernel_rfl
theorem Inf9 : tInfo Try.prog 9 (Value.string { data := { toList := [] } }) 1 16 := by unfold tInfo; kernel_rfl
theorem Sz9 : (Try.prog.info? 9).map (·.size) = some 1 := Inf9.size
theorem ZS9 : (Try.prog.info? 9).map (fun i => (i.zero, i.size)) = some (some (Value.string { data := { toList := [] } }), 1) := by kernel_rfl
theorem Inf22 : tInfo Try.prog 22 (Value.slice none 0 0) 1 24 := by unfold tInfo; kernel_rfl
theorem Sz22 : (Try.prog.info? 22).map (·.size) = some 1 := Inf22.size
theorem Inf23 : tInfo Try.prog 23 (Value.int IntKind.i64 (0)) 1 8 := by unfold tInfo; kernel_rfl
theorem Sz23 : (Try.prog.info? 23).map (·.size) = some 1 := Inf23.size
theorem Inf24 : tInfo Try.prog 24 (Value.slice none 0 0) 1 24 := by unfold tInfo; kernel_rfl
theorem Sz24 : (Try.prog.info? 24).map (·.size) = some 1 := Inf24.size
theorem Inf26 : tInfo Try.prog 26 (Value.agg { toList := [Value.int IntKind.i64 (0), Value.bool false, Value.int IntKind.i64 (0), Value.string { data := { toList := [] } }, Value.slice none 0 0, Value.slice none 0 0] }) 6 88 := by unfold tInfo; kernel_rfl
theorem Sz26 : (Try.prog.info? 26).map (·.size) = some 6 := Inf26.size
theorem Zr26 : (Try.prog.info? 26).map (·.zero) = some (some (Value.agg { toList := [Value.int IntKind.i64 (0), Value.bool false, Value.int IntKind.i64 (0), Value.string { data := { toList := [] } }, Value.slice none 0 0, Value.slice none 0 0] })) := by kernel_rfl
theorem Inf30 : tInfo Try.prog 30 (Value.agg { toList := [Value.string { data := { toList := [] } }, Value.int IntKind.i64 (0), Value.bool false, Value.int IntKind.i64 (0), Value.string { data := { toList := [] } }, Value.slice none 0 0, Value.slice none 0 0] }) 7 104 := by unfold tInfo; kernel_rfl
theorem Sz30 : (Try.prog.info? 30).map (·.size) = some 7 := Inf30.size
theorem Zr30 : (Try.prog.info? 30).map (·.zero) = some (some (Value.agg { toList := [Value.string { data := { toList := [] } }, Value.int IntKind.i64 (0), Value.bool false, Value.int IntKind.i64 (0), Value.string { data := { toList := [] } }, Value.slice none 0 0, Value.slice none 0 0] })) := by kernel_rfl
theorem Inf46 : tInfo Try.prog 46 (Value.slice none 0 0) 1 24 := by unfold tInfo; kernel_rfl
theorem Sz46 : (Try.prog.info? 46).map (·.size) = some 1 := Inf46.size
theorem Zr46 : (Try.prog.info? 46).map (·.zero) = some (some (Value.slice none 0 0)) := by kernel_rfl
theorem Inf51 : tInfo Try.prog 51 (Value.agg { toList := [Value.string { data := { toList := [] } }, Value.string { data := { toList := [] } }, Value.bool false] }) 3 40 := by unfold tInfo; kernel_rfl
theorem Sz51 : (Try.prog.info? 51).map (·.size) = some 3 := Inf51.size
theorem Zr51 : (Try.prog.info? 51).map (·.zero) = some (some (Value.agg { toList := [Value.string { data := { toList := [] } }, Value.string { data := { toList := [] } }, Value.bool false] })) := by kernel_rfl
theorem ZS51 : (Try.prog.info? 51).map (fun i => (i.zero, i.size)) = some (some (Value.agg { toList := [Value.string { data := { toList := [] } }, Value.string { data := { toList := [] } }, Value.bool false] }), 3) := by kernel_rfl
theorem Zr179 : (Try.prog.info? 179).map (·.zero) = some (some (Value.agg { toList := [Value.string { data := { toList := [] } }, Value.bool false] })) := by kernel_rfl
theorem mixed : Try.prog.follows .mixedOrders = true := by kernel_rfl
end Go.Proofs.Ytjbpfnoibeogbaa
namespace Go.Proofs.Ytjbpfnoibeogbaa
open Go.AV
set_option linter.unusedVariables false
set_option linter.unusedSimpArgs false
theorem Inf40 : tInfo Try.prog 40 (Value.slice none 0 0) 1 24 := by unfold tInfo; kernel_rfl
theorem Sz40 : (Try.prog.info? 40).map (·.size) = some 1 := Inf40.size
theorem Inf69 : tInfo Try.prog 69 (Value.pointer none) 1 8 := by unfold tInfo; kernel_rfl
theorem Sz69 : (Try.prog.info? 69).map (·.size) = some 1 := Inf69.size
theorem Inf75 : tInfo Try.prog 75 (Value.slice none 0 0) 1 24 := by unfold tInfo; kernel_rfl
theorem Sz75 : (Try.prog.info? 75).map (·.size) = some 1 := Inf75.size
theorem Inf77 : tInfo Try.prog 77 (Value.agg { toList := [Value.string { data := { toList := [] } }, Value.slice none 0 0] }) 2 40 := by unfold tInfo; kernel_rfl
theorem Sz77 : (Try.prog.info? 77).map (·.size) = some 2 := Inf77.size
theorem Zr77 : (Try.prog.info? 77).map (·.zero) = some (some (Value.agg { toList := [Value.string { data := { toList := [] } }, Value.slice none 0 0] })) := by kernel_rfl
theorem Inf88 : tInfo Try.prog 88 (Value.agg { toList := [Value.string { data := { toList := [] } }, Value.string { data := { toList := [] } }, Value.bool false] }) 3 40 := by unfold tInfo; kernel_rfl
theorem Sz88 : (Try.prog.info? 88).map (·.size) = some 3 := Inf88.size
theorem Zr88 : (Try.prog.info? 88).map (·.zero) = some (some (Value.agg { toList := [Value.string { data := { toList := [] } }, Value.string { data := { toList := [] } }, Value.bool false] })) := by kernel_rfl
theorem ZS88 : (Try.prog.info? 88).map (fun i => (i.zero, i.size)) = some (some (Value.agg { toList := [Value.string { data := { toList := [] } }, Value.string { data := { toList := [] } }, Value.bool false] }), 3) := by kernel_rfl
theorem Inf130 : tInfo Try.prog 130 (Value.slice none 0 0) 1 24 := by unfold tInfo; kernel_rfl
theorem Sz130 : (Try.prog.info? 130).map (·.size) = some 1 := Inf130.size
theorem Inf132 : tInfo Try.prog 132 (Value.agg { toList := [Value.slice none 0 0, Value.int IntKind.i64 (0)] }) 2 32 := by unfold tInfo; kernel_rfl
theorem Sz132 : (Try.prog.info? 132).map (·.size) = some 2 := Inf132.size
theorem Zr134 : (Try.prog.info? 134).map (·.zero) = some (some (Value.agg { toList := [Value.slice none 0 0, Value.int IntKind.i64 (0), Value.int IntKind.i64 (0), Value.slice none 0 0] })) := by kernel_rfl
theorem Inf141 : tInfo Try.prog 141 (Value.slice none 0 0) 1 24 := by unfold tInfo; kernel_rfl
theorem Sz141 : (Try.prog.info? 141).map (·.size) = some 1 := Inf141.size
theorem Inf143 : tInfo Try.prog 143 (Value.agg { toList := [Value.slice none 0 0, Value.int IntKind.i64 (0)] }) 2 32 := by unfold tInfo; kernel_rfl
theorem Sz143 : (Try.prog.info? 143).map (·.size) = some 2 := Inf143.size
theorem Zr145 : (Try.prog.info? 145).map (·.zero) = some (some (Value.agg { toList := [Value.pointer none, Value.int IntKind.i64 (0), Value.int IntKind.i64 (0), Value.int IntKind.i64 (0), Value.int IntKind.i64 (0), Value.slice none 0 0, Value.int IntKind.i64 (0)] })) := by kernel_rfl
theorem Inf195 : tInfo Try.prog 195 (Value.slice none 0 0) 1 24 := by unfold tInfo; kernel_rfl
theorem Sz195 : (Try.prog.info? 195).map (·.size) = some 1 := Inf195.size
theorem ZS195 : (Try.prog.info? 195).map (fun i => (i.zero, i.size)) = some (some (Value.slice none 0 0), 1) := by kernel_rfl
theorem Inf197 : tInfo Try.prog 197 (Value.agg { toList := [Value.string { data := { toList := [] } }, Value.string { data := { toList := [] } }, Value.string { data := { toList := [] } }, Value.bool false] }) 4 56 := by unfold tInfo; kernel_rfl
theorem Sz197 : (Try.prog.info? 197).map (·.size) = some 4 := Inf197.size
theorem Zr197 : (Try.prog.info? 197).map (·.zero) = some (some (Value.agg { toList := [Value.string { data := { toList := [] } }, Value.string { data := { toList := [] } }, Value.string { data := { toList := [] } }, Value.bool false] })) := by kernel_rfl
theorem ZS197 : (Try.prog.info? 197).map (fun i => (i.zero, i.size)) = some (some (Value.agg { toList := [Value.string { data := { toList := [] } }, Value.string { data := { toList := [] } }, Value.string { data := { toList := [] } }, Value.bool false] }), 4) := by kernel_rfl
end Go.Proofs.Ytjbpfnoibeogbaa
namespace Go.Proofs.Ytjbpfnoibeogbaa
open Go.AV
set_option linter.unusedVariables false
set_option linter.unusedSimpArgs false
end Go.Proofs.Ytjbpfnoibeogbaa
