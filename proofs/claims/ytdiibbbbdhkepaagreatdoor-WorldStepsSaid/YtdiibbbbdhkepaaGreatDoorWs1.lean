/- Part 1 of what the law needs: X0, A1, A2, X1, X2, X3, A3. -/
import Derived.AtR
import Derived.Runnable
import Derived.Conc.Own5
import Derived.Conc.TraceLaws
import Derived.Below
import Derived.Orders
import Derived.Tactics
import Derived.Laws.Rows
import Derived.Laws.AppendOwn
import GoSem.ClaimLeaving
import Derived.Conc.Listed
import Derived.Conc.AppendEvents3
import Derived.ControlIn
set_option linter.unusedSectionVars false
set_option linter.unusedVariables false
set_option linter.unusedSimpArgs false
namespace Go.AV
structure Crowd where
  me : Nat
  gs : Array Goroutine
structure Crowd.Ok (x : Crowd) : Prop where
  lt : x.me < x.gs.size
  rest : ∀ (j : Nat) (g : Goroutine), x.gs[j]? = some g → j ≠ x.me → g.status = .parked ∨ g.status = .finished
def Crowd.mach (x : Crowd) (g : Goroutine) (w : World) : Machine := { world := w, gs := x.gs.setIfInBounds x.me g, rest := { timers := #[], alone := none, slice := none } }
theorem filter_one {n m : Nat} (p : Nat → Bool) (hm : m < n) (hp : ∀ i, i < n → p i = decide (i = m)) : (List.range n).filter p = [m] := by
  induction n with
  | zero => omega
  | succ n ih =>
    rw [List.range_succ, List.filter_append]
    by_cases h : m = n
    · subst h
      have h0 : (List.range m).filter p = [] := by
        rw [List.filter_eq_nil_iff]
        intro i hi
        have hi' := List.mem_range.1 hi
        rw [hp i (by omega)]
        simp; omega
      rw [h0]
      simp [hp m (by omega)]
    · rw [ih (by omega) fun i hi => hp i (by omega)]
      have h1 : p n = false := by rw [hp n (by omega)]; simp; omega
      simp [h1]
theorem fold_none {f : Option Nat → Goroutine → Option Nat} (l : List Goroutine) (h : ∀ g ∈ l, f none g = none) : l.foldl f none = none := by
  induction l with
  | nil => rfl
  | cons g l ih =>
    rw [List.foldl_cons, h g (List.mem_cons_self ..)]
    exact ih fun x hx => h x (List.mem_cons_of_mem _ hx)
section
variable {x : Crowd} {g : Goroutine} {w : World} {P : Program}
theorem Crowd.at_ (hx : x.Ok) {j : Nat} {h : Goroutine} (hj : (x.gs.setIfInBounds x.me g)[j]? = some h) : (j = x.me ∧ h = g) ∨ (j ≠ x.me ∧ (h.status = .parked ∨ h.status = .finished)) := by
  by_cases e : j = x.me
  · subst e
    rw [Array.getElem?_setIfInBounds_self_of_lt hx.lt] at hj
    exact .inl ⟨rfl, (Option.some.inj hj).symm⟩
  · rw [Array.getElem?_setIfInBounds_ne (fun h => e h.symm)] at hj
    exact .inr ⟨e, hx.rest j h hj e⟩
theorem runnable_crowd (hx : x.Ok) (hg : g.status = .running) (mono : Nat) : runnable (x.mach g w).gs mono = [x.me] := by
  rw [runnable_eq]
  refine filter_one _ (by simp [Crowd.mach, hx.lt]) fun i hi => ?_
  obtain ⟨h, hh⟩ : ∃ h, (x.gs.setIfInBounds x.me g)[i]? = some h := ⟨_, Array.getElem?_eq_getElem hi⟩
  show ((x.gs.setIfInBounds x.me g)[i]?).any (·.canRun mono) = _
  rw [hh]
  rcases Crowd.at_ hx hh with ⟨rfl, rfl⟩ | ⟨hne, hs⟩
  · simp [Goroutine.canRun, hg]
  · rcases hs with hs | hs <;> simp [Goroutine.canRun, hs, hne]
theorem gs_status (hx : x.Ok) (hg : g.status = .running) : ∀ h ∈ (x.gs.setIfInBounds x.me g).toList, h.status = .running ∨ h.status = .parked ∨ h.status = .finished := by
  intro h hh
  obtain ⟨i, hi, e⟩ := List.getElem_of_mem hh
  have hi' : i < (x.gs.setIfInBounds x.me g).size := by simpa using hi
  have hj : (x.gs.setIfInBounds x.me g)[i]? = some h := by
    rw [Array.getElem?_eq_getElem hi']
    exact congrArg some e
  rcases Crowd.at_ hx hj with ⟨_, rfl⟩ | ⟨_, hs⟩
  · exact .inl hg
  · exact .inr hs
theorem ahead_crowd (hx : x.Ok) (hg : g.status = .running) (all : Bool) : ahead { world := w, gs := x.gs.setIfInBounds x.me g, rest := { timers := #[], alone := none, slice := none } } all = none := by
  have h0 := gs_status hx hg
  unfold ahead
  dsimp only
  rw [← Array.foldl_toList (xs := x.gs.setIfInBounds x.me g), fold_none (x.gs.setIfInBounds x.me g).toList]
  · rfl
  · intro h hh
    rcases h0 h hh with e | e | e <;> simp [e]
theorem move_crowd (hx : x.Ok) (hg : g.status = .running) : move P (x.mach g w) = .goroutine (x.mach g w) x.me := by
  have h1 : runnable (x.gs.setIfInBounds x.me g) w.os.mono = [x.me] := runnable_crowd (w := w) hx hg w.os.mono
  have h2 := ahead_crowd (w := w) hx hg true
  unfold Crowd.mach
  generalize x.gs.setIfInBounds x.me g = gs at *
  simp [move, ask, askOn, h1, h2, due, choose, pure, Sem.run, Question.forced]
theorem again_crowd {h : Goroutine} (hs : h.status = .parked ∨ h.status = .finished) : h.again w = h := by
  rcases hs with hs | hs <;> simp [Goroutine.again, hs]
theorem stepT_crowd {g' : Goroutine} {w' : World} {es : Array Event} (hx : x.Ok) (hg : g.status = .running) (h : stepG P (x.me == 0) g w = .go g' w' es) :
    stepT P (x.mach g w) = (.next (x.mach g' w'), MemOp.ofEvents x.me g.frame.fn g.frame.place es) := by
  rw [stepT, move_crowd hx hg]
  have hsz : x.me < (x.gs.setIfInBounds x.me g).size := by simp [hx.lt]
  have hfin : ∀ wake : Bool, ((if wake = true then ((x.gs.setIfInBounds x.me g).set x.me { (default : Goroutine) with status := .finished } hsz).map (·.again w') else (x.gs.setIfInBounds x.me g).set x.me { (default : Goroutine) with status := .finished } hsz).setIfInBounds x.me g') = x.gs.setIfInBounds x.me g' := by
    intro wake
    apply Array.ext_getElem?
    intro j
    by_cases hj : j = x.me
    · subst hj
      rw [Array.getElem?_setIfInBounds_self_of_lt (by split <;> simp [hx.lt]), Array.getElem?_setIfInBounds_self_of_lt hx.lt]
    · rw [Array.getElem?_setIfInBounds_ne (fun h => hj h.symm), Array.getElem?_setIfInBounds_ne (fun h => hj h.symm)]
      split
      · rw [Array.getElem?_map, Array.getElem?_set_ne _ (fun h => hj h.symm), Array.getElem?_setIfInBounds_ne (fun h => hj h.symm)]
        cases hh : x.gs[j]? with
        | none => rfl
        | some h =>
          show some (h.again w') = some h
          rw [again_crowd (hx.rest j h hh hj)]
      · rw [Array.getElem?_set_ne _ (fun h => hj h.symm), Array.getElem?_setIfInBounds_ne (fun h => hj h.symm)]
  have hsw : (x.mach g w).gs.swapAt! x.me { (default : Goroutine) with status := .finished } = (g, (x.gs.setIfInBounds x.me g).set x.me { (default : Goroutine) with status := .finished } hsz) := by
    show (x.gs.setIfInBounds x.me g).swapAt! x.me _ = _
    unfold Array.swapAt!
    rw [dif_pos hsz]
    simp [Array.swapAt]
  have hw : (x.mach g w).world = w := rfl
  have hr : (x.mach g w).rest = { timers := #[], alone := none, slice := none } := rfl
  simp only [runT, hsw, hw, hr, h, GStep.es]
  simp only [hfin]
  simp [Crowd.mach]
end
end Go.AV
namespace Go.AV
open Go.RowKit
def plain : Value → Bool
  | .bool _ => true
  | .int _ _ => true
  | .string _ => true
  | .pointer none => true
  | .slice none 0 0 => true
  | .map none => true
  | .nilFunc => true
  | .nilIface => true
  | _ => false
inductive DV where
  | v (x : Value)
  | agg (cs : List DV)
  | lst (sz : Nat) (xs : List DV)
def DV.cells : DV → List DV
  | .agg cs => cs
  | x => [x]
def DV.one : DV → Bool
  | .agg _ => false
  | _ => true
def flat (xs : List DV) : List DV := xs.flatMap DV.cells
theorem flat_length {sz : Nat} : ∀ {xs : List DV}, (∀ x ∈ xs, x.cells.length = sz) → (flat xs).length = xs.length * sz
  | [], _ => by simp [flat]
  | x :: xs, h => by
    have ih := flat_length (xs := xs) fun y hy => h y (List.mem_cons_of_mem _ hy)
    have hx := h x (List.mem_cons_self ..)
    simp only [flat, List.flatMap_cons, List.length_append, List.length_cons, Nat.add_mul, Nat.one_mul] at ih ⊢
    omega
theorem flat_append (xs ys : List DV) : flat (xs ++ ys) = flat xs ++ flat ys := by simp [flat]
theorem flat_get {sz : Nat} : ∀ {xs : List DV} (_ : ∀ x ∈ xs, x.cells.length = sz) (i : Nat) (hi : i < xs.length) (k : Nat), k < sz → (flat xs)[i * sz + k]? = (xs[i]).cells[k]?
  | [], _, i, hi, _, _ => by simp at hi
  | x :: xs, h, i, hi, k, hk => by
    have hx := h x (List.mem_cons_self ..)
    have h' : ∀ y ∈ xs, y.cells.length = sz := fun y hy => h y (List.mem_cons_of_mem _ hy)
    cases i with
    | zero => simp [flat, List.getElem?_append_left (show k < x.cells.length by omega)]
    | succ i =>
      have ih := flat_get h' i (by simpa using hi) k hk
      have e : (i + 1) * sz + k = x.cells.length + (i * sz + k) := by rw [hx, Nat.add_mul]; omega
      show (x.cells ++ flat xs)[(i + 1) * sz + k]? = _
      rw [e, List.getElem?_append_right (by omega), Nat.add_sub_cancel_left]
      simpa using ih
abbrev Mem := Nat → Nat → Option Value
inductive RepD (m : Mem) : Value → DV → Prop
  | v (x : Value) (h : plain x = true) : RepD m x (.v x)
  | agg (vs : Array Value) (cs : List DV) (hl : vs.size = cs.length) (h1 : ∀ c ∈ cs, c.one = true) (h : ∀ i (hi : i < cs.length), RepD m (vs.getD i undef) cs[i]) : RepD m (.agg vs) (.agg cs)
  | lst (g o n cap sz : Nat) (xs : List DV) (us : Nat → Value) (hn : xs.length = n) (hc : n ≤ cap) (hsz : ∀ x ∈ xs, x.cells.length = sz) (h1 : ∀ c ∈ flat xs, c.one = true)
      (hm : ∀ i, i < (flat xs).length → m g (o + i) = some (us i)) (h : ∀ i (hi : i < (flat xs).length), RepD m (us i) (flat xs)[i]) : RepD m (.slice (some ⟨g, o, none⟩) n cap) (.lst sz xs)
  | lstE (a : Option Addr) (cap sz : Nat) : RepD m (.slice a 0 cap) (.lst sz [])
inductive AV where
  | un
  | nv
  | d (x : DV)
  | own (t : Option Nat) (sz : Nat) (xs : List DV)
  | elt (cs : List DV)
  | ptr (id off : Nat)
  | arr (id n cap : Nat)
  | sub (id off n cap : Nat)
  | agg (cs : List AV)
  | tup (cs : List AV)
  | fn (f : Fn) (first cap : List AV)
  | map (id : Nat)
  | iter (id : Nat)
def AV.one : AV → Bool
  | .d x => x.one
  | .un => false
  | .nv => false
  | .agg _ => false
  | .tup _ => false
  | _ => true
def AV.cells : AV → List AV
  | .agg cs => cs
  | .d (.agg cs) => cs.map .d
  | x => [x]
structure Tok where
  g : Nat
  cap : Nat
  sz : Nat
  mark : Nat
structure Ctx where
  mem : Mem
  blk : List Nat
  tok : List Tok
  maps : List Nat := []
  x : Crowd
inductive Rep (c : Ctx) : Value → AV → Prop
  | un (x : Value) : Rep c x .un
  | nv : Rep c undef .nv
  | d {x : Value} {y : DV} (h : RepD c.mem x y) : Rep c x (.d y)
  | own0 (sz : Nat) : Rep c (.slice none 0 0) (.own none sz [])
  | own1 (g o n sz : Nat) (xs : List DV) (h : RepD c.mem (.slice (some ⟨g, o, none⟩) n n) (.lst sz xs)) : Rep c (.slice (some ⟨g, o, none⟩) n n) (.own none sz xs)
  | ownt (i : Nat) (e : Tok) (g n cap sz : Nat) (xs : List DV) (h : RepD c.mem (.slice (some ⟨g, 0, none⟩) n cap) (.lst sz xs)) (ht : c.tok[i]? = some e) (hn : n ≤ e.mark)
      (he : e.mark = n → e.g = g ∧ e.cap = cap ∧ e.sz = sz) : Rep c (.slice (some ⟨g, 0, none⟩) n cap) (.own (some i) sz xs)
  | elt (g o : Nat) (cs : List DV) (us : Nat → Value) (h1 : ∀ x ∈ cs, x.one = true) (hm : ∀ i, i < cs.length → c.mem g (o + i) = some (us i)) (h : ∀ i (hi : i < cs.length), RepD c.mem (us i) cs[i]) :
      Rep c (.pointer (some ⟨g, o, none⟩)) (.elt cs)
  | ptr (id off g : Nat) (h : c.blk[id]? = some g) : Rep c (.pointer (some ⟨g, off, none⟩)) (.ptr id off)
  | arr (id n cap g : Nat) (h : c.blk[id]? = some g) : Rep c (.slice (some ⟨g, 0, none⟩) n cap) (.arr id n cap)
  | sub (id off n cap g : Nat) (h : c.blk[id]? = some g) : Rep c (.slice (some ⟨g, off, none⟩) n cap) (.sub id off n cap)
  | agg (vs : Array Value) (cs : List AV) (hl : vs.size = cs.length) (h : ∀ i (hi : i < cs.length), Rep c (vs.getD i undef) cs[i]) : Rep c (.agg vs) (.agg cs)
  | tup (vs : Array Value) (cs : List AV) (hl : vs.size = cs.length) (h : ∀ i (hi : i < cs.length), Rep c (vs.getD i undef) cs[i]) : Rep c (.tuple vs) (.tup cs)
  | fn (f : Fn) (fs cs : Array Value) (fs' cs' : List AV) (hl : fs.size = fs'.length) (h : ∀ i (hi : i < fs'.length), Rep c (fs.getD i undef) fs'[i])
      (hl' : cs.size = cs'.length) (h' : ∀ i (hi : i < cs'.length), Rep c (cs.getD i undef) cs'[i]) (hy : ∀ l, f ≠ .yield l := by intro l h; cases h) : Rep c (.func f fs cs) (.fn f fs' cs')
  | yld (l idx : Nat) (hm : c.maps[idx]? = some l) : Rep c (.func (.yield l) #[] #[]) (.fn (.yield 0) [] [.iter idx])
  | map (id g : Nat) (h : c.maps[id]? = some g) : Rep c (.map (some g)) (.map id)
  | iter (id g : Nat) (h : c.maps[id]? = some g) : Rep c (.pointer (some ⟨g, 0, none⟩)) (.iter id)
def MemLe (m m' : Mem) : Prop := ∀ g o u, m g o = some u → m' g o = some u
structure Lw (c c' : Ctx) : Prop where
  mem : MemLe c.mem c'.mem
  blk : ∀ (i g : Nat), c.blk[i]? = some g → c'.blk[i]? = some g
  tok : ∀ (i : Nat) (e : Tok), c.tok[i]? = some e → ∃ e' : Tok, c'.tok[i]? = some e' ∧ (e' = e ∨ e.mark < e'.mark)
  maps : ∀ (i g : Nat), c.maps[i]? = some g → c'.maps[i]? = some g
  me : c'.x.me = c.x.me
structure Le (c c' : Ctx) : Prop where
  mem : MemLe c.mem c'.mem
  blk : ∀ (i g : Nat), c.blk[i]? = some g → c'.blk[i]? = some g
  tok : ∀ (i : Nat) (e : Tok), c.tok[i]? = some e → ∃ e' : Tok, c'.tok[i]? = some e' ∧ (e' = e ∨ e.mark < e'.mark)
  maps : ∀ (i g : Nat), c.maps[i]? = some g → c'.maps[i]? = some g
  x : c'.x = c.x
theorem Le.lw {c c' : Ctx} (h : Le c c') : Lw c c' := ⟨h.mem, h.blk, h.tok, h.maps, by rw [h.x]⟩
instance (c c' : Ctx) : Coe (Le c c') (Lw c c') := ⟨Le.lw⟩
theorem MemLe.refl (m : Mem) : MemLe m m := fun _ _ _ h => h
theorem MemLe.trans {a b c : Mem} (h : MemLe a b) (k : MemLe b c) : MemLe a c := fun g o u e => k g o u (h g o u e)
theorem Le.refl (c : Ctx) : Le c c := ⟨fun _ _ _ h => h, fun _ _ h => h, fun _ e h => ⟨e, h, .inl rfl⟩, fun _ _ h => h, rfl⟩
theorem Lw.refl (c : Ctx) : Lw c c := (Le.refl c).lw
theorem Le.trans {a b c : Ctx} (h : Le a b) (k : Le b c) : Le a c := by
  refine ⟨h.mem.trans k.mem, fun i g e => k.blk i g (h.blk i g e), fun i e he => ?_, fun i g e => k.maps i g (h.maps i g e), k.x.trans h.x⟩
  obtain ⟨e1, h1, h2⟩ := h.tok i e he
  obtain ⟨e2, h3, h4⟩ := k.tok i e1 h1
  refine ⟨e2, h3, ?_⟩
  rcases h2 with rfl | h2
  · exact h4
  · rcases h4 with rfl | h4
    · exact .inr h2
    · exact .inr (Nat.lt_trans h2 h4)
theorem Lw.trans {a b c : Ctx} (h : Lw a b) (k : Lw b c) : Lw a c := by
  refine ⟨h.mem.trans k.mem, fun i g e => k.blk i g (h.blk i g e), fun i e he => ?_, fun i g e => k.maps i g (h.maps i g e), k.me.trans h.me⟩
  obtain ⟨e1, h1, h2⟩ := h.tok i e he
  obtain ⟨e2, h3, h4⟩ := k.tok i e1 h1
  refine ⟨e2, h3, ?_⟩
  rcases h2 with rfl | h2
  · exact h4
  · rcases h4 with rfl | h4
    · exact .inr h2
    · exact .inr (Nat.lt_trans h2 h4)
theorem RepD.mono {m m' : Mem} (hm : MemLe m m') {x : Value} {y : DV} (h : RepD m x y) : RepD m' x y := by
  induction h with
  | v x h => exact .v x h
  | agg vs cs hl h1 _ ih => exact .agg vs cs hl h1 ih
  | lst g o n cap sz xs us hn hc hsz h1 hmm _ ih => exact .lst g o n cap sz xs us hn hc hsz h1 (fun i hi => hm _ _ _ (hmm i hi)) ih
  | lstE a cap sz => exact .lstE a cap sz
theorem Rep.mono {c c' : Ctx} (hc : Lw c c') {x : Value} {y : AV} (h : Rep c x y) : Rep c' x y := by
  induction h with
  | un x => exact .un x
  | nv => exact .nv
  | d h => exact .d (h.mono hc.mem)
  | own0 sz => exact .own0 sz
  | own1 g o n sz xs h => exact .own1 g o n sz xs (h.mono hc.mem)
  | ownt i e g n cap sz xs h ht hn he =>
    obtain ⟨e', ht', hh⟩ := hc.tok i e ht
    rcases hh with rfl | hh
    · exact .ownt i e' g n cap sz xs (h.mono hc.mem) ht' hn he
    · exact .ownt i e' g n cap sz xs (h.mono hc.mem) ht' (by omega) (fun e => by omega)
  | elt g o cs us h1 hm h => exact .elt g o cs us h1 (fun i hi => hc.mem _ _ _ (hm i hi)) fun i hi => (h i hi).mono hc.mem
  | ptr id off g h => exact .ptr id off g (hc.blk _ _ h)
  | arr id n cap g h => exact .arr id n cap g (hc.blk _ _ h)
  | sub id off n cap g h => exact .sub id off n cap g (hc.blk _ _ h)
  | agg vs cs hl _ ih => exact .agg vs cs hl ih
  | tup vs cs hl _ ih => exact .tup vs cs hl ih
  | fn f fs cs fs' cs' hl _ hl' _ hy ih ih' => exact .fn f fs cs fs' cs' hl ih hl' ih' hy
  | yld l idx hm => exact .yld l idx (hc.maps _ _ hm)
  | map id g h => exact .map id g (hc.maps _ _ h)
  | iter id g h => exact .iter id g (hc.maps _ _ h)
structure HB where
  elem : TypeId
  cs : List AV
  frz : Bool := false
inductive MB where
  | map (es : List (List UInt8 × DV))
  | iter (over : Option Nat) (n : Nat) (last : Option (List UInt8 × DV))
  | obj (o : Obj)
  | rnd (ps : Array Tmp) (asg bd : Code) (st : LoopState) (pend : Option Code) (T : List AV)
structure HS where
  blks : List HB
  toks : List Nat
  maps : List MB := []
  x : Crowd
structure MapObj (m : Mem) (es : List (List UInt8 × DV)) (xs : Array MapEntry) (clock : Nat) : Prop where
  len : xs.size = es.length
  born : (xs.toList.map (·.born)).Nodup
  lt : ∀ e ∈ xs.toList, e.born < clock
  rep : ∀ i (h : i < es.length), ∃ e, xs[i]? = some e ∧ e.key = .string ⟨(es[i]).1.toArray⟩ ∧ RepD m e.val (es[i]).2
inductive MIs (c : Ctx) (w : World) : MB → Nat → Prop
  | map (g : Nat) (es : List (List UInt8 × DV)) (xs : Array MapEntry) (clock : Nat) (hw : w.heap[g]? = some (.map xs clock)) (h : MapObj c.mem es xs clock) : MIs c w (.map es) g
  | iter (g id r n : Nat) (last : Option (List UInt8 × DV)) (xs : Array MapEntry) (clock : Nat) (seen : Array Nat) (hm : c.maps[id]? = some r) (hr : w.heap[r]? = some (.map xs clock)) (hw : w.heap[g]? = some (.mapIter (some r) clock seen clock))
      (hn : seen.size = n) (hd : seen.toList.Nodup) (hs : ∀ b ∈ seen.toList, b ∈ xs.toList.map (·.born))
      (hl : ∀ k d, last = some (k, d) → ∃ e ∈ xs.toList, ∃ s0 : Array Nat, seen = s0.push e.born ∧ e.key = .string ⟨k.toArray⟩ ∧ RepD c.mem e.val d) : MIs c w (.iter (some id) n last) g
  | dead (g n : Nat) (last : Option (List UInt8 × DV)) (r : Option Nat) (a b : Nat) (seen : Array Nat) (hw : w.heap[g]? = some (.mapIter r a seen b)) : MIs c w (.iter none n last) g
  | other (g : Nat) (o : Obj) (hw : w.heap[g]? = some o) (hn : ∀ cs e fr, o ≠ Obj.cells cs e fr) (hnm : ∀ xs cl, o ≠ Obj.map xs cl) : MIs c w (.obj o) g
  | recd (g fn D : Nat) (tmps : Array Value) (ps : Array Tmp) (asg bd : Code) (st : LoopState) (pend : Option Code) (T : List AV) (hw : w.heap[g]? = some (.loop { state := st, pending := pend, fn, tmps, params := ps, assign := asg, body := bd, defers := D }))
      (hs : tmps.size = T.length) (hT : ∀ i (hi : i < T.length), Rep c (tmps.getD i undef) T[i]) : MIs c w (.rnd ps asg bd st pend T) g
structure MInv (B : Nat) (c : Ctx) (H : HS) (w : World) : Prop where
  len : c.maps.length = H.maps.length
  inj : ∀ (i j g : Nat), c.maps[i]? = some g → c.maps[j]? = some g → i = j
  is : ∀ (i g : Nat) (m : MB), c.maps[i]? = some g → H.maps[i]? = some m → B ≤ g ∧ MIs c w m g
def Keeps (w w' : World) : Prop := ∀ (g : Nat) (o : Obj), w.heap[g]? = some o → (∀ cs e fr, o ≠ Obj.cells cs e fr) → w'.heap[g]? = some o
theorem Keeps.refl (w : World) : Keeps w w := fun _ _ h _ => h
theorem MapObj.mono {m m' : Mem} (hc : MemLe m m') {es : List (List UInt8 × DV)} {xs : Array MapEntry} {clock : Nat} (h : MapObj m es xs clock) : MapObj m' es xs clock :=
  ⟨h.len, h.born, h.lt, fun i hi => by obtain ⟨e, h1, h2, h3⟩ := h.rep i hi; exact ⟨e, h1, h2, h3.mono hc⟩⟩
theorem MIs.keep {c c' : Ctx} {w w' : World} (hc : Lw c c') (hk : Keeps w w') {m : MB} {g : Nat} (h : MIs c w m g) : MIs c' w' m g := by
  cases h with
  | map g es xs clock hw h => exact .map g es xs clock (hk _ _ hw (by intros; simp)) (h.mono hc.mem)
  | iter g id r n last xs clock seen hm hr hw hn hd hs hl => exact .iter g id r n last xs clock seen (hc.maps _ _ hm) (hk _ _ hr (by intros; simp)) (hk _ _ hw (by intros; simp)) hn hd hs (fun k d e => (hl k d e).elim fun x hx => ⟨x, hx.1, hx.2.elim fun s0 h => ⟨s0, h.1, h.2.1, h.2.2.mono hc.mem⟩⟩)
  | dead g n last r a b seen hw => exact .dead g n last r a b seen (hk _ _ hw (by intros; simp))
  | other g o hw hn hnm => exact .other g o (hk _ _ hw hn) hn hnm
  | recd g fn D tmps ps asg bd st pend T hw hs hT => exact .recd g fn D tmps ps asg bd st pend T (hk _ _ hw (by intros; simp)) hs fun i hi => (hT i hi).mono hc
theorem MInv.keep {B : Nat} {c c' : Ctx} {H H' : HS} {w w' : World} (h : MInv B c H w) (hc : Lw c c') (hm : c'.maps = c.maps) (hH : H'.maps = H.maps) (hk : Keeps w w') : MInv B c' H' w' :=
  ⟨by rw [hm, hH]; exact h.len, fun i j g hi hj => h.inj i j g (hm ▸ hi) (hm ▸ hj), fun i g m hi hj => by
    obtain ⟨h1, h2⟩ := h.is i g m (hm ▸ hi) (hH ▸ hj)
    exact ⟨h1, h2.keep hc hk⟩⟩
theorem MIs.obj {c : Ctx} {w : World} {m : MB} {g : Nat} (h : MIs c w m g) : ∃ o, w.heap[g]? = some o ∧ ∀ cs e fr, o ≠ Obj.cells cs e fr := by
  cases h with
  | map g es xs clock hw h => exact ⟨_, hw, by intros; simp⟩
  | iter g id r n last xs clock seen hm hr hw hn hd hs hl => exact ⟨_, hw, by intros; simp⟩
  | dead g n last r a b seen hw => exact ⟨_, hw, by intros; simp⟩
  | other g o hw hn hnm => exact ⟨_, hw, hn⟩
  | recd g fn D tmps ps asg bd st pend T hw hs hT => exact ⟨_, hw, by intros; simp⟩
structure Inv (B : Nat) (w0 : World) (c : Ctx) (H : HS) (w : World) : Prop where
  base : B ≤ w.heap.size
  below : Below B w0 w
  mem : ∀ g o u, c.mem g o = some u → w.cell? ⟨g, o, none⟩ = some u
  blkLen : c.blk.length = H.blks.length
  blk : ∀ (i g : Nat) (b : HB), c.blk[i]? = some g → H.blks[i]? = some b → B ≤ g ∧ (∀ o, c.mem g o = none) ∧
    ∃ (cur : Array Value) (fr : Nat × Nat), w.heap[g]? = some (Obj.cells cur b.elem fr) ∧ cur.size = b.cs.length ∧ (b.frz = false → ∀ o, ¬ (fr.1 ≤ o ∧ o < fr.2)) ∧ ∀ j (hj : j < b.cs.length), Rep c (cur.getD j undef) b.cs[j]
  blkInj : ∀ (i j g : Nat), c.blk[i]? = some g → c.blk[j]? = some g → i = j
  tokLen : c.tok.length = H.toks.length
  tok : ∀ (i : Nat) (e : Tok), c.tok[i]? = some e → H.toks[i]? = some e.mark ∧ B ≤ e.g ∧ e.mark ≤ e.cap ∧ (∀ o, e.mark * e.sz ≤ o → c.mem e.g o = none) ∧ (∀ j : Nat, c.blk[j]? ≠ some e.g) ∧
    ∃ (cur : Array Value) (et : TypeId) (fr : Nat × Nat), w.heap[e.g]? = some (Obj.cells cur et fr) ∧ cur.size = e.cap * e.sz ∧ (∀ o, o < cur.size → ¬ (fr.1 ≤ o ∧ o < fr.2))
  tokInj : ∀ (i j : Nat) (e e' : Tok), c.tok[i]? = some e → c.tok[j]? = some e' → e.g = e'.g → i = j
  maps : MInv B c H w
  cx : H.x = c.x
  xok : c.x.Ok
theorem Inv.mem_lt {B : Nat} {w0 w : World} {c : Ctx} {H : HS} (h : Inv B w0 c H w) {g o : Nat} {u : Value} (hm : c.mem g o = some u) : g < w.heap.size :=
  World.block_lt_of_cell? w ⟨g, o, none⟩ (h.mem g o u hm)
theorem Inv.fresh {B : Nat} {w0 w : World} {c : Ctx} {H : HS} (h : Inv B w0 c H w) {g : Nat} (hg : w.heap.size ≤ g) (o : Nat) : c.mem g o = none := by
  cases hm : c.mem g o with
  | none => rfl
  | some u => have := h.mem_lt hm; omega
theorem Inv.blk_lt {B : Nat} {w0 w : World} {c : Ctx} {H : HS} (h : Inv B w0 c H w) {i g : Nat} (hi : c.blk[i]? = some g) : g < w.heap.size := by
  have hlt : i < c.blk.length := (List.getElem?_eq_some_iff.1 hi).1
  have hb : ∃ b, H.blks[i]? = some b := ⟨_, List.getElem?_eq_getElem (h.blkLen ▸ hlt)⟩
  obtain ⟨b, hb⟩ := hb
  obtain ⟨_, _, cur, fr, hw, _⟩ := h.blk i g b hi hb
  exact (Array.getElem?_eq_some_iff.1 hw).1
theorem Inv.tok_lt {B : Nat} {w0 w : World} {c : Ctx} {H : HS} (h : Inv B w0 c H w) {i : Nat} {e : Tok} (hi : c.tok[i]? = some e) : e.g < w.heap.size := by
  obtain ⟨_, _, _, _, _, cur, et, fr, hw, _⟩ := h.tok i e hi
  exact (Array.getElem?_eq_some_iff.1 hw).1
theorem Inv.drew {B : Nat} {w0 w : World} {c : Ctx} {H : HS} (h : Inv B w0 c H w) : Inv B w0 c H w.drew :=
  ⟨h.base, h.below.drew, h.mem, h.blkLen, h.blk, h.blkInj, h.tokLen, h.tok, h.tokInj, h.maps.keep (Lw.refl c) rfl rfl (fun _ _ h _ => h), h.cx, h.xok⟩
theorem heap_new (w : World) (o : Obj) : (w.alloc o).heap[w.heap.size]? = some o := by
  show (w.heap.push o)[w.heap.size]? = some o
  simp
theorem heap_old (w : World) (o : Obj) {g : Nat} (hg : g < w.heap.size) : (w.alloc o).heap[g]? = w.heap[g]? := by
  show (w.heap.push o)[g]? = _
  rw [Array.getElem?_push, if_neg (by omega)]
theorem heap_size_alloc (w : World) (o : Obj) : (w.alloc o).heap.size = w.heap.size + 1 := by
  show (w.heap.push o).size = _
  simp
theorem cell_old (w : World) (o : Obj) {a : Addr} {u : Value} (h : w.cell? a = some u) : (w.alloc o).cell? a = some u := by
  have := World.block_lt_of_cell? w a h
  rw [← h]
  exact World.cell?_of_block (heap_old w o this)
theorem keeps_alloc (w : World) (o : Obj) : Keeps w (w.alloc o) := fun g _ h _ => by
  rw [heap_old w o (Array.getElem?_eq_some_iff.1 h).1]; exact h
theorem Inv.alloc {B : Nat} {w0 w : World} {c : Ctx} {H : HS} (h : Inv B w0 c H w) (o : Obj) : Inv B w0 c H (w.alloc o) where
  base := by have := h.base; rw [heap_size_alloc]; omega
  below := h.below.alloc h.base o
  mem := fun g off u hm => cell_old w o (h.mem g off u hm)
  blkLen := h.blkLen
  blk := fun i g b hg hb => by
    have hlt := h.blk_lt hg
    rw [heap_old w o hlt]
    exact h.blk i g b hg hb
  blkInj := h.blkInj
  tokLen := h.tokLen
  tok := fun i e he => by
    have hlt := h.tok_lt he
    rw [heap_old w o hlt]
    exact h.tok i e he
  tokInj := h.tokInj
  maps := h.maps.keep (Lw.refl c) rfl rfl (keeps_alloc w o)
  cx := h.cx
  xok := h.xok
def Ctx.prot (c : Ctx) (g n : Nat) (us : Nat → Value) : Ctx := { c with mem := fun b o => if b = g ∧ o < n then some (us o) else c.mem b o }
theorem Ctx.prot_le {c : Ctx} {g n : Nat} {us : Nat → Value} (h : ∀ o, o < n → c.mem g o = none ∨ c.mem g o = some (us o)) : Le c (c.prot g n us) := by
  refine ⟨fun b o u hm => ?_, fun _ _ h => h, fun _ e h => ⟨e, h, .inl rfl⟩, fun _ _ h => h, rfl⟩
  show (if b = g ∧ o < n then some (us o) else c.mem b o) = some u
  by_cases hb : b = g ∧ o < n
  · obtain ⟨rfl, ho⟩ := hb
    rcases h o ho with e | e
    · rw [e] at hm; cases hm
    · rw [if_pos ⟨rfl, ho⟩, ← hm, e]
  · rw [if_neg hb]; exact hm
theorem Inv.allocProt {B : Nat} {w0 w : World} {c : Ctx} {H : HS} (h : Inv B w0 c H w) (cs : Array Value) (et : TypeId) (fr : Nat × Nat) (n : Nat) (hn : n ≤ cs.size) :
    Inv B w0 (c.prot w.heap.size n (fun o => cs.getD o undef)) H (w.alloc (.cells cs et fr)) ∧ Le c (c.prot w.heap.size n (fun o => cs.getD o undef)) := by
  have hle : Le c (c.prot w.heap.size n (fun o => cs.getD o undef)) := Ctx.prot_le fun o _ => .inl (h.fresh (Nat.le_refl _) o)
  have h' := h.alloc (.cells cs et fr)
  refine ⟨⟨h'.base, h'.below, fun g o u hm => ?_, h'.blkLen, fun i g b hg hb => ?_, h'.blkInj, h'.tokLen, fun i e he => ?_, h'.tokInj, h'.maps.keep hle.lw rfl rfl (.refl _), h'.cx, h'.xok⟩, hle⟩
  · simp only [Ctx.prot] at hm
    split at hm
    · rename_i hh
      obtain ⟨rfl, ho⟩ := hh
      have : o < cs.size := by omega
      simp only [World.cell?, heap_new]
      simp at hm
      simp [this] at hm ⊢
      exact hm
    · exact h'.mem g o u hm
  · obtain ⟨h1, h2, cur, fr', h3, h4, h5, h6⟩ := h'.blk i g b hg hb
    have hlt := h.blk_lt hg
    refine ⟨h1, fun o => ?_, cur, fr', h3, h4, h5, fun j hj => (h6 j hj).mono hle⟩
    simp only [Ctx.prot]
    rw [if_neg (by omega)]
    exact h2 o
  · obtain ⟨h1, h2, h3, h4, h5, h6⟩ := h'.tok i e he
    have hlt := h.tok_lt he
    refine ⟨h1, h2, h3, fun o ho => ?_, h5, h6⟩
    simp only [Ctx.prot]
    rw [if_neg (by omega)]
    exact h4 o ho
def HS.push (H : HS) (e : TypeId) (cs : List AV) : HS := { H with blks := H.blks ++ [⟨e, cs, false⟩] }
def HS.nb (H : HS) : Nat := H.blks.length
theorem Inv.allocBlk {B : Nat} {w0 w : World} {c : Ctx} {H : HS} (h : Inv B w0 c H w) (cur : Array Value) (et : TypeId) (cs : List AV) (hl : cur.size = cs.length) (hr : ∀ j (hj : j < cs.length), Rep c (cur.getD j undef) cs[j]) :
    Inv B w0 { c with blk := c.blk ++ [w.heap.size] } (H.push et cs) (w.alloc (.cells cur et)) ∧ Le c { c with blk := c.blk ++ [w.heap.size] } := by
  have hle : Le c { c with blk := c.blk ++ [w.heap.size] } := by
    refine ⟨fun _ _ _ h => h, fun i g hi => ?_, fun _ e h => ⟨e, h, .inl rfl⟩, fun _ _ h => h, rfl⟩
    have : i < c.blk.length := (List.getElem?_eq_some_iff.1 hi).1
    show (c.blk ++ [w.heap.size])[i]? = some g
    rw [List.getElem?_append_left this]; exact hi
  have h' := h.alloc (.cells cur et)
  have lt_or : ∀ i g, (c.blk ++ [w.heap.size])[i]? = some g → (c.blk[i]? = some g ∧ i < c.blk.length) ∨ (i = c.blk.length ∧ g = w.heap.size) := by
    intro i g hi
    by_cases hlt : i < c.blk.length
    · rw [List.getElem?_append_left hlt] at hi
      exact .inl ⟨hi, hlt⟩
    · rw [List.getElem?_append_right (by omega)] at hi
      have : i - c.blk.length = 0 := by
        have := (List.getElem?_eq_some_iff.1 hi).1
        simp at this; omega
      rw [this] at hi
      simp at hi
      exact .inr ⟨by omega, hi.symm⟩
  refine ⟨⟨h'.base, h'.below, h'.mem, ?_, fun i g b hg hb => ?_, fun i j g hi hj => ?_, h'.tokLen, fun i e he => ?_, h'.tokInj, h'.maps.keep hle.lw rfl rfl (.refl _), h'.cx, h'.xok⟩, hle⟩
  · simp [HS.push, h.blkLen]
  · rcases lt_or i g hg with ⟨hg', hlt⟩ | ⟨rfl, rfl⟩
    · have hb' : H.blks[i]? = some b := by
        simp only [HS.push] at hb
        rwa [List.getElem?_append_left (by rw [← h.blkLen]; exact hlt)] at hb
      obtain ⟨h1, h2, cur', fr', h3, h4, h5, h6⟩ := h'.blk i g b hg' hb'
      exact ⟨h1, h2, cur', fr', h3, h4, h5, fun j hj => (h6 j hj).mono hle⟩
    · have hb' : b = ⟨et, cs, false⟩ := by
        simp only [HS.push] at hb
        rw [h.blkLen] at hb
        simpa using hb.symm
      subst hb'
      exact ⟨h.base, fun o => h.fresh (Nat.le_refl _) o, cur, (0, 0), heap_new w _, hl, fun _ o => by simp, fun j hj => (hr j hj).mono hle⟩
  · rcases lt_or i g hi with ⟨hi', _⟩ | ⟨rfl, rfl⟩
    · rcases lt_or j g hj with ⟨hj', _⟩ | ⟨rfl, rfl⟩
      · exact h.blkInj i j g hi' hj'
      · have := h.blk_lt hi'; omega
    · rcases lt_or j _ hj with ⟨hj', _⟩ | ⟨rfl, _⟩
      · have := h.blk_lt hj'; omega
      · rfl
  · obtain ⟨h1, h2, h3, h4, h5, h6⟩ := h'.tok i e he
    refine ⟨h1, h2, h3, h4, fun j hj => ?_, h6⟩
    rcases lt_or j _ hj with ⟨hj', _⟩ | ⟨_, hh⟩
    · exact h5 j hj'
    · have := h.tok_lt he; omega
end Go.AV
namespace Go.AV
open Go.RowKit
theorem addr_add (g o i : Nat) : (⟨g, o, none⟩ : Addr).add i = ⟨g, o + i, none⟩ := by unfold Addr.add; split <;> simp_all
def putA (cur : Array Value) (k : Nat) (vs : List Value) : Array Value := (cur.toList.take k ++ vs ++ cur.toList.drop (k + vs.length)).toArray
theorem putA_size {cur : Array Value} {k : Nat} {vs : List Value} (h : k + vs.length ≤ cur.size) : (putA cur k vs).size = cur.size := by
  simp only [putA, List.size_toArray, List.length_append, List.length_take, List.length_drop, Array.length_toList]
  omega
theorem putA_get {cur : Array Value} {k : Nat} {vs : List Value} (h : k + vs.length ≤ cur.size) (j : Nat) :
    (putA cur k vs)[j]? = if k ≤ j ∧ j < k + vs.length then vs[j - k]? else cur[j]? := by
  have hk : (cur.toList.take k).length = k := by simp; omega
  simp only [putA, List.getElem?_toArray]
  by_cases h1 : j < k
  · rw [if_neg (by omega), List.append_assoc, List.getElem?_append_left (by omega), List.getElem?_take, if_pos h1, Array.getElem?_toList]
  · by_cases h2 : j < k + vs.length
    · rw [if_pos ⟨by omega, h2⟩, List.append_assoc, List.getElem?_append_right (by omega), hk, List.getElem?_append_left (by omega)]
    · rw [if_neg (by omega), List.getElem?_append_right (by simp; omega), List.getElem?_drop, Array.getElem?_toList]
      congr 1
      simp only [List.length_append, hk]
      omega
theorem run_storeCells_fr (P : Program) (g o : Nat) (t : TypeId) (fr : Nat × Nat) : ∀ (vs : List Value) (i : Nat) (cur : Array Value) (w : World), w.heap[g]? = some (.cells cur t fr) → (∀ o, o < cur.size → ¬ (fr.1 ≤ o ∧ o < fr.2)) →
    o + i + vs.length ≤ cur.size → (∀ v ∈ vs, v.oneCell' = true) →
    (storeCells ⟨g, o, none⟩ vs i).run P w = .ok () (w.setRow g (putA cur (o + i) vs))
  | [], i, cur, w, hg, _, _, _ => by
    simp only [storeCells, putA, List.append_nil, List.length_nil, Nat.add_zero, List.take_append_drop, Array.toArray_toList]
    rw [setRow_self w g cur t fr hg]
    rfl
  | v :: rest, i, cur, w, hg, hfr, hl, h1 => by
    have hi : o + i < cur.size := by simp at hl; omega
    have hcell : w.cell? ⟨g, o + i, none⟩ = some cur[o + i] := by simp [World.cell?, hg, hi]
    have hfro : w.frozen? ⟨g, o + i, none⟩ = false := by
      have := hfr (o + i) hi
      simp only [World.frozen?, hg]
      simp only [Bool.and_eq_false_iff, decide_eq_false_iff_not]
      omega
    have hst : (store ((⟨g, o, none⟩ : Addr).add i) v).run P w = .ok () (w.setRow g (cur.setIfInBounds (o + i) v)) := by
      rw [addr_add, run_store P w _ v _ (h1 v (by simp)), hcell]
      simp [hfro, setCell_eq_setRow w g (o + i) cur t fr v hg]
    have ih := run_storeCells_fr P g o t fr rest (i + 1) (cur.setIfInBounds (o + i) v) (w.setRow g (cur.setIfInBounds (o + i) v)) (setRow_heap w g cur _ t _ hg) (by simpa using hfr) (by simp at hl ⊢; omega) (fun x hx => h1 x (by simp [hx]))
    simp only [storeCells, Sem.run_bind, hst, Result.andThen_ok, ih, setRow_setRow]
    congr 2
    have e := list_seg_step cur.toList (o + i) v rest (by simp at hl ⊢; omega)
    simp only [putA]
    congr 1
    simpa [Array.toList_setIfInBounds, Nat.add_assoc] using e
theorem RepD.one {m : Mem} {x : Value} {y : DV} (h : RepD m x y) (h1 : y.one = true) : x.oneCell' = true := by
  cases h with
  | v x h => cases x <;> first | rfl | (simp [plain] at h)
  | agg => simp [DV.one] at h1
  | lst => rfl
  | lstE => rfl
theorem Rep.one {c : Ctx} {x : Value} {y : AV} (h : Rep c x y) (h1 : y.one = true) : x.oneCell' = true := by
  cases h with
  | d h => exact h.one h1
  | un => simp [AV.one] at h1
  | nv => simp [AV.one] at h1
  | agg => simp [AV.one] at h1
  | tup => simp [AV.one] at h1
  | _ => rfl
theorem RepD.lst_cells {B : Nat} {w0 w : World} {c : Ctx} {H : HS} (hI : Inv B w0 c H w) {a : Option Addr} {n cap sz : Nat} {xs : List DV} (h : RepD c.mem (.slice a n cap) (.lst sz xs)) :
    xs.length = n ∧ n ≤ cap ∧ (∀ x ∈ xs, x.cells.length = sz) ∧ (∀ x ∈ flat xs, x.one = true) ∧
    ∃ us : List Value, us.length = n * sz ∧ us.length = (flat xs).length ∧ (∀ i (hi : i < us.length) (hi' : i < (flat xs).length), RepD c.mem us[i] (flat xs)[i]) ∧ (∀ u ∈ us, u.oneCell' = true) ∧
      (n = 0 ∨ ∃ g o, a = some ⟨g, o, none⟩ ∧ ∀ j u, us[j]? = some u → c.mem g (o + j) = some u ∧ w.cell? ⟨g, o + j, none⟩ = some u) := by
  cases h with
  | lst g o n cap sz xs us hn hc hsz h1 hm h =>
    have hfl := flat_length hsz
    refine ⟨hn, hc, hsz, h1, (List.range (flat xs).length).map us, by simp [hfl, hn], by simp, ?_, ?_, ?_⟩
    · intro i hi hi'
      simpa using h i hi'
    · intro u hu
      simp only [List.mem_map, List.mem_range] at hu
      obtain ⟨i, hi, rfl⟩ := hu
      exact (h i hi).one (h1 _ (List.getElem_mem hi))
    · refine .inr ⟨g, o, rfl, fun j u hu => ?_⟩
      have hj : j < (flat xs).length := by
        have := (List.getElem?_eq_some_iff.1 hu).1
        simpa using this
      have : u = us j := by
        simp [hj] at hu
        exact hu.symm
      subst this
      exact ⟨hm j hj, hI.mem _ _ _ (hm j hj)⟩
  | lstE a cap sz => exact ⟨rfl, Nat.zero_le _, by simp, by simp [flat], [], by simp, by simp [flat], by simp, by simp, .inl rfl⟩
theorem RepD.v_eq {m : Mem} {x X : Value} (h : RepD m x (.v X)) : x = X := by cases h; rfl
theorem Rep.v_eq {c : Ctx} {x X : Value} (h : Rep c x (.d (.v X))) : x = X := by
  cases h with
  | d h => exact h.v_eq
theorem RepD.mk_lst {m : Mem} {g o n cap sz : Nat} {xs : List DV} (us : List Value) (hn : xs.length = n) (hc : n ≤ cap) (hsz : ∀ x ∈ xs, x.cells.length = sz) (h1 : ∀ x ∈ flat xs, x.one = true)
    (hl : us.length = (flat xs).length) (hm : ∀ j u, us[j]? = some u → m g (o + j) = some u) (h : ∀ i (hi : i < us.length) (hi' : i < (flat xs).length), RepD m us[i] (flat xs)[i]) :
    RepD m (.slice (some ⟨g, o, none⟩) n cap) (.lst sz xs) :=
  .lst g o n cap sz xs (fun i => us.getD i undef) hn hc hsz h1
    (fun i hi => by
      have : i < us.length := by omega
      have hh := hm i us[i] (by simp [this])
      simpa [List.getD_eq_getElem?_getD, this] using hh)
    (fun i hi => by
      have : i < us.length := by omega
      have hh := h i this hi
      simpa [List.getD_eq_getElem?_getD, this] using hh)
def HS.tk (H : HS) : Option Nat → Nat
  | none => H.toks.length
  | some i => i
def HS.up (H : HS) (t : Option Nat) (n : Nat) : HS :=
  match t with
  | none => { H with toks := H.toks ++ [n] }
  | some i => { H with toks := H.toks.set i n }
def HS.ok (H : HS) (t : Option Nat) (n : Nat) : Prop := ∀ i, t = some i → H.toks[i]? = some n
theorem HS.ok_none (H : HS) (n : Nat) : H.ok none n := fun _ h => by cases h
theorem HS.ok_up (H : HS) (t : Option Nat) {m : Nat} (n : Nat) (h : H.ok t m) : (H.up t n).ok (some (H.tk t)) n := by
  intro i hi
  cases hi
  cases t with
  | none => simp [HS.up, HS.tk]
  | some i =>
    have := (List.getElem?_eq_some_iff.1 (h i rfl)).1
    simp [HS.up, HS.tk, this]
theorem HS.up_up (H : HS) (t : Option Nat) (n m : Nat) : (H.up t n).up (some (H.tk t)) m = H.up t m := by
  cases t with
  | none => simp [HS.up, HS.tk]
  | some i => simp [HS.up, HS.tk]
theorem HS.tk_some (H : HS) (i : Nat) : H.tk (some i) = i := rfl
theorem HS.up_blks (H : HS) (t : Option Nat) (n : Nat) : (H.up t n).blks = H.blks := by cases t <;> rfl
theorem Inv.newTok {B : Nat} {w0 w : World} {c : Ctx} {H : HS} (h : Inv B w0 c H w) (t : Option Nat) (m0 : Nat) (hok : H.ok t m0) (cur : Array Value) (e : TypeId) (fr : Nat × Nat) (cap sz n : Nat) (hlt : m0 < n ∨ t = none)
    (hcap : n ≤ cap) (hsz : cur.size = cap * sz) (hfr : ∀ o, o < cur.size → ¬ (fr.1 ≤ o ∧ o < fr.2)) :
    ∃ c', Le c c' ∧ Inv B w0 c' (H.up t n) (w.alloc (.cells cur e fr)) ∧ (∀ o, o < n * sz → c'.mem w.heap.size o = cur[o]?) ∧
      c'.tok[H.tk t]? = some ⟨w.heap.size, cap, sz, n⟩ ∧ c'.blk = c.blk := by
  have hfit : n * sz ≤ cur.size := by rw [hsz]; exact Nat.mul_le_mul_right _ hcap
  obtain ⟨h1, h2⟩ := h.allocProt cur e fr (n * sz) hfit
  have hmem : ∀ o, o < n * sz → (c.prot w.heap.size (n * sz) (fun o => cur.getD o undef)).mem w.heap.size o = cur[o]? := by
    intro o ho
    have : o < cur.size := by omega
    simp [Ctx.prot, ho, this]
  have hnone : ∀ o, n * sz ≤ o → (c.prot w.heap.size (n * sz) (fun o => cur.getD o undef)).mem w.heap.size o = none := by
    intro o ho
    simp only [Ctx.prot]
    rw [if_neg (by omega)]
    exact h.fresh (Nat.le_refl _) o
  have hnb : ∀ j : Nat, c.blk[j]? ≠ some w.heap.size := fun j hj => by have := h.blk_lt hj; omega
  cases t with
  | none =>
    have hlast : ∀ i e1, (c.tok ++ [⟨w.heap.size, cap, sz, n⟩])[i]? = some e1 → (c.tok[i]? = some e1 ∧ i < c.tok.length) ∨ (i = c.tok.length ∧ e1 = ⟨w.heap.size, cap, sz, n⟩) := by
      intro i e1 hi
      by_cases hlt : i < c.tok.length
      · rw [List.getElem?_append_left hlt] at hi
        exact .inl ⟨hi, hlt⟩
      · rw [List.getElem?_append_right (by omega)] at hi
        have : i - c.tok.length = 0 := by
          have := (List.getElem?_eq_some_iff.1 hi).1
          simp at this; omega
        rw [this] at hi
        simp at hi
        exact .inr ⟨by omega, hi.symm⟩
    have hle : Le (c.prot w.heap.size (n * sz) (fun o => cur.getD o undef)) { c.prot w.heap.size (n * sz) (fun o => cur.getD o undef) with tok := c.tok ++ [⟨w.heap.size, cap, sz, n⟩] } := by
      refine ⟨fun _ _ _ h => h, fun _ _ h => h, fun i e1 he => ⟨e1, ?_, .inl rfl⟩, fun _ _ h => h, rfl⟩
      have : i < c.tok.length := (List.getElem?_eq_some_iff.1 he).1
      show (c.tok ++ _)[i]? = _
      rw [List.getElem?_append_left this]
      exact he
    refine ⟨{ c.prot w.heap.size (n * sz) (fun o => cur.getD o undef) with tok := c.tok ++ [⟨w.heap.size, cap, sz, n⟩] }, h2.trans hle, ?_, hmem, ?_, rfl⟩
    · refine ⟨h1.base, h1.below, h1.mem, h1.blkLen, fun i g b hg hb => ?_, h1.blkInj, ?_, fun i e1 he => ?_, fun i j e1 e2 hi hj hg => ?_, h1.maps.keep hle rfl rfl (.refl _), h1.cx, h1.xok⟩
      · obtain ⟨q1, q2, cur', fr', q3, q4, q5, q6⟩ := h1.blk i g b hg hb
        exact ⟨q1, q2, cur', fr', q3, q4, q5, fun j hj => (q6 j hj).mono hle⟩
      · have := h1.tokLen
        simp only [HS.up, List.length_append, List.length_cons, List.length_nil] at this ⊢
        have h3 : (c.prot w.heap.size (n * sz) (fun o => cur.getD o undef)).tok = c.tok := rfl
        rw [h3] at this
        omega
      · rcases hlast i e1 he with ⟨he', hlt'⟩ | ⟨rfl, rfl⟩
        · obtain ⟨q1, q⟩ := h1.tok i e1 he'
          refine ⟨?_, q⟩
          have := h.tokLen
          simp only [HS.up]
          rw [List.getElem?_append_left (by omega)]
          exact q1
        · refine ⟨by simp [HS.up, h.tokLen], h.base, hcap, hnone, hnb, cur, e, fr, heap_new w _, hsz, hfr⟩
      · rcases hlast i e1 hi with ⟨hi', _⟩ | ⟨rfl, rfl⟩
        · rcases hlast j e2 hj with ⟨hj', _⟩ | ⟨rfl, rfl⟩
          · exact h.tokInj i j e1 e2 hi' hj' hg
          · have := h.tok_lt hi'; simp at hg; omega
        · rcases hlast j e2 hj with ⟨hj', _⟩ | ⟨rfl, rfl⟩
          · have := h.tok_lt hj'; simp at hg; omega
          · rfl
    · simp [HS.tk, ← h.tokLen]
  | some k =>
    have hk : k < c.tok.length := by
      have := (List.getElem?_eq_some_iff.1 (hok k rfl)).1
      have := h.tokLen
      omega
    obtain ⟨e0, he0⟩ : ∃ e0, c.tok[k]? = some e0 := ⟨_, List.getElem?_eq_getElem hk⟩
    have hm0 : e0.mark = m0 := by
      have := (h.tok k e0 he0).1
      rw [hok k rfl] at this
      exact (Option.some.inj this).symm
    have hgt : m0 < n := by rcases hlt with h | h; exact h; cases h
    have hset : ∀ i e1, (c.tok.set k ⟨w.heap.size, cap, sz, n⟩)[i]? = some e1 → (i ≠ k ∧ c.tok[i]? = some e1) ∨ (i = k ∧ e1 = ⟨w.heap.size, cap, sz, n⟩) := by
      intro i e1 hi
      by_cases hik : i = k
      · subst hik
        rw [List.getElem?_set_self hk] at hi
        exact .inr ⟨rfl, (Option.some.inj hi).symm⟩
      · rw [List.getElem?_set_ne (fun e => hik e.symm)] at hi
        exact .inl ⟨hik, hi⟩
    have hle : Le (c.prot w.heap.size (n * sz) (fun o => cur.getD o undef)) { c.prot w.heap.size (n * sz) (fun o => cur.getD o undef) with tok := c.tok.set k ⟨w.heap.size, cap, sz, n⟩ } := by
      refine ⟨fun _ _ _ h => h, fun _ _ h => h, fun i e1 he => ?_, fun _ _ h => h, rfl⟩
      by_cases hik : i = k
      · subst hik
        refine ⟨⟨w.heap.size, cap, sz, n⟩, ?_, .inr ?_⟩
        · show (c.tok.set i _)[i]? = _
          rw [List.getElem?_set_self hk]
        · have : e1 = e0 := by
            have hh : c.tok[i]? = some e1 := he
            rw [he0] at hh; exact (Option.some.inj hh).symm
          subst this
          show e1.mark < n
          omega
      · refine ⟨e1, ?_, .inl rfl⟩
        show (c.tok.set k _)[i]? = _
        rw [List.getElem?_set_ne (fun e => hik e.symm)]
        exact he
    refine ⟨{ c.prot w.heap.size (n * sz) (fun o => cur.getD o undef) with tok := c.tok.set k ⟨w.heap.size, cap, sz, n⟩ }, h2.trans hle, ?_, hmem, ?_, rfl⟩
    · refine ⟨h1.base, h1.below, h1.mem, h1.blkLen, fun i g b hg hb => ?_, h1.blkInj, ?_, fun i e1 he => ?_, fun i j e1 e2 hi hj hg => ?_, h1.maps.keep hle rfl rfl (.refl _), h1.cx, h1.xok⟩
      · obtain ⟨q1, q2, cur', fr', q3, q4, q5, q6⟩ := h1.blk i g b hg hb
        exact ⟨q1, q2, cur', fr', q3, q4, q5, fun j hj => (q6 j hj).mono hle⟩
      · simpa [HS.up] using h.tokLen
      · rcases hset i e1 he with ⟨hik, he'⟩ | ⟨rfl, rfl⟩
        · obtain ⟨q1, q⟩ := h1.tok i e1 he'
          refine ⟨?_, q⟩
          simp only [HS.up]
          rw [List.getElem?_set_ne (fun e => hik e.symm)]
          exact q1
        · refine ⟨?_, h.base, hcap, hnone, hnb, cur, e, fr, heap_new w _, hsz, hfr⟩
          simp only [HS.up]
          rw [List.getElem?_set_self (by have := h.tokLen; omega)]
      · rcases hset i e1 hi with ⟨_, hi'⟩ | ⟨rfl, rfl⟩
        · rcases hset j e2 hj with ⟨_, hj'⟩ | ⟨rfl, rfl⟩
          · exact h.tokInj i j e1 e2 hi' hj' hg
          · have := h.tok_lt hi'; simp at hg; omega
        · rcases hset j e2 hj with ⟨_, hj'⟩ | ⟨rfl, rfl⟩
          · have := h.tok_lt hj'; simp at hg; omega
          · rfl
    · show (c.tok.set k _)[k]? = _
      rw [List.getElem?_set_self hk]
theorem setRow_size (w : World) (g : Nat) (cs : Array Value) : (w.setRow g cs).heap.size = w.heap.size := by simp [World.setRow]
theorem Below.setRow' {B : Nat} {w0 w : World} (h : Below B w0 w) {g : Nat} (hg : B ≤ g) (cs : Array Value) : Below B w0 (w.setRow g cs) :=
  h.trans ⟨rfl, rfl, rfl, by rw [setRow_size]; exact Nat.le_refl _, fun k hk => setRow_other w g k cs (by omega)⟩
theorem keeps_setRow {w : World} {g : Nat} {cur : Array Value} {et : TypeId} {fr : Nat × Nat} (hw : w.heap[g]? = some (.cells cur et fr)) (cs : Array Value) : Keeps w (w.setRow g cs) := fun k o h hn => by
  by_cases hk : k = g
  · subst hk; rw [hw] at h; exact absurd (Option.some.inj h).symm (hn _ _ _)
  · rw [setRow_other w g k cs hk]; exact h
theorem Inv.growTok {B : Nat} {w0 w : World} {c : Ctx} {H : HS} (h : Inv B w0 c H w) (k : Nat) (e : Tok) (he : c.tok[k]? = some e) (cur : Array Value) (et : TypeId) (fr : Nat × Nat) (hw : w.heap[e.g]? = some (.cells cur et fr))
    (vs : List Value) (m : Nat) (hl : vs.length = m * e.sz) (hm : 0 < m) (hfit : e.mark + m ≤ e.cap) :
    ∃ c', Le c c' ∧ Inv B w0 c' (H.up (some k) (e.mark + m)) (w.setRow e.g (putA cur (e.mark * e.sz) vs)) ∧ (∀ j u, vs[j]? = some u → c'.mem e.g (e.mark * e.sz + j) = some u) ∧
      c'.tok[k]? = some { e with mark := e.mark + m } ∧ c'.blk = c.blk := by
  obtain ⟨p1, p2, p3, p4, p5, cur', et', fr', p6, p7, p8⟩ := h.tok k e he
  rw [hw] at p6
  injection p6 with p6
  injection p6 with q1 q2 q3
  subst q1 q2 q3
  have hk : k < c.tok.length := (List.getElem?_eq_some_iff.1 he).1
  have hsz : (e.mark + m) * e.sz ≤ cur.size := by rw [p7]; exact Nat.mul_le_mul_right _ hfit
  have hms : (e.mark + m) * e.sz = e.mark * e.sz + vs.length := by rw [Nat.add_mul, hl]
  have hput : e.mark * e.sz + vs.length ≤ cur.size := by omega
  let c1 : Ctx := { mem := fun b o => if b = e.g ∧ e.mark * e.sz ≤ o ∧ o < e.mark * e.sz + vs.length then vs[o - e.mark * e.sz]? else c.mem b o, blk := c.blk, tok := c.tok.set k { e with mark := e.mark + m }, maps := c.maps, x := c.x }
  have hle : Le c c1 := by
    refine ⟨fun b o u hu => ?_, fun _ _ h => h, fun i e1 hi => ?_, fun _ _ h => h, rfl⟩
    · show (if _ then _ else _) = _
      by_cases hb : b = e.g ∧ e.mark * e.sz ≤ o ∧ o < e.mark * e.sz + vs.length
      · obtain ⟨rfl, h1, h2⟩ := hb
        rw [p4 o h1] at hu
        cases hu
      · rw [if_neg hb]; exact hu
    · by_cases hik : i = k
      · subst hik
        refine ⟨{ e with mark := e.mark + m }, List.getElem?_set_self hk, .inr ?_⟩
        have : e1 = e := by rw [he] at hi; exact (Option.some.inj hi).symm
        subst this
        show e1.mark < e1.mark + m
        omega
      · refine ⟨e1, ?_, .inl rfl⟩
        show (c.tok.set k _)[i]? = _
        rw [List.getElem?_set_ne (fun e => hik e.symm)]
        exact hi
  have hset : ∀ i e1, c1.tok[i]? = some e1 → (i ≠ k ∧ c.tok[i]? = some e1) ∨ (i = k ∧ e1 = { e with mark := e.mark + m }) := by
    intro i e1 hi
    by_cases hik : i = k
    · subst hik
      have : c1.tok[i]? = some { e with mark := e.mark + m } := List.getElem?_set_self hk
      rw [this] at hi
      exact .inr ⟨rfl, (Option.some.inj hi).symm⟩
    · have : c1.tok[i]? = c.tok[i]? := List.getElem?_set_ne (fun e => hik e.symm)
      rw [this] at hi
      exact .inl ⟨hik, hi⟩
  refine ⟨c1, hle, ?_, ?_, List.getElem?_set_self hk, rfl⟩
  · refine ⟨by rw [setRow_size]; exact h.base, Below.setRow' h.below p2 _, fun b o u hu => ?_, by rw [HS.up_blks]; exact h.blkLen, fun i g b hg hb => ?_, h.blkInj, ?_, fun i e1 hi => ?_, fun i j e1 e2 hi hj hg => ?_, h.maps.keep hle rfl rfl (keeps_setRow hw _), h.cx, h.xok⟩
    · have hu' : (if b = e.g ∧ e.mark * e.sz ≤ o ∧ o < e.mark * e.sz + vs.length then vs[o - e.mark * e.sz]? else c.mem b o) = some u := hu
      by_cases hb : b = e.g
      · subst hb
        rw [cell_setRow_same w e.g o cur _ et fr hw, putA_get hput]
        by_cases ho : e.mark * e.sz ≤ o ∧ o < e.mark * e.sz + vs.length
        · rw [if_pos ⟨rfl, ho⟩] at hu'
          rw [if_pos ho]; exact hu'
        · rw [if_neg (fun hh => ho hh.2)] at hu'
          rw [if_neg ho]
          have := h.mem _ _ _ hu'
          simpa [World.cell?, hw] using this
      · rw [if_neg (fun hh => hb hh.1)] at hu'
        rw [cell_setRow_other w e.g _ _ hb]
        exact h.mem _ _ _ hu'
    · have hne : g ≠ e.g := fun hh => p5 i (hh ▸ hg)
      obtain ⟨q1, q2, cur', fr', q3, q4, q5, q6⟩ := h.blk i g b hg (by rw [HS.up_blks] at hb; exact hb)
      refine ⟨q1, fun o => ?_, cur', fr', ?_, q4, q5, fun j hj => (q6 j hj).mono hle⟩
      · show (if _ then _ else _) = _
        rw [if_neg (fun hh => hne hh.1)]
        exact q2 o
      · rw [setRow_other w e.g g _ hne]; exact q3
    · show (c.tok.set k _).length = _
      simpa [HS.up] using h.tokLen
    · rcases hset i e1 hi with ⟨hik, he'⟩ | ⟨rfl, rfl⟩
      · obtain ⟨q1, q2, q3, q4, q5, cur', et', fr', q6, q7⟩ := h.tok i e1 he'
        have hne : e1.g ≠ e.g := fun hh => hik (h.tokInj i k e1 e he' he hh)
        refine ⟨?_, q2, q3, fun o ho => ?_, q5, cur', et', fr', ?_, q7⟩
        · simp only [HS.up]
          rw [List.getElem?_set_ne (fun e => hik e.symm)]
          exact q1
        · show (if _ then _ else _) = _
          rw [if_neg (fun hh => hne hh.1)]
          exact q4 o ho
        · rw [setRow_other w e.g e1.g _ hne]; exact q6
      · refine ⟨?_, p2, hfit, fun o ho => ?_, p5, putA cur (e.mark * e.sz) vs, et, fr, setRow_heap w e.g cur _ et fr hw, ?_, ?_⟩
        · simp only [HS.up]
          rw [List.getElem?_set_self (by have := h.tokLen; omega)]
        · show (if _ then _ else _) = _
          rw [if_neg (by
            intro hh
            have h3 : (e.mark + m) * e.sz ≤ o := ho
            omega)]
          exact p4 o (by
            have h3 : (e.mark + m) * e.sz ≤ o := ho
            omega)
        · show (putA cur (e.mark * e.sz) vs).size = e.cap * e.sz
          rw [putA_size hput]; exact p7
        · intro o ho
          rw [putA_size hput] at ho
          exact p8 o ho
    · rcases hset i e1 hi with ⟨hik, hi'⟩ | ⟨rfl, rfl⟩
      · rcases hset j e2 hj with ⟨hjk, hj'⟩ | ⟨rfl, rfl⟩
        · exact h.tokInj i j e1 e2 hi' hj' hg
        · exact absurd (h.tokInj i j e1 e hi' he hg) hik
      · rcases hset j e2 hj with ⟨hjk, hj'⟩ | ⟨rfl, rfl⟩
        · exact absurd (h.tokInj j i e2 e hj' he hg.symm) hjk
        · rfl
  · intro j u hu
    have hj : j < vs.length := (List.getElem?_eq_some_iff.1 hu).1
    show (if _ then _ else _) = _
    rw [if_pos ⟨rfl, by omega, by omega⟩, Nat.add_sub_cancel_left]
    exact hu
def putL : List AV → Nat → List AV → List AV
  | cs, _, [] => cs
  | cs, k, v :: vs => putL (cs.set k v) (k + 1) vs
def HS.put (H : HS) (id off : Nat) (vs : List AV) : HS := { H with blks := H.blks.modify id fun b => { b with cs := putL b.cs off vs } }
theorem putL_length : ∀ (vs cs : List AV) (k : Nat), (putL cs k vs).length = cs.length
  | [], _, _ => rfl
  | v :: vs, cs, k => by rw [putL, putL_length vs]; simp
theorem putL_get : ∀ (vs cs : List AV) (k j : Nat), k + vs.length ≤ cs.length → (putL cs k vs)[j]? = if k ≤ j ∧ j < k + vs.length then vs[j - k]? else cs[j]?
  | [], cs, k, j, _ => by rw [if_neg (by simp only [List.length_nil]; omega)]; rfl
  | v :: vs, cs, k, j, h => by
    simp at h
    rw [putL, putL_get vs _ _ _ (by simp; omega)]
    by_cases h1 : k + 1 ≤ j ∧ j < k + 1 + vs.length
    · rw [if_pos h1, if_pos (by simp only [List.length_cons]; omega)]
      have : j - k = (j - (k + 1)) + 1 := by omega
      rw [this, List.getElem?_cons_succ]
    · rw [if_neg h1]
      by_cases h2 : j = k
      · subst h2
        rw [if_pos (by simp), List.getElem?_set_self (by omega)]
        simp
      · rw [if_neg (by simp only [List.length_cons]; omega), List.getElem?_set_ne (fun e => h2 e.symm)]
theorem Inv.putBlk {B : Nat} {w0 w : World} {c : Ctx} {H : HS} (h : Inv B w0 c H w) (id g off : Nat) (b : HB) (hg : c.blk[id]? = some g) (hb : H.blks[id]? = some b)
    (vs : List Value) (avs : List AV) (hl : vs.length = avs.length) (hr : ∀ j (hj : j < vs.length) (hj' : j < avs.length), Rep c vs[j] avs[j]) (hfit : off + avs.length ≤ b.cs.length)
    (cur : Array Value) (et : TypeId) (fr : Nat × Nat) (hw : w.heap[g]? = some (.cells cur et fr)) :
    Inv B w0 c (H.put id off avs) (w.setRow g (putA cur off vs)) := by
  obtain ⟨p1, p2, cur', fr', p3, p4, p5, p6⟩ := h.blk id g b hg hb
  rw [hw] at p3
  injection p3 with p3
  injection p3 with q1 q2 q3
  subst q1 q2 q3
  have hput : off + vs.length ≤ cur.size := by omega
  refine ⟨by rw [setRow_size]; exact h.base, Below.setRow' h.below p1 _, fun b' o u hu => ?_, ?_, fun i g' b' hg' hb' => ?_, h.blkInj, h.tokLen, fun i e he => ?_, h.tokInj, h.maps.keep (.refl c) rfl rfl (keeps_setRow hw _), h.cx, h.xok⟩
  · have hne : b' ≠ g := fun hh => by subst hh; rw [p2] at hu; cases hu
    rw [cell_setRow_other w g _ _ hne]
    exact h.mem _ _ _ hu
  · simp [HS.put, h.blkLen]
  · by_cases hi : i = id
    · subst hi
      have : g' = g := by rw [hg] at hg'; exact (Option.some.inj hg').symm
      subst this
      have hb2 : b' = { b with cs := putL b.cs off avs } := by
        have : (H.put i off avs).blks[i]? = some { b with cs := putL b.cs off avs } := by simp [HS.put, hb]
        rw [this] at hb'; exact (Option.some.inj hb').symm
      subst hb2
      refine ⟨p1, p2, putA cur off vs, fr, setRow_heap w g' cur _ _ fr hw, ?_, ?_, ?_⟩
      · rw [putA_size hput, putL_length]; exact p4
      · intro hfz o; exact p5 hfz o
      · intro j hj
        have hj1 : j < b.cs.length := by
          have : (putL b.cs off avs).length = b.cs.length := putL_length ..
          have hj' : j < (putL b.cs off avs).length := hj
          omega
        have e1 : (putL b.cs off avs)[j]? = some ((putL b.cs off avs)[j]'hj) := List.getElem?_eq_getElem hj
        rw [putL_get _ _ _ _ hfit] at e1
        have e2 : (putA cur off vs).getD j undef = ((putA cur off vs)[j]?).getD undef := by simp
        show Rep c ((putA cur off vs).getD j undef) ((putL b.cs off avs)[j]'hj)
        rw [e2, putA_get hput]
        by_cases hh : off ≤ j ∧ j < off + avs.length
        · rw [if_pos hh] at e1
          rw [if_pos (by omega)]
          have ha : j - off < avs.length := by omega
          have hv : j - off < vs.length := by omega
          rw [List.getElem?_eq_getElem ha] at e1
          rw [List.getElem?_eq_getElem hv]
          have := hr (j - off) hv ha
          rw [Option.some.inj e1] at this
          exact this
        · rw [if_neg hh] at e1
          rw [if_neg (by omega)]
          have := p6 j hj1
          rw [List.getElem?_eq_getElem hj1] at e1
          rw [← Option.some.inj e1]
          simpa using this
    · have hne : g' ≠ g := fun hh => hi (h.blkInj i id g (hh ▸ hg') hg)
      have hb3 : H.blks[i]? = some b' := by
        have : (H.put id off avs).blks[i]? = H.blks[i]? := by
          have hne2 : ¬ id = i := fun e => hi e.symm
          cases hq : H.blks[i]? <;> simp [HS.put, hne2, hq]
        rw [← this]; exact hb'
      obtain ⟨q1, q2, cur', fr', q3, q4⟩ := h.blk i g' b' hg' hb3
      exact ⟨q1, q2, cur', fr', by rw [setRow_other w g g' _ hne]; exact q3, q4⟩
  · obtain ⟨q1, q2, q3, q4, q5, cur', et', fr', q6, q7⟩ := h.tok i e he
    have hne : e.g ≠ g := fun hh => q5 id (hh ▸ hg)
    exact ⟨q1, q2, q3, q4, q5, cur', et', fr', by rw [setRow_other w g e.g _ hne]; exact q6, q7⟩
end Go.AV
namespace Go.AV
open Go.Conc (lt_size_of_getElem?)
abbrev _root_.Go.Trace.add (t : Trace) (op : MemOp) : Trace := Array.push t op
def Hears (t : Trace) : Prop := ∀ op ∈ t, op.act ≠ .mark .disable ∧ op.act ≠ .mark .enable
theorem Hears.deaf {t : Trace} (h : Hears t) (g : Nat) : ∀ i, t.deaf g i = 0 := by
  intro i
  induction i with
  | zero => rfl
  | succ i ih =>
    unfold Trace.deaf
    split
    · rename_i hh _ _ heq; exact absurd rfl (h _ (Go.Conc.mem_of_getElem? heq)).1
    · rename_i hh _ _ heq; exact absurd rfl (h _ (Go.Conc.mem_of_getElem? heq)).2
    · exact ih
theorem Hears.heard {t : Trace} (h : Hears t) {i : Nat} {op : MemOp} (hi : t[i]? = some op) : t.heard i := ⟨op.g, by simp [Trace.g?, hi], h.deaf _ _⟩
theorem Hears.push {t : Trace} {op : MemOp} (h : Hears t) (ho : op.act ≠ .mark .disable ∧ op.act ≠ .mark .enable) : Hears (t.add op) := by
  intro o hm
  rcases Array.mem_push.1 hm with h1 | rfl
  · exact h o h1
  · exact ho
theorem at_old {t : Trace} {op : MemOp} {i : Nat} (h : i < t.size) : (t.add op)[i]? = t[i]? := by
  rw [Array.getElem?_push, if_neg (by omega)]
theorem at_new {t : Trace} {op : MemOp} : (t.add op)[t.size]? = some op := by simp
theorem act_lt {t : Trace} {i : Nat} {a : MemAct} (h : t.act? i = some a) : i < t.size := by
  unfold Trace.act? at h
  cases ho : t[i]? with
  | none => simp [ho] at h
  | some op => exact lt_size_of_getElem? ho
theorem g_lt {t : Trace} {i g : Nat} (h : t.g? i = some g) : i < t.size := by
  unfold Trace.g? at h
  cases ho : t[i]? with
  | none => simp [ho] at h
  | some op => exact lt_size_of_getElem? ho
theorem act_old {t : Trace} {op : MemOp} {i : Nat} (h : i < t.size) : (t.add op).act? i = t.act? i := by unfold Trace.act?; rw [at_old h]
theorem g_old {t : Trace} {op : MemOp} {i : Nat} (h : i < t.size) : (t.add op).g? i = t.g? i := by unfold Trace.g?; rw [at_old h]
theorem hb_step {t : Trace} {i j : Nat} (h : ProgramOrder t i j ∨ (Notices t i j ∧ t.heard i ∧ t.heard j)) : i < t.size ∧ j < t.size := by
  rcases h with ⟨_, g, h1, h2⟩ | ⟨_, ⟨g, h1, _⟩, ⟨g', h2, _⟩⟩
  · exact ⟨g_lt h1, g_lt h2⟩
  · exact ⟨g_lt h1, g_lt h2⟩
theorem hb_push {t : Trace} {op : MemOp} (hq : Hears (t.add op)) {i j : Nat} (h : HappensBefore t i j) : HappensBefore (t.add op) i j := by
  have one : ∀ i j, (ProgramOrder t i j ∨ (Notices t i j ∧ t.heard i ∧ t.heard j)) → (ProgramOrder (t.add op) i j ∨ (Notices (t.add op) i j ∧ (t.add op).heard i ∧ (t.add op).heard j)) := by
    intro i j h
    obtain ⟨li, lj⟩ := hb_step h
    rcases h with ⟨hij, g, h1, h2⟩ | ⟨hn, _, _⟩
    · exact .inl ⟨hij, g, by rw [g_old li]; exact h1, by rw [g_old lj]; exact h2⟩
    · refine .inr ⟨?_, hq.heard (by rw [at_old li]; exact Array.getElem?_eq_getElem li), hq.heard (by rw [at_old lj]; exact Array.getElem?_eq_getElem lj)⟩
      cases hn with
      | atomic hij h1 h2 h3 => exact .atomic hij (by rw [act_old li]; exact h1) (by rw [act_old lj]; exact h2) fun k s k1 k2 => by rw [act_old (by omega)]; exact h3 k s k1 k2
      | spawn h1 h2 h3 => exact .spawn (by rw [act_old li]; exact h1) (by rw [act_old lj]; exact h2) (by rw [g_old lj]; exact h3)
      | handOver h1 h2 => exact .handOver (by rw [act_old li]; exact h1) (by rw [act_old lj]; exact h2)
      | room h1 h2 => exact .room (by rw [act_old li]; exact h1) (by rw [act_old lj]; exact h2)
      | closed h1 h2 => exact .closed (by rw [act_old li]; exact h1) (by rw [act_old lj]; exact h2)
      | marked hij h1 h2 h3 => exact .marked hij (by rw [act_old li]; exact h1) (by rw [act_old lj]; exact h2) fun k k1 k2 => by rw [act_old (by omega)]; exact h3 k k1 k2
  induction h with
  | single h => exact .single (one _ _ h)
  | tail _ h ih => exact .tail ih (one _ _ h)
def Cov (t : Trace) (g i : Nat) : Prop := ∃ j, t.g? j = some g ∧ (i = j ∨ HappensBefore t i j)
theorem Cov.push {t : Trace} {op : MemOp} (hq : Hears (t.add op)) {g i : Nat} (h : Cov t g i) : Cov (t.add op) g i := by
  obtain ⟨j, hj, h⟩ := h
  exact ⟨j, by rw [g_old (g_lt hj)]; exact hj, h.imp id (hb_push hq)⟩
theorem Cov.hb {t : Trace} {g i n : Nat} {op : MemOp} (h : Cov t g i) (hn : t[n]? = some op) (hg : op.g = g) (hl : ∀ j, t.g? j = some g → j ≤ n) (hi : i < n) : HappensBefore t i n := by
  obtain ⟨j, hj, h⟩ := h
  have hgn : t.g? n = some g := by simp [Trace.g?, hn, hg]
  have po : j < n → HappensBefore t j n := fun hjn => .single (.inl ⟨hjn, g, hj, hgn⟩)
  rcases h with rfl | h
  · exact po hi
  · rcases Nat.lt_or_ge j n with hjn | hjn
    · exact Relation.TransGen.trans h (po hjn)
    · have : j = n := Nat.le_antisymm (hl j hj) hjn
      rw [← this]; exact h
def Still (mem : Mem) (x : Touch) : Prop := x.write = false ∧ ∃ (a : Addr) (u : Value), x.loc = .cell a ∧ mem a.block a.off = some u
structure Bat (t : Trace) (g : Nat) (mem : Mem) (L : Nat → Prop) : Prop where
  hears : Hears t
  cov : ∀ i x, (t.act? i).bind (·.touch?) = some x → Cov t g i ∨ (Still mem x ∧ ∃ l, t.g? i = some l ∧ L l)
  race : ∀ said, ¬ Race said t
def ActOk (mem : Mem) (a : MemAct) : Prop := (a ≠ .mark .disable ∧ a ≠ .mark .enable) ∧ ∀ x, a.touch? = some x → x.write = true → ∀ ad : Addr, x.loc = .cell ad → mem ad.block ad.off = none
theorem Bat.mono {t : Trace} {g : Nat} {mem mem' : Mem} {L L' : Nat → Prop} (h : Bat t g mem L) (hm : MemLe mem mem') (hL : ∀ l, L l → L' l) : Bat t g mem' L' :=
  ⟨h.hears, fun i x hx => (h.cov i x hx).imp id fun ⟨⟨h1, a, u, h2, h3⟩, l, h4, h5⟩ => ⟨⟨h1, a, u, h2, hm _ _ _ h3⟩, l, h4, hL l h5⟩, h.race⟩
theorem touch_lt {t : Trace} {i : Nat} {x : Touch} (h : (t.act? i).bind (·.touch?) = some x) : i < t.size := by
  cases ha : t.act? i with
  | none => rw [ha] at h; cases h
  | some a => exact act_lt ha
theorem Bat.push {t : Trace} {g : Nat} {mem : Mem} {L : Nat → Prop} {op : MemOp} (h : Bat t g mem L) (hg : op.g = g) (ho : ActOk mem op.act) : Bat (t.add op) g mem L := by
  have hq := h.hears.push ho.1
  have hgn : (t.add op).g? t.size = some g := by simp [Trace.g?, hg]
  refine ⟨hq, fun i x hx => ?_, fun said => ?_⟩
  · rcases Nat.lt_or_ge i t.size with hi | hi
    · rw [act_old hi] at hx
      refine (h.cov i x hx).imp (Cov.push hq) fun ⟨h1, l, h2, h3⟩ => ⟨h1, l, by rw [g_old hi]; exact h2, h3⟩
    · have : i = t.size := by have := touch_lt hx; simp at this; omega
      subst this
      exact .inl ⟨t.size, hgn, .inl rfl⟩
  · rintro ⟨i, j, hij, ⟨x, y, hx, hy, hloc, hmem, hw, hk⟩, n1, n2⟩
    have hj : j < (t.add op).size := touch_lt hy
    rcases Nat.lt_or_ge j t.size with hj' | hj'
    · have hi : i < t.size := by omega
      rw [act_old hi] at hx
      rw [act_old hj'] at hy
      exact h.race said ⟨i, j, hij, ⟨x, y, hx, hy, hloc, hmem, hw, hk⟩, fun q => n1 (hb_push hq q), fun q => n2 (hb_push hq q)⟩
    · have : j = t.size := by simp at hj; omega
      subst this
      have hy' : op.act.touch? = some y := by simpa [Trace.act?] using hy
      rw [act_old hij] at hx
      rcases h.cov i x hx with c | ⟨⟨s1, a, u, s2, s3⟩, _⟩
      · exact n1 (Cov.hb (c.push hq) at_new hg (fun k hk => by have := g_lt hk; simp at this; omega) hij)
      · have hyw : y.write = true := by
          rcases hw with hw | hw
          · rw [s1] at hw; cases hw
          · exact hw
        have := ho.2 y hy' hyw a (by rw [← hloc, s2])
        rw [this] at s3; cases s3
def EvOk (mem : Mem) (e : Event) : Prop :=
  match e.loc with
  | .cell a => e.write = true → mem a.block a.off = none
  | .mark .disable => False
  | .mark .enable => False
  | .mark (.write a) => mem a.block a.off = none
  | _ => True
theorem actOk_of {mem : Mem} {e : Event} (h : EvOk mem e) : ActOk mem (MemAct.ofEvent e) := by
  obtain ⟨loc, wr, sy⟩ := e
  cases loc with
  | cell a =>
    refine ⟨⟨by simp [MemAct.ofEvent], by simp [MemAct.ofEvent]⟩, fun x hx hw ad had => ?_⟩
    simp only [MemAct.ofEvent, MemAct.touch?, Option.some.injEq] at hx
    subst hx
    simp only at hw had
    cases had
    exact h hw
  | obj r =>
    cases wr <;> cases sy <;> refine ⟨⟨by simp [MemAct.ofEvent], by simp [MemAct.ofEvent]⟩, fun x hx hw ad had => ?_⟩ <;>
      simp only [MemAct.ofEvent, MemAct.touch?, Option.some.injEq, reduceCtorEq] at hx <;> subst hx <;> simp at had
  | output =>
    refine ⟨⟨by simp [MemAct.ofEvent], by simp [MemAct.ofEvent]⟩, fun x hx hw ad had => ?_⟩
    simp only [MemAct.ofEvent, MemAct.touch?, Option.some.injEq] at hx
    subst hx
    simp at had
  | goroutines =>
    refine ⟨⟨by simp [MemAct.ofEvent], by simp [MemAct.ofEvent]⟩, fun x hx hw ad had => ?_⟩
    simp only [MemAct.ofEvent, MemAct.touch?, Option.some.injEq] at hx
    subst hx
    simp at had
  | mark m =>
    refine ⟨⟨?_, ?_⟩, fun x hx hw ad had => ?_⟩
    · intro e
      simp only [MemAct.ofEvent, MemAct.mark.injEq] at e
      subst e
      exact h
    · intro e
      simp only [MemAct.ofEvent, MemAct.mark.injEq] at e
      subst e
      exact h
    · cases m <;> simp only [MemAct.ofEvent, MemAct.touch?, Option.some.injEq, reduceCtorEq] at hx
      · subst hx; simp at hw
      · subst hx
        simp only [Loc.cell.injEq] at had
        subst had
        exact h
theorem Bat.list {g : Nat} {mem : Mem} {L : Nat → Prop} {fn : FuncId} {pos : String} : ∀ (l : List Event) (t : Trace), Bat t g mem L → (∀ e ∈ l, EvOk mem e) → Bat (l.foldl (fun t e => t.add { g, fn, pos, act := .ofEvent e }) t) g mem L
  | [], t, h, _ => h
  | e :: l, t, h, ho => Bat.list l _ (h.push rfl (actOk_of (ho e (List.mem_cons_self ..)))) fun x hx => ho x (List.mem_cons_of_mem _ hx)
theorem ofEvents_fold (g : Nat) (fn : FuncId) (pos : String) (es : Array Event) (t : Trace) : t ++ MemOp.ofEvents g fn pos es = es.toList.foldl (fun t e => t.add { g, fn, pos, act := .ofEvent e }) t := by
  have key : ∀ (l : List Event) (t : Trace), l.foldl (fun t e => t.add { g, fn, pos, act := .ofEvent e }) t = t ++ (l.map fun e => ({ g, fn, pos, act := .ofEvent e } : MemOp)).toArray := by
    intro l
    induction l with
    | nil => intro t; simp
    | cons e l ih => intro t; rw [List.foldl_cons, ih]; apply Array.ext'; simp
  rw [key]
  unfold MemOp.ofEvents
  split
  · rename_i he
    have : es = #[] := by simpa using he
    subst this
    simp
  · apply Array.ext'; simp
theorem Bat.evs {t : Trace} {g : Nat} {mem : Mem} {L : Nat → Prop} {fn : FuncId} {pos : String} {es : Array Event} (h : Bat t g mem L) (ho : ∀ e ∈ es, EvOk mem e) : Bat (t ++ MemOp.ofEvents g fn pos es) g mem L := by
  rw [ofEvents_fold]
  exact Bat.list _ t h fun e he => ho e (by simpa using he)
structure Let (t : Trace) (g : Nat) (mem : Mem) (L : Nat → Prop) (a : Addr) (G : Prop) : Prop where
  tok : Bat t g mem L
  rel : ∃ r op, t[r]? = some op ∧ op.g = g ∧ op.act = .mark (.release a) ∧ (∀ i x, i < r → (t.act? i).bind (·.touch?) = some x → HappensBefore t i r ∨ (Still mem x ∧ ∃ l, t.g? i = some l ∧ L l)) ∧
    ∀ i o, r < i → t[i]? = some o → G ∧ o.g = g ∧ (∀ m, o.act ≠ .mark m) ∧ ∀ x, o.act.touch? = some x → Still mem x
theorem Let.push {t : Trace} {g : Nat} {mem : Mem} {L : Nat → Prop} {a : Addr} {G : Prop} (h : Let t g mem L a G) {op : MemOp} (hg : op.g = g) (hm : ∀ m, op.act ≠ .mark m) (ho : ∀ x, op.act.touch? = some x → Still mem x) : Let (t.add op) g mem L a True := by
  obtain ⟨r, o, h1, h2, h3, h5, h4⟩ := h.rel
  have hr := lt_size_of_getElem? h1
  have hq := h.tok.hears.push (op := op) ⟨hm _, hm _⟩
  refine ⟨h.tok.push hg ⟨⟨hm _, hm _⟩, fun x hx hw => by have := (ho x hx).1; rw [hw] at this; cases this⟩, r, o, by rw [at_old hr]; exact h1, h2, h3, fun i x hi hx => ?_, fun i p hi hp => ?_⟩
  · rw [act_old (by omega)] at hx
    exact (h5 i x hi hx).imp (hb_push hq) fun ⟨s, l, s1, s2⟩ => ⟨s, l, by rw [g_old (by omega)]; exact s1, s2⟩
  · rcases Nat.lt_or_ge i t.size with q | q
    · rw [at_old q] at hp; exact ⟨trivial, (h4 i p hi hp).2⟩
    · have := lt_size_of_getElem? hp
      have : i = t.size := by simp at this; omega
      subst this
      rw [at_new] at hp
      cases hp
      exact ⟨trivial, hg, hm, ho⟩
theorem Let.mono {t : Trace} {g : Nat} {mem mem' : Mem} {L L' : Nat → Prop} {a : Addr} {G : Prop} (h : Let t g mem L a G) (hm : MemLe mem mem') (hL : ∀ l, L l → L' l) : Let t g mem' L' a G := by
  obtain ⟨r, o, h1, h2, h3, h5, h4⟩ := h.rel
  have hs : ∀ x, Still mem x → Still mem' x := fun x ⟨s1, b, u, s2, s3⟩ => ⟨s1, b, u, s2, hm _ _ _ s3⟩
  exact ⟨h.tok.mono hm hL, r, o, h1, h2, h3, fun i x hi hx => (h5 i x hi hx).imp id fun ⟨s, l, s1, s2⟩ => ⟨hs x s, l, s1, hL l s2⟩, fun i p hi hp => by
    obtain ⟨q0, q1, q2, q3⟩ := h4 i p hi hp
    exact ⟨q0, q1, q2, fun x hx => hs x (q3 x hx)⟩⟩
theorem Let.take {t : Trace} {g h' : Nat} {mem : Mem} {L L' : Nat → Prop} {a : Addr} {G : Prop} (h : Let t g mem L a G) {op : MemOp} (hg : op.g = h') (ho : op.act = .mark (.acquire a)) (hL : ∀ l, L l → l ≠ h' → L' l) (hLg : G → L' g) : Bat (t.add op) h' mem L' := by
  have hq := h.tok.hears.push (op := op) (by rw [ho]; simp)
  obtain ⟨r, o, h1, h2, h3, h5, h4⟩ := h.rel
  have hr := lt_size_of_getElem? h1
  have hrn : HappensBefore (t.add op) r t.size := by
    refine .single (.inr ⟨.marked (a := a) hr (.inl (by rw [act_old hr]; simp [Trace.act?, h1, h3])) (by simp [Trace.act?, ho]) fun k k1 k2 => ?_, hq.heard (by rw [at_old hr]; exact h1), hq.heard at_new⟩)
    rw [act_old k2]
    intro e
    unfold Trace.act? at e
    cases hk : t[k]? with
    | none => simp [hk] at e
    | some p =>
      simp only [hk, Option.map_some, Option.some.injEq] at e
      exact (h4 k p k1 hk).2.2.1 _ e
  have hgn : (t.add op).g? t.size = some h' := by simp [Trace.g?, hg]
  refine ⟨hq, fun i x hx => ?_, fun said => ?_⟩
  · have hi : i < t.size := by
      have := touch_lt hx
      rcases Nat.lt_or_ge i t.size with q | q
      · exact q
      · have : i = t.size := by simp at this; omega
        subst this
        simp [Trace.act?, ho, MemAct.touch?] at hx
    rw [act_old hi] at hx
    obtain ⟨oi, hoi⟩ : ∃ oi, t[i]? = some oi := ⟨_, Array.getElem?_eq_getElem hi⟩
    have hxi : oi.act.touch? = some x := by simpa [Trace.act?, hoi] using hx
    have gi : t.g? i = some oi.g := by simp [Trace.g?, hoi]
    rcases Nat.lt_trichotomy i r with q | q | hri
    · rcases h5 i x q hx with c | ⟨s, l, s1, s2⟩
      · exact .inl ⟨t.size, hgn, .inr (Relation.TransGen.trans (hb_push hq c) hrn)⟩
      · by_cases hl : l = h'
        · subst hl
          exact .inl ⟨i, by rw [g_old hi]; exact s1, .inl rfl⟩
        · exact .inr ⟨s, l, by rw [g_old hi]; exact s1, hL l s2 hl⟩
    · subst q
      rw [h1] at hoi
      cases hoi
      rw [h3] at hxi
      cases hxi
    · obtain ⟨q0, q1, q2, q3⟩ := h4 i oi hri hoi
      exact .inr ⟨q3 x hxi, g, by rw [g_old hi, gi, q1], hLg q0⟩
  · rintro ⟨i, j, hij, ⟨x, y, hx, hy, hloc, hmem, hw, hk⟩, n1, n2⟩
    have hj : j < t.size := by
      have := touch_lt hy
      rcases Nat.lt_or_ge j t.size with q | q
      · exact q
      · have : j = t.size := by simp at this; omega
        subst this
        simp [Trace.act?, ho, MemAct.touch?] at hy
    rw [act_old (by omega)] at hx
    rw [act_old hj] at hy
    exact h.tok.race said ⟨i, j, hij, ⟨x, y, hx, hy, hloc, hmem, hw, hk⟩, fun q => n1 (hb_push hq q), fun q => n2 (hb_push hq q)⟩
theorem Bat.handedOver {t : Trace} {mem : Mem} {L : Nat → Prop} (h : Bat t 0 mem L) (hL : ∀ l, ¬ L l) : t.HandedOver := by
  intro i g hg hne hc
  obtain ⟨x, hx, hm, _⟩ := hc
  rcases h.cov i x hx with ⟨j, hj, hc⟩ | ⟨_, l, _, hl⟩
  · rcases hc with rfl | hc
    · rw [hg] at hj
      exact absurd (Option.some.inj hj) hne
    · exact ⟨j, hj, hc⟩
  · exact absurd hl (hL l)
theorem Bat.nil {g : Nat} {mem : Mem} {L : Nat → Prop} : Bat #[] g mem L := by
  refine ⟨fun op h => by simp at h, fun i x h => by simp [Trace.act?] at h, fun said h => ?_⟩
  obtain ⟨i, j, _, ⟨x, y, hx, _⟩, _⟩ := h
  simp [Trace.act?] at hx
end Go.AV
namespace Go
def Obj.hasCells : Obj → Bool
  | .cells .. => true
  | _ => false
def Sem.Wr {α : Type} (P : Program) : (Nat → Nat → Prop) → Sem α → Prop
  | _, .pure _ => True
  | W, .load _ _ k => ∀ v, Sem.Wr P W (k v)
  | W, .store _ a _ k => W a.block a.off ∧ Sem.Wr P W k
  | W, .new o k => ∀ r, Sem.Wr P (fun b j => W b j ∨ (b = r ∧ o.hasCells = true)) (k r)
  | W, .shape _ k => ∀ s, Sem.Wr P W (k s)
  | W, .freeze _ _ k => Sem.Wr P W k
  | W, .frozen _ k => ∀ s, Sem.Wr P W (k s)
  | W, .getObj _ k => ∀ s, Sem.Wr P W (k s)
  | W, .setObj _ _ k => Sem.Wr P W k
  | W, .choose _ k => ∀ s, Sem.Wr P W (k s)
  | _, .sys _ _ => False
  | W, .program k => Sem.Wr P W (k P)
  | W, .mark m k => ((∃ f, m = .extern f) ∨ m = .noRoom) ∧ Sem.Wr P W k
  | _, .halt _ => True
namespace Sem
theorem Wr.mono {P : Program} {α : Type} {s : Sem α} : ∀ {W W' : Nat → Nat → Prop}, (∀ b j, W b j → W' b j) → s.Wr P W → s.Wr P W' := by
  induction s with
  | pure a => exact fun _ _ => trivial
  | load m a k ih => exact fun hw h v => ih v hw (h v)
  | store m a v k ih => exact fun hw h => ⟨hw _ _ h.1, ih hw h.2⟩
  | new o k ih => exact fun hw h r => ih r (fun b j hb => hb.imp (hw b j) id) (h r)
  | shape r k ih => exact fun hw h v => ih v hw (h v)
  | freeze a n k ih => exact fun hw h => ih hw h
  | frozen a k ih => exact fun hw h v => ih v hw (h v)
  | getObj r k ih => exact fun hw h v => ih v hw (h v)
  | setObj r o k ih => exact fun hw h => ih hw h
  | choose q k ih => exact fun hw h v => ih v hw (h v)
  | sys c k ih => exact fun _ h => h.elim
  | program k ih => exact fun hw h => ih P hw h
  | mark m k ih => exact fun hw h => ⟨h.1, ih hw h.2⟩
  | halt h => exact fun _ _ => trivial
theorem Wr.bind' {P : Program} {α β : Type} {s : Sem α} {f : α → Sem β} : ∀ {W : Nat → Nat → Prop}, s.Wr P W → (∀ (W' : Nat → Nat → Prop), (∀ b j, W b j → W' b j) → ∀ a, (f a).Wr P W') → (s.bind f).Wr P W := by
  induction s with
  | pure a => exact fun _ hf => hf _ (fun _ _ h => h) a
  | load m a k ih => exact fun h hf v => ih v (h v) hf
  | store m a v k ih => exact fun h hf => ⟨h.1, ih h.2 hf⟩
  | new o k ih => exact fun h hf r => ih r (h r) fun W' hw a => hf W' (fun b j hb => hw b j (.inl hb)) a
  | shape r k ih => exact fun h hf v => ih v (h v) hf
  | freeze a n k ih => exact fun h hf => ih h hf
  | frozen a k ih => exact fun h hf v => ih v (h v) hf
  | getObj r k ih => exact fun h hf v => ih v (h v) hf
  | setObj r o k ih => exact fun h hf => ih h hf
  | choose q k ih => exact fun h hf v => ih v (h v) hf
  | sys c k ih => exact fun h _ => h.elim
  | program k ih => exact fun h hf => ih P h hf
  | mark m k ih => exact fun h hf => ⟨h.1, ih h.2 hf⟩
  | halt h => exact fun _ _ => trivial
theorem Wr.bind {P : Program} {α β : Type} {W : Nat → Nat → Prop} {s : Sem α} {f : α → Sem β} (h : s.Wr P W) (hf : ∀ a, (f a).Wr P W) : (s >>= f).Wr P W :=
  Wr.bind' h fun _ hw a => (hf a).mono hw
theorem Wr.map {P : Program} {α β : Type} {W : Nat → Nat → Prop} {s : Sem α} {f : α → β} (h : s.Wr P W) : (f <$> s).Wr P W := Wr.bind h fun _ => trivial
theorem Wr.ite {P : Program} {α : Type} {W : Nat → Nat → Prop} {c : Prop} [Decidable c] {s u : Sem α} (h : c → s.Wr P W) (k : ¬ c → u.Wr P W) : (if c then s else u).Wr P W := by
  by_cases hc : c
  · rw [if_pos hc]; exact h hc
  · rw [if_neg hc]; exact k hc
theorem Wr.pure_bind {P : Program} {α β : Type} {W : Nat → Nat → Prop} {a : α} {f : α → Sem β} (h : (f a).Wr P W) : (Pure.pure a >>= f).Wr P W := h
theorem Wr.pure {P : Program} {α : Type} {W : Nat → Nat → Prop} (a : α) : (Pure.pure a : Sem α).Wr P W := trivial
end Sem
end Go
namespace Go.AV
theorem mod_cells {h : Array Obj} {i b : Nat} {f : Obj → Obj} (hf : ∀ c t fr, ∃ c' t' fr', f (.cells c t fr) = .cells c' t' fr') {cs : Array Value} {t : TypeId} {fr : Nat × Nat} (hb : h[b]? = some (.cells cs t fr)) : ∃ cs t fr, (h.modify i f)[b]? = some (.cells cs t fr) := by
  rw [Array.getElem?_modify]
  split
  · obtain ⟨c, t', fr', e⟩ := hf cs t fr
    exact ⟨c, t', fr', by rw [hb]; exact congrArg some e⟩
  · exact ⟨_, _, _, hb⟩
theorem wr_events {α : Type} {P : Program} {mem : Mem} {s : Sem α} : ∀ {W : Nat → Nat → Prop} {w : World} (es : Array Event), s.Wr P W → (∀ b j, W b j → mem b j = none ∧ ∃ cs t fr, w.heap[b]? = some (.cells cs t fr)) → (∀ b o u, mem b o = some u → b < w.heap.size) →
    ∀ e ∈ (s.runT P w es).2, e ∈ es ∨ EvOk mem e := by
  have keep : ∀ {W : Nat → Nat → Prop} {w w' : World}, (∀ b j, W b j → mem b j = none ∧ ∃ cs t fr, w.heap[b]? = some (.cells cs t fr)) → (∀ (b : Nat) cs t fr, w.heap[b]? = some (.cells cs t fr) → ∃ cs t fr, w'.heap[b]? = some (.cells cs t fr)) → (∀ b j, W b j → mem b j = none ∧ ∃ cs t fr, w'.heap[b]? = some (.cells cs t fr)) := by
    intro W w w' hc hk b j hb
    obtain ⟨h1, cs, t, fr, h2⟩ := hc b j hb
    exact ⟨h1, hk b cs t fr h2⟩
  induction s with
  | pure a => exact fun es _ _ _ e he => .inl he
  | load m a k ih =>
    intro W w es h hc hf e he
    unfold Sem.runT at he
    split at he
    · rcases ih _ _ (h _) hc hf e he with q | q
      · rcases Array.mem_push.1 q with q | rfl
        · exact .inl q
        · exact .inr fun q => by cases q
      · exact .inr q
    · split at he
      · rcases ih _ _ (h _) hc hf e he with q | q
        · rcases Array.mem_append.1 q with q | q
          · exact .inl q
          · obtain ⟨ad, _, rfl⟩ := Array.mem_map.1 q
            exact .inr fun q => by cases q
        · exact .inr q
      · exact .inl he
  | store m a v k ih =>
    intro W w es h hc hf e he
    have h2 : ∀ (w' : World), (∀ (b : Nat) cs t fr, w.heap[b]? = some (.cells cs t fr) → ∃ cs t fr, w'.heap[b]? = some (.cells cs t fr)) → w'.heap.size = w.heap.size → ∀ es', (∀ e ∈ es', e ∈ es ∨ EvOk mem e) → e ∈ (k.runT P w' es').2 → e ∈ es ∨ EvOk mem e := by
      intro w' hk hs es' he' hm
      rcases ih es' h.2 (keep hc hk) (fun b o u q => by rw [hs]; exact hf b o u q) e hm with q | q
      · exact he' e q
      · exact .inr q
    obtain ⟨hmem, cs, ty, fr, hcell⟩ := hc _ _ h.1
    have main : e ∈ (match w.cell? a with
        | some _ => if w.frozen? a then ((Result.halt (.unsupported (.unsafePointer "a write to bytes that a string shares")) w : Result α), es) else k.runT P (w.setCell a v) (es.push ⟨.cell a, true, m == Mode.atomic⟩)
        | none => match w.farStore P a v (m == Mode.atomic) with
          | .ok (w, touched) => k.runT P w (es ++ touched.toArray.map fun x => Event.mk (.cell x) true (m == Mode.atomic))
          | .error h => (.halt h w, es)).2 → e ∈ es ∨ EvOk mem e := by
      intro he
      split at he
      · split at he
        · exact .inl he
        · refine h2 _ (fun b cs' t' fr' hb => mod_cells (fun _ _ _ => ⟨_, _, _, rfl⟩) hb) (by simp [World.setCell]) _ (fun x hx => ?_) he
          · rcases Array.mem_push.1 hx with q | rfl
            · exact .inl q
            · exact .inr fun _ => hmem
      · have : w.farStore P a v (m == Mode.atomic) = .error (w.noCell a "store: no such cell") := by simp [World.farStore, hcell]
        rw [this] at he
        exact .inl he
    cases v <;> first | exact .inl (by simpa [Sem.runT] using he) | (simp only [Sem.runT] at he; exact main he)
  | new o k ih =>
    intro W w es h hc hf e he
    simp only [Sem.runT] at he
    refine ih _ es (h w.heap.size) (fun b j hb => ?_) (fun b o u q => by have := hf b o u q; simp; omega) e he
    rcases hb with hb | ⟨rfl, ho⟩
    · obtain ⟨h1, cs, t, fr, h2⟩ := hc b j hb
      refine ⟨h1, cs, t, fr, ?_⟩
      have := (Array.getElem?_eq_some_iff.1 h2).1
      simp only [Array.getElem?_push]
      rw [if_neg (by omega)]
      exact h2
    · refine ⟨?_, ?_⟩
      · cases hm : mem w.heap.size j with
        | none => rfl
        | some u => have := hf _ _ _ hm; omega
      · cases o <;> simp [Obj.hasCells] at ho
        exact ⟨_, _, _, by simp; exact ⟨rfl, rfl, rfl⟩⟩
  | shape r k ih => exact fun es h hc hf e he => ih _ es (h _) hc hf e (by simpa [Sem.runT] using he)
  | freeze a n k ih =>
    intro W w es h hc hf e he
    simp only [Sem.runT] at he
    refine ih es h (keep hc fun b cs t fr hb => ?_) (fun b o u q => ?_) e he
    · unfold World.freeze
      split
      · exact ⟨_, _, _, hb⟩
      · exact mod_cells (fun _ _ _ => ⟨_, _, _, rfl⟩) hb
    · have : (w.freeze a n).heap.size = w.heap.size := by unfold World.freeze; split <;> simp
      rw [this]; exact hf b o u q
  | frozen a k ih => exact fun es h hc hf e he => ih _ es (h _) hc hf e (by simpa [Sem.runT] using he)
  | getObj r k ih =>
    intro W w es h hc hf e he
    unfold Sem.runT at he
    split at he
    · exact .inl he
    · rcases ih _ _ (h _) hc hf e he with q | q
      · rcases Array.mem_push.1 q with q | rfl
        · exact .inl q
        · exact .inr trivial
      · exact .inr q
    · exact .inl he
  | setObj r o k ih =>
    intro W w es h hc hf e he
    unfold Sem.runT at he
    split at he
    · exact .inl he
    · rename_i o' hn hr
      have hk := keep hc (w' := { w with heap := w.heap.setIfInBounds r o }) fun b cs t fr hb => by
        by_cases hrb : r = b
        · subst hrb
          rw [hb] at hr
          cases hr
          exact (hn _ _ _ rfl).elim
        · exact ⟨_, _, _, by rw [Array.getElem?_setIfInBounds_ne hrb]; exact hb⟩
      rcases ih _ h hk (fun b o u q => by simpa using hf b o u q) e he with q | q
      · rcases Array.mem_push.1 q with q | rfl
        · exact .inl q
        · exact .inr trivial
      · exact .inr q
    · exact .inl he
  | choose q k ih =>
    intro W w es h hc hf e he
    unfold Sem.runT at he
    split at he
    · exact ih _ es (h _) hc hf e he
    · exact ih _ (w := { w with drawn := w.drawn + 1 }) es (h _) hc hf e he
  | sys c k ih => exact fun es h => h.elim
  | program k ih => exact fun es h hc hf e he => ih _ es h hc hf e (by simpa [Sem.runT] using he)
  | mark m k ih =>
    intro W w es h hc hf e he
    simp only [Sem.runT] at he
    rcases ih _ h.2 hc hf e he with q | q
    · rcases Array.mem_push.1 q with q | rfl
      · exact .inl q
      · right
        rcases h.1 with ⟨f, rfl⟩ | rfl <;> exact trivial
    · exact .inr q
  | halt x => exact fun es _ _ _ e he => .inl he
theorem seen_ok {P : Program} {fn : FuncId} {mem : Mem} {es : Array Event} (h : ∀ e ∈ es, EvOk mem e) : ∀ e ∈ seen P fn es, EvOk mem e := by
  intro e he
  rw [Go.Conc.seen_def] at he
  rcases Go.Conc.seen_fold_sub _ _ _ _ e he with q | q
  · simp at q
  · exact h e (by simpa using q)
end Go.AV
namespace Go.AV
theorem wr_choose {P : Program} {W : Nat → Nat → Prop} (q : Question) : Sem.Wr P W (choose q) := fun _ => trivial
theorem wr_program {P : Program} {W : Nat → Nat → Prop}  : Sem.Wr P W program := trivial
theorem wr_load {P : Program} {W : Nat → Nat → Prop} (a : Addr) (m : Mode) : Sem.Wr P W (load a m) := fun _ => trivial
theorem wr_shape {P : Program} {W : Nat → Nat → Prop} (r : Nat) : Sem.Wr P W (shape r) := fun _ => trivial
theorem wr_frozen {P : Program} {W : Nat → Nat → Prop} (a : Addr) : Sem.Wr P W (frozen a) := fun _ => trivial
theorem wr_freeze {P : Program} {W : Nat → Nat → Prop} (a : Addr) (n : Nat) : Sem.Wr P W (freeze a n) := trivial
theorem wr_getObj {P : Program} {W : Nat → Nat → Prop} (r : Nat) : Sem.Wr P W (getObj r) := fun _ => trivial
theorem wr_setObj {P : Program} {W : Nat → Nat → Prop} (r : Nat) (o : Obj) : Sem.Wr P W (setObj r o) := trivial
theorem wr_newObj {P : Program} {W : Nat → Nat → Prop} (o : Obj) : Sem.Wr P W (newObj o) := fun _ => trivial
theorem wr_noRoom {P : Program} {W : Nat → Nat → Prop}  : Sem.Wr P W (mark .noRoom) := ⟨.inr rfl, trivial⟩
theorem wr_askRoom {P : Program} {W : Nat → Nat → Prop} (n : Nat) : Sem.Wr P W (askRoom n) := by
  unfold askRoom
  repeat' (first | with_reducible assumption | with_reducible exact Sem.Wr.pure _ | with_reducible exact wr_noRoom | (with_reducible apply Sem.Wr.bind) | (with_reducible apply Sem.Wr.map) | (with_reducible apply Sem.Wr.ite) | (with_reducible intro _) | split | exact trivial | (dsimp only))
theorem wr_typeInfo {P : Program} {W : Nat → Nat → Prop} (t : TypeId) : Sem.Wr P W (typeInfo t) := by
  unfold typeInfo
  repeat' (first | with_reducible assumption | with_reducible exact Sem.Wr.pure _ | with_reducible exact wr_program | (with_reducible apply Sem.Wr.bind) | (with_reducible apply Sem.Wr.map) | (with_reducible apply Sem.Wr.ite) | (with_reducible intro _) | split | exact trivial | (dsimp only))
theorem wr_underlying {P : Program} {W : Nat → Nat → Prop} (t : TypeId) : Sem.Wr P W (underlying t) := by
  unfold underlying
  repeat' (first | with_reducible assumption | with_reducible exact Sem.Wr.pure _ | with_reducible exact wr_program | (with_reducible apply Sem.Wr.bind) | (with_reducible apply Sem.Wr.map) | (with_reducible apply Sem.Wr.ite) | (with_reducible intro _) | split | exact trivial | (dsimp only))
theorem wr_zeroValue {P : Program} {W : Nat → Nat → Prop} (t : TypeId) : Sem.Wr P W (zeroValue t) := by
  unfold zeroValue
  repeat' (first | with_reducible assumption | with_reducible exact Sem.Wr.pure _ | with_reducible exact wr_typeInfo _ | (with_reducible apply Sem.Wr.bind) | (with_reducible apply Sem.Wr.map) | (with_reducible apply Sem.Wr.ite) | (with_reducible intro _) | split | exact trivial | (dsimp only))
theorem wr_sizeOf {P : Program} {W : Nat → Nat → Prop} (t : TypeId) : Sem.Wr P W (sizeOf t) := by
  unfold sizeOf
  repeat' (first | with_reducible assumption | with_reducible exact Sem.Wr.pure _ | with_reducible exact wr_typeInfo _ | (with_reducible apply Sem.Wr.bind) | (with_reducible apply Sem.Wr.map) | (with_reducible apply Sem.Wr.ite) | (with_reducible intro _) | split | exact trivial | (dsimp only))
theorem wr_isAgg {P : Program} {W : Nat → Nat → Prop} (t : TypeId) : Sem.Wr P W (isAgg t) := by
  unfold isAgg
  repeat' (first | with_reducible assumption | with_reducible exact Sem.Wr.pure _ | with_reducible exact wr_underlying _ | (with_reducible apply Sem.Wr.bind) | (with_reducible apply Sem.Wr.map) | (with_reducible apply Sem.Wr.ite) | (with_reducible intro _) | split | exact trivial | (dsimp only))
theorem wr_typeStr {P : Program} {W : Nat → Nat → Prop} (t : TypeId) : Sem.Wr P W (typeStr t) := by
  unfold typeStr
  repeat' (first | with_reducible assumption | with_reducible exact Sem.Wr.pure _ | with_reducible exact wr_typeInfo _ | (with_reducible apply Sem.Wr.bind) | (with_reducible apply Sem.Wr.map) | (with_reducible apply Sem.Wr.ite) | (with_reducible intro _) | split | exact trivial | (dsimp only))
theorem wr_elemOf {P : Program} {W : Nat → Nat → Prop} (t : TypeId) : Sem.Wr P W (elemOf t) := by
  unfold elemOf
  repeat' (first | with_reducible assumption | with_reducible exact Sem.Wr.pure _ | with_reducible exact wr_underlying _ | (with_reducible apply Sem.Wr.bind) | (with_reducible apply Sem.Wr.map) | (with_reducible apply Sem.Wr.ite) | (with_reducible intro _) | split | exact trivial | (dsimp only))
theorem wr_part {P : Program} {W : Nat → Nat → Prop} (t : TypeId) (cs : Array Value) (o : Nat) : Sem.Wr P W (part t cs o) := by
  unfold part
  repeat' (first | with_reducible assumption | with_reducible exact Sem.Wr.pure _ | with_reducible exact wr_sizeOf _ | with_reducible exact wr_isAgg _ | (with_reducible apply Sem.Wr.bind) | (with_reducible apply Sem.Wr.map) | (with_reducible apply Sem.Wr.ite) | (with_reducible intro _) | split | exact trivial | (dsimp only))
theorem wr_newRow {P : Program} {W : Nat → Nat → Prop} (t : TypeId) (cs : Array Value) : Sem.Wr P W (newRow t cs) := by
  unfold newRow
  repeat' (first | with_reducible assumption | with_reducible exact Sem.Wr.pure _ | with_reducible exact wr_newObj _ | (with_reducible apply Sem.Wr.bind) | (with_reducible apply Sem.Wr.map) | (with_reducible apply Sem.Wr.ite) | (with_reducible intro _) | split | exact trivial | (dsimp only))
theorem wr_newVar {P : Program} {W : Nat → Nat → Prop} (t : TypeId) (v : Value) : Sem.Wr P W (newVar t v) := by
  unfold newVar
  repeat' (first | with_reducible assumption | with_reducible exact Sem.Wr.pure _ | with_reducible exact wr_newRow _ _ | (with_reducible apply Sem.Wr.bind) | (with_reducible apply Sem.Wr.map) | (with_reducible apply Sem.Wr.ite) | (with_reducible intro _) | split | exact trivial | (dsimp only))
theorem wr_runtimePanic {P : Program} {W : Nat → Nat → Prop} {α : Type} (e : RuntimeError) : Sem.Wr P W (runtimePanic e : Sem α) := by
  unfold runtimePanic
  repeat' (first | with_reducible assumption | with_reducible exact Sem.Wr.pure _ | with_reducible exact wr_program | with_reducible exact wr_elemOf _ | with_reducible exact wr_newVar _ _ | (with_reducible apply Sem.Wr.bind) | (with_reducible apply Sem.Wr.map) | (with_reducible apply Sem.Wr.ite) | (with_reducible intro _) | split | exact trivial | (dsimp only))
theorem wr_boundsPanic {P : Program} {W : Nat → Nat → Prop} {α : Type} (k : IntKind) (x y : Int) (c : BoundsCode) : Sem.Wr P W (boundsPanic k x y c : Sem α) := by
  unfold boundsPanic
  repeat' (first | with_reducible assumption | with_reducible exact Sem.Wr.pure _ | with_reducible exact wr_choose _ | with_reducible exact wr_runtimePanic _ | (with_reducible apply Sem.Wr.bind) | (with_reducible apply Sem.Wr.map) | (with_reducible apply Sem.Wr.ite) | (with_reducible intro _) | split | exact trivial | (dsimp only))
theorem wr_asIntOf {P : Program} {W : Nat → Nat → Prop} (v : Value) : Sem.Wr P W (asIntOf v) := by
  unfold asIntOf
  repeat' (first | with_reducible assumption | with_reducible exact Sem.Wr.pure _ | (with_reducible apply Sem.Wr.bind) | (with_reducible apply Sem.Wr.map) | (with_reducible apply Sem.Wr.ite) | (with_reducible intro _) | split | exact trivial | (dsimp only))
theorem wr_asInt {P : Program} {W : Nat → Nat → Prop} (v : Value) : Sem.Wr P W (asInt v) := by
  unfold asInt
  repeat' (first | with_reducible assumption | with_reducible exact Sem.Wr.pure _ | with_reducible exact wr_asIntOf _ | (with_reducible apply Sem.Wr.bind) | (with_reducible apply Sem.Wr.map) | (with_reducible apply Sem.Wr.ite) | (with_reducible intro _) | split | exact trivial | (dsimp only))
theorem wr_asBool {P : Program} {W : Nat → Nat → Prop} (v : Value) : Sem.Wr P W (asBool v) := by
  unfold asBool
  repeat' (first | with_reducible assumption | with_reducible exact Sem.Wr.pure _ | (with_reducible apply Sem.Wr.bind) | (with_reducible apply Sem.Wr.map) | (with_reducible apply Sem.Wr.ite) | (with_reducible intro _) | split | exact trivial | (dsimp only))
theorem wr_asAgg {P : Program} {W : Nat → Nat → Prop} (v : Value) : Sem.Wr P W (asAgg v) := by
  unfold asAgg
  repeat' (first | with_reducible assumption | with_reducible exact Sem.Wr.pure _ | (with_reducible apply Sem.Wr.bind) | (with_reducible apply Sem.Wr.map) | (with_reducible apply Sem.Wr.ite) | (with_reducible intro _) | split | exact trivial | (dsimp only))
theorem wr_asAddr {P : Program} {W : Nat → Nat → Prop} (v : Value) : Sem.Wr P W (asAddr v) := by
  unfold asAddr
  repeat' (first | with_reducible assumption | with_reducible exact Sem.Wr.pure _ | with_reducible exact wr_runtimePanic _ | (with_reducible apply Sem.Wr.bind) | (with_reducible apply Sem.Wr.map) | (with_reducible apply Sem.Wr.ite) | (with_reducible intro _) | split | exact trivial | (dsimp only))
theorem wr_viewAt {P : Program} {W : Nat → Nat → Prop} (r : Nat) : Sem.Wr P W (viewAt r) := by
  unfold viewAt
  repeat' (first | with_reducible assumption | with_reducible exact Sem.Wr.pure _ | with_reducible exact wr_shape _ | with_reducible exact wr_getObj _ | (with_reducible apply Sem.Wr.bind) | (with_reducible apply Sem.Wr.map) | (with_reducible apply Sem.Wr.ite) | (with_reducible intro _) | split | exact trivial | (dsimp only))
theorem wr_numberAt {P : Program} {W : Nat → Nat → Prop} (r : Nat) : Sem.Wr P W (numberAt r) := by
  unfold numberAt
  repeat' (first | with_reducible assumption | with_reducible exact Sem.Wr.pure _ | with_reducible exact wr_shape _ | with_reducible exact wr_getObj _ | (with_reducible apply Sem.Wr.bind) | (with_reducible apply Sem.Wr.map) | (with_reducible apply Sem.Wr.ite) | (with_reducible intro _) | split | exact trivial | (dsimp only))
theorem wr_cellsIn {P : Program} {W : Nat → Nat → Prop} (r : Nat) : Sem.Wr P W (cellsIn r) := by
  unfold cellsIn
  repeat' (first | with_reducible assumption | with_reducible exact Sem.Wr.pure _ | with_reducible exact wr_shape _ | with_reducible exact wr_getObj _ | (with_reducible apply Sem.Wr.bind) | (with_reducible apply Sem.Wr.map) | (with_reducible apply Sem.Wr.ite) | (with_reducible intro _) | split | exact trivial | (dsimp only))
theorem wr_asNumber {P : Program} {W : Nat → Nat → Prop} (a : Addr) (l : Bool) : Sem.Wr P W (asNumber a l) := by
  unfold asNumber
  repeat' (first | with_reducible assumption | with_reducible exact Sem.Wr.pure _ | with_reducible exact wr_newObj _ | (with_reducible apply Sem.Wr.bind) | (with_reducible apply Sem.Wr.map) | (with_reducible apply Sem.Wr.ite) | (with_reducible intro _) | split | exact trivial | (dsimp only))
theorem wr_behindNumber {P : Program} {W : Nat → Nat → Prop} (a : Addr) : Sem.Wr P W (behindNumber a) := by
  unfold behindNumber
  repeat' (first | with_reducible assumption | with_reducible exact Sem.Wr.pure _ | with_reducible exact wr_numberAt _ | (with_reducible apply Sem.Wr.bind) | (with_reducible apply Sem.Wr.map) | (with_reducible apply Sem.Wr.ite) | (with_reducible intro _) | split | exact trivial | (dsimp only))
theorem wr_noView {P : Program} {W : Nat → Nat → Prop} (a : Addr) : Sem.Wr P W (noView a) := by
  unfold noView
  repeat' (first | with_reducible assumption | with_reducible exact Sem.Wr.pure _ | with_reducible exact wr_viewAt _ | (with_reducible apply Sem.Wr.bind) | (with_reducible apply Sem.Wr.map) | (with_reducible apply Sem.Wr.ite) | (with_reducible intro _) | split | exact trivial | (dsimp only))
theorem wr_markStringish {P : Program} {W : Nat → Nat → Prop} (a : Addr) : Sem.Wr P W (markStringish a) := by
  unfold markStringish
  repeat' (first | with_reducible assumption | with_reducible exact Sem.Wr.pure _ | with_reducible exact wr_shape _ | with_reducible exact wr_freeze _ _ | (with_reducible apply Sem.Wr.bind) | (with_reducible apply Sem.Wr.map) | (with_reducible apply Sem.Wr.ite) | (with_reducible intro _) | split | exact trivial | (dsimp only))
theorem wr_stringish {P : Program} {W : Nat → Nat → Prop} (a : Addr) : Sem.Wr P W (stringish a) := by
  unfold stringish
  repeat' (first | with_reducible assumption | with_reducible exact Sem.Wr.pure _ | with_reducible exact wr_shape _ | with_reducible exact wr_frozen _ | (with_reducible apply Sem.Wr.bind) | (with_reducible apply Sem.Wr.map) | (with_reducible apply Sem.Wr.ite) | (with_reducible intro _) | split | exact trivial | (dsimp only))
theorem wr_mayBeOne {P : Program} {W : Nat → Nat → Prop} (a b : Addr) : Sem.Wr P W (mayBeOne a b) := by
  unfold mayBeOne
  repeat' (first | with_reducible assumption | with_reducible exact Sem.Wr.pure _ | with_reducible exact wr_shape _ | with_reducible exact wr_stringish _ | (with_reducible apply Sem.Wr.bind) | (with_reducible apply Sem.Wr.map) | (with_reducible apply Sem.Wr.ite) | (with_reducible intro _) | split | exact trivial | (dsimp only))
theorem wr_sameAddr {P : Program} {W : Nat → Nat → Prop} (a b : Addr) : Sem.Wr P W (sameAddr a b) := by
  unfold sameAddr
  repeat' (first | with_reducible assumption | with_reducible exact Sem.Wr.pure _ | with_reducible exact wr_choose _ | with_reducible exact wr_frozen _ | with_reducible exact wr_noView _ | with_reducible exact wr_mayBeOne _ _ | (with_reducible apply Sem.Wr.bind) | (with_reducible apply Sem.Wr.map) | (with_reducible apply Sem.Wr.ite) | (with_reducible intro _) | split | exact trivial | (dsimp only))
theorem wr_samePointer {P : Program} {W : Nat → Nat → Prop} (a b : Option Addr) : Sem.Wr P W (samePointer a b) := by
  unfold samePointer
  repeat' (first | with_reducible assumption | with_reducible exact Sem.Wr.pure _ | with_reducible exact wr_sameAddr _ _ | (with_reducible apply Sem.Wr.bind) | (with_reducible apply Sem.Wr.map) | (with_reducible apply Sem.Wr.ite) | (with_reducible intro _) | split | exact trivial | (dsimp only))
theorem wr_loadCellsFrom {P : Program} {W : Nat → Nat → Prop} (a : Addr) : ∀ (n i : Nat) (acc : Array Value), Sem.Wr P W (loadCellsFrom a i n acc)
  | 0, _, _ => trivial
  | n + 1, i, acc => Sem.Wr.bind (wr_load _ _) fun _ => wr_loadCellsFrom a n (i + 1) _
theorem wr_loadCells {P : Program} {W : Nat → Nat → Prop} (a : Addr) (n : Nat) : Sem.Wr P W (loadCells a n) := by
  unfold loadCells
  repeat' (first | with_reducible assumption | with_reducible exact Sem.Wr.pure _ | with_reducible exact wr_loadCellsFrom _ _ _ _ | (with_reducible apply Sem.Wr.bind) | (with_reducible apply Sem.Wr.map) | (with_reducible apply Sem.Wr.ite) | (with_reducible intro _) | split | exact trivial | (dsimp only))
theorem wr_loadVar {P : Program} {W : Nat → Nat → Prop} (t : TypeId) (a : Addr) : Sem.Wr P W (loadVar t a) := by
  unfold loadVar
  repeat' (first | with_reducible assumption | with_reducible exact Sem.Wr.pure _ | with_reducible exact wr_load _ _ | with_reducible exact wr_sizeOf _ | with_reducible exact wr_isAgg _ | with_reducible exact wr_loadCells _ _ | (with_reducible apply Sem.Wr.bind) | (with_reducible apply Sem.Wr.map) | (with_reducible apply Sem.Wr.ite) | (with_reducible intro _) | split | exact trivial | (dsimp only))
theorem add_off (a : Addr) (n : Nat) : (a.add n).off = a.off + n := by unfold Addr.add; split <;> simp_all
theorem wr_storeCells {P : Program} {W : Nat → Nat → Prop} {a : Addr} : ∀ (vs : List Value) (i : Nat), (∀ j, W a.block (a.off + i + j)) → Sem.Wr P W (storeCells a vs i)
  | [], _, _ => trivial
  | v :: vs, i, ha => Sem.Wr.bind (show Sem.Wr P W (store (a.add i) v) from ⟨by rw [addBlock, add_off]; exact ha 0, trivial⟩) fun _ => wr_storeCells vs (i + 1) fun j => by rw [show a.off + (i + 1) + j = a.off + i + (1 + j) by omega]; exact ha _
theorem wr_storeVar {P : Program} {W : Nat → Nat → Prop} {a : Addr} (ha : ∀ j, W a.block (a.off + j)) (t : TypeId) (v : Value) : Sem.Wr P W (storeVar t a v) := by
  unfold storeVar
  have h := wr_storeCells (P := P) v.cells.toList 0 (by simpa using ha)
  repeat' (first | exact trivial | assumption | exact wr_sizeOf _ | (apply Sem.Wr.bind) | (intro _) | split)
theorem wr_underlying_bind {P : Program} {W : Nat → Nat → Prop} {α : Type} {t : TypeId} {f : TypeDesc → Sem α} (h : ∀ d, P.underlying t = some d → Sem.Wr P W (f d)) : Sem.Wr P W (underlying t >>= f) := by
  show Sem.Wr P W ((match P.underlying t with | some d => Pure.pure d | none => stuck "no such type" : Sem TypeDesc) >>= f)
  cases hu : P.underlying t with
  | none => exact trivial
  | some d => exact h d hu
theorem wr_sizeOf_bind {P : Program} {W : Nat → Nat → Prop} {α : Type} {t : TypeId} {f : Nat → Sem α} (h : ∀ n, (P.info? t).map (·.size) = some n → Sem.Wr P W (f n)) : Sem.Wr P W (sizeOf t >>= f) := by
  show Sem.Wr P W (((match P.info? t with | some i => Pure.pure i | none => stuck "no such type" : Sem TypeInfo) >>= fun i => Pure.pure i.size) >>= f)
  cases hu : P.info? t with
  | none => exact trivial
  | some i => exact h i.size (by rw [hu]; rfl)
theorem wr_byteOf {P : Program} {W : Nat → Nat → Prop} (a : Addr) : Sem.Wr P W (byteOf a) := by
  unfold byteOf
  repeat' (first | with_reducible assumption | with_reducible exact Sem.Wr.pure _ | with_reducible exact wr_program | with_reducible exact wr_shape _ | with_reducible exact wr_noView _ | (with_reducible apply Sem.Wr.bind) | (with_reducible apply Sem.Wr.map) | (with_reducible apply Sem.Wr.ite) | (with_reducible intro _) | split | exact trivial | (dsimp only))
theorem wr_partAt {P : Program} {W : Nat → Nat → Prop} (a : Addr) (n m : Nat) : Sem.Wr P W (partAt a n m) := by
  unfold partAt
  repeat' (first | with_reducible assumption | with_reducible exact Sem.Wr.pure _ | with_reducible exact wr_byteOf _ | (with_reducible apply Sem.Wr.bind) | (with_reducible apply Sem.Wr.map) | (with_reducible apply Sem.Wr.ite) | (with_reducible intro _) | split | exact trivial | (dsimp only))
theorem wr_fieldPlace {P : Program} {W : Nat → Nat → Prop} (a : Addr) (f : Field) : Sem.Wr P W (fieldPlace a f) := by
  unfold fieldPlace
  repeat' (first | with_reducible assumption | with_reducible exact Sem.Wr.pure _ | with_reducible exact wr_sizeOf _ | with_reducible exact wr_partAt _ _ _ | (with_reducible apply Sem.Wr.bind) | (with_reducible apply Sem.Wr.map) | (with_reducible apply Sem.Wr.ite) | (with_reducible intro _) | split | exact trivial | (dsimp only))
theorem wr_variablesAt {P : Program} {W : Nat → Nat → Prop} (a : Addr) (u : TypeId) (n : Nat) : Sem.Wr P W (variablesAt a u n) := by
  unfold variablesAt
  repeat' (first | with_reducible assumption | with_reducible exact Sem.Wr.pure _ | with_reducible exact wr_program | with_reducible exact wr_shape _ | (with_reducible apply Sem.Wr.bind) | (with_reducible apply Sem.Wr.map) | (with_reducible apply Sem.Wr.ite) | (with_reducible intro _) | split | exact trivial | (dsimp only))
theorem wr_loadBytes {P : Program} {W : Nat → Nat → Prop} (a : Addr) (acc : ByteArray) (n : Nat) : Sem.Wr P W (loadBytes a acc n) := by
  induction n generalizing a acc with
  | zero => exact trivial
  | succ n ih =>
    unfold loadBytes
    repeat' (first | exact trivial | exact wr_load _ _ | exact ih _ _ | (apply Sem.Wr.bind) | (intro _) | split)
theorem wr_forInL {P : Program} {W : Nat → Nat → Prop} {α β : Type} {f : α → β → Sem (ForInStep β)} (h : ∀ a b, Sem.Wr P W (f a b)) : ∀ (l : List α) (b : β), Sem.Wr P W (forIn l b f)
  | [], b => by rw [List.forIn_nil]; exact trivial
  | a :: l, b => by
    rw [List.forIn_cons]
    refine Sem.Wr.bind (h a b) fun r => ?_
    cases r with
    | done b => exact trivial
    | yield b => exact wr_forInL h l b
theorem wr_forInA {P : Program} {W : Nat → Nat → Prop} {α β : Type} {f : α → β → Sem (ForInStep β)} (h : ∀ a b, Sem.Wr P W (f a b)) (xs : Array α) (b : β) : Sem.Wr P W (forIn xs b f) := by
  rw [← Array.forIn_toList]; exact wr_forInL h _ _
theorem wr_forInR {P : Program} {W : Nat → Nat → Prop} {β : Type} {f : Nat → β → Sem (ForInStep β)} (h : ∀ a b, Sem.Wr P W (f a b)) (r : Std.Legacy.Range) (b : β) : Sem.Wr P W (forIn r b f) := by
  rw [Std.Legacy.Range.forIn_eq_forIn_range']; exact wr_forInL h _ _
set_option maxHeartbeats 4000000 in
theorem wr_equalIn {P : Program} {W : Nat → Nat → Prop} (d : Nat) : ∀ (t : TypeId) (x y : Value), Sem.Wr P W (Op.equalIn d t x y) := by
  induction d with
  | zero => intro t x y; unfold Op.equalIn; exact trivial
  | succ d ih =>
    intro t x y
    unfold Op.equalIn
    repeat' (first | with_reducible assumption | with_reducible exact Sem.Wr.pure _ | with_reducible exact wr_choose _ | with_reducible exact wr_program | with_reducible exact wr_typeInfo _ | with_reducible exact wr_underlying _ | with_reducible exact wr_sizeOf _ | with_reducible exact wr_typeStr _ | with_reducible exact wr_part _ _ _ | with_reducible exact wr_runtimePanic _ | with_reducible exact wr_behindNumber _ | with_reducible exact wr_sameAddr _ _ | with_reducible exact wr_samePointer _ _ | with_reducible exact wr_byteOf _ | with_reducible exact ih _ _ _ | (with_reducible apply wr_forInA; intro _ _) | (with_reducible apply wr_forInR; intro _ _) | (with_reducible apply Sem.Wr.bind) | (with_reducible apply Sem.Wr.map) | (with_reducible apply Sem.Wr.ite) | (with_reducible intro _) | split | exact trivial | (dsimp only))
set_option maxHeartbeats 4000000 in
theorem wr_eqGuardIn {P : Program} {W : Nat → Nat → Prop} (d : Nat) : ∀ (t : TypeId) (x y : Value), Sem.Wr P W (Op.eqGuardIn d t x y) := by
  induction d with
  | zero => intro t x y; unfold Op.eqGuardIn; exact trivial
  | succ d ih =>
    intro t x y
    unfold Op.eqGuardIn
    repeat' (first | with_reducible assumption | with_reducible exact Sem.Wr.pure _ | with_reducible exact wr_underlying _ | with_reducible exact wr_sizeOf _ | with_reducible exact wr_part _ _ _ | with_reducible exact ih _ _ _ | (with_reducible apply wr_forInA; intro _ _) | (with_reducible apply wr_forInR; intro _ _) | (with_reducible apply Sem.Wr.bind) | (with_reducible apply Sem.Wr.map) | (with_reducible apply Sem.Wr.ite) | (with_reducible intro _) | split | exact trivial | (dsimp only))
theorem wr_equal {P : Program} {W : Nat → Nat → Prop} (t : TypeId) (x y : Value) : Sem.Wr P W (Op.equal t x y) := by
  unfold Op.equal
  repeat' (first | with_reducible assumption | with_reducible exact Sem.Wr.pure _ | with_reducible exact wr_equalIn _ _ _ _ | (with_reducible apply Sem.Wr.bind) | (with_reducible apply Sem.Wr.map) | (with_reducible apply Sem.Wr.ite) | (with_reducible intro _) | split | exact trivial | (dsimp only))
theorem wr_eqGuard {P : Program} {W : Nat → Nat → Prop} (op : BinOp) (t : TypeId) (x y : Operand) (a b : Value) : Sem.Wr P W (eqGuard op t x y a b) := by
  unfold eqGuard
  repeat' (first | with_reducible assumption | with_reducible exact Sem.Wr.pure _ | with_reducible exact wr_program | with_reducible exact wr_eqGuardIn _ _ _ _ | (with_reducible apply Sem.Wr.bind) | (with_reducible apply Sem.Wr.map) | (with_reducible apply Sem.Wr.ite) | (with_reducible intro _) | split | exact trivial | (dsimp only))
theorem wr_intArith {P : Program} {W : Nat → Nat → Prop} (op : BinOp) (k : IntKind) (x y : Int) : Sem.Wr P W (Op.intArith op k x y) := by
  unfold Op.intArith
  repeat' (first | with_reducible assumption | with_reducible exact Sem.Wr.pure _ | (with_reducible apply Sem.Wr.bind) | (with_reducible apply Sem.Wr.map) | (with_reducible apply Sem.Wr.ite) | (with_reducible intro _) | split | exact trivial | (dsimp only))
theorem wr_intDiv {P : Program} {W : Nat → Nat → Prop} (op : BinOp) (k : IntKind) (x y : Int) : Sem.Wr P W (Op.intDiv op k x y) := by
  unfold Op.intDiv
  repeat' (first | with_reducible assumption | with_reducible exact Sem.Wr.pure _ | with_reducible exact wr_runtimePanic _ | (with_reducible apply Sem.Wr.bind) | (with_reducible apply Sem.Wr.map) | (with_reducible apply Sem.Wr.ite) | (with_reducible intro _) | split | exact trivial | (dsimp only))
theorem wr_intBits {P : Program} {W : Nat → Nat → Prop} (op : BinOp) (k : IntKind) (x y : Int) : Sem.Wr P W (Op.intBits op k x y) := by
  unfold Op.intBits
  repeat' (first | with_reducible assumption | with_reducible exact Sem.Wr.pure _ | (with_reducible apply Sem.Wr.bind) | (with_reducible apply Sem.Wr.map) | (with_reducible apply Sem.Wr.ite) | (with_reducible intro _) | split | exact trivial | (dsimp only))
theorem wr_intCmp {P : Program} {W : Nat → Nat → Prop} (op : BinOp) (x y : Int) : Sem.Wr P W (Op.intCmp op x y) := by
  unfold Op.intCmp
  repeat' (first | with_reducible assumption | with_reducible exact Sem.Wr.pure _ | (with_reducible apply Sem.Wr.bind) | (with_reducible apply Sem.Wr.map) | (with_reducible apply Sem.Wr.ite) | (with_reducible intro _) | split | exact trivial | (dsimp only))
theorem wr_shift {P : Program} {W : Nat → Nat → Prop} (op : BinOp) (k : IntKind) (x : Int) (k2 : IntKind) (y : Int) : Sem.Wr P W (Op.shift op k x k2 y) := by
  unfold Op.shift
  repeat' (first | with_reducible assumption | with_reducible exact Sem.Wr.pure _ | with_reducible exact wr_runtimePanic _ | (with_reducible apply Sem.Wr.bind) | (with_reducible apply Sem.Wr.map) | (with_reducible apply Sem.Wr.ite) | (with_reducible intro _) | split | exact trivial | (dsimp only))
theorem wr_stringOp {P : Program} {W : Nat → Nat → Prop} (op : BinOp) (x y : ByteArray) : Sem.Wr P W (Op.stringOp op x y) := by
  unfold Op.stringOp
  repeat' (first | with_reducible assumption | with_reducible exact Sem.Wr.pure _ | (with_reducible apply Sem.Wr.bind) | (with_reducible apply Sem.Wr.map) | (with_reducible apply Sem.Wr.ite) | (with_reducible intro _) | split | exact trivial | (dsimp only))
theorem wr_floatArith {P : Program} {W : Nat → Nat → Prop} (op : BinOp) (k : FloatKind) (x y : Nat) : Sem.Wr P W (Op.floatArith op k x y) := by
  unfold Op.floatArith
  repeat' (first | with_reducible assumption | with_reducible exact Sem.Wr.pure _ | with_reducible exact wr_choose _ | (with_reducible apply Sem.Wr.bind) | (with_reducible apply Sem.Wr.map) | (with_reducible apply Sem.Wr.ite) | (with_reducible intro _) | split | exact trivial | (dsimp only))
theorem wr_floatCmp {P : Program} {W : Nat → Nat → Prop} (op : BinOp) (k : FloatKind) (x y : Nat) : Sem.Wr P W (Op.floatCmp op k x y) := by
  unfold Op.floatCmp
  repeat' (first | with_reducible assumption | with_reducible exact Sem.Wr.pure _ | (with_reducible apply Sem.Wr.bind) | (with_reducible apply Sem.Wr.map) | (with_reducible apply Sem.Wr.ite) | (with_reducible intro _) | split | exact trivial | (dsimp only))
theorem wr_unary {P : Program} {W : Nat → Nat → Prop} (op : UnOp) (x : Value) : Sem.Wr P W (Op.unary op x) := by
  unfold Op.unary
  repeat' (first | with_reducible assumption | with_reducible exact Sem.Wr.pure _ | with_reducible exact wr_intArith _ _ _ _ | with_reducible exact wr_intBits _ _ _ _ | (with_reducible apply Sem.Wr.bind) | (with_reducible apply Sem.Wr.map) | (with_reducible apply Sem.Wr.ite) | (with_reducible intro _) | split | exact trivial | (dsimp only))
theorem wr_twoPlaces {P : Program} {W : Nat → Nat → Prop} (a b : Addr) : Sem.Wr P W (Op.twoPlaces a b) := by
  unfold Op.twoPlaces
  repeat' (first | with_reducible assumption | with_reducible exact Sem.Wr.pure _ | with_reducible exact wr_program | with_reducible exact wr_byteOf _ | (with_reducible apply Sem.Wr.bind) | (with_reducible apply Sem.Wr.map) | (with_reducible apply Sem.Wr.ite) | (with_reducible intro _) | split | exact trivial | (dsimp only))
theorem wr_addrSub {P : Program} {W : Nat → Nat → Prop} (k : IntKind) (a b : Addr) : Sem.Wr P W (Op.addrSub k a b) := by
  unfold Op.addrSub
  repeat' (first | with_reducible assumption | with_reducible exact Sem.Wr.pure _ | with_reducible exact wr_twoPlaces _ _ | (with_reducible apply Sem.Wr.bind) | (with_reducible apply Sem.Wr.map) | (with_reducible apply Sem.Wr.ite) | (with_reducible intro _) | split | exact trivial | (dsimp only))
theorem wr_addrCmp {P : Program} {W : Nat → Nat → Prop} (op : BinOp) (a b : Addr) : Sem.Wr P W (Op.addrCmp op a b) := by
  unfold Op.addrCmp
  repeat' (first | with_reducible assumption | with_reducible exact Sem.Wr.pure _ | with_reducible exact wr_twoPlaces _ _ | (with_reducible apply Sem.Wr.bind) | (with_reducible apply Sem.Wr.map) | (with_reducible apply Sem.Wr.ite) | (with_reducible intro _) | split | exact trivial | (dsimp only))
theorem wr_addrMod {P : Program} {W : Nat → Nat → Prop} (k : IntKind) (a : Addr) (n : Int) : Sem.Wr P W (Op.addrMod k a n) := by
  unfold Op.addrMod
  repeat' (first | with_reducible assumption | with_reducible exact Sem.Wr.pure _ | with_reducible exact wr_shape _ | with_reducible exact wr_typeInfo _ | with_reducible exact wr_byteOf _ | (with_reducible apply Sem.Wr.bind) | (with_reducible apply Sem.Wr.map) | (with_reducible apply Sem.Wr.ite) | (with_reducible intro _) | split | exact trivial | (dsimp only))
theorem wr_unsafeAdd {P : Program} {W : Nat → Nat → Prop} (ts : Array TypeId) (t : TypeId) (v u : Value) : Sem.Wr P W (Builtin.unsafeAdd_ ts t #[v, u]) := by
  unfold Builtin.unsafeAdd_
  cases v
  case pointer p =>
    change Sem.Wr P W (Bind.bind (asInt u) _)
    refine Sem.Wr.bind (wr_asInt _) fun n => ?_
    dsimp only
    repeat' (first | with_reducible assumption | with_reducible exact Sem.Wr.pure _ | with_reducible exact wr_program | with_reducible exact wr_shape _ | with_reducible exact wr_asInt _ | with_reducible exact wr_viewAt _ | (with_reducible apply Sem.Wr.bind) | (with_reducible apply Sem.Wr.map) | (with_reducible apply Sem.Wr.ite) | (with_reducible intro _) | split | exact trivial | (dsimp only))
  all_goals exact trivial
theorem wr_movedNumber {P : Program} {W : Nat → Nat → Prop} (t : TypeId) (x y : Value) : Sem.Wr P W (movedNumber t x y) := by
  unfold movedNumber
  repeat' (first | with_reducible assumption | with_reducible exact Sem.Wr.pure _ | with_reducible exact wr_underlying _ | with_reducible exact wr_asNumber _ _ | with_reducible exact wr_behindNumber _ | with_reducible exact wr_unsafeAdd _ _ _ _ | (with_reducible apply Sem.Wr.bind) | (with_reducible apply Sem.Wr.map) | (with_reducible apply Sem.Wr.ite) | (with_reducible intro _) | split | exact trivial | (dsimp only))
theorem wr_movedPointer {P : Program} {W : Nat → Nat → Prop} (t : TypeId) (x y : Value) : Sem.Wr P W (movedPointer t x y) := by
  unfold movedPointer
  repeat' (first | with_reducible assumption | with_reducible exact Sem.Wr.pure _ | with_reducible exact wr_numberAt _ | with_reducible exact wr_unsafeAdd _ _ _ _ | (with_reducible apply Sem.Wr.bind) | (with_reducible apply Sem.Wr.map) | (with_reducible apply Sem.Wr.ite) | (with_reducible intro _) | split | exact trivial | (dsimp only))
theorem wr_cxarith {P : Program} {W : Nat → Nat → Prop} (op : BinOp) (k : FloatKind) (x y : Nat) : Sem.Wr P W (Op.Complex.arith op k x y) := by
  unfold Op.Complex.arith
  repeat' (first | with_reducible assumption | with_reducible exact Sem.Wr.pure _ | with_reducible exact wr_floatArith _ _ _ _ | (with_reducible apply Sem.Wr.bind) | (with_reducible apply Sem.Wr.map) | (with_reducible apply Sem.Wr.ite) | (with_reducible intro _) | split | exact trivial | (dsimp only))
theorem wr_cxcmp {P : Program} {W : Nat → Nat → Prop} (op : BinOp) (k : FloatKind) (x y : Nat) : Sem.Wr P W (Op.Complex.cmp op k x y) := by
  unfold Op.Complex.cmp
  repeat' (first | with_reducible assumption | with_reducible exact Sem.Wr.pure _ | with_reducible exact wr_asBool _ | with_reducible exact wr_floatCmp _ _ _ _ | (with_reducible apply Sem.Wr.bind) | (with_reducible apply Sem.Wr.map) | (with_reducible apply Sem.Wr.ite) | (with_reducible intro _) | split | exact trivial | (dsimp only))
theorem wr_floatToFloat {P : Program} {W : Nat → Nat → Prop} (s : FloatKind) (b : Nat) (k : FloatKind) : Sem.Wr P W (Conv.floatToFloat s b k) := by
  unfold Conv.floatToFloat
  repeat' (first | with_reducible assumption | with_reducible exact Sem.Wr.pure _ | with_reducible exact wr_choose _ | (with_reducible apply Sem.Wr.bind) | (with_reducible apply Sem.Wr.map) | (with_reducible apply Sem.Wr.ite) | (with_reducible intro _) | split | exact trivial | (dsimp only))
theorem wr_cxconv {P : Program} {W : Nat → Nat → Prop} (s : FloatKind) (x : Nat) (k : FloatKind) : Sem.Wr P W (Op.Complex.conv s x k) := by
  unfold Op.Complex.conv
  repeat' (first | with_reducible assumption | with_reducible exact Sem.Wr.pure _ | with_reducible exact wr_floatToFloat _ _ _ | (with_reducible apply Sem.Wr.bind) | (with_reducible apply Sem.Wr.map) | (with_reducible apply Sem.Wr.ite) | (with_reducible intro _) | split | exact trivial | (dsimp only))
theorem wr_cxadd {P : Program} {W : Nat → Nat → Prop} (x y : Nat) : Sem.Wr P W (Op.Complex.add x y) := by
  unfold Op.Complex.add
  repeat' (first | with_reducible assumption | with_reducible exact Sem.Wr.pure _ | with_reducible exact wr_cxarith _ _ _ _ | (with_reducible apply Sem.Wr.bind) | (with_reducible apply Sem.Wr.map) | (with_reducible apply Sem.Wr.ite) | (with_reducible intro _) | split | exact trivial | (dsimp only))
theorem wr_cxsub {P : Program} {W : Nat → Nat → Prop} (x y : Nat) : Sem.Wr P W (Op.Complex.sub x y) := by
  unfold Op.Complex.sub
  repeat' (first | with_reducible assumption | with_reducible exact Sem.Wr.pure _ | with_reducible exact wr_cxarith _ _ _ _ | (with_reducible apply Sem.Wr.bind) | (with_reducible apply Sem.Wr.map) | (with_reducible apply Sem.Wr.ite) | (with_reducible intro _) | split | exact trivial | (dsimp only))
theorem wr_cxmul {P : Program} {W : Nat → Nat → Prop} (x y : Nat) : Sem.Wr P W (Op.Complex.mul x y) := by
  unfold Op.Complex.mul
  repeat' (first | with_reducible assumption | with_reducible exact Sem.Wr.pure _ | with_reducible exact wr_cxarith _ _ _ _ | (with_reducible apply Sem.Wr.bind) | (with_reducible apply Sem.Wr.map) | (with_reducible apply Sem.Wr.ite) | (with_reducible intro _) | split | exact trivial | (dsimp only))
theorem wr_cxquo {P : Program} {W : Nat → Nat → Prop} (x y : Nat) : Sem.Wr P W (Op.Complex.quo x y) := by
  unfold Op.Complex.quo
  repeat' (first | with_reducible assumption | with_reducible exact Sem.Wr.pure _ | with_reducible exact wr_cxarith _ _ _ _ | (with_reducible apply Sem.Wr.bind) | (with_reducible apply Sem.Wr.map) | (with_reducible apply Sem.Wr.ite) | (with_reducible intro _) | split | exact trivial | (dsimp only))
theorem wr_cxproduct {P : Program} {W : Nat → Nat → Prop} (x y z u : Nat) : Sem.Wr P W (Op.Complex.product x y z u) := by
  unfold Op.Complex.product
  repeat' (first | with_reducible assumption | with_reducible exact Sem.Wr.pure _ | with_reducible exact wr_cxadd _ _ | with_reducible exact wr_cxsub _ _ | with_reducible exact wr_cxmul _ _ | (with_reducible apply Sem.Wr.bind) | (with_reducible apply Sem.Wr.map) | (with_reducible apply Sem.Wr.ite) | (with_reducible intro _) | split | exact trivial | (dsimp only))
theorem wr_cxcorrected {P : Program} {W : Nat → Nat → Prop} (s x y z u : Nat) : Sem.Wr P W (Op.Complex.corrected s x y z u) := by
  unfold Op.Complex.corrected
  repeat' (first | with_reducible assumption | with_reducible exact Sem.Wr.pure _ | with_reducible exact wr_cxadd _ _ | with_reducible exact wr_cxsub _ _ | with_reducible exact wr_cxmul _ _ | (with_reducible apply Sem.Wr.bind) | (with_reducible apply Sem.Wr.map) | (with_reducible apply Sem.Wr.ite) | (with_reducible intro _) | split | exact trivial | (dsimp only))
theorem wr_cxquotient {P : Program} {W : Nat → Nat → Prop} (x y z u : Nat) : Sem.Wr P W (Op.Complex.quotient x y z u) := by
  unfold Op.Complex.quotient
  repeat' (first | with_reducible assumption | with_reducible exact Sem.Wr.pure _ | with_reducible exact wr_cxcmp _ _ _ _ | with_reducible exact wr_cxadd _ _ | with_reducible exact wr_cxsub _ _ | with_reducible exact wr_cxmul _ _ | with_reducible exact wr_cxquo _ _ | with_reducible exact wr_cxcorrected _ _ _ _ _ | (with_reducible apply Sem.Wr.bind) | (with_reducible apply Sem.Wr.map) | (with_reducible apply Sem.Wr.ite) | (with_reducible intro _) | split | exact trivial | (dsimp only))
theorem wr_cxcomplexOp {P : Program} {W : Nat → Nat → Prop} (op : BinOp) (k : FloatKind) (x y z u : Nat) : Sem.Wr P W (Op.complexOp op k x y z u) := by
  unfold Op.complexOp
  repeat' (first | with_reducible assumption | with_reducible exact Sem.Wr.pure _ | with_reducible exact wr_cxarith _ _ _ _ | with_reducible exact wr_cxcmp _ _ _ _ | with_reducible exact wr_cxconv _ _ _ | with_reducible exact wr_cxproduct _ _ _ _ | with_reducible exact wr_cxquotient _ _ _ _ | (with_reducible apply Sem.Wr.bind) | (with_reducible apply Sem.Wr.map) | (with_reducible apply Sem.Wr.ite) | (with_reducible intro _) | split | exact trivial | (dsimp only))
theorem wr_binOp {P : Program} {W : Nat → Nat → Prop} (op : BinOp) (t : TypeId) (x y : Value) : Sem.Wr P W (binOp op t x y) := by
  unfold binOp
  repeat' (first | with_reducible assumption | with_reducible exact Sem.Wr.pure _ | with_reducible exact wr_underlying _ | with_reducible exact wr_behindNumber _ | with_reducible exact wr_equal _ _ _ | with_reducible exact wr_intArith _ _ _ _ | with_reducible exact wr_intDiv _ _ _ _ | with_reducible exact wr_intBits _ _ _ _ | with_reducible exact wr_intCmp _ _ _ | with_reducible exact wr_shift _ _ _ _ _ | with_reducible exact wr_stringOp _ _ _ | with_reducible exact wr_floatArith _ _ _ _ | with_reducible exact wr_floatCmp _ _ _ _ | with_reducible exact wr_addrSub _ _ _ | with_reducible exact wr_addrCmp _ _ _ | with_reducible exact wr_addrMod _ _ _ | with_reducible exact wr_movedNumber _ _ _ | with_reducible exact wr_movedPointer _ _ _ | with_reducible exact wr_cxcomplexOp _ _ _ _ _ _ | (with_reducible apply Sem.Wr.bind) | (with_reducible apply Sem.Wr.map) | (with_reducible apply Sem.Wr.ite) | (with_reducible intro _) | split | exact trivial | (dsimp only))
theorem wr_floatToInt {P : Program} {W : Nat → Nat → Prop} (s : FloatKind) (b : Nat) (k : IntKind) : Sem.Wr P W (Conv.floatToInt s b k) := by
  unfold Conv.floatToInt
  repeat' (first | with_reducible assumption | with_reducible exact Sem.Wr.pure _ | with_reducible exact wr_choose _ | (with_reducible apply Sem.Wr.bind) | (with_reducible apply Sem.Wr.map) | (with_reducible apply Sem.Wr.ite) | (with_reducible intro _) | split | exact trivial | (dsimp only))
theorem wr_intToFloat {P : Program} {W : Nat → Nat → Prop} (k : FloatKind) (n : Int) : Sem.Wr P W (Conv.intToFloat k n) := by
  unfold Conv.intToFloat
  repeat' (first | with_reducible assumption | with_reducible exact Sem.Wr.pure _ | (with_reducible apply Sem.Wr.bind) | (with_reducible apply Sem.Wr.map) | (with_reducible apply Sem.Wr.ite) | (with_reducible intro _) | split | exact trivial | (dsimp only))
theorem wr_complexToComplex {P : Program} {W : Nat → Nat → Prop} (s : FloatKind) (a b : Nat) (k : FloatKind) : Sem.Wr P W (Conv.complexToComplex s a b k) := by
  unfold Conv.complexToComplex
  repeat' (first | with_reducible assumption | with_reducible exact Sem.Wr.pure _ | with_reducible exact wr_floatToFloat _ _ _ | (with_reducible apply Sem.Wr.bind) | (with_reducible apply Sem.Wr.map) | (with_reducible apply Sem.Wr.ite) | (with_reducible intro _) | split | exact trivial | (dsimp only))
theorem wr_intToInt {P : Program} {W : Nat → Nat → Prop} (k : IntKind) (n : Int) : Sem.Wr P W (Conv.intToInt k n) := by
  unfold Conv.intToInt
  repeat' (first | with_reducible assumption | with_reducible exact Sem.Wr.pure _ | (with_reducible apply Sem.Wr.bind) | (with_reducible apply Sem.Wr.map) | (with_reducible apply Sem.Wr.ite) | (with_reducible intro _) | split | exact trivial | (dsimp only))
theorem wr_intToString {P : Program} {W : Nat → Nat → Prop} (n : Int) : Sem.Wr P W (Conv.intToString n) := by
  unfold Conv.intToString
  repeat' (first | with_reducible assumption | with_reducible exact Sem.Wr.pure _ | (with_reducible apply Sem.Wr.bind) | (with_reducible apply Sem.Wr.map) | (with_reducible apply Sem.Wr.ite) | (with_reducible intro _) | split | exact trivial | (dsimp only))
theorem wr_stringToBytes {P : Program} {W : Nat → Nat → Prop} (e : TypeId) (s : ByteArray) : Sem.Wr P W (Conv.stringToBytes e s) := by
  unfold Conv.stringToBytes
  repeat' (first | with_reducible assumption | with_reducible exact Sem.Wr.pure _ | with_reducible exact wr_choose _ | with_reducible exact wr_newRow _ _ | with_reducible exact wr_markStringish _ | (with_reducible apply Sem.Wr.bind) | (with_reducible apply Sem.Wr.map) | (with_reducible apply Sem.Wr.ite) | (with_reducible intro _) | split | exact trivial | (dsimp only))
theorem wr_stringToRunes {P : Program} {W : Nat → Nat → Prop} (e : TypeId) (s : ByteArray) : Sem.Wr P W (Conv.stringToRunes e s) := by
  unfold Conv.stringToRunes
  repeat' (first | with_reducible assumption | with_reducible exact Sem.Wr.pure _ | with_reducible exact wr_choose _ | with_reducible exact wr_newRow _ _ | (with_reducible apply Sem.Wr.bind) | (with_reducible apply Sem.Wr.map) | (with_reducible apply Sem.Wr.ite) | (with_reducible intro _) | split | exact trivial | (dsimp only))
theorem wr_bytesToString {P : Program} {W : Nat → Nat → Prop} (x : Value) : Sem.Wr P W (Conv.bytesToString x) := by
  unfold Conv.bytesToString
  repeat' (first | with_reducible assumption | with_reducible exact Sem.Wr.pure _ | with_reducible exact wr_loadCells _ _ | (with_reducible apply wr_forInA; intro _ _) | (with_reducible apply wr_forInR; intro _ _) | (with_reducible apply Sem.Wr.bind) | (with_reducible apply Sem.Wr.map) | (with_reducible apply Sem.Wr.ite) | (with_reducible intro _) | split | exact trivial | (dsimp only))
theorem wr_runesToString {P : Program} {W : Nat → Nat → Prop} (x : Value) : Sem.Wr P W (Conv.runesToString x) := by
  unfold Conv.runesToString
  repeat' (first | with_reducible assumption | with_reducible exact Sem.Wr.pure _ | with_reducible exact wr_loadCells _ _ | (with_reducible apply wr_forInA; intro _ _) | (with_reducible apply wr_forInR; intro _ _) | (with_reducible apply Sem.Wr.bind) | (with_reducible apply Sem.Wr.map) | (with_reducible apply Sem.Wr.ite) | (with_reducible intro _) | split | exact trivial | (dsimp only))
theorem wr_seenAt {P : Program} {W : Nat → Nat → Prop} (a : Addr) : Sem.Wr P W (Conv.seenAt a) := by
  unfold Conv.seenAt
  repeat' (first | with_reducible assumption | with_reducible exact Sem.Wr.pure _ | with_reducible exact wr_program | with_reducible exact wr_shape _ | with_reducible exact wr_viewAt _ | (with_reducible apply Sem.Wr.bind) | (with_reducible apply Sem.Wr.map) | (with_reducible apply Sem.Wr.ite) | (with_reducible intro _) | split | exact trivial | (dsimp only))
theorem wr_unsafePointer {P : Program} {W : Nat → Nat → Prop} (s d : TypeId) (x : Value) : Sem.Wr P W (Conv.unsafePointer s d x) := by
  unfold Conv.unsafePointer
  repeat' (first | with_reducible assumption | with_reducible exact Sem.Wr.pure _ | with_reducible exact wr_program | with_reducible exact wr_shape _ | with_reducible exact wr_newObj _ | with_reducible exact wr_underlying _ | with_reducible exact wr_sizeOf _ | with_reducible exact wr_cellsIn _ | with_reducible exact wr_asNumber _ _ | with_reducible exact wr_variablesAt _ _ _ | with_reducible exact wr_seenAt _ | (with_reducible apply Sem.Wr.bind) | (with_reducible apply Sem.Wr.map) | (with_reducible apply Sem.Wr.ite) | (with_reducible intro _) | split | exact trivial | (dsimp only))
theorem wr_convert {P : Program} {W : Nat → Nat → Prop} (s d : TypeId) (x : Value) : Sem.Wr P W (convert s d x) := by
  unfold convert
  repeat' (first | with_reducible assumption | with_reducible exact Sem.Wr.pure _ | with_reducible exact wr_underlying _ | with_reducible exact wr_markStringish _ | with_reducible exact wr_floatToFloat _ _ _ | with_reducible exact wr_floatToInt _ _ _ | with_reducible exact wr_intToFloat _ _ | with_reducible exact wr_complexToComplex _ _ _ _ | with_reducible exact wr_intToInt _ _ | with_reducible exact wr_intToString _ | with_reducible exact wr_stringToBytes _ _ | with_reducible exact wr_stringToRunes _ _ | with_reducible exact wr_bytesToString _ | with_reducible exact wr_runesToString _ | with_reducible exact wr_unsafePointer _ _ _ | (with_reducible apply Sem.Wr.bind) | (with_reducible apply Sem.Wr.map) | (with_reducible apply Sem.Wr.ite) | (with_reducible intro _) | split | exact trivial | (dsimp only))
theorem wr_mapM {P : Program} {W : Nat → Nat → Prop} {α β : Type} {f : α → Sem β} (h : ∀ a, Sem.Wr P W (f a)) (xs : Array α) : Sem.Wr P W (xs.mapM f) := by
  rw [Array.mapM_eq_mapM_toList]
  refine Sem.Wr.map ?_
  induction xs.toList with
  | nil => exact trivial
  | cons a l ih =>
    rw [List.mapM_cons]
    exact Sem.Wr.bind (h a) fun _ => Sem.Wr.bind ih fun _ => trivial
theorem wr_sureAddr {P : Program} {W : Nat → Nat → Prop} (v : Value) : Sem.Wr P W (Instr.sureAddr v) := by
  unfold Instr.sureAddr
  repeat' (first | with_reducible assumption | with_reducible exact Sem.Wr.pure _ | (with_reducible apply Sem.Wr.bind) | (with_reducible apply Sem.Wr.map) | (with_reducible apply Sem.Wr.ite) | (with_reducible intro _) | split | exact trivial | (dsimp only))
theorem wr_loadAt {P : Program} {W : Nat → Nat → Prop} (t : TypeId) (v : Value) : Sem.Wr P W (Instr.loadAt t v) := by
  unfold Instr.loadAt
  repeat' (first | with_reducible assumption | with_reducible exact Sem.Wr.pure _ | with_reducible exact wr_loadVar _ _ | with_reducible exact wr_sureAddr _ | (with_reducible apply Sem.Wr.bind) | (with_reducible apply Sem.Wr.map) | (with_reducible apply Sem.Wr.ite) | (with_reducible intro _) | split | exact trivial | (dsimp only))
theorem wr_fieldAt {P : Program} {W : Nat → Nat → Prop} (s : TypeId) (v : Value) (n : Nat) : Sem.Wr P W (Instr.fieldAt s v n) := by
  unfold Instr.fieldAt
  repeat' (first | with_reducible assumption | with_reducible exact Sem.Wr.pure _ | with_reducible exact wr_underlying _ | with_reducible exact wr_fieldPlace _ _ | with_reducible exact wr_sureAddr _ | (with_reducible apply Sem.Wr.bind) | (with_reducible apply Sem.Wr.map) | (with_reducible apply Sem.Wr.ite) | (with_reducible intro _) | split | exact trivial | (dsimp only))
theorem wr_indexAt {P : Program} {W : Nat → Nat → Prop} (t : TypeId) (x i : Value) : Sem.Wr P W (Instr.indexAt t x i) := by
  unfold Instr.indexAt
  repeat' (first | with_reducible assumption | with_reducible exact Sem.Wr.pure _ | with_reducible exact wr_underlying _ | with_reducible exact wr_sizeOf _ | with_reducible exact wr_boundsPanic _ _ _ _ | with_reducible exact wr_asIntOf _ | with_reducible exact wr_sureAddr _ | (with_reducible apply Sem.Wr.bind) | (with_reducible apply Sem.Wr.map) | (with_reducible apply Sem.Wr.ite) | (with_reducible intro _) | split | exact trivial | (dsimp only))
theorem wr_sliceBound {P : Program} {W : Nat → Nat → Prop} (x : Value) (y : Nat) (c : BoundsCode) : Sem.Wr P W (Instr.sliceBound x y c) := by
  unfold Instr.sliceBound
  repeat' (first | with_reducible assumption | with_reducible exact Sem.Wr.pure _ | with_reducible exact wr_boundsPanic _ _ _ _ | with_reducible exact wr_asIntOf _ | (with_reducible apply Sem.Wr.bind) | (with_reducible apply Sem.Wr.map) | (with_reducible apply Sem.Wr.ite) | (with_reducible intro _) | split | exact trivial | (dsimp only))
theorem wr_sliceBounds {P : Program} {W : Nat → Nat → Prop} (b : Bool) (l c : Nat) (x y z : Option Value) : Sem.Wr P W (Instr.sliceBounds b l c x y z) := by
  unfold Instr.sliceBounds
  repeat' (first | with_reducible assumption | with_reducible exact Sem.Wr.pure _ | with_reducible exact wr_sliceBound _ _ _ | (with_reducible apply Sem.Wr.bind) | (with_reducible apply Sem.Wr.map) | (with_reducible apply Sem.Wr.ite) | (with_reducible intro _) | split | exact trivial | (dsimp only))
theorem wr_slice {P : Program} {W : Nat → Nat → Prop} (t : TypeId) (x : Value) (l h m : Option Value) : Sem.Wr P W (Instr.slice t x l h m) := by
  unfold Instr.slice
  repeat' (first | with_reducible assumption | with_reducible exact Sem.Wr.pure _ | with_reducible exact wr_underlying _ | with_reducible exact wr_sizeOf _ | with_reducible exact wr_asAddr _ | with_reducible exact wr_sliceBounds _ _ _ _ _ _ | (with_reducible apply Sem.Wr.bind) | (with_reducible apply Sem.Wr.map) | (with_reducible apply Sem.Wr.ite) | (with_reducible intro _) | split | exact trivial | (dsimp only))
theorem wr_sliceAt {P : Program} {W : Nat → Nat → Prop} (t : TypeId) (x : Value) (l h m : Option Value) : Sem.Wr P W (Instr.sliceAt t x l h m) := by
  unfold Instr.sliceAt
  repeat' (first | with_reducible assumption | with_reducible exact Sem.Wr.pure _ | with_reducible exact wr_underlying _ | with_reducible exact wr_sizeOf _ | with_reducible exact wr_sureAddr _ | with_reducible exact wr_sliceBounds _ _ _ _ _ _ | with_reducible exact wr_slice _ _ _ _ _ | (with_reducible apply Sem.Wr.bind) | (with_reducible apply Sem.Wr.map) | (with_reducible apply Sem.Wr.ite) | (with_reducible intro _) | split | exact trivial | (dsimp only))
theorem wr_alloc {P : Program} {W : Nat → Nat → Prop} (e : TypeId) : Sem.Wr P W (Instr.alloc e true (.tuple #[])) := by
  unfold Instr.alloc
  repeat' (first | with_reducible assumption | with_reducible exact Sem.Wr.pure _ | with_reducible exact wr_zeroValue _ | with_reducible exact wr_newVar _ _ | (with_reducible apply Sem.Wr.bind) | (with_reducible apply Sem.Wr.map) | (with_reducible apply Sem.Wr.ite) | (with_reducible intro _) | split | exact trivial | (dsimp only))
theorem wr_box {P : Program} {W : Nat → Nat → Prop} (e : TypeId) (v : Value) : Sem.Wr P W (Instr.box e v) := by
  unfold Instr.box
  repeat' (first | with_reducible assumption | with_reducible exact Sem.Wr.pure _ | with_reducible exact wr_newVar _ _ | (with_reducible apply Sem.Wr.bind) | (with_reducible apply Sem.Wr.map) | (with_reducible apply Sem.Wr.ite) | (with_reducible intro _) | split | exact trivial | (dsimp only))
theorem wr_build {P : Program} {W : Nat → Nat → Prop} (e : TypeId) (ps : Array (Nat × Value)) : Sem.Wr P W (Instr.build e ps) := by
  unfold Instr.build
  repeat' (first | with_reducible assumption | with_reducible exact Sem.Wr.pure _ | with_reducible exact wr_underlying _ | with_reducible exact wr_zeroValue _ | with_reducible exact wr_sizeOf _ | (with_reducible apply wr_mapM; intro _) | (with_reducible apply Sem.Wr.bind) | (with_reducible apply Sem.Wr.map) | (with_reducible apply Sem.Wr.ite) | (with_reducible intro _) | split | exact trivial | (dsimp only))
theorem wr_buildSlice {P : Program} {W : Nat → Nat → Prop} (e : TypeId) (n : Nat) (ps : Array (Nat × Value)) : Sem.Wr P W (Instr.buildSlice e n ps) := by
  unfold Instr.buildSlice
  repeat' (first | with_reducible assumption | with_reducible exact Sem.Wr.pure _ | with_reducible exact wr_underlying _ | with_reducible exact wr_zeroValue _ | with_reducible exact wr_sizeOf _ | with_reducible exact wr_newRow _ _ | (with_reducible apply Sem.Wr.bind) | (with_reducible apply Sem.Wr.map) | (with_reducible apply Sem.Wr.ite) | (with_reducible intro _) | split | exact trivial | (dsimp only))
theorem wr_entry {P : Program} {W : Nat → Nat → Prop} (v : Value) : Sem.Wr P W (Instr.entry v) := by
  unfold Instr.entry
  repeat' (first | with_reducible assumption | with_reducible exact Sem.Wr.pure _ | with_reducible exact wr_getObj _ | (with_reducible apply Sem.Wr.bind) | (with_reducible apply Sem.Wr.map) | (with_reducible apply Sem.Wr.ite) | (with_reducible intro _) | split | exact trivial | (dsimp only))
theorem wr_extract {P : Program} {W : Nat → Nat → Prop} (v : Value) (n : Nat) : Sem.Wr P W (Instr.extract v n) := by
  unfold Instr.extract
  repeat' (first | with_reducible assumption | with_reducible exact Sem.Wr.pure _ | (with_reducible apply Sem.Wr.bind) | (with_reducible apply Sem.Wr.map) | (with_reducible apply Sem.Wr.ite) | (with_reducible intro _) | split | exact trivial | (dsimp only))
theorem wr_field {P : Program} {W : Nat → Nat → Prop} (t : TypeId) (v : Value) (n : Nat) : Sem.Wr P W (Instr.field t v n) := by
  unfold Instr.field
  repeat' (first | with_reducible assumption | with_reducible exact Sem.Wr.pure _ | with_reducible exact wr_underlying _ | with_reducible exact wr_part _ _ _ | with_reducible exact wr_asAgg _ | (with_reducible apply Sem.Wr.bind) | (with_reducible apply Sem.Wr.map) | (with_reducible apply Sem.Wr.ite) | (with_reducible intro _) | split | exact trivial | (dsimp only))
theorem wr_index {P : Program} {W : Nat → Nat → Prop} (t : TypeId) (x i : Value) : Sem.Wr P W (Instr.index t x i) := by
  unfold Instr.index
  repeat' (first | with_reducible assumption | with_reducible exact Sem.Wr.pure _ | with_reducible exact wr_underlying _ | with_reducible exact wr_sizeOf _ | with_reducible exact wr_part _ _ _ | with_reducible exact wr_boundsPanic _ _ _ _ | with_reducible exact wr_asIntOf _ | (with_reducible apply Sem.Wr.bind) | (with_reducible apply Sem.Wr.map) | (with_reducible apply Sem.Wr.ite) | (with_reducible intro _) | split | exact trivial | (dsimp only))
theorem wr_checkKey {P : Program} {W : Nat → Nat → Prop} (b : Bool) (d : Nat) : ∀ (t : TypeId) (v : Value), Sem.Wr P W (Instr.checkKey b d t v) := by
  induction d with
  | zero => intro t v; unfold Instr.checkKey; exact trivial
  | succ d ih =>
    intro t v
    unfold Instr.checkKey
    repeat' (first | with_reducible assumption | with_reducible exact Sem.Wr.pure _ | with_reducible exact wr_typeInfo _ | with_reducible exact wr_underlying _ | with_reducible exact wr_sizeOf _ | with_reducible exact wr_typeStr _ | with_reducible exact wr_part _ _ _ | with_reducible exact wr_runtimePanic _ | with_reducible exact ih _ _ | (with_reducible apply wr_forInA; intro _ _) | (with_reducible apply wr_forInR; intro _ _) | (with_reducible apply Sem.Wr.bind) | (with_reducible apply Sem.Wr.map) | (with_reducible apply Sem.Wr.ite) | (with_reducible intro _) | split | exact trivial | (dsimp only))
theorem wr_findAsking {P : Program} {W : Nat → Nat → Prop} (t : TypeId) (k : Value) : ∀ (es : List MapEntry) (i : Nat), Sem.Wr P W (Instr.findAsking t k es i)
  | [], _ => trivial
  | e :: es, i => by
    unfold Instr.findAsking
    refine Sem.Wr.bind (wr_equal _ _ _) fun b => ?_
    split
    · exact trivial
    · exact wr_findAsking t k es (i + 1)
theorem wr_findKey {P : Program} {W : Nat → Nat → Prop} (t : TypeId) (k : Value) (es : List MapEntry) : Sem.Wr P W (Instr.findKey t k es) := by
  unfold Instr.findKey
  repeat' (first | with_reducible assumption | with_reducible exact Sem.Wr.pure _ | with_reducible exact wr_underlying _ | with_reducible exact wr_findAsking _ _ _ _ | (with_reducible apply Sem.Wr.bind) | (with_reducible apply Sem.Wr.map) | (with_reducible apply Sem.Wr.ite) | (with_reducible intro _) | split | exact trivial | (dsimp only))
theorem wr_lookup {P : Program} {W : Nat → Nat → Prop} (t : TypeId) (x i : Value) (b : Bool) : Sem.Wr P W (Instr.lookup t x i b) := by
  unfold Instr.lookup
  repeat' (first | with_reducible assumption | with_reducible exact Sem.Wr.pure _ | with_reducible exact wr_getObj _ | with_reducible exact wr_underlying _ | with_reducible exact wr_zeroValue _ | with_reducible exact wr_checkKey _ _ _ _ | with_reducible exact wr_findKey _ _ _ | (with_reducible apply Sem.Wr.bind) | (with_reducible apply Sem.Wr.map) | (with_reducible apply Sem.Wr.ite) | (with_reducible intro _) | split | exact trivial | (dsimp only))
theorem wr_makeInterface {P : Program} {W : Nat → Nat → Prop} (t : TypeId) (x : Value) : Sem.Wr P W (Instr.makeInterface t x) := by
  unfold Instr.makeInterface
  repeat' (first | with_reducible assumption | with_reducible exact Sem.Wr.pure _ | with_reducible exact wr_underlying _ | (with_reducible apply Sem.Wr.bind) | (with_reducible apply Sem.Wr.map) | (with_reducible apply Sem.Wr.ite) | (with_reducible intro _) | split | exact trivial | (dsimp only))
theorem wr_makeMap {P : Program} {W : Nat → Nat → Prop} (t : TypeId) (x : Option Value) : Sem.Wr P W (Instr.makeMap t x) := by
  unfold Instr.makeMap
  repeat' (first | with_reducible assumption | with_reducible exact Sem.Wr.pure _ | with_reducible exact wr_newObj _ | with_reducible exact wr_underlying _ | with_reducible exact wr_asInt _ | (with_reducible apply Sem.Wr.bind) | (with_reducible apply Sem.Wr.map) | (with_reducible apply Sem.Wr.ite) | (with_reducible intro _) | split | exact trivial | (dsimp only))
theorem wr_keyThatStays {P : Program} {W : Nat → Nat → Prop} (x y : Value) : Sem.Wr P W (Instr.keyThatStays x y) := by
  unfold Instr.keyThatStays
  repeat' (first | with_reducible assumption | with_reducible exact Sem.Wr.pure _ | with_reducible exact wr_choose _ | (with_reducible apply Sem.Wr.bind) | (with_reducible apply Sem.Wr.map) | (with_reducible apply Sem.Wr.ite) | (with_reducible intro _) | split | exact trivial | (dsimp only))
theorem wr_mapUpdate {P : Program} {W : Nat → Nat → Prop} (t : TypeId) (m k v : Value) : Sem.Wr P W (Instr.mapUpdate t m k v) := by
  unfold Instr.mapUpdate
  repeat' (first | with_reducible assumption | with_reducible exact Sem.Wr.pure _ | with_reducible exact wr_getObj _ | with_reducible exact wr_setObj _ _ | with_reducible exact wr_underlying _ | with_reducible exact wr_runtimePanic _ | with_reducible exact wr_checkKey _ _ _ _ | with_reducible exact wr_findKey _ _ _ | with_reducible exact wr_keyThatStays _ _ | (with_reducible apply Sem.Wr.bind) | (with_reducible apply Sem.Wr.map) | (with_reducible apply Sem.Wr.ite) | (with_reducible intro _) | split | exact trivial | (dsimp only))
theorem wr_next {P : Program} {W : Nat → Nat → Prop} (v : Value) (b : Bool) (t : TypeId) : Sem.Wr P W (Instr.next v b t) := by
  unfold Instr.next
  repeat' (first | with_reducible assumption | with_reducible exact Sem.Wr.pure _ | with_reducible exact wr_choose _ | with_reducible exact wr_getObj _ | with_reducible exact wr_setObj _ _ | (with_reducible apply Sem.Wr.bind) | (with_reducible apply Sem.Wr.map) | (with_reducible apply Sem.Wr.ite) | (with_reducible intro _) | split | exact trivial | (dsimp only))
theorem wr_range {P : Program} {W : Nat → Nat → Prop} (t : TypeId) (x : Value) : Sem.Wr P W (Instr.range t x) := by
  unfold Instr.range
  repeat' (first | with_reducible assumption | with_reducible exact Sem.Wr.pure _ | with_reducible exact wr_getObj _ | with_reducible exact wr_newObj _ | with_reducible exact wr_underlying _ | (with_reducible apply Sem.Wr.bind) | (with_reducible apply Sem.Wr.map) | (with_reducible apply Sem.Wr.ite) | (with_reducible intro _) | split | exact trivial | (dsimp only))
theorem wr_len {P : Program} {W : Nat → Nat → Prop} (ts : Array TypeId) (t : TypeId) (as : Array Value) : Sem.Wr P W (Builtin.len_ ts t as) := by
  unfold Builtin.len_
  repeat' (first | with_reducible assumption | with_reducible exact Sem.Wr.pure _ | with_reducible exact wr_getObj _ | with_reducible exact wr_underlying _ | (with_reducible apply Sem.Wr.bind) | (with_reducible apply Sem.Wr.map) | (with_reducible apply Sem.Wr.ite) | (with_reducible intro _) | split | exact trivial | (dsimp only))
theorem wr_cap {P : Program} {W : Nat → Nat → Prop} (ts : Array TypeId) (t : TypeId) (as : Array Value) : Sem.Wr P W (Builtin.cap_ ts t as) := by
  unfold Builtin.cap_
  repeat' (first | with_reducible assumption | with_reducible exact Sem.Wr.pure _ | with_reducible exact wr_getObj _ | with_reducible exact wr_underlying _ | (with_reducible apply Sem.Wr.bind) | (with_reducible apply Sem.Wr.map) | (with_reducible apply Sem.Wr.ite) | (with_reducible intro _) | split | exact trivial | (dsimp only))
theorem wr_delete {P : Program} {W : Nat → Nat → Prop} (ts : Array TypeId) (t : TypeId) (as : Array Value) : Sem.Wr P W (Builtin.delete_ ts t as) := by
  unfold Builtin.delete_
  repeat' (first | with_reducible assumption | with_reducible exact Sem.Wr.pure _ | with_reducible exact wr_getObj _ | with_reducible exact wr_setObj _ _ | with_reducible exact wr_underlying _ | with_reducible exact wr_checkKey _ _ _ _ | with_reducible exact wr_findKey _ _ _ | (with_reducible apply Sem.Wr.bind) | (with_reducible apply Sem.Wr.map) | (with_reducible apply Sem.Wr.ite) | (with_reducible intro _) | split | exact trivial | (dsimp only))
theorem wr_min2 {P : Program} {W : Nat → Nat → Prop} (x y : Value) : Sem.Wr P W (Builtin.min2 x y) := by
  unfold Builtin.min2
  repeat' (first | with_reducible assumption | with_reducible exact Sem.Wr.pure _ | with_reducible exact wr_choose _ | with_reducible exact wr_asBool _ | with_reducible exact wr_stringOp _ _ _ | (with_reducible apply Sem.Wr.bind) | (with_reducible apply Sem.Wr.map) | (with_reducible apply Sem.Wr.ite) | (with_reducible intro _) | split | exact trivial | (dsimp only))
theorem wr_min {P : Program} {W : Nat → Nat → Prop} (ts : Array TypeId) (t : TypeId) (as : Array Value) : Sem.Wr P W (Builtin.min_ ts t as) := by
  unfold Builtin.min_
  split
  · exact trivial
  · rename_i x l he
    clear he as
    induction l generalizing x with
    | nil => exact trivial
    | cons y l ih => rw [List.foldlM_cons]; exact Sem.Wr.bind (wr_min2 _ _) fun z => ih z
theorem wr_max2 {P : Program} {W : Nat → Nat → Prop} (x y : Value) : Sem.Wr P W (Builtin.max2 x y) := by
  unfold Builtin.max2
  repeat' (first | with_reducible assumption | with_reducible exact Sem.Wr.pure _ | with_reducible exact wr_choose _ | with_reducible exact wr_asBool _ | with_reducible exact wr_stringOp _ _ _ | (with_reducible apply Sem.Wr.bind) | (with_reducible apply Sem.Wr.map) | (with_reducible apply Sem.Wr.ite) | (with_reducible intro _) | split | exact trivial | (dsimp only))
theorem wr_max {P : Program} {W : Nat → Nat → Prop} (ts : Array TypeId) (t : TypeId) (as : Array Value) : Sem.Wr P W (Builtin.max_ ts t as) := by
  unfold Builtin.max_
  split
  · exact trivial
  · rename_i x l he
    clear he as
    induction l generalizing x with
    | nil => exact trivial
    | cons y l ih => rw [List.foldlM_cons]; exact Sem.Wr.bind (wr_max2 _ _) fun z => ih z
def still : Op → Bool
  | .move _ | .assign _ | .pick .. | .alloc _ | .box .. | .build .. | .buildSlice .. | .load .. | .binOp .. | .unOp .. | .convert .. | .makeInterface .. | .makeFunc .. | .makeMap .. | .slice .. | .fieldAddr .. | .field .. | .indexAddr .. | .index .. | .lookup .. | .mapUpdate .. | .range .. | .next .. | .entry _ | .extract .. => true
  | .call { callee := .builtin .len, .. } | .call { callee := .builtin .cap, .. } | .call { callee := .builtin .min, .. } | .call { callee := .builtin .max, .. } | .call { callee := .builtin .delete, .. } => true
  | _ => false
set_option maxHeartbeats 1000000 in
theorem wr_still {P : Program} {W : Nat → Nat → Prop} (ρ : Operand → Value) (o : Oper) (h : still o.op = true) : Sem.Wr P W (execOp ρ o) := by
  obtain ⟨dst, op, type, pos, after, guard⟩ := o
  cases op <;> try (exact absurd h Bool.false_ne_true)
  case call c =>
    obtain ⟨callee, args, ts⟩ := c
    cases callee with
    | value f => exact absurd h Bool.false_ne_true
    | invoke f n => exact absurd h Bool.false_ne_true
    | builtin b =>
      cases b <;> try (exact absurd h Bool.false_ne_true)
      case len => exact show Sem.Wr P W (Bind.bind (Builtin.len_ ts type (args.map ρ)) fun v => Pure.pure (Next.value v)) from Sem.Wr.bind (wr_len _ _ _) fun _ => trivial
      case cap => exact show Sem.Wr P W (Bind.bind (Builtin.cap_ ts type (args.map ρ)) fun v => Pure.pure (Next.value v)) from Sem.Wr.bind (wr_cap _ _ _) fun _ => trivial
      case min => exact show Sem.Wr P W (Bind.bind (Builtin.min_ ts type (args.map ρ)) fun v => Pure.pure (Next.value v)) from Sem.Wr.bind (wr_min _ _ _) fun _ => trivial
      case max => exact show Sem.Wr P W (Bind.bind (Builtin.max_ ts type (args.map ρ)) fun v => Pure.pure (Next.value v)) from Sem.Wr.bind (wr_max _ _ _) fun _ => trivial
      case delete => exact show Sem.Wr P W (Bind.bind (Builtin.delete_ ts type (args.map ρ)) fun v => Pure.pure (Next.value v)) from Sem.Wr.bind (wr_delete _ _ _) fun _ => trivial
  all_goals
    unfold execOp
    dsimp only
    repeat' (first | with_reducible assumption | with_reducible exact Sem.Wr.pure _ | with_reducible exact wr_asBool _ | with_reducible exact wr_eqGuard _ _ _ _ _ _ | with_reducible exact wr_unary _ _ | with_reducible exact wr_binOp _ _ _ _ | with_reducible exact wr_convert _ _ _ | with_reducible exact wr_loadAt _ _ | with_reducible exact wr_fieldAt _ _ _ | with_reducible exact wr_indexAt _ _ _ | with_reducible exact wr_sliceAt _ _ _ _ _ | with_reducible exact wr_alloc _ | with_reducible exact wr_box _ _ | with_reducible exact wr_build _ _ | with_reducible exact wr_buildSlice _ _ _ | with_reducible exact wr_entry _ | with_reducible exact wr_extract _ _ | with_reducible exact wr_field _ _ _ | with_reducible exact wr_index _ _ _ | with_reducible exact wr_lookup _ _ _ _ | with_reducible exact wr_makeInterface _ _ | with_reducible exact wr_makeMap _ _ | with_reducible exact wr_mapUpdate _ _ _ _ | with_reducible exact wr_next _ _ _ | with_reducible exact wr_range _ _ | with_reducible exact wr_len _ _ _ | with_reducible exact wr_cap _ _ _ | with_reducible exact wr_delete _ _ _ | with_reducible exact wr_min _ _ _ | with_reducible exact wr_max _ _ _ | (with_reducible apply Sem.Wr.bind) | (with_reducible apply Sem.Wr.map) | (with_reducible apply Sem.Wr.ite) | (with_reducible intro _) | split | exact trivial | (dsimp only))
theorem wr_nilCheck {P : Program} {W : Nat → Nat → Prop} {ρ : Operand → Value} {x : Operand} {p : Option Addr} (hx : ρ x = .pointer p) {dst : Option Tmp} {ty : TypeId} {pos : String} {after : Array Edge} {gd : Option (Nat × Bool)} : Sem.Wr P W (execOp ρ ⟨dst, .nilCheck x, ty, pos, after, gd⟩) := by
  unfold execOp
  dsimp only
  rw [hx]
  cases p with
  | none => exact wr_runtimePanic _
  | some a => exact trivial
theorem wr_store {P : Program} {W : Nat → Nat → Prop} {ρ : Operand → Value} {x y : Operand} {t : TypeId} {p : Addr} (hx : ρ x = .pointer (some p)) (hp : ∀ j, W p.block (p.off + j)) {dst : Option Tmp} {ty : TypeId} {pos : String} {after : Array Edge} {gd : Option (Nat × Bool)} : Sem.Wr P W (execOp ρ ⟨dst, .store t x y, ty, pos, after, gd⟩) := by
  unfold execOp
  dsimp only
  rw [hx]
  exact show Sem.Wr P W (Bind.bind (storeVar t p (ρ y)) fun _ => Pure.pure Next.skip) from Sem.Wr.bind (wr_storeVar hp t _) fun _ => trivial
theorem wr_holdsCells {P : Program} {W : Nat → Nat → Prop} (a : Addr) (n : Nat) : Sem.Wr P W (Builtin.holdsCells a n) := by
  unfold Builtin.holdsCells
  repeat' (first | with_reducible assumption | with_reducible exact Sem.Wr.pure _ | with_reducible exact wr_shape _ | (with_reducible apply Sem.Wr.bind) | (with_reducible apply Sem.Wr.map) | (with_reducible apply Sem.Wr.ite) | (with_reducible intro _) | split | exact trivial | (dsimp only))
theorem wr_mayShare {P : Program} {W : Nat → Nat → Prop} (s l n : Nat) (b : Option Addr) (x : Value) : Sem.Wr P W (Builtin.mayShare s l n b x) := by
  unfold Builtin.mayShare
  repeat' (first | with_reducible assumption | with_reducible exact Sem.Wr.pure _ | with_reducible exact wr_frozen _ | with_reducible exact wr_holdsCells _ _ | (with_reducible apply Sem.Wr.bind) | (with_reducible apply Sem.Wr.map) | (with_reducible apply Sem.Wr.ite) | (with_reducible intro _) | split | exact trivial | (dsimp only))
theorem wr_lenOf {P : Program} {W : Nat → Nat → Prop} (x : Value) : Sem.Wr P W (Builtin.lenOf x) := by
  unfold Builtin.lenOf
  repeat' (first | with_reducible assumption | with_reducible exact Sem.Wr.pure _ | (with_reducible apply Sem.Wr.bind) | (with_reducible apply Sem.Wr.map) | (with_reducible apply Sem.Wr.ite) | (with_reducible intro _) | split | exact trivial | (dsimp only))
theorem wr_firstCells {P : Program} {W : Nat → Nat → Prop} (s n : Nat) (x : Value) : Sem.Wr P W (Builtin.firstCells s n x) := by
  unfold Builtin.firstCells
  repeat' (first | with_reducible assumption | with_reducible exact Sem.Wr.pure _ | with_reducible exact wr_loadCells _ _ | (with_reducible apply Sem.Wr.bind) | (with_reducible apply Sem.Wr.map) | (with_reducible apply Sem.Wr.ite) | (with_reducible intro _) | split | exact trivial | (dsimp only))
theorem first_zero (size : Nat) (x : Value) : Builtin.firstCells size 0 x = Pure.pure #[] ∨ ∃ why, Builtin.firstCells size 0 x = stuck why := by
  unfold Builtin.firstCells
  split
  · left; rw [Nat.zero_mul]; rfl
  · exact .inl rfl
  · left; simp
  · exact .inr ⟨_, rfl⟩
set_option maxHeartbeats 4000000 in
theorem wr_appendL {P : Program} {W : Nat → Nat → Prop} (tS tX t : TypeId) (s x : Value) {el : TypeId} (hu : P.underlying tS = some (.slice el)) (hX : (∃ e, P.underlying tX = some (.slice e)) ∨ P.underlying tX = some .string) (h : ∀ b n c, s = .slice b n c → n < c → ∀ a, b = some a → ∀ z, (P.info? el).map (·.size) = some z → ∀ j, W a.block (a.off + n * z + j)) : Sem.Wr P W (Builtin.append_ #[tS, tX] t #[s, x]) := by
  unfold Builtin.append_
  change Sem.Wr P W (Bind.bind (underlying tS) _)
  refine wr_underlying_bind fun d hd => ?_
  rw [hu] at hd
  cases hd
  dsimp only
  split
  · refine wr_sizeOf_bind fun size hz => ?_
    refine wr_underlying_bind fun dx hdx => ?_
    obtain ⟨e, rfl⟩ | rfl : (∃ e, dx = .slice e) ∨ dx = .string := by
      change P.underlying tX = some dx at hdx
      rw [hdx] at hX
      exact hX.imp (fun ⟨e, q⟩ => ⟨e, Option.some.inj q⟩) (fun q => Option.some.inj q)
    all_goals
      change Sem.Wr P W (Bind.bind (Builtin.lenOf x) _)
      refine Sem.Wr.bind (wr_lenOf _) fun n => ?_
      change Sem.Wr P W (if _ then Bind.bind (Builtin.firstCells size n x) _ else Bind.bind (typeInfo _) _)
      split
      · by_cases hn : n = 0
        · subst hn
          rcases first_zero size x with q | ⟨why, q⟩
          · rw [q]
            refine Sem.Wr.pure_bind ?_
            split
            · exact trivial
            · exact trivial
          · rw [q]; exact trivial
        · refine Sem.Wr.bind (wr_firstCells _ _ _) fun new => ?_
          repeat' (first | with_reducible assumption | with_reducible exact Sem.Wr.pure _ | with_reducible exact wr_choose _ | with_reducible exact wr_noRoom | with_reducible exact wr_askRoom _ | with_reducible exact wr_typeInfo _ | with_reducible exact wr_zeroValue _ | with_reducible exact wr_newRow _ _ | with_reducible exact wr_runtimePanic _ | with_reducible exact wr_mayShare _ _ _ _ _ | with_reducible exact wr_lenOf _ | with_reducible exact wr_firstCells _ _ _ | exact wr_storeCells _ _ (by intro j; rw [addBlock, add_off, Nat.add_zero]; exact h _ _ _ (by first | rfl | assumption) (by omega) _ rfl _ hz j) | (with_reducible apply Sem.Wr.bind) | (with_reducible apply Sem.Wr.map) | (with_reducible apply Sem.Wr.ite) | (with_reducible intro _) | split | exact trivial | (dsimp only))
      · refine Sem.Wr.bind (wr_typeInfo _) fun ti => ?_
        simp only [Bool.not_false, if_true, Bool.false_eq_true, if_false, false_or]
        repeat' (first | with_reducible assumption | with_reducible exact Sem.Wr.pure _ | with_reducible exact wr_choose _ | with_reducible exact wr_noRoom | with_reducible exact wr_askRoom _ | with_reducible exact wr_typeInfo _ | with_reducible exact wr_zeroValue _ | with_reducible exact wr_newRow _ _ | with_reducible exact wr_runtimePanic _ | with_reducible exact wr_mayShare _ _ _ _ _ | with_reducible exact wr_lenOf _ | with_reducible exact wr_firstCells _ _ _ | exact wr_storeCells _ _ (by intro j; rw [addBlock, add_off, Nat.add_zero]; exact h _ _ _ (by first | rfl | assumption) (by omega) _ rfl _ hz j) | (with_reducible apply Sem.Wr.bind) | (with_reducible apply Sem.Wr.map) | (with_reducible apply Sem.Wr.ite) | (with_reducible intro _) | split | exact trivial | (dsimp only))
  · exact trivial
set_option maxHeartbeats 4000000 in
theorem wr_append0 {P : Program} {W : Nat → Nat → Prop} (tS tX t : TypeId) (s x : Value) {el : TypeId} (hu : P.underlying tS = some (.slice el)) (hX : (∃ e, P.underlying tX = some (.slice e)) ∨ P.underlying tX = some .string) (h0 : Builtin.lenOf x = Pure.pure 0) : Sem.Wr P W (Builtin.append_ #[tS, tX] t #[s, x]) := by
  unfold Builtin.append_
  change Sem.Wr P W (Bind.bind (underlying tS) _)
  refine wr_underlying_bind fun d hd => ?_
  rw [hu] at hd
  cases hd
  dsimp only
  split
  · refine wr_sizeOf_bind fun size hz => ?_
    refine wr_underlying_bind fun dx hdx => ?_
    obtain ⟨e, rfl⟩ | rfl : (∃ e, dx = .slice e) ∨ dx = .string := by
      change P.underlying tX = some dx at hdx
      rw [hdx] at hX
      exact hX.imp (fun ⟨e, q⟩ => ⟨e, Option.some.inj q⟩) (fun q => Option.some.inj q)
    all_goals
      change Sem.Wr P W (Bind.bind (Builtin.lenOf x) _)
      rw [h0]
      refine Sem.Wr.pure_bind ?_
      change Sem.Wr P W (if _ then Bind.bind (Builtin.firstCells size 0 x) _ else Bind.bind (typeInfo _) _)
      split
      · rcases first_zero size x with q | ⟨why, q⟩
        · rw [q]
          refine Sem.Wr.pure_bind ?_
          split
          · exact trivial
          · exact trivial
        · rw [q]; exact trivial
      · refine Sem.Wr.bind (wr_typeInfo _) fun ti => ?_
        simp only [Bool.not_false, if_true, Bool.false_eq_true, if_false, false_or]
        repeat' (first | with_reducible assumption | with_reducible exact Sem.Wr.pure _ | with_reducible exact wr_choose _ | with_reducible exact wr_noRoom | with_reducible exact wr_askRoom _ | with_reducible exact wr_typeInfo _ | with_reducible exact wr_zeroValue _ | with_reducible exact wr_newRow _ _ | with_reducible exact wr_runtimePanic _ | with_reducible exact wr_mayShare _ _ _ _ _ | with_reducible exact wr_firstCells _ _ _ | (with_reducible apply Sem.Wr.bind) | (with_reducible apply Sem.Wr.map) | (with_reducible apply Sem.Wr.ite) | (with_reducible intro _) | split | exact trivial | (dsimp only))
  · exact trivial
theorem len_zero {P : Program} {x : Value} {w : World} (h : (Builtin.lenOf x).run P w = .ok 0 w) : Builtin.lenOf x = Pure.pure 0 := by
  cases x <;> simp [Builtin.lenOf] at h ⊢ <;> simp_all
section
variable {P : Program} {W : Nat → Nat → Prop} {ρ : Operand → Value} {x y : Operand} {tS tX el : TypeId} {dst : Option Tmp} {ty : TypeId} {pos : String} {after : Array Edge} {gd : Option (Nat × Bool)}
theorem wr_appOp (hu : P.underlying tS = some (.slice el)) (hX : (∃ e, P.underlying tX = some (.slice e)) ∨ P.underlying tX = some .string) (h : ∀ b n c, ρ x = .slice b n c → n < c → ∀ a, b = some a → ∀ z, (P.info? el).map (·.size) = some z → ∀ j, W a.block (a.off + n * z + j)) :
    Sem.Wr P W (execOp ρ ⟨dst, .call ⟨.builtin .append, #[x, y], #[tS, tX]⟩, ty, pos, after, gd⟩) := by
  have e : #[x, y].map ρ = #[ρ x, ρ y] := by simp
  show Sem.Wr P W (Bind.bind (Builtin.append_ #[tS, tX] ty (#[x, y].map ρ)) fun v => Pure.pure (Next.value v))
  rw [e]
  exact Sem.Wr.bind (wr_appendL tS tX ty _ _ hu hX h) fun _ => trivial
theorem wr_appOp0 (hu : P.underlying tS = some (.slice el)) (hX : (∃ e, P.underlying tX = some (.slice e)) ∨ P.underlying tX = some .string) (h0 : Builtin.lenOf (ρ y) = Pure.pure 0) :
    Sem.Wr P W (execOp ρ ⟨dst, .call ⟨.builtin .append, #[x, y], #[tS, tX]⟩, ty, pos, after, gd⟩) := by
  have e : #[x, y].map ρ = #[ρ x, ρ y] := by simp
  show Sem.Wr P W (Bind.bind (Builtin.append_ #[tS, tX] ty (#[x, y].map ρ)) fun v => Pure.pure (Next.value v))
  rw [e]
  exact Sem.Wr.bind (wr_append0 tS tX ty _ _ hu hX h0) fun _ => trivial
end
end Go.AV
namespace Go.AV
open Go.RowKit
def constAV (v : Value) : AV := match plain v with
  | true => .d (.v v)
  | false => .un
def evalT (T : List AV) : Operand → AV
  | .tmp t => T.getD t .un
  | .const v => constAV v
  | .func f => .fn (.func f) [] []
  | .global _ => .un
def putT (T : List AV) (d : Option Tmp) (v : AV) : List AV :=
  match d with
  | none => T
  | some d => T.set d v
theorem zS {T : List AV} {d : Tmp} {v : AV} : putT T (some d) v = T.set d v := rfl
theorem zN {T : List AV} {v : AV} : putT T none v = T := rfl
theorem zH {α : Type} {a b : α} {l : List α} : (a :: l).set 0 b = b :: l := rfl
theorem zT {α : Type} {a b : α} {l : List α} {n : Nat} : (a :: l).set (n + 1) b = a :: l.set n b := rfl
structure RepT (c : Ctx) (tmps : Array Value) (T : List AV) : Prop where
  size : tmps.size = T.length
  at_ : ∀ i, i < T.length → Rep c (tmps.getD i undef) (T.getD i .un)
theorem RepT.mono {c c' : Ctx} (hc : Lw c c') {tmps : Array Value} {T : List AV} (h : RepT c tmps T) : RepT c' tmps T := ⟨h.size, fun i hi => (h.at_ i hi).mono hc⟩
theorem rep_const (c : Ctx) (v : Value) : Rep c v (constAV v) := by
  unfold constAV
  cases h : plain v with
  | true => exact .d (.v v h)
  | false => exact .un v
theorem rep_func (c : Ctx) (f : FuncId) : Rep c (.func (.func f) #[] #[]) (.fn (.func f) [] []) := .fn _ _ _ _ _ rfl (fun i hi => by simp at hi) rfl (fun i hi => by simp at hi)
theorem RepT.eval {c : Ctx} {a : Act} {T : List AV} (h : RepT c a.tmps T) (x : Operand) : Rep c (a.eval x) (evalT T x) := by
  cases x with
  | tmp t =>
    show Rep c (a.tmps.getD t undef) (T.getD t .un)
    by_cases ht : t < T.length
    · exact h.at_ t ht
    · have hle : T.length ≤ t := Nat.le_of_not_lt ht
      have : T.getD t .un = .un := by rw [List.getD_eq_getElem?_getD, List.getElem?_eq_none hle]; rfl
      rw [this]; exact .un _
  | const v => exact rep_const c v
  | func f => exact rep_func c f
  | global g => exact .un _
theorem RepT.put {c : Ctx} {a : Act} {T : List AV} (h : RepT c a.tmps T) (d : Option Tmp) {v : Value} {y : AV} (hv : Rep c v y) : RepT c (a.put d v).tmps (putT T d y) := by
  cases d with
  | none => exact h
  | some d =>
    refine ⟨by simp [Act.put, putT, h.size], fun i hi => ?_⟩
    have hi' : i < T.length := by simpa [putT] using hi
    by_cases hd : d = i
    · subst hd
      have h1 : d < a.tmps.size := by rw [h.size]; exact hi'
      simp only [Act.put, putT]
      simp [List.getD_eq_getElem?_getD, hi', h1]
      exact hv
    · have := h.at_ i hi'
      simp only [Act.put, putT]
      simp only [List.getD_eq_getElem?_getD, List.getElem?_set_ne hd] at this ⊢
      simpa [Array.getElem?_setIfInBounds_ne hd] using this
theorem getD_left {xs ys : Array Value} {i : Nat} (h : i < xs.size) (u : Value) : (xs ++ ys).getD i u = xs.getD i u := by
  rw [Array.getD_eq_getD_getElem?, Array.getD_eq_getD_getElem?, Array.getElem?_append_left h]
theorem getD_right {xs ys : Array Value} {i : Nat} (h : xs.size ≤ i) (u : Value) : (xs ++ ys).getD i u = ys.getD (i - xs.size) u := by
  rw [Array.getD_eq_getD_getElem?, Array.getD_eq_getD_getElem?, Array.getElem?_append_right h]
class Wins (P : Program) where
  Wn : Machine → Trace → Prop
  back : ∀ {m m' : Machine} {t : Trace} {ops : Array MemOp}, stepT P m = (.next m', ops) → Wn m' (t ++ ops) → Wn m t
open Go.Conc (G)
def Run (P : Program) [Wins P] (x : Crowd) (w : World) (t : Trace) (fr : Frame) (cs : List Frame) : Prop := Wins.Wn P (x.mach (G fr cs) w) t
def Live (x : Crowd) (l : Nat) : Prop := ∃ g, x.gs[l]? = some g ∧ l ≠ x.me ∧ g.status = .parked
abbrev Held (c : Ctx) (t : Trace) : Prop := Bat t c.x.me c.mem (Live c.x)
section
variable {P : Program} [Wins P] {x : Crowd} {w w' : World} {t : Trace} {fr fr' : Frame} {cs cs' : List Frame} {es : Array Event}
theorem run_step (hx : x.Ok) (h : stepG P (x.me == 0) (G fr cs) w = .go (G fr' cs') w' es) (hr : ∀ pos, Run P x w' (t ++ MemOp.ofEvents x.me fr.fn pos es) fr' cs') : Run P x w t fr cs :=
  Wins.back (stepT_crowd hx rfl h) (hr _)
theorem run_quiet (hx : x.Ok) (h : stepG P (x.me == 0) (G fr cs) w = .go (G fr' cs') w' #[]) (hr : Run P x w' t fr' cs') : Run P x w t fr cs :=
  run_step hx h fun pos => by simpa [MemOp.ofEvents] using hr
end
theorem Bat.evs' {t : Trace} {c c' : Ctx} {fn : FuncId} {pos : String} {es : Array Event} (h : Held c t) (ho : ∀ e ∈ es, EvOk c.mem e) (hl : Le c c') : Held c' (t ++ MemOp.ofEvents c.x.me fn pos es) := by
  have := h.evs (fn := fn) (pos := pos) ho
  unfold Held
  rw [hl.x]
  exact this.mono hl.mem fun _ h => h
theorem Inv.own {B : Nat} {w0 w : World} {c : Ctx} {H : HS} (h : Inv B w0 c H w) {i g : Nat} {b : HB} (hg : c.blk[i]? = some g) (hb : H.blks[i]? = some b) : ∀ g' j, g' = g → c.mem g' j = none ∧ ∃ cs t fr, w.heap[g']? = some (.cells cs t fr) := by
  rintro g' j rfl
  obtain ⟨_, q2, cur, fr, q3, _⟩ := h.blk i g' b hg hb
  exact ⟨q2 j, cur, _, fr, q3⟩
theorem Inv.ownT {B : Nat} {w0 w : World} {c : Ctx} {H : HS} (h : Inv B w0 c H w) {i : Nat} {e : Tok} (he : c.tok[i]? = some e) : ∀ g' j, (g' = e.g ∧ e.mark * e.sz ≤ j) → c.mem g' j = none ∧ ∃ cs t fr, w.heap[g']? = some (.cells cs t fr) := by
  rintro g' j ⟨rfl, hj⟩
  obtain ⟨_, _, _, q4, _, cur, et, fr, q6, _⟩ := h.tok i e he
  exact ⟨q4 j hj, cur, et, fr, q6⟩
theorem Inv.hf {B : Nat} {w0 w : World} {c : Ctx} {H : HS} (h : Inv B w0 c H w) : ∀ b o u, c.mem b o = some u → b < w.heap.size := fun _ _ _ hm => h.mem_lt hm
theorem still_events {P : Program} {α : Type} {s : Sem α} {B : Nat} {w0 w : World} {c : Ctx} {H : HS} (hI : Inv B w0 c H w) (h : Sem.Wr P (fun _ _ => False) s) (fn : FuncId) : ∀ e ∈ seen P fn (s.events P w #[]), EvOk c.mem e :=
  seen_ok fun e he => by
    rcases wr_events (P := P) #[] h (fun _ _ h => h.elim) hI.hf e he with q | q
    · simp at q
    · exact q
def OpR (P : Program) [Wins P] (o : Oper) (E : Operand → AV) (H : HS) (R : AV → HS → Prop) : Prop :=
  ∀ (B : Nat) (w0 : World) (c : Ctx) (w : World) (a : Act) (t : Trace), Inv B w0 c H w → Held c t → (∀ x ∈ o.op.operands, Rep c (a.eval x) (E x)) →
  ∀ (b : Frame) (ops : Array Oper) (i : Nat) (rest : List Nat) (k : List Item) (cs : List Frame), b.kind ≠ .early → ops[i]? = some o → Region.wanted o (yielded ops a.tmps) = true →
    (∀ v' w' c' av H' t', Lw c c' → Rep c' v' av → Inv B w0 c' H' w' → Held c' t' → R av H' → Run P c'.x w' t' (b.atR (a.put o.dst v') (.inRegion ops rest :: k)) cs) →
    Run P c.x w t (b.atR a (.inRegion ops (i :: rest) :: k)) cs
def Ret (v : AV) (H : HS) : AV → HS → Prop := fun v' H' => v' = v ∧ H' = H
structure Leaves (P : Program) (f : FuncId) (kind : CallKind) (fr : Frame) (w : World) (v : Value) : Prop where
  fn : fr.fn = f
  kd : fr.kind = kind
  md : fr.mode = .returning
  df : fr.defers = []
  rd : fr.roundOf = none
  rs : ∃ fn, P.funcs[f]? = some fn ∧ (results fn fr.tmps).run P w = .ok v w
def ACalls (P : Program) [Wins P] (f : FuncId) (args : List AV) (H : HS) (R : AV → HS → Prop) : Prop :=
  ∀ (B : Nat) (w0 : World) (c : Ctx) (w : World) (t : Trace) (vs : Array Value), Inv B w0 c H w → Held c t → vs.size = args.length → (∀ i (hi : i < args.length), Rep c (vs.getD i undef) args[i]) →
  ∀ (kind : CallKind) (cs : List Frame), (kind = .normal ∨ kind = .deferred) →
    (∀ v w' c' av H' t' fr, Lw c c' → Rep c' v av → Inv B w0 c' H' w' → Held c' t' → R av H' → Leaves P f kind fr w' v → Run P c'.x w' t' fr cs) →
    Run P c.x w t (Frame.enter P f vs kind) cs
theorem ACalls.mono {P : Program} [Wins P] {f : FuncId} {args : List AV} {H : HS} {R R' : AV → HS → Prop} (h : ACalls P f args H R) (hr : ∀ v H', R v H' → R' v H') : ACalls P f args H R' :=
  fun B w0 c w t vs hI hB hs ha kind cs hk hn => h B w0 c w t vs hI hB hs ha kind cs hk fun v w' c' av H' t' fr h1 h2 h3 h4 h5 h6 => hn v w' c' av H' t' fr h1 h2 h3 h4 (hr _ _ h5) h6
abbrev Post := Exit → List AV → HS → Prop
def Out (P : Program) [Wins P] (x : Crowd) (w : World) (t : Trace) (b : Frame) (cs : List Frame) (j : Code) (a : Act) : Prop :=
  match b.roundOf with
  | none => j = .ret ∧ ∀ todo, Run P x w t { b.atR a todo with mode := .returning } cs
  | some l => b.kind = .normal ∧ ∃ v w' caller rest, (Instr.endRound l (some j)).run P w = .ok v w' ∧ cs = caller :: rest ∧
      ∀ pos, Run P x w' (t ++ MemOp.ofEvents x.me b.fn pos (seen P b.fn ((Instr.endRound l (some j)).events P w #[]))) (caller.finish v) rest
def After (P : Program) [Wins P] (x : Crowd) (w : World) (t : Trace) (b : Frame) (k : List Item) (cs : List Frame) : Exit → Act → Prop
  | .normal, a => Run P x w t (b.atR a k) cs
  | .exit id, a => match exitTo id k with
    | some k' => Run P x w t (b.atR a k') cs
    | none => Out P x w t b cs (.exit id) a
  | .ret, a => Out P x w t b cs .ret a
  | _, _ => False
theorem after_exit {P : Program} [Wins P] {x : Crowd} {w : World} {t : Trace} {b : Frame} {k : List Item} {cs : List Frame} {id : Nat} {a : Act} :
    After P x w t b k cs (.exit id) a = (match exitTo id k with | some k' => Run P x w t (b.atR a k') cs | none => Out P x w t b cs (.exit id) a) := rfl
theorem After.push {P : Program} [Wins P] {x : Crowd} {w : World} {t : Trace} {b : Frame} {y : Item} {k : List Item} {cs : List Frame} {e : Exit} {a : Act} (hy : ∀ id, y ≠ .inBlock id) (he : e ≠ .normal) (h : After P x w t b k cs e a) : After P x w t b (y :: k) cs e a := by
  cases e with
  | normal => exact absurd rfl he
  | exit id =>
    have : exitTo id (y :: k) = exitTo id k := by cases y <;> first | rfl | exact absurd rfl (hy _)
    rw [after_exit] at h ⊢
    rw [this]
    exact h
  | ret => exact h
  | goto l => exact h
  | panic ch => exact h
  | outgrown => exact h
def AW (P : Program) [Wins P] (k : Code) (Q : Post) (T : List AV) (H : HS) : Prop :=
  ∀ (B : Nat) (w0 : World) (c : Ctx) (w : World) (a : Act) (t : Trace), Inv B w0 c H w → Held c t → RepT c a.tmps T →
  ∀ (b : Frame) (k' : List Item) (cs : List Frame), b.kind ≠ .early →
    (∀ e a' w' c' t' T' H', Lw c c' → Inv B w0 c' H' w' → Held c' t' → RepT c' a'.tmps T' → a'.defers = a.defers → Q e T' H' → After P c'.x w' t' b k' cs e a') →
    Run P c.x w t (b.atR a (.code k :: k')) cs
def AL (P : Program) [Wins P] (ops : Array Oper) (l : List Oper) (Q : Post) (T : List AV) (H : HS) : Prop :=
  ∀ (n : Nat), ops.toList.drop n = l →
  ∀ (B : Nat) (w0 : World) (c : Ctx) (w : World) (a : Act) (t : Trace), Inv B w0 c H w → Held c t → RepT c a.tmps T →
  ∀ (b : Frame) (k' : List Item) (cs : List Frame), b.kind ≠ .early →
    (∀ e a' w' c' t' T' H', Lw c c' → Inv B w0 c' H' w' → Held c' t' → RepT c' a'.tmps T' → a'.defers = a.defers → Q e T' H' → After P c'.x w' t' b k' cs e a') →
    Run P c.x w t (b.atR a (.inRegion ops (List.range' n l.length) :: k')) cs
section
variable {P : Program} {main : Bool} {b : Frame} {a : Act} {k : List Item} {cs : List Frame} {w w' : World}
theorem sg_skip : stepG P main (G (b.atR a (.code .skip :: k)) cs) w = .go (G (b.atR a k) cs) w := by simp [G, stepG, stepG.exec, Frame.atR]
theorem sg_label {l : Nat} : stepG P main (G (b.atR a (.code (.label l) :: k)) cs) w = .go (G (b.atR a k) cs) w := by simp [G, stepG, stepG.exec, Frame.atR]
theorem sg_inBlock {id : Nat} : stepG P main (G (b.atR a (.inBlock id :: k)) cs) w = .go (G (b.atR a k) cs) w := by simp [G, stepG, stepG.exec, Frame.atR]
theorem sg_inScope {c : Code} : stepG P main (G (b.atR a (.inScope c :: k)) cs) w = .go (G (b.atR a k) cs) w := by simp [G, stepG, stepG.exec, Frame.atR]
theorem sg_seq {x y : Code} : stepG P main (G (b.atR a (.code (.seq x y) :: k)) cs) w = .go (G (b.atR a (.code x :: .code y :: k)) cs) w := by simp [G, stepG, stepG.exec, Frame.atR]
theorem sg_cond {c : Operand} {x y : Code} {t : Bool} (h : a.eval c = .bool t) : stepG P main (G (b.atR a (.code (.cond c x y) :: k)) cs) w = .go (G (b.atR a (.code (if t then x else y) :: k)) cs) w := by
  have h' : (b.atR a (.code (.cond c x y) :: k)).eval c = .bool t := by rw [Frame.eval_atR]; exact h
  simp only [Frame.atR] at h'
  simp [G, stepG, stepG.exec, Frame.atR, h']
theorem sg_block {id : Nat} {c : Code} : stepG P main (G (b.atR a (.code (.block id c) :: k)) cs) w = .go (G (b.atR a (.code c :: .inBlock id :: k)) cs) w := by simp [G, stepG, stepG.exec, Frame.atR]
theorem sg_scope {c : Code} : stepG P main (G (b.atR a (.code (.scope c) :: k)) cs) w = .go (G (b.atR a (.code c :: .inScope c :: k)) cs) w := by simp [G, stepG, stepG.exec, Frame.atR]
theorem sg_loop {c : Code} : stepG P main (G (b.atR a (.code (.loop c) :: k)) cs) w = .go (G (b.atR a (.code c :: .inLoop c :: k)) cs) w := by simp [G, stepG, stepG.exec, Frame.atR]
theorem sg_inLoop {c : Code} : stepG P main (G (b.atR a (.inLoop c :: k)) cs) w = .go (G (b.atR a (.code c :: .inLoop c :: k)) cs) w := by simp [G, stepG, stepG.exec, Frame.atR]
theorem sg_exit {id : Nat} {k' : List Item} (h : exitTo id k = some k') : stepG P main (G (b.atR a (.code (.exit id) :: k)) cs) w = .go (G (b.atR a k') cs) w := by simp [G, stepG, stepG.exec, Frame.atR, h]
theorem sg_ret (h : b.roundOf = none) : stepG P main (G (b.atR a (.code .ret :: k)) cs) w = .go (G { b.atR a (.code .ret :: k) with mode := .returning } cs) w := by simp [G, stepG, stepG.exec, Frame.atR, h]
theorem sg_end (h : b.roundOf = none) : stepG P main (G (b.atR a []) cs) w = .go (G { b.atR a [] with mode := .returning } cs) w := by simp [G, stepG, stepG.exec, Frame.atR, h]
theorem sg_region {id : Nat} {ops : Array Oper} : stepG P main (G (b.atR a (.code (.region id ops false) :: k)) cs) w = .go (G (b.atR a (.inRegion ops (List.range ops.size) :: k)) cs) w := by simp [G, stepG, stepG.exec, Frame.atR]
theorem sg_regionEnd {ops : Array Oper} : stepG P main (G (b.atR a (.inRegion ops [] :: k)) cs) w = .go (G (b.atR a k) cs) w := by simp [G, stepG, stepG.exec, Frame.atR]
theorem sg_unwanted {ops : Array Oper} {i : Nat} {rest : List Nat} {o : Oper} (ho : ops[i]? = some o) (hw : Region.wanted o (yielded ops a.tmps) = false) :
    stepG P main (G (b.atR a (.inRegion ops (i :: rest) :: k)) cs) w = .go (G (b.atR (a.put o.dst undef) (.inRegion ops rest :: k)) cs) w := by
  have hfin : (b.atR a (.inRegion ops (i :: rest) :: k)).finish undef = b.atR (a.put o.dst undef) (.inRegion ops rest :: k) := by rw [Frame.finish_atR, ho]; rfl
  rw [← hfin]
  simp [G, stepG, stepG.exec, Frame.atR, ho, hw]
theorem sg_oper {ops : Array Oper} {i : Nat} {rest : List Nat} {o : Oper} (ho : ops[i]? = some o) (hw : Region.wanted o (yielded ops a.tmps) = true) (hd : ∀ c, o.op ≠ .defer c) :
    stepG P main (G (b.atR a (.inRegion ops (i :: rest) :: k)) cs) w = stepG.apply P true (b.atR a (.inRegion ops (i :: rest) :: k)) cs none (execOp a.eval o) w := by
  have he := Frame.eval_atR b a (.inRegion ops (i :: rest) :: k)
  simp only [Frame.atR] at he
  cases hr : b.roundOf with
  | none =>
    rw [hr] at he
    simp [G, stepG, stepG.exec, stepG.oper, Frame.oper?, Frame.atR, ho, hw, he, hr]
  | some l =>
    rw [hr] at he
    simp only [G, stepG, stepG.exec, stepG.oper, Frame.oper?, Frame.atR, ho, hr, Option.map_some, Option.getD_some, hw, if_true, he]
    split
    · rename_i hc
      exact absurd hc (hd _)
    · rfl
theorem defer_ne {o : Oper} {c : Call} (h : o.op = .defer c) {v : Value} : (execOp a.eval o).run P w ≠ .ok (.value v) w' ∧ (execOp a.eval o).run P w ≠ .ok .skip w' ∧ ∀ f args, (execOp a.eval o).run P w ≠ .ok (.enter f args) w' := by
  have e : execOp a.eval o = (do pure (.defer (← resolve a.eval c o.type))) := by
    obtain ⟨dst, op, type, pos, after, guard⟩ := o
    simp only at h
    subst h
    rfl
  rw [e]
  simp only [Sem.run_bind]
  cases (resolve a.eval c o.type).run P w <;> simp [Result.andThen]
theorem sg_value {ops : Array Oper} {i : Nat} {rest : List Nat} {o : Oper} {v : Value} (ho : ops[i]? = some o) (hw : Region.wanted o (yielded ops a.tmps) = true) (hk : b.kind ≠ .early)
    (hr : (execOp a.eval o).run P w = .ok (.value v) w') : stepG P main (G (b.atR a (.inRegion ops (i :: rest) :: k)) cs) w = .go (G (b.atR (a.put o.dst v) (.inRegion ops rest :: k)) cs) w' (seen P b.fn ((execOp a.eval o).events P w #[])) := by
  have hfin : (b.atR a (.inRegion ops (i :: rest) :: k)).finish v = b.atR (a.put o.dst v) (.inRegion ops rest :: k) := by rw [Frame.finish_atR, ho]; rfl
  have hk' : (b.kind == CallKind.early) = false := by simpa using hk
  rw [sg_oper ho hw (fun c hc => (defer_ne hc (v := v)).1 hr), ← hfin]
  simp [stepG.apply, hr, G, Frame.atR, hk', GStep.after]
theorem sg_skipped {ops : Array Oper} {i : Nat} {rest : List Nat} {o : Oper} (ho : ops[i]? = some o) (hw : Region.wanted o (yielded ops a.tmps) = true) (hk : b.kind ≠ .early)
    (hr : (execOp a.eval o).run P w = .ok .skip w') : stepG P main (G (b.atR a (.inRegion ops (i :: rest) :: k)) cs) w = .go (G (b.atR (a.put o.dst undef) (.inRegion ops rest :: k)) cs) w' (seen P b.fn ((execOp a.eval o).events P w #[])) := by
  have hfin : (b.atR a (.inRegion ops (i :: rest) :: k)).finish undef = b.atR (a.put o.dst undef) (.inRegion ops rest :: k) := by rw [Frame.finish_atR, ho]; rfl
  have hk' : (b.kind == CallKind.early) = false := by simpa using hk
  rw [sg_oper ho hw (fun c hc => (defer_ne hc (v := undef)).2.1 hr), ← hfin]
  simp [stepG.apply, hr, G, Frame.atR, hk', GStep.after]
theorem sg_enter {ops : Array Oper} {i : Nat} {rest : List Nat} {o : Oper} {f : FuncId} {args : Array Value} (ho : ops[i]? = some o) (hw : Region.wanted o (yielded ops a.tmps) = true) (hk : b.kind ≠ .early)
    (hr : (execOp a.eval o).run P w = .ok (.enter f args) w') : stepG P main (G (b.atR a (.inRegion ops (i :: rest) :: k)) cs) w = .go (G (Frame.enter P f args .normal) (b.atR a (.inRegion ops (i :: rest) :: k) :: cs)) w' (seen P b.fn ((execOp a.eval o).events P w #[])) := by
  have hk' : (b.kind == CallKind.early) = false := by simpa using hk
  rw [sg_oper ho hw (fun c hc => (defer_ne hc (v := undef)).2.2 _ _ hr)]
  simp [stepG.apply, hr, G, Frame.atR, hk', GStep.after]
theorem sg_leave {f : FuncId} {fr caller : Frame} {v : Value} (h : Leaves P f .normal fr w v) : ∃ fn, P.funcs[f]? = some fn ∧ stepG P main (G fr (caller :: cs)) w = .go (G (caller.finish v) cs) w (seen P fr.fn ((results fn fr.tmps).events P w #[])) := by
  obtain ⟨h1, h2, h3, h4, h5, fn, h6, h7⟩ := h
  refine ⟨fn, h6, ?_⟩
  rw [← h1] at h6
  simp [G, stepG, unwind, doReturn, h2, h3, h4, h6, h7, GStep.after]
end
theorem sg_leap {P : Program} {main : Bool} {b : Frame} {a : Act} {k : List Item} {caller : Frame} {rest : List Frame} {w w' : World} {l : Nat} {j : Code} {v : Value} (hl : b.roundOf = some l) (hk : b.kind = .normal) (hr : (Instr.endRound l (some j)).run P w = .ok v w')
    (hj : j = .ret ∨ ∃ id, j = .exit id ∧ exitTo id k = none) : stepG P main (G (b.atR a (.code j :: k)) (caller :: rest)) w = .go (G (caller.finish v) rest) w' (seen P b.fn ((Instr.endRound l (some j)).events P w #[])) := by
  rcases hj with rfl | ⟨id, rfl, h⟩
  · simp [G, stepG, stepG.exec, Frame.atR, hl, hr, doReturn, hk, GStep.after]
  · simp [G, stepG, stepG.exec, Frame.atR, hl, hr, doReturn, hk, GStep.after, h]
theorem wr_results {P : Program} {W : Nat → Nat → Prop} (fn : Func) (tmps : Array Value) : Sem.Wr P W (results fn tmps) := by
  unfold results
  refine Sem.Wr.bind (wr_mapM (fun r => ?_) _) fun vs => Sem.Wr.pure _
  cases r with
  | tmp t => exact trivial
  | cell a t => exact Sem.Wr.bind (wr_asAddr _) fun _ => wr_loadVar _ _
section
variable {P : Program} [Wins P] {Q : Post} {T : List AV} {H : HS}
theorem opR_value {E : Operand → AV} {R : AV → HS → Prop} {o : Oper} (h : ∀ (B : Nat) (w0 : World) (c : Ctx) (w : World) (a : Act), Inv B w0 c H w → (∀ x ∈ o.op.operands, Rep c (a.eval x) (E x)) →
    ∃ v' w' c' av H', (execOp a.eval o).run P w = .ok (.value v') w' ∧ Le c c' ∧ Rep c' v' av ∧ Inv B w0 c' H' w' ∧ R av H')
    (hw : ∀ (B : Nat) (w0 : World) (c : Ctx) (w : World) (a : Act), Inv B w0 c H w → (∀ x ∈ o.op.operands, Rep c (a.eval x) (E x)) → ∃ W : Nat → Nat → Prop, Sem.Wr P W (execOp a.eval o) ∧ ∀ b j, W b j → c.mem b j = none ∧ ∃ cs t fr, w.heap[b]? = some (.cells cs t fr) := by
      exact fun _ _ _ _ _ _ _ => ⟨fun _ _ => False, wr_still _ _ rfl, fun _ _ h => h.elim⟩) : OpR P o E H R := by
  intro B w0 c w a t hI hB hops b ops i rest k cs hk ho hwt hnext
  obtain ⟨v', w', c', av, H', h1, h2, h3, h4, h5⟩ := h B w0 c w a hI hops
  obtain ⟨W, hW, hWm⟩ := hw B w0 c w a hI hops
  refine run_step hI.xok (sg_value ho hwt hk h1) fun pos => ?_
  have hev : ∀ e ∈ seen P b.fn ((execOp a.eval o).events P w #[]), EvOk c.mem e := seen_ok fun e he => by
    rcases wr_events (P := P) #[] hW hWm hI.hf e he with q | q
    · simp at q
    · exact q
  have := hnext v' w' c' av H' _ h2 h3 h4 (hB.evs' (fn := b.fn) (pos := pos) hev h2) h5
  rw [h2.x] at this
  exact this
theorem opR_skip {E : Operand → AV} {R : AV → HS → Prop} {o : Oper} (h : ∀ (B : Nat) (w0 : World) (c : Ctx) (w : World) (a : Act), Inv B w0 c H w → (∀ x ∈ o.op.operands, Rep c (a.eval x) (E x)) →
    ∃ w' c' H', (execOp a.eval o).run P w = .ok .skip w' ∧ Le c c' ∧ Inv B w0 c' H' w' ∧ R .un H')
    (hw : ∀ (B : Nat) (w0 : World) (c : Ctx) (w : World) (a : Act), Inv B w0 c H w → (∀ x ∈ o.op.operands, Rep c (a.eval x) (E x)) → ∃ W : Nat → Nat → Prop, Sem.Wr P W (execOp a.eval o) ∧ ∀ b j, W b j → c.mem b j = none ∧ ∃ cs t fr, w.heap[b]? = some (.cells cs t fr) := by
      exact fun _ _ _ _ _ _ _ => ⟨fun _ _ => False, wr_still _ _ rfl, fun _ _ h => h.elim⟩) : OpR P o E H R := by
  intro B w0 c w a t hI hB hops b ops i rest k cs hk ho hwt hnext
  obtain ⟨w', c', H', h1, h2, h4, h5⟩ := h B w0 c w a hI hops
  obtain ⟨W, hW, hWm⟩ := hw B w0 c w a hI hops
  refine run_step hI.xok (sg_skipped ho hwt hk h1) fun pos => ?_
  have hev : ∀ e ∈ seen P b.fn ((execOp a.eval o).events P w #[]), EvOk c.mem e := seen_ok fun e he => by
    rcases wr_events (P := P) #[] hW hWm hI.hf e he with q | q
    · simp at q
    · exact q
  have := hnext undef w' c' .un H' _ h2 (.un _) h4 (hB.evs' (fn := b.fn) (pos := pos) hev h2) h5
  rw [h2.x] at this
  exact this
theorem aw_mono {k : Code} {Q' : Post} (h : AW P k Q T H) (hq : ∀ e T H, Q e T H → Q' e T H) : AW P k Q' T H :=
  fun B w0 c w a t h1 h2 h3 b k' cs hk hn => h B w0 c w a t h1 h2 h3 b k' cs hk fun e a' w' c' t' T' H' x1 x2 x3 x4 x5 x6 => hn e a' w' c' t' T' H' x1 x2 x3 x4 x5 (hq _ _ _ x6)
theorem aw_skip (h : Q .normal T H) : AW P .skip Q T H := fun _ _ c w a t h1 h2 h3 _ _ _ _ hn =>
  run_quiet h1.xok sg_skip (hn .normal a w c t T H (Lw.refl c) h1 h2 h3 rfl h)
theorem aw_label {l : Nat} (h : Q .normal T H) : AW P (.label l) Q T H := fun _ _ c w a t h1 h2 h3 _ _ _ _ hn =>
  run_quiet h1.xok sg_label (hn .normal a w c t T H (Lw.refl c) h1 h2 h3 rfl h)
theorem run_out {x : Crowd} {w : World} {t : Trace} {b : Frame} {k : List Item} {cs : List Frame} {j : Code} {a : Act} (hx : x.Ok) (hj : j = .ret ∨ ∃ id, j = .exit id ∧ exitTo id k = none) (h : Out P x w t b cs j a) : Run P x w t (b.atR a (.code j :: k)) cs := by
  unfold Out at h
  cases hr : b.roundOf with
  | none =>
    rw [hr] at h
    obtain ⟨rfl, h⟩ := h
    exact run_quiet hx (sg_ret hr) (h _)
  | some l =>
    rw [hr] at h
    obtain ⟨hk, v, w', caller, rest, h1, rfl, h2⟩ := h
    exact run_step hx (sg_leap hr hk h1 hj) h2
theorem aw_exit {id : Nat} (h : Q (.exit id) T H) : AW P (.exit id) Q T H := fun _ _ c w a t h1 h2 h3 b k' cs _ hn => by
  have := hn (.exit id) a w c t T H (Lw.refl c) h1 h2 h3 rfl h
  rw [after_exit] at this
  cases he : exitTo id k' with
  | some k'' =>
    rw [he] at this
    exact run_quiet h1.xok (sg_exit he) this
  | none =>
    rw [he] at this
    exact run_out h1.xok (.inr ⟨id, rfl, he⟩) this
theorem aw_ret (h : Q .ret T H) : AW P .ret Q T H := fun _ _ c w a t h1 h2 h3 _ _ _ _ hn =>
  run_out h1.xok (.inl rfl) (hn .ret a w c t T H (Lw.refl c) h1 h2 h3 rfl h)
def Then (P : Program) [Wins P] (y : Code) (Q : Post) : Post
  | .normal, T, H => AW P y Q T H
  | e, T, H => Q e T H
theorem then_normal {y : Code} (h : AW P y Q T H) : Then P y Q .normal T H := h
theorem then_exit {y : Code} {i : Nat} (h : Q (.exit i) T H) : Then P y Q (.exit i) T H := h
theorem then_ret {y : Code} (h : Q .ret T H) : Then P y Q .ret T H := h
theorem aw_seq {x y : Code} (h : AW P x (Then P y Q) T H) : AW P (.seq x y) Q T H := by
  intro B w0 c w a t h1 h2 h3 b k' cs hk hn
  refine run_quiet h1.xok sg_seq (h B w0 c w a t h1 h2 h3 b (.code y :: k') cs hk ?_)
  intro e a' w' c' t' T' H' x1 x2 x3 x4 x5 x6
  by_cases he : e = .normal
  · subst he
    exact x6 B w0 c' w' a' t' x2 x3 x4 b k' cs hk fun e2 a2 w2 c2 t2 T2 H2 y1 y2 y3 y4 y5 y6 => hn e2 a2 w2 c2 t2 T2 H2 (x1.trans y1) y2 y3 y4 (y5.trans x5) y6
  · refine (hn e a' w' c' t' T' H' x1 x2 x3 x4 x5 ?_).push (fun _ h => by cases h) he
    cases e with
    | normal => exact absurd rfl he
    | exit id => exact x6
    | goto l => exact x6
    | ret => exact x6
    | panic ch => exact x6
    | outgrown => exact x6
def InBlock (id : Nat) (Q : Post) : Post
  | .exit id', T, H => if id' = id then Q .normal T H else Q (.exit id') T H
  | e, T, H => Q e T H
theorem inBlock_normal {id : Nat} (h : Q .normal T H) : InBlock id Q .normal T H := h
theorem inBlock_ret {id : Nat} (h : Q .ret T H) : InBlock id Q .ret T H := h
theorem inBlock_here {id : Nat} (h : Q .normal T H) : InBlock id Q (.exit id) T H := by simpa [InBlock] using h
theorem inBlock_past {id i : Nat} (hne : (i == id) = false) (h : Q (.exit i) T H) : InBlock id Q (.exit i) T H := by
  have : i ≠ id := by simpa using hne
  simpa [InBlock, this] using h
theorem aw_block {id : Nat} {k : Code} (h : AW P k (InBlock id Q) T H) : AW P (.block id k) Q T H := by
  intro B w0 c w a t h1 h2 h3 b k' cs hk hn
  refine run_quiet h1.xok sg_block (h B w0 c w a t h1 h2 h3 b (.inBlock id :: k') cs hk ?_)
  intro e a' w' c' t' T' H' x1 x2 x3 x4 x5 x6
  cases e with
  | normal => exact run_quiet x2.xok sg_inBlock (hn .normal a' w' c' t' T' H' x1 x2 x3 x4 x5 x6)
  | exit id' =>
    by_cases hid : id' = id
    · subst hid
      have q : Q .normal T' H' := by simpa [InBlock] using x6
      have := hn .normal a' w' c' t' T' H' x1 x2 x3 x4 x5 q
      rw [after_exit]
      simp only [exitTo, beq_self_eq_true, if_true]
      exact this
    · have q : Q (.exit id') T' H' := by simpa [InBlock, hid] using x6
      have := hn (.exit id') a' w' c' t' T' H' x1 x2 x3 x4 x5 q
      rw [after_exit] at this ⊢
      have e : exitTo id' (.inBlock id :: k') = exitTo id' k' := by
        have : (id == id') = false := by simp; exact fun h => hid h.symm
        simp [exitTo, this]
      rw [e]
      exact this
  | goto l => exact hn (.goto l) a' w' c' t' T' H' x1 x2 x3 x4 x5 x6
  | ret => exact hn .ret a' w' c' t' T' H' x1 x2 x3 x4 x5 x6
  | panic ch => exact hn (.panic ch) a' w' c' t' T' H' x1 x2 x3 x4 x5 x6
  | outgrown => exact hn .outgrown a' w' c' t' T' H' x1 x2 x3 x4 x5 x6
theorem aw_cond {k : Operand} {x y : Code} {b : Bool} (hc : evalT T k = .d (.v (.bool b))) (ht : b = true → AW P x Q T H) (hf : b = false → AW P y Q T H) : AW P (.cond k x y) Q T H := by
  intro B w0 c w a t h1 h2 h3 b' k' cs hk hn
  have he := h3.eval k
  rw [hc] at he
  have he' := he.v_eq
  refine run_quiet h1.xok (sg_cond he') ?_
  cases b with
  | true => exact ht rfl B w0 c w a t h1 h2 h3 b' k' cs hk hn
  | false => exact hf rfl B w0 c w a t h1 h2 h3 b' k' cs hk hn
def Again (n : Nat) (I : Nat → List AV → HS → Prop) (Q : Post) : Post
  | .normal, T, H => ∃ m, m < n ∧ I m T H
  | e, T, H => Q e T H
theorem again_exit {n : Nat} {I : Nat → List AV → HS → Prop} {i : Nat} (h : Q (.exit i) T H) : Again n I Q (.exit i) T H := h
theorem again_ret {n : Nat} {I : Nat → List AV → HS → Prop} (h : Q .ret T H) : Again n I Q .ret T H := h
theorem aw_loop {k : Code} (I : Nat → List AV → HS → Prop) (n : Nat) (h0 : I n T H) (h : ∀ n T H, I n T H → AW P k (Again n I Q) T H) : AW P (.loop k) Q T H := by
  intro B w0 c w a t h1 h2 h3 b k' cs hk hn
  refine run_quiet h1.xok sg_loop ?_
  have key : ∀ (N n : Nat) (c1 : Ctx) (w1 : World) (a1 : Act) (t1 : Trace) (T1 : List AV) (H1 : HS), n ≤ N → Lw c c1 → Inv B w0 c1 H1 w1 → Held c1 t1 → RepT c1 a1.tmps T1 → a1.defers = a.defers → I n T1 H1 → Run P c1.x w1 t1 (b.atR a1 (.code k :: .inLoop k :: k')) cs := by
    intro N
    induction N with
    | zero =>
      intro n c1 w1 a1 t1 T1 H1 hn0 l1 i1 s1 r1 d1 hI
      refine h n T1 H1 hI B w0 c1 w1 a1 t1 i1 s1 r1 b (.inLoop k :: k') cs hk ?_
      intro e a' w' c' t' T' H' x1 x2 x3 x4 x5 x6
      by_cases he : e = .normal
      · subst he
        obtain ⟨m, hm, _⟩ := x6
        omega
      · refine (hn e a' w' c' t' T' H' (l1.trans x1) x2 x3 x4 (x5.trans d1) ?_).push (fun _ h => by cases h) he
        cases e <;> first | exact absurd rfl he | exact x6
    | succ N ih =>
      intro n c1 w1 a1 t1 T1 H1 hn0 l1 i1 s1 r1 d1 hI
      refine h n T1 H1 hI B w0 c1 w1 a1 t1 i1 s1 r1 b (.inLoop k :: k') cs hk ?_
      intro e a' w' c' t' T' H' x1 x2 x3 x4 x5 x6
      by_cases he : e = .normal
      · subst he
        obtain ⟨m, hm, hI'⟩ := x6
        exact run_quiet x2.xok sg_inLoop (ih m c' w' a' t' T' H' (by omega) (l1.trans x1) x2 x3 x4 (x5.trans d1) hI')
      · refine (hn e a' w' c' t' T' H' (l1.trans x1) x2 x3 x4 (x5.trans d1) ?_).push (fun _ h => by cases h) he
        cases e <;> first | exact absurd rfl he | exact x6
  exact key n n c w a t T H (Nat.le_refl _) (Lw.refl c) h1 h2 h3 rfl h0
def NoGo (Q : Post) : Post
  | .goto _, _, _ => False
  | e, T, H => Q e T H
theorem aw_scope {k : Code} (h : AW P k (NoGo Q) T H) : AW P (.scope k) Q T H := by
  intro B w0 c w a t h1 h2 h3 b k' cs hk hn
  refine run_quiet h1.xok sg_scope (h B w0 c w a t h1 h2 h3 b (.inScope k :: k') cs hk ?_)
  intro e a' w' c' t' T' H' x1 x2 x3 x4 x5 x6
  by_cases he : e = .normal
  · subst he
    exact run_quiet x2.xok sg_inScope (hn .normal a' w' c' t' T' H' x1 x2 x3 x4 x5 x6)
  · cases e with
    | normal => exact absurd rfl he
    | goto l => exact x6.elim
    | exit id => exact (hn (.exit id) a' w' c' t' T' H' x1 x2 x3 x4 x5 x6).push (fun _ h => by cases h) he
    | ret => exact (hn .ret a' w' c' t' T' H' x1 x2 x3 x4 x5 x6).push (fun _ h => by cases h) he
    | panic ch => exact (hn (.panic ch) a' w' c' t' T' H' x1 x2 x3 x4 x5 x6).push (fun _ h => by cases h) he
    | outgrown => exact (hn .outgrown a' w' c' t' T' H' x1 x2 x3 x4 x5 x6).push (fun _ h => by cases h) he
theorem aw_region {id : Nat} {l : List Oper} (h : AL P l.toArray l Q T H) : AW P (.region id l.toArray false) Q T H := by
  intro B w0 c w a t h1 h2 h3 b k' cs hk hn
  refine run_quiet h1.xok sg_region ?_
  have := h 0 (by simp) B w0 c w a t h1 h2 h3 b k' cs hk hn
  rw [List.range_eq_range']
  simpa using this
theorem al_nil {ops : Array Oper} (h : Q .normal T H) : AL P ops [] Q T H := fun _ _ _ _ c w a t h1 h2 h3 _ _ _ _ hn =>
  run_quiet h1.xok sg_regionEnd (hn .normal a w c t T H (Lw.refl c) h1 h2 h3 rfl h)
theorem put_defers (a : Act) (d : Option Tmp) (v : Value) : (a.put d v).defers = a.defers := by cases d <;> rfl
theorem drop_at {α : Type} {l : List α} {n : Nat} {x : α} {r : List α} (h : l.drop n = x :: r) : l[n]? = some x ∧ l.drop (n + 1) = r := by
  have h1 : (l.drop n)[0]? = some x := by rw [h]; rfl
  rw [List.getElem?_drop] at h1
  refine ⟨by simpa using h1, ?_⟩
  rw [← List.drop_drop, h]
  rfl
theorem al_consW {ops : Array Oper} {o : Oper} {l : List Oper} (R : AV → HS → Prop) (ho : OpR P o (evalT T) H R) (hg : ∀ c (a : Act), RepT c a.tmps T → Region.wanted o (yielded ops a.tmps) = true) (h : ∀ v H', R v H' → AL P ops l Q (putT T o.dst v) H') : AL P ops (o :: l) Q T H := by
  intro n hd B w0 c w a t h1 h2 h3 b k' cs hk hn
  obtain ⟨e1, e2⟩ := drop_at hd
  rw [List.length_cons, List.range'_succ]
  refine ho B w0 c w a t h1 h2 (fun x _ => h3.eval x) b ops n _ k' cs hk (by simpa using e1) (hg c a h3) fun v' w' c' av H' t' l1 r1 i1 s1 rr => ?_
  exact h av H' rr (n + 1) e2 B w0 c' w' _ t' i1 s1 ((h3.mono l1).put o.dst r1) b k' cs hk fun e a2 w2 c2 t2 T2 H2 y1 y2 y3 y4 y5 y6 => hn e a2 w2 c2 t2 T2 H2 (l1.trans y1) y2 y3 y4 (y5.trans (put_defers ..)) y6
theorem al_cons {ops : Array Oper} {o : Oper} {l : List Oper} (R : AV → HS → Prop) (ho : OpR P o (evalT T) H R) (hg : o.guard = none) (h : ∀ v H', R v H' → AL P ops l Q (putT T o.dst v) H') : AL P ops (o :: l) Q T H :=
  al_consW R ho (fun _ _ _ => by simp [Region.wanted, hg]) h
theorem al_step {ops : Array Oper} {o : Oper} {l : List Oper} {v : AV} {H' : HS} (ho : OpR P o (evalT T) H (Ret v H')) (hg : o.guard = none) (h : AL P ops l Q (putT T o.dst v) H') : AL P ops (o :: l) Q T H :=
  al_cons _ ho hg fun _ _ ⟨h1, h2⟩ => by subst h1; subst h2; exact h
theorem yielded_of {c : Ctx} {a : Act} {ops : Array Oper} (h2 : RepT c a.tmps T) {g d : Nat} {x : Bool} (hd : ((ops[g]?).bind (·.dst)) = some d) (hx : T[d]? = some (.d (.v (.bool x)))) : yielded ops a.tmps g = some x := by
  have hlt : d < T.length := (List.getElem?_eq_some_iff.1 hx).1
  have := h2.at_ d hlt
  rw [List.getD_eq_getElem?_getD, hx] at this
  have e := this.v_eq
  have hs : d < a.tmps.size := by rw [h2.size]; exact hlt
  simp [hs] at e
  unfold yielded
  rw [hd]
  simp [hs, e]
theorem al_consw {ops : Array Oper} {o : Oper} {l : List Oper} {g d : Nat} {x : Bool} (R : AV → HS → Prop) (ho : OpR P o (evalT T) H R) (hg : o.guard = some (g, x)) (hd : ((ops[g]?).bind (·.dst)) = some d) (hx : T[d]? = some (.d (.v (.bool x))))
    (h : ∀ v H', R v H' → AL P ops l Q (putT T o.dst v) H') : AL P ops (o :: l) Q T H :=
  al_consW R ho (fun _ _ h2 => by simp [Region.wanted, hg, yielded_of h2 hd hx]) h
theorem al_wanted {ops : Array Oper} {o : Oper} {l : List Oper} {v : AV} {H' : HS} {g d : Nat} {x : Bool} (hg : o.guard = some (g, x)) (hd : ((ops[g]?).bind (·.dst)) = some d) (hx : T[d]? = some (.d (.v (.bool x))))
    (ho : OpR P o (evalT T) H (Ret v H')) (h : AL P ops l Q (putT T o.dst v) H') : AL P ops (o :: l) Q T H :=
  al_consw _ ho hg hd hx fun _ _ ⟨h1, h2⟩ => by subst h1; subst h2; exact h
theorem al_skipW {ops : Array Oper} {o : Oper} {l : List Oper} (hw : ∀ c (a : Act), RepT c a.tmps T → Region.wanted o (yielded ops a.tmps) = false) (h : AL P ops l Q (putT T o.dst .nv) H) : AL P ops (o :: l) Q T H := by
  intro n hd B w0 c w a t h1 h2 h3 b k' cs hk hn
  obtain ⟨e1, e2⟩ := drop_at hd
  rw [List.length_cons, List.range'_succ]
  refine run_quiet h1.xok (sg_unwanted (by simpa using e1) (hw c a h3)) ?_
  exact h (n + 1) e2 B w0 c w _ t h1 h2 (h3.put o.dst .nv) b k' cs hk fun e a2 w2 c2 t2 T2 H2 y1 y2 y3 y4 y5 y6 => hn e a2 w2 c2 t2 T2 H2 y1 y2 y3 y4 (y5.trans (put_defers ..)) y6
theorem al_unwanted {ops : Array Oper} {o : Oper} {l : List Oper} {g d : Nat} {x y : Bool} (hg : o.guard = some (g, y)) (hd : ((ops[g]?).bind (·.dst)) = some d) (hx : T[d]? = some (.d (.v (.bool x)))) (hne : (x == y) = false)
    (h : AL P ops l Q (putT T o.dst .nv) H) : AL P ops (o :: l) Q T H :=
  al_skipW (fun _ _ h2 => by
    have : x ≠ y := by simpa using hne
    simp [Region.wanted, hg, yielded_of h2 hd hx, this]) h
theorem Rep.nv_eq {c : Ctx} {x : Value} (h : Rep c x .nv) : x = undef := by
  cases h with
  | nv => rfl
theorem yielded_nv {c : Ctx} {a : Act} {ops : Array Oper} (h2 : RepT c a.tmps T) {g d : Nat} (hd : ((ops[g]?).bind (·.dst)) = some d) (hx : T[d]? = some .nv) : yielded ops a.tmps g = none := by
  have hlt : d < T.length := (List.getElem?_eq_some_iff.1 hx).1
  have := h2.at_ d hlt
  rw [List.getD_eq_getElem?_getD, hx] at this
  have e := this.nv_eq
  have hs : d < a.tmps.size := by rw [h2.size]; exact hlt
  simp [hs] at e
  unfold yielded
  rw [hd]
  simp [hs, e, undef]
theorem al_unwanted0 {ops : Array Oper} {o : Oper} {l : List Oper} {g d : Nat} {y : Bool} (hg : o.guard = some (g, y)) (hd : ((ops[g]?).bind (·.dst)) = some d) (hx : T[d]? = some .nv)
    (h : AL P ops l Q (putT T o.dst .nv) H) : AL P ops (o :: l) Q T H :=
  al_skipW (fun _ _ h2 => by simp [Region.wanted, hg, yielded_nv h2 hd hx]) h
def RetPost (rs : Array ResultVar) (R : AV → HS → Prop) : Post := fun e T H => (e = .ret ∨ e = .normal) ∧
  ∃ av, R av H ∧ ((∃ t, rs = #[.tmp t] ∧ T[t]? = some av) ∨ (∃ t u x y, rs = #[.tmp t, .tmp u] ∧ T[t]? = some x ∧ T[u]? = some y ∧ av = .tup [x, y]) ∨ (rs = #[] ∧ av = .tup []) ∨
    (∃ t u s x y z, rs = #[.tmp t, .tmp u, .tmp s] ∧ T[t]? = some x ∧ T[u]? = some y ∧ T[s]? = some z ∧ av = .tup [x, y, z]))
theorem retPost1 {rs : Array ResultVar} {R : AV → HS → Prop} {t : Tmp} {av : AV} (hr : rs = #[.tmp t]) (ht : T[t]? = some av) (h : R av H) : RetPost rs R .ret T H := ⟨.inl rfl, av, h, .inl ⟨t, hr, ht⟩⟩
theorem retPost2 {rs : Array ResultVar} {R : AV → HS → Prop} {t u : Tmp} {x y : AV} (hr : rs = #[.tmp t, .tmp u]) (ht : T[t]? = some x) (hu : T[u]? = some y) (h : R (.tup [x, y]) H) : RetPost rs R .ret T H :=
  ⟨.inl rfl, _, h, .inr (.inl ⟨t, u, x, y, hr, ht, hu, rfl⟩)⟩
theorem retPost0 {rs : Array ResultVar} {R : AV → HS → Prop} {e : Exit} (he : e = .ret ∨ e = .normal) (hr : rs = #[]) (h : R (.tup []) H) : RetPost rs R e T H := ⟨he, _, h, .inr (.inr (.inl ⟨hr, rfl⟩))⟩
theorem getD_of {c : Ctx} {tmps : Array Value} (h : RepT c tmps T) {t : Nat} {av : AV} (ht : T[t]? = some av) : Rep c (tmps.getD t undef) av := by
  have hlt : t < T.length := (List.getElem?_eq_some_iff.1 ht).1
  have := h.at_ t hlt
  rwa [List.getD_eq_getElem?_getD, ht] at this
theorem repT_args {c : Ctx} {vs : Array Value} {args : List AV} {n : Nat} (hs : vs.size = args.length) (ha : ∀ i (hi : i < args.length), Rep c (vs.getD i undef) args[i]) :
    RepT c (vs ++ Array.replicate (n - vs.size) undef) (args ++ List.replicate (n - args.length) .un) := by
  refine ⟨by simp [hs], fun i hi => ?_⟩
  by_cases hlt : i < args.length
  · have e1 : (vs ++ Array.replicate (n - vs.size) undef).getD i undef = vs.getD i undef := by
      have : i < vs.size := by omega
      have h2 : i < vs.size + (n - vs.size) := by omega
      simp [this, h2, Array.getElem_append_left this]
    have e2 : (args ++ List.replicate (n - args.length) AV.un).getD i .un = args[i] := by
      simp [List.getD_eq_getElem?_getD, List.getElem?_append_left hlt, hlt]
    rw [e1, e2]
    exact ha i hlt
  · have e2 : (args ++ List.replicate (n - args.length) AV.un).getD i .un = .un := by
      rw [List.getD_eq_getElem?_getD, List.getElem?_append_right (by omega), List.getElem?_replicate]
      split <;> rfl
    rw [e2]
    exact .un _
theorem acalls_body {f : FuncId} {fn : Func} {k : Code} {args : List AV} {R : AV → HS → Prop} (hf : P.funcs[f]? = some fn) (hb : fn.body = some k) (Q : Post) (h : AW P k Q (args ++ List.replicate (fn.ntmps - args.length) .un) H)
    (hq : ∀ e T' H', Q e T' H' → (e = .ret ∨ e = .normal) ∧ ∀ (B : Nat) (w0 : World) (c : Ctx) (w : World) (tmps : Array Value), Inv B w0 c H' w → RepT c tmps T' → ∃ v av H2 c2, (results fn tmps).run P w = .ok v w ∧ Le c c2 ∧ Rep c2 v av ∧ Inv B w0 c2 H2 w ∧ R av H2) : ACalls P f args H R := by
  intro B w0 c w t vs hI hB hs ha kind cs hk hn
  have he : Frame.enter P f vs kind = (Frame.mk f #[] [] [] .run kind none).atR { tmps := vs ++ Array.replicate (fn.ntmps - vs.size) undef, defers := [] } [.code k] := by
    simp [Frame.enter, hf, hb, Frame.atR]
  rw [he]
  refine h B w0 c w _ t hI hB (repT_args hs ha) _ [] cs (by rcases hk with rfl | rfl <;> simp) ?_
  intro e a' w' c' t' T' H' x1 x2 x3 x4 x5 x6
  obtain ⟨hee, hrs⟩ := hq e T' H' x6
  obtain ⟨v, av, H2, c2, r1, r2, r3, r4, r5⟩ := hrs B w0 c' w' a'.tmps x2 x4
  have fin : ∀ todo, Run P c'.x w' t' { (Frame.mk f #[] [] [] .run kind none).atR a' todo with mode := .returning } cs := by
    intro todo
    have := hn v w' c2 av H2 t' { (Frame.mk f #[] [] [] .run kind none).atR a' todo with mode := .returning } (x1.trans r2) r3 r4 (by unfold Held; rw [r2.x]; exact x3.mono r2.mem fun _ h => h) r5 ⟨rfl, rfl, rfl, x5, rfl, fn, hf, r1⟩
    rw [r2.x] at this
    exact this
  rcases hee with rfl | rfl
  · exact ⟨rfl, fin⟩
  · exact run_quiet x2.xok (sg_end rfl) (fin [])
theorem acalls_of_aw {f : FuncId} {fn : Func} {k : Code} {args : List AV} {R : AV → HS → Prop} (hf : P.funcs[f]? = some fn) (hb : fn.body = some k)
    (h : AW P k (RetPost fn.results R) (args ++ List.replicate (fn.ntmps - args.length) .un) H) : ACalls P f args H R := by
  refine acalls_body hf hb _ h ?_
  rintro e T' H' ⟨he, av, hR, hres⟩
  refine ⟨he, fun B w0 c' w' tmps x2 x3 => ?_⟩
  have key : ∃ v, (results fn tmps).run P w' = .ok v w' ∧ Rep c' v av := by
    rcases hres with ⟨t, hr, ht⟩ | ⟨t, u, x, y, hr, ht, hu, rfl⟩ | ⟨hr, rfl⟩ | ⟨t, u, s, x, y, z, hr, ht, hu, hs', rfl⟩
    · exact ⟨_, results_tmp hr _ P w', getD_of x3 ht⟩
    · refine ⟨_, results_tmp2 hr _ P w', .tup _ _ rfl fun i hi => ?_⟩
      have hh1 := getD_of x3 ht
      have hh2 := getD_of x3 hu
      rcases i with _ | _ | i
      · exact hh1
      · exact hh2
      · simp at hi; omega
    · exact ⟨_, results_none hr _ P w', .tup _ _ rfl fun i hi => by simp at hi⟩
    · refine ⟨.tuple #[tmps.getD t undef, tmps.getD u undef, tmps.getD s undef], by simp [results, hr], .tup _ _ rfl fun i hi => ?_⟩
      have hh1 := getD_of x3 ht
      have hh2 := getD_of x3 hu
      have hh3 := getD_of x3 hs'
      rcases i with _ | _ | _ | i
      · exact hh1
      · exact hh2
      · exact hh3
      · simp at hi; omega
  obtain ⟨v, hv, hrep⟩ := key
  exact ⟨v, av, H', c', hv, Le.refl c', hrep, x2, hR⟩
end
def HS.cut (H : HS) (nb nt : Nat) : HS := { H with blks := H.blks.take nb, toks := H.toks.take nt }
def Ctx.cut (c : Ctx) (nb nt : Nat) : Ctx := { c with blk := c.blk.take nb, tok := c.tok.take nt }
inductive Fits (nb nt : Nat) : AV → Prop
  | un : Fits nb nt .un
  | nv : Fits nb nt .nv
  | d (x : DV) : Fits nb nt (.d x)
  | own0 (sz : Nat) (xs : List DV) : Fits nb nt (.own none sz xs)
  | own (i sz : Nat) (xs : List DV) (h : i < nt) : Fits nb nt (.own (some i) sz xs)
  | elt (cs : List DV) : Fits nb nt (.elt cs)
  | ptr (id off : Nat) (h : id < nb) : Fits nb nt (.ptr id off)
  | arr (id n cap : Nat) (h : id < nb) : Fits nb nt (.arr id n cap)
  | sub (id off n cap : Nat) (h : id < nb) : Fits nb nt (.sub id off n cap)
  | agg (cs : List AV) (h : ∀ i (hi : i < cs.length), Fits nb nt cs[i]) : Fits nb nt (.agg cs)
  | tup (cs : List AV) (h : ∀ i (hi : i < cs.length), Fits nb nt cs[i]) : Fits nb nt (.tup cs)
  | fn (f : Fn) (fs cs : List AV) (h : ∀ i (hi : i < fs.length), Fits nb nt fs[i]) (h' : ∀ i (hi : i < cs.length), Fits nb nt cs[i]) : Fits nb nt (.fn f fs cs)
  | map (id : Nat) : Fits nb nt (.map id)
  | iter (id : Nat) : Fits nb nt (.iter id)
theorem Rep.cut {c : Ctx} {nb nt : Nat} {x : Value} {y : AV} (h : Rep c x y) (hf : Fits nb nt y) : Rep (c.cut nb nt) x y := by
  induction h with
  | un x => exact .un x
  | nv => exact .nv
  | d h => exact .d h
  | own0 sz => exact .own0 sz
  | own1 g o n sz xs h => exact .own1 g o n sz xs h
  | ownt i e g n cap sz xs h ht hn he =>
    cases hf with
    | own _ _ _ hi => exact .ownt i e g n cap sz xs h (by show (c.tok.take nt)[i]? = _; rw [List.getElem?_take, if_pos hi]; exact ht) hn he
  | elt g o cs us h1 hm h => exact .elt g o cs us h1 hm h
  | ptr id off g h =>
    cases hf with
    | ptr _ _ hi => exact .ptr id off g (by show (c.blk.take nb)[id]? = _; rw [List.getElem?_take, if_pos hi]; exact h)
  | arr id n cap g h =>
    cases hf with
    | arr _ _ _ hi => exact .arr id n cap g (by show (c.blk.take nb)[id]? = _; rw [List.getElem?_take, if_pos hi]; exact h)
  | sub id off n cap g h =>
    cases hf with
    | sub _ _ _ _ hi => exact .sub id off n cap g (by show (c.blk.take nb)[id]? = _; rw [List.getElem?_take, if_pos hi]; exact h)
  | agg vs cs hl _ ih =>
    cases hf with
    | agg _ h => exact .agg vs cs hl fun i hi => ih i hi (h i hi)
  | tup vs cs hl _ ih =>
    cases hf with
    | tup _ h => exact .tup vs cs hl fun i hi => ih i hi (h i hi)
  | fn f fs cs fs' cs' hl _ hl' _ hy ih ih' =>
    cases hf with
    | fn _ _ _ h h' => exact .fn f fs cs fs' cs' hl (fun i hi => ih i hi (h i hi)) hl' (fun i hi => ih' i hi (h' i hi)) hy
  | yld l idx hm => exact .yld l idx hm
  | map id g h => exact .map id g h
  | iter id g h => exact .iter id g h
def MFits (nb nt : Nat) (H : HS) : Prop := ∀ (i : Nat) (ps : Array Tmp) (asg bd : Code) (st : LoopState) (pend : Option Code) (T : List AV), H.maps[i]? = some (.rnd ps asg bd st pend T) → ∀ j (hj : j < T.length), Fits nb nt T[j]
theorem Inv.cut {B : Nat} {w0 w : World} {c : Ctx} {H : HS} (h : Inv B w0 c H w) (nb nt : Nat) (hf : ∀ i b, i < nb → H.blks[i]? = some b → ∀ j (hj : j < b.cs.length), Fits nb nt b.cs[j]) (hmf : MFits nb nt H) : Inv B w0 (c.cut nb nt) (H.cut nb nt) w := by
  have hb : ∀ (i g : Nat), (c.blk.take nb)[i]? = some g → i < nb ∧ c.blk[i]? = some g := by
    intro i g hi
    rw [List.getElem?_take] at hi
    split at hi
    · exact ⟨by assumption, hi⟩
    · cases hi
  have ht : ∀ (i : Nat) (e : Tok), (c.tok.take nt)[i]? = some e → i < nt ∧ c.tok[i]? = some e := by
    intro i g hi
    rw [List.getElem?_take] at hi
    split at hi
    · exact ⟨by assumption, hi⟩
    · cases hi
  refine ⟨h.base, h.below, h.mem, by simp [Ctx.cut, HS.cut, h.blkLen], fun i g b hg hbb => ?_, fun i j g hi hj => h.blkInj i j g (hb i g hi).2 (hb j g hj).2, by simp [Ctx.cut, HS.cut, h.tokLen], fun i e he => ?_, fun i j e e' hi hj => h.tokInj i j e e' (ht i e hi).2 (ht j e' hj).2, ⟨h.maps.len, h.maps.inj, fun i g m hi hj => ?_⟩, h.cx, h.xok⟩
  · obtain ⟨hlt, hg'⟩ := hb i g hg
    have hb' : H.blks[i]? = some b := by
      have : (H.blks.take nb)[i]? = some b := hbb
      rwa [List.getElem?_take, if_pos hlt] at this
    obtain ⟨q1, q2, cur, fr, q3, q4, q5, q6⟩ := h.blk i g b hg' hb'
    exact ⟨q1, q2, cur, fr, q3, q4, q5, fun j hj => (q6 j hj).cut (hf i b hlt hb' j hj)⟩
  · obtain ⟨hlt, he'⟩ := ht i e he
    obtain ⟨q1, q2, q3, q4, q5, q6⟩ := h.tok i e he'
    refine ⟨?_, q2, q3, q4, fun j hj => q5 j (hb j _ hj).2, q6⟩
    show (H.toks.take nt)[i]? = _
    rw [List.getElem?_take, if_pos hlt]
    exact q1
  · obtain ⟨q1, q2⟩ := h.maps.is i g m hi hj
    refine ⟨q1, ?_⟩
    cases q2 with
    | map g es xs clock hw h => exact .map g es xs clock hw h
    | iter g id r n last xs clock seen hm hr hw hn hd hs hl => exact .iter g id r n last xs clock seen hm hr hw hn hd hs hl
    | dead g n last r a b seen hw => exact .dead g n last r a b seen hw
    | other g o hw hn hnm => exact .other g o hw hn hnm
    | recd g fn D tmps ps asg bd st pend T hw hs hT => exact .recd g fn D tmps ps asg bd st pend T hw hs fun k hk => (hT k hk).cut (hmf i _ _ _ _ _ _ hj k hk)
theorem op_call {P : Program} [Wins P] {E : Operand → AV} {H : HS} {R : AV → HS → Prop} {dst : Option Tmp} {fo : Operand} {args : Array Operand} {ts : Array TypeId} {ty : TypeId} {pos : String} {after : Array Edge} {gd : Option (Nat × Bool)}
    {f : FuncId} {fs cs : List AV} {fn : Func} (hE : E fo = .fn (.func f) fs cs) (hfn : P.funcs[f]? = some fn) (hname : (fn.name == "runtime.NumGoroutine") = false) (hbody : fn.body.isNone = false)
    (h : ACalls P f (fs ++ args.toList.map E ++ cs) H R) : OpR P ⟨dst, .call ⟨.value fo, args, ts⟩, ty, pos, after, gd⟩ E H R := by
  intro B w0 c w a t hI hB hops b ops i0 rest k cs0 hk ho hwt hnext
  have hf : Rep c (a.eval fo) (.fn (.func f) fs cs) := hE ▸ hops fo (by simp [Op.operands, Call.operands])
  cases hv : a.eval fo with
  | func fn' fv cv =>
    rw [hv] at hf
    cases hf with
    | fn _ _ _ _ _ hl h1 hl' h1' =>
    have hn : fn.name ≠ "runtime.NumGoroutine" := by simpa using hname
    have hb : ¬ fn.body = none := by intro hh; rw [hh] at hbody; cases hbody
    have hrun : (execOp a.eval ⟨dst, .call ⟨.value fo, args, ts⟩, ty, pos, after, gd⟩).run P w = .ok (.enter f (fv ++ args.map a.eval ++ cv)) w := by
      simp [execOp, resolve, hv, Deferred.ofValue, invoke, callFunc, program, Sem.run, hfn, hn, hb]
    have hev : (execOp a.eval ⟨dst, .call ⟨.value fo, args, ts⟩, ty, pos, after, gd⟩).events P w #[] = #[] := by
      simp [execOp, resolve, hv, Deferred.ofValue, invoke, callFunc, program, Sem.events, Sem.runT, hfn, hn, hb, Bind.bind, Sem.bind, Pure.pure]
    refine run_step hI.xok (sg_enter ho hwt hk hrun) fun pos' => ?_
    rw [hev]
    have hseen : seen P b.fn #[] = #[] := by simp [seen]
    rw [hseen]
    have ht : t ++ MemOp.ofEvents c.x.me (b.atR a (.inRegion ops (i0 :: rest) :: k)).fn pos' #[] = t := by simp [MemOp.ofEvents]
    rw [ht]
    refine h B w0 c w t _ hI hB (by simp [hl, hl']) ?_ .normal _ (.inl rfl) ?_
    · intro i hi
      by_cases h2 : i < fv.size
      · have e1 : (fv ++ args.map a.eval ++ cv).getD i undef = fv.getD i undef := by
          rw [getD_left (by simp; omega), getD_left h2]
        have e2 : (fs ++ args.toList.map E ++ cs)[i] = fs[i]'(by omega) := by
          rw [List.getElem_append_left (by simp; omega), List.getElem_append_left]
        rw [e1, e2]
        exact h1 i (by omega)
      · by_cases h3 : i < fv.size + args.size
        · have hx : i - fv.size < args.size := by omega
          have e1 : (fv ++ args.map a.eval ++ cv).getD i undef = a.eval (args[i - fv.size]'hx) := by
            rw [getD_left (by simp; omega), getD_right (by omega)]
            simp [hx]
          have e2 : (fs ++ args.toList.map E ++ cs)[i] = E (args[i - fv.size]'hx) := by
            rw [List.getElem_append_left (by simp; omega), List.getElem_append_right (by omega)]
            simp only [List.getElem_map, Array.getElem_toList]
            congr 2
            omega
          rw [e1, e2]
          exact hops _ (by simp [Op.operands, Call.operands])
        · simp at hi
          have e1 : (fv ++ args.map a.eval ++ cv).getD i undef = cv.getD (i - (fv.size + args.size)) undef := by
            rw [getD_right (by simp; omega)]
            simp
          have h6 : i - (fv.size + args.size) < cs.length := by omega
          have e2 : (fs ++ args.toList.map E ++ cs)[i] = cs[i - (fv.size + args.size)]'h6 := by
            rw [List.getElem_append_right (by simp; omega)]
            congr 1
            simp
            omega
          rw [e1, e2]
          exact h1' _ h6
    · intro v w' c' av H' t' fr q1 q2 q3 q4 q5 q6
      obtain ⟨fn2, _, hst⟩ := sg_leave (P := P) (main := c'.x.me == 0) (caller := b.atR a (.inRegion ops (i0 :: rest) :: k)) (cs := cs0) q6
      have hfin : (b.atR a (.inRegion ops (i0 :: rest) :: k)).finish v = b.atR (a.put dst v) (.inRegion ops rest :: k) := by rw [Frame.finish_atR, ho]; rfl
      refine run_step q3.xok hst fun pos2 => ?_
      rw [hfin]
      exact hnext v w' c' av H' _ q1 q2 q3 (q4.evs' (still_events q3 (wr_results _ _) _) (Le.refl c')) q5
  | _ =>
    rw [hv] at hf
    cases hf
end Go.AV
