/-
  The AV logic, part 9: heirs of a list, slots forgotten, and small things for the walks.
-/
import Derived.Test.YtjamnhofbkgblaaA8
namespace Go.AV
open Go.RowKit

theorem App.ll {v : AV} {t : Option Nat} {sz : Nat} {xs : List DV} (h : App v t sz xs) : LL v sz xs := by
  cases h with
  | own => exact .own _ _ _
  | nil => exact .nil _
/-- H' at t' is what became of H at t by appends alone. -/
structure Heir (H : HS) (t : Option Nat) (H' : HS) (t' : Option Nat) : Prop where
  up : ∀ n, H'.up t' n = H.up t n
  tk : H'.tk t' = H.tk t
theorem Heir.refl (H : HS) (t : Option Nat) : Heir H t H t := ⟨fun _ => rfl, rfl⟩
theorem Heir.step {H H' : HS} {t t' : Option Nat} (h : Heir H t H' t') (n : Nat) : Heir H t (H'.up t' n) (some (H'.tk t')) := ⟨fun m => by rw [HS.up_up]; exact h.up m, by rw [HS.tk_some]; exact h.tk⟩
theorem Heir.trans {H H' H'' : HS} {t t' t'' : Option Nat} (h : Heir H t H' t') (k : Heir H' t' H'' t'') : Heir H t H'' t'' := ⟨fun n => (k.up n).trans (h.up n), k.tk.trans h.tk⟩
/-- v, held at t in H', is the heir of t in H, and has the bytes l. -/
structure Bytes (H : HS) (t : Option Nat) (v : AV) (H' : HS) (l : List UInt8) : Prop where
  ex : ∃ t', App v t' 1 (l.map BY) ∧ Heir H t H' t' ∧ H'.ok t' l.length
theorem Bytes.own {H : HS} {t : Option Nat} {v : AV} {l : List UInt8} (h : App v t 1 (l.map BY)) (hok : H.ok t l.length) : Bytes H t v H l := ⟨⟨t, h, Heir.refl _ _, hok⟩⟩
theorem Bytes.grown {H H' : HS} {t t' : Option Nat} {l' : List UInt8} {m n : Nat} (hh : Heir H t H' t') (hok : H'.ok t' m) (hm : n = l'.length) : Bytes H t (.own (some (H'.tk t')) 1 (l'.map BY)) (H'.up t' n) l' :=
  ⟨⟨_, .own _ _ _, hh.step n, by rw [← hm]; exact HS.ok_up H' t' n hok⟩⟩

theorem Bytes.mk' {H H' : HS} {t t' : Option Nat} {v : AV} {xs : List DV} {l : List UInt8} (h : App v t' 1 xs) (hx : xs = l.map BY) (hh : Heir H t H' t') (hok : H'.ok t' xs.length) : Bytes H t v H' l := by
  subst hx
  exact ⟨⟨t', h, hh, by simpa using hok⟩⟩
theorem Bytes.grown' {H H' : HS} {t t' : Option Nat} {xs : List DV} {l' : List UInt8} {m n : Nat} (hh : Heir H t H' t') (hok : H'.ok t' m) (hx : xs = l'.map BY) (hm : n = xs.length) : Bytes H t (.own (some (H'.tk t')) 1 xs) (H'.up t' n) l' := by
  subst hx
  exact Bytes.grown (l' := l') hh hok (by simpa using hm)
/-- The bytes l, held at t: what appends to a list leave. -/
abbrev ownB (H : HS) (t : Option Nat) (l : List UInt8) : AV := .own (some (H.tk t)) 1 (l.map BY)
abbrev upB (H : HS) (t : Option Nat) (l : List UInt8) : HS := H.up t l.length
/-- What was appended so far: nothing, or ys. -/
def Grew (H : HS) (t : Option Nat) (v0 : AV) (bs : List UInt8) (v : AV) (H' : HS) (ys : List UInt8) : Prop := (ys = [] ∧ v = v0 ∧ H' = H) ∨ (v = ownB H t (bs ++ ys) ∧ H' = upB H t (bs ++ ys))
theorem Grew.none (H : HS) (t : Option Nat) (v0 : AV) (bs : List UInt8) : Grew H t v0 bs v0 H [] := .inl ⟨rfl, rfl, rfl⟩
theorem Grew.mk {H H' : HS} {t t' : Option Nat} {v0 : AV} {bs ys : List UInt8} {xs : List DV} {n : Nat} (hh : Heir H t H' t') (hx : xs = (bs ++ ys).map BY) (hn : n = (bs ++ ys).length) : Grew H t v0 bs (.own (some (H'.tk t')) 1 xs) (H'.up t' n) ys :=
  .inr ⟨by rw [hh.tk, hx], by rw [hh.up, hn]⟩
theorem Grew.use {H H' : HS} {t : Option Nat} {v0 v : AV} {bs ys : List UInt8} (h : Grew H t v0 bs v H' ys) (hv : App v0 t 1 (bs.map BY)) (hok : H.ok t bs.length) : ∃ t', App v t' 1 ((bs ++ ys).map BY) ∧ Heir H t H' t' ∧ H'.ok t' (bs ++ ys).length := by
  rcases h with ⟨rfl, rfl, rfl⟩ | ⟨rfl, rfl⟩
  · exact ⟨t, by simpa using hv, Heir.refl _ _, by simpa using hok⟩
  · exact ⟨_, .own _ _ _, (Heir.refl H t).step _, HS.ok_up H t _ hok⟩
theorem Grew.ret {H H' : HS} {t : Option Nat} {v0 v : AV} {bs ys : List UInt8} (h : Grew H t v0 bs v H' ys) (hne : ys ≠ []) : v = ownB H t (bs ++ ys) ∧ H' = upB H t (bs ++ ys) := by
  rcases h with ⟨rfl, _⟩ | h
  · exact absurd rfl hne
  · exact h
theorem okB (H : HS) (t : Option Nat) {m : Nat} (l : List UInt8) (h : H.ok t m) : (upB H t l).ok (some (H.tk t)) l.length := HS.ok_up H t _ h
theorem up_upB (H : HS) (t : Option Nat) (l m : List UInt8) : upB (upB H t l) (some (H.tk t)) m = upB H t m := HS.up_up H t _ _
theorem own_upB (H : HS) (t : Option Nat) (l m : List UInt8) : ownB (upB H t l) (some (H.tk t)) m = ownB H t m := rfl
theorem HS.ok_up' {H : HS} {t : Option Nat} {m n k : Nat} (h : H.ok t m) (e : n = k) : (H.up t n).ok (some (H.tk t)) k := e ▸ HS.ok_up H t n h
theorem Rep.fits {c : Ctx} {x : Value} {y : AV} (h : Rep c x y) : Fits c.blk.length c.tok.length y := by
  induction h with
  | un x => exact .un
  | nv => exact .nv
  | d h => exact .d _
  | own0 sz => exact .own0 _ _
  | own1 g o n sz xs h => exact .own0 _ _
  | ownt i e g n cap sz xs h ht hn he => exact .own _ _ _ (List.getElem?_eq_some_iff.1 ht).1
  | elt g o cs us h1 hm h => exact .elt _
  | ptr id off g h => exact .ptr _ _ (List.getElem?_eq_some_iff.1 h).1
  | arr id n cap g h => exact .arr _ _ _ (List.getElem?_eq_some_iff.1 h).1
  | sub id off n cap g h => exact .sub _ _ _ _ (List.getElem?_eq_some_iff.1 h).1
  | agg vs cs hl _ ih => exact .agg _ ih
  | tup vs cs hl _ ih => exact .tup _ ih
  | fn f fs cs fs' cs' hl _ hl' _ ih ih' => exact .fn _ _ _ ih ih'
/-- H' has what H has, and more behind it. -/
structure Ext (H H' : HS) : Prop where
  blks : ∃ l, H'.blks = H.blks ++ l
  toks : ∃ l, H'.toks = H.toks ++ l
theorem Ext.refl (H : HS) : Ext H H := ⟨⟨[], by simp⟩, ⟨[], by simp⟩⟩
theorem Ext.trans {a b c : HS} (h : Ext a b) (k : Ext b c) : Ext a c := by
  obtain ⟨⟨l1, h1⟩, ⟨l2, h2⟩⟩ := h
  obtain ⟨⟨l3, h3⟩, ⟨l4, h4⟩⟩ := k
  exact ⟨⟨l1 ++ l3, by rw [h3, h1, List.append_assoc]⟩, ⟨l2 ++ l4, by rw [h4, h2, List.append_assoc]⟩⟩
theorem Ext.push {H H' : HS} (h : Ext H H') (e : TypeId) (cs : List AV) : Ext H (H'.push e cs) := h.trans ⟨⟨[⟨e, cs, false⟩], rfl⟩, ⟨[], by simp [HS.push]⟩⟩
theorem Ext.new {H H' : HS} (h : Ext H H') (n : Nat) : Ext H (H'.up none n) := h.trans ⟨⟨[], by simp [HS.up]⟩, ⟨[n], rfl⟩⟩
theorem Ext.up {H H' : HS} (h : Ext H H') {i : Nat} (hi : H.toks.length ≤ i) (n : Nat) : Ext H (H'.up (some i) n) := by
  obtain ⟨⟨l1, h1⟩, ⟨l2, h2⟩⟩ := h
  refine ⟨⟨l1, by simp [HS.up, h1]⟩, ⟨l2.set (i - H.toks.length) n, ?_⟩⟩
  simp only [HS.up, h2]
  rw [List.set_append_right _ _ hi]
theorem Ext.put {H H' : HS} (h : Ext H H') {id : Nat} (hi : H.blks.length ≤ id) (o : Nat) (vs : List AV) : Ext H (H'.put id o vs) := by
  obtain ⟨⟨l1, h1⟩, ⟨l2, h2⟩⟩ := h
  refine ⟨⟨l1.modify (id - H.blks.length) fun b => { b with cs := putL b.cs o vs }, ?_⟩, ⟨l2, by simp [HS.put, h2]⟩⟩
  simp only [HS.put, h1]
  apply List.ext_getElem?
  intro j
  by_cases hj : j < H.blks.length
  · rw [List.getElem?_append_left hj, List.getElem?_modify, List.getElem?_append_left hj]
    have : ¬ id = j := by omega
    cases hq : H.blks[j]? <;> simp [this]
  · rw [List.getElem?_append_right (by omega), List.getElem?_modify, List.getElem?_append_right (by omega), List.getElem?_modify]
    by_cases he : id = j
    · subst he; simp
    · have : ¬ (id - H.blks.length = j - H.blks.length) := by omega
      cases hq : l1[j - H.blks.length]? <;> simp [this, he]
theorem Heir.ext {H H' : HS} {t' : Option Nat} (h : Heir H none H' t') : Ext H H' := by
  have h0 := h.up 0
  cases t' with
  | none =>
    have h1 : H'.blks = H.blks := by have := congrArg HS.blks h0; simpa [HS.up] using this
    have h2 : H'.toks ++ [0] = H.toks ++ [0] := congrArg HS.toks h0
    exact ⟨⟨[], by simp [h1]⟩, ⟨[], by simpa using List.append_cancel_right h2⟩⟩
  | some i =>
    have hi : i = H.toks.length := h.tk
    have h1 : H'.blks = H.blks := by have := congrArg HS.blks h0; simpa [HS.up] using this
    have h2 : H'.toks.set i 0 = H.toks ++ [0] := congrArg HS.toks h0
    refine ⟨⟨[], by simp [h1]⟩, ⟨H'.toks.drop H.toks.length, ?_⟩⟩
    have h3 : H'.toks.take H.toks.length = H.toks := by
      have := congrArg (List.take H.toks.length) h2
      rw [List.take_left, hi, List.take_set, List.set_eq_of_length_le (by simp; omega)] at this
      exact this
    have h4 := (List.take_append_drop H.toks.length H'.toks).symm
    rw [h3] at h4
    exact h4
/-- What a call has made for itself is forgotten: the state is as it was. -/
theorem ACalls.tidy {P : Program} {f : FuncId} {args : List AV} {H : HS} {R : AV → Prop} (h : ACalls P f args H fun av H' => Fits H.blks.length H.toks.length av ∧ Ext H H' ∧ R av) : ACalls P f args H fun av H' => R av ∧ H' = H := by
  intro B w0 c w vs hI hs ha
  refine (h B w0 c w vs hI hs ha).mono ?_
  rintro e w' ⟨v, av, H', c', rfl, h1, h2, h3, h4, ⟨⟨l1, h5⟩, ⟨l2, h6⟩⟩, h7⟩
  have hcut : H'.cut H.blks.length H.toks.length = H := by
    cases H
    simp only [HS.cut, h5, h6, List.take_left]
  have i1 := h3.cut H.blks.length H.toks.length (fun i b hi hb j hj => by
    have hb' : H.blks[i]? = some b := by rw [h5, List.getElem?_append_left hi] at hb; exact hb
    have hlt : i < c.blk.length := by rw [hI.blkLen]; exact hi
    obtain ⟨_, _, cur, fr, _, _, _, q⟩ := hI.blk i _ b (List.getElem?_eq_getElem hlt) hb'
    have := (q j hj).fits
    rwa [hI.blkLen, hI.tokLen] at this)
  rw [hcut] at i1
  refine ⟨v, av, H, c'.cut H.blks.length H.toks.length, rfl, ⟨h1.mem, fun i g hi => ?_, fun i e he => ?_⟩, h2.cut h4, i1, h7, rfl⟩
  · have : i < c.blk.length := (List.getElem?_eq_some_iff.1 hi).1
    show (c'.blk.take _)[i]? = _
    rw [List.getElem?_take, if_pos (by have := hI.blkLen; omega)]
    exact h1.blk i g hi
  · have : i < c.tok.length := (List.getElem?_eq_some_iff.1 he).1
    obtain ⟨e', q1, q2⟩ := h1.tok i e he
    refine ⟨e', ?_, q2⟩
    show (c'.tok.take _)[i]? = _
    rw [List.getElem?_take, if_pos (by have := hI.tokLen; omega)]
    exact q1
/-- The same, one value. -/
theorem ACalls.tidy1 {P : Program} {f : FuncId} {args : List AV} {H : HS} {x : DV} (h : ACalls P f args H fun av H' => av = .d x ∧ Ext H H') : ACalls P f args H (Ret (.d x) H) :=
  ACalls.tidy (R := fun av => av = .d x) (h.mono fun v H' ⟨h1, h2⟩ => ⟨by rw [h1]; exact .d _, h2, h1⟩)
/-- What is known less of: nothing, or the same. -/
inductive TLe : List AV → List AV → Prop
  | nil : TLe [] []
  | same {x : AV} {l m : List AV} (h : TLe l m) : TLe (x :: l) (x :: m)
  | un {x : AV} {l m : List AV} (h : TLe l m) : TLe (x :: l) (.un :: m)
theorem TLe.rep {c : Ctx} {tmps : Array Value} {T T' : List AV} (h : TLe T T') (hr : RepT c tmps T) : RepT c tmps T' := by
  have key : ∀ {T T' : List AV}, TLe T T' → T.length = T'.length ∧ ∀ i, T'.getD i .un = T.getD i .un ∨ T'.getD i .un = .un := by
    intro T T' h
    induction h with
    | nil => exact ⟨rfl, fun i => .inl rfl⟩
    | same h ih => exact ⟨by simp [ih.1], fun i => by cases i with
      | zero => exact .inl rfl
      | succ i => simpa using ih.2 i⟩
    | un h ih => exact ⟨by simp [ih.1], fun i => by cases i with
      | zero => exact .inr rfl
      | succ i => simpa using ih.2 i⟩
  obtain ⟨h1, h2⟩ := key h
  refine ⟨by rw [hr.size, h1], fun i hi => ?_⟩
  rcases h2 i with e | e
  · rw [e]; exact hr.at_ i (by omega)
  · rw [e]; exact .un _
section
variable {P : Program} {Q : Post} {T T' : List AV} {H : HS}
theorem aw_forget {k : Code} (h : AW P k Q T' H) (hT : TLe T T') : AW P k Q T H :=
  fun B w0 c0 c w a h0 h1 h2 h3 => h B w0 c0 c w a h0 h1 (hT.rep h2) h3
def maskT : List Bool → List AV → List AV
  | b :: bs, x :: l => (match b with | true => x | false => .un) :: maskT bs l
  | _, _ => []
theorem maskT_le : ∀ (m : List Bool) (T : List AV), m.length = T.length → TLe T (maskT m T)
  | [], [], _ => .nil
  | true :: m, x :: T, h => .same (maskT_le m T (by simpa using h))
  | false :: m, x :: T, h => .un (maskT_le m T (by simpa using h))
  | [], _ :: _, h => by simp at h
  | _ :: _, [], h => by simp at h
/-- A loop: its relation speaks of slots that may be known less of. -/
theorem aw_loopF {k : Code} (I : Nat → List AV → HS → Prop) (n : Nat) (m : List Bool) (hm : maskT m T = T') (hl : m.length = T.length) (h0 : I n T' H) (h : ∀ n T H, I n T H → AW P k (Again n (fun m T H => ∃ T', TLe T T' ∧ I m T' H) Q) T H) : AW P (.loop k) Q T H := by
  refine aw_loop (fun m T H => ∃ T', TLe T T' ∧ I m T' H) n ⟨T', hm ▸ maskT_le m T hl, h0⟩ ?_
  rintro n T H ⟨T1, hT1, hI⟩
  exact aw_forget (h n T1 H hI) hT1
theorem again_to {n : Nat} {I : Nat → List AV → HS → Prop} (k : Nat) (m : List Bool) (hm : maskT m T = T') (hl : m.length = T.length) (hlt : k < n) (h : I k T' H) : Again n (fun m T H => ∃ T', TLe T T' ∧ I m T' H) Q .normal T H := ⟨k, hlt, T', hm ▸ maskT_le m T hl, h⟩
end
theorem wrap_i64 {n : Int} (h : -9223372036854775808 ≤ n ∧ n ≤ 9223372036854775807) : IntKind.i64.wrap n = n := IntWalk.i64_in n h
theorem wrap_u8 {n : Int} (h : 0 ≤ n ∧ n ≤ 255) : IntKind.u8.wrap n = n := IntWalk.u8_in n h
theorem wrap_u64 {n : Int} (h : 0 ≤ n ∧ n ≤ 18446744073709551615) : IntKind.u64.wrap n = n := IntWalk.u64_in n h

section
variable {P : Program} {T T' : List AV} {H : HS} {Q : Post} {dst : Option Tmp} {ty : TypeId} {pos : String} {after : Array Edge} {gd : Option (Nat × Bool)}
theorem evalT_tmp {i : Nat} {v : AV} (h : T[i]? = some v) : evalT T (.tmp i) = v := by simp [evalT, List.getD_eq_getElem?_getD, h]
theorem evalT_const {x : Value} (h : plain x = true) : evalT T (.const x) = .d (.v x) := by simp [evalT, constAV, h]
theorem op_move_tmp {i : Nat} {v : AV} (h : T[i]? = some v) : OpR P ⟨dst, .move (.tmp i), ty, pos, after, gd⟩ (evalT T) H (Ret v H) := by
  rw [← evalT_tmp h]; exact op_move
theorem op_assign_tmp {i : Nat} {v : AV} (h : T[i]? = some v) : OpR P ⟨dst, .assign (.tmp i), ty, pos, after, gd⟩ (evalT T) H (Ret v H) := by
  rw [← evalT_tmp h]; exact op_assign
theorem op_move_const {x : Value} (h : plain x = true) : OpR P ⟨dst, .move (.const x), ty, pos, after, gd⟩ (evalT T) H (Ret (.d (.v x)) H) := by
  have h2 := op_move (P := P) (E := evalT T) (H := H) (dst := dst) (ty := ty) (pos := pos) (after := after) (gd := gd) (x := .const x)
  rwa [evalT_const h] at h2
theorem op_assign_const {x : Value} (h : plain x = true) : OpR P ⟨dst, .assign (.const x), ty, pos, after, gd⟩ (evalT T) H (Ret (.d (.v x)) H) := by
  have h2 := op_assign (P := P) (E := evalT T) (H := H) (dst := dst) (ty := ty) (pos := pos) (after := after) (gd := gd) (x := .const x)
  rwa [evalT_const h] at h2
theorem op_move_func {f : FuncId} : OpR P ⟨dst, .move (.func f), ty, pos, after, gd⟩ (evalT T) H (Ret (.fn (.func f) [] []) H) := op_move
theorem op_assign_func {f : FuncId} : OpR P ⟨dst, .assign (.func f), ty, pos, after, gd⟩ (evalT T) H (Ret (.fn (.func f) [] []) H) := op_assign
theorem al_end {ops : Array Oper} (hT : T = T') (h : Q .normal T' H) : AL P ops [] Q T H := by subst hT; exact al_nil h
/-- Two parts, and what holds between them. -/
theorem aw_cut {x y : Code} (R : List AV → HS → Prop) (h1 : AW P x (fun e T H => match e with | .normal => ∃ T', TLe T T' ∧ R T' H | e => Q e T H) T H) (h2 : ∀ T H, R T H → AW P y Q T H) : AW P (.seq x y) Q T H := by
  refine aw_seq (aw_mono h1 ?_)
  intro e T H hq
  cases e with
  | normal =>
    obtain ⟨T', hT, hR⟩ := hq
    exact aw_forget (h2 T' H hR) hT
  | _ => exact hq

/-- The elements of a literal, in their order. -/
inductive Els (E : Operand → AV) : Nat → List (Nat × Operand) → List DV → Prop
  | nil (i : Nat) : Els E i [] []
  | cons {i : Nat} {x : Operand} {y : DV} {l : List (Nat × Operand)} {ys : List DV} (hx : E x = .d y) (h : Els E (i + 1) l ys) : Els E i ((i, x) :: l) (y :: ys)
theorem d_cells (y : DV) : (AV.d y).cells = y.cells.map .d := by cases y <;> rfl
theorem Els.known {E : Operand → AV} {i : Nat} {l : List (Nat × Operand)} {ys : List DV} (h : Els E i l ys) : l.all (fun p => (E p.2).known) = true := by
  induction h with
  | nil i => rfl
  | cons hx h ih => simp only [List.all_cons, hx, ih, Bool.and_true]; rfl
theorem Els.parts {E : Operand → AV} {i : Nat} {l : List (Nat × Operand)} {ys : List DV} (h : Els E i l ys) : l.map (fun p => (p.1, (E p.2).cells)) = (ys.zipIdx i).map fun p => (p.2, p.1.cells.map .d) := by
  induction h with
  | nil i => rfl
  | cons hx h ih => simp only [List.map_cons, hx, d_cells, ih, List.zipIdx_cons]
theorem putL_block : ∀ (v A R : List AV), putL (A ++ (List.replicate v.length .un ++ R)) A.length v = A ++ (v ++ R)
  | [], A, R => rfl
  | x :: v, A, R => by
    rw [putL]
    have e1 : (A ++ (List.replicate (x :: v).length AV.un ++ R)).set A.length x = (A ++ [x]) ++ (List.replicate v.length .un ++ R) := by
      rw [List.set_append_right _ _ (Nat.le_refl _)]
      simp [List.replicate_succ]
    rw [e1]
    have := putL_block v (A ++ [x]) R
    simp only [List.length_append, List.length_cons, List.length_nil] at this
    rw [this]
    simp
theorem fill_els {sz : Nat} : ∀ (ys done : List DV), (∀ y ∈ ys, y.cells.length = sz) → (∀ y ∈ done, y.cells.length = sz) →
    fillA (fun i => some (i * sz, sz)) ((flat done).map .d ++ List.replicate (ys.length * sz) .un) ((ys.zipIdx done.length).map fun p => (p.2, p.1.cells.map .d)) = some ((flat (done ++ ys)).map .d)
  | [], done, _, _ => by simp [fillA]
  | y :: ys, done, h, hd => by
    have hy := h y (by simp)
    have hfl := flat_length hd
    rw [List.zipIdx_cons, List.map_cons, fillA]
    simp only []
    rw [if_pos (by simp [hy]), if_pos (by simp [hfl, hy, Nat.add_mul])]
    have e1 : List.replicate ((y :: ys).length * sz) AV.un = List.replicate (y.cells.map AV.d).length .un ++ List.replicate (ys.length * sz) .un := by
      rw [List.replicate_append_replicate]
      congr 1
      simp [hy, Nat.add_mul]
      omega
    have e2 : done.length * sz = ((flat done).map AV.d).length := by simp [hfl]
    rw [e1, e2, putL_block]
    have ih := fill_els ys (done ++ [y]) (fun z hz => h z (by simp [hz])) (fun z hz => by
      rcases List.mem_append.1 hz with h1 | h1
      · exact hd z h1
      · simp at h1; subst h1; exact hy)
    simp only [flat_append, List.map_append, List.length_append, List.length_cons, List.length_nil, List.append_assoc] at ih
    have e3 : flat [y] = y.cells := by simp [flat]
    rw [e3] at ih
    rw [ih]
    simp [flat]
theorem op_lit {t e : TypeId} {len sz : Nat} {parts : Array (Nat × Operand)} {z : Value} {ys : List DV} (ht : P.underlying t = some (.slice e)) (hz : (P.info? e).map (fun i => (i.zero, i.size)) = some (some z, sz)) (hE : Els (evalT T) 0 parts.toList ys) (hl : ys.length = len)
    (hy : ∀ y ∈ ys, y.cells.length = sz) (h1 : ∀ d ∈ flat ys, d.one = true) (hsm : len * sz ≤ 16777216) : OpR P ⟨dst, .buildSlice t len parts, ty, pos, after, gd⟩ (evalT T) H (Ret (.own none sz ys) H) := by
  have hf := fill_els ys [] hy (by simp)
  simp only [flat, List.flatMap_nil, List.map_nil, List.nil_append, List.length_nil] at hf
  rw [hl] at hf
  exact op_buildSlice ys ht hz hE.known hE.parts hf hl hy h1 hsm

theorem aw_start {k : Code} (hT : T = T') (h : AW P k Q T' H) : AW P k Q T H := by subst hT; exact h
theorem set_same {d : Nat} {v : AV} (hd : T[d]? = some v) : T.set d v = T := by
  have hlt := (List.getElem?_eq_some_iff.1 hd).1
  have := (List.getElem?_eq_some_iff.1 hd).2
  rw [← this]
  exact List.set_getElem_self hlt
/-- By what a slot tells. -/
theorem al_split {ops : Array Oper} {l : List Oper} {b : Bool} (d : Nat) (hd : T[d]? = some (.d (.v (.bool b)))) (ht : b = true → AL P ops l Q (T.set d (.d (.v (.bool true)))) H) (hf : b = false → AL P ops l Q (T.set d (.d (.v (.bool false)))) H) : AL P ops l Q T H := by
  cases b with
  | true => have := ht rfl; rwa [set_same hd] at this
  | false => have := hf rfl; rwa [set_same hd] at this
theorem drun_split {Φ : HS → Prop} {ops : Array Oper} {l : List Oper} {fl : List Nat} {R : List AV → HS → Prop} {b : Bool} (d : Nat) (hd : T[d]? = some (.d (.v (.bool b)))) (ht : b = true → DRunX P Φ ops l fl (T.set d (.d (.v (.bool true)))) H R) (hf : b = false → DRunX P Φ ops l fl (T.set d (.d (.v (.bool false)))) H R) : DRunX P Φ ops l fl T H R := by
  cases b with
  | true => have := ht rfl; rwa [set_same hd] at this
  | false => have := hf rfl; rwa [set_same hd] at this
section
variable {Φ : HS → Prop} {ops : Array Oper} {o : Oper} {l : List Oper} {fl : List Nat} {v : AV} {H' : HS} {R : List AV → HS → Prop} {g d : Nat} {x y : Bool}
theorem drun0 (ho : ∀ H, OpR P o (evalT T) H (Ret v H)) (hg : o.guard = none) (h : DRunX P Φ ops l fl (putT T o.dst v) H R) : DRunX P Φ ops (o :: l) (0 :: fl) T H R := ⟨v, H, ⟨true, by rw [hg], rfl, fun H _ => ho H⟩, .inr fun h => h, h⟩
theorem drun1 (ho : OpR P o (evalT T) H (Ret v H)) (hg : o.guard = none) (h : DRunX P Φ ops l fl (putT T o.dst v) H R) : DRunX P Φ ops (o :: l) (1 :: fl) T H R := ⟨v, H, ⟨true, by rw [hg], rfl, ho⟩, .inr fun h => h, h⟩
theorem drun2 (ho : OpR P o (evalT T) H (Ret v H')) (hg : o.guard = none) (h : DRun P ops l fl (putT T o.dst v) H' R) : DRun P ops (o :: l) (2 :: fl) T H R := ⟨v, H', ⟨true, by rw [hg], ho⟩, .inr fun _ => trivial, h⟩
theorem drun0w (hg : o.guard = some (g, x)) (hd : ((ops[g]?).bind (·.dst)) = some d) (hx : T[d]? = some (.d (.v (.bool x)))) (ho : ∀ H, OpR P o (evalT T) H (Ret v H)) (h : DRunX P Φ ops l fl (putT T o.dst v) H R) : DRunX P Φ ops (o :: l) (0 :: fl) T H R :=
  ⟨v, H, ⟨true, by rw [hg]; exact .inl ⟨d, x, hd, hx, by simp⟩, rfl, fun H _ => ho H⟩, .inr fun h => h, h⟩
theorem drun1w (hg : o.guard = some (g, x)) (hd : ((ops[g]?).bind (·.dst)) = some d) (hx : T[d]? = some (.d (.v (.bool x)))) (ho : OpR P o (evalT T) H (Ret v H)) (h : DRunX P Φ ops l fl (putT T o.dst v) H R) : DRunX P Φ ops (o :: l) (1 :: fl) T H R :=
  ⟨v, H, ⟨true, by rw [hg]; exact .inl ⟨d, x, hd, hx, by simp⟩, rfl, ho⟩, .inr fun h => h, h⟩
theorem drun2w (hg : o.guard = some (g, x)) (hd : ((ops[g]?).bind (·.dst)) = some d) (hx : T[d]? = some (.d (.v (.bool x)))) (ho : OpR P o (evalT T) H (Ret v H')) (h : DRun P ops l fl (putT T o.dst v) H' R) : DRun P ops (o :: l) (2 :: fl) T H R :=
  ⟨v, H', ⟨true, by rw [hg]; exact .inl ⟨d, x, hd, hx, by simp⟩, ho⟩, .inr fun _ => trivial, h⟩
theorem drunU {f : Nat} (hg : o.guard = some (g, y)) (hd : ((ops[g]?).bind (·.dst)) = some d) (hx : T[d]? = some (.d (.v (.bool x)))) (hne : (x == y) = false) (h : DRunX P Φ ops l fl (putT T o.dst .nv) H R) : DRunX P Φ ops (o :: l) (f :: fl) T H R :=
  ⟨.nv, H, ⟨false, by rw [hg]; exact .inl ⟨d, x, hd, hx, hne.symm⟩, rfl, rfl⟩, .inr fun h => h, h⟩
theorem drunU0 {f : Nat} (hg : o.guard = some (g, y)) (hd : ((ops[g]?).bind (·.dst)) = some d) (hx : T[d]? = some .nv) (h : DRunX P Φ ops l fl (putT T o.dst .nv) H R) : DRunX P Φ ops (o :: l) (f :: fl) T H R :=
  ⟨.nv, H, ⟨false, by rw [hg]; exact .inr ⟨d, hd, hx, rfl⟩, rfl, rfl⟩, .inr fun h => h, h⟩
theorem drun_end (hT : T = T') (h : Q .normal T' H) : DRunX P Φ ops [] fl T H (fun T H => Q .normal T H) := by subst hT; exact h
end
theorem al_stepN {ops : Array Oper} {o : Oper} {l : List Oper} {v : AV} {H' : HS} (ho : OpR P o (evalT T) H (Ret v H')) (hg : o.guard = none) (hT : putT T o.dst v = T') (h : AL P ops l Q T' H') : AL P ops (o :: l) Q T H := by
  subst hT; exact al_step ho hg h
theorem al_wantedN {ops : Array Oper} {o : Oper} {l : List Oper} {v : AV} {H' : HS} {g d : Nat} {x : Bool} (hg : o.guard = some (g, x)) (hd : ((ops[g]?).bind (·.dst)) = some d) (hx : T[d]? = some (.d (.v (.bool x))))
    (ho : OpR P o (evalT T) H (Ret v H')) (hT : putT T o.dst v = T') (h : AL P ops l Q T' H') : AL P ops (o :: l) Q T H := by
  subst hT; exact al_wanted hg hd hx ho h
theorem al_normT {ops : Array Oper} {l : List Oper} (hT : T = T') (h : AL P ops l Q T' H) : AL P ops l Q T H := by subst hT; exact h
theorem drun_normT {Φ : HS → Prop} {ops : Array Oper} {l : List Oper} {fl : List Nat} {R : List AV → HS → Prop} (hT : T = T') (h : DRunX P Φ ops l fl T' H R) : DRunX P Φ ops l fl T H R := by subst hT; exact h
/-! ### One step, its temporaries written out -/
section
variable {ops : Array Oper} {o : Oper} {l : List Oper} {v : AV} {H' : HS} {g d : Nat} {x y : Bool}
theorem zst (ho : OpR P o (evalT T) H (Ret v H')) (hg : o.guard = none) (hT : putT T o.dst v = T') (h : AL P ops l Q T' H') : AL P ops (o :: l) Q T H := al_stepN ho hg hT h
theorem zsw (hg : o.guard = some (g, x)) (hd : ((ops[g]?).bind (·.dst)) = some d) (hx : T[d]? = some (.d (.v (.bool x)))) (ho : OpR P o (evalT T) H (Ret v H')) (hT : putT T o.dst v = T') (h : AL P ops l Q T' H') : AL P ops (o :: l) Q T H := al_wantedN hg hd hx ho hT h
theorem zuw (hg : o.guard = some (g, y)) (hd : ((ops[g]?).bind (·.dst)) = some d) (hx : T[d]? = some (.d (.v (.bool x)))) (hne : (x == y) = false) (hT : putT T o.dst .nv = T') (h : AL P ops l Q T' H) : AL P ops (o :: l) Q T H := by
  subst hT; exact al_unwanted hg hd hx hne h
theorem zun (hg : o.guard = some (g, y)) (hd : ((ops[g]?).bind (·.dst)) = some d) (hx : T[d]? = some .nv) (hT : putT T o.dst .nv = T') (h : AL P ops l Q T' H) : AL P ops (o :: l) Q T H := by
  subst hT; exact al_unwanted0 hg hd hx h
end
section
variable {Φ : HS → Prop} {ops : Array Oper} {o : Oper} {l : List Oper} {fl : List Nat} {v : AV} {H' : HS} {R : List AV → HS → Prop} {g d : Nat} {x y : Bool}
theorem zd0 (ho : ∀ H, OpR P o (evalT T) H (Ret v H)) (hg : o.guard = none) (hT : putT T o.dst v = T') (h : DRunX P Φ ops l fl T' H R) : DRunX P Φ ops (o :: l) (0 :: fl) T H R := by subst hT; exact drun0 ho hg h
theorem zd1 (ho : OpR P o (evalT T) H (Ret v H)) (hg : o.guard = none) (hT : putT T o.dst v = T') (h : DRunX P Φ ops l fl T' H R) : DRunX P Φ ops (o :: l) (1 :: fl) T H R := by subst hT; exact drun1 ho hg h
theorem zd2 (ho : OpR P o (evalT T) H (Ret v H')) (hg : o.guard = none) (hT : putT T o.dst v = T') (h : DRun P ops l fl T' H' R) : DRun P ops (o :: l) (2 :: fl) T H R := by subst hT; exact drun2 ho hg h
theorem zd0w (hg : o.guard = some (g, x)) (hd : ((ops[g]?).bind (·.dst)) = some d) (hx : T[d]? = some (.d (.v (.bool x)))) (ho : ∀ H, OpR P o (evalT T) H (Ret v H)) (hT : putT T o.dst v = T') (h : DRunX P Φ ops l fl T' H R) : DRunX P Φ ops (o :: l) (0 :: fl) T H R := by subst hT; exact drun0w hg hd hx ho h
theorem zd1w (hg : o.guard = some (g, x)) (hd : ((ops[g]?).bind (·.dst)) = some d) (hx : T[d]? = some (.d (.v (.bool x)))) (ho : OpR P o (evalT T) H (Ret v H)) (hT : putT T o.dst v = T') (h : DRunX P Φ ops l fl T' H R) : DRunX P Φ ops (o :: l) (1 :: fl) T H R := by subst hT; exact drun1w hg hd hx ho h
theorem zd2w (hg : o.guard = some (g, x)) (hd : ((ops[g]?).bind (·.dst)) = some d) (hx : T[d]? = some (.d (.v (.bool x)))) (ho : OpR P o (evalT T) H (Ret v H')) (hT : putT T o.dst v = T') (h : DRun P ops l fl T' H' R) : DRun P ops (o :: l) (2 :: fl) T H R := by subst hT; exact drun2w hg hd hx ho h
theorem zdU {f : Nat} (hg : o.guard = some (g, y)) (hd : ((ops[g]?).bind (·.dst)) = some d) (hx : T[d]? = some (.d (.v (.bool x)))) (hne : (x == y) = false) (hT : putT T o.dst .nv = T') (h : DRunX P Φ ops l fl T' H R) : DRunX P Φ ops (o :: l) (f :: fl) T H R := by subst hT; exact drunU hg hd hx hne h
theorem zdV {f : Nat} (hg : o.guard = some (g, y)) (hd : ((ops[g]?).bind (·.dst)) = some d) (hx : T[d]? = some .nv) (hT : putT T o.dst .nv = T') (h : DRunX P Φ ops l fl T' H R) : DRunX P Φ ops (o :: l) (f :: fl) T H R := by subst hT; exact drunU0 hg hd hx h
end
/-! What a condition says, in short names. -/
theorem y1 {p : Prop} [Decidable p] : (decide p = true) = p := decide_eq_true_eq
theorem y2 {p : Prop} [Decidable p] : decide p = false ↔ ¬p := decide_eq_false_iff_not
theorem y3 {α : Type} [BEq α] [LawfulBEq α] {a b : α} : (a == b) = true ↔ a = b := beq_iff_eq
theorem y4 {α : Type} [BEq α] [LawfulBEq α] {a b : α} : (a == b) = false ↔ a ≠ b := beq_eq_false_iff_ne
theorem y5 {b : Bool} : ((!b) = true) = (b = false) := Bool.not_eq_true' b
theorem y6 {b : Bool} : ((!b) = false) = (b = true) := Bool.not_eq_false' b
theorem y7 {α : Type} [BEq α] [LawfulBEq α] {a b : α} : (a != b) = true ↔ a ≠ b := bne_iff_ne
theorem y8 {α : Type} [BEq α] [LawfulBEq α] {a b : α} : (a != b) = false ↔ a = b := bne_eq_false_iff_eq
theorem y9 {α : Type} {a b : α} : (a ≠ b) = ¬(a = b) := rfl
theorem y0 {p : Prop} [Decidable p] : ¬¬p ↔ p := Decidable.not_not
theorem val_tmp {i : Nat} {v : AV} (h : T[i]? = some v) : evalT T (.tmp i) = v := evalT_tmp h
theorem val_const {x : Value} (h : plain x = true) : evalT T (.const x) = .d (.v x) := evalT_const h
theorem op_pick_tt {x y z : Operand} {v : AV} (hx : evalT T x = .d (.v (.bool true))) (hy : evalT T y = v) : OpR P ⟨dst, .pick x y z, ty, pos, after, gd⟩ (evalT T) H (Ret v H) := by
  have h := op_pick (P := P) (E := evalT T) (H := H) (dst := dst) (ty := ty) (pos := pos) (after := after) (gd := gd) (x := x) (y := y) (z := z) hx
  rw [if_pos rfl, hy] at h
  exact h
theorem op_pick_ff {x y z : Operand} {v : AV} (hx : evalT T x = .d (.v (.bool false))) (hz : evalT T z = v) : OpR P ⟨dst, .pick x y z, ty, pos, after, gd⟩ (evalT T) H (Ret v H) := by
  have h := op_pick (P := P) (E := evalT T) (H := H) (dst := dst) (ty := ty) (pos := pos) (after := after) (gd := gd) (x := x) (y := y) (z := z) hx
  rw [if_neg (by simp), hz] at h
  exact h
/-- The operands' values. -/
inductive Vals (T : List AV) : List Operand → List AV → Prop
  | nil : Vals T [] []
  | tmp {i : Nat} {v : AV} {l : List Operand} {vs : List AV} (h : T[i]? = some v) (r : Vals T l vs) : Vals T (.tmp i :: l) (v :: vs)
  | const {x : Value} {l : List Operand} {vs : List AV} (h : plain x = true) (r : Vals T l vs) : Vals T (.const x :: l) (.d (.v x) :: vs)
  | func {f : FuncId} {l : List Operand} {vs : List AV} (r : Vals T l vs) : Vals T (.func f :: l) (.fn (.func f) [] [] :: vs)
theorem Vals.eq {l : List Operand} {vs : List AV} (h : Vals T l vs) : l.map (evalT T) = vs := by
  induction h with
  | nil => rfl
  | tmp h _ ih => rw [List.map_cons, ih, evalT_tmp h]
  | const h _ ih => rw [List.map_cons, ih, evalT_const h]
  | func _ ih => rw [List.map_cons, ih]; rfl
theorem op_callF {args : Array Operand} {ts : Array TypeId} {f : FuncId} {fn : Func} {avs : List AV} {R : AV → HS → Prop} (hfn : P.funcs[f]? = some fn) (hname : (fn.name == "runtime.NumGoroutine") = false) (hbody : fn.body.isNone = false) (hargs : Vals T args.toList avs)
    (h : ACalls P f avs H R) : OpR P ⟨dst, .call ⟨.value (.func f), args, ts⟩, ty, pos, after, gd⟩ (evalT T) H R :=
  op_call (fs := []) (cs := []) rfl hfn hname hbody (by simpa [hargs.eq] using h)
theorem op_callV {i : Nat} {args : Array Operand} {ts : Array TypeId} {f : FuncId} {fn : Func} {fs cs avs : List AV} {R : AV → HS → Prop} (hi : T[i]? = some (.fn (.func f) fs cs)) (hfn : P.funcs[f]? = some fn) (hname : (fn.name == "runtime.NumGoroutine") = false) (hbody : fn.body.isNone = false) (hargs : Vals T args.toList avs)
    (h : ACalls P f (fs ++ avs ++ cs) H R) : OpR P ⟨dst, .call ⟨.value (.tmp i), args, ts⟩, ty, pos, after, gd⟩ (evalT T) H R :=
  op_call (fs := fs) (cs := cs) (evalT_tmp hi) hfn hname hbody (by simpa [hargs.eq] using h)
theorem op_makeFn {f : Fn} {first cap : Array Operand} {fs cs : List AV} (h1 : Vals T first.toList fs) (h2 : Vals T cap.toList cs) : OpR P ⟨dst, .makeFunc f first cap, ty, pos, after, gd⟩ (evalT T) H (Ret (.fn f fs cs) H) := by
  rw [← h1.eq, ← h2.eq]; exact op_makeFunc
/-- append(b, c...), whatever c is. -/
theorem op_appendB {x y : Operand} {t' tx e : TypeId} {t : Option Nat} {v w : AV} {l m : List UInt8} {xs ys : List DV} (ht : P.underlying t' = some (.slice e)) (hi : tInfo P e (.int .u8 0) 1 1) (hx : evalT T x = v) (hv : App v t 1 xs) (hxs : xs = l.map BY) (hy : evalT T y = w) (hw : Adds P tx w 1 ys) (hys : ys = m.map BY)
    (hok : H.ok t l.length) (hn : l.length + m.length ≤ 140737488355328) :
    OpR P ⟨dst, .call ⟨.builtin .append, #[x, y], #[t', tx]⟩, ty, pos, after, gd⟩ (evalT T) H (fun av H' => Bytes H t av H' (l ++ m)) := by
  subst hxs hys
  subst hx hy
  have key : ∀ {v : AV} {H' : HS} {R : AV → HS → Prop}, OpR P ⟨dst, .call ⟨.builtin .append, #[x, y], #[t', tx]⟩, ty, pos, after, gd⟩ (evalT T) H (Ret v H') → R v H' → OpR P ⟨dst, .call ⟨.builtin .append, #[x, y], #[t', tx]⟩, ty, pos, after, gd⟩ (evalT T) H R :=
    fun h hR B w0 c w a next Q hI hops hnext => h B w0 c w a next Q hI hops (fun v' w' c' av H'' l1 r1 i1 ⟨e1, e2⟩ => hnext v' w' c' av H'' l1 r1 i1 (by rw [e1, e2]; exact hR))
  by_cases hm : m = []
  · subst hm
    refine key (op_append0 ht hi hv.ll hw) ?_
    simpa using Bytes.own hv hok
  · have h0 : 0 < (m.map BY).length := by simpa using List.length_pos_iff.2 hm
    refine key (op_append ht hi rfl hv hw (by simpa using hok) h0 (by simpa using hn) (by simpa using hn)) ?_
    exact Bytes.grown' (Heir.refl _ _) hok (by simp) (by simp)
end
end Go.AV
