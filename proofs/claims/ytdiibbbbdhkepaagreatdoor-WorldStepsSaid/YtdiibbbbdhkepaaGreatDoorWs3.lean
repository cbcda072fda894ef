/- Part 3 of what the law needs: A13, OctAV, SchPlain, ValPlain, StpPlain, StpR, OctV, StpE, OctW, StpAV. -/
import Derived.Test.YtdiibbbbdhkepaaGreatDoorWs2
import Derived.KernelRfl
set_option linter.unusedSectionVars false
set_option linter.unusedVariables false
set_option linter.unusedSimpArgs false
namespace Go.AV
open Go.RowKit
theorem ACalls.tidyT {P : Program} [Wins P] {f : FuncId} {args : List AV} {H : HS} {xs : List DV} (h : ACalls P f args H fun av H' => av = .tup (xs.map .d) ∧ Ext H H') : ACalls P f args H (Ret (.tup (xs.map .d)) H) :=
  ACalls.tidy (R := fun av => av = .tup (xs.map .d)) (h.mono fun v H' ⟨h1, h2⟩ => ⟨by rw [h1]; exact .tup _ fun i hi => by simp only [List.getElem_map]; exact .d _, h2, h1⟩)
def dataV : AV → AV
  | .arr id _ _ => .ptr id 0
  | _ => .d (.v (.pointer none))
def frzV (H : HS) : AV → HS
  | .arr id _ _ => H.frz id
  | _ => H
inductive BV (H : HS) (e : TypeId) : AV → List UInt8 → Prop
  | nil : BV H e nilS []
  | arr (id cap : Nat) (cs : List AV) (l : List UInt8) (hb : H.blks[id]? = some ⟨e, cs, false⟩) (hc : cs.length = cap) (hl : cs.take l.length = l.map fun c => .d (BY c)) (h0 : l ≠ []) (hn : l.length ≤ cap) : BV H e (.arr id l.length cap) l
theorem BV.kept {H H' : HS} {e : TypeId} {v : AV} {l : List UInt8} (h : BV H e v l) (hk : ∀ id n cap, v = .arr id n cap → H'.blks[id]? = H.blks[id]?) : BV H' e v l := by
  cases h with
  | nil => exact .nil
  | arr id cap cs l hb hc hl h0 hn => exact .arr id cap cs l (by rw [hk _ _ _ rfl]; exact hb) hc hl h0 hn
theorem BV.arrs {H : HS} {e : TypeId} {v : AV} {l : List UInt8} (h : BV H e v l) : Arr H e 1 v l.length (l.map fun c => .d (BY c)) := by
  cases h with
  | nil => exact .nil
  | arr id cap cs l hb hc hl h0 hn => exact .arr id _ cap cs _ hb (by rw [hc, Nat.mul_one]) hn (by rw [Nat.mul_one]; exact hl)
theorem Arr.bv {H : HS} {e : TypeId} {v : AV} {n : Nat} {us : List AV} {l : List UInt8} (h : Arr H e 1 v n us) (hn : n = l.length) (hu : us = l.map fun c => .d (BY c)) (h0 : l ≠ []) : BV H e v l := by
  cases h with
  | nil => exact absurd (List.length_eq_zero_iff.1 hn.symm) h0
  | arr id _ cap cs _ hb hc hn' hu' =>
    subst hn
    exact .arr id cap cs l hb (by rw [hc, Nat.mul_one]) (by rw [Nat.mul_one] at hu'; rw [hu', hu]) h0 hn'
structure Bld (Hs : HS) (eB eU : TypeId) (H : HS) (l : List UInt8) : Prop where
  ext : Ext Hs H
  it : ∃ p v, H.blks[Hs.nb]? = some ⟨eB, [p, v], false⟩ ∧ BV H eU v l ∧ (p = .d (.v (.pointer none)) ∨ p = .ptr Hs.nb 0) ∧ ∀ id n cap, v = .arr id n cap → Hs.nb < id
theorem Bld.new (Hs : HS) (eB eU : TypeId) : Bld Hs eB eU (Hs.push eB [.d (.v (.pointer none)), nilS]) [] :=
  ⟨(Ext.refl Hs).push _ _, _, _, by simp [HS.push, HS.nb], .nil, .inl rfl, fun _ _ _ h => by cases h⟩
theorem HS.up_x (H : HS) (t : Option Nat) (n : Nat) : (H.up t n).x = H.x := by cases t <;> rfl
theorem Ext.of {Hs H H' : HS} (h : Ext Hs H) (ht : H'.toks = H.toks) (hb : ∀ j, j < Hs.nb → H'.blks[j]? = H.blks[j]?) (hm' : H'.maps = H.maps := by first | rfl | exact HS.up_maps _ _ _) (hx' : H'.x = H.x := by first | rfl | exact HS.up_x _ _ _) : Ext Hs H' := by
  obtain ⟨l, hl⟩ := h.blks
  obtain ⟨m, hm⟩ := h.toks
  refine ⟨⟨H'.blks.drop Hs.nb, ?_⟩, ⟨m, by rw [ht, hm]⟩, hm'.trans h.maps, hx'.trans h.x⟩
  have : H'.blks.take Hs.nb = Hs.blks := by
    apply List.ext_getElem?
    intro j
    rw [List.getElem?_take]
    by_cases hj : j < Hs.nb
    · rw [if_pos hj, hb j hj, hl, List.getElem?_append_left hj]
    · rw [if_neg hj, List.getElem?_eq_none (by simpa [HS.nb] using hj)]
  conv => lhs; rw [← List.take_append_drop Hs.nb H'.blks, this]
theorem put_blks_ne {H : HS} {id off j : Nat} {vs : List AV} (h : j ≠ id) : (H.put id off vs).blks[j]? = H.blks[j]? := by
  have hne : ¬ id = j := fun e => h e.symm
  cases hq : H.blks[j]? <;> simp [HS.put, hne, hq]
theorem put_blks_at {H : HS} {id off : Nat} {vs : List AV} {b : HB} (h : H.blks[id]? = some b) : (H.put id off vs).blks[id]? = some { b with cs := putL b.cs off vs } := by simp [HS.put, h]
theorem put_nb {H : HS} {id off : Nat} {vs : List AV} : (H.put id off vs).nb = H.nb := by simp [HS.put, HS.nb]
theorem Bld.step {Hs H H2 : HS} {eB eU : TypeId} {p v v' : AV} {l : List UInt8} {c : UInt8} (hx : Ext Hs H) (hb : H.blks[Hs.nb]? = some ⟨eB, [p, v], false⟩) (hlt : ∀ id n cap, v = .arr id n cap → Hs.nb < id)
    (hK : Kept (H.put Hs.nb 0 [.ptr Hs.nb 0]) H2 v) (hA : Arr H2 eU 1 v' (l.length + 1) (l.map (fun c => AV.d (BY c)) ++ [.d (BY c)])) (hv : ∃ id m cap, v' = .arr id m cap ∧ Hs.nb < id) :
    Bld Hs eB eU (H2.put Hs.nb 1 [v']) (l ++ [c]) := by
  have hnb : Hs.nb < H.nb := (List.getElem?_eq_some_iff.1 hb).1
  have h1 : H2.blks[Hs.nb]? = some ⟨eB, [.ptr Hs.nb 0, v], false⟩ := by
    rw [hK.blks Hs.nb (by rw [put_nb]; exact hnb) (fun n cap e => by have := hlt _ _ _ e; omega), put_blks_at hb]
    rfl
  refine ⟨hx.of ?_ (fun j hj => ?_) hK.maps hK.x, .ptr Hs.nb 0, v', ?_, ?_, .inr rfl, ?_⟩
  · show H2.toks = H.toks
    rw [hK.toks]
    rfl
  · rw [put_blks_ne (by omega), hK.blks j (by rw [put_nb]; omega) (fun n cap e => by have := hlt _ _ _ e; omega), put_blks_ne (by omega)]
  · rw [put_blks_at h1]
    rfl
  · have h2 := hA.bv (l := l ++ [c]) (by simp) (by simp) (by simp)
    obtain ⟨id', m, cap', e, h3⟩ := hv
    subst e
    generalize l ++ [c] = l2 at h2
    cases h2 with
    | arr id cap cs l' hb' hc hl h0 hn => exact .arr _ cap' cs _ (by rw [put_blks_ne (by omega)]; exact hb') hc hl h0 hn
  · obtain ⟨id', m, cap', e, h3⟩ := hv
    intro id n cap e'
    rw [e] at e'
    cases e'
    exact h3
theorem frzV_ext {Hs H : HS} {v : AV} (hx : Ext Hs H) (hlt : ∀ id n cap, v = .arr id n cap → Hs.nb < id) : Ext Hs (frzV H v) := by
  cases v with
  | arr id n cap =>
    have := hlt _ _ _ rfl
    refine hx.of rfl fun j hj => ?_
    have hne : ¬ id = j := by omega
    cases hq : H.blks[j]? <;> simp [frzV, HS.frz, hne, hq]
  | _ => exact hx
section
variable {P : Program} [Wins P] {E : Operand → AV} {H H0 : HS} {R : AV → HS → Prop} {dst : Option Tmp} {ty : TypeId} {pos : String} {after : Array Edge} {gd : Option (Nat × Bool)}
theorem op_sliceData_bv {x : Operand} {ts : Array TypeId} {e : TypeId} {v : AV} {l : List UInt8} (hx : E x = v) (hv : BV H0 e v l) : OpR P ⟨dst, .call ⟨.builtin .unsafeSliceData, #[x], ts⟩, ty, pos, after, gd⟩ E H (Ret (dataV v) H) := by
  cases hv with
  | nil => exact op_sliceData_nil hx
  | arr id cap cs l hb hc hl h0 hn => exact op_sliceData_arr hx (by have := List.length_pos_iff.2 h0; omega)
theorem op_len_bv {x : Operand} {t e' e : TypeId} {v : AV} {l : List UInt8} (ht : P.underlying t = some (.slice e')) (hx : E x = v) (hv : BV H0 e v l) : OpR P ⟨dst, .call ⟨.builtin .len, #[x], #[t]⟩, ty, pos, after, gd⟩ E H (Ret (.d (I l.length)) H) := by
  cases hv with
  | nil => exact op_lenL (sz := 1) (xs := []) ht (by rw [hx]; exact .nil _)
  | arr id cap cs l hb hc hl h0 hn => exact op_lenArr ht hx
theorem op_unsafeString_bv {x y : Operand} {pt it e : TypeId} {v : AV} {l : List UInt8} (hp : P.underlying pt = some (.pointer e)) (hc : P.cellsOf e = 1) (hx : E x = dataV v) (hy : E y = .d (I l.length)) (hv : BV H e v l) (h63 : l.length ≤ 9223372036854775807) :
    OpR P ⟨dst, .call ⟨.builtin .unsafeString, #[x, y], #[pt, it]⟩, ty, pos, after, gd⟩ E H (Ret (.d (S l)) (frzV H v)) := by
  cases hv with
  | nil => exact op_unsafeString0 hx hy
  | arr id cap cs l hb hc' hl h0 hn => exact op_unsafeString hp hc hx hy hb h0 h63 hl
end
end Go.AV
namespace Go.AV
open Go.RowKit
structure Grows (H : HS) (t : Option Nat) (v : AV) (H' : HS) (sz : Nat) (xs : List DV) : Prop where
  ex : ∃ t', App v t' sz xs ∧ Heir H t H' t' ∧ H'.ok t' xs.length
theorem Grows.own {H : HS} {t : Option Nat} {v : AV} {sz : Nat} {xs : List DV} (h : App v t sz xs) (hok : H.ok t xs.length) : Grows H t v H sz xs := ⟨⟨t, h, Heir.refl _ _, hok⟩⟩
def Weak (v v' : AV) : Prop := ∀ (c : Ctx) (x : Value), Rep c x v → Rep c x v'
theorem Weak.refl (v : AV) : Weak v v := fun _ _ h => h
theorem Weak.lst {v : AV} {t : Option Nat} {sz : Nat} {xs : List DV} (h : App v t sz xs) : Weak v (.d (.lst sz xs)) := by
  intro c x hx
  obtain ⟨a, n, cap, rfl, hd⟩ := h.ll.rep hx
  exact .d hd
theorem Weak.nil (sz : Nat) : Weak nilS (.d (.lst sz [])) := Weak.lst (.nil sz)
inductive Weaks : List AV → List AV → Prop
  | nil : Weaks [] []
  | cons {x y : AV} {l m : List AV} (h : Weak x y) (r : Weaks l m) : Weaks (x :: l) (y :: m)
theorem Weaks.len {l m : List AV} (h : Weaks l m) : l.length = m.length := by
  induction h with
  | nil => rfl
  | cons _ _ ih => simp [ih]
theorem Weaks.get {l m : List AV} (h : Weaks l m) : ∀ (c : Ctx) (vs : Nat → Value), (∀ i (hi : i < l.length), Rep c (vs i) l[i]) → ∀ i (hi : i < m.length), Rep c (vs i) m[i] := by
  induction h with
  | nil => intro c vs _ i hi; simp at hi
  | cons hx _ ih =>
    intro c vs hv i hi
    cases i with
    | zero => exact hx c _ (hv 0 (by simp))
    | succ i => exact ih c (fun j => vs (j + 1)) (fun j hj => by have := hv (j + 1) (by simpa using hj); simpa using this) i (by simpa using hi)
theorem Weak.tup {l m : List AV} (h : Weaks l m) : Weak (.tup l) (.tup m) := by
  intro c x hx
  cases hx with
  | tup vs _ hl hr => exact .tup vs _ (by rw [hl, h.len]) (h.get c (fun i => vs.getD i undef) hr)
theorem Weak.agg {l m : List AV} (h : Weaks l m) : Weak (.agg l) (.agg m) := by
  intro c x hx
  cases hx with
  | agg vs _ hl hr => exact .agg vs _ (by rw [hl, h.len]) (h.get c (fun i => vs.getD i undef) hr)
theorem Weak.aggD {l : List AV} {ds : List DV} (h : Weaks l (ds.map .d)) (h1 : ∀ d ∈ ds, d.one = true) : Weak (.agg l) (.d (.agg ds)) := fun c x hx => rep_agg_d h1 (Weak.agg h c x hx)
theorem ACalls.weak {P : Program} [Wins P] {f : FuncId} {args : List AV} {H : HS} {R R' : AV → HS → Prop} (h : ACalls P f args H R) (hr : ∀ v H', R v H' → ∃ v', Weak v v' ∧ R' v' H') : ACalls P f args H R' :=
  fun B w0 c w t vs hI hB hs ha kind cs hk hn => h B w0 c w t vs hI hB hs ha kind cs hk fun v w' c' av H' t' fr h1 h2 h3 h4 h5 h6 => by
    obtain ⟨v', h7, h8⟩ := hr _ _ h5
    exact hn v w' c' v' H' t' fr h1 (h7 _ _ h2) h3 h4 h8 h6
def CutP (R : List AV → HS → Prop) (Q : Post) : Post := fun e T H => match e with
  | .normal => ∃ T', TLe T T' ∧ R T' H
  | e => Q e T H
section
variable {P : Program} [Wins P] {Q : Post} {T T' : List AV} {H : HS} {R : List AV → HS → Prop}
theorem cut_to (m : List Bool) (hm : maskT m T = T') (hl : m.length = T.length) (h : R T' H) : CutP R Q .normal T H := ⟨T', hm ▸ maskT_le m T hl, h⟩
theorem aw_cutF {x y : Code} (R : List AV → HS → Prop) (h1 : AW P x (CutP R Q) T H) (h2 : ∀ T H, R T H → AW P y Q T H) : AW P (.seq x y) Q T H :=
  aw_cut R h1 h2
end
end Go.AV
namespace Go.AV
open Go.RowKit
def HS.setB (H : HS) (id : Nat) (b : HB) : HS := { H with blks := H.blks.set id b }
theorem put_setB {H : HS} {id off : Nat} {vs : List AV} {b : HB} (h : H.blks[id]? = some b) : H.put id off vs = H.setB id { b with cs := putL b.cs off vs } := by
  have : (H.put id off vs).blks = (H.setB id { b with cs := putL b.cs off vs }).blks := by
    apply List.ext_getElem?
    intro j
    have hlt := (List.getElem?_eq_some_iff.1 h).1
    by_cases hj : j = id
    · subst hj
      rw [put_blks_at h]
      simp [HS.setB, hlt]
    · rw [put_blks_ne hj]
      have hne : ¬ id = j := fun e => hj e.symm
      simp [HS.setB, hne]
  cases H
  simp only [HS.put, HS.setB] at this ⊢
  rw [this]
theorem setB_self {H : HS} {id : Nat} {b : HB} (h : H.blks[id]? = some b) : H.setB id b = H := by
  obtain ⟨hlt, rfl⟩ := List.getElem?_eq_some_iff.1 h
  cases H
  simp [HS.setB]
theorem setB_at {H : HS} {id : Nat} {b b' : HB} (h : H.blks[id]? = some b) : (H.setB id b').blks[id]? = some b' := by
  have hlt := (List.getElem?_eq_some_iff.1 h).1
  simp [HS.setB, hlt]
theorem setB_ne {H : HS} {id j : Nat} {b : HB} (h : j ≠ id) : (H.setB id b).blks[j]? = H.blks[j]? := by
  have hne : ¬ id = j := fun e => h e.symm
  simp [HS.setB, hne]
theorem setB_setB {H : HS} {id : Nat} {b b' : HB} : (H.setB id b).setB id b' = H.setB id b' := by simp [HS.setB]
theorem setB_nb {H : HS} {id : Nat} {b : HB} : (H.setB id b).nb = H.nb := by simp [HS.setB, HS.nb]
theorem push_nb {H : HS} {e : TypeId} {cs : List AV} : (H.push e cs).nb = H.nb + 1 := by simp [HS.push, HS.nb]
theorem push_at {H : HS} {e : TypeId} {cs : List AV} : (H.push e cs).blks[H.nb]? = some ⟨e, cs, false⟩ := by simp [HS.push, HS.nb]
theorem push_ne {H : HS} {e : TypeId} {cs : List AV} {j : Nat} {b : HB} (h : H.blks[j]? = some b) : (H.push e cs).blks[j]? = some b := by
  have hlt := (List.getElem?_eq_some_iff.1 h).1
  simp only [HS.push]
  rw [List.getElem?_append_left hlt]
  exact h
theorem Ext.setB {Hs H : HS} {id : Nat} {b : HB} (h : Ext Hs H) (hlt : Hs.nb ≤ id) : Ext Hs (H.setB id b) := h.of rfl fun j hj => setB_ne (by omega)
def NewTok (Hs : HS) (t : Option Nat) : Prop := ∀ i, t = some i → Hs.toks.length ≤ i
theorem Ext.upN {Hs H : HS} {t : Option Nat} {n m : Nat} (h : Ext Hs H) (hn : NewTok Hs t) (hok : H.ok t m) : Ext Hs (H.up t n) ∧ NewTok Hs (some (H.tk t)) := by
  obtain ⟨l, hl⟩ := h.toks
  cases t with
  | none => 
    refine ⟨⟨by rw [HS.up_blks]; exact h.blks, ⟨l ++ [n], by simp [HS.up, hl]⟩, h.maps, h.x⟩, fun i hi => ?_⟩
    cases hi
    simp [HS.tk, hl]
  | some k =>
    have hk := hn k rfl
    refine ⟨⟨by rw [HS.up_blks]; exact h.blks, ?_, h.maps, h.x⟩, fun i hi => ?_⟩
    · refine ⟨l.set (k - Hs.toks.length) n, ?_⟩
      simp only [HS.up, hl]
      rw [List.set_append_right _ _ hk]
    · cases hi
      exact hk
theorem NewTok.none (Hs : HS) : NewTok Hs none := fun _ h => by cases h
section
variable {P : Program} [Wins P] {E : Operand → AV} {H : HS} {R : AV → HS → Prop} {dst : Option Tmp} {ty : TypeId} {pos : String} {after : Array Edge} {gd : Option (Nat × Bool)}
theorem op_storeB {x y : Operand} {t : TypeId} {id off n : Nat} {b b' : HB} {H' : HS} {vs : List AV} (hn : (P.info? t).map (·.size) = some n) (hx : E x = .ptr id off) (hb : H.blks[id]? = some b) (hu : E y ≠ .un) (hvs : (E y).cells = vs) (hl : vs.length = n) (hfit : off + n ≤ b.cs.length)
    (hone : ∀ v ∈ vs, v.one = true) (hfz : b.frz = false) (hb' : (⟨b.elem, putL b.cs off vs, b.frz⟩ : HB) = b') (hH : H.setB id b' = H') : OpR P ⟨dst, .store t x y, ty, pos, after, gd⟩ E H (Ret .un H') := by
  have h := op_store (dst := dst) (ty := ty) (pos := pos) (after := after) (gd := gd) hn hx hb hu hvs hl hfit hone hfz
  rw [put_setB hb] at h
  have e : ({ b with cs := putL b.cs off vs } : HB) = b' := hb'
  rwa [e, hH] at h
end
inductive Res1 (P : Program) (T : List AV) (H : HS) : ResultVar → AV → Prop
  | tmp {t : Tmp} {av : AV} (h : T[t]? = some av) : Res1 P T H (.tmp t) av
  | cell {a : Tmp} {ty : TypeId} {d : TypeDesc} {id off : Nat} {b : HB} {v : AV} (ht : P.underlying ty = some d) (hd : notAgg d = true) (hx : T[a]? = some (.ptr id off)) (hb : H.blks[id]? = some b) (hv : b.cs[off]? = some v) : Res1 P T H (.cell a ty) v
  | cells {a : Tmp} {ty : TypeId} {d : TypeDesc} {id off n : Nat} {b : HB} {vs : List AV} (ht : P.underlying ty = some d) (hd : notAgg d = false) (hn : (P.info? ty).map (·.size) = some n) (hx : T[a]? = some (.ptr id off)) (hb : H.blks[id]? = some b)
      (hl : off + n ≤ b.cs.length) (hvs : (b.cs.drop off).take n = vs) : Res1 P T H (.cell a ty) (.agg vs)
def resRun (tmps : Array Value) : ResultVar → Sem Value
  | .tmp t => pure (tmps.getD t undef)
  | .cell a t => do loadVar t (← asAddr (tmps.getD a undef))
theorem Res1.run {P : Program} [Wins P] {T : List AV} {H : HS} {B : Nat} {w0 w : World} {c : Ctx} {tmps : Array Value} (hI : Inv B w0 c H w) (hT : RepT c tmps T) {r : ResultVar} {av : AV} (h : Res1 P T H r av) : ∃ v, (resRun tmps r).run P w = .ok v w ∧ Rep c v av := by
  cases h with
  | tmp h => exact ⟨_, rfl, getD_of hT h⟩
  | @cell a ty d id off b _ ht hd hx hb hv =>
    obtain ⟨g, e, hg⟩ := (getD_of hT hx).ptr_inv
    obtain ⟨u, hc, hr⟩ := hI.cell hg hb hv
    exact ⟨u, by simp [resRun, e, asAddr, run_load_one ht hd w hc], hr⟩
  | @cells a ty d id off n b vs ht hd hn hx hb hl hvs =>
    obtain ⟨g, e, hg⟩ := (getD_of hT hx).ptr_inv
    subst hvs
    have hall : ∀ j, j < n → ∃ u, w.cell? ⟨g, off + j, none⟩ = some u ∧ ∃ v, b.cs[off + j]? = some v ∧ Rep c u v := fun j hj => by
      have hlt : off + j < b.cs.length := by omega
      obtain ⟨u, h2, h3⟩ := hI.cell hg hb (List.getElem?_eq_getElem hlt)
      exact ⟨u, h2, _, List.getElem?_eq_getElem hlt, h3⟩
    let f : Nat → Value := fun j => (w.cell? ⟨g, off + j, none⟩).getD undef
    refine ⟨.agg ((List.range n).map f).toArray, ?_, .agg _ _ (by simp; omega) (fun i hi => ?_)⟩
    · have := run_load_agg (P := P) ht hd hn (g := g) (o := off) ((List.range n).map f) (by simp) w (fun j u hu => by
        have hj : j < n := by have := (List.getElem?_eq_some_iff.1 hu).1; simpa using this
        have : u = f j := by simp [hj] at hu; exact hu.symm
        subst this
        obtain ⟨u, h2, _⟩ := hall j hj
        simp [f, h2])
      simp [resRun, e, asAddr, this]
    · have hi' : i < n := by simp at hi; omega
      obtain ⟨u, h2, v, h3, h4⟩ := hall i hi'
      have e1 : (((List.range n).map f).toArray).getD i undef = u := by simp [hi', f, h2]
      rw [e1]
      have e2 : ((b.cs.drop off).take n)[i] = v := by
        rw [List.getElem_take, List.getElem_drop]
        have := (List.getElem?_eq_some_iff.1 h3).2
        exact this
      rw [e2]
      exact h4
def RetPostC (P : Program) (rs : Array ResultVar) (R : AV → HS → Prop) : Post := fun e T H => (e = .ret ∨ e = .normal) ∧
  ∃ av, R av H ∧ ((∃ r, rs = #[r] ∧ Res1 P T H r av) ∨ (∃ r s x y, rs = #[r, s] ∧ Res1 P T H r x ∧ Res1 P T H s y ∧ av = .tup [x, y]) ∨ (∃ r s q x y z, rs = #[r, s, q] ∧ Res1 P T H r x ∧ Res1 P T H s y ∧ Res1 P T H q z ∧ av = .tup [x, y, z]))
section
variable {P : Program} [Wins P] {T : List AV} {H : HS} {rs : Array ResultVar} {R : AV → HS → Prop}
theorem results_eq {fn : Func} {tmps : Array Value} : results fn tmps = (do let vs ← fn.results.mapM (resRun tmps); pure (if h : vs.size = 1 then vs[0] else .tuple vs)) := by
  unfold results
  congr 1
theorem acalls_of_awC {f : FuncId} {fn : Func} {k : Code} {args : List AV} (hf : P.funcs[f]? = some fn) (hb : fn.body = some k)
    (h : AW P k (RetPostC P fn.results R) (args ++ List.replicate (fn.ntmps - args.length) .un) H) : ACalls P f args H R := by
  refine acalls_body hf hb _ h ?_
  rintro e T' H' ⟨he, av, hR, hres⟩
  refine ⟨he, fun B w0 c' w' tmps x2 x3 => ?_⟩
  have key : ∃ v, (results fn tmps).run P w' = .ok v w' ∧ Rep c' v av := by
    rcases hres with ⟨r, hr, h1⟩ | ⟨r, s, x, y, hr, h1, h2, rfl⟩ | ⟨r, s, q, x, y, z, hr, h1, h2, h3, rfl⟩
    · obtain ⟨v, e1, r1⟩ := h1.run x2 x3
      exact ⟨v, by simp [results_eq, hr, e1], r1⟩
    · obtain ⟨v, e1, r1⟩ := h1.run x2 x3
      obtain ⟨u, e2, r2⟩ := h2.run x2 x3
      refine ⟨.tuple #[v, u], by simp [results_eq, hr, e1, e2], .tup _ _ rfl fun i hi => ?_⟩
      rcases i with _ | _ | i
      · exact r1
      · exact r2
      · simp at hi; omega
    · obtain ⟨v, e1, r1⟩ := h1.run x2 x3
      obtain ⟨u, e2, r2⟩ := h2.run x2 x3
      obtain ⟨t, e3, r3⟩ := h3.run x2 x3
      refine ⟨.tuple #[v, u, t], by simp [results_eq, hr, e1, e2, e3], .tup _ _ rfl fun i hi => ?_⟩
      rcases i with _ | _ | _ | i
      · exact r1
      · exact r2
      · exact r3
      · simp at hi; omega
  obtain ⟨v, hv, hrep⟩ := key
  exact ⟨v, av, H', c', hv, Le.refl c', hrep, x2, hR⟩
end
end Go.AV
namespace Go.AV
section
variable {P : Program} [Wins P] {E : Operand → AV} {H : HS} {R : AV → HS → Prop} {dst : Option Tmp} {ty : TypeId} {pos : String} {after : Array Edge} {gd : Option (Nat × Bool)}
theorem op_load_ptrsD {x : Operand} {t : TypeId} {d : TypeDesc} {id off n : Nat} {b : HB} (ds : List DV) (ht : P.underlying t = some d) (hd : notAgg d = false) (hn : (P.info? t).map (·.size) = some n) (hx : E x = .ptr id off) (hb : H.blks[id]? = some b)
    (hl : off + n ≤ b.cs.length) (hvs : (b.cs.drop off).take n = ds.map .d) (h1 : ∀ d ∈ ds, d.one = true) : OpR P ⟨dst, .load t x, ty, pos, after, gd⟩ E H (Ret (.d (.agg ds)) H) :=
  opR_weaken (op_load_ptrs ht hd hn hx hb hl hvs) fun _ _ h => rep_agg_d h1 h
end
end Go.AV
namespace Go.AV
theorem nb_le {Hs H : HS} (h : Ext Hs H) : Hs.nb ≤ H.nb := by
  obtain ⟨l, hl⟩ := h.blks
  simp [HS.nb, hl]
end Go.AV
namespace Go.AV
section
variable {P : Program} [Wins P] {T : List AV} {H H' : HS} {Φ : HS → Prop} {ops : Array Oper} {o : Oper} {l : List Oper} {fl : List Nat} {v : AV} {R : List AV → HS → Prop} {g d : Nat} {x : Bool}
theorem drun0X (ho : ∀ H, Φ H → OpR P o (evalT T) H (Ret v H)) (hg : o.guard = none) (h : DRunX P Φ ops l fl (putT T o.dst v) H R) : DRunX P Φ ops (o :: l) (0 :: fl) T H R := ⟨v, H, ⟨true, by rw [hg], rfl, ho⟩, .inr fun h => h, h⟩
theorem drun2X (ho : OpR P o (evalT T) H (Ret v H')) (hg : o.guard = none) (hΦ : l = [] ∨ Φ H') (h : DRunX P Φ ops l fl (putT T o.dst v) H' R) : DRunX P Φ ops (o :: l) (2 :: fl) T H R := ⟨v, H', ⟨true, by rw [hg], ho⟩, hΦ.imp id fun h _ => h, h⟩
end
end Go.AV
namespace Go.AV
section
variable {P : Program} [Wins P] {E : Operand → AV} {H : HS} {dst : Option Tmp} {ty : TypeId} {pos : String} {after : Array Edge} {gd : Option (Nat × Bool)}
theorem op_load_ptrsW {x : Operand} {t : TypeId} {d : TypeDesc} {id off n : Nat} {b : HB} (ds : List DV) (ht : P.underlying t = some d) (hd : notAgg d = false) (hn : (P.info? t).map (·.size) = some n) (hx : E x = .ptr id off) (hb : H.blks[id]? = some b)
    (hl : off + n ≤ b.cs.length) (hvs : Weaks ((b.cs.drop off).take n) (ds.map .d)) (h1 : ∀ d ∈ ds, d.one = true) : OpR P ⟨dst, .load t x, ty, pos, after, gd⟩ E H (Ret (.d (.agg ds)) H) :=
  opR_weaken (op_load_ptrs ht hd hn hx hb hl rfl) fun c x h => Weak.aggD hvs h1 c x h
end
end Go.AV
namespace Go.AV
open Go.RowKit
end Go.AV
namespace Go.AV.Oct
open Go.AV.Ord
abbrev RB (t : TypeId) (st : RS) : HB := ⟨t, [.d (S st.1), .d (TF st.2)], false⟩
theorem badN_big {c : UInt8} {r : List UInt8} (h : 8 < (c.toNat : Int)) : badN (c :: r) = true := by
  have : 8 < c.toNat := by omega
  simp [badN, this]
theorem badN_short {c : UInt8} {r : List UInt8} (h : (((c :: r).length : Nat) : Int) < 1 + (c.toNat : Int)) : badN (c :: r) = true := by
  have : r.length < c.toNat := by simp at h; omega
  simp [badN, this]
theorem badN_rest {c : UInt8} {r : List UInt8} (h1 : ¬ 8 < (c.toNat : Int)) (h2 : ¬ (((c :: r).length : Nat) : Int) < 1 + (c.toNat : Int)) : badN (c :: r) = (decide (0 < c.toNat) && (r.headD 0 == 0)) := by
  have h3 : ¬ 8 < c.toNat := by omega
  have h4 : ¬ r.length < c.toNat := by simp at h2; omega
  simp [badN, h3, h4]
end Go.AV.Oct
namespace Go.AV.Oct
open Go.AV.Ord
theorem badN_false {c : UInt8} {r : List UInt8} (h : badN (c :: r) = false) : c.toNat ≤ 8 ∧ c.toNat ≤ r.length := by
  simp [badN] at h
  omega
theorem rNum_bad (most : Int) (s : List UInt8) : rNum most (s, true) = (0, (s, true)) := by simp [rNum]
theorem rNum_badN {most : Int} {s : List UInt8} (h : badN s = true) : rNum most (s, false) = (0, ([], true)) := by simp [rNum, h]
theorem rNum_big {most : Int} {c : UInt8} {r : List UInt8} (h : badN (c :: r) = false) (hx : (if 0 > most then 0 else most) < (val (r.take c.toNat) : Int)) : rNum most (c :: r, false) = (0, ([], true)) := by
  have : max most 0 < (val (r.take c.toNat) : Int) := by
    split at hx <;> omega
  simp only [rNum, h]
  simp [this]
theorem rNum_ok {most : Int} {c : UInt8} {r : List UInt8} (h : badN (c :: r) = false) (hx : ¬ (if 0 > most then 0 else most) < (val (r.take c.toNat) : Int)) : rNum most (c :: r, false) = (val (r.take c.toNat), (r.drop c.toNat, false)) := by
  have : ¬ max most 0 < (val (r.take c.toNat) : Int) := by
    split at hx <;> omega
  simp only [rNum, h]
  simp [this, Nat.add_comm 1]
end Go.AV.Oct
namespace Go.AV.Oct
theorem badN_two {c d : UInt8} {r : List UInt8} (h1 : ¬ 8 < (c.toNat : Int)) (h2 : ¬ (((c :: d :: r).length : Nat) : Int) < 1 + (c.toNat : Int)) (h0 : 0 < (c.toNat : Int)) : badN (c :: d :: r) = ((d.toNat : Int) == 0) := by
  rw [badN_rest h1 h2]
  have h3 : 0 < c.toNat := by omega
  rw [Bool.eq_iff_iff]
  simp only [h3, decide_true, Bool.true_and, List.headD_cons, beq_iff_eq]
  constructor
  · intro h; subst h; rfl
  · intro h; apply UInt8.toNat_inj.1; show d.toNat = 0; omega
theorem badN_one {c : UInt8} {r : List UInt8} (h1 : ¬ 8 < (c.toNat : Int)) (h2 : ¬ (((c :: r).length : Nat) : Int) < 1 + (c.toNat : Int)) (h0 : ¬ 0 < (c.toNat : Int)) : badN (c :: r) = false := by
  rw [badN_rest h1 h2]
  have h3 : ¬ 0 < c.toNat := by omega
  simp [h3]
end Go.AV.Oct
namespace Go.AV.Oct
end Go.AV.Oct
namespace Go.AV.Oct
open Go.AV.Ord
theorem shr_at (X : Nat) {k z : Nat} (h : k < z) (hz : z ≤ 8) : ((X : Nat) : Int).fdiv (2 ^ (min ((8 : Int) * ((z : Int) - 1 - (k : Int))).toNat IntKind.u64.bits)) = ((X / 256 ^ (z - 1 - k) : Nat) : Int) := by
  have e := shr_off X (j := 7 - (z - 1 - k)) (by omega)
  have h1 : (7 : Int) - ((7 - (z - 1 - k) : Nat) : Int) = (z : Int) - 1 - (k : Int) := by omega
  have h2 : 7 - (7 - (z - 1 - k)) = z - 1 - k := by omega
  rw [h1, h2] at e
  exact e
theorem shr8 (X : Nat) : ((X : Nat) : Int).fdiv (2 ^ (min (8 : Int).toNat IntKind.u64.bits)) = ((X / 256 : Nat) : Int) := by
  have e := shr_at X (k := 0) (z := 2) (by decide) (by decide)
  simpa using e
theorem numB_take (x : Nat) : (numB x).take 1 = [UInt8.ofNat (szN x)] := by simp [numB]
theorem numB_get {x k : Nat} (h : k < szN x) : (numB x)[k + 1]? = some (UInt8.ofNat (x / 256 ^ (szN x - 1 - k) % 256)) := by
  simp only [numB, List.getElem?_cons_succ]
  exact be_get _ _ _ h
theorem szN_8 {n : Int} (h : n ≤ 9223372036854775807) : szN n.toNat ≤ 8 := by
  refine szN_le 8 _ ?_
  have : n.toNat < 18446744073709551616 := by omega
  simpa using this
theorem numB_mod {n : Nat} (h : szN n ≤ 8) : (UInt8.ofNat (szN n % 256)) = UInt8.ofNat (szN n) := by rw [Nat.mod_eq_of_lt (by omega)]
end Go.AV.Oct
namespace Go.AV
theorem op_appendO {P : Program} [Wins P] {T : List AV} {Hs : HS} {dst : Option Tmp} {ty : TypeId} {pos : String} {after : Array Edge} {gd : Option (Nat × Bool)} {x y : Operand} {t' tx e : TypeId} {t : Option Nat} {w : AV} {ys : List DV} {l m : List UInt8} {k : Nat} (ht : P.underlying t' = some (.slice e)) (hi : tInfo P e (.int .u8 0) 1 1)
    (hx : evalT T x = ownB Hs t l) (hy : evalT T y = w) (hw : Adds P tx w 1 ys) (hys : ys = m.map BY) (hok : Hs.ok t k) (hn : l.length + m.length ≤ 140737488355328) :
    OpR P ⟨dst, .call ⟨.builtin .append, #[x, y], #[t', tx]⟩, ty, pos, after, gd⟩ (evalT T) (upB Hs t l) (Ret (ownB Hs t (l ++ m)) (upB Hs t (l ++ m))) := by
  subst hys hy
  have hv : App (evalT T x) (some (Hs.tk t)) 1 (l.map BY) := by rw [hx]; exact .own _ _ _
  by_cases hm : m = []
  · subst hm
    have h := op_append0 (dst := dst) (ty := ty) (pos := pos) (after := after) (gd := gd) (H := upB Hs t l) ht hi hv.ll hw
    rw [hx] at h
    simpa using h
  · have h0 : 0 < (m.map BY).length := by simpa using List.length_pos_iff.2 hm
    have h := op_append (dst := dst) (ty := ty) (pos := pos) (after := after) (gd := gd) (H := upB Hs t l) ht hi rfl hv hw (by simpa using HS.ok_up Hs t l.length hok) h0 (by simpa using hn) (by simpa using hn)
    have e1 : (AV.own (some ((upB Hs t l).tk (some (Hs.tk t)))) 1 (l.map BY ++ m.map BY)) = ownB Hs t (l ++ m) := by simp [ownB, HS.tk]
    have e2 : (upB Hs t l).up (some (Hs.tk t)) ((l.map BY).length + (m.map BY).length) = upB Hs t (l ++ m) := by
      rw [HS.up_up]; simp [upB]
    rw [e1, e2] at h
    exact h
end Go.AV
namespace Go.AV.Oct
theorem rNum_most {most : Int} {st st' : RS} {n : Nat} (h : rNum most st = (n, st')) : (n : Int) ≤ max most 0 := by
  unfold rNum at h
  split at h
  · cases h; omega
  · split at h
    · cases h; omega
    · simp only [] at h
      split at h
      · cases h; omega
      · rename_i hx
        cases h
        omega
end Go.AV.Oct
namespace Go.AV.Oct
open Go.AV.Ord
theorem szN_eq {x k : Nat} (h1 : 256 ^ k ≤ x) (h2 : x < 256 ^ (k + 1)) : szN x = k + 1 := by
  have h3 := szN_le _ _ h2
  have h4 := szN_lt x
  have h5 : ¬ szN x ≤ k := fun h => by
    have := Nat.pow_le_pow_right (n := 256) (by decide) h
    omega
  omega
theorem val_head {c : UInt8} {r : List UInt8} (h : c ≠ 0) : 256 ^ r.length ≤ val (c :: r) := by
  rw [val_cons]
  have : 0 < c.toNat := by
    rcases Nat.eq_zero_or_pos c.toNat with h0 | h0
    · exact absurd (UInt8.toNat_inj.1 (by rw [h0]; rfl)) h
    · exact h0
  have := Nat.mul_le_mul_right (256 ^ r.length) this
  omega
theorem numB_back {c : UInt8} {r : List UInt8} (h : badN (c :: r) = false) : c :: r = numB (val (r.take c.toNat)) ++ r.drop c.toNat := by
  have ⟨h1, h2⟩ := badN_false h
  have hl : (r.take c.toNat).length = c.toNat := by simp; omega
  have hz : szN (val (r.take c.toNat)) = c.toNat := by
    rcases Nat.eq_zero_or_pos c.toNat with h0 | h0
    · rw [h0]; simp [val, szN_zero]
    · obtain ⟨d, q, rfl⟩ : ∃ d q, r = d :: q := List.exists_cons_of_ne_nil (by intro e; subst e; simp at h2; omega)
      have hd : d ≠ 0 := by
        intro e
        subst e
        simp [badN, h0] at h
      obtain ⟨k, hk⟩ : ∃ k, c.toNat = k + 1 := ⟨c.toNat - 1, by omega⟩
      rw [hk] at hl ⊢
      rw [List.take_succ_cons] at hl ⊢
      have hl' : (q.take k).length = k := by simpa using hl
      have h3 := val_head (r := q.take k) hd
      have h4 := val_lt (d :: q.take k)
      rw [hl'] at h3
      rw [List.length_cons, hl'] at h4
      exact szN_eq h3 h4
  have hb := be_val (r.take c.toNat)
  rw [hl] at hb
  unfold numB
  rw [hz, hb]
  have hc : UInt8.ofNat c.toNat = c := by simp
  rw [hc]
  simp
theorem rNum_back {most : Int} {s s' : List UInt8} {x : Nat} (h : rNum most (s, false) = (x, (s', false))) : s = numB x ++ s' ∧ (x : Int) ≤ max most 0 := by
  simp only [rNum, Bool.false_eq_true, if_false] at h
  split at h
  · cases h
  · rename_i hb
    have hb' : badN s = false := by simpa using hb
    split at h
    · cases h
    · rename_i hx
      cases s with
      | nil => cases hb'
      | cons c r =>
        simp only [List.headD_cons, List.drop_succ_cons, List.drop_zero, Nat.add_comm 1, Prod.mk.injEq] at h hx
        obtain ⟨rfl, rfl, _⟩ := h
        exact ⟨numB_back hb', by omega⟩
theorem rText_back {most : Int} {s s' t : List UInt8} (h : rText most (s, false) = (t, (s', false))) : s = textB t ++ s' ∧ (t.length : Int) ≤ max most 0 := by
  unfold rText at h
  obtain ⟨n, ⟨s1, b1⟩, hr⟩ : ∃ n st, rNum most (s, false) = (n, st) := ⟨_, _, rfl⟩
  simp only [hr] at h
  split at h
  · rename_i hb
    simp at h hb
    obtain ⟨_, _, h⟩ := h
    rw [hb] at h; cases h
  · rename_i hb
    have hb' : b1 = false := by simpa using hb
    subst hb'
    split at h
    · cases h
    · rename_i hn
      simp only [Prod.mk.injEq] at h
      obtain ⟨rfl, rfl, _⟩ := h
      obtain ⟨h1, h2⟩ := rNum_back hr
      have hl : (s1.take n).length = n := by simp at hn ⊢; omega
      refine ⟨?_, by rw [hl]; exact h2⟩
      rw [textB, hl, List.append_assoc, List.take_append_drop]
      exact h1
theorem rText_bad (most : Int) (s : List UInt8) : rText most (s, true) = ([], (s, true)) := by simp [rText, rNum]
theorem rFlag_back {s s' : List UInt8} {b : Bool} (h : rFlag (s, false) = (b, (s', false))) : s = flagB b ++ s' := by
  cases s with
  | nil => simp [rFlag] at h
  | cons c r =>
    simp only [rFlag, Bool.false_eq_true, if_false] at h
    split at h
    · simp at h
    · rename_i hc
      simp only [Prod.mk.injEq] at h
      obtain ⟨rfl, rfl, _⟩ := h
      have : c = 0 ∨ c = 1 := by
        have h2 : c.toNat = 0 ∨ c.toNat = 1 := by omega
        rcases h2 with h2 | h2
        · exact .inl (UInt8.toNat_inj.1 (by rw [h2]; rfl))
        · exact .inr (UInt8.toNat_inj.1 (by rw [h2]; rfl))
      rcases this with rfl | rfl <;> rfl
theorem rFlag_bad (s : List UInt8) : rFlag (s, true) = (false, (s, true)) := by simp [rFlag]
end Go.AV.Oct
namespace Go.AV.Sch
open Go.AV.Ord Go.AV.Oct
structure Ix where
  name : List UInt8
  field : List UInt8
  uniq : Bool
def ixC (x : Ix) : List DV := [S x.name, S x.field, TF x.uniq]
def ixD (x : Ix) : DV := .agg (ixC x)
def ixB (x : Ix) : List UInt8 := textB x.name ++ textB x.field ++ flagB x.uniq
def encC (xs : List Ix) : List UInt8 := numB xs.length ++ xs.flatMap ixB
def rIx (st : RS) : Ix × RS :=
  let a := rText 40 st
  let b := rText 40 a.2
  let c := rFlag b.2
  (⟨a.1, b.1, c.1⟩, c.2)
theorem rIx_back {s s' : List UInt8} {x : Ix} (h : rIx (s, false) = (x, (s', false))) : s = ixB x ++ s' := by
  unfold rIx at h
  obtain ⟨a, ⟨s1, b1⟩, h1⟩ : ∃ n st, rText 40 (s, false) = (n, st) := ⟨_, _, rfl⟩
  obtain ⟨b, ⟨s2, b2⟩, h2⟩ : ∃ n st, rText 40 (s1, b1) = (n, st) := ⟨_, _, rfl⟩
  obtain ⟨c, ⟨s3, b3⟩, h3⟩ : ∃ n st, rFlag (s2, b2) = (n, st) := ⟨_, _, rfl⟩
  simp only [h1, h2, h3, Prod.mk.injEq] at h
  obtain ⟨rfl, rfl, rfl⟩ := h
  cases b1 with
  | true => rw [rText_bad] at h2; cases h2; rw [rFlag_bad] at h3; cases h3
  | false =>
    cases b2 with
    | true => rw [rFlag_bad] at h3; cases h3
    | false =>
      rw [(rText_back h1).1, (rText_back h2).1, rFlag_back h3]
      simp [ixB]
theorem rIx_bad (s : List UInt8) : (rIx (s, true)).2 = (s, true) := by simp [rIx, rText_bad, rFlag_bad]
def rIxs : Nat → RS → List Ix × RS
  | 0, st => ([], st)
  | n + 1, st => let r := rIxs n st; let x := rIx r.2; (r.1 ++ [x.1], x.2)
theorem rIxs_len : ∀ (n : Nat) (st : RS), (rIxs n st).1.length = n
  | 0, _ => rfl
  | n + 1, st => by simp [rIxs, rIxs_len n st]
theorem rIxs_back : ∀ (n : Nat) (s : List UInt8), (rIxs n (s, false)).2.2 = false → s = (rIxs n (s, false)).1.flatMap ixB ++ (rIxs n (s, false)).2.1
  | 0, s, _ => rfl
  | n + 1, s, h => by
    have ih := rIxs_back n s
    simp only [rIxs] at h ⊢
    obtain ⟨xs, ⟨s1, b1⟩, h1⟩ : ∃ xs st, rIxs n (s, false) = (xs, st) := ⟨_, _, rfl⟩
    rw [h1] at h ih ⊢
    cases b1 with
    | true => rw [rIx_bad] at h; cases h
    | false =>
      have ih' := ih rfl
      obtain ⟨x, ⟨s2, b2⟩, h2⟩ : ∃ x st, rIx (s1, false) = (x, st) := ⟨_, _, rfl⟩
      simp only [h2] at h ⊢
      subst h
      have h3 := rIx_back h2
      simp only [List.flatMap_append, List.flatMap_cons, List.flatMap_nil, List.append_nil, List.append_assoc]
      rw [← h3]
      exact ih'
theorem rIxs_bad : ∀ (n : Nat) (s : List UInt8), (rIxs n (s, true)).2 = (s, true)
  | 0, _ => rfl
  | n + 1, s => by simp only [rIxs, rIxs_bad n s]; exact rIx_bad s
def nameB (s : List UInt8) : Bool := !(s == []) && decide (s.length ≤ 40)
def rightIx (xs : List Ix) (i : Nat) (x : Ix) : Bool := nameB x.name && decide (x.field.length ≤ 40) && !((xs.take i).any fun y => x.name == y.name)
def rightC (name : List UInt8) (xs : List Ix) : Bool := nameB name && decide (xs.length ≤ 8) && (List.range xs.length).all fun i => match xs[i]? with | some x => rightIx xs i x | none => true
def decC (s : List UInt8) : List Ix × RS := let r := rNum 8 (s, false); rIxs r.1 r.2
theorem decC_back {s : List UInt8} (h : rEnd (decC s).2 = 0) : encC (decC s).1 = s := by
  unfold decC at h ⊢
  obtain ⟨n, ⟨s1, b1⟩, h1⟩ : ∃ n st, rNum 8 (s, false) = (n, st) := ⟨_, _, rfl⟩
  rw [h1] at h ⊢
  simp only [] at h ⊢
  have hend : (rIxs n (s1, b1)).2 = ([], false) := by
    unfold rEnd rErr at h
    split at h
    · cases h
    · rename_i hl
      split at h
      · cases h
      · rename_i hb
        have e1 : (rIxs n (s1, b1)).2.1 = [] := List.length_eq_zero_iff.1 (by omega)
        have e2 : (rIxs n (s1, b1)).2.2 = false := by simpa using hb
        exact Prod.ext e1 e2
  cases b1 with
  | true => rw [rIxs_bad] at hend; cases hend
  | false =>
    have h2 := rIxs_back n s1 (by rw [hend])
    rw [hend, List.append_nil] at h2
    unfold encC
    rw [rIxs_len, ← h2, ← (rNum_back h1).1]
end Go.AV.Sch
namespace Go.AV.Sch
open Go.AV.Ord Go.AV.Oct
end Go.AV.Sch
namespace Go.AV.Sch
end Go.AV.Sch
namespace Go.AV.Sch
open Go.AV.Ord Go.AV.Oct
def encK (xs : List Ix) (k : Nat) : List UInt8 := numB xs.length ++ (xs.take k).flatMap ixB
theorem encK_zero (xs : List Ix) : encK xs 0 = numB xs.length := by simp [encK]
theorem encK_full (xs : List Ix) : encK xs xs.length = encC xs := by simp [encK, encC]
theorem encK_step {xs : List Ix} {k : Nat} {y : Ix} (h : xs[k]? = some y) : encK xs (k + 1) = encK xs k ++ textB y.name ++ textB y.field ++ flagB y.uniq := by
  simp [encK, take_snoc h, ixB]
theorem textB_ge (s : List UInt8) : s.length + 1 ≤ (textB s).length := by simp [textB, numB]
end Go.AV.Sch
namespace Go.AV.Sch
open Go.AV.Ord Go.AV.Oct
def decOk (name s : List UInt8) : Bool := rEnd (decC s).2 == 0 && rightC name (decC s).1
def decErr (name s : List UInt8) : Int := if decOk name s then 0 else 2
def decName (name s : List UInt8) : List UInt8 := if decOk name s then name else []
def decIxs (name s : List UInt8) : List Ix := if decOk name s then (decC s).1 else []
structure DecS (Hs : HS) (tC tR : TypeId) (H : HS) (name : List UInt8) (v : AV) (t : Option Nat) (xs : List Ix) (st : RS) : Prop where
  e1 : ∃ a b, H.blks[Hs.nb]? = some ⟨tC, [a, b], false⟩
  e2 : H.blks[Hs.nb + 1]? = some (RB tR st)
  e3 : H.blks[Hs.nb + 2]? = some ⟨tC, [.d (S name), v], false⟩
  app : App v t 3 (xs.map ixD)
  ok : H.ok t xs.length
  new : NewTok Hs t
  ext : Ext Hs H
theorem DecS.step {Hs H : HS} {tC tR : TypeId} {name : List UInt8} {v : AV} {t : Option Nat} {xs : List Ix} {st st1 st2 st3 : RS} {x : Ix} {m : Nat} (h : DecS Hs tC tR H name v t xs st) (hm : m = xs.length + 1) :
    DecS Hs tC tR (((((H.setB (Hs.nb + 1) (RB tR st1)).setB (Hs.nb + 1) (RB tR st2)).setB (Hs.nb + 1) (RB tR st3)).up t m).setB (Hs.nb + 2) ⟨tC, [.d (S name), .own (some (H.tk t)) 3 (xs.map ixD ++ [ixD x])], false⟩) name (.own (some (H.tk t)) 3 (xs.map ixD ++ [ixD x])) (some (H.tk t)) (xs ++ [x]) st3 := by
  subst hm
  obtain ⟨⟨a, b, e1⟩, e2, e3, app, ok, new, ext⟩ := h
  have hx := ((((ext.setB (b := RB tR st1) (Nat.le_succ _)).setB (b := RB tR st2) (Nat.le_succ Hs.nb)).setB (b := RB tR st3) (Nat.le_succ Hs.nb)).upN (n := xs.length + 1) new ok)
  refine ⟨⟨a, b, ?_⟩, ?_, ?_, ?_, ?_, hx.2, hx.1.setB (by omega)⟩
  · rw [setB_ne (by omega), HS.up_blks, setB_ne (by omega), setB_ne (by omega), setB_ne (by omega)]; exact e1
  · rw [setB_ne (by omega), HS.up_blks]
    exact setB_at (setB_at (setB_at e2))
  · refine setB_at (b := ⟨tC, [.d (S name), v], false⟩) ?_
    rw [HS.up_blks, setB_ne (by omega), setB_ne (by omega), setB_ne (by omega)]; exact e3
  · have := App.own (some (H.tk t)) 3 (xs.map ixD ++ [ixD x])
    simpa using this
  · have := HS.ok_up (((H.setB (Hs.nb + 1) (RB tR st1)).setB (Hs.nb + 1) (RB tR st2)).setB (Hs.nb + 1) (RB tR st3)) t (xs.length + 1) ok
    rw [List.length_append]
    exact this
theorem DecS.start (Hs : HS) (tC tR : TypeId) (name s : List UInt8) (a b c d : AV) (st : RS) :
    DecS Hs tC tR ((((Hs.push tC [a, b]).push tR [.d (S s), .d (TF false)]).push tC [c, d]).setB (Hs.nb + 2) ⟨tC, [.d (S name), nilS], false⟩ |>.setB (Hs.nb + 1) (RB tR st)) name nilS none [] st := by
  have n1 : (Hs.push tC [a, b]).nb = Hs.nb + 1 := push_nb
  have n2 : ((Hs.push tC [a, b]).push tR [.d (S s), .d (TF false)]).nb = Hs.nb + 2 := by rw [push_nb, n1]
  have e1 : (Hs.push tC [a, b]).blks[Hs.nb]? = some ⟨tC, [a, b], false⟩ := push_at
  have e2 : ((Hs.push tC [a, b]).push tR [.d (S s), .d (TF false)]).blks[Hs.nb + 1]? = some (RB tR (s, false)) := by rw [← n1]; exact push_at
  have e3 : (((Hs.push tC [a, b]).push tR [.d (S s), .d (TF false)]).push tC [c, d]).blks[Hs.nb + 2]? = some ⟨tC, [c, d], false⟩ := by rw [← n2]; exact push_at
  refine ⟨⟨a, b, ?_⟩, ?_, ?_, App.nil _, HS.ok_none _ _, NewTok.none _, ?_⟩
  · rw [setB_ne (by omega), setB_ne (by omega)]; exact push_ne (push_ne e1)
  · exact setB_at (b := RB tR (s, false)) (by rw [setB_ne (by omega)]; exact push_ne e2)
  · rw [setB_ne (by omega)]; exact setB_at e3
  · exact ((((((Ext.refl Hs).push _ _).push _ _).push _ _).setB (by omega)).setB (by omega))
end Go.AV.Sch
namespace Go.AV.Sch
open Go.AV.Ord Go.AV.Oct
theorem dec_err {name s : List UInt8} (h : ¬ decErr name s = 0) : decOk name s = false ∧ decErr name s = 2 ∧ decName name s = [] ∧ decIxs name s = [] := by
  cases hd : decOk name s with
  | true => simp [decErr, hd] at h
  | false => simp [decErr, decName, decIxs, hd]
theorem dec_err0 {name s : List UInt8} (h : decErr name s = 0) : decOk name s = true := by
  cases hd : decOk name s with
  | true => rfl
  | false => simp [decErr, hd] at h
end Go.AV.Sch
namespace Go.AV.Val
open Go.AV.Ord Go.AV.Oct
mutual
inductive V where
  | mk (kind : Int) (yes : Bool) (num : Int) (text : List UInt8) (list : List V) (fields : List F)
inductive F where
  | mk (name : List UInt8) (val : V)
end
def V.kind : V → Int | .mk k _ _ _ _ _ => k
def V.yes : V → Bool | .mk _ y _ _ _ _ => y
def V.num : V → Int | .mk _ _ n _ _ _ => n
def V.text : V → List UInt8 | .mk _ _ _ t _ _ => t
def V.list : V → List V | .mk _ _ _ _ l _ => l
def V.fields : V → List F | .mk _ _ _ _ _ fs => fs
def F.name : F → List UInt8 | .mk n _ => n
def F.val : F → V | .mk _ v => v
mutual
def vC : V → List DV
  | .mk k y n t l fs => [I k, TF y, .v (.int .i64 n), S t, .lst 6 (vsD l), .lst 7 (fsD fs)]
def vsD : List V → List DV
  | [] => []
  | v :: l => .agg (vC v) :: vsD l
def fsD : List F → List DV
  | [] => []
  | f :: l => .agg (fC f) :: fsD l
def fC : F → List DV
  | .mk n v => S n :: vC v
end
def vD (v : V) : DV := .agg (vC v)
def fD (f : F) : DV := .agg (fC f)
theorem vsD_map : ∀ l : List V, vsD l = l.map vD
  | [] => by simp [vsD]
  | v :: l => by rw [vsD, vsD_map l]; rfl
theorem fsD_map : ∀ l : List F, fsD l = l.map fD
  | [] => by simp [fsD]
  | v :: l => by rw [fsD, fsD_map l]; rfl
theorem vC_eq (v : V) : vC v = [I v.kind, TF v.yes, .v (.int .i64 v.num), S v.text, .lst 6 (v.list.map vD), .lst 7 (v.fields.map fD)] := by
  cases v
  rw [vC, vsD_map, fsD_map]; rfl
theorem fC_eq (f : F) : fC f = S f.name :: vC f.val := by
  cases f
  rw [fC]; rfl
def V0 : V := .mk 0 false 0 [] [] []
theorem V.eta (v : V) : v = .mk v.kind v.yes v.num v.text v.list v.fields := by cases v; rfl
theorem F.eta (v : F) : v = .mk v.name v.val := by cases v; rfl
def rises : List F → Bool
  | [] => true
  | [_] => true
  | a :: b :: l => Op.bytesLess a.name b.name && rises (b :: l)
def onlyV (v : V) : Bool := decide (0 ≤ v.kind) && decide (v.kind ≤ 5) && (v.kind == 1 || v.yes == false) && (v.kind == 2 || v.num == 0) && (v.kind == 3 || v.text == []) && (v.kind == 4 || v.list.isEmpty) && (v.kind == 5 || v.fields.isEmpty)
def rightV : Nat → V → Bool
  | 0, _ => false
  | d + 1, v => onlyV v && rises v.fields && v.fields.all (fun f => rightV d f.val) && v.list.all (rightV d)
def zigN (n : Int) : Nat := if 0 ≤ n then 2 * n.toNat else 2 * (-n - 1).toNat + 1
def unzig (x : Nat) : Int := if x % 2 = 0 then x / 2 else -(x / 2) - 1
theorem unzig_zig (n : Int) : unzig (zigN n) = n := by
  unfold unzig zigN
  split <;> split <;> omega
theorem zig_unzig (x : Nat) : zigN (unzig x) = x := by
  unfold unzig zigN
  split <;> split <;> omega
theorem zig_lt {n : Int} (h1 : -9223372036854775808 ≤ n) (h2 : n ≤ 9223372036854775807) : zigN n < 18446744073709551616 := by
  unfold zigN
  split <;> omega
def intB (n : Int) : List UInt8 := numB (zigN n / 4294967296) ++ numB (zigN n % 4294967296)
mutual
def encV : V → List UInt8
  | .mk k y n t l fs => UInt8.ofNat k.toNat :: (if k = 1 then flagB y else if k = 2 then intB n else if k = 3 then textB t else if k = 4 then numB l.length ++ encL l else if k = 5 then numB fs.length ++ encF fs else [])
def encL : List V → List UInt8
  | [] => []
  | v :: l => encV v ++ encL l
def encF : List F → List UInt8
  | [] => []
  | .mk n v :: l => textB n ++ encV v ++ encF l
end
theorem encL_flat : ∀ l : List V, encL l = l.flatMap encV
  | [] => by simp [encL]
  | v :: l => by rw [encL, encL_flat l]; rfl
def fieldB (f : F) : List UInt8 := textB f.name ++ encV f.val
theorem encF_flat : ∀ l : List F, encF l = l.flatMap fieldB
  | [] => by simp [encF]
  | .mk n v :: l => by rw [encF, encF_flat l]; rfl
theorem encV_eq (v : V) : encV v = UInt8.ofNat v.kind.toNat :: (if v.kind = 1 then flagB v.yes else if v.kind = 2 then intB v.num else if v.kind = 3 then textB v.text else if v.kind = 4 then numB v.list.length ++ v.list.flatMap encV else if v.kind = 5 then numB v.fields.length ++ v.fields.flatMap fieldB else []) := by
  cases v
  rw [encV, encL_flat, encF_flat]; rfl
abbrev DS := RS × Int
def broke (st : DS) : Bool := !(st.2 == 0) || st.1.2
def rKind (st : DS) : Int × DS := match st.1.1 with
  | [] => (0, (st.1, 2))
  | c :: r => if 5 < c.toNat then (0, ((r, st.1.2), 2)) else (c.toNat, ((r, st.1.2), st.2))
def rL (f : DS → V × DS) : Nat → DS → List V × DS
  | 0, st => ([], st)
  | n + 1, st => let r := rL f n st; if broke r.2 then r else let x := f r.2; (r.1 ++ [x.1], x.2)
def notBelow (l : List F) (n : List UInt8) : Bool := match l.getLast? with
  | some f => !Op.bytesLess f.name n
  | none => false
def rF (f : DS → V × DS) : Nat → DS → List F × DS
  | 0, st => ([], st)
  | n + 1, st => let r := rF f n st; if broke r.2 then r else
    let t := rText 4096 r.2.1
    let x := f (t.2, if notBelow r.1 t.1 then 2 else r.2.2)
    (r.1 ++ [.mk t.1 x.1], x.2)
def rInt (st : RS) : Int × RS := let a := rNum 4294967295 st; let b := rNum 4294967295 a.2; (unzig (a.1 * 4294967296 + b.1), b.2)
def rBody (f : DS → V × DS) (k : Int) (st : DS) : V × DS :=
  if k = 1 then let y := rFlag st.1; (.mk 1 y.1 0 [] [] [], (y.2, st.2))
  else if k = 2 then let x := rInt st.1; (.mk 2 false x.1 [] [] [], (x.2, st.2))
  else if k = 3 then let t := rText 4096 st.1; (.mk 3 false 0 t.1 [] [], (t.2, st.2))
  else if k = 4 then let n := rNum 4096 st.1; let l := rL f n.1 (n.2, st.2); (.mk 4 false 0 [] l.1 [], l.2)
  else if k = 5 then let n := rNum 4096 st.1; let l := rF f n.1 (n.2, st.2); (.mk 5 false 0 [] [] l.1, l.2)
  else (.mk k false 0 [] [] [], st)
def rV : Nat → DS → V × DS
  | 0, st => if broke st then (V0, st) else (V0, (st.1, 3))
  | d + 1, st => if broke st then (V0, st) else let k := rKind st; rBody (rV d) k.1 k.2
end Go.AV.Val
namespace Go.AV.Oct
open Go.AV.Ord
theorem ofNat_toNat {n : Nat} (h : n < 256) : (UInt8.ofNat n).toNat = n := by
  simp; omega
theorem rNum_fwd {most : Int} {x : Nat} (r : List UInt8) (hz : szN x ≤ 8) (hx : (x : Int) ≤ most) : rNum most (numB x ++ r, false) = (x, (r, false)) := by
  have hc : (UInt8.ofNat (szN x)).toNat = szN x := ofNat_toNat (by omega)
  have hlen : (be (szN x) x).length = szN x := be_len _ _
  have hbad : badN (numB x ++ r) = false := by
    show badN (UInt8.ofNat (szN x) :: (be (szN x) x ++ r)) = false
    have h1 : ¬ 8 < szN x := by omega
    have h2 : ¬ (be (szN x) x ++ r).length < szN x := by rw [List.length_append, hlen]; omega
    by_cases hx0 : x = 0
    · subst hx0; simp [badN, szN_zero]
    · have h3 : szN x ≠ 0 := by rw [szN_pos hx0]; omega
      have h4 := be_get (szN x) x 0 (by omega)
      have h5 := szN_top hx0
      have h6 := szN_lt x
      have h7 : x / 256 ^ (szN x - 1) < 256 := by
        rw [Nat.div_lt_iff_lt_mul (Nat.pow_pos (by decide)), ← Nat.pow_succ']
        rw [show (szN x - 1).succ = szN x by omega]; exact h6
      have h8 : 1 ≤ x / 256 ^ (szN x - 1) := (Nat.le_div_iff_mul_le (Nat.pow_pos (by decide))).2 (by omega)
      have h9 : (be (szN x) x ++ r).headD 0 = UInt8.ofNat (x / 256 ^ (szN x - 1)) := by
        cases hq : be (szN x) x with
        | nil => rw [hq] at h4; cases h4
        | cons c q =>
          rw [hq] at h4
          simp only [List.getElem?_cons_zero, Option.some.injEq, Nat.sub_zero] at h4
          rw [Nat.mod_eq_of_lt h7] at h4
          rw [h4]; rfl
      have h10 : ((be (szN x) x ++ r).headD 0 == 0) = false := by
        rw [h9, beq_eq_false_iff_ne]
        intro h
        have := congrArg UInt8.toNat h
        rw [ofNat_toNat h7] at this
        have h0 : (0 : UInt8).toNat = 0 := rfl
        omega
      simp only [badN, hc, h1, h2, h10]
      simp
  have hv : val (be (szN x) x) = x := val_be _ _ (szN_lt x)
  have ht : ((numB x ++ r).drop 1).take (szN x) = be (szN x) x := by
    show (be (szN x) x ++ r).take (szN x) = _
    exact List.take_left' hlen
  have hd : (numB x ++ r).drop (1 + szN x) = r := by
    rw [Nat.add_comm]
    show (be (szN x) x ++ r).drop (szN x) = r
    exact List.drop_left' hlen
  have hh : ((numB x ++ r).headD 0).toNat = szN x := hc
  simp only [rNum, hbad, hh, ht, hv, hd, Bool.false_eq_true, if_false]
  rw [if_neg (by omega)]
theorem szN_4 {x : Nat} (h : x ≤ 4294967295) : szN x ≤ 8 := by
  refine szN_le 8 _ ?_
  have : x < 18446744073709551616 := by omega
  simpa using this
theorem rText_fwd {most : Int} {s : List UInt8} (r : List UInt8) (hm : most ≤ 4294967295) (hx : (s.length : Int) ≤ most) : rText most (textB s ++ r, false) = (s, (r, false)) := by
  have h := rNum_fwd (most := most) (x := s.length) (s ++ r) (szN_4 (by omega)) hx
  have e : textB s ++ r = numB s.length ++ (s ++ r) := by simp [textB]
  simp only [rText, e, h, Bool.false_eq_true, if_false]
  rw [if_neg (by simp)]
  simp
theorem rFlag_fwd (b : Bool) (r : List UInt8) : rFlag (flagB b ++ r, false) = (b, (r, false)) := by
  cases b <;> rfl
end Go.AV.Oct
namespace Go.AV.Val
open Go.AV.Ord Go.AV.Oct
theorem broke_ok (s : List UInt8) : broke ((s, false), 0) = false := rfl
theorem broke_false {st : DS} (h : broke st = false) : st = ((st.1.1, false), 0) := by
  obtain ⟨⟨s, b⟩, e⟩ := st
  simp [broke] at h
  simp [h]
theorem rV_broke {d : Nat} {st : DS} (h : broke st = true) : rV d st = (V0, st) := by
  cases d <;> simp [rV, h]
theorem rL_broke {f : DS → V × DS} {st : DS} (h : broke st = true) : ∀ n, rL f n st = ([], st)
  | 0 => rfl
  | n + 1 => by simp [rL, rL_broke h n, h]
theorem rF_broke {f : DS → V × DS} {st : DS} (h : broke st = true) : ∀ n, rF f n st = ([], st)
  | 0 => rfl
  | n + 1 => by simp [rF, rF_broke h n, h]
structure Reads (f : DS → V × DS) (rt : V → Bool) : Prop where
  br : ∀ st, broke st = true → f st = (V0, st)
  back : ∀ s v s', f ((s, false), 0) = (v, ((s', false), 0)) → s = encV v ++ s' ∧ rt v = true
theorem good_of {st : DS} {s' : List UInt8} (f : DS → V × DS) (h : ∀ st, broke st = true → (f st).2 = st) (e : (f st).2 = ((s', false), 0)) : broke st = false := by
  cases hb : broke st with
  | false => rfl
  | true => rw [h st hb] at e; rw [e] at hb; cases hb
theorem rL_back {f : DS → V × DS} {rt : V → Bool} (hf : Reads f rt) : ∀ (n : Nat) (s : List UInt8) (l : List V) (s' : List UInt8), rL f n ((s, false), 0) = (l, ((s', false), 0)) → s = l.flatMap encV ++ s' ∧ l.length = n ∧ l.all rt = true
  | 0, s, l, s', h => by
    simp only [rL, Prod.mk.injEq] at h
    obtain ⟨rfl, ⟨rfl, _⟩, _⟩ := h
    exact ⟨rfl, rfl, rfl⟩
  | n + 1, s, l, s', h => by
    obtain ⟨l1, st1, h1⟩ : ∃ l st, rL f n ((s, false), 0) = (l, st) := ⟨_, _, rfl⟩
    simp only [rL, h1] at h
    split at h
    · rename_i hb
      simp only [Prod.mk.injEq] at h
      rw [h.2] at hb; cases hb
    · rename_i hb
      have hb' : broke st1 = false := by simpa using hb
      have e1 := broke_false hb'
      rw [e1] at h1
      obtain ⟨i1, i2, i3⟩ := rL_back hf n s l1 _ h1
      obtain ⟨x, st2, h2⟩ : ∃ x st, f st1 = (x, st) := ⟨_, _, rfl⟩
      simp only [h2, Prod.mk.injEq] at h
      obtain ⟨rfl, rfl⟩ := h
      rw [e1] at h2
      obtain ⟨j1, j2⟩ := hf.back _ _ _ h2
      refine ⟨?_, by simp [i2], by simp [i3, j2]⟩
      rw [i1, j1]; simp
theorem rises_snoc : ∀ (l : List F) (f : F), rises (l ++ [f]) = (rises l && !notBelow l f.name)
  | [], _ => rfl
  | [a], f => by simp [rises, notBelow]
  | a :: b :: l, f => by
    have ih := rises_snoc (b :: l) f
    have e : notBelow (a :: b :: l) f.name = notBelow (b :: l) f.name := by simp [notBelow]
    simp only [List.cons_append, rises] at ih ⊢
    rw [ih, e, Bool.and_assoc]
theorem rF_back {f : DS → V × DS} {rt : V → Bool} (hf : Reads f rt) : ∀ (n : Nat) (s : List UInt8) (l : List F) (s' : List UInt8), rF f n ((s, false), 0) = (l, ((s', false), 0)) → s = l.flatMap fieldB ++ s' ∧ l.length = n ∧ rises l = true ∧ (l.all fun f => rt f.val) = true
  | 0, s, l, s', h => by
    simp only [rF, Prod.mk.injEq] at h
    obtain ⟨rfl, ⟨rfl, _⟩, _⟩ := h
    exact ⟨rfl, rfl, rfl, rfl⟩
  | n + 1, s, l, s', h => by
    obtain ⟨l1, st1, h1⟩ : ∃ l st, rF f n ((s, false), 0) = (l, st) := ⟨_, _, rfl⟩
    simp only [rF, h1] at h
    split at h
    · rename_i hb
      simp only [Prod.mk.injEq] at h
      rw [h.2] at hb; cases hb
    · rename_i hb
      have hb' : broke st1 = false := by simpa using hb
      have e1 := broke_false hb'
      rw [e1] at h1
      obtain ⟨i1, i2, i3, i4⟩ := rF_back hf n s l1 _ h1
      obtain ⟨t, ⟨s2, b2⟩, h2⟩ : ∃ x st, rText 4096 st1.1 = (x, st) := ⟨_, _, rfl⟩
      obtain ⟨x, st3, h3⟩ : ∃ x st, f ((s2, b2), if notBelow l1 t then 2 else st1.2) = (x, st) := ⟨_, _, rfl⟩
      simp only [h2, h3, Prod.mk.injEq] at h
      obtain ⟨rfl, rfl⟩ := h
      have hg := good_of f (fun st h => by rw [hf.br st h]) (by rw [h3])
      have e2 := broke_false hg
      simp only [Prod.mk.injEq] at e2
      obtain ⟨⟨_, rfl⟩, e2⟩ := e2
      rw [e2] at h3
      have hnb : notBelow l1 t = false := by
        cases hn : notBelow l1 t with
        | false => rfl
        | true => rw [hn] at e2; cases e2
      obtain ⟨j1, j2⟩ := hf.back _ _ _ h3
      have k1 : st1.1 = (st1.1.1, false) := by rw [e1]
      rw [k1] at h2
      have h4 := (rText_back h2).1
      refine ⟨?_, by simp [i2], by rw [rises_snoc, i3]; simp [F.name, hnb], by rw [List.all_append, i4]; simp [F.val, j2]⟩
      rw [i1, h4, j1]; simp [fieldB, F.name, F.val]
theorem rInt_back {s s' : List UInt8} {n : Int} (h : rInt (s, false) = (n, (s', false))) : s = intB n ++ s' := by
  unfold rInt at h
  obtain ⟨a, ⟨s1, b1⟩, h1⟩ : ∃ n st, rNum 4294967295 (s, false) = (n, st) := ⟨_, _, rfl⟩
  obtain ⟨b, ⟨s2, b2⟩, h2⟩ : ∃ n st, rNum 4294967295 (s1, b1) = (n, st) := ⟨_, _, rfl⟩
  simp only [h1, h2, Prod.mk.injEq] at h
  obtain ⟨rfl, rfl, rfl⟩ := h
  cases b1 with
  | true => rw [rNum_bad] at h2; cases h2
  | false =>
    have k1 := rNum_back h1
    have k2 := rNum_back h2
    have hb := k2.2
    unfold intB
    rw [zig_unzig, show (a * 4294967296 + b) / 4294967296 = a by omega, show (a * 4294967296 + b) % 4294967296 = b by omega, k1.1, k2.1]
    simp
theorem ofNat_byte (c : UInt8) : UInt8.ofNat ((c.toNat : Int).toNat) = c := by simp
theorem rV_back : ∀ d, Reads (rV d) (rightV d)
  | 0 => ⟨fun st h => rV_broke h, fun s v s' h => by simp [rV, broke] at h⟩
  | d + 1 => by
    refine ⟨fun st h => rV_broke h, fun s v s' h => ?_⟩
    have ih := rV_back d
    simp only [rV, broke_ok, Bool.false_eq_true, if_false] at h
    cases s with
    | nil => simp [rKind, rBody] at h
    | cons c r =>
      simp only [rKind] at h
      split at h
      · simp [rBody] at h
      · rename_i hc
        simp only [rBody] at h
        have hk := ofNat_byte c
        have hlt : (c.toNat : Int) ≤ 5 := by omega
        generalize hK : (c.toNat : Int) = K at h hk hlt
        have hK0 : 0 ≤ K := by omega
        clear hK
        rw [encV_eq]
        split at h
        · rename_i h1
          obtain ⟨y, st, h2⟩ : ∃ n st, rFlag (r, false) = (n, st) := ⟨_, _, rfl⟩
          simp only [h2, Prod.mk.injEq] at h
          obtain ⟨rfl, rfl, _⟩ := h
          subst h1
          exact ⟨by rw [rFlag_back h2, ← hk]; simp [V.kind, V.yes], by simp [rightV, onlyV, rises, V.kind, V.yes, V.num, V.text, V.list, V.fields]⟩
        · rename_i g1
          split at h
          · rename_i h1
            obtain ⟨y, st, h2⟩ : ∃ n st, rInt (r, false) = (n, st) := ⟨_, _, rfl⟩
            simp only [h2, Prod.mk.injEq] at h
            obtain ⟨rfl, rfl, _⟩ := h
            subst h1
            exact ⟨by rw [rInt_back h2, ← hk]; simp [V.kind, V.num], by simp [rightV, onlyV, rises, V.kind, V.yes, V.num, V.text, V.list, V.fields]⟩
          · rename_i g2
            split at h
            · rename_i h1
              obtain ⟨y, st, h2⟩ : ∃ n st, rText 4096 (r, false) = (n, st) := ⟨_, _, rfl⟩
              simp only [h2, Prod.mk.injEq] at h
              obtain ⟨rfl, rfl, _⟩ := h
              subst h1
              exact ⟨by rw [(rText_back h2).1, ← hk]; simp [V.kind, V.text], by simp [rightV, onlyV, rises, V.kind, V.yes, V.num, V.text, V.list, V.fields]⟩
            · rename_i g3
              split at h
              · rename_i h1
                obtain ⟨n, ⟨s1, b1⟩, h2⟩ : ∃ n st, rNum 4096 (r, false) = (n, st) := ⟨_, _, rfl⟩
                simp only [h2] at h
                obtain ⟨l, st, h3⟩ : ∃ l st, rL (rV d) n ((s1, b1), 0) = (l, st) := ⟨_, _, rfl⟩
                simp only [h3, Prod.mk.injEq] at h
                obtain ⟨rfl, rfl⟩ := h
                cases b1 with
                | true => rw [rL_broke rfl] at h3; cases h3
                | false =>
                  obtain ⟨k1, k2, k3⟩ := rL_back ih _ _ _ _ h3
                  subst h1
                  exact ⟨by rw [(rNum_back h2).1, ← hk, k1]; simp [V.kind, V.list, k2], by simp [rightV, onlyV, rises, V.kind, V.yes, V.num, V.text, V.list, V.fields]; simpa using k3⟩
              · rename_i g4
                split at h
                · rename_i h1
                  obtain ⟨n, ⟨s1, b1⟩, h2⟩ : ∃ n st, rNum 4096 (r, false) = (n, st) := ⟨_, _, rfl⟩
                  simp only [h2] at h
                  obtain ⟨l, st, h3⟩ : ∃ l st, rF (rV d) n ((s1, b1), 0) = (l, st) := ⟨_, _, rfl⟩
                  simp only [h3, Prod.mk.injEq] at h
                  obtain ⟨rfl, rfl⟩ := h
                  cases b1 with
                  | true => rw [rF_broke rfl] at h3; cases h3
                  | false =>
                    obtain ⟨k1, k2, k3, k4⟩ := rF_back ih _ _ _ _ h3
                    subst h1
                    exact ⟨by rw [(rNum_back h2).1, ← hk, k1]; simp [V.kind, V.fields, k2], by simp [rightV, onlyV, V.kind, V.yes, V.num, V.text, V.list, V.fields, k3]; simpa using k4⟩
                · rename_i h5
                  simp only [Prod.mk.injEq] at h
                  obtain ⟨rfl, ⟨rfl, _⟩, _⟩ := h
                  have : K = 0 := by omega
                  subst this
                  exact ⟨by rw [← hk]; simp [V.kind], by simp [rightV, onlyV, rises, V.kind, V.yes, V.num, V.text, V.list, V.fields]⟩
end Go.AV.Val
namespace Go.AV.Val
open Go.AV.Ord Go.AV.Oct
inductive WfV : V → Prop
  | mk (k : Int) (y : Bool) (n : Int) (t : List UInt8) (l : List V) (fs : List F) (hk : i64 k) (hn : i64 n) (hl : ∀ x ∈ l, WfV x) (hf : ∀ f ∈ fs, WfV f.val) : WfV (.mk k y n t l fs)
theorem WfV.k {v : V} (h : WfV v) : i64 v.kind := by cases h; assumption
theorem WfV.n {v : V} (h : WfV v) : i64 v.num := by cases h; assumption
theorem WfV.l {v : V} (h : WfV v) : ∀ x ∈ v.list, WfV x := by cases h; assumption
theorem WfV.f {v : V} (h : WfV v) : ∀ f ∈ v.fields, WfV f.val := by cases h; assumption
theorem rL_fwd {f : DS → V × DS} {l : List V} {r : List UInt8} (hf : ∀ x ∈ l, ∀ r, f ((encV x ++ r, false), 0) = (x, ((r, false), 0))) : ∀ k, k ≤ l.length → rL f k ((l.flatMap encV ++ r, false), 0) = (l.take k, (((l.drop k).flatMap encV ++ r, false), 0))
  | 0, _ => rfl
  | k + 1, h => by
    have ih := rL_fwd (r := r) hf k (by omega)
    obtain ⟨x, hx⟩ : ∃ x, l[k]? = some x := ⟨_, List.getElem?_eq_getElem (by omega)⟩
    have hd := drop_one hx
    simp only [rL, ih, broke_ok, Bool.false_eq_true, if_false]
    rw [hd, List.flatMap_cons, List.append_assoc, hf x (List.mem_of_getElem? hx), take_snoc hx]
theorem rises_pre : ∀ (b a : List F), rises (a ++ b) = true → rises a = true
  | [], a, h => by simpa using h
  | x :: b, a, h => by
    have h1 := rises_pre b (a ++ [x]) (by simpa using h)
    rw [rises_snoc] at h1
    simp at h1
    exact h1.1
theorem rises_at {l : List F} (h : rises l = true) {k : Nat} {x : F} (hx : l[k]? = some x) : notBelow (l.take k) x.name = false := by
  have h1 : rises (l.take (k + 1)) = true := rises_pre (l.drop (k + 1)) _ (by rw [List.take_append_drop]; exact h)
  rw [take_snoc hx, rises_snoc] at h1
  simpa using (by simpa using h1 : rises (l.take k) = true ∧ notBelow (l.take k) x.name = false).2
theorem rF_fwd {f : DS → V × DS} {l : List F} {r : List UInt8} (hl : rises l = true) (hn : ∀ x ∈ l, x.name.length ≤ 4096) (hf : ∀ x ∈ l, ∀ r, f ((encV x.val ++ r, false), 0) = (x.val, ((r, false), 0))) : ∀ k, k ≤ l.length → rF f k ((l.flatMap fieldB ++ r, false), 0) = (l.take k, (((l.drop k).flatMap fieldB ++ r, false), 0))
  | 0, _ => rfl
  | k + 1, h => by
    have ih := rF_fwd (r := r) hl hn hf k (by omega)
    obtain ⟨x, hx⟩ : ∃ x, l[k]? = some x := ⟨_, List.getElem?_eq_getElem (by omega)⟩
    have hd := drop_one hx
    have hm := List.mem_of_getElem? hx
    simp only [rF, ih, broke_ok, Bool.false_eq_true, if_false]
    rw [hd, List.flatMap_cons, fieldB, List.append_assoc, List.append_assoc, rText_fwd _ (by decide) (by have := hn x hm; omega)]
    simp only [rises_at hl hx, Bool.false_eq_true, if_false]
    rw [hf x hm, take_snoc hx]
    rw [← F.eta]
theorem encV_pos (v : V) : 1 ≤ (encV v).length := by rw [encV_eq]; simp
theorem flat_ge {α : Type} (g : α → List UInt8) (h : ∀ x, 1 ≤ (g x).length) : ∀ l : List α, l.length ≤ (l.flatMap g).length
  | [] => by simp
  | x :: l => by
    have := flat_ge g h l
    have := h x
    simp only [List.flatMap_cons, List.length_append, List.length_cons]; omega
theorem flat_mem {α : Type} (g : α → List UInt8) : ∀ (l : List α) (x : α), x ∈ l → (g x).length ≤ (l.flatMap g).length
  | y :: l, x, h => by
    simp only [List.flatMap_cons, List.length_append]
    rcases List.mem_cons.1 h with rfl | h
    · omega
    · have := flat_mem g l x h; omega
theorem fieldB_pos (f : F) : 1 ≤ (fieldB f).length := by unfold fieldB; have := encV_pos f.val; simp; omega
theorem rInt_fwd {n : Int} (hn : i64 n) (r : List UInt8) : rInt (intB n ++ r, false) = (n, (r, false)) := by
  have hz : zigN n < 18446744073709551616 := zig_lt (by unfold i64 at hn; omega) (by unfold i64 at hn; omega)
  unfold rInt intB
  rw [List.append_assoc, rNum_fwd _ (szN_4 (by omega)) (by omega)]
  simp only []
  rw [rNum_fwd _ (szN_4 (by omega)) (by omega)]
  simp only []
  rw [show zigN n / 4294967296 * 4294967296 + zigN n % 4294967296 = zigN n by omega, unzig_zig]
theorem rV_fwd : ∀ (d : Nat) (v : V) (r : List UInt8), rightV d v = true → WfV v → (encV v).length ≤ 4096 → rV d ((encV v ++ r, false), 0) = (v, ((r, false), 0))
  | 0, _, _, h, _, _ => by simp [rightV] at h
  | d + 1, v, r, h, hw, hl => by
    obtain ⟨k, y, n, t, l, fs, rfl⟩ : ∃ k y n t l fs, v = .mk k y n t l fs := ⟨_, _, _, _, _, _, v.eta⟩
    have hn := hw.n
    have hwl := hw.l
    have hwf := hw.f
    simp only [rightV, onlyV, V.kind, V.yes, V.num, V.text, V.list, V.fields, Bool.and_eq_true, Bool.or_eq_true, beq_iff_eq, List.isEmpty_iff, List.all_eq_true] at h hn hwl hwf
    obtain ⟨⟨⟨⟨⟨⟨⟨⟨⟨h0, h5⟩, hy⟩, hnn⟩, ht⟩, hll⟩, hff⟩, hr⟩, hfs⟩, hls⟩ := h
    replace h0 : 0 ≤ k := of_decide_eq_true h0
    replace h5 : k ≤ 5 := of_decide_eq_true h5
    have hk : (UInt8.ofNat k.toNat).toNat = k.toNat := ofNat_toNat (by omega)
    have hkk : ((k.toNat : Nat) : Int) = k := by omega
    rw [encV_eq] at hl ⊢
    simp only [V.kind, V.yes, V.num, V.text, V.list, V.fields] at hl ⊢
    simp only [rV, broke_ok, Bool.false_eq_true, if_false, List.cons_append, rKind, hk, hkk, show ¬ 5 < k.toNat by omega]
    by_cases h1 : k = 1
    · subst h1
      obtain rfl := hnn.resolve_left (by decide)
      obtain rfl := ht.resolve_left (by decide)
      obtain rfl := hll.resolve_left (by decide)
      obtain rfl := hff.resolve_left (by decide)
      simp only [rBody, if_true, rFlag_fwd]
    · obtain rfl := hy.resolve_left h1
      by_cases h2 : k = 2
      · subst h2
        obtain rfl := ht.resolve_left (by decide)
        obtain rfl := hll.resolve_left (by decide)
        obtain rfl := hff.resolve_left (by decide)
        simp only [rBody, if_true, rInt_fwd hn, show ¬ (2 : Int) = 1 by decide, if_false]
      · obtain rfl := hnn.resolve_left h2
        by_cases h3 : k = 3
        · subst h3
          obtain rfl := hll.resolve_left (by decide)
          obtain rfl := hff.resolve_left (by decide)
          have htl : t.length ≤ 4096 := by
            have := Sch.textB_ge t
            simp at hl; omega
          simp only [rBody, if_true, rText_fwd (most := 4096) (s := t) r (by decide) (by omega), show ¬ (3 : Int) = 1 by decide, show ¬ (3 : Int) = 2 by decide, if_false]
        · obtain rfl := ht.resolve_left h3
          by_cases h4 : k = 4
          · subst h4
            obtain rfl := hff.resolve_left (by decide)
            simp only [show ¬ (4 : Int) = 1 by decide, show ¬ (4 : Int) = 2 by decide, show ¬ (4 : Int) = 3 by decide, if_true, if_false, List.length_cons, List.length_append] at hl
            have hge := flat_ge encV encV_pos l
            have hmem := flat_mem encV l
            have := rL_fwd (f := rV d) (l := l) (r := r) (fun x hx r => rV_fwd d x r (hls x hx) (hwl x hx) (by have := hmem x hx; omega)) l.length (Nat.le_refl _)
            simp only [rBody, if_true, show ¬ (4 : Int) = 1 by decide, show ¬ (4 : Int) = 2 by decide, show ¬ (4 : Int) = 3 by decide, if_false, List.append_assoc]
            rw [rNum_fwd _ (szN_4 (by omega)) (by omega)]
            simp only [this]
            simp
          · obtain rfl := hll.resolve_left h4
            by_cases h5' : k = 5
            · subst h5'
              simp only [show ¬ (5 : Int) = 1 by decide, show ¬ (5 : Int) = 2 by decide, show ¬ (5 : Int) = 3 by decide, show ¬ (5 : Int) = 4 by decide, if_true, if_false, List.length_cons, List.length_append] at hl
              have hge := flat_ge fieldB fieldB_pos fs
              have hmem := flat_mem fieldB fs
              have hfl : ∀ x ∈ fs, x.name.length ≤ 4096 ∧ (encV x.val).length ≤ 4096 := fun x hx => by
                have h1 := hmem x hx
                have h2 := Sch.textB_ge x.name
                simp only [fieldB, List.length_append] at h1
                omega
              have := rF_fwd (f := rV d) (l := fs) (r := r) hr (fun x hx => (hfl x hx).1) (fun x hx r => rV_fwd d x.val r (hfs x hx) (hwf x hx) (hfl x hx).2) fs.length (Nat.le_refl _)
              simp only [rBody, if_true, show ¬ (5 : Int) = 1 by decide, show ¬ (5 : Int) = 2 by decide, show ¬ (5 : Int) = 3 by decide, show ¬ (5 : Int) = 4 by decide, if_false, List.append_assoc]
              rw [rNum_fwd _ (szN_4 (by omega)) (by omega)]
              simp only [this]
              simp
            · obtain rfl := hff.resolve_left h5'
              simp only [rBody, h1, h2, h3, h4, h5', if_false, List.nil_append]
def okE (e : Int) : Prop := e = 0 ∨ e = 2 ∨ e = 3
theorem rL_err {f : DS → V × DS} (hf : ∀ st, okE st.2 → okE (f st).2.2) : ∀ n st, okE st.2 → okE (rL f n st).2.2
  | 0, _, h => h
  | n + 1, st, h => by
    have ih := rL_err hf n st h
    simp only [rL]
    split
    · exact ih
    · exact hf _ ih
theorem rF_err {f : DS → V × DS} (hf : ∀ st, okE st.2 → okE (f st).2.2) : ∀ n st, okE st.2 → okE (rF f n st).2.2
  | 0, _, h => h
  | n + 1, st, h => by
    have ih := rF_err hf n st h
    simp only [rF]
    split
    · exact ih
    · refine hf _ ?_
      show okE (if _ then _ else _)
      split
      · exact .inr (.inl rfl)
      · exact ih
theorem rKind_err {st : DS} (h : okE st.2) : okE (rKind st).2.2 := by
  unfold rKind
  split
  · exact .inr (.inl rfl)
  · split
    · exact .inr (.inl rfl)
    · exact h
theorem rV_err : ∀ d st, okE st.2 → okE (rV d st).2.2
  | 0, st, h => by
    simp only [rV]
    split
    · exact h
    · exact .inr (.inr rfl)
  | d + 1, st, h => by
    simp only [rV]
    split
    · exact h
    · have hk := rKind_err h
      unfold rBody
      split
      · exact hk
      · split
        · exact hk
        · split
          · exact hk
          · split
            · exact rL_err (rV_err d) _ _ hk
            · split
              · exact rF_err (rV_err d) _ _ hk
              · exact hk
def nestV : Nat → V
  | 0 => .mk 2 false 5 [] [] []
  | n + 1 => .mk 4 false 0 [] [nestV n] []
def nestB : Nat → List UInt8
  | 0 => [2, 0, 1, 10]
  | n + 1 => [4, 1, 1] ++ nestB n
theorem numB_0 : numB 0 = [0] := by simp [numB, szN_zero, be]
theorem numB_1 : numB 1 = [1, 1] := by
  have h : szN 1 = 1 := by rw [szN_pos (by decide)]; simp [szN_zero]
  rw [numB, h]; decide
theorem numB_10 : numB 10 = [1, 10] := by
  have h : szN 10 = 1 := by rw [szN_pos (by decide)]; simp [szN_zero]
  rw [numB, h]; decide
theorem enc_nest : ∀ n, encV (nestV n) = nestB n
  | 0 => by
    rw [encV_eq]
    simp only [nestV, V.kind, V.num, intB]
    rw [show zigN 5 / 4294967296 = 0 by decide, show zigN 5 % 4294967296 = 10 by decide, numB_0, numB_10]
    decide
  | n + 1 => by
    rw [encV_eq]
    simp only [nestV, V.kind, V.list, List.flatMap_cons, List.flatMap_nil, enc_nest n, List.length_cons, List.length_nil, nestB]
    simp [numB_1]
theorem wf_nest : ∀ n, WfV (nestV n)
  | 0 => .mk _ _ _ _ _ _ (by unfold i64; decide) (by unfold i64; decide) (fun x h => by cases h) (fun x h => by cases h)
  | n + 1 => .mk _ _ _ _ _ _ (by unfold i64; decide) (by unfold i64; decide) (fun x h => by rcases List.mem_singleton.1 h with rfl; exact wf_nest n) (fun x h => by cases h)
theorem right_nest : ∀ d n, rightV d (nestV n) = decide (n < d)
  | 0, n => by simp [rightV]
  | d + 1, 0 => by simp [rightV, nestV, onlyV, rises, V.kind, V.yes, V.num, V.text, V.list, V.fields]
  | d + 1, n + 1 => by simp [rightV, nestV, onlyV, rises, V.kind, V.yes, V.num, V.text, V.list, V.fields, right_nest d n]
theorem nest_len : ∀ n, (nestB n).length = 3 * n + 4
  | 0 => rfl
  | n + 1 => by simp [nestB, nest_len n]; omega
theorem rV_deep : ∀ (d n : Nat) (r : List UInt8), d ≤ n → (rV d ((nestB n ++ r, false), 0)).2.2 = 3
  | 0, n, r, _ => by simp [rV, broke]
  | d + 1, 0, _, h => by omega
  | d + 1, n + 1, r, h => by
    have ih := rV_deep d n r (by omega)
    have hn := rNum_fwd (most := 4096) (x := 1) (nestB n ++ r) (szN_4 (by decide)) (by decide)
    rw [numB_1] at hn
    simp only [rV, broke_ok, Bool.false_eq_true, if_false, nestB, List.cons_append, rKind, List.nil_append, show ¬ 5 < (4 : UInt8).toNat by decide]
    simp only [List.cons_append, List.nil_append] at hn
    simp only [rBody, show ((4 : UInt8).toNat : Int) = 4 by decide, if_true, show ¬ (4 : Int) = 1 by decide, show ¬ (4 : Int) = 2 by decide, show ¬ (4 : Int) = 3 by decide, if_false, hn, rL, broke_ok, Bool.false_eq_true]
    exact ih
end Go.AV.Val
namespace Go.AV.Stp
open Go.AV.Ord Go.AV.Oct
structure St where
  kind : Int
  sess : Int
  n : Int
  text : List UInt8
  keep : List Int
def stC (s : St) : List DV := [I s.kind, I s.sess, I s.n, S s.text, .lst 1 (s.keep.map I)]
def stD (s : St) : DV := .agg (stC s)
def keepAt (x : Int) : Bool := decide (0 ≤ x) && decide (x ≤ 1048576)
def fieldsS (s : St) : Bool := decide (1 ≤ s.kind) && decide (s.kind ≤ 7) && decide (0 ≤ s.sess) && decide (s.sess ≤ 15) && decide (0 ≤ s.n) && decide (s.n ≤ 1099511627776) && decide (s.text.length ≤ 20000) && decide (s.keep.length ≤ 16)
def rightS (s : St) : Bool := fieldsS s && s.keep.all keepAt
structure RightS (s : St) : Prop where
  k1 : 1 ≤ s.kind
  k7 : s.kind ≤ 7
  s0 : 0 ≤ s.sess
  s15 : s.sess ≤ 15
  n0 : 0 ≤ s.n
  nT : s.n ≤ 1099511627776
  tx : s.text.length ≤ 20000
  kl : s.keep.length ≤ 16
  kp : ∀ x ∈ s.keep, 0 ≤ x ∧ x ≤ 1048576
theorem rightS_iff {s : St} : rightS s = true ↔ RightS s := by
  simp only [rightS, fieldsS, keepAt, Bool.and_eq_true, decide_eq_true_eq, List.all_eq_true]
  constructor
  · rintro ⟨⟨⟨⟨⟨⟨⟨⟨h1, h2⟩, h3⟩, h4⟩, h5⟩, h6⟩, h7⟩, h8⟩, h9⟩
    exact ⟨h1, h2, h3, h4, h5, h6, h7, h8, h9⟩
  · rintro ⟨h1, h2, h3, h4, h5, h6, h7, h8, h9⟩
    exact ⟨⟨⟨⟨⟨⟨⟨⟨h1, h2⟩, h3⟩, h4⟩, h5⟩, h6⟩, h7⟩, h8⟩, h9⟩
def keepB (l : List Int) : List UInt8 := l.flatMap fun x => numB x.toNat
def headB (s : St) : List UInt8 := numB s.kind.toNat ++ numB s.sess.toNat ++ numB s.n.toNat ++ textB s.text ++ numB s.keep.length
def stB (s : St) : List UInt8 := headB s ++ keepB s.keep
def encS (xs : List St) : List UInt8 := numB xs.length ++ xs.flatMap stB
theorem numB_short {x : Int} (h : x ≤ 9223372036854775807) : (numB x.toNat).length ≤ 9 := by
  have := szN_8 h
  rw [numB_len]; omega
theorem numB_shortN {x : Nat} (h : x ≤ 9223372036854775807) : (numB x).length ≤ 9 := by
  have := numB_short (x := (x : Int)) (by omega)
  simpa using this
theorem keepB_le : ∀ (l : List Int), (∀ x ∈ l, x ≤ 9223372036854775807) → (keepB l).length ≤ 9 * l.length
  | [], _ => by simp [keepB]
  | x :: l, h => by
    have h1 := numB_short (h x (by simp))
    have h2 := keepB_le l fun y hy => h y (by simp [hy])
    simp only [keepB, List.flatMap_cons, List.length_append, List.length_cons] at h2 ⊢
    omega
theorem headB_le {s : St} (h : RightS s) : (headB s).length ≤ 20100 := by
  have a := numB_short (x := s.kind) (by have := h.k7; omega)
  have b := numB_short (x := s.sess) (by have := h.s15; omega)
  have c := numB_short (x := s.n) (by have := h.nT; omega)
  have d := numB_shortN (x := s.text.length) (by have := h.tx; omega)
  have e := numB_shortN (x := s.keep.length) (by have := h.kl; omega)
  have := h.tx
  simp only [headB, textB, List.length_append]
  omega
theorem stB_le {s : St} (h : RightS s) : (stB s).length ≤ 20300 := by
  have a := headB_le h
  have b := keepB_le s.keep fun x hx => by have := h.kp x hx; omega
  have := h.kl
  simp only [stB, List.length_append]
  omega
def encK (xs : List St) (k : Nat) : List UInt8 := numB xs.length ++ (xs.take k).flatMap stB
theorem encK_zero (xs : List St) : encK xs 0 = numB xs.length := by simp [encK]
theorem encK_full (xs : List St) : encK xs xs.length = encS xs := by simp [encK, encS]
theorem encK_step {xs : List St} {k : Nat} {y : St} (h : xs[k]? = some y) : encK xs (k + 1) = encK xs k ++ stB y := by
  simp [encK, take_snoc h]
theorem flat_le : ∀ (xs : List St), (∀ x ∈ xs, rightS x = true) → (xs.flatMap stB).length ≤ 20300 * xs.length
  | [], _ => by simp
  | x :: xs, h => by
    have a := stB_le (rightS_iff.1 (h x (by simp)))
    have b := flat_le xs fun y hy => h y (by simp [hy])
    simp only [List.flatMap_cons, List.length_append, List.length_cons]
    omega
theorem encK_le {xs : List St} {k : Nat} (hl : xs.length ≤ 10000) (h : (xs.take k).all rightS = true) : (encK xs k).length ≤ 1000000000 := by
  have a := flat_le (xs.take k) (List.all_eq_true.1 h)
  have b := numB_shortN (x := xs.length) (by omega)
  have c : (xs.take k).length ≤ 10000 := by rw [List.length_take]; omega
  simp only [encK, List.length_append]
  omega
def encE (xs : List St) : Int := if 10000 < xs.length then 4 else if xs.all rightS then 0 else 1
def encR (xs : List St) : List UInt8 := if encE xs = 0 then encS xs else []
theorem encE_long {xs : List St} (h : 10000 < xs.length) : encE xs = 4 ∧ encR xs = [] := by
  have : encE xs = 4 := by simp [encE, h]
  exact ⟨this, by simp [encR, this]⟩
theorem encE_bad {xs : List St} {k : Nat} {y : St} (h : ¬ 10000 < xs.length) (hy : xs[k]? = some y) (hr : rightS y = false) : encE xs = 1 ∧ encR xs = [] := by
  have h1 : xs.all rightS = false := by rw [List.all_eq_false]; exact ⟨y, List.mem_of_getElem? hy, by simp [hr]⟩
  have : encE xs = 1 := by simp [encE, h, h1]
  exact ⟨this, by simp [encR, this]⟩
theorem encE_ok {xs : List St} (h : ¬ 10000 < xs.length) (hr : xs.all rightS = true) : encE xs = 0 ∧ encR xs = encS xs := by
  have : encE xs = 0 := by simp [encE, h, hr]
  exact ⟨this, by simp [encR, this]⟩
def rKeeps : Nat → RS → List Int × RS
  | 0, st => ([], st)
  | n + 1, st => let r := rKeeps n st; let x := rNum 1048576 r.2; (r.1 ++ [(x.1 : Int)], x.2)
def rHead (st : RS) : (Nat × Nat × Nat × List UInt8) × RS :=
  let a := rNum 7 st
  let b := rNum 16 a.2
  let c := rNum 1099511627776 b.2
  let d := rText 20000 c.2
  ((a.1, b.1, c.1, d.1), d.2)
def rSt (st : RS) : St × RS :=
  let h := rHead st
  let e := rNum 16 h.2
  let f := rKeeps e.1 e.2
  (⟨h.1.1, h.1.2.1, h.1.2.2.1, h.1.2.2.2, f.1⟩, f.2)
def rSts : Nat → RS → List St × RS
  | 0, st => ([], st)
  | n + 1, st => let r := rSts n st; let x := rSt r.2; (r.1 ++ [x.1], x.2)
theorem rKeeps_len : ∀ (n : Nat) (st : RS), (rKeeps n st).1.length = n
  | 0, _ => rfl
  | n + 1, st => by simp [rKeeps, rKeeps_len n st]
theorem rSts_len : ∀ (n : Nat) (st : RS), (rSts n st).1.length = n
  | 0, _ => rfl
  | n + 1, st => by simp [rSts, rSts_len n st]
theorem rKeeps_bad : ∀ (n : Nat) (s : List UInt8), (rKeeps n (s, true)).2 = (s, true)
  | 0, _ => rfl
  | n + 1, s => by simp only [rKeeps, rKeeps_bad n s]; simp [rNum]
theorem rHead_bad (s : List UInt8) : (rHead (s, true)).2 = (s, true) := by simp [rHead, rNum_bad, rText_bad]
theorem rSt_bad (s : List UInt8) : (rSt (s, true)).2 = (s, true) := by
  have : rNum 16 (s, true) = (0, (s, true)) := rNum_bad _ _
  simp only [rSt, rHead_bad, this]
  exact rKeeps_bad _ _
theorem rSts_bad : ∀ (n : Nat) (s : List UInt8), (rSts n (s, true)).2 = (s, true)
  | 0, _ => rfl
  | n + 1, s => by simp only [rSts, rSts_bad n s]; exact rSt_bad s
theorem rKeeps_back : ∀ (n : Nat) (s : List UInt8), (rKeeps n (s, false)).2.2 = false → s = keepB (rKeeps n (s, false)).1 ++ (rKeeps n (s, false)).2.1
  | 0, s, _ => rfl
  | n + 1, s, h => by
    have ih := rKeeps_back n s
    simp only [rKeeps] at h ⊢
    obtain ⟨xs, ⟨s1, b1⟩, h1⟩ : ∃ xs st, rKeeps n (s, false) = (xs, st) := ⟨_, _, rfl⟩
    rw [h1] at h ih ⊢
    cases b1 with
    | true => rw [rNum_bad] at h; cases h
    | false =>
      have ih' := ih rfl
      obtain ⟨x, ⟨s2, b2⟩, h2⟩ : ∃ x st, rNum 1048576 (s1, false) = (x, st) := ⟨_, _, rfl⟩
      simp only [h2] at h ⊢
      subst h
      have h3 := (rNum_back h2).1
      simp only [keepB, List.flatMap_append, List.flatMap_cons, List.flatMap_nil, List.append_nil, List.append_assoc, Int.toNat_natCast] at ih' ⊢
      rw [← h3]
      exact ih'
theorem rHead_back {s s' : List UInt8} {a b c : Nat} {t : List UInt8} (h : rHead (s, false) = ((a, b, c, t), (s', false))) : s = numB a ++ numB b ++ numB c ++ textB t ++ s' := by
  unfold rHead at h
  obtain ⟨x1, ⟨s1, b1⟩, h1⟩ : ∃ n st, rNum 7 (s, false) = (n, st) := ⟨_, _, rfl⟩
  obtain ⟨x2, ⟨s2, b2⟩, h2⟩ : ∃ n st, rNum 16 (s1, b1) = (n, st) := ⟨_, _, rfl⟩
  obtain ⟨x3, ⟨s3, b3⟩, h3⟩ : ∃ n st, rNum 1099511627776 (s2, b2) = (n, st) := ⟨_, _, rfl⟩
  obtain ⟨x4, ⟨s4, b4⟩, h4⟩ : ∃ n st, rText 20000 (s3, b3) = (n, st) := ⟨_, _, rfl⟩
  simp only [h1, h2, h3, h4, Prod.mk.injEq] at h
  obtain ⟨⟨rfl, rfl, rfl, rfl⟩, rfl, rfl⟩ := h
  cases b3 with
  | true => rw [rText_bad] at h4; cases h4
  | false =>
    cases b2 with
    | true => rw [rNum_bad] at h3; cases h3
    | false =>
      cases b1 with
      | true => rw [rNum_bad] at h2; cases h2
      | false =>
        rw [(rNum_back h1).1, (rNum_back h2).1, (rNum_back h3).1, (rText_back h4).1]
        simp
theorem rSt_back {s s' : List UInt8} {x : St} (h : rSt (s, false) = (x, (s', false))) : s = stB x ++ s' := by
  unfold rSt at h
  obtain ⟨⟨a, b, c, t⟩, ⟨s1, b1⟩, h1⟩ : ∃ q st, rHead (s, false) = (q, st) := ⟨_, _, rfl⟩
  obtain ⟨n, ⟨s2, b2⟩, h2⟩ : ∃ n st, rNum 16 (s1, b1) = (n, st) := ⟨_, _, rfl⟩
  obtain ⟨ks, ⟨s3, b3⟩, h3⟩ : ∃ ks st, rKeeps n (s2, b2) = (ks, st) := ⟨_, _, rfl⟩
  simp only [h1, h2, h3, Prod.mk.injEq] at h
  obtain ⟨rfl, rfl, rfl⟩ := h
  cases b2 with
  | true => have := rKeeps_bad n s2; rw [h3] at this; cases this
  | false =>
    cases b1 with
    | true => rw [rNum_bad] at h2; cases h2
    | false =>
      have hk := rKeeps_back n s2 (by rw [h3])
      have hl := rKeeps_len n (s2, false)
      rw [h3] at hk hl
      simp only at hk hl
      rw [rHead_back h1, (rNum_back h2).1, hk]
      simp only [stB, headB, Int.toNat_natCast, hl, List.append_assoc]
theorem rSts_back : ∀ (n : Nat) (s : List UInt8), (rSts n (s, false)).2.2 = false → s = (rSts n (s, false)).1.flatMap stB ++ (rSts n (s, false)).2.1
  | 0, s, _ => rfl
  | n + 1, s, h => by
    have ih := rSts_back n s
    simp only [rSts] at h ⊢
    obtain ⟨xs, ⟨s1, b1⟩, h1⟩ : ∃ xs st, rSts n (s, false) = (xs, st) := ⟨_, _, rfl⟩
    rw [h1] at h ih ⊢
    cases b1 with
    | true => rw [rSt_bad] at h; cases h
    | false =>
      have ih' := ih rfl
      obtain ⟨x, ⟨s2, b2⟩, h2⟩ : ∃ x st, rSt (s1, false) = (x, st) := ⟨_, _, rfl⟩
      simp only [h2] at h ⊢
      subst h
      have h3 := rSt_back h2
      simp only [List.flatMap_append, List.flatMap_cons, List.flatMap_nil, List.append_nil, List.append_assoc]
      rw [← h3]
      exact ih'
theorem rKeeps_take (l : List Int) (h : ∀ x ∈ l, 0 ≤ x ∧ x ≤ 1048576) : ∀ (k : Nat) (r : List UInt8), k ≤ l.length → rKeeps k (keepB (l.take k) ++ r, false) = (l.take k, (r, false))
  | 0, r, _ => rfl
  | k + 1, r, hk => by
    obtain ⟨x, hx⟩ : ∃ x, l[k]? = some x := ⟨_, List.getElem?_eq_getElem (by omega)⟩
    have h1 := h x (List.mem_of_getElem? hx)
    have ih := rKeeps_take l h k (numB x.toNat ++ r) (by omega)
    have e : keepB (l.take (k + 1)) ++ r = keepB (l.take k) ++ (numB x.toNat ++ r) := by rw [take_snoc hx]; simp [keepB]
    rw [e, take_snoc hx]
    show (let q := rKeeps k _; let y := rNum 1048576 q.2; (q.1 ++ [(y.1 : Int)], y.2)) = _
    simp only [ih, rNum_fwd (most := 1048576) (x := x.toNat) r (szN_4 (by omega)) (by omega)]
    rw [show ((x.toNat : Nat) : Int) = x by omega]
theorem rSt_fwd {x : St} (h : RightS x) (r : List UInt8) : rSt (stB x ++ r, false) = (x, (r, false)) := by
  obtain ⟨k1, k7, s0, s15, n0, nT, tx, kl, kp⟩ := h
  have a := rNum_fwd (most := 7) (x := x.kind.toNat) (numB x.sess.toNat ++ (numB x.n.toNat ++ (textB x.text ++ (numB x.keep.length ++ (keepB x.keep ++ r))))) (szN_4 (by omega)) (by omega)
  have b := rNum_fwd (most := 16) (x := x.sess.toNat) (numB x.n.toNat ++ (textB x.text ++ (numB x.keep.length ++ (keepB x.keep ++ r)))) (szN_4 (by omega)) (by omega)
  have c := rNum_fwd (most := 1099511627776) (x := x.n.toNat) (textB x.text ++ (numB x.keep.length ++ (keepB x.keep ++ r))) (szN_8 (by omega)) (by omega)
  have d := rText_fwd (most := 20000) (s := x.text) (numB x.keep.length ++ (keepB x.keep ++ r)) (by decide) (by omega)
  have e := rNum_fwd (most := 16) (x := x.keep.length) (keepB x.keep ++ r) (szN_4 (by omega)) (by omega)
  have f := rKeeps_take x.keep kp x.keep.length r (Nat.le_refl _)
  rw [List.take_length] at f
  have hs : stB x ++ r = numB x.kind.toNat ++ (numB x.sess.toNat ++ (numB x.n.toNat ++ (textB x.text ++ (numB x.keep.length ++ (keepB x.keep ++ r))))) := by simp [stB, headB]
  unfold rSt rHead
  simp only [hs, a, b, c, d, e, f]
  rw [show ((x.kind.toNat : Nat) : Int) = x.kind by omega, show ((x.sess.toNat : Nat) : Int) = x.sess by omega, show ((x.n.toNat : Nat) : Int) = x.n by omega]
theorem rSts_take (xs : List St) (h : ∀ x ∈ xs, rightS x = true) : ∀ (k : Nat) (r : List UInt8), k ≤ xs.length → rSts k ((xs.take k).flatMap stB ++ r, false) = (xs.take k, (r, false))
  | 0, r, _ => rfl
  | k + 1, r, hk => by
    obtain ⟨x, hx⟩ : ∃ x, xs[k]? = some x := ⟨_, List.getElem?_eq_getElem (by omega)⟩
    have h1 := rightS_iff.1 (h x (List.mem_of_getElem? hx))
    rw [take_snoc hx, List.flatMap_append, List.append_assoc, List.flatMap_cons, List.flatMap_nil, List.append_nil]
    have ih := rSts_take xs h k (stB x ++ r) (by omega)
    show (let q := rSts k _; let y := rSt q.2; (q.1 ++ [y.1], y.2)) = _
    simp only [ih, rSt_fwd h1 r]
theorem rSts_fwd (xs : List St) (r : List UInt8) (h : ∀ x ∈ xs, rightS x = true) : rSts xs.length (xs.flatMap stB ++ r, false) = (xs, (r, false)) := by
  have := rSts_take xs h xs.length r (Nat.le_refl _)
  rwa [List.take_length] at this
def num0 (s : List UInt8) : Nat × RS := rNum 10000 (s, false)
def okK (k : Nat) (st : RS) : Bool := !(rSts k st).2.2 && (rSts k st).1.all rightS
def decOk (s : List UInt8) : Bool := okK (num0 s).1 (num0 s).2 && rEnd (rSts (num0 s).1 (num0 s).2).2 == 0
def decR (s : List UInt8) : List St := if decOk s then (rSts (num0 s).1 (num0 s).2).1 else []
def decE (s : List UInt8) : Int := if decOk s then 0 else 2
theorem okK_step {k : Nat} {st : RS} : okK (k + 1) st = (okK k st && (!(rSt (rSts k st).2).2.2 && rightS (rSt (rSts k st).2).1)) := by
  unfold okK
  simp only [rSts, List.all_append, List.all_cons, List.all_nil, Bool.and_true]
  obtain ⟨xs, ⟨s1, b1⟩, h1⟩ : ∃ xs st', rSts k st = (xs, st') := ⟨_, _, rfl⟩
  rw [h1]
  cases b1 with
  | true => simp [rSt_bad]
  | false => simp only [Bool.not_false, Bool.true_and]; ac_rfl
theorem okK_le {st : RS} {k : Nat} : ∀ {m : Nat}, k ≤ m → okK m st = true → okK k st = true
  | 0, hk, h => by have : k = 0 := by omega
                   rw [this]; exact h
  | m + 1, hk, h => by
    rcases Nat.lt_or_ge k (m + 1) with h1 | h1
    · rw [okK_step, Bool.and_eq_true] at h
      exact okK_le (by omega) h.1
    · rw [show k = m + 1 by omega]; exact h
theorem dec_no {s : List UInt8} {k : Nat} (hk : k < (num0 s).1) (h : okK (k + 1) (num0 s).2 = false) : decOk s = false := by
  cases hq : okK (num0 s).1 (num0 s).2 with
  | true => rw [okK_le (by omega) hq] at h; cases h
  | false => simp [decOk, hq]
theorem rEnd_zero {st : RS} (h : rEnd st = 0) : st = ([], false) := by
  obtain ⟨s, b⟩ := st
  unfold rEnd at h
  split at h
  · cases h
  · rename_i h1
    have : s = [] := List.length_eq_zero_iff.1 (by simpa using h1)
    subst this
    cases b with
    | true => cases h
    | false => rfl
theorem num0_le (s : List UInt8) : (num0 s).1 ≤ 10000 := by
  have := rNum_most (most := 10000) (st := (s, false)) (st' := (num0 s).2) (n := (num0 s).1) rfl
  omega
theorem dec_back {s : List UInt8} (h : decOk s = true) : encS (decR s) = s ∧ (decR s).all rightS = true ∧ (decR s).length ≤ 10000 ∧ (decR s).length = (num0 s).1 := by
  have e : decR s = (rSts (num0 s).1 (num0 s).2).1 := by simp [decR, h]
  simp only [decOk, Bool.and_eq_true, beq_iff_eq] at h
  have h1 := rEnd_zero h.2
  have hall : (decR s).all rightS = true := by
    have := h.1
    simp only [okK, Bool.and_eq_true] at this
    rw [e]; exact this.2
  have hlen : (decR s).length = (num0 s).1 := by rw [e, rSts_len]
  refine ⟨?_, hall, by rw [hlen]; exact num0_le s, hlen⟩
  obtain ⟨n, ⟨s1, b1⟩, e1⟩ : ∃ n st, num0 s = (n, st) := ⟨_, _, rfl⟩
  rw [e1] at h1 e
  simp only at h1 e
  cases b1 with
  | true => rw [rSts_bad] at h1; cases h1
  | false =>
    have h2 := rSts_back n s1 (by rw [h1])
    rw [h1, List.append_nil] at h2
    unfold encS
    rw [e, rSts_len, ← h2, ← (rNum_back e1).1]
theorem dec_fwd {xs : List St} (r : List UInt8) (hl : xs.length ≤ 10000) (h : xs.all rightS = true) : num0 (encS xs ++ r) = (xs.length, (xs.flatMap stB ++ r, false)) ∧ rSts xs.length (xs.flatMap stB ++ r, false) = (xs, (r, false)) := by
  refine ⟨?_, rSts_fwd xs r (List.all_eq_true.1 h)⟩
  unfold num0 encS
  rw [List.append_assoc]
  exact rNum_fwd _ (szN_4 (by omega)) (by omega)
theorem dec_right {xs : List St} (hl : xs.length ≤ 10000) (h : xs.all rightS = true) : decOk (encS xs) = true ∧ decR (encS xs) = xs ∧ decE (encS xs) = 0 := by
  obtain ⟨h1, h2⟩ := dec_fwd [] hl h
  simp only [List.append_nil] at h1 h2
  have hok : decOk (encS xs) = true := by
    unfold decOk okK
    rw [h1]
    simp only [h2, h]
    rfl
  refine ⟨hok, ?_, by simp [decE, hok]⟩
  simp only [decR, hok, if_true, h1]
  rw [h2]
theorem dec_cut {xs : List St} (hl : xs.length ≤ 10000) (h : xs.all rightS = true) {m : Nat} (hm : m < (encS xs).length) : decE ((encS xs).take m) = 2 := by
  cases hq : decOk ((encS xs).take m) with
  | false => simp [decE, hq]
  | true =>
    exfalso
    obtain ⟨h1, h2, h3, _⟩ := dec_back hq
    obtain ⟨a1, a2⟩ := dec_fwd [] hl h
    obtain ⟨b1, b2⟩ := dec_fwd ((encS xs).drop m) h3 h2
    rw [h1, List.take_append_drop] at b1
    simp only [List.append_nil] at a1 a2
    rw [a1] at b1
    have e1 := congrArg Prod.fst b1
    have e2 := congrArg Prod.snd b1
    simp only at e1 e2
    rw [← e1, ← e2, a2] at b2
    have e3 := congrArg (fun q => q.2.1) b2
    simp only at e3
    have e4 := congrArg List.length e3
    rw [List.length_drop] at e4
    simp at e4
    omega
theorem encS_pos (xs : List St) : 0 < (encS xs).length := by simp [encS, numB]
end Go.AV.Stp
namespace Go.AV.Stp
open Go.AV.Ord Go.AV.Oct
theorem rightS_no {s : St} (h : ¬ RightS s) : rightS s = false := by
  cases hq : rightS s with
  | false => rfl
  | true => exact absurd (rightS_iff.1 hq) h
theorem keep_step {l : List Int} {k : Nat} {y : Int} (h : (l.take k).all keepAt = true) (hy : l[k]? = some y) (h0 : 0 ≤ y) (h1 : y ≤ 1048576) : (l.take (k + 1)).all keepAt = true := by
  rw [take_snoc hy, List.all_append, h]; simp [keepAt, h0, h1]
theorem keep_all {l : List Int} (h : l.all keepAt = true) : ∀ x ∈ l, 0 ≤ x ∧ x ≤ 1048576 := fun x hx => by
  have := List.all_eq_true.1 h x hx
  simpa [keepAt] using this
end Go.AV.Stp
namespace Go.AV.Stp
open Go.AV.Ord Go.AV.Oct
theorem keepB_step {l : List Int} {j : Nat} {x : Int} (h : l[j]? = some x) : keepB (l.take (j + 1)) = keepB (l.take j) ++ numB x.toNat := by
  rw [take_snoc h]; simp [keepB]
theorem keepB_take {l : List Int} (h : ∀ x ∈ l, 0 ≤ x ∧ x ≤ 1048576) (hl : l.length ≤ 16) (j : Nat) : (keepB (l.take j)).length ≤ 200 := by
  have a := keepB_le (l.take j) fun x hx => by have := h x (List.mem_of_mem_take hx); omega
  have b : (l.take j).length ≤ 16 := by rw [List.length_take]; omega
  omega
theorem encK_all {xs : List St} {k : Nat} {y : St} (h : (xs.take k).all rightS = true) (hy : xs[k]? = some y) (hr : rightS y = true) : (xs.take (k + 1)).all rightS = true := by
  rw [take_snoc hy, List.all_append, h]; simp [hr]
theorem encK_next {xs : List St} {k : Nat} {y : St} (hy : xs[k]? = some y) : encK xs (k + 1) = encK xs k ++ headB y ++ keepB y.keep := by
  rw [encK_step hy, stB, List.append_assoc]
theorem head_nil (bs : List UInt8) (y : St) : bs ++ headB y ++ keepB (y.keep.take 0) = bs ++ numB y.kind.toNat ++ numB y.sess.toNat ++ numB y.n.toNat ++ textB y.text ++ numB y.keep.length := by
  simp [headB, keepB]
def fewAt (s : St) : Bool := decide (s.text.length ≤ 700) && decide (s.keep.length ≤ 20)
def fewS (xs : List St) : Bool := xs.all fewAt && decide (xs.length ≤ 70)
theorem few_bad {xs : List St} {k : Nat} {y : St} (hy : xs[k]? = some y) (h : fewAt y = false) : fewS xs = false := by
  have : xs.all fewAt = false := by rw [List.all_eq_false]; exact ⟨y, List.mem_of_getElem? hy, by simp [h]⟩
  simp [fewS, this]
theorem few_step {xs : List St} {k : Nat} {y : St} (h : (xs.take k).all fewAt = true) (hy : xs[k]? = some y) (h1 : ¬ 700 < (y.text.length : Int)) (h2 : ¬ 20 < (y.keep.length : Int)) : (xs.take (k + 1)).all fewAt = true := by
  rw [take_snoc hy, List.all_append, h]
  simp [fewAt]; omega
theorem few_end {xs : List St} (h : xs.all fewAt = true) : fewS xs = decide ((xs.length : Int) ≤ 70) := by
  simp only [fewS, h, Bool.true_and]
  exact decide_eq_decide.2 (by omega)
end Go.AV.Stp
namespace Go.AV.Stp
open Go.AV.Ord Go.AV.Oct
def kn (st : RS) : Nat := (rNum 16 (rHead st).2).1
def kst (st : RS) : RS := (rNum 16 (rHead st).2).2
theorem kn_le (st : RS) : kn st ≤ 16 := by
  have := rNum_most (most := 16) (st := (rHead st).2) (st' := kst st) (n := kn st) rfl
  omega
theorem rErr_zero {st : RS} : rErr st = 0 ↔ st.2 = false := by
  unfold rErr; cases st.2 <;> simp
theorem okK_next {k : Nat} {st : RS} (h : 0 < k → okK k st = true) (h1 : rErr (rSts (k + 1) st).2 = 0) (h2 : rightS (rSt (rSts k st).2).1 = true) : okK (k + 1) st = true := by
  have h3 := rErr_zero.1 h1
  unfold okK
  rw [h3]
  simp only [rSts, List.all_append, List.all_cons, List.all_nil, h2, Bool.and_true, Bool.not_false, Bool.true_and]
  rcases Nat.eq_zero_or_pos k with h0 | h0
  · subst h0; rfl
  · have := h h0
    simp only [okK, Bool.and_eq_true] at this
    exact this.2
theorem okK_bad {k : Nat} {st : RS} (h : rErr (rSts (k + 1) st).2 ≠ 0 ∨ rightS (rSt (rSts k st).2).1 = false) : okK (k + 1) st = false := by
  unfold okK
  rcases h with h | h
  · have : (rSts (k + 1) st).2.2 = true := by
      cases hb : (rSts (k + 1) st).2.2 with
      | true => rfl
      | false => exact absurd (rErr_zero.2 hb) h
    rw [this]; rfl
  · simp [rSts, h]
theorem dec_bad {s : List UInt8} {q k : Nat} {st : RS} (hq : num0 s = (q, st)) (hk : k < q) (h : rErr (rSts (k + 1) st).2 ≠ 0 ∨ rightS (rSt (rSts k st).2).1 = false) : decE s = 2 ∧ decR s = [] := by
  have : decOk s = false := dec_no (k := k) (by rw [hq]; exact hk) (by rw [hq]; exact okK_bad h)
  simp [decE, decR, this]
theorem dec_end {s : List UInt8} {q : Nat} {st : RS} (hq : num0 s = (q, st)) (h : 0 < q → okK q st = true) (h1 : rEnd (rSts q st).2 = 0) : decE s = 0 ∧ decR s = (rSts q st).1 := by
  have h2 := rEnd_zero h1
  have hall : (rSts q st).1.all rightS = true := by
    rcases Nat.eq_zero_or_pos q with h0 | h0
    · subst h0; rfl
    · have := h h0
      simp only [okK, Bool.and_eq_true] at this
      exact this.2
  have : decOk s = true := by
    unfold decOk okK
    rw [hq]
    simp only [hall, h2]
    rfl
  simp [decE, decR, this, hq]
theorem dec_tail {s : List UInt8} {q : Nat} {st : RS} (hq : num0 s = (q, st)) (h1 : rEnd (rSts q st).2 ≠ 0) : decE s = 2 ∧ decR s = [] := by
  have : decOk s = false := by simp [decOk, hq, h1]
  simp [decE, decR, this]
end Go.AV.Stp
namespace Go.AV.Stp
open Go.AV.Ord Go.AV.Oct
theorem reads_ok {s : List UInt8} (h : decE s = 0) : encE (decR s) = 0 ∧ encR (decR s) = s ∧ (decR s).length ≤ 10000 := by
  have hok : decOk s = true := by
    cases hd : decOk s with
    | true => rfl
    | false => simp [decE, hd] at h
  obtain ⟨h1, h2, h3, _⟩ := dec_back hok
  obtain ⟨e1, e2⟩ := encE_ok (xs := decR s) (by omega) h2
  exact ⟨e1, by rw [e2, h1], h3⟩
theorem reads_err {s : List UInt8} (h : ¬ decE s = 0) : decE s = 2 ∧ decR s = [] := by
  cases hd : decOk s with
  | true => simp [decE, hd] at h
  | false => simp [decE, decR, hd]
def gf (s : St) : Bool := decide (1 ≤ s.kind) && decide (s.kind ≤ 7) && decide (0 ≤ s.sess) && decide (s.sess ≤ 15) && decide (0 ≤ s.n) && decide (s.n ≤ 1099511627776) && decide (s.keep.length ≤ 16)
def goodAt (s : St) : Bool := gf s && s.keep.all keepAt
def goods (xs : List St) (k : Nat) : Bool := (xs.take k).all goodAt
def prt (xs : List St) (k : Nat) (y : St) (j : Nat) : Bool := goods xs k && gf y && (y.keep.take j).all keepAt
theorem prt_zero (xs : List St) (k : Nat) (y : St) : prt xs k y 0 = (goods xs k && gf y) := by simp [prt]
theorem goods_next {xs : List St} {k : Nat} {y : St} (hy : xs[k]? = some y) : goods xs (k + 1) = prt xs k y y.keep.length := by
  have h1 : goods xs (k + 1) = (goods xs k && goodAt y) := by
    unfold goods
    rw [take_snoc hy, List.all_append]
    simp
  rw [h1, prt, List.take_length, goodAt, Bool.and_assoc]
theorem prt_next {xs : List St} {k j : Nat} {y : St} {x : Int} (hx : y.keep[j]? = some x) : prt xs k y (j + 1) = (prt xs k y j && keepAt x) := by
  unfold prt
  rw [take_snoc hx, List.all_append]
  simp [Bool.and_assoc]
theorem right_good {s : St} (h : fewAt s = true) : rightS s = goodAt s := by
  simp only [fewAt, Bool.and_eq_true, decide_eq_true_eq] at h
  have h1 : decide (s.text.length ≤ 20000) = true := decide_eq_true (by omega)
  simp only [rightS, fieldsS, goodAt, gf, h1, Bool.and_true]
theorem few_all {xs : List St} (h : fewS xs = true) : xs.length ≤ 70 ∧ xs.all rightS = goods xs xs.length := by
  simp only [fewS, Bool.and_eq_true, decide_eq_true_eq] at h
  refine ⟨h.2, ?_⟩
  unfold goods
  rw [List.take_length]
  have h1 := List.all_eq_true.1 h.1
  rw [Bool.eq_iff_iff, List.all_eq_true, List.all_eq_true]
  exact ⟨fun q x hx => by rw [← right_good (h1 x hx)]; exact q x hx, fun q x hx => by rw [right_good (h1 x hx)]; exact q x hx⟩
theorem enc_bad {xs : List St} (h : fewS xs = true) (hg : goods xs xs.length = false) : encE xs = 1 ∧ encR xs = [] := by
  obtain ⟨h1, h2⟩ := few_all h
  rw [hg] at h2
  have h3 : ¬ 10000 < xs.length := by omega
  have : encE xs = 1 := by simp [encE, h3, h2]
  exact ⟨this, by simp [encR, this]⟩
theorem enc_good {xs : List St} (h : fewS xs = true) (hg : goods xs xs.length = true) : encE xs = 0 ∧ encR xs = encS xs ∧ decE (encR xs) = 0 ∧ decR (encR xs) = xs ∧ ∀ m, m < (encS xs).length → decE ((encS xs).take m) = 2 := by
  obtain ⟨h1, h2⟩ := few_all h
  rw [hg] at h2
  obtain ⟨e1, e2⟩ := encE_ok (xs := xs) (by omega) h2
  obtain ⟨_, d2, d1⟩ := dec_right (xs := xs) (by omega) h2
  exact ⟨e1, e2, by rw [e2]; exact d1, by rw [e2]; exact d2, fun m hm => dec_cut (by omega) h2 hm⟩
theorem and_16 (n : Int) : ∃ m : Nat, IntKind.i64.wrap ((BitVec.ofInt IntKind.i64.bits n &&& BitVec.ofInt IntKind.i64.bits 65535).toNat : Int) = (m : Int) := by
  have e : (BitVec.ofInt IntKind.i64.bits 65535).toNat = 2 ^ 16 - 1 := by decide
  have h : (BitVec.ofInt IntKind.i64.bits n &&& BitVec.ofInt IntKind.i64.bits 65535).toNat ≤ 65535 := by
    rw [BitVec.toNat_and, e, Nat.and_two_pow_sub_one_eq_mod]
    omega
  exact ⟨_, wrap_i64 ⟨by omega, by omega⟩⟩
end Go.AV.Stp
namespace Go.Proofs.YtdiibbbbdhkepaaGreatDoor
open Go.AV Go.AV.Ord Go.AV.Oct Go.AV.Stp
set_option linter.unusedVariables false
set_option linter.unusedSimpArgs false
variable [Wins Tryz.prog]
set_option maxRecDepth 100000 in
theorem right_ok (Hs : HS) (s : St) : ACalls Tryz.prog 13 [.d (.agg [I s.kind, I s.sess, I s.n, S s.text, .lst 1 (s.keep.map I)])] Hs (Ret (.d (TF (rightS s))) Hs) := by
 refine acalls_of_aw Tryz.func13 rfl ?_
 refine aw_start (T' := [.d (.agg [I s.kind, I s.sess, I s.n, S s.text, .lst 1 (s.keep.map I)]), .un, .un, .un, .un, .un, .un, .un, .un, .un, .un, .un, .un, .un, .un, .un, .un, .un, .un, .un, .un, .un, .un, .un, .un, .un, .un, .un, .un, .un, .un, .un, .un, .un, .un, .un, .un, .un, .un, .un, .un, .un, .un, .un, .un, .un, .un, .un, .un, .un, .un, .un, .un, .un, .un, .un, .un, .un, .un]) rfl ?_
 refine aw_seq ?_
 refine aw_region ?_
 refine zst (op_box_elt (by rfl) (by rfl)) rfl (by dsimp only [zS, zN, zH, zT]) ?_
 refine zst (op_assign_const (by rfl)) rfl (by dsimp only [zS, zN, zH, zT]) ?_
 refine al_end rfl ?_
 refine then_normal ?_
 refine aw_seq ?_
 refine aw_seq ?_
 refine aw_region ?_
 refine zst (by first | exact op_fieldAddr_ptr Tryz.underlying28 rfl Sz25 (by rfl) (by rfl) | exact op_fieldAddr_elt Tryz.underlying28 rfl Sz25 (by rfl) (by rfl) (by rfl)) rfl (by dsimp only [zS, zN, zH, zT]) ?_
 refine zst (by first | exact op_load_elt Tryz.underlying25 (by rfl) (by rfl) (by rfl) | exact op_load_ptr Tryz.underlying25 (by rfl) (by rfl) (by rfl) (by rfl)) rfl (by dsimp only [zS, zN, zH, zT]) ?_
 refine zst (op_ltI (by rfl) (by rfl)) rfl (by dsimp only [zS, zN, zH, zT]) ?_
 refine zst (op_move_tmp (by rfl)) rfl (by dsimp only [zS, zN, zH, zT]) ?_
 refine al_split 8 rfl (fun hg1 => ?_) (fun hg1 => ?_)
 ·
  (try simp only [y1, y2, y3, y4, y5, y6, y7, y8, y9, y0, List.length_map] at hg1)
  have g0 : s.kind < 1 := by simpa using hg1
  have hbad : rightS s = false := rightS_no fun q => by have := q.k1; omega
  apply al_normT
  · (try dsimp only [zS, zN, zH, zT]); try exact rfl
  refine zuw rfl rfl rfl rfl (by dsimp only [zS, zN, zH, zT]) ?_
  refine zuw rfl rfl rfl rfl (by dsimp only [zS, zN, zH, zT]) ?_
  refine zuw rfl rfl rfl rfl (by dsimp only [zS, zN, zH, zT]) ?_
  refine zst (op_pick_tt (by rfl) (val_const (by rfl))) rfl (by dsimp only [zS, zN, zH, zT]) ?_
  refine zst (op_move_tmp (by rfl)) rfl (by dsimp only [zS, zN, zH, zT]) ?_
  refine zuw rfl rfl rfl rfl (by dsimp only [zS, zN, zH, zT]) ?_
  refine zuw rfl rfl rfl rfl (by dsimp only [zS, zN, zH, zT]) ?_
  refine zuw rfl rfl rfl rfl (by dsimp only [zS, zN, zH, zT]) ?_
  refine zst (op_pick_tt (by rfl) (val_const (by rfl))) rfl (by dsimp only [zS, zN, zH, zT]) ?_
  refine zst (op_move_tmp (by rfl)) rfl (by dsimp only [zS, zN, zH, zT]) ?_
  refine zuw rfl rfl rfl rfl (by dsimp only [zS, zN, zH, zT]) ?_
  refine zuw rfl rfl rfl rfl (by dsimp only [zS, zN, zH, zT]) ?_
  refine zuw rfl rfl rfl rfl (by dsimp only [zS, zN, zH, zT]) ?_
  refine zst (op_pick_tt (by rfl) (val_const (by rfl))) rfl (by dsimp only [zS, zN, zH, zT]) ?_
  refine zst (op_move_tmp (by rfl)) rfl (by dsimp only [zS, zN, zH, zT]) ?_
  refine zuw rfl rfl rfl rfl (by dsimp only [zS, zN, zH, zT]) ?_
  refine zuw rfl rfl rfl rfl (by dsimp only [zS, zN, zH, zT]) ?_
  refine zuw rfl rfl rfl rfl (by dsimp only [zS, zN, zH, zT]) ?_
  refine zst (op_pick_tt (by rfl) (val_const (by rfl))) rfl (by dsimp only [zS, zN, zH, zT]) ?_
  refine zst (op_move_tmp (by rfl)) rfl (by dsimp only [zS, zN, zH, zT]) ?_
  refine zuw rfl rfl rfl rfl (by dsimp only [zS, zN, zH, zT]) ?_
  refine zuw rfl rfl rfl rfl (by dsimp only [zS, zN, zH, zT]) ?_
  refine zuw rfl rfl rfl rfl (by dsimp only [zS, zN, zH, zT]) ?_
  refine zst (op_pick_tt (by rfl) (val_const (by rfl))) rfl (by dsimp only [zS, zN, zH, zT]) ?_
  refine zst (op_move_tmp (by rfl)) rfl (by dsimp only [zS, zN, zH, zT]) ?_
  refine zuw rfl rfl rfl rfl (by dsimp only [zS, zN, zH, zT]) ?_
  refine zuw rfl rfl rfl rfl (by dsimp only [zS, zN, zH, zT]) ?_
  refine zuw rfl rfl rfl rfl (by dsimp only [zS, zN, zH, zT]) ?_
  refine zuw rfl rfl rfl rfl (by dsimp only [zS, zN, zH, zT]) ?_
  refine zst (op_pick_tt (by rfl) (val_const (by rfl))) rfl (by dsimp only [zS, zN, zH, zT]) ?_
  refine zst (op_move_tmp (by rfl)) rfl (by dsimp only [zS, zN, zH, zT]) ?_
  refine zuw rfl rfl rfl rfl (by dsimp only [zS, zN, zH, zT]) ?_
  refine zuw rfl rfl rfl rfl (by dsimp only [zS, zN, zH, zT]) ?_
  refine zuw rfl rfl rfl rfl (by dsimp only [zS, zN, zH, zT]) ?_
  refine zuw rfl rfl rfl rfl (by dsimp only [zS, zN, zH, zT]) ?_
  refine zst (op_pick_tt (by rfl) (val_const (by rfl))) rfl (by dsimp only [zS, zN, zH, zT]) ?_
  refine al_end rfl ?_
  refine then_normal ?_
  refine aw_cond rfl (fun _ => ?_) (fun h => by cases h)
  refine aw_seq ?_
  refine aw_region ?_
  refine zst (op_assign_const (by rfl)) rfl (by dsimp only [zS, zN, zH, zT]) ?_
  refine al_end rfl ?_
  refine then_normal ?_
  refine aw_ret ?_
  refine then_ret ?_
  refine retPost1 rfl rfl ?_
  first | exact ⟨by (rw [hbad]) <;> rfl, rfl⟩ | exact ⟨by (rw [hgood]) <;> rfl, rfl⟩
 ·
  (try simp only [y1, y2, y3, y4, y5, y6, y7, y8, y9, y0, List.length_map] at hg1)
  have g0 : ¬ s.kind < 1 := by simpa using hg1
  apply al_normT
  · (try dsimp only [zS, zN, zH, zT]); try exact rfl
  refine zsw rfl rfl rfl (by first | exact op_fieldAddr_ptr Tryz.underlying28 rfl Sz25 (by rfl) (by rfl) | exact op_fieldAddr_elt Tryz.underlying28 rfl Sz25 (by rfl) (by rfl) (by rfl)) (by dsimp only [zS, zN, zH, zT]) ?_
  refine zsw rfl rfl rfl (by first | exact op_load_elt Tryz.underlying25 (by rfl) (by rfl) (by rfl) | exact op_load_ptr Tryz.underlying25 (by rfl) (by rfl) (by rfl) (by rfl)) (by dsimp only [zS, zN, zH, zT]) ?_
  refine zsw rfl rfl rfl (op_gtI (by rfl) (by rfl)) (by dsimp only [zS, zN, zH, zT]) ?_
  refine zst (op_pick_ff (by rfl) (val_tmp (by rfl))) rfl (by dsimp only [zS, zN, zH, zT]) ?_
  refine zst (op_move_tmp (by rfl)) rfl (by dsimp only [zS, zN, zH, zT]) ?_
  refine al_split 13 rfl (fun hg3 => ?_) (fun hg3 => ?_)
  ·
   (try simp only [y1, y2, y3, y4, y5, y6, y7, y8, y9, y0, List.length_map] at hg3)
   have g1 : 7 < s.kind := by simpa using hg3
   have hbad : rightS s = false := rightS_no fun q => by have := q.k7; omega
   apply al_normT
   · (try dsimp only [zS, zN, zH, zT]); try exact rfl
   refine zuw rfl rfl rfl rfl (by dsimp only [zS, zN, zH, zT]) ?_
   refine zuw rfl rfl rfl rfl (by dsimp only [zS, zN, zH, zT]) ?_
   refine zuw rfl rfl rfl rfl (by dsimp only [zS, zN, zH, zT]) ?_
   refine zst (op_pick_tt (by rfl) (val_const (by rfl))) rfl (by dsimp only [zS, zN, zH, zT]) ?_
   refine zst (op_move_tmp (by rfl)) rfl (by dsimp only [zS, zN, zH, zT]) ?_
   refine zuw rfl rfl rfl rfl (by dsimp only [zS, zN, zH, zT]) ?_
   refine zuw rfl rfl rfl rfl (by dsimp only [zS, zN, zH, zT]) ?_
   refine zuw rfl rfl rfl rfl (by dsimp only [zS, zN, zH, zT]) ?_
   refine zst (op_pick_tt (by rfl) (val_const (by rfl))) rfl (by dsimp only [zS, zN, zH, zT]) ?_
   refine zst (op_move_tmp (by rfl)) rfl (by dsimp only [zS, zN, zH, zT]) ?_
   refine zuw rfl rfl rfl rfl (by dsimp only [zS, zN, zH, zT]) ?_
   refine zuw rfl rfl rfl rfl (by dsimp only [zS, zN, zH, zT]) ?_
   refine zuw rfl rfl rfl rfl (by dsimp only [zS, zN, zH, zT]) ?_
   refine zst (op_pick_tt (by rfl) (val_const (by rfl))) rfl (by dsimp only [zS, zN, zH, zT]) ?_
   refine zst (op_move_tmp (by rfl)) rfl (by dsimp only [zS, zN, zH, zT]) ?_
   refine zuw rfl rfl rfl rfl (by dsimp only [zS, zN, zH, zT]) ?_
   refine zuw rfl rfl rfl rfl (by dsimp only [zS, zN, zH, zT]) ?_
   refine zuw rfl rfl rfl rfl (by dsimp only [zS, zN, zH, zT]) ?_
   refine zst (op_pick_tt (by rfl) (val_const (by rfl))) rfl (by dsimp only [zS, zN, zH, zT]) ?_
   refine zst (op_move_tmp (by rfl)) rfl (by dsimp only [zS, zN, zH, zT]) ?_
   refine zuw rfl rfl rfl rfl (by dsimp only [zS, zN, zH, zT]) ?_
   refine zuw rfl rfl rfl rfl (by dsimp only [zS, zN, zH, zT]) ?_
   refine zuw rfl rfl rfl rfl (by dsimp only [zS, zN, zH, zT]) ?_
   refine zuw rfl rfl rfl rfl (by dsimp only [zS, zN, zH, zT]) ?_
   refine zst (op_pick_tt (by rfl) (val_const (by rfl))) rfl (by dsimp only [zS, zN, zH, zT]) ?_
   refine zst (op_move_tmp (by rfl)) rfl (by dsimp only [zS, zN, zH, zT]) ?_
   refine zuw rfl rfl rfl rfl (by dsimp only [zS, zN, zH, zT]) ?_
   refine zuw rfl rfl rfl rfl (by dsimp only [zS, zN, zH, zT]) ?_
   refine zuw rfl rfl rfl rfl (by dsimp only [zS, zN, zH, zT]) ?_
   refine zuw rfl rfl rfl rfl (by dsimp only [zS, zN, zH, zT]) ?_
   refine zst (op_pick_tt (by rfl) (val_const (by rfl))) rfl (by dsimp only [zS, zN, zH, zT]) ?_
   refine al_end rfl ?_
   refine then_normal ?_
   refine aw_cond rfl (fun _ => ?_) (fun h => by cases h)
   refine aw_seq ?_
   refine aw_region ?_
   refine zst (op_assign_const (by rfl)) rfl (by dsimp only [zS, zN, zH, zT]) ?_
   refine al_end rfl ?_
   refine then_normal ?_
   refine aw_ret ?_
   refine then_ret ?_
   refine retPost1 rfl rfl ?_
   first | exact ⟨by (rw [hbad]) <;> rfl, rfl⟩ | exact ⟨by (rw [hgood]) <;> rfl, rfl⟩
  ·
   (try simp only [y1, y2, y3, y4, y5, y6, y7, y8, y9, y0, List.length_map] at hg3)
   have g1 : ¬ 7 < s.kind := by simpa using hg3
   apply al_normT
   · (try dsimp only [zS, zN, zH, zT]); try exact rfl
   refine zsw rfl rfl rfl (by first | exact op_fieldAddr_ptr Tryz.underlying28 rfl Sz3 (by rfl) (by rfl) | exact op_fieldAddr_elt Tryz.underlying28 rfl Sz3 (by rfl) (by rfl) (by rfl)) (by dsimp only [zS, zN, zH, zT]) ?_
   refine zsw rfl rfl rfl (by first | exact op_load_elt Tryz.underlying3 (by rfl) (by rfl) (by rfl) | exact op_load_ptr Tryz.underlying3 (by rfl) (by rfl) (by rfl) (by rfl)) (by dsimp only [zS, zN, zH, zT]) ?_
   refine zsw rfl rfl rfl (op_ltI (by rfl) (by rfl)) (by dsimp only [zS, zN, zH, zT]) ?_
   refine zst (op_pick_ff (by rfl) (val_tmp (by rfl))) rfl (by dsimp only [zS, zN, zH, zT]) ?_
   refine zst (op_move_tmp (by rfl)) rfl (by dsimp only [zS, zN, zH, zT]) ?_
   refine al_split 18 rfl (fun hg5 => ?_) (fun hg5 => ?_)
   ·
    (try simp only [y1, y2, y3, y4, y5, y6, y7, y8, y9, y0, List.length_map] at hg5)
    have g2 : s.sess < 0 := by simpa using hg5
    have hbad : rightS s = false := rightS_no fun q => by have := q.s0; omega
    apply al_normT
    · (try dsimp only [zS, zN, zH, zT]); try exact rfl
    refine zuw rfl rfl rfl rfl (by dsimp only [zS, zN, zH, zT]) ?_
    refine zuw rfl rfl rfl rfl (by dsimp only [zS, zN, zH, zT]) ?_
    refine zuw rfl rfl rfl rfl (by dsimp only [zS, zN, zH, zT]) ?_
    refine zst (op_pick_tt (by rfl) (val_const (by rfl))) rfl (by dsimp only [zS, zN, zH, zT]) ?_
    refine zst (op_move_tmp (by rfl)) rfl (by dsimp only [zS, zN, zH, zT]) ?_
    refine zuw rfl rfl rfl rfl (by dsimp only [zS, zN, zH, zT]) ?_
    refine zuw rfl rfl rfl rfl (by dsimp only [zS, zN, zH, zT]) ?_
    refine zuw rfl rfl rfl rfl (by dsimp only [zS, zN, zH, zT]) ?_
    refine zst (op_pick_tt (by rfl) (val_const (by rfl))) rfl (by dsimp only [zS, zN, zH, zT]) ?_
    refine zst (op_move_tmp (by rfl)) rfl (by dsimp only [zS, zN, zH, zT]) ?_
    refine zuw rfl rfl rfl rfl (by dsimp only [zS, zN, zH, zT]) ?_
    refine zuw rfl rfl rfl rfl (by dsimp only [zS, zN, zH, zT]) ?_
    refine zuw rfl rfl rfl rfl (by dsimp only [zS, zN, zH, zT]) ?_
    refine zst (op_pick_tt (by rfl) (val_const (by rfl))) rfl (by dsimp only [zS, zN, zH, zT]) ?_
    refine zst (op_move_tmp (by rfl)) rfl (by dsimp only [zS, zN, zH, zT]) ?_
    refine zuw rfl rfl rfl rfl (by dsimp only [zS, zN, zH, zT]) ?_
    refine zuw rfl rfl rfl rfl (by dsimp only [zS, zN, zH, zT]) ?_
    refine zuw rfl rfl rfl rfl (by dsimp only [zS, zN, zH, zT]) ?_
    refine zuw rfl rfl rfl rfl (by dsimp only [zS, zN, zH, zT]) ?_
    refine zst (op_pick_tt (by rfl) (val_const (by rfl))) rfl (by dsimp only [zS, zN, zH, zT]) ?_
    refine zst (op_move_tmp (by rfl)) rfl (by dsimp only [zS, zN, zH, zT]) ?_
    refine zuw rfl rfl rfl rfl (by dsimp only [zS, zN, zH, zT]) ?_
    refine zuw rfl rfl rfl rfl (by dsimp only [zS, zN, zH, zT]) ?_
    refine zuw rfl rfl rfl rfl (by dsimp only [zS, zN, zH, zT]) ?_
    refine zuw rfl rfl rfl rfl (by dsimp only [zS, zN, zH, zT]) ?_
    refine zst (op_pick_tt (by rfl) (val_const (by rfl))) rfl (by dsimp only [zS, zN, zH, zT]) ?_
    refine al_end rfl ?_
    refine then_normal ?_
    refine aw_cond rfl (fun _ => ?_) (fun h => by cases h)
    refine aw_seq ?_
    refine aw_region ?_
    refine zst (op_assign_const (by rfl)) rfl (by dsimp only [zS, zN, zH, zT]) ?_
    refine al_end rfl ?_
    refine then_normal ?_
    refine aw_ret ?_
    refine then_ret ?_
    refine retPost1 rfl rfl ?_
    first | exact ⟨by (rw [hbad]) <;> rfl, rfl⟩ | exact ⟨by (rw [hgood]) <;> rfl, rfl⟩
   ·
    (try simp only [y1, y2, y3, y4, y5, y6, y7, y8, y9, y0, List.length_map] at hg5)
    have g2 : ¬ s.sess < 0 := by simpa using hg5
    apply al_normT
    · (try dsimp only [zS, zN, zH, zT]); try exact rfl
    refine zsw rfl rfl rfl (by first | exact op_fieldAddr_ptr Tryz.underlying28 rfl Sz3 (by rfl) (by rfl) | exact op_fieldAddr_elt Tryz.underlying28 rfl Sz3 (by rfl) (by rfl) (by rfl)) (by dsimp only [zS, zN, zH, zT]) ?_
    refine zsw rfl rfl rfl (by first | exact op_load_elt Tryz.underlying3 (by rfl) (by rfl) (by rfl) | exact op_load_ptr Tryz.underlying3 (by rfl) (by rfl) (by rfl) (by rfl)) (by dsimp only [zS, zN, zH, zT]) ?_
    refine zsw rfl rfl rfl (op_geI (by rfl) (by rfl)) (by dsimp only [zS, zN, zH, zT]) ?_
    refine zst (op_pick_ff (by rfl) (val_tmp (by rfl))) rfl (by dsimp only [zS, zN, zH, zT]) ?_
    refine zst (op_move_tmp (by rfl)) rfl (by dsimp only [zS, zN, zH, zT]) ?_
    refine al_split 23 rfl (fun hg7 => ?_) (fun hg7 => ?_)
    ·
     (try simp only [y1, y2, y3, y4, y5, y6, y7, y8, y9, y0, List.length_map] at hg7)
     have g3 : 16 ≤ s.sess := by simpa using hg7
     have hbad : rightS s = false := rightS_no fun q => by have := q.s15; omega
     apply al_normT
     · (try dsimp only [zS, zN, zH, zT]); try exact rfl
     refine zuw rfl rfl rfl rfl (by dsimp only [zS, zN, zH, zT]) ?_
     refine zuw rfl rfl rfl rfl (by dsimp only [zS, zN, zH, zT]) ?_
     refine zuw rfl rfl rfl rfl (by dsimp only [zS, zN, zH, zT]) ?_
     refine zst (op_pick_tt (by rfl) (val_const (by rfl))) rfl (by dsimp only [zS, zN, zH, zT]) ?_
     refine zst (op_move_tmp (by rfl)) rfl (by dsimp only [zS, zN, zH, zT]) ?_
     refine zuw rfl rfl rfl rfl (by dsimp only [zS, zN, zH, zT]) ?_
     refine zuw rfl rfl rfl rfl (by dsimp only [zS, zN, zH, zT]) ?_
     refine zuw rfl rfl rfl rfl (by dsimp only [zS, zN, zH, zT]) ?_
     refine zst (op_pick_tt (by rfl) (val_const (by rfl))) rfl (by dsimp only [zS, zN, zH, zT]) ?_
     refine zst (op_move_tmp (by rfl)) rfl (by dsimp only [zS, zN, zH, zT]) ?_
     refine zuw rfl rfl rfl rfl (by dsimp only [zS, zN, zH, zT]) ?_
     refine zuw rfl rfl rfl rfl (by dsimp only [zS, zN, zH, zT]) ?_
     refine zuw rfl rfl rfl rfl (by dsimp only [zS, zN, zH, zT]) ?_
     refine zuw rfl rfl rfl rfl (by dsimp only [zS, zN, zH, zT]) ?_
     refine zst (op_pick_tt (by rfl) (val_const (by rfl))) rfl (by dsimp only [zS, zN, zH, zT]) ?_
     refine zst (op_move_tmp (by rfl)) rfl (by dsimp only [zS, zN, zH, zT]) ?_
     refine zuw rfl rfl rfl rfl (by dsimp only [zS, zN, zH, zT]) ?_
     refine zuw rfl rfl rfl rfl (by dsimp only [zS, zN, zH, zT]) ?_
     refine zuw rfl rfl rfl rfl (by dsimp only [zS, zN, zH, zT]) ?_
     refine zuw rfl rfl rfl rfl (by dsimp only [zS, zN, zH, zT]) ?_
     refine zst (op_pick_tt (by rfl) (val_const (by rfl))) rfl (by dsimp only [zS, zN, zH, zT]) ?_
     refine al_end rfl ?_
     refine then_normal ?_
     refine aw_cond rfl (fun _ => ?_) (fun h => by cases h)
     refine aw_seq ?_
     refine aw_region ?_
     refine zst (op_assign_const (by rfl)) rfl (by dsimp only [zS, zN, zH, zT]) ?_
     refine al_end rfl ?_
     refine then_normal ?_
     refine aw_ret ?_
     refine then_ret ?_
     refine retPost1 rfl rfl ?_
     first | exact ⟨by (rw [hbad]) <;> rfl, rfl⟩ | exact ⟨by (rw [hgood]) <;> rfl, rfl⟩
    ·
     (try simp only [y1, y2, y3, y4, y5, y6, y7, y8, y9, y0, List.length_map] at hg7)
     have g3 : ¬ (16 ≤ s.sess) := by simpa using hg7
     apply al_normT
     · (try dsimp only [zS, zN, zH, zT]); try exact rfl
     refine zsw rfl rfl rfl (by first | exact op_fieldAddr_ptr Tryz.underlying28 rfl Sz3 (by rfl) (by rfl) | exact op_fieldAddr_elt Tryz.underlying28 rfl Sz3 (by rfl) (by rfl) (by rfl)) (by dsimp only [zS, zN, zH, zT]) ?_
     refine zsw rfl rfl rfl (by first | exact op_load_elt Tryz.underlying3 (by rfl) (by rfl) (by rfl) | exact op_load_ptr Tryz.underlying3 (by rfl) (by rfl) (by rfl) (by rfl)) (by dsimp only [zS, zN, zH, zT]) ?_
     refine zsw rfl rfl rfl (op_ltI (by rfl) (by rfl)) (by dsimp only [zS, zN, zH, zT]) ?_
     refine zst (op_pick_ff (by rfl) (val_tmp (by rfl))) rfl (by dsimp only [zS, zN, zH, zT]) ?_
     refine zst (op_move_tmp (by rfl)) rfl (by dsimp only [zS, zN, zH, zT]) ?_
     refine al_split 28 rfl (fun hg9 => ?_) (fun hg9 => ?_)
     ·
      (try simp only [y1, y2, y3, y4, y5, y6, y7, y8, y9, y0, List.length_map] at hg9)
      have g4 : s.n < 0 := by simpa using hg9
      have hbad : rightS s = false := rightS_no fun q => by have := q.n0; omega
      apply al_normT
      · (try dsimp only [zS, zN, zH, zT]); try exact rfl
      refine zuw rfl rfl rfl rfl (by dsimp only [zS, zN, zH, zT]) ?_
      refine zuw rfl rfl rfl rfl (by dsimp only [zS, zN, zH, zT]) ?_
      refine zuw rfl rfl rfl rfl (by dsimp only [zS, zN, zH, zT]) ?_
      refine zst (op_pick_tt (by rfl) (val_const (by rfl))) rfl (by dsimp only [zS, zN, zH, zT]) ?_
      refine zst (op_move_tmp (by rfl)) rfl (by dsimp only [zS, zN, zH, zT]) ?_
      refine zuw rfl rfl rfl rfl (by dsimp only [zS, zN, zH, zT]) ?_
      refine zuw rfl rfl rfl rfl (by dsimp only [zS, zN, zH, zT]) ?_
      refine zuw rfl rfl rfl rfl (by dsimp only [zS, zN, zH, zT]) ?_
      refine zuw rfl rfl rfl rfl (by dsimp only [zS, zN, zH, zT]) ?_
      refine zst (op_pick_tt (by rfl) (val_const (by rfl))) rfl (by dsimp only [zS, zN, zH, zT]) ?_
      refine zst (op_move_tmp (by rfl)) rfl (by dsimp only [zS, zN, zH, zT]) ?_
      refine zuw rfl rfl rfl rfl (by dsimp only [zS, zN, zH, zT]) ?_
      refine zuw rfl rfl rfl rfl (by dsimp only [zS, zN, zH, zT]) ?_
      refine zuw rfl rfl rfl rfl (by dsimp only [zS, zN, zH, zT]) ?_
      refine zuw rfl rfl rfl rfl (by dsimp only [zS, zN, zH, zT]) ?_
      refine zst (op_pick_tt (by rfl) (val_const (by rfl))) rfl (by dsimp only [zS, zN, zH, zT]) ?_
      refine al_end rfl ?_
      refine then_normal ?_
      refine aw_cond rfl (fun _ => ?_) (fun h => by cases h)
      refine aw_seq ?_
      refine aw_region ?_
      refine zst (op_assign_const (by rfl)) rfl (by dsimp only [zS, zN, zH, zT]) ?_
      refine al_end rfl ?_
      refine then_normal ?_
      refine aw_ret ?_
      refine then_ret ?_
      refine retPost1 rfl rfl ?_
      first | exact ⟨by (rw [hbad]) <;> rfl, rfl⟩ | exact ⟨by (rw [hgood]) <;> rfl, rfl⟩
     ·
      (try simp only [y1, y2, y3, y4, y5, y6, y7, y8, y9, y0, List.length_map] at hg9)
      have g4 : ¬ s.n < 0 := by simpa using hg9
      apply al_normT
      · (try dsimp only [zS, zN, zH, zT]); try exact rfl
      refine zsw rfl rfl rfl (by first | exact op_fieldAddr_ptr Tryz.underlying28 rfl Sz3 (by rfl) (by rfl) | exact op_fieldAddr_elt Tryz.underlying28 rfl Sz3 (by rfl) (by rfl) (by rfl)) (by dsimp only [zS, zN, zH, zT]) ?_
      refine zsw rfl rfl rfl (by first | exact op_load_elt Tryz.underlying3 (by rfl) (by rfl) (by rfl) | exact op_load_ptr Tryz.underlying3 (by rfl) (by rfl) (by rfl) (by rfl)) (by dsimp only [zS, zN, zH, zT]) ?_
      refine zsw rfl rfl rfl (op_gtI (by rfl) (by rfl)) (by dsimp only [zS, zN, zH, zT]) ?_
      refine zst (op_pick_ff (by rfl) (val_tmp (by rfl))) rfl (by dsimp only [zS, zN, zH, zT]) ?_
      refine zst (op_move_tmp (by rfl)) rfl (by dsimp only [zS, zN, zH, zT]) ?_
      refine al_split 33 rfl (fun hg11 => ?_) (fun hg11 => ?_)
      ·
       (try simp only [y1, y2, y3, y4, y5, y6, y7, y8, y9, y0, List.length_map] at hg11)
       have g5 : 1099511627776 < s.n := by simpa using hg11
       have hbad : rightS s = false := rightS_no fun q => by have := q.nT; omega
       apply al_normT
       · (try dsimp only [zS, zN, zH, zT]); try exact rfl
       refine zuw rfl rfl rfl rfl (by dsimp only [zS, zN, zH, zT]) ?_
       refine zuw rfl rfl rfl rfl (by dsimp only [zS, zN, zH, zT]) ?_
       refine zuw rfl rfl rfl rfl (by dsimp only [zS, zN, zH, zT]) ?_
       refine zuw rfl rfl rfl rfl (by dsimp only [zS, zN, zH, zT]) ?_
       refine zst (op_pick_tt (by rfl) (val_const (by rfl))) rfl (by dsimp only [zS, zN, zH, zT]) ?_
       refine zst (op_move_tmp (by rfl)) rfl (by dsimp only [zS, zN, zH, zT]) ?_
       refine zuw rfl rfl rfl rfl (by dsimp only [zS, zN, zH, zT]) ?_
       refine zuw rfl rfl rfl rfl (by dsimp only [zS, zN, zH, zT]) ?_
       refine zuw rfl rfl rfl rfl (by dsimp only [zS, zN, zH, zT]) ?_
       refine zuw rfl rfl rfl rfl (by dsimp only [zS, zN, zH, zT]) ?_
       refine zst (op_pick_tt (by rfl) (val_const (by rfl))) rfl (by dsimp only [zS, zN, zH, zT]) ?_
       refine al_end rfl ?_
       refine then_normal ?_
       refine aw_cond rfl (fun _ => ?_) (fun h => by cases h)
       refine aw_seq ?_
       refine aw_region ?_
       refine zst (op_assign_const (by rfl)) rfl (by dsimp only [zS, zN, zH, zT]) ?_
       refine al_end rfl ?_
       refine then_normal ?_
       refine aw_ret ?_
       refine then_ret ?_
       refine retPost1 rfl rfl ?_
       first | exact ⟨by (rw [hbad]) <;> rfl, rfl⟩ | exact ⟨by (rw [hgood]) <;> rfl, rfl⟩
      ·
       (try simp only [y1, y2, y3, y4, y5, y6, y7, y8, y9, y0, List.length_map] at hg11)
       have g5 : ¬ 1099511627776 < s.n := by simpa using hg11
       apply al_normT
       · (try dsimp only [zS, zN, zH, zT]); try exact rfl
       refine zsw rfl rfl rfl (by first | exact op_fieldAddr_ptr Tryz.underlying28 rfl Sz9 (by rfl) (by rfl) | exact op_fieldAddr_elt Tryz.underlying28 rfl Sz9 (by rfl) (by rfl) (by rfl)) (by dsimp only [zS, zN, zH, zT]) ?_
       refine zsw rfl rfl rfl (by first | exact op_load_elt Tryz.underlying9 (by rfl) (by rfl) (by rfl) | exact op_load_ptr Tryz.underlying9 (by rfl) (by rfl) (by rfl) (by rfl)) (by dsimp only [zS, zN, zH, zT]) ?_
       refine zsw rfl rfl rfl (op_lenS Tryz.underlying9 (by rfl)) (by dsimp only [zS, zN, zH, zT]) ?_
       refine zsw rfl rfl rfl (op_gtI (by rfl) (by rfl)) (by dsimp only [zS, zN, zH, zT]) ?_
       refine zst (op_pick_ff (by rfl) (val_tmp (by rfl))) rfl (by dsimp only [zS, zN, zH, zT]) ?_
       refine zst (op_move_tmp (by rfl)) rfl (by dsimp only [zS, zN, zH, zT]) ?_
       refine al_split 39 rfl (fun hg13 => ?_) (fun hg13 => ?_)
       ·
        (try simp only [y1, y2, y3, y4, y5, y6, y7, y8, y9, y0, List.length_map] at hg13)
        have g6 : 20000 < (s.text.length : Int) := by simpa using hg13
        have hbad : rightS s = false := rightS_no fun q => by have := q.tx; omega
        apply al_normT
        · (try dsimp only [zS, zN, zH, zT]); try exact rfl
        refine zuw rfl rfl rfl rfl (by dsimp only [zS, zN, zH, zT]) ?_
        refine zuw rfl rfl rfl rfl (by dsimp only [zS, zN, zH, zT]) ?_
        refine zuw rfl rfl rfl rfl (by dsimp only [zS, zN, zH, zT]) ?_
        refine zuw rfl rfl rfl rfl (by dsimp only [zS, zN, zH, zT]) ?_
        refine zst (op_pick_tt (by rfl) (val_const (by rfl))) rfl (by dsimp only [zS, zN, zH, zT]) ?_
        refine al_end rfl ?_
        refine then_normal ?_
        refine aw_cond rfl (fun _ => ?_) (fun h => by cases h)
        refine aw_seq ?_
        refine aw_region ?_
        refine zst (op_assign_const (by rfl)) rfl (by dsimp only [zS, zN, zH, zT]) ?_
        refine al_end rfl ?_
        refine then_normal ?_
        refine aw_ret ?_
        refine then_ret ?_
        refine retPost1 rfl rfl ?_
        first | exact ⟨by (rw [hbad]) <;> rfl, rfl⟩ | exact ⟨by (rw [hgood]) <;> rfl, rfl⟩
       ·
        (try simp only [y1, y2, y3, y4, y5, y6, y7, y8, y9, y0, List.length_map] at hg13)
        have g6 : ¬ 20000 < (s.text.length : Int) := by simpa using hg13
        apply al_normT
        · (try dsimp only [zS, zN, zH, zT]); try exact rfl
        refine zsw rfl rfl rfl (by first | exact op_fieldAddr_ptr Tryz.underlying28 rfl Sz26 (by rfl) (by rfl) | exact op_fieldAddr_elt Tryz.underlying28 rfl Sz26 (by rfl) (by rfl) (by rfl)) (by dsimp only [zS, zN, zH, zT]) ?_
        refine zsw rfl rfl rfl (by first | exact op_load_elt Tryz.underlying26 (by rfl) (by rfl) (by rfl) | exact op_load_ptr Tryz.underlying26 (by rfl) (by rfl) (by rfl) (by rfl)) (by dsimp only [zS, zN, zH, zT]) ?_
        refine zsw rfl rfl rfl (op_lenL Tryz.underlying26 (by first | exact LL.d _ _ | exact LL.own _ _ _ | exact LL.nil _ | assumption)) (by dsimp only [zS, zN, zH, zT]) ?_
        refine zsw rfl rfl rfl (op_gtI (by rfl) (by rfl)) (by dsimp only [zS, zN, zH, zT]) ?_
        refine zst (op_pick_ff (by rfl) (val_tmp (by rfl))) rfl (by dsimp only [zS, zN, zH, zT]) ?_
        refine al_end rfl ?_
        refine then_normal ?_
        refine aw_cond rfl (fun hc15 => ?_) (fun hc15 => ?_)
        ·
         (try simp only [y1, y2, y3, y4, y5, y6, y7, y8, y9, y0, List.length_map] at hc15)
         have gk : 16 < (s.keep.length : Int) := by simpa using hc15
         have hbad : rightS s = false := rightS_no fun q => by have := q.kl; omega
         refine aw_seq ?_
         refine aw_region ?_
         refine zst (op_assign_const (by rfl)) rfl (by dsimp only [zS, zN, zH, zT]) ?_
         refine al_end rfl ?_
         refine then_normal ?_
         refine aw_ret ?_
         refine then_ret ?_
         refine retPost1 rfl rfl ?_
         first | exact ⟨by (rw [hbad]) <;> rfl, rfl⟩ | exact ⟨by (rw [hgood]) <;> rfl, rfl⟩
        ·
         (try simp only [y1, y2, y3, y4, y5, y6, y7, y8, y9, y0, List.length_map] at hc15)
         have gk : ¬ 16 < (s.keep.length : Int) := by simpa using hc15
         refine aw_skip ?_
         refine then_normal ?_
         refine aw_seq ?_
         refine aw_seq ?_
         refine aw_region ?_
         refine zst (by first | exact op_fieldAddr_ptr Tryz.underlying28 rfl Sz26 (by rfl) (by rfl) | exact op_fieldAddr_elt Tryz.underlying28 rfl Sz26 (by rfl) (by rfl) (by rfl)) rfl (by dsimp only [zS, zN, zH, zT]) ?_
         refine zst (by first | exact op_load_elt Tryz.underlying26 (by rfl) (by rfl) (by rfl) | exact op_load_ptr Tryz.underlying26 (by rfl) (by rfl) (by rfl) (by rfl)) rfl (by dsimp only [zS, zN, zH, zT]) ?_
         refine zst (op_lenL Tryz.underlying26 (by first | exact LL.d _ _ | exact LL.own _ _ _ | exact LL.nil _ | assumption)) rfl (by dsimp only [zS, zN, zH, zT]) ?_
         refine zst (op_move_const (by rfl)) rfl (by dsimp only [zS, zN, zH, zT]) ?_
         refine al_end rfl ?_
         refine then_normal ?_
         refine aw_block ?_
         apply aw_loopF (fun n T H => ∃ (k : Nat), T = [.un, .elt [I s.kind, I s.sess, I s.n, S s.text, .lst 1 (s.keep.map I)], .un, .un, .un, .un, .un, .un, .un, .un, .un, .un, .un, .un, .un, .un, .un, .un, .un, .un, .un, .un, .un, .un, .un, .un, .un, .un, .un, .un, .un, .un, .un, .un, .un, .un, .un, .un, .un, .un, .un, .un, .un, .un, .un, .un, .d (.lst 1 (s.keep.map I)), .d (I (s.keep.map I).length), .d (I k), .un, .un, .un, .un, .un, .un, .un, .un, .un, .un] ∧ k ≤ s.keep.length ∧ n = s.keep.length - k ∧ (s.keep.take k).all keepAt = true ∧ H = Hs) (s.keep.length) [false, true, false, false, false, false, false, false, false, false, false, false, false, false, false, false, false, false, false, false, false, false, false, false, false, false, false, false, false, false, false, false, false, false, false, false, false, false, false, false, false, false, false, false, false, false, true, true, true, false, false, false, false, false, false, false, false, false, false]
         · (try dsimp only [maskT]); try exact rfl
         · rfl
         · exact ⟨0, rfl, by omega, rfl, rfl, rfl⟩
         rintro n T H ⟨k, rfl, hk, rfl, hall, rfl⟩
         refine aw_seq ?_
         refine aw_region ?_
         refine zst (op_ltI (by rfl) (by rfl)) rfl (by dsimp only [zS, zN, zH, zT]) ?_
         refine al_end rfl ?_
         refine then_normal ?_
         refine aw_seq ?_
         refine aw_cond rfl (fun hc16 => ?_) (fun hc16 => ?_)
         ·
          (try simp only [y1, y2, y3, y4, y5, y6, y7, y8, y9, y0, List.length_map] at hc16)
          (try simp only [List.length_map] at hc16)
          have hlt : k < s.keep.length := by omega
          obtain ⟨y, hy⟩ : ∃ y, s.keep[k]? = some y := ⟨_, List.getElem?_eq_getElem hlt⟩
          refine aw_skip ?_
          refine then_normal ?_
          refine aw_seq ?_
          refine aw_block ?_
          refine aw_seq ?_
          refine aw_region ?_
          refine zst (op_indexAddr Tryz.underlying26 Sz3 (LL.d _ _) (by rfl) (by omega) (show (s.keep.map I)[((k : Nat) : Int).toNat]? = some (I y) by rw [List.getElem?_map, show ((k : Nat) : Int).toNat = k from rfl, hy]; rfl) (by rfl)) rfl (by dsimp only [zS, zN, zH, zT]) ?_
          refine zst (by first | exact op_load_elt Tryz.underlying3 (by rfl) (by rfl) (by rfl) | exact op_load_ptr Tryz.underlying3 (by rfl) (by rfl) (by rfl) (by rfl)) rfl (by dsimp only [zS, zN, zH, zT]) ?_
          refine zst (op_assign_tmp (by rfl)) rfl (by dsimp only [zS, zN, zH, zT]) ?_
          refine al_end rfl ?_
          refine then_normal ?_
          refine aw_seq ?_
          refine aw_region ?_
          refine zst (op_move_tmp (by rfl)) rfl (by dsimp only [zS, zN, zH, zT]) ?_
          refine zst (op_ltI (by rfl) (by rfl)) rfl (by dsimp only [zS, zN, zH, zT]) ?_
          refine zst (op_move_tmp (by rfl)) rfl (by dsimp only [zS, zN, zH, zT]) ?_
          refine al_split 54 rfl (fun hg17 => ?_) (fun hg17 => ?_)
          ·
           (try simp only [y1, y2, y3, y4, y5, y6, y7, y8, y9, y0, List.length_map] at hg17)
           have h0 : y < 0 := by simpa using hg17
           have hbad : rightS s = false := rightS_no fun q => by have := q.kp y (List.mem_of_getElem? hy); omega
           apply al_normT
           · (try dsimp only [zS, zN, zH, zT]); try exact rfl
           refine zuw rfl rfl rfl rfl (by dsimp only [zS, zN, zH, zT]) ?_
           refine zuw rfl rfl rfl rfl (by dsimp only [zS, zN, zH, zT]) ?_
           refine zst (op_pick_tt (by rfl) (val_const (by rfl))) rfl (by dsimp only [zS, zN, zH, zT]) ?_
           refine al_end rfl ?_
           refine then_normal ?_
           refine aw_cond rfl (fun _ => ?_) (fun h => by cases h)
           refine aw_seq ?_
           refine aw_region ?_
           refine zst (op_assign_const (by rfl)) rfl (by dsimp only [zS, zN, zH, zT]) ?_
           refine al_end rfl ?_
           refine then_normal ?_
           refine aw_ret ?_
           refine inBlock_ret (then_ret (again_ret (inBlock_ret (then_ret ?_))))
           refine retPost1 rfl rfl ?_
           first | exact ⟨by (rw [hbad]) <;> rfl, rfl⟩ | exact ⟨by (rw [hgood]) <;> rfl, rfl⟩
          ·
           (try simp only [y1, y2, y3, y4, y5, y6, y7, y8, y9, y0, List.length_map] at hg17)
           have h0 : ¬ y < 0 := by simpa using hg17
           apply al_normT
           · (try dsimp only [zS, zN, zH, zT]); try exact rfl
           refine zsw rfl rfl rfl (op_move_tmp (by rfl)) (by dsimp only [zS, zN, zH, zT]) ?_
           refine zsw rfl rfl rfl (op_gtI (by rfl) (by rfl)) (by dsimp only [zS, zN, zH, zT]) ?_
           refine zst (op_pick_ff (by rfl) (val_tmp (by rfl))) rfl (by dsimp only [zS, zN, zH, zT]) ?_
           refine al_end rfl ?_
           refine then_normal ?_
           refine aw_cond rfl (fun hc19 => ?_) (fun hc19 => ?_)
           ·
            (try simp only [y1, y2, y3, y4, y5, y6, y7, y8, y9, y0, List.length_map] at hc19)
            have h1 : 1048576 < y := by simpa using hc19
            have hbad : rightS s = false := rightS_no fun q => by have := q.kp y (List.mem_of_getElem? hy); omega
            refine aw_seq ?_
            refine aw_region ?_
            refine zst (op_assign_const (by rfl)) rfl (by dsimp only [zS, zN, zH, zT]) ?_
            refine al_end rfl ?_
            refine then_normal ?_
            refine aw_ret ?_
            refine inBlock_ret (then_ret (again_ret (inBlock_ret (then_ret ?_))))
            refine retPost1 rfl rfl ?_
            first | exact ⟨by (rw [hbad]) <;> rfl, rfl⟩ | exact ⟨by (rw [hgood]) <;> rfl, rfl⟩
           ·
            (try simp only [y1, y2, y3, y4, y5, y6, y7, y8, y9, y0, List.length_map] at hc19)
            have h1 : ¬ 1048576 < y := by simpa using hc19
            refine aw_skip ?_
            refine inBlock_normal (then_normal ?_)
            refine aw_region ?_
            refine zst (by first | exact op_add (by rfl) (by rfl) (wrap_i64 ⟨by omega, by omega⟩) | exact op_add (by rfl) (by rfl) (by rfl)) rfl (by dsimp only [zS, zN, zH, zT]) ?_
            refine zst (op_move_tmp (by rfl)) rfl (by dsimp only [zS, zN, zH, zT]) ?_
            refine al_end rfl ?_
            apply again_to (s.keep.length - (k + 1)) [false, true, false, false, false, false, false, false, false, false, false, false, false, false, false, false, false, false, false, false, false, false, false, false, false, false, false, false, false, false, false, false, false, false, false, false, false, false, false, false, false, false, false, false, false, false, true, true, true, false, false, false, false, false, false, false, false, false, false]
            · (try dsimp only [maskT]); try exact rfl
            · rfl
            · omega
            exact ⟨k + 1, rfl, by omega, rfl, keep_step hall hy (by omega) (by omega), rfl⟩
         ·
          (try simp only [y1, y2, y3, y4, y5, y6, y7, y8, y9, y0, List.length_map] at hc16)
          (try simp only [List.length_map] at hc16)
          have hke : k = s.keep.length := by omega
          subst hke
          rw [List.take_length] at hall
          have hgood : rightS s = true := rightS_iff.2 ⟨by omega, by omega, by omega, by omega, by omega, by omega, by omega, by omega, keep_all hall⟩
          refine aw_exit ?_
          refine then_exit (again_exit (inBlock_here (then_normal ?_)))
          refine aw_seq ?_
          refine aw_region ?_
          refine zst (op_assign_const (by rfl)) rfl (by dsimp only [zS, zN, zH, zT]) ?_
          refine al_end rfl ?_
          refine then_normal ?_
          refine aw_ret ?_
          refine retPost1 rfl rfl ?_
          first | exact ⟨by (rw [hbad]) <;> rfl, rfl⟩ | exact ⟨by (rw [hgood]) <;> rfl, rfl⟩
end Go.Proofs.YtdiibbbbdhkepaaGreatDoor
namespace Go.Proofs.YtdiibbbbdhkepaaGreatDoor
open Go.AV Go.AV.Ord Go.AV.Oct
set_option linter.unusedVariables false
set_option linter.unusedSimpArgs false
variable [Wins Tryz.prog]
set_option maxRecDepth 100000 in
theorem onum_ok (Hs : HS) (t : Option Nat) (v : AV) (bs : List UInt8) (q : Int) (hv : App v t 1 (bs.map BY)) (hok : Hs.ok t bs.length) (hn : q ≤ 9223372036854775807) (hb : bs.length + 9 ≤ 140737488355328) : ACalls Tryz.prog 12 [v, .d (I q)] Hs (Ret (ownB Hs t (bs ++ numB q.toNat)) (upB Hs t (bs ++ numB q.toNat))) := by
 have hz8 := szN_8 hn
 have hzl := numB_len q.toNat
 obtain ⟨x, hx⟩ : ∃ x, q.toNat = x := ⟨_, rfl⟩
 rw [hx] at hz8 hzl ⊢
 refine acalls_of_aw Tryz.func12 rfl ?_
 refine aw_start (T' := [v, .d (I q), .un, .un, .un, .un, .un, .un, .un, .un, .un, .un, .un, .un, .un, .un, .un, .un, .un, .un, .un, .un, .un, .un, .un, .un, .un, .un, .un, .un, .un, .un, .un, .un, .un, .un, .un, .un, .un, .un, .un]) rfl ?_
 refine aw_seq ?_
 refine aw_region ?_
 refine zst (op_assign_const (by rfl)) rfl (by dsimp only [zS, zN, zH, zT]) ?_
 refine al_end rfl ?_
 refine then_normal ?_
 refine aw_seq ?_
 refine aw_region ?_
 refine zst (op_move_tmp (by rfl)) rfl (by dsimp only [zS, zN, zH, zT]) ?_
 refine zst (op_max (by rfl) (by rfl)) rfl (by dsimp only [zS, zN, zH, zT]) ?_
 refine zst (op_convI (by rw [Tryz.underlying3]; rfl) Tryz.underlying75 (by rfl) (show _ = (x : Int) by rw [wrap_u64 (by split <;> omega)]; split <;> omega)) rfl (by dsimp only [zS, zN, zH, zT]) ?_
 refine zst (op_assign_tmp (by rfl)) rfl (by dsimp only [zS, zN, zH, zT]) ?_
 refine al_end rfl ?_
 refine then_normal ?_
 refine aw_seq ?_
 refine aw_region ?_
 refine zst (op_assign_const (by rfl)) rfl (by dsimp only [zS, zN, zH, zT]) ?_
 refine al_end rfl ?_
 refine then_normal ?_
 refine aw_seq ?_
 refine aw_seq ?_
 refine aw_region ?_
 refine zst (op_move_tmp (by rfl)) rfl (by dsimp only [zS, zN, zH, zT]) ?_
 refine zst (op_assign_tmp (by rfl)) rfl (by dsimp only [zS, zN, zH, zT]) ?_
 refine al_end rfl ?_
 refine then_normal ?_
 refine aw_block ?_
 apply aw_loopF (fun n T H => ∃ (y : Nat), T = [v, .un, .un, .un, .un, .d (.v (.int .u64 x)), .d (I (szN x - szN y : Nat)), .d (.v (.int .u64 y)), .un, .un, .un, .un, .un, .un, .un, .un, .un, .un, .un, .un, .un, .un, .un, .un, .un, .un, .un, .un, .un, .un, .un, .un, .un, .un, .un, .un, .un, .un, .un, .un, .un] ∧ szN y ≤ szN x ∧ y ≤ x ∧ n = y ∧ Hs = H) (x) [true, false, false, false, false, true, true, true, false, false, false, false, false, false, false, false, false, false, false, false, false, false, false, false, false, false, false, false, false, false, false, false, false, false, false, false, false, false, false, false, false]
 · (try dsimp only [maskT]); try exact rfl
 · rfl
 · exact ⟨x, by rw [Nat.sub_self]; rfl, Nat.le_refl _, Nat.le_refl _, rfl, rfl⟩
 rintro n T H ⟨y, rfl, hy, hyn, hm, rfl⟩
 refine aw_seq ?_
 refine aw_seq ?_
 refine aw_region ?_
 refine zst (op_move_tmp (by rfl)) rfl (by dsimp only [zS, zN, zH, zT]) ?_
 refine zst (op_gtI (by rfl) (by rfl)) rfl (by dsimp only [zS, zN, zH, zT]) ?_
 refine al_end rfl ?_
 refine then_normal ?_
 refine aw_cond rfl (fun hc1 => ?_) (fun hc1 => ?_)
 ·
  (try simp only [y1, y2, y3, y4, y5, y6, y7, y8, y9, y0, List.length_map] at hc1)
  have hy0 : y ≠ 0 := by omega
  have hsy := szN_pos hy0
  refine aw_skip ?_
  refine then_normal ?_
  refine aw_seq ?_
  refine aw_block ?_
  refine aw_region ?_
  refine zst (op_move_tmp (by rfl)) rfl (by dsimp only [zS, zN, zH, zT]) ?_
  refine zst (by first | exact op_add (by rfl) (by rfl) (wrap_i64 ⟨by omega, by omega⟩) | exact op_add (by rfl) (by rfl) (by rfl)) rfl (by dsimp only [zS, zN, zH, zT]) ?_
  refine zst (op_assign_tmp (by rfl)) rfl (by dsimp only [zS, zN, zH, zT]) ?_
  refine al_end rfl ?_
  refine inBlock_normal (then_normal ?_)
  refine aw_region ?_
  refine zst (op_move_tmp (by rfl)) rfl (by dsimp only [zS, zN, zH, zT]) ?_
  refine zst (op_shr (by rfl) (by rfl) (by omega) (shr8 _)) rfl (by dsimp only [zS, zN, zH, zT]) ?_
  refine zst (op_assign_tmp (by rfl)) rfl (by dsimp only [zS, zN, zH, zT]) ?_
  refine al_end rfl ?_
  apply again_to (y / 256) [true, false, false, false, false, true, true, true, false, false, false, false, false, false, false, false, false, false, false, false, false, false, false, false, false, false, false, false, false, false, false, false, false, false, false, false, false, false, false, false, false]
  · (try dsimp only [maskT]); try exact rfl
  · rfl
  · omega
  exact ⟨y / 256, by rw [show szN x - szN (y / 256) = szN x - szN y + 1 by omega]; rfl, by omega, by omega, rfl, rfl⟩
 ·
  (try simp only [y1, y2, y3, y4, y5, y6, y7, y8, y9, y0, List.length_map] at hc1)
  have hy0 : y = 0 := by omega
  subst hy0
  rw [szN_zero, Nat.sub_zero]
  refine aw_exit ?_
  refine then_exit (again_exit (inBlock_here (then_normal ?_)))
  refine aw_seq ?_
  refine aw_region ?_
  refine zst (op_move_tmp (by rfl)) rfl (by dsimp only [zS, zN, zH, zT]) ?_
  refine zst (op_move_tmp (by rfl)) rfl (by dsimp only [zS, zN, zH, zT]) ?_
  refine zst (op_convI (by rw [Tryz.underlying3]; rfl) Tryz.underlying5 (by rfl) (conv_byte _)) rfl (by dsimp only [zS, zN, zH, zT]) ?_
  refine zst (op_lit Tryz.underlying46 ZS5 (.cons (by rfl) (.nil _)) (by rfl) (by simp [BY, S, I, TF, DV.cells]) (by simp [flat, BY, S, I, TF, DV.cells, DV.one]) (by decide)) rfl (by dsimp only [zS, zN, zH, zT]) ?_
  refine zst (op_append Tryz.underlying46 Inf5 (by rfl) hv (.list _ _ _ _ Tryz.underlying46 (LL.own _ _ _)) (by simpa using hok) (by simp) (by simp <;> omega) (by simp <;> omega)) rfl (by dsimp only [zS, zN, zH, zT]) ?_
  refine zst (op_assign_tmp (by rfl)) rfl (by dsimp only [zS, zN, zH, zT]) ?_
  refine al_end rfl ?_
  refine then_normal ?_
  refine aw_seq ?_
  refine aw_seq ?_
  refine aw_region ?_
  refine zst (op_move_tmp (by rfl)) rfl (by dsimp only [zS, zN, zH, zT]) ?_
  refine zst (op_move_const (by rfl)) rfl (by dsimp only [zS, zN, zH, zT]) ?_
  refine al_end rfl ?_
  refine then_normal ?_
  refine aw_block ?_
  apply aw_loopF (fun n T H => ∃ (k : Nat) (v' : AV), T = [v', .un, .un, .un, .un, .d (.v (.int .u64 x)), .d (I (szN x)), .un, .un, .un, .un, .un, .un, .un, .un, .un, .un, .un, .un, .un, .un, .un, .un, .un, .d (I (szN x)), .d (I k), .un, .un, .un, .un, .un, .un, .un, .un, .un, .un, .un, .un, .un, .un, .un] ∧ k ≤ szN x ∧ n = szN x - k ∧ Grew Hs t v bs v' H ((numB x).take (k + 1))) (szN x) [true, false, false, false, false, true, true, false, false, false, false, false, false, false, false, false, false, false, false, false, false, false, false, false, true, true, false, false, false, false, false, false, false, false, false, false, false, false, false, false, false]
  · (try dsimp only [maskT]); try exact rfl
  · rfl
  · exact ⟨0, _, rfl, by omega, rfl, Grew.mk (Heir.refl Hs t) (by rw [show (numB x).take (0 + 1) = [UInt8.ofNat (szN x)] from numB_take x, numB_mod hz8]; simp [BY]) (by rw [show (numB x).take (0 + 1) = [UInt8.ofNat (szN x)] from numB_take x]; simp)⟩
  rintro n T H ⟨k, v', rfl, hk, hm, hG⟩
  obtain ⟨t', hApp, hHeir, hOk⟩ := hG.use hv hok
  have hT : ((numB x).take (k + 1)).length = k + 1 := by simp; omega
  refine aw_seq ?_
  refine aw_region ?_
  refine zst (op_ltI (by rfl) (by rfl)) rfl (by dsimp only [zS, zN, zH, zT]) ?_
  refine al_end rfl ?_
  refine then_normal ?_
  refine aw_seq ?_
  refine aw_cond rfl (fun hc2 => ?_) (fun hc2 => ?_)
  ·
   (try simp only [y1, y2, y3, y4, y5, y6, y7, y8, y9, y0, List.length_map] at hc2)
   have hlt : k < szN x := by omega
   refine aw_skip ?_
   refine then_normal ?_
   refine aw_seq ?_
   refine aw_block ?_
   refine aw_seq ?_
   refine aw_region ?_
   refine zst (op_move_tmp (by rfl)) rfl (by dsimp only [zS, zN, zH, zT]) ?_
   refine zst (op_assign_tmp (by rfl)) rfl (by dsimp only [zS, zN, zH, zT]) ?_
   refine al_end rfl ?_
   refine then_normal ?_
   refine aw_region ?_
   refine zst (op_move_tmp (by rfl)) rfl (by dsimp only [zS, zN, zH, zT]) ?_
   refine zst (op_move_tmp (by rfl)) rfl (by dsimp only [zS, zN, zH, zT]) ?_
   refine zst (op_move_tmp (by rfl)) rfl (by dsimp only [zS, zN, zH, zT]) ?_
   refine zst (by first | exact op_sub (by rfl) (by rfl) (wrap_i64 ⟨by omega, by omega⟩) | exact op_sub (by rfl) (by rfl) (by rfl)) rfl (by dsimp only [zS, zN, zH, zT]) ?_
   refine zst (op_move_tmp (by rfl)) rfl (by dsimp only [zS, zN, zH, zT]) ?_
   refine zst (by first | exact op_sub (by rfl) (by rfl) (wrap_i64 ⟨by omega, by omega⟩) | exact op_sub (by rfl) (by rfl) (by rfl)) rfl (by dsimp only [zS, zN, zH, zT]) ?_
   refine zst (by first | exact op_mul (by rfl) (by rfl) (wrap_i64 ⟨by omega, by omega⟩) | exact op_mul (by rfl) (by rfl) (by rfl)) rfl (by dsimp only [zS, zN, zH, zT]) ?_
   refine zst (op_shr (by rfl) (by rfl) (by omega) (shr_at _ hlt hz8)) rfl (by dsimp only [zS, zN, zH, zT]) ?_
   refine zst (op_convI (by rw [Tryz.underlying75]; rfl) Tryz.underlying5 (by rfl) (conv_byte _)) rfl (by dsimp only [zS, zN, zH, zT]) ?_
   refine zst (op_lit Tryz.underlying46 ZS5 (.cons (by rfl) (.nil _)) (by rfl) (by simp [BY, S, I, TF, DV.cells]) (by simp [flat, BY, S, I, TF, DV.cells, DV.one]) (by decide)) rfl (by dsimp only [zS, zN, zH, zT]) ?_
   refine zst (op_append Tryz.underlying46 Inf5 (by rfl) hApp (.list _ _ _ _ Tryz.underlying46 (LL.own _ _ _)) (by simpa using hOk) (by simp) (by simp <;> omega) (by simp <;> omega)) rfl (by dsimp only [zS, zN, zH, zT]) ?_
   refine zst (op_assign_tmp (by rfl)) rfl (by dsimp only [zS, zN, zH, zT]) ?_
   refine al_end rfl ?_
   refine inBlock_normal (then_normal ?_)
   refine aw_region ?_
   refine zst (by first | exact op_add (by rfl) (by rfl) (wrap_i64 ⟨by omega, by omega⟩) | exact op_add (by rfl) (by rfl) (by rfl)) rfl (by dsimp only [zS, zN, zH, zT]) ?_
   refine zst (op_move_tmp (by rfl)) rfl (by dsimp only [zS, zN, zH, zT]) ?_
   refine al_end rfl ?_
   apply again_to (szN x - (k + 1)) [true, false, false, false, false, true, true, false, false, false, false, false, false, false, false, false, false, false, false, false, false, false, false, false, true, true, false, false, false, false, false, false, false, false, false, false, false, false, false, false, false]
   · (try dsimp only [maskT]); try exact rfl
   · rfl
   · omega
   exact ⟨k + 1, _, rfl, by omega, rfl, Grew.mk hHeir (by rw [take_snoc (numB_get hlt)]; simp [BY]) (by rw [take_snoc (numB_get hlt)]; simp <;> omega)⟩
  ·
   (try simp only [y1, y2, y3, y4, y5, y6, y7, y8, y9, y0, List.length_map] at hc2)
   have hke : k = szN x := by omega
   subst hke
   rw [List.take_of_length_le (by omega)] at hG
   refine aw_exit ?_
   refine then_exit (again_exit (inBlock_here (then_normal ?_)))
   refine aw_seq ?_
   refine aw_region ?_
   refine zst (op_move_tmp (by rfl)) rfl (by dsimp only [zS, zN, zH, zT]) ?_
   refine zst (op_assign_tmp (by rfl)) rfl (by dsimp only [zS, zN, zH, zT]) ?_
   refine al_end rfl ?_
   refine then_normal ?_
   refine aw_ret ?_
   refine retPost1 rfl rfl ?_
   exact hG.ret (by intro e; rw [e] at hzl; cases hzl)
set_option maxRecDepth 100000 in
theorem otext_ok (Hs : HS) (t : Option Nat) (v : AV) (bs : List UInt8) (s : List UInt8) (hv : App v t 1 (bs.map BY)) (hok : Hs.ok t bs.length) (hb : bs.length + s.length + 9 ≤ 140737488355328) : ACalls Tryz.prog 14 [v, .d (S s)] Hs (Ret (ownB Hs t (bs ++ textB s)) (upB Hs t (bs ++ textB s))) := by
 have hz8 := szN_8 (n := s.length) (by omega)
 have hzl := numB_len s.length
 rw [show ((s.length : Nat) : Int).toNat = s.length from rfl] at hz8
 have hnum := onum_ok Hs t v bs s.length hv hok (by omega) (by omega)
 rw [show ((s.length : Nat) : Int).toNat = s.length from rfl] at hnum
 rw [show bs ++ textB s = (bs ++ numB s.length) ++ s by simp [textB]]
 refine acalls_of_aw Tryz.func14 rfl ?_
 refine aw_start (T' := [v, .d (S s), .un, .un, .un, .un, .un, .un, .un, .un, .un]) rfl ?_
 refine aw_seq ?_
 refine aw_region ?_
 refine zst (op_assign_const (by rfl)) rfl (by dsimp only [zS, zN, zH, zT]) ?_
 refine al_end rfl ?_
 refine then_normal ?_
 refine aw_seq ?_
 refine aw_region ?_
 refine zst (op_move_tmp (by rfl)) rfl (by dsimp only [zS, zN, zH, zT]) ?_
 refine zst (op_move_tmp (by rfl)) rfl (by dsimp only [zS, zN, zH, zT]) ?_
 refine zst (op_lenS Tryz.underlying9 (by rfl)) rfl (by dsimp only [zS, zN, zH, zT]) ?_
 refine zst (op_callF Tryz.func12 (by rfl) (by rfl) (.tmp (by rfl) (.tmp (by rfl) .nil)) (hnum)) rfl (by dsimp only [zS, zN, zH, zT]) ?_
 refine zst (op_move_tmp (by rfl)) rfl (by dsimp only [zS, zN, zH, zT]) ?_
 refine zst (op_appendO Tryz.underlying46 Inf5 (by rfl) (by rfl) (.str s Tryz.underlying9) rfl hok (by simp; omega)) rfl (by dsimp only [zS, zN, zH, zT]) ?_
 refine zst (op_assign_tmp (by rfl)) rfl (by dsimp only [zS, zN, zH, zT]) ?_
 refine al_end rfl ?_
 refine then_normal ?_
 refine aw_ret ?_
 refine retPost1 rfl rfl ?_
 exact ⟨rfl, rfl⟩
end Go.Proofs.YtdiibbbbdhkepaaGreatDoor
namespace Go.Proofs.YtdiibbbbdhkepaaGreatDoor
open Go.AV Go.AV.Ord Go.AV.Oct Go.AV.Stp
set_option linter.unusedVariables false
set_option linter.unusedSimpArgs false
variable [Wins Tryz.prog]
set_option maxRecDepth 100000 in
theorem wenc_ok (Hs : HS) (xs : List St) (hl : xs.length ≤ 9223372036854775807) : ACalls Tryz.prog 7 [.d (.lst 5 (xs.map stD))] Hs (Ret (.tup [.d (S (encR xs)), .d (I (encE xs))]) Hs) := by
 refine ACalls.tidyT (xs := [S (encR xs), I (encE xs)]) ?_
 have hnum := onum_ok Hs none _ [] xs.length (App.nil _) (HS.ok_none _ _) (by omega) (by simp)
 rw [show ((xs.length : Nat) : Int).toNat = xs.length from rfl, List.nil_append] at hnum
 refine acalls_of_aw Tryz.func7 rfl ?_
 refine aw_start (T' := [.d (.lst 5 (xs.map stD)), .un, .un, .un, .un, .un, .un, .un, .un, .un, .un, .un, .un, .un, .un, .un, .un, .un, .un, .un, .un, .un, .un, .un, .un, .un, .un, .un, .un, .un, .un, .un, .un, .un, .un, .un, .un, .un, .un, .un, .un, .un, .un, .un, .un, .un, .un, .un, .un, .un, .un, .un, .un, .un, .un, .un]) rfl ?_
 refine aw_seq ?_
 refine aw_region ?_
 refine zst (op_assign_const (by rfl)) rfl (by dsimp only [zS, zN, zH, zT]) ?_
 refine zst (op_assign_const (by rfl)) rfl (by dsimp only [zS, zN, zH, zT]) ?_
 refine al_end rfl ?_
 refine then_normal ?_
 refine aw_seq ?_
 refine aw_seq ?_
 refine aw_region ?_
 refine zst (op_move_tmp (by rfl)) rfl (by dsimp only [zS, zN, zH, zT]) ?_
 refine zst (op_lenL Tryz.underlying22 (by first | exact LL.d _ _ | exact LL.own _ _ _ | exact LL.nil _ | assumption)) rfl (by dsimp only [zS, zN, zH, zT]) ?_
 refine zst (op_gtI (by rfl) (by rfl)) rfl (by dsimp only [zS, zN, zH, zT]) ?_
 refine al_end rfl ?_
 refine then_normal ?_
 refine aw_cond rfl (fun hc1 => ?_) (fun hc1 => ?_)
 ·
  (try simp only [y1, y2, y3, y4, y5, y6, y7, y8, y9, y0, List.length_map] at hc1)
  have hL : 10000 < xs.length := by have h : (10000 : Int) < (xs.length : Int) := (by simpa using hc1); omega
  refine aw_seq ?_
  refine aw_region ?_
  refine zst (op_assign_const (by rfl)) rfl (by dsimp only [zS, zN, zH, zT]) ?_
  refine zst (op_assign_const (by rfl)) rfl (by dsimp only [zS, zN, zH, zT]) ?_
  refine al_end rfl ?_
  refine then_normal ?_
  refine aw_ret ?_
  refine then_ret ?_
  refine retPost2 rfl rfl rfl ?_
  obtain ⟨z1, z2⟩ := encE_long hL
  exact ⟨by rw [z1, z2]; rfl, Ext.refl _⟩
 ·
  (try simp only [y1, y2, y3, y4, y5, y6, y7, y8, y9, y0, List.length_map] at hc1)
  have hL : ¬ 10000 < xs.length := by have h : ¬ (10000 : Int) < (xs.length : Int) := (by simpa using hc1); omega
  refine aw_skip ?_
  refine then_normal ?_
  refine aw_seq ?_
  refine aw_region ?_
  refine zst (op_move_tmp (by rfl)) rfl (by dsimp only [zS, zN, zH, zT]) ?_
  refine zst (op_lenL Tryz.underlying22 (by first | exact LL.d _ _ | exact LL.own _ _ _ | exact LL.nil _ | assumption)) rfl (by dsimp only [zS, zN, zH, zT]) ?_
  refine zst (op_callF Tryz.func12 (by rfl) (by rfl) (.const (by rfl) (.tmp (by rfl) .nil)) ((by have h := hnum; simpa using h))) rfl (by dsimp only [zS, zN, zH, zT]) ?_
  refine zst (op_assign_tmp (by rfl)) rfl (by dsimp only [zS, zN, zH, zT]) ?_
  refine al_end rfl ?_
  refine then_normal ?_
  refine aw_seq ?_
  refine aw_seq ?_
  refine aw_region ?_
  refine zst (op_move_tmp (by rfl)) rfl (by dsimp only [zS, zN, zH, zT]) ?_
  refine zst (op_lenL Tryz.underlying22 (by first | exact LL.d _ _ | exact LL.own _ _ _ | exact LL.nil _ | assumption)) rfl (by dsimp only [zS, zN, zH, zT]) ?_
  refine zst (op_move_const (by rfl)) rfl (by dsimp only [zS, zN, zH, zT]) ?_
  refine al_end rfl ?_
  refine then_normal ?_
  refine aw_block ?_
  apply aw_loopF (fun n T H => ∃ (k : Nat) (v' : AV) (t' : Option Nat), T = [.un, .un, .un, .un, v', .un, .un, .un, .un, .un, .un, .un, .un, .un, .un, .d (.lst 5 (xs.map stD)), .d (I (xs.map stD).length), .d (I k), .un, .un, .un, .un, .un, .un, .un, .un, .un, .un, .un, .un, .un, .un, .un, .un, .un, .un, .un, .un, .un, .un, .un, .un, .un, .un, .un, .un, .un, .un, .un, .un, .un, .un, .un, .un, .un, .un] ∧ k ≤ xs.length ∧ n = xs.length - k ∧ App v' t' 1 ((encK xs k).map BY) ∧ H.ok t' (encK xs k).length ∧ NewTok Hs t' ∧ Ext Hs H ∧ (xs.take k).all rightS = true) (xs.length) [false, false, false, false, true, false, false, false, false, false, false, false, false, false, false, true, true, true, false, false, false, false, false, false, false, false, false, false, false, false, false, false, false, false, false, false, false, false, false, false, false, false, false, false, false, false, false, false, false, false, false, false, false, false, false, false]
  · (try dsimp only [maskT]); try exact rfl
  · rfl
  · exact ⟨0, _, _, rfl, by omega, rfl, by rw [encK_zero]; exact App.own _ _ _, by rw [encK_zero]; exact okB _ _ _ (HS.ok_none _ 0), ((Ext.refl Hs).upN (n := 0) (NewTok.none Hs) (HS.ok_none _ 0)).2, ((Ext.refl Hs).upN (NewTok.none Hs) (HS.ok_none _ 0)).1, rfl⟩
  rintro n T H ⟨k, v', t', rfl, hk, rfl, hv, hok, hnt, hx, hall⟩
  refine aw_seq ?_
  refine aw_region ?_
  refine zst (op_ltI (by rfl) (by rfl)) rfl (by dsimp only [zS, zN, zH, zT]) ?_
  refine al_end rfl ?_
  refine then_normal ?_
  refine aw_seq ?_
  refine aw_cond rfl (fun hc2 => ?_) (fun hc2 => ?_)
  ·
   (try simp only [y1, y2, y3, y4, y5, y6, y7, y8, y9, y0, List.length_map] at hc2)
   (try simp only [List.length_map] at hc2)
   have hlt : k < xs.length := by omega
   obtain ⟨y, hy⟩ : ∃ y, xs[k]? = some y := ⟨_, List.getElem?_eq_getElem hlt⟩
   obtain ⟨sid, hsid⟩ : ∃ s, s = H.nb := ⟨_, rfl⟩
   have hok' : ∀ cs b, ((H.push 28 cs).setB H.nb b).ok t' (encK xs k).length := fun _ _ => hok
   have hxS : ∀ {cs b}, Ext Hs ((H.push 28 cs).setB H.nb b) := fun {cs b} => (hx.push _ _).setB (nb_le hx)
   have hel := encK_le (xs := xs) (k := k) (by omega) hall
   refine aw_skip ?_
   refine then_normal ?_
   refine aw_seq ?_
   refine aw_block ?_
   refine aw_seq ?_
   refine aw_region ?_
   refine zst (op_indexAddr Tryz.underlying22 Sz28 (LL.d _ _) (by rfl) (by omega) (show (xs.map stD)[((k : Nat) : Int).toNat]? = some (stD y) by rw [List.getElem?_map, show ((k : Nat) : Int).toNat = k from rfl, hy]; rfl) (by rfl)) rfl (by dsimp only [zS, zN, zH, zT]) ?_
   refine zst (op_load_elts (ds := stC y) Tryz.underlying28 (by rfl) Sz28 (by rfl) (Nat.le_of_ble_eq_true rfl) (by rfl)) rfl (by dsimp only [zS, zN, zH, zT]) ?_
   refine zst (op_alloc (Zr28) (by rfl)) rfl (by dsimp only [zS, zN, zH, zT]) ?_
   refine zst (op_storeB (vs := [.d (I y.kind), .d (I y.sess), .d (I y.n), .d (S y.text), .d (.lst 1 (y.keep.map I))]) (b' := ⟨28, [.d (I y.kind), .d (I y.sess), .d (I y.n), .d (S y.text), .d (.lst 1 (y.keep.map I))], false⟩) (H' := _) Sz28 (by rfl) push_at (by intro h; cases h) (by rfl) (by rfl) (Nat.le_of_ble_eq_true rfl) (by simp [AV.one, DV.one, TF, S, I, BY]) (by rfl) (by rfl) rfl) rfl (by dsimp only [zS, zN, zH, zT]) ?_
   refine al_end rfl ?_
   refine then_normal ?_
   refine aw_seq ?_
   refine aw_seq ?_
   refine aw_region ?_
   refine zst (op_load_ptrsD (stC y) Tryz.underlying28 (by rfl) Sz28 (by rfl) (setB_at push_at) (Nat.le_of_ble_eq_true rfl) (by rfl) (by simp [stC, DV.one, S, I])) rfl (by dsimp only [zS, zN, zH, zT]) ?_
   refine zst (op_callF Tryz.func13 (by rfl) (by rfl) (.tmp (by rfl) .nil) (right_ok _ y)) rfl (by dsimp only [zS, zN, zH, zT]) ?_
   refine zst (op_not (by rfl)) rfl (by dsimp only [zS, zN, zH, zT]) ?_
   refine al_end rfl ?_
   refine then_normal ?_
   refine aw_cond rfl (fun hc3 => ?_) (fun hc3 => ?_)
   ·
    (try simp only [y1, y2, y3, y4, y5, y6, y7, y8, y9, y0, List.length_map] at hc3)
    have hr : rightS y = false := by simpa using hc3
    obtain ⟨z1, z2⟩ := encE_bad hL hy hr
    refine aw_seq ?_
    refine aw_region ?_
    refine zst (op_assign_const (by rfl)) rfl (by dsimp only [zS, zN, zH, zT]) ?_
    refine zst (op_assign_const (by rfl)) rfl (by dsimp only [zS, zN, zH, zT]) ?_
    refine al_end rfl ?_
    refine then_normal ?_
    refine aw_ret ?_
    refine then_ret (inBlock_ret (then_ret (again_ret (inBlock_ret (then_ret ?_)))))
    refine retPost2 rfl rfl rfl ?_
    exact ⟨by rw [z1, z2]; rfl, hxS⟩
   ·
    (try simp only [y1, y2, y3, y4, y5, y6, y7, y8, y9, y0, List.length_map] at hc3)
    have hr : rightS y = true := by simpa using hc3
    have hR := rightS_iff.1 hr
    have q1 := hR.k7
    have q2 := hR.s15
    have q3 := hR.nT
    have q4 := hR.tx
    have q5 := hR.kl
    have w1 := numB_short (x := y.kind) (by omega)
    have w2 := numB_short (x := y.sess) (by omega)
    have w3 := numB_short (x := y.n) (by omega)
    have w4 := numB_shortN (x := y.text.length) (by omega)
    have w5 : (textB y.text).length ≤ 20009 := by simp only [textB, List.length_append]; omega
    have hhl := headB_le hR
    refine aw_skip ?_
    refine then_normal ?_
    apply aw_cutF (fun T H => ∃ (v2 : AV) (t2 : Option Nat), T = [.un, .un, .un, .un, v2, .un, .ptr sid 0, .un, .un, .un, .un, .un, .un, .un, .un, .d (.lst 5 (xs.map stD)), .d (I (xs.map stD).length), .d (I k), .un, .un, .un, .un, .un, .un, .un, .un, .un, .un, .un, .un, .un, .un, .un, .un, .un, .un, .un, .un, .un, .un, .un, .un, .un, .un, .un, .un, .un, .un, .un, .un, .un, .un, .un, .un, .un, .un] ∧ App v2 t2 1 ((encK xs k ++ numB y.kind.toNat ++ numB y.sess.toNat ++ numB y.n.toNat).map BY) ∧ H.ok t2 (encK xs k ++ numB y.kind.toNat ++ numB y.sess.toNat ++ numB y.n.toNat).length ∧ NewTok Hs t2 ∧ Ext Hs H ∧ H.blks[sid]? = some ⟨28, [.d (I y.kind), .d (I y.sess), .d (I y.n), .d (S y.text), .d (.lst 1 (y.keep.map I))], false⟩)
    ·
     refine aw_drawX (fun K => K.blks[H.nb]? = some ⟨28, [.d (I y.kind), .d (I y.sess), .d (I y.n), .d (S y.text), .d (.lst 1 (y.keep.map I))], false⟩) [0, 0, 0, 2, 0, 0, 2, 0, 0, 2, 0] mixed (by kernel_rfl) (setB_at push_at) (.inr (by kernel_rfl)) ?_
     apply drun0X
     · intro H hPhi; exact op_move_tmp (by rfl)
     · rfl
     apply drun_normT
     · (try dsimp only [zS, zN, zH, zT]); try exact rfl
     apply drun0X
     · intro H hPhi; first | exact op_fieldAddr_ptr Tryz.underlying28 rfl Sz25 (by rfl) (by rfl) | exact op_fieldAddr_elt Tryz.underlying28 rfl Sz25 (by rfl) (by rfl) (by rfl)
     · rfl
     apply drun_normT
     · (try dsimp only [zS, zN, zH, zT]); try exact rfl
     apply drun0X
     · intro H hPhi; first | exact op_load_elt Tryz.underlying25 (by rfl) (by rfl) (by rfl) | exact op_load_ptr Tryz.underlying25 (by rfl) (by rfl) (by first | exact hPhi | exact hb2 | (rw [HS.up_blks, HS.up_blks]; exact hb2) | exact setB_at push_at) (by rfl)
     · rfl
     apply drun_normT
     · (try dsimp only [zS, zN, zH, zT]); try exact rfl
     apply drun2X
     · exact op_callF Tryz.func12 (by rfl) (by rfl) (.tmp (by rfl) (.tmp (by rfl) .nil)) (onum_ok _ t' _ _ y.kind hv (hok' _ _) (by omega) (by omega))
     · rfl
     · refine .inr ?_; first | (rw [HS.up_blks]; exact setB_at push_at) | (rw [HS.up_blks, HS.up_blks]; exact setB_at push_at) | (rw [HS.up_blks, HS.up_blks, HS.up_blks]; exact setB_at push_at)
     apply drun_normT
     · (try dsimp only [zS, zN, zH, zT]); try exact rfl
     apply drun0X
     · intro H hPhi; first | exact op_fieldAddr_ptr Tryz.underlying28 rfl Sz3 (by rfl) (by rfl) | exact op_fieldAddr_elt Tryz.underlying28 rfl Sz3 (by rfl) (by rfl) (by rfl)
     · rfl
     apply drun_normT
     · (try dsimp only [zS, zN, zH, zT]); try exact rfl
     apply drun0X
     · intro H hPhi; first | exact op_load_elt Tryz.underlying3 (by rfl) (by rfl) (by rfl) | exact op_load_ptr Tryz.underlying3 (by rfl) (by rfl) (by first | exact hPhi | exact hb2 | (rw [HS.up_blks, HS.up_blks]; exact hb2) | exact setB_at push_at) (by rfl)
     · rfl
     apply drun_normT
     · (try dsimp only [zS, zN, zH, zT]); try exact rfl
     apply drun2X
     · exact op_callF Tryz.func12 (by rfl) (by rfl) (.tmp (by rfl) (.tmp (by rfl) .nil)) (onum_ok _ _ _ _ y.sess (App.own _ _ _) (okB _ _ _ (hok' _ _)) (by omega) (by simp only [List.length_append]; omega))
     · rfl
     · refine .inr ?_; first | (rw [HS.up_blks]; exact setB_at push_at) | (rw [HS.up_blks, HS.up_blks]; exact setB_at push_at) | (rw [HS.up_blks, HS.up_blks, HS.up_blks]; exact setB_at push_at)
     apply drun_normT
     · (try dsimp only [zS, zN, zH, zT]); try exact rfl
     apply drun0X
     · intro H hPhi; first | exact op_fieldAddr_ptr Tryz.underlying28 rfl Sz3 (by rfl) (by rfl) | exact op_fieldAddr_elt Tryz.underlying28 rfl Sz3 (by rfl) (by rfl) (by rfl)
     · rfl
     apply drun_normT
     · (try dsimp only [zS, zN, zH, zT]); try exact rfl
     apply drun0X
     · intro H hPhi; first | exact op_load_elt Tryz.underlying3 (by rfl) (by rfl) (by rfl) | exact op_load_ptr Tryz.underlying3 (by rfl) (by rfl) (by first | exact hPhi | exact hb2 | (rw [HS.up_blks, HS.up_blks]; exact hb2) | exact setB_at push_at) (by rfl)
     · rfl
     apply drun_normT
     · (try dsimp only [zS, zN, zH, zT]); try exact rfl
     apply drun2X
     · exact op_callF Tryz.func12 (by rfl) (by rfl) (.tmp (by rfl) (.tmp (by rfl) .nil)) (onum_ok _ _ _ _ y.n (App.own _ _ _) (okB _ _ _ (okB _ _ _ (hok' _ _))) (by omega) (by simp only [List.length_append]; omega))
     · rfl
     · refine .inr ?_; first | (rw [HS.up_blks]; exact setB_at push_at) | (rw [HS.up_blks, HS.up_blks]; exact setB_at push_at) | (rw [HS.up_blks, HS.up_blks, HS.up_blks]; exact setB_at push_at)
     apply drun_normT
     · (try dsimp only [zS, zN, zH, zT]); try exact rfl
     apply drun0X
     · intro H hPhi; exact op_assign_tmp (by rfl)
     · rfl
     apply drun_normT
     · (try dsimp only [zS, zN, zH, zT]); try exact rfl
     refine drun_end rfl ?_
     apply cut_to [false, false, false, false, true, false, true, false, false, false, false, false, false, false, false, true, true, true, false, false, false, false, false, false, false, false, false, false, false, false, false, false, false, false, false, false, false, false, false, false, false, false, false, false, false, false, false, false, false, false, false, false, false, false, false, false]
     · (try dsimp only [maskT]); try exact rfl
     · rfl
     exact ⟨_, _, by (rw [hsid]) <;> rfl, App.own _ _ _, okB _ _ _ (okB _ _ _ (okB _ _ _ (hok' _ _))), (hxS.upN (n := 0) hnt (hok' _ _)).2, by rw [up_upB, up_upB]; exact (hxS.upN hnt (hok' _ _)).1, by rw [hsid, HS.up_blks, HS.up_blks, HS.up_blks]; exact setB_at push_at⟩
    rintro T H ⟨v2, t2, rfl, hv2, hok2, hnt2, hx2, hb2⟩
    refine aw_seq ?_
    refine aw_drawX (fun K => K.blks[sid]? = some ⟨28, [.d (I y.kind), .d (I y.sess), .d (I y.n), .d (S y.text), .d (.lst 1 (y.keep.map I))], false⟩) [0, 0, 0, 2, 0, 0, 0, 2, 0] mixed (by kernel_rfl) (hb2) (.inr (by kernel_rfl)) ?_
    apply drun0X
    · intro H hPhi; exact op_move_tmp (by rfl)
    · rfl
    apply drun_normT
    · (try dsimp only [zS, zN, zH, zT]); try exact rfl
    apply drun0X
    · intro H hPhi; first | exact op_fieldAddr_ptr Tryz.underlying28 rfl Sz9 (by rfl) (by rfl) | exact op_fieldAddr_elt Tryz.underlying28 rfl Sz9 (by rfl) (by rfl) (by rfl)
    · rfl
    apply drun_normT
    · (try dsimp only [zS, zN, zH, zT]); try exact rfl
    apply drun0X
    · intro H hPhi; first | exact op_load_elt Tryz.underlying9 (by rfl) (by rfl) (by rfl) | exact op_load_ptr Tryz.underlying9 (by rfl) (by rfl) (by first | exact hPhi | exact hb2 | (rw [HS.up_blks, HS.up_blks]; exact hb2) | exact setB_at push_at) (by rfl)
    · rfl
    apply drun_normT
    · (try dsimp only [zS, zN, zH, zT]); try exact rfl
    apply drun2X
    · exact op_callF Tryz.func14 (by rfl) (by rfl) (.tmp (by rfl) (.tmp (by rfl) .nil)) (otext_ok _ t2 _ _ y.text hv2 hok2 (by simp only [List.length_append]; omega))
    · rfl
    · refine .inr ?_; first | (rw [HS.up_blks]; exact hb2) | (rw [HS.up_blks, HS.up_blks]; exact hb2)
    apply drun_normT
    · (try dsimp only [zS, zN, zH, zT]); try exact rfl
    apply drun0X
    · intro H hPhi; first | exact op_fieldAddr_ptr Tryz.underlying28 rfl Sz26 (by rfl) (by rfl) | exact op_fieldAddr_elt Tryz.underlying28 rfl Sz26 (by rfl) (by rfl) (by rfl)
    · rfl
    apply drun_normT
    · (try dsimp only [zS, zN, zH, zT]); try exact rfl
    apply drun0X
    · intro H hPhi; first | exact op_load_elt Tryz.underlying26 (by rfl) (by rfl) (by rfl) | exact op_load_ptr Tryz.underlying26 (by rfl) (by rfl) (by first | exact hPhi | exact hb2 | (rw [HS.up_blks, HS.up_blks]; exact hb2) | exact setB_at push_at) (by rfl)
    · rfl
    apply drun_normT
    · (try dsimp only [zS, zN, zH, zT]); try exact rfl
    apply drun0X
    · intro H hPhi; exact op_lenL Tryz.underlying26 (by first | exact LL.d _ _ | exact LL.own _ _ _ | exact LL.nil _ | assumption)
    · rfl
    apply drun_normT
    · (try dsimp only [zS, zN, zH, zT]); try exact rfl
    apply drun2X
    · exact op_callF Tryz.func12 (by rfl) (by rfl) (.tmp (by rfl) (.tmp (by rfl) .nil)) ((by have h := onum_ok (upB H t2 (encK xs k ++ numB y.kind.toNat ++ numB y.sess.toNat ++ numB y.n.toNat ++ textB y.text)) (some (H.tk t2)) (ownB H t2 (encK xs k ++ numB y.kind.toNat ++ numB y.sess.toNat ++ numB y.n.toNat ++ textB y.text)) (encK xs k ++ numB y.kind.toNat ++ numB y.sess.toNat ++ numB y.n.toNat ++ textB y.text) ((y.keep.map I).length : Nat) (App.own _ _ _) (okB _ t2 _ hok2) (by rw [List.length_map]; omega) (by simp only [List.length_append]; omega); rw [show (((y.keep.map I).length : Nat) : Int).toNat = y.keep.length by simp] at h; exact h))
    · rfl
    · refine .inr ?_; first | (rw [HS.up_blks]; exact hb2) | (rw [HS.up_blks, HS.up_blks]; exact hb2)
    apply drun_normT
    · (try dsimp only [zS, zN, zH, zT]); try exact rfl
    apply drun0X
    · intro H hPhi; exact op_assign_tmp (by rfl)
    · rfl
    apply drun_normT
    · (try dsimp only [zS, zN, zH, zT]); try exact rfl
    refine drun_end rfl ?_
    refine then_normal ?_
    refine aw_seq ?_
    refine aw_region ?_
    refine zst (by first | exact op_fieldAddr_ptr Tryz.underlying28 rfl Sz26 (by rfl) (by rfl) | exact op_fieldAddr_elt Tryz.underlying28 rfl Sz26 (by rfl) (by rfl) (by rfl)) rfl (by dsimp only [zS, zN, zH, zT]) ?_
    refine zst (by first | exact op_load_elt Tryz.underlying26 (by rfl) (by rfl) (by rfl) | exact op_load_ptr Tryz.underlying26 (by rfl) (by rfl) (by first | exact hPhi | exact hb2 | (rw [HS.up_blks, HS.up_blks]; exact hb2) | exact setB_at push_at) (by rfl)) rfl (by dsimp only [zS, zN, zH, zT]) ?_
    refine zst (op_lenL Tryz.underlying26 (by first | exact LL.d _ _ | exact LL.own _ _ _ | exact LL.nil _ | assumption)) rfl (by dsimp only [zS, zN, zH, zT]) ?_
    refine zst (op_move_const (by rfl)) rfl (by dsimp only [zS, zN, zH, zT]) ?_
    refine al_end rfl ?_
    refine then_normal ?_
    refine aw_block ?_
    apply aw_loopF (fun n T H => ∃ (j : Nat) (v3 : AV) (t3 : Option Nat), T = [.un, .un, .un, .un, v3, .un, .un, .un, .un, .un, .un, .un, .un, .un, .un, .d (.lst 5 (xs.map stD)), .d (I (xs.map stD).length), .d (I k), .un, .un, .un, .un, .un, .un, .un, .un, .un, .un, .un, .un, .un, .un, .un, .un, .un, .un, .un, .un, .un, .un, .un, .un, .un, .d (.lst 1 (y.keep.map I)), .d (I (y.keep.map I).length), .d (I j), .un, .un, .un, .un, .un, .un, .un, .un, .un, .un] ∧ j ≤ y.keep.length ∧ n = y.keep.length - j ∧ App v3 t3 1 ((encK xs k ++ headB y ++ keepB (y.keep.take j)).map BY) ∧ H.ok t3 (encK xs k ++ headB y ++ keepB (y.keep.take j)).length ∧ NewTok Hs t3 ∧ Ext Hs H) (y.keep.length) [false, false, false, false, true, false, false, false, false, false, false, false, false, false, false, true, true, true, false, false, false, false, false, false, false, false, false, false, false, false, false, false, false, false, false, false, false, false, false, false, false, false, false, true, true, true, false, false, false, false, false, false, false, false, false, false]
    · (try dsimp only [maskT]); try exact rfl
    · rfl
    · exact ⟨0, _, _, rfl, by omega, rfl, by rw [head_nil]; exact App.own _ _ _, by rw [head_nil]; exact okB _ _ _ (okB _ _ _ hok2), (hx2.upN (n := 0) hnt2 hok2).2, by rw [up_upB]; exact (hx2.upN hnt2 hok2).1⟩
    rintro n T H ⟨j, v3, t3, rfl, hj, rfl, hv3, hok3, hnt3, hx3⟩
    have hkl := keepB_take hR.kp hR.kl j
    refine aw_seq ?_
    refine aw_region ?_
    refine zst (op_ltI (by rfl) (by rfl)) rfl (by dsimp only [zS, zN, zH, zT]) ?_
    refine al_end rfl ?_
    refine then_normal ?_
    refine aw_seq ?_
    refine aw_cond rfl (fun hc4 => ?_) (fun hc4 => ?_)
    ·
     (try simp only [y1, y2, y3, y4, y5, y6, y7, y8, y9, y0, List.length_map] at hc4)
     (try simp only [List.length_map] at hc4)
     have hlt2 : j < y.keep.length := by omega
     obtain ⟨x, hxx⟩ : ∃ x, y.keep[j]? = some x := ⟨_, List.getElem?_eq_getElem hlt2⟩
     have hx := hxx
     have q6 := hR.kp x (List.mem_of_getElem? hxx)
     refine aw_skip ?_
     refine then_normal ?_
     refine aw_seq ?_
     refine aw_block ?_
     refine aw_seq ?_
     refine aw_region ?_
     refine zst (op_indexAddr Tryz.underlying26 Sz3 (LL.d _ _) (by rfl) (by omega) (show (y.keep.map I)[((j : Nat) : Int).toNat]? = some (I x) by rw [List.getElem?_map, show ((j : Nat) : Int).toNat = j from rfl, hx]; rfl) (by rfl)) rfl (by dsimp only [zS, zN, zH, zT]) ?_
     refine zst (by first | exact op_load_elt Tryz.underlying3 (by rfl) (by rfl) (by rfl) | exact op_load_ptr Tryz.underlying3 (by rfl) (by rfl) (by first | exact hPhi | exact hb2 | (rw [HS.up_blks, HS.up_blks]; exact hb2) | exact setB_at push_at) (by rfl)) rfl (by dsimp only [zS, zN, zH, zT]) ?_
     refine zst (op_assign_tmp (by rfl)) rfl (by dsimp only [zS, zN, zH, zT]) ?_
     refine al_end rfl ?_
     refine then_normal ?_
     refine aw_region ?_
     refine zst (op_move_tmp (by rfl)) rfl (by dsimp only [zS, zN, zH, zT]) ?_
     refine zst (op_move_tmp (by rfl)) rfl (by dsimp only [zS, zN, zH, zT]) ?_
     refine zst (op_callF Tryz.func12 (by rfl) (by rfl) (.tmp (by rfl) (.tmp (by rfl) .nil)) (onum_ok _ t3 _ _ x hv3 hok3 (by omega) (by simp only [List.length_append]; omega))) rfl (by dsimp only [zS, zN, zH, zT]) ?_
     refine zst (op_assign_tmp (by rfl)) rfl (by dsimp only [zS, zN, zH, zT]) ?_
     refine al_end rfl ?_
     refine inBlock_normal (then_normal ?_)
     refine aw_region ?_
     refine zst (by first | exact op_add (by rfl) (by rfl) (wrap_i64 ⟨by omega, by omega⟩) | exact op_add (by rfl) (by rfl) (by rfl)) rfl (by dsimp only [zS, zN, zH, zT]) ?_
     refine zst (op_move_tmp (by rfl)) rfl (by dsimp only [zS, zN, zH, zT]) ?_
     refine al_end rfl ?_
     apply again_to (y.keep.length - (j + 1)) [false, false, false, false, true, false, false, false, false, false, false, false, false, false, false, true, true, true, false, false, false, false, false, false, false, false, false, false, false, false, false, false, false, false, false, false, false, false, false, false, false, false, false, true, true, true, false, false, false, false, false, false, false, false, false, false]
     · (try dsimp only [maskT]); try exact rfl
     · rfl
     · omega
     exact ⟨j + 1, _, _, rfl, by omega, rfl, by rw [keepB_step hxx, ← List.append_assoc]; exact App.own _ _ _, by rw [keepB_step hxx, ← List.append_assoc]; exact okB _ _ _ hok3, (hx3.upN (n := 0) hnt3 hok3).2, (hx3.upN hnt3 hok3).1⟩
    ·
     (try simp only [y1, y2, y3, y4, y5, y6, y7, y8, y9, y0, List.length_map] at hc4)
     (try simp only [List.length_map] at hc4)
     have hje : j = y.keep.length := by omega
     subst hje
     rw [List.take_length] at hv3 hok3
     refine aw_exit ?_
     refine then_exit (again_exit (inBlock_here (inBlock_normal (then_normal ?_))))
     refine aw_region ?_
     refine zst (by first | exact op_add (by rfl) (by rfl) (wrap_i64 ⟨by omega, by omega⟩) | exact op_add (by rfl) (by rfl) (by rfl)) rfl (by dsimp only [zS, zN, zH, zT]) ?_
     refine zst (op_move_tmp (by rfl)) rfl (by dsimp only [zS, zN, zH, zT]) ?_
     refine al_end rfl ?_
     apply again_to (xs.length - (k + 1)) [false, false, false, false, true, false, false, false, false, false, false, false, false, false, false, true, true, true, false, false, false, false, false, false, false, false, false, false, false, false, false, false, false, false, false, false, false, false, false, false, false, false, false, false, false, false, false, false, false, false, false, false, false, false, false, false]
     · (try dsimp only [maskT]); try exact rfl
     · rfl
     · omega
     exact ⟨k + 1, _, _, rfl, by omega, rfl, by rw [encK_next hy]; exact hv3, by rw [encK_next hy]; exact hok3, hnt3, hx3, encK_all hall hy hr⟩
  ·
   (try simp only [y1, y2, y3, y4, y5, y6, y7, y8, y9, y0, List.length_map] at hc2)
   (try simp only [List.length_map] at hc2)
   have hke : k = xs.length := by omega
   subst hke
   rw [List.take_length] at hall
   rw [encK_full] at hv hok
   obtain ⟨z1, z2⟩ := encE_ok hL hall
   refine aw_exit ?_
   refine then_exit (again_exit (inBlock_here (then_normal ?_)))
   refine aw_seq ?_
   refine aw_region ?_
   refine zst (op_move_tmp (by rfl)) rfl (by dsimp only [zS, zN, zH, zT]) ?_
   refine zst (op_string Tryz.underlying46 Tryz.underlying9 Tryz.underlying5 hv.ll (by rfl)) rfl (by dsimp only [zS, zN, zH, zT]) ?_
   refine zst (op_assign_tmp (by rfl)) rfl (by dsimp only [zS, zN, zH, zT]) ?_
   refine zst (op_assign_const (by rfl)) rfl (by dsimp only [zS, zN, zH, zT]) ?_
   refine al_end rfl ?_
   refine then_normal ?_
   refine aw_ret ?_
   refine retPost2 rfl rfl rfl ?_
   exact ⟨by rw [z1, z2]; rfl, hx⟩
end Go.Proofs.YtdiibbbbdhkepaaGreatDoor
namespace Go.Proofs.YtdiibbbbdhkepaaGreatDoor
open Go.AV Go.AV.Ord Go.AV.Oct
set_option linter.unusedVariables false
set_option linter.unusedSimpArgs false
variable [Wins Tryz.prog]
set_option maxRecDepth 100000 in
theorem fail_ok (H : HS) (id : Nat) (x y : AV) (hb : H.blks[id]? = some ⟨78, [x, y], false⟩) : ACalls Tryz.prog 32 [.ptr id 0] H (Ret (.tup []) (H.setB id (RB 78 ([], true)))) := by
 refine acalls_of_aw Tryz.func32 rfl ?_
 refine aw_start (T' := [.ptr id 0, .un, .un, .un, .un, .un, .un, .un]) rfl ?_
 refine aw_region ?_
 refine zst (op_move_tmp (by rfl)) rfl (by dsimp only [zS, zN, zH, zT]) ?_
 refine zst (op_move_tmp (by rfl)) rfl (by dsimp only [zS, zN, zH, zT]) ?_
 refine zst (by first | exact op_nilCheck_ptr (by rfl) | exact op_nilCheck_elt (by rfl)) rfl (by dsimp only [zS, zN, zH, zT]) ?_
 refine zst (by first | exact op_fieldAddr_ptr Tryz.underlying78 rfl Sz4 (by rfl) (by rfl) | exact op_fieldAddr_elt Tryz.underlying78 rfl Sz4 (by rfl) (by rfl) (by rfl)) rfl (by dsimp only [zS, zN, zH, zT]) ?_
 refine zst (op_storeB (vs := [.d (TF true)]) (b' := ⟨78, [x, .d (TF true)], false⟩) (H' := H.setB id ⟨78, [x, .d (TF true)], false⟩) Sz4 (by rfl) hb (by intro h; cases h) (by rfl) (by rfl) (Nat.le_of_ble_eq_true rfl) (by simp [AV.one, DV.one, TF, S, I, BY]) (by rfl) (by rfl) rfl) rfl (by dsimp only [zS, zN, zH, zT]) ?_
 refine zst (by first | exact op_nilCheck_ptr (by rfl) | exact op_nilCheck_elt (by rfl)) rfl (by dsimp only [zS, zN, zH, zT]) ?_
 refine zst (by first | exact op_fieldAddr_ptr Tryz.underlying78 rfl Sz9 (by rfl) (by rfl) | exact op_fieldAddr_elt Tryz.underlying78 rfl Sz9 (by rfl) (by rfl) (by rfl)) rfl (by dsimp only [zS, zN, zH, zT]) ?_
 refine zst (op_storeB (vs := [.d (S [])]) (b' := ⟨78, [.d (S []), .d (TF true)], false⟩) (H' := H.setB id ⟨78, [.d (S []), .d (TF true)], false⟩) Sz9 (by rfl) (setB_at hb) (by intro h; cases h) (by rfl) (by rfl) (Nat.le_of_ble_eq_true rfl) (by simp [AV.one, DV.one, TF, S, I, BY]) (by rfl) (by rfl) setB_setB) rfl (by dsimp only [zS, zN, zH, zT]) ?_
 refine al_end rfl ?_
 refine retPost0 (by first | exact .inl rfl | exact .inr rfl) rfl ?_
 exact ⟨rfl, rfl⟩
set_option maxRecDepth 100000 in
theorem num_ok (Hs : HS) (id : Nat) (s : List UInt8) (bad : Bool) (most : Int) (hb : Hs.blks[id]? = some (RB 78 (s, bad))) (hm : most ≤ 9223372036854775807) : ACalls Tryz.prog 16 [.ptr id 0, .d (I most)] Hs (Ret (.d (I (rNum most (s, bad)).1)) (Hs.setB id (RB 78 (rNum most (s, bad)).2))) := by
 have hb : Hs.blks[id]? = some ⟨78, [.d (S s), .d (TF bad)], false⟩ := hb
 refine acalls_of_aw Tryz.func16 rfl ?_
 refine aw_start (T' := ((.ptr id 0) :: (.d (I most)) :: .un :: .un :: .un :: .un :: .un :: .un :: .un :: .un :: .un :: .un :: .un :: .un :: .un :: .un :: .un :: .un :: .un :: .un :: .un :: .un :: .un :: .un :: .un :: .un :: .un :: .un :: .un :: .un :: .un :: .un :: .un :: .un :: .un :: .un :: .un :: .un :: .un :: .un :: .un :: .un :: .un :: .un :: .un :: .un :: .un :: .un :: .un :: .un :: .un :: .un :: .un :: .un :: .un :: .un :: .un :: .un :: .un :: .un :: .un :: .un :: .un :: .un :: .un :: .un :: .un :: .un :: .un :: .un :: .un :: .un :: .un :: .un :: .un :: .un :: .un :: .un :: .un :: .un :: .un :: .un :: .un :: .un :: .un :: .un :: .un :: .un :: .un :: .un :: .un :: .un :: .un :: .un :: .un :: .un :: .un :: .un :: .un :: .un :: .un :: .un :: .un :: .un :: .un :: .un :: .un :: [])) rfl ?_
 refine aw_seq ?_
 refine aw_region ?_
 refine zst (op_assign_const (by rfl)) rfl (by dsimp only [zS, zN, zH, zT]) ?_
 refine al_end rfl ?_
 refine then_normal ?_
 refine aw_seq ?_
 refine aw_seq ?_
 refine aw_region ?_
 refine zst (op_move_tmp (by rfl)) rfl (by dsimp only [zS, zN, zH, zT]) ?_
 refine zst (op_ptr_nil Tryz.underlying49 (by rfl) (by rfl)) rfl (by dsimp only [zS, zN, zH, zT]) ?_
 refine zst (op_move_tmp (by rfl)) rfl (by dsimp only [zS, zN, zH, zT]) ?_
 refine zsw rfl rfl rfl (op_move_tmp (by rfl)) (by dsimp only [zS, zN, zH, zT]) ?_
 refine zsw rfl rfl rfl (by first | exact op_nilCheck_ptr (by rfl) | exact op_nilCheck_elt (by rfl)) (by dsimp only [zS, zN, zH, zT]) ?_
 refine zsw rfl rfl rfl (by first | exact op_fieldAddr_ptr Tryz.underlying78 rfl Sz4 (by rfl) (by rfl) | exact op_fieldAddr_elt Tryz.underlying78 rfl Sz4 (by rfl) (by rfl) (by rfl)) (by dsimp only [zS, zN, zH, zT]) ?_
 refine zsw rfl rfl rfl (by first | exact op_load_elt Tryz.underlying4 (by rfl) (by rfl) (by rfl) | exact op_load_ptr Tryz.underlying4 (by rfl) (by rfl) (by first | exact hb | exact setB_at hb) (by rfl)) (by dsimp only [zS, zN, zH, zT]) ?_
 refine zst (op_pick_ff (by rfl) (val_tmp (by rfl))) rfl (by dsimp only [zS, zN, zH, zT]) ?_
 refine al_end rfl ?_
 refine then_normal ?_
 refine aw_cond rfl (fun hc1 => ?_) (fun hc1 => ?_)
 ·
  (try simp only [y1, y2, y3, y4, y5, y6, y7, y8, y9, y0, List.length_map] at hc1)
  have hbad : bad = true := hc1
  subst hbad
  refine aw_seq ?_
  refine aw_region ?_
  refine zst (op_assign_const (by rfl)) rfl (by dsimp only [zS, zN, zH, zT]) ?_
  refine al_end rfl ?_
  refine then_normal ?_
  refine aw_ret ?_
  refine then_ret ?_
  refine retPost1 rfl rfl ?_
  rw [rNum_bad]; exact ⟨rfl, (setB_self hb).symm⟩
 ·
  (try simp only [y1, y2, y3, y4, y5, y6, y7, y8, y9, y0, List.length_map] at hc1)
  have hbad : bad = false := hc1
  subst hbad
  refine aw_skip ?_
  refine then_normal ?_
  refine aw_seq ?_
  apply aw_cutF (fun T H => ∃ (u : Unit), T = ((.ptr id 0) :: (.d (I most)) :: .un :: .un :: .un :: .un :: .un :: .un :: .un :: .un :: .un :: .un :: .un :: .un :: .un :: .un :: .un :: .un :: .un :: .un :: .un :: .un :: .un :: .un :: .un :: .un :: .un :: .un :: .un :: .un :: .un :: .un :: .un :: .un :: .un :: .un :: .un :: .un :: .un :: .un :: .un :: .un :: .un :: .un :: .un :: .un :: .un :: .un :: .un :: .un :: .un :: .un :: .un :: .un :: .un :: .un :: .un :: .un :: .un :: .un :: (.d (TF (badN s))) :: .un :: .un :: .un :: .un :: .un :: .un :: .un :: .un :: .un :: .un :: .un :: .un :: .un :: .un :: .un :: .un :: .un :: .un :: .un :: .un :: .un :: .un :: .un :: .un :: .un :: .un :: .un :: .un :: .un :: .un :: .un :: .un :: .un :: .un :: .un :: .un :: .un :: .un :: .un :: .un :: .un :: .un :: .un :: .un :: .un :: .un :: []) ∧ Hs = H)
  ·
   refine aw_draw [0, 0, 0, 1, 0, 0, 0, 0, 0, 1, 0, 0, 0, 0, 0, 0, 0, 1, 0, 0, 0, 0, 1, 0, 0, 0, 0, 0, 0, 0, 0, 0, 1, 0, 0, 0, 0, 0, 0, 1, 0, 0, 0, 0] mixed (by kernel_rfl) ?_
   refine zd0 (fun H => (op_move_tmp (by rfl))) rfl (by dsimp only [zS, zN, zH, zT]) ?_
   refine zd0 (fun H => (by first | exact op_nilCheck_ptr (by rfl) | exact op_nilCheck_elt (by rfl))) rfl (by dsimp only [zS, zN, zH, zT]) ?_
   refine zd0 (fun H => (by first | exact op_fieldAddr_ptr Tryz.underlying78 rfl Sz9 (by rfl) (by rfl) | exact op_fieldAddr_elt Tryz.underlying78 rfl Sz9 (by rfl) (by rfl) (by rfl))) rfl (by dsimp only [zS, zN, zH, zT]) ?_
   refine zd1 (by first | exact op_load_elt Tryz.underlying9 (by rfl) (by rfl) (by rfl) | exact op_load_ptr Tryz.underlying9 (by rfl) (by rfl) (by first | exact hb | exact setB_at hb) (by rfl)) rfl (by dsimp only [zS, zN, zH, zT]) ?_
   refine zd0 (fun H => (op_eqS (by rfl) (by rfl))) rfl (by dsimp only [zS, zN, zH, zT]) ?_
   refine zd0 (fun H => (op_move_tmp (by rfl))) rfl (by dsimp only [zS, zN, zH, zT]) ?_
   refine drun_split 22 rfl (fun hg2 => ?_) (fun hg2 => ?_)
   ·
    (try simp only [y1, y2, y3, y4, y5, y6, y7, y8, y9, y0, List.length_map] at hg2)
    have hs0 : s = [] := hg2
    subst hs0
    apply drun_normT
    · (try dsimp only [zS, zN, zH, zT]); try exact rfl
    refine zdU rfl rfl rfl rfl (by dsimp only [zS, zN, zH, zT]) ?_
    refine zdU rfl rfl rfl rfl (by dsimp only [zS, zN, zH, zT]) ?_
    refine zdU rfl rfl rfl rfl (by dsimp only [zS, zN, zH, zT]) ?_
    refine zdU rfl rfl rfl rfl (by dsimp only [zS, zN, zH, zT]) ?_
    refine zdU rfl rfl rfl rfl (by dsimp only [zS, zN, zH, zT]) ?_
    refine zdU rfl rfl rfl rfl (by dsimp only [zS, zN, zH, zT]) ?_
    refine zd0 (fun H => (op_pick_tt (by rfl) (val_const (by rfl)))) rfl (by dsimp only [zS, zN, zH, zT]) ?_
    refine zd0 (fun H => (op_move_tmp (by rfl))) rfl (by dsimp only [zS, zN, zH, zT]) ?_
    refine zdU rfl rfl rfl rfl (by dsimp only [zS, zN, zH, zT]) ?_
    refine zdU rfl rfl rfl rfl (by dsimp only [zS, zN, zH, zT]) ?_
    refine zdU rfl rfl rfl rfl (by dsimp only [zS, zN, zH, zT]) ?_
    refine zdU rfl rfl rfl rfl (by dsimp only [zS, zN, zH, zT]) ?_
    refine zdU rfl rfl rfl rfl (by dsimp only [zS, zN, zH, zT]) ?_
    refine zdU rfl rfl rfl rfl (by dsimp only [zS, zN, zH, zT]) ?_
    refine zdU rfl rfl rfl rfl (by dsimp only [zS, zN, zH, zT]) ?_
    refine zdU rfl rfl rfl rfl (by dsimp only [zS, zN, zH, zT]) ?_
    refine zdU rfl rfl rfl rfl (by dsimp only [zS, zN, zH, zT]) ?_
    refine zdU rfl rfl rfl rfl (by dsimp only [zS, zN, zH, zT]) ?_
    refine zdU rfl rfl rfl rfl (by dsimp only [zS, zN, zH, zT]) ?_
    refine zdU rfl rfl rfl rfl (by dsimp only [zS, zN, zH, zT]) ?_
    refine zdU rfl rfl rfl rfl (by dsimp only [zS, zN, zH, zT]) ?_
    refine zd0 (fun H => (op_pick_tt (by rfl) (val_const (by rfl)))) rfl (by dsimp only [zS, zN, zH, zT]) ?_
    refine zd0 (fun H => (op_move_tmp (by rfl))) rfl (by dsimp only [zS, zN, zH, zT]) ?_
    refine zdU rfl rfl rfl rfl (by dsimp only [zS, zN, zH, zT]) ?_
    refine zdU rfl rfl rfl rfl (by dsimp only [zS, zN, zH, zT]) ?_
    refine zdU rfl rfl rfl rfl (by dsimp only [zS, zN, zH, zT]) ?_
    refine zdU rfl rfl rfl rfl (by dsimp only [zS, zN, zH, zT]) ?_
    refine zdU rfl rfl rfl rfl (by dsimp only [zS, zN, zH, zT]) ?_
    refine zdU rfl rfl rfl rfl (by dsimp only [zS, zN, zH, zT]) ?_
    refine zdU rfl rfl rfl rfl (by dsimp only [zS, zN, zH, zT]) ?_
    refine zdV rfl rfl rfl (by dsimp only [zS, zN, zH, zT]) ?_
    refine zdV rfl rfl rfl (by dsimp only [zS, zN, zH, zT]) ?_
    refine zdV rfl rfl rfl (by dsimp only [zS, zN, zH, zT]) ?_
    refine zdV rfl rfl rfl (by dsimp only [zS, zN, zH, zT]) ?_
    refine zdV rfl rfl rfl (by dsimp only [zS, zN, zH, zT]) ?_
    refine zdV rfl rfl rfl (by dsimp only [zS, zN, zH, zT]) ?_
    refine zdU rfl rfl rfl rfl (by dsimp only [zS, zN, zH, zT]) ?_
    refine zd0 (fun H => (op_pick_tt (by rfl) (val_const (by rfl)))) rfl (by dsimp only [zS, zN, zH, zT]) ?_
    refine drun_end rfl ?_
    apply cut_to (true :: true :: false :: false :: false :: false :: false :: false :: false :: false :: false :: false :: false :: false :: false :: false :: false :: false :: false :: false :: false :: false :: false :: false :: false :: false :: false :: false :: false :: false :: false :: false :: false :: false :: false :: false :: false :: false :: false :: false :: false :: false :: false :: false :: false :: false :: false :: false :: false :: false :: false :: false :: false :: false :: false :: false :: false :: false :: false :: false :: true :: false :: false :: false :: false :: false :: false :: false :: false :: false :: false :: false :: false :: false :: false :: false :: false :: false :: false :: false :: false :: false :: false :: false :: false :: false :: false :: false :: false :: false :: false :: false :: false :: false :: false :: false :: false :: false :: false :: false :: false :: false :: false :: false :: false :: false :: false :: [])
    · (try dsimp only [maskT]); try exact rfl
    · rfl
    exact ⟨(), by rfl, rfl⟩
   ·
    (try simp only [y1, y2, y3, y4, y5, y6, y7, y8, y9, y0, List.length_map] at hg2)
    obtain ⟨c, r, rfl⟩ := List.exists_cons_of_ne_nil hg2
    have hcl := c.toNat_lt
    apply drun_normT
    · (try dsimp only [zS, zN, zH, zT]); try exact rfl
    refine zd0w rfl rfl rfl (fun H => (op_move_tmp (by rfl))) (by dsimp only [zS, zN, zH, zT]) ?_
    refine zd0w rfl rfl rfl (fun H => (by first | exact op_nilCheck_ptr (by rfl) | exact op_nilCheck_elt (by rfl))) (by dsimp only [zS, zN, zH, zT]) ?_
    refine zd0w rfl rfl rfl (fun H => (by first | exact op_fieldAddr_ptr Tryz.underlying78 rfl Sz9 (by rfl) (by rfl) | exact op_fieldAddr_elt Tryz.underlying78 rfl Sz9 (by rfl) (by rfl) (by rfl))) (by dsimp only [zS, zN, zH, zT]) ?_
    refine zd1w rfl rfl rfl (by first | exact op_load_elt Tryz.underlying9 (by rfl) (by rfl) (by rfl) | exact op_load_ptr Tryz.underlying9 (by rfl) (by rfl) (by first | exact hb | exact setB_at hb) (by rfl)) (by dsimp only [zS, zN, zH, zT]) ?_
    refine zd0w rfl rfl rfl (fun H => (op_indexS Tryz.underlying9 (by rfl) (by rfl) (by decide) (show (c :: r)[(0 : Int).toNat]? = some c by rfl))) (by dsimp only [zS, zN, zH, zT]) ?_
    refine zd0w rfl rfl rfl (fun H => (op_gtI (by rfl) (by rfl))) (by dsimp only [zS, zN, zH, zT]) ?_
    refine zd0 (fun H => (op_pick_ff (by rfl) (val_tmp (by rfl)))) rfl (by dsimp only [zS, zN, zH, zT]) ?_
    refine zd0 (fun H => (op_move_tmp (by rfl))) rfl (by dsimp only [zS, zN, zH, zT]) ?_
    refine drun_split 30 rfl (fun hg3 => ?_) (fun hg3 => ?_)
    ·
     (try simp only [y1, y2, y3, y4, y5, y6, y7, y8, y9, y0, List.length_map] at hg3)
     have h8 : 8 < (c.toNat : Int) := hg3
     apply drun_normT
     · (try dsimp only [zS, zN, zH, zT]); try exact rfl
     refine zdU rfl rfl rfl rfl (by dsimp only [zS, zN, zH, zT]) ?_
     refine zdU rfl rfl rfl rfl (by dsimp only [zS, zN, zH, zT]) ?_
     refine zdU rfl rfl rfl rfl (by dsimp only [zS, zN, zH, zT]) ?_
     refine zdU rfl rfl rfl rfl (by dsimp only [zS, zN, zH, zT]) ?_
     refine zdU rfl rfl rfl rfl (by dsimp only [zS, zN, zH, zT]) ?_
     refine zdU rfl rfl rfl rfl (by dsimp only [zS, zN, zH, zT]) ?_
     refine zdU rfl rfl rfl rfl (by dsimp only [zS, zN, zH, zT]) ?_
     refine zdU rfl rfl rfl rfl (by dsimp only [zS, zN, zH, zT]) ?_
     refine zdU rfl rfl rfl rfl (by dsimp only [zS, zN, zH, zT]) ?_
     refine zdU rfl rfl rfl rfl (by dsimp only [zS, zN, zH, zT]) ?_
     refine zdU rfl rfl rfl rfl (by dsimp only [zS, zN, zH, zT]) ?_
     refine zdU rfl rfl rfl rfl (by dsimp only [zS, zN, zH, zT]) ?_
     refine zdU rfl rfl rfl rfl (by dsimp only [zS, zN, zH, zT]) ?_
     refine zd0 (fun H => (op_pick_tt (by rfl) (val_const (by rfl)))) rfl (by dsimp only [zS, zN, zH, zT]) ?_
     refine zd0 (fun H => (op_move_tmp (by rfl))) rfl (by dsimp only [zS, zN, zH, zT]) ?_
     refine zdU rfl rfl rfl rfl (by dsimp only [zS, zN, zH, zT]) ?_
     refine zdU rfl rfl rfl rfl (by dsimp only [zS, zN, zH, zT]) ?_
     refine zdU rfl rfl rfl rfl (by dsimp only [zS, zN, zH, zT]) ?_
     refine zdU rfl rfl rfl rfl (by dsimp only [zS, zN, zH, zT]) ?_
     refine zdU rfl rfl rfl rfl (by dsimp only [zS, zN, zH, zT]) ?_
     refine zdU rfl rfl rfl rfl (by dsimp only [zS, zN, zH, zT]) ?_
     refine zdU rfl rfl rfl rfl (by dsimp only [zS, zN, zH, zT]) ?_
     refine zdV rfl rfl rfl (by dsimp only [zS, zN, zH, zT]) ?_
     refine zdV rfl rfl rfl (by dsimp only [zS, zN, zH, zT]) ?_
     refine zdV rfl rfl rfl (by dsimp only [zS, zN, zH, zT]) ?_
     refine zdV rfl rfl rfl (by dsimp only [zS, zN, zH, zT]) ?_
     refine zdV rfl rfl rfl (by dsimp only [zS, zN, zH, zT]) ?_
     refine zdV rfl rfl rfl (by dsimp only [zS, zN, zH, zT]) ?_
     refine zdU rfl rfl rfl rfl (by dsimp only [zS, zN, zH, zT]) ?_
     refine zd0 (fun H => (op_pick_tt (by rfl) (val_const (by rfl)))) rfl (by dsimp only [zS, zN, zH, zT]) ?_
     refine drun_end rfl ?_
     apply cut_to (true :: true :: false :: false :: false :: false :: false :: false :: false :: false :: false :: false :: false :: false :: false :: false :: false :: false :: false :: false :: false :: false :: false :: false :: false :: false :: false :: false :: false :: false :: false :: false :: false :: false :: false :: false :: false :: false :: false :: false :: false :: false :: false :: false :: false :: false :: false :: false :: false :: false :: false :: false :: false :: false :: false :: false :: false :: false :: false :: false :: true :: false :: false :: false :: false :: false :: false :: false :: false :: false :: false :: false :: false :: false :: false :: false :: false :: false :: false :: false :: false :: false :: false :: false :: false :: false :: false :: false :: false :: false :: false :: false :: false :: false :: false :: false :: false :: false :: false :: false :: false :: false :: false :: false :: false :: false :: false :: [])
     · (try dsimp only [maskT]); try exact rfl
     · rfl
     exact ⟨(), by (rw [badN_big h8]) <;> rfl, rfl⟩
    ·
     (try simp only [y1, y2, y3, y4, y5, y6, y7, y8, y9, y0, List.length_map] at hg3)
     have h8 : ¬ 8 < (c.toNat : Int) := hg3
     apply drun_normT
     · (try dsimp only [zS, zN, zH, zT]); try exact rfl
     refine zd0w rfl rfl rfl (fun H => (op_move_tmp (by rfl))) (by dsimp only [zS, zN, zH, zT]) ?_
     refine zd0w rfl rfl rfl (fun H => (by first | exact op_nilCheck_ptr (by rfl) | exact op_nilCheck_elt (by rfl))) (by dsimp only [zS, zN, zH, zT]) ?_
     refine zd0w rfl rfl rfl (fun H => (by first | exact op_fieldAddr_ptr Tryz.underlying78 rfl Sz9 (by rfl) (by rfl) | exact op_fieldAddr_elt Tryz.underlying78 rfl Sz9 (by rfl) (by rfl) (by rfl))) (by dsimp only [zS, zN, zH, zT]) ?_
     refine zd1w rfl rfl rfl (by first | exact op_load_elt Tryz.underlying9 (by rfl) (by rfl) (by rfl) | exact op_load_ptr Tryz.underlying9 (by rfl) (by rfl) (by first | exact hb | exact setB_at hb) (by rfl)) (by dsimp only [zS, zN, zH, zT]) ?_
     refine zd0w rfl rfl rfl (fun H => (op_lenS Tryz.underlying9 (by rfl))) (by dsimp only [zS, zN, zH, zT]) ?_
     refine zd0w rfl rfl rfl (fun H => (op_move_tmp (by rfl))) (by dsimp only [zS, zN, zH, zT]) ?_
     refine zd0w rfl rfl rfl (fun H => (by first | exact op_nilCheck_ptr (by rfl) | exact op_nilCheck_elt (by rfl))) (by dsimp only [zS, zN, zH, zT]) ?_
     refine zd0w rfl rfl rfl (fun H => (by first | exact op_fieldAddr_ptr Tryz.underlying78 rfl Sz9 (by rfl) (by rfl) | exact op_fieldAddr_elt Tryz.underlying78 rfl Sz9 (by rfl) (by rfl) (by rfl))) (by dsimp only [zS, zN, zH, zT]) ?_
     refine zd1w rfl rfl rfl (by first | exact op_load_elt Tryz.underlying9 (by rfl) (by rfl) (by rfl) | exact op_load_ptr Tryz.underlying9 (by rfl) (by rfl) (by first | exact hb | exact setB_at hb) (by rfl)) (by dsimp only [zS, zN, zH, zT]) ?_
     refine zd0w rfl rfl rfl (fun H => (op_indexS Tryz.underlying9 (by rfl) (by rfl) (by decide) (show (c :: r)[(0 : Int).toNat]? = some c by rfl))) (by dsimp only [zS, zN, zH, zT]) ?_
     refine zd0w rfl rfl rfl (fun H => (by first | exact op_convI (by rw [Tryz.underlying5]; rfl) Tryz.underlying3 (by rfl) (wrap_i64 ⟨by omega, by omega⟩) | exact op_convI (by rw [Tryz.underlying5]; rfl) Tryz.underlying3 (by rfl) (by rfl))) (by dsimp only [zS, zN, zH, zT]) ?_
     refine zd0w rfl rfl rfl (fun H => (by first | exact op_add (by rfl) (by rfl) (wrap_i64 ⟨by omega, by omega⟩) | exact op_add (by rfl) (by rfl) (by rfl))) (by dsimp only [zS, zN, zH, zT]) ?_
     refine zd0w rfl rfl rfl (fun H => (op_ltI (by rfl) (by rfl))) (by dsimp only [zS, zN, zH, zT]) ?_
     refine zd0 (fun H => (op_pick_ff (by rfl) (val_tmp (by rfl)))) rfl (by dsimp only [zS, zN, zH, zT]) ?_
     refine zd0 (fun H => (op_move_tmp (by rfl))) rfl (by dsimp only [zS, zN, zH, zT]) ?_
     refine drun_split 45 rfl (fun hg4 => ?_) (fun hg4 => ?_)
     ·
      (try simp only [y1, y2, y3, y4, y5, y6, y7, y8, y9, y0, List.length_map] at hg4)
      have hsh : (((c :: r).length : Nat) : Int) < 1 + (c.toNat : Int) := hg4
      apply drun_normT
      · (try dsimp only [zS, zN, zH, zT]); try exact rfl
      refine zdU rfl rfl rfl rfl (by dsimp only [zS, zN, zH, zT]) ?_
      refine zdU rfl rfl rfl rfl (by dsimp only [zS, zN, zH, zT]) ?_
      refine zdU rfl rfl rfl rfl (by dsimp only [zS, zN, zH, zT]) ?_
      refine zdU rfl rfl rfl rfl (by dsimp only [zS, zN, zH, zT]) ?_
      refine zdU rfl rfl rfl rfl (by dsimp only [zS, zN, zH, zT]) ?_
      refine zdU rfl rfl rfl rfl (by dsimp only [zS, zN, zH, zT]) ?_
      refine zdU rfl rfl rfl rfl (by dsimp only [zS, zN, zH, zT]) ?_
      refine zdV rfl rfl rfl (by dsimp only [zS, zN, zH, zT]) ?_
      refine zdV rfl rfl rfl (by dsimp only [zS, zN, zH, zT]) ?_
      refine zdV rfl rfl rfl (by dsimp only [zS, zN, zH, zT]) ?_
      refine zdV rfl rfl rfl (by dsimp only [zS, zN, zH, zT]) ?_
      refine zdV rfl rfl rfl (by dsimp only [zS, zN, zH, zT]) ?_
      refine zdV rfl rfl rfl (by dsimp only [zS, zN, zH, zT]) ?_
      refine zdU rfl rfl rfl rfl (by dsimp only [zS, zN, zH, zT]) ?_
      refine zd0 (fun H => (op_pick_tt (by rfl) (val_const (by rfl)))) rfl (by dsimp only [zS, zN, zH, zT]) ?_
      refine drun_end rfl ?_
      apply cut_to (true :: true :: false :: false :: false :: false :: false :: false :: false :: false :: false :: false :: false :: false :: false :: false :: false :: false :: false :: false :: false :: false :: false :: false :: false :: false :: false :: false :: false :: false :: false :: false :: false :: false :: false :: false :: false :: false :: false :: false :: false :: false :: false :: false :: false :: false :: false :: false :: false :: false :: false :: false :: false :: false :: false :: false :: false :: false :: false :: false :: true :: false :: false :: false :: false :: false :: false :: false :: false :: false :: false :: false :: false :: false :: false :: false :: false :: false :: false :: false :: false :: false :: false :: false :: false :: false :: false :: false :: false :: false :: false :: false :: false :: false :: false :: false :: false :: false :: false :: false :: false :: false :: false :: false :: false :: false :: false :: [])
      · (try dsimp only [maskT]); try exact rfl
      · rfl
      exact ⟨(), by (rw [badN_short hsh]) <;> rfl, rfl⟩
     ·
      (try simp only [y1, y2, y3, y4, y5, y6, y7, y8, y9, y0, List.length_map] at hg4)
      have hsh : ¬ (((c :: r).length : Nat) : Int) < 1 + (c.toNat : Int) := hg4
      apply drun_normT
      · (try dsimp only [zS, zN, zH, zT]); try exact rfl
      refine zd0w rfl rfl rfl (fun H => (op_move_tmp (by rfl))) (by dsimp only [zS, zN, zH, zT]) ?_
      refine zd0w rfl rfl rfl (fun H => (by first | exact op_nilCheck_ptr (by rfl) | exact op_nilCheck_elt (by rfl))) (by dsimp only [zS, zN, zH, zT]) ?_
      refine zd0w rfl rfl rfl (fun H => (by first | exact op_fieldAddr_ptr Tryz.underlying78 rfl Sz9 (by rfl) (by rfl) | exact op_fieldAddr_elt Tryz.underlying78 rfl Sz9 (by rfl) (by rfl) (by rfl))) (by dsimp only [zS, zN, zH, zT]) ?_
      refine zd1w rfl rfl rfl (by first | exact op_load_elt Tryz.underlying9 (by rfl) (by rfl) (by rfl) | exact op_load_ptr Tryz.underlying9 (by rfl) (by rfl) (by first | exact hb | exact setB_at hb) (by rfl)) (by dsimp only [zS, zN, zH, zT]) ?_
      refine zd0w rfl rfl rfl (fun H => (op_indexS Tryz.underlying9 (by rfl) (by rfl) (by decide) (show (c :: r)[(0 : Int).toNat]? = some c by rfl))) (by dsimp only [zS, zN, zH, zT]) ?_
      refine zd0w rfl rfl rfl (fun H => (op_gtI (by rfl) (by rfl))) (by dsimp only [zS, zN, zH, zT]) ?_
      refine zd0w rfl rfl rfl (fun H => (op_move_tmp (by rfl))) (by dsimp only [zS, zN, zH, zT]) ?_
      refine drun_split 52 rfl (fun hg5 => ?_) (fun hg5 => ?_)
      ·
       (try simp only [y1, y2, y3, y4, y5, y6, y7, y8, y9, y0, List.length_map] at hg5)
       have h0 : 0 < (c.toNat : Int) := hg5
       obtain ⟨d, r, rfl⟩ : ∃ d q, r = d :: q := List.exists_cons_of_ne_nil (by intro h; subst h; simp at hsh; omega)
       apply drun_normT
       · (try dsimp only [zS, zN, zH, zT]); try exact rfl
       refine zd0w rfl rfl rfl (fun H => (op_move_tmp (by rfl))) (by dsimp only [zS, zN, zH, zT]) ?_
       refine zd0w rfl rfl rfl (fun H => (by first | exact op_nilCheck_ptr (by rfl) | exact op_nilCheck_elt (by rfl))) (by dsimp only [zS, zN, zH, zT]) ?_
       refine zd0w rfl rfl rfl (fun H => (by first | exact op_fieldAddr_ptr Tryz.underlying78 rfl Sz9 (by rfl) (by rfl) | exact op_fieldAddr_elt Tryz.underlying78 rfl Sz9 (by rfl) (by rfl) (by rfl))) (by dsimp only [zS, zN, zH, zT]) ?_
       refine zd1w rfl rfl rfl (by first | exact op_load_elt Tryz.underlying9 (by rfl) (by rfl) (by rfl) | exact op_load_ptr Tryz.underlying9 (by rfl) (by rfl) (by first | exact hb | exact setB_at hb) (by rfl)) (by dsimp only [zS, zN, zH, zT]) ?_
       refine zd0w rfl rfl rfl (fun H => (op_indexS Tryz.underlying9 (by rfl) (by rfl) (by decide) (show (c :: d :: r)[(1 : Int).toNat]? = some d by rfl))) (by dsimp only [zS, zN, zH, zT]) ?_
       refine zd0w rfl rfl rfl (fun H => (op_eqI (by rfl) (by rfl))) (by dsimp only [zS, zN, zH, zT]) ?_
       refine zd0w rfl rfl rfl (fun H => (op_pick_tt (by rfl) (val_tmp (by rfl)))) (by dsimp only [zS, zN, zH, zT]) ?_
       refine zd0 (fun H => (op_pick_ff (by rfl) (val_tmp (by rfl)))) rfl (by dsimp only [zS, zN, zH, zT]) ?_
       refine drun_end rfl ?_
       apply cut_to (true :: true :: false :: false :: false :: false :: false :: false :: false :: false :: false :: false :: false :: false :: false :: false :: false :: false :: false :: false :: false :: false :: false :: false :: false :: false :: false :: false :: false :: false :: false :: false :: false :: false :: false :: false :: false :: false :: false :: false :: false :: false :: false :: false :: false :: false :: false :: false :: false :: false :: false :: false :: false :: false :: false :: false :: false :: false :: false :: false :: true :: false :: false :: false :: false :: false :: false :: false :: false :: false :: false :: false :: false :: false :: false :: false :: false :: false :: false :: false :: false :: false :: false :: false :: false :: false :: false :: false :: false :: false :: false :: false :: false :: false :: false :: false :: false :: false :: false :: false :: false :: false :: false :: false :: false :: false :: false :: [])
       · (try dsimp only [maskT]); try exact rfl
       · rfl
       exact ⟨(), by (rw [badN_two h8 hsh h0]) <;> rfl, rfl⟩
      ·
       (try simp only [y1, y2, y3, y4, y5, y6, y7, y8, y9, y0, List.length_map] at hg5)
       have h0 : ¬ 0 < (c.toNat : Int) := hg5
       apply drun_normT
       · (try dsimp only [zS, zN, zH, zT]); try exact rfl
       refine zdU rfl rfl rfl rfl (by dsimp only [zS, zN, zH, zT]) ?_
       refine zdU rfl rfl rfl rfl (by dsimp only [zS, zN, zH, zT]) ?_
       refine zdU rfl rfl rfl rfl (by dsimp only [zS, zN, zH, zT]) ?_
       refine zdU rfl rfl rfl rfl (by dsimp only [zS, zN, zH, zT]) ?_
       refine zdU rfl rfl rfl rfl (by dsimp only [zS, zN, zH, zT]) ?_
       refine zdU rfl rfl rfl rfl (by dsimp only [zS, zN, zH, zT]) ?_
       refine zd0w rfl rfl rfl (fun H => (op_pick_ff (by rfl) (val_const (by rfl)))) (by dsimp only [zS, zN, zH, zT]) ?_
       refine zd0 (fun H => (op_pick_ff (by rfl) (val_tmp (by rfl)))) rfl (by dsimp only [zS, zN, zH, zT]) ?_
       refine drun_end rfl ?_
       apply cut_to (true :: true :: false :: false :: false :: false :: false :: false :: false :: false :: false :: false :: false :: false :: false :: false :: false :: false :: false :: false :: false :: false :: false :: false :: false :: false :: false :: false :: false :: false :: false :: false :: false :: false :: false :: false :: false :: false :: false :: false :: false :: false :: false :: false :: false :: false :: false :: false :: false :: false :: false :: false :: false :: false :: false :: false :: false :: false :: false :: false :: true :: false :: false :: false :: false :: false :: false :: false :: false :: false :: false :: false :: false :: false :: false :: false :: false :: false :: false :: false :: false :: false :: false :: false :: false :: false :: false :: false :: false :: false :: false :: false :: false :: false :: false :: false :: false :: false :: false :: false :: false :: false :: false :: false :: false :: false :: false :: [])
       · (try dsimp only [maskT]); try exact rfl
       · rfl
       exact ⟨(), by (rw [badN_one h8 hsh h0]) <;> rfl, rfl⟩
  rintro T H ⟨u, rfl, rfl⟩
  refine aw_cond rfl (fun hc6 => ?_) (fun hc6 => ?_)
  ·
   (try simp only [y1, y2, y3, y4, y5, y6, y7, y8, y9, y0, List.length_map] at hc6)
   have hB : badN s = true := hc6
   refine aw_seq ?_
   refine aw_region ?_
   refine zst (op_move_tmp (by rfl)) rfl (by dsimp only [zS, zN, zH, zT]) ?_
   refine zst (op_callF Tryz.func32 (by rfl) (by rfl) (.tmp (by rfl) .nil) (fail_ok _ id _ _ hb)) rfl (by dsimp only [zS, zN, zH, zT]) ?_
   refine al_end rfl ?_
   refine then_normal ?_
   refine aw_seq ?_
   refine aw_region ?_
   refine zst (op_assign_const (by rfl)) rfl (by dsimp only [zS, zN, zH, zT]) ?_
   refine al_end rfl ?_
   refine then_normal ?_
   refine aw_ret ?_
   refine then_ret ?_
   refine retPost1 rfl rfl ?_
   rw [rNum_badN hB]; exact ⟨rfl, rfl⟩
  ·
   (try simp only [y1, y2, y3, y4, y5, y6, y7, y8, y9, y0, List.length_map] at hc6)
   have hB : badN s = false := hc6
   obtain ⟨c, r, rfl⟩ : ∃ c r, s = c :: r := by cases s with | nil => cases hB | cons c r => exact ⟨c, r, rfl⟩
   have hcl := c.toNat_lt
   obtain ⟨hc8, hcr⟩ := badN_false hB
   have hbl : (r.take c.toNat).length = c.toNat := by simp; omega
   refine aw_skip ?_
   refine then_normal ?_
   refine aw_seq ?_
   refine aw_region ?_
   refine zst (op_move_tmp (by rfl)) rfl (by dsimp only [zS, zN, zH, zT]) ?_
   refine zst (by first | exact op_nilCheck_ptr (by rfl) | exact op_nilCheck_elt (by rfl)) rfl (by dsimp only [zS, zN, zH, zT]) ?_
   refine zst (by first | exact op_fieldAddr_ptr Tryz.underlying78 rfl Sz9 (by rfl) (by rfl) | exact op_fieldAddr_elt Tryz.underlying78 rfl Sz9 (by rfl) (by rfl) (by rfl)) rfl (by dsimp only [zS, zN, zH, zT]) ?_
   refine zst (by first | exact op_load_elt Tryz.underlying9 (by rfl) (by rfl) (by rfl) | exact op_load_ptr Tryz.underlying9 (by rfl) (by rfl) (by first | exact hb | exact setB_at hb) (by rfl)) rfl (by dsimp only [zS, zN, zH, zT]) ?_
   refine zst (op_indexS Tryz.underlying9 (by rfl) (by rfl) (by decide) (show (c :: r)[(0 : Int).toNat]? = some c by rfl)) rfl (by dsimp only [zS, zN, zH, zT]) ?_
   refine zst (by first | exact op_convI (by rw [Tryz.underlying5]; rfl) Tryz.underlying3 (by rfl) (wrap_i64 ⟨by omega, by omega⟩) | exact op_convI (by rw [Tryz.underlying5]; rfl) Tryz.underlying3 (by rfl) (by rfl)) rfl (by dsimp only [zS, zN, zH, zT]) ?_
   refine zst (op_assign_tmp (by rfl)) rfl (by dsimp only [zS, zN, zH, zT]) ?_
   refine al_end rfl ?_
   refine then_normal ?_
   refine aw_seq ?_
   refine aw_region ?_
   refine zst (op_assign_const (by rfl)) rfl (by dsimp only [zS, zN, zH, zT]) ?_
   refine al_end rfl ?_
   refine then_normal ?_
   refine aw_seq ?_
   refine aw_seq ?_
   refine aw_region ?_
   refine zst (op_move_tmp (by rfl)) rfl (by dsimp only [zS, zN, zH, zT]) ?_
   refine zst (by first | exact op_nilCheck_ptr (by rfl) | exact op_nilCheck_elt (by rfl)) rfl (by dsimp only [zS, zN, zH, zT]) ?_
   refine zst (by first | exact op_fieldAddr_ptr Tryz.underlying78 rfl Sz9 (by rfl) (by rfl) | exact op_fieldAddr_elt Tryz.underlying78 rfl Sz9 (by rfl) (by rfl) (by rfl)) rfl (by dsimp only [zS, zN, zH, zT]) ?_
   refine zst (by first | exact op_load_elt Tryz.underlying9 (by rfl) (by rfl) (by rfl) | exact op_load_ptr Tryz.underlying9 (by rfl) (by rfl) (by first | exact hb | exact setB_at hb) (by rfl)) rfl (by dsimp only [zS, zN, zH, zT]) ?_
   refine zst (op_move_tmp (by rfl)) rfl (by dsimp only [zS, zN, zH, zT]) ?_
   refine zst (by first | exact op_add (by rfl) (by rfl) (wrap_i64 ⟨by omega, by omega⟩) | exact op_add (by rfl) (by rfl) (by rfl)) rfl (by dsimp only [zS, zN, zH, zT]) ?_
   refine zst (op_sliceS2 (r.take c.toNat) Tryz.underlying9 (by rfl) (by rfl) (by rfl) (by omega) (by omega) (by simp; omega) (by rw [show (1 : Int).toNat = 1 by rfl, show (1 + (c.toNat : Int)).toNat - 1 = c.toNat by omega]; rfl)) rfl (by dsimp only [zS, zN, zH, zT]) ?_
   refine zst (op_bytes Tryz.underlying9 Tryz.underlying46 Tryz.underlying5 (by rfl)) rfl (by dsimp only [zS, zN, zH, zT]) ?_
   refine zst (op_lenL Tryz.underlying46 (by first | exact LL.d _ _ | exact LL.own _ _ _ | exact LL.nil _ | assumption)) rfl (by dsimp only [zS, zN, zH, zT]) ?_
   refine zst (op_move_const (by rfl)) rfl (by dsimp only [zS, zN, zH, zT]) ?_
   refine al_end rfl ?_
   refine then_normal ?_
   refine aw_block ?_
   apply aw_loopF (fun n T H => ∃ (k : Nat), T = ((.ptr id 0) :: (.d (I most)) :: .un :: .un :: .un :: (.d (I c.toNat)) :: (.d (.v (.int .u64 (val ((r.take c.toNat).take k))))) :: .un :: .un :: .un :: .un :: .un :: .un :: .un :: .un :: .un :: .un :: .un :: .un :: .un :: .un :: .un :: .un :: .un :: .un :: .un :: .un :: .un :: .un :: .un :: .un :: .un :: .un :: .un :: .un :: .un :: .un :: .un :: .un :: .un :: .un :: .un :: .un :: .un :: .un :: .un :: .un :: .un :: .un :: .un :: .un :: .un :: .un :: .un :: .un :: .un :: .un :: .un :: .un :: .un :: .un :: .un :: .un :: .un :: .un :: .un :: .un :: .un :: .un :: .un :: .un :: .un :: .un :: .un :: .un :: .un :: (.d (.lst 1 ((r.take c.toNat).map BY))) :: (.d (I ((r.take c.toNat).map BY).length)) :: (.d (I k)) :: .un :: .un :: .un :: .un :: .un :: .un :: .un :: .un :: .un :: .un :: .un :: .un :: .un :: .un :: .un :: .un :: .un :: .un :: .un :: .un :: .un :: .un :: .un :: .un :: .un :: .un :: .un :: .un :: []) ∧ k ≤ c.toNat ∧ n = c.toNat - k ∧ Hs = H) (c.toNat) (true :: true :: false :: false :: false :: true :: true :: false :: false :: false :: false :: false :: false :: false :: false :: false :: false :: false :: false :: false :: false :: false :: false :: false :: false :: false :: false :: false :: false :: false :: false :: false :: false :: false :: false :: false :: false :: false :: false :: false :: false :: false :: false :: false :: false :: false :: false :: false :: false :: false :: false :: false :: false :: false :: false :: false :: false :: false :: false :: false :: false :: false :: false :: false :: false :: false :: false :: false :: false :: false :: false :: false :: false :: false :: false :: false :: true :: true :: true :: false :: false :: false :: false :: false :: false :: false :: false :: false :: false :: false :: false :: false :: false :: false :: false :: false :: false :: false :: false :: false :: false :: false :: false :: false :: false :: false :: false :: [])
   · (try dsimp only [maskT]); try exact rfl
   · rfl
   · exact ⟨0, rfl, by omega, rfl, rfl⟩
   rintro n T H ⟨k, rfl, hk, rfl, rfl⟩
   have hv := val_lt ((r.take c.toNat).take k)
   have hT : ((r.take c.toNat).take k).length = k := by rw [List.length_take]; omega
   rw [hT] at hv
   refine aw_seq ?_
   refine aw_region ?_
   refine zst (op_ltI (by rfl) (by rfl)) rfl (by dsimp only [zS, zN, zH, zT]) ?_
   refine al_end rfl ?_
   refine then_normal ?_
   refine aw_seq ?_
   refine aw_cond rfl (fun hc7 => ?_) (fun hc7 => ?_)
   ·
    (try simp only [y1, y2, y3, y4, y5, y6, y7, y8, y9, y0, List.length_map] at hc7)
    (try simp only [List.length_map] at hc7)
    have hlt : k < c.toNat := by omega
    obtain ⟨x, hx⟩ : ∃ x, (r.take c.toNat)[k]? = some x := ⟨_, List.getElem?_eq_getElem (by omega)⟩
    have hxl := x.toNat_lt
    have hv7 : val ((r.take c.toNat).take k) < 256 ^ 7 := Nat.lt_of_lt_of_le hv (Nat.pow_le_pow_right (by decide) (by omega))
    have hv' : val ((r.take c.toNat).take k) < 72057594037927936 := by simpa using hv7
    refine aw_skip ?_
    refine then_normal ?_
    refine aw_seq ?_
    refine aw_block ?_
    refine aw_seq ?_
    refine aw_region ?_
    refine zst (op_indexAddr Tryz.underlying46 Sz5 (LL.d _ _) (by rfl) (by omega) (show ((r.take c.toNat).map BY)[((k : Nat) : Int).toNat]? = some (BY x) by rw [List.getElem?_map, show ((k : Nat) : Int).toNat = k from rfl, hx]; rfl) (by rfl)) rfl (by dsimp only [zS, zN, zH, zT]) ?_
    refine zst (by first | exact op_load_elt Tryz.underlying5 (by rfl) (by rfl) (by rfl) | exact op_load_ptr Tryz.underlying5 (by rfl) (by rfl) (by first | exact hb | exact setB_at hb) (by rfl)) rfl (by dsimp only [zS, zN, zH, zT]) ?_
    refine zst (op_assign_tmp (by rfl)) rfl (by dsimp only [zS, zN, zH, zT]) ?_
    refine al_end rfl ?_
    refine then_normal ?_
    refine aw_region ?_
    refine zst (op_move_tmp (by rfl)) rfl (by dsimp only [zS, zN, zH, zT]) ?_
    refine zst (op_shl (by rfl) (by rfl) (by omega) (shl8 hv7)) rfl (by dsimp only [zS, zN, zH, zT]) ?_
    refine zst (op_move_tmp (by rfl)) rfl (by dsimp only [zS, zN, zH, zT]) ?_
    refine zst (by first | exact op_convI (by rw [Tryz.underlying5]; rfl) Tryz.underlying75 (by rfl) (wrap_u64 ⟨by omega, by omega⟩) | exact op_convI (by rw [Tryz.underlying5]; rfl) Tryz.underlying75 (by rfl) (by rfl)) rfl (by dsimp only [zS, zN, zH, zT]) ?_
    refine zst (op_or (by rfl) (by rfl) ((or_byte hv7 hxl).trans (by rw [← val_snoc, ← take_snoc hx]))) rfl (by dsimp only [zS, zN, zH, zT]) ?_
    refine zst (op_assign_tmp (by rfl)) rfl (by dsimp only [zS, zN, zH, zT]) ?_
    refine al_end rfl ?_
    refine inBlock_normal (then_normal ?_)
    refine aw_region ?_
    refine zst (by first | exact op_add (by rfl) (by rfl) (wrap_i64 ⟨by omega, by omega⟩) | exact op_add (by rfl) (by rfl) (by rfl)) rfl (by dsimp only [zS, zN, zH, zT]) ?_
    refine zst (op_move_tmp (by rfl)) rfl (by dsimp only [zS, zN, zH, zT]) ?_
    refine al_end rfl ?_
    apply again_to (c.toNat - (k + 1)) (true :: true :: false :: false :: false :: true :: true :: false :: false :: false :: false :: false :: false :: false :: false :: false :: false :: false :: false :: false :: false :: false :: false :: false :: false :: false :: false :: false :: false :: false :: false :: false :: false :: false :: false :: false :: false :: false :: false :: false :: false :: false :: false :: false :: false :: false :: false :: false :: false :: false :: false :: false :: false :: false :: false :: false :: false :: false :: false :: false :: false :: false :: false :: false :: false :: false :: false :: false :: false :: false :: false :: false :: false :: false :: false :: false :: true :: true :: true :: false :: false :: false :: false :: false :: false :: false :: false :: false :: false :: false :: false :: false :: false :: false :: false :: false :: false :: false :: false :: false :: false :: false :: false :: false :: false :: false :: false :: [])
    · (try dsimp only [maskT]); try exact rfl
    · rfl
    · omega
    exact ⟨k + 1, rfl, by omega, rfl, rfl⟩
   ·
    (try simp only [y1, y2, y3, y4, y5, y6, y7, y8, y9, y0, List.length_map] at hc7)
    (try simp only [List.length_map] at hc7)
    have hke : k = c.toNat := by omega
    subst hke
    rw [List.take_of_length_le (by omega : (r.take c.toNat).length ≤ c.toNat)] at hv ⊢
    have hv8 : val (r.take c.toNat) < 256 ^ 8 := Nat.lt_of_lt_of_le hv (Nat.pow_le_pow_right (by decide) hc8)
    have hv9 : val (r.take c.toNat) < 18446744073709551616 := by simpa using hv8
    refine aw_exit ?_
    refine then_exit (again_exit (inBlock_here (then_normal ?_)))
    refine aw_seq ?_
    refine aw_region ?_
    refine zst (op_move_tmp (by rfl)) rfl (by dsimp only [zS, zN, zH, zT]) ?_
    refine zst (op_move_tmp (by rfl)) rfl (by dsimp only [zS, zN, zH, zT]) ?_
    refine zst (by first | exact op_nilCheck_ptr (by rfl) | exact op_nilCheck_elt (by rfl)) rfl (by dsimp only [zS, zN, zH, zT]) ?_
    refine zst (by first | exact op_fieldAddr_ptr Tryz.underlying78 rfl Sz9 (by rfl) (by rfl) | exact op_fieldAddr_elt Tryz.underlying78 rfl Sz9 (by rfl) (by rfl) (by rfl)) rfl (by dsimp only [zS, zN, zH, zT]) ?_
    refine zst (by first | exact op_load_elt Tryz.underlying9 (by rfl) (by rfl) (by rfl) | exact op_load_ptr Tryz.underlying9 (by rfl) (by rfl) (by first | exact hb | exact setB_at hb) (by rfl)) rfl (by dsimp only [zS, zN, zH, zT]) ?_
    refine zst (op_move_tmp (by rfl)) rfl (by dsimp only [zS, zN, zH, zT]) ?_
    refine zst (by first | exact op_add (by rfl) (by rfl) (wrap_i64 ⟨by omega, by omega⟩) | exact op_add (by rfl) (by rfl) (by rfl)) rfl (by dsimp only [zS, zN, zH, zT]) ?_
    refine zst (op_sliceS1 (r.drop c.toNat) Tryz.underlying9 (by rfl) (by rfl) (by omega) (by simp; omega) (by rw [show (1 + (c.toNat : Int)).toNat = c.toNat + 1 by omega]; rfl)) rfl (by dsimp only [zS, zN, zH, zT]) ?_
    refine zst (by first | exact op_nilCheck_ptr (by rfl) | exact op_nilCheck_elt (by rfl)) rfl (by dsimp only [zS, zN, zH, zT]) ?_
    refine zst (by first | exact op_fieldAddr_ptr Tryz.underlying78 rfl Sz9 (by rfl) (by rfl) | exact op_fieldAddr_elt Tryz.underlying78 rfl Sz9 (by rfl) (by rfl) (by rfl)) rfl (by dsimp only [zS, zN, zH, zT]) ?_
    refine zst (op_storeB (vs := [.d (S (r.drop c.toNat))]) (b' := ⟨78, [.d (S (r.drop c.toNat)), .d (TF false)], false⟩) (H' := Hs.setB id ⟨78, [.d (S (r.drop c.toNat)), .d (TF false)], false⟩) Sz9 (by rfl) hb (by intro h; cases h) (by rfl) (by rfl) (Nat.le_of_ble_eq_true rfl) (by simp [AV.one, DV.one, TF, S, I, BY]) (by rfl) (by rfl) rfl) rfl (by dsimp only [zS, zN, zH, zT]) ?_
    refine al_end rfl ?_
    refine then_normal ?_
    refine aw_seq ?_
    refine aw_seq ?_
    refine aw_region ?_
    refine zst (op_move_tmp (by rfl)) rfl (by dsimp only [zS, zN, zH, zT]) ?_
    refine zst (op_move_tmp (by rfl)) rfl (by dsimp only [zS, zN, zH, zT]) ?_
    refine zst (op_max (by rfl) (by rfl)) rfl (by dsimp only [zS, zN, zH, zT]) ?_
    refine zst (op_convI (by rw [Tryz.underlying3]; rfl) Tryz.underlying75 (by rfl) (wrap_u64 (by split <;> omega))) rfl (by dsimp only [zS, zN, zH, zT]) ?_
    refine zst (op_gtI (by rfl) (by rfl)) rfl (by dsimp only [zS, zN, zH, zT]) ?_
    refine al_end rfl ?_
    refine then_normal ?_
    refine aw_cond rfl (fun hc8 => ?_) (fun hc8 => ?_)
    ·
     (try simp only [y1, y2, y3, y4, y5, y6, y7, y8, y9, y0, List.length_map] at hc8)
     have hbig := hc8
     refine aw_seq ?_
     refine aw_region ?_
     refine zst (op_move_tmp (by rfl)) rfl (by dsimp only [zS, zN, zH, zT]) ?_
     refine zst (op_callF Tryz.func32 (by rfl) (by rfl) (.tmp (by rfl) .nil) (fail_ok _ id _ _ (setB_at hb))) rfl (by dsimp only [zS, zN, zH, zT]) ?_
     refine al_end rfl ?_
     refine then_normal ?_
     refine aw_seq ?_
     refine aw_region ?_
     refine zst (op_assign_const (by rfl)) rfl (by dsimp only [zS, zN, zH, zT]) ?_
     refine al_end rfl ?_
     refine then_normal ?_
     refine aw_ret ?_
     refine then_ret ?_
     refine retPost1 rfl rfl ?_
     rw [rNum_big hB hbig]; exact ⟨rfl, setB_setB⟩
    ·
     (try simp only [y1, y2, y3, y4, y5, y6, y7, y8, y9, y0, List.length_map] at hc8)
     have hsm := hc8
     refine aw_skip ?_
     refine then_normal ?_
     refine aw_seq ?_
     refine aw_region ?_
     refine zst (op_move_tmp (by rfl)) rfl (by dsimp only [zS, zN, zH, zT]) ?_
     refine zst (op_convI (by rw [Tryz.underlying75]; rfl) Tryz.underlying3 (by rfl) (wrap_i64 (by split at hsm <;> omega))) rfl (by dsimp only [zS, zN, zH, zT]) ?_
     refine zst (op_assign_tmp (by rfl)) rfl (by dsimp only [zS, zN, zH, zT]) ?_
     refine al_end rfl ?_
     refine then_normal ?_
     refine aw_ret ?_
     refine retPost1 rfl rfl ?_
     rw [rNum_ok hB hsm]; exact ⟨rfl, rfl⟩
set_option maxRecDepth 100000 in
theorem rtext_ok (Hs : HS) (id : Nat) (s : List UInt8) (bad : Bool) (most : Int) (hb : Hs.blks[id]? = some (RB 78 (s, bad))) (hm : most ≤ 9223372036854775807) : ACalls Tryz.prog 17 [.ptr id 0, .d (I most)] Hs (Ret (.d (S (rText most (s, bad)).1)) (Hs.setB id (RB 78 (rText most (s, bad)).2))) := by
 obtain ⟨n, ⟨s', bad'⟩, hr⟩ : ∃ n st, rNum most (s, bad) = (n, st) := ⟨_, _, rfl⟩
 have hb1 : (Hs.setB id (RB 78 (s', bad'))).blks[id]? = some ⟨78, [.d (S s'), .d (TF bad')], false⟩ := setB_at hb
 have hnum : ACalls Tryz.prog 16 [.ptr id 0, .d (I most)] Hs (Ret (.d (I n)) (Hs.setB id (RB 78 (s', bad')))) := by have h := num_ok Hs id s bad most hb hm; rwa [hr] at h
 have hn0 : (0 : Int) ≤ n := by omega
 refine acalls_of_aw Tryz.func17 rfl ?_
 refine aw_start (T' := [.ptr id 0, .d (I most), .un, .un, .un, .un, .un, .un, .un, .un, .un, .un, .un, .un, .un, .un, .un, .un, .un, .un, .un, .un, .un, .un, .un, .un, .un, .un, .un, .un, .un, .un, .un, .un, .un, .un, .un, .un, .un, .un, .un, .un, .un]) rfl ?_
 refine aw_seq ?_
 refine aw_region ?_
 refine zst (op_assign_const (by rfl)) rfl (by dsimp only [zS, zN, zH, zT]) ?_
 refine al_end rfl ?_
 refine then_normal ?_
 refine aw_seq ?_
 refine aw_region ?_
 refine zst (op_move_tmp (by rfl)) rfl (by dsimp only [zS, zN, zH, zT]) ?_
 refine zst (op_move_tmp (by rfl)) rfl (by dsimp only [zS, zN, zH, zT]) ?_
 refine zst (op_callF Tryz.func16 (by rfl) (by rfl) (.tmp (by rfl) (.tmp (by rfl) .nil)) (hnum)) rfl (by dsimp only [zS, zN, zH, zT]) ?_
 refine zst (op_assign_tmp (by rfl)) rfl (by dsimp only [zS, zN, zH, zT]) ?_
 refine al_end rfl ?_
 refine then_normal ?_
 refine aw_seq ?_
 refine aw_seq ?_
 refine aw_region ?_
 refine zst (op_move_tmp (by rfl)) rfl (by dsimp only [zS, zN, zH, zT]) ?_
 refine zst (op_ptr_nil Tryz.underlying49 (by rfl) (by rfl)) rfl (by dsimp only [zS, zN, zH, zT]) ?_
 refine zst (op_move_tmp (by rfl)) rfl (by dsimp only [zS, zN, zH, zT]) ?_
 refine zsw rfl rfl rfl (op_move_tmp (by rfl)) (by dsimp only [zS, zN, zH, zT]) ?_
 refine zsw rfl rfl rfl (by first | exact op_nilCheck_ptr (by rfl) | exact op_nilCheck_elt (by rfl)) (by dsimp only [zS, zN, zH, zT]) ?_
 refine zsw rfl rfl rfl (by first | exact op_fieldAddr_ptr Tryz.underlying78 rfl Sz4 (by rfl) (by rfl) | exact op_fieldAddr_elt Tryz.underlying78 rfl Sz4 (by rfl) (by rfl) (by rfl)) (by dsimp only [zS, zN, zH, zT]) ?_
 refine zsw rfl rfl rfl (by first | exact op_load_elt Tryz.underlying4 (by rfl) (by rfl) (by rfl) | exact op_load_ptr Tryz.underlying4 (by rfl) (by rfl) hb1 (by rfl)) (by dsimp only [zS, zN, zH, zT]) ?_
 refine zst (op_pick_ff (by rfl) (val_tmp (by rfl))) rfl (by dsimp only [zS, zN, zH, zT]) ?_
 refine al_end rfl ?_
 refine then_normal ?_
 refine aw_cond rfl (fun hc1 => ?_) (fun hc1 => ?_)
 ·
  (try simp only [y1, y2, y3, y4, y5, y6, y7, y8, y9, y0, List.length_map] at hc1)
  have hbad : bad' = true := hc1
  refine aw_seq ?_
  refine aw_region ?_
  refine zst (op_assign_const (by rfl)) rfl (by dsimp only [zS, zN, zH, zT]) ?_
  refine al_end rfl ?_
  refine then_normal ?_
  refine aw_ret ?_
  refine then_ret ?_
  refine retPost1 rfl rfl ?_
  have e : rText most (s, bad) = ([], (s', bad')) := by simp [rText, hr, hbad]
  rw [e]; exact ⟨rfl, rfl⟩
 ·
  (try simp only [y1, y2, y3, y4, y5, y6, y7, y8, y9, y0, List.length_map] at hc1)
  have hbad : bad' = false := hc1
  subst hbad
  refine aw_skip ?_
  refine then_normal ?_
  refine aw_seq ?_
  refine aw_seq ?_
  refine aw_region ?_
  refine zst (op_move_tmp (by rfl)) rfl (by dsimp only [zS, zN, zH, zT]) ?_
  refine zst (op_move_tmp (by rfl)) rfl (by dsimp only [zS, zN, zH, zT]) ?_
  refine zst (by first | exact op_nilCheck_ptr (by rfl) | exact op_nilCheck_elt (by rfl)) rfl (by dsimp only [zS, zN, zH, zT]) ?_
  refine zst (by first | exact op_fieldAddr_ptr Tryz.underlying78 rfl Sz9 (by rfl) (by rfl) | exact op_fieldAddr_elt Tryz.underlying78 rfl Sz9 (by rfl) (by rfl) (by rfl)) rfl (by dsimp only [zS, zN, zH, zT]) ?_
  refine zst (by first | exact op_load_elt Tryz.underlying9 (by rfl) (by rfl) (by rfl) | exact op_load_ptr Tryz.underlying9 (by rfl) (by rfl) hb1 (by rfl)) rfl (by dsimp only [zS, zN, zH, zT]) ?_
  refine zst (op_lenS Tryz.underlying9 (by rfl)) rfl (by dsimp only [zS, zN, zH, zT]) ?_
  refine zst (op_gtI (by rfl) (by rfl)) rfl (by dsimp only [zS, zN, zH, zT]) ?_
  refine al_end rfl ?_
  refine then_normal ?_
  refine aw_cond rfl (fun hc2 => ?_) (fun hc2 => ?_)
  ·
   (try simp only [y1, y2, y3, y4, y5, y6, y7, y8, y9, y0, List.length_map] at hc2)
   have hlt : s'.length < n := by omega
   refine aw_seq ?_
   refine aw_region ?_
   refine zst (op_move_tmp (by rfl)) rfl (by dsimp only [zS, zN, zH, zT]) ?_
   refine zst (op_callF Tryz.func32 (by rfl) (by rfl) (.tmp (by rfl) .nil) (fail_ok _ id _ _ hb1)) rfl (by dsimp only [zS, zN, zH, zT]) ?_
   refine al_end rfl ?_
   refine then_normal ?_
   refine aw_seq ?_
   refine aw_region ?_
   refine zst (op_assign_const (by rfl)) rfl (by dsimp only [zS, zN, zH, zT]) ?_
   refine al_end rfl ?_
   refine then_normal ?_
   refine aw_ret ?_
   refine then_ret ?_
   refine retPost1 rfl rfl ?_
   have e : rText most (s, bad) = ([], ([], true)) := by simp [rText, hr, hlt]
   rw [e]; exact ⟨rfl, setB_setB⟩
  ·
   (try simp only [y1, y2, y3, y4, y5, y6, y7, y8, y9, y0, List.length_map] at hc2)
   have hge : n ≤ s'.length := by omega
   refine aw_skip ?_
   refine then_normal ?_
   refine aw_seq ?_
   refine aw_region ?_
   refine zst (op_move_tmp (by rfl)) rfl (by dsimp only [zS, zN, zH, zT]) ?_
   refine zst (by first | exact op_nilCheck_ptr (by rfl) | exact op_nilCheck_elt (by rfl)) rfl (by dsimp only [zS, zN, zH, zT]) ?_
   refine zst (by first | exact op_fieldAddr_ptr Tryz.underlying78 rfl Sz9 (by rfl) (by rfl) | exact op_fieldAddr_elt Tryz.underlying78 rfl Sz9 (by rfl) (by rfl) (by rfl)) rfl (by dsimp only [zS, zN, zH, zT]) ?_
   refine zst (by first | exact op_load_elt Tryz.underlying9 (by rfl) (by rfl) (by rfl) | exact op_load_ptr Tryz.underlying9 (by rfl) (by rfl) hb1 (by rfl)) rfl (by dsimp only [zS, zN, zH, zT]) ?_
   refine zst (op_move_tmp (by rfl)) rfl (by dsimp only [zS, zN, zH, zT]) ?_
   refine zst (op_sliceS0 (s'.take n) Tryz.underlying9 (by rfl) (by rfl) (by omega) (by omega) (by simp)) rfl (by dsimp only [zS, zN, zH, zT]) ?_
   refine zst (op_assign_tmp (by rfl)) rfl (by dsimp only [zS, zN, zH, zT]) ?_
   refine al_end rfl ?_
   refine then_normal ?_
   refine aw_seq ?_
   refine aw_region ?_
   refine zst (op_move_tmp (by rfl)) rfl (by dsimp only [zS, zN, zH, zT]) ?_
   refine zst (op_move_tmp (by rfl)) rfl (by dsimp only [zS, zN, zH, zT]) ?_
   refine zst (by first | exact op_nilCheck_ptr (by rfl) | exact op_nilCheck_elt (by rfl)) rfl (by dsimp only [zS, zN, zH, zT]) ?_
   refine zst (by first | exact op_fieldAddr_ptr Tryz.underlying78 rfl Sz9 (by rfl) (by rfl) | exact op_fieldAddr_elt Tryz.underlying78 rfl Sz9 (by rfl) (by rfl) (by rfl)) rfl (by dsimp only [zS, zN, zH, zT]) ?_
   refine zst (by first | exact op_load_elt Tryz.underlying9 (by rfl) (by rfl) (by rfl) | exact op_load_ptr Tryz.underlying9 (by rfl) (by rfl) hb1 (by rfl)) rfl (by dsimp only [zS, zN, zH, zT]) ?_
   refine zst (op_move_tmp (by rfl)) rfl (by dsimp only [zS, zN, zH, zT]) ?_
   refine zst (op_sliceS1 (s'.drop n) Tryz.underlying9 (by rfl) (by rfl) (by omega) (by omega) (by simp)) rfl (by dsimp only [zS, zN, zH, zT]) ?_
   refine zst (by first | exact op_nilCheck_ptr (by rfl) | exact op_nilCheck_elt (by rfl)) rfl (by dsimp only [zS, zN, zH, zT]) ?_
   refine zst (by first | exact op_fieldAddr_ptr Tryz.underlying78 rfl Sz9 (by rfl) (by rfl) | exact op_fieldAddr_elt Tryz.underlying78 rfl Sz9 (by rfl) (by rfl) (by rfl)) rfl (by dsimp only [zS, zN, zH, zT]) ?_
   refine zst (op_storeB (vs := [.d (S (s'.drop n))]) (b' := ⟨78, [.d (S (s'.drop n)), .d (TF false)], false⟩) (H' := Hs.setB id ⟨78, [.d (S (s'.drop n)), .d (TF false)], false⟩) Sz9 (by rfl) hb1 (by intro h; cases h) (by rfl) (by rfl) (Nat.le_of_ble_eq_true rfl) (by simp [AV.one, DV.one, TF, S, I, BY]) (by rfl) (by rfl) setB_setB) rfl (by dsimp only [zS, zN, zH, zT]) ?_
   refine al_end rfl ?_
   refine then_normal ?_
   refine aw_seq ?_
   refine aw_region ?_
   refine zst (op_move_tmp (by rfl)) rfl (by dsimp only [zS, zN, zH, zT]) ?_
   refine zst (op_assign_tmp (by rfl)) rfl (by dsimp only [zS, zN, zH, zT]) ?_
   refine al_end rfl ?_
   refine then_normal ?_
   refine aw_ret ?_
   refine retPost1 rfl rfl ?_
   have e : rText most (s, bad) = (s'.take n, (s'.drop n, false)) := by simp [rText, hr, show ¬ s'.length < n by omega]
   rw [e]; exact ⟨rfl, rfl⟩
set_option maxRecDepth 100000 in
theorem left_ok (Hs : HS) (id : Nat) (s : List UInt8) (bad : Bool) (hb : Hs.blks[id]? = some (RB 78 (s, bad))) : ACalls Tryz.prog 33 [.ptr id 0] Hs (Ret (.d (I s.length)) Hs) := by
 have hb : Hs.blks[id]? = some ⟨78, [.d (S s), .d (TF bad)], false⟩ := hb
 refine acalls_of_aw Tryz.func33 rfl ?_
 refine aw_start (T' := [.ptr id 0, .un, .un, .un, .un, .un, .un, .un, .un, .un]) rfl ?_
 refine aw_seq ?_
 refine aw_region ?_
 refine zst (op_assign_const (by rfl)) rfl (by dsimp only [zS, zN, zH, zT]) ?_
 refine al_end rfl ?_
 refine then_normal ?_
 refine aw_seq ?_
 refine aw_seq ?_
 refine aw_region ?_
 refine zst (op_move_tmp (by rfl)) rfl (by dsimp only [zS, zN, zH, zT]) ?_
 refine zst (op_ptr_nil Tryz.underlying49 (by rfl) (by rfl)) rfl (by dsimp only [zS, zN, zH, zT]) ?_
 refine al_end rfl ?_
 refine then_normal ?_
 refine aw_cond rfl (fun hc1 => ?_) (fun hc1 => ?_)
 ·
  (try simp only [y1, y2, y3, y4, y5, y6, y7, y8, y9, y0, List.length_map] at hc1)
  exact absurd hc1 (by decide)
 ·
  (try simp only [y1, y2, y3, y4, y5, y6, y7, y8, y9, y0, List.length_map] at hc1)
  refine aw_skip ?_
  refine then_normal ?_
  refine aw_seq ?_
  refine aw_region ?_
  refine zst (op_move_tmp (by rfl)) rfl (by dsimp only [zS, zN, zH, zT]) ?_
  refine zst (by first | exact op_nilCheck_ptr (by rfl) | exact op_nilCheck_elt (by rfl)) rfl (by dsimp only [zS, zN, zH, zT]) ?_
  refine zst (by first | exact op_fieldAddr_ptr Tryz.underlying78 rfl Sz9 (by rfl) (by rfl) | exact op_fieldAddr_elt Tryz.underlying78 rfl Sz9 (by rfl) (by rfl) (by rfl)) rfl (by dsimp only [zS, zN, zH, zT]) ?_
  refine zst (by first | exact op_load_elt Tryz.underlying9 (by rfl) (by rfl) (by rfl) | exact op_load_ptr Tryz.underlying9 (by rfl) (by rfl) hb (by rfl)) rfl (by dsimp only [zS, zN, zH, zT]) ?_
  refine zst (op_lenS Tryz.underlying9 (by rfl)) rfl (by dsimp only [zS, zN, zH, zT]) ?_
  refine zst (op_assign_tmp (by rfl)) rfl (by dsimp only [zS, zN, zH, zT]) ?_
  refine al_end rfl ?_
  refine then_normal ?_
  refine aw_ret ?_
  refine retPost1 rfl rfl ?_
  exact ⟨rfl, rfl⟩
set_option maxRecDepth 100000 in
theorem err_ok (Hs : HS) (id : Nat) (s : List UInt8) (bad : Bool) (hb : Hs.blks[id]? = some (RB 78 (s, bad))) : ACalls Tryz.prog 18 [.ptr id 0] Hs (Ret (.d (I (rErr (s, bad)))) Hs) := by
 have hb : Hs.blks[id]? = some ⟨78, [.d (S s), .d (TF bad)], false⟩ := hb
 refine acalls_of_aw Tryz.func18 rfl ?_
 refine aw_start (T' := [.ptr id 0, .un, .un, .un, .un, .un, .un, .un, .un, .un, .un]) rfl ?_
 refine aw_seq ?_
 refine aw_region ?_
 refine zst (op_assign_const (by rfl)) rfl (by dsimp only [zS, zN, zH, zT]) ?_
 refine al_end rfl ?_
 refine then_normal ?_
 refine aw_seq ?_
 refine aw_seq ?_
 refine aw_region ?_
 refine zst (op_move_tmp (by rfl)) rfl (by dsimp only [zS, zN, zH, zT]) ?_
 refine zst (op_ptr_nil Tryz.underlying49 (by rfl) (by rfl)) rfl (by dsimp only [zS, zN, zH, zT]) ?_
 refine zst (op_move_tmp (by rfl)) rfl (by dsimp only [zS, zN, zH, zT]) ?_
 refine zsw rfl rfl rfl (op_move_tmp (by rfl)) (by dsimp only [zS, zN, zH, zT]) ?_
 refine zsw rfl rfl rfl (by first | exact op_nilCheck_ptr (by rfl) | exact op_nilCheck_elt (by rfl)) (by dsimp only [zS, zN, zH, zT]) ?_
 refine zsw rfl rfl rfl (by first | exact op_fieldAddr_ptr Tryz.underlying78 rfl Sz4 (by rfl) (by rfl) | exact op_fieldAddr_elt Tryz.underlying78 rfl Sz4 (by rfl) (by rfl) (by rfl)) (by dsimp only [zS, zN, zH, zT]) ?_
 refine zsw rfl rfl rfl (by first | exact op_load_elt Tryz.underlying4 (by rfl) (by rfl) (by rfl) | exact op_load_ptr Tryz.underlying4 (by rfl) (by rfl) hb (by rfl)) (by dsimp only [zS, zN, zH, zT]) ?_
 refine zst (op_pick_ff (by rfl) (val_tmp (by rfl))) rfl (by dsimp only [zS, zN, zH, zT]) ?_
 refine al_end rfl ?_
 refine then_normal ?_
 refine aw_cond rfl (fun hc1 => ?_) (fun hc1 => ?_)
 ·
  (try simp only [y1, y2, y3, y4, y5, y6, y7, y8, y9, y0, List.length_map] at hc1)
  have hbad : bad = true := hc1
  subst hbad
  refine aw_seq ?_
  refine aw_region ?_
  refine zst (op_assign_const (by rfl)) rfl (by dsimp only [zS, zN, zH, zT]) ?_
  refine al_end rfl ?_
  refine then_normal ?_
  refine aw_ret ?_
  refine then_ret ?_
  refine retPost1 rfl rfl ?_
  exact ⟨rfl, rfl⟩
 ·
  (try simp only [y1, y2, y3, y4, y5, y6, y7, y8, y9, y0, List.length_map] at hc1)
  have hbad : bad = false := hc1
  subst hbad
  refine aw_skip ?_
  refine then_normal ?_
  refine aw_seq ?_
  refine aw_region ?_
  refine zst (op_assign_const (by rfl)) rfl (by dsimp only [zS, zN, zH, zT]) ?_
  refine al_end rfl ?_
  refine then_normal ?_
  refine aw_ret ?_
  refine retPost1 rfl rfl ?_
  exact ⟨rfl, rfl⟩
set_option maxRecDepth 100000 in
theorem end_ok (Hs : HS) (id : Nat) (s : List UInt8) (bad : Bool) (hb : Hs.blks[id]? = some (RB 78 (s, bad))) : ACalls Tryz.prog 19 [.ptr id 0] Hs (Ret (.d (I (rEnd (s, bad)))) Hs) := by
 refine acalls_of_aw Tryz.func19 rfl ?_
 refine aw_start (T' := [.ptr id 0, .un, .un, .un, .un, .un, .un, .un]) rfl ?_
 refine aw_seq ?_
 refine aw_region ?_
 refine zst (op_assign_const (by rfl)) rfl (by dsimp only [zS, zN, zH, zT]) ?_
 refine al_end rfl ?_
 refine then_normal ?_
 refine aw_seq ?_
 refine aw_seq ?_
 refine aw_region ?_
 refine zst (op_move_tmp (by rfl)) rfl (by dsimp only [zS, zN, zH, zT]) ?_
 refine zst (op_callF Tryz.func33 (by rfl) (by rfl) (.tmp (by rfl) .nil) (left_ok _ id s bad hb)) rfl (by dsimp only [zS, zN, zH, zT]) ?_
 refine zst (op_gtI (by rfl) (by rfl)) rfl (by dsimp only [zS, zN, zH, zT]) ?_
 refine al_end rfl ?_
 refine then_normal ?_
 refine aw_cond rfl (fun hc1 => ?_) (fun hc1 => ?_)
 ·
  (try simp only [y1, y2, y3, y4, y5, y6, y7, y8, y9, y0, List.length_map] at hc1)
  have hl : 0 < s.length := by omega
  refine aw_seq ?_
  refine aw_region ?_
  refine zst (op_assign_const (by rfl)) rfl (by dsimp only [zS, zN, zH, zT]) ?_
  refine al_end rfl ?_
  refine then_normal ?_
  refine aw_ret ?_
  refine then_ret ?_
  refine retPost1 rfl rfl ?_
  simp only [rEnd, hl, if_true]; exact ⟨rfl, rfl⟩
 ·
  (try simp only [y1, y2, y3, y4, y5, y6, y7, y8, y9, y0, List.length_map] at hc1)
  have hl : ¬ 0 < s.length := by omega
  refine aw_skip ?_
  refine then_normal ?_
  refine aw_seq ?_
  refine aw_region ?_
  refine zst (op_move_tmp (by rfl)) rfl (by dsimp only [zS, zN, zH, zT]) ?_
  refine zst (op_callF Tryz.func18 (by rfl) (by rfl) (.tmp (by rfl) .nil) (err_ok _ id s bad hb)) rfl (by dsimp only [zS, zN, zH, zT]) ?_
  refine zst (op_assign_tmp (by rfl)) rfl (by dsimp only [zS, zN, zH, zT]) ?_
  refine al_end rfl ?_
  refine then_normal ?_
  refine aw_ret ?_
  refine retPost1 rfl rfl ?_
  simp only [rEnd, hl, if_false]; exact ⟨rfl, rfl⟩
set_option maxRecDepth 100000 in
theorem read_ok (Hs : HS) (s : List UInt8) : ACalls Tryz.prog 15 [.d (S s)] Hs (Ret (.ptr Hs.nb 0) (Hs.push 78 [.d (S s), .d (TF false)])) := by
 refine acalls_of_aw Tryz.func15 rfl ?_
 refine aw_start (T' := [.d (S s), .un, .un, .un, .un, .un]) rfl ?_
 refine aw_seq ?_
 refine aw_region ?_
 refine zst (op_assign_const (by rfl)) rfl (by dsimp only [zS, zN, zH, zT]) ?_
 refine al_end rfl ?_
 refine then_normal ?_
 refine aw_seq ?_
 refine aw_region ?_
 refine zst (op_move_tmp (by rfl)) rfl (by dsimp only [zS, zN, zH, zT]) ?_
 refine zst (by first | exact op_buildD (pl := [(0, 1), (1, 1)]) _ Tryz.underlying78 Zr78 (by kernel_rfl) (by rfl) (by rfl) (by rfl) (by simp [DV.one, S, I, TF, BY]) | exact op_build (pl := [(0, 1), (1, 1)]) Tryz.underlying78 Zr78 (by kernel_rfl) (by rfl) (by rfl) (by rfl)) rfl (by dsimp only [zS, zN, zH, zT]) ?_
 refine zst (op_box_ptr (by intro h; cases h) (by rfl)) rfl (by dsimp only [zS, zN, zH, zT]) ?_
 refine zst (op_assign_tmp (by rfl)) rfl (by dsimp only [zS, zN, zH, zT]) ?_
 refine al_end rfl ?_
 refine then_normal ?_
 refine aw_ret ?_
 refine retPost1 rfl rfl ?_
 exact ⟨rfl, rfl⟩
end Go.Proofs.YtdiibbbbdhkepaaGreatDoor
namespace Go.AV.Stp
open Go.AV.Ord Go.AV.Oct
structure DecO (Hs : HS) (tR : TypeId) (H : HS) (v : AV) (t : Option Nat) (xs : List St) (st : RS) : Prop where
  rd : H.blks[Hs.nb]? = some (RB tR st)
  app : App v t 5 (xs.map stD)
  ok : H.ok t xs.length
  new : NewTok Hs t
  ext : Ext Hs H
abbrev stepH (tT : TypeId) (y : St) (kv : AV) : HB := ⟨tT, [.d (I y.kind), .d (I y.sess), .d (I y.n), .d (S y.text), kv], false⟩
structure DecI (Hs : HS) (tR tT : TypeId) (H : HS) (sid : Nat) (y : St) (kv : AV) (kt : Option Nat) (ks : List Int) (v : AV) (t : Option Nat) (xs : List St) (st : RS) : Prop where
  rd : H.blks[Hs.nb]? = some (RB tR st)
  sb : H.blks[sid]? = some (stepH tT y kv)
  slt : Hs.nb < sid
  kapp : App kv kt 1 (ks.map I)
  kok : H.ok kt ks.length
  knew : NewTok Hs kt
  apart : ∀ i, kt = some i → t ≠ some i
  app : App v t 5 (xs.map stD)
  ok : H.ok t xs.length
  new : NewTok Hs t
  ext : Ext Hs H
theorem DecO.lt {Hs H : HS} {tR : TypeId} {v : AV} {t : Option Nat} {xs : List St} {st : RS} (h : DecO Hs tR H v t xs st) : Hs.nb < H.nb := (List.getElem?_eq_some_iff.1 h.rd).1
theorem DecO.start (Hs : HS) (tR : TypeId) (cs : List AV) (st : RS) : DecO Hs tR ((Hs.push tR cs).setB Hs.nb (RB tR st)) nilS none [] st :=
  ⟨setB_at push_at, App.nil _, HS.ok_none _ _, NewTok.none _, ((Ext.refl Hs).push _ _).setB (Nat.le_refl _)⟩
theorem DecI.start {Hs H : HS} {tR tT : TypeId} {v : AV} {t : Option Nat} {xs : List St} {st st5 : RS} {sid nb' : Nat} {y : St} {x1 x2 x3 x4 : HB} {cs : List AV} (h : DecO Hs tR H v t xs st) (hsid : sid = H.nb) (hnb : nb' = H.nb) :
    DecI Hs tR tT (((((((H.setB Hs.nb x1).setB Hs.nb x2).setB Hs.nb x3).setB Hs.nb x4).push tT cs).setB nb' (stepH tT y nilS)).setB Hs.nb (RB tR st5)) sid y nilS none [] v t xs st5 := by
  subst hsid hnb
  have hlt := h.lt
  have hne : H.nb ≠ Hs.nb := by omega
  have e4 : ((((H.setB Hs.nb x1).setB Hs.nb x2).setB Hs.nb x3).setB Hs.nb x4) = H.setB Hs.nb x4 := by simp only [setB_setB]
  rw [e4]
  have hp : ((H.setB Hs.nb x4).push tT cs).blks[H.nb]? = some ⟨tT, cs, false⟩ := by
    have := push_at (H := H.setB Hs.nb x4) (e := tT) (cs := cs)
    rwa [setB_nb] at this
  refine ⟨?_, ?_, hlt, App.nil _, HS.ok_none _ _, NewTok.none _, (fun i hi => by cases hi), h.app, h.ok, h.new, ?_⟩
  · refine setB_at (b := x4) ?_
    rw [setB_ne (by omega)]
    exact push_ne (setB_at h.rd)
  · rw [setB_ne hne]
    exact setB_at hp
  · exact (((h.ext.setB (Nat.le_refl _)).push _ _).setB (Nat.le_of_lt hlt)).setB (Nat.le_refl _)
theorem tok_lt {H : HS} {t : Option Nat} {n i : Nat} (h : H.ok t n) (ht : t = some i) : i < H.toks.length := (List.getElem?_eq_some_iff.1 (h i ht)).1
theorem ok_apart {H : HS} {t kt : Option Nat} {n k m : Nat} (h : H.ok t n) (hk : H.ok kt k) (ha : ∀ i, kt = some i → t ≠ some i) : (H.up kt m).ok t n := by
  intro i ht
  have hi := tok_lt h ht
  cases kt with
  | none =>
    show (H.toks ++ [m])[i]? = some n
    rw [List.getElem?_append_left hi]
    exact h i ht
  | some j =>
    have : j ≠ i := fun e => ha j rfl (by rw [e]; exact ht)
    show (H.toks.set j m)[i]? = some n
    rw [List.getElem?_set_ne this]
    exact h i ht
theorem tk_apart {H : HS} {t kt : Option Nat} {n : Nat} (h : H.ok t n) (ha : ∀ i, kt = some i → t ≠ some i) : ∀ i, some (H.tk kt) = some i → t ≠ some i := by
  intro i hi ht
  cases kt with
  | none =>
    have := tok_lt h ht
    simp only [HS.tk, Option.some.injEq] at hi
    omega
  | some j => exact ha i hi ht
theorem DecI.step {Hs H : HS} {tR tT : TypeId} {sid : Nat} {y : St} {kv : AV} {kt : Option Nat} {ks : List Int} {v : AV} {t : Option Nat} {xs : List St} {st st1 : RS} {x : Int} {m : Nat} (h : DecI Hs tR tT H sid y kv kt ks v t xs st) (hm : m = ks.length + 1) :
    DecI Hs tR tT (((H.setB Hs.nb (RB tR st1)).up kt m).setB sid (stepH tT y (.own (some (H.tk kt)) 1 (ks.map I ++ [I x])))) sid y (.own (some (H.tk kt)) 1 (ks.map I ++ [I x])) (some (H.tk kt)) (ks ++ [x]) v t xs st1 := by
  subst hm
  obtain ⟨rd, sb, slt, kapp, kok, knew, apart, app, ok, new, ext⟩ := h
  have hx := (ext.setB (b := RB tR st1) (Nat.le_refl _)).upN (n := ks.length + 1) knew kok
  refine ⟨?_, ?_, slt, ?_, ?_, hx.2, tk_apart ok apart, app, ok_apart (H := H.setB Hs.nb (RB tR st1)) ok kok apart, new, hx.1.setB (Nat.le_of_lt slt)⟩
  · rw [setB_ne (by omega), HS.up_blks]
    exact setB_at rd
  · refine setB_at (b := stepH tT y kv) ?_
    rw [HS.up_blks, setB_ne (by omega)]
    exact sb
  · have := App.own (some (H.tk kt)) 1 (ks.map I ++ [I x])
    simpa using this
  · rw [List.length_append]
    exact HS.ok_up (H.setB Hs.nb (RB tR st1)) kt (ks.length + 1) kok
theorem DecI.next {Hs H : HS} {tR tT : TypeId} {sid : Nat} {y : St} {kv : AV} {kt : Option Nat} {ks : List Int} {v : AV} {t : Option Nat} {xs : List St} {st : RS} {m : Nat} (h : DecI Hs tR tT H sid y kv kt ks v t xs st) (hm : m = xs.length + 1) :
    DecO Hs tR (H.up t m) (.own (some (H.tk t)) 5 (xs.map stD ++ [stD y])) (some (H.tk t)) (xs ++ [y]) st := by
  subst hm
  have hx := h.ext.upN (n := xs.length + 1) h.new h.ok
  refine ⟨by rw [HS.up_blks]; exact h.rd, ?_, ?_, hx.2, hx.1⟩
  · have := App.own (some (H.tk t)) 5 (xs.map stD ++ [stD y])
    simpa using this
  · rw [List.length_append]
    exact HS.ok_up H t (xs.length + 1) h.ok
end Go.AV.Stp
