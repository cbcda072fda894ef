/-
  Operations of layer 8 as data, and lists of fields from which one is taken out.
-/
import Derived.Test.YtjamnhofbkgblaaPatchPlain
import Derived.Test.YtjamnhofbkgblaaValRes
namespace Go.AV.Patch
open Go.AV.Ord Go.AV.Oct Go.AV.Val
def oC (o : Opn) : List DV := [I o.kind, .lst 1 (o.path.map S), I o.val.kind, TF o.val.yes, .v (.int .i64 o.val.num), S o.val.text, .lst 6 (o.val.list.map vD), .lst 7 (o.val.fields.map fD)]
def oD (o : Opn) : DV := .agg (oC o)
theorem oC_one (o : Opn) : ∀ d ∈ oC o, d.one = true := by simp [oC, DV.one, S, I, TF]
theorem fill_op (k : Int) (p : List (List UInt8)) (v : V) (w : AV) : fillA (fun i => [(0, 1), (1, 1), (2, 6)][i]?) [.d (I 0), nilS, .d (I 0), .d (TF false), .d (.v (.int .i64 0)), .d (S []), nilS, nilS] [(0, [.d (I k)]), (1, [w]), (2, (vC v).map .d)] = some (.d (I k) :: w :: (vC v).map .d) := by
  rw [vC_eq]; rfl
theorem weak_op {k : Int} {p : List (List UInt8)} {v : V} {w : AV} (hw : LL w 1 (p.map S)) : Weaks (.d (I k) :: w :: (vC v).map .d) ((oC ⟨k, p, v⟩).map .d) := by
  rw [vC_eq]
  refine .cons (Weak.refl _) (.cons ?_ (weaks_refl _))
  generalize p.map S = xs at hw ⊢
  cases hw with
  | d => exact Weak.refl _
  | own => exact Weak.lst (.own _ _ _)
  | nil => exact Weak.nil 1
section
variable {P : Program} {E : Operand → AV} {H : HS} {dst : Option Tmp} {ty : TypeId} {pos : String} {after : Array Edge} {gd : Option (Nat × Bool)}
theorem op_buildO {t : TypeId} {parts : Array (Nat × Operand)} {fs : Array Field} {z : Value} {ps : List (Nat × List AV)} (o : Opn) (w : AV) (ht : P.underlying t = some (.struct fs)) (hz : (P.info? t).map (·.zero) = some (some z)) (hpl : places P fs.toList = some [(0, 1), (1, 1), (2, 6)])
    (hz2 : z.cells.toList.map constAV = [.d (I 0), nilS, .d (I 0), .d (TF false), .d (.v (.int .i64 0)), .d (S []), nilS, nilS]) (hk : parts.toList.all (fun p => (E p.2).known) = true) (hps : parts.toList.map (fun p => (p.1, (E p.2).cells)) = ps) (hps2 : ps = [(0, [.d (I o.kind)]), (1, [w]), (2, (vC o.val).map .d)]) (hw : LL w 1 (o.path.map S)) :
    OpR P ⟨dst, .build t parts, ty, pos, after, gd⟩ E H (Ret (.d (oD o)) H) := by
  subst hps2
  exact opR_weaken (op_build ht hz hpl hk hps (by rw [hz2]; exact fill_op _ o.path _ _)) fun c x h => Weak.aggD (weak_op hw) (oC_one o) c x h
end
theorem lit_o (l : List Opn) : ∀ y ∈ l.map oD, y.cells.length = 8 := by
  intro y hy; obtain ⟨o, _, rfl⟩ := List.mem_map.1 hy; rfl
theorem lit_o1 (l : List Opn) : ∀ d ∈ flat (l.map oD), d.one = true := by
  intro d hd
  obtain ⟨y, hy, hd⟩ := List.mem_flatMap.1 hd
  obtain ⟨o, _, rfl⟩ := List.mem_map.1 hy
  exact oC_one o d hd
theorem weak_op0 {k : Int} {p : List (List UInt8)} {w : AV} (hw : LL w 1 (p.map S)) : Weaks [.d (I k), w, .d (I 0), .d (TF false), .d (.v (.int .i64 0)), .d (S []), nilS, nilS] ((oC ⟨k, p, V0⟩).map .d) := by
  refine .cons (Weak.refl _) (.cons ?_ (weak6 weak_nilL weak_nilF))
  generalize p.map S = xs at hw ⊢
  cases hw with
  | d => exact Weak.refl _
  | own => exact Weak.lst (.own _ _ _)
  | nil => exact Weak.nil 1
section
variable {P : Program} {E : Operand → AV} {H : HS} {dst : Option Tmp} {ty : TypeId} {pos : String} {after : Array Edge} {gd : Option (Nat × Bool)}
theorem op_buildO0 {t : TypeId} {parts : Array (Nat × Operand)} {fs : Array Field} {z : Value} {ps : List (Nat × List AV)} (k : Int) (p : List (List UInt8)) (w : AV) (ht : P.underlying t = some (.struct fs)) (hz : (P.info? t).map (·.zero) = some (some z)) (hpl : places P fs.toList = some [(0, 1), (1, 1), (2, 6)])
    (hz2 : z.cells.toList.map constAV = [.d (I 0), nilS, .d (I 0), .d (TF false), .d (.v (.int .i64 0)), .d (S []), nilS, nilS]) (hk : parts.toList.all (fun p => (E p.2).known) = true) (hps : parts.toList.map (fun p => (p.1, (E p.2).cells)) = ps) (hps2 : ps = [(0, [.d (I k)]), (1, [w])]) (hw : LL w 1 (p.map S)) :
    OpR P ⟨dst, .build t parts, ty, pos, after, gd⟩ E H (Ret (.d (oD ⟨k, p, V0⟩)) H) := by
  subst hps2
  exact opR_weaken (op_build ht hz hpl hk hps (by rw [hz2]; rfl)) fun c x h => Weak.aggD (weak_op0 hw) (oC_one _) c x h
end
theorem ext_keptL {Hs H H' : HS} {v : AV} (h : Ext Hs H) (k : Kept H H' v) (hv : ∀ id n c, v = .arr id n c → Hs.nb ≤ id) : Ext Hs H' :=
  h.of k.toks fun j hj => k.blks j (by have := nb_le h; omega) fun n c e => by have := hv _ _ _ e; omega
theorem becomes_without {id n cap : Nat} {k : Int} {y : Bool} {i : Int} {tx : List UInt8} {ls : List V} {fs : List F} {n0 : List UInt8} : Becomes id n cap 7 ((delF fs n0).map fD) (vs6 k y i tx (.d (.lst 6 (ls.map vD))) (.arr id n cap)) (vC (withoutV (.mk k y i tx ls fs) n0)) := by
  unfold withoutV
  rw [vC_eq]
  exact .d _ (Weak.refl _) (.d _ (Weak.refl _) (.d _ (Weak.refl _) (.d _ (Weak.refl _) (.d _ (Weak.refl _) (.arr .nil)))))
theorem delF_len (l : List F) (n : List UInt8) : (delF l n).length ≤ l.length := List.length_filter_le _ _
theorem delF_snoc (l : List F) (x : F) (n : List UInt8) : delF (l ++ [x]) n = if x.name = n then delF l n else delF l n ++ [x] := by
  unfold delF
  rw [List.filter_append]
  by_cases h : x.name = n
  · rw [if_pos h, List.filter_cons_of_neg (by simpa using h)]; simp
  · rw [if_neg h, List.filter_cons_of_pos (by simpa using h)]; simp
theorem delF_none {l : List F} {n : List UInt8} (h : ∀ x ∈ l, ¬ x.name = n) : delF l n = l := by
  unfold delF
  exact List.filter_eq_self.2 fun x hx => by simpa using h x hx
/-- Where a name first stands; how it is told. -/
def IxR (l : List F) (n : List UInt8) (r : Int) : Prop := (r = -1 ∧ ∀ x ∈ l, ¬ x.name = n) ∨ ∃ i : Nat, r = (i : Int) ∧ i < l.length ∧ (∀ x ∈ l.take i, ¬ x.name = n) ∧ ∃ x, l[i]? = some x ∧ x.name = n
/-- The state in which what is kept moves to the front. -/
structure Del (B : HS) (tF : TypeId) (id cap : Nat) (fs : List F) (n : List UInt8) (H : HS) (i j : Nat) (l : List F) (cs : List AV) : Prop where
  ij : i < j
  jl : j ≤ fs.length
  len : l.length = fs.length
  front : l.take i = delF (fs.take j) n
  rest : l.drop j = fs.drop j
  b : H.blks[id]? = some ⟨tF, cs, false⟩
  c : cs.length = cap * 7
  cap : fs.length ≤ cap
  u : cs.take (l.length * 7) = fcells l
  x : Ext B H
  hid : B.nb ≤ id
theorem Del.at_ {B : HS} {tF : TypeId} {id cap : Nat} {fs : List F} {n : List UInt8} {H : HS} {i j : Nat} {l : List F} {cs : List AV} (h : Del B tF id cap fs n H i j l cs) {x : F} (hx : fs[j]? = some x) : l[j]? = some x := by
  have h1 := congrArg (·[0]?) h.rest
  simpa [List.getElem?_drop, hx] using h1
theorem Del.push {B : HS} {tF e : TypeId} {id cap : Nat} {fs : List F} {n : List UInt8} {H : HS} {i j : Nat} {l : List F} {cs z : List AV} {b : HB} (h : Del B tF id cap fs n H i j l cs) : Del B tF id cap fs n ((H.push e z).setB H.nb b) i j l cs :=
  ⟨h.ij, h.jl, h.len, h.front, h.rest, by rw [setB_ne (by have := lt_nb h.b; omega)]; exact push_ne h.b, h.c, h.cap, h.u, (h.x.push _ _).setB (nb_le h.x), h.hid⟩
theorem Del.skip {B : HS} {tF : TypeId} {id cap : Nat} {fs : List F} {n : List UInt8} {H : HS} {i j : Nat} {l : List F} {cs : List AV} {x : F} (h : Del B tF id cap fs n H i j l cs) (hx : fs[j]? = some x) (hn : x.name = n) : Del B tF id cap fs n H i (j + 1) l cs :=
  ⟨by have := h.ij; omega, by have := (List.getElem?_eq_some_iff.1 hx).1; omega, h.len, by rw [take_snoc hx, delF_snoc, if_pos hn]; exact h.front, by
    have := congrArg (List.drop 1) h.rest
    simpa [List.drop_drop, Nat.add_comm] using this, h.b, h.c, h.cap, h.u, h.x, h.hid⟩
theorem Del.move {B : HS} {tF : TypeId} {id cap : Nat} {fs : List F} {n : List UInt8} {H : HS} {i j : Nat} {l : List F} {cs : List AV} {x : F} (h : Del B tF id cap fs n H i j l cs) (hx : fs[j]? = some x) (hn : ¬ x.name = n) :
    Del B tF id cap fs n (H.setB id ⟨tF, putL cs (i * 7) ((fC x).map .d), false⟩) (i + 1) (j + 1) (l.set i x) (putL cs (i * 7) ((fC x).map .d)) := by
  have hj : j < fs.length := (List.getElem?_eq_some_iff.1 hx).1
  have hij := h.ij
  have hlen := h.len
  have hcap := h.cap
  have hi : i < l.length := by omega
  obtain ⟨g, hg⟩ : ∃ g, l[i]? = some g := ⟨_, List.getElem?_eq_getElem hi⟩
  refine ⟨by omega, by omega, by rw [List.length_set]; exact h.len, ?_, ?_, setB_at h.b, by rw [putL_length]; exact h.c, h.cap, set_cells h.u hg (by rw [h.c]; exact Nat.mul_le_mul_right 7 (by omega)), h.x.setB h.hid, h.hid⟩
  · rw [take_snoc hx, delF_snoc, if_neg hn, ← h.front, List.take_set, List.take_add_one, hg]
    rw [List.set_append_right _ _ (by rw [List.length_take]; omega)]
    simp [List.length_take, Nat.min_eq_left (Nat.le_of_lt hi)]
  · rw [List.drop_set_of_lt (by omega)]
    have := congrArg (List.drop 1) h.rest
    simpa [List.drop_drop, Nat.add_comm] using this
theorem Del.start {B H : HS} {tF : TypeId} {id cap i : Nat} {fs : List F} {n : List UInt8} {cs : List AV} (hb : H.blks[id]? = some ⟨tF, cs, false⟩) (hc : cs.length = cap * 7) (hcap : fs.length ≤ cap) (hu : cs.take (fs.length * 7) = fcells fs) (hx : Ext B H) (hid : B.nb ≤ id)
    (hi : i < fs.length) (hno : ∀ x ∈ fs.take i, ¬ x.name = n) {x : F} (hxi : fs[i]? = some x) (hn : x.name = n) : Del B tF id cap fs n H i (i + 1) fs cs :=
  ⟨by omega, by omega, rfl, by rw [take_snoc hxi, delF_snoc, if_pos hn, delF_none hno], rfl, hb, hc, hcap, hu, hx, hid⟩
/-- What is left: an exact block again. -/
structure DelR (B : HS) (tF : TypeId) (id cap : Nat) (l : List F) (av : AV) (H : HS) : Prop where
  ex : ∃ cs, av = .arr id l.length cap ∧ H.blks[id]? = some ⟨tF, cs, false⟩ ∧ cs.length = cap * 7 ∧ l.length ≤ cap ∧ cs.take (l.length * 7) = fcells l
  x : Ext B H
theorem Del.stop {B : HS} {tF : TypeId} {id cap : Nat} {fs : List F} {n : List UInt8} {H : HS} {i : Nat} {l : List F} {cs : List AV} (h : Del B tF id cap fs n H i fs.length l cs) (hi : i < fs.length) :
    DelR B tF id cap (delF fs n) (.arr id i cap) (H.put id (i * 7) (List.replicate ((fs.length - i) * 7) .un)) := by
  have hf := h.front
  have hlen := h.len
  have hcap := h.cap
  have hc := h.c
  rw [List.take_length] at hf
  have hl : (delF fs n).length = i := by rw [← hf, List.length_take]; omega
  refine ⟨⟨_, by rw [hl], put_blks_at h.b, by simp only [putL_length]; exact h.c, by omega, ?_⟩, h.x.put h.hid _ _⟩
  show (putL cs (i * 7) _).take _ = _
  rw [hl, putL_eq (by rw [List.length_replicate]; omega)]
  rw [List.take_left' (by rw [List.length_take]; omega), ← hf, fcells_take, ← h.u, List.take_take, Nat.min_eq_left (by omega)]
end Go.AV.Patch
