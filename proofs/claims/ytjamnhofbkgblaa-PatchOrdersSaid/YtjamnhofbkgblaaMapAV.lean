/-
  Lists of fields in exact blocks: what is found, put and inserted.
-/
import Derived.Test.YtjamnhofbkgblaaMapPlain
namespace Go.AV.Val
open Go.AV.Ord Go.AV.Oct
abbrev ArrF (H : HS) (tF : TypeId) (v : AV) (l : List F) : Prop := Arr H tF 7 v l.length (fcells l)
theorem Arr.pos {H : HS} {e : TypeId} {sz n : Nat} {v : AV} {us : List AV} (h : Arr H e sz v n us) (hn : 0 < n) : ∃ id cap cs, v = .arr id n cap ∧ H.blks[id]? = some ⟨e, cs, false⟩ ∧ cs.length = cap * sz ∧ n ≤ cap ∧ cs.take (n * sz) = us := by
  cases h with
  | nil => omega
  | arr id n cap cs us hb hc hnc hu => exact ⟨id, cap, cs, rfl, hb, hc, hnc, hu⟩
theorem Arr.or {H : HS} {e : TypeId} {sz n : Nat} {v : AV} {us : List AV} (h : Arr H e sz v n us) : v = nilS ∨ ∃ id cap, v = .arr id n cap := by
  cases h with
  | nil => exact .inl rfl
  | arr id n cap => exact .inr ⟨id, cap, rfl⟩
theorem Arr.mono {H H' : HS} {e : TypeId} {sz n : Nat} {v : AV} {us : List AV} (h : Arr H e sz v n us) (hk : ∀ id n cap, v = .arr id n cap → H'.blks[id]? = H.blks[id]?) : Arr H' e sz v n us := by
  cases h with
  | nil => exact .nil
  | arr id n cap cs us hb hc hnc hu => exact .arr id n cap cs us (by rw [hk _ _ _ rfl]; exact hb) hc hnc hu
section
variable {P : Program} {E : Operand → AV} {H : HS} {dst : Option Tmp} {ty : TypeId} {pos : String} {after : Array Edge} {gd : Option (Nat × Bool)}
theorem op_lenA {x : Operand} {t e e' : TypeId} {sz n : Nat} {v : AV} {us : List AV} (ht : P.underlying t = some (.slice e')) (hx : E x = v) (h : Arr H e sz v n us) {H' : HS} : OpR P ⟨dst, .call ⟨.builtin .len, #[x], #[t]⟩, ty, pos, after, gd⟩ E H' (Ret (.d (I n)) H') := by
  cases h with
  | nil =>
    refine opR_pure fun c w a hm hops => ?_
    have h1 := hops x (by simp [Op.operands, Call.operands])
    rw [hx] at h1
    exact ⟨.int .i64 0, by simp [execOp, resolve, invoke, builtin, h1.v_eq, Builtin.len_, run_underlying ht, goInt], .d (.v _ rfl)⟩
  | arr => exact op_lenArr ht hx
/-- The cells of one field in a block. -/
theorem cells_at {cs : List AV} {l : List F} {k : Nat} {f : F} (hu : cs.take (l.length * 7) = fcells l) (h : l[k]? = some f) : (cs.drop (k * 7)).take 7 = (fC f).map .d := by
  have hk : k < l.length := (List.getElem?_eq_some_iff.1 h).1
  rw [← fcells_at h, ← hu, List.drop_take, List.take_take, Nat.min_eq_left (by omega)]
theorem op_loadFA {x : Operand} {t : TypeId} {d : TypeDesc} {id k : Nat} {b : HB} (f : F) (ht : P.underlying t = some d) (hd : notAgg d = false) (hn : (P.info? t).map (·.size) = some 7) (hx : E x = .ptr id (k * 7)) (hb : H.blks[id]? = some b) (hf : k * 7 + 7 ≤ b.cs.length) (hv : (b.cs.drop (k * 7)).take 7 = (fC f).map .d) :
    OpR P ⟨dst, .load t x, ty, pos, after, gd⟩ E H (Ret (.d (.agg (fC f))) H) :=
  op_load_ptrsD (fC f) ht hd hn hx hb hf hv (fC_one f)
end
theorem putL_drop : ∀ (vs cs : List AV) (k m : Nat), k + vs.length ≤ m → (putL cs k vs).drop m = cs.drop m
  | [], cs, k, m, _ => rfl
  | v :: vs, cs, k, m, h => by
    simp only [List.length_cons] at h
    show (putL (cs.set k v) (k + 1) vs).drop m = _
    rw [putL_drop vs (cs.set k v) (k + 1) m (by omega), List.drop_set_of_lt (by omega)]
theorem putL_eq {cs vs : List AV} {k : Nat} (h : k + vs.length ≤ cs.length) : putL cs k vs = cs.take k ++ (vs ++ cs.drop (k + vs.length)) := by
  rw [← List.append_assoc, ← putL_take vs cs k h, ← putL_drop vs cs k (k + vs.length) (Nat.le_refl _), List.take_append_drop]
theorem set_cells {cs : List AV} {l : List F} {k : Nat} {f g : F} (hu : cs.take (l.length * 7) = fcells l) (h : l[k]? = some g) (hl : l.length * 7 ≤ cs.length) : (putL cs (k * 7) ((fC f).map .d)).take ((l.set k f).length * 7) = fcells (l.set k f) := by
  have hk : k < l.length := (List.getElem?_eq_some_iff.1 h).1
  have e : l.set k f = l.take k ++ f :: l.drop (k + 1) := by rw [List.set_eq_take_append_cons_drop, if_pos hk]
  have hx : ((fC f).map AV.d).length = 7 := by rw [List.length_map, fC_len]
  rw [List.length_set, e, fcells_append, fcells_cons, fcells_take, fcells_drop, ← hu]
  rw [putL_eq (by rw [hx]; omega), hx]
  rw [List.take_take, Nat.min_eq_left (by omega)]
  have hA : (cs.take (k * 7)).length = k * 7 := by rw [List.length_take]; omega
  rw [List.take_append, hA, List.take_of_length_le (show (cs.take (k * 7)).length ≤ l.length * 7 by rw [hA]; omega), List.take_append, hx, List.take_of_length_le (show ((fC f).map AV.d).length ≤ l.length * 7 - k * 7 by rw [hx]; omega), List.drop_take]
  rw [show k * 7 + 7 = (k + 1) * 7 by omega, show l.length * 7 - k * 7 - 7 = l.length * 7 - (k + 1) * 7 by omega]
/-- What an insertion leaves. -/
structure InsR (Hs : HS) (tF : TypeId) (v : AV) (l : List F) (av : AV) (H' : HS) : Prop where
  arr : ArrF H' tF av l
  kept : Kept Hs H' v
  new : ∀ id n c, av = .arr id n c → Hs.nb ≤ id ∨ ∃ n c, v = .arr id n c
theorem ins_len {l : List F} {i : Nat} {x : F} (hi : i ≤ l.length) : (l.take i ++ x :: l.drop i).length = l.length + 1 := by simp; omega
theorem ins_cells {l : List F} {i : Nat} {x : F} : fcells (l.take i ++ x :: l.drop i) = (fcells l).take (i * 7) ++ ((fC x).map .d ++ (fcells l).drop (i * 7)) := by
  rw [fcells_append, fcells_cons, fcells_take, fcells_drop]
theorem rest_cells {cs : List AV} {l : List F} {i : Nat} (hu : cs.take (l.length * 7) = fcells l) : (cs.drop (i * 7)).take ((l.length - i) * 7) = (fcells l).drop (i * 7) := by
  rw [← hu, List.drop_take, Nat.sub_mul]
theorem insR_grow {Hs : HS} {tF : TypeId} {v : AV} {l : List F} {i : Nat} {x : F} {cap c2 : Nat} {cs : List AV} (hc : cs.length = cap * 7) (hn : l.length ≤ cap) (hu : cs.take (l.length * 7) = fcells l) (hi : i < l.length) (hc2 : i + (l.length + 1 - i) ≤ c2) :
    InsR Hs tF v (l.take i ++ x :: l.drop i) (.arr Hs.nb (i + (l.length + 1 - i)) c2) (((Hs.push tF (cs.take (i * 7) ++ List.replicate ((c2 - i) * 7) .un)).put Hs.nb (i * 7) ((fC x).map .d)).put Hs.nb ((i + 1) * 7) ((cs.drop (i * 7)).take ((l.length - i) * 7))) := by
  have hX : ((fC x).map AV.d).length = 7 := by rw [List.length_map, fC_len]
  have hP : (cs.take (i * 7)).length = i * 7 := by rw [List.length_take]; omega
  have hR : ((cs.drop (i * 7)).take ((l.length - i) * 7)).length = (l.length - i) * 7 := by rw [List.length_take, List.length_drop]; omega
  have hZ : (cs.take (i * 7) ++ List.replicate ((c2 - i) * 7) AV.un).length = c2 * 7 := by rw [List.length_append, hP, List.length_replicate]; omega
  have e0 : i + (l.length + 1 - i) = l.length + 1 := by omega
  rw [e0]
  have hb1 : ((Hs.push tF (cs.take (i * 7) ++ List.replicate ((c2 - i) * 7) .un)).put Hs.nb (i * 7) ((fC x).map .d)).blks[Hs.nb]? = some ⟨tF, putL (cs.take (i * 7) ++ List.replicate ((c2 - i) * 7) .un) (i * 7) ((fC x).map .d), false⟩ := put_blks_at push_at
  have hb2 := put_blks_at (off := (i + 1) * 7) (vs := (cs.drop (i * 7)).take ((l.length - i) * 7)) hb1
  have hl1 : (putL (cs.take (i * 7) ++ List.replicate ((c2 - i) * 7) AV.un) (i * 7) ((fC x).map .d)).length = c2 * 7 := by rw [putL_length]; exact hZ
  refine ⟨?_, ⟨rfl, by rw [put_nb, put_nb, push_nb]; omega, fun j hj _ => ?_⟩, fun id n c h => by cases h; exact .inl (Nat.le_refl _)⟩
  · have ha := Arr.arr (H := _) (e := tF) (sz := 7) Hs.nb (l.length + 1) c2 _ _ hb2 (by simp only [putL_length]; exact hZ) (by omega) rfl
    have e1 : (putL (putL (cs.take (i * 7) ++ List.replicate ((c2 - i) * 7) AV.un) (i * 7) ((fC x).map .d)) ((i + 1) * 7) ((cs.drop (i * 7)).take ((l.length - i) * 7))).take ((l.length + 1) * 7) = fcells (l.take i ++ x :: l.drop i) := by
      have t1 := putL_take ((cs.drop (i * 7)).take ((l.length - i) * 7)) (putL (cs.take (i * 7) ++ List.replicate ((c2 - i) * 7) AV.un) (i * 7) ((fC x).map .d)) ((i + 1) * 7) (by rw [hl1, hR]; omega)
      rw [hR, show (i + 1) * 7 + (l.length - i) * 7 = (l.length + 1) * 7 by omega] at t1
      have t2 := putL_take ((fC x).map AV.d) (cs.take (i * 7) ++ List.replicate ((c2 - i) * 7) AV.un) (i * 7) (by rw [hZ, hX]; omega)
      rw [hX, show i * 7 + 7 = (i + 1) * 7 by omega] at t2
      rw [t1, t2, ins_cells, List.take_left' hP, rest_cells hu, List.append_assoc]
      congr 1
      rw [← hu, List.take_take, Nat.min_eq_left (by omega)]
    rw [e1] at ha
    have e2 := ins_len (x := x) (Nat.le_of_lt hi)
    unfold ArrF
    rw [e2]
    exact ha
  · rw [put_blks_ne (by omega), put_blks_ne (by omega)]
    simp only [HS.push]
    rw [List.getElem?_append_left hj]
theorem insR_shift {Hs : HS} {tF : TypeId} {v : AV} {l : List F} {i : Nat} {x : F} {id cap : Nat} {cs : List AV} (hv : v = .arr id l.length cap) (hb : Hs.blks[id]? = some ⟨tF, cs, false⟩) (hc : cs.length = cap * 7) (hn : l.length + 1 ≤ cap) (hu : cs.take (l.length * 7) = fcells l) (hi : i < l.length) :
    InsR Hs tF v (l.take i ++ x :: l.drop i) (.arr id (l.length + 1) cap) ((Hs.put id ((i + 1) * 7) ((cs.drop (i * 7)).take ((l.length - i) * 7))).put id (i * 7) ((fC x).map .d)) := by
  have hX : ((fC x).map AV.d).length = 7 := by rw [List.length_map, fC_len]
  have hR : ((cs.drop (i * 7)).take ((l.length - i) * 7)).length = (l.length - i) * 7 := by rw [List.length_take, List.length_drop]; omega
  have hb1 := put_blks_at (off := (i + 1) * 7) (vs := (cs.drop (i * 7)).take ((l.length - i) * 7)) hb
  have hb2 := put_blks_at (off := i * 7) (vs := (fC x).map .d) hb1
  refine ⟨?_, ⟨rfl, by rw [put_nb, put_nb]; exact Nat.le_refl _, fun j hj hne => ?_⟩, fun id' n c h => by cases h; exact .inr ⟨_, _, hv⟩⟩
  · have ha := Arr.arr (H := _) (e := tF) (sz := 7) id (l.length + 1) cap _ _ hb2 (by simp only [putL_length]; exact hc) hn rfl
    have e1 : (putL (putL cs ((i + 1) * 7) ((cs.drop (i * 7)).take ((l.length - i) * 7))) (i * 7) ((fC x).map .d)).take ((l.length + 1) * 7) = fcells (l.take i ++ x :: l.drop i) := by
      have t1 := putL_take ((cs.drop (i * 7)).take ((l.length - i) * 7)) cs ((i + 1) * 7) (by rw [hR, hc]; omega)
      rw [hR, show (i + 1) * 7 + (l.length - i) * 7 = (l.length + 1) * 7 by omega] at t1
      generalize hcs' : putL cs ((i + 1) * 7) ((cs.drop (i * 7)).take ((l.length - i) * 7)) = cs' at t1
      have hl' : cs'.length = cap * 7 := by rw [← hcs', putL_length]; exact hc
      have t2 : cs'.take (i * 7) = cs.take (i * 7) := by
        have := congrArg (List.take (i * 7)) t1
        rw [List.take_take, Nat.min_eq_left (by omega), List.take_append_of_le_length (by rw [List.length_take]; omega), List.take_take, Nat.min_eq_left (by omega)] at this
        exact this
      have t3 : (cs'.drop (i * 7 + 7)).take ((l.length - i) * 7) = (cs.drop (i * 7)).take ((l.length - i) * 7) := by
        have := congrArg (List.drop ((i + 1) * 7)) t1
        rw [List.drop_take, List.drop_left' (by rw [List.length_take]; omega)] at this
        rw [show i * 7 + 7 = (i + 1) * 7 by omega, ← this]
        congr 1
        omega
      rw [putL_eq (by rw [hX, hl']; omega), hX]
      have hA : (cs'.take (i * 7)).length = i * 7 := by rw [List.length_take]; omega
      rw [List.take_append, hA, List.take_of_length_le (show (cs'.take (i * 7)).length ≤ (l.length + 1) * 7 by rw [hA]; omega), List.take_append, hX, List.take_of_length_le (show ((fC x).map AV.d).length ≤ (l.length + 1) * 7 - i * 7 by rw [hX]; omega), show (l.length + 1) * 7 - i * 7 - 7 = (l.length - i) * 7 by omega, t3, t2, ins_cells, rest_cells hu]
      rw [← hu, List.take_take, Nat.min_eq_left (by omega)]
    rw [e1] at ha
    have e2 := ins_len (x := x) (Nat.le_of_lt hi)
    unfold ArrF
    rw [e2]
    exact ha
  · have hji : j ≠ id := fun h => hne _ _ (by rw [hv, h])
    rw [put_blks_ne hji, put_blks_ne hji]
end Go.AV.Val
namespace Go.AV.Val
open Go.AV.Ord Go.AV.Oct
theorem hasF_at {l : List F} {n : List UInt8} (h : hasF l n = true) : ∃ g, l[posF l n]? = some g ∧ g.name = n := by
  unfold hasF at h
  split at h
  · rename_i g hg; exact ⟨g, hg, by simpa using h⟩
  · cases h
theorem Arr.idlt {H : HS} {e : TypeId} {sz n : Nat} {v : AV} {us : List AV} (h : Arr H e sz v n us) {id m c : Nat} (hv : v = .arr id m c) : id < H.nb := by
  cases h with
  | nil => cases hv
  | arr id n cap cs us hb hc hnc hu => cases hv; exact lt_nb hb
theorem Arr.len0 {H : HS} {e : TypeId} {sz n : Nat} {us : List AV} (h : Arr H e sz nilS n us) : n = 0 := by cases h; rfl
theorem push_lt {H : HS} {e : TypeId} {cs : List AV} {j : Nat} (h : j < H.nb) : (H.push e cs).blks[j]? = H.blks[j]? := by
  simp only [HS.push]; rw [List.getElem?_append_left h]
theorem ArrF.psh {H : HS} {tF e : TypeId} {v : AV} {l : List F} {cs : List AV} {b : HB} (h : ArrF H tF v l) : ArrF ((H.push e cs).setB H.nb b) tF v l :=
  Arr.mono h fun _ _ _ hv => by have := Arr.idlt h hv; rw [setB_ne (by omega), push_lt this]
theorem ArrF.pushed {H : HS} {tF e : TypeId} {v : AV} {l : List F} {cs : List AV} (h : ArrF H tF v l) : ArrF (H.push e cs) tF v l :=
  Arr.mono h fun _ _ _ hv => push_lt (Arr.idlt h hv)
theorem ArrF.set {H : HS} {tF : TypeId} {id cap k : Nat} {cs : List AV} {l : List F} {x g : F} (hb : H.blks[id]? = some ⟨tF, cs, false⟩) (hc : cs.length = cap * 7) (hcap : l.length ≤ cap) (hu : cs.take (l.length * 7) = fcells l) (hg : l[k]? = some g) :
    ArrF (H.setB id ⟨tF, putL cs (k * 7) ((fC x).map .d), false⟩) tF (.arr id l.length cap) (l.set k x) := by
  have h := Arr.arr (H := H.setB id ⟨tF, putL cs (k * 7) ((fC x).map .d), false⟩) (e := tF) (sz := 7) id (l.set k x).length cap _ _ (setB_at hb) (by rw [putL_length]; exact hc) (by rw [List.length_set]; exact hcap) rfl
  rw [set_cells (f := x) hu hg (by omega)] at h
  unfold ArrF
  rw [show AV.arr id l.length cap = .arr id (l.set k x).length cap by rw [List.length_set]]
  exact h
section
variable {P : Program} {T : List AV} {H : HS} {dst : Option Tmp} {ty : TypeId} {pos : String} {after : Array Edge} {gd : Option (Nat × Bool)}
theorem op_litF {t e : TypeId} {x : Operand} {z : Value} (f : F) (ht : P.underlying t = some (.slice e)) (hz : (P.info? e).map (fun i => (i.zero, i.size)) = some (some z, 7)) (hE : Els (evalT T) 0 [(0, x)] [fD f]) :
    OpR P ⟨dst, .buildSlice t 1 #[(0, x)], ty, pos, after, gd⟩ (evalT T) H (Ret (.arr H.nb 1 1) (H.push e ((fC f).map .d))) := by
  have h := op_litArr (dst := dst) (ty := ty) (pos := pos) (after := after) (gd := gd) (H := H) ht hz hE rfl (lit_f f) (by show 1 * 7 ≤ 16777216; decide)
  have e1 : flat [fD f] = fC f := by simp [flat, fD, DV.cells]
  rwa [e1] at h
end
theorem ext_kept {Hs H H' : HS} {v : AV} (h : Ext Hs H) (k : Kept H H' v) (hv : ∀ id n c, v = .arr id n c → Hs.nb < id) : Ext Hs H' :=
  h.of k.toks fun j hj => k.blks j (by have := nb_le h; omega) fun n c e => by have := hv _ _ _ e; omega
theorem becomes_map {id n cap : Nat} {fs : List F} : Becomes id n cap 7 ((ofF fs).map fD) (vs6 5 false 0 [] nilS (.arr id n cap)) (vC (ofMapV fs)) := by
  unfold ofMapV
  rw [vC_eq]
  exact .d _ (Weak.refl _) (.d _ (Weak.refl _) (.d _ (Weak.refl _) (.d _ (Weak.refl _) (.d _ weak_nilL (.arr .nil)))))
end Go.AV.Val
