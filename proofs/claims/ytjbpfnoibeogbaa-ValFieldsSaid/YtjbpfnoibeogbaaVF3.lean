/- Part 3 of what the law needs: MapAV, ValOrd, ValOrd2, ValOrd3, PatchPlain, A19, ValRes, PatchAV, PatG, ValC, ValM, ValMO, PatW, PatO. -/
import Derived.Test.YtjbpfnoibeogbaaVF2
import Derived.KernelRfl
namespace Go.AV.Val
open Go.AV.Ord Go.AV.Oct
abbrev ArrF (H : HS) (tF : TypeId) (v : AV) (l : List F) : Prop := Arr H tF 7 v l.length (fcells l)
theorem Arr.pos {H : HS} {e : TypeId} {sz n : Nat} {v : AV} {us : List AV} (h : Arr H e sz v n us) (hn : 0 < n) : ∃ id cap cs, v = .arr id n cap ∧ H.blks[id]? = some ⟨e, cs, false⟩ ∧ cs.length = cap * sz ∧ n ≤ cap ∧ cs.take (n * sz) = us := by
  cases h with
  | nil => omega
  | arr id n cap cs us hb hc hnc hu => exact ⟨id, cap, cs, rfl, hb, hc, hnc, hu⟩
theorem Arr.or {H : HS} {e : TypeId} {sz n : Nat} {v : AV} {us : List AV} (h : Arr H e sz v n us) : v = nilS ∨ ∃ id cap, v = .arr id n cap := by
  cases h with
  | nil => exact .inl rfl
  | arr id n cap => exact .inr ⟨id, cap, rfl⟩
theorem Arr.mono {H H' : HS} {e : TypeId} {sz n : Nat} {v : AV} {us : List AV} (h : Arr H e sz v n us) (hk : ∀ id n cap, v = .arr id n cap → H'.blks[id]? = H.blks[id]?) : Arr H' e sz v n us := by
  cases h with
  | nil => exact .nil
  | arr id n cap cs us hb hc hnc hu => exact .arr id n cap cs us (by rw [hk _ _ _ rfl]; exact hb) hc hnc hu
section
variable {P : Program} {E : Operand → AV} {H : HS} {dst : Option Tmp} {ty : TypeId} {pos : String} {after : Array Edge} {gd : Option (Nat × Bool)}
theorem op_lenA {x : Operand} {t e e' : TypeId} {sz n : Nat} {v : AV} {us : List AV} (ht : P.underlying t = some (.slice e')) (hx : E x = v) (h : Arr H e sz v n us) {H' : HS} : OpR P ⟨dst, .call ⟨.builtin .len, #[x], #[t]⟩, ty, pos, after, gd⟩ E H' (Ret (.d (I n)) H') := by
  cases h with
  | nil =>
    refine opR_pure fun c w a hm hops => ?_
    have h1 := hops x (by simp [Op.operands, Call.operands])
    rw [hx] at h1
    exact ⟨.int .i64 0, by simp [execOp, resolve, invoke, builtin, h1.v_eq, Builtin.len_, run_underlying ht, goInt], .d (.v _ rfl)⟩
  | arr => exact op_lenArr ht hx
theorem cells_at {cs : List AV} {l : List F} {k : Nat} {f : F} (hu : cs.take (l.length * 7) = fcells l) (h : l[k]? = some f) : (cs.drop (k * 7)).take 7 = (fC f).map .d := by
  have hk : k < l.length := (List.getElem?_eq_some_iff.1 h).1
  rw [← fcells_at h, ← hu, List.drop_take, List.take_take, Nat.min_eq_left (by omega)]
theorem op_loadFA {x : Operand} {t : TypeId} {d : TypeDesc} {id k : Nat} {b : HB} (f : F) (ht : P.underlying t = some d) (hd : notAgg d = false) (hn : (P.info? t).map (·.size) = some 7) (hx : E x = .ptr id (k * 7)) (hb : H.blks[id]? = some b) (hf : k * 7 + 7 ≤ b.cs.length) (hv : (b.cs.drop (k * 7)).take 7 = (fC f).map .d) :
    OpR P ⟨dst, .load t x, ty, pos, after, gd⟩ E H (Ret (.d (.agg (fC f))) H) :=
  op_load_ptrsD (fC f) ht hd hn hx hb hf hv (fC_one f)
end
theorem putL_drop : ∀ (vs cs : List AV) (k m : Nat), k + vs.length ≤ m → (putL cs k vs).drop m = cs.drop m
  | [], cs, k, m, _ => rfl
  | v :: vs, cs, k, m, h => by
    simp only [List.length_cons] at h
    show (putL (cs.set k v) (k + 1) vs).drop m = _
    rw [putL_drop vs (cs.set k v) (k + 1) m (by omega), List.drop_set_of_lt (by omega)]
theorem putL_eq {cs vs : List AV} {k : Nat} (h : k + vs.length ≤ cs.length) : putL cs k vs = cs.take k ++ (vs ++ cs.drop (k + vs.length)) := by
  rw [← List.append_assoc, ← putL_take vs cs k h, ← putL_drop vs cs k (k + vs.length) (Nat.le_refl _), List.take_append_drop]
theorem set_cells {cs : List AV} {l : List F} {k : Nat} {f g : F} (hu : cs.take (l.length * 7) = fcells l) (h : l[k]? = some g) (hl : l.length * 7 ≤ cs.length) : (putL cs (k * 7) ((fC f).map .d)).take ((l.set k f).length * 7) = fcells (l.set k f) := by
  have hk : k < l.length := (List.getElem?_eq_some_iff.1 h).1
  have e : l.set k f = l.take k ++ f :: l.drop (k + 1) := by rw [List.set_eq_take_append_cons_drop, if_pos hk]
  have hx : ((fC f).map AV.d).length = 7 := by rw [List.length_map, fC_len]
  rw [List.length_set, e, fcells_append, fcells_cons, fcells_take, fcells_drop, ← hu]
  rw [putL_eq (by rw [hx]; omega), hx]
  rw [List.take_take, Nat.min_eq_left (by omega)]
  have hA : (cs.take (k * 7)).length = k * 7 := by rw [List.length_take]; omega
  rw [List.take_append, hA, List.take_of_length_le (show (cs.take (k * 7)).length ≤ l.length * 7 by rw [hA]; omega), List.take_append, hx, List.take_of_length_le (show ((fC f).map AV.d).length ≤ l.length * 7 - k * 7 by rw [hx]; omega), List.drop_take]
  rw [show k * 7 + 7 = (k + 1) * 7 by omega, show l.length * 7 - k * 7 - 7 = l.length * 7 - (k + 1) * 7 by omega]
structure InsR (Hs : HS) (tF : TypeId) (v : AV) (l : List F) (av : AV) (H' : HS) : Prop where
  arr : ArrF H' tF av l
  kept : Kept Hs H' v
  new : ∀ id n c, av = .arr id n c → Hs.nb ≤ id ∨ ∃ n c, v = .arr id n c
theorem ins_len {l : List F} {i : Nat} {x : F} (hi : i ≤ l.length) : (l.take i ++ x :: l.drop i).length = l.length + 1 := by simp; omega
theorem ins_cells {l : List F} {i : Nat} {x : F} : fcells (l.take i ++ x :: l.drop i) = (fcells l).take (i * 7) ++ ((fC x).map .d ++ (fcells l).drop (i * 7)) := by
  rw [fcells_append, fcells_cons, fcells_take, fcells_drop]
theorem rest_cells {cs : List AV} {l : List F} {i : Nat} (hu : cs.take (l.length * 7) = fcells l) : (cs.drop (i * 7)).take ((l.length - i) * 7) = (fcells l).drop (i * 7) := by
  rw [← hu, List.drop_take, Nat.sub_mul]
theorem insR_grow {Hs : HS} {tF : TypeId} {v : AV} {l : List F} {i : Nat} {x : F} {cap c2 : Nat} {cs : List AV} (hc : cs.length = cap * 7) (hn : l.length ≤ cap) (hu : cs.take (l.length * 7) = fcells l) (hi : i < l.length) (hc2 : i + (l.length + 1 - i) ≤ c2) :
    InsR Hs tF v (l.take i ++ x :: l.drop i) (.arr Hs.nb (i + (l.length + 1 - i)) c2) (((Hs.push tF (cs.take (i * 7) ++ List.replicate ((c2 - i) * 7) .un)).put Hs.nb (i * 7) ((fC x).map .d)).put Hs.nb ((i + 1) * 7) ((cs.drop (i * 7)).take ((l.length - i) * 7))) := by
  have hX : ((fC x).map AV.d).length = 7 := by rw [List.length_map, fC_len]
  have hP : (cs.take (i * 7)).length = i * 7 := by rw [List.length_take]; omega
  have hR : ((cs.drop (i * 7)).take ((l.length - i) * 7)).length = (l.length - i) * 7 := by rw [List.length_take, List.length_drop]; omega
  have hZ : (cs.take (i * 7) ++ List.replicate ((c2 - i) * 7) AV.un).length = c2 * 7 := by rw [List.length_append, hP, List.length_replicate]; omega
  have e0 : i + (l.length + 1 - i) = l.length + 1 := by omega
  rw [e0]
  have hb1 : ((Hs.push tF (cs.take (i * 7) ++ List.replicate ((c2 - i) * 7) .un)).put Hs.nb (i * 7) ((fC x).map .d)).blks[Hs.nb]? = some ⟨tF, putL (cs.take (i * 7) ++ List.replicate ((c2 - i) * 7) .un) (i * 7) ((fC x).map .d), false⟩ := put_blks_at push_at
  have hb2 := put_blks_at (off := (i + 1) * 7) (vs := (cs.drop (i * 7)).take ((l.length - i) * 7)) hb1
  have hl1 : (putL (cs.take (i * 7) ++ List.replicate ((c2 - i) * 7) AV.un) (i * 7) ((fC x).map .d)).length = c2 * 7 := by rw [putL_length]; exact hZ
  refine ⟨?_, ⟨rfl, by rw [put_nb, put_nb, push_nb]; omega, fun j hj _ => ?_, rfl⟩, fun id n c h => by cases h; exact .inl (Nat.le_refl _)⟩
  · have ha := Arr.arr (H := _) (e := tF) (sz := 7) Hs.nb (l.length + 1) c2 _ _ hb2 (by simp only [putL_length]; exact hZ) (by omega) rfl
    have e1 : (putL (putL (cs.take (i * 7) ++ List.replicate ((c2 - i) * 7) AV.un) (i * 7) ((fC x).map .d)) ((i + 1) * 7) ((cs.drop (i * 7)).take ((l.length - i) * 7))).take ((l.length + 1) * 7) = fcells (l.take i ++ x :: l.drop i) := by
      have t1 := putL_take ((cs.drop (i * 7)).take ((l.length - i) * 7)) (putL (cs.take (i * 7) ++ List.replicate ((c2 - i) * 7) AV.un) (i * 7) ((fC x).map .d)) ((i + 1) * 7) (by rw [hl1, hR]; omega)
      rw [hR, show (i + 1) * 7 + (l.length - i) * 7 = (l.length + 1) * 7 by omega] at t1
      have t2 := putL_take ((fC x).map AV.d) (cs.take (i * 7) ++ List.replicate ((c2 - i) * 7) AV.un) (i * 7) (by rw [hZ, hX]; omega)
      rw [hX, show i * 7 + 7 = (i + 1) * 7 by omega] at t2
      rw [t1, t2, ins_cells, List.take_left' hP, rest_cells hu, List.append_assoc]
      congr 1
      rw [← hu, List.take_take, Nat.min_eq_left (by omega)]
    rw [e1] at ha
    have e2 := ins_len (x := x) (Nat.le_of_lt hi)
    unfold ArrF
    rw [e2]
    exact ha
  · rw [put_blks_ne (by omega), put_blks_ne (by omega)]
    simp only [HS.push]
    rw [List.getElem?_append_left hj]
theorem insR_shift {Hs : HS} {tF : TypeId} {v : AV} {l : List F} {i : Nat} {x : F} {id cap : Nat} {cs : List AV} (hv : v = .arr id l.length cap) (hb : Hs.blks[id]? = some ⟨tF, cs, false⟩) (hc : cs.length = cap * 7) (hn : l.length + 1 ≤ cap) (hu : cs.take (l.length * 7) = fcells l) (hi : i < l.length) :
    InsR Hs tF v (l.take i ++ x :: l.drop i) (.arr id (l.length + 1) cap) ((Hs.put id ((i + 1) * 7) ((cs.drop (i * 7)).take ((l.length - i) * 7))).put id (i * 7) ((fC x).map .d)) := by
  have hX : ((fC x).map AV.d).length = 7 := by rw [List.length_map, fC_len]
  have hR : ((cs.drop (i * 7)).take ((l.length - i) * 7)).length = (l.length - i) * 7 := by rw [List.length_take, List.length_drop]; omega
  have hb1 := put_blks_at (off := (i + 1) * 7) (vs := (cs.drop (i * 7)).take ((l.length - i) * 7)) hb
  have hb2 := put_blks_at (off := i * 7) (vs := (fC x).map .d) hb1
  refine ⟨?_, ⟨rfl, by rw [put_nb, put_nb]; exact Nat.le_refl _, fun j hj hne => ?_, rfl⟩, fun id' n c h => by cases h; exact .inr ⟨_, _, hv⟩⟩
  · have ha := Arr.arr (H := _) (e := tF) (sz := 7) id (l.length + 1) cap _ _ hb2 (by simp only [putL_length]; exact hc) hn rfl
    have e1 : (putL (putL cs ((i + 1) * 7) ((cs.drop (i * 7)).take ((l.length - i) * 7))) (i * 7) ((fC x).map .d)).take ((l.length + 1) * 7) = fcells (l.take i ++ x :: l.drop i) := by
      have t1 := putL_take ((cs.drop (i * 7)).take ((l.length - i) * 7)) cs ((i + 1) * 7) (by rw [hR, hc]; omega)
      rw [hR, show (i + 1) * 7 + (l.length - i) * 7 = (l.length + 1) * 7 by omega] at t1
      generalize hcs' : putL cs ((i + 1) * 7) ((cs.drop (i * 7)).take ((l.length - i) * 7)) = cs' at t1
      have hl' : cs'.length = cap * 7 := by rw [← hcs', putL_length]; exact hc
      have t2 : cs'.take (i * 7) = cs.take (i * 7) := by
        have := congrArg (List.take (i * 7)) t1
        rw [List.take_take, Nat.min_eq_left (by omega), List.take_append_of_le_length (by rw [List.length_take]; omega), List.take_take, Nat.min_eq_left (by omega)] at this
        exact this
      have t3 : (cs'.drop (i * 7 + 7)).take ((l.length - i) * 7) = (cs.drop (i * 7)).take ((l.length - i) * 7) := by
        have := congrArg (List.drop ((i + 1) * 7)) t1
        rw [List.drop_take, List.drop_left' (by rw [List.length_take]; omega)] at this
        rw [show i * 7 + 7 = (i + 1) * 7 by omega, ← this]
        congr 1
        omega
      rw [putL_eq (by rw [hX, hl']; omega), hX]
      have hA : (cs'.take (i * 7)).length = i * 7 := by rw [List.length_take]; omega
      rw [List.take_append, hA, List.take_of_length_le (show (cs'.take (i * 7)).length ≤ (l.length + 1) * 7 by rw [hA]; omega), List.take_append, hX, List.take_of_length_le (show ((fC x).map AV.d).length ≤ (l.length + 1) * 7 - i * 7 by rw [hX]; omega), show (l.length + 1) * 7 - i * 7 - 7 = (l.length - i) * 7 by omega, t3, t2, ins_cells, rest_cells hu]
      rw [← hu, List.take_take, Nat.min_eq_left (by omega)]
    rw [e1] at ha
    have e2 := ins_len (x := x) (Nat.le_of_lt hi)
    unfold ArrF
    rw [e2]
    exact ha
  · have hji : j ≠ id := fun h => hne _ _ (by rw [hv, h])
    rw [put_blks_ne hji, put_blks_ne hji]
end Go.AV.Val
namespace Go.AV.Val
open Go.AV.Ord Go.AV.Oct
theorem hasF_at {l : List F} {n : List UInt8} (h : hasF l n = true) : ∃ g, l[posF l n]? = some g ∧ g.name = n := by
  unfold hasF at h
  split at h
  · rename_i g hg; exact ⟨g, hg, by simpa using h⟩
  · cases h
theorem Arr.idlt {H : HS} {e : TypeId} {sz n : Nat} {v : AV} {us : List AV} (h : Arr H e sz v n us) {id m c : Nat} (hv : v = .arr id m c) : id < H.nb := by
  cases h with
  | nil => cases hv
  | arr id n cap cs us hb hc hnc hu => cases hv; exact lt_nb hb
theorem Arr.len0 {H : HS} {e : TypeId} {sz n : Nat} {us : List AV} (h : Arr H e sz nilS n us) : n = 0 := by cases h; rfl
theorem push_lt {H : HS} {e : TypeId} {cs : List AV} {j : Nat} (h : j < H.nb) : (H.push e cs).blks[j]? = H.blks[j]? := by
  simp only [HS.push]; rw [List.getElem?_append_left h]
theorem ArrF.psh {H : HS} {tF e : TypeId} {v : AV} {l : List F} {cs : List AV} {b : HB} (h : ArrF H tF v l) : ArrF ((H.push e cs).setB H.nb b) tF v l :=
  Arr.mono h fun _ _ _ hv => by have := Arr.idlt h hv; rw [setB_ne (by omega), push_lt this]
theorem ArrF.pushed {H : HS} {tF e : TypeId} {v : AV} {l : List F} {cs : List AV} (h : ArrF H tF v l) : ArrF (H.push e cs) tF v l :=
  Arr.mono h fun _ _ _ hv => push_lt (Arr.idlt h hv)
theorem ArrF.set {H : HS} {tF : TypeId} {id cap k : Nat} {cs : List AV} {l : List F} {x g : F} (hb : H.blks[id]? = some ⟨tF, cs, false⟩) (hc : cs.length = cap * 7) (hcap : l.length ≤ cap) (hu : cs.take (l.length * 7) = fcells l) (hg : l[k]? = some g) :
    ArrF (H.setB id ⟨tF, putL cs (k * 7) ((fC x).map .d), false⟩) tF (.arr id l.length cap) (l.set k x) := by
  have h := Arr.arr (H := H.setB id ⟨tF, putL cs (k * 7) ((fC x).map .d), false⟩) (e := tF) (sz := 7) id (l.set k x).length cap _ _ (setB_at hb) (by rw [putL_length]; exact hc) (by rw [List.length_set]; exact hcap) rfl
  rw [set_cells (f := x) hu hg (by omega)] at h
  unfold ArrF
  rw [show AV.arr id l.length cap = .arr id (l.set k x).length cap by rw [List.length_set]]
  exact h
section
variable {P : Program} {T : List AV} {H : HS} {dst : Option Tmp} {ty : TypeId} {pos : String} {after : Array Edge} {gd : Option (Nat × Bool)}
theorem op_litF {t e : TypeId} {x : Operand} {z : Value} (f : F) (ht : P.underlying t = some (.slice e)) (hz : (P.info? e).map (fun i => (i.zero, i.size)) = some (some z, 7)) (hE : Els (evalT T) 0 [(0, x)] [fD f]) :
    OpR P ⟨dst, .buildSlice t 1 #[(0, x)], ty, pos, after, gd⟩ (evalT T) H (Ret (.arr H.nb 1 1) (H.push e ((fC f).map .d))) := by
  have h := op_litArr (dst := dst) (ty := ty) (pos := pos) (after := after) (gd := gd) (H := H) ht hz hE rfl (lit_f f) (by show 1 * 7 ≤ 16777216; decide)
  have e1 : flat [fD f] = fC f := by simp [flat, fD, DV.cells]
  rwa [e1] at h
end
theorem ext_kept {Hs H H' : HS} {v : AV} (h : Ext Hs H) (k : Kept H H' v) (hv : ∀ id n c, v = .arr id n c → Hs.nb < id) : Ext Hs H' :=
  h.of k.toks (fun j hj => k.blks j (by have := nb_le h; omega) fun n c e => by have := hv _ _ _ e; omega) k.maps
theorem becomes_map {id n cap : Nat} {fs : List F} : Becomes id n cap 7 ((ofF fs).map fD) (vs6 5 false 0 [] nilS (.arr id n cap)) (vC (ofMapV fs)) := by
  unfold ofMapV
  rw [vC_eq]
  exact .d _ (Weak.refl _) (.d _ (Weak.refl _) (.d _ (Weak.refl _) (.d _ (Weak.refl _) (.d _ weak_nilL (.arr .nil)))))
end Go.AV.Val
namespace Go.AV.Val
open Go.AV.Ord Go.AV.Oct
theorem fill_field (n : List UInt8) (v : V) : fillA (fun i => [(0, 1), (1, 6)][i]?) [.d (S []), .d (I 0), .d (TF false), .d (.v (.int .i64 0)), .d (S []), nilS, nilS] [(0, [.d (S n)]), (1, (vC v).map .d)] = some ((fC (.mk n v)).map .d) := by
  rw [fC_eq, F.name, F.val, vC_eq]; rfl
def kind6 (k : Int) : Int := (IntKind.u64.wrap k) % 6
mutual
def lawR : V → V
  | .mk k y i t l fs => if kind6 k = 1 then .mk 1 y 0 [] [] [] else if kind6 k = 2 then .mk 2 false i [] [] [] else if kind6 k = 3 then .mk 3 false 0 t [] [] else if kind6 k = 4 then .mk 4 false 0 [] (lawRs l) [] else if kind6 k = 5 then ofMapV (lawRf fs) else .mk 0 false 0 [] [] []
def lawRs : List V → List V
  | [] => []
  | v :: l => lawR v :: lawRs l
def lawRf : List F → List F
  | [] => []
  | .mk n v :: l => .mk n (lawR v) :: lawRf l
end
def lawF (f : F) : F := .mk f.name (lawR f.val)
theorem lawRs_map : ∀ l : List V, lawRs l = l.map lawR
  | [] => by simp [lawRs]
  | v :: l => by rw [lawRs, lawRs_map l]; rfl
theorem lawRf_map : ∀ l : List F, lawRf l = l.map lawF
  | [] => by simp [lawRf]
  | .mk n v :: l => by rw [lawRf, lawRf_map l]; rfl
theorem lawR_mk (k : Int) (y : Bool) (i : Int) (t : List UInt8) (l : List V) (fs : List F) : lawR (.mk k y i t l fs) = if kind6 k = 1 then .mk 1 y 0 [] [] [] else if kind6 k = 2 then .mk 2 false i [] [] [] else if kind6 k = 3 then .mk 3 false 0 t [] [] else if kind6 k = 4 then .mk 4 false 0 [] (l.map lawR) [] else if kind6 k = 5 then ofMapV (fs.map lawF) else .mk 0 false 0 [] [] [] := by
  rw [lawR, lawRs_map, lawRf_map]
theorem lawR_few : ∀ (n : Nat) (v : V), fewV n v = true → WfV v → rightV n (lawR v) = true ∧ fewV n (lawR v) = true ∧ WfV (lawR v)
  | 0, _, h, _ => by simp [fewV] at h
  | n + 1, .mk k y i t l fs, h, hw => by
    obtain ⟨h1, h2, h3, h4, h5⟩ := few_parts h
    simp only [V.list, V.fields, V.text] at h1 h2 h3 h4 h5
    have hl : ∀ x ∈ l.map lawR, rightV n x = true ∧ fewV n x = true ∧ WfV x := fun x hx => by
      obtain ⟨z, hz, rfl⟩ := List.mem_map.1 hx
      exact lawR_few n z (h4 z hz) (hw.l z hz)
    have hf : ∀ f ∈ ofF (fs.map lawF), f.name.length ≤ 40 ∧ rightV n f.val = true ∧ fewV n f.val = true ∧ WfV f.val := fun f hf => by
      obtain ⟨z, hz, rfl⟩ := List.mem_map.1 (ofF_mem hf)
      have := lawR_few n z.val (h5 z hz).2 (hw.f z hz)
      exact ⟨(h5 z hz).1, this⟩
    have hlen := ofF_len (fs.map lawF)
    rw [List.length_map] at hlen
    rw [lawR_mk]
    split
    · exact ⟨by simp [rightV, onlyV, rises, V.kind, V.yes, V.num, V.text, V.list, V.fields], by simp [fewV, fewTop, V.text, V.list, V.fields], wf_0 _ (by unfold i64; decide) _ _⟩
    · split
      · exact ⟨by simp [rightV, onlyV, rises, V.kind, V.yes, V.num, V.text, V.list, V.fields], by simp [fewV, fewTop, V.text, V.list, V.fields], wf_int hw.n⟩
      · split
        · exact ⟨by simp [rightV, onlyV, rises, V.kind, V.yes, V.num, V.text, V.list, V.fields], by simp [fewV, fewTop, V.text, V.list, V.fields, h3], wf_0 _ (by unfold i64; decide) _ _⟩
        · split
          · refine ⟨?_, ?_, .mk _ _ _ _ _ _ (by unfold i64; decide) i64_0 (fun x hx => (hl x hx).2.2) (fun _ h => by cases h)⟩
            · have : (l.map lawR).all (rightV n) = true := by rw [List.all_eq_true]; exact fun x hx => (hl x hx).1
              rw [rightV]
              simp only [V.fields, V.list, this, rises, Bool.and_true, List.all_nil]; rfl
            · have : (l.map lawR).all (fewV n) = true := by rw [List.all_eq_true]; exact fun x hx => (hl x hx).2.1
              rw [fewV]
              simp only [fewTop, V.fields, V.list, V.text, this, List.all_nil, Bool.and_true, List.length_map, List.length_nil]
              simp [h1]
          · split
            · refine ⟨?_, ?_, .mk _ _ _ _ _ _ (by unfold i64; decide) i64_0 (fun _ h => by cases h) (fun f hf' => (hf f hf').2.2.2)⟩
              · have : (ofF (fs.map lawF)).all (fun f => rightV n f.val) = true := by rw [List.all_eq_true]; exact fun x hx => (hf x hx).2.1
                rw [rightV]
                simp only [ofMapV, V.fields, V.list, this, ofF_rises, Bool.and_true, List.all_nil]; rfl
              · have : ((ofF (fs.map lawF)).all fun f => decide (f.name.length ≤ 40) && fewV n f.val) = true := by
                  rw [List.all_eq_true]; intro x hx
                  have := hf x hx
                  simp [this.1, this.2.2.1]
                rw [fewV]
                simp only [ofMapV, fewTop, V.fields, V.list, V.text, this, List.all_nil, Bool.and_true, List.length_nil]
                have e : (ofF (fs.map lawF)).length ≤ 8 := by omega
                simp [e]
            · exact ⟨by simp [rightV, onlyV, rises, V.kind, V.yes, V.num, V.text, V.list, V.fields], by simp [fewV, fewTop, V.text, V.list, V.fields], wf_0 _ i64_0 _ _⟩
theorem right_mono : ∀ (n m : Nat) (v : V), n ≤ m → rightV n v = true → rightV m v = true
  | 0, _, _, _, h => by simp [rightV] at h
  | n + 1, m, v, hm, h => by
    obtain ⟨k, rfl⟩ : ∃ k, m = k + 1 := ⟨m - 1, by omega⟩
    simp only [rightV, Bool.and_eq_true, List.all_eq_true] at h ⊢
    exact ⟨⟨h.1.1, fun f hf => right_mono n k _ (by omega) (h.1.2 f hf)⟩, fun x hx => right_mono n k _ (by omega) (h.2 x hx)⟩
mutual
def ordV : V → List UInt8
  | .mk k y i t l fs => UInt8.ofNat (k.toNat + 2) :: (if k = 1 then [if y then 3 else 2] else if k = 2 then encI i else if k = 3 then encT t else if k = 4 then ordL l ++ [1] else if k = 5 then ordFs fs ++ [1] else [])
def ordL : List V → List UInt8
  | [] => []
  | v :: l => ordV v ++ ordL l
def ordFs : List F → List UInt8
  | [] => []
  | .mk n v :: l => 2 :: encT n ++ ordV v ++ ordFs l
end
def ordF1 (f : F) : List UInt8 := 2 :: (encT f.name ++ ordV f.val)
theorem ordL_flat : ∀ l : List V, ordL l = l.flatMap ordV
  | [] => by simp [ordL]
  | v :: l => by rw [ordL, ordL_flat l]; rfl
theorem ordFs_flat : ∀ l : List F, ordFs l = l.flatMap ordF1
  | [] => by simp [ordFs]
  | .mk n v :: l => by rw [ordFs, ordFs_flat l]; simp [ordF1, F.name, F.val]
theorem ordV_mk (k : Int) (y : Bool) (i : Int) (t : List UInt8) (l : List V) (fs : List F) : ordV (.mk k y i t l fs) = UInt8.ofNat (k.toNat + 2) :: (if k = 1 then [if y then 3 else 2] else if k = 2 then encI i else if k = 3 then encT t else if k = 4 then l.flatMap ordV ++ [1] else if k = 5 then fs.flatMap ordF1 ++ [1] else []) := by
  rw [ordV, ordL_flat, ordFs_flat]
end Go.AV.Val
namespace Go.AV.Val
open Go.AV.Ord Go.AV.Oct
structure TwoB (Hs : HS) (tV : TypeId) (H : HS) (b : HB) : Prop where
  e0 : H.blks[Hs.nb]? = some (vBlk tV 0 false 0 [] nilS nilS)
  e1 : H.blks[Hs.nb + 1]? = some b
  ext : Ext Hs H
section
variable {Hs H : HS} {tV : TypeId} {b : HB}
theorem TwoB.start (Hs : HS) (tV : TypeId) {z : List AV} (b : HB) : TwoB Hs tV (((Hs.push tV (vs6 0 false 0 [] nilS nilS)).push tV z).setB (Hs.nb + 1) b) b := by
  have n1 : (Hs.push tV (vs6 0 false 0 [] nilS nilS)).nb = Hs.nb + 1 := push_nb
  refine ⟨by rw [setB_ne (by omega)]; exact push_ne push_at, ?_, ((((Ext.refl Hs).push _ _).push _ _).setB (by omega))⟩
  exact setB_at (b := ⟨tV, z, false⟩) (by rw [← n1]; exact push_at)
theorem TwoB.lt (h : TwoB Hs tV H b) : Hs.nb + 1 < H.nb := lt_nb h.e1
theorem TwoB.setv (h : TwoB Hs tV H b) (b' : HB) : TwoB Hs tV (H.setB (Hs.nb + 1) b') b' := ⟨by rw [setB_ne (by omega)]; exact h.e0, setB_at h.e1, h.ext.setB (by omega)⟩
theorem TwoB.psh {e : TypeId} {cs : List AV} {c : HB} (h : TwoB Hs tV H b) : TwoB Hs tV ((H.push e cs).setB H.nb c) b := by
  have := h.lt
  exact ⟨by rw [setB_ne (by omega)]; exact push_ne h.e0, by rw [setB_ne (by omega)]; exact push_ne h.e1, (h.ext.push _ _).setB (by omega)⟩
theorem TwoB.up {t : Option Nat} {n m : Nat} (h : TwoB Hs tV H b) (hn : NewTok Hs t) (hok : H.ok t m) : TwoB Hs tV (H.up t n) b := ⟨by rw [HS.up_blks]; exact h.e0, by rw [HS.up_blks]; exact h.e1, (h.ext.upN hn hok).1⟩
end
end Go.AV.Val
namespace Go.AV.Val
open Go.AV.Ord Go.AV.Oct
theorem byL_head {c d : UInt8} {x y : List UInt8} (h : c.toNat < d.toNat) : byL (c :: x) (d :: y) = -1 := by
  have : c < d := UInt8.lt_iff_toNat_lt.2 h
  exact byL_lt (by simp [Op.bytesLess, this])
theorem byL_head' {c d : UInt8} {x y : List UInt8} (h : d.toNat < c.toNat) : byL (c :: x) (d :: y) = 1 := by
  have : d < c := UInt8.lt_iff_toNat_lt.2 h
  exact byL_gt (by simp [Op.bytesLess, this])
theorem byL_cons (c : UInt8) (x y : List UInt8) : byL (c :: x) (c :: y) = byL x y := byL_append [c] x y
theorem ordV_head {d : Nat} {v : V} (h : rightV d v = true) : ∃ c r, ordV v = c :: r ∧ c.toNat = v.kind.toNat + 2 ∧ 0 ≤ v.kind ∧ v.kind ≤ 5 := by
  cases d with
  | zero => simp [rightV] at h
  | succ d =>
    obtain ⟨h1, _⟩ := right_only h
    obtain ⟨h0, h5, _⟩ := only_list h1
    cases v with
    | mk k y i t l fs =>
      simp only [V.kind] at h0 h5 ⊢
      exact ⟨_, _, ordV_mk .., ofNat_toNat (by omega), h0, h5⟩
def Agree {α : Type} (a b : α) (c : Int) (x y : List UInt8) : Prop := (a = b ∧ c = 0) ∨ (a ≠ b ∧ c ≠ 0 ∧ ∀ m o, byL (x ++ m) (y ++ o) = c)
theorem ordL_cmp {d : Nat} : ∀ (l l' : List V), (∀ x ∈ l, rightV d x = true) → (∀ x ∈ l', rightV d x = true) → (∀ x ∈ l, ∀ y ∈ l', Agree x y (cmpV x y) (ordV x) (ordV y)) → Agree l l' (cmpL l l') (l.flatMap ordV ++ [1]) (l'.flatMap ordV ++ [1])
  | [], [], _, _, _ => .inl ⟨rfl, cmpL_nn⟩
  | [], y :: l', _, h2, _ => by
    refine .inr ⟨by simp, by rw [cmpL_nc]; decide, fun m o => ?_⟩
    obtain ⟨c, r, e, hc, _⟩ := ordV_head (h2 y (by simp))
    rw [cmpL_nc, List.flatMap_cons, e]
    exact byL_head (by rw [hc]; show 1 < _; omega)
  | x :: l, [], h1, _, _ => by
    refine .inr ⟨by simp, by rw [cmpL_cn]; decide, fun m o => ?_⟩
    obtain ⟨c, r, e, hc, _⟩ := ordV_head (h1 x (by simp))
    rw [cmpL_cn, List.flatMap_cons, e]
    exact byL_head' (by rw [hc]; show 1 < _; omega)
  | x :: l, y :: l', h1, h2, h => by
    have ih := ordL_cmp l l' (fun z hz => h1 z (by simp [hz])) (fun z hz => h2 z (by simp [hz])) (fun a ha b hb => h a (by simp [ha]) b (by simp [hb]))
    rw [cmpL_cons]
    rcases h x (by simp) y (by simp) with ⟨rfl, h0⟩ | ⟨hne, h0, hb⟩
    · rw [h0]
      rcases ih with ⟨rfl, h3⟩ | ⟨hne, h3, hb⟩
      · exact .inl ⟨rfl, h3⟩
      · refine .inr ⟨by simpa using hne, h3, fun m o => ?_⟩
        rw [List.flatMap_cons, List.flatMap_cons, List.append_assoc, List.append_assoc, List.append_assoc, List.append_assoc, byL_append]
        have := hb m o
        rw [List.append_assoc, List.append_assoc] at this
        exact this
    · rw [if_pos h0]
      refine .inr ⟨fun e => hne (by injection e), h0, fun m o => ?_⟩
      rw [List.flatMap_cons, List.flatMap_cons, List.append_assoc, List.append_assoc, List.append_assoc, List.append_assoc]
      exact hb _ _
theorem ordF_cmp : ∀ (l l' : List F), (∀ x ∈ l, ∀ y ∈ l', Agree x.val y.val (cmpV x.val y.val) (ordV x.val) (ordV y.val)) → Agree l l' (cmpF l l') (l.flatMap ordF1 ++ [1]) (l'.flatMap ordF1 ++ [1])
  | [], [], _ => .inl ⟨rfl, cmpF_nn⟩
  | [], y :: l', _ => by
    refine .inr ⟨by simp, by rw [cmpF_nc]; decide, fun m o => ?_⟩
    rw [cmpF_nc, List.flatMap_cons]
    exact byL_head (by decide)
  | x :: l, [], _ => by
    refine .inr ⟨by simp, by rw [cmpF_cn]; decide, fun m o => ?_⟩
    rw [cmpF_cn, List.flatMap_cons]
    exact byL_head' (by decide)
  | x :: l, y :: l', h => by
    have ih := ordF_cmp l l' (fun a ha b hb => h a (by simp [ha]) b (by simp [hb]))
    rw [cmpF_cons]
    have e1 : ∀ m, (x :: l).flatMap ordF1 ++ [1] ++ m = 2 :: (encT x.name ++ (ordV x.val ++ (l.flatMap ordF1 ++ [1] ++ m))) := fun m => by simp [ordF1]
    have e2 : ∀ m, (y :: l').flatMap ordF1 ++ [1] ++ m = 2 :: (encT y.name ++ (ordV y.val ++ (l'.flatMap ordF1 ++ [1] ++ m))) := fun m => by simp [ordF1]
    by_cases hn : x.name = y.name
    · have hc : Lib.compareBytes x.name y.name = 0 := cb_eq.2 hn
      have hcf : cmpF1 x y = cmpV x.val y.val := by unfold cmpF1 orI; rw [hc]; simp
      rw [hcf]
      rcases h x (by simp) y (by simp) with ⟨hv, h0⟩ | ⟨hne, h0, hb⟩
      · have hxy : x = y := by
          rw [x.eta, y.eta, hn, hv]
        rw [h0]
        rcases ih with ⟨rfl, h3⟩ | ⟨hne, h3, hb⟩
        · exact .inl ⟨by rw [hxy], h3⟩
        · refine .inr ⟨by simpa [hxy] using hne, h3, fun m o => ?_⟩
          rw [e1, e2, byL_cons, hn, byL_append, hv, byL_append]
          exact hb m o
      · rw [if_pos h0]
        refine .inr ⟨fun e => hne (by injection e with e _; rw [e]), h0, fun m o => ?_⟩
        rw [e1, e2, byL_cons, hn, byL_append]
        exact hb _ _
    · have hc : ¬ Lib.compareBytes x.name y.name = 0 := fun e => hn (cb_eq.1 e)
      have hcf : cmpF1 x y = Lib.compareBytes x.name y.name := by unfold cmpF1 orI; rw [if_pos hc]
      rw [hcf, if_pos hc]
      refine .inr ⟨fun e => hn (by injection e with e _; rw [e]), hc, fun m o => ?_⟩
      rw [e1, e2, byL_cons, byL_encT hn, cb_byL]
theorem cmpI_ne {a b : Int} (h : a ≠ b) : cmpI a b ≠ 0 := by unfold cmpI; (repeat' split) <;> omega
theorem cmpI_self (a : Int) : cmpI a a = 0 := by simp [cmpI]
theorem encI_by {a b : Int} (ha : i64 a) (hb : i64 b) (h : a ≠ b) (m o : List UInt8) : byL (encI a ++ m) (encI b ++ o) = cmpI a b := by
  unfold cmpI
  by_cases h1 : a < b
  · rw [if_pos h1]
    exact byL_lt (less_ext (by rw [encI_len, encI_len]) (encI_less ha hb h1) m o)
  · rw [if_neg h1, if_pos (by omega)]
    exact byL_gt (less_ext (by rw [encI_len, encI_len]) (encI_less hb ha (by omega)) o m)
theorem cmpV_mm (k k' : Int) (y y' : Bool) (i i' : Int) (t t' : List UInt8) (l l' : List V) (fs fs' : List F) : cmpV (.mk k y i t l fs) (.mk k' y' i' t' l' fs') = if cmpI k k' ≠ 0 then cmpI k k' else if k = 1 then cmpI (yesI y) (yesI y') else if k = 2 then cmpI i i' else if k = 3 then Lib.compareBytes t t' else if k = 4 then cmpL l l' else if k = 5 then cmpF fs fs' else 0 := by rw [cmpV_mk]; rfl
theorem ordV_cmp : ∀ (d : Nat) (a b : V), rightV d a = true → rightV d b = true → WfV a → WfV b → Agree a b (cmpV a b) (ordV a) (ordV b)
  | 0, _, _, h, _, _, _ => by simp [rightV] at h
  | d + 1, a, b, ha, hb, wa, wb => by
    obtain ⟨a1, a2, a3, _⟩ := right_only ha
    obtain ⟨b1, b2, b3, _⟩ := right_only hb
    have iL := fun x hx y hy => ordV_cmp d x y (a3 x hx) (b3 y hy) (wa.l x hx) (wb.l y hy)
    have iF := fun x hx y hy => ordV_cmp d (F.val x) (F.val y) (a2 x hx) (b2 y hy) (wa.f x hx) (wb.f y hy)
    have wn := wa.n
    have wn' := wb.n
    obtain ⟨k, y, i, t, l, fs, rfl⟩ : ∃ k y n t l fs, a = .mk k y n t l fs := ⟨_, _, _, _, _, _, a.eta⟩
    obtain ⟨k', y', i', t', l', fs', rfl⟩ : ∃ k y n t l fs, b = .mk k y n t l fs := ⟨_, _, _, _, _, _, b.eta⟩
    rw [only_vals] at a1 b1
    simp only [V.list, V.fields, V.num] at a2 a3 b2 b3 iL iF wn wn'
    simp only [valsV, Bool.and_eq_true, Bool.or_eq_true, beq_iff_eq, List.isEmpty_iff] at a1 b1
    obtain ⟨⟨k0, k5⟩, ⟨⟨⟨⟨py, pi⟩, pt⟩, pl⟩, pf⟩⟩ := a1
    obtain ⟨⟨j0, j5⟩, ⟨⟨⟨⟨qy, qi⟩, qt⟩, ql⟩, qf⟩⟩ := b1
    replace k0 : 0 ≤ k := of_decide_eq_true k0
    replace k5 : k ≤ 5 := of_decide_eq_true k5
    replace j0 : 0 ≤ k' := of_decide_eq_true j0
    replace j5 : k' ≤ 5 := of_decide_eq_true j5
    rw [cmpV_mm, ordV_mk, ordV_mk]
    by_cases hk : k = k'
    · subst hk
      rw [cmpI_self, if_neg (fun h => h rfl)]
      have hcc : ∀ X Y m o, byL ((UInt8.ofNat (k.toNat + 2) :: X) ++ m) ((UInt8.ofNat (k.toNat + 2) :: Y) ++ o) = byL (X ++ m) (Y ++ o) := fun X Y m o => byL_cons ..
      by_cases h1 : k = 1
      · subst h1
        obtain rfl := pi.resolve_left (by decide)
        obtain rfl := pt.resolve_left (by decide)
        obtain rfl := pl.resolve_left (by decide)
        obtain rfl := pf.resolve_left (by decide)
        obtain rfl := qi.resolve_left (by decide)
        obtain rfl := qt.resolve_left (by decide)
        obtain rfl := ql.resolve_left (by decide)
        obtain rfl := qf.resolve_left (by decide)
        rw [if_pos rfl, if_pos rfl, if_pos rfl]
        by_cases h : y = y'
        · subst h; exact .inl ⟨rfl, cmpI_self _⟩
        · refine .inr ⟨fun e => h (by injection e), ?_, fun m o => ?_⟩
          · cases y <;> cases y' <;> first | exact absurd rfl h | decide
          · rw [hcc]
            cases y <;> cases y' <;> first | exact absurd rfl h | exact byL_head (by decide) | exact byL_head' (by decide)
      · obtain rfl := py.resolve_left h1
        obtain rfl := qy.resolve_left h1
        rw [if_neg h1, if_neg h1, if_neg h1]
        by_cases h2 : k = 2
        · subst h2
          obtain rfl := pt.resolve_left (by decide)
          obtain rfl := pl.resolve_left (by decide)
          obtain rfl := pf.resolve_left (by decide)
          obtain rfl := qt.resolve_left (by decide)
          obtain rfl := ql.resolve_left (by decide)
          obtain rfl := qf.resolve_left (by decide)
          rw [if_pos rfl, if_pos rfl, if_pos rfl]
          by_cases h : i = i'
          · subst h; exact .inl ⟨rfl, cmpI_self _⟩
          · exact .inr ⟨fun e => h (by injection e), cmpI_ne h, fun m o => by rw [hcc]; exact encI_by wn wn' h m o⟩
        · obtain rfl := pi.resolve_left h2
          obtain rfl := qi.resolve_left h2
          rw [if_neg h2, if_neg h2, if_neg h2]
          by_cases h3 : k = 3
          · subst h3
            obtain rfl := pl.resolve_left (by decide)
            obtain rfl := pf.resolve_left (by decide)
            obtain rfl := ql.resolve_left (by decide)
            obtain rfl := qf.resolve_left (by decide)
            rw [if_pos rfl, if_pos rfl, if_pos rfl]
            by_cases h : t = t'
            · subst h; exact .inl ⟨rfl, cb_eq.2 rfl⟩
            · exact .inr ⟨fun e => h (by injection e), fun e => h (cb_eq.1 e), fun m o => by rw [hcc, byL_encT h, cb_byL]⟩
          · obtain rfl := pt.resolve_left h3
            obtain rfl := qt.resolve_left h3
            rw [if_neg h3, if_neg h3, if_neg h3]
            by_cases h4 : k = 4
            · subst h4
              obtain rfl := pf.resolve_left (by decide)
              obtain rfl := qf.resolve_left (by decide)
              rw [if_pos rfl, if_pos rfl, if_pos rfl]
              rcases ordL_cmp l l' a3 b3 iL with ⟨rfl, h⟩ | ⟨hne, h, hh⟩
              · exact .inl ⟨rfl, h⟩
              · exact .inr ⟨fun e => hne (by injection e), h, fun m o => by rw [hcc]; exact hh m o⟩
            · obtain rfl := pl.resolve_left h4
              obtain rfl := ql.resolve_left h4
              rw [if_neg h4, if_neg h4, if_neg h4]
              by_cases h5 : k = 5
              · subst h5
                rw [if_pos rfl, if_pos rfl, if_pos rfl]
                rcases ordF_cmp fs fs' iF with ⟨rfl, h⟩ | ⟨hne, h, hh⟩
                · exact .inl ⟨rfl, h⟩
                · exact .inr ⟨fun e => hne (by injection e), h, fun m o => by rw [hcc]; exact hh m o⟩
              · obtain rfl := pf.resolve_left h5
                obtain rfl := qf.resolve_left h5
                rw [if_neg h5]
                exact .inl ⟨rfl, rfl⟩
    · rw [if_pos (cmpI_ne hk)]
      refine .inr ⟨fun e => hk (by injection e), cmpI_ne hk, fun m o => ?_⟩
      have e1 : (UInt8.ofNat (k.toNat + 2)).toNat = k.toNat + 2 := ofNat_toNat (by omega)
      have e2 : (UInt8.ofNat (k'.toNat + 2)).toNat = k'.toNat + 2 := ofNat_toNat (by omega)
      unfold cmpI
      by_cases h : k < k'
      · rw [if_pos h]; exact byL_head (by rw [e1, e2]; omega)
      · rw [if_neg h, if_pos (show k' < k by omega)]; exact byL_head' (by rw [e1, e2]; omega)
section
variable {d : Nat} {a b c : V}
theorem byL_vals (x y : List UInt8) : byL x y = -1 ∨ byL x y = 0 ∨ byL x y = 1 := by
  unfold byL
  split
  · exact .inl rfl
  · split
    · exact .inr (.inr rfl)
    · exact .inr (.inl rfl)
theorem byL_neg (x y : List UInt8) : byL y x = - byL x y := by
  by_cases h : x = y
  · subst h; rw [byL_self]; rfl
  · by_cases h1 : Op.bytesLess x y = true
    · rw [byL_lt h1, byL_gt h1]; rfl
    · have h2 : Op.bytesLess y x = true := by rw [less_total h]; simpa using h1
      rw [byL_lt h2, byL_gt h2]
theorem byL_trans {x y z : List UInt8} (h : byL x y = byL y z) : byL x z = byL x y := by
  rcases byL_vals x y with h1 | h1 | h1
  · have h2 := h.symm.trans h1
    have l1 : Op.bytesLess x y = true := by
      cases hc : Op.bytesLess x y with
      | true => rfl
      | false => unfold byL at h1; rw [hc] at h1; simp at h1; split at h1 <;> cases h1
    have l2 : Op.bytesLess y z = true := by
      cases hc : Op.bytesLess y z with
      | true => rfl
      | false => unfold byL at h2; rw [hc] at h2; simp at h2; split at h2 <;> cases h2
    rw [byL_lt (less_trans l1 l2), h1]
  · have := byL_zero h1
    subst this
    rw [h]
  · have h2 := h.symm.trans h1
    have n1 := byL_neg x y
    have n2 := byL_neg y z
    rw [h1] at n1
    rw [h2] at n2
    have l1 : Op.bytesLess y x = true := by
      cases hc : Op.bytesLess y x with
      | true => rfl
      | false => unfold byL at n1; rw [hc] at n1; simp at n1; split at n1 <;> cases n1
    have l2 : Op.bytesLess z y = true := by
      cases hc : Op.bytesLess z y with
      | true => rfl
      | false => unfold byL at n2; rw [hc] at n2; simp at n2; split at n2 <;> cases n2
    rw [byL_gt (less_trans l2 l1), h1]
theorem ord_apart (ha : rightV d a = true) (hb : rightV d b = true) (wa : WfV a) (wb : WfV b) (h : ¬ cmpV a b = 0) (p : List UInt8) : begins (p ++ ordV a) (p ++ ordV b) = false := by
  cases hc : begins (p ++ ordV a) (p ++ ordV b) with
  | false => rfl
  | true =>
    obtain ⟨r, hr⟩ := begins_iff.1 hc
    rw [List.append_assoc] at hr
    have hr := List.append_cancel_left hr
    rcases ordV_cmp d a b ha hb wa wb with ⟨_, h0⟩ | ⟨_, h0, h2⟩
    · exact absurd h0 h
    · have := h2 [] r
      rw [List.append_nil, hr, byL_self] at this
      exact absurd this.symm h0
end
end Go.AV.Val
namespace Go.AV.Val
open Go.AV.Ord Go.AV.Oct
section
variable {P : Program} {E : Operand → AV} {H : HS} {dst : Option Tmp} {ty : TypeId} {pos : String} {after : Array Edge} {gd : Option (Nat × Bool)}
end
end Go.AV.Val
namespace Go.AV
end Go.AV
namespace Go.AV.Val
open Go.AV.Ord Go.AV.Oct
theorem only_parts {k : Int} {y : Bool} {i : Int} {tx : List UInt8} {ls : List V} {fs : List F} (h : onlyV (.mk k y i tx ls fs) = true) : (k ≠ 1 → y = false) ∧ (k ≠ 2 → i = 0) ∧ (k ≠ 3 → tx = []) ∧ (k ≠ 4 → ls = []) ∧ (k ≠ 5 → fs = []) := by
  simp only [onlyV, V.kind, V.yes, V.num, V.text, V.list, V.fields, Bool.and_eq_true, Bool.or_eq_true, beq_iff_eq, List.isEmpty_iff] at h
  obtain ⟨⟨⟨⟨⟨⟨_, _⟩, h1⟩, h2⟩, h3⟩, h4⟩, h5⟩ := h
  exact ⟨fun e => h1.resolve_left e, fun e => h2.resolve_left e, fun e => h3.resolve_left e, fun e => h4.resolve_left e, fun e => h5.resolve_left e⟩
section
variable {k : Int} {y : Bool} {i : Int} {tx : List UInt8} {ls : List V} {fs : List F} {o : V}
end
end Go.AV.Val
namespace Go.AV.Patch
open Go.AV.Ord Go.AV.Oct Go.AV.Val
def getF (fs : List F) (n : List UInt8) : Option V := (fs.find? fun f => f.name == n).map F.val
def getV (v : V) (n : List UInt8) : V × Bool := match getF v.fields n with
  | some x => (x, decide (v.kind = 5))
  | none => (V0, false)
def withV (v : V) (n : List UInt8) (x : V) : V := if v.kind = 5 then ofMapV (v.fields ++ [⟨n, x⟩]) else v
def withoutV (v : V) (n : List UInt8) : V := .mk v.kind v.yes v.num v.text v.list (v.fields.filter fun f => !(f.name == n))
structure Opn where
  kind : Int
  path : List (List UInt8)
  val : V
def rightO (o : Opn) : Bool := decide (1 ≤ o.kind) && decide (o.kind ≤ 3) && decide (0 < o.path.length) && decide (o.path.length ≤ 16) && rightV 32 o.val && (decide (o.kind ≠ 3) || decide (o.val.kind = 2)) && (decide (o.kind ≠ 2) || decide (o.val.kind = 0))
def addI (a b : Int) : Int × Bool := (IntKind.i64.wrap (a + b), decide (IntKind.i64.wrap (a + b) > a) == decide (b > 0))
def lastV (o : Opn) (v : V) (n : List UInt8) : V × Int :=
  if o.kind = 1 then (withV v n o.val, 0)
  else if (getV v n).2 = false then (V0, 5)
  else if o.kind = 2 then (withoutV v n, 0)
  else if (getV v n).1.kind ≠ 2 then (V0, 1)
  else if (addI (getV v n).1.num o.val.num).2 = false then (V0, 1)
  else (withV v n (ofInt (addI (getV v n).1.num o.val.num).1), 0)
def atV (o : Opn) : V → List (List UInt8) → V × Int
  | v, [] => if v.kind ≠ 5 then (V0, 5) else (V0, 5)
  | v, [n] => if v.kind ≠ 5 then (V0, 5) else lastV o v n
  | v, n :: m :: p => if v.kind ≠ 5 then (V0, 5) else if (getV v n).2 = false then (V0, 5) else
      if (atV o (getV v n).1 (m :: p)).2 ≠ 0 then (V0, (atV o (getV v n).1 (m :: p)).2) else (withV v n (atV o (getV v n).1 (m :: p)).1, 0)
def allV : V → List Opn → V × Int
  | v, [] => if rightV 32 v then (v, 0) else (V0, 3)
  | v, o :: l => if (atV o v o.path).2 ≠ 0 then (V0, (atV o v o.path).2) else allV (atV o v o.path).1 l
def applyV (v : V) (l : List Opn) : V × Int := if 50 < l.length then (V0, 4) else if l.all rightO then allV v l else (V0, 1)
theorem putF_snoc : ∀ (l : List F) (f : F), (∀ x ∈ l, Go.Op.bytesLess x.name f.name = true) → putF l f = l ++ [f]
  | [], f, _ => rfl
  | g :: l, f, h => by
    rw [putF, if_pos (h g (by simp)), putF_snoc l f fun x hx => h x (by simp [hx])]
    rfl
theorem rises_mid : ∀ {l : List F} {f : F} {m : List F}, rises (l ++ f :: m) = true → ∀ x ∈ l, Go.Op.bytesLess x.name f.name = true
  | [], _, _, _, x, hx => by cases hx
  | g :: l, f, m, h, x, hx => by
    rcases List.mem_cons.1 hx with rfl | hx
    · exact rises_all h f (by simp)
    · exact rises_mid (rises_tail h) x hx
theorem foldl_self : ∀ (fs l : List F), rises (l ++ fs) = true → fs.foldl putF l = l ++ fs
  | [], l, _ => by simp
  | f :: fs, l, h => by
    rw [List.foldl_cons, putF_snoc l f (rises_mid h), foldl_self fs (l ++ [f]) (by simpa using h)]
    simp
theorem ofF_self {fs : List F} (h : rises fs = true) : ofF fs = fs := foldl_self fs [] h
theorem ofF_snoc (fs : List F) (f : F) : ofF (fs ++ [f]) = putF (ofF fs) f := by simp [ofF, List.foldl_append]
theorem getF_cons (g : F) (l : List F) (n : List UInt8) : getF (g :: l) n = if g.name = n then some g.val else getF l n := by
  unfold getF
  by_cases h : g.name = n
  · rw [if_pos h, List.find?_cons_of_pos (by simpa using h)]; rfl
  · rw [if_neg h, List.find?_cons_of_neg (by simpa using h)]
theorem getF_put : ∀ (l : List F) (f : F), getF (putF l f) f.name = some f.val
  | [], f => by rw [putF, getF_cons, if_pos rfl]
  | g :: l, f => by
    rw [putF]
    split
    · rename_i h
      rw [getF_cons, if_neg fun e => by rw [e, less_irrefl] at h; cases h]
      exact getF_put l f
    · split
      · rw [getF_cons, if_pos rfl]
      · rw [getF_cons, if_pos rfl]
theorem getF_other : ∀ (l : List F) (f : F) (n : List UInt8), ¬ f.name = n → getF (putF l f) n = getF l n
  | [], f, n, h => by rw [putF, getF_cons, if_neg h]
  | g :: l, f, n, h => by
    rw [putF]
    split
    · rw [getF_cons, getF_cons, getF_other l f n h]
    · split
      · rename_i h2
        have e : g.name = f.name := by simpa using h2
        rw [getF_cons, getF_cons, if_neg h, if_neg (by rw [e]; exact h)]
      · rw [getF_cons f, if_neg h]
theorem getF_none : ∀ {l : List F} {n : List UInt8}, (∀ x ∈ l, ¬ x.name = n) → getF l n = none
  | [], _, _ => rfl
  | g :: l, n, h => by rw [getF_cons, if_neg (h g (by simp)), getF_none fun x hx => h x (by simp [hx])]
theorem getF_below {g : F} {l : List F} {n : List UInt8} (h : rises (g :: l) = true) (hn : n = g.name ∨ Go.Op.bytesLess n g.name = true) : getF l n = none := by
  refine getF_none fun x hx e => ?_
  have h1 := rises_all h x hx
  rcases hn with rfl | hn
  · exact less_ne h1 e.symm
  · exact less_ne (less_trans hn h1) e.symm
theorem fields_ext : ∀ {l m : List F}, rises l = true → rises m = true → (∀ n, getF l n = getF m n) → l = m
  | [], [], _, _, _ => rfl
  | [], g :: m, _, _, h => by have h1 := h g.name; rw [getF_cons, if_pos rfl] at h1; cases h1
  | f :: l, [], _, _, h => by have h1 := h f.name; rw [getF_cons, if_pos rfl] at h1; cases h1
  | f :: l, g :: m, hl, hm, h => by
    have hn : f.name = g.name := by
      by_cases e : f.name = g.name
      · exact e
      · exfalso
        by_cases hlt : Go.Op.bytesLess f.name g.name = true
        · have h1 := h f.name
          rw [getF_cons, if_pos rfl, getF_cons, if_neg fun e2 => e e2.symm, getF_below hm (.inr hlt)] at h1
          cases h1
        · have hgt : Go.Op.bytesLess g.name f.name = true := by rw [less_total e]; simpa using hlt
          have h1 := h g.name
          rw [getF_cons f, if_neg e, getF_cons g, if_pos rfl, getF_below hl (.inr hgt)] at h1
          cases h1
    have hv : f.val = g.val := by
      have h1 := h f.name
      rw [getF_cons, if_pos rfl, getF_cons, if_pos hn.symm] at h1
      exact Option.some.inj h1
    have hfg : f = g := by
      cases f; cases g
      simp only [F.name, F.val] at hn hv
      rw [hn, hv]
    have ht : l = m := fields_ext (rises_tail hl) (rises_tail hm) fun n => by
      by_cases e : f.name = n
      · rw [getF_below hl (.inl e.symm), getF_below hm (.inl (e.symm.trans hn))]
      · have h1 := h n
        rwa [getF_cons, if_neg e, getF_cons, if_neg (by rw [← hn]; exact e)] at h1
    rw [hfg, ht]
def delF (l : List F) (n : List UInt8) : List F := l.filter fun f => !(f.name == n)
theorem delF_cons (g : F) (l : List F) (n : List UInt8) : delF (g :: l) n = if g.name = n then delF l n else g :: delF l n := by
  unfold delF
  by_cases h : g.name = n
  · rw [if_pos h, List.filter_cons_of_neg (by simpa using h)]
  · rw [if_neg h, List.filter_cons_of_pos (by simpa using h)]
theorem getF_del : ∀ (l : List F) (n m : List UInt8), getF (delF l n) m = if m = n then none else getF l m
  | [], n, m => by split <;> rfl
  | g :: l, n, m => by
    rw [delF_cons]
    by_cases h : g.name = n
    · rw [if_pos h, getF_del l n m]
      by_cases e : m = n
      · rw [if_pos e, if_pos e]
      · rw [if_neg e, if_neg e, getF_cons, if_neg (by rw [h]; exact fun x => e x.symm)]
    · rw [if_neg h, getF_cons, getF_del l n m, getF_cons]
      by_cases e : m = n
      · rw [if_pos e, if_pos e, if_neg (by rw [e]; exact h)]
      · rw [if_neg e, if_neg e]
theorem rises_del : ∀ {l : List F} (n : List UInt8), rises l = true → rises (delF l n) = true
  | [], _, _ => rfl
  | g :: l, n, h => by
    rw [delF_cons]
    split
    · exact rises_del n (rises_tail h)
    · exact rises_cons (fun x hx => rises_all h x (List.mem_filter.1 hx).1) (rises_del n (rises_tail h))
theorem del_put {l : List F} {f : F} (hl : rises l = true) (h : getF l f.name = none) : delF (putF l f) f.name = l := by
  refine fields_ext (rises_del _ (putF_rises _ hl)) hl fun m => ?_
  rw [getF_del]
  by_cases e : m = f.name
  · rw [if_pos e, e, h]
  · rw [if_neg e, getF_other _ _ _ fun x => e x.symm]
end Go.AV.Patch
namespace Go.AV.Patch
open Go.AV.Ord Go.AV.Oct Go.AV.Val
theorem atV_one (o : Opn) (v : V) (n : List UInt8) : atV o v [n] = if v.kind ≠ 5 then (V0, 5) else lastV o v n := by rw [atV]
theorem atV_more (o : Opn) (v : V) (n m : List UInt8) (p : List (List UInt8)) : atV o v (n :: m :: p) = if v.kind ≠ 5 then (V0, 5) else if (getV v n).2 = false then (V0, 5) else
      if (atV o (getV v n).1 (m :: p)).2 ≠ 0 then (V0, (atV o (getV v n).1 (m :: p)).2) else (withV v n (atV o (getV v n).1 (m :: p)).1, 0) := by rw [atV]
theorem rightO_eq (o : Opn) : rightO o = (decide (1 ≤ o.kind) && decide (o.kind ≤ 3) && decide (0 < o.path.length) && decide (o.path.length ≤ 16) && rightV 32 o.val && (decide (o.kind ≠ 3) || decide (o.val.kind = 2)) && (decide (o.kind ≠ 2) || decide (o.val.kind = 0))) := rfl
theorem allV_cons (v : V) (o : Opn) (l : List Opn) : allV v (o :: l) = if (atV o v o.path).2 ≠ 0 then (V0, (atV o v o.path).2) else allV (atV o v o.path).1 l := by rw [allV]
theorem getV_some {v x : V} {n : List UInt8} (h : getF v.fields n = some x) : getV v n = (x, decide (v.kind = 5)) := by unfold getV; rw [h]
theorem getV_none {v : V} {n : List UInt8} (h : getF v.fields n = none) : getV v n = (V0, false) := by unfold getV; rw [h]
end Go.AV.Patch
namespace Go.AV
open Go.RowKit
section
variable {P : Program} {E : Operand → AV} {H : HS} {dst : Option Tmp} {ty : TypeId} {pos : String} {after : Array Edge} {gd : Option (Nat × Bool)}
theorem equalIn_slice0 (w : World) (d : Nat) {t el : TypeId} (ht : P.underlying t = some (.slice el)) (a : Option Addr) (n c : Nat) : (Op.equalIn (d + 1) t (.slice a n c) (.slice none 0 0)).run P w = .ok a.isNone w := by
  cases a <;> simp [Op.equalIn, run_underlying ht]
theorem op_nilL {x y : Operand} {t t' el : TypeId} {sz : Nat} {xs : List DV} (ht : P.underlying t = some (.slice el)) (hx : LL (E x) sz xs) (hy : E y = nilS) :
    OpR P ⟨dst, .binOp .eql t x y t', ty, pos, after, gd⟩ E H (fun av H' => ∃ b, av = .d (TF b) ∧ (b = true → xs = []) ∧ H = H') :=
  opR_value fun B w0 c w a hI hops => by
    have h1 := hops x (by simp [Op.operands])
    have h2 := hops y (by simp [Op.operands])
    rw [hy] at h2
    obtain ⟨ad, n, cap, e, hr⟩ := hx.rep h1
    have hb : (binOp .eql t (.slice ad n cap) (.slice none 0 0)).run P w = .ok (.bool ad.isNone) w := by
      simp only [binOp]
      simp [Op.equal, Op.maxDepth, equalIn_slice0 w 9999 ht]
    refine ⟨.bool ad.isNone, w, c, .d (TF ad.isNone), H, ?_, Le.refl c, .d (.v _ rfl), hI, ad.isNone, rfl, fun h => ?_, rfl⟩
    · simp [execOp, e, h2.v_eq, eqGuard, hb]
    · cases hr with
      | lst => cases h
      | lstE => rfl
theorem op_clear {x : Operand} {t e : TypeId} {z : Value} {sz id off n cap : Nat} {b : HB} (ht : P.underlying t = some (.slice e)) (hz : (P.info? e).map (fun i => (i.zero, i.size)) = some (some z, sz)) (hzs : z.cells.size = sz) (hz1 : ∀ u ∈ z.cells.toList, u.oneCell' = true) (hsz : 0 < sz)
    (hx : E x = .sub id off n cap) (hb : H.blks[id]? = some b) (hn : 0 < n) (hfit : off + n * sz ≤ b.cs.length) (hfz : b.frz = false) :
    OpR P ⟨dst, .call ⟨.builtin .clear, #[x], #[t]⟩, ty, pos, after, gd⟩ E H (Ret (.tup []) (H.put id off (List.replicate (n * sz) .un))) :=
  opR_value fun B w0 c w a hI hops => by
    obtain ⟨inf, hi1, hi2⟩ := Option.map_eq_some_iff.1 hz
    simp only [Prod.mk.injEq] at hi2
    obtain ⟨hi2, hi3⟩ := hi2
    have hzv : ∀ w, (zeroValue e).run P w = .ok z w := fun w => by simp [zeroValue, typeInfo, hi1, hi2]
    have q1 := hops x (by simp [Op.operands, Call.operands])
    rw [hx] at q1
    obtain ⟨g, hg, e1⟩ := sub_val q1
    obtain ⟨p1, p2, cur, fr, p3, p4, p5, p6⟩ := hI.blk id g b hg hb
    have hzl : (Builtin.zeroCells z.cells n).toList.length = n * sz := by rw [Array.length_toList, size_zeroCells, hzs]
    have i1 := hI.putBlk id g off b hg hb (Builtin.zeroCells z.cells n).toList (List.replicate (n * sz) .un) (by rw [hzl, List.length_replicate]) (fun j hj hj' => by rw [List.getElem_replicate]; exact .un _) (by rw [List.length_replicate]; exact hfit) cur _ fr p3
    have hst := run_storeCells_fr P g off b.elem fr (Builtin.zeroCells z.cells n).toList 0 cur w p3 (fun o _ => p5 hfz o) (by rw [hzl]; have p4' : cur.size = b.cs.length := p4; omega) (fun v hvm => by
      simp only [Builtin.zeroCells, Array.toList_map, List.mem_map] at hvm
      obtain ⟨k, _, rfl⟩ := hvm
      have hlt : k % z.cells.size < z.cells.size := Nat.mod_lt _ (by omega)
      rw [getElem!_pos z.cells _ hlt]
      exact hz1 _ (by simp))
    simp only [Nat.add_zero] at hst
    refine ⟨.tuple #[], _, c, .tup [], H.put id off (List.replicate (n * sz) .un), ?_, Le.refl c, .tup _ _ rfl (fun i hi => by simp at hi), i1, rfl, rfl⟩
    obtain ⟨m, rfl⟩ : ∃ m, n = m + 1 := ⟨n - 1, by omega⟩
    simp [execOp, resolve, invoke, builtin, e1, Builtin.clear_, run_underlying ht, hzv, hst]
def clT (H : HS) : List DV → Option Nat
  | [] => none
  | _ :: _ => some (H.tk none)
abbrev clV (H : HS) (sz : Nat) (xs : List DV) : AV := .own (clT H xs) sz xs
def clH (H : HS) : List DV → HS
  | [] => H
  | x :: xs => H.up none (x :: xs).length
theorem clOk (H : HS) (xs : List DV) : (clH H xs).ok (clT H xs) xs.length := by
  cases xs with
  | nil => exact HS.ok_none _ _
  | cons x xs => exact HS.ok_up H none _ (HS.ok_none H 0)
theorem clH_blks (H : HS) (xs : List DV) : (clH H xs).blks = H.blks := by
  cases xs with
  | nil => rfl
  | cons x xs => simp [clH, HS.up_blks]
theorem clExt {B H : HS} (h : Ext B H) (xs : List DV) : Ext B (clH H xs) := by
  cases xs with
  | nil => exact h
  | cons x xs => exact h.new _
theorem clNew {B H : HS} (h : Ext B H) (xs : List DV) : NewTok B (clT H xs) := by
  obtain ⟨l, hl⟩ := h.toks
  cases xs with
  | nil => exact NewTok.none _
  | cons x xs => intro i hi; cases hi; simp [HS.tk, hl]
theorem weak_nil_own (sz : Nat) : Weak nilS (.own none sz []) := fun c x h => by
  have := h.v_eq
  subst this
  exact .own0 sz
end
end Go.AV
namespace Go.AV
def Wk (R : AV → HS → Prop) : AV → HS → Prop := fun v H => ∃ v', Weak v v' ∧ R v' H
section
variable {P : Program} {T : List AV} {H : HS} {rs : Array ResultVar} {R : AV → HS → Prop}
theorem acalls_of_awCW {f : FuncId} {fn : Func} {k : Code} {args : List AV} (hf : P.funcs[f]? = some fn) (hb : fn.body = some k)
    (h : AW P k (RetPostC P fn.results (Wk R)) (args ++ List.replicate (fn.ntmps - args.length) .un) H) : ACalls P f args H R := (acalls_of_awC hf hb h).weak fun _ _ h => h
inductive ResD (P : Program) (T : List AV) (H : HS) : ResultVar → DV → Prop
  | tmp {t : Tmp} {x : DV} (h : T[t]? = some (.d x)) : ResD P T H (.tmp t) x
  | tmpW {t : Tmp} {v : AV} (x : DV) (h : T[t]? = some v) (hw : Weak v (.d x)) : ResD P T H (.tmp t) x
  | cell {a : Tmp} {ty : TypeId} {d : TypeDesc} {id off : Nat} {b : HB} {v : AV} (x : DV) (ht : P.underlying ty = some d) (hd : notAgg d = true) (hx : T[a]? = some (.ptr id off)) (hb : H.blks[id]? = some b) (hv : b.cs[off]? = some v) (hw : Weak v (.d x)) : ResD P T H (.cell a ty) x
  | cells {a : Tmp} {ty : TypeId} {d : TypeDesc} {id n : Nat} {b : HB} (ds : List DV) (ht : P.underlying ty = some d) (hd : notAgg d = false) (hn : (P.info? ty).map (·.size) = some n) (hx : T[a]? = some (.ptr id 0)) (hb : H.blks[id]? = some b)
      (hl : b.cs.length = n) (hw : Weaks b.cs (ds.map .d)) (h1 : ∀ d ∈ ds, d.one = true) : ResD P T H (.cell a ty) (.agg ds)
theorem ResD.res {r : ResultVar} {x : DV} (h : ResD P T H r x) : ∃ v, Res1 P T H r v ∧ Weak v (.d x) := by
  cases h with
  | tmp h => exact ⟨_, .tmp h, Weak.refl _⟩
  | tmpW x h hw => exact ⟨_, .tmp h, hw⟩
  | cell x ht hd hx hb hv hw => exact ⟨_, .cell ht hd hx hb hv, hw⟩
  | @cells a ty d id n b ds ht hd hn hx hb hl hw h1 =>
    refine ⟨_, .cells ht hd hn hx hb (by omega) rfl, ?_⟩
    rw [List.drop_zero, List.take_of_length_le (by omega)]
    exact Weak.aggD hw h1
theorem retD1 {r : ResultVar} {x : DV} (hr : rs = #[r]) (h1 : ResD P T H r x) (h : R (.d x) H) : RetPostC P rs (Wk R) .ret T H := by
  obtain ⟨v, a, b⟩ := h1.res
  exact retC1 hr a ⟨_, b, h⟩
theorem retD2 {r s : ResultVar} {x y : DV} (hr : rs = #[r, s]) (h1 : ResD P T H r x) (h2 : ResD P T H s y) (h : R (.tup [.d x, .d y]) H) : RetPostC P rs (Wk R) .ret T H := by
  obtain ⟨v, a, b⟩ := h1.res
  obtain ⟨u, c, d⟩ := h2.res
  exact retC2 hr a c ⟨_, Weak.tup (.cons b (.cons d .nil)), h⟩
end
namespace Val
open Go.AV.Ord Go.AV.Oct
abbrev vB (t : TypeId) (v : V) : HB := ⟨t, (vC v).map .d, false⟩
def VBl (t : TypeId) (b : HB) (v : V) : Prop := b.elem = t ∧ b.frz = false ∧ b.cs.length = 6 ∧ Weaks b.cs ((vC v).map .d)
theorem VBl.v (t : TypeId) (v : V) : VBl t (vB t v) v := ⟨rfl, rfl, by simp [vC_len], weaks_refl _⟩
theorem VBl.z (t : TypeId) : VBl t (vBlk t 0 false 0 [] nilS nilS) V0 := ⟨rfl, rfl, rfl, weak6 weak_nilL weak_nilF⟩
section
variable {P : Program} {E : Operand → AV} {H : HS} {dst : Option Tmp} {ty : TypeId} {pos : String} {after : Array Edge} {gd : Option (Nat × Bool)}
theorem resV {T : List AV} {t : TypeId} {a : Tmp} {d : TypeDesc} {id : Nat} {b : HB} (v : V) (ht : P.underlying t = some d) (hd : notAgg d = false) (hn : (P.info? t).map (·.size) = some 6) (hx : T[a]? = some (.ptr id 0)) (hb : H.blks[id]? = some b) (hv : VBl t b v) : ResD P T H (.cell a t) (.agg (vC v)) :=
  .cells (vC v) ht hd hn hx hb hv.2.2.1 hv.2.2.2 (vC_one v)
theorem op_stV {x y : Operand} {t : TypeId} {id : Nat} {b : HB} {v : V} (w : V) (hn : (P.info? t).map (·.size) = some 6) (hx : E x = .ptr id 0) (hb : H.blks[id]? = some b) (hv : VBl t b v) (hy : E y = .d (.agg (vC w))) : OpR P ⟨dst, .store t x y, ty, pos, after, gd⟩ E H (Ret .un (H.setB id (vB t w))) := by
  obtain ⟨e1, e2, e3, _⟩ := hv
  refine op_storeV w hn hx hb hy (by omega) e2 ?_
  obtain ⟨el, cs, fz⟩ := b
  simp only at e1 e2 e3
  subst e1 e2
  match cs, e3 with
  | [_, _, _, _, _, _], _ => unfold vB; rw [vC_eq w]; rfl
theorem op_ldV1 {x : Operand} {t tt : TypeId} {d : TypeDesc} {id k : Nat} {b : HB} {v : V} {y : DV} (ht : P.underlying tt = some d) (hd : notAgg d = true) (hx : E x = .ptr id k) (hb : H.blks[id]? = some b) (hv : VBl t b v) (hk : ([I v.kind, TF v.yes, .v (.int .i64 v.num), S v.text, .lst 6 (v.list.map vD), .lst 7 (v.fields.map fD)] : List DV)[k]? = some y) : OpR P ⟨dst, .load tt x, ty, pos, after, gd⟩ E H (Ret (.d y) H) := by
  obtain ⟨e1, e2, e3, e4⟩ := hv
  have hk6 : k < b.cs.length := by have := (List.getElem?_eq_some_iff.1 hk).1; simp at this; omega
  refine opR_weaken (op_load_ptr ht hd hx hb (List.getElem?_eq_getElem hk6)) fun c x h => ?_
  have := e4.get c (fun _ => x) 
  rw [vC_eq] at e4
  have key : ∀ {l m : List AV} (_ : Weaks l m) (k : Nat) (h1 : k < l.length) {z : AV}, m[k]? = some z → Weak l[k] z := by
    intro l m hw
    induction hw with
    | nil => intro k h1; simp at h1
    | cons a _ ih =>
      intro k h1 z hz
      cases k with
      | zero => simp at hz; subst hz; exact a
      | succ k => exact ih k (by simpa using h1) (by simpa using hz)
  exact key e4 k hk6 (by rw [List.getElem?_map, hk]; rfl) c x h
theorem op_zeroV {t : TypeId} {fs : Array Field} {z : Value} {pl : List (Nat × Nat)} (ht : P.underlying t = some (.struct fs)) (hz : (P.info? t).map (·.zero) = some (some z)) (hpl : places P fs.toList = some pl)
    (hcs : z.cells.toList.map constAV = vs6 0 false 0 [] nilS nilS) : OpR P ⟨dst, .build t #[], ty, pos, after, gd⟩ E H (Ret (.d (.agg (vC V0))) H) :=
  opR_weaken (op_build (ps := []) ht hz hpl rfl rfl (cs := vs6 0 false 0 [] nilS nilS) (by simp [fillA, hcs])) fun c x h => Weak.aggD (weak6 weak_nilL weak_nilF) (vC_one V0) c x h
end
end Val
end Go.AV
namespace Go.AV.Patch
open Go.AV.Ord Go.AV.Oct Go.AV.Val
def oC (o : Opn) : List DV := [I o.kind, .lst 1 (o.path.map S), I o.val.kind, TF o.val.yes, .v (.int .i64 o.val.num), S o.val.text, .lst 6 (o.val.list.map vD), .lst 7 (o.val.fields.map fD)]
theorem weak_op {k : Int} {p : List (List UInt8)} {v : V} {w : AV} (hw : LL w 1 (p.map S)) : Weaks (.d (I k) :: w :: (vC v).map .d) ((oC ⟨k, p, v⟩).map .d) := by
  rw [vC_eq]
  refine .cons (Weak.refl _) (.cons ?_ (weaks_refl _))
  generalize p.map S = xs at hw ⊢
  cases hw with
  | d => exact Weak.refl _
  | own => exact Weak.lst (.own _ _ _)
  | nil => exact Weak.nil 1
section
variable {P : Program} {E : Operand → AV} {H : HS} {dst : Option Tmp} {ty : TypeId} {pos : String} {after : Array Edge} {gd : Option (Nat × Bool)}
end
theorem weak_op0 {k : Int} {p : List (List UInt8)} {w : AV} (hw : LL w 1 (p.map S)) : Weaks [.d (I k), w, .d (I 0), .d (TF false), .d (.v (.int .i64 0)), .d (S []), nilS, nilS] ((oC ⟨k, p, V0⟩).map .d) := by
  refine .cons (Weak.refl _) (.cons ?_ (weak6 weak_nilL weak_nilF))
  generalize p.map S = xs at hw ⊢
  cases hw with
  | d => exact Weak.refl _
  | own => exact Weak.lst (.own _ _ _)
  | nil => exact Weak.nil 1
section
variable {P : Program} {E : Operand → AV} {H : HS} {dst : Option Tmp} {ty : TypeId} {pos : String} {after : Array Edge} {gd : Option (Nat × Bool)}
end
theorem ext_keptL {Hs H H' : HS} {v : AV} (h : Ext Hs H) (k : Kept H H' v) (hv : ∀ id n c, v = .arr id n c → Hs.nb ≤ id) : Ext Hs H' :=
  h.of k.toks (fun j hj => k.blks j (by have := nb_le h; omega) fun n c e => by have := hv _ _ _ e; omega) k.maps
theorem becomes_without {id n cap : Nat} {k : Int} {y : Bool} {i : Int} {tx : List UInt8} {ls : List V} {fs : List F} {n0 : List UInt8} : Becomes id n cap 7 ((delF fs n0).map fD) (vs6 k y i tx (.d (.lst 6 (ls.map vD))) (.arr id n cap)) (vC (withoutV (.mk k y i tx ls fs) n0)) := by
  unfold withoutV
  rw [vC_eq]
  exact .d _ (Weak.refl _) (.d _ (Weak.refl _) (.d _ (Weak.refl _) (.d _ (Weak.refl _) (.d _ (Weak.refl _) (.arr .nil)))))
theorem delF_snoc (l : List F) (x : F) (n : List UInt8) : delF (l ++ [x]) n = if x.name = n then delF l n else delF l n ++ [x] := by
  unfold delF
  rw [List.filter_append]
  by_cases h : x.name = n
  · rw [if_pos h, List.filter_cons_of_neg (by simpa using h)]; simp
  · rw [if_neg h, List.filter_cons_of_pos (by simpa using h)]; simp
theorem delF_none {l : List F} {n : List UInt8} (h : ∀ x ∈ l, ¬ x.name = n) : delF l n = l := by
  unfold delF
  exact List.filter_eq_self.2 fun x hx => by simpa using h x hx
def IxR (l : List F) (n : List UInt8) (r : Int) : Prop := (r = -1 ∧ ∀ x ∈ l, ¬ x.name = n) ∨ ∃ i : Nat, r = (i : Int) ∧ i < l.length ∧ (∀ x ∈ l.take i, ¬ x.name = n) ∧ ∃ x, l[i]? = some x ∧ x.name = n
structure Del (B : HS) (tF : TypeId) (id cap : Nat) (fs : List F) (n : List UInt8) (H : HS) (i j : Nat) (l : List F) (cs : List AV) : Prop where
  ij : i < j
  jl : j ≤ fs.length
  len : l.length = fs.length
  front : l.take i = delF (fs.take j) n
  rest : l.drop j = fs.drop j
  b : H.blks[id]? = some ⟨tF, cs, false⟩
  c : cs.length = cap * 7
  cap : fs.length ≤ cap
  u : cs.take (l.length * 7) = fcells l
  x : Ext B H
  hid : B.nb ≤ id
theorem Del.at_ {B : HS} {tF : TypeId} {id cap : Nat} {fs : List F} {n : List UInt8} {H : HS} {i j : Nat} {l : List F} {cs : List AV} (h : Del B tF id cap fs n H i j l cs) {x : F} (hx : fs[j]? = some x) : l[j]? = some x := by
  have h1 := congrArg (·[0]?) h.rest
  simpa [List.getElem?_drop, hx] using h1
theorem Del.push {B : HS} {tF e : TypeId} {id cap : Nat} {fs : List F} {n : List UInt8} {H : HS} {i j : Nat} {l : List F} {cs z : List AV} {b : HB} (h : Del B tF id cap fs n H i j l cs) : Del B tF id cap fs n ((H.push e z).setB H.nb b) i j l cs :=
  ⟨h.ij, h.jl, h.len, h.front, h.rest, by rw [setB_ne (by have := lt_nb h.b; omega)]; exact push_ne h.b, h.c, h.cap, h.u, (h.x.push _ _).setB (nb_le h.x), h.hid⟩
theorem Del.skip {B : HS} {tF : TypeId} {id cap : Nat} {fs : List F} {n : List UInt8} {H : HS} {i j : Nat} {l : List F} {cs : List AV} {x : F} (h : Del B tF id cap fs n H i j l cs) (hx : fs[j]? = some x) (hn : x.name = n) : Del B tF id cap fs n H i (j + 1) l cs :=
  ⟨by have := h.ij; omega, by have := (List.getElem?_eq_some_iff.1 hx).1; omega, h.len, by rw [take_snoc hx, delF_snoc, if_pos hn]; exact h.front, by
    have := congrArg (List.drop 1) h.rest
    simpa [List.drop_drop, Nat.add_comm] using this, h.b, h.c, h.cap, h.u, h.x, h.hid⟩
theorem Del.move {B : HS} {tF : TypeId} {id cap : Nat} {fs : List F} {n : List UInt8} {H : HS} {i j : Nat} {l : List F} {cs : List AV} {x : F} (h : Del B tF id cap fs n H i j l cs) (hx : fs[j]? = some x) (hn : ¬ x.name = n) :
    Del B tF id cap fs n (H.setB id ⟨tF, putL cs (i * 7) ((fC x).map .d), false⟩) (i + 1) (j + 1) (l.set i x) (putL cs (i * 7) ((fC x).map .d)) := by
  have hj : j < fs.length := (List.getElem?_eq_some_iff.1 hx).1
  have hij := h.ij
  have hlen := h.len
  have hcap := h.cap
  have hi : i < l.length := by omega
  obtain ⟨g, hg⟩ : ∃ g, l[i]? = some g := ⟨_, List.getElem?_eq_getElem hi⟩
  refine ⟨by omega, by omega, by rw [List.length_set]; exact h.len, ?_, ?_, setB_at h.b, by rw [putL_length]; exact h.c, h.cap, set_cells h.u hg (by rw [h.c]; exact Nat.mul_le_mul_right 7 (by omega)), h.x.setB h.hid, h.hid⟩
  · rw [take_snoc hx, delF_snoc, if_neg hn, ← h.front, List.take_set, List.take_add_one, hg]
    rw [List.set_append_right _ _ (by rw [List.length_take]; omega)]
    simp [List.length_take, Nat.min_eq_left (Nat.le_of_lt hi)]
  · rw [List.drop_set_of_lt (by omega)]
    have := congrArg (List.drop 1) h.rest
    simpa [List.drop_drop, Nat.add_comm] using this
theorem Del.start {B H : HS} {tF : TypeId} {id cap i : Nat} {fs : List F} {n : List UInt8} {cs : List AV} (hb : H.blks[id]? = some ⟨tF, cs, false⟩) (hc : cs.length = cap * 7) (hcap : fs.length ≤ cap) (hu : cs.take (fs.length * 7) = fcells fs) (hx : Ext B H) (hid : B.nb ≤ id)
    (hi : i < fs.length) (hno : ∀ x ∈ fs.take i, ¬ x.name = n) {x : F} (hxi : fs[i]? = some x) (hn : x.name = n) : Del B tF id cap fs n H i (i + 1) fs cs :=
  ⟨by omega, by omega, rfl, by rw [take_snoc hxi, delF_snoc, if_pos hn, delF_none hno], rfl, hb, hc, hcap, hu, hx, hid⟩
structure DelR (B : HS) (tF : TypeId) (id cap : Nat) (l : List F) (av : AV) (H : HS) : Prop where
  ex : ∃ cs, av = .arr id l.length cap ∧ H.blks[id]? = some ⟨tF, cs, false⟩ ∧ cs.length = cap * 7 ∧ l.length ≤ cap ∧ cs.take (l.length * 7) = fcells l
  x : Ext B H
theorem Del.stop {B : HS} {tF : TypeId} {id cap : Nat} {fs : List F} {n : List UInt8} {H : HS} {i : Nat} {l : List F} {cs : List AV} (h : Del B tF id cap fs n H i fs.length l cs) (hi : i < fs.length) :
    DelR B tF id cap (delF fs n) (.arr id i cap) (H.put id (i * 7) (List.replicate ((fs.length - i) * 7) .un)) := by
  have hf := h.front
  have hlen := h.len
  have hcap := h.cap
  have hc := h.c
  rw [List.take_length] at hf
  have hl : (delF fs n).length = i := by rw [← hf, List.length_take]; omega
  refine ⟨⟨_, by rw [hl], put_blks_at h.b, by simp only [putL_length]; exact h.c, by omega, ?_⟩, h.x.put h.hid _ _⟩
  show (putL cs (i * 7) _).take _ = _
  rw [hl, putL_eq (by rw [List.length_replicate]; omega)]
  rw [List.take_left' (by rw [List.length_take]; omega), ← hf, fcells_take, ← h.u, List.take_take, Nat.min_eq_left (by omega)]
end Go.AV.Patch
namespace Go.Proofs.Ytjbpfnoibeogbaa
open Go.AV Go.AV.Ord Go.AV.Oct Go.AV.Val Go.AV.Patch
set_option linter.unusedVariables false
set_option linter.unusedSimpArgs false
set_option maxRecDepth 100000 in
theorem get_ok (Hs : HS) (v : V) (n0 : List UInt8) (hl : v.fields.length ≤ 1000000) : ACalls Try.prog 13 [.d (.agg (vC v)), .d (S n0)] Hs (Ret (.tup [.d (.agg (vC (getV v n0).1)), .d (TF (getV v n0).2)]) Hs) := by
 refine ACalls.tidyT (xs := [.agg (vC (getV v n0).1), TF (getV v n0).2]) ?_
 refine acalls_of_awCW Try.func13 rfl ?_
 refine aw_start (T' := [.d (.agg (vC v)), .d (S n0), .un, .un, .un, .un, .un, .un, .un, .un, .un, .un, .un, .un, .un, .un, .un, .un, .un, .un, .un, .un, .un, .un, .un, .un]) rfl ?_
 refine aw_seq ?_
 refine aw_region ?_
 refine zst (op_box_elt (cs := [I v.kind, TF v.yes, .v (.int .i64 v.num), S v.text, .lst 6 (v.list.map vD), .lst 7 (v.fields.map fD)]) (by rfl) (vD_cells v)) rfl (by dsimp only [zS, zN, zH, zT]) ?_
 refine zst (op_alloc (Zr26) (by rfl)) rfl (by dsimp only [zS, zN, zH, zT]) ?_
 refine zst (op_assign_const (by rfl)) rfl (by dsimp only [zS, zN, zH, zT]) ?_
 refine al_end rfl ?_
 refine then_normal ?_
 refine aw_seq ?_
 refine aw_seq ?_
 refine aw_region ?_
 refine zst (by first | exact op_fieldAddr_ptr Try.underlying26 rfl Sz22 (by rfl) (by rfl) | exact op_fieldAddr_elt Try.underlying26 rfl Sz22 (by rfl) (by rfl) (by rfl)) rfl (by dsimp only [zS, zN, zH, zT]) ?_
 refine zst (by first | exact op_load_elt Try.underlying22 (by rfl) (by rfl) (by rfl) | exact op_load_ptr Try.underlying22 (by rfl) (by rfl) (by exact setB_at push_at) (by rfl)) rfl (by dsimp only [zS, zN, zH, zT]) ?_
 refine zst (op_lenL Try.underlying22 (by first | exact LL.d _ _ | exact LL.own _ _ _ | exact LL.nil _ | assumption)) rfl (by dsimp only [zS, zN, zH, zT]) ?_
 refine zst (op_move_const (by rfl)) rfl (by dsimp only [zS, zN, zH, zT]) ?_
 refine al_end rfl ?_
 refine then_normal ?_
 refine aw_block ?_
 apply aw_loopF (fun n T H => ∃ (j : Nat), T = [.un, .d (S n0), .elt [I v.kind, TF v.yes, .v (.int .i64 v.num), S v.text, .lst 6 (v.list.map vD), .lst 7 (v.fields.map fD)], .un, .ptr Hs.nb 0, .un, .un, .un, .un, .d (.lst 7 (v.fields.map fD)), .d (I (v.fields.map fD).length), .d (I j), .un, .un, .un, .un, .un, .un, .un, .un, .un, .un, .un, .un, .un, .un] ∧ j ≤ v.fields.length ∧ n = v.fields.length - j ∧ getF v.fields n0 = getF (v.fields.drop j) n0 ∧ H.blks[Hs.nb]? = some (vBlk 26 0 false 0 [] nilS nilS) ∧ Ext Hs H) (v.fields.length) [false, true, true, false, true, false, false, false, false, true, true, true, false, false, false, false, false, false, false, false, false, false, false, false, false, false]
 · (try dsimp only [maskT]); try exact rfl
 · rfl
 · exact ⟨0, rfl, by omega, rfl, rfl, push_at, (Ext.refl Hs).push _ _⟩
 rintro n T H ⟨j, rfl, hj, rfl, hg, e0, hx⟩
 refine aw_seq ?_
 refine aw_region ?_
 refine zst (op_ltI (by rfl) (by rfl)) rfl (by dsimp only [zS, zN, zH, zT]) ?_
 refine al_end rfl ?_
 refine then_normal ?_
 refine aw_seq ?_
 refine aw_cond rfl (fun hc1 => ?_) (fun hc1 => ?_)
 ·
  (try simp only [y1, y2, y3, y4, y5, y6, y7, y8, y9, y0, List.length_map] at hc1)
  (try simp only [List.length_map] at hc1)
  have hlt : j < v.fields.length := by omega
  obtain ⟨x, hx1⟩ : ∃ z0, v.fields[j]? = some z0 := ⟨_, List.getElem?_eq_getElem hlt⟩
  refine aw_skip ?_
  refine then_normal ?_
  refine aw_seq ?_
  refine aw_block ?_
  refine aw_seq ?_
  refine aw_region ?_
  refine zst (op_indexAddr (z := fD x) (cs := [S x.name, I x.val.kind, TF x.val.yes, .v (.int .i64 x.val.num), S x.val.text, .lst 6 (x.val.list.map vD), .lst 7 (x.val.fields.map fD)]) Try.underlying22 Sz30 (LL.d _ _) (by rfl) (by omega) (by rw [List.getElem?_map, show ((j : Nat) : Int).toNat = j from rfl, hx1]; rfl) (fD_cells7 x)) rfl (by dsimp only [zS, zN, zH, zT]) ?_
  refine zst (op_load_elts (ds := fC x) Try.underlying30 (by rfl) Sz30 (by rfl) (Nat.le_of_ble_eq_true rfl) (by rw [← fC7]; rfl)) rfl (by dsimp only [zS, zN, zH, zT]) ?_
  refine zst (op_alloc (Zr30) (by rfl)) rfl (by dsimp only [zS, zN, zH, zT]) ?_
  refine zst (op_storeF (b' := f1 30 x) x Sz30 (by rfl) push_at (by rfl) (Nat.le_of_ble_eq_true rfl) (by rfl) (by unfold f1; rw [← fC7]; rfl)) rfl (by dsimp only [zS, zN, zH, zT]) ?_
  refine al_end rfl ?_
  refine then_normal ?_
  refine aw_seq ?_
  refine aw_region ?_
  refine zst (by first | exact op_fieldAddr_ptr Try.underlying30 rfl Sz9 (by rfl) (by rfl) | exact op_fieldAddr_elt Try.underlying30 rfl Sz9 (by rfl) (by rfl) (by rfl)) rfl (by dsimp only [zS, zN, zH, zT]) ?_
  refine zst (op_load_ptr Try.underlying9 (by rfl) (by rfl) (setB_at push_at) (f1_name x)) rfl (by dsimp only [zS, zN, zH, zT]) ?_
  refine zst (op_move_tmp (by rfl)) rfl (by dsimp only [zS, zN, zH, zT]) ?_
  refine zst (op_eqS (by rfl) (by rfl)) rfl (by dsimp only [zS, zN, zH, zT]) ?_
  refine al_end rfl ?_
  refine then_normal ?_
  refine aw_cond rfl (fun hc2 => ?_) (fun hc2 => ?_)
  ·
   (try simp only [y1, y2, y3, y4, y5, y6, y7, y8, y9, y0, List.length_map] at hc2)
   have hn : x.name = n0 := hc2
   refine aw_seq ?_
   refine aw_draw [0, 1, 0, 0, 0, 2, 0] mixed (by kernel_rfl) ?_
   refine zd0 (fun H => (by first | exact op_fieldAddr_ptr Try.underlying30 rfl Sz26 (by rfl) (by rfl) | exact op_fieldAddr_elt Try.underlying30 rfl Sz26 (by rfl) (by rfl) (by rfl))) rfl (by dsimp only [zS, zN, zH, zT]) ?_
   refine zd1 (op_load_ptrsD (vC x.val) Try.underlying26 (by rfl) Sz26 (by rfl) (setB_at push_at) (by show 1 + 6 ≤ ((fC x).map AV.d).length; rw [List.length_map, fC_len]; exact Nat.le_refl _) (f1_val x) (vC_one _)) rfl (by dsimp only [zS, zN, zH, zT]) ?_
   refine zd0 (fun H => (by first | exact op_fieldAddr_ptr Try.underlying26 rfl Sz23 (by rfl) (by rfl) | exact op_fieldAddr_elt Try.underlying26 rfl Sz23 (by rfl) (by rfl) (by rfl))) rfl (by dsimp only [zS, zN, zH, zT]) ?_
   refine zd0 (fun H => (by first | exact op_load_elt Try.underlying23 (by rfl) (by rfl) (by rfl) | exact op_load_ptr Try.underlying23 (by rfl) (by rfl) (by exact setB_at push_at) (by rfl))) rfl (by dsimp only [zS, zN, zH, zT]) ?_
   refine zd0 (fun H => (op_eqI (by rfl) (by rfl))) rfl (by dsimp only [zS, zN, zH, zT]) ?_
   refine zd2 (op_stV x.val Sz26 (by rfl) (by rw [setB_ne (by have := lt_nb e0; omega)]; exact push_ne e0) (by first | exact VBl.z _ | exact VBl.v _ _) (by rfl)) rfl (by dsimp only [zS, zN, zH, zT]) ?_
   refine zd0 (fun H => (op_assign_tmp (by rfl))) rfl (by dsimp only [zS, zN, zH, zT]) ?_
   refine drun_end rfl ?_
   refine then_normal ?_
   refine aw_ret ?_
   refine inBlock_ret (then_ret (again_ret (inBlock_ret (then_ret ?_))))
   refine retD2 rfl (resV _ Try.underlying26 (by rfl) Sz26 (by rfl) (setB_at (by rw [setB_ne (by have := lt_nb e0; omega)]; exact push_ne e0)) (by first | exact VBl.v _ _ | exact VBl.z _)) (.tmp (by rfl)) ?_
   exact ⟨by rw [getV_some (by rw [hg, drop_one hx1, getF_cons, if_pos hn])]; rfl, ((hx.push _ _).setB (nb_le hx)).setB (Nat.le_refl _)⟩
  ·
   (try simp only [y1, y2, y3, y4, y5, y6, y7, y8, y9, y0, List.length_map] at hc2)
   have hn : ¬ x.name = n0 := hc2
   refine aw_skip ?_
   refine inBlock_normal (then_normal ?_)
   refine aw_region ?_
   refine zst (by first | exact op_add (by rfl) (by rfl) (wrap_i64 ⟨by omega, by omega⟩) | exact op_add (by rfl) (by rfl) (by rfl)) rfl (by dsimp only [zS, zN, zH, zT]) ?_
   refine zst (op_move_tmp (by rfl)) rfl (by dsimp only [zS, zN, zH, zT]) ?_
   refine al_end rfl ?_
   apply again_to (v.fields.length - (j + 1)) [false, true, true, false, true, false, false, false, false, true, true, true, false, false, false, false, false, false, false, false, false, false, false, false, false, false]
   · (try dsimp only [maskT]); try exact rfl
   · rfl
   · omega
   exact ⟨j + 1, rfl, by omega, rfl, by rw [hg, drop_one hx1, getF_cons, if_neg hn], by rw [setB_ne (by have := lt_nb e0; omega)]; exact push_ne e0, (hx.push _ _).setB (nb_le hx)⟩
 ·
  (try simp only [y1, y2, y3, y4, y5, y6, y7, y8, y9, y0, List.length_map] at hc1)
  (try simp only [List.length_map] at hc1)
  have hje : j = v.fields.length := by omega
  subst hje
  refine aw_exit ?_
  refine then_exit (again_exit (inBlock_here (then_normal ?_)))
  refine aw_seq ?_
  refine aw_region ?_
  refine zst (op_zeroV (pl := [(0, 1), (1, 1), (2, 1), (3, 1), (4, 1), (5, 1)]) Try.underlying26 Zr26 (by kernel_rfl) (by rfl)) rfl (by dsimp only [zS, zN, zH, zT]) ?_
  refine zst (op_stV V0 Sz26 (by rfl) e0 (by first | exact VBl.z _ | exact VBl.v _ _) (by rfl)) rfl (by dsimp only [zS, zN, zH, zT]) ?_
  refine zst (op_assign_const (by rfl)) rfl (by dsimp only [zS, zN, zH, zT]) ?_
  refine al_end rfl ?_
  refine then_normal ?_
  refine aw_ret ?_
  refine retD2 rfl (resV _ Try.underlying26 (by rfl) Sz26 (by rfl) (setB_at e0) (by first | exact VBl.v _ _ | exact VBl.z _)) (.tmp (by rfl)) ?_
  exact ⟨by rw [getV_none (by rw [hg, List.drop_length]; rfl)]; rfl, hx.setB (Nat.le_refl _)⟩
theorem get_at {Hs : HS} {v x : V} {n0 : List UInt8} {b : Bool} (h : getV v n0 = (x, b)) (hl : v.fields.length ≤ 1000000) : ACalls Try.prog 13 [.d (.agg (vC v)), .d (S n0)] Hs (Ret (.tup [.d (.agg (vC x)), .d (TF b)]) Hs) := by
  have h1 := get_ok Hs v n0 hl
  rwa [h] at h1
set_option maxRecDepth 100000 in
theorem clone_cons (Hs : HS) (v : AV) (x : DV) (xs : List DV) (hv : LL v 7 (x :: xs)) (hl : xs.length ≤ 1000000) : ACalls Try.prog 45 [v] Hs (Ret (clV Hs 7 (x :: xs)) (clH Hs (x :: xs))) := by
 refine acalls_of_aw Try.func45 rfl ?_
 refine aw_start (T' := [v, .un, .un, .un, .un, .un, .un, .un]) rfl ?_
 refine aw_seq ?_
 refine aw_region ?_
 refine zst (op_assign_const (by rfl)) rfl (by dsimp only [zS, zN, zH, zT]) ?_
 refine al_end rfl ?_
 refine then_normal ?_
 refine aw_seq ?_
 refine aw_seq ?_
 refine aw_region ?_
 refine zst (op_move_tmp (by rfl)) rfl (by dsimp only [zS, zN, zH, zT]) ?_
 refine al_cons _ (op_nilL Try.underlying22 hv (by rfl)) rfl ?_
 rintro v2 H2 ⟨b, rfl, hb, rfl⟩
 apply al_normT
 · (try dsimp only [putT, List.set_cons_zero, List.set_cons_succ]); try exact rfl
 refine al_end rfl ?_
 refine then_normal ?_
 refine aw_cond rfl (fun hc1 => ?_) (fun hc1 => ?_)
 ·
  (try simp only [y1, y2, y3, y4, y5, y6, y7, y8, y9, y0, List.length_map] at hc1)
  exact absurd (hb hc1) (by simp)
 ·
  (try simp only [y1, y2, y3, y4, y5, y6, y7, y8, y9, y0, List.length_map] at hc1)
  refine aw_skip ?_
  refine then_normal ?_
  refine aw_seq ?_
  refine aw_region ?_
  refine zst (op_lit Try.underlying22 ZS30 (.nil _) (by rfl) (by simp) (by simp [flat]) (by decide)) rfl (by dsimp only [zS, zN, zH, zT]) ?_
  refine zst (op_move_tmp (by rfl)) rfl (by dsimp only [zS, zN, zH, zT]) ?_
  refine zst (op_append Try.underlying22 Inf30 (by rfl) (App.own _ _ _) (.list _ _ _ _ Try.underlying22 hv) (HS.ok_none _ _) (by simp) (by simp; omega) (by simp; omega)) rfl (by dsimp only [zS, zN, zH, zT]) ?_
  refine zst (op_assign_tmp (by rfl)) rfl (by dsimp only [zS, zN, zH, zT]) ?_
  refine al_end rfl ?_
  refine then_normal ?_
  refine aw_ret ?_
  refine retPost1 rfl rfl ?_
  exact ⟨rfl, by simp [clH]⟩
set_option maxRecDepth 100000 in
theorem clone_none (Hs : HS) (v : AV) (hv : LL v 7 []) : ACalls Try.prog 45 [v] Hs (Ret (.own none 7 []) Hs) := by
 suffices h : ACalls Try.prog 45 [v] Hs (fun av H' => Weak av (.own none 7 []) ∧ H' = Hs) from h.weak fun v H' ⟨h1, h2⟩ => ⟨_, h1, rfl, h2⟩
 refine acalls_of_aw Try.func45 rfl ?_
 refine aw_start (T' := [v, .un, .un, .un, .un, .un, .un, .un]) rfl ?_
 refine aw_seq ?_
 refine aw_region ?_
 refine zst (op_assign_const (by rfl)) rfl (by dsimp only [zS, zN, zH, zT]) ?_
 refine al_end rfl ?_
 refine then_normal ?_
 refine aw_seq ?_
 refine aw_seq ?_
 refine aw_region ?_
 refine zst (op_move_tmp (by rfl)) rfl (by dsimp only [zS, zN, zH, zT]) ?_
 refine al_cons _ (op_nilL Try.underlying22 hv (by rfl)) rfl ?_
 rintro v2 H2 ⟨b, rfl, hb, rfl⟩
 apply al_normT
 · (try dsimp only [putT, List.set_cons_zero, List.set_cons_succ]); try exact rfl
 refine al_end rfl ?_
 refine then_normal ?_
 refine aw_cond rfl (fun hc1 => ?_) (fun hc1 => ?_)
 ·
  (try simp only [y1, y2, y3, y4, y5, y6, y7, y8, y9, y0, List.length_map] at hc1)
  refine aw_seq ?_
  refine aw_region ?_
  refine zst (op_assign_const (by rfl)) rfl (by dsimp only [zS, zN, zH, zT]) ?_
  refine al_end rfl ?_
  refine then_normal ?_
  refine aw_ret ?_
  refine then_ret ?_
  refine retPost1 rfl rfl ?_
  exact ⟨weak_nil_own 7, rfl⟩
 ·
  (try simp only [y1, y2, y3, y4, y5, y6, y7, y8, y9, y0, List.length_map] at hc1)
  refine aw_skip ?_
  refine then_normal ?_
  refine aw_seq ?_
  refine aw_region ?_
  refine zst (op_lit Try.underlying22 ZS30 (.nil _) (by rfl) (by simp) (by simp [flat]) (by decide)) rfl (by dsimp only [zS, zN, zH, zT]) ?_
  refine zst (op_move_tmp (by rfl)) rfl (by dsimp only [zS, zN, zH, zT]) ?_
  refine zst (op_append0 Try.underlying22 Inf30 (LL.own _ _ _) (.list _ _ _ _ Try.underlying22 hv)) rfl (by dsimp only [zS, zN, zH, zT]) ?_
  refine zst (op_assign_tmp (by rfl)) rfl (by dsimp only [zS, zN, zH, zT]) ?_
  refine al_end rfl ?_
  refine then_normal ?_
  refine aw_ret ?_
  refine retPost1 rfl rfl ?_
  exact ⟨Weak.refl _, rfl⟩
theorem clone_ok (Hs : HS) (v : AV) (xs : List DV) (hv : LL v 7 xs) (hl : xs.length ≤ 1000000) : ACalls Try.prog 45 [v] Hs (Ret (clV Hs 7 xs) (clH Hs xs)) := by
  cases xs with
  | nil => exact clone_none Hs v hv
  | cons x xs => exact clone_cons Hs v x xs hv (by simp at hl; omega)
set_option maxRecDepth 100000 in
theorem clone_arr (Hs : HS) (v : AV) (fs : List F) (hv : LL v 7 (fs.map fD)) (h0 : fs ≠ []) (hl : fs.length ≤ 1000000) : ACalls Try.prog 45 [v] Hs (fun av H' => ArrF H' 30 av fs ∧ Ext Hs H' ∧ ∃ id m cap, av = .arr id m cap ∧ Hs.nb ≤ id) := by
 have hp : 0 < fs.length := List.length_pos_iff.2 h0
 refine acalls_of_aw Try.func45 rfl ?_
 refine aw_start (T' := [v, .un, .un, .un, .un, .un, .un, .un]) rfl ?_
 refine aw_seq ?_
 refine aw_region ?_
 refine zst (op_assign_const (by rfl)) rfl (by dsimp only [zS, zN, zH, zT]) ?_
 refine al_end rfl ?_
 refine then_normal ?_
 refine aw_seq ?_
 refine aw_seq ?_
 refine aw_region ?_
 refine zst (op_move_tmp (by rfl)) rfl (by dsimp only [zS, zN, zH, zT]) ?_
 refine al_cons _ (op_nilL Try.underlying22 hv (by rfl)) rfl ?_
 rintro v2 H2 ⟨b, rfl, hb, rfl⟩
 apply al_normT
 · (try dsimp only [putT, List.set_cons_zero, List.set_cons_succ]); try exact rfl
 refine al_end rfl ?_
 refine then_normal ?_
 refine aw_cond rfl (fun hc1 => ?_) (fun hc1 => ?_)
 ·
  (try simp only [y1, y2, y3, y4, y5, y6, y7, y8, y9, y0, List.length_map] at hc1)
  exact absurd (hb hc1) (by simp [h0])
 ·
  (try simp only [y1, y2, y3, y4, y5, y6, y7, y8, y9, y0, List.length_map] at hc1)
  refine aw_skip ?_
  refine then_normal ?_
  refine aw_seq ?_
  refine aw_region ?_
  refine zst (op_litArr Try.underlying22 ZS30 (.nil _) (by rfl) (by simp) (by decide)) rfl (by dsimp only [zS, zN, zH, zT]) ?_
  refine zst (op_move_tmp (by rfl)) rfl (by dsimp only [zS, zN, zH, zT]) ?_
  refine al_cons _ (op_append_arr Try.underlying22 Inf30 (by rfl) (Arr.arr Hs.nb 0 0 _ [] push_at (by simp [flat]) (Nat.le_refl _) (by simp)) (.list _ _ _ _ Try.underlying22 hv) (by simp; omega) (by simp; omega) (by simp; omega)) rfl ?_
  rintro v3 H3 ⟨hA, hK, id, m, cap, rfl, hn, ho⟩
  apply al_normT
  · (try dsimp only [putT, List.set_cons_zero, List.set_cons_succ]); try exact rfl
  refine zst (op_assign_tmp (by rfl)) rfl (by dsimp only [zS, zN, zH, zT]) ?_
  refine al_end rfl ?_
  refine then_normal ?_
  refine aw_ret ?_
  refine retPost1 rfl rfl ?_
  exact ⟨by simpa [ArrF, fcells] using hA, ext_keptL ((Ext.refl Hs).push _ _) hK (fun i n c h => by cases h; exact Nat.le_refl _), _, _, _, rfl, by rcases ho _ _ _ rfl with h | h; omega; (rw [push_nb] at h; omega)⟩
end Go.Proofs.Ytjbpfnoibeogbaa
namespace Go.Proofs.Ytjbpfnoibeogbaa
open Go.AV Go.AV.Ord Go.AV.Oct Go.AV.Val
set_option linter.unusedVariables false
set_option linter.unusedSimpArgs false
set_option maxRecDepth 100000 in
theorem nanK_ok (Hs : HS) (a : Int) : ACalls Try.prog 137 [.d (I a)] Hs (Ret (.d (TF false)) Hs) := by
 refine acalls_of_aw Try.func137 rfl ?_
 refine aw_start (T' := [.d (I a), .un, .un, .un, .un, .un]) rfl ?_
 refine aw_seq ?_
 refine aw_region ?_
 refine zst (op_assign_const (by rfl)) rfl (by dsimp only [zS, zN, zH, zT]) ?_
 refine al_end rfl ?_
 refine then_normal ?_
 refine aw_seq ?_
 refine aw_region ?_
 refine zst (op_move_tmp (by rfl)) rfl (by dsimp only [zS, zN, zH, zT]) ?_
 refine zst (op_move_tmp (by rfl)) rfl (by dsimp only [zS, zN, zH, zT]) ?_
 refine zst (op_neI (by rfl) (by rfl)) rfl (by dsimp only [zS, zN, zH, zT]) ?_
 refine zst (op_assign_tmp (by rfl)) rfl (by dsimp only [zS, zN, zH, zT]) ?_
 refine al_end rfl ?_
 refine then_normal ?_
 refine aw_ret ?_
 refine retPost1 rfl rfl ?_
 exact ⟨by simp [TF], rfl⟩
set_option maxRecDepth 100000 in
theorem cmpK_ok (Hs : HS) (a b : Int) : ACalls Try.prog 104 [.d (I a), .d (I b)] Hs (Ret (.d (I (cmpI a b))) Hs) := by
 refine acalls_of_aw Try.func104 rfl ?_
 refine aw_start (T' := [.d (I a), .d (I b), .un, .un, .un, .un, .un, .un, .un, .un, .un, .un, .un, .un, .un, .un, .un, .un, .un, .un]) rfl ?_
 refine aw_seq ?_
 refine aw_region ?_
 refine zst (op_assign_const (by rfl)) rfl (by dsimp only [zS, zN, zH, zT]) ?_
 refine al_end rfl ?_
 refine then_normal ?_
 refine aw_seq ?_
 refine aw_region ?_
 refine zst (op_move_tmp (by rfl)) rfl (by dsimp only [zS, zN, zH, zT]) ?_
 refine zst (op_callF Try.func137 (by rfl) (by rfl) (.tmp (by rfl) .nil) (nanK_ok _ a)) rfl (by dsimp only [zS, zN, zH, zT]) ?_
 refine zst (op_assign_tmp (by rfl)) rfl (by dsimp only [zS, zN, zH, zT]) ?_
 refine al_end rfl ?_
 refine then_normal ?_
 refine aw_seq ?_
 refine aw_region ?_
 refine zst (op_move_tmp (by rfl)) rfl (by dsimp only [zS, zN, zH, zT]) ?_
 refine zst (op_callF Try.func137 (by rfl) (by rfl) (.tmp (by rfl) .nil) (nanK_ok _ b)) rfl (by dsimp only [zS, zN, zH, zT]) ?_
 refine zst (op_assign_tmp (by rfl)) rfl (by dsimp only [zS, zN, zH, zT]) ?_
 refine al_end rfl ?_
 refine then_normal ?_
 refine aw_seq ?_
 refine aw_seq ?_
 refine aw_region ?_
 refine zst (op_move_tmp (by rfl)) rfl (by dsimp only [zS, zN, zH, zT]) ?_
 refine al_end rfl ?_
 refine then_normal ?_
 refine aw_cond rfl (fun h => by cases h) (fun _ => ?_)
 refine aw_skip ?_
 refine then_normal ?_
 refine aw_seq ?_
 refine aw_seq ?_
 refine aw_region ?_
 refine zst (op_move_tmp (by rfl)) rfl (by dsimp only [zS, zN, zH, zT]) ?_
 refine al_end rfl ?_
 refine then_normal ?_
 refine aw_cond rfl (fun h => by cases h) (fun _ => ?_)
 refine aw_skip ?_
 refine then_normal ?_
 refine aw_seq ?_
 refine aw_seq ?_
 refine aw_region ?_
 refine zst (op_move_tmp (by rfl)) rfl (by dsimp only [zS, zN, zH, zT]) ?_
 refine zst (op_move_tmp (by rfl)) rfl (by dsimp only [zS, zN, zH, zT]) ?_
 refine zst (op_ltI (by rfl) (by rfl)) rfl (by dsimp only [zS, zN, zH, zT]) ?_
 refine al_end rfl ?_
 refine then_normal ?_
 refine aw_cond rfl (fun hc3 => ?_) (fun hc3 => ?_)
 ·
  (try simp only [y1, y2, y3, y4, y5, y6, y7, y8, y9, y0, List.length_map] at hc3)
  have hlt : a < b := by omega
  refine aw_seq ?_
  refine aw_region ?_
  refine zst (op_assign_const (by rfl)) rfl (by dsimp only [zS, zN, zH, zT]) ?_
  refine al_end rfl ?_
  refine then_normal ?_
  refine aw_ret ?_
  refine then_ret ?_
  refine retPost1 rfl rfl ?_
  exact ⟨by simp [cmpI, hlt, I], rfl⟩
 ·
  (try simp only [y1, y2, y3, y4, y5, y6, y7, y8, y9, y0, List.length_map] at hc3)
  have hlt : ¬ a < b := by omega
  refine aw_skip ?_
  refine then_normal ?_
  refine aw_seq ?_
  refine aw_seq ?_
  refine aw_region ?_
  refine zst (op_move_tmp (by rfl)) rfl (by dsimp only [zS, zN, zH, zT]) ?_
  refine zst (op_move_tmp (by rfl)) rfl (by dsimp only [zS, zN, zH, zT]) ?_
  refine zst (op_gtI (by rfl) (by rfl)) rfl (by dsimp only [zS, zN, zH, zT]) ?_
  refine al_end rfl ?_
  refine then_normal ?_
  refine aw_cond rfl (fun hc4 => ?_) (fun hc4 => ?_)
  ·
   (try simp only [y1, y2, y3, y4, y5, y6, y7, y8, y9, y0, List.length_map] at hc4)
   have hgt : b < a := by omega
   refine aw_seq ?_
   refine aw_region ?_
   refine zst (op_assign_const (by rfl)) rfl (by dsimp only [zS, zN, zH, zT]) ?_
   refine al_end rfl ?_
   refine then_normal ?_
   refine aw_ret ?_
   refine then_ret ?_
   refine retPost1 rfl rfl ?_
   exact ⟨by simp [cmpI, hlt, hgt, I], rfl⟩
  ·
   (try simp only [y1, y2, y3, y4, y5, y6, y7, y8, y9, y0, List.length_map] at hc4)
   have hgt : ¬ b < a := by omega
   refine aw_skip ?_
   refine then_normal ?_
   refine aw_seq ?_
   refine aw_region ?_
   refine zst (op_assign_const (by rfl)) rfl (by dsimp only [zS, zN, zH, zT]) ?_
   refine al_end rfl ?_
   refine then_normal ?_
   refine aw_ret ?_
   refine retPost1 rfl rfl ?_
   exact ⟨by simp [cmpI, hlt, hgt, I], rfl⟩
set_option maxRecDepth 100000 in
theorem nanN_ok (Hs : HS) (a : Int) : ACalls Try.prog 138 [.d (I a)] Hs (Ret (.d (TF false)) Hs) := by
 refine acalls_of_aw Try.func138 rfl ?_
 refine aw_start (T' := [.d (I a), .un, .un, .un, .un, .un]) rfl ?_
 refine aw_seq ?_
 refine aw_region ?_
 refine zst (op_assign_const (by rfl)) rfl (by dsimp only [zS, zN, zH, zT]) ?_
 refine al_end rfl ?_
 refine then_normal ?_
 refine aw_seq ?_
 refine aw_region ?_
 refine zst (op_move_tmp (by rfl)) rfl (by dsimp only [zS, zN, zH, zT]) ?_
 refine zst (op_move_tmp (by rfl)) rfl (by dsimp only [zS, zN, zH, zT]) ?_
 refine zst (op_neI (by rfl) (by rfl)) rfl (by dsimp only [zS, zN, zH, zT]) ?_
 refine zst (op_assign_tmp (by rfl)) rfl (by dsimp only [zS, zN, zH, zT]) ?_
 refine al_end rfl ?_
 refine then_normal ?_
 refine aw_ret ?_
 refine retPost1 rfl rfl ?_
 exact ⟨by simp [TF], rfl⟩
set_option maxRecDepth 100000 in
theorem cmpN_ok (Hs : HS) (a b : Int) : ACalls Try.prog 105 [.d (I a), .d (I b)] Hs (Ret (.d (I (cmpI a b))) Hs) := by
 refine acalls_of_aw Try.func105 rfl ?_
 refine aw_start (T' := [.d (I a), .d (I b), .un, .un, .un, .un, .un, .un, .un, .un, .un, .un, .un, .un, .un, .un, .un, .un, .un, .un]) rfl ?_
 refine aw_seq ?_
 refine aw_region ?_
 refine zst (op_assign_const (by rfl)) rfl (by dsimp only [zS, zN, zH, zT]) ?_
 refine al_end rfl ?_
 refine then_normal ?_
 refine aw_seq ?_
 refine aw_region ?_
 refine zst (op_move_tmp (by rfl)) rfl (by dsimp only [zS, zN, zH, zT]) ?_
 refine zst (op_callF Try.func138 (by rfl) (by rfl) (.tmp (by rfl) .nil) (nanN_ok _ a)) rfl (by dsimp only [zS, zN, zH, zT]) ?_
 refine zst (op_assign_tmp (by rfl)) rfl (by dsimp only [zS, zN, zH, zT]) ?_
 refine al_end rfl ?_
 refine then_normal ?_
 refine aw_seq ?_
 refine aw_region ?_
 refine zst (op_move_tmp (by rfl)) rfl (by dsimp only [zS, zN, zH, zT]) ?_
 refine zst (op_callF Try.func138 (by rfl) (by rfl) (.tmp (by rfl) .nil) (nanN_ok _ b)) rfl (by dsimp only [zS, zN, zH, zT]) ?_
 refine zst (op_assign_tmp (by rfl)) rfl (by dsimp only [zS, zN, zH, zT]) ?_
 refine al_end rfl ?_
 refine then_normal ?_
 refine aw_seq ?_
 refine aw_seq ?_
 refine aw_region ?_
 refine zst (op_move_tmp (by rfl)) rfl (by dsimp only [zS, zN, zH, zT]) ?_
 refine al_end rfl ?_
 refine then_normal ?_
 refine aw_cond rfl (fun h => by cases h) (fun _ => ?_)
 refine aw_skip ?_
 refine then_normal ?_
 refine aw_seq ?_
 refine aw_seq ?_
 refine aw_region ?_
 refine zst (op_move_tmp (by rfl)) rfl (by dsimp only [zS, zN, zH, zT]) ?_
 refine al_end rfl ?_
 refine then_normal ?_
 refine aw_cond rfl (fun h => by cases h) (fun _ => ?_)
 refine aw_skip ?_
 refine then_normal ?_
 refine aw_seq ?_
 refine aw_seq ?_
 refine aw_region ?_
 refine zst (op_move_tmp (by rfl)) rfl (by dsimp only [zS, zN, zH, zT]) ?_
 refine zst (op_move_tmp (by rfl)) rfl (by dsimp only [zS, zN, zH, zT]) ?_
 refine zst (op_ltI (by rfl) (by rfl)) rfl (by dsimp only [zS, zN, zH, zT]) ?_
 refine al_end rfl ?_
 refine then_normal ?_
 refine aw_cond rfl (fun hc3 => ?_) (fun hc3 => ?_)
 ·
  (try simp only [y1, y2, y3, y4, y5, y6, y7, y8, y9, y0, List.length_map] at hc3)
  have hlt : a < b := by omega
  refine aw_seq ?_
  refine aw_region ?_
  refine zst (op_assign_const (by rfl)) rfl (by dsimp only [zS, zN, zH, zT]) ?_
  refine al_end rfl ?_
  refine then_normal ?_
  refine aw_ret ?_
  refine then_ret ?_
  refine retPost1 rfl rfl ?_
  exact ⟨by simp [cmpI, hlt, I], rfl⟩
 ·
  (try simp only [y1, y2, y3, y4, y5, y6, y7, y8, y9, y0, List.length_map] at hc3)
  have hlt : ¬ a < b := by omega
  refine aw_skip ?_
  refine then_normal ?_
  refine aw_seq ?_
  refine aw_seq ?_
  refine aw_region ?_
  refine zst (op_move_tmp (by rfl)) rfl (by dsimp only [zS, zN, zH, zT]) ?_
  refine zst (op_move_tmp (by rfl)) rfl (by dsimp only [zS, zN, zH, zT]) ?_
  refine zst (op_gtI (by rfl) (by rfl)) rfl (by dsimp only [zS, zN, zH, zT]) ?_
  refine al_end rfl ?_
  refine then_normal ?_
  refine aw_cond rfl (fun hc4 => ?_) (fun hc4 => ?_)
  ·
   (try simp only [y1, y2, y3, y4, y5, y6, y7, y8, y9, y0, List.length_map] at hc4)
   have hgt : b < a := by omega
   refine aw_seq ?_
   refine aw_region ?_
   refine zst (op_assign_const (by rfl)) rfl (by dsimp only [zS, zN, zH, zT]) ?_
   refine al_end rfl ?_
   refine then_normal ?_
   refine aw_ret ?_
   refine then_ret ?_
   refine retPost1 rfl rfl ?_
   exact ⟨by simp [cmpI, hlt, hgt, I], rfl⟩
  ·
   (try simp only [y1, y2, y3, y4, y5, y6, y7, y8, y9, y0, List.length_map] at hc4)
   have hgt : ¬ b < a := by omega
   refine aw_skip ?_
   refine then_normal ?_
   refine aw_seq ?_
   refine aw_region ?_
   refine zst (op_assign_const (by rfl)) rfl (by dsimp only [zS, zN, zH, zT]) ?_
   refine al_end rfl ?_
   refine then_normal ?_
   refine aw_ret ?_
   refine retPost1 rfl rfl ?_
   exact ⟨by simp [cmpI, hlt, hgt, I], rfl⟩
set_option maxRecDepth 100000 in
theorem nan64_ok (Hs : HS) (a : Int) : ACalls Try.prog 139 [.d (I a)] Hs (Ret (.d (TF false)) Hs) := by
 refine acalls_of_aw Try.func139 rfl ?_
 refine aw_start (T' := [.d (I a), .un, .un, .un, .un, .un]) rfl ?_
 refine aw_seq ?_
 refine aw_region ?_
 refine zst (op_assign_const (by rfl)) rfl (by dsimp only [zS, zN, zH, zT]) ?_
 refine al_end rfl ?_
 refine then_normal ?_
 refine aw_seq ?_
 refine aw_region ?_
 refine zst (op_move_tmp (by rfl)) rfl (by dsimp only [zS, zN, zH, zT]) ?_
 refine zst (op_move_tmp (by rfl)) rfl (by dsimp only [zS, zN, zH, zT]) ?_
 refine zst (op_neI (by rfl) (by rfl)) rfl (by dsimp only [zS, zN, zH, zT]) ?_
 refine zst (op_assign_tmp (by rfl)) rfl (by dsimp only [zS, zN, zH, zT]) ?_
 refine al_end rfl ?_
 refine then_normal ?_
 refine aw_ret ?_
 refine retPost1 rfl rfl ?_
 exact ⟨by simp [TF], rfl⟩
set_option maxRecDepth 100000 in
theorem cmp64_ok (Hs : HS) (a b : Int) : ACalls Try.prog 107 [.d (I a), .d (I b)] Hs (Ret (.d (I (cmpI a b))) Hs) := by
 refine acalls_of_aw Try.func107 rfl ?_
 refine aw_start (T' := [.d (I a), .d (I b), .un, .un, .un, .un, .un, .un, .un, .un, .un, .un, .un, .un, .un, .un, .un, .un, .un, .un]) rfl ?_
 refine aw_seq ?_
 refine aw_region ?_
 refine zst (op_assign_const (by rfl)) rfl (by dsimp only [zS, zN, zH, zT]) ?_
 refine al_end rfl ?_
 refine then_normal ?_
 refine aw_seq ?_
 refine aw_region ?_
 refine zst (op_move_tmp (by rfl)) rfl (by dsimp only [zS, zN, zH, zT]) ?_
 refine zst (op_callF Try.func139 (by rfl) (by rfl) (.tmp (by rfl) .nil) (nan64_ok _ a)) rfl (by dsimp only [zS, zN, zH, zT]) ?_
 refine zst (op_assign_tmp (by rfl)) rfl (by dsimp only [zS, zN, zH, zT]) ?_
 refine al_end rfl ?_
 refine then_normal ?_
 refine aw_seq ?_
 refine aw_region ?_
 refine zst (op_move_tmp (by rfl)) rfl (by dsimp only [zS, zN, zH, zT]) ?_
 refine zst (op_callF Try.func139 (by rfl) (by rfl) (.tmp (by rfl) .nil) (nan64_ok _ b)) rfl (by dsimp only [zS, zN, zH, zT]) ?_
 refine zst (op_assign_tmp (by rfl)) rfl (by dsimp only [zS, zN, zH, zT]) ?_
 refine al_end rfl ?_
 refine then_normal ?_
 refine aw_seq ?_
 refine aw_seq ?_
 refine aw_region ?_
 refine zst (op_move_tmp (by rfl)) rfl (by dsimp only [zS, zN, zH, zT]) ?_
 refine al_end rfl ?_
 refine then_normal ?_
 refine aw_cond rfl (fun h => by cases h) (fun _ => ?_)
 refine aw_skip ?_
 refine then_normal ?_
 refine aw_seq ?_
 refine aw_seq ?_
 refine aw_region ?_
 refine zst (op_move_tmp (by rfl)) rfl (by dsimp only [zS, zN, zH, zT]) ?_
 refine al_end rfl ?_
 refine then_normal ?_
 refine aw_cond rfl (fun h => by cases h) (fun _ => ?_)
 refine aw_skip ?_
 refine then_normal ?_
 refine aw_seq ?_
 refine aw_seq ?_
 refine aw_region ?_
 refine zst (op_move_tmp (by rfl)) rfl (by dsimp only [zS, zN, zH, zT]) ?_
 refine zst (op_move_tmp (by rfl)) rfl (by dsimp only [zS, zN, zH, zT]) ?_
 refine zst (op_ltI (by rfl) (by rfl)) rfl (by dsimp only [zS, zN, zH, zT]) ?_
 refine al_end rfl ?_
 refine then_normal ?_
 refine aw_cond rfl (fun hc3 => ?_) (fun hc3 => ?_)
 ·
  (try simp only [y1, y2, y3, y4, y5, y6, y7, y8, y9, y0, List.length_map] at hc3)
  have hlt : a < b := by omega
  refine aw_seq ?_
  refine aw_region ?_
  refine zst (op_assign_const (by rfl)) rfl (by dsimp only [zS, zN, zH, zT]) ?_
  refine al_end rfl ?_
  refine then_normal ?_
  refine aw_ret ?_
  refine then_ret ?_
  refine retPost1 rfl rfl ?_
  exact ⟨by simp [cmpI, hlt, I], rfl⟩
 ·
  (try simp only [y1, y2, y3, y4, y5, y6, y7, y8, y9, y0, List.length_map] at hc3)
  have hlt : ¬ a < b := by omega
  refine aw_skip ?_
  refine then_normal ?_
  refine aw_seq ?_
  refine aw_seq ?_
  refine aw_region ?_
  refine zst (op_move_tmp (by rfl)) rfl (by dsimp only [zS, zN, zH, zT]) ?_
  refine zst (op_move_tmp (by rfl)) rfl (by dsimp only [zS, zN, zH, zT]) ?_
  refine zst (op_gtI (by rfl) (by rfl)) rfl (by dsimp only [zS, zN, zH, zT]) ?_
  refine al_end rfl ?_
  refine then_normal ?_
  refine aw_cond rfl (fun hc4 => ?_) (fun hc4 => ?_)
  ·
   (try simp only [y1, y2, y3, y4, y5, y6, y7, y8, y9, y0, List.length_map] at hc4)
   have hgt : b < a := by omega
   refine aw_seq ?_
   refine aw_region ?_
   refine zst (op_assign_const (by rfl)) rfl (by dsimp only [zS, zN, zH, zT]) ?_
   refine al_end rfl ?_
   refine then_normal ?_
   refine aw_ret ?_
   refine then_ret ?_
   refine retPost1 rfl rfl ?_
   exact ⟨by simp [cmpI, hlt, hgt, I], rfl⟩
  ·
   (try simp only [y1, y2, y3, y4, y5, y6, y7, y8, y9, y0, List.length_map] at hc4)
   have hgt : ¬ b < a := by omega
   refine aw_skip ?_
   refine then_normal ?_
   refine aw_seq ?_
   refine aw_region ?_
   refine zst (op_assign_const (by rfl)) rfl (by dsimp only [zS, zN, zH, zT]) ?_
   refine al_end rfl ?_
   refine then_normal ?_
   refine aw_ret ?_
   refine retPost1 rfl rfl ?_
   exact ⟨by simp [cmpI, hlt, hgt, I], rfl⟩
set_option maxRecDepth 100000 in
theorem yes_ok (Hs : HS) (b : Bool) : ACalls Try.prog 106 [.d (TF b)] Hs (Ret (.d (I (yesI b))) Hs) := by
 refine acalls_of_aw Try.func106 rfl ?_
 refine aw_start (T' := [.d (TF b), .un, .un, .un]) rfl ?_
 refine aw_seq ?_
 refine aw_region ?_
 refine zst (op_assign_const (by rfl)) rfl (by dsimp only [zS, zN, zH, zT]) ?_
 refine al_end rfl ?_
 refine then_normal ?_
 refine aw_seq ?_
 refine aw_seq ?_
 refine aw_region ?_
 refine zst (op_move_tmp (by rfl)) rfl (by dsimp only [zS, zN, zH, zT]) ?_
 refine al_end rfl ?_
 refine then_normal ?_
 refine aw_cond rfl (fun hc1 => ?_) (fun hc1 => ?_)
 ·
  (try simp only [y1, y2, y3, y4, y5, y6, y7, y8, y9, y0, List.length_map] at hc1)
  have hb : b = true := hc1
  subst hb
  refine aw_seq ?_
  refine aw_region ?_
  refine zst (op_assign_const (by rfl)) rfl (by dsimp only [zS, zN, zH, zT]) ?_
  refine al_end rfl ?_
  refine then_normal ?_
  refine aw_ret ?_
  refine then_ret ?_
  refine retPost1 rfl rfl ?_
  exact ⟨rfl, rfl⟩
 ·
  (try simp only [y1, y2, y3, y4, y5, y6, y7, y8, y9, y0, List.length_map] at hc1)
  have hb : b = false := hc1
  subst hb
  refine aw_skip ?_
  refine then_normal ?_
  refine aw_seq ?_
  refine aw_region ?_
  refine zst (op_assign_const (by rfl)) rfl (by dsimp only [zS, zN, zH, zT]) ?_
  refine al_end rfl ?_
  refine then_normal ?_
  refine aw_ret ?_
  refine retPost1 rfl rfl ?_
  exact ⟨rfl, rfl⟩
set_option maxRecDepth 100000 in
theorem cmpStr_ok (Hs : HS) (a b : List UInt8) : ACalls Try.prog 78 [.d (S a), .d (S b)] Hs (Ret (.d (I (Lib.compareBytes a b))) Hs) := by
 refine acalls_of_aw Try.func78 rfl ?_
 refine aw_start (T' := [.d (S a), .d (S b), .un, .un, .un, .un, .un, .un]) rfl ?_
 refine aw_seq ?_
 refine aw_region ?_
 refine zst (op_assign_const (by rfl)) rfl (by dsimp only [zS, zN, zH, zT]) ?_
 refine al_end rfl ?_
 refine then_normal ?_
 refine aw_seq ?_
 refine aw_region ?_
 refine zst (op_move_tmp (by rfl)) rfl (by dsimp only [zS, zN, zH, zT]) ?_
 refine zst (op_move_tmp (by rfl)) rfl (by dsimp only [zS, zN, zH, zT]) ?_
 refine zst (op_cmpstring Try.func112 (by kernel_rfl) (by kernel_rfl) (by kernel_rfl) (by kernel_rfl) (by rfl) (by rfl)) rfl (by dsimp only [zS, zN, zH, zT]) ?_
 refine zst (op_assign_tmp (by rfl)) rfl (by dsimp only [zS, zN, zH, zT]) ?_
 refine al_end rfl ?_
 refine then_normal ?_
 refine aw_ret ?_
 refine retPost1 rfl rfl ?_
 exact ⟨rfl, rfl⟩
set_option maxRecDepth 100000 in
theorem strCmp_ok (Hs : HS) (a b : List UInt8) : ACalls Try.prog 43 [.d (S a), .d (S b)] Hs (Ret (.d (I (Lib.compareBytes a b))) Hs) := by
 refine acalls_of_aw Try.func43 rfl ?_
 refine aw_start (T' := [.d (S a), .d (S b), .un, .un, .un, .un, .un, .un]) rfl ?_
 refine aw_seq ?_
 refine aw_region ?_
 refine zst (op_assign_const (by rfl)) rfl (by dsimp only [zS, zN, zH, zT]) ?_
 refine al_end rfl ?_
 refine then_normal ?_
 refine aw_seq ?_
 refine aw_region ?_
 refine zst (op_move_tmp (by rfl)) rfl (by dsimp only [zS, zN, zH, zT]) ?_
 refine zst (op_move_tmp (by rfl)) rfl (by dsimp only [zS, zN, zH, zT]) ?_
 refine zst (op_callF Try.func78 (by rfl) (by rfl) (.tmp (by rfl) (.tmp (by rfl) .nil)) (cmpStr_ok _ a b)) rfl (by dsimp only [zS, zN, zH, zT]) ?_
 refine zst (op_assign_tmp (by rfl)) rfl (by dsimp only [zS, zN, zH, zT]) ?_
 refine al_end rfl ?_
 refine then_normal ?_
 refine aw_ret ?_
 refine retPost1 rfl rfl ?_
 exact ⟨rfl, rfl⟩
set_option maxRecDepth 100000 in
theorem or_ok (Hs : HS) (a b : Int) : ACalls Try.prog 111 [.own none 1 [I a, I b]] Hs (Ret (.d (I (orI a b))) Hs) := by
 refine acalls_of_aw Try.func111 rfl ?_
 refine aw_start (T' := [.own none 1 [I a, I b], .un, .un, .un, .un, .un, .un, .un, .un, .un, .un, .un, .un, .un, .un, .un, .un, .un]) rfl ?_
 refine aw_seq ?_
 refine aw_region ?_
 refine zst (op_assign_const (by rfl)) rfl (by dsimp only [zS, zN, zH, zT]) ?_
 refine al_end rfl ?_
 refine then_normal ?_
 refine aw_seq ?_
 refine aw_region ?_
 refine zst (op_assign_const (by rfl)) rfl (by dsimp only [zS, zN, zH, zT]) ?_
 refine al_end rfl ?_
 refine then_normal ?_
 refine aw_seq ?_
 refine aw_seq ?_
 refine aw_region ?_
 refine zst (op_move_tmp (by rfl)) rfl (by dsimp only [zS, zN, zH, zT]) ?_
 refine zst (op_lenL Try.underlying229 (by first | exact LL.d _ _ | exact LL.own _ _ _ | exact LL.nil _ | assumption)) rfl (by dsimp only [zS, zN, zH, zT]) ?_
 refine zst (op_move_const (by rfl)) rfl (by dsimp only [zS, zN, zH, zT]) ?_
 refine al_end rfl ?_
 refine then_normal ?_
 refine aw_block ?_
 apply aw_loopF (fun n T H => ∃ (k : Nat), T = [.un, .un, .un, .d (I 0), .un, .un, .own none 1 [I a, I b], .d (I 2), .d (I k), .un, .un, .un, .un, .un, .un, .un, .un, .un] ∧ k ≤ 2 ∧ n = 2 - k ∧ (0 < k → a = 0) ∧ (1 < k → b = 0) ∧ Hs = H) (2) [false, false, false, true, false, false, true, true, true, false, false, false, false, false, false, false, false, false]
 · (try dsimp only [maskT]); try exact rfl
 · rfl
 · exact ⟨0, rfl, by omega, rfl, fun h => absurd h (by decide), fun h => absurd h (by decide), rfl⟩
 rintro n T H ⟨k, rfl, hk, rfl, ha, hb, rfl⟩
 refine aw_seq ?_
 refine aw_region ?_
 refine zst (op_ltI (by rfl) (by rfl)) rfl (by dsimp only [zS, zN, zH, zT]) ?_
 refine al_end rfl ?_
 refine then_normal ?_
 refine aw_seq ?_
 refine aw_cond rfl (fun hc1 => ?_) (fun hc1 => ?_)
 ·
  (try simp only [y1, y2, y3, y4, y5, y6, y7, y8, y9, y0, List.length_map] at hc1)
  have hlt : k < 2 := by omega
  have hk2 : k = 0 ∨ k = 1 := by omega
  obtain ⟨x, hx⟩ : ∃ x, [a, b][k]? = some x := ⟨_, List.getElem?_eq_getElem (by simpa using hlt)⟩
  refine aw_skip ?_
  refine then_normal ?_
  refine aw_seq ?_
  refine aw_block ?_
  refine aw_seq ?_
  refine aw_region ?_
  refine zst (op_indexAddr (z := I x) (cs := [I x]) Try.underlying229 Sz3 (LL.own _ _ _) (by rfl) (by omega) (by rcases hk2 with rfl | rfl <;> (simp at hx; subst hx; rfl)) (by rfl)) rfl (by dsimp only [zS, zN, zH, zT]) ?_
  refine zst (by first | exact op_load_elt Try.underlying3 (by rfl) (by rfl) (by rfl) | exact op_load_ptr Try.underlying3 (by rfl) (by rfl) (by rfl) (by rfl)) rfl (by dsimp only [zS, zN, zH, zT]) ?_
  refine zst (op_assign_tmp (by rfl)) rfl (by dsimp only [zS, zN, zH, zT]) ?_
  refine al_end rfl ?_
  refine then_normal ?_
  refine aw_seq ?_
  refine aw_region ?_
  refine zst (op_move_tmp (by rfl)) rfl (by dsimp only [zS, zN, zH, zT]) ?_
  refine zst (op_move_tmp (by rfl)) rfl (by dsimp only [zS, zN, zH, zT]) ?_
  refine zst (op_neI (by rfl) (by rfl)) rfl (by dsimp only [zS, zN, zH, zT]) ?_
  refine al_end rfl ?_
  refine then_normal ?_
  refine aw_cond rfl (fun hc2 => ?_) (fun hc2 => ?_)
  ·
   (try simp only [y1, y2, y3, y4, y5, y6, y7, y8, y9, y0, List.length_map] at hc2)
   have hne : ¬ x = 0 := hc2
   refine aw_seq ?_
   refine aw_region ?_
   refine zst (op_move_tmp (by rfl)) rfl (by dsimp only [zS, zN, zH, zT]) ?_
   refine zst (op_assign_tmp (by rfl)) rfl (by dsimp only [zS, zN, zH, zT]) ?_
   refine al_end rfl ?_
   refine then_normal ?_
   refine aw_ret ?_
   refine inBlock_ret (then_ret (again_ret (inBlock_ret (then_ret ?_))))
   refine retPost1 rfl rfl ?_
   exact ⟨by rcases hk2 with rfl | rfl; (simp at hx; subst hx; simp [orI, hne]); (have h0 := ha (by decide); simp at hx; subst hx h0; simp [orI]), rfl⟩
  ·
   (try simp only [y1, y2, y3, y4, y5, y6, y7, y8, y9, y0, List.length_map] at hc2)
   have hz : [a, b][k]? = some 0 := by rw [hx]; exact congrArg some (by simpa using hc2)
   refine aw_skip ?_
   refine inBlock_normal (then_normal ?_)
   refine aw_region ?_
   refine zst (by first | exact op_add (by rfl) (by rfl) (wrap_i64 ⟨by omega, by omega⟩) | exact op_add (by rfl) (by rfl) (by rfl)) rfl (by dsimp only [zS, zN, zH, zT]) ?_
   refine zst (op_move_tmp (by rfl)) rfl (by dsimp only [zS, zN, zH, zT]) ?_
   refine al_end rfl ?_
   apply again_to (2 - (k + 1)) [false, false, false, true, false, false, true, true, true, false, false, false, false, false, false, false, false, false]
   · (try dsimp only [maskT]); try exact rfl
   · rfl
   · omega
   exact ⟨k + 1, rfl, by omega, rfl, fun _ => by rcases hk2 with rfl | rfl; (simpa using hz); exact ha (by decide), fun h => by rcases hk2 with rfl | rfl; exact absurd h (by decide); (simpa using hz), rfl⟩
 ·
  (try simp only [y1, y2, y3, y4, y5, y6, y7, y8, y9, y0, List.length_map] at hc1)
  have hk2 : k = 2 := by omega
  subst hk2
  have ha0 := ha (by decide)
  have hb0 := hb (by decide)
  refine aw_exit ?_
  refine then_exit (again_exit (inBlock_here (then_normal ?_)))
  refine aw_seq ?_
  refine aw_region ?_
  refine zst (op_move_tmp (by rfl)) rfl (by dsimp only [zS, zN, zH, zT]) ?_
  refine zst (op_assign_tmp (by rfl)) rfl (by dsimp only [zS, zN, zH, zT]) ?_
  refine al_end rfl ?_
  refine then_normal ?_
  refine aw_ret ?_
  refine retPost1 rfl rfl ?_
  exact ⟨by subst ha0 hb0; rfl, rfl⟩
set_option maxRecDepth 100000 in
theorem cmpL_ok (Hs : HS) (xs zs : List V) (hl : xs.length ≤ 1000000) (hl2 : zs.length ≤ 1000000) (ihA : ∀ x ∈ xs, ∀ z ∈ zs, ∀ Hs : HS, ACalls Try.prog 77 [.d (.agg (vC x)), .d (.agg (vC z))] Hs (Ret (.d (I (cmpV x z))) Hs)) : ACalls Try.prog 108 [.d (.lst 6 (xs.map vD)), .d (.lst 6 (zs.map vD)), .fn (.func 77) [] []] Hs (Ret (.d (I (cmpL xs zs))) Hs) := by
 refine ACalls.tidy1 ?_
 refine acalls_of_aw Try.func108 rfl ?_
 refine aw_start (T' := [.d (.lst 6 (xs.map vD)), .d (.lst 6 (zs.map vD)), .fn (.func 77) [] [], .un, .un, .un, .un, .un, .un, .un, .un, .un, .un, .un, .un, .un, .un, .un, .un, .un, .un, .un, .un, .un, .un, .un, .un, .un, .un, .un, .un, .un, .un, .un, .un, .un, .un, .un, .un]) rfl ?_
 refine aw_seq ?_
 refine aw_region ?_
 refine zst (op_assign_const (by rfl)) rfl (by dsimp only [zS, zN, zH, zT]) ?_
 refine al_end rfl ?_
 refine then_normal ?_
 refine aw_seq ?_
 refine aw_seq ?_
 refine aw_region ?_
 refine zst (op_move_tmp (by rfl)) rfl (by dsimp only [zS, zN, zH, zT]) ?_
 refine zst (op_lenL Try.underlying24 (by first | exact LL.d _ _ | exact LL.own _ _ _ | exact LL.nil _ | assumption)) rfl (by dsimp only [zS, zN, zH, zT]) ?_
 refine zst (op_move_const (by rfl)) rfl (by dsimp only [zS, zN, zH, zT]) ?_
 refine al_end rfl ?_
 refine then_normal ?_
 refine aw_block ?_
 apply aw_loopF (fun n T H => ∃ (k : Nat), T = [.d (.lst 6 (xs.map vD)), .d (.lst 6 (zs.map vD)), .fn (.func 77) [] [], .un, .un, .un, .un, .un, .un, .un, .un, .d (.lst 6 (xs.map vD)), .d (I (xs.map vD).length), .d (I k), .un, .un, .un, .un, .un, .un, .un, .un, .un, .un, .un, .un, .un, .un, .un, .un, .un, .un, .un, .un, .un, .un, .un, .un, .un] ∧ k ≤ xs.length ∧ k ≤ zs.length ∧ n = xs.length - k ∧ cmpL xs zs = cmpL (xs.drop k) (zs.drop k) ∧ Ext Hs H) (xs.length) [true, true, true, false, false, false, false, false, false, false, false, true, true, true, false, false, false, false, false, false, false, false, false, false, false, false, false, false, false, false, false, false, false, false, false, false, false, false, false]
 · (try dsimp only [maskT]); try exact rfl
 · rfl
 · exact ⟨0, rfl, by omega, by omega, rfl, rfl, Ext.refl _⟩
 rintro n T H ⟨k, rfl, hk, hk2, rfl, he, hx⟩
 refine aw_seq ?_
 refine aw_region ?_
 refine zst (op_ltI (by rfl) (by rfl)) rfl (by dsimp only [zS, zN, zH, zT]) ?_
 refine al_end rfl ?_
 refine then_normal ?_
 refine aw_seq ?_
 refine aw_cond rfl (fun hc1 => ?_) (fun hc1 => ?_)
 ·
  (try simp only [y1, y2, y3, y4, y5, y6, y7, y8, y9, y0, List.length_map] at hc1)
  (try simp only [List.length_map] at hc1)
  have hlt : k < xs.length := by omega
  obtain ⟨x, hx1⟩ : ∃ x, xs[k]? = some x := ⟨_, List.getElem?_eq_getElem hlt⟩
  refine aw_skip ?_
  refine then_normal ?_
  refine aw_seq ?_
  refine aw_block ?_
  refine aw_seq ?_
  refine aw_region ?_
  refine zst (op_move_tmp (by rfl)) rfl (by dsimp only [zS, zN, zH, zT]) ?_
  refine zst (op_indexAddr (z := vD x) (cs := [I x.kind, TF x.yes, .v (.int .i64 x.num), S x.text, .lst 6 (x.list.map vD), .lst 7 (x.fields.map fD)]) Try.underlying24 Sz26 (LL.d _ _) (by rfl) (by omega) (by rw [List.getElem?_map, show ((k : Nat) : Int).toNat = k from rfl, hx1]; rfl) (vD_cells x)) rfl (by dsimp only [zS, zN, zH, zT]) ?_
  refine zst (op_load_elts (ds := vC x) Try.underlying26 (by rfl) Sz26 (by rfl) (Nat.le_of_ble_eq_true rfl) (by rw [vC_eq]; rfl)) rfl (by dsimp only [zS, zN, zH, zT]) ?_
  refine zst (op_alloc (Zr26) (by rfl)) rfl (by dsimp only [zS, zN, zH, zT]) ?_
  refine zst (op_assign_tmp (by rfl)) rfl (by dsimp only [zS, zN, zH, zT]) ?_
  refine zst (op_storeV (b' := ⟨26, (vC x).map .d, false⟩) x Sz26 (by rfl) push_at (by rfl) (Nat.le_of_ble_eq_true rfl) (by rfl) (by rw [vC_eq]; rfl)) rfl (by dsimp only [zS, zN, zH, zT]) ?_
  refine al_end rfl ?_
  refine then_normal ?_
  refine aw_seq ?_
  refine aw_seq ?_
  refine aw_region ?_
  refine zst (op_move_tmp (by rfl)) rfl (by dsimp only [zS, zN, zH, zT]) ?_
  refine zst (op_move_tmp (by rfl)) rfl (by dsimp only [zS, zN, zH, zT]) ?_
  refine zst (op_lenL Try.underlying24 (by first | exact LL.d _ _ | exact LL.own _ _ _ | exact LL.nil _ | assumption)) rfl (by dsimp only [zS, zN, zH, zT]) ?_
  refine zst (op_geI (by rfl) (by rfl)) rfl (by dsimp only [zS, zN, zH, zT]) ?_
  refine al_end rfl ?_
  refine then_normal ?_
  refine aw_cond rfl (fun hc2 => ?_) (fun hc2 => ?_)
  ·
   (try simp only [y1, y2, y3, y4, y5, y6, y7, y8, y9, y0, List.length_map] at hc2)
   (try simp only [List.length_map] at hc2)
   have hge : zs.length ≤ k := by omega
   refine aw_seq ?_
   refine aw_region ?_
   refine zst (op_assign_const (by rfl)) rfl (by dsimp only [zS, zN, zH, zT]) ?_
   refine al_end rfl ?_
   refine then_normal ?_
   refine aw_ret ?_
   refine then_ret (inBlock_ret (then_ret (again_ret (inBlock_ret (then_ret ?_)))))
   refine retPost1 rfl rfl ?_
   exact ⟨by rw [he, cmpL_gt hx1 hge]; rfl, (hx.push _ _).setB (nb_le hx)⟩
  ·
   (try simp only [y1, y2, y3, y4, y5, y6, y7, y8, y9, y0, List.length_map] at hc2)
   (try simp only [List.length_map] at hc2)
   have hlt2 : k < zs.length := by omega
   obtain ⟨z, hz1⟩ : ∃ x, zs[k]? = some x := ⟨_, List.getElem?_eq_getElem hlt2⟩
   refine aw_skip ?_
   refine then_normal ?_
   refine aw_seq ?_
   refine aw_region ?_
   refine zst (op_move_tmp (by rfl)) rfl (by dsimp only [zS, zN, zH, zT]) ?_
   refine zst (op_move_tmp (by rfl)) rfl (by dsimp only [zS, zN, zH, zT]) ?_
   refine zst (op_indexAddr (z := vD z) (cs := [I z.kind, TF z.yes, .v (.int .i64 z.num), S z.text, .lst 6 (z.list.map vD), .lst 7 (z.fields.map fD)]) Try.underlying24 Sz26 (LL.d _ _) (by rfl) (by omega) (by rw [List.getElem?_map, show ((k : Nat) : Int).toNat = k from rfl, hz1]; rfl) (vD_cells z)) rfl (by dsimp only [zS, zN, zH, zT]) ?_
   refine zst (op_load_elts (ds := vC z) Try.underlying26 (by rfl) Sz26 (by rfl) (Nat.le_of_ble_eq_true rfl) (by rw [vC_eq]; rfl)) rfl (by dsimp only [zS, zN, zH, zT]) ?_
   refine zst (op_alloc (Zr26) (by rfl)) rfl (by dsimp only [zS, zN, zH, zT]) ?_
   refine zst (op_storeV (b' := ⟨26, (vC z).map .d, false⟩) z Sz26 (by rfl) push_at (by rfl) (Nat.le_of_ble_eq_true rfl) (by rfl) (by rw [vC_eq]; rfl)) rfl (by dsimp only [zS, zN, zH, zT]) ?_
   refine al_end rfl ?_
   refine then_normal ?_
   refine aw_seq ?_
   refine aw_region ?_
   refine zst (op_move_tmp (by rfl)) rfl (by dsimp only [zS, zN, zH, zT]) ?_
   refine zst (op_load_ptrsD (vC x) Try.underlying26 (by rfl) Sz26 (by rfl) (by rw [setB_ne (by simp only [setB_nb, push_nb]; omega)]; exact push_ne (setB_at push_at)) (by show 0 + 6 ≤ ((vC x).map AV.d).length; rw [List.length_map, vC_len]; exact Nat.le_refl _) (by show (((vC x).map AV.d).drop 0).take 6 = _; rw [List.drop_zero, List.take_of_length_le (by rw [List.length_map, vC_len]; exact Nat.le_refl _)]) (vC_one x)) rfl (by dsimp only [zS, zN, zH, zT]) ?_
   refine zst (op_load_ptrsD (vC z) Try.underlying26 (by rfl) Sz26 (by rfl) (setB_at push_at) (by show 0 + 6 ≤ ((vC z).map AV.d).length; rw [List.length_map, vC_len]; exact Nat.le_refl _) (by show (((vC z).map AV.d).drop 0).take 6 = _; rw [List.drop_zero, List.take_of_length_le (by rw [List.length_map, vC_len]; exact Nat.le_refl _)]) (vC_one z)) rfl (by dsimp only [zS, zN, zH, zT]) ?_
   refine zst (op_callV (by rfl) Try.func77 (by rfl) (by rfl) (.tmp (by rfl) (.tmp (by rfl) .nil)) (ihA x (List.mem_of_getElem? hx1) z (List.mem_of_getElem? hz1) _)) rfl (by dsimp only [zS, zN, zH, zT]) ?_
   refine zst (op_assign_tmp (by rfl)) rfl (by dsimp only [zS, zN, zH, zT]) ?_
   refine al_end rfl ?_
   refine then_normal ?_
   refine aw_seq ?_
   refine aw_region ?_
   refine zst (op_move_tmp (by rfl)) rfl (by dsimp only [zS, zN, zH, zT]) ?_
   refine zst (op_neI (by rfl) (by rfl)) rfl (by dsimp only [zS, zN, zH, zT]) ?_
   refine al_end rfl ?_
   refine then_normal ?_
   refine aw_cond rfl (fun hc3 => ?_) (fun hc3 => ?_)
   ·
    (try simp only [y1, y2, y3, y4, y5, y6, y7, y8, y9, y0, List.length_map] at hc3)
    have hc0 : ¬ cmpV x z = 0 := hc3
    refine aw_seq ?_
    refine aw_region ?_
    refine zst (op_move_tmp (by rfl)) rfl (by dsimp only [zS, zN, zH, zT]) ?_
    refine zst (op_assign_tmp (by rfl)) rfl (by dsimp only [zS, zN, zH, zT]) ?_
    refine al_end rfl ?_
    refine then_normal ?_
    refine aw_ret ?_
    refine inBlock_ret (then_ret (again_ret (inBlock_ret (then_ret ?_))))
    refine retPost1 rfl rfl ?_
    exact ⟨by rw [he, cmpL_at hx1 hz1 hc0], (((hx.push _ _).setB (nb_le hx)).push _ _).setB (Nat.le_trans (nb_le hx) (by (simp only [setB_nb, push_nb]; omega)))⟩
   ·
    (try simp only [y1, y2, y3, y4, y5, y6, y7, y8, y9, y0, List.length_map] at hc3)
    have hc0 : cmpV x z = 0 := by simpa using hc3
    refine aw_skip ?_
    refine inBlock_normal (then_normal ?_)
    refine aw_region ?_
    refine zst (by first | exact op_add (by rfl) (by rfl) (wrap_i64 ⟨by omega, by omega⟩) | exact op_add (by rfl) (by rfl) (by rfl)) rfl (by dsimp only [zS, zN, zH, zT]) ?_
    refine zst (op_move_tmp (by rfl)) rfl (by dsimp only [zS, zN, zH, zT]) ?_
    refine al_end rfl ?_
    apply again_to (xs.length - (k + 1)) [true, true, true, false, false, false, false, false, false, false, false, true, true, true, false, false, false, false, false, false, false, false, false, false, false, false, false, false, false, false, false, false, false, false, false, false, false, false, false]
    · (try dsimp only [maskT]); try exact rfl
    · rfl
    · omega
    exact ⟨k + 1, rfl, by omega, by omega, rfl, he.trans (cmpL_step hx1 hz1 hc0), (((hx.push _ _).setB (nb_le hx)).push _ _).setB (Nat.le_trans (nb_le hx) (by (simp only [setB_nb, push_nb]; omega)))⟩
 ·
  (try simp only [y1, y2, y3, y4, y5, y6, y7, y8, y9, y0, List.length_map] at hc1)
  (try simp only [List.length_map] at hc1)
  have hke : k = xs.length := by omega
  refine aw_exit ?_
  refine then_exit (again_exit (inBlock_here (then_normal ?_)))
  refine aw_seq ?_
  refine aw_seq ?_
  refine aw_region ?_
  refine zst (op_move_tmp (by rfl)) rfl (by dsimp only [zS, zN, zH, zT]) ?_
  refine zst (op_lenL Try.underlying24 (by first | exact LL.d _ _ | exact LL.own _ _ _ | exact LL.nil _ | assumption)) rfl (by dsimp only [zS, zN, zH, zT]) ?_
  refine zst (op_move_tmp (by rfl)) rfl (by dsimp only [zS, zN, zH, zT]) ?_
  refine zst (op_lenL Try.underlying24 (by first | exact LL.d _ _ | exact LL.own _ _ _ | exact LL.nil _ | assumption)) rfl (by dsimp only [zS, zN, zH, zT]) ?_
  refine zst (op_ltI (by rfl) (by rfl)) rfl (by dsimp only [zS, zN, zH, zT]) ?_
  refine al_end rfl ?_
  refine then_normal ?_
  refine aw_cond rfl (fun hc4 => ?_) (fun hc4 => ?_)
  ·
   (try simp only [y1, y2, y3, y4, y5, y6, y7, y8, y9, y0, List.length_map] at hc4)
   (try simp only [List.length_map] at hc4)
   obtain ⟨z, hz1⟩ : ∃ x, zs[k]? = some x := ⟨_, List.getElem?_eq_getElem (by omega)⟩
   refine aw_seq ?_
   refine aw_region ?_
   refine zst (op_assign_const (by rfl)) rfl (by dsimp only [zS, zN, zH, zT]) ?_
   refine al_end rfl ?_
   refine then_normal ?_
   refine aw_ret ?_
   refine then_ret ?_
   refine retPost1 rfl rfl ?_
   exact ⟨by rw [he, cmpL_lt (by omega) hz1]; rfl, hx⟩
  ·
   (try simp only [y1, y2, y3, y4, y5, y6, y7, y8, y9, y0, List.length_map] at hc4)
   (try simp only [List.length_map] at hc4)
   refine aw_skip ?_
   refine then_normal ?_
   refine aw_seq ?_
   refine aw_region ?_
   refine zst (op_assign_const (by rfl)) rfl (by dsimp only [zS, zN, zH, zT]) ?_
   refine al_end rfl ?_
   refine then_normal ?_
   refine aw_ret ?_
   refine retPost1 rfl rfl ?_
   exact ⟨by rw [he, cmpL_eq (by omega) (by omega)]; rfl, hx⟩
set_option maxRecDepth 100000 in
theorem cmpF_ok (Hs : HS) (xs zs : List F) (hl : xs.length ≤ 1000000) (hl2 : zs.length ≤ 1000000) (ihA : ∀ x ∈ xs, ∀ z ∈ zs, ∀ Hs : HS, ACalls Try.prog 110 [.d (.agg (fC x)), .d (.agg (fC z))] Hs (Ret (.d (I (cmpF1 x z))) Hs)) : ACalls Try.prog 109 [.d (.lst 7 (xs.map fD)), .d (.lst 7 (zs.map fD)), .fn (.func 110) [] []] Hs (Ret (.d (I (cmpF xs zs))) Hs) := by
 refine ACalls.tidy1 ?_
 refine acalls_of_aw Try.func109 rfl ?_
 refine aw_start (T' := [.d (.lst 7 (xs.map fD)), .d (.lst 7 (zs.map fD)), .fn (.func 110) [] [], .un, .un, .un, .un, .un, .un, .un, .un, .un, .un, .un, .un, .un, .un, .un, .un, .un, .un, .un, .un, .un, .un, .un, .un, .un, .un, .un, .un, .un, .un, .un, .un, .un, .un, .un, .un]) rfl ?_
 refine aw_seq ?_
 refine aw_region ?_
 refine zst (op_assign_const (by rfl)) rfl (by dsimp only [zS, zN, zH, zT]) ?_
 refine al_end rfl ?_
 refine then_normal ?_
 refine aw_seq ?_
 refine aw_seq ?_
 refine aw_region ?_
 refine zst (op_move_tmp (by rfl)) rfl (by dsimp only [zS, zN, zH, zT]) ?_
 refine zst (op_lenL Try.underlying22 (by first | exact LL.d _ _ | exact LL.own _ _ _ | exact LL.nil _ | assumption)) rfl (by dsimp only [zS, zN, zH, zT]) ?_
 refine zst (op_move_const (by rfl)) rfl (by dsimp only [zS, zN, zH, zT]) ?_
 refine al_end rfl ?_
 refine then_normal ?_
 refine aw_block ?_
 apply aw_loopF (fun n T H => ∃ (k : Nat), T = [.d (.lst 7 (xs.map fD)), .d (.lst 7 (zs.map fD)), .fn (.func 110) [] [], .un, .un, .un, .un, .un, .un, .un, .un, .d (.lst 7 (xs.map fD)), .d (I (xs.map fD).length), .d (I k), .un, .un, .un, .un, .un, .un, .un, .un, .un, .un, .un, .un, .un, .un, .un, .un, .un, .un, .un, .un, .un, .un, .un, .un, .un] ∧ k ≤ xs.length ∧ k ≤ zs.length ∧ n = xs.length - k ∧ cmpF xs zs = cmpF (xs.drop k) (zs.drop k) ∧ Ext Hs H) (xs.length) [true, true, true, false, false, false, false, false, false, false, false, true, true, true, false, false, false, false, false, false, false, false, false, false, false, false, false, false, false, false, false, false, false, false, false, false, false, false, false]
 · (try dsimp only [maskT]); try exact rfl
 · rfl
 · exact ⟨0, rfl, by omega, by omega, rfl, rfl, Ext.refl _⟩
 rintro n T H ⟨k, rfl, hk, hk2, rfl, he, hx⟩
 refine aw_seq ?_
 refine aw_region ?_
 refine zst (op_ltI (by rfl) (by rfl)) rfl (by dsimp only [zS, zN, zH, zT]) ?_
 refine al_end rfl ?_
 refine then_normal ?_
 refine aw_seq ?_
 refine aw_cond rfl (fun hc1 => ?_) (fun hc1 => ?_)
 ·
  (try simp only [y1, y2, y3, y4, y5, y6, y7, y8, y9, y0, List.length_map] at hc1)
  (try simp only [List.length_map] at hc1)
  have hlt : k < xs.length := by omega
  obtain ⟨x, hx1⟩ : ∃ x, xs[k]? = some x := ⟨_, List.getElem?_eq_getElem hlt⟩
  refine aw_skip ?_
  refine then_normal ?_
  refine aw_seq ?_
  refine aw_block ?_
  refine aw_seq ?_
  refine aw_region ?_
  refine zst (op_move_tmp (by rfl)) rfl (by dsimp only [zS, zN, zH, zT]) ?_
  refine zst (op_indexAddr (z := fD x) (cs := [S x.name, I x.val.kind, TF x.val.yes, .v (.int .i64 x.val.num), S x.val.text, .lst 6 (x.val.list.map vD), .lst 7 (x.val.fields.map fD)]) Try.underlying22 Sz30 (LL.d _ _) (by rfl) (by omega) (by rw [List.getElem?_map, show ((k : Nat) : Int).toNat = k from rfl, hx1]; rfl) (fD_cells7 x)) rfl (by dsimp only [zS, zN, zH, zT]) ?_
  refine zst (op_load_elts (ds := fC x) Try.underlying30 (by rfl) Sz30 (by rfl) (Nat.le_of_ble_eq_true rfl) (by rw [← fC7]; rfl)) rfl (by dsimp only [zS, zN, zH, zT]) ?_
  refine zst (op_alloc (Zr30) (by rfl)) rfl (by dsimp only [zS, zN, zH, zT]) ?_
  refine zst (op_assign_tmp (by rfl)) rfl (by dsimp only [zS, zN, zH, zT]) ?_
  refine zst (op_storeF (b' := f1 30 x) x Sz30 (by rfl) push_at (by rfl) (Nat.le_of_ble_eq_true rfl) (by rfl) (by unfold f1; rw [← fC7]; rfl)) rfl (by dsimp only [zS, zN, zH, zT]) ?_
  refine al_end rfl ?_
  refine then_normal ?_
  refine aw_seq ?_
  refine aw_seq ?_
  refine aw_region ?_
  refine zst (op_move_tmp (by rfl)) rfl (by dsimp only [zS, zN, zH, zT]) ?_
  refine zst (op_move_tmp (by rfl)) rfl (by dsimp only [zS, zN, zH, zT]) ?_
  refine zst (op_lenL Try.underlying22 (by first | exact LL.d _ _ | exact LL.own _ _ _ | exact LL.nil _ | assumption)) rfl (by dsimp only [zS, zN, zH, zT]) ?_
  refine zst (op_geI (by rfl) (by rfl)) rfl (by dsimp only [zS, zN, zH, zT]) ?_
  refine al_end rfl ?_
  refine then_normal ?_
  refine aw_cond rfl (fun hc2 => ?_) (fun hc2 => ?_)
  ·
   (try simp only [y1, y2, y3, y4, y5, y6, y7, y8, y9, y0, List.length_map] at hc2)
   (try simp only [List.length_map] at hc2)
   have hge : zs.length ≤ k := by omega
   refine aw_seq ?_
   refine aw_region ?_
   refine zst (op_assign_const (by rfl)) rfl (by dsimp only [zS, zN, zH, zT]) ?_
   refine al_end rfl ?_
   refine then_normal ?_
   refine aw_ret ?_
   refine then_ret (inBlock_ret (then_ret (again_ret (inBlock_ret (then_ret ?_)))))
   refine retPost1 rfl rfl ?_
   exact ⟨by rw [he, cmpF_gt hx1 hge]; rfl, (hx.push _ _).setB (nb_le hx)⟩
  ·
   (try simp only [y1, y2, y3, y4, y5, y6, y7, y8, y9, y0, List.length_map] at hc2)
   (try simp only [List.length_map] at hc2)
   have hlt2 : k < zs.length := by omega
   obtain ⟨z, hz1⟩ : ∃ x, zs[k]? = some x := ⟨_, List.getElem?_eq_getElem hlt2⟩
   refine aw_skip ?_
   refine then_normal ?_
   refine aw_seq ?_
   refine aw_region ?_
   refine zst (op_move_tmp (by rfl)) rfl (by dsimp only [zS, zN, zH, zT]) ?_
   refine zst (op_move_tmp (by rfl)) rfl (by dsimp only [zS, zN, zH, zT]) ?_
   refine zst (op_indexAddr (z := fD z) (cs := [S z.name, I z.val.kind, TF z.val.yes, .v (.int .i64 z.val.num), S z.val.text, .lst 6 (z.val.list.map vD), .lst 7 (z.val.fields.map fD)]) Try.underlying22 Sz30 (LL.d _ _) (by rfl) (by omega) (by rw [List.getElem?_map, show ((k : Nat) : Int).toNat = k from rfl, hz1]; rfl) (fD_cells7 z)) rfl (by dsimp only [zS, zN, zH, zT]) ?_
   refine zst (op_load_elts (ds := fC z) Try.underlying30 (by rfl) Sz30 (by rfl) (Nat.le_of_ble_eq_true rfl) (by rw [← fC7]; rfl)) rfl (by dsimp only [zS, zN, zH, zT]) ?_
   refine zst (op_alloc (Zr30) (by rfl)) rfl (by dsimp only [zS, zN, zH, zT]) ?_
   refine zst (op_storeF (b' := f1 30 z) z Sz30 (by rfl) push_at (by rfl) (Nat.le_of_ble_eq_true rfl) (by rfl) (by unfold f1; rw [← fC7]; rfl)) rfl (by dsimp only [zS, zN, zH, zT]) ?_
   refine al_end rfl ?_
   refine then_normal ?_
   refine aw_seq ?_
   refine aw_region ?_
   refine zst (op_move_tmp (by rfl)) rfl (by dsimp only [zS, zN, zH, zT]) ?_
   refine zst (op_loadF 30 x Try.underlying30 (by rfl) Sz30 (by rfl) (by rw [setB_ne (by simp only [setB_nb, push_nb]; omega)]; exact push_ne (setB_at push_at))) rfl (by dsimp only [zS, zN, zH, zT]) ?_
   refine zst (op_loadF 30 z Try.underlying30 (by rfl) Sz30 (by rfl) (setB_at push_at)) rfl (by dsimp only [zS, zN, zH, zT]) ?_
   refine zst (op_callV (by rfl) Try.func110 (by rfl) (by rfl) (.tmp (by rfl) (.tmp (by rfl) .nil)) (ihA x (List.mem_of_getElem? hx1) z (List.mem_of_getElem? hz1) _)) rfl (by dsimp only [zS, zN, zH, zT]) ?_
   refine zst (op_assign_tmp (by rfl)) rfl (by dsimp only [zS, zN, zH, zT]) ?_
   refine al_end rfl ?_
   refine then_normal ?_
   refine aw_seq ?_
   refine aw_region ?_
   refine zst (op_move_tmp (by rfl)) rfl (by dsimp only [zS, zN, zH, zT]) ?_
   refine zst (op_neI (by rfl) (by rfl)) rfl (by dsimp only [zS, zN, zH, zT]) ?_
   refine al_end rfl ?_
   refine then_normal ?_
   refine aw_cond rfl (fun hc3 => ?_) (fun hc3 => ?_)
   ·
    (try simp only [y1, y2, y3, y4, y5, y6, y7, y8, y9, y0, List.length_map] at hc3)
    have hc0 : ¬ cmpF1 x z = 0 := hc3
    refine aw_seq ?_
    refine aw_region ?_
    refine zst (op_move_tmp (by rfl)) rfl (by dsimp only [zS, zN, zH, zT]) ?_
    refine zst (op_assign_tmp (by rfl)) rfl (by dsimp only [zS, zN, zH, zT]) ?_
    refine al_end rfl ?_
    refine then_normal ?_
    refine aw_ret ?_
    refine inBlock_ret (then_ret (again_ret (inBlock_ret (then_ret ?_))))
    refine retPost1 rfl rfl ?_
    exact ⟨by rw [he, cmpF_at hx1 hz1 hc0], (((hx.push _ _).setB (nb_le hx)).push _ _).setB (Nat.le_trans (nb_le hx) (by (simp only [setB_nb, push_nb]; omega)))⟩
   ·
    (try simp only [y1, y2, y3, y4, y5, y6, y7, y8, y9, y0, List.length_map] at hc3)
    have hc0 : cmpF1 x z = 0 := by simpa using hc3
    refine aw_skip ?_
    refine inBlock_normal (then_normal ?_)
    refine aw_region ?_
    refine zst (by first | exact op_add (by rfl) (by rfl) (wrap_i64 ⟨by omega, by omega⟩) | exact op_add (by rfl) (by rfl) (by rfl)) rfl (by dsimp only [zS, zN, zH, zT]) ?_
    refine zst (op_move_tmp (by rfl)) rfl (by dsimp only [zS, zN, zH, zT]) ?_
    refine al_end rfl ?_
    apply again_to (xs.length - (k + 1)) [true, true, true, false, false, false, false, false, false, false, false, true, true, true, false, false, false, false, false, false, false, false, false, false, false, false, false, false, false, false, false, false, false, false, false, false, false, false, false]
    · (try dsimp only [maskT]); try exact rfl
    · rfl
    · omega
    exact ⟨k + 1, rfl, by omega, by omega, rfl, he.trans (cmpF_step hx1 hz1 hc0), (((hx.push _ _).setB (nb_le hx)).push _ _).setB (Nat.le_trans (nb_le hx) (by (simp only [setB_nb, push_nb]; omega)))⟩
 ·
  (try simp only [y1, y2, y3, y4, y5, y6, y7, y8, y9, y0, List.length_map] at hc1)
  (try simp only [List.length_map] at hc1)
  have hke : k = xs.length := by omega
  refine aw_exit ?_
  refine then_exit (again_exit (inBlock_here (then_normal ?_)))
  refine aw_seq ?_
  refine aw_seq ?_
  refine aw_region ?_
  refine zst (op_move_tmp (by rfl)) rfl (by dsimp only [zS, zN, zH, zT]) ?_
  refine zst (op_lenL Try.underlying22 (by first | exact LL.d _ _ | exact LL.own _ _ _ | exact LL.nil _ | assumption)) rfl (by dsimp only [zS, zN, zH, zT]) ?_
  refine zst (op_move_tmp (by rfl)) rfl (by dsimp only [zS, zN, zH, zT]) ?_
  refine zst (op_lenL Try.underlying22 (by first | exact LL.d _ _ | exact LL.own _ _ _ | exact LL.nil _ | assumption)) rfl (by dsimp only [zS, zN, zH, zT]) ?_
  refine zst (op_ltI (by rfl) (by rfl)) rfl (by dsimp only [zS, zN, zH, zT]) ?_
  refine al_end rfl ?_
  refine then_normal ?_
  refine aw_cond rfl (fun hc4 => ?_) (fun hc4 => ?_)
  ·
   (try simp only [y1, y2, y3, y4, y5, y6, y7, y8, y9, y0, List.length_map] at hc4)
   (try simp only [List.length_map] at hc4)
   obtain ⟨z, hz1⟩ : ∃ x, zs[k]? = some x := ⟨_, List.getElem?_eq_getElem (by omega)⟩
   refine aw_seq ?_
   refine aw_region ?_
   refine zst (op_assign_const (by rfl)) rfl (by dsimp only [zS, zN, zH, zT]) ?_
   refine al_end rfl ?_
   refine then_normal ?_
   refine aw_ret ?_
   refine then_ret ?_
   refine retPost1 rfl rfl ?_
   exact ⟨by rw [he, cmpF_lt (by omega) hz1]; rfl, hx⟩
  ·
   (try simp only [y1, y2, y3, y4, y5, y6, y7, y8, y9, y0, List.length_map] at hc4)
   (try simp only [List.length_map] at hc4)
   refine aw_skip ?_
   refine then_normal ?_
   refine aw_seq ?_
   refine aw_region ?_
   refine zst (op_assign_const (by rfl)) rfl (by dsimp only [zS, zN, zH, zT]) ?_
   refine al_end rfl ?_
   refine then_normal ?_
   refine aw_ret ?_
   refine retPost1 rfl rfl ?_
   exact ⟨by rw [he, cmpF_eq (by omega) (by omega)]; rfl, hx⟩
set_option maxRecDepth 100000 in
theorem cmpF1_ok (Hs : HS) (f g : F) (ihx : ∀ Hs : HS, ACalls Try.prog 77 [.d (.agg (vC f.val)), .d (.agg (vC g.val))] Hs (Ret (.d (I (cmpV f.val g.val))) Hs)) : ACalls Try.prog 110 [.d (.agg (fC f)), .d (.agg (fC g))] Hs (Ret (.d (I (cmpF1 f g))) Hs) := by
 refine acalls_of_aw Try.func110 rfl ?_
 refine aw_start (T' := [.d (.agg (fC f)), .d (.agg (fC g)), .un, .un, .un, .un, .un, .un, .un, .un, .un, .un, .un, .un, .un, .un, .un]) rfl ?_
 refine aw_seq ?_
 refine aw_region ?_
 refine zst (op_box_elt (cs := [S f.name, I f.val.kind, TF f.val.yes, .v (.int .i64 f.val.num), S f.val.text, .lst 6 (f.val.list.map vD), .lst 7 (f.val.fields.map fD)]) (by rfl) (fD_cells7 f)) rfl (by dsimp only [zS, zN, zH, zT]) ?_
 refine zst (op_box_elt (cs := [S g.name, I g.val.kind, TF g.val.yes, .v (.int .i64 g.val.num), S g.val.text, .lst 6 (g.val.list.map vD), .lst 7 (g.val.fields.map fD)]) (by rfl) (fD_cells7 g)) rfl (by dsimp only [zS, zN, zH, zT]) ?_
 refine zst (op_assign_const (by rfl)) rfl (by dsimp only [zS, zN, zH, zT]) ?_
 refine al_end rfl ?_
 refine then_normal ?_
 refine aw_seq ?_
 refine aw_draw [0, 1, 0, 1, 0, 0, 1, 0, 1, 0, 0, 0, 0] mixed (by kernel_rfl) ?_
 refine zd0 (fun H => (by first | exact op_fieldAddr_ptr Try.underlying30 rfl Sz9 (by rfl) (by rfl) | exact op_fieldAddr_elt Try.underlying30 rfl Sz9 (by rfl) (by rfl) (by rfl))) rfl (by dsimp only [zS, zN, zH, zT]) ?_
 refine zd1 (by first | exact op_load_elt Try.underlying9 (by rfl) (by rfl) (by rfl) | exact op_load_ptr Try.underlying9 (by rfl) (by rfl) (by rfl) (by rfl)) rfl (by dsimp only [zS, zN, zH, zT]) ?_
 refine zd0 (fun H => (by first | exact op_fieldAddr_ptr Try.underlying30 rfl Sz9 (by rfl) (by rfl) | exact op_fieldAddr_elt Try.underlying30 rfl Sz9 (by rfl) (by rfl) (by rfl))) rfl (by dsimp only [zS, zN, zH, zT]) ?_
 refine zd1 (by first | exact op_load_elt Try.underlying9 (by rfl) (by rfl) (by rfl) | exact op_load_ptr Try.underlying9 (by rfl) (by rfl) (by rfl) (by rfl)) rfl (by dsimp only [zS, zN, zH, zT]) ?_
 refine zd0 (fun H => (op_callF Try.func43 (by rfl) (by rfl) (.tmp (by rfl) (.tmp (by rfl) .nil)) (strCmp_ok _ f.name g.name))) rfl (by dsimp only [zS, zN, zH, zT]) ?_
 refine zd0 (fun H => (by first | exact op_fieldAddr_ptr Try.underlying30 rfl Sz26 (by rfl) (by rfl) | exact op_fieldAddr_elt Try.underlying30 rfl Sz26 (by rfl) (by rfl) (by rfl))) rfl (by dsimp only [zS, zN, zH, zT]) ?_
 refine zd1 (op_load_elts (ds := vC f.val) Try.underlying26 (by rfl) Sz26 (by rfl) (Nat.le_of_ble_eq_true rfl) (by rw [vC_eq]; rfl)) rfl (by dsimp only [zS, zN, zH, zT]) ?_
 refine zd0 (fun H => (by first | exact op_fieldAddr_ptr Try.underlying30 rfl Sz26 (by rfl) (by rfl) | exact op_fieldAddr_elt Try.underlying30 rfl Sz26 (by rfl) (by rfl) (by rfl))) rfl (by dsimp only [zS, zN, zH, zT]) ?_
 refine zd1 (op_load_elts (ds := vC g.val) Try.underlying26 (by rfl) Sz26 (by rfl) (Nat.le_of_ble_eq_true rfl) (by rw [vC_eq]; rfl)) rfl (by dsimp only [zS, zN, zH, zT]) ?_
 refine zd0 (fun H => (op_callF Try.func77 (by rfl) (by rfl) (.tmp (by rfl) (.tmp (by rfl) .nil)) (ihx _))) rfl (by dsimp only [zS, zN, zH, zT]) ?_
 refine zd0 (fun H => (op_lit Try.underlying229 ZS3 (.cons (by rfl) (.cons (by rfl) (.nil _))) (by rfl) (by simp [BY, S, I, TF, DV.cells]) (by simp [flat, BY, S, I, TF, DV.cells, DV.one]) (by decide))) rfl (by dsimp only [zS, zN, zH, zT]) ?_
 refine zd0 (fun H => (op_callF Try.func111 (by rfl) (by rfl) (.tmp (by rfl) .nil) (or_ok _ _ _))) rfl (by dsimp only [zS, zN, zH, zT]) ?_
 refine zd0 (fun H => (op_assign_tmp (by rfl))) rfl (by dsimp only [zS, zN, zH, zT]) ?_
 refine drun_end rfl ?_
 refine then_normal ?_
 refine aw_ret ?_
 refine retPost1 rfl rfl ?_
 exact ⟨rfl, rfl⟩
set_option maxRecDepth 100000 in
theorem cmp_step (Hs : HS) (k : Int) (y : Bool) (i : Int) (tx : List UInt8) (ls : List V) (fs : List F) (o : V) (hls : ls.length ≤ 1000000) (hfs : fs.length ≤ 1000000) (ho : SmallV o) (ihL : ∀ x ∈ ls, ∀ z ∈ o.list, ∀ Hs : HS, ACalls Try.prog 77 [.d (.agg (vC x)), .d (.agg (vC z))] Hs (Ret (.d (I (cmpV x z))) Hs)) (ihF : ∀ x ∈ fs, ∀ z ∈ o.fields, ∀ Hs : HS, ACalls Try.prog 77 [.d (.agg (vC x.val)), .d (.agg (vC z.val))] Hs (Ret (.d (I (cmpV x.val z.val))) Hs)) : ACalls Try.prog 77 [.d (.agg (v6D k y i tx ls fs)), .d (.agg (vC o))] Hs (Ret (.d (I (cmpV (.mk k y i tx ls fs) o))) Hs) := by
 rw [cmpV_mk]
 refine acalls_of_aw Try.func77 rfl ?_
 refine aw_start (T' := [.d (.agg (v6D k y i tx ls fs)), .d (.agg (vC o)), .un, .un, .un, .un, .un, .un, .un, .un, .un, .un, .un, .un, .un, .un, .un, .un, .un, .un, .un, .un, .un, .un, .un, .un, .un, .un, .un, .un, .un, .un, .un, .un, .un, .un, .un, .un, .un, .un, .un, .un, .un, .un, .un, .un, .un, .un, .un, .un, .un, .un, .un]) rfl ?_
 refine aw_seq ?_
 refine aw_region ?_
 refine zst (op_box_elt (cs := v6D k y i tx ls fs) (by rfl) (by rfl)) rfl (by dsimp only [zS, zN, zH, zT]) ?_
 refine zst (op_box_elt (cs := [I o.kind, TF o.yes, .v (.int .i64 o.num), S o.text, .lst 6 (o.list.map vD), .lst 7 (o.fields.map fD)]) (by rfl) (vD_cells o)) rfl (by dsimp only [zS, zN, zH, zT]) ?_
 refine zst (op_assign_const (by rfl)) rfl (by dsimp only [zS, zN, zH, zT]) ?_
 refine al_end rfl ?_
 refine then_normal ?_
 refine aw_seq ?_
 refine aw_seq ?_
 refine aw_region ?_
 refine zst (by first | exact op_fieldAddr_ptr Try.underlying26 rfl Sz23 (by rfl) (by rfl) | exact op_fieldAddr_elt Try.underlying26 rfl Sz23 (by rfl) (by rfl) (by rfl)) rfl (by dsimp only [zS, zN, zH, zT]) ?_
 refine zst (by first | exact op_load_elt Try.underlying23 (by rfl) (by rfl) (by rfl) | exact op_load_ptr Try.underlying23 (by rfl) (by rfl) (by rfl) (by rfl)) rfl (by dsimp only [zS, zN, zH, zT]) ?_
 refine zst (by first | exact op_fieldAddr_ptr Try.underlying26 rfl Sz23 (by rfl) (by rfl) | exact op_fieldAddr_elt Try.underlying26 rfl Sz23 (by rfl) (by rfl) (by rfl)) rfl (by dsimp only [zS, zN, zH, zT]) ?_
 refine zst (by first | exact op_load_elt Try.underlying23 (by rfl) (by rfl) (by rfl) | exact op_load_ptr Try.underlying23 (by rfl) (by rfl) (by rfl) (by rfl)) rfl (by dsimp only [zS, zN, zH, zT]) ?_
 refine zst (op_callF Try.func104 (by rfl) (by rfl) (.tmp (by rfl) (.tmp (by rfl) .nil)) (cmpK_ok _ k o.kind)) rfl (by dsimp only [zS, zN, zH, zT]) ?_
 refine zst (op_assign_tmp (by rfl)) rfl (by dsimp only [zS, zN, zH, zT]) ?_
 refine al_end rfl ?_
 refine then_normal ?_
 refine aw_seq ?_
 refine aw_region ?_
 refine zst (op_move_tmp (by rfl)) rfl (by dsimp only [zS, zN, zH, zT]) ?_
 refine zst (op_neI (by rfl) (by rfl)) rfl (by dsimp only [zS, zN, zH, zT]) ?_
 refine al_end rfl ?_
 refine then_normal ?_
 refine aw_cond rfl (fun hc1 => ?_) (fun hc1 => ?_)
 ·
  (try simp only [y1, y2, y3, y4, y5, y6, y7, y8, y9, y0, List.length_map] at hc1)
  have hc : ¬ cmpI k o.kind = 0 := hc1
  refine aw_seq ?_
  refine aw_region ?_
  refine zst (op_move_tmp (by rfl)) rfl (by dsimp only [zS, zN, zH, zT]) ?_
  refine zst (op_assign_tmp (by rfl)) rfl (by dsimp only [zS, zN, zH, zT]) ?_
  refine al_end rfl ?_
  refine then_normal ?_
  refine aw_ret ?_
  refine then_ret ?_
  refine retPost1 rfl rfl ?_
  exact ⟨by rw [if_pos hc], rfl⟩
 ·
  (try simp only [y1, y2, y3, y4, y5, y6, y7, y8, y9, y0, List.length_map] at hc1)
  have hc : cmpI k o.kind = 0 := by simpa using hc1
  refine aw_skip ?_
  refine then_normal ?_
  refine aw_seq ?_
  refine aw_seq ?_
  refine aw_region ?_
  refine zst (by first | exact op_fieldAddr_ptr Try.underlying26 rfl Sz23 (by rfl) (by rfl) | exact op_fieldAddr_elt Try.underlying26 rfl Sz23 (by rfl) (by rfl) (by rfl)) rfl (by dsimp only [zS, zN, zH, zT]) ?_
  refine zst (by first | exact op_load_elt Try.underlying23 (by rfl) (by rfl) (by rfl) | exact op_load_ptr Try.underlying23 (by rfl) (by rfl) (by rfl) (by rfl)) rfl (by dsimp only [zS, zN, zH, zT]) ?_
  refine al_end rfl ?_
  refine then_normal ?_
  refine aw_block ?_
  refine aw_seq ?_
  refine aw_region ?_
  refine zst (op_eqI (by rfl) (by rfl)) rfl (by dsimp only [zS, zN, zH, zT]) ?_
  refine zst (op_assign_tmp (by rfl)) rfl (by dsimp only [zS, zN, zH, zT]) ?_
  refine al_end rfl ?_
  refine then_normal ?_
  refine aw_cond rfl (fun hc2 => ?_) (fun hc2 => ?_)
  ·
   (try simp only [y1, y2, y3, y4, y5, y6, y7, y8, y9, y0, List.length_map] at hc2)
   have hk1 : k = 1 := hc2
   refine aw_seq ?_
   refine aw_draw [0, 1, 0, 0, 1, 0, 0, 0] mixed (by kernel_rfl) ?_
   refine zd0 (fun H => (by first | exact op_fieldAddr_ptr Try.underlying26 rfl Sz4 (by rfl) (by rfl) | exact op_fieldAddr_elt Try.underlying26 rfl Sz4 (by rfl) (by rfl) (by rfl))) rfl (by dsimp only [zS, zN, zH, zT]) ?_
   refine zd1 (by first | exact op_load_elt Try.underlying4 (by rfl) (by rfl) (by rfl) | exact op_load_ptr Try.underlying4 (by rfl) (by rfl) (by rfl) (by rfl)) rfl (by dsimp only [zS, zN, zH, zT]) ?_
   refine zd0 (fun H => (op_callF Try.func106 (by rfl) (by rfl) (.tmp (by rfl) .nil) (yes_ok _ y))) rfl (by dsimp only [zS, zN, zH, zT]) ?_
   refine zd0 (fun H => (by first | exact op_fieldAddr_ptr Try.underlying26 rfl Sz4 (by rfl) (by rfl) | exact op_fieldAddr_elt Try.underlying26 rfl Sz4 (by rfl) (by rfl) (by rfl))) rfl (by dsimp only [zS, zN, zH, zT]) ?_
   refine zd1 (by first | exact op_load_elt Try.underlying4 (by rfl) (by rfl) (by rfl) | exact op_load_ptr Try.underlying4 (by rfl) (by rfl) (by rfl) (by rfl)) rfl (by dsimp only [zS, zN, zH, zT]) ?_
   refine zd0 (fun H => (op_callF Try.func106 (by rfl) (by rfl) (.tmp (by rfl) .nil) (yes_ok _ o.yes))) rfl (by dsimp only [zS, zN, zH, zT]) ?_
   refine zd0 (fun H => (op_callF Try.func105 (by rfl) (by rfl) (.tmp (by rfl) (.tmp (by rfl) .nil)) (cmpN_ok _ _ _))) rfl (by dsimp only [zS, zN, zH, zT]) ?_
   refine zd0 (fun H => (op_assign_tmp (by rfl))) rfl (by dsimp only [zS, zN, zH, zT]) ?_
   refine drun_end rfl ?_
   refine then_normal ?_
   refine aw_ret ?_
   refine inBlock_ret (then_ret ?_)
   refine retPost1 rfl rfl ?_
   exact ⟨by rw [if_neg (by simp [hc]), if_pos hk1], rfl⟩
  ·
   (try simp only [y1, y2, y3, y4, y5, y6, y7, y8, y9, y0, List.length_map] at hc2)
   have hk1 : ¬ k = 1 := hc2
   refine aw_seq ?_
   refine aw_region ?_
   refine zst (op_eqI (by rfl) (by rfl)) rfl (by dsimp only [zS, zN, zH, zT]) ?_
   refine zst (op_assign_tmp (by rfl)) rfl (by dsimp only [zS, zN, zH, zT]) ?_
   refine al_end rfl ?_
   refine then_normal ?_
   refine aw_cond rfl (fun hc3 => ?_) (fun hc3 => ?_)
   ·
    (try simp only [y1, y2, y3, y4, y5, y6, y7, y8, y9, y0, List.length_map] at hc3)
    have hk2 : k = 2 := hc3
    refine aw_seq ?_
    refine aw_region ?_
    refine zst (by first | exact op_fieldAddr_ptr Try.underlying26 rfl Sz2 (by rfl) (by rfl) | exact op_fieldAddr_elt Try.underlying26 rfl Sz2 (by rfl) (by rfl) (by rfl)) rfl (by dsimp only [zS, zN, zH, zT]) ?_
    refine zst (by first | exact op_load_elt Try.underlying2 (by rfl) (by rfl) (by rfl) | exact op_load_ptr Try.underlying2 (by rfl) (by rfl) (by rfl) (by rfl)) rfl (by dsimp only [zS, zN, zH, zT]) ?_
    refine zst (by first | exact op_fieldAddr_ptr Try.underlying26 rfl Sz2 (by rfl) (by rfl) | exact op_fieldAddr_elt Try.underlying26 rfl Sz2 (by rfl) (by rfl) (by rfl)) rfl (by dsimp only [zS, zN, zH, zT]) ?_
    refine zst (by first | exact op_load_elt Try.underlying2 (by rfl) (by rfl) (by rfl) | exact op_load_ptr Try.underlying2 (by rfl) (by rfl) (by rfl) (by rfl)) rfl (by dsimp only [zS, zN, zH, zT]) ?_
    refine zst (op_callF Try.func107 (by rfl) (by rfl) (.tmp (by rfl) (.tmp (by rfl) .nil)) (cmp64_ok _ i o.num)) rfl (by dsimp only [zS, zN, zH, zT]) ?_
    refine zst (op_assign_tmp (by rfl)) rfl (by dsimp only [zS, zN, zH, zT]) ?_
    refine al_end rfl ?_
    refine then_normal ?_
    refine aw_ret ?_
    refine inBlock_ret (then_ret ?_)
    refine retPost1 rfl rfl ?_
    exact ⟨by rw [if_neg (by simp [hc]), if_neg hk1, if_pos hk2], rfl⟩
   ·
    (try simp only [y1, y2, y3, y4, y5, y6, y7, y8, y9, y0, List.length_map] at hc3)
    have hk2 : ¬ k = 2 := hc3
    refine aw_seq ?_
    refine aw_region ?_
    refine zst (op_eqI (by rfl) (by rfl)) rfl (by dsimp only [zS, zN, zH, zT]) ?_
    refine zst (op_assign_tmp (by rfl)) rfl (by dsimp only [zS, zN, zH, zT]) ?_
    refine al_end rfl ?_
    refine then_normal ?_
    refine aw_cond rfl (fun hc4 => ?_) (fun hc4 => ?_)
    ·
     (try simp only [y1, y2, y3, y4, y5, y6, y7, y8, y9, y0, List.length_map] at hc4)
     have hk3 : k = 3 := hc4
     refine aw_seq ?_
     refine aw_region ?_
     refine zst (by first | exact op_fieldAddr_ptr Try.underlying26 rfl Sz9 (by rfl) (by rfl) | exact op_fieldAddr_elt Try.underlying26 rfl Sz9 (by rfl) (by rfl) (by rfl)) rfl (by dsimp only [zS, zN, zH, zT]) ?_
     refine zst (by first | exact op_load_elt Try.underlying9 (by rfl) (by rfl) (by rfl) | exact op_load_ptr Try.underlying9 (by rfl) (by rfl) (by rfl) (by rfl)) rfl (by dsimp only [zS, zN, zH, zT]) ?_
     refine zst (by first | exact op_fieldAddr_ptr Try.underlying26 rfl Sz9 (by rfl) (by rfl) | exact op_fieldAddr_elt Try.underlying26 rfl Sz9 (by rfl) (by rfl) (by rfl)) rfl (by dsimp only [zS, zN, zH, zT]) ?_
     refine zst (by first | exact op_load_elt Try.underlying9 (by rfl) (by rfl) (by rfl) | exact op_load_ptr Try.underlying9 (by rfl) (by rfl) (by rfl) (by rfl)) rfl (by dsimp only [zS, zN, zH, zT]) ?_
     refine zst (op_callF Try.func43 (by rfl) (by rfl) (.tmp (by rfl) (.tmp (by rfl) .nil)) (strCmp_ok _ tx o.text)) rfl (by dsimp only [zS, zN, zH, zT]) ?_
     refine zst (op_assign_tmp (by rfl)) rfl (by dsimp only [zS, zN, zH, zT]) ?_
     refine al_end rfl ?_
     refine then_normal ?_
     refine aw_ret ?_
     refine inBlock_ret (then_ret ?_)
     refine retPost1 rfl rfl ?_
     exact ⟨by rw [if_neg (by simp [hc]), if_neg hk1, if_neg hk2, if_pos hk3], rfl⟩
    ·
     (try simp only [y1, y2, y3, y4, y5, y6, y7, y8, y9, y0, List.length_map] at hc4)
     have hk3 : ¬ k = 3 := hc4
     refine aw_seq ?_
     refine aw_region ?_
     refine zst (op_eqI (by rfl) (by rfl)) rfl (by dsimp only [zS, zN, zH, zT]) ?_
     refine zst (op_assign_tmp (by rfl)) rfl (by dsimp only [zS, zN, zH, zT]) ?_
     refine al_end rfl ?_
     refine then_normal ?_
     refine aw_cond rfl (fun hc5 => ?_) (fun hc5 => ?_)
     ·
      (try simp only [y1, y2, y3, y4, y5, y6, y7, y8, y9, y0, List.length_map] at hc5)
      have hk4 : k = 4 := hc5
      refine aw_seq ?_
      refine aw_region ?_
      refine zst (by first | exact op_fieldAddr_ptr Try.underlying26 rfl Sz24 (by rfl) (by rfl) | exact op_fieldAddr_elt Try.underlying26 rfl Sz24 (by rfl) (by rfl) (by rfl)) rfl (by dsimp only [zS, zN, zH, zT]) ?_
      refine zst (by first | exact op_load_elt Try.underlying24 (by rfl) (by rfl) (by rfl) | exact op_load_ptr Try.underlying24 (by rfl) (by rfl) (by rfl) (by rfl)) rfl (by dsimp only [zS, zN, zH, zT]) ?_
      refine zst (by first | exact op_fieldAddr_ptr Try.underlying26 rfl Sz24 (by rfl) (by rfl) | exact op_fieldAddr_elt Try.underlying26 rfl Sz24 (by rfl) (by rfl) (by rfl)) rfl (by dsimp only [zS, zN, zH, zT]) ?_
      refine zst (by first | exact op_load_elt Try.underlying24 (by rfl) (by rfl) (by rfl) | exact op_load_ptr Try.underlying24 (by rfl) (by rfl) (by rfl) (by rfl)) rfl (by dsimp only [zS, zN, zH, zT]) ?_
      refine zst (op_callF Try.func108 (by rfl) (by rfl) (.tmp (by rfl) (.tmp (by rfl) (.func .nil))) (cmpL_ok _ ls o.list hls ho.ll ihL)) rfl (by dsimp only [zS, zN, zH, zT]) ?_
      refine zst (op_assign_tmp (by rfl)) rfl (by dsimp only [zS, zN, zH, zT]) ?_
      refine al_end rfl ?_
      refine then_normal ?_
      refine aw_ret ?_
      refine inBlock_ret (then_ret ?_)
      refine retPost1 rfl rfl ?_
      exact ⟨by rw [if_neg (by simp [hc]), if_neg hk1, if_neg hk2, if_neg hk3, if_pos hk4], rfl⟩
     ·
      (try simp only [y1, y2, y3, y4, y5, y6, y7, y8, y9, y0, List.length_map] at hc5)
      have hk4 : ¬ k = 4 := hc5
      refine aw_seq ?_
      refine aw_region ?_
      refine zst (op_eqI (by rfl) (by rfl)) rfl (by dsimp only [zS, zN, zH, zT]) ?_
      refine zst (op_assign_tmp (by rfl)) rfl (by dsimp only [zS, zN, zH, zT]) ?_
      refine al_end rfl ?_
      refine then_normal ?_
      refine aw_cond rfl (fun hc6 => ?_) (fun hc6 => ?_)
      ·
       (try simp only [y1, y2, y3, y4, y5, y6, y7, y8, y9, y0, List.length_map] at hc6)
       have hk5 : k = 5 := hc6
       refine aw_seq ?_
       refine aw_region ?_
       refine zst (by first | exact op_fieldAddr_ptr Try.underlying26 rfl Sz22 (by rfl) (by rfl) | exact op_fieldAddr_elt Try.underlying26 rfl Sz22 (by rfl) (by rfl) (by rfl)) rfl (by dsimp only [zS, zN, zH, zT]) ?_
       refine zst (by first | exact op_load_elt Try.underlying22 (by rfl) (by rfl) (by rfl) | exact op_load_ptr Try.underlying22 (by rfl) (by rfl) (by rfl) (by rfl)) rfl (by dsimp only [zS, zN, zH, zT]) ?_
       refine zst (by first | exact op_fieldAddr_ptr Try.underlying26 rfl Sz22 (by rfl) (by rfl) | exact op_fieldAddr_elt Try.underlying26 rfl Sz22 (by rfl) (by rfl) (by rfl)) rfl (by dsimp only [zS, zN, zH, zT]) ?_
       refine zst (by first | exact op_load_elt Try.underlying22 (by rfl) (by rfl) (by rfl) | exact op_load_ptr Try.underlying22 (by rfl) (by rfl) (by rfl) (by rfl)) rfl (by dsimp only [zS, zN, zH, zT]) ?_
       refine zst (op_callF Try.func109 (by rfl) (by rfl) (.tmp (by rfl) (.tmp (by rfl) (.func .nil))) (cmpF_ok _ fs o.fields hfs ho.fl (fun x hx z hz Hs => cmpF1_ok Hs x z (ihF x hx z hz)))) rfl (by dsimp only [zS, zN, zH, zT]) ?_
       refine zst (op_assign_tmp (by rfl)) rfl (by dsimp only [zS, zN, zH, zT]) ?_
       refine al_end rfl ?_
       refine then_normal ?_
       refine aw_ret ?_
       refine inBlock_ret (then_ret ?_)
       refine retPost1 rfl rfl ?_
       exact ⟨by rw [if_neg (by simp [hc]), if_neg hk1, if_neg hk2, if_neg hk3, if_neg hk4, if_pos hk5], rfl⟩
      ·
       (try simp only [y1, y2, y3, y4, y5, y6, y7, y8, y9, y0, List.length_map] at hc6)
       have hk5 : ¬ k = 5 := hc6
       refine aw_skip ?_
       refine inBlock_normal (then_normal ?_)
       refine aw_seq ?_
       refine aw_region ?_
       refine zst (op_assign_const (by rfl)) rfl (by dsimp only [zS, zN, zH, zT]) ?_
       refine al_end rfl ?_
       refine then_normal ?_
       refine aw_ret ?_
       refine retPost1 rfl rfl ?_
       exact ⟨by (rw [if_neg (by simp [hc]), if_neg hk1, if_neg hk2, if_neg hk3, if_neg hk4, if_neg hk5]) <;> rfl, rfl⟩
theorem cmp_all : ∀ (m : Nat) (v : V), SizeOf.sizeOf v ≤ m → SmallV v → ∀ (o : V), SmallV o → ∀ Hs : HS, ACalls Try.prog 77 [.d (.agg (vC v)), .d (.agg (vC o))] Hs (Ret (.d (I (cmpV v o))) Hs)
  | 0, v, hm, _, _, _, _ => by cases v; simp at hm
  | m + 1, v, hm, hs, o, ho, Hs => by
    have hL := fun x hx => list_lt (v := v) (x := x) hx
    have hF := fun x hx => field_lt (v := v) (f := x) hx
    obtain ⟨k, y, i, tx, ls, fs, rfl⟩ : ∃ k y n t l fs, v = .mk k y n t l fs := ⟨_, _, _, _, _, _, v.eta⟩
    rw [v6D_eq]
    exact cmp_step Hs k y i tx ls fs o hs.ll hs.fl ho (fun x hx z hz Hs => cmp_all m x (by have := hL x hx; omega) (hs.l x hx) z (ho.l z hz) Hs) (fun x hx z hz Hs => cmp_all m x.val (by have := hF x hx; omega) (hs.f x hx) z.val (ho.f z hz) Hs)
theorem cmp_ok (Hs : HS) (v o : V) (hv : SmallV v) (ho : SmallV o) : ACalls Try.prog 77 [.d (.agg (vC v)), .d (.agg (vC o))] Hs (Ret (.d (I (cmpV v o))) Hs) := cmp_all _ v (Nat.le_refl _) hv o ho Hs
end Go.Proofs.Ytjbpfnoibeogbaa
namespace Go.Proofs.Ytjbpfnoibeogbaa
open Go.AV Go.AV.Ord Go.AV.Oct Go.AV.Val
set_option linter.unusedVariables false
set_option linter.unusedSimpArgs false
set_option maxRecDepth 100000 in
theorem mcmp_ok (Hs : HS) (f g : F) : ACalls Try.prog 42 [.d (.agg (fC f)), .d (.agg (fC g))] Hs (Ret (.d (I (Lib.compareBytes f.name g.name))) Hs) := by
 refine acalls_of_aw Try.func42 rfl ?_
 refine aw_start (T' := [.d (.agg (fC f)), .d (.agg (fC g)), .un, .un, .un, .un, .un, .un, .un, .un]) rfl ?_
 refine aw_seq ?_
 refine aw_region ?_
 refine zst (op_box_elt (cs := [S f.name, I f.val.kind, TF f.val.yes, .v (.int .i64 f.val.num), S f.val.text, .lst 6 (f.val.list.map vD), .lst 7 (f.val.fields.map fD)]) (by rfl) (fD_cells7 f)) rfl (by dsimp only [zS, zN, zH, zT]) ?_
 refine zst (op_box_elt (cs := [S g.name, I g.val.kind, TF g.val.yes, .v (.int .i64 g.val.num), S g.val.text, .lst 6 (g.val.list.map vD), .lst 7 (g.val.fields.map fD)]) (by rfl) (fD_cells7 g)) rfl (by dsimp only [zS, zN, zH, zT]) ?_
 refine zst (op_assign_const (by rfl)) rfl (by dsimp only [zS, zN, zH, zT]) ?_
 refine al_end rfl ?_
 refine then_normal ?_
 refine aw_seq ?_
 refine aw_region ?_
 refine zst (by first | exact op_fieldAddr_ptr Try.underlying30 rfl Sz9 (by rfl) (by rfl) | exact op_fieldAddr_elt Try.underlying30 rfl Sz9 (by rfl) (by rfl) (by rfl)) rfl (by dsimp only [zS, zN, zH, zT]) ?_
 refine zst (by first | exact op_load_elt Try.underlying9 (by rfl) (by rfl) (by rfl) | exact op_load_ptr Try.underlying9 (by rfl) (by rfl) (by rfl) (by rfl)) rfl (by dsimp only [zS, zN, zH, zT]) ?_
 refine zst (by first | exact op_fieldAddr_ptr Try.underlying30 rfl Sz9 (by rfl) (by rfl) | exact op_fieldAddr_elt Try.underlying30 rfl Sz9 (by rfl) (by rfl) (by rfl)) rfl (by dsimp only [zS, zN, zH, zT]) ?_
 refine zst (by first | exact op_load_elt Try.underlying9 (by rfl) (by rfl) (by rfl) | exact op_load_ptr Try.underlying9 (by rfl) (by rfl) (by rfl) (by rfl)) rfl (by dsimp only [zS, zN, zH, zT]) ?_
 refine zst (op_callF Try.func43 (by rfl) (by rfl) (.tmp (by rfl) (.tmp (by rfl) .nil)) (strCmp_ok _ f.name g.name)) rfl (by dsimp only [zS, zN, zH, zT]) ?_
 refine zst (op_assign_tmp (by rfl)) rfl (by dsimp only [zS, zN, zH, zT]) ?_
 refine al_end rfl ?_
 refine then_normal ?_
 refine aw_ret ?_
 refine retPost1 rfl rfl ?_
 exact ⟨rfl, rfl⟩
set_option maxRecDepth 100000 in
theorem search_ok (Hs : HS) (v : AV) (l : List F) (x : F) (hA : ArrF Hs 30 v l) (hr : rises l = true) (hl : l.length ≤ 100000) : ACalls Try.prog 41 [v, .d (.agg (fC x)), .fn (.func 42) [] []] Hs (Ret (.tup [.d (I (posF l x.name)), .d (TF (hasF l x.name))]) Hs) := by
 have hple := posF_le l x.name
 refine acalls_of_aw Try.func41 rfl ?_
 refine aw_start (T' := [v, .d (.agg (fC x)), .fn (.func 42) [] [], .un, .un, .un, .un, .un, .un, .un, .un, .un, .un, .un, .un, .un, .un, .un, .un, .un, .un, .un, .un, .un, .un, .un, .un, .un, .un, .un, .un, .un, .un, .un, .un, .un, .un, .un, .un, .un, .un, .un, .un, .un, .un, .un, .un, .un, .un]) rfl ?_
 refine aw_seq ?_
 refine aw_region ?_
 refine zst (op_box_elt (cs := [S x.name, I x.val.kind, TF x.val.yes, .v (.int .i64 x.val.num), S x.val.text, .lst 6 (x.val.list.map vD), .lst 7 (x.val.fields.map fD)]) (by rfl) (fD_cells7 x)) rfl (by dsimp only [zS, zN, zH, zT]) ?_
 refine zst (op_assign_const (by rfl)) rfl (by dsimp only [zS, zN, zH, zT]) ?_
 refine zst (op_assign_const (by rfl)) rfl (by dsimp only [zS, zN, zH, zT]) ?_
 refine al_end rfl ?_
 refine then_normal ?_
 refine aw_seq ?_
 refine aw_region ?_
 refine zst (op_move_tmp (by rfl)) rfl (by dsimp only [zS, zN, zH, zT]) ?_
 refine zst (op_lenA Try.underlying22 (by rfl) hA) rfl (by dsimp only [zS, zN, zH, zT]) ?_
 refine zst (op_assign_tmp (by rfl)) rfl (by dsimp only [zS, zN, zH, zT]) ?_
 refine al_end rfl ?_
 refine then_normal ?_
 refine aw_seq ?_
 refine aw_region ?_
 refine zst (op_move_tmp (by rfl)) rfl (by dsimp only [zS, zN, zH, zT]) ?_
 refine zst (op_assign_const (by rfl)) rfl (by dsimp only [zS, zN, zH, zT]) ?_
 refine zst (op_assign_tmp (by rfl)) rfl (by dsimp only [zS, zN, zH, zT]) ?_
 refine al_end rfl ?_
 refine then_normal ?_
 refine aw_seq ?_
 refine aw_block ?_
 apply aw_loopF (fun n T H => ∃ (i : Nat) (j : Nat), T = [v, .un, .fn (.func 42) [] [], .un, .elt [S x.name, I x.val.kind, TF x.val.yes, .v (.int .i64 x.val.num), S x.val.text, .lst 6 (x.val.list.map vD), .lst 7 (x.val.fields.map fD)], .un, .un, .un, .d (I l.length), .d (I i), .d (I j), .un, .un, .un, .un, .un, .un, .un, .un, .un, .un, .un, .un, .un, .un, .un, .un, .un, .un, .un, .un, .un, .un, .un, .un, .un, .un, .un, .un, .un, .un, .un, .un, .un, .un, .un, .un, .un, .un] ∧ i ≤ posF l x.name ∧ posF l x.name ≤ j ∧ j ≤ l.length ∧ n = j - i ∧ Hs = H) (l.length) [true, false, true, false, true, false, false, false, true, true, true, false, false, false, false, false, false, false, false, false, false, false, false, false, false, false, false, false, false, false, false, false, false, false, false, false, false, false, false, false, false, false, false, false, false, false, false, false, false]
 · (try dsimp only [maskT]); try exact rfl
 · rfl
 · exact ⟨0, l.length, rfl, by omega, hple, by omega, rfl, rfl⟩
 rintro n T H ⟨i, j, rfl, hi, hj, hjl, rfl, rfl⟩
 refine aw_seq ?_
 refine aw_seq ?_
 refine aw_region ?_
 refine zst (op_move_tmp (by rfl)) rfl (by dsimp only [zS, zN, zH, zT]) ?_
 refine zst (op_move_tmp (by rfl)) rfl (by dsimp only [zS, zN, zH, zT]) ?_
 refine zst (op_ltI (by rfl) (by rfl)) rfl (by dsimp only [zS, zN, zH, zT]) ?_
 refine al_end rfl ?_
 refine then_normal ?_
 refine aw_cond rfl (fun hc1 => ?_) (fun hc1 => ?_)
 ·
  (try simp only [y1, y2, y3, y4, y5, y6, y7, y8, y9, y0, List.length_map] at hc1)
  have hij : i < j := by omega
  obtain ⟨h, hh⟩ : ∃ h, (i + j) / 2 = h := ⟨_, rfl⟩
  have hh1 : i ≤ h ∧ h < j := by omega
  obtain ⟨id, cap, cs, rfl, hb, hc, hcap, hu⟩ := Arr.pos hA (by omega)
  obtain ⟨g, hg⟩ : ∃ g, l[h]? = some g := ⟨_, List.getElem?_eq_getElem (by omega)⟩
  have hpl := posF_lt (n := x.name) hr hg
  refine aw_skip ?_
  refine then_normal ?_
  refine aw_block ?_
  refine aw_seq ?_
  refine aw_region ?_
  refine zst (op_move_tmp (by rfl)) rfl (by dsimp only [zS, zN, zH, zT]) ?_
  refine zst (op_move_tmp (by rfl)) rfl (by dsimp only [zS, zN, zH, zT]) ?_
  refine zst (op_add (by rfl) (by rfl) (show IntKind.i64.wrap ((i : Int) + j) = ((i + j : Nat) : Int) by rw [wrap_i64 ⟨by omega, by omega⟩]; omega)) rfl (by dsimp only [zS, zN, zH, zT]) ?_
  refine zst (op_convI (by rw [Try.underlying3]; rfl) Try.underlying164 (by rfl) (wrap_u64 ⟨by omega, by omega⟩)) rfl (by dsimp only [zS, zN, zH, zT]) ?_
  refine zst (op_shr (by rfl) (by rfl) (by omega) ((shr1 (i + j)).trans (congrArg Nat.cast hh))) rfl (by dsimp only [zS, zN, zH, zT]) ?_
  refine zst (op_convI (by rw [Try.underlying164]; rfl) Try.underlying3 (by rfl) (wrap_i64 ⟨by omega, by omega⟩)) rfl (by dsimp only [zS, zN, zH, zT]) ?_
  refine zst (op_assign_tmp (by rfl)) rfl (by dsimp only [zS, zN, zH, zT]) ?_
  refine al_end rfl ?_
  refine then_normal ?_
  refine aw_seq ?_
  refine aw_draw [0, 0, 0, 0, 1, 1, 0, 0] mixed (by kernel_rfl) ?_
  refine zd0 (fun H => (op_move_tmp (by rfl))) rfl (by dsimp only [zS, zN, zH, zT]) ?_
  refine zd0 (fun H => (op_move_tmp (by rfl))) rfl (by dsimp only [zS, zN, zH, zT]) ?_
  refine zd0 (fun H => (op_move_tmp (by rfl))) rfl (by dsimp only [zS, zN, zH, zT]) ?_
  refine zd0 (fun H => (op_indexArr Try.underlying22 Sz30 (by rfl) (by rfl) (by omega) (by omega) (by rfl))) rfl (by dsimp only [zS, zN, zH, zT]) ?_
  refine zd1 (op_loadFA g Try.underlying30 (by rfl) Sz30 (by rfl) hb (by show _ ≤ cs.length; omega) (cells_at hu hg)) rfl (by dsimp only [zS, zN, zH, zT]) ?_
  refine zd1 (op_load_elts (ds := fC x) Try.underlying30 (by rfl) Sz30 (by rfl) (Nat.le_of_ble_eq_true rfl) (by rw [← fC7]; rfl)) rfl (by dsimp only [zS, zN, zH, zT]) ?_
  refine zd0 (fun H => (op_callV (by rfl) Try.func42 (by rfl) (by rfl) (.tmp (by rfl) (.tmp (by rfl) .nil)) (mcmp_ok _ g x))) rfl (by dsimp only [zS, zN, zH, zT]) ?_
  refine zd0 (fun H => (op_ltI (by rfl) (by rfl))) rfl (by dsimp only [zS, zN, zH, zT]) ?_
  refine drun_end rfl ?_
  refine then_normal ?_
  refine aw_cond rfl (fun hc2 => ?_) (fun hc2 => ?_)
  ·
   (try simp only [y1, y2, y3, y4, y5, y6, y7, y8, y9, y0, List.length_map] at hc2)
   have hless : h + 1 ≤ posF l x.name := hpl.1 (cb_lt.1 hc2)
   refine aw_region ?_
   refine zst (op_move_tmp (by rfl)) rfl (by dsimp only [zS, zN, zH, zT]) ?_
   refine zst (by first | exact op_add (by rfl) (by rfl) (wrap_i64 ⟨by omega, by omega⟩) | exact op_add (by rfl) (by rfl) (by rfl)) rfl (by dsimp only [zS, zN, zH, zT]) ?_
   refine zst (op_assign_tmp (by rfl)) rfl (by dsimp only [zS, zN, zH, zT]) ?_
   refine al_end rfl ?_
   refine inBlock_normal ?_
   apply again_to (j - (h + 1)) [true, false, true, false, true, false, false, false, true, true, true, false, false, false, false, false, false, false, false, false, false, false, false, false, false, false, false, false, false, false, false, false, false, false, false, false, false, false, false, false, false, false, false, false, false, false, false, false, false]
   · (try dsimp only [maskT]); try exact rfl
   · rfl
   · omega
   exact ⟨h + 1, j, rfl, hless, hj, hjl, rfl, rfl⟩
  ·
   (try simp only [y1, y2, y3, y4, y5, y6, y7, y8, y9, y0, List.length_map] at hc2)
   have hless : posF l x.name ≤ h := by have h1 : ¬ h < posF l x.name := fun h2 => hc2 (cb_lt.2 (hpl.2 h2)); omega
   refine aw_region ?_
   refine zst (op_move_tmp (by rfl)) rfl (by dsimp only [zS, zN, zH, zT]) ?_
   refine zst (op_assign_tmp (by rfl)) rfl (by dsimp only [zS, zN, zH, zT]) ?_
   refine al_end rfl ?_
   refine inBlock_normal ?_
   apply again_to (h - i) [true, false, true, false, true, false, false, false, true, true, true, false, false, false, false, false, false, false, false, false, false, false, false, false, false, false, false, false, false, false, false, false, false, false, false, false, false, false, false, false, false, false, false, false, false, false, false, false, false]
   · (try dsimp only [maskT]); try exact rfl
   · rfl
   · omega
   exact ⟨i, h, rfl, hi, hless, by omega, rfl, rfl⟩
 ·
  (try simp only [y1, y2, y3, y4, y5, y6, y7, y8, y9, y0, List.length_map] at hc1)
  have hij : i = j := by omega
  subst hij
  have hpi : posF l x.name = i := by omega
  refine aw_exit ?_
  refine then_exit (again_exit (inBlock_here (then_normal ?_)))
  refine aw_seq ?_
  refine aw_draw [0, 0, 0, 0, 0, 0, 0, 0, 0, 1, 1, 0, 0, 0, 0, 0] mixed (by kernel_rfl) ?_
  refine zd0 (fun H => (op_move_tmp (by rfl))) rfl (by dsimp only [zS, zN, zH, zT]) ?_
  refine zd0 (fun H => (op_move_tmp (by rfl))) rfl (by dsimp only [zS, zN, zH, zT]) ?_
  refine zd0 (fun H => (op_move_tmp (by rfl))) rfl (by dsimp only [zS, zN, zH, zT]) ?_
  refine zd0 (fun H => (op_ltI (by rfl) (by rfl))) rfl (by dsimp only [zS, zN, zH, zT]) ?_
  refine zd0 (fun H => (op_move_tmp (by rfl))) rfl (by dsimp only [zS, zN, zH, zT]) ?_
  refine drun_split 39 rfl (fun hg3 => ?_) (fun hg3 => ?_)
  ·
   (try simp only [y1, y2, y3, y4, y5, y6, y7, y8, y9, y0, List.length_map] at hg3)
   have hil : i < l.length := by (have h : (i : Int) < (l.length : Int) := hg3); omega
   obtain ⟨id, cap, cs, rfl, hb, hc, hcap, hu⟩ := Arr.pos hA (by omega)
   obtain ⟨g, hg⟩ : ∃ g, l[i]? = some g := ⟨_, List.getElem?_eq_getElem (by omega)⟩
   apply drun_normT
   · (try dsimp only [zS, zN, zH, zT]); try exact rfl
   refine zd0w rfl rfl rfl (fun H => (op_move_tmp (by rfl))) (by dsimp only [zS, zN, zH, zT]) ?_
   refine zd0w rfl rfl rfl (fun H => (op_move_tmp (by rfl))) (by dsimp only [zS, zN, zH, zT]) ?_
   refine zd0w rfl rfl rfl (fun H => (op_move_tmp (by rfl))) (by dsimp only [zS, zN, zH, zT]) ?_
   refine zd0w rfl rfl rfl (fun H => (op_indexArr Try.underlying22 Sz30 (by rfl) (by rfl) (by omega) (by omega) (by rfl))) (by dsimp only [zS, zN, zH, zT]) ?_
   refine zd1w rfl rfl rfl (op_loadFA g Try.underlying30 (by rfl) Sz30 (by rfl) hb (by show _ ≤ cs.length; omega) (cells_at hu hg)) (by dsimp only [zS, zN, zH, zT]) ?_
   refine zd1w rfl rfl rfl (op_load_elts (ds := fC x) Try.underlying30 (by rfl) Sz30 (by rfl) (Nat.le_of_ble_eq_true rfl) (by rw [← fC7]; rfl)) (by dsimp only [zS, zN, zH, zT]) ?_
   refine zd0w rfl rfl rfl (fun H => (op_callV (by rfl) Try.func42 (by rfl) (by rfl) (.tmp (by rfl) (.tmp (by rfl) .nil)) (mcmp_ok _ g x))) (by dsimp only [zS, zN, zH, zT]) ?_
   refine zd0w rfl rfl rfl (fun H => (op_eqI (by rfl) (by rfl))) (by dsimp only [zS, zN, zH, zT]) ?_
   refine zd0 (fun H => (op_pick_tt (by rfl) (val_tmp (by rfl)))) rfl (by dsimp only [zS, zN, zH, zT]) ?_
   refine zd0 (fun H => (op_assign_tmp (by rfl))) rfl (by dsimp only [zS, zN, zH, zT]) ?_
   refine zd0 (fun H => (op_assign_tmp (by rfl))) rfl (by dsimp only [zS, zN, zH, zT]) ?_
   refine drun_end rfl ?_
   refine then_normal ?_
   refine aw_ret ?_
   refine retPost2 rfl rfl rfl ?_
   exact ⟨by (rw [hpi, show hasF l x.name = (g.name == x.name) by simp [hasF, hpi, hg]]; rw [show (Lib.compareBytes g.name x.name == 0) = (g.name == x.name) by rw [Bool.eq_iff_iff]; simp [cb_eq]]), rfl⟩
  ·
   (try simp only [y1, y2, y3, y4, y5, y6, y7, y8, y9, y0, List.length_map] at hg3)
   have hil : ¬ i < l.length := by (have h : ¬ (i : Int) < (l.length : Int) := hg3); omega
   apply drun_normT
   · (try dsimp only [zS, zN, zH, zT]); try exact rfl
   refine zdU rfl rfl rfl rfl (by dsimp only [zS, zN, zH, zT]) ?_
   refine zdU rfl rfl rfl rfl (by dsimp only [zS, zN, zH, zT]) ?_
   refine zdU rfl rfl rfl rfl (by dsimp only [zS, zN, zH, zT]) ?_
   refine zdU rfl rfl rfl rfl (by dsimp only [zS, zN, zH, zT]) ?_
   refine zdU rfl rfl rfl rfl (by dsimp only [zS, zN, zH, zT]) ?_
   refine zdU rfl rfl rfl rfl (by dsimp only [zS, zN, zH, zT]) ?_
   refine zdU rfl rfl rfl rfl (by dsimp only [zS, zN, zH, zT]) ?_
   refine zdU rfl rfl rfl rfl (by dsimp only [zS, zN, zH, zT]) ?_
   refine zd0 (fun H => (op_pick_ff (by rfl) (val_const (by rfl)))) rfl (by dsimp only [zS, zN, zH, zT]) ?_
   refine zd0 (fun H => (op_assign_tmp (by rfl))) rfl (by dsimp only [zS, zN, zH, zT]) ?_
   refine zd0 (fun H => (op_assign_tmp (by rfl))) rfl (by dsimp only [zS, zN, zH, zT]) ?_
   refine drun_end rfl ?_
   refine then_normal ?_
   refine aw_ret ?_
   refine retPost2 rfl rfl rfl ?_
   exact ⟨by (rw [hpi, show hasF l x.name = false by simp [hasF, hpi, List.getElem?_eq_none (show l.length ≤ i by omega)]]) <;> rfl, rfl⟩
set_option maxHeartbeats 1000000 in
set_option maxRecDepth 100000 in
theorem insert_ok (Hs : HS) (v : AV) (l : List F) (i vid : Nat) (x : F) (hA : ArrF Hs 30 v l) (hi : i ≤ l.length) (hl : l.length ≤ 100000) (hv : Hs.blks[vid]? = some (f1 30 x)) (hne : ∀ m c, v ≠ .arr vid m c) : ACalls Try.prog 44 [v, .d (I i), .arr vid 1 1] Hs (fun av H' => InsR Hs 30 v (l.take i ++ x :: l.drop i) av H') := by
 refine acalls_of_aw Try.func44 rfl ?_
 refine aw_start (T' := (v :: (.d (I i)) :: (.arr vid 1 1) :: .un :: .un :: .un :: .un :: .un :: .un :: .un :: .un :: .un :: .un :: .un :: .un :: .un :: .un :: .un :: .un :: .un :: .un :: .un :: .un :: .un :: .un :: .un :: .un :: .un :: .un :: .un :: .un :: .un :: .un :: .un :: .un :: .un :: .un :: .un :: .un :: .un :: .un :: .un :: .un :: .un :: .un :: .un :: .un :: .un :: .un :: .un :: .un :: .un :: .un :: .un :: .un :: .un :: .un :: .un :: .un :: .un :: .un :: .un :: .un :: .un :: .un :: .un :: .un :: .un :: .un :: .un :: .un :: .un :: .un :: .un :: .un :: .un :: .un :: .un :: .un :: .un :: .un :: .un :: .un :: .un :: .un :: .un :: .un :: .un :: .un :: .un :: .un :: .un :: .un :: .un :: .un :: [])) rfl ?_
 refine aw_seq ?_
 refine aw_region ?_
 refine zst (op_assign_const (by rfl)) rfl (by dsimp only [zS, zN, zH, zT]) ?_
 refine al_end rfl ?_
 refine then_normal ?_
 refine aw_seq ?_
 refine aw_region ?_
 refine zst (op_move_tmp (by rfl)) rfl (by dsimp only [zS, zN, zH, zT]) ?_
 refine zst (op_move_tmp (by rfl)) rfl (by dsimp only [zS, zN, zH, zT]) ?_
 refine zst (op_sliceUn Try.underlying22 Sz30 hA (by rfl) (by omega) (by omega)) rfl (by dsimp only [zS, zN, zH, zT]) ?_
 refine al_end rfl ?_
 refine then_normal ?_
 refine aw_seq ?_
 refine aw_region ?_
 refine zst (op_move_tmp (by rfl)) rfl (by dsimp only [zS, zN, zH, zT]) ?_
 refine zst (op_lenArr Try.underlying22 (by rfl)) rfl (by dsimp only [zS, zN, zH, zT]) ?_
 refine zst (op_assign_tmp (by rfl)) rfl (by dsimp only [zS, zN, zH, zT]) ?_
 refine al_end rfl ?_
 refine then_normal ?_
 refine aw_seq ?_
 refine aw_seq ?_
 refine aw_region ?_
 refine zst (op_move_tmp (by rfl)) rfl (by dsimp only [zS, zN, zH, zT]) ?_
 refine zst (op_eqI (by rfl) (by rfl)) rfl (by dsimp only [zS, zN, zH, zT]) ?_
 refine al_end rfl ?_
 refine then_normal ?_
 refine aw_cond rfl (fun hc1 => ?_) (fun hc1 => ?_)
 ·
  (try simp only [y1, y2, y3, y4, y5, y6, y7, y8, y9, y0, List.length_map] at hc1)
  exact absurd hc1 (by decide)
 ·
  (try simp only [y1, y2, y3, y4, y5, y6, y7, y8, y9, y0, List.length_map] at hc1)
  refine aw_skip ?_
  refine then_normal ?_
  refine aw_seq ?_
  refine aw_region ?_
  refine zst (op_move_tmp (by rfl)) rfl (by dsimp only [zS, zN, zH, zT]) ?_
  refine zst (op_lenA Try.underlying22 (by rfl) hA) rfl (by dsimp only [zS, zN, zH, zT]) ?_
  refine zst (op_assign_tmp (by rfl)) rfl (by dsimp only [zS, zN, zH, zT]) ?_
  refine al_end rfl ?_
  refine then_normal ?_
  refine aw_seq ?_
  refine aw_seq ?_
  refine aw_region ?_
  refine zst (op_move_tmp (by rfl)) rfl (by dsimp only [zS, zN, zH, zT]) ?_
  refine zst (op_move_tmp (by rfl)) rfl (by dsimp only [zS, zN, zH, zT]) ?_
  refine zst (op_eqI (by rfl) (by rfl)) rfl (by dsimp only [zS, zN, zH, zT]) ?_
  refine al_end rfl ?_
  refine then_normal ?_
  refine aw_cond rfl (fun hc2 => ?_) (fun hc2 => ?_)
  ·
   (try simp only [y1, y2, y3, y4, y5, y6, y7, y8, y9, y0, List.length_map] at hc2)
   have hil : i = l.length := by omega
   refine aw_seq ?_
   refine aw_region ?_
   refine zst (op_move_tmp (by rfl)) rfl (by dsimp only [zS, zN, zH, zT]) ?_
   refine zst (op_move_tmp (by rfl)) rfl (by dsimp only [zS, zN, zH, zT]) ?_
   refine al_cons _ (op_append_arrX Try.underlying22 Inf30 (by rfl) hA (AddsX.arr (n := 1) (b := f1 30 x) (ys := [fD x]) Try.underlying22 hv (by rfl) (by show (((fC x).map AV.d).take (1 * 7)) = _; rw [List.take_of_length_le (by rw [List.length_map, fC_len]; omega)]; simp [flat, fD, DV.cells]) (by show 1 * 7 ≤ ((fC x).map AV.d).length; rw [List.length_map, fC_len]; omega) (lit_f x) (lit_f1 x)) (by simp) (by simp; omega) (by simp; omega)) rfl ?_
   rintro v2 H2 ⟨hA2, hK2, id2, m2, cc2, rfl, hn2, ho2⟩
   apply al_normT
   · (try dsimp only [putT, List.set_cons_zero, List.set_cons_succ]); try exact rfl
   refine zst (op_assign_tmp (by rfl)) rfl (by dsimp only [zS, zN, zH, zT]) ?_
   refine al_end rfl ?_
   refine then_normal ?_
   refine aw_ret ?_
   refine then_ret ?_
   refine retPost1 rfl rfl ?_
   exact ⟨by subst hil; unfold ArrF; rw [ins_len (Nat.le_refl _), List.take_length, List.drop_length, fcells_append]; simpa [fcells] using hA2, hK2, fun id n c h => by cases h; rcases Arr.or hA with h0 | ⟨id3, cap3, h3⟩; exact .inl (hn2 h0); rcases ho2 _ _ _ h3 with h | h; exact .inr ⟨_, _, by rw [h]; exact h3⟩; exact .inl h⟩
  ·
   (try simp only [y1, y2, y3, y4, y5, y6, y7, y8, y9, y0, List.length_map] at hc2)
   have hil : i < l.length := by omega
   obtain ⟨id, cap, cs, rfl, hb, hc, hcap, hu⟩ := Arr.pos hA (by omega)
   have hvi : vid ≠ id := fun h => hne _ _ (by rw [h])
   have hcs : (⟨30, cs, false⟩ : HB).cs.length = cap * 7 := hc
   refine aw_skip ?_
   refine then_normal ?_
   refine aw_seq ?_
   refine aw_seq ?_
   refine aw_region ?_
   refine zst (op_move_tmp (by rfl)) rfl (by dsimp only [zS, zN, zH, zT]) ?_
   refine zst (op_move_tmp (by rfl)) rfl (by dsimp only [zS, zN, zH, zT]) ?_
   refine zst (op_add (by rfl) (by rfl) (show IntKind.i64.wrap ((l.length : Int) + 1) = ((l.length + 1 : Nat) : Int) by rw [wrap_i64 ⟨by omega, by omega⟩]; omega)) rfl (by dsimp only [zS, zN, zH, zT]) ?_
   refine zst (op_move_tmp (by rfl)) rfl (by dsimp only [zS, zN, zH, zT]) ?_
   refine zst (op_capArr Try.underlying22 (by rfl)) rfl (by dsimp only [zS, zN, zH, zT]) ?_
   refine zst (op_gtI (by rfl) (by rfl)) rfl (by dsimp only [zS, zN, zH, zT]) ?_
   refine al_end rfl ?_
   refine then_normal ?_
   refine aw_cond rfl (fun hc3 => ?_) (fun hc3 => ?_)
   ·
    (try simp only [y1, y2, y3, y4, y5, y6, y7, y8, y9, y0, List.length_map] at hc3)
    have hg : cap < l.length + 1 := by omega
    refine aw_seq ?_
    refine aw_region ?_
    refine zst (op_move_tmp (by rfl)) rfl (by dsimp only [zS, zN, zH, zT]) ?_
    refine zst (op_move_tmp (by rfl)) rfl (by dsimp only [zS, zN, zH, zT]) ?_
    refine zst (op_sliceArr0 Try.underlying22 Sz30 (by rfl) (by rfl) (by omega) (by omega) (by rfl)) rfl (by dsimp only [zS, zN, zH, zT]) ?_
    refine zst (op_move_tmp (by rfl)) rfl (by dsimp only [zS, zN, zH, zT]) ?_
    refine zst (op_move_tmp (by rfl)) rfl (by dsimp only [zS, zN, zH, zT]) ?_
    refine zst (op_add (by rfl) (by rfl) (show IntKind.i64.wrap ((l.length : Int) + 1) = ((l.length + 1 : Nat) : Int) by rw [wrap_i64 ⟨by omega, by omega⟩]; omega)) rfl (by dsimp only [zS, zN, zH, zT]) ?_
    refine zst (op_move_tmp (by rfl)) rfl (by dsimp only [zS, zN, zH, zT]) ?_
    refine zst (op_sub (by rfl) (by rfl) (show IntKind.i64.wrap (((l.length + 1 : Nat) : Int) - (i : Int)) = ((l.length + 1 - i : Nat) : Int) by rw [wrap_i64 ⟨by omega, by omega⟩]; omega)) rfl (by dsimp only [zS, zN, zH, zT]) ?_
    refine al_cons _ (op_appendZ (k := l.length + 1 - i) Try.underlying22 Try.underlying3 Inf30 (by rfl) (by decide) (by rfl) (by rfl) (by omega) (by omega) hb (by show _ ≤ cs.length; omega) (by omega) (by omega)) rfl ?_
    rintro v2 H2 ⟨c2, hc2, rfl, rfl⟩
    apply al_normT
    · (try dsimp only [putT, List.set_cons_zero, List.set_cons_succ]); try exact rfl
    refine zst (op_assign_tmp (by rfl)) rfl (by dsimp only [zS, zN, zH, zT]) ?_
    refine al_end rfl ?_
    refine then_normal ?_
    refine aw_seq ?_
    refine aw_region ?_
    refine zst (op_move_tmp (by rfl)) rfl (by dsimp only [zS, zN, zH, zT]) ?_
    refine zst (op_move_tmp (by rfl)) rfl (by dsimp only [zS, zN, zH, zT]) ?_
    refine zst (op_sliceArr1 (m := i) (off := (i) * 7) (n' := l.length + 1 - i) (cap' := c2 - i) Try.underlying22 Sz30 (by rfl) (by rfl) (by omega) (by omega) (by omega) (by omega) (by rfl) (by omega) (by rfl)) rfl (by dsimp only [zS, zN, zH, zT]) ?_
    refine zst (op_move_tmp (by rfl)) rfl (by dsimp only [zS, zN, zH, zT]) ?_
    refine zst (op_copyB (b := ⟨30, (cs.take (i * 7) ++ List.replicate ((c2 - i) * 7) AV.un), false⟩) (b2 := f1 30 x) (vs := ((fC x).map AV.d)) (m := 1) Try.underlying22 Try.underlying22 Sz30 (by rfl) (From.arr vid 1 1) (by omega) push_at (push_ne hv) (by show (((fC x).map AV.d).drop 0).take (1 * 7) = ((fC x).map AV.d); rw [List.drop_zero, List.take_of_length_le (by rw [List.length_map, fC_len]; omega)]) (by rw [List.length_map, fC_len]) (by show _ ≤ ((cs.take (i * 7) ++ List.replicate ((c2 - i) * 7) AV.un)).length; rw [List.length_append, List.length_take, List.length_replicate]; omega) (by intro w hw; obtain ⟨d, hd, rfl⟩ := List.mem_map.1 hw; exact fC_one x d hd) (by rfl)) rfl (by dsimp only [zS, zN, zH, zT]) ?_
    refine al_end rfl ?_
    refine then_normal ?_
    refine aw_seq ?_
    refine aw_draw [0, 0, 0, 0, 0, 0, 0, 0, 2] mixed (by kernel_rfl) ?_
    refine zd0 (fun H => (op_move_tmp (by rfl))) rfl (by dsimp only [zS, zN, zH, zT]) ?_
    refine zd0 (fun H => (op_move_tmp (by rfl))) rfl (by dsimp only [zS, zN, zH, zT]) ?_
    refine zd0 (fun H => (op_move_tmp (by rfl))) rfl (by dsimp only [zS, zN, zH, zT]) ?_
    refine zd0 (fun H => (op_add (by rfl) (by rfl) (show IntKind.i64.wrap ((i : Int) + 1) = ((i + 1 : Nat) : Int) by rw [wrap_i64 ⟨by omega, by omega⟩]; omega))) rfl (by dsimp only [zS, zN, zH, zT]) ?_
    refine zd0 (fun H => (op_sliceArr1 (m := i + 1) (off := (i + 1) * 7) (n' := l.length - i) (cap' := c2 - (i + 1)) Try.underlying22 Sz30 (by rfl) (by rfl) (by omega) (by omega) (by omega) (by omega) (by rfl) (by omega) (by rfl))) rfl (by dsimp only [zS, zN, zH, zT]) ?_
    refine zd0 (fun H => (op_move_tmp (by rfl))) rfl (by dsimp only [zS, zN, zH, zT]) ?_
    refine zd0 (fun H => (op_move_tmp (by rfl))) rfl (by dsimp only [zS, zN, zH, zT]) ?_
    refine zd0 (fun H => (op_sliceArr1 (m := i) (off := (i) * 7) (n' := l.length - i) (cap' := cap - i) Try.underlying22 Sz30 (by rfl) (by rfl) (by omega) (by omega) (by omega) (by omega) (by rfl) (by omega) (by rfl))) rfl (by dsimp only [zS, zN, zH, zT]) ?_
    refine zd2 (op_copyB (b2 := ⟨30, cs, false⟩) (vs := ((cs.drop (i * 7)).take ((l.length - i) * 7))) (m := l.length - i) Try.underlying22 Try.underlying22 Sz30 (by rfl) (From.sub id (i * 7) (l.length - i) (cap - i)) (by omega) (put_blks_at push_at) (by rw [put_blks_ne (by have := lt_nb hb; omega)]; exact push_ne hb) (by rfl) (by show ((cs.drop (i * 7)).take ((l.length - i) * 7)).length = _; rw [List.length_take, List.length_drop]; omega) (by show _ ≤ (putL _ _ _).length; rw [putL_length, List.length_append, List.length_take, List.length_replicate]; omega) (by intro w hw; rw [rest_cells hu] at hw; exact fcells_one l w (List.mem_of_mem_drop hw)) (by rfl)) rfl (by dsimp only [zS, zN, zH, zT]) ?_
    refine drun_end rfl ?_
    refine then_normal ?_
    refine aw_seq ?_
    refine aw_region ?_
    refine zst (op_move_tmp (by rfl)) rfl (by dsimp only [zS, zN, zH, zT]) ?_
    refine zst (op_assign_tmp (by rfl)) rfl (by dsimp only [zS, zN, zH, zT]) ?_
    refine al_end rfl ?_
    refine then_normal ?_
    refine aw_ret ?_
    refine then_ret ?_
    refine retPost1 rfl rfl ?_
    exact insR_grow hc hcap hu hil hc2
   ·
    (try simp only [y1, y2, y3, y4, y5, y6, y7, y8, y9, y0, List.length_map] at hc3)
    have hg : l.length + 1 ≤ cap := by omega
    refine aw_skip ?_
    refine then_normal ?_
    refine aw_seq ?_
    refine aw_region ?_
    refine zst (op_move_tmp (by rfl)) rfl (by dsimp only [zS, zN, zH, zT]) ?_
    refine zst (op_move_tmp (by rfl)) rfl (by dsimp only [zS, zN, zH, zT]) ?_
    refine zst (op_move_tmp (by rfl)) rfl (by dsimp only [zS, zN, zH, zT]) ?_
    refine zst (op_add (by rfl) (by rfl) (show IntKind.i64.wrap ((l.length : Int) + 1) = ((l.length + 1 : Nat) : Int) by rw [wrap_i64 ⟨by omega, by omega⟩]; omega)) rfl (by dsimp only [zS, zN, zH, zT]) ?_
    refine zst (op_sliceArr0 (m := l.length + 1) Try.underlying22 Sz30 (by rfl) (by rfl) (by omega) (by omega) (by rfl)) rfl (by dsimp only [zS, zN, zH, zT]) ?_
    refine zst (op_assign_tmp (by rfl)) rfl (by dsimp only [zS, zN, zH, zT]) ?_
    refine al_end rfl ?_
    refine then_normal ?_
    refine aw_seq ?_
    refine aw_seq ?_
    refine aw_region ?_
    refine zst (op_move_tmp (by rfl)) rfl (by dsimp only [zS, zN, zH, zT]) ?_
    refine zst (op_move_tmp (by rfl)) rfl (by dsimp only [zS, zN, zH, zT]) ?_
    refine zst (op_move_tmp (by rfl)) rfl (by dsimp only [zS, zN, zH, zT]) ?_
    refine zst (op_move_tmp (by rfl)) rfl (by dsimp only [zS, zN, zH, zT]) ?_
    refine zst (op_add (by rfl) (by rfl) (show IntKind.i64.wrap ((i : Int) + 1) = ((i + 1 : Nat) : Int) by rw [wrap_i64 ⟨by omega, by omega⟩]; omega)) rfl (by dsimp only [zS, zN, zH, zT]) ?_
    refine zst (op_sliceArr1 (m := i + 1) (off := (i + 1) * 7) (n' := l.length - i) (cap' := cap - (i + 1)) Try.underlying22 Sz30 (by rfl) (by rfl) (by omega) (by omega) (by omega) (by omega) (by rfl) (by omega) (by rfl)) rfl (by dsimp only [zS, zN, zH, zT]) ?_
    refine zst (op_overlaps (rt := 4) Try.func79 (by kernel_rfl) (by kernel_rfl) (by kernel_rfl) (by kernel_rfl) Try.underlying22 Sz30 (by rfl) (by rfl) hvi hv hb (by rfl) (by show 0 < cs.length; omega)) rfl (by dsimp only [zS, zN, zH, zT]) ?_
    refine zst (op_not (by rfl)) rfl (by dsimp only [zS, zN, zH, zT]) ?_
    refine al_end rfl ?_
    refine then_normal ?_
    refine aw_cond rfl (fun _ => ?_) (fun h => by cases h)
    refine aw_seq ?_
    refine aw_draw [0, 0, 0, 0, 0, 0, 0, 0, 2] mixed (by kernel_rfl) ?_
    refine zd0 (fun H => (op_move_tmp (by rfl))) rfl (by dsimp only [zS, zN, zH, zT]) ?_
    refine zd0 (fun H => (op_move_tmp (by rfl))) rfl (by dsimp only [zS, zN, zH, zT]) ?_
    refine zd0 (fun H => (op_move_tmp (by rfl))) rfl (by dsimp only [zS, zN, zH, zT]) ?_
    refine zd0 (fun H => (op_add (by rfl) (by rfl) (show IntKind.i64.wrap ((i : Int) + 1) = ((i + 1 : Nat) : Int) by rw [wrap_i64 ⟨by omega, by omega⟩]; omega))) rfl (by dsimp only [zS, zN, zH, zT]) ?_
    refine zd0 (fun H => (op_sliceArr1 (m := i + 1) (off := (i + 1) * 7) (n' := l.length - i) (cap' := cap - (i + 1)) Try.underlying22 Sz30 (by rfl) (by rfl) (by omega) (by omega) (by omega) (by omega) (by rfl) (by omega) (by rfl))) rfl (by dsimp only [zS, zN, zH, zT]) ?_
    refine zd0 (fun H => (op_move_tmp (by rfl))) rfl (by dsimp only [zS, zN, zH, zT]) ?_
    refine zd0 (fun H => (op_move_tmp (by rfl))) rfl (by dsimp only [zS, zN, zH, zT]) ?_
    refine zd0 (fun H => (op_sliceArr1 (m := i) (off := (i) * 7) (n' := l.length + 1 - i) (cap' := cap - i) Try.underlying22 Sz30 (by rfl) (by rfl) (by omega) (by omega) (by omega) (by omega) (by rfl) (by omega) (by rfl))) rfl (by dsimp only [zS, zN, zH, zT]) ?_
    refine zd2 (op_copyB (b := ⟨30, cs, false⟩) (b2 := ⟨30, cs, false⟩) (vs := ((cs.drop (i * 7)).take ((l.length - i) * 7))) (m := l.length - i) Try.underlying22 Try.underlying22 Sz30 (by rfl) (From.sub id (i * 7) (l.length + 1 - i) (cap - i)) (by omega) hb hb (by rfl) (by show ((cs.drop (i * 7)).take ((l.length - i) * 7)).length = _; rw [List.length_take, List.length_drop]; omega) (by show _ ≤ cs.length; omega) (by intro w hw; rw [rest_cells hu] at hw; exact fcells_one l w (List.mem_of_mem_drop hw)) (by rfl)) rfl (by dsimp only [zS, zN, zH, zT]) ?_
    refine drun_end rfl ?_
    refine then_normal ?_
    refine aw_seq ?_
    refine aw_region ?_
    refine zst (op_move_tmp (by rfl)) rfl (by dsimp only [zS, zN, zH, zT]) ?_
    refine zst (op_move_tmp (by rfl)) rfl (by dsimp only [zS, zN, zH, zT]) ?_
    refine zst (op_sliceArr1 (m := i) (off := (i) * 7) (n' := l.length + 1 - i) (cap' := cap - i) Try.underlying22 Sz30 (by rfl) (by rfl) (by omega) (by omega) (by omega) (by omega) (by rfl) (by omega) (by rfl)) rfl (by dsimp only [zS, zN, zH, zT]) ?_
    refine zst (op_move_tmp (by rfl)) rfl (by dsimp only [zS, zN, zH, zT]) ?_
    refine zst (op_copyB (b2 := f1 30 x) (vs := ((fC x).map AV.d)) (m := 1) Try.underlying22 Try.underlying22 Sz30 (by rfl) (From.arr vid 1 1) (by omega) (put_blks_at hb) (by rw [put_blks_ne hvi]; exact hv) (by show (((fC x).map AV.d).drop 0).take (1 * 7) = ((fC x).map AV.d); rw [List.drop_zero, List.take_of_length_le (by rw [List.length_map, fC_len]; omega)]) (by rw [List.length_map, fC_len]) (by show _ ≤ (putL _ _ _).length; rw [putL_length]; omega) (by intro w hw; obtain ⟨d, hd, rfl⟩ := List.mem_map.1 hw; exact fC_one x d hd) (by rfl)) rfl (by dsimp only [zS, zN, zH, zT]) ?_
    refine al_end rfl ?_
    refine then_normal ?_
    refine aw_seq ?_
    refine aw_region ?_
    refine zst (op_move_tmp (by rfl)) rfl (by dsimp only [zS, zN, zH, zT]) ?_
    refine zst (op_assign_tmp (by rfl)) rfl (by dsimp only [zS, zN, zH, zT]) ?_
    refine al_end rfl ?_
    refine then_normal ?_
    refine aw_ret ?_
    refine then_ret ?_
    refine retPost1 rfl rfl ?_
    exact insR_shift rfl hb hc hg hu hil
end Go.Proofs.Ytjbpfnoibeogbaa
namespace Go.Proofs.Ytjbpfnoibeogbaa
open Go.AV Go.AV.Ord Go.AV.Oct Go.AV.Val
set_option linter.unusedVariables false
set_option linter.unusedSimpArgs false
set_option maxHeartbeats 1000000 in
set_option maxRecDepth 100000 in
theorem ofMap_ok (Hs : HS) (w : AV) (fs : List F) (hw : LL w 7 (fs.map fD)) (hl : fs.length ≤ 100000) : ACalls Try.prog 11 [w] Hs (Ret (.d (.agg (vC (ofMapV fs)))) Hs) := by
 refine ACalls.tidyP (vC_one (ofMapV fs)) ?_
 refine acalls_of_awC Try.func11 rfl ?_
 refine aw_start (T' := [w, .un, .un, .un, .un, .un, .un, .un, .un, .un, .un, .un, .un, .un, .un, .un, .un, .un, .un, .un, .un, .un, .un, .un, .un, .un, .un, .un, .un, .un, .un, .un, .un]) rfl ?_
 refine aw_seq ?_
 refine aw_region ?_
 refine zst (op_alloc (Zr26) (by rfl)) rfl (by dsimp only [zS, zN, zH, zT]) ?_
 refine al_end rfl ?_
 refine then_normal ?_
 refine aw_seq ?_
 refine aw_region ?_
 refine zst (op_assign_const (by rfl)) rfl (by dsimp only [zS, zN, zH, zT]) ?_
 refine al_end rfl ?_
 refine then_normal ?_
 refine aw_seq ?_
 refine aw_seq ?_
 refine aw_region ?_
 refine zst (op_move_tmp (by rfl)) rfl (by dsimp only [zS, zN, zH, zT]) ?_
 refine zst (op_lenL Try.underlying22 hw) rfl (by dsimp only [zS, zN, zH, zT]) ?_
 refine zst (op_move_const (by rfl)) rfl (by dsimp only [zS, zN, zH, zT]) ?_
 refine al_end rfl ?_
 refine then_normal ?_
 refine aw_block ?_
 apply aw_loopF (fun n T H => ∃ (k : Nat) (v : AV), T = [.un, .un, .ptr Hs.nb 0, v, .un, .un, .un, .un, w, .d (I (fs.map fD).length), .d (I k), .un, .un, .un, .un, .un, .un, .un, .un, .un, .un, .un, .un, .un, .un, .un, .un, .un, .un, .un, .un, .un, .un] ∧ k ≤ fs.length ∧ n = fs.length - k ∧ ArrF H 30 v (ofF (fs.take k)) ∧ Ext Hs H ∧ H.blks[Hs.nb]? = some (vBlk 26 0 false 0 [] nilS nilS) ∧ (∀ id m c, v = .arr id m c → Hs.nb < id)) (fs.length) [false, false, true, true, false, false, false, false, true, true, true, false, false, false, false, false, false, false, false, false, false, false, false, false, false, false, false, false, false, false, false, false, false]
 · (try dsimp only [maskT]); try exact rfl
 · rfl
 · exact ⟨0, nilS, rfl, by omega, rfl, Arr.nil, (Ext.refl Hs).push _ _, push_at, (fun _ _ _ h => by cases h)⟩
 rintro n T H ⟨k, v, rfl, hk, rfl, hA, hx, hz, hvn⟩
 refine aw_seq ?_
 refine aw_region ?_
 refine zst (op_ltI (by rfl) (by rfl)) rfl (by dsimp only [zS, zN, zH, zT]) ?_
 refine al_end rfl ?_
 refine then_normal ?_
 refine aw_seq ?_
 refine aw_cond rfl (fun hc1 => ?_) (fun hc1 => ?_)
 ·
  (try simp only [y1, y2, y3, y4, y5, y6, y7, y8, y9, y0, List.length_map] at hc1)
  (try simp only [List.length_map] at hc1)
  have hlt : k < fs.length := by omega
  obtain ⟨x, hx1⟩ : ∃ x, fs[k]? = some x := ⟨_, List.getElem?_eq_getElem hlt⟩
  have hlen := ofF_len (fs.take k)
  have hlt2 : (fs.take k).length = k := by rw [List.length_take]; omega
  have hri := ofF_rises (fs.take k)
  have hst := ofF_step hx1
  have hple := posF_le (ofF (fs.take k)) x.name
  refine aw_skip ?_
  refine then_normal ?_
  refine aw_seq ?_
  refine aw_block ?_
  refine aw_seq ?_
  refine aw_region ?_
  refine zst (op_indexAddr (z := fD x) (cs := [S x.name, I x.val.kind, TF x.val.yes, .v (.int .i64 x.val.num), S x.val.text, .lst 6 (x.val.list.map vD), .lst 7 (x.val.fields.map fD)]) Try.underlying22 Sz30 hw (by rfl) (by omega) (by rw [List.getElem?_map, show ((k : Nat) : Int).toNat = k from rfl, hx1]; rfl) (fD_cells7 x)) rfl (by dsimp only [zS, zN, zH, zT]) ?_
  refine zst (op_load_elts (ds := fC x) Try.underlying30 (by rfl) Sz30 (by rfl) (Nat.le_of_ble_eq_true rfl) (by rw [← fC7]; rfl)) rfl (by dsimp only [zS, zN, zH, zT]) ?_
  refine zst (op_alloc (Zr30) (by rfl)) rfl (by dsimp only [zS, zN, zH, zT]) ?_
  refine zst (op_storeF (b' := f1 30 x) x Sz30 (by rfl) push_at (by rfl) (Nat.le_of_ble_eq_true rfl) (by rfl) (by unfold f1; rw [← fC7]; rfl)) rfl (by dsimp only [zS, zN, zH, zT]) ?_
  refine al_end rfl ?_
  refine then_normal ?_
  refine aw_seq ?_
  have hA2 : ArrF ((H.push 30 [.d (S []), .d (I 0), .d (TF false), .d (.v (.int .i64 0)), .d (S []), nilS, nilS]).setB H.nb (f1 30 x)) 30 v (ofF (fs.take k)) := ArrF.psh hA
  refine aw_region ?_
  refine zst (op_move_tmp (by rfl)) rfl (by dsimp only [zS, zN, zH, zT]) ?_
  refine zst (op_loadF 30 x Try.underlying30 (by rfl) Sz30 (by rfl) (setB_at push_at)) rfl (by dsimp only [zS, zN, zH, zT]) ?_
  refine zst (op_callF Try.func41 (by rfl) (by rfl) (.tmp (by rfl) (.tmp (by rfl) (.func .nil))) (search_ok _ v (ofF (fs.take k)) x hA2 hri (by omega))) rfl (by dsimp only [zS, zN, zH, zT]) ?_
  refine zst (op_move_tmp (by rfl)) rfl (by dsimp only [zS, zN, zH, zT]) ?_
  refine zst (op_extract (by rfl) (by rfl)) rfl (by dsimp only [zS, zN, zH, zT]) ?_
  refine zst (op_extract (by rfl) (by rfl)) rfl (by dsimp only [zS, zN, zH, zT]) ?_
  refine zst (op_assign_tmp (by rfl)) rfl (by dsimp only [zS, zN, zH, zT]) ?_
  refine zst (op_assign_tmp (by rfl)) rfl (by dsimp only [zS, zN, zH, zT]) ?_
  refine al_end rfl ?_
  refine then_normal ?_
  refine aw_seq ?_
  refine aw_seq ?_
  refine aw_region ?_
  refine zst (op_move_tmp (by rfl)) rfl (by dsimp only [zS, zN, zH, zT]) ?_
  refine al_end rfl ?_
  refine then_normal ?_
  refine aw_cond rfl (fun hc2 => ?_) (fun hc2 => ?_)
  ·
   (try simp only [y1, y2, y3, y4, y5, y6, y7, y8, y9, y0, List.length_map] at hc2)
   have hhas : hasF (ofF (fs.take k)) x.name = true := hc2
   obtain ⟨g, hg, hgn⟩ := hasF_at hhas
   have hgl := (List.getElem?_eq_some_iff.1 hg).1
   obtain ⟨id, cap, cs, rfl, hb, hc, hcap, hu⟩ := Arr.pos hA2 (by omega)
   refine aw_seq ?_
   refine aw_region ?_
   refine zst (op_move_tmp (by rfl)) rfl (by dsimp only [zS, zN, zH, zT]) ?_
   refine zst (op_move_tmp (by rfl)) rfl (by dsimp only [zS, zN, zH, zT]) ?_
   refine zst (op_loadF 30 x Try.underlying30 (by rfl) Sz30 (by rfl) (setB_at push_at)) rfl (by dsimp only [zS, zN, zH, zT]) ?_
   refine zst (op_indexArr (off := (posF (ofF (fs.take k)) x.name) * 7) Try.underlying22 Sz30 (by rfl) (by rfl) (by omega) (by omega) (by rfl)) rfl (by dsimp only [zS, zN, zH, zT]) ?_
   refine zst (op_storeF (b' := ⟨30, putL cs ((posF (ofF (fs.take k)) x.name) * 7) ((fC x).map .d), false⟩) x Sz30 (by rfl) hb (by rfl) (by show _ ≤ cs.length; omega) (by rfl) (by rfl)) rfl (by dsimp only [zS, zN, zH, zT]) ?_
   refine al_end rfl ?_
   refine then_normal ?_
   refine aw_exit ?_
   refine then_exit (inBlock_here (then_normal ?_))
   refine aw_region ?_
   refine zst (by first | exact op_add (by rfl) (by rfl) (wrap_i64 ⟨by omega, by omega⟩) | exact op_add (by rfl) (by rfl) (by rfl)) rfl (by dsimp only [zS, zN, zH, zT]) ?_
   refine zst (op_move_tmp (by rfl)) rfl (by dsimp only [zS, zN, zH, zT]) ?_
   refine al_end rfl ?_
   apply again_to (fs.length - (k + 1)) [false, false, true, true, false, false, false, false, true, true, true, false, false, false, false, false, false, false, false, false, false, false, false, false, false, false, false, false, false, false, false, false, false]
   · (try dsimp only [maskT]); try exact rfl
   · rfl
   · omega
   exact ⟨k + 1, _, rfl, by omega, rfl, by rw [hst, putF_has _ _ hhas]; exact ArrF.set hb hc hcap hu hg, ((hx.push _ _).setB (nb_le hx)).setB (by have := hvn _ _ _ rfl; omega), by rw [setB_ne (by have := hvn _ _ _ rfl; omega), setB_ne (by have := lt_nb hz; omega)]; exact push_ne hz, (fun _ _ _ h => by cases h; exact hvn _ _ _ rfl)⟩
  ·
   (try simp only [y1, y2, y3, y4, y5, y6, y7, y8, y9, y0, List.length_map] at hc2)
   have hhas : hasF (ofF (fs.take k)) x.name = false := hc2
   refine aw_skip ?_
   refine then_normal ?_
   refine aw_region ?_
   refine zst (op_move_tmp (by rfl)) rfl (by dsimp only [zS, zN, zH, zT]) ?_
   refine zst (op_move_tmp (by rfl)) rfl (by dsimp only [zS, zN, zH, zT]) ?_
   refine zst (op_loadF 30 x Try.underlying30 (by rfl) Sz30 (by rfl) (setB_at push_at)) rfl (by dsimp only [zS, zN, zH, zT]) ?_
   refine zst (op_litF x Try.underlying22 ZS30 (.cons (by rfl) (.nil _))) rfl (by dsimp only [zS, zN, zH, zT]) ?_
   refine al_cons _ (op_callF Try.func44 (by rfl) (by rfl) (.tmp (by rfl) (.tmp (by rfl) (.tmp (by rfl) .nil))) (insert_ok _ v (ofF (fs.take k)) (posF (ofF (fs.take k)) x.name) ((H.push 30 [.d (S []), .d (I 0), .d (TF false), .d (.v (.int .i64 0)), .d (S []), nilS, nilS]).setB H.nb (f1 30 x)).nb x (ArrF.pushed hA2) hple (by omega) push_at (fun m c h => by have := Arr.idlt hA2 h; omega))) rfl ?_
   rintro v2 H2 hI
   apply al_normT
   · (try dsimp only [putT, List.set_cons_zero, List.set_cons_succ]); try exact rfl
   refine zst (op_assign_tmp (by rfl)) rfl (by dsimp only [zS, zN, zH, zT]) ?_
   refine al_end rfl ?_
   refine inBlock_normal (then_normal ?_)
   refine aw_region ?_
   refine zst (by first | exact op_add (by rfl) (by rfl) (wrap_i64 ⟨by omega, by omega⟩) | exact op_add (by rfl) (by rfl) (by rfl)) rfl (by dsimp only [zS, zN, zH, zT]) ?_
   refine zst (op_move_tmp (by rfl)) rfl (by dsimp only [zS, zN, zH, zT]) ?_
   refine al_end rfl ?_
   apply again_to (fs.length - (k + 1)) [false, false, true, true, false, false, false, false, true, true, true, false, false, false, false, false, false, false, false, false, false, false, false, false, false, false, false, false, false, false, false, false, false]
   · (try dsimp only [maskT]); try exact rfl
   · rfl
   · omega
   exact ⟨k + 1, _, rfl, by omega, rfl, by rw [hst, putF_new _ _ hhas]; exact hI.arr, ext_kept (((hx.push _ _).setB (nb_le hx)).push _ _) hI.kept hvn, by rw [hI.kept.blks Hs.nb (by rw [push_nb, setB_nb, push_nb]; have := lt_nb hz; omega) (fun m c h => by have := hvn _ _ _ h; omega), push_lt (by rw [setB_nb, push_nb]; have := lt_nb hz; omega), setB_ne (by have := lt_nb hz; omega)]; exact push_ne hz, (fun id m c h => by rcases hI.new id m c h with h | ⟨m2, c2, h⟩; (rw [push_nb, setB_nb, push_nb] at h; have := lt_nb hz; omega); exact hvn _ _ _ h)⟩
 ·
  (try simp only [y1, y2, y3, y4, y5, y6, y7, y8, y9, y0, List.length_map] at hc1)
  (try simp only [List.length_map] at hc1)
  have hke : k = fs.length := by omega
  subst hke
  rw [List.take_length] at hA
  refine aw_exit ?_
  refine then_exit (again_exit (inBlock_here (then_normal ?_)))
  refine aw_seq ?_
  rcases Arr.or hA with rfl | ⟨id, cap, rfl⟩
  ·
   refine aw_region ?_
   refine zst (op_move_tmp (by rfl)) rfl (by dsimp only [zS, zN, zH, zT]) ?_
   refine zst (op_build (pl := [(0, 1), (1, 1), (2, 1), (3, 1), (4, 1), (5, 1)]) Try.underlying26 Zr26 (by kernel_rfl) (by rfl) (by rfl) (by rfl)) rfl (by dsimp only [zS, zN, zH, zT]) ?_
   refine zst (by first | exact op_storeB (vs := vs6 5 false 0 [] nilS nilS) (b' := vBlk 26 5 false 0 [] nilS nilS) (H' := _) Sz26 (by rfl) hz (by intro h; cases h) (by rfl) (by rfl) (Nat.le_of_ble_eq_true rfl) (by simp [AV.one, DV.one, TF, S, I, BY]) (by rfl) (by rfl) rfl | exact op_storeB (vs := vs6 5 false 0 [] nilS (.arr id (ofF fs).length cap)) (b' := vBlk 26 5 false 0 [] nilS (.arr id (ofF fs).length cap)) (H' := _) Sz26 (by rfl) hz (by intro h; cases h) (by rfl) (by rfl) (Nat.le_of_ble_eq_true rfl) (by simp [AV.one, DV.one, TF, S, I, BY]) (by rfl) (by rfl) rfl) rfl (by dsimp only [zS, zN, zH, zT]) ?_
   refine al_end rfl ?_
   refine then_normal ?_
   refine aw_ret ?_
   refine retC1 rfl (.cells Try.underlying26 (by rfl) Sz26 (by rfl) (setB_at hz) (Nat.le_of_ble_eq_true rfl) (by rfl)) ?_
   have h0 : ofF fs = [] := List.eq_nil_of_length_eq_zero (Arr.len0 hA)
   refine ⟨hx.setB (Nat.le_refl _), _, rfl, .inl ?_⟩
   unfold ofMapV; rw [h0]; exact weak6 weak_nilL weak_nilF
  ·
   refine aw_region ?_
   refine zst (op_move_tmp (by rfl)) rfl (by dsimp only [zS, zN, zH, zT]) ?_
   refine zst (op_build (pl := [(0, 1), (1, 1), (2, 1), (3, 1), (4, 1), (5, 1)]) Try.underlying26 Zr26 (by kernel_rfl) (by rfl) (by rfl) (by rfl)) rfl (by dsimp only [zS, zN, zH, zT]) ?_
   refine zst (by first | exact op_storeB (vs := vs6 5 false 0 [] nilS nilS) (b' := vBlk 26 5 false 0 [] nilS nilS) (H' := _) Sz26 (by rfl) hz (by intro h; cases h) (by rfl) (by rfl) (Nat.le_of_ble_eq_true rfl) (by simp [AV.one, DV.one, TF, S, I, BY]) (by rfl) (by rfl) rfl | exact op_storeB (vs := vs6 5 false 0 [] nilS (.arr id (ofF fs).length cap)) (b' := vBlk 26 5 false 0 [] nilS (.arr id (ofF fs).length cap)) (H' := _) Sz26 (by rfl) hz (by intro h; cases h) (by rfl) (by rfl) (Nat.le_of_ble_eq_true rfl) (by simp [AV.one, DV.one, TF, S, I, BY]) (by rfl) (by rfl) rfl) rfl (by dsimp only [zS, zN, zH, zT]) ?_
   refine al_end rfl ?_
   refine then_normal ?_
   refine aw_ret ?_
   refine retC1 rfl (.cells Try.underlying26 (by rfl) Sz26 (by rfl) (setB_at hz) (Nat.le_of_ble_eq_true rfl) (by rfl)) ?_
   have hn0 : Hs.nb < id := hvn _ _ _ rfl
   refine ⟨hx.setB (Nat.le_refl _), _, rfl, .inr ?_⟩
   rcases hA with _ | ⟨_, _, _, cs, _, hb, hc, hcap, hu⟩
   exact ⟨id, _, cap, 7, (ofF fs).map fD, _, by omega, by rw [setB_ne (by omega)]; exact hb, by rw [flat_length (fsz _), List.length_map]; exact hu, by rw [flat_length (fsz _), List.length_map]; show _ ≤ cs.length; omega, List.length_map _, hcap, fsz _, fone _, becomes_map⟩
end Go.Proofs.Ytjbpfnoibeogbaa
namespace Go.Proofs.Ytjbpfnoibeogbaa
open Go.AV Go.AV.Ord Go.AV.Oct Go.AV.Val Go.AV.Patch
set_option linter.unusedVariables false
set_option linter.unusedSimpArgs false
set_option maxRecDepth 100000 in
theorem with_ok (Hs : HS) (v : V) (n0 : List UInt8) (x : V) (hl : v.fields.length ≤ 90000) : ACalls Try.prog 14 [.d (.agg (vC v)), .d (S n0), .d (.agg (vC x))] Hs (Ret (.d (.agg (vC (withV v n0 x)))) Hs) := by
 refine ACalls.tidy1 ?_
 refine acalls_of_awCW Try.func14 rfl ?_
 refine aw_start (T' := [.d (.agg (vC v)), .d (S n0), .d (.agg (vC x)), .un, .un, .un, .un, .un, .un, .un, .un, .un, .un, .un, .un, .un, .un, .un, .un, .un]) rfl ?_
 refine aw_seq ?_
 refine aw_region ?_
 refine zst (op_box_elt (cs := [I v.kind, TF v.yes, .v (.int .i64 v.num), S v.text, .lst 6 (v.list.map vD), .lst 7 (v.fields.map fD)]) (by rfl) (vD_cells v)) rfl (by dsimp only [zS, zN, zH, zT]) ?_
 refine zst (op_box_elt (cs := [I x.kind, TF x.yes, .v (.int .i64 x.num), S x.text, .lst 6 (x.list.map vD), .lst 7 (x.fields.map fD)]) (by rfl) (vD_cells x)) rfl (by dsimp only [zS, zN, zH, zT]) ?_
 refine zst (op_alloc (Zr26) (by rfl)) rfl (by dsimp only [zS, zN, zH, zT]) ?_
 refine al_end rfl ?_
 refine then_normal ?_
 refine aw_seq ?_
 refine aw_seq ?_
 refine aw_region ?_
 refine zst (by first | exact op_fieldAddr_ptr Try.underlying26 rfl Sz23 (by rfl) (by rfl) | exact op_fieldAddr_elt Try.underlying26 rfl Sz23 (by rfl) (by rfl) (by rfl)) rfl (by dsimp only [zS, zN, zH, zT]) ?_
 refine zst (by first | exact op_load_elt Try.underlying23 (by rfl) (by rfl) (by rfl) | exact op_load_ptr Try.underlying23 (by rfl) (by rfl) (by exact push_at) (by rfl)) rfl (by dsimp only [zS, zN, zH, zT]) ?_
 refine zst (op_neI (by rfl) (by rfl)) rfl (by dsimp only [zS, zN, zH, zT]) ?_
 refine al_end rfl ?_
 refine then_normal ?_
 refine aw_cond rfl (fun hc1 => ?_) (fun hc1 => ?_)
 ·
  (try simp only [y1, y2, y3, y4, y5, y6, y7, y8, y9, y0, List.length_map] at hc1)
  have hk : ¬ v.kind = 5 := hc1
  refine aw_seq ?_
  refine aw_region ?_
  refine zst (op_load_elts (ds := vC v) Try.underlying26 (by rfl) Sz26 (by rfl) (Nat.le_of_ble_eq_true rfl) (by rw [vC_eq]; rfl)) rfl (by dsimp only [zS, zN, zH, zT]) ?_
  refine zst (op_stV v Sz26 (by rfl) push_at (by first | exact VBl.z _ | exact VBl.v _ _) (by rfl)) rfl (by dsimp only [zS, zN, zH, zT]) ?_
  refine al_end rfl ?_
  refine then_normal ?_
  refine aw_ret ?_
  refine then_ret ?_
  refine retD1 rfl (resV _ Try.underlying26 (by rfl) Sz26 (by rfl) (setB_at push_at) (by first | exact VBl.v _ _ | exact VBl.z _)) ?_
  exact ⟨by rw [withV, if_neg hk], ((Ext.refl Hs).push _ _).setB (Nat.le_refl _)⟩
 ·
  (try simp only [y1, y2, y3, y4, y5, y6, y7, y8, y9, y0, List.length_map] at hc1)
  have hk : v.kind = 5 := by simpa using hc1
  refine aw_skip ?_
  refine then_normal ?_
  refine aw_seq ?_
  refine aw_draw [0, 0, 2, 0, 0, 0, 0, 2, 2, 2] mixed (by kernel_rfl) ?_
  refine zd0 (fun H => (by first | exact op_fieldAddr_ptr Try.underlying26 rfl Sz22 (by rfl) (by rfl) | exact op_fieldAddr_elt Try.underlying26 rfl Sz22 (by rfl) (by rfl) (by rfl))) rfl (by dsimp only [zS, zN, zH, zT]) ?_
  refine zd0 (fun H => (by first | exact op_load_elt Try.underlying22 (by rfl) (by rfl) (by rfl) | exact op_load_ptr Try.underlying22 (by rfl) (by rfl) (by exact push_at) (by rfl))) rfl (by dsimp only [zS, zN, zH, zT]) ?_
  refine zd2 (op_callF Try.func45 (by rfl) (by rfl) (.tmp (by rfl) .nil) (clone_ok _ _ (v.fields.map fD) (LL.d _ _) (by simp; omega))) rfl (by dsimp only [zS, zN, zH, zT]) ?_
  refine zd0 (fun H => (op_move_tmp (by rfl))) rfl (by dsimp only [zS, zN, zH, zT]) ?_
  refine zd0 (fun H => (op_load_elts (ds := vC x) Try.underlying26 (by rfl) Sz26 (by rfl) (Nat.le_of_ble_eq_true rfl) (by rw [vC_eq]; rfl))) rfl (by dsimp only [zS, zN, zH, zT]) ?_
  refine zd0 (fun H => (op_buildD (pl := [(0, 1), (1, 6)]) (fC (F.mk n0 x)) Try.underlying30 Zr30 (by kernel_rfl) (by rfl) (by rfl) (fill_field n0 x) (fC_one _))) rfl (by dsimp only [zS, zN, zH, zT]) ?_
  refine zd0 (fun H => (op_lit Try.underlying22 ZS30 (.cons (y := fD (F.mk n0 x)) (by rfl) (.nil _)) (by rfl) (lit_f _) (lit_f1 _) (by decide))) rfl (by dsimp only [zS, zN, zH, zT]) ?_
  refine zd2 (op_append Try.underlying22 Inf30 (by rfl) (App.own _ _ _) (.list _ _ _ _ Try.underlying22 (LL.own _ _ _)) (clOk _ _) (by simp) (by simp; omega) (by simp; omega)) rfl (by dsimp only [zS, zN, zH, zT]) ?_
  refine zd2 (op_callF Try.func11 (by rfl) (by rfl) (.tmp (by rfl) .nil) (ofMap_ok _ _ (v.fields ++ [F.mk n0 x]) (by rw [List.map_append]; exact LL.own _ _ _) (by simp; omega))) rfl (by dsimp only [zS, zN, zH, zT]) ?_
  refine zd2 (op_stV (ofMapV (v.fields ++ [F.mk n0 x])) Sz26 (by rfl) (by rw [HS.up_blks, clH_blks]; exact push_at) (by first | exact VBl.z _ | exact VBl.v _ _) (by rfl)) rfl (by dsimp only [zS, zN, zH, zT]) ?_
  refine drun_end rfl ?_
  refine then_normal ?_
  refine aw_ret ?_
  refine retD1 rfl (resV _ Try.underlying26 (by rfl) Sz26 (by rfl) (setB_at (by rw [HS.up_blks, clH_blks]; exact push_at)) (by first | exact VBl.v _ _ | exact VBl.z _)) ?_
  exact ⟨by rw [withV, if_pos hk], (((clExt ((Ext.refl Hs).push _ _) _).upN (clNew ((Ext.refl Hs).push _ _) _) (clOk _ _)).1.setB (Nat.le_refl _))⟩
set_option maxRecDepth 100000 in
theorem del1_ok (Hs : HS) (f : F) (n0 : List UInt8) : ACalls Try.prog 47 [.d (.agg (fC f)), .elt [S n0]] Hs (Ret (.d (TF (f.name == n0))) Hs) := by
 refine acalls_of_aw Try.func47 rfl ?_
 refine aw_start (T' := [.d (.agg (fC f)), .elt [S n0], .un, .un, .un, .un, .un, .un]) rfl ?_
 refine aw_seq ?_
 refine aw_region ?_
 refine zst (op_box_elt (cs := [S f.name, I f.val.kind, TF f.val.yes, .v (.int .i64 f.val.num), S f.val.text, .lst 6 (f.val.list.map vD), .lst 7 (f.val.fields.map fD)]) (by rfl) (fD_cells7 f)) rfl (by dsimp only [zS, zN, zH, zT]) ?_
 refine zst (op_assign_const (by rfl)) rfl (by dsimp only [zS, zN, zH, zT]) ?_
 refine al_end rfl ?_
 refine then_normal ?_
 refine aw_seq ?_
 refine aw_region ?_
 refine zst (by first | exact op_fieldAddr_ptr Try.underlying30 rfl Sz9 (by rfl) (by rfl) | exact op_fieldAddr_elt Try.underlying30 rfl Sz9 (by rfl) (by rfl) (by rfl)) rfl (by dsimp only [zS, zN, zH, zT]) ?_
 refine zst (by first | exact op_load_elt Try.underlying9 (by rfl) (by rfl) (by rfl) | exact op_load_ptr Try.underlying9 (by rfl) (by rfl) (by rfl) (by rfl)) rfl (by dsimp only [zS, zN, zH, zT]) ?_
 refine zst (by first | exact op_load_elt Try.underlying9 (by rfl) (by rfl) (by rfl) | exact op_load_ptr Try.underlying9 (by rfl) (by rfl) (by rfl) (by rfl)) rfl (by dsimp only [zS, zN, zH, zT]) ?_
 refine zst (op_eqS (by rfl) (by rfl)) rfl (by dsimp only [zS, zN, zH, zT]) ?_
 refine zst (op_assign_tmp (by rfl)) rfl (by dsimp only [zS, zN, zH, zT]) ?_
 refine al_end rfl ?_
 refine then_normal ?_
 refine aw_ret ?_
 refine retPost1 rfl rfl ?_
 exact ⟨rfl, rfl⟩
set_option maxRecDepth 100000 in
theorem indexF_ok (Hs : HS) (id cap : Nat) (cs : List AV) (fs : List F) (n0 : List UInt8) (hb : Hs.blks[id]? = some ⟨30, cs, false⟩) (hc : cs.length = cap * 7) (hcap : fs.length ≤ cap) (hu : cs.take (fs.length * 7) = fcells fs) (hl : fs.length ≤ 1000000) : ACalls Try.prog 81 [.arr id fs.length cap, .fn (.func 47) [] [.elt [S n0]]] Hs (fun av H' => H' = Hs ∧ ∃ r : Int, av = .d (I r) ∧ IxR fs n0 r) := by
 refine acalls_of_aw Try.func81 rfl ?_
 refine aw_start (T' := [.arr id fs.length cap, .fn (.func 47) [] [.elt [S n0]], .un, .un, .un, .un, .un, .un, .un, .un, .un, .un, .un, .un, .un, .un, .un, .un, .un]) rfl ?_
 refine aw_seq ?_
 refine aw_region ?_
 refine zst (op_assign_const (by rfl)) rfl (by dsimp only [zS, zN, zH, zT]) ?_
 refine al_end rfl ?_
 refine then_normal ?_
 refine aw_seq ?_
 refine aw_seq ?_
 refine aw_region ?_
 refine zst (op_move_tmp (by rfl)) rfl (by dsimp only [zS, zN, zH, zT]) ?_
 refine zst (op_lenArr Try.underlying22 (by rfl)) rfl (by dsimp only [zS, zN, zH, zT]) ?_
 refine zst (op_move_const (by rfl)) rfl (by dsimp only [zS, zN, zH, zT]) ?_
 refine al_end rfl ?_
 refine then_normal ?_
 refine aw_block ?_
 apply aw_loopF (fun n T H => ∃ (k : Nat), T = [.arr id fs.length cap, .fn (.func 47) [] [.elt [S n0]], .un, .un, .un, .un, .un, .d (I fs.length), .d (I k), .un, .un, .un, .un, .un, .un, .un, .un, .un, .un] ∧ k ≤ fs.length ∧ n = fs.length - k ∧ (∀ x ∈ fs.take k, ¬ x.name = n0) ∧ Hs = H) (fs.length) [true, true, false, false, false, false, false, true, true, false, false, false, false, false, false, false, false, false, false]
 · (try dsimp only [maskT]); try exact rfl
 · rfl
 · exact ⟨0, rfl, by omega, rfl, by simp, rfl⟩
 rintro n T H ⟨k, rfl, hk, rfl, hn, rfl⟩
 refine aw_seq ?_
 refine aw_region ?_
 refine zst (op_ltI (by rfl) (by rfl)) rfl (by dsimp only [zS, zN, zH, zT]) ?_
 refine al_end rfl ?_
 refine then_normal ?_
 refine aw_seq ?_
 refine aw_cond rfl (fun hc1 => ?_) (fun hc1 => ?_)
 ·
  (try simp only [y1, y2, y3, y4, y5, y6, y7, y8, y9, y0, List.length_map] at hc1)
  (try simp only [List.length_map] at hc1)
  have hlt : k < fs.length := by omega
  obtain ⟨x, hx⟩ : ∃ z0, fs[k]? = some z0 := ⟨_, List.getElem?_eq_getElem hlt⟩
  refine aw_skip ?_
  refine then_normal ?_
  refine aw_seq ?_
  refine aw_block ?_
  refine aw_seq ?_
  refine aw_region ?_
  refine zst (op_move_tmp (by rfl)) rfl (by dsimp only [zS, zN, zH, zT]) ?_
  refine zst (op_assign_tmp (by rfl)) rfl (by dsimp only [zS, zN, zH, zT]) ?_
  refine al_end rfl ?_
  refine then_normal ?_
  refine aw_seq ?_
  refine aw_region ?_
  refine zst (op_move_tmp (by rfl)) rfl (by dsimp only [zS, zN, zH, zT]) ?_
  refine zst (op_move_tmp (by rfl)) rfl (by dsimp only [zS, zN, zH, zT]) ?_
  refine zst (op_move_tmp (by rfl)) rfl (by dsimp only [zS, zN, zH, zT]) ?_
  refine zst (op_indexArr Try.underlying22 Sz30 (by rfl) (by rfl) (by omega) (by omega) (by rfl)) rfl (by dsimp only [zS, zN, zH, zT]) ?_
  refine zst (op_loadFA x Try.underlying30 (by rfl) Sz30 (by rfl) hb (by show _ ≤ cs.length; omega) (cells_at hu hx)) rfl (by dsimp only [zS, zN, zH, zT]) ?_
  refine zst (op_callV (by rfl) Try.func47 (by rfl) (by rfl) (.tmp (by rfl) .nil) (del1_ok _ x n0)) rfl (by dsimp only [zS, zN, zH, zT]) ?_
  refine al_end rfl ?_
  refine then_normal ?_
  refine aw_cond rfl (fun hc2 => ?_) (fun hc2 => ?_)
  ·
   (try simp only [y1, y2, y3, y4, y5, y6, y7, y8, y9, y0, List.length_map] at hc2)
   have hne : x.name = n0 := hc2
   refine aw_seq ?_
   refine aw_region ?_
   refine zst (op_move_tmp (by rfl)) rfl (by dsimp only [zS, zN, zH, zT]) ?_
   refine zst (op_assign_tmp (by rfl)) rfl (by dsimp only [zS, zN, zH, zT]) ?_
   refine al_end rfl ?_
   refine then_normal ?_
   refine aw_ret ?_
   refine inBlock_ret (then_ret (again_ret (inBlock_ret (then_ret ?_))))
   refine retPost1 rfl rfl ?_
   exact ⟨rfl, _, rfl, .inr ⟨k, rfl, hlt, hn, x, hx, hne⟩⟩
  ·
   (try simp only [y1, y2, y3, y4, y5, y6, y7, y8, y9, y0, List.length_map] at hc2)
   have hne : ¬ x.name = n0 := hc2
   refine aw_skip ?_
   refine inBlock_normal (then_normal ?_)
   refine aw_region ?_
   refine zst (by first | exact op_add (by rfl) (by rfl) (wrap_i64 ⟨by omega, by omega⟩) | exact op_add (by rfl) (by rfl) (by rfl)) rfl (by dsimp only [zS, zN, zH, zT]) ?_
   refine zst (op_move_tmp (by rfl)) rfl (by dsimp only [zS, zN, zH, zT]) ?_
   refine al_end rfl ?_
   apply again_to (fs.length - (k + 1)) [true, true, false, false, false, false, false, true, true, false, false, false, false, false, false, false, false, false, false]
   · (try dsimp only [maskT]); try exact rfl
   · rfl
   · omega
   exact ⟨k + 1, rfl, by omega, rfl, by rw [take_snoc hx]; intro y hy; rcases List.mem_append.1 hy with hy | hy; exact hn y hy; simp at hy; subst hy; exact hne, rfl⟩
 ·
  (try simp only [y1, y2, y3, y4, y5, y6, y7, y8, y9, y0, List.length_map] at hc1)
  (try simp only [List.length_map] at hc1)
  have hje : k = fs.length := by omega
  subst hje
  refine aw_exit ?_
  refine then_exit (again_exit (inBlock_here (then_normal ?_)))
  refine aw_seq ?_
  refine aw_region ?_
  refine zst (op_assign_const (by rfl)) rfl (by dsimp only [zS, zN, zH, zT]) ?_
  refine al_end rfl ?_
  refine then_normal ?_
  refine aw_ret ?_
  refine retPost1 rfl rfl ?_
  exact ⟨rfl, _, rfl, .inl ⟨rfl, by rwa [List.take_length] at hn⟩⟩
set_option maxRecDepth 100000 in
theorem deleteF_ok (B Hs : HS) (id cap : Nat) (cs : List AV) (fs : List F) (n0 : List UInt8) (hx0 : Ext B Hs) (hid : B.nb ≤ id) (hb : Hs.blks[id]? = some ⟨30, cs, false⟩) (hc : cs.length = cap * 7) (hcap : fs.length ≤ cap) (hu : cs.take (fs.length * 7) = fcells fs) (hl : fs.length ≤ 1000000) : ACalls Try.prog 46 [.arr id fs.length cap, .fn (.func 47) [] [.elt [S n0]]] Hs (fun av H' => DelR B 30 id cap (delF fs n0) av H') := by
 refine acalls_of_aw Try.func46 rfl ?_
 refine aw_start (T' := [.arr id fs.length cap, .fn (.func 47) [] [.elt [S n0]], .un, .un, .un, .un, .un, .un, .un, .un, .un, .un, .un, .un, .un, .un, .un, .un, .un, .un, .un, .un, .un, .un, .un, .un, .un, .un, .un, .un, .un, .un, .un, .un, .un, .un, .un, .un, .un, .un, .un, .un]) rfl ?_
 refine aw_seq ?_
 refine aw_region ?_
 refine zst (op_assign_const (by rfl)) rfl (by dsimp only [zS, zN, zH, zT]) ?_
 refine al_end rfl ?_
 refine then_normal ?_
 refine aw_seq ?_
 refine aw_region ?_
 refine zst (op_move_tmp (by rfl)) rfl (by dsimp only [zS, zN, zH, zT]) ?_
 refine zst (op_move_tmp (by rfl)) rfl (by dsimp only [zS, zN, zH, zT]) ?_
 refine al_cons _ (op_callF Try.func81 (by rfl) (by rfl) (.tmp (by rfl) (.tmp (by rfl) .nil)) (indexF_ok Hs id cap cs fs n0 hb hc hcap hu hl)) rfl ?_
 rintro v2 H2 ⟨rfl, r, rfl, hr⟩
 apply al_normT
 · (try dsimp only [putT, List.set_cons_zero, List.set_cons_succ]); try exact rfl
 refine zst (op_assign_tmp (by rfl)) rfl (by dsimp only [zS, zN, zH, zT]) ?_
 refine al_end rfl ?_
 refine then_normal ?_
 refine aw_seq ?_
 refine aw_seq ?_
 refine aw_region ?_
 refine zst (op_move_tmp (by rfl)) rfl (by dsimp only [zS, zN, zH, zT]) ?_
 refine zst (op_eqI (by rfl) (by rfl)) rfl (by dsimp only [zS, zN, zH, zT]) ?_
 refine al_end rfl ?_
 refine then_normal ?_
 refine aw_cond rfl (fun hc1 => ?_) (fun hc1 => ?_)
 ·
  (try simp only [y1, y2, y3, y4, y5, y6, y7, y8, y9, y0, List.length_map] at hc1)
  have hr1 : r = -1 := hc1
  have hno : ∀ x ∈ fs, ¬ x.name = n0 := by rcases hr with ⟨_, h⟩ | ⟨i, e, _⟩; exact h; omega
  refine aw_seq ?_
  refine aw_region ?_
  refine zst (op_move_tmp (by rfl)) rfl (by dsimp only [zS, zN, zH, zT]) ?_
  refine zst (op_assign_tmp (by rfl)) rfl (by dsimp only [zS, zN, zH, zT]) ?_
  refine al_end rfl ?_
  refine then_normal ?_
  refine aw_ret ?_
  refine then_ret ?_
  refine retPost1 rfl rfl ?_
  exact ⟨⟨cs, by rw [delF_none hno], hb, hc, by rw [delF_none hno]; exact hcap, by rw [delF_none hno]; exact hu⟩, hx0⟩
 ·
  (try simp only [y1, y2, y3, y4, y5, y6, y7, y8, y9, y0, List.length_map] at hc1)
  have hr1 : ¬ r = -1 := hc1
  rcases hr with ⟨e, _⟩ | ⟨i0, rfl, hi, hno, x0, hxi, hn0⟩; exact absurd e hr1
  have hstart := Del.start hb hc hcap hu hx0 hid hi hno hxi hn0
  refine aw_skip ?_
  refine then_normal ?_
  refine aw_seq ?_
  refine aw_seq ?_
  refine aw_region ?_
  refine zst (op_move_tmp (by rfl)) rfl (by dsimp only [zS, zN, zH, zT]) ?_
  refine zst (by first | exact op_add (by rfl) (by rfl) (wrap_i64 ⟨by omega, by omega⟩) | exact op_add (by rfl) (by rfl) (by rfl)) rfl (by dsimp only [zS, zN, zH, zT]) ?_
  refine zst (op_assign_tmp (by rfl)) rfl (by dsimp only [zS, zN, zH, zT]) ?_
  refine al_end rfl ?_
  refine then_normal ?_
  refine aw_block ?_
  apply aw_loopF (fun n T H => ∃ (i : Nat) (j : Nat) (l : List F) (cs : List AV), T = [.arr id fs.length cap, .fn (.func 47) [] [.elt [S n0]], .un, .un, .un, .d (I i), .d (I j), .un, .un, .un, .un, .un, .un, .un, .un, .un, .un, .un, .un, .un, .un, .un, .un, .un, .un, .un, .un, .un, .un, .un, .un, .un, .un, .un, .un, .un, .un, .un, .un, .un, .un, .un] ∧ n = fs.length - j ∧ Del B 30 id cap fs n0 H i j l cs) (fs.length - (i0 + 1)) [true, true, false, false, false, true, true, false, false, false, false, false, false, false, false, false, false, false, false, false, false, false, false, false, false, false, false, false, false, false, false, false, false, false, false, false, false, false, false, false, false, false]
  · (try dsimp only [maskT]); try exact rfl
  · rfl
  · exact ⟨i0, i0 + 1, _, _, rfl, rfl, hstart⟩
  rintro n T H ⟨i, j, l, cs, rfl, rfl, hd⟩
  have hij := hd.ij
  have hjl := hd.jl
  refine aw_seq ?_
  refine aw_seq ?_
  refine aw_region ?_
  refine zst (op_move_tmp (by rfl)) rfl (by dsimp only [zS, zN, zH, zT]) ?_
  refine zst (op_move_tmp (by rfl)) rfl (by dsimp only [zS, zN, zH, zT]) ?_
  refine zst (op_lenArr Try.underlying22 (by rfl)) rfl (by dsimp only [zS, zN, zH, zT]) ?_
  refine zst (op_ltI (by rfl) (by rfl)) rfl (by dsimp only [zS, zN, zH, zT]) ?_
  refine al_end rfl ?_
  refine then_normal ?_
  refine aw_cond rfl (fun hc2 => ?_) (fun hc2 => ?_)
  ·
   (try simp only [y1, y2, y3, y4, y5, y6, y7, y8, y9, y0, List.length_map] at hc2)
   (try simp only [List.length_map] at hc2)
   have hlt : j < fs.length := by omega
   obtain ⟨x, hx⟩ : ∃ z0, fs[j]? = some z0 := ⟨_, List.getElem?_eq_getElem hlt⟩
   refine aw_skip ?_
   refine then_normal ?_
   refine aw_seq ?_
   refine aw_block ?_
   refine aw_seq ?_
   refine aw_region ?_
   refine zst (op_move_tmp (by rfl)) rfl (by dsimp only [zS, zN, zH, zT]) ?_
   refine zst (op_move_tmp (by rfl)) rfl (by dsimp only [zS, zN, zH, zT]) ?_
   refine zst (op_indexArr Try.underlying22 Sz30 (by rfl) (by rfl) (by omega) (by omega) (by rfl)) rfl (by dsimp only [zS, zN, zH, zT]) ?_
   refine zst (op_loadFA x Try.underlying30 (by rfl) Sz30 (by rfl) hd.b (by show _ ≤ cs.length; have := hd.c; have := hd.cap; omega) (cells_at hd.u (hd.at_ hx))) rfl (by dsimp only [zS, zN, zH, zT]) ?_
   refine zst (op_alloc (Zr30) (by rfl)) rfl (by dsimp only [zS, zN, zH, zT]) ?_
   refine zst (op_storeF (b' := f1 30 x) x Sz30 (by rfl) push_at (by rfl) (Nat.le_of_ble_eq_true rfl) (by rfl) (by unfold f1; rw [← fC7]; rfl)) rfl (by dsimp only [zS, zN, zH, zT]) ?_
   refine al_end rfl ?_
   refine then_normal ?_
   refine aw_seq ?_
   refine aw_region ?_
   refine zst (op_move_tmp (by rfl)) rfl (by dsimp only [zS, zN, zH, zT]) ?_
   refine zst (op_loadF 30 x Try.underlying30 (by rfl) Sz30 (by rfl) (setB_at push_at)) rfl (by dsimp only [zS, zN, zH, zT]) ?_
   refine zst (op_callV (by rfl) Try.func47 (by rfl) (by rfl) (.tmp (by rfl) .nil) (del1_ok _ x n0)) rfl (by dsimp only [zS, zN, zH, zT]) ?_
   refine zst (op_not (by rfl)) rfl (by dsimp only [zS, zN, zH, zT]) ?_
   refine al_end rfl ?_
   refine then_normal ?_
   refine aw_cond rfl (fun hc3 => ?_) (fun hc3 => ?_)
   ·
    (try simp only [y1, y2, y3, y4, y5, y6, y7, y8, y9, y0, List.length_map] at hc3)
    have hn : ¬ x.name = n0 := by simpa using hc3
    have hd2 := hd.push (e := 30) (z := [.d (S []), .d (I 0), .d (TF false), .d (.v (.int .i64 0)), .d (S []), nilS, nilS]) (b := f1 30 x)
    refine aw_seq ?_
    refine aw_region ?_
    refine zst (op_move_tmp (by rfl)) rfl (by dsimp only [zS, zN, zH, zT]) ?_
    refine zst (op_move_tmp (by rfl)) rfl (by dsimp only [zS, zN, zH, zT]) ?_
    refine zst (op_loadF 30 x Try.underlying30 (by rfl) Sz30 (by rfl) (setB_at push_at)) rfl (by dsimp only [zS, zN, zH, zT]) ?_
    refine zst (op_indexArr Try.underlying22 Sz30 (by rfl) (by rfl) (by omega) (by omega) (by rfl)) rfl (by dsimp only [zS, zN, zH, zT]) ?_
    refine zst (op_storeF (b' := ⟨30, putL cs (i * 7) ((fC x).map .d), false⟩) x Sz30 (by rfl) hd2.b (by rfl) (by show _ ≤ cs.length; have := hd2.c; have := hd2.cap; have := hd2.ij; omega) (by rfl) (by rfl)) rfl (by dsimp only [zS, zN, zH, zT]) ?_
    refine al_end rfl ?_
    refine then_normal ?_
    refine aw_region ?_
    refine zst (op_move_tmp (by rfl)) rfl (by dsimp only [zS, zN, zH, zT]) ?_
    refine zst (by first | exact op_add (by rfl) (by rfl) (wrap_i64 ⟨by omega, by omega⟩) | exact op_add (by rfl) (by rfl) (by rfl)) rfl (by dsimp only [zS, zN, zH, zT]) ?_
    refine zst (op_assign_tmp (by rfl)) rfl (by dsimp only [zS, zN, zH, zT]) ?_
    refine al_end rfl ?_
    refine inBlock_normal (then_normal ?_)
    refine aw_region ?_
    refine zst (op_move_tmp (by rfl)) rfl (by dsimp only [zS, zN, zH, zT]) ?_
    refine zst (by first | exact op_add (by rfl) (by rfl) (wrap_i64 ⟨by omega, by omega⟩) | exact op_add (by rfl) (by rfl) (by rfl)) rfl (by dsimp only [zS, zN, zH, zT]) ?_
    refine zst (op_assign_tmp (by rfl)) rfl (by dsimp only [zS, zN, zH, zT]) ?_
    refine al_end rfl ?_
    apply again_to (fs.length - (j + 1)) [true, true, false, false, false, true, true, false, false, false, false, false, false, false, false, false, false, false, false, false, false, false, false, false, false, false, false, false, false, false, false, false, false, false, false, false, false, false, false, false, false, false]
    · (try dsimp only [maskT]); try exact rfl
    · rfl
    · omega
    exact ⟨i + 1, j + 1, _, _, rfl, rfl, hd2.move hx hn⟩
   ·
    (try simp only [y1, y2, y3, y4, y5, y6, y7, y8, y9, y0, List.length_map] at hc3)
    have hn : x.name = n0 := by simpa using hc3
    refine aw_skip ?_
    refine inBlock_normal (then_normal ?_)
    refine aw_region ?_
    refine zst (op_move_tmp (by rfl)) rfl (by dsimp only [zS, zN, zH, zT]) ?_
    refine zst (by first | exact op_add (by rfl) (by rfl) (wrap_i64 ⟨by omega, by omega⟩) | exact op_add (by rfl) (by rfl) (by rfl)) rfl (by dsimp only [zS, zN, zH, zT]) ?_
    refine zst (op_assign_tmp (by rfl)) rfl (by dsimp only [zS, zN, zH, zT]) ?_
    refine al_end rfl ?_
    apply again_to (fs.length - (j + 1)) [true, true, false, false, false, true, true, false, false, false, false, false, false, false, false, false, false, false, false, false, false, false, false, false, false, false, false, false, false, false, false, false, false, false, false, false, false, false, false, false, false, false]
    · (try dsimp only [maskT]); try exact rfl
    · rfl
    · omega
    exact ⟨i, j + 1, _, _, rfl, rfl, hd.push.skip hx hn⟩
  ·
   (try simp only [y1, y2, y3, y4, y5, y6, y7, y8, y9, y0, List.length_map] at hc2)
   (try simp only [List.length_map] at hc2)
   have hje : j = fs.length := by omega
   subst hje
   refine aw_exit ?_
   refine then_exit (again_exit (inBlock_here (then_normal ?_)))
   refine aw_seq ?_
   refine aw_region ?_
   refine zst (op_move_tmp (by rfl)) rfl (by dsimp only [zS, zN, zH, zT]) ?_
   refine zst (op_move_tmp (by rfl)) rfl (by dsimp only [zS, zN, zH, zT]) ?_
   refine zst (op_sliceArr1 (m := i) (off := i * 7) (n' := fs.length - i) (cap' := cap - i) Try.underlying22 Sz30 (by rfl) (by rfl) (by omega) (by omega) (by have := hd.cap; omega) (by omega) (by rfl) (by omega) (by rfl)) rfl (by dsimp only [zS, zN, zH, zT]) ?_
   refine zst (op_clear Try.underlying22 ZS30 (by rfl) (by decide) (by decide) (by rfl) hd.b (by omega) (by show _ ≤ cs.length; have := hd.c; have := hd.cap; omega) (by rfl)) rfl (by dsimp only [zS, zN, zH, zT]) ?_
   refine al_end rfl ?_
   refine then_normal ?_
   refine aw_seq ?_
   refine aw_region ?_
   refine zst (op_move_tmp (by rfl)) rfl (by dsimp only [zS, zN, zH, zT]) ?_
   refine zst (op_move_tmp (by rfl)) rfl (by dsimp only [zS, zN, zH, zT]) ?_
   refine zst (op_sliceArr0 Try.underlying22 Sz30 (by rfl) (by rfl) (by omega) (by have := hd.cap; omega) (by rfl)) rfl (by dsimp only [zS, zN, zH, zT]) ?_
   refine zst (op_assign_tmp (by rfl)) rfl (by dsimp only [zS, zN, zH, zT]) ?_
   refine al_end rfl ?_
   refine then_normal ?_
   refine aw_ret ?_
   refine retPost1 rfl rfl ?_
   exact hd.stop (by omega)
end Go.Proofs.Ytjbpfnoibeogbaa
namespace Go.Proofs.Ytjbpfnoibeogbaa
open Go.AV Go.AV.Ord Go.AV.Oct Go.AV.Val Go.AV.Patch
set_option linter.unusedVariables false
set_option linter.unusedSimpArgs false
set_option maxRecDepth 100000 in
theorem index0_ok (Hs : HS) (n0 : List UInt8) : ACalls Try.prog 81 [.own none 7 [], .fn (.func 47) [] [.elt [S n0]]] Hs (Ret (.d (I (-1))) Hs) := by
 refine acalls_of_aw Try.func81 rfl ?_
 refine aw_start (T' := [.own none 7 [], .fn (.func 47) [] [.elt [S n0]], .un, .un, .un, .un, .un, .un, .un, .un, .un, .un, .un, .un, .un, .un, .un, .un, .un]) rfl ?_
 refine aw_seq ?_
 refine aw_region ?_
 refine zst (op_assign_const (by rfl)) rfl (by dsimp only [zS, zN, zH, zT]) ?_
 refine al_end rfl ?_
 refine then_normal ?_
 refine aw_seq ?_
 refine aw_seq ?_
 refine aw_region ?_
 refine zst (op_move_tmp (by rfl)) rfl (by dsimp only [zS, zN, zH, zT]) ?_
 refine zst (op_lenL Try.underlying22 (LL.own _ _ _)) rfl (by dsimp only [zS, zN, zH, zT]) ?_
 refine zst (op_move_const (by rfl)) rfl (by dsimp only [zS, zN, zH, zT]) ?_
 refine al_end rfl ?_
 refine then_normal ?_
 refine aw_block ?_
 apply aw_loopF (fun n T H => ∃ (k : Nat), T = [.own none 7 [], .fn (.func 47) [] [.elt [S n0]], .un, .un, .un, .un, .un, .d (I ([] : List DV).length), .d (I 0), .un, .un, .un, .un, .un, .un, .un, .un, .un, .un] ∧ Hs = H) (0) [true, true, false, false, false, false, false, true, true, false, false, false, false, false, false, false, false, false, false]
 · (try dsimp only [maskT]); try exact rfl
 · rfl
 · exact ⟨0, rfl, rfl⟩
 rintro n T H ⟨k, rfl, rfl⟩
 refine aw_seq ?_
 refine aw_region ?_
 refine zst (op_ltI (by rfl) (by rfl)) rfl (by dsimp only [zS, zN, zH, zT]) ?_
 refine al_end rfl ?_
 refine then_normal ?_
 refine aw_seq ?_
 refine aw_cond rfl (fun hc1 => ?_) (fun hc1 => ?_)
 ·
  (try simp only [y1, y2, y3, y4, y5, y6, y7, y8, y9, y0, List.length_map] at hc1)
  exact absurd hc1 (by simp)
 ·
  (try simp only [y1, y2, y3, y4, y5, y6, y7, y8, y9, y0, List.length_map] at hc1)
  refine aw_exit ?_
  refine then_exit (again_exit (inBlock_here (then_normal ?_)))
  refine aw_seq ?_
  refine aw_region ?_
  refine zst (op_assign_const (by rfl)) rfl (by dsimp only [zS, zN, zH, zT]) ?_
  refine al_end rfl ?_
  refine then_normal ?_
  refine aw_ret ?_
  refine retPost1 rfl rfl ?_
  exact ⟨rfl, rfl⟩
set_option maxRecDepth 100000 in
theorem delete0_ok (Hs : HS) (n0 : List UInt8) : ACalls Try.prog 46 [.own none 7 [], .fn (.func 47) [] [.elt [S n0]]] Hs (Ret (.own none 7 []) Hs) := by
 refine acalls_of_aw Try.func46 rfl ?_
 refine aw_start (T' := [.own none 7 [], .fn (.func 47) [] [.elt [S n0]], .un, .un, .un, .un, .un, .un, .un, .un, .un, .un, .un, .un, .un, .un, .un, .un, .un, .un, .un, .un, .un, .un, .un, .un, .un, .un, .un, .un, .un, .un, .un, .un, .un, .un, .un, .un, .un, .un, .un, .un]) rfl ?_
 refine aw_seq ?_
 refine aw_region ?_
 refine zst (op_assign_const (by rfl)) rfl (by dsimp only [zS, zN, zH, zT]) ?_
 refine al_end rfl ?_
 refine then_normal ?_
 refine aw_seq ?_
 refine aw_region ?_
 refine zst (op_move_tmp (by rfl)) rfl (by dsimp only [zS, zN, zH, zT]) ?_
 refine zst (op_move_tmp (by rfl)) rfl (by dsimp only [zS, zN, zH, zT]) ?_
 refine zst (op_callF Try.func81 (by rfl) (by rfl) (.tmp (by rfl) (.tmp (by rfl) .nil)) (index0_ok _ n0)) rfl (by dsimp only [zS, zN, zH, zT]) ?_
 refine zst (op_assign_tmp (by rfl)) rfl (by dsimp only [zS, zN, zH, zT]) ?_
 refine al_end rfl ?_
 refine then_normal ?_
 refine aw_seq ?_
 refine aw_seq ?_
 refine aw_region ?_
 refine zst (op_move_tmp (by rfl)) rfl (by dsimp only [zS, zN, zH, zT]) ?_
 refine zst (op_eqI (by rfl) (by rfl)) rfl (by dsimp only [zS, zN, zH, zT]) ?_
 refine al_end rfl ?_
 refine then_normal ?_
 refine aw_cond rfl (fun hc1 => ?_) (fun hc1 => ?_)
 ·
  (try simp only [y1, y2, y3, y4, y5, y6, y7, y8, y9, y0, List.length_map] at hc1)
  refine aw_seq ?_
  refine aw_region ?_
  refine zst (op_move_tmp (by rfl)) rfl (by dsimp only [zS, zN, zH, zT]) ?_
  refine zst (op_assign_tmp (by rfl)) rfl (by dsimp only [zS, zN, zH, zT]) ?_
  refine al_end rfl ?_
  refine then_normal ?_
  refine aw_ret ?_
  refine then_ret ?_
  refine retPost1 rfl rfl ?_
  exact ⟨rfl, rfl⟩
 ·
  (try simp only [y1, y2, y3, y4, y5, y6, y7, y8, y9, y0, List.length_map] at hc1)
  exact absurd trivial hc1
set_option maxRecDepth 100000 in
theorem without_none (Hs : HS) (k : Int) (y : Bool) (i : Int) (tx : List UInt8) (ls : List V) (fs : List F) (n0 : List UInt8) (hfs : fs = []) : ACalls Try.prog 15 [.d (.agg (v6D k y i tx ls fs)), .d (S n0)] Hs (Ret (.d (.agg (vC (withoutV (.mk k y i tx ls fs) n0)))) Hs) := by
 refine ACalls.tidyP (vC_one _) ?_
 refine acalls_of_awC Try.func15 rfl ?_
 refine aw_start (T' := [.d (.agg (v6D k y i tx ls fs)), .d (S n0), .un, .un, .un, .un, .un, .un, .un, .un, .un, .un]) rfl ?_
 refine aw_seq ?_
 refine aw_region ?_
 refine zst (op_box_ptr (cs := (v6D k y i tx ls fs).map .d) (by intro h; cases h) (by rfl)) rfl (by dsimp only [zS, zN, zH, zT]) ?_
 refine zst (op_box_elt (by rfl) (by rfl)) rfl (by dsimp only [zS, zN, zH, zT]) ?_
 refine zst (op_alloc (Zr26) (by rfl)) rfl (by dsimp only [zS, zN, zH, zT]) ?_
 refine al_end rfl ?_
 refine then_normal ?_
 refine aw_seq ?_
 refine aw_region ?_
 refine zst (by first | exact op_fieldAddr_ptr Try.underlying26 rfl Sz22 (by rfl) (by rfl) | exact op_fieldAddr_elt Try.underlying26 rfl Sz22 (by rfl) (by rfl) (by rfl)) rfl (by dsimp only [zS, zN, zH, zT]) ?_
 refine zst (op_load_ptr Try.underlying22 (by rfl) (by rfl) (push_ne push_at) (by rfl)) rfl (by dsimp only [zS, zN, zH, zT]) ?_
 refine zst (op_callF Try.func45 (by rfl) (by rfl) (.tmp (by rfl) .nil) ((by have h := clone_none ((Hs.push 26 ((v6D k y i tx ls fs).map .d)).push 26 [.d (I 0), .d (TF false), .d (.v (.int .i64 0)), .d (S []), nilS, nilS]) (.d (.lst 7 (fs.map fD))) (by rw [hfs]; exact LL.d _ _); exact h))) rfl (by dsimp only [zS, zN, zH, zT]) ?_
 refine zst (op_makeFn .nil (.tmp (by rfl) .nil)) rfl (by dsimp only [zS, zN, zH, zT]) ?_
 refine zst (op_callF Try.func46 (by rfl) (by rfl) (.tmp (by rfl) (.tmp (by rfl) .nil)) (delete0_ok _ n0)) rfl (by dsimp only [zS, zN, zH, zT]) ?_
 refine zst (by first | exact op_fieldAddr_ptr Try.underlying26 rfl Sz22 (by rfl) (by rfl) | exact op_fieldAddr_elt Try.underlying26 rfl Sz22 (by rfl) (by rfl) (by rfl)) rfl (by dsimp only [zS, zN, zH, zT]) ?_
 refine zst (op_storeB (vs := [(.own none 7 [])]) (b' := (vBlk 26 k y i tx (.d (.lst 6 (ls.map vD))) (.own none 7 []))) (H' := _) Sz22 (by rfl) (push_ne push_at) (by intro h; cases h) (by rfl) (by rfl) (Nat.le_of_ble_eq_true rfl) (by simp [AV.one, DV.one]) (by rfl) (by rfl) rfl) rfl (by dsimp only [zS, zN, zH, zT]) ?_
 refine al_end rfl ?_
 refine then_normal ?_
 refine aw_seq ?_
 refine aw_region ?_
 refine zst (op_load_ptrs Try.underlying26 (by rfl) Sz26 (by rfl) (setB_at (push_ne push_at)) (Nat.le_of_ble_eq_true rfl) (by rfl)) rfl (by dsimp only [zS, zN, zH, zT]) ?_
 refine zst (op_storeB (vs := (vs6 k y i tx (.d (.lst 6 (ls.map vD))) (.own none 7 []))) (b' := (vBlk 26 k y i tx (.d (.lst 6 (ls.map vD))) (.own none 7 []))) (H' := _) Sz26 (by rfl) (by rw [setB_ne (by simp only [push_nb, ne_eq]; omega)]; have h := push_at (H := Hs.push 26 ((v6D k y i tx ls fs).map .d)) (e := 26) (cs := [.d (I 0), .d (TF false), .d (.v (.int .i64 0)), .d (S []), nilS, nilS]); exact h) (by intro h; cases h) (by rfl) (by rfl) (Nat.le_of_ble_eq_true rfl) (by simp [AV.one, DV.one, TF, S, I, BY]) (by rfl) (by rfl) rfl) rfl (by dsimp only [zS, zN, zH, zT]) ?_
 refine al_end rfl ?_
 refine then_normal ?_
 refine aw_ret ?_
 refine retC1 rfl (.cells Try.underlying26 (by rfl) Sz26 (by rfl) (setB_at (by rw [setB_ne (by simp only [push_nb, ne_eq]; omega)]; have h := push_at (H := Hs.push 26 ((v6D k y i tx ls fs).map .d)) (e := 26) (cs := [.d (I 0), .d (TF false), .d (.v (.int .i64 0)), .d (S []), nilS, nilS]); exact h)) (Nat.le_of_ble_eq_true rfl) (by rfl)) ?_
 exact ⟨((((Ext.refl Hs).push _ _).push _ _).setB (Nat.le_refl _)).setB (by rw [push_nb]; omega), _, rfl, .inl (by rw [hfs]; exact weak6 (Weak.refl _) (Weak.lst (App.own _ _ _)))⟩
set_option maxRecDepth 100000 in
theorem without_some (Hs : HS) (k : Int) (y : Bool) (i : Int) (tx : List UInt8) (ls : List V) (fs : List F) (n0 : List UInt8) (h0 : fs ≠ []) (hl : fs.length ≤ 1000000) : ACalls Try.prog 15 [.d (.agg (v6D k y i tx ls fs)), .d (S n0)] Hs (Ret (.d (.agg (vC (withoutV (.mk k y i tx ls fs) n0)))) Hs) := by
 refine ACalls.tidyP (vC_one _) ?_
 refine acalls_of_awC Try.func15 rfl ?_
 refine aw_start (T' := [.d (.agg (v6D k y i tx ls fs)), .d (S n0), .un, .un, .un, .un, .un, .un, .un, .un, .un, .un]) rfl ?_
 refine aw_seq ?_
 refine aw_region ?_
 refine zst (op_box_ptr (cs := (v6D k y i tx ls fs).map .d) (by intro h; cases h) (by rfl)) rfl (by dsimp only [zS, zN, zH, zT]) ?_
 refine zst (op_box_elt (by rfl) (by rfl)) rfl (by dsimp only [zS, zN, zH, zT]) ?_
 refine zst (op_alloc (Zr26) (by rfl)) rfl (by dsimp only [zS, zN, zH, zT]) ?_
 refine al_end rfl ?_
 refine then_normal ?_
 refine aw_seq ?_
 refine aw_region ?_
 refine zst (by first | exact op_fieldAddr_ptr Try.underlying26 rfl Sz22 (by rfl) (by rfl) | exact op_fieldAddr_elt Try.underlying26 rfl Sz22 (by rfl) (by rfl) (by rfl)) rfl (by dsimp only [zS, zN, zH, zT]) ?_
 refine zst (op_load_ptr Try.underlying22 (by rfl) (by rfl) (push_ne push_at) (by rfl)) rfl (by dsimp only [zS, zN, zH, zT]) ?_
 refine al_cons _ (op_callF Try.func45 (by rfl) (by rfl) (.tmp (by rfl) .nil) (clone_arr _ _ fs (LL.d _ _) h0 hl)) rfl ?_
 rintro v2 H2 ⟨hA, hX, id, m, cap, rfl, hid⟩
 rcases hA with _ | ⟨_, _, _, cs, _, hb, hc, hcap, hu⟩
 simp only [push_nb] at hid
 apply al_normT
 · (try dsimp only [putT, List.set_cons_zero, List.set_cons_succ]); try exact rfl
 refine zst (op_makeFn .nil (.tmp (by rfl) .nil)) rfl (by dsimp only [zS, zN, zH, zT]) ?_
 refine al_cons _ (op_callF Try.func46 (by rfl) (by rfl) (.tmp (by rfl) (.tmp (by rfl) .nil)) (deleteF_ok _ _ id cap cs fs n0 hX (by simp only [push_nb]; omega) hb hc hcap hu hl)) rfl ?_
 rintro v3 H3 ⟨⟨cs3, rfl, hb3, hc3, hcap3, hu3⟩, hX3⟩
 have hb1 : H3.blks[Hs.nb]? = some (vBlk 26 k y i tx (.d (.lst 6 (ls.map vD))) (.d (.lst 7 (fs.map fD)))) := hX3.at (push_ne push_at)
 have hb2 : H3.blks[Hs.nb + 1]? = some (vBlk 26 0 false 0 [] nilS nilS) := hX3.at (by have h := push_at (H := Hs.push 26 ((v6D k y i tx ls fs).map .d)) (e := 26) (cs := [.d (I 0), .d (TF false), .d (.v (.int .i64 0)), .d (S []), nilS, nilS]); rw [push_nb] at h; exact h)
 apply al_normT
 · (try dsimp only [putT, List.set_cons_zero, List.set_cons_succ]); try exact rfl
 refine zst (by first | exact op_fieldAddr_ptr Try.underlying26 rfl Sz22 (by rfl) (by rfl) | exact op_fieldAddr_elt Try.underlying26 rfl Sz22 (by rfl) (by rfl) (by rfl)) rfl (by dsimp only [zS, zN, zH, zT]) ?_
 refine zst (op_storeB (vs := [(.arr id (delF fs n0).length cap)]) (b' := (vBlk 26 k y i tx (.d (.lst 6 (ls.map vD))) (.arr id (delF fs n0).length cap))) (H' := _) Sz22 (by rfl) hb1 (by intro h; cases h) (by rfl) (by rfl) (Nat.le_of_ble_eq_true rfl) (by simp [AV.one, DV.one]) (by rfl) (by rfl) rfl) rfl (by dsimp only [zS, zN, zH, zT]) ?_
 refine al_end rfl ?_
 refine then_normal ?_
 refine aw_seq ?_
 refine aw_region ?_
 refine zst (op_load_ptrs Try.underlying26 (by rfl) Sz26 (by rfl) (setB_at hb1) (Nat.le_of_ble_eq_true rfl) (by rfl)) rfl (by dsimp only [zS, zN, zH, zT]) ?_
 refine zst (op_storeB (vs := (vs6 k y i tx (.d (.lst 6 (ls.map vD))) (.arr id (delF fs n0).length cap))) (b' := (vBlk 26 k y i tx (.d (.lst 6 (ls.map vD))) (.arr id (delF fs n0).length cap))) (H' := _) Sz26 (by rfl) (by rw [push_nb, setB_ne (by omega)]; exact hb2) (by intro h; cases h) (by rfl) (by rfl) (Nat.le_of_ble_eq_true rfl) (by simp [AV.one, DV.one, TF, S, I, BY]) (by rfl) (by rfl) rfl) rfl (by dsimp only [zS, zN, zH, zT]) ?_
 refine al_end rfl ?_
 refine then_normal ?_
 refine aw_ret ?_
 refine retC1 rfl (.cells Try.underlying26 (by rfl) Sz26 (by rfl) (setB_at (by rw [push_nb, setB_ne (by omega)]; exact hb2)) (Nat.le_of_ble_eq_true rfl) (by rfl)) ?_
 refine ⟨((((((Ext.refl Hs).push _ _).push _ _).trans hX3).setB (Nat.le_refl _)).setB (by rw [push_nb]; omega)), _, rfl, .inr ⟨id, _, cap, 7, (delF fs n0).map fD, _, by omega, by rw [push_nb, setB_ne (by omega), setB_ne (by omega)]; exact hb3, by rw [flat_length (fsz _), List.length_map]; exact hu3, by rw [flat_length (fsz _), List.length_map]; show _ ≤ cs3.length; omega, List.length_map _, hcap3, fsz _, fone _, becomes_without⟩⟩
theorem without_ok (Hs : HS) (v : V) (n0 : List UInt8) (hl : v.fields.length ≤ 1000000) : ACalls Try.prog 15 [.d (.agg (vC v)), .d (S n0)] Hs (Ret (.d (.agg (vC (withoutV v n0)))) Hs) := by
  obtain ⟨k, y, i, tx, ls, fs, rfl⟩ : ∃ k y n t l fs, v = .mk k y n t l fs := ⟨_, _, _, _, _, _, v.eta⟩
  rw [v6D_eq]
  by_cases h : fs = []
  · exact without_none Hs k y i tx ls fs n0 h
  · exact without_some Hs k y i tx ls fs n0 h hl
end Go.Proofs.Ytjbpfnoibeogbaa
