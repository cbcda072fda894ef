/-
  The AV logic, part 12: lists that are written in place (exact blocks of their own), and what a strings.Builder meets.
-/
import Derived.Test.YtjamnhofbkgblaaA11
import Derived.Lib.Builder
import Derived.Lib.UnsafeStr
import Derived.Laws.Externs
namespace Go.AV
open Go.RowKit

/-- What is appended to in an exact block of its own: the cells in use. -/
inductive Arr (H : HS) (e : TypeId) (sz : Nat) : AV → Nat → List AV → Prop
  | nil : Arr H e sz nilS 0 []
  | arr (id n cap : Nat) (cs us : List AV) (hb : H.blks[id]? = some ⟨e, cs, false⟩) (hc : cs.length = cap * sz) (hn : n ≤ cap) (hu : cs.take (n * sz) = us) : Arr H e sz (.arr id n cap) n us
/-- All blocks are as they were, but one. -/
structure Kept (H H' : HS) (v : AV) : Prop where
  toks : H'.toks = H.toks
  nb : H.nb ≤ H'.nb
  blks : ∀ j, j < H.nb → (∀ n cap, v ≠ .arr j n cap) → H'.blks[j]? = H.blks[j]?

theorem putL_take (vs cs : List AV) (k : Nat) (h : k + vs.length ≤ cs.length) : (putL cs k vs).take (k + vs.length) = cs.take k ++ vs := by
  apply List.ext_getElem?
  intro j
  rw [List.getElem?_take]
  by_cases hj : j < k + vs.length
  · rw [if_pos hj, putL_get _ _ _ _ h]
    by_cases hk : k ≤ j
    · rw [if_pos ⟨hk, hj⟩, List.getElem?_append_right (by simp; omega)]
      congr 1
      simp
      omega
    · rw [if_neg (by omega), List.getElem?_append_left (by simp; omega), List.getElem?_take, if_pos (by omega)]
  · rw [if_neg hj, List.getElem?_eq_none (by simp; omega)]

section
variable {P : Program} {E : Operand → AV} {H : HS} {R : AV → HS → Prop} {dst : Option Tmp} {ty : TypeId} {pos : String} {after : Array Edge} {gd : Option (Nat × Bool)}

end
/-- What is appended: a list, or an exact block's elements. -/
inductive AddsX (P : Program) (tx : TypeId) (H : HS) : AV → Nat → List DV → Prop
  | adds {v : AV} {sz : Nat} {ys : List DV} (h : Adds P tx v sz ys) : AddsX P tx H v sz ys
  | arr {id n cap sz : Nat} {ys : List DV} {e' : TypeId} {b : HB} (ht : P.underlying tx = some (.slice e')) (hb : H.blks[id]? = some b) (hn : ys.length = n) (hv : b.cs.take (n * sz) = (flat ys).map .d) (hl : n * sz ≤ b.cs.length) (hy : ∀ y ∈ ys, y.cells.length = sz) (h1 : ∀ d ∈ flat ys, d.one = true) : AddsX P tx H (.arr id n cap) sz ys
theorem AddsX.src {P : Program} {B : Nat} {w0 w : World} {c : Ctx} {H : HS} (hI : Inv B w0 c H w) {tx : TypeId} {v : AV} {sz : Nat} {ys : List DV} (h : AddsX P tx H v sz ys) {x : Value} (hr : Rep c x v) :
    ∃ news : List Value, Src P tx x w sz ys.length news ∧ news.length = ys.length * sz ∧ news.length = (flat ys).length ∧ (∀ y ∈ ys, y.cells.length = sz) ∧ (∀ y ∈ flat ys, y.one = true) ∧ (∀ u ∈ news, u.oneCell' = true) ∧
      ∀ i (hi : i < news.length) (hi' : i < (flat ys).length), RepD c.mem news[i] (flat ys)[i] := by
  cases h with
  | adds h => exact h.src hI hr
  | @arr id n cap _ _ e' b ht hb hn hv hl hy h1 =>
    subst hn
    generalize ha : AV.arr id ys.length cap = v at hr
    cases hr with
    | arr _ _ _ g hg =>
      cases ha
      obtain ⟨p1, p2, cur, fr, p3, p4, p5, p6⟩ := hI.blk id g b hg hb
      have p4' : cur.size = b.cs.length := p4
      have hfl := flat_length hy
      have hul : (cur.toList.take (ys.length * sz)).length = ys.length * sz := by
        have hcl : cur.toList.length = cur.size := Array.length_toList
        rw [List.length_take]; omega
      have hrep : ∀ i (hi : i < (cur.toList.take (ys.length * sz)).length) (hi' : i < (flat ys).length), Rep c (cur.toList.take (ys.length * sz))[i] (.d (flat ys)[i]) := by
        intro i hi hi'
        have h3 : i < b.cs.length := by omega
        have h4 := p6 i h3
        have h5 : (.d (flat ys)[i] : AV) = b.cs[i]'h3 := by
          have : ((flat ys).map AV.d)[i]? = (b.cs.take (ys.length * sz))[i]? := by rw [hv]
          rw [List.getElem?_map, List.getElem?_eq_getElem hi', List.getElem?_take, if_pos (by omega), List.getElem?_eq_getElem h3] at this
          exact Option.some.inj this
        have h6 : (cur.toList.take (ys.length * sz))[i] = cur.getD i undef := by
          have : i < cur.size := by omega
          simp [this]
        rw [h5, h6]; exact h4
      refine ⟨cur.toList.take (ys.length * sz), ⟨.inr ⟨e', ht⟩, fun w' => by simp [Builtin.lenOf], fun w' hw' => ?_⟩, hul, by rw [hul, hfl], hy, h1, fun u hu => ?_, fun i hi hi' => ?_⟩
      · refine firstCells_of hul (fun j u hu => ?_) w' hw'
        rw [List.getElem?_take] at hu
        split at hu
        · simp only [World.cell?, p3]
          simpa using hu
        · cases hu
      · obtain ⟨j, hj, rfl⟩ := List.getElem_of_mem hu
        have hj' : j < (flat ys).length := by omega
        exact (hrep j hj hj').one (by
          have := h1 _ (List.getElem_mem hj')
          exact this)
      · exact (hrep i hi hi').d_inv
    | _ => cases ha
section
variable {P : Program} {E : Operand → AV} {H : HS} {R : AV → HS → Prop} {dst : Option Tmp} {ty : TypeId} {pos : String} {after : Array Edge} {gd : Option (Nat × Bool)}
/-- append onto a list in an exact block of its own. -/
theorem op_append_arrX {x y : Operand} {t' tx e : TypeId} {z : Value} {sz bytes n : Nat} {us : List AV} {ys : List DV} (ht : P.underlying t' = some (.slice e)) (hi : tInfo P e z sz bytes) (hzs : z.cells.size = sz) (hx : Arr H e sz (E x) n us) (hy : AddsX P tx H (E y) sz ys)
    (hne : 0 < ys.length) (hb : (n + ys.length) * bytes ≤ 140737488355328) (hn : n + ys.length ≤ 140737488355328) :
    OpR P ⟨dst, .call ⟨.builtin .append, #[x, y], #[t', tx]⟩, ty, pos, after, gd⟩ E H (fun av H' => Arr H' e sz av (n + ys.length) (us ++ (flat ys).map .d) ∧ Kept H H' (E x) ∧ ∃ id m cap, av = .arr id m cap ∧ (E x = nilS → H.nb ≤ id) ∧ ∀ j n cap, E x = .arr j n cap → id = j ∨ H.nb ≤ id) :=
  opR_value fun B w0 c w a hI hops => by
    have q1 := hops x (by simp [Op.operands, Call.operands])
    have q2 := hops y (by simp [Op.operands, Call.operands])
    obtain ⟨news, hsrc, hnl, hnf, hys, hy1, hone, hyr⟩ := hy.src hI q2
    have hfy := flat_length hys
    have hrun : ∀ r, (Builtin.append_ #[t', tx] ty #[a.eval x, a.eval y]).run P w = r → (execOp a.eval ⟨dst, .call ⟨.builtin .append, #[x, y], #[t', tx]⟩, ty, pos, after, gd⟩).run P w = r.andThen fun v w => .ok (.value v) w := by
      intro r hr
      simp [execOp, resolve, invoke, builtin, hr]
    have grow : ∀ (base : Option Addr) (cap : Nat) (olds : List Value), a.eval x = .slice base n cap → cap < n + ys.length → olds.length = n * sz → us.length = n * sz →
        (∀ i (hi : i < olds.length) (hi' : i < us.length), Rep c olds[i] us[i]) → (∀ w', w'.heap = w.heap → (Builtin.firstCells sz n (.slice base n cap)).run P w' = .ok olds.toArray w') →
        ∃ v' w' c' av H', (execOp a.eval ⟨dst, .call ⟨.builtin .append, #[x, y], #[t', tx]⟩, ty, pos, after, gd⟩).run P w = .ok (.value v') w' ∧ Le c c' ∧ Rep c' v' av ∧ Inv B w0 c' H' w' ∧
          (Arr H' e sz av (n + ys.length) (us ++ (flat ys).map .d) ∧ Kept H H' (E x) ∧ ∃ id m cap, av = .arr id m cap ∧ (E x = nilS → H.nb ≤ id) ∧ ∀ j n cap, E x = .arr j n cap → id = j ∨ H.nb ≤ id) := by
      intro base cap olds hev hcap hol hul hxr hold
      have hr := run_app_grow w t' tx ty e z sz bytes ht hi (a.eval y) ys.length news hsrc base n cap olds hold hcap hb hn
      rw [← hev] at hr
      have hge := grownCap_ge w (n + ys.length) cap e
      generalize grownCap w (n + ys.length) cap e = ncap at hr hge
      have hsize : (olds.toArray ++ (news.toArray ++ Builtin.zeroCells z.cells (ncap - (n + ys.length)))).size = (us ++ (flat ys).map AV.d ++ List.replicate ((ncap - (n + ys.length)) * sz) AV.un).length := by
        simp only [Array.size_append, List.size_toArray, size_zeroCells, hzs, hol, hnl, List.length_append, List.length_map, List.length_replicate, hul, hfy]
        omega
      have hlen : (us ++ (flat ys).map AV.d ++ List.replicate ((ncap - (n + ys.length)) * sz) AV.un).length = ncap * sz := by
        simp only [List.length_append, List.length_map, List.length_replicate, hul, hfy, ← Nat.add_mul]
        congr 1
        omega
      obtain ⟨i1, l1⟩ := hI.drew.allocBlk (olds.toArray ++ (news.toArray ++ Builtin.zeroCells z.cells (ncap - (n + ys.length)))) e (us ++ (flat ys).map AV.d ++ List.replicate ((ncap - (n + ys.length)) * sz) AV.un) hsize (fun j hj => by
        have e1 : (olds.toArray ++ (news.toArray ++ Builtin.zeroCells z.cells (ncap - (n + ys.length)))).getD j undef = (((olds ++ news) ++ (Builtin.zeroCells z.cells (ncap - (n + ys.length))).toList)[j]?).getD undef := by
          rw [Array.getD_eq_getD_getElem?, ← Array.getElem?_toList]
          simp
        rw [e1]
        by_cases h1 : j < (us ++ (flat ys).map AV.d).length
        · rw [List.getElem_append_left h1]
          have h1' : j < (olds ++ news).length := by
            simp only [List.length_append, List.length_map, hol, hnl, hul, hfy] at h1 ⊢
            exact h1
          rw [List.getElem?_append_left h1', List.getElem?_eq_getElem h1']
          show Rep c (olds ++ news)[j] _
          by_cases h2 : j < us.length
          · rw [List.getElem_append_left h2, List.getElem_append_left (by omega)]
            exact hxr j (by omega) h2
          · rw [List.getElem_append_right (by omega), List.getElem_append_right (by omega)]
            have h3 : j - olds.length < (flat ys).length := by simp at h1; omega
            have h4 : (List.map AV.d (flat ys))[j - us.length]'(by simp; omega) = .d ((flat ys)[j - olds.length]'h3) := by
              simp only [List.getElem_map]
              congr 2
              omega
            rw [h4]
            exact .d (hyr (j - olds.length) (by omega) h3)
        · rw [List.getElem_append_right (by omega)]
          simp only [List.getElem_replicate]
          exact .un _)
      refine ⟨_, _, _, _, _, hrun _ hr, l1, .arr c.blk.length (n + ys.length) ncap w.heap.size (by simp), i1, ?_, ⟨rfl, by simp [HS.push, HS.nb], fun j hj _ => ?_⟩, c.blk.length, _, _, rfl, fun _ => by rw [hI.blkLen]; exact Nat.le_refl _, fun _ _ _ _ => .inr (by rw [hI.blkLen]; exact Nat.le_refl _)⟩
      · refine .arr _ _ _ (us ++ (flat ys).map AV.d ++ List.replicate ((ncap - (n + ys.length)) * sz) AV.un) _ ?_ hlen hge ?_
        · rw [hI.blkLen]; simp [HS.push]
        · have : (n + ys.length) * sz = (us ++ (flat ys).map AV.d).length := by simp [hul, hfy, Nat.add_mul]
          rw [this, List.take_left' rfl]
      · simp only [HS.push]
        rw [List.getElem?_append_left hj]
    cases hE : E x with
    | d dv =>
      rw [hE] at hx q1
      cases hx with
      | nil =>
        have hev := q1.v_eq
        rw [hE] at grow
        exact grow none 0 [] hev (by omega) (by simp) (by simp) (by simp) (fun w' _ => by simp [Builtin.firstCells])
    | arr id n1 cap =>
      rw [hE] at hx q1
      rw [hE] at grow
      generalize hev : a.eval x = X at q1
      cases q1 with
      | arr _ _ _ g hg =>
      cases hx with
      | arr _ _ _ cs _ hbk hc hnc hu =>
      obtain ⟨p1, p2, cur, fr, p3, p4, p5, p6⟩ := hI.blk id g _ hg hbk
      have hcz : n * sz ≤ cap * sz := Nat.mul_le_mul_right _ hnc
      have hul : us.length = n * sz := by rw [← hu]; simp; omega
      have p4' : cur.size = cs.length := p4
      by_cases hroom : n + ys.length ≤ cap
      · have hfit : n * sz + news.length ≤ cur.size := by
          rw [hnl, p4', hc, ← Nat.add_mul]
          exact Nat.mul_le_mul_right _ hroom
        have hr := run_app_room w t' tx ty e z sz bytes ht hi (a.eval y) ys.length news hsrc g n cap cur fr p3 (fun o _ => p5 rfl o) hone hroom hfit
        rw [← hev] at hr
        have hal : news.length = ((flat ys).map AV.d).length := by simp [hnf]
        have i1 := hI.putBlk id g (n * sz) _ hg hbk news ((flat ys).map AV.d) hal (fun j hj hj' => by
          simp only [List.getElem_map]
          exact .d (hyr j hj (by simpa using hj'))) (by show n * sz + ((flat ys).map AV.d).length ≤ cs.length; omega) cur _ fr p3
        have hnb : (H.put id (n * sz) ((flat ys).map AV.d)).nb = H.nb := by simp [HS.put, HS.nb]
        refine ⟨_, _, c, _, _, hrun _ hr, Le.refl c, .arr id (n + ys.length) cap g hg, i1, ?_, ⟨rfl, by rw [hnb]; exact Nat.le_refl _, fun j hj hne => ?_⟩, id, n + ys.length, cap, rfl, (fun h => by cases h), (fun j _ _ h => Or.inl (by cases h; rfl))⟩
        · refine .arr _ _ _ (putL cs (n * sz) ((flat ys).map AV.d)) _ (by simp [HS.put, hbk]) (by rw [putL_length]; exact hc) hroom ?_
          have e1 : (n + ys.length) * sz = n * sz + ((flat ys).map AV.d).length := by simp [hfy, Nat.add_mul]
          rw [e1, putL_take _ _ _ (by omega), hu]
        · have hji : id ≠ j := fun h => hne n cap (by rw [h])
          simp [HS.put, hji]
      · have hol : (cur.toList.take (n * sz)).length = n * sz := by simp; omega
        refine grow _ cap (cur.toList.take (n * sz)) hev (by omega) hol hul ?_ ?_
        · intro i hi1 hi2
          have hi3 : i < cs.length := by omega
          have h1 := p6 i hi3
          have h2 : us[i] = cs[i]'hi3 := by simp [← hu]
          have h4 : i < cur.size := by omega
          have h3 : (cur.toList.take (n * sz))[i] = cur.getD i undef := by simp [h4]
          rw [h2, h3]
          exact h1
        · refine firstCells_of hol fun j u hu' => ?_
          rw [List.getElem?_take] at hu'
          split at hu'
          · simp only [World.cell?, p3]
            simpa using hu'
          · cases hu'
    | own => rw [hE] at hx; cases hx
    | un => rw [hE] at hx; cases hx
    | nv => rw [hE] at hx; cases hx
    | elt => rw [hE] at hx; cases hx
    | ptr => rw [hE] at hx; cases hx
    | sub => rw [hE] at hx; cases hx
    | agg => rw [hE] at hx; cases hx
    | tup => rw [hE] at hx; cases hx
    | fn => rw [hE] at hx; cases hx

/-! ### What a strings.Builder meets -/
theorem op_append_arr {x y : Operand} {t' tx e : TypeId} {z : Value} {sz bytes n : Nat} {us : List AV} {ys : List DV} (ht : P.underlying t' = some (.slice e)) (hi : tInfo P e z sz bytes) (hzs : z.cells.size = sz) (hx : Arr H e sz (E x) n us) (hy : Adds P tx (E y) sz ys)
    (hne : 0 < ys.length) (hb : (n + ys.length) * bytes ≤ 140737488355328) (hn : n + ys.length ≤ 140737488355328) :
    OpR P ⟨dst, .call ⟨.builtin .append, #[x, y], #[t', tx]⟩, ty, pos, after, gd⟩ E H (fun av H' => Arr H' e sz av (n + ys.length) (us ++ (flat ys).map .d) ∧ Kept H H' (E x) ∧ ∃ id m cap, av = .arr id m cap ∧ (E x = nilS → H.nb ≤ id) ∧ ∀ j n cap, E x = .arr j n cap → id = j ∨ H.nb ≤ id) :=
  op_append_arrX ht hi hzs hx (.adds hy) hne hb hn
theorem op_nil_nil {x y : Operand} {t t' el : TypeId} (ht : P.underlying t = some (.pointer el)) (hx : E x = .d (.v (.pointer none))) (hy : E y = .d (.v (.pointer none))) : OpR P ⟨dst, .binOp .eql t x y t', ty, pos, after, gd⟩ E H (Ret (.d (TF true)) H) :=
  op_bin_of (.bool true) hx hy rfl (fun w => by simp [eqGuard]) fun w => by
    have h : ∀ d : Nat, (Op.equalIn (d + 1) t (.pointer none) (.pointer none)).run P w = .ok true w := fun d => by simp [Op.equalIn, run_underlying ht]
    simp only [binOp]
    simp [Op.equal, Op.maxDepth, h 9999]
theorem op_ne_self {x y : Operand} {t t' el : TypeId} {j : TypeInfo} {id off : Nat} (ht : P.underlying t = some (.pointer el)) (hj : P.info? el = some j) (hx : E x = .ptr id off) (hy : E y = .ptr id off) : OpR P ⟨dst, .binOp .neq t x y t', ty, pos, after, gd⟩ E H (Ret (.d (TF false)) H) :=
  opR_pure fun c w a hm hops => by
    have h1 := hops x (by simp [Op.operands])
    have h2 := hops y (by simp [Op.operands])
    rw [hx] at h1
    rw [hy] at h2
    obtain ⟨g, e, hg⟩ := h1.ptr_inv
    obtain ⟨g', e', hg'⟩ := h2.ptr_inv
    rw [hg] at hg'
    cases hg'
    refine ⟨.bool false, ?_, .d (.v _ rfl)⟩
    simp [execOp, e, e', eqGuard, Lib.run_neq_ptr_same w _ ht hj]
theorem op_to_unsafe {x : Operand} {t t' el : TypeId} {j : TypeInfo} {id off : Nat} {b : HB} (hs : P.underlying t = some (.pointer el)) (hd : P.underlying t' = some .unsafePointer) (hj : P.info? el = some j) (hj0 : j.size ≠ 0) (hx : E x = .ptr id off) (hb : H.blks[id]? = some b) (hoff : off < b.cs.length) :
    OpR P ⟨dst, .convert t t' x, ty, pos, after, gd⟩ E H (Ret (.ptr id off) H) :=
  opR_value fun B w0 c w a hI hops => by
    have h1 := hops x (by simp [Op.operands])
    rw [hx] at h1
    obtain ⟨g, e, hg⟩ := h1.ptr_inv
    obtain ⟨p1, p2, cur, fr, p3, p4, p5, p6⟩ := hI.blk id g _ hg hb
    have hr := Lib.run_to_unsafe (P := P) w ⟨g, off, none⟩ hs hd hj hj0 (e := b.elem) (cells := cur.size) (by simp [World.shape?, p3]) (by show off < cur.size; omega)
    refine ⟨_, w, c, _, H, ?_, Le.refl c, .ptr id off g hg, hI, rfl, rfl⟩
    simp [execOp, e, hr]
theorem op_from_unsafe {x : Operand} {t t' el : TypeId} {j : TypeInfo} {id off : Nat} {b : HB} (hs : P.underlying t = some .unsafePointer) (hd : P.underlying t' = some (.pointer el)) (hj : P.info? el = some j) (hx : E x = .ptr id off) (hb : H.blks[id]? = some b)
    (hl : liesAt P P.depth b.elem (b.cs.length / P.cellsOf b.elem) off el 1 = true) :
    OpR P ⟨dst, .convert t t' x, ty, pos, after, gd⟩ E H (Ret (.ptr id off) H) :=
  opR_value fun B w0 c w a hI hops => by
    have h1 := hops x (by simp [Op.operands])
    rw [hx] at h1
    obtain ⟨g, e, hg⟩ := h1.ptr_inv
    obtain ⟨p1, p2, cur, fr, p3, p4, p5, p6⟩ := hI.blk id g _ hg hb
    have hr := Lib.run_from_unsafe (P := P) w ⟨g, off, none⟩ hs hd hj (e := b.elem) (cells := cur.size) (by simp [World.shape?, p3]) (by rw [p4]; exact hl)
    refine ⟨_, w, c, _, H, ?_, Le.refl c, .ptr id off g hg, hI, rfl, rfl⟩
    simp [execOp, e, hr]
theorem op_noEscape {x : Operand} {f : FuncId} {fn : Func} {ts : Array TypeId} {v : AV} (hfn : P.funcs[f]? = some fn) (hname : (fn.name == "runtime.NumGoroutine") = false) (hb : fn.body.isNone = true) (hn : Extern.findNext fn = none) (he : Extern.find fn = some Extern.AbiNoEscape.same) (hx : E x = v) :
    OpR P ⟨dst, .call ⟨.value (.func f), #[x], ts⟩, ty, pos, after, gd⟩ E H (Ret v H) :=
  opR_pure fun c w a hm hops => by
    have h1 := hops x (by simp [Op.operands, Call.operands])
    rw [hx] at h1
    refine ⟨a.eval x, ?_, h1⟩
    have hr := run_callFunc_extern (w := w) hfn hname hb hn he #[a.eval x]
    rw [Lib.run_noEscape] at hr
    have ef : a.eval (.func f) = .func (.func f) #[] #[] := rfl
    simp [execOp, resolve, Deferred.ofValue, invoke, ef, hr]
theorem op_sliceData_arr {x : Operand} {ts : Array TypeId} {id n cap : Nat} (hx : E x = .arr id n cap) (hc : cap ≠ 0) : OpR P ⟨dst, .call ⟨.builtin .unsafeSliceData, #[x], ts⟩, ty, pos, after, gd⟩ E H (Ret (.ptr id 0) H) :=
  opR_pure fun c w a hm hops => by
    have h1 := hops x (by simp [Op.operands, Call.operands])
    rw [hx] at h1
    generalize hev : a.eval x = X at h1
    cases h1 with
    | arr _ _ _ g hg =>
    refine ⟨_, ?_, .ptr id 0 g hg⟩
    simp [execOp, resolve, invoke, builtin, hev, Lib.run_unsafeSliceData_row w ts ty ⟨g, 0, none⟩ n cap hc]
theorem op_sliceData_nil {x : Operand} {ts : Array TypeId} (hx : E x = nilS) : OpR P ⟨dst, .call ⟨.builtin .unsafeSliceData, #[x], ts⟩, ty, pos, after, gd⟩ E H (Ret (.d (.v (.pointer none))) H) :=
  opR_pure fun c w a hm hops => by
    have h1 := hops x (by simp [Op.operands, Call.operands])
    rw [hx] at h1
    refine ⟨_, ?_, .d (.v _ rfl)⟩
    simp [execOp, resolve, invoke, builtin, h1.v_eq, Lib.run_unsafeSliceData_nil w ts ty 0 0]
/-- The block is read-only from here on. -/
def HS.frz (H : HS) (id : Nat) : HS := { H with blks := H.blks.modify id fun b => { b with frz := true } }
theorem Inv.freeze {B : Nat} {w0 w : World} {c : Ctx} {H : HS} (h : Inv B w0 c H w) (id g n : Nat) (b : HB) (hg : c.blk[id]? = some g) (hb : H.blks[id]? = some b) (hn : n ≠ 0) : Inv B w0 c (H.frz id) (w.freeze ⟨g, 0, none⟩ n) := by
  obtain ⟨p1, p2, cur, fr, p3, p4, p5, p6⟩ := h.blk id g b hg hb
  obtain ⟨lo, hi⟩ := fr
  have hfz : w.freeze ⟨g, 0, none⟩ n = { w with heap := w.heap.modify g fun | .cells c elem (lo, hi) => .cells c elem (if lo == hi then (0, 0 + n) else (min lo 0, max hi (0 + n))) | o => o } := by
    unfold World.freeze
    rw [if_neg hn]
    rfl
  have hother : ∀ k, k ≠ g → (w.freeze ⟨g, 0, none⟩ n).heap[k]? = w.heap[k]? := by
    intro k hk
    rw [hfz]
    simp only [Array.getElem?_modify]
    rw [if_neg (fun e => hk e.symm)]
  have hat : (w.freeze ⟨g, 0, none⟩ n).heap[g]? = some (.cells cur b.elem (if lo == hi then (0, 0 + n) else (min lo 0, max hi (0 + n)))) := by
    rw [hfz]
    show (w.heap.modify g _)[g]? = _
    rw [Array.getElem?_modify, if_pos rfl, p3]
    rfl
  have hsize : (w.freeze ⟨g, 0, none⟩ n).heap.size = w.heap.size := by rw [hfz]; simp
  have hcell : ∀ a u, w.cell? a = some u → (w.freeze ⟨g, 0, none⟩ n).cell? a = some u := by
    intro a u hu
    by_cases ha : a.block = g
    · have e1 := hat
      simp only [World.cell?, ha, p3] at hu
      simp only [World.cell?, ha, e1]
      exact hu
    · simp only [World.cell?] at hu ⊢
      rw [hother _ ha]
      exact hu
  refine ⟨by rw [hsize]; exact h.base, Lib.below_freeze h.below p1 n, fun g' o u hu => hcell _ _ (h.mem g' o u hu), by simp [HS.frz, h.blkLen], fun i g' b' hg' hb' => ?_, h.blkInj, h.tokLen, fun i e he => ?_, h.tokInj⟩
  · by_cases hi' : i = id
    · subst hi'
      have e1 : g' = g := by rw [hg] at hg'; exact (Option.some.inj hg').symm
      subst e1
      have e2 : b' = { b with frz := true } := by
        have : (H.frz i).blks[i]? = some { b with frz := true } := by simp [HS.frz, hb]
        rw [this] at hb'; exact (Option.some.inj hb').symm
      subst e2
      exact ⟨p1, p2, cur, _, hat, p4, fun hh => by simp at hh, p6⟩
    · have hb3 : H.blks[i]? = some b' := by
        have hne2 : ¬ id = i := fun e => hi' e.symm
        have : (H.frz id).blks[i]? = H.blks[i]? := by cases hq : H.blks[i]? <;> simp [HS.frz, hne2, hq]
        rw [← this]; exact hb'
      have hne : g' ≠ g := fun hh => hi' (h.blkInj i id g (hh ▸ hg') hg)
      obtain ⟨q1, q2, cur', fr', q3, q4⟩ := h.blk i g' b' hg' hb3
      exact ⟨q1, q2, cur', fr', by rw [hother _ hne]; exact q3, q4⟩
  · obtain ⟨q1, q2, q3, q4, q5, cur', et', fr', q6, q7⟩ := h.tok i e he
    have hne : e.g ≠ g := fun hh => q5 id (hh ▸ hg)
    exact ⟨q1, q2, q3, q4, q5, cur', et', fr', by rw [hother _ hne]; exact q6, q7⟩
theorem op_unsafeString {x y : Operand} {pt it e : TypeId} {id : Nat} {cs : List AV} {f : Bool} {l : List UInt8} (hp : P.underlying pt = some (.pointer e)) (hc : P.cellsOf e = 1) (hx : E x = .ptr id 0) (hy : E y = .d (I l.length)) (hb : H.blks[id]? = some ⟨e, cs, f⟩) (h0 : l ≠ []) (h63 : l.length ≤ 9223372036854775807)
    (hl : cs.take l.length = l.map fun c => .d (BY c)) : OpR P ⟨dst, .call ⟨.builtin .unsafeString, #[x, y], #[pt, it]⟩, ty, pos, after, gd⟩ E H (Ret (.d (S l)) (H.frz id)) :=
  opR_value fun B w0 c w a hI hops => by
    have h1 := hops x (by simp [Op.operands, Call.operands])
    have h2 := hops y (by simp [Op.operands, Call.operands])
    rw [hx] at h1
    rw [hy] at h2
    obtain ⟨g, ev, hg⟩ := h1.ptr_inv
    obtain ⟨p1, p2, cur, fr, p3, p4, p5, p6⟩ := hI.blk id g _ hg hb
    have hlen : l.length ≤ cs.length := by
      have := congrArg List.length hl
      simp at this
      omega
    have hr := Lib.run_unsafeString_row (P := P) w pt it ty e hp hc g cur.size (by simp [World.shape?, p3]) l h0 (by rw [p4]; exact hlen) h63 (fun j x hj => by
      rw [addr_add, Nat.zero_add]
      have hj1 : j < l.length := (List.getElem?_eq_some_iff.1 hj).1
      have hj2 : j < cs.length := by omega
      have e1 : cs[j]? = some (.d (BY x)) := by
        have := congrArg (fun q => q[j]?) hl
        simp only [List.getElem?_take, if_pos hj1, List.getElem?_map, hj] at this
        exact this
      have e2 : cs[j]'hj2 = .d (BY x) := by rw [List.getElem?_eq_getElem hj2] at e1; exact Option.some.inj e1
      have h3 := p6 j hj2
      have h3' : Rep c (cur.getD j undef) (.d (BY x)) := e2 ▸ h3
      have h4 := h3'.v_eq
      have hj3 : j < cur.size := by have : cur.size = cs.length := p4; omega
      simp only [World.cell?, p3]
      simp [hj3] at h4 ⊢
      exact h4)
    refine ⟨_, _, c, _, _, ?_, Le.refl c, .d (.v _ rfl), hI.freeze id g l.length _ hg hb (by simpa using h0), rfl, rfl⟩
    have h5 : a.eval y = .int .i64 l.length := h2.v_eq
    simp [execOp, resolve, invoke, builtin, ev, h5, hr]
theorem op_unsafeString0 {x y : Operand} {pt it : TypeId} (hx : E x = .d (.v (.pointer none))) (hy : E y = .d (I 0)) : OpR P ⟨dst, .call ⟨.builtin .unsafeString, #[x, y], #[pt, it]⟩, ty, pos, after, gd⟩ E H (Ret (.d (S [])) H) :=
  opR_pure fun c w a hm hops => by
    have h1 := hops x (by simp [Op.operands, Call.operands])
    have h2 := hops y (by simp [Op.operands, Call.operands])
    rw [hx] at h1
    rw [hy] at h2
    have h4 : a.eval x = .pointer none := h1.v_eq
    have h5 : a.eval y = .int .i64 0 := h2.v_eq
    refine ⟨_, ?_, .d (.v _ rfl)⟩
    simp [execOp, resolve, invoke, builtin, h4, h5, Lib.run_unsafeString_none w pt it ty none]
    rfl
theorem op_lenArr {x : Operand} {t e : TypeId} {id n cap : Nat} (ht : P.underlying t = some (.slice e)) (hx : E x = .arr id n cap) : OpR P ⟨dst, .call ⟨.builtin .len, #[x], #[t]⟩, ty, pos, after, gd⟩ E H (Ret (.d (I n)) H) :=
  opR_pure fun c w a hm hops => by
    have h1 := hops x (by simp [Op.operands, Call.operands])
    rw [hx] at h1
    generalize hev : a.eval x = X at h1
    cases h1 with
    | arr _ _ _ g hg =>
    refine ⟨_, ?_, .d (.v _ rfl)⟩
    simp [execOp, resolve, invoke, builtin, hev, Builtin.len_, run_underlying ht, goInt]
end
end Go.AV
