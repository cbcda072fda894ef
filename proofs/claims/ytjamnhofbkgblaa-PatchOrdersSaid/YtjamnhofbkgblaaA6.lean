/-
  The AV logic, part 6: the rules of the operations that read lists and make memory.
-/
import Derived.Test.YtjamnhofbkgblaaA5
import Derived.Laws.IdiomStrings
import Derived.Laws.BytesArg
namespace Go.AV
open Go.RowKit

/-- A list, however it is held. -/
inductive LL : AV → Nat → List DV → Prop
  | d (sz : Nat) (xs : List DV) : LL (.d (.lst sz xs)) sz xs
  | own (t : Option Nat) (sz : Nat) (xs : List DV) : LL (.own t sz xs) sz xs
  | nil (sz : Nat) : LL nilS sz []
theorem LL.rep {c : Ctx} {x : Value} {v : AV} {sz : Nat} {xs : List DV} (h : LL v sz xs) (hr : Rep c x v) : ∃ a n cap, x = .slice a n cap ∧ RepD c.mem (.slice a n cap) (.lst sz xs) := by
  cases h with
  | d =>
    cases hr with
    | d h =>
      cases h with
      | lst g o n cap sz xs us hn hc hsz h1 hm h => exact ⟨_, _, _, rfl, .lst g o n cap sz xs us hn hc hsz h1 hm h⟩
      | lstE a cap sz => exact ⟨_, _, _, rfl, .lstE a cap sz⟩
  | own =>
    cases hr with
    | own0 sz => exact ⟨_, _, _, rfl, .lstE _ _ _⟩
    | own1 g o n sz xs h => exact ⟨_, _, _, rfl, h⟩
    | ownt i e g n cap sz xs h => exact ⟨_, _, _, rfl, h⟩
  | nil sz => rw [hr.v_eq]; exact ⟨_, _, _, rfl, .lstE _ _ _⟩
theorem RepD.lst_len {m : Mem} {a : Option Addr} {n cap sz : Nat} {xs : List DV} (h : RepD m (.slice a n cap) (.lst sz xs)) : xs.length = n ∧ n ≤ cap := by
  cases h with
  | lst g o n cap sz xs us hn hc => exact ⟨hn, hc⟩
  | lstE => exact ⟨rfl, Nat.zero_le _⟩

section
variable {P : Program} {E : Operand → AV} {H : HS} {R : AV → HS → Prop} {dst : Option Tmp} {ty : TypeId} {pos : String} {after : Array Edge} {gd : Option (Nat × Bool)}

theorem op_lenL {x : Operand} {t e : TypeId} {sz : Nat} {xs : List DV} (ht : P.underlying t = some (.slice e)) (hx : LL (E x) sz xs) : OpR P ⟨dst, .call ⟨.builtin .len, #[x], #[t]⟩, ty, pos, after, gd⟩ E H (Ret (.d (I xs.length)) H) :=
  opR_pure fun c w a _ hops => by
    obtain ⟨ad, n, cap, e1, h⟩ := hx.rep (hops x (by simp [Op.operands, Call.operands]))
    refine ⟨_, ?_, .d (.v _ rfl)⟩
    simp [execOp, resolve, invoke, builtin, e1, Builtin.len_, run_underlying ht, goInt, h.lst_len.1]
theorem op_indexAddr {x y : Operand} {t e : TypeId} {sz : Nat} {xs : List DV} {k : IntKind} {n : Int} {z : DV} {cs : List DV} (ht : P.underlying t = some (.slice e)) (hn : (P.info? e).map (·.size) = some sz) (hx : LL (E x) sz xs) (hy : E y = .d (.v (.int k n))) (h0 : 0 ≤ n)
    (hz : xs[n.toNat]? = some z) (hcs : z.cells = cs) : OpR P ⟨dst, .indexAddr t x y, ty, pos, after, gd⟩ E H (Ret (.elt cs) H) :=
  opR_pure fun c w a hm hops => by
    obtain ⟨ad, m, cap, e1, h⟩ := hx.rep (hops x (by simp [Op.operands]))
    have h2 := hops y (by simp [Op.operands])
    rw [hy] at h2
    have hlt : n.toNat < xs.length := (List.getElem?_eq_some_iff.1 hz).1
    cases h with
    | lstE => simp at hlt
    | lst g o m cap sz xs us hm1 hc hsz h1 hmem hrep =>
      have hfl := flat_length hsz
      have hbase : ∀ j, j < sz → n.toNat * sz + j < (flat xs).length := by
        intro j hj
        rw [hfl]
        have : (n.toNat + 1) * sz ≤ xs.length * sz := Nat.mul_le_mul_right _ hlt
        rw [Nat.add_mul] at this
        omega
      have hzl : z.cells.length = sz := by rw [← (List.getElem?_eq_some_iff.1 hz).2]; exact hsz _ (List.getElem_mem hlt)
      have hget : ∀ j (hj : j < sz), (flat xs)[n.toNat * sz + j]? = z.cells[j]? := by
        intro j hj
        rw [flat_get hsz n.toNat hlt j hj, (List.getElem?_eq_some_iff.1 hz).2]
      subst hcs
      refine ⟨.pointer (some ⟨g, o + n.toNat * sz, none⟩), ?_, .elt g _ _ (fun j => us (n.toNat * sz + j)) (fun y hy => ?_) (fun j hj => ?_) (fun j hj => ?_)⟩
      · have hlt' : n < (m : Int) := by omega
        simp [execOp, e1, h2.v_eq, Instr.indexAt, asIntOf, run_underlying ht, h0, hlt', run_sizeOf hn, addr_add]
      · obtain ⟨j, hj, rfl⟩ := List.getElem_of_mem hy
        have := hget j (by omega)
        rw [List.getElem?_eq_getElem hj, List.getElem?_eq_getElem (hbase j (by omega))] at this
        rw [← Option.some.inj this]
        exact h1 _ (List.getElem_mem _)
      · rw [Nat.add_assoc]
        exact hmem _ (hbase j (by omega))
      · have := hget j (by omega)
        rw [List.getElem?_eq_getElem hj, List.getElem?_eq_getElem (hbase j (by omega))] at this
        have h3 := hrep _ (hbase j (by omega))
        rwa [Option.some.inj this] at h3

/-- A part of a list. -/
theorem RepD.sub {m : Mem} {a : Option Addr} {n cap sz : Nat} {xs : List DV} (h : RepD m (.slice a n cap) (.lst sz xs)) {l k : Nat} (hl : l ≤ k) (hk : k ≤ n) :
    RepD m (.slice (if cap = l then a else a.map (·.add (l * sz))) (k - l) (cap - l)) (.lst sz ((xs.drop l).take (k - l))) := by
  by_cases hlk : k - l = 0
  · rw [hlk]
    simp only [List.take_zero]
    exact .lstE _ _ _
  · cases h with
    | lstE => omega
    | lst g o n cap sz xs us hn hc hsz h1 hmem hrep =>
      rw [if_neg (by omega)]
      have hsz' : ∀ x ∈ (xs.drop l).take (k - l), x.cells.length = sz := fun x hx => hsz x (List.mem_of_mem_drop (List.mem_of_mem_take hx))
      have hlen : ((xs.drop l).take (k - l)).length = k - l := by simp; omega
      have hfl := flat_length hsz
      have hfl' := flat_length hsz'
      have hb : ∀ i, i < (flat ((xs.drop l).take (k - l))).length → l * sz + i < (flat xs).length := by
        intro i hi
        rw [hfl', hlen] at hi
        rw [hfl]
        have : (l + (k - l)) * sz ≤ xs.length * sz := Nat.mul_le_mul_right _ (by omega)
        rw [Nat.add_mul] at this
        omega
      have hget : ∀ i, i < (flat ((xs.drop l).take (k - l))).length → (flat ((xs.drop l).take (k - l)))[i]? = (flat xs)[l * sz + i]? := by
        intro i hi
        rw [hfl', hlen] at hi
        have hsp : 0 < sz := by
          rcases Nat.eq_zero_or_pos sz with h0 | h0
          · subst h0; simp at hi
          · exact h0
        have e1 : i = (i / sz) * sz + i % sz := by rw [Nat.mul_comm]; exact (Nat.div_add_mod i sz).symm
        have e2 : i % sz < sz := Nat.mod_lt _ hsp
        have e3 : i / sz < k - l := by rw [Nat.div_lt_iff_lt_mul hsp]; exact hi
        have e4 : l * sz + i = (l + i / sz) * sz + i % sz := by rw [Nat.add_mul]; omega
        rw [e4, flat_get hsz (l + i / sz) (by omega) _ e2]
        rw [show (flat ((xs.drop l).take (k - l)))[i]? = (flat ((xs.drop l).take (k - l)))[i / sz * sz + i % sz]? from by rw [← e1]]
        rw [flat_get hsz' (i / sz) (by omega) _ e2]
        simp
      have ha : Option.map (fun x => x.add (l * sz)) (some (⟨g, o, none⟩ : Addr)) = some ⟨g, o + l * sz, none⟩ := by simp [addr_add]
      rw [ha]
      refine .lst g (o + l * sz) (k - l) (cap - l) sz _ (fun i => us (l * sz + i)) hlen (by omega) hsz' (fun x hx => ?_) (fun i hi => ?_) (fun i hi => ?_)
      · obtain ⟨i, hi, rfl⟩ := List.getElem_of_mem hx
        have := hget i hi
        rw [List.getElem?_eq_getElem hi, List.getElem?_eq_getElem (hb i hi)] at this
        rw [Option.some.inj this]
        exact h1 _ (List.getElem_mem _)
      · rw [Nat.add_assoc]
        exact hmem _ (hb i hi)
      · have := hget i hi
        rw [List.getElem?_eq_getElem hi, List.getElem?_eq_getElem (hb i hi)] at this
        rw [Option.some.inj this]
        exact hrep _ (hb i hi)
theorem op_sliceL2 {x y z : Operand} {t e : TypeId} {sz : Nat} {xs : List DV} {k k' : IntKind} {i j : Int} (r : List DV) (ht : P.underlying t = some (.slice e)) (hn : (P.info? e).map (·.size) = some sz) (hx : LL (E x) sz xs) (hy : E y = .d (.v (.int k i))) (hz : E z = .d (.v (.int k' j)))
    (h0 : 0 ≤ i) (h1 : i ≤ j) (h2 : j ≤ xs.length) (hr : (xs.drop i.toNat).take (j.toNat - i.toNat) = r) : OpR P ⟨dst, .slice t x (some y) (some z) none, ty, pos, after, gd⟩ E H (Ret (.d (.lst sz r)) H) :=
  opR_pure fun c w a _ hops => by
    obtain ⟨ad, m, cap, e1, h⟩ := hx.rep (hops x (by simp [Op.operands]))
    have q2 := hops y (by simp [Op.operands])
    have q3 := hops z (by simp [Op.operands])
    rw [hy] at q2
    rw [hz] at q3
    have hl := h.lst_len
    refine ⟨_, ?_, .d (hr ▸ h.sub (l := i.toNat) (k := j.toNat) (by omega) (by omega))⟩
    have b1 := bound_ok (P := P) (k := k') (y := cap) (code := .sliceAcap) w (show 0 ≤ j by omega) (by omega)
    have b2 := bound_ok (P := P) (k := k) (y := j.toNat) (code := .sliceB) w h0 (by omega)
    simp [execOp, e1, q2.v_eq, q3.v_eq, Instr.sliceAt, Instr.slice, Instr.sliceBounds, run_underlying ht, b1, b2, run_sizeOf hn]
theorem op_sliceL1 {x y : Operand} {t e : TypeId} {sz : Nat} {xs : List DV} {k : IntKind} {i : Int} (r : List DV) (ht : P.underlying t = some (.slice e)) (hn : (P.info? e).map (·.size) = some sz) (hx : LL (E x) sz xs) (hy : E y = .d (.v (.int k i)))
    (h0 : 0 ≤ i) (h2 : i ≤ xs.length) (hr : xs.drop i.toNat = r) : OpR P ⟨dst, .slice t x (some y) none none, ty, pos, after, gd⟩ E H (Ret (.d (.lst sz r)) H) :=
  opR_pure fun c w a _ hops => by
    obtain ⟨ad, m, cap, e1, h⟩ := hx.rep (hops x (by simp [Op.operands]))
    have q2 := hops y (by simp [Op.operands])
    rw [hy] at q2
    have hl := h.lst_len
    have hr' : (xs.drop i.toNat).take (m - i.toNat) = r := by rw [← hr]; exact List.take_of_length_le (by simp; omega)
    refine ⟨_, ?_, .d (hr' ▸ h.sub (l := i.toNat) (k := m) (by omega) (by omega))⟩
    have b2 := bound_ok (P := P) (k := k) (y := m) (code := .sliceB) w h0 (by omega)
    simp [execOp, e1, q2.v_eq, Instr.sliceAt, Instr.slice, Instr.sliceBounds, run_underlying ht, b2, run_sizeOf hn]
theorem op_sliceL0 {x z : Operand} {t e : TypeId} {sz : Nat} {xs : List DV} {k' : IntKind} {j : Int} (r : List DV) (ht : P.underlying t = some (.slice e)) (hn : (P.info? e).map (·.size) = some sz) (hx : LL (E x) sz xs) (hz : E z = .d (.v (.int k' j)))
    (h1 : 0 ≤ j) (h2 : j ≤ xs.length) (hr : xs.take j.toNat = r) : OpR P ⟨dst, .slice t x none (some z) none, ty, pos, after, gd⟩ E H (Ret (.d (.lst sz r)) H) :=
  opR_pure fun c w a _ hops => by
    obtain ⟨ad, m, cap, e1, h⟩ := hx.rep (hops x (by simp [Op.operands]))
    have q3 := hops z (by simp [Op.operands])
    rw [hz] at q3
    have hl := h.lst_len
    have hr' : (xs.drop 0).take (j.toNat - 0) = r := by simpa using hr
    refine ⟨_, ?_, .d (hr' ▸ h.sub (l := 0) (k := j.toNat) (by omega) (by omega))⟩
    have b1 := bound_ok (P := P) (k := k') (y := cap) (code := .sliceAcap) w (show 0 ≤ j by omega) (by omega)
    simp [execOp, e1, q3.v_eq, Instr.sliceAt, Instr.slice, Instr.sliceBounds, run_underlying ht, b1, run_sizeOf hn]

/-! ### New memory -/
theorem RepD.cells {m : Mem} {x : Value} {y : DV} (h : RepD m x y) : x.cells.size = y.cells.length ∧ (∀ z ∈ y.cells, z.one = true) ∧ ∀ i (hi : i < y.cells.length), RepD m (x.cells.getD i undef) y.cells[i] := by
  cases h with
  | v x h =>
    have hc : x.cells = #[x] := by cases x <;> first | rfl | (simp [plain] at h)
    rw [hc]
    refine ⟨rfl, by simp [DV.cells, DV.one], fun i hi => ?_⟩
    simp [DV.cells] at hi
    subst hi
    exact .v x h
  | agg vs cs hl h1 h => exact ⟨hl, h1, h⟩
  | lst g o n cap sz xs us hn hc hsz h1 hmem hrep =>
    refine ⟨rfl, by simp [DV.cells, DV.one], fun i hi => ?_⟩
    simp [DV.cells] at hi
    subst hi
    exact .lst g o n cap sz xs us hn hc hsz h1 hmem hrep
  | lstE a cap sz =>
    refine ⟨rfl, by simp [DV.cells, DV.one], fun i hi => ?_⟩
    simp [DV.cells] at hi
    subst hi
    exact .lstE a cap sz
theorem Rep.cells {c : Ctx} {x : Value} {y : AV} (h : Rep c x y) (hu : y ≠ .un) : x.cells.size = y.cells.length ∧ ∀ i (hi : i < y.cells.length), Rep c (x.cells.getD i undef) y.cells[i] := by
  have lone : ∀ (x : Value) (y : AV), Rep c x y → x.cells = #[x] → y.cells = [y] → x.cells.size = y.cells.length ∧ ∀ i (hi : i < y.cells.length), Rep c (x.cells.getD i undef) y.cells[i] := by
    intro x y h e1 e2
    rw [e1]
    refine ⟨by rw [e2]; rfl, fun i hi => ?_⟩
    have hi' : i < 1 := by rw [e2] at hi; exact hi
    have : i = 0 := by omega
    subst this
    have : y.cells[0] = y := by simp [e2]
    rw [this]
    exact h
  cases h with
  | un => exact absurd rfl hu
  | nv => exact lone _ _ .nv rfl rfl
  | @d x y h =>
    have hd := h.cells
    cases y with
    | v X => 
      have := h.v_eq
      subst this
      cases h with
      | v _ hp =>
        refine lone _ _ (.d (.v x hp)) ?_ rfl
        cases x <;> first | rfl | (simp [plain] at hp)
    | lst sz xs =>
      refine lone _ _ (.d h) ?_ rfl
      cases h <;> rfl
    | agg cs =>
      refine ⟨by rw [hd.1]; simp [DV.cells, AV.cells], fun i hi => ?_⟩
      simp [AV.cells] at hi
      have h2 : RepD c.mem (x.cells.getD i undef) cs[i] := hd.2.2 i hi
      have e : (AV.cells (.d (.agg cs)))[i]'(by simp [AV.cells, hi]) = .d cs[i] := by simp [AV.cells]
      rw [e]
      exact .d h2
  | own0 sz => exact lone _ _ (.own0 sz) rfl rfl
  | own1 g o n sz xs h => exact lone _ _ (.own1 g o n sz xs h) rfl rfl
  | ownt i e g n cap sz xs h ht hn he => exact lone _ _ (.ownt i e g n cap sz xs h ht hn he) rfl rfl
  | elt g o cs us h1 hm h => exact lone _ _ (.elt g o cs us h1 hm h) rfl rfl
  | ptr id off g h => exact lone _ _ (.ptr id off g h) rfl rfl
  | arr id n cap g h => exact lone _ _ (.arr id n cap g h) rfl rfl
  | sub id off n cap g h => exact lone _ _ (.sub id off n cap g h) rfl rfl
  | agg vs cs hl h => exact ⟨hl, h⟩
  | tup vs cs hl h => exact lone _ _ (.tup vs cs hl h) rfl rfl
  | fn f fs cs fs' cs' hl h hl' h' => exact lone _ _ (.fn f fs cs fs' cs' hl h hl' h') rfl rfl

theorem Rep.d_inv {c : Ctx} {x : Value} {y : DV} (h : Rep c x (.d y)) : RepD c.mem x y := by
  cases h with
  | d h => exact h
/-- A copy of deep data that is never written. -/
theorem op_box_elt {x : Operand} {t : TypeId} {y : DV} {cs : List DV} (hx : E x = .d y) (hcs : y.cells = cs) : OpR P ⟨dst, .box t x, ty, pos, after, gd⟩ E H (Ret (.elt cs) H) :=
  opR_value fun B w0 c w a hI hops => by
    have h1 := hops x (by simp [Op.operands])
    rw [hx] at h1
    obtain ⟨hl, hone, hr⟩ := h1.d_inv.cells
    obtain ⟨i1, l1⟩ := hI.allocProt (a.eval x).cells t (0, 0) (a.eval x).cells.size (Nat.le_refl _)
    subst hcs
    refine ⟨.pointer (some ⟨w.heap.size, 0, none⟩), _, _, _, H, ?_, l1, .elt w.heap.size 0 _ (fun j => (a.eval x).cells.getD j undef) hone (fun i hi => ?_) (fun i hi => (hr i hi).mono l1.mem), i1, rfl, rfl⟩
    · rfl
    · simp [Ctx.prot, hl, hi]
/-- An exact block. -/
theorem op_box_ptr {x : Operand} {t : TypeId} {cs : List AV} (hu : E x ≠ .un) (hcs : (E x).cells = cs) : OpR P ⟨dst, .box t x, ty, pos, after, gd⟩ E H (Ret (.ptr H.nb 0) (H.push t cs)) :=
  opR_value fun B w0 c w a hI hops => by
    have h1 := hops x (by simp [Op.operands])
    obtain ⟨hl, hr⟩ := h1.cells hu
    subst hcs
    obtain ⟨i1, l1⟩ := hI.allocBlk (a.eval x).cells t _ hl hr
    refine ⟨.pointer (some ⟨w.heap.size, 0, none⟩), _, _, _, _, ?_, l1, .ptr _ _ w.heap.size ?_, i1, rfl, rfl⟩
    · rfl
    · simp [HS.nb, ← hI.blkLen]
theorem const_cells (z : Value) (c : Ctx) : ∀ i (hi : i < (z.cells.toList.map constAV).length), Rep c (z.cells.getD i undef) (z.cells.toList.map constAV)[i] := by
  intro i hi
  have hi' : i < z.cells.size := by simpa using hi
  have := rep_const c z.cells[i]
  simpa [hi'] using this
theorem op_alloc {t : TypeId} {z : Value} {cs : List AV} (hz : (P.info? t).map (·.zero) = some (some z)) (hcs : z.cells.toList.map constAV = cs) : OpR P ⟨dst, .alloc t, ty, pos, after, gd⟩ E H (Ret (.ptr H.nb 0) (H.push t cs)) :=
  opR_value fun B w0 c w a hI hops => by
    obtain ⟨inf, hi1, hi2⟩ := Option.map_eq_some_iff.1 hz
    subst hcs
    obtain ⟨i1, l1⟩ := hI.allocBlk z.cells t (z.cells.toList.map constAV) (by simp) (const_cells z c)
    refine ⟨.pointer (some ⟨w.heap.size, 0, none⟩), _, _, _, _, ?_, l1, .ptr _ _ w.heap.size ?_, i1, rfl, rfl⟩
    · have hzv : (zeroValue t).run P w = .ok z w := by simp [zeroValue, typeInfo, hi1, hi2]
      have : (Instr.alloc t true (.tuple #[])).run P w = .ok (.pointer (some ⟨w.heap.size, 0, none⟩)) (w.alloc (.cells z.cells t)) := by
        unfold Instr.alloc
        rw [Sem.run_bind, hzv]
        rfl
      simp [execOp, this]
    · simp [HS.nb, ← hI.blkLen]
theorem opR_skip {o : Oper} (h : ∀ (B : Nat) (w0 : World) (c : Ctx) (w : World) (a : Act), Inv B w0 c H w → (∀ x ∈ o.op.operands, Rep c (a.eval x) (E x)) →
    ∃ w' c' H', (execOp a.eval o).run P w = .ok .skip w' ∧ Le c c' ∧ Inv B w0 c' H' w' ∧ R .un H') : OpR P o E H R := by
  intro B w0 c w a next Q hI hops hnext
  obtain ⟨w', c', H', h1, h2, h4, h5⟩ := h B w0 c w a hI hops
  unfold Oper.wp
  rw [h1]
  exact hnext undef w' c' .un H' h2 (.un _) h4 h5
theorem op_store {x y : Operand} {t : TypeId} {id off n : Nat} {b : HB} {vs : List AV} (hn : (P.info? t).map (·.size) = some n) (hx : E x = .ptr id off) (hb : H.blks[id]? = some b) (hu : E y ≠ .un) (hvs : (E y).cells = vs) (hl : vs.length = n) (hfit : off + n ≤ b.cs.length)
    (hone : ∀ v ∈ vs, v.one = true) (hfz : b.frz = false := by rfl) : OpR P ⟨dst, .store t x y, ty, pos, after, gd⟩ E H (Ret .un (H.put id off vs)) :=
  opR_skip fun B w0 c w a hI hops => by
    have h1 := hops x (by simp [Op.operands])
    have h2 := hops y (by simp [Op.operands])
    rw [hx] at h1
    obtain ⟨g, e, hg⟩ := h1.ptr_inv
    obtain ⟨hl2, hr⟩ := h2.cells hu
    subst hvs
    obtain ⟨p1, p2, cur, fr, p3, p4, p5, p6⟩ := hI.blk id g b hg hb
    have hlen : (a.eval y).cells.toList.length = (E y).cells.length := by simpa using hl2
    have i1 := hI.putBlk id g off b hg hb (a.eval y).cells.toList (E y).cells hlen (fun j hj hj' => by
      have := hr j hj'
      have hj2 : j < (a.eval y).cells.size := by omega
      simpa [hj2] using this) (by omega) cur _ fr p3
    refine ⟨_, c, _, ?_, Le.refl c, i1, rfl, rfl⟩
    have hst := run_storeCells_fr P g off b.elem fr (a.eval y).cells.toList 0 cur w p3 (fun o _ => p5 hfz o) (by simp; omega) (fun v hv => by
      obtain ⟨j, hj, rfl⟩ := List.getElem_of_mem hv
      have hj' : j < (E y).cells.length := by omega
      have := hr j hj'
      have hj2 : j < (a.eval y).cells.size := by omega
      have h3 := this.one (hone _ (List.getElem_mem hj'))
      simpa [hj2] using h3)
    simp only [Nat.add_zero] at hst
    have hsz : (a.eval y).cells.size = n := by omega
    simp [execOp, e, Instr.storeAt, Instr.sureAddr, storeVar, run_sizeOf hn, hsz, hst]

/-! ### Texts and bytes -/
theorem bytes_flat (l : List UInt8) : flat (l.map BY) = l.map BY := by
  induction l with
  | nil => rfl
  | cons b l ih => simp only [List.map_cons, flat, List.flatMap_cons] at ih ⊢; rw [ih]; rfl
theorem RepD.bytes {m : Mem} {g n cap : Nat} (l : List UInt8) (hl : l.length = n) (hc : n ≤ cap) (h : ∀ j (hj : j < l.length), m g j = some (.int .u8 (l[j].toNat : Int))) : RepD m (.slice (some ⟨g, 0, none⟩) n cap) (.lst 1 (l.map BY)) := by
  refine .lst g 0 n cap 1 _ (fun i => .int .u8 (((l[i]?).getD 0).toNat : Int)) (by simpa using hl) hc (by simp [BY, DV.cells]) (by rw [bytes_flat]; simp [BY, DV.one]) (fun i hi => ?_) (fun i hi => ?_)
  · rw [bytes_flat] at hi
    have hi' : i < l.length := by simpa using hi
    simp [h i hi', hi']
  · have hi' : i < l.length := by rw [bytes_flat] at hi; simpa using hi
    have : (flat (l.map BY))[i] = BY l[i] := by simp [bytes_flat]
    rw [this]
    simp only [List.getElem?_eq_getElem hi', Option.getD_some]
    exact .v _ rfl
theorem bytesRow_get (l : List UInt8) (cap j : Nat) (hj : j < l.length) : (bytesRow ⟨l.toArray⟩ cap)[j]? = some (.int .u8 (l[j].toNat : Int)) := by
  simp [bytesRow, hj, Array.getElem?_append]
theorem bytesRow_size (l : List UInt8) (cap : Nat) (h : l.length ≤ cap) : (bytesRow ⟨l.toArray⟩ cap).size = cap := by
  simp [bytesRow, ByteArray.size]
  omega
/-- []byte(s), held as what may be appended to. -/
theorem op_bytes_own {x : Operand} {t t' e : TypeId} {l : List UInt8} (ht : P.underlying t = some .string) (ht' : P.underlying t' = some (.slice e)) (he : P.underlying e = some (.int .u8)) (hx : E x = .d (S l)) :
    OpR P ⟨dst, .convert t t' x, ty, pos, after, gd⟩ E H (Ret (.own (some H.toks.length) 1 (l.map BY)) (H.up none l.length)) :=
  opR_value fun B w0 c w a hI hops => by
    have h1 := hops x (by simp [Op.operands])
    rw [hx] at h1
    have hr := run_bytes_of_string w t t' e ⟨l.toArray⟩ ht ht' he
    have hge : l.length ≤ grownCap w (⟨l.toArray⟩ : ByteArray).size 0 e := by have := grownCap_ge w (⟨l.toArray⟩ : ByteArray).size 0 e; rwa [str_size] at this
    have hsz := bytesRow_size l _ hge
    obtain ⟨c', l1, i1, hm, htk, _⟩ := hI.drew.newTok none 0 (HS.ok_none _ _) (bytesRow ⟨l.toArray⟩ (grownCap w (⟨l.toArray⟩ : ByteArray).size 0 e)) e
      ((bytesRow ⟨l.toArray⟩ (grownCap w (⟨l.toArray⟩ : ByteArray).size 0 e)).size, (bytesRow ⟨l.toArray⟩ (grownCap w (⟨l.toArray⟩ : ByteArray).size 0 e)).size + 1) _ 1 l.length (.inr rfl) hge (by rw [hsz, Nat.mul_one]) (fun o ho => by simp; omega)
    refine ⟨_, _, c', _, _, ?_, l1, .ownt _ _ w.heap.size l.length _ 1 (l.map BY) (RepD.bytes l rfl hge fun j hj => ?_) htk (Nat.le_refl _) (fun _ => ⟨rfl, rfl, rfl⟩), i1, rfl, rfl⟩
    · have e2 : (execOp a.eval ⟨dst, .convert t t' x, ty, pos, after, gd⟩).run P w = ((convert t t' (.string ⟨l.toArray⟩)).run P w).andThen fun v w => .ok (.value v) w := by
        simp [execOp, h1.v_eq]
      rw [e2, hr]
      simp only [str_size]
      rfl
    · have := hm j (by omega)
      rw [bytesRow_get l _ j hj] at this
      exact this
/-- []byte(s), held as what is only read. -/
theorem op_bytes {x : Operand} {t t' e : TypeId} {l : List UInt8} (ht : P.underlying t = some .string) (ht' : P.underlying t' = some (.slice e)) (he : P.underlying e = some (.int .u8)) (hx : E x = .d (S l)) :
    OpR P ⟨dst, .convert t t' x, ty, pos, after, gd⟩ E H (Ret (.d (.lst 1 (l.map BY))) H) :=
  opR_value fun B w0 c w a hI hops => by
    have h1 := hops x (by simp [Op.operands])
    rw [hx] at h1
    have hr := run_bytes_of_string w t t' e ⟨l.toArray⟩ ht ht' he
    have hge : l.length ≤ grownCap w (⟨l.toArray⟩ : ByteArray).size 0 e := by have := grownCap_ge w (⟨l.toArray⟩ : ByteArray).size 0 e; rwa [str_size] at this
    have hsz := bytesRow_size l _ hge
    obtain ⟨i1, l1⟩ := hI.drew.allocProt (bytesRow ⟨l.toArray⟩ (grownCap w (⟨l.toArray⟩ : ByteArray).size 0 e)) e
      ((bytesRow ⟨l.toArray⟩ (grownCap w (⟨l.toArray⟩ : ByteArray).size 0 e)).size, (bytesRow ⟨l.toArray⟩ (grownCap w (⟨l.toArray⟩ : ByteArray).size 0 e)).size + 1) l.length (by omega)
    refine ⟨_, _, _, _, _, ?_, l1, .d (RepD.bytes (g := w.heap.size) l rfl hge fun j hj => ?_), i1, rfl, rfl⟩
    · have e2 : (execOp a.eval ⟨dst, .convert t t' x, ty, pos, after, gd⟩).run P w = ((convert t t' (.string ⟨l.toArray⟩)).run P w).andThen fun v w => .ok (.value v) w := by
        simp [execOp, h1.v_eq]
      rw [e2, hr]
      simp only [str_size]
      rfl
    · have h2 := bytesRow_get l (grownCap w (⟨l.toArray⟩ : ByteArray).size 0 e) j hj
      have h3 : j < (bytesRow ⟨l.toArray⟩ (grownCap w (⟨l.toArray⟩ : ByteArray).size 0 e)).size := by omega
      show (if w.heap.size = w.drew.heap.size ∧ j < l.length then _ else _) = _
      rw [if_pos ⟨rfl, hj⟩]
      simp only [Array.getD_eq_getD_getElem?, h2, Option.getD_some]
theorem RepD.lst_inv {m : Mem} {a : Option Addr} {n cap sz : Nat} {xs : List DV} (h : RepD m (.slice a n cap) (.lst sz xs)) : xs = [] ∧ n = 0 ∨
    ∃ (g o : Nat) (us : Nat → Value), a = some ⟨g, o, none⟩ ∧ (∀ x ∈ xs, x.cells.length = sz) ∧ (∀ i, i < (flat xs).length → m g (o + i) = some (us i)) ∧ ∀ i (hi : i < (flat xs).length), RepD m (us i) (flat xs)[i] := by
  cases h with
  | lst g o n cap sz xs us hn hc hsz h1 hmem hrep => exact .inr ⟨g, o, us, rfl, hsz, hmem, hrep⟩
  | lstE => exact .inl ⟨rfl, rfl⟩
/-- string(b) -/
theorem op_string {x : Operand} {t t' e : TypeId} {xs : List DV} {l : List UInt8} (ht : P.underlying t = some (.slice e)) (ht' : P.underlying t' = some .string) (he : P.underlying e = some (.int .u8)) (hx : LL (E x) 1 xs) (hl : xs = l.map BY) :
    OpR P ⟨dst, .convert t t' x, ty, pos, after, gd⟩ E H (Ret (.d (S l)) H) :=
  opR_pure fun c w a hm hops => by
    obtain ⟨ad, n, cap, e1, h⟩ := hx.rep (hops x (by simp [Op.operands]))
    subst hl
    refine ⟨.string ⟨l.toArray⟩, ?_, .d (.v _ rfl)⟩
    have e2 : (execOp a.eval ⟨dst, .convert t t' x, ty, pos, after, gd⟩).run P w = ((convert t t' (.slice ad n cap)).run P w).andThen fun v w => .ok (.value v) w := by
      simp [execOp, e1]
    rw [e2]
    have hlen : l.length = n := by simpa using h.lst_len.1
    rcases h.lst_inv with ⟨h0, hn0⟩ | ⟨g, o, us, rfl, hsz, hmem, hrep⟩
    · have hl0 : l = [] := by simpa using h0
      subst hl0
      subst hn0
      cases ad with
      | none =>
        rw [run_convert_bytes_nil w t e ht he 0 cap t' ht']
        rfl
      | some ad =>
        have := run_convert_bytes_back w t t' e ad cap [] ht he ht' (fun j hj => by simp at hj)
        simp only [List.length_nil] at this
        rw [this]
        rfl
    · have := run_convert_bytes_back w t t' e ⟨g, o, none⟩ cap l ht he ht' (fun j hj => by
        rw [addr_add]
        have hj' : j < (flat (l.map BY)).length := by rw [bytes_flat]; simpa using hj
        have h3 := hm _ _ _ (hmem j hj')
        have h4 := hrep j hj'
        have h5 : (flat (l.map BY))[j] = BY l[j] := by simp [bytes_flat]
        rw [h5] at h4
        rw [h3, h4.v_eq])
      rw [hlen] at this
      rw [this]
      rfl
end
end Go.AV
