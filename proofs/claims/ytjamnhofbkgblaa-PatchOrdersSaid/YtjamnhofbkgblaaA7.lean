/-
  The AV logic, part 7: append, literals.
-/
import Derived.Test.YtjamnhofbkgblaaA6
namespace Go.AV
open Go.RowKit

def tInfo (P : Program) (e : TypeId) (z : Value) (sz bytes : Nat) : Prop := (P.info? e).map (fun i => (i.zero, i.size, i.bytes)) = some (some z, sz, bytes)
theorem tInfo.size {P : Program} {e : TypeId} {z : Value} {sz bytes : Nat} (h : tInfo P e z sz bytes) : (P.info? e).map (·.size) = some sz := by
  unfold tInfo at h
  cases hi : P.info? e with
  | none => rw [hi] at h; cases h
  | some i =>
    rw [hi] at h
    simp only [Option.map_some, Option.some.injEq, Prod.mk.injEq] at h ⊢
    exact h.2.1
theorem tInfo.get {P : Program} {e : TypeId} {z : Value} {sz bytes : Nat} (h : tInfo P e z sz bytes) : ∃ i, P.info? e = some i ∧ i.zero = some z ∧ i.size = sz ∧ i.bytes = bytes := by
  unfold tInfo at h
  cases hi : P.info? e with
  | none => rw [hi] at h; cases h
  | some i =>
    rw [hi] at h
    simp only [Option.map_some, Option.some.injEq, Prod.mk.injEq] at h
    exact ⟨i, rfl, h⟩

/-! ### append's run, whatever the source -/
section
variable {P : Program}
/-- The source: how many elements, and their cells. -/
def Src (P : Program) (tx : TypeId) (x : Value) (w : World) (sz m : Nat) (news : List Value) : Prop :=
  (P.underlying tx = some .string ∨ ∃ e', P.underlying tx = some (.slice e')) ∧ (∀ w', (Builtin.lenOf x).run P w' = .ok m w') ∧ (∀ w', w'.heap = w.heap → (Builtin.firstCells sz m x).run P w' = .ok news.toArray w')
theorem run_app_room (w : World) (t tx ty e : TypeId) (z : Value) (sz bytes : Nat) (ht : P.underlying t = some (.slice e)) (hi : tInfo P e z sz bytes) (x : Value) (m : Nat) (news : List Value) (hsrc : Src P tx x w sz m news)
    (g n cap : Nat) (cur : Array Value) (fr : Nat × Nat) (hg : w.heap[g]? = some (.cells cur e fr)) (hfr : ∀ o, o < cur.size → ¬ (fr.1 ≤ o ∧ o < fr.2)) (h1 : ∀ u ∈ news, u.oneCell' = true) (hroom : n + m ≤ cap) (hfit : n * sz + news.length ≤ cur.size) :
    (Builtin.append_ #[t, tx] ty #[.slice (some ⟨g, 0, none⟩) n cap, x]).run P w = .ok (.slice (some ⟨g, 0, none⟩) (n + m) cap) (w.setRow g (putA cur (n * sz) news)) := by
  obtain ⟨hd, hlen, hf⟩ := hsrc
  obtain ⟨i, h2, h3, h4, h5⟩ := hi.get
  subst h4
  have hst := run_storeCells_fr P g (n * i.size) e fr news 0 cur w hg hfr (by simpa using hfit) h1
  simp only [Nat.add_zero] at hst
  have hadd : (⟨g, 0, none⟩ : Addr).add (n * i.size) = ⟨g, n * i.size, none⟩ := by rw [addr_add]; simp
  have hti : ∀ w, (typeInfo e).run P w = .ok i w := fun w => by simp [typeInfo, h2]
  have hso : ∀ w, (sizeOf e).run P w = .ok i.size w := fun w => by simp [sizeOf, hti]
  rcases hd with hd | ⟨e', hd⟩ <;> simp [Builtin.append_, run_underlying ht, run_underlying hd, hso, hlen, hroom, hf w rfl, hadd, hst]
theorem run_app_grow (w : World) (t tx ty e : TypeId) (z : Value) (sz bytes : Nat) (ht : P.underlying t = some (.slice e)) (hi : tInfo P e z sz bytes) (x : Value) (m : Nat) (news : List Value) (hsrc : Src P tx x w sz m news)
    (base : Option Addr) (n cap : Nat) (olds : List Value) (hold : ∀ w', w'.heap = w.heap → (Builtin.firstCells sz n (.slice base n cap)).run P w' = .ok olds.toArray w') (hroom : cap < n + m) (hb : (n + m) * bytes ≤ 140737488355328) (hn : n + m ≤ 140737488355328) :
    (Builtin.append_ #[t, tx] ty #[.slice base n cap, x]).run P w = .ok (.slice (some ⟨w.heap.size, 0, none⟩) (n + m) (grownCap w (n + m) cap e))
      (w.drew.alloc (.cells (olds.toArray ++ (news.toArray ++ Builtin.zeroCells z.cells (grownCap w (n + m) cap e - (n + m)))) e)) := by
  obtain ⟨hd, hlen, hf⟩ := hsrc
  obtain ⟨i, h2, h3, h4, h5⟩ := hi.get
  subst h4
  subst h5
  have hr : ¬ (n + m ≤ cap) := by omega
  have hfit := growslice_fits (need := n + m) (old := cap) (bytes := i.bytes) (by omega) hb
  have h48 : ¬ (281474976710656 < Builtin.nextslicecap (n + m) cap * i.bytes) := by omega
  have h63 : ¬ (9223372036854775807 < ((n : Int) + (m : Int))) := by omega
  have hwd : w.drew.heap = w.heap := rfl
  have hti : ∀ w, (typeInfo e).run P w = .ok i w := fun w => by simp [typeInfo, h2]
  have hso : ∀ w, (sizeOf e).run P w = .ok i.size w := fun w => by simp [sizeOf, hti]
  have hzv : ∀ w, (zeroValue e).run P w = .ok z w := fun w => by simp [zeroValue, hti, h3]
  rcases hd with hd | ⟨e', hd⟩ <;> simp [Builtin.append_, run_underlying ht, run_underlying hd, hso, hti, hzv, hlen, hr, h48, h63, Question.forced, hf w.drew hwd, hold w.drew hwd, newRow, grownCap]

/-- What may be appended to. -/
inductive App : AV → Option Nat → Nat → List DV → Prop
  | own (t : Option Nat) (sz : Nat) (xs : List DV) : App (.own t sz xs) t sz xs
  | nil (sz : Nat) : App nilS none sz []
/-- What is appended. -/
inductive Adds (P : Program) (tx : TypeId) : AV → Nat → List DV → Prop
  | list (v : AV) (sz : Nat) (ys : List DV) (e' : TypeId) (ht : P.underlying tx = some (.slice e')) (h : LL v sz ys) : Adds P tx v sz ys
  | str (l : List UInt8) (ht : P.underlying tx = some .string) : Adds P tx (.d (S l)) 1 (l.map BY)

theorem firstCells_of {w : World} {g o n sz m c : Nat} {us : List Value} (hl : us.length = n * sz) (h : ∀ j u, us[j]? = some u → w.cell? ⟨g, o + j, none⟩ = some u) :
    ∀ w', w'.heap = w.heap → (Builtin.firstCells sz n (.slice (some ⟨g, o, none⟩) m c)).run P w' = .ok us.toArray w' := by
  intro w' hw
  refine run_firstCells_some w' sz n ⟨g, o, none⟩ m c us hl fun j u hu => ?_
  rw [addr_add]
  have := h j u hu
  simp only [World.cell?, hw] at this ⊢
  exact this
theorem Adds.src {B : Nat} {w0 w : World} {c : Ctx} {H : HS} (hI : Inv B w0 c H w) {tx : TypeId} {v : AV} {sz : Nat} {ys : List DV} (h : Adds P tx v sz ys) {x : Value} (hr : Rep c x v) :
    ∃ news : List Value, Src P tx x w sz ys.length news ∧ news.length = ys.length * sz ∧ news.length = (flat ys).length ∧ (∀ y ∈ ys, y.cells.length = sz) ∧ (∀ y ∈ flat ys, y.one = true) ∧ (∀ u ∈ news, u.oneCell' = true) ∧
      ∀ i (hi : i < news.length) (hi' : i < (flat ys).length), RepD c.mem news[i] (flat ys)[i] := by
  cases h with
  | list v sz ys e' ht h =>
    obtain ⟨a, n, cap, rfl, hd⟩ := h.rep hr
    obtain ⟨h1, h2, h3, h4, us, h5, h6, h7, h8, h9⟩ := hd.lst_cells hI
    refine ⟨us, ⟨.inr ⟨e', ht⟩, fun w' => by simp [Builtin.lenOf, h1], ?_⟩, by rw [h5, h1], h6, h3, h4, h8, h7⟩
    rcases h9 with h9 | ⟨g, o, rfl, h9⟩
    · have : us = [] := List.eq_nil_of_length_eq_zero (by rw [h5, h9, Nat.zero_mul])
      subst this
      intro w' _
      rw [h1, h9]
      cases a with
      | none => simp [Builtin.firstCells]
      | some a => simp [Builtin.firstCells, loadCells, loadCellsFrom]
    · rw [h1]
      exact firstCells_of h5 fun j u hu => (h9 j u hu).2
  | str l ht =>
    rw [hr.v_eq]
    have hf := bytes_flat l
    refine ⟨l.map fun b => .int .u8 (b.toNat : Int), ⟨.inl ht, fun w' => by simp [Builtin.lenOf, str_size], fun w' _ => ?_⟩, by simp, by rw [hf]; simp, by simp [BY, DV.cells], by rw [hf]; simp [BY, DV.one], by simp [Value.oneCell'], fun i hi hi' => ?_⟩
    · have : (⟨l.toArray⟩ : ByteArray).extract 0 (l.map BY).length = ⟨l.toArray⟩ := by rw [extract_str]; simp
      simp only [Builtin.firstCells, this]
      simp
    · have e : (flat (l.map BY))[i] = BY (l[i]'(by simpa using hi)) := by simp [hf]
      rw [e]
      simp only [List.getElem_map]
      exact .v _ rfl

section
variable {E : Operand → AV} {H : HS} {R : AV → HS → Prop} {dst : Option Tmp} {ty : TypeId} {pos : String} {after : Array Edge} {gd : Option (Nat × Bool)}

theorem app_grown {B : Nat} {w0 w : World} {c : Ctx} (hI : Inv B w0 c H w) (t : Option Nat) (e : TypeId) (z : Value) (sz n m cap : Nat) (hzs : z.cells.size = sz) (xs ys : List DV) (olds news : List Value) (hok : H.ok t xs.length) (hm : 0 < m)
    (hxl : xs.length = n) (hyl : ys.length = m) (hol : olds.length = n * sz) (hnl : news.length = m * sz) (hxs : ∀ x ∈ xs, x.cells.length = sz) (hys : ∀ x ∈ ys, x.cells.length = sz) (hx1 : ∀ x ∈ flat xs, x.one = true) (hy1 : ∀ x ∈ flat ys, x.one = true)
    (hxr : ∀ i (hi : i < olds.length) (hi' : i < (flat xs).length), RepD c.mem olds[i] (flat xs)[i]) (hyr : ∀ i (hi : i < news.length) (hi' : i < (flat ys).length), RepD c.mem news[i] (flat ys)[i]) (hcap : n + m ≤ cap) :
    ∃ c', Le c c' ∧ Inv B w0 c' (H.up t (n + m)) (w.drew.alloc (.cells (olds.toArray ++ (news.toArray ++ Builtin.zeroCells z.cells (cap - (n + m)))) e)) ∧
      Rep c' (.slice (some ⟨w.heap.size, 0, none⟩) (n + m) cap) (.own (some (H.tk t)) sz (xs ++ ys)) := by
  have hsize : (olds.toArray ++ (news.toArray ++ Builtin.zeroCells z.cells (cap - (n + m)))).size = cap * sz := by
    simp only [Array.size_append, List.size_toArray, size_zeroCells, hzs, hol, hnl]
    rw [← Nat.add_mul, ← Nat.add_mul]
    congr 1
    omega
  obtain ⟨c', l1, i1, hmem, htk, _⟩ := hI.drew.newTok t xs.length hok (olds.toArray ++ (news.toArray ++ Builtin.zeroCells z.cells (cap - (n + m)))) e (0, 0) cap sz (n + m) (by
    cases t with
    | none => exact .inr rfl
    | some i => exact .inl (by omega)) hcap hsize (fun o _ => by simp)
  have hfx := flat_length hxs
  have hfy := flat_length hys
  refine ⟨c', l1, i1, .ownt _ _ w.heap.size (n + m) cap sz _ (RepD.mk_lst (olds ++ news) (by simp [hxl, hyl]) hcap ?_ ?_ ?_ ?_ ?_) htk (Nat.le_refl _) (fun _ => ⟨rfl, rfl, rfl⟩)⟩
  · intro x hx
    rcases List.mem_append.1 hx with h | h
    · exact hxs x h
    · exact hys x h
  · intro x hx
    rw [flat_append] at hx
    rcases List.mem_append.1 hx with h | h
    · exact hx1 x h
    · exact hy1 x h
  · rw [flat_append]
    simp only [List.length_append, hfx, hfy, hol, hnl, hxl, hyl]
  · intro j u hu
    have hj : j < (olds ++ news).length := (List.getElem?_eq_some_iff.1 hu).1
    have hj' : j < (n + m) * sz := by
      rw [Nat.add_mul]
      simp [hol, hnl] at hj
      exact hj
    have h2 := hmem j hj'
    have hh : c'.mem w.heap.size (0 + j) = c'.mem w.drew.heap.size j := by rw [Nat.zero_add]; rfl
    rw [hh, h2, ← hu]
    have e1 : (olds.toArray ++ (news.toArray ++ Builtin.zeroCells z.cells (cap - (n + m))))[j]? = ((olds ++ news) ++ (Builtin.zeroCells z.cells (cap - (n + m))).toList)[j]? := by
      rw [← Array.getElem?_toList]
      simp
    rw [e1, List.getElem?_append_left hj]
  · intro i hi hi'
    have hi2 : i < (flat xs ++ flat ys).length := by rw [flat_append] at hi'; exact hi'
    have e0 : (flat (xs ++ ys))[i] = (flat xs ++ flat ys)[i]'hi2 := by simp [flat_append]
    rw [e0]
    by_cases hlt : i < olds.length
    · have hlt' : i < (flat xs).length := by rw [hfx, hxl, ← hol]; exact hlt
      rw [List.getElem_append_left hlt, List.getElem_append_left hlt']
      exact (hxr i hlt hlt').mono l1.mem
    · have hle : (flat xs).length ≤ i := by rw [hfx, hxl, ← hol]; omega
      have he : (flat xs).length = olds.length := by rw [hfx, hxl, ← hol]
      rw [List.getElem_append_right (by omega), List.getElem_append_right hle]
      have h3 : i - olds.length < news.length := by simp at hi; omega
      have h4 : i - olds.length < (flat ys).length := by rw [hfy, hyl, ← hnl]; exact h3
      have h5 := (hyr (i - olds.length) h3 h4).mono l1.mem
      have h6 : (flat ys)[i - (flat xs).length]'(by rw [he]; exact h4) = (flat ys)[i - olds.length] := by congr 1; rw [he]
      rw [h6]
      exact h5

theorem op_append {x y : Operand} {t' tx e : TypeId} {z : Value} {sz bytes : Nat} {t : Option Nat} {xs ys : List DV} (ht : P.underlying t' = some (.slice e)) (hi : tInfo P e z sz bytes) (hzs : z.cells.size = sz) (hx : App (E x) t sz xs) (hy : Adds P tx (E y) sz ys)
    (hok : H.ok t xs.length) (hne : 0 < ys.length) (hb : (xs.length + ys.length) * bytes ≤ 140737488355328) (hn : xs.length + ys.length ≤ 140737488355328) :
    OpR P ⟨dst, .call ⟨.builtin .append, #[x, y], #[t', tx]⟩, ty, pos, after, gd⟩ E H (Ret (.own (some (H.tk t)) sz (xs ++ ys)) (H.up t (xs.length + ys.length))) :=
  opR_value fun B w0 c w a hI hops => by
    have q1 := hops x (by simp [Op.operands, Call.operands])
    have q2 := hops y (by simp [Op.operands, Call.operands])
    obtain ⟨news, hsrc, hnl, hnf, hys, hy1, hone, hyr⟩ := hy.src hI q2
    have hrun : ∀ r, (Builtin.append_ #[t', tx] ty #[a.eval x, a.eval y]).run P w = r → (execOp a.eval ⟨dst, .call ⟨.builtin .append, #[x, y], #[t', tx]⟩, ty, pos, after, gd⟩).run P w = r.andThen fun v w => .ok (.value v) w := by
      intro r hr
      simp [execOp, resolve, invoke, builtin, hr]
    have grow : ∀ (base : Option Addr) (n cap : Nat) (olds : List Value), a.eval x = .slice base n cap → n = xs.length → cap < n + ys.length → olds.length = n * sz → (∀ x ∈ xs, x.cells.length = sz) → (∀ x ∈ flat xs, x.one = true) →
        (∀ i (hi : i < olds.length) (hi' : i < (flat xs).length), RepD c.mem olds[i] (flat xs)[i]) → (∀ w', w'.heap = w.heap → (Builtin.firstCells sz n (.slice base n cap)).run P w' = .ok olds.toArray w') →
        ∃ v' w' c' av H', (execOp a.eval ⟨dst, .call ⟨.builtin .append, #[x, y], #[t', tx]⟩, ty, pos, after, gd⟩).run P w = .ok (.value v') w' ∧ Le c c' ∧ Rep c' v' av ∧ Inv B w0 c' H' w' ∧
          Ret (.own (some (H.tk t)) sz (xs ++ ys)) (H.up t (xs.length + ys.length)) av H' := by
      intro base n cap olds hev hn' hcap hol hxs hx1 hxr hold
      subst hn'
      have hr := run_app_grow w t' tx ty e z sz bytes ht hi (a.eval y) ys.length news hsrc base xs.length cap olds hold hcap hb hn
      rw [← hev] at hr
      obtain ⟨c', l1, i1, r1⟩ := app_grown hI t e z sz xs.length ys.length (grownCap w (xs.length + ys.length) cap e) hzs xs ys olds news hok hne rfl rfl hol hnl hxs hys hx1 hy1 hxr hyr (grownCap_ge _ _ _ _)
      exact ⟨_, _, c', _, _, hrun _ hr, l1, r1, i1, rfl, rfl⟩
    have atNil : xs = [] → a.eval x = .slice none 0 0 → _ := fun hxs hev => grow none 0 0 [] hev (by simp [hxs]) (by omega) (by simp) (by simp [hxs]) (by simp [hxs, flat]) (by simp) (fun w' _ => by simp [Builtin.firstCells])
    cases hE : E x with
    | d dv =>
      rw [hE] at hx
      cases hx with
      | nil sz =>
        rw [hE] at q1
        exact atNil rfl q1.v_eq
    | own t'' sz'' xs'' =>
      rw [hE] at hx q1
      cases hx with
      | own =>
      generalize hev : a.eval x = X at q1
      cases q1 with
      | own0 => exact atNil rfl hev
      | own1 g o n _ _ h =>
        obtain ⟨h1, h2, h3, h4, us, h5, h6, h7, h8, h9⟩ := h.lst_cells hI
        refine grow _ n n us hev h1.symm (by omega) h5 h3 h4 h7 ?_
        rcases h9 with h9 | ⟨g', o', he, h9⟩
        · have : us = [] := List.eq_nil_of_length_eq_zero (by rw [h5, h9, Nat.zero_mul])
          subst this
          intro w' _
          rw [h9]
          simp [Builtin.firstCells, loadCells, loadCellsFrom]
        · cases he
          exact firstCells_of h5 fun j u hu => (h9 j u hu).2
      | ownt i e1 g n cap _ _ h htk hnm heq =>
        obtain ⟨h1, h2, h3, h4, us, h5, h6, h7, h8, h9⟩ := h.lst_cells hI
        have hmark : e1.mark = xs.length := by
          have := (hI.tok i e1 htk).1
          rw [hok i rfl] at this
          exact (Option.some.inj this).symm
        obtain ⟨he1, he2, he3⟩ := heq (by rw [hmark, h1])
        by_cases hroom : n + ys.length ≤ cap
        · obtain ⟨p1, p2, p3, p4, p5, cur, et, fr, p6, p7, p8⟩ := hI.tok i e1 htk
          have hnl' : news.length = ys.length * e1.sz := by rw [he3]; exact hnl
          obtain ⟨c', l1, i1, hm', htk', _⟩ := hI.growTok i e1 htk cur et fr p6 news ys.length hnl' hne (by rw [hmark, he2, h1]; exact hroom)
          have hfit : n * sz + news.length ≤ cur.size := by
            rw [hnl, p7, he2, he3, ← Nat.add_mul]
            exact Nat.mul_le_mul_right _ hroom
          have hput : e1.mark * e1.sz = n * sz := by rw [hmark, he3, h1]
          rw [he1, hput] at i1
          rw [he1] at p6
          have hr : (Builtin.append_ #[t', tx] ty #[.slice (some ⟨g, 0, none⟩) n cap, a.eval y]).run P w = .ok (.slice (some ⟨g, 0, none⟩) (n + ys.length) cap) (w.setRow g (putA cur (n * sz) news)) := by
            obtain ⟨hd', hlen', hf'⟩ := hsrc
            obtain ⟨inf, hinf, hz0, hsz0, hby0⟩ := hi.get
            subst hsz0
            have hst := run_storeCells_fr P g (n * inf.size) et fr news 0 cur w p6 p8 (by simpa using hfit) hone
            simp only [Nat.add_zero] at hst
            have hadd : (⟨g, 0, none⟩ : Addr).add (n * inf.size) = ⟨g, n * inf.size, none⟩ := by rw [addr_add]; simp
            have hso : ∀ w, (sizeOf e).run P w = .ok inf.size w := fun w => by simp [sizeOf, typeInfo, hinf]
            rcases hd' with hd' | ⟨e', hd'⟩ <;> simp [Builtin.append_, run_underlying ht, run_underlying hd', hso, hlen', hroom, hf' w rfl, hadd, hst]
          rw [← hev] at hr
          rw [hmark] at i1
          refine ⟨_, _, c', _, _, hrun _ hr, l1, ?_, i1, rfl, rfl⟩
          have hfx := flat_length h3
          have hfy := flat_length hys
          refine .ownt i _ g (n + ys.length) cap sz _ (RepD.mk_lst (us ++ news) (by simp [h1]) hroom ?_ ?_ ?_ ?_ ?_) htk' (by show n + ys.length ≤ e1.mark + ys.length; omega) (fun _ => ⟨he1, he2, he3⟩)
          · intro x hx
            rcases List.mem_append.1 hx with h | h
            · exact h3 x h
            · exact hys x h
          · intro x hx
            rw [flat_append] at hx
            rcases List.mem_append.1 hx with h | h
            · exact h4 x h
            · exact hy1 x h
          · rw [flat_append]
            simp only [List.length_append, h6, hnf]
          · intro j u hu
            by_cases hlt : j < us.length
            · rw [List.getElem?_append_left hlt] at hu
              rcases h9 with h9 | ⟨g', o', he, h9⟩
              · rw [h5, h9, Nat.zero_mul] at hlt; omega
              · cases he
                exact l1.mem _ _ _ (h9 j u hu).1
            · rw [List.getElem?_append_right (by omega)] at hu
              have := hm' _ u hu
              rw [he1, hput, ← h5, show us.length + (j - us.length) = 0 + j by omega] at this
              exact this
          · intro i' hi1 hi2
            have hi3 : i' < (flat xs ++ flat ys).length := by rw [flat_append] at hi2; exact hi2
            have e0 : (flat (xs ++ ys))[i'] = (flat xs ++ flat ys)[i']'hi3 := by simp [flat_append]
            rw [e0]
            by_cases hlt : i' < us.length
            · have hlt' : i' < (flat xs).length := by rw [← h6]; exact hlt
              rw [List.getElem_append_left hlt, List.getElem_append_left hlt']
              exact (h7 i' hlt hlt').mono l1.mem
            · have hle : (flat xs).length ≤ i' := by rw [← h6]; omega
              rw [List.getElem_append_right (by omega), List.getElem_append_right hle]
              have h10 : i' - us.length < news.length := by simp at hi1; omega
              have h11 : i' - us.length < (flat ys).length := by rw [← hnf]; exact h10
              have h12 := (hyr (i' - us.length) h10 h11).mono l1.mem
              have h13 : (flat ys)[i' - (flat xs).length]'(by rw [← h6]; exact h11) = (flat ys)[i' - us.length] := by congr 1; rw [← h6]
              rw [h13]
              exact h12
        · refine grow _ n cap us hev h1.symm (by omega) h5 h3 h4 h7 ?_
          rcases h9 with h9 | ⟨g', o', he, h9⟩
          · have : us = [] := List.eq_nil_of_length_eq_zero (by rw [h5, h9, Nat.zero_mul])
            subst this
            intro w' _
            rw [h9]
            simp [Builtin.firstCells, loadCells, loadCellsFrom]
          · cases he
            exact firstCells_of h5 fun j u hu => (h9 j u hu).2
    | un => rw [hE] at hx; cases hx
    | nv => rw [hE] at hx; cases hx
    | elt => rw [hE] at hx; cases hx
    | ptr => rw [hE] at hx; cases hx
    | arr => rw [hE] at hx; cases hx
    | sub => rw [hE] at hx; cases hx
    | agg => rw [hE] at hx; cases hx
    | tup => rw [hE] at hx; cases hx
    | fn => rw [hE] at hx; cases hx
/-- Nothing is appended. -/
theorem op_append0 {x y : Operand} {t' tx e : TypeId} {z : Value} {sz bytes : Nat} {xs : List DV} (ht : P.underlying t' = some (.slice e)) (hi : tInfo P e z sz bytes) (hx : LL (E x) sz xs) (hy : Adds P tx (E y) sz []) :
    OpR P ⟨dst, .call ⟨.builtin .append, #[x, y], #[t', tx]⟩, ty, pos, after, gd⟩ E H (Ret (E x) H) :=
  opR_value fun B w0 c w a hI hops => by
    have q1 := hops x (by simp [Op.operands, Call.operands])
    have q2 := hops y (by simp [Op.operands, Call.operands])
    obtain ⟨news, ⟨hd', hlen', hf'⟩, hnl, _⟩ := hy.src hI q2
    have hn : news = [] := List.eq_nil_of_length_eq_zero (by simpa using hnl)
    subst hn
    obtain ⟨ad, n, cap, e1, h⟩ := hx.rep q1
    have hl := h.lst_len
    refine ⟨a.eval x, w, c, _, H, ?_, Le.refl c, q1, hI, rfl, rfl⟩
    obtain ⟨inf, hinf, hz0, hsz0, hby0⟩ := hi.get
    subst hsz0
    have hso : ∀ w, (sizeOf e).run P w = .ok inf.size w := fun w => by simp [sizeOf, typeInfo, hinf]
    have hr : (Builtin.append_ #[t', tx] ty #[.slice ad n cap, a.eval y]).run P w = .ok (.slice ad n cap) w := by
      have hf0 := hf' w rfl
      have hl0 := hlen'
      simp only [List.length_nil] at hf0 hl0
      cases ad <;> rcases hd' with hd' | ⟨e', hd'⟩ <;> simp [Builtin.append_, run_underlying ht, run_underlying hd', hso, hl0, hl.2, hf0, storeCells]
    simp [execOp, resolve, invoke, builtin, e1, hr]
end
end
end Go.AV
