/-
  The AV logic, part 24: is a list nil? A list's copy; a part of an exact block cleared.
-/
import Derived.Test.YtjamnhofbkgblaaMapAV
namespace Go.AV
open Go.RowKit
section
variable {P : Program} {E : Operand → AV} {H : HS} {dst : Option Tmp} {ty : TypeId} {pos : String} {after : Array Edge} {gd : Option (Nat × Bool)}
theorem equalIn_slice0 (w : World) (d : Nat) {t el : TypeId} (ht : P.underlying t = some (.slice el)) (a : Option Addr) (n c : Nat) : (Op.equalIn (d + 1) t (.slice a n c) (.slice none 0 0)).run P w = .ok a.isNone w := by
  cases a <;> simp [Op.equalIn, run_underlying ht]
theorem op_nilL {x y : Operand} {t t' el : TypeId} {sz : Nat} {xs : List DV} (ht : P.underlying t = some (.slice el)) (hx : LL (E x) sz xs) (hy : E y = nilS) :
    OpR P ⟨dst, .binOp .eql t x y t', ty, pos, after, gd⟩ E H (fun av H' => ∃ b, av = .d (TF b) ∧ (b = true → xs = []) ∧ H = H') :=
  opR_value fun B w0 c w a hI hops => by
    have h1 := hops x (by simp [Op.operands])
    have h2 := hops y (by simp [Op.operands])
    rw [hy] at h2
    obtain ⟨ad, n, cap, e, hr⟩ := hx.rep h1
    have hb : (binOp .eql t (.slice ad n cap) (.slice none 0 0)).run P w = .ok (.bool ad.isNone) w := by
      simp only [binOp]
      simp [Op.equal, Op.maxDepth, equalIn_slice0 w 9999 ht]
    refine ⟨.bool ad.isNone, w, c, .d (TF ad.isNone), H, ?_, Le.refl c, .d (.v _ rfl), hI, ad.isNone, rfl, fun h => ?_, rfl⟩
    · simp [execOp, e, h2.v_eq, eqGuard, hb]
    · cases hr with
      | lst => cases h
      | lstE => rfl
theorem op_clear {x : Operand} {t e : TypeId} {z : Value} {sz id off n cap : Nat} {b : HB} (ht : P.underlying t = some (.slice e)) (hz : (P.info? e).map (fun i => (i.zero, i.size)) = some (some z, sz)) (hzs : z.cells.size = sz) (hz1 : ∀ u ∈ z.cells.toList, u.oneCell' = true) (hsz : 0 < sz)
    (hx : E x = .sub id off n cap) (hb : H.blks[id]? = some b) (hn : 0 < n) (hfit : off + n * sz ≤ b.cs.length) (hfz : b.frz = false) :
    OpR P ⟨dst, .call ⟨.builtin .clear, #[x], #[t]⟩, ty, pos, after, gd⟩ E H (Ret (.tup []) (H.put id off (List.replicate (n * sz) .un))) :=
  opR_value fun B w0 c w a hI hops => by
    obtain ⟨inf, hi1, hi2⟩ := Option.map_eq_some_iff.1 hz
    simp only [Prod.mk.injEq] at hi2
    obtain ⟨hi2, hi3⟩ := hi2
    have hzv : ∀ w, (zeroValue e).run P w = .ok z w := fun w => by simp [zeroValue, typeInfo, hi1, hi2]
    have q1 := hops x (by simp [Op.operands, Call.operands])
    rw [hx] at q1
    obtain ⟨g, hg, e1⟩ := sub_val q1
    obtain ⟨p1, p2, cur, fr, p3, p4, p5, p6⟩ := hI.blk id g b hg hb
    have hzl : (Builtin.zeroCells z.cells n).toList.length = n * sz := by rw [Array.length_toList, size_zeroCells, hzs]
    have i1 := hI.putBlk id g off b hg hb (Builtin.zeroCells z.cells n).toList (List.replicate (n * sz) .un) (by rw [hzl, List.length_replicate]) (fun j hj hj' => by rw [List.getElem_replicate]; exact .un _) (by rw [List.length_replicate]; exact hfit) cur _ fr p3
    have hst := run_storeCells_fr P g off b.elem fr (Builtin.zeroCells z.cells n).toList 0 cur w p3 (fun o _ => p5 hfz o) (by rw [hzl]; have p4' : cur.size = b.cs.length := p4; omega) (fun v hvm => by
      simp only [Builtin.zeroCells, Array.toList_map, List.mem_map] at hvm
      obtain ⟨k, _, rfl⟩ := hvm
      have hlt : k % z.cells.size < z.cells.size := Nat.mod_lt _ (by omega)
      rw [getElem!_pos z.cells _ hlt]
      exact hz1 _ (by simp))
    simp only [Nat.add_zero] at hst
    refine ⟨.tuple #[], _, c, .tup [], H.put id off (List.replicate (n * sz) .un), ?_, Le.refl c, .tup _ _ rfl (fun i hi => by simp at hi), i1, rfl, rfl⟩
    obtain ⟨m, rfl⟩ : ∃ m, n = m + 1 := ⟨n - 1, by omega⟩
    simp [execOp, resolve, invoke, builtin, e1, Builtin.clear_, run_underlying ht, hzv, hst]
/-- A list's copy. -/
def clT (H : HS) : List DV → Option Nat
  | [] => none
  | _ :: _ => some (H.tk none)
abbrev clV (H : HS) (sz : Nat) (xs : List DV) : AV := .own (clT H xs) sz xs
def clH (H : HS) : List DV → HS
  | [] => H
  | x :: xs => H.up none (x :: xs).length
theorem clOk (H : HS) (xs : List DV) : (clH H xs).ok (clT H xs) xs.length := by
  cases xs with
  | nil => exact HS.ok_none _ _
  | cons x xs => exact HS.ok_up H none _ (HS.ok_none H 0)
theorem clH_blks (H : HS) (xs : List DV) : (clH H xs).blks = H.blks := by
  cases xs with
  | nil => rfl
  | cons x xs => simp [clH, HS.up_blks]
theorem clExt {B H : HS} (h : Ext B H) (xs : List DV) : Ext B (clH H xs) := by
  cases xs with
  | nil => exact h
  | cons x xs => exact h.new _
theorem clNew {B H : HS} (h : Ext B H) (xs : List DV) : NewTok B (clT H xs) := by
  obtain ⟨l, hl⟩ := h.toks
  cases xs with
  | nil => exact NewTok.none _
  | cons x xs => intro i hi; cases hi; simp [HS.tk, hl]
theorem weak_nil_own (sz : Nat) : Weak nilS (.own none sz []) := fun c x h => by
  have := h.v_eq
  subst this
  exact .own0 sz
end
end Go.AV
