/- Where an index has a value. -/
import Derived.Test.YtadkehaagkjbhaaKeysF
import Derived.Test.YtadkehaagkjbhaaOrdVW
import Derived.KernelRfl
namespace Go.Proofs.Ytadkehaagkjbhaa
open Go.AV Go.AV.Ord Go.AV.Oct Go.AV.Val Go.AV.Sch
set_option linter.unusedVariables false
set_option linter.unusedSimpArgs false
/- Where an index has a value. -/
set_option maxRecDepth 100000 in
theorem centry_ok (Hs : HS) (cn : List UInt8) (z : DV) (xn : List UInt8) (zf : DV) (u : Bool) (v : V) (id : List UInt8) (hb : cn.length ≤ 1000) (hx : xn.length ≤ 1000) (hid : id.length ≤ 1000) (hr : rightV 32 v = true) (hw : WfV v) (hv : (ordV v).length ≤ 900000000) : ACalls Try.prog 23 [.d (.agg [S cn, z]), .d (.agg [S xn, zf, TF u]), .d (.agg (vC v)), .d (S id)] Hs (Ret (.d (S (entryL cn xn u v id))) Hs) := by
  refine ACalls.tidy1 ?_
  refine acalls_of_aw Try.func23 rfl ?_
  refine aw_start (T' := [.d (.agg [S cn, z]), .d (.agg [S xn, zf, TF u]), .d (.agg (vC v)), .d (S id), .un, .un, .un, .un, .un, .un, .un, .un, .un, .un, .un, .un, .un, .un, .un, .un, .un, .un, .un, .un]) rfl ?_
  refine aw_seq ?_
  refine aw_region ?_
  apply al_stepN
  · exact op_box_elt (by rfl) (by rfl)
  · rfl
  · (try dsimp only [zS, zN, zH, zT]); try exact rfl
  apply al_stepN
  · exact op_box_elt (by rfl) (by rfl)
  · rfl
  · (try dsimp only [zS, zN, zH, zT]); try exact rfl
  apply al_stepN
  · exact op_box_elt (cs := [I v.kind, TF v.yes, .v (.int .i64 v.num), S v.text, .lst 6 (v.list.map vD), .lst 7 (v.fields.map fD)]) (by rfl) (vD_cells v)
  · rfl
  · (try dsimp only [zS, zN, zH, zT]); try exact rfl
  apply al_stepN
  · exact op_assign_const (by rfl)
  · rfl
  · (try dsimp only [zS, zN, zH, zT]); try exact rfl
  apply al_end
  · (try dsimp only [zS, zN, zH, zT]); try exact rfl
  refine then_normal ?_
  refine aw_seq ?_
  refine aw_draw [0, 0, 0, 2, 0, 2, 0] mixed (by kernel_rfl) ?_
  apply drun0
  · intro H; exact op_load_elts (ds := [S cn, z]) Try.underlying25 (by rfl) Sz25 (by rfl) (Nat.le_of_ble_eq_true rfl) (by rfl)
  · rfl
  apply drun_normT
  · (try dsimp only [zS, zN, zH, zT]); try exact rfl
  apply drun0
  · intro H; exact op_load_elts (ds := [S xn, zf, TF u]) Try.underlying32 (by rfl) Sz32 (by rfl) (Nat.le_of_ble_eq_true rfl) (by rfl)
  · rfl
  apply drun_normT
  · (try dsimp only [zS, zN, zH, zT]); try exact rfl
  apply drun0
  · intro H; exact op_callF Try.func27 (by rfl) (by rfl) (.tmp (by rfl) (.tmp (by rfl) .nil)) (centries_ok _ cn z xn zf u (by omega) (by omega))
  · rfl
  apply drun_normT
  · (try dsimp only [zS, zN, zH, zT]); try exact rfl
  apply drun2
  · exact op_bytes_own Try.underlying9 Try.underlying86 Try.underlying5 (by rfl)
  · rfl
  apply drun_normT
  · (try dsimp only [zS, zN, zH, zT]); try exact rfl
  apply drun0
  · intro H; exact op_load_elts (ds := vC v) Try.underlying37 (by rfl) Sz37 (by rfl) (Nat.le_of_ble_eq_true rfl) (by rw [vC_eq]; rfl)
  · rfl
  apply drun_normT
  · (try dsimp only [zS, zN, zH, zT]); try exact rfl
  apply drun2
  · exact op_callF Try.func66 (by rfl) (by rfl) (.tmp (by rfl) (.tmp (by rfl) .nil)) (ordV_ok 32 v hr hw (upB Hs none (keyL [[105], cn, xn])) (some (Hs.tk none)) _ (keyL [[105], cn, xn]) (App.own _ _ _) (okB Hs none _ (HS.ok_none _ 0)) (by have := keyL3_most [105] cn xn; simp at this; omega))
  · rfl
  apply drun_normT
  · (try dsimp only [zS, zN, zH, zT]); try exact rfl
  apply drun0
  · intro H; exact op_assign_tmp (by rfl)
  · rfl
  apply drun_normT
  · (try dsimp only [zS, zN, zH, zT]); try exact rfl
  apply drun_end
  · (try dsimp only [zS, zN, zH, zT]); try exact rfl
  refine then_normal ?_
  refine aw_seq ?_
  refine aw_seq ?_
  refine aw_region ?_
  apply al_stepN
  · first | exact op_fieldAddr_ptr Try.underlying32 rfl Sz4 (by rfl) (by rfl) | exact op_fieldAddr_elt Try.underlying32 rfl Sz4 (by rfl) (by rfl) (by rfl)
  · rfl
  · (try dsimp only [zS, zN, zH, zT]); try exact rfl
  apply al_stepN
  · first | exact op_load_elt Try.underlying4 (by rfl) (by rfl) (by rfl) | exact op_load_ptr Try.underlying4 (by rfl) (by rfl) (by rfl) (by rfl)
  · rfl
  · (try dsimp only [zS, zN, zH, zT]); try exact rfl
  apply al_stepN
  · exact op_not (by rfl)
  · rfl
  · (try dsimp only [zS, zN, zH, zT]); try exact rfl
  apply al_end
  · (try dsimp only [zS, zN, zH, zT]); try exact rfl
  refine then_normal ?_
  refine aw_cond rfl (fun hc1 => ?_) (fun hc1 => ?_)
  · skip
    (try simp only [decide_eq_true_eq, decide_eq_false_iff_not, beq_iff_eq, beq_eq_false_iff_ne, Bool.not_eq_true', Bool.not_eq_false', bne_iff_ne, ne_eq, Decidable.not_not, bne_eq_false_iff_eq, List.length_map] at hc1)
    have hu : u = false := by simpa using hc1
    subst hu
    refine aw_region ?_
    apply al_stepN
    · exact op_move_tmp (by rfl)
    · rfl
    · (try dsimp only [zS, zN, zH, zT]); try exact rfl
    apply al_stepN
    · exact op_move_tmp (by rfl)
    · rfl
    · (try dsimp only [zS, zN, zH, zT]); try exact rfl
    apply al_stepN
    · exact op_callF Try.func67 (by rfl) (by rfl) (.tmp (by rfl) (.tmp (by rfl) .nil)) (text_ok _ (some (Hs.tk none)) _ (keyL [[105], cn, xn] ++ ordV v) id (App.own _ _ _) (ok2 Hs _ _) (by have := keyL3_most [105] cn xn; simp at this ⊢; omega))
    · rfl
    · (try dsimp only [zS, zN, zH, zT]); try exact rfl
    apply al_stepN
    · exact op_assign_tmp (by rfl)
    · rfl
    · (try dsimp only [zS, zN, zH, zT]); try exact rfl
    apply al_end
    · (try dsimp only [zS, zN, zH, zT]); try exact rfl
    refine then_normal ?_
    refine aw_seq ?_
    refine aw_region ?_
    apply al_stepN
    · exact op_move_tmp (by rfl)
    · rfl
    · (try dsimp only [zS, zN, zH, zT]); try exact rfl
    apply al_stepN
    · exact op_string Try.underlying86 Try.underlying9 Try.underlying5 (by first | exact LL.d _ _ | exact LL.own _ _ _ | exact LL.nil _ | assumption) (by rfl)
    · rfl
    · (try dsimp only [zS, zN, zH, zT]); try exact rfl
    apply al_stepN
    · exact op_assign_tmp (by rfl)
    · rfl
    · (try dsimp only [zS, zN, zH, zT]); try exact rfl
    apply al_end
    · (try dsimp only [zS, zN, zH, zT]); try exact rfl
    refine then_normal ?_
    refine aw_ret ?_
    refine retPost1 rfl rfl ?_
    exact ⟨by simp [entryL], ext3 Hs _ _ _⟩
  · skip
    (try simp only [decide_eq_true_eq, decide_eq_false_iff_not, beq_iff_eq, beq_eq_false_iff_ne, Bool.not_eq_true', Bool.not_eq_false', bne_iff_ne, ne_eq, Decidable.not_not, bne_eq_false_iff_eq, List.length_map] at hc1)
    have hu : u = true := by simpa using hc1
    subst hu
    refine aw_skip ?_
    refine then_normal ?_
    refine aw_seq ?_
    refine aw_region ?_
    apply al_stepN
    · exact op_move_tmp (by rfl)
    · rfl
    · (try dsimp only [zS, zN, zH, zT]); try exact rfl
    apply al_stepN
    · exact op_string Try.underlying86 Try.underlying9 Try.underlying5 (by first | exact LL.d _ _ | exact LL.own _ _ _ | exact LL.nil _ | assumption) (by rfl)
    · rfl
    · (try dsimp only [zS, zN, zH, zT]); try exact rfl
    apply al_stepN
    · exact op_assign_tmp (by rfl)
    · rfl
    · (try dsimp only [zS, zN, zH, zT]); try exact rfl
    apply al_end
    · (try dsimp only [zS, zN, zH, zT]); try exact rfl
    refine then_normal ?_
    refine aw_ret ?_
    refine retPost1 rfl rfl ?_
    exact ⟨by simp [entryL], ext2 Hs _ _⟩
end Go.Proofs.Ytadkehaagkjbhaa
