/- What the functions of layer 2 that read come to: bytes and kinds. -/
import Derived.Test.YtadkehaagkjbhaaOctW
import Derived.Test.YtadkehaagkjbhaaValAV
import Derived.Test.YtadkehaagkjbhaaValBits
import Derived.KernelRfl
namespace Go.Proofs.Ytadkehaagkjbhaa
open Go.AV Go.AV.Ord Go.AV.Oct Go.AV.Val
set_option linter.unusedVariables false
set_option linter.unusedSimpArgs false
/- One byte as it stands. -/
set_option maxRecDepth 100000 in
theorem raw1_ok (Hs : HS) (id : Nat) (c : UInt8) (r : List UInt8) (hb : Hs.blks[id]? = some (RB 150 (c :: r, false))) : ACalls Try.prog 149 [.ptr id 0, .d (I 1)] Hs (Ret (.d (S [c])) (Hs.setB id (RB 150 (r, false)))) := by
  have hb : Hs.blks[id]? = some ⟨150, [.d (S (c :: r)), .d (TF false)], false⟩ := hb
  refine acalls_of_aw Try.func149 rfl ?_
  refine aw_start (T' := [.ptr id 0, .d (I 1), .un, .un, .un, .un, .un, .un, .un, .un, .un, .un, .un, .un, .un, .un, .un, .un, .un, .un, .un, .un, .un, .un, .un, .un, .un, .un, .un, .un, .un, .un, .un, .un, .un, .un, .un, .un, .un, .un, .un, .un, .un]) rfl ?_
  refine aw_seq ?_
  refine aw_region ?_
  apply al_stepN
  · exact op_assign_const (by rfl)
  · rfl
  · (try dsimp only [zS, zN, zH, zT]); try exact rfl
  apply al_end
  · (try dsimp only [zS, zN, zH, zT]); try exact rfl
  refine then_normal ?_
  refine aw_seq ?_
  refine aw_seq ?_
  refine aw_region ?_
  apply al_stepN
  · exact op_move_tmp (by rfl)
  · rfl
  · (try dsimp only [zS, zN, zH, zT]); try exact rfl
  apply al_stepN
  · exact op_ptr_nil Try.underlying91 (by rfl) (by rfl)
  · rfl
  · (try dsimp only [zS, zN, zH, zT]); try exact rfl
  apply al_stepN
  · exact op_move_tmp (by rfl)
  · rfl
  · (try dsimp only [zS, zN, zH, zT]); try exact rfl
  apply al_wantedN
  · rfl
  · rfl
  · rfl
  · exact op_move_tmp (by rfl)
  · (try dsimp only [zS, zN, zH, zT]); try exact rfl
  apply al_wantedN
  · rfl
  · rfl
  · rfl
  · first | exact op_nilCheck_ptr (by rfl) | exact op_nilCheck_elt (by rfl)
  · (try dsimp only [zS, zN, zH, zT]); try exact rfl
  apply al_wantedN
  · rfl
  · rfl
  · rfl
  · first | exact op_fieldAddr_ptr Try.underlying150 rfl Sz4 (by rfl) (by rfl) | exact op_fieldAddr_elt Try.underlying150 rfl Sz4 (by rfl) (by rfl) (by rfl)
  · (try dsimp only [zS, zN, zH, zT]); try exact rfl
  apply al_wantedN
  · rfl
  · rfl
  · rfl
  · first | exact op_load_elt Try.underlying4 (by rfl) (by rfl) (by rfl) | exact op_load_ptr Try.underlying4 (by rfl) (by rfl) hb (by rfl)
  · (try dsimp only [zS, zN, zH, zT]); try exact rfl
  apply al_stepN
  · exact op_pick_ff (by rfl) (val_tmp (by rfl))
  · rfl
  · (try dsimp only [zS, zN, zH, zT]); try exact rfl
  apply al_stepN
  · exact op_move_tmp (by rfl)
  · rfl
  · (try dsimp only [zS, zN, zH, zT]); try exact rfl
  apply al_wantedN
  · rfl
  · rfl
  · rfl
  · exact op_move_tmp (by rfl)
  · (try dsimp only [zS, zN, zH, zT]); try exact rfl
  apply al_wantedN
  · rfl
  · rfl
  · rfl
  · exact op_ltI (by rfl) (by rfl)
  · (try dsimp only [zS, zN, zH, zT]); try exact rfl
  apply al_stepN
  · exact op_pick_ff (by rfl) (val_tmp (by rfl))
  · rfl
  · (try dsimp only [zS, zN, zH, zT]); try exact rfl
  apply al_end
  · (try dsimp only [zS, zN, zH, zT]); try exact rfl
  refine then_normal ?_
  refine aw_cond rfl (fun h => by cases h) (fun _ => ?_)
  refine aw_skip ?_
  refine then_normal ?_
  refine aw_seq ?_
  refine aw_seq ?_
  refine aw_region ?_
  apply al_stepN
  · exact op_move_tmp (by rfl)
  · rfl
  · (try dsimp only [zS, zN, zH, zT]); try exact rfl
  apply al_stepN
  · exact op_move_tmp (by rfl)
  · rfl
  · (try dsimp only [zS, zN, zH, zT]); try exact rfl
  apply al_stepN
  · first | exact op_nilCheck_ptr (by rfl) | exact op_nilCheck_elt (by rfl)
  · rfl
  · (try dsimp only [zS, zN, zH, zT]); try exact rfl
  apply al_stepN
  · first | exact op_fieldAddr_ptr Try.underlying150 rfl Sz9 (by rfl) (by rfl) | exact op_fieldAddr_elt Try.underlying150 rfl Sz9 (by rfl) (by rfl) (by rfl)
  · rfl
  · (try dsimp only [zS, zN, zH, zT]); try exact rfl
  apply al_stepN
  · first | exact op_load_elt Try.underlying9 (by rfl) (by rfl) (by rfl) | exact op_load_ptr Try.underlying9 (by rfl) (by rfl) hb (by rfl)
  · rfl
  · (try dsimp only [zS, zN, zH, zT]); try exact rfl
  apply al_stepN
  · exact op_lenS Try.underlying9 (by rfl)
  · rfl
  · (try dsimp only [zS, zN, zH, zT]); try exact rfl
  apply al_stepN
  · exact op_gtI (by rfl) (by rfl)
  · rfl
  · (try dsimp only [zS, zN, zH, zT]); try exact rfl
  apply al_end
  · (try dsimp only [zS, zN, zH, zT]); try exact rfl
  refine then_normal ?_
  refine aw_cond rfl (fun hc2 => ?_) (fun hc2 => ?_)
  · skip
    (try simp only [decide_eq_true_eq, decide_eq_false_iff_not, beq_iff_eq, beq_eq_false_iff_ne, Bool.not_eq_true', Bool.not_eq_false', bne_iff_ne, ne_eq, Decidable.not_not, bne_eq_false_iff_eq, List.length_map] at hc2)
    exact absurd hc2 (by simp only [List.length_cons]; omega)
  · skip
    (try simp only [decide_eq_true_eq, decide_eq_false_iff_not, beq_iff_eq, beq_eq_false_iff_ne, Bool.not_eq_true', Bool.not_eq_false', bne_iff_ne, ne_eq, Decidable.not_not, bne_eq_false_iff_eq, List.length_map] at hc2)
    refine aw_skip ?_
    refine then_normal ?_
    refine aw_seq ?_
    refine aw_region ?_
    apply al_stepN
    · exact op_move_tmp (by rfl)
    · rfl
    · (try dsimp only [zS, zN, zH, zT]); try exact rfl
    apply al_stepN
    · first | exact op_nilCheck_ptr (by rfl) | exact op_nilCheck_elt (by rfl)
    · rfl
    · (try dsimp only [zS, zN, zH, zT]); try exact rfl
    apply al_stepN
    · first | exact op_fieldAddr_ptr Try.underlying150 rfl Sz9 (by rfl) (by rfl) | exact op_fieldAddr_elt Try.underlying150 rfl Sz9 (by rfl) (by rfl) (by rfl)
    · rfl
    · (try dsimp only [zS, zN, zH, zT]); try exact rfl
    apply al_stepN
    · first | exact op_load_elt Try.underlying9 (by rfl) (by rfl) (by rfl) | exact op_load_ptr Try.underlying9 (by rfl) (by rfl) hb (by rfl)
    · rfl
    · (try dsimp only [zS, zN, zH, zT]); try exact rfl
    apply al_stepN
    · exact op_move_tmp (by rfl)
    · rfl
    · (try dsimp only [zS, zN, zH, zT]); try exact rfl
    apply al_stepN
    · exact op_sliceS0 [c] Try.underlying9 (by rfl) (by rfl) (by decide) (by simp only [List.length_cons]; omega) (by rfl)
    · rfl
    · (try dsimp only [zS, zN, zH, zT]); try exact rfl
    apply al_stepN
    · exact op_assign_tmp (by rfl)
    · rfl
    · (try dsimp only [zS, zN, zH, zT]); try exact rfl
    apply al_end
    · (try dsimp only [zS, zN, zH, zT]); try exact rfl
    refine then_normal ?_
    refine aw_seq ?_
    refine aw_region ?_
    apply al_stepN
    · exact op_move_tmp (by rfl)
    · rfl
    · (try dsimp only [zS, zN, zH, zT]); try exact rfl
    apply al_stepN
    · exact op_move_tmp (by rfl)
    · rfl
    · (try dsimp only [zS, zN, zH, zT]); try exact rfl
    apply al_stepN
    · first | exact op_nilCheck_ptr (by rfl) | exact op_nilCheck_elt (by rfl)
    · rfl
    · (try dsimp only [zS, zN, zH, zT]); try exact rfl
    apply al_stepN
    · first | exact op_fieldAddr_ptr Try.underlying150 rfl Sz9 (by rfl) (by rfl) | exact op_fieldAddr_elt Try.underlying150 rfl Sz9 (by rfl) (by rfl) (by rfl)
    · rfl
    · (try dsimp only [zS, zN, zH, zT]); try exact rfl
    apply al_stepN
    · first | exact op_load_elt Try.underlying9 (by rfl) (by rfl) (by rfl) | exact op_load_ptr Try.underlying9 (by rfl) (by rfl) hb (by rfl)
    · rfl
    · (try dsimp only [zS, zN, zH, zT]); try exact rfl
    apply al_stepN
    · exact op_move_tmp (by rfl)
    · rfl
    · (try dsimp only [zS, zN, zH, zT]); try exact rfl
    apply al_stepN
    · exact op_sliceS1 r Try.underlying9 (by rfl) (by rfl) (by decide) (by simp only [List.length_cons]; omega) (by rfl)
    · rfl
    · (try dsimp only [zS, zN, zH, zT]); try exact rfl
    apply al_stepN
    · first | exact op_nilCheck_ptr (by rfl) | exact op_nilCheck_elt (by rfl)
    · rfl
    · (try dsimp only [zS, zN, zH, zT]); try exact rfl
    apply al_stepN
    · first | exact op_fieldAddr_ptr Try.underlying150 rfl Sz9 (by rfl) (by rfl) | exact op_fieldAddr_elt Try.underlying150 rfl Sz9 (by rfl) (by rfl) (by rfl)
    · rfl
    · (try dsimp only [zS, zN, zH, zT]); try exact rfl
    apply al_stepN
    · exact op_storeB (vs := [.d (S r)]) (b' := ⟨150, [.d (S r), .d (TF false)], false⟩) (H' := Hs.setB id ⟨150, [.d (S r), .d (TF false)], false⟩) Sz9 (by rfl) hb (by intro h; cases h) (by rfl) (by rfl) (Nat.le_of_ble_eq_true rfl) (by simp [AV.one, DV.one, TF, S, I, BY]) (by rfl) (by rfl) rfl
    · rfl
    · (try dsimp only [zS, zN, zH, zT]); try exact rfl
    apply al_end
    · (try dsimp only [zS, zN, zH, zT]); try exact rfl
    refine then_normal ?_
    refine aw_seq ?_
    refine aw_region ?_
    apply al_stepN
    · exact op_move_tmp (by rfl)
    · rfl
    · (try dsimp only [zS, zN, zH, zT]); try exact rfl
    apply al_stepN
    · exact op_assign_tmp (by rfl)
    · rfl
    · (try dsimp only [zS, zN, zH, zT]); try exact rfl
    apply al_end
    · (try dsimp only [zS, zN, zH, zT]); try exact rfl
    refine then_normal ?_
    refine aw_ret ?_
    refine retPost1 rfl rfl ?_
    exact ⟨rfl, rfl⟩
/- A byte of a reader of values. -/
set_option maxRecDepth 100000 in
theorem byte_ok (Hs : HS) (rid q : Nat) (c : UInt8) (r : List UInt8) (e : Int) (h : Rd Hs 150 144 rid q ((c :: r, false), e)) : ACalls Try.prog 137 [.ptr q 0] Hs (Ret (.d (I c.toNat)) (stH Hs 150 144 rid q ((r, false), e))) := by
  have hcl := c.toNat_lt
  refine acalls_of_aw Try.func137 rfl ?_
  refine aw_start (T' := [.ptr q 0, .un, .un, .un, .un, .un, .un, .un, .un, .un, .un, .un, .un, .un, .un]) rfl ?_
  refine aw_seq ?_
  refine aw_region ?_
  apply al_stepN
  · exact op_assign_const (by rfl)
  · rfl
  · (try dsimp only [zS, zN, zH, zT]); try exact rfl
  apply al_end
  · (try dsimp only [zS, zN, zH, zT]); try exact rfl
  refine then_normal ?_
  refine aw_seq ?_
  refine aw_region ?_
  apply al_stepN
  · exact op_move_tmp (by rfl)
  · rfl
  · (try dsimp only [zS, zN, zH, zT]); try exact rfl
  apply al_stepN
  · first | exact op_nilCheck_ptr (by rfl) | exact op_nilCheck_elt (by rfl)
  · rfl
  · (try dsimp only [zS, zN, zH, zT]); try exact rfl
  apply al_stepN
  · first | exact op_fieldAddr_ptr Try.underlying144 rfl Sz91 (by rfl) (by rfl) | exact op_fieldAddr_elt Try.underlying144 rfl Sz91 (by rfl) (by rfl) (by rfl)
  · rfl
  · (try dsimp only [zS, zN, zH, zT]); try exact rfl
  apply al_stepN
  · first | exact op_load_elt Try.underlying91 (by rfl) (by rfl) (by rfl) | exact op_load_ptr Try.underlying91 (by rfl) (by rfl) h.q (by rfl)
  · rfl
  · (try dsimp only [zS, zN, zH, zT]); try exact rfl
  apply al_stepN
  · exact op_callF Try.func149 (by rfl) (by rfl) (.tmp (by rfl) (.const (by rfl) .nil)) (raw1_ok _ rid c r h.r)
  · rfl
  · (try dsimp only [zS, zN, zH, zT]); try exact rfl
  apply al_stepN
  · exact op_assign_tmp (by rfl)
  · rfl
  · (try dsimp only [zS, zN, zH, zT]); try exact rfl
  apply al_end
  · (try dsimp only [zS, zN, zH, zT]); try exact rfl
  refine then_normal ?_
  refine aw_seq ?_
  refine aw_seq ?_
  refine aw_region ?_
  apply al_stepN
  · exact op_move_tmp (by rfl)
  · rfl
  · (try dsimp only [zS, zN, zH, zT]); try exact rfl
  apply al_stepN
  · exact op_lenS Try.underlying9 (by rfl)
  · rfl
  · (try dsimp only [zS, zN, zH, zT]); try exact rfl
  apply al_stepN
  · exact op_eqI (by rfl) (by rfl)
  · rfl
  · (try dsimp only [zS, zN, zH, zT]); try exact rfl
  apply al_end
  · (try dsimp only [zS, zN, zH, zT]); try exact rfl
  refine then_normal ?_
  refine aw_cond rfl (fun hc1 => ?_) (fun hc1 => ?_)
  · skip
    (try simp only [decide_eq_true_eq, decide_eq_false_iff_not, beq_iff_eq, beq_eq_false_iff_ne, Bool.not_eq_true', Bool.not_eq_false', bne_iff_ne, ne_eq, Decidable.not_not, bne_eq_false_iff_eq, List.length_map] at hc1)
    exact absurd hc1 (by simp)
  · skip
    (try simp only [decide_eq_true_eq, decide_eq_false_iff_not, beq_iff_eq, beq_eq_false_iff_ne, Bool.not_eq_true', Bool.not_eq_false', bne_iff_ne, ne_eq, Decidable.not_not, bne_eq_false_iff_eq, List.length_map] at hc1)
    refine aw_skip ?_
    refine then_normal ?_
    refine aw_seq ?_
    refine aw_region ?_
    apply al_stepN
    · exact op_move_tmp (by rfl)
    · rfl
    · (try dsimp only [zS, zN, zH, zT]); try exact rfl
    apply al_stepN
    · exact op_indexS Try.underlying9 (by rfl) (by rfl) (by decide) (show [c][(0 : Int).toNat]? = some c by rfl)
    · rfl
    · (try dsimp only [zS, zN, zH, zT]); try exact rfl
    apply al_stepN
    · first | exact op_convI (by rw [Try.underlying5]; rfl) Try.underlying3 (by rfl) (wrap_i64 ⟨by omega, by omega⟩) | exact op_convI (by rw [Try.underlying5]; rfl) Try.underlying3 (by rfl) (by rfl)
    · rfl
    · (try dsimp only [zS, zN, zH, zT]); try exact rfl
    apply al_stepN
    · exact op_assign_tmp (by rfl)
    · rfl
    · (try dsimp only [zS, zN, zH, zT]); try exact rfl
    apply al_end
    · (try dsimp only [zS, zN, zH, zT]); try exact rfl
    refine then_normal ?_
    refine aw_ret ?_
    refine retPost1 rfl rfl ?_
    exact ⟨rfl, h.set1 _⟩
/- A kind. -/
set_option maxRecDepth 100000 in
theorem kind_ok (Hs : HS) (rid q : Nat) (s : List UInt8) (e : Int) (h : Rd Hs 150 144 rid q ((s, false), e)) : ACalls Try.prog 115 [.ptr q 0] Hs (Ret (.d (I (rKind ((s, false), e)).1)) (stH Hs 150 144 rid q (rKind ((s, false), e)).2)) := by
  refine acalls_of_aw Try.func115 rfl ?_
  refine aw_start (T' := [.ptr q 0, .un, .un, .un, .un, .un, .un, .un, .un, .un, .un, .un, .un, .un, .un, .un, .un, .un, .un, .un, .un]) rfl ?_
  refine aw_seq ?_
  refine aw_region ?_
  apply al_stepN
  · exact op_assign_const (by rfl)
  · rfl
  · (try dsimp only [zS, zN, zH, zT]); try exact rfl
  apply al_end
  · (try dsimp only [zS, zN, zH, zT]); try exact rfl
  refine then_normal ?_
  refine aw_seq ?_
  refine aw_seq ?_
  refine aw_region ?_
  apply al_stepN
  · exact op_move_tmp (by rfl)
  · rfl
  · (try dsimp only [zS, zN, zH, zT]); try exact rfl
  apply al_stepN
  · first | exact op_nilCheck_ptr (by rfl) | exact op_nilCheck_elt (by rfl)
  · rfl
  · (try dsimp only [zS, zN, zH, zT]); try exact rfl
  apply al_stepN
  · first | exact op_fieldAddr_ptr Try.underlying144 rfl Sz91 (by rfl) (by rfl) | exact op_fieldAddr_elt Try.underlying144 rfl Sz91 (by rfl) (by rfl) (by rfl)
  · rfl
  · (try dsimp only [zS, zN, zH, zT]); try exact rfl
  apply al_stepN
  · first | exact op_load_elt Try.underlying91 (by rfl) (by rfl) (by rfl) | exact op_load_ptr Try.underlying91 (by rfl) (by rfl) h.q (by rfl)
  · rfl
  · (try dsimp only [zS, zN, zH, zT]); try exact rfl
  apply al_stepN
  · exact op_callF Try.func94 (by rfl) (by rfl) (.tmp (by rfl) .nil) (left_ok _ rid s false h.r)
  · rfl
  · (try dsimp only [zS, zN, zH, zT]); try exact rfl
  apply al_stepN
  · exact op_eqI (by rfl) (by rfl)
  · rfl
  · (try dsimp only [zS, zN, zH, zT]); try exact rfl
  apply al_end
  · (try dsimp only [zS, zN, zH, zT]); try exact rfl
  refine then_normal ?_
  refine aw_cond rfl (fun hc1 => ?_) (fun hc1 => ?_)
  · skip
    (try simp only [decide_eq_true_eq, decide_eq_false_iff_not, beq_iff_eq, beq_eq_false_iff_ne, Bool.not_eq_true', Bool.not_eq_false', bne_iff_ne, ne_eq, Decidable.not_not, bne_eq_false_iff_eq, List.length_map] at hc1)
    have hs0 : s = [] := List.length_eq_zero_iff.1 (by simpa using hc1)
    subst hs0
    refine aw_seq ?_
    refine aw_region ?_
    apply al_stepN
    · exact op_move_tmp (by rfl)
    · rfl
    · (try dsimp only [zS, zN, zH, zT]); try exact rfl
    apply al_stepN
    · first | exact op_nilCheck_ptr (by rfl) | exact op_nilCheck_elt (by rfl)
    · rfl
    · (try dsimp only [zS, zN, zH, zT]); try exact rfl
    apply al_stepN
    · first | exact op_fieldAddr_ptr Try.underlying144 rfl Sz26 (by rfl) (by rfl) | exact op_fieldAddr_elt Try.underlying144 rfl Sz26 (by rfl) (by rfl) (by rfl)
    · rfl
    · (try dsimp only [zS, zN, zH, zT]); try exact rfl
    apply al_stepN
    · exact op_storeB (vs := [.d (I 2)]) (b' := (VB 144 rid 2)) (H' := stH Hs 150 144 rid q (([], false), 2)) Sz26 (by rfl) h.q (by intro h; cases h) (by rfl) (by rfl) (Nat.le_of_ble_eq_true rfl) (by simp [AV.one, DV.one, TF, S, I, BY]) (by rfl) (by rfl) (h.set2 2)
    · rfl
    · (try dsimp only [zS, zN, zH, zT]); try exact rfl
    apply al_end
    · (try dsimp only [zS, zN, zH, zT]); try exact rfl
    refine then_normal ?_
    refine aw_seq ?_
    refine aw_region ?_
    apply al_stepN
    · exact op_assign_const (by rfl)
    · rfl
    · (try dsimp only [zS, zN, zH, zT]); try exact rfl
    apply al_end
    · (try dsimp only [zS, zN, zH, zT]); try exact rfl
    refine then_normal ?_
    refine aw_ret ?_
    refine then_ret ?_
    refine retPost1 rfl rfl ?_
    exact ⟨rfl, rfl⟩
  · skip
    (try simp only [decide_eq_true_eq, decide_eq_false_iff_not, beq_iff_eq, beq_eq_false_iff_ne, Bool.not_eq_true', Bool.not_eq_false', bne_iff_ne, ne_eq, Decidable.not_not, bne_eq_false_iff_eq, List.length_map] at hc1)
    obtain ⟨c, r, rfl⟩ := List.exists_cons_of_ne_nil (show s ≠ [] by intro e; subst e; exact hc1 rfl)
    refine aw_skip ?_
    refine then_normal ?_
    refine aw_seq ?_
    refine aw_region ?_
    apply al_stepN
    · exact op_move_tmp (by rfl)
    · rfl
    · (try dsimp only [zS, zN, zH, zT]); try exact rfl
    apply al_stepN
    · exact op_callF Try.func137 (by rfl) (by rfl) (.tmp (by rfl) .nil) (byte_ok _ rid q c r e h)
    · rfl
    · (try dsimp only [zS, zN, zH, zT]); try exact rfl
    apply al_stepN
    · exact op_assign_tmp (by rfl)
    · rfl
    · (try dsimp only [zS, zN, zH, zT]); try exact rfl
    apply al_end
    · (try dsimp only [zS, zN, zH, zT]); try exact rfl
    refine then_normal ?_
    refine aw_seq ?_
    refine aw_seq ?_
    refine aw_region ?_
    apply al_stepN
    · exact op_move_tmp (by rfl)
    · rfl
    · (try dsimp only [zS, zN, zH, zT]); try exact rfl
    apply al_stepN
    · exact op_gtI (by rfl) (by rfl)
    · rfl
    · (try dsimp only [zS, zN, zH, zT]); try exact rfl
    apply al_end
    · (try dsimp only [zS, zN, zH, zT]); try exact rfl
    refine then_normal ?_
    refine aw_cond rfl (fun hc2 => ?_) (fun hc2 => ?_)
    · skip
      (try simp only [decide_eq_true_eq, decide_eq_false_iff_not, beq_iff_eq, beq_eq_false_iff_ne, Bool.not_eq_true', Bool.not_eq_false', bne_iff_ne, ne_eq, Decidable.not_not, bne_eq_false_iff_eq, List.length_map] at hc2)
      have hc5 : 5 < c.toNat := by omega
      have ek : rKind ((c :: r, false), e) = (0, ((r, false), 2)) := by simp [rKind, hc5]
      refine aw_seq ?_
      refine aw_region ?_
      apply al_stepN
      · exact op_move_tmp (by rfl)
      · rfl
      · (try dsimp only [zS, zN, zH, zT]); try exact rfl
      apply al_stepN
      · first | exact op_nilCheck_ptr (by rfl) | exact op_nilCheck_elt (by rfl)
      · rfl
      · (try dsimp only [zS, zN, zH, zT]); try exact rfl
      apply al_stepN
      · first | exact op_fieldAddr_ptr Try.underlying144 rfl Sz26 (by rfl) (by rfl) | exact op_fieldAddr_elt Try.underlying144 rfl Sz26 (by rfl) (by rfl) (by rfl)
      · rfl
      · (try dsimp only [zS, zN, zH, zT]); try exact rfl
      apply al_stepN
      · exact op_storeB (vs := [.d (I 2)]) (b' := (VB 144 rid 2)) (H' := stH Hs 150 144 rid q ((r, false), 2)) Sz26 (by rfl) (h.stH _).q (by intro h; cases h) (by rfl) (by rfl) (Nat.le_of_ble_eq_true rfl) (by simp [AV.one, DV.one, TF, S, I, BY]) (by rfl) (by rfl) (((h.stH ((r, false), e)).set2 2).trans (stH_stH h.ne))
      · rfl
      · (try dsimp only [zS, zN, zH, zT]); try exact rfl
      apply al_end
      · (try dsimp only [zS, zN, zH, zT]); try exact rfl
      refine then_normal ?_
      refine aw_seq ?_
      refine aw_region ?_
      apply al_stepN
      · exact op_assign_const (by rfl)
      · rfl
      · (try dsimp only [zS, zN, zH, zT]); try exact rfl
      apply al_end
      · (try dsimp only [zS, zN, zH, zT]); try exact rfl
      refine then_normal ?_
      refine aw_ret ?_
      refine then_ret ?_
      refine retPost1 rfl rfl ?_
      rw [ek]; exact ⟨rfl, rfl⟩
    · skip
      (try simp only [decide_eq_true_eq, decide_eq_false_iff_not, beq_iff_eq, beq_eq_false_iff_ne, Bool.not_eq_true', Bool.not_eq_false', bne_iff_ne, ne_eq, Decidable.not_not, bne_eq_false_iff_eq, List.length_map] at hc2)
      have hc5 : ¬ 5 < c.toNat := by omega
      have ek : rKind ((c :: r, false), e) = ((c.toNat : Int), ((r, false), e)) := by simp [rKind, hc5]
      refine aw_skip ?_
      refine then_normal ?_
      refine aw_seq ?_
      refine aw_region ?_
      apply al_stepN
      · exact op_move_tmp (by rfl)
      · rfl
      · (try dsimp only [zS, zN, zH, zT]); try exact rfl
      apply al_stepN
      · exact op_assign_tmp (by rfl)
      · rfl
      · (try dsimp only [zS, zN, zH, zT]); try exact rfl
      apply al_end
      · (try dsimp only [zS, zN, zH, zT]); try exact rfl
      refine then_normal ?_
      refine aw_ret ?_
      refine retPost1 rfl rfl ?_
      rw [ek]; exact ⟨rfl, rfl⟩
theorem kind_at {Hs : HS} {rid q : Nat} {s : List UInt8} {e k : Int} {st : DS} (hk : rKind ((s, false), e) = (k, st)) (h : Rd Hs 150 144 rid q ((s, false), e)) : ACalls Try.prog 115 [.ptr q 0] Hs (Ret (.d (I k)) (stH Hs 150 144 rid q st)) := by
  have h' := kind_ok Hs rid q s e h
  rwa [hk] at h'
end Go.Proofs.Ytadkehaagkjbhaa
