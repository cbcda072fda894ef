/- What the law ValLists comes to. -/
import Derived.Test.YtadkehaagkjbhaaValU
import Derived.Test.YtadkehaagkjbhaaValLaw
import Derived.KernelRfl
namespace Go.Proofs.Ytadkehaagkjbhaa
open Go.AV Go.AV.Ord Go.AV.Oct Go.AV.Val
set_option linter.unusedVariables false
set_option linter.unusedSimpArgs false
/- A list of numbers as a value. -/
set_option maxRecDepth 100000 in
theorem nums_ok (Hs : HS) (l : List Int) (hl : l.length ≤ 30) : ACalls Try.prog 48 [.d (.lst 1 (l.map I))] Hs (Ret (.d (.agg (vC (numsV l)))) Hs) := by
  refine ACalls.tidy1 ?_
  suffices h : ACalls Try.prog 48 [.d (.lst 1 (l.map I))] Hs (fun av H' => Weak av (.d (.agg (vC (numsV l)))) ∧ Ext Hs H') from h.weak fun v H' ⟨h1, h2⟩ => ⟨_, h1, rfl, h2⟩
  refine acalls_of_awC Try.func48 rfl ?_
  refine aw_start (T' := [.d (.lst 1 (l.map I)), .un, .un, .un, .un, .un, .un, .un, .un, .un, .un, .un, .un, .un, .un, .un, .un, .un, .un, .un, .un]) rfl ?_
  refine aw_seq ?_
  refine aw_region ?_
  apply al_stepN
  · exact op_alloc (Zr37) (by rfl)
  · rfl
  · (try dsimp only [zS, zN, zH, zT]); try exact rfl
  apply al_end
  · (try dsimp only [zS, zN, zH, zT]); try exact rfl
  refine then_normal ?_
  refine aw_seq ?_
  refine aw_region ?_
  apply al_stepN
  · exact op_lit Try.underlying34 ZS37 (.nil _) (by rfl) (by simp) (by simp [flat]) (by decide)
  · rfl
  · (try dsimp only [zS, zN, zH, zT]); try exact rfl
  apply al_stepN
  · exact op_assign_tmp (by rfl)
  · rfl
  · (try dsimp only [zS, zN, zH, zT]); try exact rfl
  apply al_end
  · (try dsimp only [zS, zN, zH, zT]); try exact rfl
  refine then_normal ?_
  refine aw_seq ?_
  refine aw_seq ?_
  refine aw_region ?_
  apply al_stepN
  · exact op_move_tmp (by rfl)
  · rfl
  · (try dsimp only [zS, zN, zH, zT]); try exact rfl
  apply al_stepN
  · exact op_lenL Try.underlying78 (by first | exact LL.d _ _ | exact LL.own _ _ _ | exact LL.nil _ | assumption)
  · rfl
  · (try dsimp only [zS, zN, zH, zT]); try exact rfl
  apply al_stepN
  · exact op_move_const (by rfl)
  · rfl
  · (try dsimp only [zS, zN, zH, zT]); try exact rfl
  apply al_end
  · (try dsimp only [zS, zN, zH, zT]); try exact rfl
  refine then_normal ?_
  refine aw_block ?_
  apply aw_loopF (fun n T H => ∃ (k : Nat) (t : Option Nat), T = [.un, .un, .ptr Hs.nb 0, .own t 6 (((l.take k).map ofInt).map vD), .un, .un, .un, .d (.lst 1 (l.map I)), .d (I (l.map I).length), .d (I k), .un, .un, .un, .un, .un, .un, .un, .un, .un, .un, .un] ∧ k ≤ l.length ∧ n = l.length - k ∧ GL Hs H (.own t 6 (((l.take k).map ofInt).map vD)) t 6 (((l.take k).map ofInt).map vD) ∧ Ext Hs H ∧ H.blks[Hs.nb]? = some (vBlk 37 0 false 0 [] nilS nilS)) (l.length) [false, false, true, true, false, false, false, true, true, true, false, false, false, false, false, false, false, false, false, false, false]
  · (try dsimp only [maskT]); try exact rfl
  · rfl
  · exact ⟨0, none, rfl, by omega, rfl, ⟨.own _ _ _, HS.ok_none _ _, NewTok.none _⟩, (Ext.refl Hs).push _ _, push_at⟩
  rintro n T H ⟨k, t, rfl, hk, rfl, hg, hx, hz⟩
  refine aw_seq ?_
  refine aw_region ?_
  apply al_stepN
  · exact op_ltI (by rfl) (by rfl)
  · rfl
  · (try dsimp only [zS, zN, zH, zT]); try exact rfl
  apply al_end
  · (try dsimp only [zS, zN, zH, zT]); try exact rfl
  refine then_normal ?_
  refine aw_seq ?_
  refine aw_cond rfl (fun hc1 => ?_) (fun hc1 => ?_)
  · skip
    (try simp only [decide_eq_true_eq, decide_eq_false_iff_not, beq_iff_eq, beq_eq_false_iff_ne, Bool.not_eq_true', Bool.not_eq_false', bne_iff_ne, ne_eq, Decidable.not_not, bne_eq_false_iff_eq, List.length_map] at hc1)
    (try simp only [List.length_map] at hc1)
    have hlt : k < l.length := by omega
    obtain ⟨x, hx1⟩ : ∃ x, l[k]? = some x := ⟨_, List.getElem?_eq_getElem hlt⟩
    refine aw_skip ?_
    refine then_normal ?_
    refine aw_seq ?_
    refine aw_block ?_
    refine aw_seq ?_
    refine aw_region ?_
    apply al_stepN
    · exact op_indexAddr Try.underlying78 Sz2 (LL.d _ _) (by rfl) (by omega) (show (l.map I)[((k : Nat) : Int).toNat]? = some (I x) by rw [List.getElem?_map, show ((k : Nat) : Int).toNat = k from rfl, hx1]; rfl) (by rfl)
    · rfl
    · (try dsimp only [zS, zN, zH, zT]); try exact rfl
    apply al_stepN
    · first | exact op_load_elt Try.underlying2 (by rfl) (by rfl) (by rfl) | exact op_load_ptr Try.underlying2 (by rfl) (by rfl) (by rfl) (by rfl)
    · rfl
    · (try dsimp only [zS, zN, zH, zT]); try exact rfl
    apply al_stepN
    · exact op_assign_tmp (by rfl)
    · rfl
    · (try dsimp only [zS, zN, zH, zT]); try exact rfl
    apply al_end
    · (try dsimp only [zS, zN, zH, zT]); try exact rfl
    refine then_normal ?_
    refine aw_region ?_
    apply al_stepN
    · exact op_move_tmp (by rfl)
    · rfl
    · (try dsimp only [zS, zN, zH, zT]); try exact rfl
    apply al_stepN
    · exact op_move_tmp (by rfl)
    · rfl
    · (try dsimp only [zS, zN, zH, zT]); try exact rfl
    apply al_stepN
    · exact op_callF Try.func46 (by rfl) (by rfl) (.tmp (by rfl) .nil) (ofInt_ok _ x)
    · rfl
    · (try dsimp only [zS, zN, zH, zT]); try exact rfl
    apply al_stepN
    · exact op_lit Try.underlying34 ZS37 (.cons (y := vD (ofInt x)) (by rfl) (.nil _)) (by rfl) (lit_v _) (lit_v1 _) (by decide)
    · rfl
    · (try dsimp only [zS, zN, zH, zT]); try exact rfl
    apply al_stepN
    · exact op_append Try.underlying34 Inf37 (by rfl) hg.app (.list _ _ _ _ Try.underlying34 (LL.own _ _ _)) hg.ok (by simp) (by simp; omega) (by simp; omega)
    · rfl
    · (try dsimp only [zS, zN, zH, zT]); try exact rfl
    apply al_stepN
    · exact op_assign_tmp (by rfl)
    · rfl
    · (try dsimp only [zS, zN, zH, zT]); try exact rfl
    apply al_end
    · (try dsimp only [zS, zN, zH, zT]); try exact rfl
    refine inBlock_normal (then_normal ?_)
    refine aw_region ?_
    apply al_stepN
    · first | exact op_add (by rfl) (by rfl) (wrap_i64 ⟨by omega, by omega⟩) | exact op_add (by rfl) (by rfl) (by rfl)
    · rfl
    · (try dsimp only [zS, zN, zH, zT]); try exact rfl
    apply al_stepN
    · exact op_move_tmp (by rfl)
    · rfl
    · (try dsimp only [zS, zN, zH, zT]); try exact rfl
    apply al_end
    · (try dsimp only [zS, zN, zH, zT]); try exact rfl
    apply again_to (l.length - (k + 1)) [false, false, true, true, false, false, false, true, true, true, false, false, false, false, false, false, false, false, false, false, false]
    · (try dsimp only [maskT]); try exact rfl
    · rfl
    · omega
    exact ⟨k + 1, _, by (rw [take_snoc hx1]; simp [vD]) <;> exact ⟨rfl, rfl⟩, by omega, rfl, by rw [take_snoc hx1, List.map_append, List.map_append]; exact GL.step hg (.inl hx) (by simp) rfl, (hx.upN hg.new hg.ok).1, by rw [HS.up_blks]; exact hz⟩
  · skip
    (try simp only [decide_eq_true_eq, decide_eq_false_iff_not, beq_iff_eq, beq_eq_false_iff_ne, Bool.not_eq_true', Bool.not_eq_false', bne_iff_ne, ne_eq, Decidable.not_not, bne_eq_false_iff_eq, List.length_map] at hc1)
    (try simp only [List.length_map] at hc1)
    have hke : k = l.length := by omega
    subst hke
    rw [List.take_length] at hg ⊢
    refine aw_exit ?_
    refine then_exit (again_exit (inBlock_here (then_normal ?_)))
    refine aw_seq ?_
    refine aw_region ?_
    apply al_stepN
    · exact op_move_tmp (by rfl)
    · rfl
    · (try dsimp only [zS, zN, zH, zT]); try exact rfl
    apply al_stepN
    · exact op_callF Try.func47 (by rfl) (by rfl) (.tmp (by rfl) .nil) (ofList_ok _ t (l.map ofInt))
    · rfl
    · (try dsimp only [zS, zN, zH, zT]); try exact rfl
    apply al_stepN
    · exact op_storeV (b' := ⟨37, (vC (numsV l)).map .d, false⟩) (numsV l) Sz37 (by rfl) hz (by rfl) (Nat.le_of_ble_eq_true rfl) (by rfl) (by rw [vC_eq]; rfl)
    · rfl
    · (try dsimp only [zS, zN, zH, zT]); try exact rfl
    apply al_end
    · (try dsimp only [zS, zN, zH, zT]); try exact rfl
    refine then_normal ?_
    refine aw_ret ?_
    refine retC1 rfl (.cells Try.underlying37 (by rfl) Sz37 (by rfl) (setB_at hz) (by show 0 + 6 ≤ ((vC (numsV l)).map AV.d).length; rw [List.length_map, vC_len]; exact Nat.le_refl _) (by rfl)) ?_
    exact ⟨weak_take _, hx.setB (Nat.le_refl _)⟩
/- The law. -/
set_option maxRecDepth 100000 in
theorem valLists_walk (Hs : HS) (a b : List Int) : ACalls Try.prog 11 [.d (.lst 1 (a.map I)), .d (.lst 1 (b.map I))] Hs (fun av _ => av = .d (TF true)) := by
  refine acalls_of_aw Try.func11 rfl ?_
  refine aw_start (T' := ((.d (.lst 1 (a.map I))) :: (.d (.lst 1 (b.map I))) :: .un :: .un :: .un :: .un :: .un :: .un :: .un :: .un :: .un :: .un :: .un :: .un :: .un :: .un :: .un :: .un :: .un :: .un :: .un :: .un :: .un :: .un :: .un :: .un :: .un :: .un :: .un :: .un :: .un :: .un :: .un :: .un :: .un :: .un :: .un :: .un :: .un :: .un :: .un :: .un :: .un :: .un :: .un :: .un :: .un :: .un :: .un :: .un :: .un :: .un :: .un :: .un :: .un :: .un :: .un :: .un :: .un :: .un :: .un :: .un :: .un :: .un :: .un :: .un :: .un :: .un :: .un :: .un :: .un :: .un :: .un :: .un :: .un :: .un :: .un :: .un :: .un :: .un :: .un :: .un :: .un :: .un :: .un :: .un :: .un :: .un :: .un :: .un :: .un :: .un :: .un :: .un :: [])) rfl ?_
  refine aw_seq ?_
  refine aw_region ?_
  apply al_stepN
  · exact op_assign_const (by rfl)
  · rfl
  · (try dsimp only [zS, zN, zH, zT]); try exact rfl
  apply al_end
  · (try dsimp only [zS, zN, zH, zT]); try exact rfl
  refine then_normal ?_
  refine aw_seq ?_
  refine aw_seq ?_
  refine aw_region ?_
  apply al_stepN
  · exact op_callF Try.func40 (by rfl) (by rfl) .nil (vhead_ok _)
  · rfl
  · (try dsimp only [zS, zN, zH, zT]); try exact rfl
  apply al_stepN
  · exact op_not (by rfl)
  · rfl
  · (try dsimp only [zS, zN, zH, zT]); try exact rfl
  apply al_end
  · (try dsimp only [zS, zN, zH, zT]); try exact rfl
  refine then_normal ?_
  refine aw_cond rfl (fun hc1 => ?_) (fun hc1 => ?_)
  · skip
    (try simp only [decide_eq_true_eq, decide_eq_false_iff_not, beq_iff_eq, beq_eq_false_iff_ne, Bool.not_eq_true', Bool.not_eq_false', bne_iff_ne, ne_eq, Decidable.not_not, bne_eq_false_iff_eq, List.length_map] at hc1)
    exact absurd hc1 (by decide)
  · skip
    (try simp only [decide_eq_true_eq, decide_eq_false_iff_not, beq_iff_eq, beq_eq_false_iff_ne, Bool.not_eq_true', Bool.not_eq_false', bne_iff_ne, ne_eq, Decidable.not_not, bne_eq_false_iff_eq, List.length_map] at hc1)
    refine aw_skip ?_
    refine then_normal ?_
    refine aw_seq ?_
    refine aw_seq ?_
    refine aw_region ?_
    apply al_stepN
    · exact op_move_tmp (by rfl)
    · rfl
    · (try dsimp only [zS, zN, zH, zT]); try exact rfl
    apply al_stepN
    · exact op_lenL Try.underlying78 (by first | exact LL.d _ _ | exact LL.own _ _ _ | exact LL.nil _ | assumption)
    · rfl
    · (try dsimp only [zS, zN, zH, zT]); try exact rfl
    apply al_stepN
    · exact op_gtI (by rfl) (by rfl)
    · rfl
    · (try dsimp only [zS, zN, zH, zT]); try exact rfl
    apply al_stepN
    · exact op_move_tmp (by rfl)
    · rfl
    · (try dsimp only [zS, zN, zH, zT]); try exact rfl
    refine al_split 14 rfl (fun hg2 => ?_) (fun hg2 => ?_)
    · skip
      (try simp only [decide_eq_true_eq, decide_eq_false_iff_not, beq_iff_eq, beq_eq_false_iff_ne, Bool.not_eq_true', Bool.not_eq_false', bne_iff_ne, ne_eq, Decidable.not_not, bne_eq_false_iff_eq, List.length_map] at hg2)
      apply al_normT
      · (try dsimp only [zS, zN, zH, zT]); try exact rfl
      refine al_unwanted rfl rfl rfl rfl ?_
      apply al_normT
      · (try dsimp only [zS, zN, zH, zT]); try exact rfl
      refine al_unwanted rfl rfl rfl rfl ?_
      apply al_normT
      · (try dsimp only [zS, zN, zH, zT]); try exact rfl
      refine al_unwanted rfl rfl rfl rfl ?_
      apply al_normT
      · (try dsimp only [zS, zN, zH, zT]); try exact rfl
      apply al_stepN
      · exact op_pick_tt (by rfl) (val_const (by rfl))
      · rfl
      · (try dsimp only [zS, zN, zH, zT]); try exact rfl
      apply al_end
      · (try dsimp only [zS, zN, zH, zT]); try exact rfl
      refine then_normal ?_
      refine aw_cond rfl (fun _ => ?_) (fun h => by cases h)
      refine aw_seq ?_
      refine aw_region ?_
      apply al_stepN
      · exact op_assign_const (by rfl)
      · rfl
      · (try dsimp only [zS, zN, zH, zT]); try exact rfl
      apply al_end
      · (try dsimp only [zS, zN, zH, zT]); try exact rfl
      refine then_normal ?_
      refine aw_ret ?_
      refine then_ret ?_
      refine retPost1 rfl rfl ?_
      first | exact rfl | (simp [TF]; done)
    · skip
      (try simp only [decide_eq_true_eq, decide_eq_false_iff_not, beq_iff_eq, beq_eq_false_iff_ne, Bool.not_eq_true', Bool.not_eq_false', bne_iff_ne, ne_eq, Decidable.not_not, bne_eq_false_iff_eq, List.length_map] at hg2)
      have ha30 : a.length ≤ 30 := by (have h : ¬ 30 < (a.length : Int) := by simpa using hg2); omega
      apply al_normT
      · (try dsimp only [zS, zN, zH, zT]); try exact rfl
      apply al_wantedN
      · rfl
      · rfl
      · rfl
      · exact op_move_tmp (by rfl)
      · (try dsimp only [zS, zN, zH, zT]); try exact rfl
      apply al_wantedN
      · rfl
      · rfl
      · rfl
      · exact op_lenL Try.underlying78 (by first | exact LL.d _ _ | exact LL.own _ _ _ | exact LL.nil _ | assumption)
      · (try dsimp only [zS, zN, zH, zT]); try exact rfl
      apply al_wantedN
      · rfl
      · rfl
      · rfl
      · exact op_gtI (by rfl) (by rfl)
      · (try dsimp only [zS, zN, zH, zT]); try exact rfl
      apply al_stepN
      · exact op_pick_ff (by rfl) (val_tmp (by rfl))
      · rfl
      · (try dsimp only [zS, zN, zH, zT]); try exact rfl
      apply al_end
      · (try dsimp only [zS, zN, zH, zT]); try exact rfl
      refine then_normal ?_
      refine aw_cond rfl (fun hc4 => ?_) (fun hc4 => ?_)
      · skip
        (try simp only [decide_eq_true_eq, decide_eq_false_iff_not, beq_iff_eq, beq_eq_false_iff_ne, Bool.not_eq_true', Bool.not_eq_false', bne_iff_ne, ne_eq, Decidable.not_not, bne_eq_false_iff_eq, List.length_map] at hc4)
        refine aw_seq ?_
        refine aw_region ?_
        apply al_stepN
        · exact op_assign_const (by rfl)
        · rfl
        · (try dsimp only [zS, zN, zH, zT]); try exact rfl
        apply al_end
        · (try dsimp only [zS, zN, zH, zT]); try exact rfl
        refine then_normal ?_
        refine aw_ret ?_
        refine then_ret ?_
        refine retPost1 rfl rfl ?_
        first | exact rfl | (simp [TF]; done)
      · skip
        (try simp only [decide_eq_true_eq, decide_eq_false_iff_not, beq_iff_eq, beq_eq_false_iff_ne, Bool.not_eq_true', Bool.not_eq_false', bne_iff_ne, ne_eq, Decidable.not_not, bne_eq_false_iff_eq, List.length_map] at hc4)
        have hb30 : b.length ≤ 30 := by (have h : ¬ 30 < (b.length : Int) := by simpa using hc4); omega
        refine aw_skip ?_
        refine then_normal ?_
        refine aw_seq ?_
        refine aw_region ?_
        apply al_stepN
        · exact op_assign_func
        · rfl
        · (try dsimp only [zS, zN, zH, zT]); try exact rfl
        apply al_end
        · (try dsimp only [zS, zN, zH, zT]); try exact rfl
        refine then_normal ?_
        refine aw_seq ?_
        refine aw_region ?_
        apply al_stepN
        · exact op_assign_const (by rfl)
        · rfl
        · (try dsimp only [zS, zN, zH, zT]); try exact rfl
        apply al_end
        · (try dsimp only [zS, zN, zH, zT]); try exact rfl
        refine then_normal ?_
        apply aw_cutF (fun T H => ∃ (cc : Int), T = ((.d (.lst 1 (a.map I))) :: (.d (.lst 1 (b.map I))) :: .un :: .un :: .un :: (.fn (.func 48) [] []) :: (.d (I cc)) :: .un :: .un :: .un :: .un :: .un :: .un :: .un :: .un :: .un :: .un :: .un :: .un :: .un :: .un :: .un :: .un :: .un :: .un :: .un :: .un :: .un :: .un :: .un :: .un :: .un :: .un :: .un :: .un :: .un :: .un :: .un :: .un :: .un :: .un :: .un :: .un :: .un :: .un :: .un :: .un :: .un :: .un :: .un :: .un :: .un :: .un :: .un :: .un :: .un :: .un :: .un :: .un :: .un :: .un :: .un :: .un :: .un :: .un :: .un :: .un :: .un :: .un :: .un :: .un :: .un :: .un :: .un :: .un :: .un :: .un :: .un :: .un :: .un :: .un :: .un :: .un :: .un :: .un :: .un :: .un :: .un :: .un :: .un :: .un :: .un :: .un :: .un :: []) ∧ (cc = 0 → cmpNs a b = (if a.length < b.length then -1 else if b.length < a.length then 1 else 0)) ∧ (¬ cc = 0 → cc = cmpNs a b) ∧ Hs = H)
        · skip
          refine aw_seq ?_
          refine aw_region ?_
          apply al_stepN
          · exact op_assign_const (by rfl)
          · rfl
          · (try dsimp only [zS, zN, zH, zT]); try exact rfl
          apply al_end
          · (try dsimp only [zS, zN, zH, zT]); try exact rfl
          refine then_normal ?_
          refine aw_block ?_
          apply aw_loopF (fun n T H => ∃ (k : Nat) (cc : Int), T = ((.d (.lst 1 (a.map I))) :: (.d (.lst 1 (b.map I))) :: .un :: .un :: .un :: (.fn (.func 48) [] []) :: (.d (I cc)) :: (.d (I k)) :: .un :: .un :: .un :: .un :: .un :: .un :: .un :: .un :: .un :: .un :: .un :: .un :: .un :: .un :: .un :: .un :: .un :: .un :: .un :: .un :: .un :: .un :: .un :: .un :: .un :: .un :: .un :: .un :: .un :: .un :: .un :: .un :: .un :: .un :: .un :: .un :: .un :: .un :: .un :: .un :: .un :: .un :: .un :: .un :: .un :: .un :: .un :: .un :: .un :: .un :: .un :: .un :: .un :: .un :: .un :: .un :: .un :: .un :: .un :: .un :: .un :: .un :: .un :: .un :: .un :: .un :: .un :: .un :: .un :: .un :: .un :: .un :: .un :: .un :: .un :: .un :: .un :: .un :: .un :: .un :: .un :: .un :: .un :: .un :: .un :: .un :: []) ∧ k ≤ a.length ∧ k ≤ b.length ∧ n = a.length - k ∧ (cc = 0 → cmpNs a b = cmpNs (a.drop k) (b.drop k)) ∧ (¬ cc = 0 → cc = cmpNs a b) ∧ Hs = H) (a.length) (true :: true :: false :: false :: false :: true :: true :: true :: false :: false :: false :: false :: false :: false :: false :: false :: false :: false :: false :: false :: false :: false :: false :: false :: false :: false :: false :: false :: false :: false :: false :: false :: false :: false :: false :: false :: false :: false :: false :: false :: false :: false :: false :: false :: false :: false :: false :: false :: false :: false :: false :: false :: false :: false :: false :: false :: false :: false :: false :: false :: false :: false :: false :: false :: false :: false :: false :: false :: false :: false :: false :: false :: false :: false :: false :: false :: false :: false :: false :: false :: false :: false :: false :: false :: false :: false :: false :: false :: false :: false :: false :: false :: false :: false :: [])
          · (try dsimp only [maskT]); try exact rfl
          · rfl
          · exact ⟨0, 0, rfl, by omega, by omega, rfl, fun _ => rfl, fun h => absurd rfl h, rfl⟩
          rintro n T H ⟨k, cc, rfl, hk, hk2, rfl, he, hne, rfl⟩
          refine aw_seq ?_
          refine aw_seq ?_
          refine aw_region ?_
          apply al_stepN
          · exact op_move_tmp (by rfl)
          · rfl
          · (try dsimp only [zS, zN, zH, zT]); try exact rfl
          apply al_stepN
          · exact op_move_tmp (by rfl)
          · rfl
          · (try dsimp only [zS, zN, zH, zT]); try exact rfl
          apply al_stepN
          · exact op_lenL Try.underlying78 (by first | exact LL.d _ _ | exact LL.own _ _ _ | exact LL.nil _ | assumption)
          · rfl
          · (try dsimp only [zS, zN, zH, zT]); try exact rfl
          apply al_stepN
          · exact op_ltI (by rfl) (by rfl)
          · rfl
          · (try dsimp only [zS, zN, zH, zT]); try exact rfl
          apply al_stepN
          · exact op_move_tmp (by rfl)
          · rfl
          · (try dsimp only [zS, zN, zH, zT]); try exact rfl
          refine al_split 23 rfl (fun hg5 => ?_) (fun hg5 => ?_)
          · skip
            (try simp only [decide_eq_true_eq, decide_eq_false_iff_not, beq_iff_eq, beq_eq_false_iff_ne, Bool.not_eq_true', Bool.not_eq_false', bne_iff_ne, ne_eq, Decidable.not_not, bne_eq_false_iff_eq, List.length_map] at hg5)
            have hka : k < a.length := by (have h : (k : Int) < (a.length : Int) := by simpa using hg5); omega
            apply al_normT
            · (try dsimp only [zS, zN, zH, zT]); try exact rfl
            apply al_wantedN
            · rfl
            · rfl
            · rfl
            · exact op_move_tmp (by rfl)
            · (try dsimp only [zS, zN, zH, zT]); try exact rfl
            apply al_wantedN
            · rfl
            · rfl
            · rfl
            · exact op_move_tmp (by rfl)
            · (try dsimp only [zS, zN, zH, zT]); try exact rfl
            apply al_wantedN
            · rfl
            · rfl
            · rfl
            · exact op_lenL Try.underlying78 (by first | exact LL.d _ _ | exact LL.own _ _ _ | exact LL.nil _ | assumption)
            · (try dsimp only [zS, zN, zH, zT]); try exact rfl
            apply al_wantedN
            · rfl
            · rfl
            · rfl
            · exact op_ltI (by rfl) (by rfl)
            · (try dsimp only [zS, zN, zH, zT]); try exact rfl
            apply al_stepN
            · exact op_pick_tt (by rfl) (val_tmp (by rfl))
            · rfl
            · (try dsimp only [zS, zN, zH, zT]); try exact rfl
            apply al_stepN
            · exact op_move_tmp (by rfl)
            · rfl
            · (try dsimp only [zS, zN, zH, zT]); try exact rfl
            refine al_split 29 rfl (fun hg6 => ?_) (fun hg6 => ?_)
            · skip
              (try simp only [decide_eq_true_eq, decide_eq_false_iff_not, beq_iff_eq, beq_eq_false_iff_ne, Bool.not_eq_true', Bool.not_eq_false', bne_iff_ne, ne_eq, Decidable.not_not, bne_eq_false_iff_eq, List.length_map] at hg6)
              have hkb : k < b.length := by (have h : (k : Int) < (b.length : Int) := by simpa using hg6); omega
              apply al_normT
              · (try dsimp only [zS, zN, zH, zT]); try exact rfl
              apply al_wantedN
              · rfl
              · rfl
              · rfl
              · exact op_move_tmp (by rfl)
              · (try dsimp only [zS, zN, zH, zT]); try exact rfl
              apply al_wantedN
              · rfl
              · rfl
              · rfl
              · exact op_eqI (by rfl) (by rfl)
              · (try dsimp only [zS, zN, zH, zT]); try exact rfl
              apply al_stepN
              · exact op_pick_tt (by rfl) (val_tmp (by rfl))
              · rfl
              · (try dsimp only [zS, zN, zH, zT]); try exact rfl
              apply al_end
              · (try dsimp only [zS, zN, zH, zT]); try exact rfl
              refine then_normal ?_
              refine aw_cond rfl (fun hc7 => ?_) (fun hc7 => ?_)
              · skip
                (try simp only [decide_eq_true_eq, decide_eq_false_iff_not, beq_iff_eq, beq_eq_false_iff_ne, Bool.not_eq_true', Bool.not_eq_false', bne_iff_ne, ne_eq, Decidable.not_not, bne_eq_false_iff_eq, List.length_map] at hc7)
                have hc0 : cc = 0 := by simpa using hc7
                obtain ⟨x, hx1⟩ : ∃ x, a[k]? = some x := ⟨_, List.getElem?_eq_getElem hka⟩
                obtain ⟨y, hy1⟩ : ∃ x, b[k]? = some x := ⟨_, List.getElem?_eq_getElem hkb⟩
                have hstep := (he hc0).trans (cmpNs_step hx1 hy1)
                refine aw_skip ?_
                refine then_normal ?_
                refine aw_seq ?_
                refine aw_block ?_
                refine aw_seq ?_
                refine aw_seq ?_
                refine aw_draw [0, 0, 0, 1, 0, 0, 0, 1, 0] mixed (by kernel_rfl) ?_
                apply drun0
                · intro H; exact op_move_tmp (by rfl)
                · rfl
                apply drun_normT
                · (try dsimp only [zS, zN, zH, zT]); try exact rfl
                apply drun0
                · intro H; exact op_move_tmp (by rfl)
                · rfl
                apply drun_normT
                · (try dsimp only [zS, zN, zH, zT]); try exact rfl
                apply drun0
                · intro H; exact op_indexAddr Try.underlying78 Sz2 (LL.d _ _) (by rfl) (by omega) (show (a.map I)[((k : Nat) : Int).toNat]? = some (I x) by rw [List.getElem?_map, show ((k : Nat) : Int).toNat = k from rfl, hx1]; rfl) (by rfl)
                · rfl
                apply drun_normT
                · (try dsimp only [zS, zN, zH, zT]); try exact rfl
                apply drun1
                · first | exact op_load_elt Try.underlying2 (by rfl) (by rfl) (by rfl) | exact op_load_ptr Try.underlying2 (by rfl) (by rfl) (by rfl) (by rfl)
                · rfl
                apply drun_normT
                · (try dsimp only [zS, zN, zH, zT]); try exact rfl
                apply drun0
                · intro H; exact op_move_tmp (by rfl)
                · rfl
                apply drun_normT
                · (try dsimp only [zS, zN, zH, zT]); try exact rfl
                apply drun0
                · intro H; exact op_move_tmp (by rfl)
                · rfl
                apply drun_normT
                · (try dsimp only [zS, zN, zH, zT]); try exact rfl
                apply drun0
                · intro H; exact op_indexAddr Try.underlying78 Sz2 (LL.d _ _) (by rfl) (by omega) (show (b.map I)[((k : Nat) : Int).toNat]? = some (I y) by rw [List.getElem?_map, show ((k : Nat) : Int).toNat = k from rfl, hy1]; rfl) (by rfl)
                · rfl
                apply drun_normT
                · (try dsimp only [zS, zN, zH, zT]); try exact rfl
                apply drun1
                · first | exact op_load_elt Try.underlying2 (by rfl) (by rfl) (by rfl) | exact op_load_ptr Try.underlying2 (by rfl) (by rfl) (by rfl) (by rfl)
                · rfl
                apply drun_normT
                · (try dsimp only [zS, zN, zH, zT]); try exact rfl
                apply drun0
                · intro H; exact op_ltI (by rfl) (by rfl)
                · rfl
                apply drun_normT
                · (try dsimp only [zS, zN, zH, zT]); try exact rfl
                apply drun_end
                · (try dsimp only [zS, zN, zH, zT]); try exact rfl
                refine then_normal ?_
                refine aw_cond rfl (fun hc8 => ?_) (fun hc8 => ?_)
                · skip
                  (try simp only [decide_eq_true_eq, decide_eq_false_iff_not, beq_iff_eq, beq_eq_false_iff_ne, Bool.not_eq_true', Bool.not_eq_false', bne_iff_ne, ne_eq, Decidable.not_not, bne_eq_false_iff_eq, List.length_map] at hc8)
                  have hxy : x < y := hc8
                  refine aw_region ?_
                  apply al_stepN
                  · exact op_assign_const (by rfl)
                  · rfl
                  · (try dsimp only [zS, zN, zH, zT]); try exact rfl
                  apply al_end
                  · (try dsimp only [zS, zN, zH, zT]); try exact rfl
                  refine then_normal ?_
                  refine aw_seq ?_
                  refine aw_draw [0, 0, 0, 1, 0, 0, 0, 1, 0] mixed (by kernel_rfl) ?_
                  apply drun0
                  · intro H; exact op_move_tmp (by rfl)
                  · rfl
                  apply drun_normT
                  · (try dsimp only [zS, zN, zH, zT]); try exact rfl
                  apply drun0
                  · intro H; exact op_move_tmp (by rfl)
                  · rfl
                  apply drun_normT
                  · (try dsimp only [zS, zN, zH, zT]); try exact rfl
                  apply drun0
                  · intro H; exact op_indexAddr Try.underlying78 Sz2 (LL.d _ _) (by rfl) (by omega) (show (a.map I)[((k : Nat) : Int).toNat]? = some (I x) by rw [List.getElem?_map, show ((k : Nat) : Int).toNat = k from rfl, hx1]; rfl) (by rfl)
                  · rfl
                  apply drun_normT
                  · (try dsimp only [zS, zN, zH, zT]); try exact rfl
                  apply drun1
                  · first | exact op_load_elt Try.underlying2 (by rfl) (by rfl) (by rfl) | exact op_load_ptr Try.underlying2 (by rfl) (by rfl) (by rfl) (by rfl)
                  · rfl
                  apply drun_normT
                  · (try dsimp only [zS, zN, zH, zT]); try exact rfl
                  apply drun0
                  · intro H; exact op_move_tmp (by rfl)
                  · rfl
                  apply drun_normT
                  · (try dsimp only [zS, zN, zH, zT]); try exact rfl
                  apply drun0
                  · intro H; exact op_move_tmp (by rfl)
                  · rfl
                  apply drun_normT
                  · (try dsimp only [zS, zN, zH, zT]); try exact rfl
                  apply drun0
                  · intro H; exact op_indexAddr Try.underlying78 Sz2 (LL.d _ _) (by rfl) (by omega) (show (b.map I)[((k : Nat) : Int).toNat]? = some (I y) by rw [List.getElem?_map, show ((k : Nat) : Int).toNat = k from rfl, hy1]; rfl) (by rfl)
                  · rfl
                  apply drun_normT
                  · (try dsimp only [zS, zN, zH, zT]); try exact rfl
                  apply drun1
                  · first | exact op_load_elt Try.underlying2 (by rfl) (by rfl) (by rfl) | exact op_load_ptr Try.underlying2 (by rfl) (by rfl) (by rfl) (by rfl)
                  · rfl
                  apply drun_normT
                  · (try dsimp only [zS, zN, zH, zT]); try exact rfl
                  apply drun0
                  · intro H; exact op_gtI (by rfl) (by rfl)
                  · rfl
                  apply drun_normT
                  · (try dsimp only [zS, zN, zH, zT]); try exact rfl
                  apply drun_end
                  · (try dsimp only [zS, zN, zH, zT]); try exact rfl
                  refine then_normal ?_
                  refine aw_cond rfl (fun hc9 => ?_) (fun hc9 => ?_)
                  · skip
                    (try simp only [decide_eq_true_eq, decide_eq_false_iff_not, beq_iff_eq, beq_eq_false_iff_ne, Bool.not_eq_true', Bool.not_eq_false', bne_iff_ne, ne_eq, Decidable.not_not, bne_eq_false_iff_eq, List.length_map] at hc9)
                    have hyx : y < x := hc9
                    refine aw_region ?_
                    apply al_stepN
                    · exact op_assign_const (by rfl)
                    · rfl
                    · (try dsimp only [zS, zN, zH, zT]); try exact rfl
                    apply al_end
                    · (try dsimp only [zS, zN, zH, zT]); try exact rfl
                    refine inBlock_normal (then_normal ?_)
                    refine aw_region ?_
                    apply al_stepN
                    · exact op_move_tmp (by rfl)
                    · rfl
                    · (try dsimp only [zS, zN, zH, zT]); try exact rfl
                    apply al_stepN
                    · first | exact op_add (by rfl) (by rfl) (wrap_i64 ⟨by omega, by omega⟩) | exact op_add (by rfl) (by rfl) (by rfl)
                    · rfl
                    · (try dsimp only [zS, zN, zH, zT]); try exact rfl
                    apply al_stepN
                    · exact op_assign_tmp (by rfl)
                    · rfl
                    · (try dsimp only [zS, zN, zH, zT]); try exact rfl
                    apply al_end
                    · (try dsimp only [zS, zN, zH, zT]); try exact rfl
                    apply again_to (a.length - (k + 1)) (true :: true :: false :: false :: false :: true :: true :: true :: false :: false :: false :: false :: false :: false :: false :: false :: false :: false :: false :: false :: false :: false :: false :: false :: false :: false :: false :: false :: false :: false :: false :: false :: false :: false :: false :: false :: false :: false :: false :: false :: false :: false :: false :: false :: false :: false :: false :: false :: false :: false :: false :: false :: false :: false :: false :: false :: false :: false :: false :: false :: false :: false :: false :: false :: false :: false :: false :: false :: false :: false :: false :: false :: false :: false :: false :: false :: false :: false :: false :: false :: false :: false :: false :: false :: false :: false :: false :: false :: false :: false :: false :: false :: false :: false :: [])
                    · (try dsimp only [maskT]); try exact rfl
                    · rfl
                    · omega
                    exact ⟨k + 1, 1, rfl, by omega, by omega, rfl, fun h => absurd h (by decide), fun _ => absurd hxy (by omega), rfl⟩
                  · skip
                    (try simp only [decide_eq_true_eq, decide_eq_false_iff_not, beq_iff_eq, beq_eq_false_iff_ne, Bool.not_eq_true', Bool.not_eq_false', bne_iff_ne, ne_eq, Decidable.not_not, bne_eq_false_iff_eq, List.length_map] at hc9)
                    have hyx : ¬ y < x := hc9
                    refine aw_skip ?_
                    refine inBlock_normal (then_normal ?_)
                    refine aw_region ?_
                    apply al_stepN
                    · exact op_move_tmp (by rfl)
                    · rfl
                    · (try dsimp only [zS, zN, zH, zT]); try exact rfl
                    apply al_stepN
                    · first | exact op_add (by rfl) (by rfl) (wrap_i64 ⟨by omega, by omega⟩) | exact op_add (by rfl) (by rfl) (by rfl)
                    · rfl
                    · (try dsimp only [zS, zN, zH, zT]); try exact rfl
                    apply al_stepN
                    · exact op_assign_tmp (by rfl)
                    · rfl
                    · (try dsimp only [zS, zN, zH, zT]); try exact rfl
                    apply al_end
                    · (try dsimp only [zS, zN, zH, zT]); try exact rfl
                    apply again_to (a.length - (k + 1)) (true :: true :: false :: false :: false :: true :: true :: true :: false :: false :: false :: false :: false :: false :: false :: false :: false :: false :: false :: false :: false :: false :: false :: false :: false :: false :: false :: false :: false :: false :: false :: false :: false :: false :: false :: false :: false :: false :: false :: false :: false :: false :: false :: false :: false :: false :: false :: false :: false :: false :: false :: false :: false :: false :: false :: false :: false :: false :: false :: false :: false :: false :: false :: false :: false :: false :: false :: false :: false :: false :: false :: false :: false :: false :: false :: false :: false :: false :: false :: false :: false :: false :: false :: false :: false :: false :: false :: false :: false :: false :: false :: false :: false :: false :: [])
                    · (try dsimp only [maskT]); try exact rfl
                    · rfl
                    · omega
                    exact ⟨k + 1, -1, rfl, by omega, by omega, rfl, fun h => absurd h (by decide), fun _ => by rw [hstep, if_pos hxy], rfl⟩
                · skip
                  (try simp only [decide_eq_true_eq, decide_eq_false_iff_not, beq_iff_eq, beq_eq_false_iff_ne, Bool.not_eq_true', Bool.not_eq_false', bne_iff_ne, ne_eq, Decidable.not_not, bne_eq_false_iff_eq, List.length_map] at hc8)
                  have hxy : ¬ x < y := hc8
                  refine aw_skip ?_
                  refine then_normal ?_
                  refine aw_seq ?_
                  refine aw_draw [0, 0, 0, 1, 0, 0, 0, 1, 0] mixed (by kernel_rfl) ?_
                  apply drun0
                  · intro H; exact op_move_tmp (by rfl)
                  · rfl
                  apply drun_normT
                  · (try dsimp only [zS, zN, zH, zT]); try exact rfl
                  apply drun0
                  · intro H; exact op_move_tmp (by rfl)
                  · rfl
                  apply drun_normT
                  · (try dsimp only [zS, zN, zH, zT]); try exact rfl
                  apply drun0
                  · intro H; exact op_indexAddr Try.underlying78 Sz2 (LL.d _ _) (by rfl) (by omega) (show (a.map I)[((k : Nat) : Int).toNat]? = some (I x) by rw [List.getElem?_map, show ((k : Nat) : Int).toNat = k from rfl, hx1]; rfl) (by rfl)
                  · rfl
                  apply drun_normT
                  · (try dsimp only [zS, zN, zH, zT]); try exact rfl
                  apply drun1
                  · first | exact op_load_elt Try.underlying2 (by rfl) (by rfl) (by rfl) | exact op_load_ptr Try.underlying2 (by rfl) (by rfl) (by rfl) (by rfl)
                  · rfl
                  apply drun_normT
                  · (try dsimp only [zS, zN, zH, zT]); try exact rfl
                  apply drun0
                  · intro H; exact op_move_tmp (by rfl)
                  · rfl
                  apply drun_normT
                  · (try dsimp only [zS, zN, zH, zT]); try exact rfl
                  apply drun0
                  · intro H; exact op_move_tmp (by rfl)
                  · rfl
                  apply drun_normT
                  · (try dsimp only [zS, zN, zH, zT]); try exact rfl
                  apply drun0
                  · intro H; exact op_indexAddr Try.underlying78 Sz2 (LL.d _ _) (by rfl) (by omega) (show (b.map I)[((k : Nat) : Int).toNat]? = some (I y) by rw [List.getElem?_map, show ((k : Nat) : Int).toNat = k from rfl, hy1]; rfl) (by rfl)
                  · rfl
                  apply drun_normT
                  · (try dsimp only [zS, zN, zH, zT]); try exact rfl
                  apply drun1
                  · first | exact op_load_elt Try.underlying2 (by rfl) (by rfl) (by rfl) | exact op_load_ptr Try.underlying2 (by rfl) (by rfl) (by rfl) (by rfl)
                  · rfl
                  apply drun_normT
                  · (try dsimp only [zS, zN, zH, zT]); try exact rfl
                  apply drun0
                  · intro H; exact op_gtI (by rfl) (by rfl)
                  · rfl
                  apply drun_normT
                  · (try dsimp only [zS, zN, zH, zT]); try exact rfl
                  apply drun_end
                  · (try dsimp only [zS, zN, zH, zT]); try exact rfl
                  refine then_normal ?_
                  refine aw_cond rfl (fun hc10 => ?_) (fun hc10 => ?_)
                  · skip
                    (try simp only [decide_eq_true_eq, decide_eq_false_iff_not, beq_iff_eq, beq_eq_false_iff_ne, Bool.not_eq_true', Bool.not_eq_false', bne_iff_ne, ne_eq, Decidable.not_not, bne_eq_false_iff_eq, List.length_map] at hc10)
                    have hyx : y < x := hc10
                    refine aw_region ?_
                    apply al_stepN
                    · exact op_assign_const (by rfl)
                    · rfl
                    · (try dsimp only [zS, zN, zH, zT]); try exact rfl
                    apply al_end
                    · (try dsimp only [zS, zN, zH, zT]); try exact rfl
                    refine inBlock_normal (then_normal ?_)
                    refine aw_region ?_
                    apply al_stepN
                    · exact op_move_tmp (by rfl)
                    · rfl
                    · (try dsimp only [zS, zN, zH, zT]); try exact rfl
                    apply al_stepN
                    · first | exact op_add (by rfl) (by rfl) (wrap_i64 ⟨by omega, by omega⟩) | exact op_add (by rfl) (by rfl) (by rfl)
                    · rfl
                    · (try dsimp only [zS, zN, zH, zT]); try exact rfl
                    apply al_stepN
                    · exact op_assign_tmp (by rfl)
                    · rfl
                    · (try dsimp only [zS, zN, zH, zT]); try exact rfl
                    apply al_end
                    · (try dsimp only [zS, zN, zH, zT]); try exact rfl
                    apply again_to (a.length - (k + 1)) (true :: true :: false :: false :: false :: true :: true :: true :: false :: false :: false :: false :: false :: false :: false :: false :: false :: false :: false :: false :: false :: false :: false :: false :: false :: false :: false :: false :: false :: false :: false :: false :: false :: false :: false :: false :: false :: false :: false :: false :: false :: false :: false :: false :: false :: false :: false :: false :: false :: false :: false :: false :: false :: false :: false :: false :: false :: false :: false :: false :: false :: false :: false :: false :: false :: false :: false :: false :: false :: false :: false :: false :: false :: false :: false :: false :: false :: false :: false :: false :: false :: false :: false :: false :: false :: false :: false :: false :: false :: false :: false :: false :: false :: false :: [])
                    · (try dsimp only [maskT]); try exact rfl
                    · rfl
                    · omega
                    exact ⟨k + 1, 1, rfl, by omega, by omega, rfl, fun h => absurd h (by decide), fun _ => by rw [hstep, if_neg hxy, if_pos hyx], rfl⟩
                  · skip
                    (try simp only [decide_eq_true_eq, decide_eq_false_iff_not, beq_iff_eq, beq_eq_false_iff_ne, Bool.not_eq_true', Bool.not_eq_false', bne_iff_ne, ne_eq, Decidable.not_not, bne_eq_false_iff_eq, List.length_map] at hc10)
                    have hyx : ¬ y < x := hc10
                    refine aw_skip ?_
                    refine inBlock_normal (then_normal ?_)
                    refine aw_region ?_
                    apply al_stepN
                    · exact op_move_tmp (by rfl)
                    · rfl
                    · (try dsimp only [zS, zN, zH, zT]); try exact rfl
                    apply al_stepN
                    · first | exact op_add (by rfl) (by rfl) (wrap_i64 ⟨by omega, by omega⟩) | exact op_add (by rfl) (by rfl) (by rfl)
                    · rfl
                    · (try dsimp only [zS, zN, zH, zT]); try exact rfl
                    apply al_stepN
                    · exact op_assign_tmp (by rfl)
                    · rfl
                    · (try dsimp only [zS, zN, zH, zT]); try exact rfl
                    apply al_end
                    · (try dsimp only [zS, zN, zH, zT]); try exact rfl
                    apply again_to (a.length - (k + 1)) (true :: true :: false :: false :: false :: true :: true :: true :: false :: false :: false :: false :: false :: false :: false :: false :: false :: false :: false :: false :: false :: false :: false :: false :: false :: false :: false :: false :: false :: false :: false :: false :: false :: false :: false :: false :: false :: false :: false :: false :: false :: false :: false :: false :: false :: false :: false :: false :: false :: false :: false :: false :: false :: false :: false :: false :: false :: false :: false :: false :: false :: false :: false :: false :: false :: false :: false :: false :: false :: false :: false :: false :: false :: false :: false :: false :: false :: false :: false :: false :: false :: false :: false :: false :: false :: false :: false :: false :: false :: false :: false :: false :: false :: false :: [])
                    · (try dsimp only [maskT]); try exact rfl
                    · rfl
                    · omega
                    exact ⟨k + 1, cc, rfl, by omega, by omega, rfl, fun _ => by rw [hstep, if_neg hxy, if_neg hyx], fun h => absurd hc0 h, rfl⟩
              · skip
                (try simp only [decide_eq_true_eq, decide_eq_false_iff_not, beq_iff_eq, beq_eq_false_iff_ne, Bool.not_eq_true', Bool.not_eq_false', bne_iff_ne, ne_eq, Decidable.not_not, bne_eq_false_iff_eq, List.length_map] at hc7)
                have hc0 : ¬ cc = 0 := by simpa using hc7
                refine aw_exit ?_
                refine then_exit (again_exit (inBlock_here ?_))
                apply cut_to (true :: true :: false :: false :: false :: true :: true :: false :: false :: false :: false :: false :: false :: false :: false :: false :: false :: false :: false :: false :: false :: false :: false :: false :: false :: false :: false :: false :: false :: false :: false :: false :: false :: false :: false :: false :: false :: false :: false :: false :: false :: false :: false :: false :: false :: false :: false :: false :: false :: false :: false :: false :: false :: false :: false :: false :: false :: false :: false :: false :: false :: false :: false :: false :: false :: false :: false :: false :: false :: false :: false :: false :: false :: false :: false :: false :: false :: false :: false :: false :: false :: false :: false :: false :: false :: false :: false :: false :: false :: false :: false :: false :: false :: false :: [])
                · (try dsimp only [maskT]); try exact rfl
                · rfl
                exact ⟨cc, rfl, fun h => absurd h hc0, hne, rfl⟩
            · skip
              (try simp only [decide_eq_true_eq, decide_eq_false_iff_not, beq_iff_eq, beq_eq_false_iff_ne, Bool.not_eq_true', Bool.not_eq_false', bne_iff_ne, ne_eq, Decidable.not_not, bne_eq_false_iff_eq, List.length_map] at hg6)
              have hkb : k = b.length := by (have h : ¬ (k : Int) < (b.length : Int) := by simpa using hg6); omega
              apply al_normT
              · (try dsimp only [zS, zN, zH, zT]); try exact rfl
              refine al_unwanted rfl rfl rfl rfl ?_
              apply al_normT
              · (try dsimp only [zS, zN, zH, zT]); try exact rfl
              refine al_unwanted rfl rfl rfl rfl ?_
              apply al_normT
              · (try dsimp only [zS, zN, zH, zT]); try exact rfl
              apply al_stepN
              · exact op_pick_ff (by rfl) (val_const (by rfl))
              · rfl
              · (try dsimp only [zS, zN, zH, zT]); try exact rfl
              apply al_end
              · (try dsimp only [zS, zN, zH, zT]); try exact rfl
              refine then_normal ?_
              refine aw_cond rfl (fun h => by cases h) (fun _ => ?_)
              refine aw_exit ?_
              refine then_exit (again_exit (inBlock_here ?_))
              apply cut_to (true :: true :: false :: false :: false :: true :: true :: false :: false :: false :: false :: false :: false :: false :: false :: false :: false :: false :: false :: false :: false :: false :: false :: false :: false :: false :: false :: false :: false :: false :: false :: false :: false :: false :: false :: false :: false :: false :: false :: false :: false :: false :: false :: false :: false :: false :: false :: false :: false :: false :: false :: false :: false :: false :: false :: false :: false :: false :: false :: false :: false :: false :: false :: false :: false :: false :: false :: false :: false :: false :: false :: false :: false :: false :: false :: false :: false :: false :: false :: false :: false :: false :: false :: false :: false :: false :: false :: false :: false :: false :: false :: false :: false :: false :: [])
              · (try dsimp only [maskT]); try exact rfl
              · rfl
              exact ⟨cc, rfl, fun h => (he h).trans (cmpNs_end (by omega) (by omega) (.inr hkb)), hne, rfl⟩
          · skip
            (try simp only [decide_eq_true_eq, decide_eq_false_iff_not, beq_iff_eq, beq_eq_false_iff_ne, Bool.not_eq_true', Bool.not_eq_false', bne_iff_ne, ne_eq, Decidable.not_not, bne_eq_false_iff_eq, List.length_map] at hg5)
            have hka : k = a.length := by (have h : ¬ (k : Int) < (a.length : Int) := by simpa using hg5); omega
            apply al_normT
            · (try dsimp only [zS, zN, zH, zT]); try exact rfl
            refine al_unwanted rfl rfl rfl rfl ?_
            apply al_normT
            · (try dsimp only [zS, zN, zH, zT]); try exact rfl
            refine al_unwanted rfl rfl rfl rfl ?_
            apply al_normT
            · (try dsimp only [zS, zN, zH, zT]); try exact rfl
            refine al_unwanted rfl rfl rfl rfl ?_
            apply al_normT
            · (try dsimp only [zS, zN, zH, zT]); try exact rfl
            refine al_unwanted rfl rfl rfl rfl ?_
            apply al_normT
            · (try dsimp only [zS, zN, zH, zT]); try exact rfl
            apply al_stepN
            · exact op_pick_ff (by rfl) (val_const (by rfl))
            · rfl
            · (try dsimp only [zS, zN, zH, zT]); try exact rfl
            apply al_stepN
            · exact op_move_tmp (by rfl)
            · rfl
            · (try dsimp only [zS, zN, zH, zT]); try exact rfl
            refine al_unwanted rfl rfl rfl rfl ?_
            apply al_normT
            · (try dsimp only [zS, zN, zH, zT]); try exact rfl
            refine al_unwanted rfl rfl rfl rfl ?_
            apply al_normT
            · (try dsimp only [zS, zN, zH, zT]); try exact rfl
            apply al_stepN
            · exact op_pick_ff (by rfl) (val_const (by rfl))
            · rfl
            · (try dsimp only [zS, zN, zH, zT]); try exact rfl
            apply al_end
            · (try dsimp only [zS, zN, zH, zT]); try exact rfl
            refine then_normal ?_
            refine aw_cond rfl (fun h => by cases h) (fun _ => ?_)
            refine aw_exit ?_
            refine then_exit (again_exit (inBlock_here ?_))
            apply cut_to (true :: true :: false :: false :: false :: true :: true :: false :: false :: false :: false :: false :: false :: false :: false :: false :: false :: false :: false :: false :: false :: false :: false :: false :: false :: false :: false :: false :: false :: false :: false :: false :: false :: false :: false :: false :: false :: false :: false :: false :: false :: false :: false :: false :: false :: false :: false :: false :: false :: false :: false :: false :: false :: false :: false :: false :: false :: false :: false :: false :: false :: false :: false :: false :: false :: false :: false :: false :: false :: false :: false :: false :: false :: false :: false :: false :: false :: false :: false :: false :: false :: false :: false :: false :: false :: false :: false :: false :: false :: false :: false :: false :: false :: false :: [])
            · (try dsimp only [maskT]); try exact rfl
            · rfl
            exact ⟨cc, rfl, fun h => (he h).trans (cmpNs_end (by omega) (by omega) (.inl hka)), hne, rfl⟩
        rintro T H ⟨cc, rfl, he, hne, rfl⟩
        apply aw_cutF (fun T H => ∃ (u : Unit), T = ((.d (.lst 1 (a.map I))) :: (.d (.lst 1 (b.map I))) :: .un :: .un :: .un :: (.fn (.func 48) [] []) :: (.d (I (cmpNs a b))) :: .un :: .un :: .un :: .un :: .un :: .un :: .un :: .un :: .un :: .un :: .un :: .un :: .un :: .un :: .un :: .un :: .un :: .un :: .un :: .un :: .un :: .un :: .un :: .un :: .un :: .un :: .un :: .un :: .un :: .un :: .un :: .un :: .un :: .un :: .un :: .un :: .un :: .un :: .un :: .un :: .un :: .un :: .un :: .un :: .un :: .un :: .un :: .un :: .un :: .un :: .un :: .un :: .un :: .un :: .un :: .un :: .un :: .un :: .un :: .un :: .un :: .un :: .un :: .un :: .un :: .un :: .un :: .un :: .un :: .un :: .un :: .un :: .un :: .un :: .un :: .un :: .un :: .un :: .un :: .un :: .un :: .un :: .un :: .un :: .un :: .un :: .un :: []) ∧ Hs = H)
        · skip
          refine aw_seq ?_
          refine aw_region ?_
          apply al_stepN
          · exact op_move_tmp (by rfl)
          · rfl
          · (try dsimp only [zS, zN, zH, zT]); try exact rfl
          apply al_stepN
          · exact op_eqI (by rfl) (by rfl)
          · rfl
          · (try dsimp only [zS, zN, zH, zT]); try exact rfl
          apply al_end
          · (try dsimp only [zS, zN, zH, zT]); try exact rfl
          refine then_normal ?_
          refine aw_cond rfl (fun hc13 => ?_) (fun hc13 => ?_)
          · skip
            (try simp only [decide_eq_true_eq, decide_eq_false_iff_not, beq_iff_eq, beq_eq_false_iff_ne, Bool.not_eq_true', Bool.not_eq_false', bne_iff_ne, ne_eq, Decidable.not_not, bne_eq_false_iff_eq, List.length_map] at hc13)
            have hc0 : cc = 0 := by simpa using hc13
            refine aw_region ?_
            apply al_stepN
            · exact op_move_tmp (by rfl)
            · rfl
            · (try dsimp only [zS, zN, zH, zT]); try exact rfl
            apply al_stepN
            · exact op_lenL Try.underlying78 (by first | exact LL.d _ _ | exact LL.own _ _ _ | exact LL.nil _ | assumption)
            · rfl
            · (try dsimp only [zS, zN, zH, zT]); try exact rfl
            apply al_stepN
            · exact op_move_tmp (by rfl)
            · rfl
            · (try dsimp only [zS, zN, zH, zT]); try exact rfl
            apply al_stepN
            · exact op_lenL Try.underlying78 (by first | exact LL.d _ _ | exact LL.own _ _ _ | exact LL.nil _ | assumption)
            · rfl
            · (try dsimp only [zS, zN, zH, zT]); try exact rfl
            apply al_stepN
            · exact op_sub (by rfl) (by rfl) (show IntKind.i64.wrap (((a.map I).length : Int) - ((b.map I).length : Int)) = (a.length : Int) - (b.length : Int) by rw [List.length_map, List.length_map, wrap_i64 ⟨by omega, by omega⟩])
            · rfl
            · (try dsimp only [zS, zN, zH, zT]); try exact rfl
            apply al_stepN
            · exact op_max (by rfl) (by rfl)
            · rfl
            · (try dsimp only [zS, zN, zH, zT]); try exact rfl
            apply al_stepN
            · exact op_min (by rfl) (by rfl)
            · rfl
            · (try dsimp only [zS, zN, zH, zT]); try exact rfl
            apply al_stepN
            · exact op_assign_tmp (by rfl)
            · rfl
            · (try dsimp only [zS, zN, zH, zT]); try exact rfl
            apply al_end
            · (try dsimp only [zS, zN, zH, zT]); try exact rfl
            apply cut_to (true :: true :: false :: false :: false :: true :: true :: false :: false :: false :: false :: false :: false :: false :: false :: false :: false :: false :: false :: false :: false :: false :: false :: false :: false :: false :: false :: false :: false :: false :: false :: false :: false :: false :: false :: false :: false :: false :: false :: false :: false :: false :: false :: false :: false :: false :: false :: false :: false :: false :: false :: false :: false :: false :: false :: false :: false :: false :: false :: false :: false :: false :: false :: false :: false :: false :: false :: false :: false :: false :: false :: false :: false :: false :: false :: false :: false :: false :: false :: false :: false :: false :: false :: false :: false :: false :: false :: false :: false :: false :: false :: false :: false :: false :: [])
            · (try dsimp only [maskT]); try exact rfl
            · rfl
            exact ⟨(), by (rw [he hc0, ← clamp_sgn]; (try simp only [List.length_map]); try rfl), rfl⟩
          · skip
            (try simp only [decide_eq_true_eq, decide_eq_false_iff_not, beq_iff_eq, beq_eq_false_iff_ne, Bool.not_eq_true', Bool.not_eq_false', bne_iff_ne, ne_eq, Decidable.not_not, bne_eq_false_iff_eq, List.length_map] at hc13)
            have hc0 : ¬ cc = 0 := by simpa using hc13
            refine aw_skip ?_
            apply cut_to (true :: true :: false :: false :: false :: true :: true :: false :: false :: false :: false :: false :: false :: false :: false :: false :: false :: false :: false :: false :: false :: false :: false :: false :: false :: false :: false :: false :: false :: false :: false :: false :: false :: false :: false :: false :: false :: false :: false :: false :: false :: false :: false :: false :: false :: false :: false :: false :: false :: false :: false :: false :: false :: false :: false :: false :: false :: false :: false :: false :: false :: false :: false :: false :: false :: false :: false :: false :: false :: false :: false :: false :: false :: false :: false :: false :: false :: false :: false :: false :: false :: false :: false :: false :: false :: false :: false :: false :: false :: false :: false :: false :: false :: false :: [])
            · (try dsimp only [maskT]); try exact rfl
            · rfl
            exact ⟨(), by rw [← hne hc0], rfl⟩
        rintro T H ⟨u, rfl, rfl⟩
        refine aw_seq ?_
        refine aw_region ?_
        apply al_stepN
        · exact op_move_tmp (by rfl)
        · rfl
        · (try dsimp only [zS, zN, zH, zT]); try exact rfl
        apply al_stepN
        · exact op_move_tmp (by rfl)
        · rfl
        · (try dsimp only [zS, zN, zH, zT]); try exact rfl
        apply al_stepN
        · exact op_callV (by rfl) Try.func48 (by rfl) (by rfl) (.tmp (by rfl) .nil) (nums_ok _ a (by omega))
        · rfl
        · (try dsimp only [zS, zN, zH, zT]); try exact rfl
        apply al_stepN
        · exact op_move_tmp (by rfl)
        · rfl
        · (try dsimp only [zS, zN, zH, zT]); try exact rfl
        apply al_stepN
        · exact op_move_tmp (by rfl)
        · rfl
        · (try dsimp only [zS, zN, zH, zT]); try exact rfl
        apply al_stepN
        · exact op_callV (by rfl) Try.func48 (by rfl) (by rfl) (.tmp (by rfl) .nil) (nums_ok _ b (by omega))
        · rfl
        · (try dsimp only [zS, zN, zH, zT]); try exact rfl
        apply al_stepN
        · exact op_callF Try.func28 (by rfl) (by rfl) (.tmp (by rfl) (.tmp (by rfl) .nil)) ((by have h := cmp_ok Hs (numsV a) (numsV b) (small_nums (by omega)) (small_nums (by omega)); rw [cmp_nums] at h; exact h))
        · rfl
        · (try dsimp only [zS, zN, zH, zT]); try exact rfl
        apply al_stepN
        · exact op_assign_tmp (by rfl)
        · rfl
        · (try dsimp only [zS, zN, zH, zT]); try exact rfl
        apply al_end
        · (try dsimp only [zS, zN, zH, zT]); try exact rfl
        refine then_normal ?_
        refine aw_seq ?_
        refine aw_region ?_
        apply al_stepN
        · exact op_move_tmp (by rfl)
        · rfl
        · (try dsimp only [zS, zN, zH, zT]); try exact rfl
        apply al_stepN
        · exact op_max (by rfl) (by rfl)
        · rfl
        · (try dsimp only [zS, zN, zH, zT]); try exact rfl
        apply al_stepN
        · exact op_min (by rfl) (by rfl)
        · rfl
        · (try dsimp only [zS, zN, zH, zT]); try exact rfl
        apply al_stepN
        · exact op_move_tmp (by rfl)
        · rfl
        · (try dsimp only [zS, zN, zH, zT]); try exact rfl
        apply al_stepN
        · exact op_eqI (by rfl) (by rfl)
        · rfl
        · (try dsimp only [zS, zN, zH, zT]); try exact rfl
        apply al_stepN
        · exact op_move_tmp (by rfl)
        · rfl
        · (try dsimp only [zS, zN, zH, zT]); try exact rfl
        refine al_split 74 rfl (fun hg14 => ?_) (fun hg14 => ?_)
        · skip
          (try simp only [decide_eq_true_eq, decide_eq_false_iff_not, beq_iff_eq, beq_eq_false_iff_ne, Bool.not_eq_true', Bool.not_eq_false', bne_iff_ne, ne_eq, Decidable.not_not, bne_eq_false_iff_eq, List.length_map] at hg14)
          apply al_normT
          · (try dsimp only [zS, zN, zH, zT]); try exact rfl
          apply al_wantedN
          · rfl
          · rfl
          · rfl
          · exact op_move_tmp (by rfl)
          · (try dsimp only [zS, zN, zH, zT]); try exact rfl
          apply al_wantedN
          · rfl
          · rfl
          · rfl
          · exact op_move_tmp (by rfl)
          · (try dsimp only [zS, zN, zH, zT]); try exact rfl
          apply al_wantedN
          · rfl
          · rfl
          · rfl
          · exact op_callV (by rfl) Try.func48 (by rfl) (by rfl) (.tmp (by rfl) .nil) (nums_ok _ a (by omega))
          · (try dsimp only [zS, zN, zH, zT]); try exact rfl
          apply al_wantedN
          · rfl
          · rfl
          · rfl
          · exact op_callF Try.func41 (by rfl) (by rfl) (.tmp (by rfl) .nil) (right_at (right_nums a) (small_nums (by omega)))
          · (try dsimp only [zS, zN, zH, zT]); try exact rfl
          apply al_stepN
          · exact op_pick_tt (by rfl) (val_tmp (by rfl))
          · rfl
          · (try dsimp only [zS, zN, zH, zT]); try exact rfl
          apply al_stepN
          · exact op_move_tmp (by rfl)
          · rfl
          · (try dsimp only [zS, zN, zH, zT]); try exact rfl
          apply al_wantedN
          · rfl
          · rfl
          · rfl
          · exact op_callF Try.func49 (by rfl) (by rfl) (.const (by rfl) .nil) (ofBool_ok _ _)
          · (try dsimp only [zS, zN, zH, zT]); try exact rfl
          apply al_wantedN
          · rfl
          · rfl
          · rfl
          · exact op_callF Try.func49 (by rfl) (by rfl) (.const (by rfl) .nil) (ofBool_ok _ _)
          · (try dsimp only [zS, zN, zH, zT]); try exact rfl
          apply al_wantedN
          · rfl
          · rfl
          · rfl
          · exact op_callF Try.func28 (by rfl) (by rfl) (.tmp (by rfl) (.tmp (by rfl) .nil)) ((by have h := cmp_ok Hs (ofBool false) (ofBool true) (small_bool _) (small_bool _); rw [cmp_bools] at h; exact h))
          · (try dsimp only [zS, zN, zH, zT]); try exact rfl
          apply al_wantedN
          · rfl
          · rfl
          · rfl
          · exact op_ltI (by rfl) (by rfl)
          · (try dsimp only [zS, zN, zH, zT]); try exact rfl
          apply al_stepN
          · exact op_pick_tt (by rfl) (val_tmp (by rfl))
          · rfl
          · (try dsimp only [zS, zN, zH, zT]); try exact rfl
          apply al_stepN
          · exact op_move_tmp (by rfl)
          · rfl
          · (try dsimp only [zS, zN, zH, zT]); try exact rfl
          apply al_wantedN
          · rfl
          · rfl
          · rfl
          · exact op_move_tmp (by rfl)
          · (try dsimp only [zS, zN, zH, zT]); try exact rfl
          apply al_wantedN
          · rfl
          · rfl
          · rfl
          · exact op_move_tmp (by rfl)
          · (try dsimp only [zS, zN, zH, zT]); try exact rfl
          apply al_wantedN
          · rfl
          · rfl
          · rfl
          · exact op_callV (by rfl) Try.func48 (by rfl) (by rfl) (.tmp (by rfl) .nil) (nums_ok _ a (by omega))
          · (try dsimp only [zS, zN, zH, zT]); try exact rfl
          apply al_wantedN
          · rfl
          · rfl
          · rfl
          · exact op_callF Try.func50 (by rfl) (by rfl) (.const (by rfl) .nil) (ofText_ok _ [122])
          · (try dsimp only [zS, zN, zH, zT]); try exact rfl
          apply al_wantedN
          · rfl
          · rfl
          · rfl
          · exact op_callF Try.func28 (by rfl) (by rfl) (.tmp (by rfl) (.tmp (by rfl) .nil)) ((by have h := cmp_ok Hs (numsV a) (ofText [122]) (small_nums (by omega)) (small_text _); rw [cmp_numtext] at h; exact h))
          · (try dsimp only [zS, zN, zH, zT]); try exact rfl
          apply al_wantedN
          · rfl
          · rfl
          · rfl
          · exact op_gtI (by rfl) (by rfl)
          · (try dsimp only [zS, zN, zH, zT]); try exact rfl
          apply al_stepN
          · exact op_pick_tt (by rfl) (val_tmp (by rfl))
          · rfl
          · (try dsimp only [zS, zN, zH, zT]); try exact rfl
          apply al_stepN
          · exact op_assign_tmp (by rfl)
          · rfl
          · (try dsimp only [zS, zN, zH, zT]); try exact rfl
          apply al_end
          · (try dsimp only [zS, zN, zH, zT]); try exact rfl
          refine then_normal ?_
          refine aw_ret ?_
          refine retPost1 rfl rfl ?_
          first | exact rfl | (simp [TF]; done)
        · skip
          (try simp only [decide_eq_true_eq, decide_eq_false_iff_not, beq_iff_eq, beq_eq_false_iff_ne, Bool.not_eq_true', Bool.not_eq_false', bne_iff_ne, ne_eq, Decidable.not_not, bne_eq_false_iff_eq, List.length_map] at hg14)
          apply al_normT
          · (try dsimp only [zS, zN, zH, zT]); try exact rfl
          exact absurd hg14 (by have h := cmpNs_sgn a b; (repeat' split) <;> omega)
end Go.Proofs.Ytadkehaagkjbhaa
