/- Part 4 of what the law needs: StpD, StpF, WWorldSteps, A18, ValAV, ValBits, ValAV2, ValCmp, ValFew, ValLaw, MapPlain, MapAV, A19, A20. -/
import Derived.Test.YtdiibbbbdhkepaaGreatDoorWs3
import Derived.KernelRfl
import Derived.Lib.Bytealg
import Derived.Lib.Overlaps
import Derived.Lib.AppendZerosOnto
set_option linter.unusedSectionVars false
set_option linter.unusedVariables false
set_option linter.unusedSimpArgs false
namespace Go.Proofs.YtdiibbbbdhkepaaGreatDoor
open Go.AV Go.AV.Ord Go.AV.Oct Go.AV.Stp
set_option linter.unusedVariables false
set_option linter.unusedSimpArgs false
variable [Wins Tryz.prog]
set_option maxRecDepth 100000 in
theorem wdec_ok (Hs : HS) (s : List UInt8) : ACalls Tryz.prog 8 [.d (S s)] Hs (Ret (.tup [.d (.lst 5 ((decR s).map stD)), .d (I (decE s))]) Hs) := by
 refine ACalls.tidyT (xs := [.lst 5 ((decR s).map stD), I (decE s)]) ?_
 suffices h : ACalls Tryz.prog 8 [.d (S s)] Hs (fun av H' => ∃ x, av = .tup [x, .d (I (decE s))] ∧ Weak x (.d (.lst 5 ((decR s).map stD))) ∧ Ext Hs H') from h.weak fun v H' ⟨x, h1, h2, h3⟩ => ⟨_, by rw [h1]; exact Weak.tup (.cons h2 (.cons (Weak.refl _) .nil)), rfl, h3⟩
 obtain ⟨q, st0, hq⟩ : ∃ q st0, num0 s = (q, st0) := ⟨_, _, rfl⟩
 have hq1 : rNum 10000 (s, false) = (q, st0) := hq
 have hql : q ≤ 10000 := by have := num0_le s; rw [hq] at this; exact this
 refine acalls_of_aw Tryz.func8 rfl ?_
 refine aw_start (T' := [.d (S s), .un, .un, .un, .un, .un, .un, .un, .un, .un, .un, .un, .un, .un, .un, .un, .un, .un, .un, .un, .un, .un, .un, .un, .un, .un, .un, .un, .un, .un, .un, .un, .un, .un, .un, .un, .un, .un, .un, .un, .un, .un, .un, .un, .un, .un, .un, .un, .un, .un, .un]) rfl ?_
 refine aw_seq ?_
 refine aw_region ?_
 refine zst (op_assign_const (by rfl)) rfl (by dsimp only [zS, zN, zH, zT]) ?_
 refine zst (op_assign_const (by rfl)) rfl (by dsimp only [zS, zN, zH, zT]) ?_
 refine al_end rfl ?_
 refine then_normal ?_
 refine aw_seq ?_
 refine aw_region ?_
 refine zst (op_move_tmp (by rfl)) rfl (by dsimp only [zS, zN, zH, zT]) ?_
 refine zst (op_callF Tryz.func15 (by rfl) (by rfl) (.tmp (by rfl) .nil) (read_ok _ s)) rfl (by dsimp only [zS, zN, zH, zT]) ?_
 refine zst (op_assign_tmp (by rfl)) rfl (by dsimp only [zS, zN, zH, zT]) ?_
 refine al_end rfl ?_
 refine then_normal ?_
 refine aw_seq ?_
 refine aw_region ?_
 refine zst (op_assign_const (by rfl)) rfl (by dsimp only [zS, zN, zH, zT]) ?_
 refine al_end rfl ?_
 refine then_normal ?_
 refine aw_seq ?_
 apply aw_cutF (fun T H => ∃ (v : AV) (t : Option Nat), T = [.un, .un, .un, .un, .ptr Hs.nb 0, v, .un, .un, .un, .un, .d (I q), .d (I 0), .un, .un, .un, .un, .un, .un, .un, .un, .un, .un, .un, .un, .un, .un, .un, .un, .un, .un, .un, .un, .un, .un, .un, .un, .un, .un, .un, .un, .un, .un, .un, .un, .un, .un, .un, .un, .un, .un, .un] ∧ DecO Hs 78 H v t [] st0)
 ·
  refine aw_region ?_
  refine zst (op_move_tmp (by rfl)) rfl (by dsimp only [zS, zN, zH, zT]) ?_
  refine zst (op_callF Tryz.func16 (by rfl) (by rfl) (.tmp (by rfl) (.const (by rfl) .nil)) ((by have h := num_ok (Hs.push 78 [.d (S s), .d (TF false)]) Hs.nb s false 10000 push_at (by decide); rw [hq1] at h; dsimp only at h; exact h))) rfl (by dsimp only [zS, zN, zH, zT]) ?_
  refine zst (op_move_const (by rfl)) rfl (by dsimp only [zS, zN, zH, zT]) ?_
  refine al_end rfl ?_
  apply cut_to [false, false, false, false, true, true, false, false, false, false, true, true, false, false, false, false, false, false, false, false, false, false, false, false, false, false, false, false, false, false, false, false, false, false, false, false, false, false, false, false, false, false, false, false, false, false, false, false, false, false, false]
  · (try dsimp only [maskT]); try exact rfl
  · rfl
  exact ⟨nilS, none, rfl, DecO.start Hs 78 _ st0⟩
 rintro T H ⟨v, t, rfl, ho⟩
 refine aw_block ?_
 apply aw_loopF (fun n T H => ∃ (k : Nat) (v : AV) (t : Option Nat), T = [.un, .un, .un, .un, .ptr Hs.nb 0, v, .un, .un, .un, .un, .d (I q), .d (I k), .un, .un, .un, .un, .un, .un, .un, .un, .un, .un, .un, .un, .un, .un, .un, .un, .un, .un, .un, .un, .un, .un, .un, .un, .un, .un, .un, .un, .un, .un, .un, .un, .un, .un, .un, .un, .un, .un, .un] ∧ k ≤ q ∧ n = q - k ∧ DecO Hs 78 H v t (rSts k st0).1 (rSts k st0).2 ∧ (0 < k → okK k st0 = true)) (q) [false, false, false, false, true, true, false, false, false, false, true, true, false, false, false, false, false, false, false, false, false, false, false, false, false, false, false, false, false, false, false, false, false, false, false, false, false, false, false, false, false, false, false, false, false, false, false, false, false, false, false]
 · (try dsimp only [maskT]); try exact rfl
 · rfl
 · exact ⟨0, _, _, rfl, by omega, rfl, ho, fun h => absurd h (by decide)⟩
 rintro n T H ⟨k, v, t, rfl, hk, rfl, ho, hg⟩
 refine aw_seq ?_
 refine aw_region ?_
 refine zst (op_ltI (by rfl) (by rfl)) rfl (by dsimp only [zS, zN, zH, zT]) ?_
 refine al_end rfl ?_
 refine then_normal ?_
 refine aw_seq ?_
 refine aw_cond rfl (fun hc1 => ?_) (fun hc1 => ?_)
 ·
  (try simp only [y1, y2, y3, y4, y5, y6, y7, y8, y9, y0, List.length_map] at hc1)
  have hlt : k < q := by omega
  have hlt2 := ho.lt
  have hlx := rSts_len k st0
  have hknl := kn_le (rSts k st0).2
  obtain ⟨sid, hsid⟩ : ∃ s, s = H.nb := ⟨_, rfl⟩
  refine aw_skip ?_
  refine then_normal ?_
  refine aw_seq ?_
  refine aw_block ?_
  refine aw_seq ?_
  refine aw_region ?_
  refine zst (op_move_tmp (by rfl)) rfl (by dsimp only [zS, zN, zH, zT]) ?_
  refine zst (op_callF Tryz.func16 (by rfl) (by rfl) (.tmp (by rfl) (.const (by rfl) .nil)) (num_ok _ _ (rSts k st0).2.1 (rSts k st0).2.2 7 ho.rd (by decide))) rfl (by dsimp only [zS, zN, zH, zT]) ?_
  refine zst (op_move_tmp (by rfl)) rfl (by dsimp only [zS, zN, zH, zT]) ?_
  refine zst (op_callF Tryz.func16 (by rfl) (by rfl) (.tmp (by rfl) (.const (by rfl) .nil)) (num_ok _ _ _ _ 16 (setB_at ho.rd) (by decide))) rfl (by dsimp only [zS, zN, zH, zT]) ?_
  refine zst (op_move_tmp (by rfl)) rfl (by dsimp only [zS, zN, zH, zT]) ?_
  refine zst (op_callF Tryz.func16 (by rfl) (by rfl) (.tmp (by rfl) (.const (by rfl) .nil)) (num_ok _ _ _ _ 1099511627776 (setB_at (setB_at ho.rd)) (by decide))) rfl (by dsimp only [zS, zN, zH, zT]) ?_
  refine zst (op_move_tmp (by rfl)) rfl (by dsimp only [zS, zN, zH, zT]) ?_
  refine zst (op_callF Tryz.func17 (by rfl) (by rfl) (.tmp (by rfl) (.const (by rfl) .nil)) (rtext_ok _ _ _ _ 20000 (setB_at (setB_at (setB_at ho.rd))) (by decide))) rfl (by dsimp only [zS, zN, zH, zT]) ?_
  refine zst (op_buildD (pl := [(0, 1), (1, 1), (2, 1), (3, 1), (4, 1)]) [I (rSt (rSts k st0).2).1.kind, I (rSt (rSts k st0).2).1.sess, I (rSt (rSts k st0).2).1.n, S (rSt (rSts k st0).2).1.text, .v (.slice none 0 0)] Tryz.underlying28 Zr28 (by kernel_rfl) (by rfl) (by rfl) (by rfl) (by simp [DV.one, S, I])) rfl (by dsimp only [zS, zN, zH, zT]) ?_
  refine zst (op_alloc (Zr28) (by rfl)) rfl (by dsimp only [zS, zN, zH, zT]) ?_
  refine zst (op_storeB (vs := [.d (I (rSt (rSts k st0).2).1.kind), .d (I (rSt (rSts k st0).2).1.sess), .d (I (rSt (rSts k st0).2).1.n), .d (S (rSt (rSts k st0).2).1.text), nilS]) (b' := stepH 28 (rSt (rSts k st0).2).1 nilS) (H' := _) Sz28 (by rfl) push_at (by intro h; cases h) (by rfl) (by rfl) (Nat.le_of_ble_eq_true rfl) (by simp [AV.one, DV.one, TF, S, I, BY]) (by rfl) (by rfl) rfl) rfl (by dsimp only [zS, zN, zH, zT]) ?_
  refine al_end rfl ?_
  refine then_normal ?_
  refine aw_seq ?_
  apply aw_cutF (fun T H => ∃ (u : Unit), T = [.un, .un, .un, .un, .ptr Hs.nb 0, v, .ptr sid 0, .un, .un, .un, .d (I q), .d (I k), .un, .un, .un, .un, .un, .un, .un, .un, .un, .un, .un, .d (I (kn (rSts k st0).2)), .d (I 0), .un, .un, .un, .un, .un, .un, .un, .un, .un, .un, .un, .un, .un, .un, .un, .un, .un, .un, .un, .un, .un, .un, .un, .un, .un, .un] ∧ DecI Hs 78 28 H sid (rSt (rSts k st0).2).1 nilS none [] v t (rSts k st0).1 (kst (rSts k st0).2))
  ·
   refine aw_region ?_
   refine zst (op_move_tmp (by rfl)) rfl (by dsimp only [zS, zN, zH, zT]) ?_
   refine zst (op_callF Tryz.func16 (by rfl) (by rfl) (.tmp (by rfl) (.const (by rfl) .nil)) (num_ok _ _ _ _ 16 (by rw [setB_ne (by simp only [setB_nb]; omega)]; exact push_ne (setB_at (setB_at (setB_at (setB_at ho.rd))))) (by decide))) rfl (by dsimp only [zS, zN, zH, zT]) ?_
   refine zst (op_move_const (by rfl)) rfl (by dsimp only [zS, zN, zH, zT]) ?_
   refine al_end rfl ?_
   apply cut_to [false, false, false, false, true, true, true, false, false, false, true, true, false, false, false, false, false, false, false, false, false, false, false, true, true, false, false, false, false, false, false, false, false, false, false, false, false, false, false, false, false, false, false, false, false, false, false, false, false, false, false]
   · (try dsimp only [maskT]); try exact rfl
   · rfl
   exact ⟨(), by (simp only [setB_nb, hsid]) <;> rfl, DecI.start ho hsid (by simp only [setB_nb])⟩
  rintro T H ⟨u, rfl, hi⟩
  refine aw_block ?_
  apply aw_loopF (fun n T H => ∃ (j : Nat) (kv : AV) (kt : Option Nat), T = [.un, .un, .un, .un, .ptr Hs.nb 0, v, .ptr sid 0, .un, .un, .un, .d (I q), .d (I k), .un, .un, .un, .un, .un, .un, .un, .un, .un, .un, .un, .d (I (kn (rSts k st0).2)), .d (I j), .un, .un, .un, .un, .un, .un, .un, .un, .un, .un, .un, .un, .un, .un, .un, .un, .un, .un, .un, .un, .un, .un, .un, .un, .un, .un] ∧ j ≤ kn (rSts k st0).2 ∧ n = kn (rSts k st0).2 - j ∧ DecI Hs 78 28 H sid (rSt (rSts k st0).2).1 kv kt (rKeeps j (kst (rSts k st0).2)).1 v t (rSts k st0).1 (rKeeps j (kst (rSts k st0).2)).2) (kn (rSts k st0).2) [false, false, false, false, true, true, true, false, false, false, true, true, false, false, false, false, false, false, false, false, false, false, false, true, true, false, false, false, false, false, false, false, false, false, false, false, false, false, false, false, false, false, false, false, false, false, false, false, false, false, false]
  · (try dsimp only [maskT]); try exact rfl
  · rfl
  · exact ⟨0, _, _, rfl, by omega, rfl, hi⟩
  rintro n T H ⟨j, kv, kt, rfl, hj, rfl, hi⟩
  have hne : sid ≠ Hs.nb := by have := hi.slt; omega
  have hlj := rKeeps_len j (kst (rSts k st0).2)
  refine aw_seq ?_
  refine aw_region ?_
  refine zst (op_ltI (by rfl) (by rfl)) rfl (by dsimp only [zS, zN, zH, zT]) ?_
  refine al_end rfl ?_
  refine then_normal ?_
  refine aw_seq ?_
  refine aw_cond rfl (fun hc2 => ?_) (fun hc2 => ?_)
  ·
   (try simp only [y1, y2, y3, y4, y5, y6, y7, y8, y9, y0, List.length_map] at hc2)
   have hlt3 : j < kn (rSts k st0).2 := by omega
   refine aw_skip ?_
   refine then_normal ?_
   refine aw_seq ?_
   refine aw_block ?_
   refine aw_drawX (fun K => K.blks[sid]? = some (stepH 28 (rSt (rSts k st0).2).1 kv)) [0, 0, 0, 2, 0, 2, 0, 2] mixed (by kernel_rfl) (hi.sb) (.inr (by kernel_rfl)) ?_
   apply drun0X
   · intro H hPhi; first | exact op_fieldAddr_ptr Tryz.underlying28 rfl Sz26 (by rfl) (by rfl) | exact op_fieldAddr_elt Tryz.underlying28 rfl Sz26 (by rfl) (by rfl) (by rfl)
   · rfl
   apply drun_normT
   · (try dsimp only [zS, zN, zH, zT]); try exact rfl
   apply drun0X
   · intro H hPhi; first | exact op_load_elt Tryz.underlying26 (by rfl) (by rfl) (by rfl) | exact op_load_ptr Tryz.underlying26 (by rfl) (by rfl) (by first | exact hPhi | exact hi.sb) (by rfl)
   · rfl
   apply drun_normT
   · (try dsimp only [zS, zN, zH, zT]); try exact rfl
   apply drun0X
   · intro H hPhi; exact op_move_tmp (by rfl)
   · rfl
   apply drun_normT
   · (try dsimp only [zS, zN, zH, zT]); try exact rfl
   apply drun2X
   · exact op_callF Tryz.func16 (by rfl) (by rfl) (.tmp (by rfl) (.const (by rfl) .nil)) (num_ok _ _ (rKeeps j (kst (rSts k st0).2)).2.1 (rKeeps j (kst (rSts k st0).2)).2.2 1048576 hi.rd (by decide))
   · rfl
   · refine .inr ?_; simp only [HS.up_blks, setB_ne (show sid ≠ Hs.nb from hne)]; exact hi.sb
   apply drun_normT
   · (try dsimp only [zS, zN, zH, zT]); try exact rfl
   apply drun0X
   · intro H hPhi; exact op_lit Tryz.underlying26 ZS3 (.cons (y := I ((rNum 1048576 (rKeeps j (kst (rSts k st0).2)).2).1 : Nat)) (by rfl) (.nil _)) (by rfl) (by simp [I, DV.cells]) (by simp [flat, I, DV.cells, DV.one]) (by decide)
   · rfl
   apply drun_normT
   · (try dsimp only [zS, zN, zH, zT]); try exact rfl
   apply drun2X
   · exact op_append Tryz.underlying26 Inf3 (by rfl) hi.kapp (.list _ _ _ _ Tryz.underlying26 (LL.own _ _ _)) (by rw [List.length_map]; exact hi.kok) (by simp) (by simp; omega) (by simp; omega)
   · rfl
   · refine .inr ?_; simp only [HS.up_blks, setB_ne (show sid ≠ Hs.nb from hne)]; exact hi.sb
   apply drun_normT
   · (try dsimp only [zS, zN, zH, zT]); try exact rfl
   apply drun0X
   · intro H hPhi; first | exact op_fieldAddr_ptr Tryz.underlying28 rfl Sz26 (by rfl) (by rfl) | exact op_fieldAddr_elt Tryz.underlying28 rfl Sz26 (by rfl) (by rfl) (by rfl)
   · rfl
   apply drun_normT
   · (try dsimp only [zS, zN, zH, zT]); try exact rfl
   apply drun2X
   · exact op_storeB (vs := [.own _ 1 _]) (b' := stepH 28 (rSt (rSts k st0).2).1 (.own _ 1 _)) (H' := _) Sz26 (by rfl) (by rw [HS.up_blks, setB_ne hne]; exact hi.sb) (by intro h; cases h) (by rfl) (by rfl) (Nat.le_of_ble_eq_true rfl) (by simp [AV.one, DV.one, TF, S, I, BY]) (by rfl) (by rfl) rfl
   · rfl
   · exact .inl rfl
   apply drun_normT
   · (try dsimp only [zS, zN, zH, zT]); try exact rfl
   refine drun_end rfl ?_
   refine inBlock_normal (then_normal ?_)
   refine aw_region ?_
   refine zst (by first | exact op_add (by rfl) (by rfl) (wrap_i64 ⟨by omega, by omega⟩) | exact op_add (by rfl) (by rfl) (by rfl)) rfl (by dsimp only [zS, zN, zH, zT]) ?_
   refine zst (op_move_tmp (by rfl)) rfl (by dsimp only [zS, zN, zH, zT]) ?_
   refine al_end rfl ?_
   apply again_to (kn (rSts k st0).2 - (j + 1)) [false, false, false, false, true, true, true, false, false, false, true, true, false, false, false, false, false, false, false, false, false, false, false, true, true, false, false, false, false, false, false, false, false, false, false, false, false, false, false, false, false, false, false, false, false, false, false, false, false, false, false]
   · (try dsimp only [maskT]); try exact rfl
   · rfl
   · omega
   exact ⟨j + 1, _, _, rfl, by omega, rfl, hi.step (by simp)⟩
  ·
   (try simp only [y1, y2, y3, y4, y5, y6, y7, y8, y9, y0, List.length_map] at hc2)
   have hje : j = kn (rSts k st0).2 := by omega
   subst hje
   refine aw_exit ?_
   refine then_exit (again_exit (inBlock_here (then_normal ?_)))
   refine aw_seq ?_
   refine aw_seq ?_
   refine aw_region ?_
   refine zst (op_move_tmp (by rfl)) rfl (by dsimp only [zS, zN, zH, zT]) ?_
   refine zst (op_callF Tryz.func18 (by rfl) (by rfl) (.tmp (by rfl) .nil) (err_ok _ _ (rSts (k + 1) st0).2.1 (rSts (k + 1) st0).2.2 hi.rd)) rfl (by dsimp only [zS, zN, zH, zT]) ?_
   refine zst (op_neI (by rfl) (by rfl)) rfl (by dsimp only [zS, zN, zH, zT]) ?_
   refine zst (op_move_tmp (by rfl)) rfl (by dsimp only [zS, zN, zH, zT]) ?_
   refine al_split 37 rfl (fun hg3 => ?_) (fun hg3 => ?_)
   ·
    (try simp only [y1, y2, y3, y4, y5, y6, y7, y8, y9, y0, List.length_map] at hg3)
    have hne2 : ¬ rErr (rSts (k + 1) st0).2 = 0 := hg3
    obtain ⟨z1, z2⟩ := dec_bad hq hlt (.inl hne2)
    apply al_normT
    · (try dsimp only [zS, zN, zH, zT]); try exact rfl
    refine zuw rfl rfl rfl rfl (by dsimp only [zS, zN, zH, zT]) ?_
    refine zuw rfl rfl rfl rfl (by dsimp only [zS, zN, zH, zT]) ?_
    refine zuw rfl rfl rfl rfl (by dsimp only [zS, zN, zH, zT]) ?_
    refine zst (op_pick_tt (by rfl) (val_const (by rfl))) rfl (by dsimp only [zS, zN, zH, zT]) ?_
    refine al_end rfl ?_
    refine then_normal ?_
    refine aw_cond rfl (fun _ => ?_) (fun h => by cases h)
    refine aw_seq ?_
    refine aw_region ?_
    refine zst (op_assign_const (by rfl)) rfl (by dsimp only [zS, zN, zH, zT]) ?_
    refine zst (op_assign_const (by rfl)) rfl (by dsimp only [zS, zN, zH, zT]) ?_
    refine al_end rfl ?_
    refine then_normal ?_
    refine aw_ret ?_
    refine then_ret (inBlock_ret (then_ret (again_ret (inBlock_ret (then_ret ?_)))))
    refine retPost2 rfl rfl rfl ?_
    first | exact ⟨_, by (rw [z1]) <;> rfl, by rw [z2]; exact Weak.nil 5, hi.ext⟩ | exact ⟨_, by (rw [z1]) <;> rfl, by rw [z2]; exact Weak.nil 5, ho.ext⟩ | exact ⟨_, by (rw [z1]) <;> rfl, by rw [z2]; exact Weak.lst ho.app, ho.ext⟩
   ·
    (try simp only [y1, y2, y3, y4, y5, y6, y7, y8, y9, y0, List.length_map] at hg3)
    have heq : rErr (rSts (k + 1) st0).2 = 0 := by simpa using hg3
    apply al_normT
    · (try dsimp only [zS, zN, zH, zT]); try exact rfl
    refine zsw rfl rfl rfl (op_load_ptrsW (off := 0) (stC (rSt (rSts k st0).2).1) Tryz.underlying28 (by rfl) Sz28 (by rfl) hi.sb (Nat.le_of_ble_eq_true rfl) (.cons (Weak.refl _) (.cons (Weak.refl _) (.cons (Weak.refl _) (.cons (Weak.refl _) (.cons (Weak.lst hi.kapp) .nil))))) (by simp [stC, DV.one, S, I])) (by dsimp only [zS, zN, zH, zT]) ?_
    refine zsw rfl rfl rfl (op_callF Tryz.func13 (by rfl) (by rfl) (.tmp (by rfl) .nil) (right_ok _ (rSt (rSts k st0).2).1)) (by dsimp only [zS, zN, zH, zT]) ?_
    refine zsw rfl rfl rfl (op_not (by rfl)) (by dsimp only [zS, zN, zH, zT]) ?_
    refine zst (op_pick_ff (by rfl) (val_tmp (by rfl))) rfl (by dsimp only [zS, zN, zH, zT]) ?_
    refine al_end rfl ?_
    refine then_normal ?_
    refine aw_cond rfl (fun hc5 => ?_) (fun hc5 => ?_)
    ·
     (try simp only [y1, y2, y3, y4, y5, y6, y7, y8, y9, y0, List.length_map] at hc5)
     have hrt : rightS (rSt (rSts k st0).2).1 = false := by simpa using hc5
     obtain ⟨z1, z2⟩ := dec_bad hq hlt (.inr hrt)
     refine aw_seq ?_
     refine aw_region ?_
     refine zst (op_assign_const (by rfl)) rfl (by dsimp only [zS, zN, zH, zT]) ?_
     refine zst (op_assign_const (by rfl)) rfl (by dsimp only [zS, zN, zH, zT]) ?_
     refine al_end rfl ?_
     refine then_normal ?_
     refine aw_ret ?_
     refine then_ret (inBlock_ret (then_ret (again_ret (inBlock_ret (then_ret ?_)))))
     refine retPost2 rfl rfl rfl ?_
     first | exact ⟨_, by (rw [z1]) <;> rfl, by rw [z2]; exact Weak.nil 5, hi.ext⟩ | exact ⟨_, by (rw [z1]) <;> rfl, by rw [z2]; exact Weak.nil 5, ho.ext⟩ | exact ⟨_, by (rw [z1]) <;> rfl, by rw [z2]; exact Weak.lst ho.app, ho.ext⟩
    ·
     (try simp only [y1, y2, y3, y4, y5, y6, y7, y8, y9, y0, List.length_map] at hc5)
     have hrt : rightS (rSt (rSts k st0).2).1 = true := by simpa using hc5
     have hgood := okK_next hg heq hrt
     refine aw_skip ?_
     refine then_normal ?_
     refine aw_region ?_
     refine zst (op_move_tmp (by rfl)) rfl (by dsimp only [zS, zN, zH, zT]) ?_
     refine zst (op_load_ptrsW (off := 0) (stC (rSt (rSts k st0).2).1) Tryz.underlying28 (by rfl) Sz28 (by rfl) hi.sb (Nat.le_of_ble_eq_true rfl) (.cons (Weak.refl _) (.cons (Weak.refl _) (.cons (Weak.refl _) (.cons (Weak.refl _) (.cons (Weak.lst hi.kapp) .nil))))) (by simp [stC, DV.one, S, I])) rfl (by dsimp only [zS, zN, zH, zT]) ?_
     refine zst (op_lit Tryz.underlying22 ZS28 (.cons (y := stD (rSt (rSts k st0).2).1) (by rfl) (.nil _)) (by rfl) (by simp [stD, stC, DV.cells]) (by simp [flat, stD, stC, S, I, DV.cells, DV.one]) (by decide)) rfl (by dsimp only [zS, zN, zH, zT]) ?_
     refine zst (op_append Tryz.underlying22 Inf28 (by rfl) hi.app (.list _ _ _ _ Tryz.underlying22 (LL.own _ _ _)) (by rw [List.length_map]; exact hi.ok) (by simp) (by simp; omega) (by simp; omega)) rfl (by dsimp only [zS, zN, zH, zT]) ?_
     refine zst (op_assign_tmp (by rfl)) rfl (by dsimp only [zS, zN, zH, zT]) ?_
     refine al_end rfl ?_
     refine inBlock_normal (then_normal ?_)
     refine aw_region ?_
     refine zst (by first | exact op_add (by rfl) (by rfl) (wrap_i64 ⟨by omega, by omega⟩) | exact op_add (by rfl) (by rfl) (by rfl)) rfl (by dsimp only [zS, zN, zH, zT]) ?_
     refine zst (op_move_tmp (by rfl)) rfl (by dsimp only [zS, zN, zH, zT]) ?_
     refine al_end rfl ?_
     apply again_to (q - (k + 1)) [false, false, false, false, true, true, false, false, false, false, true, true, false, false, false, false, false, false, false, false, false, false, false, false, false, false, false, false, false, false, false, false, false, false, false, false, false, false, false, false, false, false, false, false, false, false, false, false, false, false, false]
     · (try dsimp only [maskT]); try exact rfl
     · rfl
     · omega
     exact ⟨k + 1, _, _, rfl, by omega, rfl, hi.next (by simp), fun _ => hgood⟩
 ·
  (try simp only [y1, y2, y3, y4, y5, y6, y7, y8, y9, y0, List.length_map] at hc1)
  have hke : q = k := by omega
  subst hke
  refine aw_exit ?_
  refine then_exit (again_exit (inBlock_here (then_normal ?_)))
  refine aw_seq ?_
  refine aw_seq ?_
  refine aw_region ?_
  refine zst (op_move_tmp (by rfl)) rfl (by dsimp only [zS, zN, zH, zT]) ?_
  refine zst (op_callF Tryz.func19 (by rfl) (by rfl) (.tmp (by rfl) .nil) (end_ok _ _ (rSts q st0).2.1 (rSts q st0).2.2 ho.rd)) rfl (by dsimp only [zS, zN, zH, zT]) ?_
  refine zst (op_neI (by rfl) (by rfl)) rfl (by dsimp only [zS, zN, zH, zT]) ?_
  refine al_end rfl ?_
  refine then_normal ?_
  refine aw_cond rfl (fun hc6 => ?_) (fun hc6 => ?_)
  ·
   (try simp only [y1, y2, y3, y4, y5, y6, y7, y8, y9, y0, List.length_map] at hc6)
   obtain ⟨z1, z2⟩ := dec_tail hq hc6
   refine aw_seq ?_
   refine aw_region ?_
   refine zst (op_assign_const (by rfl)) rfl (by dsimp only [zS, zN, zH, zT]) ?_
   refine zst (op_assign_const (by rfl)) rfl (by dsimp only [zS, zN, zH, zT]) ?_
   refine al_end rfl ?_
   refine then_normal ?_
   refine aw_ret ?_
   refine then_ret ?_
   refine retPost2 rfl rfl rfl ?_
   first | exact ⟨_, by (rw [z1]) <;> rfl, by rw [z2]; exact Weak.nil 5, hi.ext⟩ | exact ⟨_, by (rw [z1]) <;> rfl, by rw [z2]; exact Weak.nil 5, ho.ext⟩ | exact ⟨_, by (rw [z1]) <;> rfl, by rw [z2]; exact Weak.lst ho.app, ho.ext⟩
  ·
   (try simp only [y1, y2, y3, y4, y5, y6, y7, y8, y9, y0, List.length_map] at hc6)
   obtain ⟨z1, z2⟩ := dec_end hq hg (by simpa using hc6)
   refine aw_skip ?_
   refine then_normal ?_
   refine aw_seq ?_
   refine aw_region ?_
   refine zst (op_move_tmp (by rfl)) rfl (by dsimp only [zS, zN, zH, zT]) ?_
   refine zst (op_assign_tmp (by rfl)) rfl (by dsimp only [zS, zN, zH, zT]) ?_
   refine zst (op_assign_const (by rfl)) rfl (by dsimp only [zS, zN, zH, zT]) ?_
   refine al_end rfl ?_
   refine then_normal ?_
   refine aw_ret ?_
   refine retPost2 rfl rfl rfl ?_
   first | exact ⟨_, by (rw [z1]) <;> rfl, by rw [z2]; exact Weak.nil 5, hi.ext⟩ | exact ⟨_, by (rw [z1]) <;> rfl, by rw [z2]; exact Weak.nil 5, ho.ext⟩ | exact ⟨_, by (rw [z1]) <;> rfl, by rw [z2]; exact Weak.lst ho.app, ho.ext⟩
end Go.Proofs.YtdiibbbbdhkepaaGreatDoor
namespace Go.Proofs.YtdiibbbbdhkepaaGreatDoor
open Go.AV Go.AV.Ord Go.AV.Oct Go.AV.Stp
set_option linter.unusedVariables false
set_option linter.unusedSimpArgs false
variable [Wins Tryz.prog]
set_option maxRecDepth 100000 in
theorem few_ok (Hs : HS) (xs : List St) (hl : xs.length ≤ 9223372036854775807) : ACalls Tryz.prog 6 [.d (.lst 5 (xs.map stD))] Hs (Ret (.d (TF (fewS xs))) Hs) := by
 refine ACalls.tidy1 ?_
 refine acalls_of_aw Tryz.func6 rfl ?_
 refine aw_start (T' := [.d (.lst 5 (xs.map stD)), .un, .un, .un, .un, .un, .un, .un, .un, .un, .un, .un, .un, .un, .un, .un, .un, .un, .un, .un, .un, .un, .un, .un, .un]) rfl ?_
 refine aw_seq ?_
 refine aw_region ?_
 refine zst (op_assign_const (by rfl)) rfl (by dsimp only [zS, zN, zH, zT]) ?_
 refine al_end rfl ?_
 refine then_normal ?_
 refine aw_seq ?_
 refine aw_seq ?_
 refine aw_region ?_
 refine zst (op_move_tmp (by rfl)) rfl (by dsimp only [zS, zN, zH, zT]) ?_
 refine zst (op_lenL Tryz.underlying22 (by first | exact LL.d _ _ | exact LL.own _ _ _ | exact LL.nil _ | assumption)) rfl (by dsimp only [zS, zN, zH, zT]) ?_
 refine zst (op_move_const (by rfl)) rfl (by dsimp only [zS, zN, zH, zT]) ?_
 refine al_end rfl ?_
 refine then_normal ?_
 refine aw_block ?_
 apply aw_loopF (fun n T H => ∃ (k : Nat), T = [.d (.lst 5 (xs.map stD)), .un, .un, .un, .un, .d (.lst 5 (xs.map stD)), .d (I (xs.map stD).length), .d (I k), .un, .un, .un, .un, .un, .un, .un, .un, .un, .un, .un, .un, .un, .un, .un, .un, .un] ∧ k ≤ xs.length ∧ n = xs.length - k ∧ (xs.take k).all fewAt = true ∧ Ext Hs H) (xs.length) [true, false, false, false, false, true, true, true, false, false, false, false, false, false, false, false, false, false, false, false, false, false, false, false, false]
 · (try dsimp only [maskT]); try exact rfl
 · rfl
 · exact ⟨0, rfl, by omega, rfl, rfl, Ext.refl Hs⟩
 rintro n T H ⟨k, rfl, hk, rfl, hall, hx⟩
 refine aw_seq ?_
 refine aw_region ?_
 refine zst (op_ltI (by rfl) (by rfl)) rfl (by dsimp only [zS, zN, zH, zT]) ?_
 refine al_end rfl ?_
 refine then_normal ?_
 refine aw_seq ?_
 refine aw_cond rfl (fun hc1 => ?_) (fun hc1 => ?_)
 ·
  (try simp only [y1, y2, y3, y4, y5, y6, y7, y8, y9, y0, List.length_map] at hc1)
  (try simp only [List.length_map] at hc1)
  have hlt : k < xs.length := by omega
  obtain ⟨y, hy⟩ : ∃ y, xs[k]? = some y := ⟨_, List.getElem?_eq_getElem hlt⟩
  refine aw_skip ?_
  refine then_normal ?_
  refine aw_seq ?_
  refine aw_block ?_
  refine aw_seq ?_
  refine aw_region ?_
  refine zst (op_indexAddr Tryz.underlying22 Sz28 (LL.d _ _) (by rfl) (by omega) (show (xs.map stD)[((k : Nat) : Int).toNat]? = some (stD y) by rw [List.getElem?_map, show ((k : Nat) : Int).toNat = k from rfl, hy]; rfl) (by rfl)) rfl (by dsimp only [zS, zN, zH, zT]) ?_
  refine zst (op_load_elts (ds := stC y) Tryz.underlying28 (by rfl) Sz28 (by rfl) (Nat.le_of_ble_eq_true rfl) (by rfl)) rfl (by dsimp only [zS, zN, zH, zT]) ?_
  refine zst (op_alloc (Zr28) (by rfl)) rfl (by dsimp only [zS, zN, zH, zT]) ?_
  refine zst (op_storeB (vs := [.d (I y.kind), .d (I y.sess), .d (I y.n), .d (S y.text), .d (.lst 1 (y.keep.map I))]) (b' := ⟨28, [.d (I y.kind), .d (I y.sess), .d (I y.n), .d (S y.text), .d (.lst 1 (y.keep.map I))], false⟩) (H' := _) Sz28 (by rfl) push_at (by intro h; cases h) (by rfl) (by rfl) (Nat.le_of_ble_eq_true rfl) (by simp [AV.one, DV.one, TF, S, I, BY]) (by rfl) (by rfl) rfl) rfl (by dsimp only [zS, zN, zH, zT]) ?_
  refine al_end rfl ?_
  refine then_normal ?_
  refine aw_seq ?_
  refine aw_region ?_
  refine zst (by first | exact op_fieldAddr_ptr Tryz.underlying28 rfl Sz9 (by rfl) (by rfl) | exact op_fieldAddr_elt Tryz.underlying28 rfl Sz9 (by rfl) (by rfl) (by rfl)) rfl (by dsimp only [zS, zN, zH, zT]) ?_
  refine zst (by first | exact op_load_elt Tryz.underlying9 (by rfl) (by rfl) (by rfl) | exact op_load_ptr Tryz.underlying9 (by rfl) (by rfl) (by exact setB_at push_at) (by rfl)) rfl (by dsimp only [zS, zN, zH, zT]) ?_
  refine zst (op_lenS Tryz.underlying9 (by rfl)) rfl (by dsimp only [zS, zN, zH, zT]) ?_
  refine zst (op_gtI (by rfl) (by rfl)) rfl (by dsimp only [zS, zN, zH, zT]) ?_
  refine zst (op_move_tmp (by rfl)) rfl (by dsimp only [zS, zN, zH, zT]) ?_
  refine al_split 15 rfl (fun hg2 => ?_) (fun hg2 => ?_)
  ·
   (try simp only [y1, y2, y3, y4, y5, y6, y7, y8, y9, y0, List.length_map] at hg2)
   have g0 : 700 < (y.text.length : Int) := by simpa using hg2
   have hbad : fewS xs = false := few_bad hy (by simp [fewAt]; omega)
   apply al_normT
   · (try dsimp only [zS, zN, zH, zT]); try exact rfl
   refine zuw rfl rfl rfl rfl (by dsimp only [zS, zN, zH, zT]) ?_
   refine zuw rfl rfl rfl rfl (by dsimp only [zS, zN, zH, zT]) ?_
   refine zuw rfl rfl rfl rfl (by dsimp only [zS, zN, zH, zT]) ?_
   refine zuw rfl rfl rfl rfl (by dsimp only [zS, zN, zH, zT]) ?_
   refine zst (op_pick_tt (by rfl) (val_const (by rfl))) rfl (by dsimp only [zS, zN, zH, zT]) ?_
   refine al_end rfl ?_
   refine then_normal ?_
   refine aw_cond rfl (fun _ => ?_) (fun h => by cases h)
   refine aw_seq ?_
   refine aw_region ?_
   refine zst (op_assign_const (by rfl)) rfl (by dsimp only [zS, zN, zH, zT]) ?_
   refine al_end rfl ?_
   refine then_normal ?_
   refine aw_ret ?_
   refine inBlock_ret (then_ret (again_ret (inBlock_ret (then_ret ?_))))
   refine retPost1 rfl rfl ?_
   first | exact ⟨by (rw [hbad]) <;> rfl, (hx.push _ _).setB (nb_le hx)⟩ | exact ⟨by (rw [few_end hall, ← List.length_map (f := stD)]) <;> rfl, hx⟩
  ·
   (try simp only [y1, y2, y3, y4, y5, y6, y7, y8, y9, y0, List.length_map] at hg2)
   have g0 : ¬ 700 < (y.text.length : Int) := by simpa using hg2
   apply al_normT
   · (try dsimp only [zS, zN, zH, zT]); try exact rfl
   refine zsw rfl rfl rfl (by first | exact op_fieldAddr_ptr Tryz.underlying28 rfl Sz26 (by rfl) (by rfl) | exact op_fieldAddr_elt Tryz.underlying28 rfl Sz26 (by rfl) (by rfl) (by rfl)) (by dsimp only [zS, zN, zH, zT]) ?_
   refine zsw rfl rfl rfl (by first | exact op_load_elt Tryz.underlying26 (by rfl) (by rfl) (by rfl) | exact op_load_ptr Tryz.underlying26 (by rfl) (by rfl) (by exact setB_at push_at) (by rfl)) (by dsimp only [zS, zN, zH, zT]) ?_
   refine zsw rfl rfl rfl (op_lenL Tryz.underlying26 (by first | exact LL.d _ _ | exact LL.own _ _ _ | exact LL.nil _ | assumption)) (by dsimp only [zS, zN, zH, zT]) ?_
   refine zsw rfl rfl rfl (op_gtI (by rfl) (by rfl)) (by dsimp only [zS, zN, zH, zT]) ?_
   refine zst (op_pick_ff (by rfl) (val_tmp (by rfl))) rfl (by dsimp only [zS, zN, zH, zT]) ?_
   refine al_end rfl ?_
   refine then_normal ?_
   refine aw_cond rfl (fun hc4 => ?_) (fun hc4 => ?_)
   ·
    (try simp only [y1, y2, y3, y4, y5, y6, y7, y8, y9, y0, List.length_map] at hc4)
    have g1 : 20 < (y.keep.length : Int) := by simpa using hc4
    have hbad : fewS xs = false := few_bad hy (by simp [fewAt]; omega)
    refine aw_seq ?_
    refine aw_region ?_
    refine zst (op_assign_const (by rfl)) rfl (by dsimp only [zS, zN, zH, zT]) ?_
    refine al_end rfl ?_
    refine then_normal ?_
    refine aw_ret ?_
    refine inBlock_ret (then_ret (again_ret (inBlock_ret (then_ret ?_))))
    refine retPost1 rfl rfl ?_
    first | exact ⟨by (rw [hbad]) <;> rfl, (hx.push _ _).setB (nb_le hx)⟩ | exact ⟨by (rw [few_end hall, ← List.length_map (f := stD)]) <;> rfl, hx⟩
   ·
    (try simp only [y1, y2, y3, y4, y5, y6, y7, y8, y9, y0, List.length_map] at hc4)
    have g1 : ¬ 20 < (y.keep.length : Int) := by simpa using hc4
    refine aw_skip ?_
    refine inBlock_normal (then_normal ?_)
    refine aw_region ?_
    refine zst (by first | exact op_add (by rfl) (by rfl) (wrap_i64 ⟨by omega, by omega⟩) | exact op_add (by rfl) (by rfl) (by rfl)) rfl (by dsimp only [zS, zN, zH, zT]) ?_
    refine zst (op_move_tmp (by rfl)) rfl (by dsimp only [zS, zN, zH, zT]) ?_
    refine al_end rfl ?_
    apply again_to (xs.length - (k + 1)) [true, false, false, false, false, true, true, true, false, false, false, false, false, false, false, false, false, false, false, false, false, false, false, false, false]
    · (try dsimp only [maskT]); try exact rfl
    · rfl
    · omega
    exact ⟨k + 1, rfl, by omega, rfl, few_step hall hy g0 g1, (hx.push _ _).setB (nb_le hx)⟩
 ·
  (try simp only [y1, y2, y3, y4, y5, y6, y7, y8, y9, y0, List.length_map] at hc1)
  (try simp only [List.length_map] at hc1)
  have hke : k = xs.length := by omega
  subst hke
  rw [List.take_length] at hall
  refine aw_exit ?_
  refine then_exit (again_exit (inBlock_here (then_normal ?_)))
  refine aw_seq ?_
  refine aw_region ?_
  refine zst (op_move_tmp (by rfl)) rfl (by dsimp only [zS, zN, zH, zT]) ?_
  refine zst (op_lenL Tryz.underlying22 (by first | exact LL.d _ _ | exact LL.own _ _ _ | exact LL.nil _ | assumption)) rfl (by dsimp only [zS, zN, zH, zT]) ?_
  refine zst (op_leI (by rfl) (by rfl)) rfl (by dsimp only [zS, zN, zH, zT]) ?_
  refine zst (op_assign_tmp (by rfl)) rfl (by dsimp only [zS, zN, zH, zT]) ?_
  refine al_end rfl ?_
  refine then_normal ?_
  refine aw_ret ?_
  refine retPost1 rfl rfl ?_
  first | exact ⟨by (rw [hbad]) <;> rfl, (hx.push _ _).setB (nb_le hx)⟩ | exact ⟨by (rw [few_end hall, ← List.length_map (f := stD)]) <;> rfl, hx⟩
end Go.Proofs.YtdiibbbbdhkepaaGreatDoor
namespace Go.Proofs.YtdiibbbbdhkepaaGreatDoor
open Go.AV Go.AV.Ord Go.AV.Oct Go.AV.Stp
set_option linter.unusedVariables false
set_option linter.unusedSimpArgs false
variable [Wins Tryz.prog]
set_option maxRecDepth 100000 in
theorem worldSteps_walk (xs : List St) (cut : Int) (hl : xs.length ≤ 9223372036854775807) (hkl : ∀ x ∈ xs, x.keep.length ≤ 9223372036854775807) (hh : ACalls Tryz.prog 5 [] H0 fun av H' => av = .d (TF true) ∧ H'.x = x0) : ACalls Tryz.prog 3 [.d (.lst 5 (xs.map stD)), .d (I cut)] H0 (fun av H' => av = .d (TF true) ∧ H'.x = x0) := by
 refine acalls_of_aw Tryz.func3 rfl ?_
 refine aw_start (T' := ((.d (.lst 5 (xs.map stD))) :: (.d (I cut)) :: .un :: .un :: .un :: .un :: .un :: .un :: .un :: .un :: .un :: .un :: .un :: .un :: .un :: .un :: .un :: .un :: .un :: .un :: .un :: .un :: .un :: .un :: .un :: .un :: .un :: .un :: .un :: .un :: .un :: .un :: .un :: .un :: .un :: .un :: .un :: .un :: .un :: .un :: .un :: .un :: .un :: .un :: .un :: .un :: .un :: .un :: .un :: .un :: .un :: .un :: .un :: .un :: .un :: .un :: .un :: .un :: .un :: .un :: .un :: .un :: .un :: .un :: .un :: .un :: .un :: .un :: .un :: .un :: .un :: .un :: .un :: .un :: .un :: .un :: .un :: .un :: .un :: .un :: .un :: .un :: .un :: .un :: .un :: .un :: .un :: .un :: .un :: .un :: .un :: .un :: .un :: .un :: .un :: .un :: .un :: .un :: .un :: .un :: .un :: .un :: .un :: .un :: .un :: .un :: .un :: .un :: .un :: .un :: .un :: .un :: .un :: .un :: .un :: .un :: .un :: .un :: .un :: .un :: .un :: .un :: .un :: .un :: .un :: .un :: .un :: .un :: .un :: .un :: .un :: .un :: .un :: .un :: .un :: .un :: .un :: .un :: .un :: .un :: .un :: .un :: .un :: .un :: .un :: .un :: .un :: .un :: .un :: .un :: .un :: .un :: .un :: .un :: .un :: .un :: .un :: .un :: .un :: .un :: .un :: .un :: .un :: .un :: .un :: .un :: .un :: .un :: .un :: .un :: .un :: .un :: .un :: .un :: .un :: .un :: .un :: .un :: .un :: .un :: .un :: .un :: .un :: .un :: .un :: .un :: .un :: .un :: .un :: .un :: .un :: .un :: .un :: .un :: .un :: [])) rfl ?_
 refine aw_seq ?_
 refine aw_region ?_
 refine zst (op_assign_const (by rfl)) rfl (by dsimp only [zS, zN, zH, zT]) ?_
 refine al_end rfl ?_
 refine then_normal ?_
 refine aw_seq ?_
 refine aw_seq ?_
 refine aw_region ?_
 refine al_cons _ (op_callF Tryz.func5 (by rfl) (by rfl) .nil hh) rfl ?_
 rintro v2 H2 ⟨rfl, hx0⟩
 apply al_normT
 · (try dsimp only [putT, List.set_cons_zero, List.set_cons_succ]); try exact rfl
 refine zst (op_not (by rfl)) rfl (by dsimp only [zS, zN, zH, zT]) ?_
 refine al_end rfl ?_
 refine then_normal ?_
 refine aw_cond rfl (fun hc1 => ?_) (fun hc1 => ?_)
 ·
  (try simp only [y1, y2, y3, y4, y5, y6, y7, y8, y9, y0, List.length_map] at hc1)
  exact absurd hc1 (by decide)
 ·
  (try simp only [y1, y2, y3, y4, y5, y6, y7, y8, y9, y0, List.length_map] at hc1)
  refine aw_skip ?_
  refine then_normal ?_
  refine aw_seq ?_
  refine aw_seq ?_
  refine aw_region ?_
  refine zst (op_move_tmp (by rfl)) rfl (by dsimp only [zS, zN, zH, zT]) ?_
  refine zst (op_callF Tryz.func6 (by rfl) (by rfl) (.tmp (by rfl) .nil) (few_ok _ xs hl)) rfl (by dsimp only [zS, zN, zH, zT]) ?_
  refine zst (op_not (by rfl)) rfl (by dsimp only [zS, zN, zH, zT]) ?_
  refine al_end rfl ?_
  refine then_normal ?_
  refine aw_cond rfl (fun hc2 => ?_) (fun hc2 => ?_)
  ·
   (try simp only [y1, y2, y3, y4, y5, y6, y7, y8, y9, y0, List.length_map] at hc2)
   refine aw_seq ?_
   refine aw_region ?_
   refine zst (op_assign_const (by rfl)) rfl (by dsimp only [zS, zN, zH, zT]) ?_
   refine al_end rfl ?_
   refine then_normal ?_
   refine aw_ret ?_
   refine then_ret ?_
   refine retPost1 rfl rfl ?_
   first | exact ⟨rfl, hx0⟩ | exact ⟨rfl, hx⟩ | exact ⟨by (rw [e2]) <;> rfl, hx⟩ | exact ⟨by (rw [hct]) <;> rfl, hx⟩
  ·
   (try simp only [y1, y2, y3, y4, y5, y6, y7, y8, y9, y0, List.length_map] at hc2)
   have hf : fewS xs = true := by simpa using hc2
   have hx := hx0
   refine aw_skip ?_
   refine then_normal ?_
   refine aw_seq ?_
   refine aw_region ?_
   refine zst (op_assign_const (by rfl)) rfl (by dsimp only [zS, zN, zH, zT]) ?_
   refine al_end rfl ?_
   refine then_normal ?_
   refine aw_seq ?_
   refine aw_seq ?_
   refine aw_region ?_
   refine zst (op_move_tmp (by rfl)) rfl (by dsimp only [zS, zN, zH, zT]) ?_
   refine zst (op_lenL Tryz.underlying22 (by first | exact LL.d _ _ | exact LL.own _ _ _ | exact LL.nil _ | assumption)) rfl (by dsimp only [zS, zN, zH, zT]) ?_
   refine zst (op_move_const (by rfl)) rfl (by dsimp only [zS, zN, zH, zT]) ?_
   refine al_end rfl ?_
   refine then_normal ?_
   refine aw_block ?_
   apply aw_loopF (fun n T H => ∃ (k : Nat), T = ((.d (.lst 5 (xs.map stD))) :: (.d (I cut)) :: .un :: .un :: .un :: (.d (TF (goods xs k))) :: .un :: .un :: .un :: .un :: .un :: .un :: .un :: .un :: .un :: .un :: .un :: .un :: .un :: .un :: .un :: .un :: .un :: .un :: .un :: (.d (.lst 5 (xs.map stD))) :: (.d (I (xs.map stD).length)) :: (.d (I k)) :: .un :: .un :: .un :: .un :: .un :: .un :: .un :: .un :: .un :: .un :: .un :: .un :: .un :: .un :: .un :: .un :: .un :: .un :: .un :: .un :: .un :: .un :: .un :: .un :: .un :: .un :: .un :: .un :: .un :: .un :: .un :: .un :: .un :: .un :: .un :: .un :: .un :: .un :: .un :: .un :: .un :: .un :: .un :: .un :: .un :: .un :: .un :: .un :: .un :: .un :: .un :: .un :: .un :: .un :: .un :: .un :: .un :: .un :: .un :: .un :: .un :: .un :: .un :: .un :: .un :: .un :: .un :: .un :: .un :: .un :: .un :: .un :: .un :: .un :: .un :: .un :: .un :: .un :: .un :: .un :: .un :: .un :: .un :: .un :: .un :: .un :: .un :: .un :: .un :: .un :: .un :: .un :: .un :: .un :: .un :: .un :: .un :: .un :: .un :: .un :: .un :: .un :: .un :: .un :: .un :: .un :: .un :: .un :: .un :: .un :: .un :: .un :: .un :: .un :: .un :: .un :: .un :: .un :: .un :: .un :: .un :: .un :: .un :: .un :: .un :: .un :: .un :: .un :: .un :: .un :: .un :: .un :: .un :: .un :: .un :: .un :: .un :: .un :: .un :: .un :: .un :: .un :: .un :: .un :: .un :: .un :: .un :: .un :: .un :: .un :: .un :: .un :: .un :: .un :: .un :: .un :: .un :: .un :: .un :: .un :: .un :: .un :: .un :: .un :: .un :: .un :: .un :: []) ∧ k ≤ xs.length ∧ n = xs.length - k ∧ H.x = x0) (xs.length) (true :: true :: false :: false :: false :: true :: false :: false :: false :: false :: false :: false :: false :: false :: false :: false :: false :: false :: false :: false :: false :: false :: false :: false :: false :: true :: true :: true :: false :: false :: false :: false :: false :: false :: false :: false :: false :: false :: false :: false :: false :: false :: false :: false :: false :: false :: false :: false :: false :: false :: false :: false :: false :: false :: false :: false :: false :: false :: false :: false :: false :: false :: false :: false :: false :: false :: false :: false :: false :: false :: false :: false :: false :: false :: false :: false :: false :: false :: false :: false :: false :: false :: false :: false :: false :: false :: false :: false :: false :: false :: false :: false :: false :: false :: false :: false :: false :: false :: false :: false :: false :: false :: false :: false :: false :: false :: false :: false :: false :: false :: false :: false :: false :: false :: false :: false :: false :: false :: false :: false :: false :: false :: false :: false :: false :: false :: false :: false :: false :: false :: false :: false :: false :: false :: false :: false :: false :: false :: false :: false :: false :: false :: false :: false :: false :: false :: false :: false :: false :: false :: false :: false :: false :: false :: false :: false :: false :: false :: false :: false :: false :: false :: false :: false :: false :: false :: false :: false :: false :: false :: false :: false :: false :: false :: false :: false :: false :: false :: false :: false :: false :: false :: false :: false :: false :: false :: false :: false :: false :: false :: false :: false :: false :: false :: false :: [])
   · (try dsimp only [maskT]); try exact rfl
   · rfl
   · exact ⟨0, rfl, by omega, rfl, hx0⟩
   rintro n T H ⟨k, rfl, hk, rfl, hx⟩
   refine aw_seq ?_
   refine aw_region ?_
   refine zst (op_ltI (by rfl) (by rfl)) rfl (by dsimp only [zS, zN, zH, zT]) ?_
   refine al_end rfl ?_
   refine then_normal ?_
   refine aw_seq ?_
   refine aw_cond rfl (fun hc3 => ?_) (fun hc3 => ?_)
   ·
    (try simp only [y1, y2, y3, y4, y5, y6, y7, y8, y9, y0, List.length_map] at hc3)
    (try simp only [List.length_map] at hc3)
    have hlt : k < xs.length := by omega
    obtain ⟨y, hy⟩ : ∃ y, xs[k]? = some y := ⟨_, List.getElem?_eq_getElem hlt⟩
    have hyk := hkl y (List.mem_of_getElem? hy)
    obtain ⟨sid, hsid⟩ : ∃ s, s = H.nb := ⟨_, rfl⟩
    refine aw_skip ?_
    refine then_normal ?_
    refine aw_seq ?_
    refine aw_block ?_
    refine aw_seq ?_
    refine aw_region ?_
    refine zst (op_indexAddr Tryz.underlying22 Sz28 (LL.d _ _) (by rfl) (by omega) (show (xs.map stD)[((k : Nat) : Int).toNat]? = some (stD y) by rw [List.getElem?_map, show ((k : Nat) : Int).toNat = k from rfl, hy]; rfl) (by rfl)) rfl (by dsimp only [zS, zN, zH, zT]) ?_
    refine zst (op_load_elts (ds := stC y) Tryz.underlying28 (by rfl) Sz28 (by rfl) (Nat.le_of_ble_eq_true rfl) (by rfl)) rfl (by dsimp only [zS, zN, zH, zT]) ?_
    refine zst (op_alloc (Zr28) (by rfl)) rfl (by dsimp only [zS, zN, zH, zT]) ?_
    refine zst (op_storeB (vs := [.d (I y.kind), .d (I y.sess), .d (I y.n), .d (S y.text), .d (.lst 1 (y.keep.map I))]) (b' := ⟨28, [.d (I y.kind), .d (I y.sess), .d (I y.n), .d (S y.text), .d (.lst 1 (y.keep.map I))], false⟩) (H' := _) Sz28 (by rfl) push_at (by intro h; cases h) (by rfl) (by rfl) (Nat.le_of_ble_eq_true rfl) (by simp [AV.one, DV.one, TF, S, I, BY]) (by rfl) (by rfl) rfl) rfl (by dsimp only [zS, zN, zH, zT]) ?_
    refine al_end rfl ?_
    refine then_normal ?_
    apply aw_cutF (fun T H => ∃ (u : Unit), T = ((.d (.lst 5 (xs.map stD))) :: (.d (I cut)) :: .un :: .un :: .un :: (.d (TF (goods xs k && gf y))) :: .un :: (.ptr sid 0) :: .un :: .un :: .un :: .un :: .un :: .un :: .un :: .un :: .un :: .un :: .un :: .un :: .un :: .un :: .un :: .un :: .un :: (.d (.lst 5 (xs.map stD))) :: (.d (I (xs.map stD).length)) :: (.d (I k)) :: .un :: .un :: .un :: .un :: .un :: .un :: .un :: .un :: .un :: .un :: .un :: .un :: .un :: .un :: .un :: .un :: .un :: .un :: .un :: .un :: .un :: .un :: .un :: .un :: .un :: .un :: .un :: .un :: .un :: .un :: .un :: .un :: .un :: .un :: .un :: .un :: .un :: .un :: .un :: .un :: .un :: .un :: .un :: .un :: .un :: .un :: .un :: .un :: .un :: .un :: .un :: .un :: .un :: .un :: .un :: .un :: .un :: .un :: .un :: .un :: .un :: .un :: .un :: .un :: .un :: .un :: .un :: .un :: .un :: .un :: .un :: .un :: .un :: .un :: .un :: .un :: .un :: .un :: .un :: .un :: .un :: .un :: .un :: .un :: .un :: .un :: .un :: .un :: .un :: .un :: .un :: .un :: .un :: .un :: .un :: .un :: .un :: .un :: .un :: .un :: .un :: .un :: .un :: .un :: .un :: .un :: .un :: .un :: .un :: .un :: .un :: .un :: .un :: .un :: .un :: .un :: .un :: .un :: .un :: .un :: .un :: .un :: .un :: .un :: .un :: .un :: .un :: .un :: .un :: .un :: .un :: .un :: .un :: .un :: .un :: .un :: .un :: .un :: .un :: .un :: .un :: .un :: .un :: .un :: .un :: .un :: .un :: .un :: .un :: .un :: .un :: .un :: .un :: .un :: .un :: .un :: .un :: .un :: .un :: .un :: .un :: .un :: .un :: .un :: .un :: .un :: .un :: []) ∧ H.x = x0 ∧ H.blks[sid]? = some ⟨28, [.d (I y.kind), .d (I y.sess), .d (I y.n), .d (S y.text), .d (.lst 1 (y.keep.map I))], false⟩)
    ·
     refine aw_region ?_
     refine zst (op_move_tmp (by rfl)) rfl (by dsimp only [zS, zN, zH, zT]) ?_
     refine zst (op_move_tmp (by rfl)) rfl (by dsimp only [zS, zN, zH, zT]) ?_
     refine al_split 32 rfl (fun hg4 => ?_) (fun hg4 => ?_)
     ·
      (try simp only [y1, y2, y3, y4, y5, y6, y7, y8, y9, y0, List.length_map] at hg4)
      have hg0 : goods xs k = true := hg4
      apply al_normT
      · (try dsimp only [zS, zN, zH, zT]); try exact rfl
      refine zsw rfl rfl rfl (by first | exact op_fieldAddr_ptr Tryz.underlying28 rfl Sz25 (by rfl) (by rfl) | exact op_fieldAddr_elt Tryz.underlying28 rfl Sz25 (by rfl) (by rfl) (by rfl)) (by dsimp only [zS, zN, zH, zT]) ?_
      refine zsw rfl rfl rfl (by first | exact op_load_elt Tryz.underlying25 (by rfl) (by rfl) (by rfl) | exact op_load_ptr Tryz.underlying25 (by rfl) (by rfl) (by first | exact ha | exact hb2 | exact setB_at push_at) (by rfl)) (by dsimp only [zS, zN, zH, zT]) ?_
      refine zsw rfl rfl rfl (op_geI (by rfl) (by rfl)) (by dsimp only [zS, zN, zH, zT]) ?_
      refine zst (op_pick_tt (by rfl) (val_tmp (by rfl))) rfl (by dsimp only [zS, zN, zH, zT]) ?_
      refine zst (op_move_tmp (by rfl)) rfl (by dsimp only [zS, zN, zH, zT]) ?_
      refine al_split 37 rfl (fun hg5 => ?_) (fun hg5 => ?_)
      ·
       (try simp only [y1, y2, y3, y4, y5, y6, y7, y8, y9, y0, List.length_map] at hg5)
       have g0 : 1 ≤ y.kind := by simpa using hg5
       apply al_normT
       · (try dsimp only [zS, zN, zH, zT]); try exact rfl
       refine zsw rfl rfl rfl (by first | exact op_fieldAddr_ptr Tryz.underlying28 rfl Sz25 (by rfl) (by rfl) | exact op_fieldAddr_elt Tryz.underlying28 rfl Sz25 (by rfl) (by rfl) (by rfl)) (by dsimp only [zS, zN, zH, zT]) ?_
       refine zsw rfl rfl rfl (by first | exact op_load_elt Tryz.underlying25 (by rfl) (by rfl) (by rfl) | exact op_load_ptr Tryz.underlying25 (by rfl) (by rfl) (by first | exact ha | exact hb2 | exact setB_at push_at) (by rfl)) (by dsimp only [zS, zN, zH, zT]) ?_
       refine zsw rfl rfl rfl (op_leI (by rfl) (by rfl)) (by dsimp only [zS, zN, zH, zT]) ?_
       refine zst (op_pick_tt (by rfl) (val_tmp (by rfl))) rfl (by dsimp only [zS, zN, zH, zT]) ?_
       refine zst (op_move_tmp (by rfl)) rfl (by dsimp only [zS, zN, zH, zT]) ?_
       refine al_split 42 rfl (fun hg6 => ?_) (fun hg6 => ?_)
       ·
        (try simp only [y1, y2, y3, y4, y5, y6, y7, y8, y9, y0, List.length_map] at hg6)
        have g1 : y.kind ≤ 7 := by simpa using hg6
        apply al_normT
        · (try dsimp only [zS, zN, zH, zT]); try exact rfl
        refine zsw rfl rfl rfl (by first | exact op_fieldAddr_ptr Tryz.underlying28 rfl Sz3 (by rfl) (by rfl) | exact op_fieldAddr_elt Tryz.underlying28 rfl Sz3 (by rfl) (by rfl) (by rfl)) (by dsimp only [zS, zN, zH, zT]) ?_
        refine zsw rfl rfl rfl (by first | exact op_load_elt Tryz.underlying3 (by rfl) (by rfl) (by rfl) | exact op_load_ptr Tryz.underlying3 (by rfl) (by rfl) (by first | exact ha | exact hb2 | exact setB_at push_at) (by rfl)) (by dsimp only [zS, zN, zH, zT]) ?_
        refine zsw rfl rfl rfl (op_geI (by rfl) (by rfl)) (by dsimp only [zS, zN, zH, zT]) ?_
        refine zst (op_pick_tt (by rfl) (val_tmp (by rfl))) rfl (by dsimp only [zS, zN, zH, zT]) ?_
        refine zst (op_move_tmp (by rfl)) rfl (by dsimp only [zS, zN, zH, zT]) ?_
        refine al_split 47 rfl (fun hg7 => ?_) (fun hg7 => ?_)
        ·
         (try simp only [y1, y2, y3, y4, y5, y6, y7, y8, y9, y0, List.length_map] at hg7)
         have g2 : 0 ≤ y.sess := by simpa using hg7
         apply al_normT
         · (try dsimp only [zS, zN, zH, zT]); try exact rfl
         refine zsw rfl rfl rfl (by first | exact op_fieldAddr_ptr Tryz.underlying28 rfl Sz3 (by rfl) (by rfl) | exact op_fieldAddr_elt Tryz.underlying28 rfl Sz3 (by rfl) (by rfl) (by rfl)) (by dsimp only [zS, zN, zH, zT]) ?_
         refine zsw rfl rfl rfl (by first | exact op_load_elt Tryz.underlying3 (by rfl) (by rfl) (by rfl) | exact op_load_ptr Tryz.underlying3 (by rfl) (by rfl) (by first | exact ha | exact hb2 | exact setB_at push_at) (by rfl)) (by dsimp only [zS, zN, zH, zT]) ?_
         refine zsw rfl rfl rfl (op_leI (by rfl) (by rfl)) (by dsimp only [zS, zN, zH, zT]) ?_
         refine zst (op_pick_tt (by rfl) (val_tmp (by rfl))) rfl (by dsimp only [zS, zN, zH, zT]) ?_
         refine zst (op_move_tmp (by rfl)) rfl (by dsimp only [zS, zN, zH, zT]) ?_
         refine al_split 52 rfl (fun hg8 => ?_) (fun hg8 => ?_)
         ·
          (try simp only [y1, y2, y3, y4, y5, y6, y7, y8, y9, y0, List.length_map] at hg8)
          have g3 : y.sess ≤ 15 := by simpa using hg8
          apply al_normT
          · (try dsimp only [zS, zN, zH, zT]); try exact rfl
          refine zsw rfl rfl rfl (by first | exact op_fieldAddr_ptr Tryz.underlying28 rfl Sz3 (by rfl) (by rfl) | exact op_fieldAddr_elt Tryz.underlying28 rfl Sz3 (by rfl) (by rfl) (by rfl)) (by dsimp only [zS, zN, zH, zT]) ?_
          refine zsw rfl rfl rfl (by first | exact op_load_elt Tryz.underlying3 (by rfl) (by rfl) (by rfl) | exact op_load_ptr Tryz.underlying3 (by rfl) (by rfl) (by first | exact ha | exact hb2 | exact setB_at push_at) (by rfl)) (by dsimp only [zS, zN, zH, zT]) ?_
          refine zsw rfl rfl rfl (op_geI (by rfl) (by rfl)) (by dsimp only [zS, zN, zH, zT]) ?_
          refine zst (op_pick_tt (by rfl) (val_tmp (by rfl))) rfl (by dsimp only [zS, zN, zH, zT]) ?_
          refine zst (op_move_tmp (by rfl)) rfl (by dsimp only [zS, zN, zH, zT]) ?_
          refine al_split 57 rfl (fun hg9 => ?_) (fun hg9 => ?_)
          ·
           (try simp only [y1, y2, y3, y4, y5, y6, y7, y8, y9, y0, List.length_map] at hg9)
           have g4 : 0 ≤ y.n := by simpa using hg9
           apply al_normT
           · (try dsimp only [zS, zN, zH, zT]); try exact rfl
           refine zsw rfl rfl rfl (by first | exact op_fieldAddr_ptr Tryz.underlying28 rfl Sz3 (by rfl) (by rfl) | exact op_fieldAddr_elt Tryz.underlying28 rfl Sz3 (by rfl) (by rfl) (by rfl)) (by dsimp only [zS, zN, zH, zT]) ?_
           refine zsw rfl rfl rfl (by first | exact op_load_elt Tryz.underlying3 (by rfl) (by rfl) (by rfl) | exact op_load_ptr Tryz.underlying3 (by rfl) (by rfl) (by first | exact ha | exact hb2 | exact setB_at push_at) (by rfl)) (by dsimp only [zS, zN, zH, zT]) ?_
           refine zsw rfl rfl rfl (op_leI (by rfl) (by rfl)) (by dsimp only [zS, zN, zH, zT]) ?_
           refine zst (op_pick_tt (by rfl) (val_tmp (by rfl))) rfl (by dsimp only [zS, zN, zH, zT]) ?_
           refine zst (op_move_tmp (by rfl)) rfl (by dsimp only [zS, zN, zH, zT]) ?_
           refine al_split 62 rfl (fun hg10 => ?_) (fun hg10 => ?_)
           ·
            (try simp only [y1, y2, y3, y4, y5, y6, y7, y8, y9, y0, List.length_map] at hg10)
            have g5 : y.n ≤ 1099511627776 := by simpa using hg10
            have hz : (goods xs k && gf y) = decide (((y.keep.map I).length : Int) ≤ 16) := by rw [hg0, List.length_map]; simp only [gf, g0, g1, g2, g3, g4, g5]; simp; omega
            apply al_normT
            · (try dsimp only [zS, zN, zH, zT]); try exact rfl
            refine zsw rfl rfl rfl (by first | exact op_fieldAddr_ptr Tryz.underlying28 rfl Sz26 (by rfl) (by rfl) | exact op_fieldAddr_elt Tryz.underlying28 rfl Sz26 (by rfl) (by rfl) (by rfl)) (by dsimp only [zS, zN, zH, zT]) ?_
            refine zsw rfl rfl rfl (by first | exact op_load_elt Tryz.underlying26 (by rfl) (by rfl) (by rfl) | exact op_load_ptr Tryz.underlying26 (by rfl) (by rfl) (by first | exact ha | exact hb2 | exact setB_at push_at) (by rfl)) (by dsimp only [zS, zN, zH, zT]) ?_
            refine zsw rfl rfl rfl (op_lenL Tryz.underlying26 (by first | exact LL.d _ _ | exact LL.own _ _ _ | exact LL.nil _ | assumption)) (by dsimp only [zS, zN, zH, zT]) ?_
            refine zsw rfl rfl rfl (op_leI (by rfl) (by rfl)) (by dsimp only [zS, zN, zH, zT]) ?_
            refine zst (op_pick_tt (by rfl) (val_tmp (by rfl))) rfl (by dsimp only [zS, zN, zH, zT]) ?_
            refine zst (op_assign_tmp (by rfl)) rfl (by dsimp only [zS, zN, zH, zT]) ?_
            refine al_end rfl ?_
            apply cut_to (true :: true :: false :: false :: false :: true :: false :: true :: false :: false :: false :: false :: false :: false :: false :: false :: false :: false :: false :: false :: false :: false :: false :: false :: false :: true :: true :: true :: false :: false :: false :: false :: false :: false :: false :: false :: false :: false :: false :: false :: false :: false :: false :: false :: false :: false :: false :: false :: false :: false :: false :: false :: false :: false :: false :: false :: false :: false :: false :: false :: false :: false :: false :: false :: false :: false :: false :: false :: false :: false :: false :: false :: false :: false :: false :: false :: false :: false :: false :: false :: false :: false :: false :: false :: false :: false :: false :: false :: false :: false :: false :: false :: false :: false :: false :: false :: false :: false :: false :: false :: false :: false :: false :: false :: false :: false :: false :: false :: false :: false :: false :: false :: false :: false :: false :: false :: false :: false :: false :: false :: false :: false :: false :: false :: false :: false :: false :: false :: false :: false :: false :: false :: false :: false :: false :: false :: false :: false :: false :: false :: false :: false :: false :: false :: false :: false :: false :: false :: false :: false :: false :: false :: false :: false :: false :: false :: false :: false :: false :: false :: false :: false :: false :: false :: false :: false :: false :: false :: false :: false :: false :: false :: false :: false :: false :: false :: false :: false :: false :: false :: false :: false :: false :: false :: false :: false :: false :: false :: false :: false :: false :: false :: false :: false :: false :: [])
            · (try dsimp only [maskT]); try exact rfl
            · rfl
            exact ⟨(), by (rw [hz, hsid]) <;> rfl, hx, by rw [hsid]; exact setB_at push_at⟩
           ·
            (try simp only [y1, y2, y3, y4, y5, y6, y7, y8, y9, y0, List.length_map] at hg10)
            have g5 : ¬ (y.n ≤ 1099511627776) := by simpa using hg10
            have hz : (goods xs k && gf y) = false := by simp only [gf, g5]; simp
            apply al_normT
            · (try dsimp only [zS, zN, zH, zT]); try exact rfl
            refine zuw rfl rfl rfl rfl (by dsimp only [zS, zN, zH, zT]) ?_
            refine zuw rfl rfl rfl rfl (by dsimp only [zS, zN, zH, zT]) ?_
            refine zuw rfl rfl rfl rfl (by dsimp only [zS, zN, zH, zT]) ?_
            refine zuw rfl rfl rfl rfl (by dsimp only [zS, zN, zH, zT]) ?_
            refine zst (op_pick_ff (by rfl) (val_const (by rfl))) rfl (by dsimp only [zS, zN, zH, zT]) ?_
            refine zst (op_assign_tmp (by rfl)) rfl (by dsimp only [zS, zN, zH, zT]) ?_
            refine al_end rfl ?_
            apply cut_to (true :: true :: false :: false :: false :: true :: false :: true :: false :: false :: false :: false :: false :: false :: false :: false :: false :: false :: false :: false :: false :: false :: false :: false :: false :: true :: true :: true :: false :: false :: false :: false :: false :: false :: false :: false :: false :: false :: false :: false :: false :: false :: false :: false :: false :: false :: false :: false :: false :: false :: false :: false :: false :: false :: false :: false :: false :: false :: false :: false :: false :: false :: false :: false :: false :: false :: false :: false :: false :: false :: false :: false :: false :: false :: false :: false :: false :: false :: false :: false :: false :: false :: false :: false :: false :: false :: false :: false :: false :: false :: false :: false :: false :: false :: false :: false :: false :: false :: false :: false :: false :: false :: false :: false :: false :: false :: false :: false :: false :: false :: false :: false :: false :: false :: false :: false :: false :: false :: false :: false :: false :: false :: false :: false :: false :: false :: false :: false :: false :: false :: false :: false :: false :: false :: false :: false :: false :: false :: false :: false :: false :: false :: false :: false :: false :: false :: false :: false :: false :: false :: false :: false :: false :: false :: false :: false :: false :: false :: false :: false :: false :: false :: false :: false :: false :: false :: false :: false :: false :: false :: false :: false :: false :: false :: false :: false :: false :: false :: false :: false :: false :: false :: false :: false :: false :: false :: false :: false :: false :: false :: false :: false :: false :: false :: false :: [])
            · (try dsimp only [maskT]); try exact rfl
            · rfl
            exact ⟨(), by (rw [hz, hsid]) <;> rfl, hx, by rw [hsid]; exact setB_at push_at⟩
          ·
           (try simp only [y1, y2, y3, y4, y5, y6, y7, y8, y9, y0, List.length_map] at hg9)
           have g4 : ¬ (0 ≤ y.n) := by simpa using hg9
           have hz : (goods xs k && gf y) = false := by simp only [gf, g4]; simp
           apply al_normT
           · (try dsimp only [zS, zN, zH, zT]); try exact rfl
           refine zuw rfl rfl rfl rfl (by dsimp only [zS, zN, zH, zT]) ?_
           refine zuw rfl rfl rfl rfl (by dsimp only [zS, zN, zH, zT]) ?_
           refine zuw rfl rfl rfl rfl (by dsimp only [zS, zN, zH, zT]) ?_
           refine zst (op_pick_ff (by rfl) (val_const (by rfl))) rfl (by dsimp only [zS, zN, zH, zT]) ?_
           refine zst (op_move_tmp (by rfl)) rfl (by dsimp only [zS, zN, zH, zT]) ?_
           refine zuw rfl rfl rfl rfl (by dsimp only [zS, zN, zH, zT]) ?_
           refine zuw rfl rfl rfl rfl (by dsimp only [zS, zN, zH, zT]) ?_
           refine zuw rfl rfl rfl rfl (by dsimp only [zS, zN, zH, zT]) ?_
           refine zuw rfl rfl rfl rfl (by dsimp only [zS, zN, zH, zT]) ?_
           refine zst (op_pick_ff (by rfl) (val_const (by rfl))) rfl (by dsimp only [zS, zN, zH, zT]) ?_
           refine zst (op_assign_tmp (by rfl)) rfl (by dsimp only [zS, zN, zH, zT]) ?_
           refine al_end rfl ?_
           apply cut_to (true :: true :: false :: false :: false :: true :: false :: true :: false :: false :: false :: false :: false :: false :: false :: false :: false :: false :: false :: false :: false :: false :: false :: false :: false :: true :: true :: true :: false :: false :: false :: false :: false :: false :: false :: false :: false :: false :: false :: false :: false :: false :: false :: false :: false :: false :: false :: false :: false :: false :: false :: false :: false :: false :: false :: false :: false :: false :: false :: false :: false :: false :: false :: false :: false :: false :: false :: false :: false :: false :: false :: false :: false :: false :: false :: false :: false :: false :: false :: false :: false :: false :: false :: false :: false :: false :: false :: false :: false :: false :: false :: false :: false :: false :: false :: false :: false :: false :: false :: false :: false :: false :: false :: false :: false :: false :: false :: false :: false :: false :: false :: false :: false :: false :: false :: false :: false :: false :: false :: false :: false :: false :: false :: false :: false :: false :: false :: false :: false :: false :: false :: false :: false :: false :: false :: false :: false :: false :: false :: false :: false :: false :: false :: false :: false :: false :: false :: false :: false :: false :: false :: false :: false :: false :: false :: false :: false :: false :: false :: false :: false :: false :: false :: false :: false :: false :: false :: false :: false :: false :: false :: false :: false :: false :: false :: false :: false :: false :: false :: false :: false :: false :: false :: false :: false :: false :: false :: false :: false :: false :: false :: false :: false :: false :: false :: [])
           · (try dsimp only [maskT]); try exact rfl
           · rfl
           exact ⟨(), by (rw [hz, hsid]) <;> rfl, hx, by rw [hsid]; exact setB_at push_at⟩
         ·
          (try simp only [y1, y2, y3, y4, y5, y6, y7, y8, y9, y0, List.length_map] at hg8)
          have g3 : ¬ (y.sess ≤ 15) := by simpa using hg8
          have hz : (goods xs k && gf y) = false := by simp only [gf, g3]; simp
          apply al_normT
          · (try dsimp only [zS, zN, zH, zT]); try exact rfl
          refine zuw rfl rfl rfl rfl (by dsimp only [zS, zN, zH, zT]) ?_
          refine zuw rfl rfl rfl rfl (by dsimp only [zS, zN, zH, zT]) ?_
          refine zuw rfl rfl rfl rfl (by dsimp only [zS, zN, zH, zT]) ?_
          refine zst (op_pick_ff (by rfl) (val_const (by rfl))) rfl (by dsimp only [zS, zN, zH, zT]) ?_
          refine zst (op_move_tmp (by rfl)) rfl (by dsimp only [zS, zN, zH, zT]) ?_
          refine zuw rfl rfl rfl rfl (by dsimp only [zS, zN, zH, zT]) ?_
          refine zuw rfl rfl rfl rfl (by dsimp only [zS, zN, zH, zT]) ?_
          refine zuw rfl rfl rfl rfl (by dsimp only [zS, zN, zH, zT]) ?_
          refine zst (op_pick_ff (by rfl) (val_const (by rfl))) rfl (by dsimp only [zS, zN, zH, zT]) ?_
          refine zst (op_move_tmp (by rfl)) rfl (by dsimp only [zS, zN, zH, zT]) ?_
          refine zuw rfl rfl rfl rfl (by dsimp only [zS, zN, zH, zT]) ?_
          refine zuw rfl rfl rfl rfl (by dsimp only [zS, zN, zH, zT]) ?_
          refine zuw rfl rfl rfl rfl (by dsimp only [zS, zN, zH, zT]) ?_
          refine zuw rfl rfl rfl rfl (by dsimp only [zS, zN, zH, zT]) ?_
          refine zst (op_pick_ff (by rfl) (val_const (by rfl))) rfl (by dsimp only [zS, zN, zH, zT]) ?_
          refine zst (op_assign_tmp (by rfl)) rfl (by dsimp only [zS, zN, zH, zT]) ?_
          refine al_end rfl ?_
          apply cut_to (true :: true :: false :: false :: false :: true :: false :: true :: false :: false :: false :: false :: false :: false :: false :: false :: false :: false :: false :: false :: false :: false :: false :: false :: false :: true :: true :: true :: false :: false :: false :: false :: false :: false :: false :: false :: false :: false :: false :: false :: false :: false :: false :: false :: false :: false :: false :: false :: false :: false :: false :: false :: false :: false :: false :: false :: false :: false :: false :: false :: false :: false :: false :: false :: false :: false :: false :: false :: false :: false :: false :: false :: false :: false :: false :: false :: false :: false :: false :: false :: false :: false :: false :: false :: false :: false :: false :: false :: false :: false :: false :: false :: false :: false :: false :: false :: false :: false :: false :: false :: false :: false :: false :: false :: false :: false :: false :: false :: false :: false :: false :: false :: false :: false :: false :: false :: false :: false :: false :: false :: false :: false :: false :: false :: false :: false :: false :: false :: false :: false :: false :: false :: false :: false :: false :: false :: false :: false :: false :: false :: false :: false :: false :: false :: false :: false :: false :: false :: false :: false :: false :: false :: false :: false :: false :: false :: false :: false :: false :: false :: false :: false :: false :: false :: false :: false :: false :: false :: false :: false :: false :: false :: false :: false :: false :: false :: false :: false :: false :: false :: false :: false :: false :: false :: false :: false :: false :: false :: false :: false :: false :: false :: false :: false :: false :: [])
          · (try dsimp only [maskT]); try exact rfl
          · rfl
          exact ⟨(), by (rw [hz, hsid]) <;> rfl, hx, by rw [hsid]; exact setB_at push_at⟩
        ·
         (try simp only [y1, y2, y3, y4, y5, y6, y7, y8, y9, y0, List.length_map] at hg7)
         have g2 : ¬ (0 ≤ y.sess) := by simpa using hg7
         have hz : (goods xs k && gf y) = false := by simp only [gf, g2]; simp
         apply al_normT
         · (try dsimp only [zS, zN, zH, zT]); try exact rfl
         refine zuw rfl rfl rfl rfl (by dsimp only [zS, zN, zH, zT]) ?_
         refine zuw rfl rfl rfl rfl (by dsimp only [zS, zN, zH, zT]) ?_
         refine zuw rfl rfl rfl rfl (by dsimp only [zS, zN, zH, zT]) ?_
         refine zst (op_pick_ff (by rfl) (val_const (by rfl))) rfl (by dsimp only [zS, zN, zH, zT]) ?_
         refine zst (op_move_tmp (by rfl)) rfl (by dsimp only [zS, zN, zH, zT]) ?_
         refine zuw rfl rfl rfl rfl (by dsimp only [zS, zN, zH, zT]) ?_
         refine zuw rfl rfl rfl rfl (by dsimp only [zS, zN, zH, zT]) ?_
         refine zuw rfl rfl rfl rfl (by dsimp only [zS, zN, zH, zT]) ?_
         refine zst (op_pick_ff (by rfl) (val_const (by rfl))) rfl (by dsimp only [zS, zN, zH, zT]) ?_
         refine zst (op_move_tmp (by rfl)) rfl (by dsimp only [zS, zN, zH, zT]) ?_
         refine zuw rfl rfl rfl rfl (by dsimp only [zS, zN, zH, zT]) ?_
         refine zuw rfl rfl rfl rfl (by dsimp only [zS, zN, zH, zT]) ?_
         refine zuw rfl rfl rfl rfl (by dsimp only [zS, zN, zH, zT]) ?_
         refine zst (op_pick_ff (by rfl) (val_const (by rfl))) rfl (by dsimp only [zS, zN, zH, zT]) ?_
         refine zst (op_move_tmp (by rfl)) rfl (by dsimp only [zS, zN, zH, zT]) ?_
         refine zuw rfl rfl rfl rfl (by dsimp only [zS, zN, zH, zT]) ?_
         refine zuw rfl rfl rfl rfl (by dsimp only [zS, zN, zH, zT]) ?_
         refine zuw rfl rfl rfl rfl (by dsimp only [zS, zN, zH, zT]) ?_
         refine zuw rfl rfl rfl rfl (by dsimp only [zS, zN, zH, zT]) ?_
         refine zst (op_pick_ff (by rfl) (val_const (by rfl))) rfl (by dsimp only [zS, zN, zH, zT]) ?_
         refine zst (op_assign_tmp (by rfl)) rfl (by dsimp only [zS, zN, zH, zT]) ?_
         refine al_end rfl ?_
         apply cut_to (true :: true :: false :: false :: false :: true :: false :: true :: false :: false :: false :: false :: false :: false :: false :: false :: false :: false :: false :: false :: false :: false :: false :: false :: false :: true :: true :: true :: false :: false :: false :: false :: false :: false :: false :: false :: false :: false :: false :: false :: false :: false :: false :: false :: false :: false :: false :: false :: false :: false :: false :: false :: false :: false :: false :: false :: false :: false :: false :: false :: false :: false :: false :: false :: false :: false :: false :: false :: false :: false :: false :: false :: false :: false :: false :: false :: false :: false :: false :: false :: false :: false :: false :: false :: false :: false :: false :: false :: false :: false :: false :: false :: false :: false :: false :: false :: false :: false :: false :: false :: false :: false :: false :: false :: false :: false :: false :: false :: false :: false :: false :: false :: false :: false :: false :: false :: false :: false :: false :: false :: false :: false :: false :: false :: false :: false :: false :: false :: false :: false :: false :: false :: false :: false :: false :: false :: false :: false :: false :: false :: false :: false :: false :: false :: false :: false :: false :: false :: false :: false :: false :: false :: false :: false :: false :: false :: false :: false :: false :: false :: false :: false :: false :: false :: false :: false :: false :: false :: false :: false :: false :: false :: false :: false :: false :: false :: false :: false :: false :: false :: false :: false :: false :: false :: false :: false :: false :: false :: false :: false :: false :: false :: false :: false :: false :: [])
         · (try dsimp only [maskT]); try exact rfl
         · rfl
         exact ⟨(), by (rw [hz, hsid]) <;> rfl, hx, by rw [hsid]; exact setB_at push_at⟩
       ·
        (try simp only [y1, y2, y3, y4, y5, y6, y7, y8, y9, y0, List.length_map] at hg6)
        have g1 : ¬ (y.kind ≤ 7) := by simpa using hg6
        have hz : (goods xs k && gf y) = false := by simp only [gf, g1]; simp
        apply al_normT
        · (try dsimp only [zS, zN, zH, zT]); try exact rfl
        refine zuw rfl rfl rfl rfl (by dsimp only [zS, zN, zH, zT]) ?_
        refine zuw rfl rfl rfl rfl (by dsimp only [zS, zN, zH, zT]) ?_
        refine zuw rfl rfl rfl rfl (by dsimp only [zS, zN, zH, zT]) ?_
        refine zst (op_pick_ff (by rfl) (val_const (by rfl))) rfl (by dsimp only [zS, zN, zH, zT]) ?_
        refine zst (op_move_tmp (by rfl)) rfl (by dsimp only [zS, zN, zH, zT]) ?_
        refine zuw rfl rfl rfl rfl (by dsimp only [zS, zN, zH, zT]) ?_
        refine zuw rfl rfl rfl rfl (by dsimp only [zS, zN, zH, zT]) ?_
        refine zuw rfl rfl rfl rfl (by dsimp only [zS, zN, zH, zT]) ?_
        refine zst (op_pick_ff (by rfl) (val_const (by rfl))) rfl (by dsimp only [zS, zN, zH, zT]) ?_
        refine zst (op_move_tmp (by rfl)) rfl (by dsimp only [zS, zN, zH, zT]) ?_
        refine zuw rfl rfl rfl rfl (by dsimp only [zS, zN, zH, zT]) ?_
        refine zuw rfl rfl rfl rfl (by dsimp only [zS, zN, zH, zT]) ?_
        refine zuw rfl rfl rfl rfl (by dsimp only [zS, zN, zH, zT]) ?_
        refine zst (op_pick_ff (by rfl) (val_const (by rfl))) rfl (by dsimp only [zS, zN, zH, zT]) ?_
        refine zst (op_move_tmp (by rfl)) rfl (by dsimp only [zS, zN, zH, zT]) ?_
        refine zuw rfl rfl rfl rfl (by dsimp only [zS, zN, zH, zT]) ?_
        refine zuw rfl rfl rfl rfl (by dsimp only [zS, zN, zH, zT]) ?_
        refine zuw rfl rfl rfl rfl (by dsimp only [zS, zN, zH, zT]) ?_
        refine zst (op_pick_ff (by rfl) (val_const (by rfl))) rfl (by dsimp only [zS, zN, zH, zT]) ?_
        refine zst (op_move_tmp (by rfl)) rfl (by dsimp only [zS, zN, zH, zT]) ?_
        refine zuw rfl rfl rfl rfl (by dsimp only [zS, zN, zH, zT]) ?_
        refine zuw rfl rfl rfl rfl (by dsimp only [zS, zN, zH, zT]) ?_
        refine zuw rfl rfl rfl rfl (by dsimp only [zS, zN, zH, zT]) ?_
        refine zuw rfl rfl rfl rfl (by dsimp only [zS, zN, zH, zT]) ?_
        refine zst (op_pick_ff (by rfl) (val_const (by rfl))) rfl (by dsimp only [zS, zN, zH, zT]) ?_
        refine zst (op_assign_tmp (by rfl)) rfl (by dsimp only [zS, zN, zH, zT]) ?_
        refine al_end rfl ?_
        apply cut_to (true :: true :: false :: false :: false :: true :: false :: true :: false :: false :: false :: false :: false :: false :: false :: false :: false :: false :: false :: false :: false :: false :: false :: false :: false :: true :: true :: true :: false :: false :: false :: false :: false :: false :: false :: false :: false :: false :: false :: false :: false :: false :: false :: false :: false :: false :: false :: false :: false :: false :: false :: false :: false :: false :: false :: false :: false :: false :: false :: false :: false :: false :: false :: false :: false :: false :: false :: false :: false :: false :: false :: false :: false :: false :: false :: false :: false :: false :: false :: false :: false :: false :: false :: false :: false :: false :: false :: false :: false :: false :: false :: false :: false :: false :: false :: false :: false :: false :: false :: false :: false :: false :: false :: false :: false :: false :: false :: false :: false :: false :: false :: false :: false :: false :: false :: false :: false :: false :: false :: false :: false :: false :: false :: false :: false :: false :: false :: false :: false :: false :: false :: false :: false :: false :: false :: false :: false :: false :: false :: false :: false :: false :: false :: false :: false :: false :: false :: false :: false :: false :: false :: false :: false :: false :: false :: false :: false :: false :: false :: false :: false :: false :: false :: false :: false :: false :: false :: false :: false :: false :: false :: false :: false :: false :: false :: false :: false :: false :: false :: false :: false :: false :: false :: false :: false :: false :: false :: false :: false :: false :: false :: false :: false :: false :: false :: [])
        · (try dsimp only [maskT]); try exact rfl
        · rfl
        exact ⟨(), by (rw [hz, hsid]) <;> rfl, hx, by rw [hsid]; exact setB_at push_at⟩
      ·
       (try simp only [y1, y2, y3, y4, y5, y6, y7, y8, y9, y0, List.length_map] at hg5)
       have g0 : ¬ (1 ≤ y.kind) := by simpa using hg5
       have hz : (goods xs k && gf y) = false := by simp only [gf, g0]; simp
       apply al_normT
       · (try dsimp only [zS, zN, zH, zT]); try exact rfl
       refine zuw rfl rfl rfl rfl (by dsimp only [zS, zN, zH, zT]) ?_
       refine zuw rfl rfl rfl rfl (by dsimp only [zS, zN, zH, zT]) ?_
       refine zuw rfl rfl rfl rfl (by dsimp only [zS, zN, zH, zT]) ?_
       refine zst (op_pick_ff (by rfl) (val_const (by rfl))) rfl (by dsimp only [zS, zN, zH, zT]) ?_
       refine zst (op_move_tmp (by rfl)) rfl (by dsimp only [zS, zN, zH, zT]) ?_
       refine zuw rfl rfl rfl rfl (by dsimp only [zS, zN, zH, zT]) ?_
       refine zuw rfl rfl rfl rfl (by dsimp only [zS, zN, zH, zT]) ?_
       refine zuw rfl rfl rfl rfl (by dsimp only [zS, zN, zH, zT]) ?_
       refine zst (op_pick_ff (by rfl) (val_const (by rfl))) rfl (by dsimp only [zS, zN, zH, zT]) ?_
       refine zst (op_move_tmp (by rfl)) rfl (by dsimp only [zS, zN, zH, zT]) ?_
       refine zuw rfl rfl rfl rfl (by dsimp only [zS, zN, zH, zT]) ?_
       refine zuw rfl rfl rfl rfl (by dsimp only [zS, zN, zH, zT]) ?_
       refine zuw rfl rfl rfl rfl (by dsimp only [zS, zN, zH, zT]) ?_
       refine zst (op_pick_ff (by rfl) (val_const (by rfl))) rfl (by dsimp only [zS, zN, zH, zT]) ?_
       refine zst (op_move_tmp (by rfl)) rfl (by dsimp only [zS, zN, zH, zT]) ?_
       refine zuw rfl rfl rfl rfl (by dsimp only [zS, zN, zH, zT]) ?_
       refine zuw rfl rfl rfl rfl (by dsimp only [zS, zN, zH, zT]) ?_
       refine zuw rfl rfl rfl rfl (by dsimp only [zS, zN, zH, zT]) ?_
       refine zst (op_pick_ff (by rfl) (val_const (by rfl))) rfl (by dsimp only [zS, zN, zH, zT]) ?_
       refine zst (op_move_tmp (by rfl)) rfl (by dsimp only [zS, zN, zH, zT]) ?_
       refine zuw rfl rfl rfl rfl (by dsimp only [zS, zN, zH, zT]) ?_
       refine zuw rfl rfl rfl rfl (by dsimp only [zS, zN, zH, zT]) ?_
       refine zuw rfl rfl rfl rfl (by dsimp only [zS, zN, zH, zT]) ?_
       refine zst (op_pick_ff (by rfl) (val_const (by rfl))) rfl (by dsimp only [zS, zN, zH, zT]) ?_
       refine zst (op_move_tmp (by rfl)) rfl (by dsimp only [zS, zN, zH, zT]) ?_
       refine zuw rfl rfl rfl rfl (by dsimp only [zS, zN, zH, zT]) ?_
       refine zuw rfl rfl rfl rfl (by dsimp only [zS, zN, zH, zT]) ?_
       refine zuw rfl rfl rfl rfl (by dsimp only [zS, zN, zH, zT]) ?_
       refine zuw rfl rfl rfl rfl (by dsimp only [zS, zN, zH, zT]) ?_
       refine zst (op_pick_ff (by rfl) (val_const (by rfl))) rfl (by dsimp only [zS, zN, zH, zT]) ?_
       refine zst (op_assign_tmp (by rfl)) rfl (by dsimp only [zS, zN, zH, zT]) ?_
       refine al_end rfl ?_
       apply cut_to (true :: true :: false :: false :: false :: true :: false :: true :: false :: false :: false :: false :: false :: false :: false :: false :: false :: false :: false :: false :: false :: false :: false :: false :: false :: true :: true :: true :: false :: false :: false :: false :: false :: false :: false :: false :: false :: false :: false :: false :: false :: false :: false :: false :: false :: false :: false :: false :: false :: false :: false :: false :: false :: false :: false :: false :: false :: false :: false :: false :: false :: false :: false :: false :: false :: false :: false :: false :: false :: false :: false :: false :: false :: false :: false :: false :: false :: false :: false :: false :: false :: false :: false :: false :: false :: false :: false :: false :: false :: false :: false :: false :: false :: false :: false :: false :: false :: false :: false :: false :: false :: false :: false :: false :: false :: false :: false :: false :: false :: false :: false :: false :: false :: false :: false :: false :: false :: false :: false :: false :: false :: false :: false :: false :: false :: false :: false :: false :: false :: false :: false :: false :: false :: false :: false :: false :: false :: false :: false :: false :: false :: false :: false :: false :: false :: false :: false :: false :: false :: false :: false :: false :: false :: false :: false :: false :: false :: false :: false :: false :: false :: false :: false :: false :: false :: false :: false :: false :: false :: false :: false :: false :: false :: false :: false :: false :: false :: false :: false :: false :: false :: false :: false :: false :: false :: false :: false :: false :: false :: false :: false :: false :: false :: false :: false :: [])
       · (try dsimp only [maskT]); try exact rfl
       · rfl
       exact ⟨(), by (rw [hz, hsid]) <;> rfl, hx, by rw [hsid]; exact setB_at push_at⟩
     ·
      (try simp only [y1, y2, y3, y4, y5, y6, y7, y8, y9, y0, List.length_map] at hg4)
      have hz : (goods xs k && gf y) = false := by rw [show goods xs k = false from by simpa using hg4]; rfl
      apply al_normT
      · (try dsimp only [zS, zN, zH, zT]); try exact rfl
      refine zuw rfl rfl rfl rfl (by dsimp only [zS, zN, zH, zT]) ?_
      refine zuw rfl rfl rfl rfl (by dsimp only [zS, zN, zH, zT]) ?_
      refine zuw rfl rfl rfl rfl (by dsimp only [zS, zN, zH, zT]) ?_
      refine zst (op_pick_ff (by rfl) (val_const (by rfl))) rfl (by dsimp only [zS, zN, zH, zT]) ?_
      refine zst (op_move_tmp (by rfl)) rfl (by dsimp only [zS, zN, zH, zT]) ?_
      refine zuw rfl rfl rfl rfl (by dsimp only [zS, zN, zH, zT]) ?_
      refine zuw rfl rfl rfl rfl (by dsimp only [zS, zN, zH, zT]) ?_
      refine zuw rfl rfl rfl rfl (by dsimp only [zS, zN, zH, zT]) ?_
      refine zst (op_pick_ff (by rfl) (val_const (by rfl))) rfl (by dsimp only [zS, zN, zH, zT]) ?_
      refine zst (op_move_tmp (by rfl)) rfl (by dsimp only [zS, zN, zH, zT]) ?_
      refine zuw rfl rfl rfl rfl (by dsimp only [zS, zN, zH, zT]) ?_
      refine zuw rfl rfl rfl rfl (by dsimp only [zS, zN, zH, zT]) ?_
      refine zuw rfl rfl rfl rfl (by dsimp only [zS, zN, zH, zT]) ?_
      refine zst (op_pick_ff (by rfl) (val_const (by rfl))) rfl (by dsimp only [zS, zN, zH, zT]) ?_
      refine zst (op_move_tmp (by rfl)) rfl (by dsimp only [zS, zN, zH, zT]) ?_
      refine zuw rfl rfl rfl rfl (by dsimp only [zS, zN, zH, zT]) ?_
      refine zuw rfl rfl rfl rfl (by dsimp only [zS, zN, zH, zT]) ?_
      refine zuw rfl rfl rfl rfl (by dsimp only [zS, zN, zH, zT]) ?_
      refine zst (op_pick_ff (by rfl) (val_const (by rfl))) rfl (by dsimp only [zS, zN, zH, zT]) ?_
      refine zst (op_move_tmp (by rfl)) rfl (by dsimp only [zS, zN, zH, zT]) ?_
      refine zuw rfl rfl rfl rfl (by dsimp only [zS, zN, zH, zT]) ?_
      refine zuw rfl rfl rfl rfl (by dsimp only [zS, zN, zH, zT]) ?_
      refine zuw rfl rfl rfl rfl (by dsimp only [zS, zN, zH, zT]) ?_
      refine zst (op_pick_ff (by rfl) (val_const (by rfl))) rfl (by dsimp only [zS, zN, zH, zT]) ?_
      refine zst (op_move_tmp (by rfl)) rfl (by dsimp only [zS, zN, zH, zT]) ?_
      refine zuw rfl rfl rfl rfl (by dsimp only [zS, zN, zH, zT]) ?_
      refine zuw rfl rfl rfl rfl (by dsimp only [zS, zN, zH, zT]) ?_
      refine zuw rfl rfl rfl rfl (by dsimp only [zS, zN, zH, zT]) ?_
      refine zst (op_pick_ff (by rfl) (val_const (by rfl))) rfl (by dsimp only [zS, zN, zH, zT]) ?_
      refine zst (op_move_tmp (by rfl)) rfl (by dsimp only [zS, zN, zH, zT]) ?_
      refine zuw rfl rfl rfl rfl (by dsimp only [zS, zN, zH, zT]) ?_
      refine zuw rfl rfl rfl rfl (by dsimp only [zS, zN, zH, zT]) ?_
      refine zuw rfl rfl rfl rfl (by dsimp only [zS, zN, zH, zT]) ?_
      refine zuw rfl rfl rfl rfl (by dsimp only [zS, zN, zH, zT]) ?_
      refine zst (op_pick_ff (by rfl) (val_const (by rfl))) rfl (by dsimp only [zS, zN, zH, zT]) ?_
      refine zst (op_assign_tmp (by rfl)) rfl (by dsimp only [zS, zN, zH, zT]) ?_
      refine al_end rfl ?_
      apply cut_to (true :: true :: false :: false :: false :: true :: false :: true :: false :: false :: false :: false :: false :: false :: false :: false :: false :: false :: false :: false :: false :: false :: false :: false :: false :: true :: true :: true :: false :: false :: false :: false :: false :: false :: false :: false :: false :: false :: false :: false :: false :: false :: false :: false :: false :: false :: false :: false :: false :: false :: false :: false :: false :: false :: false :: false :: false :: false :: false :: false :: false :: false :: false :: false :: false :: false :: false :: false :: false :: false :: false :: false :: false :: false :: false :: false :: false :: false :: false :: false :: false :: false :: false :: false :: false :: false :: false :: false :: false :: false :: false :: false :: false :: false :: false :: false :: false :: false :: false :: false :: false :: false :: false :: false :: false :: false :: false :: false :: false :: false :: false :: false :: false :: false :: false :: false :: false :: false :: false :: false :: false :: false :: false :: false :: false :: false :: false :: false :: false :: false :: false :: false :: false :: false :: false :: false :: false :: false :: false :: false :: false :: false :: false :: false :: false :: false :: false :: false :: false :: false :: false :: false :: false :: false :: false :: false :: false :: false :: false :: false :: false :: false :: false :: false :: false :: false :: false :: false :: false :: false :: false :: false :: false :: false :: false :: false :: false :: false :: false :: false :: false :: false :: false :: false :: false :: false :: false :: false :: false :: false :: false :: false :: false :: false :: false :: [])
      · (try dsimp only [maskT]); try exact rfl
      · rfl
      exact ⟨(), by (rw [hz, hsid]) <;> rfl, hx, by rw [hsid]; exact setB_at push_at⟩
    rintro T H ⟨u, rfl, hx3, hb2⟩
    refine aw_seq ?_
    refine aw_region ?_
    refine zst (by first | exact op_fieldAddr_ptr Tryz.underlying28 rfl Sz26 (by rfl) (by rfl) | exact op_fieldAddr_elt Tryz.underlying28 rfl Sz26 (by rfl) (by rfl) (by rfl)) rfl (by dsimp only [zS, zN, zH, zT]) ?_
    refine zst (by first | exact op_load_elt Tryz.underlying26 (by rfl) (by rfl) (by rfl) | exact op_load_ptr Tryz.underlying26 (by rfl) (by rfl) (by first | exact ha | exact hb2 | exact setB_at push_at) (by rfl)) rfl (by dsimp only [zS, zN, zH, zT]) ?_
    refine zst (op_lenL Tryz.underlying26 (by first | exact LL.d _ _ | exact LL.own _ _ _ | exact LL.nil _ | assumption)) rfl (by dsimp only [zS, zN, zH, zT]) ?_
    refine zst (op_move_const (by rfl)) rfl (by dsimp only [zS, zN, zH, zT]) ?_
    refine al_end rfl ?_
    refine then_normal ?_
    refine aw_block ?_
    apply aw_loopF (fun n T H => ∃ (j : Nat), T = ((.d (.lst 5 (xs.map stD))) :: (.d (I cut)) :: .un :: .un :: .un :: (.d (TF (prt xs k y j))) :: .un :: .un :: .un :: .un :: .un :: .un :: .un :: .un :: .un :: .un :: .un :: .un :: .un :: .un :: .un :: .un :: .un :: .un :: .un :: (.d (.lst 5 (xs.map stD))) :: (.d (I (xs.map stD).length)) :: (.d (I k)) :: .un :: .un :: .un :: .un :: .un :: .un :: .un :: .un :: .un :: .un :: .un :: .un :: .un :: .un :: .un :: .un :: .un :: .un :: .un :: .un :: .un :: .un :: .un :: .un :: .un :: .un :: .un :: .un :: .un :: .un :: .un :: .un :: .un :: .un :: .un :: .un :: .un :: .un :: .un :: .un :: .un :: (.d (.lst 1 (y.keep.map I))) :: (.d (I (y.keep.map I).length)) :: (.d (I j)) :: .un :: .un :: .un :: .un :: .un :: .un :: .un :: .un :: .un :: .un :: .un :: .un :: .un :: .un :: .un :: .un :: .un :: .un :: .un :: .un :: .un :: .un :: .un :: .un :: .un :: .un :: .un :: .un :: .un :: .un :: .un :: .un :: .un :: .un :: .un :: .un :: .un :: .un :: .un :: .un :: .un :: .un :: .un :: .un :: .un :: .un :: .un :: .un :: .un :: .un :: .un :: .un :: .un :: .un :: .un :: .un :: .un :: .un :: .un :: .un :: .un :: .un :: .un :: .un :: .un :: .un :: .un :: .un :: .un :: .un :: .un :: .un :: .un :: .un :: .un :: .un :: .un :: .un :: .un :: .un :: .un :: .un :: .un :: .un :: .un :: .un :: .un :: .un :: .un :: .un :: .un :: .un :: .un :: .un :: .un :: .un :: .un :: .un :: .un :: .un :: .un :: .un :: .un :: .un :: .un :: .un :: .un :: .un :: .un :: .un :: .un :: .un :: .un :: .un :: .un :: .un :: .un :: .un :: .un :: .un :: .un :: .un :: .un :: []) ∧ j ≤ y.keep.length ∧ n = y.keep.length - j ∧ H.x = x0) (y.keep.length) (true :: true :: false :: false :: false :: true :: false :: false :: false :: false :: false :: false :: false :: false :: false :: false :: false :: false :: false :: false :: false :: false :: false :: false :: false :: true :: true :: true :: false :: false :: false :: false :: false :: false :: false :: false :: false :: false :: false :: false :: false :: false :: false :: false :: false :: false :: false :: false :: false :: false :: false :: false :: false :: false :: false :: false :: false :: false :: false :: false :: false :: false :: false :: false :: false :: false :: false :: false :: false :: true :: true :: true :: false :: false :: false :: false :: false :: false :: false :: false :: false :: false :: false :: false :: false :: false :: false :: false :: false :: false :: false :: false :: false :: false :: false :: false :: false :: false :: false :: false :: false :: false :: false :: false :: false :: false :: false :: false :: false :: false :: false :: false :: false :: false :: false :: false :: false :: false :: false :: false :: false :: false :: false :: false :: false :: false :: false :: false :: false :: false :: false :: false :: false :: false :: false :: false :: false :: false :: false :: false :: false :: false :: false :: false :: false :: false :: false :: false :: false :: false :: false :: false :: false :: false :: false :: false :: false :: false :: false :: false :: false :: false :: false :: false :: false :: false :: false :: false :: false :: false :: false :: false :: false :: false :: false :: false :: false :: false :: false :: false :: false :: false :: false :: false :: false :: false :: false :: false :: false :: false :: false :: false :: false :: false :: false :: [])
    · (try dsimp only [maskT]); try exact rfl
    · rfl
    · exact ⟨0, by (rw [prt_zero]) <;> rfl, by omega, rfl, hx3⟩
    rintro n T H ⟨j, rfl, hj, rfl, hx5⟩
    refine aw_seq ?_
    refine aw_region ?_
    refine zst (op_ltI (by rfl) (by rfl)) rfl (by dsimp only [zS, zN, zH, zT]) ?_
    refine al_end rfl ?_
    refine then_normal ?_
    refine aw_seq ?_
    refine aw_cond rfl (fun hc11 => ?_) (fun hc11 => ?_)
    ·
     (try simp only [y1, y2, y3, y4, y5, y6, y7, y8, y9, y0, List.length_map] at hc11)
     (try simp only [List.length_map] at hc11)
     have hlt2 : j < y.keep.length := by omega
     obtain ⟨x, hxx⟩ : ∃ x, y.keep[j]? = some x := ⟨_, List.getElem?_eq_getElem hlt2⟩
     refine aw_skip ?_
     refine then_normal ?_
     refine aw_seq ?_
     refine aw_block ?_
     refine aw_seq ?_
     refine aw_region ?_
     refine zst (op_indexAddr Tryz.underlying26 Sz3 (LL.d _ _) (by rfl) (by omega) (show (y.keep.map I)[((j : Nat) : Int).toNat]? = some (I x) by rw [List.getElem?_map, show ((j : Nat) : Int).toNat = j from rfl, hxx]; rfl) (by rfl)) rfl (by dsimp only [zS, zN, zH, zT]) ?_
     refine zst (by first | exact op_load_elt Tryz.underlying3 (by rfl) (by rfl) (by rfl) | exact op_load_ptr Tryz.underlying3 (by rfl) (by rfl) (by first | exact ha | exact hb2 | exact setB_at push_at) (by rfl)) rfl (by dsimp only [zS, zN, zH, zT]) ?_
     refine zst (op_assign_tmp (by rfl)) rfl (by dsimp only [zS, zN, zH, zT]) ?_
     refine al_end rfl ?_
     refine then_normal ?_
     refine aw_region ?_
     refine zst (op_move_tmp (by rfl)) rfl (by dsimp only [zS, zN, zH, zT]) ?_
     refine zst (op_move_tmp (by rfl)) rfl (by dsimp only [zS, zN, zH, zT]) ?_
     refine al_split 76 rfl (fun hg12 => ?_) (fun hg12 => ?_)
     ·
      (try simp only [y1, y2, y3, y4, y5, y6, y7, y8, y9, y0, List.length_map] at hg12)
      have hp0 : prt xs k y j = true := hg12
      apply al_normT
      · (try dsimp only [zS, zN, zH, zT]); try exact rfl
      refine zsw rfl rfl rfl (op_move_tmp (by rfl)) (by dsimp only [zS, zN, zH, zT]) ?_
      refine zsw rfl rfl rfl (op_geI (by rfl) (by rfl)) (by dsimp only [zS, zN, zH, zT]) ?_
      refine zst (op_pick_tt (by rfl) (val_tmp (by rfl))) rfl (by dsimp only [zS, zN, zH, zT]) ?_
      refine zst (op_move_tmp (by rfl)) rfl (by dsimp only [zS, zN, zH, zT]) ?_
      refine al_split 80 rfl (fun hg13 => ?_) (fun hg13 => ?_)
      ·
       (try simp only [y1, y2, y3, y4, y5, y6, y7, y8, y9, y0, List.length_map] at hg13)
       have p0 : 0 ≤ x := by simpa using hg13
       have hz : prt xs k y (j + 1) = decide (x ≤ 1048576) := by rw [prt_next hxx, hp0]; simp [keepAt, p0]
       apply al_normT
       · (try dsimp only [zS, zN, zH, zT]); try exact rfl
       refine zsw rfl rfl rfl (op_move_tmp (by rfl)) (by dsimp only [zS, zN, zH, zT]) ?_
       refine zsw rfl rfl rfl (op_leI (by rfl) (by rfl)) (by dsimp only [zS, zN, zH, zT]) ?_
       refine zst (op_pick_tt (by rfl) (val_tmp (by rfl))) rfl (by dsimp only [zS, zN, zH, zT]) ?_
       refine zst (op_assign_tmp (by rfl)) rfl (by dsimp only [zS, zN, zH, zT]) ?_
       refine al_end rfl ?_
       refine inBlock_normal (then_normal ?_)
       refine aw_region ?_
       refine zst (by first | exact op_add (by rfl) (by rfl) (wrap_i64 ⟨by omega, by omega⟩) | exact op_add (by rfl) (by rfl) (by rfl)) rfl (by dsimp only [zS, zN, zH, zT]) ?_
       refine zst (op_move_tmp (by rfl)) rfl (by dsimp only [zS, zN, zH, zT]) ?_
       refine al_end rfl ?_
       apply again_to (y.keep.length - (j + 1)) (true :: true :: false :: false :: false :: true :: false :: false :: false :: false :: false :: false :: false :: false :: false :: false :: false :: false :: false :: false :: false :: false :: false :: false :: false :: true :: true :: true :: false :: false :: false :: false :: false :: false :: false :: false :: false :: false :: false :: false :: false :: false :: false :: false :: false :: false :: false :: false :: false :: false :: false :: false :: false :: false :: false :: false :: false :: false :: false :: false :: false :: false :: false :: false :: false :: false :: false :: false :: false :: true :: true :: true :: false :: false :: false :: false :: false :: false :: false :: false :: false :: false :: false :: false :: false :: false :: false :: false :: false :: false :: false :: false :: false :: false :: false :: false :: false :: false :: false :: false :: false :: false :: false :: false :: false :: false :: false :: false :: false :: false :: false :: false :: false :: false :: false :: false :: false :: false :: false :: false :: false :: false :: false :: false :: false :: false :: false :: false :: false :: false :: false :: false :: false :: false :: false :: false :: false :: false :: false :: false :: false :: false :: false :: false :: false :: false :: false :: false :: false :: false :: false :: false :: false :: false :: false :: false :: false :: false :: false :: false :: false :: false :: false :: false :: false :: false :: false :: false :: false :: false :: false :: false :: false :: false :: false :: false :: false :: false :: false :: false :: false :: false :: false :: false :: false :: false :: false :: false :: false :: false :: false :: false :: false :: false :: false :: [])
       · (try dsimp only [maskT]); try exact rfl
       · rfl
       · omega
       exact ⟨j + 1, by (rw [hz]) <;> rfl, by omega, rfl, hx5⟩
      ·
       (try simp only [y1, y2, y3, y4, y5, y6, y7, y8, y9, y0, List.length_map] at hg13)
       have p0 : ¬ (0 ≤ x) := by simpa using hg13
       have hz : prt xs k y (j + 1) = false := by rw [prt_next hxx]; simp [keepAt, p0]
       apply al_normT
       · (try dsimp only [zS, zN, zH, zT]); try exact rfl
       refine zuw rfl rfl rfl rfl (by dsimp only [zS, zN, zH, zT]) ?_
       refine zuw rfl rfl rfl rfl (by dsimp only [zS, zN, zH, zT]) ?_
       refine zst (op_pick_ff (by rfl) (val_const (by rfl))) rfl (by dsimp only [zS, zN, zH, zT]) ?_
       refine zst (op_assign_tmp (by rfl)) rfl (by dsimp only [zS, zN, zH, zT]) ?_
       refine al_end rfl ?_
       refine inBlock_normal (then_normal ?_)
       refine aw_region ?_
       refine zst (by first | exact op_add (by rfl) (by rfl) (wrap_i64 ⟨by omega, by omega⟩) | exact op_add (by rfl) (by rfl) (by rfl)) rfl (by dsimp only [zS, zN, zH, zT]) ?_
       refine zst (op_move_tmp (by rfl)) rfl (by dsimp only [zS, zN, zH, zT]) ?_
       refine al_end rfl ?_
       apply again_to (y.keep.length - (j + 1)) (true :: true :: false :: false :: false :: true :: false :: false :: false :: false :: false :: false :: false :: false :: false :: false :: false :: false :: false :: false :: false :: false :: false :: false :: false :: true :: true :: true :: false :: false :: false :: false :: false :: false :: false :: false :: false :: false :: false :: false :: false :: false :: false :: false :: false :: false :: false :: false :: false :: false :: false :: false :: false :: false :: false :: false :: false :: false :: false :: false :: false :: false :: false :: false :: false :: false :: false :: false :: false :: true :: true :: true :: false :: false :: false :: false :: false :: false :: false :: false :: false :: false :: false :: false :: false :: false :: false :: false :: false :: false :: false :: false :: false :: false :: false :: false :: false :: false :: false :: false :: false :: false :: false :: false :: false :: false :: false :: false :: false :: false :: false :: false :: false :: false :: false :: false :: false :: false :: false :: false :: false :: false :: false :: false :: false :: false :: false :: false :: false :: false :: false :: false :: false :: false :: false :: false :: false :: false :: false :: false :: false :: false :: false :: false :: false :: false :: false :: false :: false :: false :: false :: false :: false :: false :: false :: false :: false :: false :: false :: false :: false :: false :: false :: false :: false :: false :: false :: false :: false :: false :: false :: false :: false :: false :: false :: false :: false :: false :: false :: false :: false :: false :: false :: false :: false :: false :: false :: false :: false :: false :: false :: false :: false :: false :: false :: [])
       · (try dsimp only [maskT]); try exact rfl
       · rfl
       · omega
       exact ⟨j + 1, by (rw [hz]) <;> rfl, by omega, rfl, hx5⟩
     ·
      (try simp only [y1, y2, y3, y4, y5, y6, y7, y8, y9, y0, List.length_map] at hg12)
      have hz : prt xs k y (j + 1) = false := by rw [prt_next hxx, show prt xs k y j = false from by simpa using hg12]; rfl
      apply al_normT
      · (try dsimp only [zS, zN, zH, zT]); try exact rfl
      refine zuw rfl rfl rfl rfl (by dsimp only [zS, zN, zH, zT]) ?_
      refine zuw rfl rfl rfl rfl (by dsimp only [zS, zN, zH, zT]) ?_
      refine zst (op_pick_ff (by rfl) (val_const (by rfl))) rfl (by dsimp only [zS, zN, zH, zT]) ?_
      refine zst (op_move_tmp (by rfl)) rfl (by dsimp only [zS, zN, zH, zT]) ?_
      refine zuw rfl rfl rfl rfl (by dsimp only [zS, zN, zH, zT]) ?_
      refine zuw rfl rfl rfl rfl (by dsimp only [zS, zN, zH, zT]) ?_
      refine zst (op_pick_ff (by rfl) (val_const (by rfl))) rfl (by dsimp only [zS, zN, zH, zT]) ?_
      refine zst (op_assign_tmp (by rfl)) rfl (by dsimp only [zS, zN, zH, zT]) ?_
      refine al_end rfl ?_
      refine inBlock_normal (then_normal ?_)
      refine aw_region ?_
      refine zst (by first | exact op_add (by rfl) (by rfl) (wrap_i64 ⟨by omega, by omega⟩) | exact op_add (by rfl) (by rfl) (by rfl)) rfl (by dsimp only [zS, zN, zH, zT]) ?_
      refine zst (op_move_tmp (by rfl)) rfl (by dsimp only [zS, zN, zH, zT]) ?_
      refine al_end rfl ?_
      apply again_to (y.keep.length - (j + 1)) (true :: true :: false :: false :: false :: true :: false :: false :: false :: false :: false :: false :: false :: false :: false :: false :: false :: false :: false :: false :: false :: false :: false :: false :: false :: true :: true :: true :: false :: false :: false :: false :: false :: false :: false :: false :: false :: false :: false :: false :: false :: false :: false :: false :: false :: false :: false :: false :: false :: false :: false :: false :: false :: false :: false :: false :: false :: false :: false :: false :: false :: false :: false :: false :: false :: false :: false :: false :: false :: true :: true :: true :: false :: false :: false :: false :: false :: false :: false :: false :: false :: false :: false :: false :: false :: false :: false :: false :: false :: false :: false :: false :: false :: false :: false :: false :: false :: false :: false :: false :: false :: false :: false :: false :: false :: false :: false :: false :: false :: false :: false :: false :: false :: false :: false :: false :: false :: false :: false :: false :: false :: false :: false :: false :: false :: false :: false :: false :: false :: false :: false :: false :: false :: false :: false :: false :: false :: false :: false :: false :: false :: false :: false :: false :: false :: false :: false :: false :: false :: false :: false :: false :: false :: false :: false :: false :: false :: false :: false :: false :: false :: false :: false :: false :: false :: false :: false :: false :: false :: false :: false :: false :: false :: false :: false :: false :: false :: false :: false :: false :: false :: false :: false :: false :: false :: false :: false :: false :: false :: false :: false :: false :: false :: false :: false :: [])
      · (try dsimp only [maskT]); try exact rfl
      · rfl
      · omega
      exact ⟨j + 1, by (rw [hz]) <;> rfl, by omega, rfl, hx5⟩
    ·
     (try simp only [y1, y2, y3, y4, y5, y6, y7, y8, y9, y0, List.length_map] at hc11)
     (try simp only [List.length_map] at hc11)
     have hje : j = y.keep.length := by omega
     subst hje
     refine aw_exit ?_
     refine then_exit (again_exit (inBlock_here (inBlock_normal (then_normal ?_))))
     refine aw_region ?_
     refine zst (by first | exact op_add (by rfl) (by rfl) (wrap_i64 ⟨by omega, by omega⟩) | exact op_add (by rfl) (by rfl) (by rfl)) rfl (by dsimp only [zS, zN, zH, zT]) ?_
     refine zst (op_move_tmp (by rfl)) rfl (by dsimp only [zS, zN, zH, zT]) ?_
     refine al_end rfl ?_
     apply again_to (xs.length - (k + 1)) (true :: true :: false :: false :: false :: true :: false :: false :: false :: false :: false :: false :: false :: false :: false :: false :: false :: false :: false :: false :: false :: false :: false :: false :: false :: true :: true :: true :: false :: false :: false :: false :: false :: false :: false :: false :: false :: false :: false :: false :: false :: false :: false :: false :: false :: false :: false :: false :: false :: false :: false :: false :: false :: false :: false :: false :: false :: false :: false :: false :: false :: false :: false :: false :: false :: false :: false :: false :: false :: false :: false :: false :: false :: false :: false :: false :: false :: false :: false :: false :: false :: false :: false :: false :: false :: false :: false :: false :: false :: false :: false :: false :: false :: false :: false :: false :: false :: false :: false :: false :: false :: false :: false :: false :: false :: false :: false :: false :: false :: false :: false :: false :: false :: false :: false :: false :: false :: false :: false :: false :: false :: false :: false :: false :: false :: false :: false :: false :: false :: false :: false :: false :: false :: false :: false :: false :: false :: false :: false :: false :: false :: false :: false :: false :: false :: false :: false :: false :: false :: false :: false :: false :: false :: false :: false :: false :: false :: false :: false :: false :: false :: false :: false :: false :: false :: false :: false :: false :: false :: false :: false :: false :: false :: false :: false :: false :: false :: false :: false :: false :: false :: false :: false :: false :: false :: false :: false :: false :: false :: false :: false :: false :: false :: false :: false :: [])
     · (try dsimp only [maskT]); try exact rfl
     · rfl
     · omega
     exact ⟨k + 1, by (rw [goods_next hy]) <;> rfl, by omega, rfl, hx5⟩
   ·
    (try simp only [y1, y2, y3, y4, y5, y6, y7, y8, y9, y0, List.length_map] at hc3)
    (try simp only [List.length_map] at hc3)
    have hke : k = xs.length := by omega
    subst hke
    refine aw_exit ?_
    refine then_exit (again_exit (inBlock_here (then_normal ?_)))
    refine aw_seq ?_
    refine aw_region ?_
    refine zst (op_move_tmp (by rfl)) rfl (by dsimp only [zS, zN, zH, zT]) ?_
    refine zst (op_callF Tryz.func7 (by rfl) (by rfl) (.tmp (by rfl) .nil) (wenc_ok _ xs hl)) rfl (by dsimp only [zS, zN, zH, zT]) ?_
    refine zst (op_move_tmp (by rfl)) rfl (by dsimp only [zS, zN, zH, zT]) ?_
    refine zst (op_extract (by rfl) (by rfl)) rfl (by dsimp only [zS, zN, zH, zT]) ?_
    refine zst (op_extract (by rfl) (by rfl)) rfl (by dsimp only [zS, zN, zH, zT]) ?_
    refine zst (op_assign_tmp (by rfl)) rfl (by dsimp only [zS, zN, zH, zT]) ?_
    refine zst (op_assign_tmp (by rfl)) rfl (by dsimp only [zS, zN, zH, zT]) ?_
    refine al_end rfl ?_
    refine then_normal ?_
    refine aw_seq ?_
    refine aw_seq ?_
    refine aw_region ?_
    refine zst (op_move_tmp (by rfl)) rfl (by dsimp only [zS, zN, zH, zT]) ?_
    refine zst (op_not (by rfl)) rfl (by dsimp only [zS, zN, zH, zT]) ?_
    refine al_end rfl ?_
    refine then_normal ?_
    refine aw_cond rfl (fun hc14 => ?_) (fun hc14 => ?_)
    ·
     (try simp only [y1, y2, y3, y4, y5, y6, y7, y8, y9, y0, List.length_map] at hc14)
     have hgd : goods xs xs.length = false := by simpa using hc14
     obtain ⟨e1, e2⟩ := enc_bad hf hgd
     refine aw_seq ?_
     refine aw_region ?_
     refine zst (op_move_tmp (by rfl)) rfl (by dsimp only [zS, zN, zH, zT]) ?_
     refine zst (op_eqI (by rfl) (by rfl)) rfl (by dsimp only [zS, zN, zH, zT]) ?_
     refine zst (op_move_tmp (by rfl)) rfl (by dsimp only [zS, zN, zH, zT]) ?_
     refine al_split 95 rfl (fun hg15 => ?_) (fun hg15 => ?_)
     ·
      (try simp only [y1, y2, y3, y4, y5, y6, y7, y8, y9, y0, List.length_map] at hg15)
      apply al_normT
      · (try dsimp only [zS, zN, zH, zT]); try exact rfl
      refine zsw rfl rfl rfl (op_move_tmp (by rfl)) (by dsimp only [zS, zN, zH, zT]) ?_
      refine zsw rfl rfl rfl (op_eqS (by rfl) (by rfl)) (by dsimp only [zS, zN, zH, zT]) ?_
      refine zst (op_pick_tt (by rfl) (val_tmp (by rfl))) rfl (by dsimp only [zS, zN, zH, zT]) ?_
      refine zst (op_assign_tmp (by rfl)) rfl (by dsimp only [zS, zN, zH, zT]) ?_
      refine al_end rfl ?_
      refine then_normal ?_
      refine aw_ret ?_
      refine then_ret ?_
      refine retPost1 rfl rfl ?_
      first | exact ⟨rfl, hx0⟩ | exact ⟨rfl, hx⟩ | exact ⟨by (rw [e2]) <;> rfl, hx⟩ | exact ⟨by (rw [hct]) <;> rfl, hx⟩
     ·
      (try simp only [y1, y2, y3, y4, y5, y6, y7, y8, y9, y0, List.length_map] at hg15)
      apply al_normT
      · (try dsimp only [zS, zN, zH, zT]); try exact rfl
      exact absurd e1 hg15
    ·
     (try simp only [y1, y2, y3, y4, y5, y6, y7, y8, y9, y0, List.length_map] at hc14)
     have hgd : goods xs xs.length = true := by simpa using hc14
     obtain ⟨e1, e2, d1, d2, hcut⟩ := enc_good hf hgd
     refine aw_skip ?_
     refine then_normal ?_
     refine aw_seq ?_
     refine aw_region ?_
     refine zst (op_move_tmp (by rfl)) rfl (by dsimp only [zS, zN, zH, zT]) ?_
     refine zst (op_callF Tryz.func8 (by rfl) (by rfl) (.tmp (by rfl) .nil) (wdec_ok _ (encR xs))) rfl (by dsimp only [zS, zN, zH, zT]) ?_
     refine zst (op_move_tmp (by rfl)) rfl (by dsimp only [zS, zN, zH, zT]) ?_
     refine zst (op_extract (by rfl) (by rfl)) rfl (by dsimp only [zS, zN, zH, zT]) ?_
     refine zst (op_extract (by rfl) (by rfl)) rfl (by dsimp only [zS, zN, zH, zT]) ?_
     refine zst (op_assign_tmp (by rfl)) rfl (by dsimp only [zS, zN, zH, zT]) ?_
     refine zst (op_assign_tmp (by rfl)) rfl (by dsimp only [zS, zN, zH, zT]) ?_
     refine al_end rfl ?_
     refine then_normal ?_
     refine aw_seq ?_
     refine aw_seq ?_
     refine aw_region ?_
     refine zst (op_move_tmp (by rfl)) rfl (by dsimp only [zS, zN, zH, zT]) ?_
     refine zst (op_neI (by rfl) (by rfl)) rfl (by dsimp only [zS, zN, zH, zT]) ?_
     refine zst (op_move_tmp (by rfl)) rfl (by dsimp only [zS, zN, zH, zT]) ?_
     refine al_split 106 rfl (fun hg16 => ?_) (fun hg16 => ?_)
     ·
      (try simp only [y1, y2, y3, y4, y5, y6, y7, y8, y9, y0, List.length_map] at hg16)
      apply al_normT
      · (try dsimp only [zS, zN, zH, zT]); try exact rfl
      exact absurd e1 hg16
     ·
      (try simp only [y1, y2, y3, y4, y5, y6, y7, y8, y9, y0, List.length_map] at hg16)
      apply al_normT
      · (try dsimp only [zS, zN, zH, zT]); try exact rfl
      refine zsw rfl rfl rfl (op_move_tmp (by rfl)) (by dsimp only [zS, zN, zH, zT]) ?_
      refine zsw rfl rfl rfl (op_neI (by rfl) (by rfl)) (by dsimp only [zS, zN, zH, zT]) ?_
      refine zst (op_pick_ff (by rfl) (val_tmp (by rfl))) rfl (by dsimp only [zS, zN, zH, zT]) ?_
      refine zst (op_move_tmp (by rfl)) rfl (by dsimp only [zS, zN, zH, zT]) ?_
      refine al_split 110 rfl (fun hg17 => ?_) (fun hg17 => ?_)
      ·
       (try simp only [y1, y2, y3, y4, y5, y6, y7, y8, y9, y0, List.length_map] at hg17)
       apply al_normT
       · (try dsimp only [zS, zN, zH, zT]); try exact rfl
       exact absurd d1 hg17
      ·
       (try simp only [y1, y2, y3, y4, y5, y6, y7, y8, y9, y0, List.length_map] at hg17)
       apply al_normT
       · (try dsimp only [zS, zN, zH, zT]); try exact rfl
       refine zsw rfl rfl rfl (op_move_tmp (by rfl)) (by dsimp only [zS, zN, zH, zT]) ?_
       refine zsw rfl rfl rfl (op_lenL Tryz.underlying22 (by first | exact LL.d _ _ | exact LL.own _ _ _ | exact LL.nil _ | assumption)) (by dsimp only [zS, zN, zH, zT]) ?_
       refine zsw rfl rfl rfl (op_move_tmp (by rfl)) (by dsimp only [zS, zN, zH, zT]) ?_
       refine zsw rfl rfl rfl (op_lenL Tryz.underlying22 (by first | exact LL.d _ _ | exact LL.own _ _ _ | exact LL.nil _ | assumption)) (by dsimp only [zS, zN, zH, zT]) ?_
       refine zsw rfl rfl rfl (op_neI (by rfl) (by rfl)) (by dsimp only [zS, zN, zH, zT]) ?_
       refine zst (op_pick_ff (by rfl) (val_tmp (by rfl))) rfl (by dsimp only [zS, zN, zH, zT]) ?_
       refine al_end rfl ?_
       refine then_normal ?_
       refine aw_cond rfl (fun hc18 => ?_) (fun hc18 => ?_)
       ·
        (try simp only [y1, y2, y3, y4, y5, y6, y7, y8, y9, y0, List.length_map] at hc18)
        exact absurd hc18 (by simp [d2])
       ·
        (try simp only [y1, y2, y3, y4, y5, y6, y7, y8, y9, y0, List.length_map] at hc18)
        refine aw_skip ?_
        refine then_normal ?_
        refine aw_seq ?_
        refine aw_seq ?_
        refine aw_region ?_
        refine zst (op_move_tmp (by rfl)) rfl (by dsimp only [zS, zN, zH, zT]) ?_
        refine zst (op_lenL Tryz.underlying22 (by first | exact LL.d _ _ | exact LL.own _ _ _ | exact LL.nil _ | assumption)) rfl (by dsimp only [zS, zN, zH, zT]) ?_
        refine zst (op_move_const (by rfl)) rfl (by dsimp only [zS, zN, zH, zT]) ?_
        refine al_end rfl ?_
        refine then_normal ?_
        refine aw_block ?_
        apply aw_loopF (fun n T H => ∃ (k : Nat), T = (.un :: (.d (I cut)) :: .un :: .un :: .un :: .un :: .un :: .un :: .un :: .un :: (.d (S (encS xs))) :: .un :: (.d (.lst 5 (xs.map stD))) :: .un :: .un :: .un :: .un :: .un :: .un :: .un :: .un :: .un :: .un :: .un :: .un :: .un :: .un :: .un :: .un :: .un :: .un :: .un :: .un :: .un :: .un :: .un :: .un :: .un :: .un :: .un :: .un :: .un :: .un :: .un :: .un :: .un :: .un :: .un :: .un :: .un :: .un :: .un :: .un :: .un :: .un :: .un :: .un :: .un :: .un :: .un :: .un :: .un :: .un :: .un :: .un :: .un :: .un :: .un :: .un :: .un :: .un :: .un :: .un :: .un :: .un :: .un :: .un :: .un :: .un :: .un :: .un :: .un :: .un :: .un :: .un :: .un :: .un :: .un :: .un :: .un :: .un :: .un :: .un :: .un :: .un :: .un :: .un :: .un :: .un :: .un :: .un :: .un :: .un :: .un :: .un :: .un :: .un :: .un :: .un :: .un :: .un :: .un :: .un :: .un :: .un :: .un :: .un :: (.d (.lst 5 (xs.map stD))) :: (.d (I (xs.map stD).length)) :: (.d (I k)) :: .un :: .un :: .un :: .un :: .un :: .un :: .un :: .un :: .un :: .un :: .un :: .un :: .un :: .un :: .un :: .un :: .un :: .un :: .un :: .un :: .un :: .un :: .un :: .un :: .un :: .un :: .un :: .un :: .un :: .un :: .un :: .un :: .un :: .un :: .un :: .un :: .un :: .un :: .un :: .un :: .un :: .un :: .un :: .un :: .un :: .un :: .un :: .un :: .un :: .un :: .un :: .un :: .un :: .un :: .un :: .un :: .un :: .un :: .un :: .un :: .un :: .un :: .un :: .un :: .un :: .un :: .un :: .un :: .un :: .un :: .un :: .un :: .un :: .un :: .un :: []) ∧ k ≤ xs.length ∧ n = xs.length - k ∧ H.x = x0) (xs.length) (false :: true :: false :: false :: false :: false :: false :: false :: false :: false :: true :: false :: true :: false :: false :: false :: false :: false :: false :: false :: false :: false :: false :: false :: false :: false :: false :: false :: false :: false :: false :: false :: false :: false :: false :: false :: false :: false :: false :: false :: false :: false :: false :: false :: false :: false :: false :: false :: false :: false :: false :: false :: false :: false :: false :: false :: false :: false :: false :: false :: false :: false :: false :: false :: false :: false :: false :: false :: false :: false :: false :: false :: false :: false :: false :: false :: false :: false :: false :: false :: false :: false :: false :: false :: false :: false :: false :: false :: false :: false :: false :: false :: false :: false :: false :: false :: false :: false :: false :: false :: false :: false :: false :: false :: false :: false :: false :: false :: false :: false :: false :: false :: false :: false :: false :: false :: false :: true :: true :: true :: false :: false :: false :: false :: false :: false :: false :: false :: false :: false :: false :: false :: false :: false :: false :: false :: false :: false :: false :: false :: false :: false :: false :: false :: false :: false :: false :: false :: false :: false :: false :: false :: false :: false :: false :: false :: false :: false :: false :: false :: false :: false :: false :: false :: false :: false :: false :: false :: false :: false :: false :: false :: false :: false :: false :: false :: false :: false :: false :: false :: false :: false :: false :: false :: false :: false :: false :: false :: false :: false :: false :: false :: false :: false :: false :: [])
        · (try dsimp only [maskT]); try exact rfl
        · rfl
        · exact ⟨0, by (rw [d2, e2]) <;> rfl, by omega, rfl, hx⟩
        rintro n T H ⟨k, rfl, hk, rfl, hx⟩
        refine aw_seq ?_
        refine aw_region ?_
        refine zst (op_ltI (by rfl) (by rfl)) rfl (by dsimp only [zS, zN, zH, zT]) ?_
        refine al_end rfl ?_
        refine then_normal ?_
        refine aw_seq ?_
        refine aw_cond rfl (fun hc19 => ?_) (fun hc19 => ?_)
        ·
         (try simp only [y1, y2, y3, y4, y5, y6, y7, y8, y9, y0, List.length_map] at hc19)
         (try simp only [List.length_map] at hc19)
         have hlt : k < xs.length := by omega
         obtain ⟨y, hy⟩ : ∃ y, xs[k]? = some y := ⟨_, List.getElem?_eq_getElem hlt⟩
         have hyk := hkl y (List.mem_of_getElem? hy)
         refine aw_skip ?_
         refine then_normal ?_
         refine aw_seq ?_
         refine aw_block ?_
         refine aw_seq ?_
         refine aw_region ?_
         refine zst (op_move_tmp (by rfl)) rfl (by dsimp only [zS, zN, zH, zT]) ?_
         refine zst (op_indexAddr Tryz.underlying22 Sz28 (LL.d _ _) (by rfl) (by omega) (show (xs.map stD)[((k : Nat) : Int).toNat]? = some (stD y) by rw [List.getElem?_map, show ((k : Nat) : Int).toNat = k from rfl, hy]; rfl) (by rfl)) rfl (by dsimp only [zS, zN, zH, zT]) ?_
         refine zst (op_load_elts (ds := stC y) Tryz.underlying28 (by rfl) Sz28 (by rfl) (Nat.le_of_ble_eq_true rfl) (by rfl)) rfl (by dsimp only [zS, zN, zH, zT]) ?_
         refine zst (op_alloc (Zr28) (by rfl)) rfl (by dsimp only [zS, zN, zH, zT]) ?_
         refine zst (op_assign_tmp (by rfl)) rfl (by dsimp only [zS, zN, zH, zT]) ?_
         refine zst (op_storeB (vs := [.d (I y.kind), .d (I y.sess), .d (I y.n), .d (S y.text), .d (.lst 1 (y.keep.map I))]) (b' := ⟨28, [.d (I y.kind), .d (I y.sess), .d (I y.n), .d (S y.text), .d (.lst 1 (y.keep.map I))], false⟩) (H' := _) Sz28 (by rfl) push_at (by intro h; cases h) (by rfl) (by rfl) (Nat.le_of_ble_eq_true rfl) (by simp [AV.one, DV.one, TF, S, I, BY]) (by rfl) (by rfl) rfl) rfl (by dsimp only [zS, zN, zH, zT]) ?_
         refine al_end rfl ?_
         refine then_normal ?_
         apply aw_cutF (fun T H => ∃ (sa : Nat) (sb : Nat), T = (.un :: (.d (I cut)) :: .un :: .un :: .un :: .un :: .un :: .un :: .un :: .un :: (.d (S (encS xs))) :: .un :: (.d (.lst 5 (xs.map stD))) :: .un :: .un :: (.ptr sa 0) :: (.ptr sb 0) :: .un :: .un :: .un :: .un :: .un :: .un :: .un :: .un :: .un :: .un :: .un :: .un :: .un :: .un :: .un :: .un :: .un :: .un :: .un :: .un :: .un :: .un :: .un :: .un :: .un :: .un :: .un :: .un :: .un :: .un :: .un :: .un :: .un :: .un :: .un :: .un :: .un :: .un :: .un :: .un :: .un :: .un :: .un :: .un :: .un :: .un :: .un :: .un :: .un :: .un :: .un :: .un :: .un :: .un :: .un :: .un :: .un :: .un :: .un :: .un :: .un :: .un :: .un :: .un :: .un :: .un :: .un :: .un :: .un :: .un :: .un :: .un :: .un :: .un :: .un :: .un :: .un :: .un :: .un :: .un :: .un :: .un :: .un :: .un :: .un :: .un :: .un :: .un :: .un :: .un :: .un :: .un :: .un :: .un :: .un :: .un :: .un :: .un :: .un :: .un :: (.d (.lst 5 (xs.map stD))) :: (.d (I (xs.map stD).length)) :: (.d (I k)) :: .un :: .un :: .un :: .un :: .un :: .un :: .un :: .un :: .un :: .un :: .un :: .un :: .un :: .un :: .un :: .un :: .un :: .un :: .un :: .un :: .un :: .un :: .un :: .un :: .un :: .un :: .un :: .un :: .un :: .un :: .un :: .un :: .un :: .un :: .un :: .un :: .un :: .un :: .un :: .un :: .un :: .un :: .un :: .un :: .un :: .un :: .un :: .un :: .un :: .un :: .un :: .un :: .un :: .un :: .un :: .un :: .un :: .un :: .un :: .un :: .un :: .un :: .un :: .un :: .un :: .un :: .un :: .un :: .un :: .un :: .un :: .un :: .un :: .un :: .un :: []) ∧ H.x = x0 ∧ H.blks[sa]? = some ⟨28, [.d (I y.kind), .d (I y.sess), .d (I y.n), .d (S y.text), .d (.lst 1 (y.keep.map I))], false⟩ ∧ H.blks[sb]? = some ⟨28, [.d (I y.kind), .d (I y.sess), .d (I y.n), .d (S y.text), .d (.lst 1 (y.keep.map I))], false⟩)
         ·
          refine aw_region ?_
          refine zst (op_move_tmp (by rfl)) rfl (by dsimp only [zS, zN, zH, zT]) ?_
          refine zst (op_move_tmp (by rfl)) rfl (by dsimp only [zS, zN, zH, zT]) ?_
          refine zst (op_indexAddr Tryz.underlying22 Sz28 (LL.d _ _) (by rfl) (by omega) (show (xs.map stD)[((k : Nat) : Int).toNat]? = some (stD y) by rw [List.getElem?_map, show ((k : Nat) : Int).toNat = k from rfl, hy]; rfl) (by rfl)) rfl (by dsimp only [zS, zN, zH, zT]) ?_
          refine zst (op_load_elts (ds := stC y) Tryz.underlying28 (by rfl) Sz28 (by rfl) (Nat.le_of_ble_eq_true rfl) (by rfl)) rfl (by dsimp only [zS, zN, zH, zT]) ?_
          refine zst (op_alloc (Zr28) (by rfl)) rfl (by dsimp only [zS, zN, zH, zT]) ?_
          refine zst (op_storeB (vs := [.d (I y.kind), .d (I y.sess), .d (I y.n), .d (S y.text), .d (.lst 1 (y.keep.map I))]) (b' := ⟨28, [.d (I y.kind), .d (I y.sess), .d (I y.n), .d (S y.text), .d (.lst 1 (y.keep.map I))], false⟩) (H' := _) Sz28 (by rfl) push_at (by intro h; cases h) (by rfl) (by rfl) (Nat.le_of_ble_eq_true rfl) (by simp [AV.one, DV.one, TF, S, I, BY]) (by rfl) (by rfl) rfl) rfl (by dsimp only [zS, zN, zH, zT]) ?_
          refine al_end rfl ?_
          apply cut_to (false :: true :: false :: false :: false :: false :: false :: false :: false :: false :: true :: false :: true :: false :: false :: true :: true :: false :: false :: false :: false :: false :: false :: false :: false :: false :: false :: false :: false :: false :: false :: false :: false :: false :: false :: false :: false :: false :: false :: false :: false :: false :: false :: false :: false :: false :: false :: false :: false :: false :: false :: false :: false :: false :: false :: false :: false :: false :: false :: false :: false :: false :: false :: false :: false :: false :: false :: false :: false :: false :: false :: false :: false :: false :: false :: false :: false :: false :: false :: false :: false :: false :: false :: false :: false :: false :: false :: false :: false :: false :: false :: false :: false :: false :: false :: false :: false :: false :: false :: false :: false :: false :: false :: false :: false :: false :: false :: false :: false :: false :: false :: false :: false :: false :: false :: false :: false :: true :: true :: true :: false :: false :: false :: false :: false :: false :: false :: false :: false :: false :: false :: false :: false :: false :: false :: false :: false :: false :: false :: false :: false :: false :: false :: false :: false :: false :: false :: false :: false :: false :: false :: false :: false :: false :: false :: false :: false :: false :: false :: false :: false :: false :: false :: false :: false :: false :: false :: false :: false :: false :: false :: false :: false :: false :: false :: false :: false :: false :: false :: false :: false :: false :: false :: false :: false :: false :: false :: false :: false :: false :: false :: false :: false :: false :: false :: [])
          · (try dsimp only [maskT]); try exact rfl
          · rfl
          exact ⟨_, _, rfl, hx, by rw [setB_ne (by simp only [setB_nb, push_nb]; omega)]; exact push_ne (setB_at push_at), setB_at push_at⟩
         rintro T H ⟨sa, sb, rfl, hx4, ha, hb2⟩
         refine aw_seq ?_
         refine aw_seq ?_
         refine aw_region ?_
         refine zst (by first | exact op_fieldAddr_ptr Tryz.underlying28 rfl Sz25 (by rfl) (by rfl) | exact op_fieldAddr_elt Tryz.underlying28 rfl Sz25 (by rfl) (by rfl) (by rfl)) rfl (by dsimp only [zS, zN, zH, zT]) ?_
         refine zst (by first | exact op_load_elt Tryz.underlying25 (by rfl) (by rfl) (by rfl) | exact op_load_ptr Tryz.underlying25 (by rfl) (by rfl) (by first | exact ha | exact hb2 | exact setB_at push_at) (by rfl)) rfl (by dsimp only [zS, zN, zH, zT]) ?_
         refine zst (by first | exact op_fieldAddr_ptr Tryz.underlying28 rfl Sz25 (by rfl) (by rfl) | exact op_fieldAddr_elt Tryz.underlying28 rfl Sz25 (by rfl) (by rfl) (by rfl)) rfl (by dsimp only [zS, zN, zH, zT]) ?_
         refine zst (by first | exact op_load_elt Tryz.underlying25 (by rfl) (by rfl) (by rfl) | exact op_load_ptr Tryz.underlying25 (by rfl) (by rfl) (by first | exact ha | exact hb2 | exact setB_at push_at) (by rfl)) rfl (by dsimp only [zS, zN, zH, zT]) ?_
         refine zst (op_neI (by rfl) (by rfl)) rfl (by dsimp only [zS, zN, zH, zT]) ?_
         refine zst (op_move_tmp (by rfl)) rfl (by dsimp only [zS, zN, zH, zT]) ?_
         refine al_split 133 rfl (fun hg20 => ?_) (fun hg20 => ?_)
         ·
          (try simp only [y1, y2, y3, y4, y5, y6, y7, y8, y9, y0, List.length_map] at hg20)
          apply al_normT
          · (try dsimp only [zS, zN, zH, zT]); try exact rfl
          exact absurd trivial hg20
         ·
          (try simp only [y1, y2, y3, y4, y5, y6, y7, y8, y9, y0, List.length_map] at hg20)
          apply al_normT
          · (try dsimp only [zS, zN, zH, zT]); try exact rfl
          refine zsw rfl rfl rfl (by first | exact op_fieldAddr_ptr Tryz.underlying28 rfl Sz3 (by rfl) (by rfl) | exact op_fieldAddr_elt Tryz.underlying28 rfl Sz3 (by rfl) (by rfl) (by rfl)) (by dsimp only [zS, zN, zH, zT]) ?_
          refine zsw rfl rfl rfl (by first | exact op_load_elt Tryz.underlying3 (by rfl) (by rfl) (by rfl) | exact op_load_ptr Tryz.underlying3 (by rfl) (by rfl) (by first | exact ha | exact hb2 | exact setB_at push_at) (by rfl)) (by dsimp only [zS, zN, zH, zT]) ?_
          refine zsw rfl rfl rfl (by first | exact op_fieldAddr_ptr Tryz.underlying28 rfl Sz3 (by rfl) (by rfl) | exact op_fieldAddr_elt Tryz.underlying28 rfl Sz3 (by rfl) (by rfl) (by rfl)) (by dsimp only [zS, zN, zH, zT]) ?_
          refine zsw rfl rfl rfl (by first | exact op_load_elt Tryz.underlying3 (by rfl) (by rfl) (by rfl) | exact op_load_ptr Tryz.underlying3 (by rfl) (by rfl) (by first | exact ha | exact hb2 | exact setB_at push_at) (by rfl)) (by dsimp only [zS, zN, zH, zT]) ?_
          refine zsw rfl rfl rfl (op_neI (by rfl) (by rfl)) (by dsimp only [zS, zN, zH, zT]) ?_
          refine zst (op_pick_ff (by rfl) (val_tmp (by rfl))) rfl (by dsimp only [zS, zN, zH, zT]) ?_
          refine zst (op_move_tmp (by rfl)) rfl (by dsimp only [zS, zN, zH, zT]) ?_
          refine al_split 140 rfl (fun hg21 => ?_) (fun hg21 => ?_)
          ·
           (try simp only [y1, y2, y3, y4, y5, y6, y7, y8, y9, y0, List.length_map] at hg21)
           apply al_normT
           · (try dsimp only [zS, zN, zH, zT]); try exact rfl
           exact absurd trivial hg21
          ·
           (try simp only [y1, y2, y3, y4, y5, y6, y7, y8, y9, y0, List.length_map] at hg21)
           apply al_normT
           · (try dsimp only [zS, zN, zH, zT]); try exact rfl
           refine zsw rfl rfl rfl (by first | exact op_fieldAddr_ptr Tryz.underlying28 rfl Sz3 (by rfl) (by rfl) | exact op_fieldAddr_elt Tryz.underlying28 rfl Sz3 (by rfl) (by rfl) (by rfl)) (by dsimp only [zS, zN, zH, zT]) ?_
           refine zsw rfl rfl rfl (by first | exact op_load_elt Tryz.underlying3 (by rfl) (by rfl) (by rfl) | exact op_load_ptr Tryz.underlying3 (by rfl) (by rfl) (by first | exact ha | exact hb2 | exact setB_at push_at) (by rfl)) (by dsimp only [zS, zN, zH, zT]) ?_
           refine zsw rfl rfl rfl (by first | exact op_fieldAddr_ptr Tryz.underlying28 rfl Sz3 (by rfl) (by rfl) | exact op_fieldAddr_elt Tryz.underlying28 rfl Sz3 (by rfl) (by rfl) (by rfl)) (by dsimp only [zS, zN, zH, zT]) ?_
           refine zsw rfl rfl rfl (by first | exact op_load_elt Tryz.underlying3 (by rfl) (by rfl) (by rfl) | exact op_load_ptr Tryz.underlying3 (by rfl) (by rfl) (by first | exact ha | exact hb2 | exact setB_at push_at) (by rfl)) (by dsimp only [zS, zN, zH, zT]) ?_
           refine zsw rfl rfl rfl (op_neI (by rfl) (by rfl)) (by dsimp only [zS, zN, zH, zT]) ?_
           refine zst (op_pick_ff (by rfl) (val_tmp (by rfl))) rfl (by dsimp only [zS, zN, zH, zT]) ?_
           refine zst (op_move_tmp (by rfl)) rfl (by dsimp only [zS, zN, zH, zT]) ?_
           refine al_split 147 rfl (fun hg22 => ?_) (fun hg22 => ?_)
           ·
            (try simp only [y1, y2, y3, y4, y5, y6, y7, y8, y9, y0, List.length_map] at hg22)
            apply al_normT
            · (try dsimp only [zS, zN, zH, zT]); try exact rfl
            exact absurd trivial hg22
           ·
            (try simp only [y1, y2, y3, y4, y5, y6, y7, y8, y9, y0, List.length_map] at hg22)
            apply al_normT
            · (try dsimp only [zS, zN, zH, zT]); try exact rfl
            refine zsw rfl rfl rfl (by first | exact op_fieldAddr_ptr Tryz.underlying28 rfl Sz9 (by rfl) (by rfl) | exact op_fieldAddr_elt Tryz.underlying28 rfl Sz9 (by rfl) (by rfl) (by rfl)) (by dsimp only [zS, zN, zH, zT]) ?_
            refine zsw rfl rfl rfl (by first | exact op_load_elt Tryz.underlying9 (by rfl) (by rfl) (by rfl) | exact op_load_ptr Tryz.underlying9 (by rfl) (by rfl) (by first | exact ha | exact hb2 | exact setB_at push_at) (by rfl)) (by dsimp only [zS, zN, zH, zT]) ?_
            refine zsw rfl rfl rfl (by first | exact op_fieldAddr_ptr Tryz.underlying28 rfl Sz9 (by rfl) (by rfl) | exact op_fieldAddr_elt Tryz.underlying28 rfl Sz9 (by rfl) (by rfl) (by rfl)) (by dsimp only [zS, zN, zH, zT]) ?_
            refine zsw rfl rfl rfl (by first | exact op_load_elt Tryz.underlying9 (by rfl) (by rfl) (by rfl) | exact op_load_ptr Tryz.underlying9 (by rfl) (by rfl) (by first | exact ha | exact hb2 | exact setB_at push_at) (by rfl)) (by dsimp only [zS, zN, zH, zT]) ?_
            refine zsw rfl rfl rfl (op_neS (by rfl) (by rfl)) (by dsimp only [zS, zN, zH, zT]) ?_
            refine zst (op_pick_ff (by rfl) (val_tmp (by rfl))) rfl (by dsimp only [zS, zN, zH, zT]) ?_
            refine zst (op_move_tmp (by rfl)) rfl (by dsimp only [zS, zN, zH, zT]) ?_
            refine al_split 154 rfl (fun hg23 => ?_) (fun hg23 => ?_)
            ·
             (try simp only [y1, y2, y3, y4, y5, y6, y7, y8, y9, y0, List.length_map] at hg23)
             apply al_normT
             · (try dsimp only [zS, zN, zH, zT]); try exact rfl
             exact absurd trivial hg23
            ·
             (try simp only [y1, y2, y3, y4, y5, y6, y7, y8, y9, y0, List.length_map] at hg23)
             apply al_normT
             · (try dsimp only [zS, zN, zH, zT]); try exact rfl
             refine zsw rfl rfl rfl (by first | exact op_fieldAddr_ptr Tryz.underlying28 rfl Sz26 (by rfl) (by rfl) | exact op_fieldAddr_elt Tryz.underlying28 rfl Sz26 (by rfl) (by rfl) (by rfl)) (by dsimp only [zS, zN, zH, zT]) ?_
             refine zsw rfl rfl rfl (by first | exact op_load_elt Tryz.underlying26 (by rfl) (by rfl) (by rfl) | exact op_load_ptr Tryz.underlying26 (by rfl) (by rfl) (by first | exact ha | exact hb2 | exact setB_at push_at) (by rfl)) (by dsimp only [zS, zN, zH, zT]) ?_
             refine zsw rfl rfl rfl (op_lenL Tryz.underlying26 (by first | exact LL.d _ _ | exact LL.own _ _ _ | exact LL.nil _ | assumption)) (by dsimp only [zS, zN, zH, zT]) ?_
             refine zsw rfl rfl rfl (by first | exact op_fieldAddr_ptr Tryz.underlying28 rfl Sz26 (by rfl) (by rfl) | exact op_fieldAddr_elt Tryz.underlying28 rfl Sz26 (by rfl) (by rfl) (by rfl)) (by dsimp only [zS, zN, zH, zT]) ?_
             refine zsw rfl rfl rfl (by first | exact op_load_elt Tryz.underlying26 (by rfl) (by rfl) (by rfl) | exact op_load_ptr Tryz.underlying26 (by rfl) (by rfl) (by first | exact ha | exact hb2 | exact setB_at push_at) (by rfl)) (by dsimp only [zS, zN, zH, zT]) ?_
             refine zsw rfl rfl rfl (op_lenL Tryz.underlying26 (by first | exact LL.d _ _ | exact LL.own _ _ _ | exact LL.nil _ | assumption)) (by dsimp only [zS, zN, zH, zT]) ?_
             refine zsw rfl rfl rfl (op_neI (by rfl) (by rfl)) (by dsimp only [zS, zN, zH, zT]) ?_
             refine zst (op_pick_ff (by rfl) (val_tmp (by rfl))) rfl (by dsimp only [zS, zN, zH, zT]) ?_
             refine al_end rfl ?_
             refine then_normal ?_
             refine aw_cond rfl (fun hc24 => ?_) (fun hc24 => ?_)
             ·
              (try simp only [y1, y2, y3, y4, y5, y6, y7, y8, y9, y0, List.length_map] at hc24)
              exact absurd hc24 (by simp)
             ·
              (try simp only [y1, y2, y3, y4, y5, y6, y7, y8, y9, y0, List.length_map] at hc24)
              refine aw_skip ?_
              refine then_normal ?_
              refine aw_seq ?_
              refine aw_region ?_
              refine zst (by first | exact op_fieldAddr_ptr Tryz.underlying28 rfl Sz26 (by rfl) (by rfl) | exact op_fieldAddr_elt Tryz.underlying28 rfl Sz26 (by rfl) (by rfl) (by rfl)) rfl (by dsimp only [zS, zN, zH, zT]) ?_
              refine zst (by first | exact op_load_elt Tryz.underlying26 (by rfl) (by rfl) (by rfl) | exact op_load_ptr Tryz.underlying26 (by rfl) (by rfl) (by first | exact ha | exact hb2 | exact setB_at push_at) (by rfl)) rfl (by dsimp only [zS, zN, zH, zT]) ?_
              refine zst (op_lenL Tryz.underlying26 (by first | exact LL.d _ _ | exact LL.own _ _ _ | exact LL.nil _ | assumption)) rfl (by dsimp only [zS, zN, zH, zT]) ?_
              refine zst (op_move_const (by rfl)) rfl (by dsimp only [zS, zN, zH, zT]) ?_
              refine al_end rfl ?_
              refine then_normal ?_
              refine aw_block ?_
              apply aw_loopF (fun n T H => ∃ (j : Nat), T = (.un :: (.d (I cut)) :: .un :: .un :: .un :: .un :: .un :: .un :: .un :: .un :: (.d (S (encS xs))) :: .un :: (.d (.lst 5 (xs.map stD))) :: .un :: .un :: (.ptr sa 0) :: (.ptr sb 0) :: .un :: .un :: .un :: .un :: .un :: .un :: .un :: .un :: .un :: .un :: .un :: .un :: .un :: .un :: .un :: .un :: .un :: .un :: .un :: .un :: .un :: .un :: .un :: .un :: .un :: .un :: .un :: .un :: .un :: .un :: .un :: .un :: .un :: .un :: .un :: .un :: .un :: .un :: .un :: .un :: .un :: .un :: .un :: .un :: .un :: .un :: .un :: .un :: .un :: .un :: .un :: .un :: .un :: .un :: .un :: .un :: .un :: .un :: .un :: .un :: .un :: .un :: .un :: .un :: .un :: .un :: .un :: .un :: .un :: .un :: .un :: .un :: .un :: .un :: .un :: .un :: .un :: .un :: .un :: .un :: .un :: .un :: .un :: .un :: .un :: .un :: .un :: .un :: .un :: .un :: .un :: .un :: .un :: .un :: .un :: .un :: .un :: .un :: .un :: .un :: (.d (.lst 5 (xs.map stD))) :: (.d (I (xs.map stD).length)) :: (.d (I k)) :: .un :: .un :: .un :: .un :: .un :: .un :: .un :: .un :: .un :: .un :: .un :: .un :: .un :: .un :: .un :: .un :: .un :: .un :: .un :: .un :: .un :: .un :: .un :: .un :: .un :: .un :: .un :: .un :: .un :: .un :: .un :: .un :: .un :: .un :: .un :: .un :: .un :: .un :: .un :: .un :: .un :: .un :: .un :: .un :: (.d (.lst 1 (y.keep.map I))) :: (.d (I (y.keep.map I).length)) :: (.d (I j)) :: .un :: .un :: .un :: .un :: .un :: .un :: .un :: .un :: .un :: .un :: .un :: .un :: .un :: .un :: .un :: .un :: .un :: .un :: .un :: .un :: .un :: .un :: .un :: .un :: .un :: .un :: .un :: .un :: []) ∧ j ≤ y.keep.length ∧ n = y.keep.length - j ∧ H.x = x0 ∧ H.blks[sa]? = some ⟨28, [.d (I y.kind), .d (I y.sess), .d (I y.n), .d (S y.text), .d (.lst 1 (y.keep.map I))], false⟩ ∧ H.blks[sb]? = some ⟨28, [.d (I y.kind), .d (I y.sess), .d (I y.n), .d (S y.text), .d (.lst 1 (y.keep.map I))], false⟩) (y.keep.length) (false :: true :: false :: false :: false :: false :: false :: false :: false :: false :: true :: false :: true :: false :: false :: true :: true :: false :: false :: false :: false :: false :: false :: false :: false :: false :: false :: false :: false :: false :: false :: false :: false :: false :: false :: false :: false :: false :: false :: false :: false :: false :: false :: false :: false :: false :: false :: false :: false :: false :: false :: false :: false :: false :: false :: false :: false :: false :: false :: false :: false :: false :: false :: false :: false :: false :: false :: false :: false :: false :: false :: false :: false :: false :: false :: false :: false :: false :: false :: false :: false :: false :: false :: false :: false :: false :: false :: false :: false :: false :: false :: false :: false :: false :: false :: false :: false :: false :: false :: false :: false :: false :: false :: false :: false :: false :: false :: false :: false :: false :: false :: false :: false :: false :: false :: false :: false :: true :: true :: true :: false :: false :: false :: false :: false :: false :: false :: false :: false :: false :: false :: false :: false :: false :: false :: false :: false :: false :: false :: false :: false :: false :: false :: false :: false :: false :: false :: false :: false :: false :: false :: false :: false :: false :: false :: false :: false :: false :: false :: false :: false :: false :: false :: false :: true :: true :: true :: false :: false :: false :: false :: false :: false :: false :: false :: false :: false :: false :: false :: false :: false :: false :: false :: false :: false :: false :: false :: false :: false :: false :: false :: false :: false :: false :: false :: [])
              · (try dsimp only [maskT]); try exact rfl
              · rfl
              · exact ⟨0, rfl, by omega, rfl, hx4, ha, hb2⟩
              rintro n T H ⟨j, rfl, hj, rfl, hx5, ha, hb2⟩
              refine aw_seq ?_
              refine aw_region ?_
              refine zst (op_ltI (by rfl) (by rfl)) rfl (by dsimp only [zS, zN, zH, zT]) ?_
              refine al_end rfl ?_
              refine then_normal ?_
              refine aw_seq ?_
              refine aw_cond rfl (fun hc25 => ?_) (fun hc25 => ?_)
              ·
               (try simp only [y1, y2, y3, y4, y5, y6, y7, y8, y9, y0, List.length_map] at hc25)
               (try simp only [List.length_map] at hc25)
               have hlt2 : j < y.keep.length := by omega
               obtain ⟨x, hxx⟩ : ∃ x, y.keep[j]? = some x := ⟨_, List.getElem?_eq_getElem hlt2⟩
               refine aw_skip ?_
               refine then_normal ?_
               refine aw_seq ?_
               refine aw_block ?_
               refine aw_seq ?_
               refine aw_region ?_
               refine zst (op_move_tmp (by rfl)) rfl (by dsimp only [zS, zN, zH, zT]) ?_
               refine zst (op_assign_tmp (by rfl)) rfl (by dsimp only [zS, zN, zH, zT]) ?_
               refine al_end rfl ?_
               refine then_normal ?_
               refine aw_seq ?_
               refine aw_draw [0, 1, 0, 0, 1, 0, 1, 0, 0, 1, 0] mixed (by kernel_rfl) ?_
               refine zd0 (fun H => (by first | exact op_fieldAddr_ptr Tryz.underlying28 rfl Sz26 (by rfl) (by rfl) | exact op_fieldAddr_elt Tryz.underlying28 rfl Sz26 (by rfl) (by rfl) (by rfl))) rfl (by dsimp only [zS, zN, zH, zT]) ?_
               refine zd1 (by first | exact op_load_elt Tryz.underlying26 (by rfl) (by rfl) (by rfl) | exact op_load_ptr Tryz.underlying26 (by rfl) (by rfl) (by first | exact ha | exact hb2 | exact setB_at push_at) (by rfl)) rfl (by dsimp only [zS, zN, zH, zT]) ?_
               refine zd0 (fun H => (op_move_tmp (by rfl))) rfl (by dsimp only [zS, zN, zH, zT]) ?_
               refine zd0 (fun H => (op_indexAddr Tryz.underlying26 Sz3 (LL.d _ _) (by rfl) (by omega) (show (y.keep.map I)[((j : Nat) : Int).toNat]? = some (I x) by rw [List.getElem?_map, show ((j : Nat) : Int).toNat = j from rfl, hxx]; rfl) (by rfl))) rfl (by dsimp only [zS, zN, zH, zT]) ?_
               refine zd1 (by first | exact op_load_elt Tryz.underlying3 (by rfl) (by rfl) (by rfl) | exact op_load_ptr Tryz.underlying3 (by rfl) (by rfl) (by first | exact ha | exact hb2 | exact setB_at push_at) (by rfl)) rfl (by dsimp only [zS, zN, zH, zT]) ?_
               refine zd0 (fun H => (by first | exact op_fieldAddr_ptr Tryz.underlying28 rfl Sz26 (by rfl) (by rfl) | exact op_fieldAddr_elt Tryz.underlying28 rfl Sz26 (by rfl) (by rfl) (by rfl))) rfl (by dsimp only [zS, zN, zH, zT]) ?_
               refine zd1 (by first | exact op_load_elt Tryz.underlying26 (by rfl) (by rfl) (by rfl) | exact op_load_ptr Tryz.underlying26 (by rfl) (by rfl) (by first | exact ha | exact hb2 | exact setB_at push_at) (by rfl)) rfl (by dsimp only [zS, zN, zH, zT]) ?_
               refine zd0 (fun H => (op_move_tmp (by rfl))) rfl (by dsimp only [zS, zN, zH, zT]) ?_
               refine zd0 (fun H => (op_indexAddr Tryz.underlying26 Sz3 (LL.d _ _) (by rfl) (by omega) (show (y.keep.map I)[((j : Nat) : Int).toNat]? = some (I x) by rw [List.getElem?_map, show ((j : Nat) : Int).toNat = j from rfl, hxx]; rfl) (by rfl))) rfl (by dsimp only [zS, zN, zH, zT]) ?_
               refine zd1 (by first | exact op_load_elt Tryz.underlying3 (by rfl) (by rfl) (by rfl) | exact op_load_ptr Tryz.underlying3 (by rfl) (by rfl) (by first | exact ha | exact hb2 | exact setB_at push_at) (by rfl)) rfl (by dsimp only [zS, zN, zH, zT]) ?_
               refine zd0 (fun H => (op_neI (by rfl) (by rfl))) rfl (by dsimp only [zS, zN, zH, zT]) ?_
               refine drun_end rfl ?_
               refine then_normal ?_
               refine aw_cond rfl (fun hc26 => ?_) (fun hc26 => ?_)
               ·
                (try simp only [y1, y2, y3, y4, y5, y6, y7, y8, y9, y0, List.length_map] at hc26)
                exact absurd hc26 (by simp)
               ·
                (try simp only [y1, y2, y3, y4, y5, y6, y7, y8, y9, y0, List.length_map] at hc26)
                refine aw_skip ?_
                refine inBlock_normal (then_normal ?_)
                refine aw_region ?_
                refine zst (by first | exact op_add (by rfl) (by rfl) (wrap_i64 ⟨by omega, by omega⟩) | exact op_add (by rfl) (by rfl) (by rfl)) rfl (by dsimp only [zS, zN, zH, zT]) ?_
                refine zst (op_move_tmp (by rfl)) rfl (by dsimp only [zS, zN, zH, zT]) ?_
                refine al_end rfl ?_
                apply again_to (y.keep.length - (j + 1)) (false :: true :: false :: false :: false :: false :: false :: false :: false :: false :: true :: false :: true :: false :: false :: true :: true :: false :: false :: false :: false :: false :: false :: false :: false :: false :: false :: false :: false :: false :: false :: false :: false :: false :: false :: false :: false :: false :: false :: false :: false :: false :: false :: false :: false :: false :: false :: false :: false :: false :: false :: false :: false :: false :: false :: false :: false :: false :: false :: false :: false :: false :: false :: false :: false :: false :: false :: false :: false :: false :: false :: false :: false :: false :: false :: false :: false :: false :: false :: false :: false :: false :: false :: false :: false :: false :: false :: false :: false :: false :: false :: false :: false :: false :: false :: false :: false :: false :: false :: false :: false :: false :: false :: false :: false :: false :: false :: false :: false :: false :: false :: false :: false :: false :: false :: false :: false :: true :: true :: true :: false :: false :: false :: false :: false :: false :: false :: false :: false :: false :: false :: false :: false :: false :: false :: false :: false :: false :: false :: false :: false :: false :: false :: false :: false :: false :: false :: false :: false :: false :: false :: false :: false :: false :: false :: false :: false :: false :: false :: false :: false :: false :: false :: false :: true :: true :: true :: false :: false :: false :: false :: false :: false :: false :: false :: false :: false :: false :: false :: false :: false :: false :: false :: false :: false :: false :: false :: false :: false :: false :: false :: false :: false :: false :: false :: [])
                · (try dsimp only [maskT]); try exact rfl
                · rfl
                · omega
                exact ⟨j + 1, rfl, by omega, rfl, hx5, ha, hb2⟩
              ·
               (try simp only [y1, y2, y3, y4, y5, y6, y7, y8, y9, y0, List.length_map] at hc25)
               (try simp only [List.length_map] at hc25)
               refine aw_exit ?_
               refine then_exit (again_exit (inBlock_here (inBlock_normal (then_normal ?_))))
               refine aw_region ?_
               refine zst (by first | exact op_add (by rfl) (by rfl) (wrap_i64 ⟨by omega, by omega⟩) | exact op_add (by rfl) (by rfl) (by rfl)) rfl (by dsimp only [zS, zN, zH, zT]) ?_
               refine zst (op_move_tmp (by rfl)) rfl (by dsimp only [zS, zN, zH, zT]) ?_
               refine al_end rfl ?_
               apply again_to (xs.length - (k + 1)) (false :: true :: false :: false :: false :: false :: false :: false :: false :: false :: true :: false :: true :: false :: false :: false :: false :: false :: false :: false :: false :: false :: false :: false :: false :: false :: false :: false :: false :: false :: false :: false :: false :: false :: false :: false :: false :: false :: false :: false :: false :: false :: false :: false :: false :: false :: false :: false :: false :: false :: false :: false :: false :: false :: false :: false :: false :: false :: false :: false :: false :: false :: false :: false :: false :: false :: false :: false :: false :: false :: false :: false :: false :: false :: false :: false :: false :: false :: false :: false :: false :: false :: false :: false :: false :: false :: false :: false :: false :: false :: false :: false :: false :: false :: false :: false :: false :: false :: false :: false :: false :: false :: false :: false :: false :: false :: false :: false :: false :: false :: false :: false :: false :: false :: false :: false :: false :: true :: true :: true :: false :: false :: false :: false :: false :: false :: false :: false :: false :: false :: false :: false :: false :: false :: false :: false :: false :: false :: false :: false :: false :: false :: false :: false :: false :: false :: false :: false :: false :: false :: false :: false :: false :: false :: false :: false :: false :: false :: false :: false :: false :: false :: false :: false :: false :: false :: false :: false :: false :: false :: false :: false :: false :: false :: false :: false :: false :: false :: false :: false :: false :: false :: false :: false :: false :: false :: false :: false :: false :: false :: false :: false :: false :: false :: false :: [])
               · (try dsimp only [maskT]); try exact rfl
               · rfl
               · omega
               exact ⟨k + 1, rfl, by omega, rfl, hx5⟩
        ·
         (try simp only [y1, y2, y3, y4, y5, y6, y7, y8, y9, y0, List.length_map] at hc19)
         (try simp only [List.length_map] at hc19)
         have hke : k = xs.length := by omega
         subst hke
         refine aw_exit ?_
         refine then_exit (again_exit (inBlock_here (then_normal ?_)))
         refine aw_seq ?_
         obtain ⟨q, hqe⟩ := and_16 cut
         have hep := encS_pos xs
         obtain ⟨m, hmq⟩ : ∃ m, q % (encS xs).length = m := ⟨_, rfl⟩
         have hml : m < (encS xs).length := by rw [← hmq]; exact Nat.mod_lt _ hep
         have hct := hcut m hml
         refine aw_region ?_
         refine zst (op_move_tmp (by rfl)) rfl (by dsimp only [zS, zN, zH, zT]) ?_
         refine zst (op_move_tmp (by rfl)) rfl (by dsimp only [zS, zN, zH, zT]) ?_
         refine zst (op_and (by rfl) (by rfl) hqe) rfl (by dsimp only [zS, zN, zH, zT]) ?_
         refine zst (op_move_tmp (by rfl)) rfl (by dsimp only [zS, zN, zH, zT]) ?_
         refine zst (op_lenS Tryz.underlying9 (by rfl)) rfl (by dsimp only [zS, zN, zH, zT]) ?_
         refine zst (op_rem (r := ((m : Nat) : Int)) (by rfl) (by rfl) (by omega) (by rw [← hmq]; rfl)) rfl (by dsimp only [zS, zN, zH, zT]) ?_
         refine zst (op_sliceS0 ((encS xs).take m) Tryz.underlying9 (by rfl) (by rfl) (by omega) (by omega) (by rfl)) rfl (by dsimp only [zS, zN, zH, zT]) ?_
         refine zst (op_callF Tryz.func8 (by rfl) (by rfl) (.tmp (by rfl) .nil) (wdec_ok _ ((encS xs).take m))) rfl (by dsimp only [zS, zN, zH, zT]) ?_
         refine zst (op_move_tmp (by rfl)) rfl (by dsimp only [zS, zN, zH, zT]) ?_
         refine zst (op_extract (by rfl) (by rfl)) rfl (by dsimp only [zS, zN, zH, zT]) ?_
         refine zst (op_extract (by rfl) (by rfl)) rfl (by dsimp only [zS, zN, zH, zT]) ?_
         refine zst (op_assign_tmp (by rfl)) rfl (by dsimp only [zS, zN, zH, zT]) ?_
         refine zst (op_assign_tmp (by rfl)) rfl (by dsimp only [zS, zN, zH, zT]) ?_
         refine al_end rfl ?_
         refine then_normal ?_
         refine aw_seq ?_
         refine aw_region ?_
         refine zst (op_move_tmp (by rfl)) rfl (by dsimp only [zS, zN, zH, zT]) ?_
         refine zst (op_eqI (by rfl) (by rfl)) rfl (by dsimp only [zS, zN, zH, zT]) ?_
         refine zst (op_assign_tmp (by rfl)) rfl (by dsimp only [zS, zN, zH, zT]) ?_
         refine al_end rfl ?_
         refine then_normal ?_
         refine aw_ret ?_
         refine retPost1 rfl rfl ?_
         first | exact ⟨rfl, hx0⟩ | exact ⟨rfl, hx⟩ | exact ⟨by (rw [e2]) <;> rfl, hx⟩ | exact ⟨by (rw [hct]) <;> rfl, hx⟩
end Go.Proofs.YtdiibbbbdhkepaaGreatDoor
namespace Go.AV
def HS.set2 (H : HS) (i : Nat) (b : HB) (j : Nat) (c : HB) : HS := (H.setB i b).setB j c
theorem setB_comm {H : HS} {i j : Nat} {b c : HB} (h : i ≠ j) : (H.setB i b).setB j c = (H.setB j c).setB i b := by
  simp only [HS.setB, HS.mk.injEq, and_true]
  exact List.set_comm _ _ h
section
variable {H Hs : HS} {i j k : Nat} {b b' b0 c c' c0 x : HB}
theorem set2_at1 (h : i ≠ j) (hi : H.blks[i]? = some b0) : (H.set2 i b j c).blks[i]? = some b := by
  unfold HS.set2; rw [setB_ne h]; exact setB_at hi
theorem set2_at2 (h : i ≠ j) (hj : H.blks[j]? = some c0) : (H.set2 i b j c).blks[j]? = some c := by
  unfold HS.set2; exact setB_at (by rw [setB_ne (Ne.symm h)]; exact hj)
theorem set2_ne (hi : k ≠ i) (hj : k ≠ j) : (H.set2 i b j c).blks[k]? = H.blks[k]? := by
  unfold HS.set2; rw [setB_ne hj, setB_ne hi]
theorem set2_set1 (h : i ≠ j) : (H.set2 i b j c).setB i b' = H.set2 i b' j c := by
  unfold HS.set2; rw [← setB_comm h, setB_setB]
theorem set2_set2 : (H.set2 i b j c).setB j c' = H.set2 i b j c' := by
  unfold HS.set2; rw [setB_setB]
theorem set2_again (h : i ≠ j) : (H.set2 i b j c).set2 i b' j c' = H.set2 i b' j c' := by
  show ((H.set2 i b j c).setB i b').setB j c' = _
  rw [set2_set1 h, set2_set2]
theorem set2_nb : (H.set2 i b j c).nb = H.nb := by unfold HS.set2; rw [setB_nb, setB_nb]
theorem Ext.at (h : Ext Hs H) (hi : Hs.blks[i]? = some x) : H.blks[i]? = some x := by
  obtain ⟨l, hl⟩ := h.blks
  rw [hl, List.getElem?_append_left (List.getElem?_eq_some_iff.1 hi).1]; exact hi
theorem Ext.under (h : Ext Hs H) (hi : i < Hs.nb) : Ext (Hs.setB i b) (H.setB i b) := by
  obtain ⟨l, hl⟩ := h.blks
  exact ⟨⟨l, by simp only [HS.setB, hl]; exact List.set_append_left _ _ hi⟩, h.toks, h.maps, h.x⟩
theorem Ext.set2 (h : Ext Hs H) (hi : i < Hs.nb) (hj : j < Hs.nb) : Ext (Hs.set2 i b j c) (H.set2 i b j c) := by
  unfold HS.set2
  exact (h.under hi).under (by rw [setB_nb]; exact hj)
theorem Ext.set2' (h : Ext (Hs.set2 i b j c) H) (hne : i ≠ j) (hi : i < Hs.nb) (hj : j < Hs.nb) : Ext (Hs.set2 i b' j c') (H.set2 i b' j c') := by
  have := h.set2 (b := b') (c := c') (by rw [set2_nb]; exact hi) (by rw [set2_nb]; exact hj)
  rwa [set2_again hne] at this
theorem lt_nb (h : H.blks[i]? = some b) : i < H.nb := (List.getElem?_eq_some_iff.1 h).1
end
end Go.AV
namespace Go.AV
theorem Fits.mono {nb nt nb' nt' : Nat} {v : AV} (h : Fits nb nt v) (hb : nb ≤ nb') (ht : nt ≤ nt') : Fits nb' nt' v := by
  induction h with
  | un => exact .un
  | nv => exact .nv
  | d x => exact .d x
  | own0 sz xs => exact .own0 sz xs
  | own i sz xs h => exact .own i sz xs (Nat.lt_of_lt_of_le h ht)
  | elt cs => exact .elt cs
  | ptr id off h => exact .ptr id off (Nat.lt_of_lt_of_le h hb)
  | arr id n cap h => exact .arr id n cap (Nat.lt_of_lt_of_le h hb)
  | sub id off n cap h => exact .sub id off n cap (Nat.lt_of_lt_of_le h hb)
  | agg cs _ ih => exact .agg cs ih
  | tup cs _ ih => exact .tup cs ih
  | fn f fs cs _ _ ih ih' => exact .fn f fs cs ih ih'
  | map id => exact .map id
  | iter id => exact .iter id
theorem Ext.upT {A H : HS} {i n : Nat} (h : Ext A H) (hi : i < A.toks.length) : Ext (A.up (some i) n) (H.up (some i) n) := by
  obtain ⟨⟨l1, h1⟩, ⟨l2, h2⟩, hm, hx⟩ := h
  exact ⟨⟨l1, h1⟩, ⟨l2, by simp only [HS.up, h2]; exact List.set_append_left _ _ hi⟩, hm, hx⟩
structure Wr (Hs : HS) (t : Option Nat) (H : HS) (l : List UInt8) : Prop where
  ext : Ext (upB Hs t l) H
  ok : H.ok (some (Hs.tk t)) l.length
  lt : ∀ m : List UInt8, Hs.tk t < (upB Hs t m).toks.length
section
variable {Hs H : HS} {t : Option Nat} {l m : List UInt8}
theorem Wr.start {n : Nat} (h : Hs.ok t n) (l : List UInt8) : Wr Hs t (upB Hs t l) l := ⟨Ext.refl _, okB _ _ _ h, fun m => by
  cases t with
  | none => simp [upB, HS.up, HS.tk]
  | some i =>
    have := (List.getElem?_eq_some_iff.1 (h i rfl)).1
    simpa [upB, HS.up, HS.tk] using this⟩
theorem Wr.push {e : TypeId} {cs : List AV} (h : Wr Hs t H l) : Wr Hs t (H.push e cs) l := ⟨h.ext.push _ _, h.ok, h.lt⟩
theorem Wr.nb (h : Wr Hs t H l) : Hs.nb ≤ H.nb := by
  have := nb_le h.ext
  simpa [HS.nb, upB, HS.up_blks] using this
theorem Wr.setB {i : Nat} {b : HB} (h : Wr Hs t H l) (hi : Hs.nb ≤ i) : Wr Hs t (H.setB i b) l := ⟨h.ext.setB (by simpa [HS.nb, upB, HS.up_blks] using hi), h.ok, h.lt⟩
theorem Wr.step (h : Wr Hs t H l) (m : List UInt8) : Wr Hs t (upB H (some (Hs.tk t)) m) m := by
  refine ⟨?_, okB H (some (Hs.tk t)) m h.ok, h.lt⟩
  have := h.ext.upT (n := m.length) (h.lt l)
  rwa [show (upB Hs t l).up (some (Hs.tk t)) m.length = upB Hs t m from HS.up_up Hs t _ _] at this
end
end Go.AV
namespace Go.AV
open Go.RowKit
theorem op_cmpstring {P : Program} [Wins P] {E : Operand → AV} {H : HS} {dst : Option Tmp} {ty : TypeId} {pos : String} {after : Array Edge} {gd : Option (Nat × Bool)} {x y : Operand} {f : FuncId} {fn : Func} {ts : Array TypeId} {a b : List UInt8}
    (hfn : P.funcs[f]? = some fn) (hname : (fn.name == "runtime.NumGoroutine") = false) (hb : fn.body.isNone = true) (hn : Extern.findNext fn = none) (he : Extern.find fn = some Extern.BytealgCompare.compare) (hx : E x = .d (S a)) (hy : E y = .d (S b)) :
    OpR P ⟨dst, .call ⟨.value (.func f), #[x, y], ts⟩, ty, pos, after, gd⟩ E H (Ret (.d (I (Lib.compareBytes a b))) H) :=
  opR_pure (hw := fun ac ⟨c, hops⟩ => wr_extOp hfn hname hb hn he (by
    have h1 := hops x (by simp [Op.operands, Call.operands])
    rw [hx] at h1
    have h2 := hops y (by simp [Op.operands, Call.operands])
    rw [hy] at h2
    rw [show #[x, y].map ac.eval = #[ac.eval x, ac.eval y] by simp, h1.v_eq, h2.v_eq]
    exact wr_cmps)) fun c w ac hm hops => by
    have h1 := hops x (by simp [Op.operands, Call.operands])
    rw [hx] at h1
    have h2 := hops y (by simp [Op.operands, Call.operands])
    rw [hy] at h2
    have e1 := h1.v_eq
    have e2 := h2.v_eq
    refine ⟨.int .i64 (Lib.compareBytes a b), ?_, .d (.v _ rfl)⟩
    have hr := run_callFunc_extern (w := w) hfn hname hb hn he #[ac.eval x, ac.eval y]
    rw [e1, e2, Lib.run_compareString] at hr
    have ef : ac.eval (.func f) = .func (.func f) #[] #[] := rfl
    simp [execOp, resolve, Deferred.ofValue, invoke, ef, e1, e2, hr]
end Go.AV
namespace Go.AV
open Go.RowKit
section
variable {P : Program} [Wins P] {E : Operand → AV} {H : HS} {dst : Option Tmp} {ty : TypeId} {pos : String} {after : Array Edge} {gd : Option (Nat × Bool)}
theorem arr_val {c : Ctx} {x : Value} {id n cap : Nat} (h : Rep c x (.arr id n cap)) : ∃ g, c.blk[id]? = some g ∧ x = .slice (some ⟨g, 0, none⟩) n cap := by
  generalize ha : AV.arr id n cap = v at h
  cases h with
  | arr _ _ _ g hg => cases ha; exact ⟨g, hg, rfl⟩
  | _ => cases ha
theorem sub_val {c : Ctx} {x : Value} {id off n cap : Nat} (h : Rep c x (.sub id off n cap)) : ∃ g, c.blk[id]? = some g ∧ x = .slice (some ⟨g, off, none⟩) n cap := by
  generalize ha : AV.sub id off n cap = v at h
  cases h with
  | sub _ _ _ _ g hg => cases ha; exact ⟨g, hg, rfl⟩
  | _ => cases ha
theorem op_indexArr {x y : Operand} {t e : TypeId} {sz id n cap off : Nat} {k : IntKind} {i : Int} (ht : P.underlying t = some (.slice e)) (hn : (P.info? e).map (·.size) = some sz) (hx : E x = .arr id n cap) (hy : E y = .d (.v (.int k i))) (h0 : 0 ≤ i) (hi : i < n) (ho : i.toNat * sz = off) :
    OpR P ⟨dst, .indexAddr t x y, ty, pos, after, gd⟩ E H (Ret (.ptr id off) H) :=
  opR_pure fun c w a hm hops => by
    have h1 := hops x (by simp [Op.operands])
    rw [hx] at h1
    have h2 := hops y (by simp [Op.operands])
    rw [hy] at h2
    obtain ⟨g, hg, e1⟩ := arr_val h1
    subst ho
    refine ⟨.pointer (some ⟨g, i.toNat * sz, none⟩), ?_, .ptr id _ g hg⟩
    simp [execOp, e1, h2.v_eq, Instr.indexAt, asIntOf, run_underlying ht, h0, hi, run_sizeOf hn, addr_add]
theorem op_sliceUn {x y : Operand} {t e : TypeId} {sz n : Nat} {us : List AV} {k : IntKind} {i : Int} (ht : P.underlying t = some (.slice e)) (hn : (P.info? e).map (·.size) = some sz) (hx : Arr H e sz (E x) n us) (hy : E y = .d (.v (.int k i))) (h0 : 0 ≤ i) (h2 : i ≤ n) :
    OpR P ⟨dst, .slice t x (some y) none none, ty, pos, after, gd⟩ E H (Ret .un H) :=
  opR_pure fun c w a _ hops => by
    have q1 := hops x (by simp [Op.operands])
    have q2 := hops y (by simp [Op.operands])
    rw [hy] at q2
    have b2 := bound_ok (P := P) (k := k) (y := n) (code := .sliceB) w h0 (by omega)
    cases hE : E x with
    | d dv =>
      rw [hE] at hx q1
      cases hx with
      | nil => exact ⟨.slice none 0 0, by simp [execOp, q1.v_eq, q2.v_eq, Instr.sliceAt, Instr.slice, Instr.sliceBounds, run_underlying ht, b2, run_sizeOf hn], .un _⟩
    | arr id n1 cap =>
      rw [hE] at hx q1
      cases hx with
      | arr =>
        obtain ⟨g, hg, e1⟩ := arr_val q1
        by_cases hc : cap = i.toNat
        · exact ⟨.slice (some ⟨g, 0, none⟩) (n - i.toNat) (cap - i.toNat), by simp [execOp, e1, q2.v_eq, Instr.sliceAt, Instr.slice, Instr.sliceBounds, run_underlying ht, b2, run_sizeOf hn, hc], .un _⟩
        · exact ⟨.slice (some ((⟨g, 0, none⟩ : Addr).add (i.toNat * sz))) (n - i.toNat) (cap - i.toNat), by simp [execOp, e1, q2.v_eq, Instr.sliceAt, Instr.slice, Instr.sliceBounds, run_underlying ht, b2, run_sizeOf hn, hc], .un _⟩
    | _ => rw [hE] at hx; cases hx
inductive From : AV → Nat → Nat → Nat → Prop
  | arr (id n cap : Nat) : From (.arr id n cap) id 0 n
  | sub (id off n cap : Nat) : From (.sub id off n cap) id off n
theorem From.val {c : Ctx} {x : Value} {v : AV} {id off n : Nat} (h : From v id off n) (hr : Rep c x v) : ∃ g cap, c.blk[id]? = some g ∧ x = .slice (some ⟨g, off, none⟩) n cap := by
  cases h with
  | arr => obtain ⟨g, h1, h2⟩ := arr_val hr; exact ⟨g, _, h1, h2⟩
  | sub => obtain ⟨g, h1, h2⟩ := sub_val hr; exact ⟨g, _, h1, h2⟩
end
end Go.AV
namespace Go.AV
open Go.RowKit
theorem Inv.protect {B : Nat} {w0 w : World} {c : Ctx} {H : HS} (h : Inv B w0 c H w) (id g : Nat) (b : HB) (hg : c.blk[id]? = some g) (hb : H.blks[id]? = some b) (nb nt : Nat) (hid : nb ≤ id)
    (hf : ∀ i b, i < nb → H.blks[i]? = some b → ∀ j (hj : j < b.cs.length), Fits nb nt b.cs[j]) (hmf : MFits nb nt H) (ds : List DV) (hd : b.cs.take ds.length = ds.map .d) (hlen : ds.length ≤ b.cs.length) :
    ∃ us : Nat → Value, Inv B w0 ((c.cut nb nt).prot g ds.length us) (H.cut nb nt) w ∧ MemLe c.mem ((c.cut nb nt).prot g ds.length us).mem ∧ (∀ i, i < ds.length → ((c.cut nb nt).prot g ds.length us).mem g i = some (us i)) ∧ ∀ i (hi : i < ds.length), RepD c.mem (us i) ds[i] := by
  obtain ⟨p1, p2, cur, fr, p3, p4, p5, p6⟩ := h.blk id g b hg hb
  have p4' : cur.size = b.cs.length := p4
  have i1 := h.cut nb nt hf hmf
  refine ⟨fun o => cur.getD o undef, ⟨i1.base, i1.below, fun g' o u hm => ?_, i1.blkLen, fun i g' b' hg' hb' => ?_, i1.blkInj, i1.tokLen, fun i e he => ?_, i1.tokInj, i1.maps.keep (Ctx.prot_le (c := c.cut nb nt) fun o _ => .inl (p2 o)).lw rfl rfl (.refl _), i1.cx, i1.xok⟩, fun b' o u hm => ?_, fun i hi => ?_, fun i hi => ?_⟩
  · simp only [Ctx.prot] at hm
    split at hm
    · rename_i hh
      obtain ⟨rfl, ho⟩ := hh
      have : o < cur.size := by omega
      simp only [World.cell?, p3]
      simp at hm
      simp [this] at hm ⊢
      exact hm
    · exact i1.mem g' o u hm
  · have hlt : i < nb := by
      have hg2 : (c.blk.take nb)[i]? = some g' := hg'
      have := (List.getElem?_eq_some_iff.1 hg2).1
      rw [List.length_take] at this
      omega
    have hgi : c.blk[i]? = some g' := by
      have : (c.blk.take nb)[i]? = some g' := hg'
      rwa [List.getElem?_take, if_pos hlt] at this
    have hne : g' ≠ g := fun e => by
      subst e
      have := h.blkInj i id g' hgi hg
      omega
    obtain ⟨h1, h2, cur', fr', h3, h4, h5, h6⟩ := i1.blk i g' b' hg' hb'
    have hle : Le (c.cut nb nt) ((c.cut nb nt).prot g ds.length (fun o => cur.getD o undef)) := Ctx.prot_le fun o _ => .inl (p2 o)
    refine ⟨h1, fun o => ?_, cur', fr', h3, h4, h5, fun j hj => (h6 j hj).mono hle⟩
    simp only [Ctx.prot]
    rw [if_neg (fun hh => hne hh.1)]
    exact h2 o
  · have hei : c.tok[i]? = some e := by
      have : (c.tok.take nt)[i]? = some e := he
      have hlt := (List.getElem?_eq_some_iff.1 this).1
      rwa [List.getElem?_take, if_pos (by simp at hlt; omega)] at this
    obtain ⟨h1, h2, h3, h4, h5, h6⟩ := i1.tok i e he
    have hne : e.g ≠ g := fun hh => (h.tok i e hei).2.2.2.2.1 id (hh ▸ hg)
    refine ⟨h1, h2, h3, fun o ho => ?_, h5, h6⟩
    simp only [Ctx.prot]
    rw [if_neg (fun hh => hne hh.1)]
    exact h4 o ho
  · simp only [Ctx.prot]
    by_cases hh : b' = g ∧ o < ds.length
    · obtain ⟨rfl, _⟩ := hh
      rw [p2 o] at hm; cases hm
    · rw [if_neg hh]; exact hm
  · show (if g = g ∧ i < ds.length then some (cur.getD i undef) else _) = _
    rw [if_pos ⟨rfl, hi⟩]
  · have h3 : i < b.cs.length := by omega
    have h4 := p6 i h3
    have h5 : (.d ds[i] : AV) = b.cs[i]'h3 := by
      have : (ds.map AV.d)[i]? = (b.cs.take ds.length)[i]? := by rw [hd]
      rw [List.getElem?_map, List.getElem?_eq_getElem hi, List.getElem?_take, if_pos hi, List.getElem?_eq_getElem h3] at this
      exact Option.some.inj this
    rw [← h5] at h4
    exact h4.d_inv
inductive Becomes (id n cap sz : Nat) (xs : List DV) : List AV → List DV → Prop
  | nil : Becomes id n cap sz xs [] []
  | d {x : AV} {l : List AV} {m : List DV} (y : DV) (hw : Weak x (.d y)) (h : Becomes id n cap sz xs l m) : Becomes id n cap sz xs (x :: l) (y :: m)
  | arr {l : List AV} {m : List DV} (h : Becomes id n cap sz xs l m) : Becomes id n cap sz xs (.arr id n cap :: l) (.lst sz xs :: m)
theorem Becomes.len {id n cap sz : Nat} {xs : List DV} {l : List AV} {m : List DV} (h : Becomes id n cap sz xs l m) : l.length = m.length := by
  induction h with
  | nil => rfl
  | d _ _ _ ih => simp [ih]
  | arr _ ih => simp [ih]
theorem Becomes.get {id n cap sz : Nat} {xs : List DV} {l : List AV} {m : List DV} (h : Becomes id n cap sz xs l m) {c : Ctx} {mem : Mem} (hm : MemLe c.mem mem) (ha : ∀ y, Rep c y (.arr id n cap) → RepD mem y (.lst sz xs)) :
    ∀ (vs : Nat → Value), (∀ i (hi : i < l.length), Rep c (vs i) l[i]) → ∀ i (hi : i < m.length), RepD mem (vs i) m[i] := by
  induction h with
  | nil => intro vs _ i hi; simp at hi
  | d y hw _ ih =>
    intro vs hv i hi
    cases i with
    | zero => exact (hw c _ (hv 0 (by simp))).d_inv.mono hm
    | succ i => exact ih (fun j => vs (j + 1)) (fun j hj => by have := hv (j + 1) (by simpa using hj); simpa using this) i (by simpa using hi)
  | arr _ ih =>
    intro vs hv i hi
    cases i with
    | zero => exact ha _ (hv 0 (by simp))
    | succ i => exact ih (fun j => vs (j + 1)) (fun j hj => by have := hv (j + 1) (by simpa using hj); simpa using this) i (by simpa using hi)
theorem ACalls.tidyP {P : Program} [Wins P] {f : FuncId} {args : List AV} {H : HS} {m : List DV} (h1 : ∀ d ∈ m, d.one = true)
    (h : ACalls P f args H fun av H' => Ext H H' ∧ ∃ l, av = .agg l ∧ (Weaks l (m.map .d) ∨ ∃ id n cap sz xs b, H.nb ≤ id ∧ H'.blks[id]? = some b ∧ b.cs.take (flat xs).length = (flat xs).map .d ∧ (flat xs).length ≤ b.cs.length ∧ xs.length = n ∧ n ≤ cap ∧ (∀ x ∈ xs, x.cells.length = sz) ∧ (∀ d ∈ flat xs, d.one = true) ∧ Becomes id n cap sz xs l m)) :
    ACalls P f args H (Ret (.d (.agg m)) H) := by
  intro B w0 c w t vs hI hB hs ha kind cs hk hn
  refine h B w0 c w t vs hI hB hs ha kind cs hk ?_
  rintro v w' c' av H' t' fr q1 q2 q3 hB' ⟨⟨⟨l1, h5⟩, ⟨l2, h6⟩, hmm, hxx⟩, l, rfl, hl⟩ hL
  have hcut : H'.cut H.blks.length H.toks.length = H := by
    cases H
    simp only [HS.cut, h5, h6, List.take_left, hmm, hxx]
  have hfit : ∀ i b, i < H.blks.length → H'.blks[i]? = some b → ∀ j (hj : j < b.cs.length), Fits H.blks.length H.toks.length b.cs[j] := fun i b hi hb j hj => by
    have hb' : H.blks[i]? = some b := by rw [h5, List.getElem?_append_left (by omega)] at hb; exact hb
    have hlt : i < c.blk.length := by rw [hI.blkLen]; exact hi
    obtain ⟨_, _, cur, fr, _, _, _, q⟩ := hI.blk i _ b (List.getElem?_eq_getElem hlt) hb'
    have := (q j hj).fits
    rwa [hI.blkLen, hI.tokLen] at this
  have hmfit : MFits H.blks.length H.toks.length H' := fun i ps asg bd st pend T hm => hI.mfits i ps asg bd st pend T (hmm ▸ hm)
  have hblk : ∀ (i g : Nat), c.blk[i]? = some g → (c'.blk.take H.blks.length)[i]? = some g := fun i g hi => by
    have : i < c.blk.length := (List.getElem?_eq_some_iff.1 hi).1
    rw [List.getElem?_take, if_pos (by have := hI.blkLen; omega)]
    exact q1.blk i g hi
  have htok : ∀ (i : Nat) (e : Tok), c.tok[i]? = some e → ∃ e' : Tok, (c'.tok.take H.toks.length)[i]? = some e' ∧ (e' = e ∨ e.mark < e'.mark) := fun i e he => by
    have : i < c.tok.length := (List.getElem?_eq_some_iff.1 he).1
    obtain ⟨e', q1, q2⟩ := q1.tok i e he
    refine ⟨e', ?_, q2⟩
    rw [List.getElem?_take, if_pos (by have := hI.tokLen; omega)]
    exact q1
  have hv : ∃ us : Array Value, v = .agg us ∧ us.size = l.length ∧ ∀ i (hi : i < l.length), Rep c' (us.getD i undef) l[i] := by
    generalize ha : AV.agg l = av at q2
    cases q2 with
    | agg us cs hl hr => cases ha; exact ⟨us, rfl, hl, hr⟩
    | _ => cases ha
  obtain ⟨us, rfl, hul, hur⟩ := hv
  rcases hl with hw | ⟨id, n, cap, sz, xs, b, hid, hb, hd, hlen, hxn, hnc, hsz, hone, hbec⟩
  · have i1 := q3.cut H.blks.length H.toks.length hfit hmfit
    rw [hcut] at i1
    refine hn (.agg us) w' (c'.cut H.blks.length H.toks.length) (.d (.agg m)) H t' fr ⟨q1.mem, hblk, htok, q1.maps, q1.me⟩ (.d (.agg us m (by rw [hul, hw.len, List.length_map]) h1 fun i hi => ?_)) i1 hB' ⟨rfl, rfl⟩ hL
    have := hw.get c' (fun i => us.getD i undef) hur i (by rw [List.length_map]; exact hi)
    rw [List.getElem_map] at this
    exact this.d_inv.mono (fun _ _ _ h => h)
  · have hidl : id < c'.blk.length := by rw [q3.blkLen]; exact (List.getElem?_eq_some_iff.1 hb).1
    obtain ⟨vals, i1, m1, m2, m3⟩ := q3.protect id _ b (List.getElem?_eq_getElem hidl) hb H.blks.length H.toks.length hid hfit hmfit (flat xs) hd hlen
    rw [hcut] at i1
    refine hn (.agg us) w' ((c'.cut H.blks.length H.toks.length).prot c'.blk[id] (flat xs).length vals) (.d (.agg m)) H t' fr ⟨fun g o u hm => m1 g o u (q1.mem g o u hm), hblk, htok, q1.maps, q1.me⟩ (.d (.agg us m (by rw [hul, hbec.len]) h1 ?_)) i1 (hB'.mono m1 fun _ h => h) ⟨rfl, rfl⟩ hL
    refine hbec.get (c := c') m1 (fun y hy => ?_) (fun i => us.getD i undef) hur
    obtain ⟨g, hg, rfl⟩ := arr_val hy
    rw [List.getElem?_eq_getElem hidl] at hg
    cases hg
    exact .lst _ 0 n cap sz xs vals hxn hnc hsz hone (fun i hi => by rw [Nat.zero_add]; exact m2 i hi) (fun i hi => (m3 i hi).mono m1)
end Go.AV
namespace Go.AV
open Go.RowKit
section
variable {P : Program} [Wins P] {E : Operand → AV} {H : HS} {dst : Option Tmp} {ty : TypeId} {pos : String} {after : Array Edge} {gd : Option (Nat × Bool)}
end
end Go.AV
namespace Go.AV.Val
open Go.AV.Ord Go.AV.Oct
abbrev VB (t : TypeId) (rid : Nat) (e : Int) : HB := ⟨t, [.ptr rid 0, .d (I e)], false⟩
def stH (H : HS) (tR tQ : TypeId) (rid q : Nat) (st : DS) : HS := H.set2 rid (RB tR st.1) q (VB tQ rid st.2)
structure Rd (H : HS) (tR tQ : TypeId) (rid q : Nat) (st : DS) : Prop where
  ne : rid ≠ q
  r : H.blks[rid]? = some (RB tR st.1)
  q : H.blks[q]? = some (VB tQ rid st.2)
section
variable {H Hs : HS} {tR tQ tV : TypeId} {rid q : Nat} {st st' : DS} {b b' : HB}
theorem Rd.stH (h : Rd H tR tQ rid q st) (st' : DS) : Rd (Val.stH H tR tQ rid q st') tR tQ rid q st' := ⟨h.ne, set2_at1 h.ne h.r, set2_at2 h.ne h.q⟩
theorem Rd.ext (h : Rd Hs tR tQ rid q st) (hx : Ext (Val.stH Hs tR tQ rid q st') H) : Rd H tR tQ rid q st' := ⟨h.ne, hx.at (h.stH st').r, hx.at (h.stH st').q⟩
theorem Rd.set2 (h : Rd H tR tQ rid q st) (e : Int) : H.setB q (VB tQ rid e) = Val.stH H tR tQ rid q (st.1, e) := by
  unfold Val.stH HS.set2
  rw [setB_self h.r]
structure VS (Hs : HS) (tR tQ tV : TypeId) (rid q : Nat) (H : HS) (b : HB) (st : DS) : Prop where
  rd : Rd H tR tQ rid q st
  lr : rid < Hs.nb
  lq : q < Hs.nb
  e0 : ∃ a b c d e f, H.blks[Hs.nb]? = some ⟨tV, [a, b, c, d, e, f], false⟩
  e1 : H.blks[Hs.nb + 1]? = some b
  ext : Ext (stH Hs tR tQ rid q st) H
theorem VS.of {H' : HS} (h : VS Hs tR tQ tV rid q H b st) (rd : Rd H' tR tQ rid q st') (he : ∀ k, Hs.nb ≤ k → k ≠ Hs.nb + 1 → H'.blks[k]? = H.blks[k]?) (e1 : H'.blks[Hs.nb + 1]? = some b') (ext : Ext (stH Hs tR tQ rid q st') H') : VS Hs tR tQ tV rid q H' b' st' := by
  obtain ⟨_, lr, lq, ⟨x0, x1, x2, x3, x4, x5, e0⟩, _, _⟩ := h
  exact ⟨rd, lr, lq, ⟨x0, x1, x2, x3, x4, x5, by rw [he _ (Nat.le_refl _) (by omega)]; exact e0⟩, e1, ext⟩
theorem VS.to (h : VS Hs tR tQ tV rid q H b st) (st' : DS) : VS Hs tR tQ tV rid q (stH H tR tQ rid q st') b st' := by
  have hl := h.lr
  have hq := h.lq
  have hne : ∀ k, Hs.nb ≤ k → (stH H tR tQ rid q st').blks[k]? = H.blks[k]? := fun k hk => set2_ne (by omega) (by omega)
  exact h.of (h.rd.stH st') (fun k hk _ => hne k hk) (by rw [hne _ (by omega)]; exact h.e1) (h.ext.set2' h.rd.ne hl hq)
theorem VS.set2 (h : VS Hs tR tQ tV rid q H b st) (e : Int) : VS Hs tR tQ tV rid q (H.setB q (VB tQ rid e)) b (st.1, e) := by
  rw [h.rd.set2 e]; exact h.to _
theorem stH_nb : (stH H tR tQ rid q st).nb = H.nb := set2_nb
theorem VS.lt (h : VS Hs tR tQ tV rid q H b st) : Hs.nb + 1 < H.nb := lt_nb h.e1
theorem VS.push {e : TypeId} {cs : List AV} (h : VS Hs tR tQ tV rid q H b st) : VS Hs tR tQ tV rid q (H.push e cs) b st := by
  obtain ⟨rd, lr, lq, ⟨x0, x1, x2, x3, x4, x5, e0⟩, e1, ext⟩ := h
  exact ⟨⟨rd.ne, push_ne rd.r, push_ne rd.q⟩, lr, lq, ⟨x0, x1, x2, x3, x4, x5, push_ne e0⟩, push_ne e1, ext.push _ _⟩
theorem VS.up {t : Option Nat} {n m : Nat} (h : VS Hs tR tQ tV rid q H b st) (hn : NewTok Hs t) (hok : H.ok t m) : VS Hs tR tQ tV rid q (H.up t n) b st := by
  obtain ⟨rd, lr, lq, ⟨x0, x1, x2, x3, x4, x5, e0⟩, e1, ext⟩ := h
  exact ⟨⟨rd.ne, by rw [HS.up_blks]; exact rd.r, by rw [HS.up_blks]; exact rd.q⟩, lr, lq, ⟨x0, x1, x2, x3, x4, x5, by rw [HS.up_blks]; exact e0⟩, by rw [HS.up_blks]; exact e1, (ext.upN hn hok).1⟩
theorem VS.start (h : Rd Hs tR tQ rid q st) {z0 z1 : List AV} {x0 x1 x2 x3 x4 x5 : AV} (hz : z0 = [x0, x1, x2, x3, x4, x5]) (st' : DS) (b : HB) : VS Hs tR tQ tV rid q ((((stH (Hs.push tV z0) tR tQ rid q st').push tV z1)).setB (Hs.nb + 1) b) b st' := by
  subst hz
  have h1 : Rd (Hs.push tV [x0, x1, x2, x3, x4, x5]) tR tQ rid q st := ⟨h.ne, push_ne h.r, push_ne h.q⟩
  have h2 := h1.stH st'
  have h3 : Rd ((stH (Hs.push tV [x0, x1, x2, x3, x4, x5]) tR tQ rid q st').push tV z1) tR tQ rid q st' := ⟨h.ne, push_ne h2.r, push_ne h2.q⟩
  have hl := lt_nb h.r
  have hq := lt_nb h.q
  have n1 : (Hs.push tV [x0, x1, x2, x3, x4, x5]).nb = Hs.nb + 1 := push_nb
  have n2 : (stH (Hs.push tV [x0, x1, x2, x3, x4, x5]) tR tQ rid q st').nb = Hs.nb + 1 := by rw [stH_nb, n1]
  have e0 : (stH (Hs.push tV [x0, x1, x2, x3, x4, x5]) tR tQ rid q st').blks[Hs.nb]? = some ⟨tV, [x0, x1, x2, x3, x4, x5], false⟩ := by
    rw [show (stH (Hs.push tV [x0, x1, x2, x3, x4, x5]) tR tQ rid q st').blks[Hs.nb]? = (Hs.push tV [x0, x1, x2, x3, x4, x5]).blks[Hs.nb]? from set2_ne (by omega) (by omega)]
    exact push_at
  have hx : Ext (stH Hs tR tQ rid q st') ((stH (Hs.push tV [x0, x1, x2, x3, x4, x5]) tR tQ rid q st').push tV z1) := (((Ext.refl Hs).push _ _).set2 hl hq).push _ _
  refine ⟨⟨h.ne, ?_, ?_⟩, hl, hq, ⟨x0, x1, x2, x3, x4, x5, ?_⟩, ?_, hx.setB (by rw [stH_nb]; omega)⟩
  · rw [setB_ne (by omega)]; exact h3.r
  · rw [setB_ne (by omega)]; exact h3.q
  · rw [setB_ne (by omega)]; exact push_ne e0
  · refine setB_at (b := ⟨tV, z1, false⟩) ?_
    have := push_at (H := stH (Hs.push tV [x0, x1, x2, x3, x4, x5]) tR tQ rid q st') (e := tV) (cs := z1)
    rwa [n2] at this
end
structure GL (Hs H : HS) (v : AV) (t : Option Nat) (sz : Nat) (xs : List DV) : Prop where
  app : App v t sz xs
  ok : H.ok t xs.length
  new : NewTok Hs t
theorem GL.toks {Hs H H' : HS} {v : AV} {t : Option Nat} {sz : Nat} {xs : List DV} (h : GL Hs H v t sz xs) (he : H'.toks = H.toks) : GL Hs H' v t sz xs := ⟨h.app, fun i hi => by rw [he]; exact h.ok i hi, h.new⟩
theorem GL.step {Hs H : HS} {v : AV} {t : Option Nat} {sz m : Nat} {xs ys : List DV} {y : DV} (h : GL Hs H v t sz xs) (hx : Ext Hs H ∨ ∃ l, H.toks = Hs.toks ++ l) (hm : m = xs.length + 1) (hy : ys = xs ++ [y]) : GL Hs (H.up t m) (.own (some (H.tk t)) sz (xs ++ [y])) (some (H.tk t)) sz ys := by
  subst hm hy
  refine ⟨.own _ _ _, ?_, ?_⟩
  · have := HS.ok_up H t (xs.length + 1) h.ok
    rw [List.length_append]
    exact this
  · obtain ⟨l, hl⟩ : ∃ l, H.toks = Hs.toks ++ l := by
      rcases hx with hx | hx
      · exact hx.toks
      · exact hx
    intro i hi
    cases t with
    | none => cases hi; simp [HS.tk, hl]
    | some k => cases hi; exact h.new k rfl
theorem GL.nil (Hs H : HS) (sz : Nat) : GL Hs H nilS none sz [] := ⟨.nil sz, HS.ok_none _ _, NewTok.none _⟩
theorem vC_one (v : V) : ∀ d ∈ vC v, d.one = true := by rw [vC_eq]; simp [DV.one, S, I, TF]
theorem vC_len (v : V) : (vC v).length = 6 := by rw [vC_eq]; rfl
theorem fC_one (f : F) : ∀ d ∈ fC f, d.one = true := by
  rw [fC_eq]
  intro d hd
  rcases List.mem_cons.1 hd with rfl | hd
  · rfl
  · exact vC_one _ _ hd
theorem fC_len (f : F) : (fC f).length = 7 := by rw [fC_eq, List.length_cons, vC_len]
theorem fD_cells (f : F) : (fD f).cells = S f.name :: vC f.val := fC_eq f
theorem vD_cells (v : V) : (vD v).cells = [I v.kind, TF v.yes, .v (.int .i64 v.num), S v.text, .lst 6 (v.list.map vD), .lst 7 (v.fields.map fD)] := vC_eq v
theorem weaks_refl : ∀ l : List AV, Weaks l l
  | [] => .nil
  | _ :: l => .cons (Weak.refl _) (weaks_refl l)
abbrev f0 (t : TypeId) (n : List UInt8) : HB := ⟨t, [.d (S n), .d (I 0), .d (TF false), .d (.v (.int .i64 0)), .d (S []), nilS, nilS], false⟩
abbrev f1 (t : TypeId) (f : F) : HB := ⟨t, (fC f).map .d, false⟩
section
variable {P : Program} [Wins P] {E : Operand → AV} {H : HS} {dst : Option Tmp} {ty : TypeId} {pos : String} {after : Array Edge} {gd : Option (Nat × Bool)}
end
theorem rL_len (f : DS → V × DS) : ∀ (k : Nat) (st : DS), (rL f k st).1.length ≤ k
  | 0, _ => Nat.le_refl _
  | k + 1, st => by
    have ih := rL_len f k st
    simp only [rL]
    split
    · omega
    · simp; omega
theorem rL_stay {f : DS → V × DS} {k : Nat} {st : DS} (h : broke (rL f k st).2 = true) : ∀ m, k ≤ m → rL f m st = rL f k st
  | 0, hm => by have : k = 0 := by omega
                subst this; rfl
  | m + 1, hm => by
    rcases Nat.lt_or_ge m k with hlt | hge
    · have : k = m + 1 := by omega
      subst this; rfl
    · have ih := rL_stay h m hge
      simp only [rL, ih, h, if_true]
theorem rF_len (f : DS → V × DS) : ∀ (k : Nat) (st : DS), (rF f k st).1.length ≤ k
  | 0, _ => Nat.le_refl _
  | k + 1, st => by
    have ih := rF_len f k st
    simp only [rF]
    split
    · omega
    · simp; omega
theorem rF_full (f : DS → V × DS) : ∀ (k : Nat) (st : DS), broke (rF f k st).2 = false → (rF f k st).1.length = k
  | 0, _, _ => rfl
  | k + 1, st, h => by
    simp only [rF] at h ⊢
    split at h
    · rename_i hb; rw [hb] at h; cases h
    · rename_i hb
      rw [if_neg hb]
      simp [rF_full f k st (by simpa using hb)]
theorem rF_stay {f : DS → V × DS} {k : Nat} {st : DS} (h : broke (rF f k st).2 = true) : ∀ m, k ≤ m → rF f m st = rF f k st
  | 0, hm => by have : k = 0 := by omega
                subst this; rfl
  | m + 1, hm => by
    rcases Nat.lt_or_ge m k with hlt | hge
    · have : k = m + 1 := by omega
      subst this; rfl
    · have ih := rF_stay h m hge
      simp only [rF, ih, h, if_true]
end Go.AV.Val
namespace Go.AV.Val
open Go.AV.Ord Go.AV.Oct
section
variable {H Hs : HS} {tR tQ tV : TypeId} {rid q : Nat} {st st' : DS}
theorem Rd.push {e : TypeId} {cs : List AV} (h : Rd H tR tQ rid q st) : Rd (H.push e cs) tR tQ rid q st := ⟨h.ne, push_ne h.r, push_ne h.q⟩
theorem Ext.stH (h : Ext Hs H) (h1 : Hs.nb ≤ rid) (h2 : Hs.nb ≤ q) : Ext Hs (Val.stH H tR tQ rid q st) := (h.setB h1).setB h2
end
end Go.AV.Val
namespace Go.AV.Val
end Go.AV.Val
namespace Go.AV.Val
end Go.AV.Val
namespace Go.AV.Val
open Go.AV.Ord Go.AV.Oct
end Go.AV.Val
namespace Go.AV.Val
open Go.AV.Ord Go.AV.Oct
def only2 (k : Int) (y : Bool) : Bool := if k = 1 then y else false
def only3 (k : Int) (i : Int) : Int := if k = 2 then i else 0
def only4 (k : Int) (tx : List UInt8) : List UInt8 := if k = 3 then tx else []
def wrongV (D : Nat) (k : Int) (y : Bool) (i : Int) (tx : List UInt8) (ls : List V) (fs : List F) : Bool :=
  (y != only2 k y) || (i != only3 k i) || (!(tx == only4 k tx)) || ((k != 4) && decide (0 < (ls.length : Int))) || ((k != 5) && decide (0 < (fs.length : Int))) || decide ((D : Int) < 1)
theorem len_pos {α : Type} (l : List α) : (!(l.isEmpty)) = decide (0 < (l.length : Int)) := by
  cases l with
  | nil => rfl
  | cons a l => simp
theorem wrong_only {D : Nat} {k : Int} {y : Bool} {i : Int} {tx : List UInt8} {ls : List V} {fs : List F} (h0 : 0 ≤ k) (h5 : k ≤ 5) : wrongV D k y i tx ls fs = !(onlyV (.mk k y i tx ls fs) && decide (1 ≤ D)) := by
  have e1 : (y != only2 k y) = !((k == 1) || y == false) := by unfold only2; by_cases h : k = 1 <;> simp [h]
  have e2 : (i != only3 k i) = !((k == 2) || i == 0) := by unfold only3; by_cases h : k = 2 <;> simp [h, bne]
  have e3 : (!(tx == only4 k tx)) = !((k == 3) || tx == []) := by unfold only4; by_cases h : k = 3 <;> simp [h]
  have e4 : decide ((D : Int) < 1) = !decide (1 ≤ D) := by rw [Bool.eq_iff_iff]; simp; omega
  simp only [wrongV, e1, e2, e3, e4, ← len_pos]
  simp only [onlyV, V.kind, V.yes, V.num, V.text, V.list, V.fields, h0, h5, decide_true, Bool.true_and, bne, Bool.not_and, Bool.not_or]
theorem right_wrong {D : Nat} {k : Int} {y : Bool} {i : Int} {tx : List UInt8} {ls : List V} {fs : List F} (h0 : 0 ≤ k) (h5 : k ≤ 5) (h : wrongV D k y i tx ls fs = true) : rightV D (.mk k y i tx ls fs) = false := by
  rw [wrong_only h0 h5] at h
  cases D with
  | zero => rfl
  | succ d =>
    have : onlyV (.mk k y i tx ls fs) = false := by simpa using h
    simp [rightV, this]
theorem right_kind {D : Nat} {k : Int} {y : Bool} {i : Int} {tx : List UInt8} {ls : List V} {fs : List F} (h : k < 0 ∨ 5 < k) : rightV D (.mk k y i tx ls fs) = false := by
  cases D with
  | zero => rfl
  | succ d =>
    have : onlyV (.mk k y i tx ls fs) = false := by
      unfold onlyV
      simp only [V.kind]
      rcases h with h | h
      · simp [show ¬ 0 ≤ k by omega]
      · simp [show ¬ k ≤ 5 by omega]
    simp [rightV, this]
def fieldsOk (d : Nat) (fs : List F) : Bool := rises fs && fs.all (fun f => rightV d f.val)
theorem right_ok {D : Nat} {k : Int} {y : Bool} {i : Int} {tx : List UInt8} {ls : List V} {fs : List F} (h0 : 0 ≤ k) (h5 : k ≤ 5) (h : wrongV D k y i tx ls fs = false) : ∃ d, D = d + 1 ∧ rightV (d + 1) (.mk k y i tx ls fs) = (fieldsOk d fs && ls.all (rightV d)) := by
  rw [wrong_only h0 h5] at h
  have h1 : onlyV (.mk k y i tx ls fs) = true ∧ 1 ≤ D := by simpa using h
  obtain ⟨d, rfl⟩ : ∃ d, D = d + 1 := ⟨D - 1, by omega⟩
  exact ⟨d, rfl, by simp [rightV, h1.1, V.fields, V.list, fieldsOk]⟩
theorem fieldsOk_pre {d : Nat} {fs : List F} {j : Nat} (h : fieldsOk d (fs.take j) = false) : fieldsOk d fs = false := by
  cases ht : fieldsOk d fs with
  | false => rfl
  | true =>
    simp only [fieldsOk, Bool.and_eq_true, List.all_eq_true] at ht
    have h1 : rises (fs.take j) = true := rises_pre (fs.drop j) _ (by rw [List.take_append_drop]; exact ht.1)
    have h2 : fieldsOk d (fs.take j) = true := by
      simp only [fieldsOk, h1, Bool.true_and, List.all_eq_true]
      exact fun x hx => ht.2 x (List.mem_of_mem_take hx)
    rw [h2] at h; cases h
end Go.AV.Val
namespace Go.AV.Val
open Go.AV.Ord Go.AV.Oct
end Go.AV.Val
namespace Go.AV.Val
open Go.AV.Ord Go.AV.Oct
inductive SmallV : V → Prop
  | mk (k : Int) (y : Bool) (n : Int) (t : List UInt8) (l : List V) (fs : List F) (hl : l.length ≤ 1000000) (hf : fs.length ≤ 1000000) (h1 : ∀ x ∈ l, SmallV x) (h2 : ∀ f ∈ fs, SmallV f.val) : SmallV (.mk k y n t l fs)
theorem SmallV.ll {v : V} (h : SmallV v) : v.list.length ≤ 1000000 := by cases h; assumption
theorem SmallV.fl {v : V} (h : SmallV v) : v.fields.length ≤ 1000000 := by cases h; assumption
theorem SmallV.l {v : V} (h : SmallV v) : ∀ x ∈ v.list, SmallV x := by cases h; assumption
theorem SmallV.f {v : V} (h : SmallV v) : ∀ f ∈ v.fields, SmallV f.val := by cases h; assumption
theorem right_only {d : Nat} {v : V} (h : rightV (d + 1) v = true) : onlyV v = true ∧ (∀ f ∈ v.fields, rightV d f.val = true) ∧ (∀ x ∈ v.list, rightV d x = true) ∧ rises v.fields = true := by
  simp only [rightV, Bool.and_eq_true, List.all_eq_true] at h
  exact ⟨h.1.1.1, h.1.2, h.2, h.1.1.2⟩
theorem only_list {v : V} (h : onlyV v = true) : 0 ≤ v.kind ∧ v.kind ≤ 5 ∧ (v.kind ≠ 4 → v.list = []) ∧ (v.kind ≠ 5 → v.fields = []) := by
  unfold onlyV at h
  simp only [Bool.and_eq_true, decide_eq_true_eq, Bool.or_eq_true, beq_iff_eq, List.isEmpty_iff] at h
  obtain ⟨⟨⟨⟨⟨⟨h0, h5⟩, _⟩, _⟩, _⟩, h4⟩, h6⟩ := h
  exact ⟨h0, h5, fun h => h4.resolve_left h, fun h => h6.resolve_left h⟩
theorem small_of : ∀ (d : Nat) (v : V), rightV d v = true → (encV v).length ≤ 1000000 → SmallV v
  | 0, _, h, _ => by simp [rightV] at h
  | d + 1, v, h, hl => by
    obtain ⟨h1, h2, h3, _⟩ := right_only h
    obtain ⟨h0, h5, h4, h6⟩ := only_list h1
    rw [encV_eq] at hl
    have hls : v.list.length ≤ 1000000 ∧ ∀ x ∈ v.list, (encV x).length ≤ 1000000 := by
      by_cases hk : v.kind = 4
      · simp only [hk, show ¬ (4 : Int) = 1 by decide, show ¬ (4 : Int) = 2 by decide, show ¬ (4 : Int) = 3 by decide, if_true, if_false, List.length_cons, List.length_append] at hl
        have hge := flat_ge encV encV_pos v.list
        exact ⟨by omega, fun x hx => by have := flat_mem encV v.list x hx; omega⟩
      · rw [h4 hk]; exact ⟨by simp, fun x hx => by cases hx⟩
    have hfs : v.fields.length ≤ 1000000 ∧ ∀ x ∈ v.fields, (encV x.val).length ≤ 1000000 := by
      by_cases hk : v.kind = 5
      · simp only [hk, show ¬ (5 : Int) = 1 by decide, show ¬ (5 : Int) = 2 by decide, show ¬ (5 : Int) = 3 by decide, show ¬ (5 : Int) = 4 by decide, if_true, if_false, List.length_cons, List.length_append] at hl
        have hge := flat_ge fieldB fieldB_pos v.fields
        exact ⟨by omega, fun x hx => by have := flat_mem fieldB v.fields x hx; simp only [fieldB, List.length_append] at this; omega⟩
      · rw [h6 hk]; exact ⟨by simp, fun x hx => by cases hx⟩
    rw [v.eta]
    exact .mk _ _ _ _ _ _ hls.1 hfs.1 (fun x hx => small_of d x (h3 x hx) (hls.2 x hx)) (fun f hf => small_of d f.val (h2 f hf) (hfs.2 f hf))
end Go.AV.Val
namespace Go.AV.Val
open Go.AV.Ord Go.AV.Oct
def cmpI (a b : Int) : Int := if a < b then -1 else if b < a then 1 else 0
def yesI (b : Bool) : Int := if b then 1 else 0
mutual
def cmpV : V → V → Int
  | .mk k y i t l fs, o => if cmpI k o.kind ≠ 0 then cmpI k o.kind else if k = 1 then cmpI (yesI y) (yesI o.yes) else if k = 2 then cmpI i o.num else if k = 3 then Lib.compareBytes t o.text else if k = 4 then cmpL l o.list else if k = 5 then cmpF fs o.fields else 0
def cmpL : List V → List V → Int
  | [], [] => 0
  | [], _ :: _ => -1
  | _ :: _, [] => 1
  | a :: l, b :: m => if cmpV a b ≠ 0 then cmpV a b else cmpL l m
def cmpF : List F → List F → Int
  | [], [] => 0
  | [], _ :: _ => -1
  | _ :: _, [] => 1
  | .mk n v :: l, g :: m => if (if Lib.compareBytes n g.name ≠ 0 then Lib.compareBytes n g.name else cmpV v g.val) ≠ 0 then (if Lib.compareBytes n g.name ≠ 0 then Lib.compareBytes n g.name else cmpV v g.val) else cmpF l m
end
theorem cmpV_mk (k : Int) (y : Bool) (i : Int) (t : List UInt8) (l : List V) (fs : List F) (o : V) : cmpV (.mk k y i t l fs) o = if cmpI k o.kind ≠ 0 then cmpI k o.kind else if k = 1 then cmpI (yesI y) (yesI o.yes) else if k = 2 then cmpI i o.num else if k = 3 then Lib.compareBytes t o.text else if k = 4 then cmpL l o.list else if k = 5 then cmpF fs o.fields else 0 := by rw [cmpV]
theorem cmpL_cons (a b : V) (l m : List V) : cmpL (a :: l) (b :: m) = if cmpV a b ≠ 0 then cmpV a b else cmpL l m := by rw [cmpL]
theorem cmpL_nn : cmpL [] [] = 0 := by rw [cmpL]
theorem cmpL_nc (b : V) (m : List V) : cmpL [] (b :: m) = -1 := by rw [cmpL]
theorem cmpL_cn (b : V) (m : List V) : cmpL (b :: m) [] = 1 := by rw [cmpL]
section
variable {xs zs : List V} {fs gs : List F} {k : Nat}
end
def ofInt (n : Int) : V := .mk 2 false n [] [] []
theorem small_int (n : Int) : SmallV (ofInt n) := .mk _ _ _ _ _ _ (by decide) (by decide) (fun _ h => by cases h) (fun _ h => by cases h)
theorem cmp_int (a b : Int) : cmpV (ofInt a) (ofInt b) = cmpI a b := by
  unfold ofInt
  rw [cmpV_mk]; rfl
theorem rL_wf {f : DS → V × DS} (hf : ∀ st, WfV (f st).1) : ∀ n st, ∀ x ∈ (rL f n st).1, WfV x
  | 0, _, x, hx => by cases hx
  | n + 1, st, x, hx => by
    simp only [rL] at hx
    split at hx
    · exact rL_wf hf n st x hx
    · rcases List.mem_append.1 hx with h | h
      · exact rL_wf hf n st x h
      · rw [List.mem_singleton.1 h]; exact hf _
theorem rF_wf {f : DS → V × DS} (hf : ∀ st, WfV (f st).1) : ∀ n st, ∀ x ∈ (rF f n st).1, WfV x.val
  | 0, _, x, hx => by cases hx
  | n + 1, st, x, hx => by
    simp only [rF] at hx
    split at hx
    · exact rF_wf hf n st x hx
    · rcases List.mem_append.1 hx with h | h
      · exact rF_wf hf n st x h
      · rw [List.mem_singleton.1 h]; exact hf _
theorem i64_0 : i64 0 := by unfold i64; decide
theorem wf_0 (k : Int) (hk : i64 k) (y : Bool) (t : List UInt8) : WfV (.mk k y 0 t [] []) := .mk _ _ _ _ _ _ hk i64_0 (fun _ h => by cases h) (fun _ h => by cases h)
theorem unzig_i64 {x : Nat} (h : x < 18446744073709551616) : i64 (unzig x) := by
  unfold unzig i64
  split <;> omega
theorem rV_wf : ∀ d st, WfV (rV d st).1
  | 0, st => by
    simp only [rV]
    split <;> exact wf_0 0 i64_0 _ _
  | d + 1, st => by
    simp only [rV]
    split
    · exact wf_0 0 i64_0 _ _
    · have hk : i64 (rKind st).1 := by
        unfold rKind
        split
        · exact i64_0
        · split
          · exact i64_0
          · rename_i c r _ _
            have := c.toNat_lt
            unfold i64; simp only []; omega
      unfold rBody
      split
      · exact wf_0 _ (by unfold i64; decide) _ _
      · split
        · refine .mk _ _ _ _ _ _ (by unfold i64; decide) (unzig_i64 ?_) (fun _ h => by cases h) (fun _ h => by cases h)
          obtain ⟨a, st2, ha⟩ : ∃ a st2, rNum 4294967295 (rKind st).2.1 = (a, st2) := ⟨_, _, rfl⟩
          obtain ⟨b, st3, hb⟩ : ∃ a st3, rNum 4294967295 st2 = (a, st3) := ⟨_, _, rfl⟩
          have h1 := rNum_most ha
          have h2 := rNum_most hb
          simp only [ha, hb]
          omega
        · split
          · exact wf_0 _ (by unfold i64; decide) _ _
          · split
            · exact .mk _ _ _ _ _ _ (by unfold i64; decide) i64_0 (rL_wf (rV_wf d) _ _) (fun _ h => by cases h)
            · split
              · exact .mk _ _ _ _ _ _ (by unfold i64; decide) i64_0 (fun _ h => by cases h) (rF_wf (rV_wf d) _ _)
              · exact wf_0 _ hk _ _
end Go.AV.Val
namespace Go.AV.Val
open Go.AV.Ord Go.AV.Oct
end Go.AV.Val
namespace Go.AV.Val
open Go.AV.Ord Go.AV.Oct
def fewTop (v : V) : Bool := decide (v.list.length ≤ 8) && decide (v.fields.length ≤ 8) && decide (v.text.length ≤ 200)
def fewV : Nat → V → Bool
  | 0, _ => false
  | n + 1, v => fewTop v && v.list.all (fewV n) && v.fields.all fun f => decide (f.name.length ≤ 40) && fewV n f.val
theorem few_parts {n : Nat} {v : V} (h : fewV (n + 1) v = true) : v.list.length ≤ 8 ∧ v.fields.length ≤ 8 ∧ v.text.length ≤ 200 ∧ (∀ x ∈ v.list, fewV n x = true) ∧ (∀ f ∈ v.fields, f.name.length ≤ 40 ∧ fewV n f.val = true) := by
  simp only [fewV, fewTop, Bool.and_eq_true, decide_eq_true_eq, List.all_eq_true] at h
  exact ⟨h.1.1.1.1, h.1.1.1.2, h.1.1.2, h.1.2, h.2⟩
theorem few_small : ∀ (n : Nat) (v : V), fewV n v = true → SmallV v
  | 0, _, h => by simp [fewV] at h
  | n + 1, v, h => by
    obtain ⟨h1, h2, _, h4, h5⟩ := few_parts h
    rw [v.eta]
    exact .mk _ _ _ _ _ _ (by omega) (by omega) (fun x hx => few_small n x (h4 x hx)) (fun f hf => few_small n f.val (h5 f hf).2)
theorem flat_bound {α : Type} (g : α → List UInt8) (b : Nat) : ∀ l : List α, (∀ x ∈ l, (g x).length ≤ b) → (l.flatMap g).length ≤ l.length * b
  | [], _ => by simp
  | x :: l, h => by
    have h1 := flat_bound g b l fun y hy => h y (by simp [hy])
    have h2 := h x (by simp)
    simp only [List.flatMap_cons, List.length_append, List.length_cons, Nat.add_mul, Nat.one_mul]
    omega
theorem numB_small {x : Nat} (h : x ≤ 4294967295) : (numB x).length ≤ 9 := by rw [numB_len]; have := szN_4 h; omega
def fewB : Nat → Nat
  | 0 => 0
  | n + 1 => 8 * fewB n + 700
theorem few_len : ∀ (n : Nat) (v : V), fewV n v = true → WfV v → (encV v).length ≤ fewB n
  | 0, _, h, _ => by simp [fewV] at h
  | n + 1, v, h, hw => by
    obtain ⟨h1, h2, h3, h4, h5⟩ := few_parts h
    have hl := flat_bound encV (fewB n) v.list fun x hx => few_len n x (h4 x hx) (hw.l x hx)
    have hf := flat_bound fieldB (fewB n + 60) v.fields fun f hf => by
      have hh := few_len n f.val (h5 f hf).2 (hw.f f hf)
      have hn := numB_small (x := f.name.length) (by have := (h5 f hf).1; omega)
      have := (h5 f hf).1
      simp only [fieldB, textB, List.length_append]
      omega
    have m1 : v.list.length * fewB n ≤ 8 * fewB n := Nat.mul_le_mul_right _ h1
    have m2 : v.fields.length * (fewB n + 60) ≤ 8 * (fewB n + 60) := Nat.mul_le_mul_right _ h2
    have n1 := numB_small (x := v.list.length) (by omega)
    have n2 := numB_small (x := v.fields.length) (by omega)
    have n3 := numB_small (x := v.text.length) (by omega)
    have hz : zigN v.num < 18446744073709551616 := zig_lt (by have := hw.n; unfold i64 at this; omega) (by have := hw.n; unfold i64 at this; omega)
    have n4 := numB_small (x := zigN v.num / 4294967296) (by omega)
    have n5 := numB_small (x := zigN v.num % 4294967296) (by omega)
    rw [encV_eq]
    simp only [fewB, List.length_cons]
    split
    · simp [flagB]
    · split
      · simp only [intB, List.length_append]; omega
      · split
        · simp only [textB, List.length_append]; omega
        · split
          · simp only [List.length_append]; omega
          · split
            · simp only [List.length_append]; omega
            · simp
def valsV (k : Int) (y : Bool) (i : Int) (tx : List UInt8) (ls : List V) (fs : List F) : Bool := (k == 1 || y == false) && (k == 2 || i == 0) && (k == 3 || tx == []) && (k == 4 || ls.isEmpty) && (k == 5 || fs.isEmpty)
theorem only_vals (k : Int) (y : Bool) (i : Int) (tx : List UInt8) (ls : List V) (fs : List F) : onlyV (.mk k y i tx ls fs) = (decide (0 ≤ k) && decide (k ≤ 5) && valsV k y i tx ls fs) := by
  simp only [onlyV, valsV, V.kind, V.yes, V.num, V.text, V.list, V.fields, Bool.and_assoc]
  rfl
theorem right_novals {D : Nat} {k : Int} {y : Bool} {i : Int} {tx : List UInt8} {ls : List V} {fs : List F} (h : valsV k y i tx ls fs = false) : rightV D (.mk k y i tx ls fs) = false := by
  cases D with
  | zero => rfl
  | succ d =>
    have h1 : onlyV (.mk k y i tx ls fs) = false := by rw [only_vals, h]; simp
    simp only [rightV, h1, Bool.false_and]
theorem few_bad1 {n : Nat} {k : Int} {y : Bool} {i : Int} {tx : List UInt8} {ls : List V} {fs : List F} (h : n = 0 ∨ 8 < ls.length ∨ 8 < fs.length ∨ 200 < tx.length) : fewV n (.mk k y i tx ls fs) = false := by
  cases n with
  | zero => rfl
  | succ n =>
    have : fewTop (.mk k y i tx ls fs) = false := by
      show (decide (ls.length ≤ 8) && decide (fs.length ≤ 8) && decide (tx.length ≤ 200)) = false
      rw [Bool.eq_false_iff]
      intro h1
      simp only [Bool.and_eq_true, decide_eq_true_eq] at h1
      omega
    simp [fewV, this]
end Go.AV.Val
namespace Go.AV.Val
open Go.AV.Ord Go.AV.Oct
theorem small_nest : ∀ n, SmallV (nestV n)
  | 0 => small_int 5
  | n + 1 => .mk _ _ _ _ _ _ (by simp) (by simp) (fun x h => by rcases List.mem_singleton.1 h with rfl; exact small_nest n) (fun _ h => by cases h)
end Go.AV.Val
namespace Go.AV.Val
open Go.AV.Ord Go.AV.Oct
def cmpNs (a b : List Int) : Int := cmpL (a.map ofInt) (b.map ofInt)
theorem cmpNs_sgn : ∀ (a b : List Int), cmpNs a b = -1 ∨ cmpNs a b = 0 ∨ cmpNs a b = 1
  | [], [] => by simp [cmpNs, cmpL_nn]
  | [], _ :: _ => by simp [cmpNs, cmpL_nc]
  | _ :: _, [] => by simp [cmpNs, cmpL_cn]
  | x :: a, y :: b => by
    have ih := cmpNs_sgn a b
    simp only [cmpNs, List.map_cons] at ih ⊢
    rw [cmpL_cons, cmp_int]
    unfold cmpI
    by_cases h1 : x < y
    · simp [h1]
    · by_cases h2 : y < x
      · simp [h1, h2]
      · simpa [h1, h2] using ih
end Go.AV.Val
namespace Go.AV.Val
end Go.AV.Val
namespace Go.AV.Val
open Go.AV.Ord Go.AV.Oct
def putF : List F → F → List F
  | [], f => [f]
  | g :: l, f => if Op.bytesLess g.name f.name then g :: putF l f else if g.name == f.name then f :: l else f :: g :: l
def posF : List F → List UInt8 → Nat
  | [], _ => 0
  | g :: l, n => if Op.bytesLess g.name n then posF l n + 1 else 0
def hasF (l : List F) (n : List UInt8) : Bool := match l[posF l n]? with
  | some g => g.name == n
  | none => false
theorem posF_le : ∀ (l : List F) (n : List UInt8), posF l n ≤ l.length
  | [], _ => Nat.le_refl _
  | g :: l, n => by
    have := posF_le l n
    simp only [posF]
    split
    · simp; omega
    · simp
theorem putF_has : ∀ (l : List F) (f : F), hasF l f.name = true → putF l f = l.set (posF l f.name) f
  | [], f, h => by simp [hasF, posF] at h
  | g :: l, f, h => by
    have ih := putF_has l f
    simp only [hasF, posF, putF] at h ih ⊢
    by_cases h1 : Op.bytesLess g.name f.name = true
    · rw [if_pos h1] at h ⊢
      rw [if_pos h1, List.getElem?_cons_succ] at *
      rw [ih h]; rfl
    · rw [if_neg h1] at h ⊢
      rw [if_neg h1] at *
      simp only [List.getElem?_cons_zero] at h
      rw [if_pos h]; rfl
theorem putF_new : ∀ (l : List F) (f : F), hasF l f.name = false → putF l f = l.take (posF l f.name) ++ f :: l.drop (posF l f.name)
  | [], f, _ => rfl
  | g :: l, f, h => by
    have ih := putF_new l f
    simp only [hasF, posF, putF] at h ih ⊢
    by_cases h1 : Op.bytesLess g.name f.name = true
    · rw [if_pos h1] at h ⊢
      rw [if_pos h1, List.getElem?_cons_succ] at *
      rw [ih h]; rfl
    · rw [if_neg h1] at h ⊢
      rw [if_neg h1] at *
      simp only [List.getElem?_cons_zero] at h
      rw [if_neg (by simp [h])]; rfl
theorem rises_tail {g : F} {l : List F} (h : rises (g :: l) = true) : rises l = true := by
  cases l with
  | nil => rfl
  | cons a l => simp only [rises, Bool.and_eq_true] at h; exact h.2
theorem rises_all : ∀ {g : F} {l : List F}, rises (g :: l) = true → ∀ x ∈ l, Op.bytesLess g.name x.name = true
  | g, a :: l, h, x, hx => by
    have h1 : Op.bytesLess g.name a.name = true := by simp only [rises, Bool.and_eq_true] at h; exact h.1
    rcases List.mem_cons.1 hx with rfl | hx
    · exact h1
    · exact less_trans h1 (rises_all (rises_tail h) x hx)
theorem posF_c1 {a : F} {l : List F} {n : List UInt8} (h : Op.bytesLess a.name n = true) : posF (a :: l) n = posF l n + 1 := by simp [posF, h]
theorem posF_c0 {a : F} {l : List F} {n : List UInt8} (h : ¬ Op.bytesLess a.name n = true) : posF (a :: l) n = 0 := by simp [posF, h]
theorem posF_lt : ∀ {l : List F} {n : List UInt8} {k : Nat} {g : F}, rises l = true → l[k]? = some g → (Op.bytesLess g.name n = true ↔ k < posF l n)
  | a :: l, n, 0, g, _, hk => by
    simp only [List.getElem?_cons_zero, Option.some.injEq] at hk
    subst hk
    by_cases h1 : Op.bytesLess a.name n = true
    · rw [posF_c1 h1]; simp [h1]
    · rw [posF_c0 h1]; simp [h1]
  | a :: l, n, k + 1, g, h, hk => by
    rw [List.getElem?_cons_succ] at hk
    by_cases h1 : Op.bytesLess a.name n = true
    · rw [posF_c1 h1, posF_lt (rises_tail h) hk]; omega
    · rw [posF_c0 h1]
      have h2 := rises_all h g (List.mem_of_getElem? hk)
      exact ⟨fun h3 => absurd (less_trans h2 h3) h1, fun h3 => by omega⟩
theorem cb_byL : ∀ a b : List UInt8, Lib.compareBytes a b = byL a b
  | [], [] => by simp [Lib.compareBytes, byL_self]
  | [], b :: bs => by simp [Lib.compareBytes, byL, Op.bytesLess]
  | a :: as1, [] => by simp [Lib.compareBytes, byL, Op.bytesLess]
  | a :: as1, b :: bs => by
    have ih := cb_byL as1 bs
    simp only [Lib.compareBytes]
    by_cases h1 : a < b
    · rw [if_pos h1]
      have : Op.bytesLess (a :: as1) (b :: bs) = true := by simp [Op.bytesLess, h1]
      rw [byL_lt this]
    · rw [if_neg h1]
      by_cases h2 : b < a
      · rw [if_pos h2]
        have : Op.bytesLess (b :: bs) (a :: as1) = true := by simp [Op.bytesLess, h2]
        rw [byL_gt this]
      · rw [if_neg h2]
        have e : a = b := by
          apply UInt8.toNat_inj.1
          have h3 : ¬ a.toNat < b.toNat := fun h => h1 (UInt8.lt_iff_toNat_lt.2 h)
          have h4 : ¬ b.toNat < a.toNat := fun h => h2 (UInt8.lt_iff_toNat_lt.2 h)
          omega
        subst e
        rw [ih]
        exact (byL_append [a] as1 bs).symm
theorem flat_take' {sz : Nat} : ∀ {ys : List DV}, (∀ y ∈ ys, y.cells.length = sz) → ∀ i, flat (ys.take i) = (flat ys).take (i * sz)
  | [], _, i => by simp [flat]
  | y :: ys, h, 0 => by simp [flat]
  | y :: ys, h, i + 1 => by
    have ih := flat_take' (ys := ys) (fun z hz => h z (by simp [hz])) i
    have hy := h y (by simp)
    have e : flat (y :: ys) = y.cells ++ flat ys := by simp [flat]
    have e2 : flat (y :: ys.take i) = y.cells ++ flat (ys.take i) := by simp [flat]
    rw [List.take_succ_cons, e2, e, ih, show (i + 1) * sz = y.cells.length + i * sz by rw [hy, Nat.add_mul]; omega, List.take_length_add_append]
theorem flat_drop' {sz : Nat} : ∀ {ys : List DV}, (∀ y ∈ ys, y.cells.length = sz) → ∀ i, flat (ys.drop i) = (flat ys).drop (i * sz)
  | [], _, i => by simp [flat]
  | y :: ys, h, 0 => by simp [flat]
  | y :: ys, h, i + 1 => by
    have ih := flat_drop' (ys := ys) (fun z hz => h z (by simp [hz])) i
    have hy := h y (by simp)
    have e : flat (y :: ys) = y.cells ++ flat ys := by simp [flat]
    rw [List.drop_succ_cons, e, ih, show (i + 1) * sz = y.cells.length + i * sz by rw [hy, Nat.add_mul]; omega, List.drop_length_add_append]
def fcells (l : List F) : List AV := (flat (l.map fD)).map .d
theorem fsz (l : List F) : ∀ y ∈ l.map fD, y.cells.length = 7 := by
  intro y hy
  obtain ⟨f, _, rfl⟩ := List.mem_map.1 hy
  exact fC_len f
theorem fcells_take (l : List F) (i : Nat) : fcells (l.take i) = (fcells l).take (i * 7) := by
  rw [fcells, fcells, List.map_take, flat_take' (fsz l), List.map_take]
theorem fcells_drop (l : List F) (i : Nat) : fcells (l.drop i) = (fcells l).drop (i * 7) := by
  rw [fcells, fcells, List.map_drop, flat_drop' (fsz l), List.map_drop]
theorem fcells_append (l m : List F) : fcells (l ++ m) = fcells l ++ fcells m := by
  simp [fcells, flat]
theorem fcells_cons (f : F) (m : List F) : fcells (f :: m) = (fC f).map .d ++ fcells m := by
  simp only [fcells, flat, List.map_cons, List.flatMap_cons, List.map_append]
  rfl
theorem rises_set {l : List F} {k : Nat} {f g : F} (hr : rises l = true) (h : l[k]? = some g) (hn : g.name = f.name) : rises (l.set k f) = true := by
  induction l generalizing k with
  | nil => rfl
  | cons a l ih =>
    cases k with
    | zero =>
      simp only [List.getElem?_cons_zero, Option.some.injEq] at h
      subst h
      cases l with
      | nil => rfl
      | cons b l => simp only [rises, List.set_cons_zero, Bool.and_eq_true] at hr ⊢; rw [← hn]; exact hr
    | succ k =>
      rw [List.getElem?_cons_succ] at h
      have h1 := ih (rises_tail hr) h
      cases l with
      | nil => simp at h
      | cons b l =>
        cases k with
        | zero =>
          simp only [List.getElem?_cons_zero, Option.some.injEq] at h
          subst h
          simp only [rises, List.set_cons_succ, List.set_cons_zero, Bool.and_eq_true] at hr h1 ⊢
          exact ⟨by rw [← hn]; exact hr.1, h1⟩
        | succ k =>
          simp only [rises, List.set_cons_succ, Bool.and_eq_true] at hr h1 ⊢
          exact ⟨hr.1, h1⟩
theorem putF_name {l : List F} {f x : F} (h : x ∈ putF l f) : x = f ∨ x ∈ l := by
  induction l with
  | nil => simp [putF] at h; exact .inl h
  | cons g l ih =>
    simp only [putF] at h
    split at h
    · rcases List.mem_cons.1 h with rfl | h
      · exact .inr (by simp)
      · rcases ih h with h | h
        · exact .inl h
        · exact .inr (by simp [h])
    · split at h
      · rcases List.mem_cons.1 h with rfl | h
        · exact .inl rfl
        · exact .inr (by simp [h])
      · rcases List.mem_cons.1 h with rfl | h
        · exact .inl rfl
        · exact .inr h
theorem rises_cons {g : F} {l : List F} (h1 : ∀ x ∈ l, Op.bytesLess g.name x.name = true) (h2 : rises l = true) : rises (g :: l) = true := by
  cases l with
  | nil => rfl
  | cons a l => simp only [rises, Bool.and_eq_true]; exact ⟨h1 a (by simp), h2⟩
theorem putF_rises {l : List F} (f : F) (h : rises l = true) : rises (putF l f) = true := by
  induction l with
  | nil => rfl
  | cons g l ih =>
    have hall := rises_all h
    simp only [putF]
    split
    · rename_i h1
      refine rises_cons (fun x hx => ?_) (ih (rises_tail h))
      rcases putF_name hx with rfl | hx
      · exact h1
      · exact hall x hx
    · rename_i h1
      split
      · rename_i h2
        have h2 : g.name = f.name := by simpa using h2
        exact rises_cons (fun x hx => by rw [← h2]; exact hall x hx) (rises_tail h)
      · rename_i h2
        have h2 : ¬ g.name = f.name := by simpa using h2
        have h3 : Op.bytesLess f.name g.name = true := by
          rw [less_total h2]; simpa using h1
        exact rises_cons (fun x hx => by
          rcases List.mem_cons.1 hx with rfl | hx
          · exact h3
          · exact less_trans h3 (hall x hx)) h
theorem foldl_rises : ∀ (fs l : List F), rises l = true → rises (fs.foldl putF l) = true
  | [], _, h => h
  | f :: fs, l, h => foldl_rises fs (putF l f) (putF_rises f h)
theorem putF_len (l : List F) (f : F) : (putF l f).length ≤ l.length + 1 := by
  induction l with
  | nil => simp [putF]
  | cons g l ih =>
    simp only [putF]
    split
    · simp; exact ih
    · split <;> simp
theorem foldl_len : ∀ (fs l : List F), (fs.foldl putF l).length ≤ l.length + fs.length
  | [], _ => by simp
  | f :: fs, l => by
    have h1 := foldl_len fs (putF l f)
    have h2 := putF_len l f
    simp only [List.foldl_cons, List.length_cons]
    omega
theorem foldl_mem : ∀ (fs l : List F) (x : F), x ∈ fs.foldl putF l → x ∈ l ∨ x ∈ fs
  | [], _, _, h => .inl h
  | f :: fs, l, x, h => by
    rcases foldl_mem fs (putF l f) x h with h | h
    · rcases putF_name h with rfl | h
      · exact .inr (by simp)
      · exact .inl h
    · exact .inr (by simp [h])
end Go.AV.Val
namespace Go.AV.Val
open Go.AV.Ord Go.AV.Oct
abbrev ArrF (H : HS) (tF : TypeId) (v : AV) (l : List F) : Prop := Arr H tF 7 v l.length (fcells l)
theorem Arr.pos {H : HS} {e : TypeId} {sz n : Nat} {v : AV} {us : List AV} (h : Arr H e sz v n us) (hn : 0 < n) : ∃ id cap cs, v = .arr id n cap ∧ H.blks[id]? = some ⟨e, cs, false⟩ ∧ cs.length = cap * sz ∧ n ≤ cap ∧ cs.take (n * sz) = us := by
  cases h with
  | nil => omega
  | arr id n cap cs us hb hc hnc hu => exact ⟨id, cap, cs, rfl, hb, hc, hnc, hu⟩
theorem Arr.or {H : HS} {e : TypeId} {sz n : Nat} {v : AV} {us : List AV} (h : Arr H e sz v n us) : v = nilS ∨ ∃ id cap, v = .arr id n cap := by
  cases h with
  | nil => exact .inl rfl
  | arr id n cap => exact .inr ⟨id, cap, rfl⟩
theorem Arr.mono {H H' : HS} {e : TypeId} {sz n : Nat} {v : AV} {us : List AV} (h : Arr H e sz v n us) (hk : ∀ id n cap, v = .arr id n cap → H'.blks[id]? = H.blks[id]?) : Arr H' e sz v n us := by
  cases h with
  | nil => exact .nil
  | arr id n cap cs us hb hc hnc hu => exact .arr id n cap cs us (by rw [hk _ _ _ rfl]; exact hb) hc hnc hu
section
variable {P : Program} [Wins P] {E : Operand → AV} {H : HS} {dst : Option Tmp} {ty : TypeId} {pos : String} {after : Array Edge} {gd : Option (Nat × Bool)}
theorem op_lenA {x : Operand} {t e e' : TypeId} {sz n : Nat} {v : AV} {us : List AV} (ht : P.underlying t = some (.slice e')) (hx : E x = v) (h : Arr H e sz v n us) {H' : HS} : OpR P ⟨dst, .call ⟨.builtin .len, #[x], #[t]⟩, ty, pos, after, gd⟩ E H' (Ret (.d (I n)) H') := by
  cases h with
  | nil =>
    refine opR_pure fun c w a hm hops => ?_
    have h1 := hops x (by simp [Op.operands, Call.operands])
    rw [hx] at h1
    exact ⟨.int .i64 0, by simp [execOp, resolve, invoke, builtin, h1.v_eq, Builtin.len_, run_underlying ht, goInt], .d (.v _ rfl)⟩
  | arr => exact op_lenArr ht hx
end
theorem putL_drop : ∀ (vs cs : List AV) (k m : Nat), k + vs.length ≤ m → (putL cs k vs).drop m = cs.drop m
  | [], cs, k, m, _ => rfl
  | v :: vs, cs, k, m, h => by
    simp only [List.length_cons] at h
    show (putL (cs.set k v) (k + 1) vs).drop m = _
    rw [putL_drop vs (cs.set k v) (k + 1) m (by omega), List.drop_set_of_lt (by omega)]
theorem putL_eq {cs vs : List AV} {k : Nat} (h : k + vs.length ≤ cs.length) : putL cs k vs = cs.take k ++ (vs ++ cs.drop (k + vs.length)) := by
  rw [← List.append_assoc, ← putL_take vs cs k h, ← putL_drop vs cs k (k + vs.length) (Nat.le_refl _), List.take_append_drop]
theorem set_cells {cs : List AV} {l : List F} {k : Nat} {f g : F} (hu : cs.take (l.length * 7) = fcells l) (h : l[k]? = some g) (hl : l.length * 7 ≤ cs.length) : (putL cs (k * 7) ((fC f).map .d)).take ((l.set k f).length * 7) = fcells (l.set k f) := by
  have hk : k < l.length := (List.getElem?_eq_some_iff.1 h).1
  have e : l.set k f = l.take k ++ f :: l.drop (k + 1) := by rw [List.set_eq_take_append_cons_drop, if_pos hk]
  have hx : ((fC f).map AV.d).length = 7 := by rw [List.length_map, fC_len]
  rw [List.length_set, e, fcells_append, fcells_cons, fcells_take, fcells_drop, ← hu]
  rw [putL_eq (by rw [hx]; omega), hx]
  rw [List.take_take, Nat.min_eq_left (by omega)]
  have hA : (cs.take (k * 7)).length = k * 7 := by rw [List.length_take]; omega
  rw [List.take_append, hA, List.take_of_length_le (show (cs.take (k * 7)).length ≤ l.length * 7 by rw [hA]; omega), List.take_append, hx, List.take_of_length_le (show ((fC f).map AV.d).length ≤ l.length * 7 - k * 7 by rw [hx]; omega), List.drop_take]
  rw [show k * 7 + 7 = (k + 1) * 7 by omega, show l.length * 7 - k * 7 - 7 = l.length * 7 - (k + 1) * 7 by omega]
structure InsR (Hs : HS) (tF : TypeId) (v : AV) (l : List F) (av : AV) (H' : HS) : Prop where
  arr : ArrF H' tF av l
  kept : Kept Hs H' v
  new : ∀ id n c, av = .arr id n c → Hs.nb ≤ id ∨ ∃ n c, v = .arr id n c
end Go.AV.Val
namespace Go.AV.Val
open Go.AV.Ord Go.AV.Oct
theorem Arr.idlt {H : HS} {e : TypeId} {sz n : Nat} {v : AV} {us : List AV} (h : Arr H e sz v n us) {id m c : Nat} (hv : v = .arr id m c) : id < H.nb := by
  cases h with
  | nil => cases hv
  | arr id n cap cs us hb hc hnc hu => cases hv; exact lt_nb hb
theorem ArrF.set {H : HS} {tF : TypeId} {id cap k : Nat} {cs : List AV} {l : List F} {x g : F} (hb : H.blks[id]? = some ⟨tF, cs, false⟩) (hc : cs.length = cap * 7) (hcap : l.length ≤ cap) (hu : cs.take (l.length * 7) = fcells l) (hg : l[k]? = some g) :
    ArrF (H.setB id ⟨tF, putL cs (k * 7) ((fC x).map .d), false⟩) tF (.arr id l.length cap) (l.set k x) := by
  have h := Arr.arr (H := H.setB id ⟨tF, putL cs (k * 7) ((fC x).map .d), false⟩) (e := tF) (sz := 7) id (l.set k x).length cap _ _ (setB_at hb) (by rw [putL_length]; exact hc) (by rw [List.length_set]; exact hcap) rfl
  rw [set_cells (f := x) hu hg (by omega)] at h
  unfold ArrF
  rw [show AV.arr id l.length cap = .arr id (l.set k x).length cap by rw [List.length_set]]
  exact h
section
variable {P : Program} [Wins P] {T : List AV} {H : HS} {dst : Option Tmp} {ty : TypeId} {pos : String} {after : Array Edge} {gd : Option (Nat × Bool)}
end
end Go.AV.Val
namespace Go.AV
open Go.RowKit
section
variable {P : Program} [Wins P] {E : Operand → AV} {H : HS} {dst : Option Tmp} {ty : TypeId} {pos : String} {after : Array Edge} {gd : Option (Nat × Bool)}
theorem equalIn_slice0 (w : World) (d : Nat) {t el : TypeId} (ht : P.underlying t = some (.slice el)) (a : Option Addr) (n c : Nat) : (Op.equalIn (d + 1) t (.slice a n c) (.slice none 0 0)).run P w = .ok a.isNone w := by
  cases a <;> simp [Op.equalIn, run_underlying ht]
theorem op_nilL {x y : Operand} {t t' el : TypeId} {sz : Nat} {xs : List DV} (ht : P.underlying t = some (.slice el)) (hx : LL (E x) sz xs) (hy : E y = nilS) :
    OpR P ⟨dst, .binOp .eql t x y t', ty, pos, after, gd⟩ E H (fun av H' => ∃ b, av = .d (TF b) ∧ (b = true → xs = []) ∧ H = H') :=
  opR_value fun B w0 c w a hI hops => by
    have h1 := hops x (by simp [Op.operands])
    have h2 := hops y (by simp [Op.operands])
    rw [hy] at h2
    obtain ⟨ad, n, cap, e, hr⟩ := hx.rep h1
    have hb : (binOp .eql t (.slice ad n cap) (.slice none 0 0)).run P w = .ok (.bool ad.isNone) w := by
      simp only [binOp]
      simp [Op.equal, Op.maxDepth, equalIn_slice0 w 9999 ht]
    refine ⟨.bool ad.isNone, w, c, .d (TF ad.isNone), H, ?_, Le.refl c, .d (.v _ rfl), hI, ad.isNone, rfl, fun h => ?_, rfl⟩
    · simp [execOp, e, h2.v_eq, eqGuard, hb]
    · cases hr with
      | lst => cases h
      | lstE => rfl
def clT (H : HS) : List DV → Option Nat
  | [] => none
  | _ :: _ => some (H.tk none)
def clH (H : HS) : List DV → HS
  | [] => H
  | x :: xs => H.up none (x :: xs).length
theorem clOk (H : HS) (xs : List DV) : (clH H xs).ok (clT H xs) xs.length := by
  cases xs with
  | nil => exact HS.ok_none _ _
  | cons x xs => exact HS.ok_up H none _ (HS.ok_none H 0)
theorem clH_blks (H : HS) (xs : List DV) : (clH H xs).blks = H.blks := by
  cases xs with
  | nil => rfl
  | cons x xs => simp [clH, HS.up_blks]
theorem clExt {B H : HS} (h : Ext B H) (xs : List DV) : Ext B (clH H xs) := by
  cases xs with
  | nil => exact h
  | cons x xs => exact h.new _
theorem clNew {B H : HS} (h : Ext B H) (xs : List DV) : NewTok B (clT H xs) := by
  obtain ⟨l, hl⟩ := h.toks
  cases xs with
  | nil => exact NewTok.none _
  | cons x xs => intro i hi; cases hi; simp [HS.tk, hl]
end
end Go.AV
namespace Go.AV
open Go.RowKit
section
variable {P : Program} [Wins P] {E : Operand → AV} {H : HS} {dst : Option Tmp} {ty : TypeId} {pos : String} {after : Array Edge} {gd : Option (Nat × Bool)}
end
theorem ACalls.tidyP2 {P : Program} [Wins P] {f : FuncId} {args : List AV} {H : HS} {m : List DV} {ed : DV} (h1 : ∀ d ∈ m, d.one = true)
    (h : ACalls P f args H fun av H' => Ext H H' ∧ ∃ l, av = .tup [.agg l, .d ed] ∧ (Weaks l (m.map .d) ∨ ∃ id n cap sz xs b, H.nb ≤ id ∧ H'.blks[id]? = some b ∧ b.cs.take (flat xs).length = (flat xs).map .d ∧ (flat xs).length ≤ b.cs.length ∧ xs.length = n ∧ n ≤ cap ∧ (∀ x ∈ xs, x.cells.length = sz) ∧ (∀ d ∈ flat xs, d.one = true) ∧ Becomes id n cap sz xs l m)) :
    ACalls P f args H (Ret (.tup [.d (.agg m), .d ed]) H) := by
  intro B w0 c w t vs hI hB hs ha kind cs hk hn
  refine h B w0 c w t vs hI hB hs ha kind cs hk ?_
  rintro v w' c' av H' t' fr q1 q2 q3 hB' ⟨⟨⟨l1, h5⟩, ⟨l2, h6⟩, hmm, hxx⟩, l, rfl, hl⟩ hL
  have hcut : H'.cut H.blks.length H.toks.length = H := by
    cases H
    simp only [HS.cut, h5, h6, List.take_left, hmm, hxx]
  have hfit : ∀ i b, i < H.blks.length → H'.blks[i]? = some b → ∀ j (hj : j < b.cs.length), Fits H.blks.length H.toks.length b.cs[j] := fun i b hi hb j hj => by
    have hb' : H.blks[i]? = some b := by rw [h5, List.getElem?_append_left (by omega)] at hb; exact hb
    have hlt : i < c.blk.length := by rw [hI.blkLen]; exact hi
    obtain ⟨_, _, cur, fr, _, _, _, q⟩ := hI.blk i _ b (List.getElem?_eq_getElem hlt) hb'
    have := (q j hj).fits
    rwa [hI.blkLen, hI.tokLen] at this
  have hmfit : MFits H.blks.length H.toks.length H' := fun i ps asg bd st pend T hm => hI.mfits i ps asg bd st pend T (hmm ▸ hm)
  have hblk : ∀ (i g : Nat), c.blk[i]? = some g → (c'.blk.take H.blks.length)[i]? = some g := fun i g hi => by
    have : i < c.blk.length := (List.getElem?_eq_some_iff.1 hi).1
    rw [List.getElem?_take, if_pos (by have := hI.blkLen; omega)]
    exact q1.blk i g hi
  have htok : ∀ (i : Nat) (e : Tok), c.tok[i]? = some e → ∃ e' : Tok, (c'.tok.take H.toks.length)[i]? = some e' ∧ (e' = e ∨ e.mark < e'.mark) := fun i e he => by
    have : i < c.tok.length := (List.getElem?_eq_some_iff.1 he).1
    obtain ⟨e', q1, q2⟩ := q1.tok i e he
    refine ⟨e', ?_, q2⟩
    rw [List.getElem?_take, if_pos (by have := hI.tokLen; omega)]
    exact q1
  have hv2 : ∃ u0 u1 : Value, v = .tuple #[u0, u1] ∧ Rep c' u0 (.agg l) ∧ Rep c' u1 (.d ed) := by
    generalize ha : AV.tup [AV.agg l, .d ed] = av at q2
    cases q2 with
    | tup us cs hl hr =>
      cases ha
      obtain ⟨ul⟩ := us
      match ul, hl with
      | [u0, u1], _ => exact ⟨u0, u1, rfl, hr 0 (by simp), hr 1 (by simp)⟩
    | _ => cases ha
  obtain ⟨u0, u1, rfl, q2a, q2b⟩ := hv2
  have hv : ∃ us : Array Value, u0 = .agg us ∧ us.size = l.length ∧ ∀ i (hi : i < l.length), Rep c' (us.getD i undef) l[i] := by
    generalize ha : AV.agg l = av at q2a
    cases q2a with
    | agg us cs hl hr => cases ha; exact ⟨us, rfl, hl, hr⟩
    | _ => cases ha
  obtain ⟨us, rfl, hul, hur⟩ := hv
  have two : ∀ {k : Ctx}, Rep k (.agg us) (.d (.agg m)) → Rep k u1 (.d ed) → Rep k (.tuple #[.agg us, u1]) (.tup [.d (.agg m), .d ed]) := fun h1 h2 => .tup _ _ rfl fun i hi => by
    match i, hi with
    | 0, _ => exact h1
    | 1, _ => exact h2
  rcases hl with hw | ⟨id, n, cap, sz, xs, b, hid, hb, hd, hlen, hxn, hnc, hsz, hone, hbec⟩
  · have i1 := q3.cut H.blks.length H.toks.length hfit hmfit
    rw [hcut] at i1
    refine hn (.tuple #[.agg us, u1]) w' (c'.cut H.blks.length H.toks.length) (.tup [.d (.agg m), .d ed]) H t' fr ⟨q1.mem, hblk, htok, q1.maps, q1.me⟩ (two (.d (.agg us m (by rw [hul, hw.len, List.length_map]) h1 fun i hi => ?_)) (.d (q2b.d_inv.mono (fun _ _ _ h => h)))) i1 hB' ⟨rfl, rfl⟩ hL
    have := hw.get c' (fun i => us.getD i undef) hur i (by rw [List.length_map]; exact hi)
    rw [List.getElem_map] at this
    exact this.d_inv.mono (fun _ _ _ h => h)
  · have hidl : id < c'.blk.length := by rw [q3.blkLen]; exact (List.getElem?_eq_some_iff.1 hb).1
    obtain ⟨vals, i1, m1, m2, m3⟩ := q3.protect id _ b (List.getElem?_eq_getElem hidl) hb H.blks.length H.toks.length hid hfit hmfit (flat xs) hd hlen
    rw [hcut] at i1
    refine hn (.tuple #[.agg us, u1]) w' ((c'.cut H.blks.length H.toks.length).prot c'.blk[id] (flat xs).length vals) (.tup [.d (.agg m), .d ed]) H t' fr ⟨fun g o u hm => m1 g o u (q1.mem g o u hm), hblk, htok, q1.maps, q1.me⟩ (two (.d (.agg us m (by rw [hul, hbec.len]) h1 ?_)) (.d (q2b.d_inv.mono m1))) i1 (hB'.mono m1 fun _ h => h) ⟨rfl, rfl⟩ hL
    refine hbec.get (c := c') m1 (fun y hy => ?_) (fun i => us.getD i undef) hur
    obtain ⟨g, hg, rfl⟩ := arr_val hy
    rw [List.getElem?_eq_getElem hidl] at hg
    cases hg
    exact .lst _ 0 n cap sz xs vals hxn hnc hsz hone (fun i hi => by rw [Nat.zero_add]; exact m2 i hi) (fun i hi => (m3 i hi).mono m1)
end Go.AV
