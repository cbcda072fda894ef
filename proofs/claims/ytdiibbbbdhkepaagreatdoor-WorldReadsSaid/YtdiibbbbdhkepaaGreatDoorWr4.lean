/- Part 4 of what the law needs: StpD, WWorldReads, A18, ValAV, ValBits, ValAV2, ValCmp, ValFew, ValLaw, MapPlain, MapAV, A19, A20, A21, A22, A25, R1, R2, E0, EF, EG. -/
import Derived.Test.YtdiibbbbdhkepaaGreatDoorWr3
import Derived.KernelRfl
import Derived.Lib.Bytealg
import Derived.Lib.Overlaps
import Derived.Lib.AppendZerosOnto
import Derived.Maps.RangeRun
import Derived.MapKept
import Derived.RangeFuncLeaves
import Derived.RangeFuncRecord
import Derived.RangeFuncIn
set_option linter.unusedSectionVars false
set_option linter.unusedVariables false
set_option linter.unusedSimpArgs false
namespace Go.Proofs.YtdiibbbbdhkepaaGreatDoor
open Go.AV Go.AV.Ord Go.AV.Oct Go.AV.Stp
set_option linter.unusedVariables false
set_option linter.unusedSimpArgs false
variable [Wins Tryz.prog]
set_option maxRecDepth 100000 in
theorem wdec_ok (Hs : HS) (s : List UInt8) : ACalls Tryz.prog 8 [.d (S s)] Hs (Ret (.tup [.d (.lst 5 ((decR s).map stD)), .d (I (decE s))]) Hs) := by
 refine ACalls.tidyT (xs := [.lst 5 ((decR s).map stD), I (decE s)]) ?_
 suffices h : ACalls Tryz.prog 8 [.d (S s)] Hs (fun av H' => ∃ x, av = .tup [x, .d (I (decE s))] ∧ Weak x (.d (.lst 5 ((decR s).map stD))) ∧ Ext Hs H') from h.weak fun v H' ⟨x, h1, h2, h3⟩ => ⟨_, by rw [h1]; exact Weak.tup (.cons h2 (.cons (Weak.refl _) .nil)), rfl, h3⟩
 obtain ⟨q, st0, hq⟩ : ∃ q st0, num0 s = (q, st0) := ⟨_, _, rfl⟩
 have hq1 : rNum 10000 (s, false) = (q, st0) := hq
 have hql : q ≤ 10000 := by have := num0_le s; rw [hq] at this; exact this
 refine acalls_of_aw Tryz.func8 rfl ?_
 refine aw_start (T' := [.d (S s), .un, .un, .un, .un, .un, .un, .un, .un, .un, .un, .un, .un, .un, .un, .un, .un, .un, .un, .un, .un, .un, .un, .un, .un, .un, .un, .un, .un, .un, .un, .un, .un, .un, .un, .un, .un, .un, .un, .un, .un, .un, .un, .un, .un, .un, .un, .un, .un, .un, .un]) rfl ?_
 refine aw_seq ?_
 refine aw_region ?_
 refine zst (op_assign_const (by rfl)) rfl (by dsimp only [zS, zN, zH, zT]) ?_
 refine zst (op_assign_const (by rfl)) rfl (by dsimp only [zS, zN, zH, zT]) ?_
 refine al_end rfl ?_
 refine then_normal ?_
 refine aw_seq ?_
 refine aw_region ?_
 refine zst (op_move_tmp (by rfl)) rfl (by dsimp only [zS, zN, zH, zT]) ?_
 refine zst (op_callF Tryz.func15 (by rfl) (by rfl) (.tmp (by rfl) .nil) (read_ok _ s)) rfl (by dsimp only [zS, zN, zH, zT]) ?_
 refine zst (op_assign_tmp (by rfl)) rfl (by dsimp only [zS, zN, zH, zT]) ?_
 refine al_end rfl ?_
 refine then_normal ?_
 refine aw_seq ?_
 refine aw_region ?_
 refine zst (op_assign_const (by rfl)) rfl (by dsimp only [zS, zN, zH, zT]) ?_
 refine al_end rfl ?_
 refine then_normal ?_
 refine aw_seq ?_
 apply aw_cutF (fun T H => ∃ (v : AV) (t : Option Nat), T = [.un, .un, .un, .un, .ptr Hs.nb 0, v, .un, .un, .un, .un, .d (I q), .d (I 0), .un, .un, .un, .un, .un, .un, .un, .un, .un, .un, .un, .un, .un, .un, .un, .un, .un, .un, .un, .un, .un, .un, .un, .un, .un, .un, .un, .un, .un, .un, .un, .un, .un, .un, .un, .un, .un, .un, .un] ∧ DecO Hs 78 H v t [] st0)
 ·
  refine aw_region ?_
  refine zst (op_move_tmp (by rfl)) rfl (by dsimp only [zS, zN, zH, zT]) ?_
  refine zst (op_callF Tryz.func16 (by rfl) (by rfl) (.tmp (by rfl) (.const (by rfl) .nil)) ((by have h := num_ok (Hs.push 78 [.d (S s), .d (TF false)]) Hs.nb s false 10000 push_at (by decide); rw [hq1] at h; dsimp only at h; exact h))) rfl (by dsimp only [zS, zN, zH, zT]) ?_
  refine zst (op_move_const (by rfl)) rfl (by dsimp only [zS, zN, zH, zT]) ?_
  refine al_end rfl ?_
  apply cut_to [false, false, false, false, true, true, false, false, false, false, true, true, false, false, false, false, false, false, false, false, false, false, false, false, false, false, false, false, false, false, false, false, false, false, false, false, false, false, false, false, false, false, false, false, false, false, false, false, false, false, false]
  · (try dsimp only [maskT]); try exact rfl
  · rfl
  exact ⟨nilS, none, rfl, DecO.start Hs 78 _ st0⟩
 rintro T H ⟨v, t, rfl, ho⟩
 refine aw_block ?_
 apply aw_loopF (fun n T H => ∃ (k : Nat) (v : AV) (t : Option Nat), T = [.un, .un, .un, .un, .ptr Hs.nb 0, v, .un, .un, .un, .un, .d (I q), .d (I k), .un, .un, .un, .un, .un, .un, .un, .un, .un, .un, .un, .un, .un, .un, .un, .un, .un, .un, .un, .un, .un, .un, .un, .un, .un, .un, .un, .un, .un, .un, .un, .un, .un, .un, .un, .un, .un, .un, .un] ∧ k ≤ q ∧ n = q - k ∧ DecO Hs 78 H v t (rSts k st0).1 (rSts k st0).2 ∧ (0 < k → okK k st0 = true)) (q) [false, false, false, false, true, true, false, false, false, false, true, true, false, false, false, false, false, false, false, false, false, false, false, false, false, false, false, false, false, false, false, false, false, false, false, false, false, false, false, false, false, false, false, false, false, false, false, false, false, false, false]
 · (try dsimp only [maskT]); try exact rfl
 · rfl
 · exact ⟨0, _, _, rfl, by omega, rfl, ho, fun h => absurd h (by decide)⟩
 rintro n T H ⟨k, v, t, rfl, hk, rfl, ho, hg⟩
 refine aw_seq ?_
 refine aw_region ?_
 refine zst (op_ltI (by rfl) (by rfl)) rfl (by dsimp only [zS, zN, zH, zT]) ?_
 refine al_end rfl ?_
 refine then_normal ?_
 refine aw_seq ?_
 refine aw_cond rfl (fun hc1 => ?_) (fun hc1 => ?_)
 ·
  (try simp only [y1, y2, y3, y4, y5, y6, y7, y8, y9, y0, List.length_map] at hc1)
  have hlt : k < q := by omega
  have hlt2 := ho.lt
  have hlx := rSts_len k st0
  have hknl := kn_le (rSts k st0).2
  obtain ⟨sid, hsid⟩ : ∃ s, s = H.nb := ⟨_, rfl⟩
  refine aw_skip ?_
  refine then_normal ?_
  refine aw_seq ?_
  refine aw_block ?_
  refine aw_seq ?_
  refine aw_region ?_
  refine zst (op_move_tmp (by rfl)) rfl (by dsimp only [zS, zN, zH, zT]) ?_
  refine zst (op_callF Tryz.func16 (by rfl) (by rfl) (.tmp (by rfl) (.const (by rfl) .nil)) (num_ok _ _ (rSts k st0).2.1 (rSts k st0).2.2 7 ho.rd (by decide))) rfl (by dsimp only [zS, zN, zH, zT]) ?_
  refine zst (op_move_tmp (by rfl)) rfl (by dsimp only [zS, zN, zH, zT]) ?_
  refine zst (op_callF Tryz.func16 (by rfl) (by rfl) (.tmp (by rfl) (.const (by rfl) .nil)) (num_ok _ _ _ _ 16 (setB_at ho.rd) (by decide))) rfl (by dsimp only [zS, zN, zH, zT]) ?_
  refine zst (op_move_tmp (by rfl)) rfl (by dsimp only [zS, zN, zH, zT]) ?_
  refine zst (op_callF Tryz.func16 (by rfl) (by rfl) (.tmp (by rfl) (.const (by rfl) .nil)) (num_ok _ _ _ _ 1099511627776 (setB_at (setB_at ho.rd)) (by decide))) rfl (by dsimp only [zS, zN, zH, zT]) ?_
  refine zst (op_move_tmp (by rfl)) rfl (by dsimp only [zS, zN, zH, zT]) ?_
  refine zst (op_callF Tryz.func17 (by rfl) (by rfl) (.tmp (by rfl) (.const (by rfl) .nil)) (rtext_ok _ _ _ _ 20000 (setB_at (setB_at (setB_at ho.rd))) (by decide))) rfl (by dsimp only [zS, zN, zH, zT]) ?_
  refine zst (op_buildD (pl := [(0, 1), (1, 1), (2, 1), (3, 1), (4, 1)]) [I (rSt (rSts k st0).2).1.kind, I (rSt (rSts k st0).2).1.sess, I (rSt (rSts k st0).2).1.n, S (rSt (rSts k st0).2).1.text, .v (.slice none 0 0)] Tryz.underlying28 Zr28 (by kernel_rfl) (by rfl) (by rfl) (by rfl) (by simp [DV.one, S, I])) rfl (by dsimp only [zS, zN, zH, zT]) ?_
  refine zst (op_alloc (Zr28) (by rfl)) rfl (by dsimp only [zS, zN, zH, zT]) ?_
  refine zst (op_storeB (vs := [.d (I (rSt (rSts k st0).2).1.kind), .d (I (rSt (rSts k st0).2).1.sess), .d (I (rSt (rSts k st0).2).1.n), .d (S (rSt (rSts k st0).2).1.text), nilS]) (b' := stepH 28 (rSt (rSts k st0).2).1 nilS) (H' := _) Sz28 (by rfl) push_at (by intro h; cases h) (by rfl) (by rfl) (Nat.le_of_ble_eq_true rfl) (by simp [AV.one, DV.one, TF, S, I, BY]) (by rfl) (by rfl) rfl) rfl (by dsimp only [zS, zN, zH, zT]) ?_
  refine al_end rfl ?_
  refine then_normal ?_
  refine aw_seq ?_
  apply aw_cutF (fun T H => ∃ (u : Unit), T = [.un, .un, .un, .un, .ptr Hs.nb 0, v, .ptr sid 0, .un, .un, .un, .d (I q), .d (I k), .un, .un, .un, .un, .un, .un, .un, .un, .un, .un, .un, .d (I (kn (rSts k st0).2)), .d (I 0), .un, .un, .un, .un, .un, .un, .un, .un, .un, .un, .un, .un, .un, .un, .un, .un, .un, .un, .un, .un, .un, .un, .un, .un, .un, .un] ∧ DecI Hs 78 28 H sid (rSt (rSts k st0).2).1 nilS none [] v t (rSts k st0).1 (kst (rSts k st0).2))
  ·
   refine aw_region ?_
   refine zst (op_move_tmp (by rfl)) rfl (by dsimp only [zS, zN, zH, zT]) ?_
   refine zst (op_callF Tryz.func16 (by rfl) (by rfl) (.tmp (by rfl) (.const (by rfl) .nil)) (num_ok _ _ _ _ 16 (by rw [setB_ne (by simp only [setB_nb]; omega)]; exact push_ne (setB_at (setB_at (setB_at (setB_at ho.rd))))) (by decide))) rfl (by dsimp only [zS, zN, zH, zT]) ?_
   refine zst (op_move_const (by rfl)) rfl (by dsimp only [zS, zN, zH, zT]) ?_
   refine al_end rfl ?_
   apply cut_to [false, false, false, false, true, true, true, false, false, false, true, true, false, false, false, false, false, false, false, false, false, false, false, true, true, false, false, false, false, false, false, false, false, false, false, false, false, false, false, false, false, false, false, false, false, false, false, false, false, false, false]
   · (try dsimp only [maskT]); try exact rfl
   · rfl
   exact ⟨(), by (simp only [setB_nb, hsid]) <;> rfl, DecI.start ho hsid (by simp only [setB_nb])⟩
  rintro T H ⟨u, rfl, hi⟩
  refine aw_block ?_
  apply aw_loopF (fun n T H => ∃ (j : Nat) (kv : AV) (kt : Option Nat), T = [.un, .un, .un, .un, .ptr Hs.nb 0, v, .ptr sid 0, .un, .un, .un, .d (I q), .d (I k), .un, .un, .un, .un, .un, .un, .un, .un, .un, .un, .un, .d (I (kn (rSts k st0).2)), .d (I j), .un, .un, .un, .un, .un, .un, .un, .un, .un, .un, .un, .un, .un, .un, .un, .un, .un, .un, .un, .un, .un, .un, .un, .un, .un, .un] ∧ j ≤ kn (rSts k st0).2 ∧ n = kn (rSts k st0).2 - j ∧ DecI Hs 78 28 H sid (rSt (rSts k st0).2).1 kv kt (rKeeps j (kst (rSts k st0).2)).1 v t (rSts k st0).1 (rKeeps j (kst (rSts k st0).2)).2) (kn (rSts k st0).2) [false, false, false, false, true, true, true, false, false, false, true, true, false, false, false, false, false, false, false, false, false, false, false, true, true, false, false, false, false, false, false, false, false, false, false, false, false, false, false, false, false, false, false, false, false, false, false, false, false, false, false]
  · (try dsimp only [maskT]); try exact rfl
  · rfl
  · exact ⟨0, _, _, rfl, by omega, rfl, hi⟩
  rintro n T H ⟨j, kv, kt, rfl, hj, rfl, hi⟩
  have hne : sid ≠ Hs.nb := by have := hi.slt; omega
  have hlj := rKeeps_len j (kst (rSts k st0).2)
  refine aw_seq ?_
  refine aw_region ?_
  refine zst (op_ltI (by rfl) (by rfl)) rfl (by dsimp only [zS, zN, zH, zT]) ?_
  refine al_end rfl ?_
  refine then_normal ?_
  refine aw_seq ?_
  refine aw_cond rfl (fun hc2 => ?_) (fun hc2 => ?_)
  ·
   (try simp only [y1, y2, y3, y4, y5, y6, y7, y8, y9, y0, List.length_map] at hc2)
   have hlt3 : j < kn (rSts k st0).2 := by omega
   refine aw_skip ?_
   refine then_normal ?_
   refine aw_seq ?_
   refine aw_block ?_
   refine aw_drawX (fun K => K.blks[sid]? = some (stepH 28 (rSt (rSts k st0).2).1 kv)) [0, 0, 0, 2, 0, 2, 0, 2] mixed (by kernel_rfl) (hi.sb) (.inr (by kernel_rfl)) ?_
   apply drun0X
   · intro H hPhi; first | exact op_fieldAddr_ptr Tryz.underlying28 rfl Sz26 (by rfl) (by rfl) | exact op_fieldAddr_elt Tryz.underlying28 rfl Sz26 (by rfl) (by rfl) (by rfl)
   · rfl
   apply drun_normT
   · (try dsimp only [zS, zN, zH, zT]); try exact rfl
   apply drun0X
   · intro H hPhi; first | exact op_load_elt Tryz.underlying26 (by rfl) (by rfl) (by rfl) | exact op_load_ptr Tryz.underlying26 (by rfl) (by rfl) (by first | exact hPhi | exact hi.sb) (by rfl)
   · rfl
   apply drun_normT
   · (try dsimp only [zS, zN, zH, zT]); try exact rfl
   apply drun0X
   · intro H hPhi; exact op_move_tmp (by rfl)
   · rfl
   apply drun_normT
   · (try dsimp only [zS, zN, zH, zT]); try exact rfl
   apply drun2X
   · exact op_callF Tryz.func16 (by rfl) (by rfl) (.tmp (by rfl) (.const (by rfl) .nil)) (num_ok _ _ (rKeeps j (kst (rSts k st0).2)).2.1 (rKeeps j (kst (rSts k st0).2)).2.2 1048576 hi.rd (by decide))
   · rfl
   · refine .inr ?_; simp only [HS.up_blks, setB_ne (show sid ≠ Hs.nb from hne)]; exact hi.sb
   apply drun_normT
   · (try dsimp only [zS, zN, zH, zT]); try exact rfl
   apply drun0X
   · intro H hPhi; exact op_lit Tryz.underlying26 ZS3 (.cons (y := I ((rNum 1048576 (rKeeps j (kst (rSts k st0).2)).2).1 : Nat)) (by rfl) (.nil _)) (by rfl) (by simp [I, DV.cells]) (by simp [flat, I, DV.cells, DV.one]) (by decide)
   · rfl
   apply drun_normT
   · (try dsimp only [zS, zN, zH, zT]); try exact rfl
   apply drun2X
   · exact op_append Tryz.underlying26 Inf3 (by rfl) hi.kapp (.list _ _ _ _ Tryz.underlying26 (LL.own _ _ _)) (by rw [List.length_map]; exact hi.kok) (by simp) (by simp; omega) (by simp; omega)
   · rfl
   · refine .inr ?_; simp only [HS.up_blks, setB_ne (show sid ≠ Hs.nb from hne)]; exact hi.sb
   apply drun_normT
   · (try dsimp only [zS, zN, zH, zT]); try exact rfl
   apply drun0X
   · intro H hPhi; first | exact op_fieldAddr_ptr Tryz.underlying28 rfl Sz26 (by rfl) (by rfl) | exact op_fieldAddr_elt Tryz.underlying28 rfl Sz26 (by rfl) (by rfl) (by rfl)
   · rfl
   apply drun_normT
   · (try dsimp only [zS, zN, zH, zT]); try exact rfl
   apply drun2X
   · exact op_storeB (vs := [.own _ 1 _]) (b' := stepH 28 (rSt (rSts k st0).2).1 (.own _ 1 _)) (H' := _) Sz26 (by rfl) (by rw [HS.up_blks, setB_ne hne]; exact hi.sb) (by intro h; cases h) (by rfl) (by rfl) (Nat.le_of_ble_eq_true rfl) (by simp [AV.one, DV.one, TF, S, I, BY]) (by rfl) (by rfl) rfl
   · rfl
   · exact .inl rfl
   apply drun_normT
   · (try dsimp only [zS, zN, zH, zT]); try exact rfl
   refine drun_end rfl ?_
   refine inBlock_normal (then_normal ?_)
   refine aw_region ?_
   refine zst (by first | exact op_add (by rfl) (by rfl) (wrap_i64 ⟨by omega, by omega⟩) | exact op_add (by rfl) (by rfl) (by rfl)) rfl (by dsimp only [zS, zN, zH, zT]) ?_
   refine zst (op_move_tmp (by rfl)) rfl (by dsimp only [zS, zN, zH, zT]) ?_
   refine al_end rfl ?_
   apply again_to (kn (rSts k st0).2 - (j + 1)) [false, false, false, false, true, true, true, false, false, false, true, true, false, false, false, false, false, false, false, false, false, false, false, true, true, false, false, false, false, false, false, false, false, false, false, false, false, false, false, false, false, false, false, false, false, false, false, false, false, false, false]
   · (try dsimp only [maskT]); try exact rfl
   · rfl
   · omega
   exact ⟨j + 1, _, _, rfl, by omega, rfl, hi.step (by simp)⟩
  ·
   (try simp only [y1, y2, y3, y4, y5, y6, y7, y8, y9, y0, List.length_map] at hc2)
   have hje : j = kn (rSts k st0).2 := by omega
   subst hje
   refine aw_exit ?_
   refine then_exit (again_exit (inBlock_here (then_normal ?_)))
   refine aw_seq ?_
   refine aw_seq ?_
   refine aw_region ?_
   refine zst (op_move_tmp (by rfl)) rfl (by dsimp only [zS, zN, zH, zT]) ?_
   refine zst (op_callF Tryz.func18 (by rfl) (by rfl) (.tmp (by rfl) .nil) (err_ok _ _ (rSts (k + 1) st0).2.1 (rSts (k + 1) st0).2.2 hi.rd)) rfl (by dsimp only [zS, zN, zH, zT]) ?_
   refine zst (op_neI (by rfl) (by rfl)) rfl (by dsimp only [zS, zN, zH, zT]) ?_
   refine zst (op_move_tmp (by rfl)) rfl (by dsimp only [zS, zN, zH, zT]) ?_
   refine al_split 37 rfl (fun hg3 => ?_) (fun hg3 => ?_)
   ·
    (try simp only [y1, y2, y3, y4, y5, y6, y7, y8, y9, y0, List.length_map] at hg3)
    have hne2 : ¬ rErr (rSts (k + 1) st0).2 = 0 := hg3
    obtain ⟨z1, z2⟩ := dec_bad hq hlt (.inl hne2)
    apply al_normT
    · (try dsimp only [zS, zN, zH, zT]); try exact rfl
    refine zuw rfl rfl rfl rfl (by dsimp only [zS, zN, zH, zT]) ?_
    refine zuw rfl rfl rfl rfl (by dsimp only [zS, zN, zH, zT]) ?_
    refine zuw rfl rfl rfl rfl (by dsimp only [zS, zN, zH, zT]) ?_
    refine zst (op_pick_tt (by rfl) (val_const (by rfl))) rfl (by dsimp only [zS, zN, zH, zT]) ?_
    refine al_end rfl ?_
    refine then_normal ?_
    refine aw_cond rfl (fun _ => ?_) (fun h => by cases h)
    refine aw_seq ?_
    refine aw_region ?_
    refine zst (op_assign_const (by rfl)) rfl (by dsimp only [zS, zN, zH, zT]) ?_
    refine zst (op_assign_const (by rfl)) rfl (by dsimp only [zS, zN, zH, zT]) ?_
    refine al_end rfl ?_
    refine then_normal ?_
    refine aw_ret ?_
    refine then_ret (inBlock_ret (then_ret (again_ret (inBlock_ret (then_ret ?_)))))
    refine retPost2 rfl rfl rfl ?_
    first | exact ⟨_, by (rw [z1]) <;> rfl, by rw [z2]; exact Weak.nil 5, hi.ext⟩ | exact ⟨_, by (rw [z1]) <;> rfl, by rw [z2]; exact Weak.nil 5, ho.ext⟩ | exact ⟨_, by (rw [z1]) <;> rfl, by rw [z2]; exact Weak.lst ho.app, ho.ext⟩
   ·
    (try simp only [y1, y2, y3, y4, y5, y6, y7, y8, y9, y0, List.length_map] at hg3)
    have heq : rErr (rSts (k + 1) st0).2 = 0 := by simpa using hg3
    apply al_normT
    · (try dsimp only [zS, zN, zH, zT]); try exact rfl
    refine zsw rfl rfl rfl (op_load_ptrsW (off := 0) (stC (rSt (rSts k st0).2).1) Tryz.underlying28 (by rfl) Sz28 (by rfl) hi.sb (Nat.le_of_ble_eq_true rfl) (.cons (Weak.refl _) (.cons (Weak.refl _) (.cons (Weak.refl _) (.cons (Weak.refl _) (.cons (Weak.lst hi.kapp) .nil))))) (by simp [stC, DV.one, S, I])) (by dsimp only [zS, zN, zH, zT]) ?_
    refine zsw rfl rfl rfl (op_callF Tryz.func13 (by rfl) (by rfl) (.tmp (by rfl) .nil) (right_ok _ (rSt (rSts k st0).2).1)) (by dsimp only [zS, zN, zH, zT]) ?_
    refine zsw rfl rfl rfl (op_not (by rfl)) (by dsimp only [zS, zN, zH, zT]) ?_
    refine zst (op_pick_ff (by rfl) (val_tmp (by rfl))) rfl (by dsimp only [zS, zN, zH, zT]) ?_
    refine al_end rfl ?_
    refine then_normal ?_
    refine aw_cond rfl (fun hc5 => ?_) (fun hc5 => ?_)
    ·
     (try simp only [y1, y2, y3, y4, y5, y6, y7, y8, y9, y0, List.length_map] at hc5)
     have hrt : rightS (rSt (rSts k st0).2).1 = false := by simpa using hc5
     obtain ⟨z1, z2⟩ := dec_bad hq hlt (.inr hrt)
     refine aw_seq ?_
     refine aw_region ?_
     refine zst (op_assign_const (by rfl)) rfl (by dsimp only [zS, zN, zH, zT]) ?_
     refine zst (op_assign_const (by rfl)) rfl (by dsimp only [zS, zN, zH, zT]) ?_
     refine al_end rfl ?_
     refine then_normal ?_
     refine aw_ret ?_
     refine then_ret (inBlock_ret (then_ret (again_ret (inBlock_ret (then_ret ?_)))))
     refine retPost2 rfl rfl rfl ?_
     first | exact ⟨_, by (rw [z1]) <;> rfl, by rw [z2]; exact Weak.nil 5, hi.ext⟩ | exact ⟨_, by (rw [z1]) <;> rfl, by rw [z2]; exact Weak.nil 5, ho.ext⟩ | exact ⟨_, by (rw [z1]) <;> rfl, by rw [z2]; exact Weak.lst ho.app, ho.ext⟩
    ·
     (try simp only [y1, y2, y3, y4, y5, y6, y7, y8, y9, y0, List.length_map] at hc5)
     have hrt : rightS (rSt (rSts k st0).2).1 = true := by simpa using hc5
     have hgood := okK_next hg heq hrt
     refine aw_skip ?_
     refine then_normal ?_
     refine aw_region ?_
     refine zst (op_move_tmp (by rfl)) rfl (by dsimp only [zS, zN, zH, zT]) ?_
     refine zst (op_load_ptrsW (off := 0) (stC (rSt (rSts k st0).2).1) Tryz.underlying28 (by rfl) Sz28 (by rfl) hi.sb (Nat.le_of_ble_eq_true rfl) (.cons (Weak.refl _) (.cons (Weak.refl _) (.cons (Weak.refl _) (.cons (Weak.refl _) (.cons (Weak.lst hi.kapp) .nil))))) (by simp [stC, DV.one, S, I])) rfl (by dsimp only [zS, zN, zH, zT]) ?_
     refine zst (op_lit Tryz.underlying22 ZS28 (.cons (y := stD (rSt (rSts k st0).2).1) (by rfl) (.nil _)) (by rfl) (by simp [stD, stC, DV.cells]) (by simp [flat, stD, stC, S, I, DV.cells, DV.one]) (by decide)) rfl (by dsimp only [zS, zN, zH, zT]) ?_
     refine zst (op_append Tryz.underlying22 Inf28 (by rfl) hi.app (.list _ _ _ _ Tryz.underlying22 (LL.own _ _ _)) (by rw [List.length_map]; exact hi.ok) (by simp) (by simp; omega) (by simp; omega)) rfl (by dsimp only [zS, zN, zH, zT]) ?_
     refine zst (op_assign_tmp (by rfl)) rfl (by dsimp only [zS, zN, zH, zT]) ?_
     refine al_end rfl ?_
     refine inBlock_normal (then_normal ?_)
     refine aw_region ?_
     refine zst (by first | exact op_add (by rfl) (by rfl) (wrap_i64 ⟨by omega, by omega⟩) | exact op_add (by rfl) (by rfl) (by rfl)) rfl (by dsimp only [zS, zN, zH, zT]) ?_
     refine zst (op_move_tmp (by rfl)) rfl (by dsimp only [zS, zN, zH, zT]) ?_
     refine al_end rfl ?_
     apply again_to (q - (k + 1)) [false, false, false, false, true, true, false, false, false, false, true, true, false, false, false, false, false, false, false, false, false, false, false, false, false, false, false, false, false, false, false, false, false, false, false, false, false, false, false, false, false, false, false, false, false, false, false, false, false, false, false]
     · (try dsimp only [maskT]); try exact rfl
     · rfl
     · omega
     exact ⟨k + 1, _, _, rfl, by omega, rfl, hi.next (by simp), fun _ => hgood⟩
 ·
  (try simp only [y1, y2, y3, y4, y5, y6, y7, y8, y9, y0, List.length_map] at hc1)
  have hke : q = k := by omega
  subst hke
  refine aw_exit ?_
  refine then_exit (again_exit (inBlock_here (then_normal ?_)))
  refine aw_seq ?_
  refine aw_seq ?_
  refine aw_region ?_
  refine zst (op_move_tmp (by rfl)) rfl (by dsimp only [zS, zN, zH, zT]) ?_
  refine zst (op_callF Tryz.func19 (by rfl) (by rfl) (.tmp (by rfl) .nil) (end_ok _ _ (rSts q st0).2.1 (rSts q st0).2.2 ho.rd)) rfl (by dsimp only [zS, zN, zH, zT]) ?_
  refine zst (op_neI (by rfl) (by rfl)) rfl (by dsimp only [zS, zN, zH, zT]) ?_
  refine al_end rfl ?_
  refine then_normal ?_
  refine aw_cond rfl (fun hc6 => ?_) (fun hc6 => ?_)
  ·
   (try simp only [y1, y2, y3, y4, y5, y6, y7, y8, y9, y0, List.length_map] at hc6)
   obtain ⟨z1, z2⟩ := dec_tail hq hc6
   refine aw_seq ?_
   refine aw_region ?_
   refine zst (op_assign_const (by rfl)) rfl (by dsimp only [zS, zN, zH, zT]) ?_
   refine zst (op_assign_const (by rfl)) rfl (by dsimp only [zS, zN, zH, zT]) ?_
   refine al_end rfl ?_
   refine then_normal ?_
   refine aw_ret ?_
   refine then_ret ?_
   refine retPost2 rfl rfl rfl ?_
   first | exact ⟨_, by (rw [z1]) <;> rfl, by rw [z2]; exact Weak.nil 5, hi.ext⟩ | exact ⟨_, by (rw [z1]) <;> rfl, by rw [z2]; exact Weak.nil 5, ho.ext⟩ | exact ⟨_, by (rw [z1]) <;> rfl, by rw [z2]; exact Weak.lst ho.app, ho.ext⟩
  ·
   (try simp only [y1, y2, y3, y4, y5, y6, y7, y8, y9, y0, List.length_map] at hc6)
   obtain ⟨z1, z2⟩ := dec_end hq hg (by simpa using hc6)
   refine aw_skip ?_
   refine then_normal ?_
   refine aw_seq ?_
   refine aw_region ?_
   refine zst (op_move_tmp (by rfl)) rfl (by dsimp only [zS, zN, zH, zT]) ?_
   refine zst (op_assign_tmp (by rfl)) rfl (by dsimp only [zS, zN, zH, zT]) ?_
   refine zst (op_assign_const (by rfl)) rfl (by dsimp only [zS, zN, zH, zT]) ?_
   refine al_end rfl ?_
   refine then_normal ?_
   refine aw_ret ?_
   refine retPost2 rfl rfl rfl ?_
   first | exact ⟨_, by (rw [z1]) <;> rfl, by rw [z2]; exact Weak.nil 5, hi.ext⟩ | exact ⟨_, by (rw [z1]) <;> rfl, by rw [z2]; exact Weak.nil 5, ho.ext⟩ | exact ⟨_, by (rw [z1]) <;> rfl, by rw [z2]; exact Weak.lst ho.app, ho.ext⟩
end Go.Proofs.YtdiibbbbdhkepaaGreatDoor
namespace Go.Proofs.YtdiibbbbdhkepaaGreatDoor
open Go.AV Go.AV.Ord Go.AV.Oct Go.AV.Stp
set_option linter.unusedVariables false
set_option linter.unusedSimpArgs false
variable [Wins Tryz.prog]
set_option maxRecDepth 100000 in
theorem worldReads_walk (s : List UInt8) (hh : ACalls Tryz.prog 5 [] H0 fun av H' => av = .d (TF true) ∧ H'.x = x0) : ACalls Tryz.prog 4 [.d (S s)] H0 (fun av H' => av = .d (TF true) ∧ H'.x = x0) := by
 refine acalls_of_aw Tryz.func4 rfl ?_
 refine aw_start (T' := [.d (S s), .un, .un, .un, .un, .un, .un, .un, .un, .un, .un, .un, .un, .un, .un, .un, .un, .un, .un, .un, .un, .un, .un, .un, .un, .un, .un, .un, .un, .un, .un, .un, .un, .un, .un, .un, .un, .un]) rfl ?_
 refine aw_seq ?_
 refine aw_region ?_
 refine zst (op_assign_const (by rfl)) rfl (by dsimp only [zS, zN, zH, zT]) ?_
 refine al_end rfl ?_
 refine then_normal ?_
 refine aw_seq ?_
 refine aw_seq ?_
 refine aw_region ?_
 refine al_cons _ (op_callF Tryz.func5 (by rfl) (by rfl) .nil hh) rfl ?_
 rintro v2 H2 ⟨rfl, hx0⟩
 apply al_normT
 · (try dsimp only [putT, List.set_cons_zero, List.set_cons_succ]); try exact rfl
 refine zst (op_not (by rfl)) rfl (by dsimp only [zS, zN, zH, zT]) ?_
 refine al_end rfl ?_
 refine then_normal ?_
 refine aw_cond rfl (fun hc1 => ?_) (fun hc1 => ?_)
 ·
  (try simp only [y1, y2, y3, y4, y5, y6, y7, y8, y9, y0, List.length_map] at hc1)
  exact absurd hc1 (by decide)
 ·
  (try simp only [y1, y2, y3, y4, y5, y6, y7, y8, y9, y0, List.length_map] at hc1)
  refine aw_skip ?_
  refine then_normal ?_
  refine aw_seq ?_
  refine aw_seq ?_
  refine aw_region ?_
  refine zst (op_move_tmp (by rfl)) rfl (by dsimp only [zS, zN, zH, zT]) ?_
  refine zst (op_lenS Tryz.underlying9 (by rfl)) rfl (by dsimp only [zS, zN, zH, zT]) ?_
  refine zst (op_gtI (by rfl) (by rfl)) rfl (by dsimp only [zS, zN, zH, zT]) ?_
  refine al_end rfl ?_
  refine then_normal ?_
  refine aw_cond rfl (fun hc2 => ?_) (fun hc2 => ?_)
  ·
   (try simp only [y1, y2, y3, y4, y5, y6, y7, y8, y9, y0, List.length_map] at hc2)
   refine aw_seq ?_
   refine aw_region ?_
   refine zst (op_assign_const (by rfl)) rfl (by dsimp only [zS, zN, zH, zT]) ?_
   refine al_end rfl ?_
   refine then_normal ?_
   refine aw_ret ?_
   refine then_ret ?_
   refine retPost1 rfl rfl ?_
   first | exact ⟨rfl, hx0⟩ | exact ⟨by (rw [d2]) <;> rfl, hx0⟩ | exact ⟨by (rw [e2]; simp [TF]), hx0⟩
  ·
   (try simp only [y1, y2, y3, y4, y5, y6, y7, y8, y9, y0, List.length_map] at hc2)
   refine aw_skip ?_
   refine then_normal ?_
   refine aw_seq ?_
   refine aw_region ?_
   refine zst (op_move_tmp (by rfl)) rfl (by dsimp only [zS, zN, zH, zT]) ?_
   refine zst (op_callF Tryz.func8 (by rfl) (by rfl) (.tmp (by rfl) .nil) (wdec_ok _ s)) rfl (by dsimp only [zS, zN, zH, zT]) ?_
   refine zst (op_move_tmp (by rfl)) rfl (by dsimp only [zS, zN, zH, zT]) ?_
   refine zst (op_extract (by rfl) (by rfl)) rfl (by dsimp only [zS, zN, zH, zT]) ?_
   refine zst (op_extract (by rfl) (by rfl)) rfl (by dsimp only [zS, zN, zH, zT]) ?_
   refine zst (op_assign_tmp (by rfl)) rfl (by dsimp only [zS, zN, zH, zT]) ?_
   refine zst (op_assign_tmp (by rfl)) rfl (by dsimp only [zS, zN, zH, zT]) ?_
   refine al_end rfl ?_
   refine then_normal ?_
   refine aw_seq ?_
   refine aw_seq ?_
   refine aw_region ?_
   refine zst (op_move_tmp (by rfl)) rfl (by dsimp only [zS, zN, zH, zT]) ?_
   refine zst (op_neI (by rfl) (by rfl)) rfl (by dsimp only [zS, zN, zH, zT]) ?_
   refine al_end rfl ?_
   refine then_normal ?_
   refine aw_cond rfl (fun hc3 => ?_) (fun hc3 => ?_)
   ·
    (try simp only [y1, y2, y3, y4, y5, y6, y7, y8, y9, y0, List.length_map] at hc3)
    obtain ⟨d1, d2⟩ := reads_err (s := s) hc3
    refine aw_seq ?_
    refine aw_region ?_
    refine zst (op_move_tmp (by rfl)) rfl (by dsimp only [zS, zN, zH, zT]) ?_
    refine zst (op_eqI (by rfl) (by rfl)) rfl (by dsimp only [zS, zN, zH, zT]) ?_
    refine zst (op_move_tmp (by rfl)) rfl (by dsimp only [zS, zN, zH, zT]) ?_
    refine al_split 21 rfl (fun hg4 => ?_) (fun hg4 => ?_)
    ·
     (try simp only [y1, y2, y3, y4, y5, y6, y7, y8, y9, y0, List.length_map] at hg4)
     apply al_normT
     · (try dsimp only [zS, zN, zH, zT]); try exact rfl
     refine zsw rfl rfl rfl (op_move_tmp (by rfl)) (by dsimp only [zS, zN, zH, zT]) ?_
     refine zsw rfl rfl rfl (op_lenL Tryz.underlying22 (by first | exact LL.d _ _ | exact LL.own _ _ _ | exact LL.nil _ | assumption)) (by dsimp only [zS, zN, zH, zT]) ?_
     refine zsw rfl rfl rfl (op_eqI (by rfl) (by rfl)) (by dsimp only [zS, zN, zH, zT]) ?_
     refine zst (op_pick_tt (by rfl) (val_tmp (by rfl))) rfl (by dsimp only [zS, zN, zH, zT]) ?_
     refine zst (op_assign_tmp (by rfl)) rfl (by dsimp only [zS, zN, zH, zT]) ?_
     refine al_end rfl ?_
     refine then_normal ?_
     refine aw_ret ?_
     refine then_ret ?_
     refine retPost1 rfl rfl ?_
     first | exact ⟨rfl, hx0⟩ | exact ⟨by (rw [d2]) <;> rfl, hx0⟩ | exact ⟨by (rw [e2]; simp [TF]), hx0⟩
    ·
     (try simp only [y1, y2, y3, y4, y5, y6, y7, y8, y9, y0, List.length_map] at hg4)
     apply al_normT
     · (try dsimp only [zS, zN, zH, zT]); try exact rfl
     exact absurd d1 hg4
   ·
    (try simp only [y1, y2, y3, y4, y5, y6, y7, y8, y9, y0, List.length_map] at hc3)
    obtain ⟨e1, e2, e3⟩ := reads_ok (s := s) (by simpa using hc3)
    refine aw_skip ?_
    refine then_normal ?_
    refine aw_seq ?_
    refine aw_region ?_
    refine zst (op_move_tmp (by rfl)) rfl (by dsimp only [zS, zN, zH, zT]) ?_
    refine zst (op_callF Tryz.func7 (by rfl) (by rfl) (.tmp (by rfl) .nil) (wenc_ok _ (decR s) (by omega))) rfl (by dsimp only [zS, zN, zH, zT]) ?_
    refine zst (op_move_tmp (by rfl)) rfl (by dsimp only [zS, zN, zH, zT]) ?_
    refine zst (op_extract (by rfl) (by rfl)) rfl (by dsimp only [zS, zN, zH, zT]) ?_
    refine zst (op_extract (by rfl) (by rfl)) rfl (by dsimp only [zS, zN, zH, zT]) ?_
    refine zst (op_assign_tmp (by rfl)) rfl (by dsimp only [zS, zN, zH, zT]) ?_
    refine zst (op_assign_tmp (by rfl)) rfl (by dsimp only [zS, zN, zH, zT]) ?_
    refine al_end rfl ?_
    refine then_normal ?_
    refine aw_seq ?_
    refine aw_region ?_
    refine zst (op_move_tmp (by rfl)) rfl (by dsimp only [zS, zN, zH, zT]) ?_
    refine zst (op_eqI (by rfl) (by rfl)) rfl (by dsimp only [zS, zN, zH, zT]) ?_
    refine zst (op_move_tmp (by rfl)) rfl (by dsimp only [zS, zN, zH, zT]) ?_
    refine al_split 33 rfl (fun hg5 => ?_) (fun hg5 => ?_)
    ·
     (try simp only [y1, y2, y3, y4, y5, y6, y7, y8, y9, y0, List.length_map] at hg5)
     apply al_normT
     · (try dsimp only [zS, zN, zH, zT]); try exact rfl
     refine zsw rfl rfl rfl (op_move_tmp (by rfl)) (by dsimp only [zS, zN, zH, zT]) ?_
     refine zsw rfl rfl rfl (op_move_tmp (by rfl)) (by dsimp only [zS, zN, zH, zT]) ?_
     refine zsw rfl rfl rfl (op_eqS (by rfl) (by rfl)) (by dsimp only [zS, zN, zH, zT]) ?_
     refine zst (op_pick_tt (by rfl) (val_tmp (by rfl))) rfl (by dsimp only [zS, zN, zH, zT]) ?_
     refine zst (op_assign_tmp (by rfl)) rfl (by dsimp only [zS, zN, zH, zT]) ?_
     refine al_end rfl ?_
     refine then_normal ?_
     refine aw_ret ?_
     refine retPost1 rfl rfl ?_
     first | exact ⟨rfl, hx0⟩ | exact ⟨by (rw [d2]) <;> rfl, hx0⟩ | exact ⟨by (rw [e2]; simp [TF]), hx0⟩
    ·
     (try simp only [y1, y2, y3, y4, y5, y6, y7, y8, y9, y0, List.length_map] at hg5)
     apply al_normT
     · (try dsimp only [zS, zN, zH, zT]); try exact rfl
     exact absurd e1 hg5
end Go.Proofs.YtdiibbbbdhkepaaGreatDoor
namespace Go.AV
def HS.set2 (H : HS) (i : Nat) (b : HB) (j : Nat) (c : HB) : HS := (H.setB i b).setB j c
theorem setB_comm {H : HS} {i j : Nat} {b c : HB} (h : i ≠ j) : (H.setB i b).setB j c = (H.setB j c).setB i b := by
  simp only [HS.setB, HS.mk.injEq, and_true]
  exact List.set_comm _ _ h
section
variable {H Hs : HS} {i j k : Nat} {b b' b0 c c' c0 x : HB}
theorem set2_at1 (h : i ≠ j) (hi : H.blks[i]? = some b0) : (H.set2 i b j c).blks[i]? = some b := by
  unfold HS.set2; rw [setB_ne h]; exact setB_at hi
theorem set2_at2 (h : i ≠ j) (hj : H.blks[j]? = some c0) : (H.set2 i b j c).blks[j]? = some c := by
  unfold HS.set2; exact setB_at (by rw [setB_ne (Ne.symm h)]; exact hj)
theorem set2_ne (hi : k ≠ i) (hj : k ≠ j) : (H.set2 i b j c).blks[k]? = H.blks[k]? := by
  unfold HS.set2; rw [setB_ne hj, setB_ne hi]
theorem set2_set1 (h : i ≠ j) : (H.set2 i b j c).setB i b' = H.set2 i b' j c := by
  unfold HS.set2; rw [← setB_comm h, setB_setB]
theorem set2_set2 : (H.set2 i b j c).setB j c' = H.set2 i b j c' := by
  unfold HS.set2; rw [setB_setB]
theorem set2_again (h : i ≠ j) : (H.set2 i b j c).set2 i b' j c' = H.set2 i b' j c' := by
  show ((H.set2 i b j c).setB i b').setB j c' = _
  rw [set2_set1 h, set2_set2]
theorem set2_nb : (H.set2 i b j c).nb = H.nb := by unfold HS.set2; rw [setB_nb, setB_nb]
theorem Ext.at (h : Ext Hs H) (hi : Hs.blks[i]? = some x) : H.blks[i]? = some x := by
  obtain ⟨l, hl⟩ := h.blks
  rw [hl, List.getElem?_append_left (List.getElem?_eq_some_iff.1 hi).1]; exact hi
theorem Ext.under (h : Ext Hs H) (hi : i < Hs.nb) : Ext (Hs.setB i b) (H.setB i b) := by
  obtain ⟨l, hl⟩ := h.blks
  exact ⟨⟨l, by simp only [HS.setB, hl]; exact List.set_append_left _ _ hi⟩, h.toks, h.maps, h.x⟩
theorem Ext.set2 (h : Ext Hs H) (hi : i < Hs.nb) (hj : j < Hs.nb) : Ext (Hs.set2 i b j c) (H.set2 i b j c) := by
  unfold HS.set2
  exact (h.under hi).under (by rw [setB_nb]; exact hj)
theorem Ext.set2' (h : Ext (Hs.set2 i b j c) H) (hne : i ≠ j) (hi : i < Hs.nb) (hj : j < Hs.nb) : Ext (Hs.set2 i b' j c') (H.set2 i b' j c') := by
  have := h.set2 (b := b') (c := c') (by rw [set2_nb]; exact hi) (by rw [set2_nb]; exact hj)
  rwa [set2_again hne] at this
theorem lt_nb (h : H.blks[i]? = some b) : i < H.nb := (List.getElem?_eq_some_iff.1 h).1
end
end Go.AV
namespace Go.AV
theorem Fits.mono {nb nt nb' nt' : Nat} {v : AV} (h : Fits nb nt v) (hb : nb ≤ nb') (ht : nt ≤ nt') : Fits nb' nt' v := by
  induction h with
  | un => exact .un
  | nv => exact .nv
  | d x => exact .d x
  | own0 sz xs => exact .own0 sz xs
  | own i sz xs h => exact .own i sz xs (Nat.lt_of_lt_of_le h ht)
  | elt cs => exact .elt cs
  | ptr id off h => exact .ptr id off (Nat.lt_of_lt_of_le h hb)
  | arr id n cap h => exact .arr id n cap (Nat.lt_of_lt_of_le h hb)
  | sub id off n cap h => exact .sub id off n cap (Nat.lt_of_lt_of_le h hb)
  | agg cs _ ih => exact .agg cs ih
  | tup cs _ ih => exact .tup cs ih
  | fn f fs cs _ _ ih ih' => exact .fn f fs cs ih ih'
  | map id => exact .map id
  | iter id => exact .iter id
theorem Ext.upT {A H : HS} {i n : Nat} (h : Ext A H) (hi : i < A.toks.length) : Ext (A.up (some i) n) (H.up (some i) n) := by
  obtain ⟨⟨l1, h1⟩, ⟨l2, h2⟩, hm, hx⟩ := h
  exact ⟨⟨l1, h1⟩, ⟨l2, by simp only [HS.up, h2]; exact List.set_append_left _ _ hi⟩, hm, hx⟩
structure Wr (Hs : HS) (t : Option Nat) (H : HS) (l : List UInt8) : Prop where
  ext : Ext (upB Hs t l) H
  ok : H.ok (some (Hs.tk t)) l.length
  lt : ∀ m : List UInt8, Hs.tk t < (upB Hs t m).toks.length
section
variable {Hs H : HS} {t : Option Nat} {l m : List UInt8}
theorem Wr.start {n : Nat} (h : Hs.ok t n) (l : List UInt8) : Wr Hs t (upB Hs t l) l := ⟨Ext.refl _, okB _ _ _ h, fun m => by
  cases t with
  | none => simp [upB, HS.up, HS.tk]
  | some i =>
    have := (List.getElem?_eq_some_iff.1 (h i rfl)).1
    simpa [upB, HS.up, HS.tk] using this⟩
theorem Wr.push {e : TypeId} {cs : List AV} (h : Wr Hs t H l) : Wr Hs t (H.push e cs) l := ⟨h.ext.push _ _, h.ok, h.lt⟩
theorem Wr.nb (h : Wr Hs t H l) : Hs.nb ≤ H.nb := by
  have := nb_le h.ext
  simpa [HS.nb, upB, HS.up_blks] using this
theorem Wr.setB {i : Nat} {b : HB} (h : Wr Hs t H l) (hi : Hs.nb ≤ i) : Wr Hs t (H.setB i b) l := ⟨h.ext.setB (by simpa [HS.nb, upB, HS.up_blks] using hi), h.ok, h.lt⟩
theorem Wr.step (h : Wr Hs t H l) (m : List UInt8) : Wr Hs t (upB H (some (Hs.tk t)) m) m := by
  refine ⟨?_, okB H (some (Hs.tk t)) m h.ok, h.lt⟩
  have := h.ext.upT (n := m.length) (h.lt l)
  rwa [show (upB Hs t l).up (some (Hs.tk t)) m.length = upB Hs t m from HS.up_up Hs t _ _] at this
end
end Go.AV
namespace Go.AV
open Go.RowKit
theorem op_cmpstring {P : Program} [Wins P] {E : Operand → AV} {H : HS} {dst : Option Tmp} {ty : TypeId} {pos : String} {after : Array Edge} {gd : Option (Nat × Bool)} {x y : Operand} {f : FuncId} {fn : Func} {ts : Array TypeId} {a b : List UInt8}
    (hfn : P.funcs[f]? = some fn) (hname : (fn.name == "runtime.NumGoroutine") = false) (hb : fn.body.isNone = true) (hn : Extern.findNext fn = none) (he : Extern.find fn = some Extern.BytealgCompare.compare) (hx : E x = .d (S a)) (hy : E y = .d (S b)) :
    OpR P ⟨dst, .call ⟨.value (.func f), #[x, y], ts⟩, ty, pos, after, gd⟩ E H (Ret (.d (I (Lib.compareBytes a b))) H) :=
  opR_pure (hw := fun ac ⟨c, hops⟩ => wr_extOp hfn hname hb hn he (by
    have h1 := hops x (by simp [Op.operands, Call.operands])
    rw [hx] at h1
    have h2 := hops y (by simp [Op.operands, Call.operands])
    rw [hy] at h2
    rw [show #[x, y].map ac.eval = #[ac.eval x, ac.eval y] by simp, h1.v_eq, h2.v_eq]
    exact wr_cmps)) fun c w ac hm hops => by
    have h1 := hops x (by simp [Op.operands, Call.operands])
    rw [hx] at h1
    have h2 := hops y (by simp [Op.operands, Call.operands])
    rw [hy] at h2
    have e1 := h1.v_eq
    have e2 := h2.v_eq
    refine ⟨.int .i64 (Lib.compareBytes a b), ?_, .d (.v _ rfl)⟩
    have hr := run_callFunc_extern (w := w) hfn hname hb hn he #[ac.eval x, ac.eval y]
    rw [e1, e2, Lib.run_compareString] at hr
    have ef : ac.eval (.func f) = .func (.func f) #[] #[] := rfl
    simp [execOp, resolve, Deferred.ofValue, invoke, ef, e1, e2, hr]
end Go.AV
namespace Go.AV
open Go.RowKit
section
variable {P : Program} [Wins P] {E : Operand → AV} {H : HS} {dst : Option Tmp} {ty : TypeId} {pos : String} {after : Array Edge} {gd : Option (Nat × Bool)}
theorem arr_val {c : Ctx} {x : Value} {id n cap : Nat} (h : Rep c x (.arr id n cap)) : ∃ g, c.blk[id]? = some g ∧ x = .slice (some ⟨g, 0, none⟩) n cap := by
  generalize ha : AV.arr id n cap = v at h
  cases h with
  | arr _ _ _ g hg => cases ha; exact ⟨g, hg, rfl⟩
  | _ => cases ha
theorem sub_val {c : Ctx} {x : Value} {id off n cap : Nat} (h : Rep c x (.sub id off n cap)) : ∃ g, c.blk[id]? = some g ∧ x = .slice (some ⟨g, off, none⟩) n cap := by
  generalize ha : AV.sub id off n cap = v at h
  cases h with
  | sub _ _ _ _ g hg => cases ha; exact ⟨g, hg, rfl⟩
  | _ => cases ha
theorem op_indexArr {x y : Operand} {t e : TypeId} {sz id n cap off : Nat} {k : IntKind} {i : Int} (ht : P.underlying t = some (.slice e)) (hn : (P.info? e).map (·.size) = some sz) (hx : E x = .arr id n cap) (hy : E y = .d (.v (.int k i))) (h0 : 0 ≤ i) (hi : i < n) (ho : i.toNat * sz = off) :
    OpR P ⟨dst, .indexAddr t x y, ty, pos, after, gd⟩ E H (Ret (.ptr id off) H) :=
  opR_pure fun c w a hm hops => by
    have h1 := hops x (by simp [Op.operands])
    rw [hx] at h1
    have h2 := hops y (by simp [Op.operands])
    rw [hy] at h2
    obtain ⟨g, hg, e1⟩ := arr_val h1
    subst ho
    refine ⟨.pointer (some ⟨g, i.toNat * sz, none⟩), ?_, .ptr id _ g hg⟩
    simp [execOp, e1, h2.v_eq, Instr.indexAt, asIntOf, run_underlying ht, h0, hi, run_sizeOf hn, addr_add]
theorem op_sliceUn {x y : Operand} {t e : TypeId} {sz n : Nat} {us : List AV} {k : IntKind} {i : Int} (ht : P.underlying t = some (.slice e)) (hn : (P.info? e).map (·.size) = some sz) (hx : Arr H e sz (E x) n us) (hy : E y = .d (.v (.int k i))) (h0 : 0 ≤ i) (h2 : i ≤ n) :
    OpR P ⟨dst, .slice t x (some y) none none, ty, pos, after, gd⟩ E H (Ret .un H) :=
  opR_pure fun c w a _ hops => by
    have q1 := hops x (by simp [Op.operands])
    have q2 := hops y (by simp [Op.operands])
    rw [hy] at q2
    have b2 := bound_ok (P := P) (k := k) (y := n) (code := .sliceB) w h0 (by omega)
    cases hE : E x with
    | d dv =>
      rw [hE] at hx q1
      cases hx with
      | nil => exact ⟨.slice none 0 0, by simp [execOp, q1.v_eq, q2.v_eq, Instr.sliceAt, Instr.slice, Instr.sliceBounds, run_underlying ht, b2, run_sizeOf hn], .un _⟩
    | arr id n1 cap =>
      rw [hE] at hx q1
      cases hx with
      | arr =>
        obtain ⟨g, hg, e1⟩ := arr_val q1
        by_cases hc : cap = i.toNat
        · exact ⟨.slice (some ⟨g, 0, none⟩) (n - i.toNat) (cap - i.toNat), by simp [execOp, e1, q2.v_eq, Instr.sliceAt, Instr.slice, Instr.sliceBounds, run_underlying ht, b2, run_sizeOf hn, hc], .un _⟩
        · exact ⟨.slice (some ((⟨g, 0, none⟩ : Addr).add (i.toNat * sz))) (n - i.toNat) (cap - i.toNat), by simp [execOp, e1, q2.v_eq, Instr.sliceAt, Instr.slice, Instr.sliceBounds, run_underlying ht, b2, run_sizeOf hn, hc], .un _⟩
    | _ => rw [hE] at hx; cases hx
inductive From : AV → Nat → Nat → Nat → Prop
  | arr (id n cap : Nat) : From (.arr id n cap) id 0 n
  | sub (id off n cap : Nat) : From (.sub id off n cap) id off n
theorem From.val {c : Ctx} {x : Value} {v : AV} {id off n : Nat} (h : From v id off n) (hr : Rep c x v) : ∃ g cap, c.blk[id]? = some g ∧ x = .slice (some ⟨g, off, none⟩) n cap := by
  cases h with
  | arr => obtain ⟨g, h1, h2⟩ := arr_val hr; exact ⟨g, _, h1, h2⟩
  | sub => obtain ⟨g, h1, h2⟩ := sub_val hr; exact ⟨g, _, h1, h2⟩
end
end Go.AV
namespace Go.AV
open Go.RowKit
theorem Inv.protect {B : Nat} {w0 w : World} {c : Ctx} {H : HS} (h : Inv B w0 c H w) (id g : Nat) (b : HB) (hg : c.blk[id]? = some g) (hb : H.blks[id]? = some b) (nb nt : Nat) (hid : nb ≤ id)
    (hf : ∀ i b, i < nb → H.blks[i]? = some b → ∀ j (hj : j < b.cs.length), Fits nb nt b.cs[j]) (hmf : MFits nb nt H) (ds : List DV) (hd : b.cs.take ds.length = ds.map .d) (hlen : ds.length ≤ b.cs.length) :
    ∃ us : Nat → Value, Inv B w0 ((c.cut nb nt).prot g ds.length us) (H.cut nb nt) w ∧ MemLe c.mem ((c.cut nb nt).prot g ds.length us).mem ∧ (∀ i, i < ds.length → ((c.cut nb nt).prot g ds.length us).mem g i = some (us i)) ∧ ∀ i (hi : i < ds.length), RepD c.mem (us i) ds[i] := by
  obtain ⟨p1, p2, cur, fr, p3, p4, p5, p6⟩ := h.blk id g b hg hb
  have p4' : cur.size = b.cs.length := p4
  have i1 := h.cut nb nt hf hmf
  refine ⟨fun o => cur.getD o undef, ⟨i1.base, i1.below, fun g' o u hm => ?_, i1.blkLen, fun i g' b' hg' hb' => ?_, i1.blkInj, i1.tokLen, fun i e he => ?_, i1.tokInj, i1.maps.keep (Ctx.prot_le (c := c.cut nb nt) fun o _ => .inl (p2 o)).lw rfl rfl (.refl _), i1.cx, i1.xok⟩, fun b' o u hm => ?_, fun i hi => ?_, fun i hi => ?_⟩
  · simp only [Ctx.prot] at hm
    split at hm
    · rename_i hh
      obtain ⟨rfl, ho⟩ := hh
      have : o < cur.size := by omega
      simp only [World.cell?, p3]
      simp at hm
      simp [this] at hm ⊢
      exact hm
    · exact i1.mem g' o u hm
  · have hlt : i < nb := by
      have hg2 : (c.blk.take nb)[i]? = some g' := hg'
      have := (List.getElem?_eq_some_iff.1 hg2).1
      rw [List.length_take] at this
      omega
    have hgi : c.blk[i]? = some g' := by
      have : (c.blk.take nb)[i]? = some g' := hg'
      rwa [List.getElem?_take, if_pos hlt] at this
    have hne : g' ≠ g := fun e => by
      subst e
      have := h.blkInj i id g' hgi hg
      omega
    obtain ⟨h1, h2, cur', fr', h3, h4, h5, h6⟩ := i1.blk i g' b' hg' hb'
    have hle : Le (c.cut nb nt) ((c.cut nb nt).prot g ds.length (fun o => cur.getD o undef)) := Ctx.prot_le fun o _ => .inl (p2 o)
    refine ⟨h1, fun o => ?_, cur', fr', h3, h4, h5, fun j hj => (h6 j hj).mono hle⟩
    simp only [Ctx.prot]
    rw [if_neg (fun hh => hne hh.1)]
    exact h2 o
  · have hei : c.tok[i]? = some e := by
      have : (c.tok.take nt)[i]? = some e := he
      have hlt := (List.getElem?_eq_some_iff.1 this).1
      rwa [List.getElem?_take, if_pos (by simp at hlt; omega)] at this
    obtain ⟨h1, h2, h3, h4, h5, h6⟩ := i1.tok i e he
    have hne : e.g ≠ g := fun hh => (h.tok i e hei).2.2.2.2.1 id (hh ▸ hg)
    refine ⟨h1, h2, h3, fun o ho => ?_, h5, h6⟩
    simp only [Ctx.prot]
    rw [if_neg (fun hh => hne hh.1)]
    exact h4 o ho
  · simp only [Ctx.prot]
    by_cases hh : b' = g ∧ o < ds.length
    · obtain ⟨rfl, _⟩ := hh
      rw [p2 o] at hm; cases hm
    · rw [if_neg hh]; exact hm
  · show (if g = g ∧ i < ds.length then some (cur.getD i undef) else _) = _
    rw [if_pos ⟨rfl, hi⟩]
  · have h3 : i < b.cs.length := by omega
    have h4 := p6 i h3
    have h5 : (.d ds[i] : AV) = b.cs[i]'h3 := by
      have : (ds.map AV.d)[i]? = (b.cs.take ds.length)[i]? := by rw [hd]
      rw [List.getElem?_map, List.getElem?_eq_getElem hi, List.getElem?_take, if_pos hi, List.getElem?_eq_getElem h3] at this
      exact Option.some.inj this
    rw [← h5] at h4
    exact h4.d_inv
inductive Becomes (id n cap sz : Nat) (xs : List DV) : List AV → List DV → Prop
  | nil : Becomes id n cap sz xs [] []
  | d {x : AV} {l : List AV} {m : List DV} (y : DV) (hw : Weak x (.d y)) (h : Becomes id n cap sz xs l m) : Becomes id n cap sz xs (x :: l) (y :: m)
  | arr {l : List AV} {m : List DV} (h : Becomes id n cap sz xs l m) : Becomes id n cap sz xs (.arr id n cap :: l) (.lst sz xs :: m)
theorem Becomes.len {id n cap sz : Nat} {xs : List DV} {l : List AV} {m : List DV} (h : Becomes id n cap sz xs l m) : l.length = m.length := by
  induction h with
  | nil => rfl
  | d _ _ _ ih => simp [ih]
  | arr _ ih => simp [ih]
theorem Becomes.get {id n cap sz : Nat} {xs : List DV} {l : List AV} {m : List DV} (h : Becomes id n cap sz xs l m) {c : Ctx} {mem : Mem} (hm : MemLe c.mem mem) (ha : ∀ y, Rep c y (.arr id n cap) → RepD mem y (.lst sz xs)) :
    ∀ (vs : Nat → Value), (∀ i (hi : i < l.length), Rep c (vs i) l[i]) → ∀ i (hi : i < m.length), RepD mem (vs i) m[i] := by
  induction h with
  | nil => intro vs _ i hi; simp at hi
  | d y hw _ ih =>
    intro vs hv i hi
    cases i with
    | zero => exact (hw c _ (hv 0 (by simp))).d_inv.mono hm
    | succ i => exact ih (fun j => vs (j + 1)) (fun j hj => by have := hv (j + 1) (by simpa using hj); simpa using this) i (by simpa using hi)
  | arr _ ih =>
    intro vs hv i hi
    cases i with
    | zero => exact ha _ (hv 0 (by simp))
    | succ i => exact ih (fun j => vs (j + 1)) (fun j hj => by have := hv (j + 1) (by simpa using hj); simpa using this) i (by simpa using hi)
theorem ACalls.tidyP {P : Program} [Wins P] {f : FuncId} {args : List AV} {H : HS} {m : List DV} (h1 : ∀ d ∈ m, d.one = true)
    (h : ACalls P f args H fun av H' => Ext H H' ∧ ∃ l, av = .agg l ∧ (Weaks l (m.map .d) ∨ ∃ id n cap sz xs b, H.nb ≤ id ∧ H'.blks[id]? = some b ∧ b.cs.take (flat xs).length = (flat xs).map .d ∧ (flat xs).length ≤ b.cs.length ∧ xs.length = n ∧ n ≤ cap ∧ (∀ x ∈ xs, x.cells.length = sz) ∧ (∀ d ∈ flat xs, d.one = true) ∧ Becomes id n cap sz xs l m)) :
    ACalls P f args H (Ret (.d (.agg m)) H) := by
  intro B w0 c w t vs hI hB hs ha kind cs hk hn
  refine h B w0 c w t vs hI hB hs ha kind cs hk ?_
  rintro v w' c' av H' t' fr q1 q2 q3 hB' ⟨⟨⟨l1, h5⟩, ⟨l2, h6⟩, hmm, hxx⟩, l, rfl, hl⟩ hL
  have hcut : H'.cut H.blks.length H.toks.length = H := by
    cases H
    simp only [HS.cut, h5, h6, List.take_left, hmm, hxx]
  have hfit : ∀ i b, i < H.blks.length → H'.blks[i]? = some b → ∀ j (hj : j < b.cs.length), Fits H.blks.length H.toks.length b.cs[j] := fun i b hi hb j hj => by
    have hb' : H.blks[i]? = some b := by rw [h5, List.getElem?_append_left (by omega)] at hb; exact hb
    have hlt : i < c.blk.length := by rw [hI.blkLen]; exact hi
    obtain ⟨_, _, cur, fr, _, _, _, q⟩ := hI.blk i _ b (List.getElem?_eq_getElem hlt) hb'
    have := (q j hj).fits
    rwa [hI.blkLen, hI.tokLen] at this
  have hmfit : MFits H.blks.length H.toks.length H' := fun i ps asg bd st pend T hm => hI.mfits i ps asg bd st pend T (hmm ▸ hm)
  have hblk : ∀ (i g : Nat), c.blk[i]? = some g → (c'.blk.take H.blks.length)[i]? = some g := fun i g hi => by
    have : i < c.blk.length := (List.getElem?_eq_some_iff.1 hi).1
    rw [List.getElem?_take, if_pos (by have := hI.blkLen; omega)]
    exact q1.blk i g hi
  have htok : ∀ (i : Nat) (e : Tok), c.tok[i]? = some e → ∃ e' : Tok, (c'.tok.take H.toks.length)[i]? = some e' ∧ (e' = e ∨ e.mark < e'.mark) := fun i e he => by
    have : i < c.tok.length := (List.getElem?_eq_some_iff.1 he).1
    obtain ⟨e', q1, q2⟩ := q1.tok i e he
    refine ⟨e', ?_, q2⟩
    rw [List.getElem?_take, if_pos (by have := hI.tokLen; omega)]
    exact q1
  have hv : ∃ us : Array Value, v = .agg us ∧ us.size = l.length ∧ ∀ i (hi : i < l.length), Rep c' (us.getD i undef) l[i] := by
    generalize ha : AV.agg l = av at q2
    cases q2 with
    | agg us cs hl hr => cases ha; exact ⟨us, rfl, hl, hr⟩
    | _ => cases ha
  obtain ⟨us, rfl, hul, hur⟩ := hv
  rcases hl with hw | ⟨id, n, cap, sz, xs, b, hid, hb, hd, hlen, hxn, hnc, hsz, hone, hbec⟩
  · have i1 := q3.cut H.blks.length H.toks.length hfit hmfit
    rw [hcut] at i1
    refine hn (.agg us) w' (c'.cut H.blks.length H.toks.length) (.d (.agg m)) H t' fr ⟨q1.mem, hblk, htok, q1.maps, q1.me⟩ (.d (.agg us m (by rw [hul, hw.len, List.length_map]) h1 fun i hi => ?_)) i1 hB' ⟨rfl, rfl⟩ hL
    have := hw.get c' (fun i => us.getD i undef) hur i (by rw [List.length_map]; exact hi)
    rw [List.getElem_map] at this
    exact this.d_inv.mono (fun _ _ _ h => h)
  · have hidl : id < c'.blk.length := by rw [q3.blkLen]; exact (List.getElem?_eq_some_iff.1 hb).1
    obtain ⟨vals, i1, m1, m2, m3⟩ := q3.protect id _ b (List.getElem?_eq_getElem hidl) hb H.blks.length H.toks.length hid hfit hmfit (flat xs) hd hlen
    rw [hcut] at i1
    refine hn (.agg us) w' ((c'.cut H.blks.length H.toks.length).prot c'.blk[id] (flat xs).length vals) (.d (.agg m)) H t' fr ⟨fun g o u hm => m1 g o u (q1.mem g o u hm), hblk, htok, q1.maps, q1.me⟩ (.d (.agg us m (by rw [hul, hbec.len]) h1 ?_)) i1 (hB'.mono m1 fun _ h => h) ⟨rfl, rfl⟩ hL
    refine hbec.get (c := c') m1 (fun y hy => ?_) (fun i => us.getD i undef) hur
    obtain ⟨g, hg, rfl⟩ := arr_val hy
    rw [List.getElem?_eq_getElem hidl] at hg
    cases hg
    exact .lst _ 0 n cap sz xs vals hxn hnc hsz hone (fun i hi => by rw [Nat.zero_add]; exact m2 i hi) (fun i hi => (m3 i hi).mono m1)
end Go.AV
namespace Go.AV
open Go.RowKit
section
variable {P : Program} [Wins P] {E : Operand → AV} {H : HS} {dst : Option Tmp} {ty : TypeId} {pos : String} {after : Array Edge} {gd : Option (Nat × Bool)}
end
end Go.AV
namespace Go.AV.Val
open Go.AV.Ord Go.AV.Oct
abbrev VB (t : TypeId) (rid : Nat) (e : Int) : HB := ⟨t, [.ptr rid 0, .d (I e)], false⟩
def stH (H : HS) (tR tQ : TypeId) (rid q : Nat) (st : DS) : HS := H.set2 rid (RB tR st.1) q (VB tQ rid st.2)
structure Rd (H : HS) (tR tQ : TypeId) (rid q : Nat) (st : DS) : Prop where
  ne : rid ≠ q
  r : H.blks[rid]? = some (RB tR st.1)
  q : H.blks[q]? = some (VB tQ rid st.2)
section
variable {H Hs : HS} {tR tQ tV : TypeId} {rid q : Nat} {st st' : DS} {b b' : HB}
theorem Rd.stH (h : Rd H tR tQ rid q st) (st' : DS) : Rd (Val.stH H tR tQ rid q st') tR tQ rid q st' := ⟨h.ne, set2_at1 h.ne h.r, set2_at2 h.ne h.q⟩
theorem Rd.ext (h : Rd Hs tR tQ rid q st) (hx : Ext (Val.stH Hs tR tQ rid q st') H) : Rd H tR tQ rid q st' := ⟨h.ne, hx.at (h.stH st').r, hx.at (h.stH st').q⟩
theorem Rd.set2 (h : Rd H tR tQ rid q st) (e : Int) : H.setB q (VB tQ rid e) = Val.stH H tR tQ rid q (st.1, e) := by
  unfold Val.stH HS.set2
  rw [setB_self h.r]
structure VS (Hs : HS) (tR tQ tV : TypeId) (rid q : Nat) (H : HS) (b : HB) (st : DS) : Prop where
  rd : Rd H tR tQ rid q st
  lr : rid < Hs.nb
  lq : q < Hs.nb
  e0 : ∃ a b c d e f, H.blks[Hs.nb]? = some ⟨tV, [a, b, c, d, e, f], false⟩
  e1 : H.blks[Hs.nb + 1]? = some b
  ext : Ext (stH Hs tR tQ rid q st) H
theorem VS.of {H' : HS} (h : VS Hs tR tQ tV rid q H b st) (rd : Rd H' tR tQ rid q st') (he : ∀ k, Hs.nb ≤ k → k ≠ Hs.nb + 1 → H'.blks[k]? = H.blks[k]?) (e1 : H'.blks[Hs.nb + 1]? = some b') (ext : Ext (stH Hs tR tQ rid q st') H') : VS Hs tR tQ tV rid q H' b' st' := by
  obtain ⟨_, lr, lq, ⟨x0, x1, x2, x3, x4, x5, e0⟩, _, _⟩ := h
  exact ⟨rd, lr, lq, ⟨x0, x1, x2, x3, x4, x5, by rw [he _ (Nat.le_refl _) (by omega)]; exact e0⟩, e1, ext⟩
theorem VS.to (h : VS Hs tR tQ tV rid q H b st) (st' : DS) : VS Hs tR tQ tV rid q (stH H tR tQ rid q st') b st' := by
  have hl := h.lr
  have hq := h.lq
  have hne : ∀ k, Hs.nb ≤ k → (stH H tR tQ rid q st').blks[k]? = H.blks[k]? := fun k hk => set2_ne (by omega) (by omega)
  exact h.of (h.rd.stH st') (fun k hk _ => hne k hk) (by rw [hne _ (by omega)]; exact h.e1) (h.ext.set2' h.rd.ne hl hq)
theorem VS.set2 (h : VS Hs tR tQ tV rid q H b st) (e : Int) : VS Hs tR tQ tV rid q (H.setB q (VB tQ rid e)) b (st.1, e) := by
  rw [h.rd.set2 e]; exact h.to _
theorem stH_nb : (stH H tR tQ rid q st).nb = H.nb := set2_nb
theorem VS.lt (h : VS Hs tR tQ tV rid q H b st) : Hs.nb + 1 < H.nb := lt_nb h.e1
theorem VS.push {e : TypeId} {cs : List AV} (h : VS Hs tR tQ tV rid q H b st) : VS Hs tR tQ tV rid q (H.push e cs) b st := by
  obtain ⟨rd, lr, lq, ⟨x0, x1, x2, x3, x4, x5, e0⟩, e1, ext⟩ := h
  exact ⟨⟨rd.ne, push_ne rd.r, push_ne rd.q⟩, lr, lq, ⟨x0, x1, x2, x3, x4, x5, push_ne e0⟩, push_ne e1, ext.push _ _⟩
theorem VS.up {t : Option Nat} {n m : Nat} (h : VS Hs tR tQ tV rid q H b st) (hn : NewTok Hs t) (hok : H.ok t m) : VS Hs tR tQ tV rid q (H.up t n) b st := by
  obtain ⟨rd, lr, lq, ⟨x0, x1, x2, x3, x4, x5, e0⟩, e1, ext⟩ := h
  exact ⟨⟨rd.ne, by rw [HS.up_blks]; exact rd.r, by rw [HS.up_blks]; exact rd.q⟩, lr, lq, ⟨x0, x1, x2, x3, x4, x5, by rw [HS.up_blks]; exact e0⟩, by rw [HS.up_blks]; exact e1, (ext.upN hn hok).1⟩
theorem VS.start (h : Rd Hs tR tQ rid q st) {z0 z1 : List AV} {x0 x1 x2 x3 x4 x5 : AV} (hz : z0 = [x0, x1, x2, x3, x4, x5]) (st' : DS) (b : HB) : VS Hs tR tQ tV rid q ((((stH (Hs.push tV z0) tR tQ rid q st').push tV z1)).setB (Hs.nb + 1) b) b st' := by
  subst hz
  have h1 : Rd (Hs.push tV [x0, x1, x2, x3, x4, x5]) tR tQ rid q st := ⟨h.ne, push_ne h.r, push_ne h.q⟩
  have h2 := h1.stH st'
  have h3 : Rd ((stH (Hs.push tV [x0, x1, x2, x3, x4, x5]) tR tQ rid q st').push tV z1) tR tQ rid q st' := ⟨h.ne, push_ne h2.r, push_ne h2.q⟩
  have hl := lt_nb h.r
  have hq := lt_nb h.q
  have n1 : (Hs.push tV [x0, x1, x2, x3, x4, x5]).nb = Hs.nb + 1 := push_nb
  have n2 : (stH (Hs.push tV [x0, x1, x2, x3, x4, x5]) tR tQ rid q st').nb = Hs.nb + 1 := by rw [stH_nb, n1]
  have e0 : (stH (Hs.push tV [x0, x1, x2, x3, x4, x5]) tR tQ rid q st').blks[Hs.nb]? = some ⟨tV, [x0, x1, x2, x3, x4, x5], false⟩ := by
    rw [show (stH (Hs.push tV [x0, x1, x2, x3, x4, x5]) tR tQ rid q st').blks[Hs.nb]? = (Hs.push tV [x0, x1, x2, x3, x4, x5]).blks[Hs.nb]? from set2_ne (by omega) (by omega)]
    exact push_at
  have hx : Ext (stH Hs tR tQ rid q st') ((stH (Hs.push tV [x0, x1, x2, x3, x4, x5]) tR tQ rid q st').push tV z1) := (((Ext.refl Hs).push _ _).set2 hl hq).push _ _
  refine ⟨⟨h.ne, ?_, ?_⟩, hl, hq, ⟨x0, x1, x2, x3, x4, x5, ?_⟩, ?_, hx.setB (by rw [stH_nb]; omega)⟩
  · rw [setB_ne (by omega)]; exact h3.r
  · rw [setB_ne (by omega)]; exact h3.q
  · rw [setB_ne (by omega)]; exact push_ne e0
  · refine setB_at (b := ⟨tV, z1, false⟩) ?_
    have := push_at (H := stH (Hs.push tV [x0, x1, x2, x3, x4, x5]) tR tQ rid q st') (e := tV) (cs := z1)
    rwa [n2] at this
end
structure GL (Hs H : HS) (v : AV) (t : Option Nat) (sz : Nat) (xs : List DV) : Prop where
  app : App v t sz xs
  ok : H.ok t xs.length
  new : NewTok Hs t
theorem GL.toks {Hs H H' : HS} {v : AV} {t : Option Nat} {sz : Nat} {xs : List DV} (h : GL Hs H v t sz xs) (he : H'.toks = H.toks) : GL Hs H' v t sz xs := ⟨h.app, fun i hi => by rw [he]; exact h.ok i hi, h.new⟩
theorem GL.step {Hs H : HS} {v : AV} {t : Option Nat} {sz m : Nat} {xs ys : List DV} {y : DV} (h : GL Hs H v t sz xs) (hx : Ext Hs H ∨ ∃ l, H.toks = Hs.toks ++ l) (hm : m = xs.length + 1) (hy : ys = xs ++ [y]) : GL Hs (H.up t m) (.own (some (H.tk t)) sz (xs ++ [y])) (some (H.tk t)) sz ys := by
  subst hm hy
  refine ⟨.own _ _ _, ?_, ?_⟩
  · have := HS.ok_up H t (xs.length + 1) h.ok
    rw [List.length_append]
    exact this
  · obtain ⟨l, hl⟩ : ∃ l, H.toks = Hs.toks ++ l := by
      rcases hx with hx | hx
      · exact hx.toks
      · exact hx
    intro i hi
    cases t with
    | none => cases hi; simp [HS.tk, hl]
    | some k => cases hi; exact h.new k rfl
theorem GL.nil (Hs H : HS) (sz : Nat) : GL Hs H nilS none sz [] := ⟨.nil sz, HS.ok_none _ _, NewTok.none _⟩
theorem vC_len (v : V) : (vC v).length = 6 := by rw [vC_eq]; rfl
theorem fC_len (f : F) : (fC f).length = 7 := by rw [fC_eq, List.length_cons, vC_len]
theorem weaks_refl : ∀ l : List AV, Weaks l l
  | [] => .nil
  | _ :: l => .cons (Weak.refl _) (weaks_refl l)
abbrev f0 (t : TypeId) (n : List UInt8) : HB := ⟨t, [.d (S n), .d (I 0), .d (TF false), .d (.v (.int .i64 0)), .d (S []), nilS, nilS], false⟩
abbrev f1 (t : TypeId) (f : F) : HB := ⟨t, (fC f).map .d, false⟩
section
variable {P : Program} [Wins P] {E : Operand → AV} {H : HS} {dst : Option Tmp} {ty : TypeId} {pos : String} {after : Array Edge} {gd : Option (Nat × Bool)}
end
theorem rL_len (f : DS → V × DS) : ∀ (k : Nat) (st : DS), (rL f k st).1.length ≤ k
  | 0, _ => Nat.le_refl _
  | k + 1, st => by
    have ih := rL_len f k st
    simp only [rL]
    split
    · omega
    · simp; omega
theorem rL_stay {f : DS → V × DS} {k : Nat} {st : DS} (h : broke (rL f k st).2 = true) : ∀ m, k ≤ m → rL f m st = rL f k st
  | 0, hm => by have : k = 0 := by omega
                subst this; rfl
  | m + 1, hm => by
    rcases Nat.lt_or_ge m k with hlt | hge
    · have : k = m + 1 := by omega
      subst this; rfl
    · have ih := rL_stay h m hge
      simp only [rL, ih, h, if_true]
theorem rF_len (f : DS → V × DS) : ∀ (k : Nat) (st : DS), (rF f k st).1.length ≤ k
  | 0, _ => Nat.le_refl _
  | k + 1, st => by
    have ih := rF_len f k st
    simp only [rF]
    split
    · omega
    · simp; omega
theorem rF_full (f : DS → V × DS) : ∀ (k : Nat) (st : DS), broke (rF f k st).2 = false → (rF f k st).1.length = k
  | 0, _, _ => rfl
  | k + 1, st, h => by
    simp only [rF] at h ⊢
    split at h
    · rename_i hb; rw [hb] at h; cases h
    · rename_i hb
      rw [if_neg hb]
      simp [rF_full f k st (by simpa using hb)]
theorem rF_stay {f : DS → V × DS} {k : Nat} {st : DS} (h : broke (rF f k st).2 = true) : ∀ m, k ≤ m → rF f m st = rF f k st
  | 0, hm => by have : k = 0 := by omega
                subst this; rfl
  | m + 1, hm => by
    rcases Nat.lt_or_ge m k with hlt | hge
    · have : k = m + 1 := by omega
      subst this; rfl
    · have ih := rF_stay h m hge
      simp only [rF, ih, h, if_true]
end Go.AV.Val
namespace Go.AV.Val
open Go.AV.Ord Go.AV.Oct
section
variable {H Hs : HS} {tR tQ tV : TypeId} {rid q : Nat} {st st' : DS}
theorem Rd.push {e : TypeId} {cs : List AV} (h : Rd H tR tQ rid q st) : Rd (H.push e cs) tR tQ rid q st := ⟨h.ne, push_ne h.r, push_ne h.q⟩
theorem Ext.stH (h : Ext Hs H) (h1 : Hs.nb ≤ rid) (h2 : Hs.nb ≤ q) : Ext Hs (Val.stH H tR tQ rid q st) := (h.setB h1).setB h2
end
end Go.AV.Val
namespace Go.AV.Val
end Go.AV.Val
namespace Go.AV.Val
end Go.AV.Val
namespace Go.AV.Val
open Go.AV.Ord Go.AV.Oct
end Go.AV.Val
namespace Go.AV.Val
open Go.AV.Ord Go.AV.Oct
def only2 (k : Int) (y : Bool) : Bool := if k = 1 then y else false
def only3 (k : Int) (i : Int) : Int := if k = 2 then i else 0
def only4 (k : Int) (tx : List UInt8) : List UInt8 := if k = 3 then tx else []
def wrongV (D : Nat) (k : Int) (y : Bool) (i : Int) (tx : List UInt8) (ls : List V) (fs : List F) : Bool :=
  (y != only2 k y) || (i != only3 k i) || (!(tx == only4 k tx)) || ((k != 4) && decide (0 < (ls.length : Int))) || ((k != 5) && decide (0 < (fs.length : Int))) || decide ((D : Int) < 1)
theorem len_pos {α : Type} (l : List α) : (!(l.isEmpty)) = decide (0 < (l.length : Int)) := by
  cases l with
  | nil => rfl
  | cons a l => simp
theorem wrong_only {D : Nat} {k : Int} {y : Bool} {i : Int} {tx : List UInt8} {ls : List V} {fs : List F} (h0 : 0 ≤ k) (h5 : k ≤ 5) : wrongV D k y i tx ls fs = !(onlyV (.mk k y i tx ls fs) && decide (1 ≤ D)) := by
  have e1 : (y != only2 k y) = !((k == 1) || y == false) := by unfold only2; by_cases h : k = 1 <;> simp [h]
  have e2 : (i != only3 k i) = !((k == 2) || i == 0) := by unfold only3; by_cases h : k = 2 <;> simp [h, bne]
  have e3 : (!(tx == only4 k tx)) = !((k == 3) || tx == []) := by unfold only4; by_cases h : k = 3 <;> simp [h]
  have e4 : decide ((D : Int) < 1) = !decide (1 ≤ D) := by rw [Bool.eq_iff_iff]; simp; omega
  simp only [wrongV, e1, e2, e3, e4, ← len_pos]
  simp only [onlyV, V.kind, V.yes, V.num, V.text, V.list, V.fields, h0, h5, decide_true, Bool.true_and, bne, Bool.not_and, Bool.not_or]
theorem right_wrong {D : Nat} {k : Int} {y : Bool} {i : Int} {tx : List UInt8} {ls : List V} {fs : List F} (h0 : 0 ≤ k) (h5 : k ≤ 5) (h : wrongV D k y i tx ls fs = true) : rightV D (.mk k y i tx ls fs) = false := by
  rw [wrong_only h0 h5] at h
  cases D with
  | zero => rfl
  | succ d =>
    have : onlyV (.mk k y i tx ls fs) = false := by simpa using h
    simp [rightV, this]
theorem right_kind {D : Nat} {k : Int} {y : Bool} {i : Int} {tx : List UInt8} {ls : List V} {fs : List F} (h : k < 0 ∨ 5 < k) : rightV D (.mk k y i tx ls fs) = false := by
  cases D with
  | zero => rfl
  | succ d =>
    have : onlyV (.mk k y i tx ls fs) = false := by
      unfold onlyV
      simp only [V.kind]
      rcases h with h | h
      · simp [show ¬ 0 ≤ k by omega]
      · simp [show ¬ k ≤ 5 by omega]
    simp [rightV, this]
def fieldsOk (d : Nat) (fs : List F) : Bool := rises fs && fs.all (fun f => rightV d f.val)
theorem right_ok {D : Nat} {k : Int} {y : Bool} {i : Int} {tx : List UInt8} {ls : List V} {fs : List F} (h0 : 0 ≤ k) (h5 : k ≤ 5) (h : wrongV D k y i tx ls fs = false) : ∃ d, D = d + 1 ∧ rightV (d + 1) (.mk k y i tx ls fs) = (fieldsOk d fs && ls.all (rightV d)) := by
  rw [wrong_only h0 h5] at h
  have h1 : onlyV (.mk k y i tx ls fs) = true ∧ 1 ≤ D := by simpa using h
  obtain ⟨d, rfl⟩ : ∃ d, D = d + 1 := ⟨D - 1, by omega⟩
  exact ⟨d, rfl, by simp [rightV, h1.1, V.fields, V.list, fieldsOk]⟩
theorem fieldsOk_pre {d : Nat} {fs : List F} {j : Nat} (h : fieldsOk d (fs.take j) = false) : fieldsOk d fs = false := by
  cases ht : fieldsOk d fs with
  | false => rfl
  | true =>
    simp only [fieldsOk, Bool.and_eq_true, List.all_eq_true] at ht
    have h1 : rises (fs.take j) = true := rises_pre (fs.drop j) _ (by rw [List.take_append_drop]; exact ht.1)
    have h2 : fieldsOk d (fs.take j) = true := by
      simp only [fieldsOk, h1, Bool.true_and, List.all_eq_true]
      exact fun x hx => ht.2 x (List.mem_of_mem_take hx)
    rw [h2] at h; cases h
end Go.AV.Val
namespace Go.AV.Val
open Go.AV.Ord Go.AV.Oct
end Go.AV.Val
namespace Go.AV.Val
open Go.AV.Ord Go.AV.Oct
inductive SmallV : V → Prop
  | mk (k : Int) (y : Bool) (n : Int) (t : List UInt8) (l : List V) (fs : List F) (hl : l.length ≤ 1000000) (hf : fs.length ≤ 1000000) (h1 : ∀ x ∈ l, SmallV x) (h2 : ∀ f ∈ fs, SmallV f.val) : SmallV (.mk k y n t l fs)
theorem SmallV.ll {v : V} (h : SmallV v) : v.list.length ≤ 1000000 := by cases h; assumption
theorem SmallV.fl {v : V} (h : SmallV v) : v.fields.length ≤ 1000000 := by cases h; assumption
theorem SmallV.l {v : V} (h : SmallV v) : ∀ x ∈ v.list, SmallV x := by cases h; assumption
theorem SmallV.f {v : V} (h : SmallV v) : ∀ f ∈ v.fields, SmallV f.val := by cases h; assumption
theorem right_only {d : Nat} {v : V} (h : rightV (d + 1) v = true) : onlyV v = true ∧ (∀ f ∈ v.fields, rightV d f.val = true) ∧ (∀ x ∈ v.list, rightV d x = true) ∧ rises v.fields = true := by
  simp only [rightV, Bool.and_eq_true, List.all_eq_true] at h
  exact ⟨h.1.1.1, h.1.2, h.2, h.1.1.2⟩
theorem only_list {v : V} (h : onlyV v = true) : 0 ≤ v.kind ∧ v.kind ≤ 5 ∧ (v.kind ≠ 4 → v.list = []) ∧ (v.kind ≠ 5 → v.fields = []) := by
  unfold onlyV at h
  simp only [Bool.and_eq_true, decide_eq_true_eq, Bool.or_eq_true, beq_iff_eq, List.isEmpty_iff] at h
  obtain ⟨⟨⟨⟨⟨⟨h0, h5⟩, _⟩, _⟩, _⟩, h4⟩, h6⟩ := h
  exact ⟨h0, h5, fun h => h4.resolve_left h, fun h => h6.resolve_left h⟩
theorem small_of : ∀ (d : Nat) (v : V), rightV d v = true → (encV v).length ≤ 1000000 → SmallV v
  | 0, _, h, _ => by simp [rightV] at h
  | d + 1, v, h, hl => by
    obtain ⟨h1, h2, h3, _⟩ := right_only h
    obtain ⟨h0, h5, h4, h6⟩ := only_list h1
    rw [encV_eq] at hl
    have hls : v.list.length ≤ 1000000 ∧ ∀ x ∈ v.list, (encV x).length ≤ 1000000 := by
      by_cases hk : v.kind = 4
      · simp only [hk, show ¬ (4 : Int) = 1 by decide, show ¬ (4 : Int) = 2 by decide, show ¬ (4 : Int) = 3 by decide, if_true, if_false, List.length_cons, List.length_append] at hl
        have hge := flat_ge encV encV_pos v.list
        exact ⟨by omega, fun x hx => by have := flat_mem encV v.list x hx; omega⟩
      · rw [h4 hk]; exact ⟨by simp, fun x hx => by cases hx⟩
    have hfs : v.fields.length ≤ 1000000 ∧ ∀ x ∈ v.fields, (encV x.val).length ≤ 1000000 := by
      by_cases hk : v.kind = 5
      · simp only [hk, show ¬ (5 : Int) = 1 by decide, show ¬ (5 : Int) = 2 by decide, show ¬ (5 : Int) = 3 by decide, show ¬ (5 : Int) = 4 by decide, if_true, if_false, List.length_cons, List.length_append] at hl
        have hge := flat_ge fieldB fieldB_pos v.fields
        exact ⟨by omega, fun x hx => by have := flat_mem fieldB v.fields x hx; simp only [fieldB, List.length_append] at this; omega⟩
      · rw [h6 hk]; exact ⟨by simp, fun x hx => by cases hx⟩
    rw [v.eta]
    exact .mk _ _ _ _ _ _ hls.1 hfs.1 (fun x hx => small_of d x (h3 x hx) (hls.2 x hx)) (fun f hf => small_of d f.val (h2 f hf) (hfs.2 f hf))
end Go.AV.Val
namespace Go.AV.Val
open Go.AV.Ord Go.AV.Oct
def cmpI (a b : Int) : Int := if a < b then -1 else if b < a then 1 else 0
def yesI (b : Bool) : Int := if b then 1 else 0
mutual
def cmpV : V → V → Int
  | .mk k y i t l fs, o => if cmpI k o.kind ≠ 0 then cmpI k o.kind else if k = 1 then cmpI (yesI y) (yesI o.yes) else if k = 2 then cmpI i o.num else if k = 3 then Lib.compareBytes t o.text else if k = 4 then cmpL l o.list else if k = 5 then cmpF fs o.fields else 0
def cmpL : List V → List V → Int
  | [], [] => 0
  | [], _ :: _ => -1
  | _ :: _, [] => 1
  | a :: l, b :: m => if cmpV a b ≠ 0 then cmpV a b else cmpL l m
def cmpF : List F → List F → Int
  | [], [] => 0
  | [], _ :: _ => -1
  | _ :: _, [] => 1
  | .mk n v :: l, g :: m => if (if Lib.compareBytes n g.name ≠ 0 then Lib.compareBytes n g.name else cmpV v g.val) ≠ 0 then (if Lib.compareBytes n g.name ≠ 0 then Lib.compareBytes n g.name else cmpV v g.val) else cmpF l m
end
theorem cmpV_mk (k : Int) (y : Bool) (i : Int) (t : List UInt8) (l : List V) (fs : List F) (o : V) : cmpV (.mk k y i t l fs) o = if cmpI k o.kind ≠ 0 then cmpI k o.kind else if k = 1 then cmpI (yesI y) (yesI o.yes) else if k = 2 then cmpI i o.num else if k = 3 then Lib.compareBytes t o.text else if k = 4 then cmpL l o.list else if k = 5 then cmpF fs o.fields else 0 := by rw [cmpV]
theorem cmpL_cons (a b : V) (l m : List V) : cmpL (a :: l) (b :: m) = if cmpV a b ≠ 0 then cmpV a b else cmpL l m := by rw [cmpL]
theorem cmpL_nn : cmpL [] [] = 0 := by rw [cmpL]
theorem cmpL_nc (b : V) (m : List V) : cmpL [] (b :: m) = -1 := by rw [cmpL]
theorem cmpL_cn (b : V) (m : List V) : cmpL (b :: m) [] = 1 := by rw [cmpL]
section
variable {xs zs : List V} {fs gs : List F} {k : Nat}
end
def ofInt (n : Int) : V := .mk 2 false n [] [] []
theorem small_int (n : Int) : SmallV (ofInt n) := .mk _ _ _ _ _ _ (by decide) (by decide) (fun _ h => by cases h) (fun _ h => by cases h)
theorem cmp_int (a b : Int) : cmpV (ofInt a) (ofInt b) = cmpI a b := by
  unfold ofInt
  rw [cmpV_mk]; rfl
theorem rL_wf {f : DS → V × DS} (hf : ∀ st, WfV (f st).1) : ∀ n st, ∀ x ∈ (rL f n st).1, WfV x
  | 0, _, x, hx => by cases hx
  | n + 1, st, x, hx => by
    simp only [rL] at hx
    split at hx
    · exact rL_wf hf n st x hx
    · rcases List.mem_append.1 hx with h | h
      · exact rL_wf hf n st x h
      · rw [List.mem_singleton.1 h]; exact hf _
theorem rF_wf {f : DS → V × DS} (hf : ∀ st, WfV (f st).1) : ∀ n st, ∀ x ∈ (rF f n st).1, WfV x.val
  | 0, _, x, hx => by cases hx
  | n + 1, st, x, hx => by
    simp only [rF] at hx
    split at hx
    · exact rF_wf hf n st x hx
    · rcases List.mem_append.1 hx with h | h
      · exact rF_wf hf n st x h
      · rw [List.mem_singleton.1 h]; exact hf _
theorem i64_0 : i64 0 := by unfold i64; decide
theorem wf_0 (k : Int) (hk : i64 k) (y : Bool) (t : List UInt8) : WfV (.mk k y 0 t [] []) := .mk _ _ _ _ _ _ hk i64_0 (fun _ h => by cases h) (fun _ h => by cases h)
theorem unzig_i64 {x : Nat} (h : x < 18446744073709551616) : i64 (unzig x) := by
  unfold unzig i64
  split <;> omega
theorem rV_wf : ∀ d st, WfV (rV d st).1
  | 0, st => by
    simp only [rV]
    split <;> exact wf_0 0 i64_0 _ _
  | d + 1, st => by
    simp only [rV]
    split
    · exact wf_0 0 i64_0 _ _
    · have hk : i64 (rKind st).1 := by
        unfold rKind
        split
        · exact i64_0
        · split
          · exact i64_0
          · rename_i c r _ _
            have := c.toNat_lt
            unfold i64; simp only []; omega
      unfold rBody
      split
      · exact wf_0 _ (by unfold i64; decide) _ _
      · split
        · refine .mk _ _ _ _ _ _ (by unfold i64; decide) (unzig_i64 ?_) (fun _ h => by cases h) (fun _ h => by cases h)
          obtain ⟨a, st2, ha⟩ : ∃ a st2, rNum 4294967295 (rKind st).2.1 = (a, st2) := ⟨_, _, rfl⟩
          obtain ⟨b, st3, hb⟩ : ∃ a st3, rNum 4294967295 st2 = (a, st3) := ⟨_, _, rfl⟩
          have h1 := rNum_most ha
          have h2 := rNum_most hb
          simp only [ha, hb]
          omega
        · split
          · exact wf_0 _ (by unfold i64; decide) _ _
          · split
            · exact .mk _ _ _ _ _ _ (by unfold i64; decide) i64_0 (rL_wf (rV_wf d) _ _) (fun _ h => by cases h)
            · split
              · exact .mk _ _ _ _ _ _ (by unfold i64; decide) i64_0 (fun _ h => by cases h) (rF_wf (rV_wf d) _ _)
              · exact wf_0 _ hk _ _
end Go.AV.Val
namespace Go.AV.Val
open Go.AV.Ord Go.AV.Oct
end Go.AV.Val
namespace Go.AV.Val
open Go.AV.Ord Go.AV.Oct
def fewTop (v : V) : Bool := decide (v.list.length ≤ 8) && decide (v.fields.length ≤ 8) && decide (v.text.length ≤ 200)
def fewV : Nat → V → Bool
  | 0, _ => false
  | n + 1, v => fewTop v && v.list.all (fewV n) && v.fields.all fun f => decide (f.name.length ≤ 40) && fewV n f.val
theorem few_parts {n : Nat} {v : V} (h : fewV (n + 1) v = true) : v.list.length ≤ 8 ∧ v.fields.length ≤ 8 ∧ v.text.length ≤ 200 ∧ (∀ x ∈ v.list, fewV n x = true) ∧ (∀ f ∈ v.fields, f.name.length ≤ 40 ∧ fewV n f.val = true) := by
  simp only [fewV, fewTop, Bool.and_eq_true, decide_eq_true_eq, List.all_eq_true] at h
  exact ⟨h.1.1.1.1, h.1.1.1.2, h.1.1.2, h.1.2, h.2⟩
theorem few_small : ∀ (n : Nat) (v : V), fewV n v = true → SmallV v
  | 0, _, h => by simp [fewV] at h
  | n + 1, v, h => by
    obtain ⟨h1, h2, _, h4, h5⟩ := few_parts h
    rw [v.eta]
    exact .mk _ _ _ _ _ _ (by omega) (by omega) (fun x hx => few_small n x (h4 x hx)) (fun f hf => few_small n f.val (h5 f hf).2)
theorem flat_bound {α : Type} (g : α → List UInt8) (b : Nat) : ∀ l : List α, (∀ x ∈ l, (g x).length ≤ b) → (l.flatMap g).length ≤ l.length * b
  | [], _ => by simp
  | x :: l, h => by
    have h1 := flat_bound g b l fun y hy => h y (by simp [hy])
    have h2 := h x (by simp)
    simp only [List.flatMap_cons, List.length_append, List.length_cons, Nat.add_mul, Nat.one_mul]
    omega
theorem numB_small {x : Nat} (h : x ≤ 4294967295) : (numB x).length ≤ 9 := by rw [numB_len]; have := szN_4 h; omega
def fewB : Nat → Nat
  | 0 => 0
  | n + 1 => 8 * fewB n + 700
theorem few_len : ∀ (n : Nat) (v : V), fewV n v = true → WfV v → (encV v).length ≤ fewB n
  | 0, _, h, _ => by simp [fewV] at h
  | n + 1, v, h, hw => by
    obtain ⟨h1, h2, h3, h4, h5⟩ := few_parts h
    have hl := flat_bound encV (fewB n) v.list fun x hx => few_len n x (h4 x hx) (hw.l x hx)
    have hf := flat_bound fieldB (fewB n + 60) v.fields fun f hf => by
      have hh := few_len n f.val (h5 f hf).2 (hw.f f hf)
      have hn := numB_small (x := f.name.length) (by have := (h5 f hf).1; omega)
      have := (h5 f hf).1
      simp only [fieldB, textB, List.length_append]
      omega
    have m1 : v.list.length * fewB n ≤ 8 * fewB n := Nat.mul_le_mul_right _ h1
    have m2 : v.fields.length * (fewB n + 60) ≤ 8 * (fewB n + 60) := Nat.mul_le_mul_right _ h2
    have n1 := numB_small (x := v.list.length) (by omega)
    have n2 := numB_small (x := v.fields.length) (by omega)
    have n3 := numB_small (x := v.text.length) (by omega)
    have hz : zigN v.num < 18446744073709551616 := zig_lt (by have := hw.n; unfold i64 at this; omega) (by have := hw.n; unfold i64 at this; omega)
    have n4 := numB_small (x := zigN v.num / 4294967296) (by omega)
    have n5 := numB_small (x := zigN v.num % 4294967296) (by omega)
    rw [encV_eq]
    simp only [fewB, List.length_cons]
    split
    · simp [flagB]
    · split
      · simp only [intB, List.length_append]; omega
      · split
        · simp only [textB, List.length_append]; omega
        · split
          · simp only [List.length_append]; omega
          · split
            · simp only [List.length_append]; omega
            · simp
def valsV (k : Int) (y : Bool) (i : Int) (tx : List UInt8) (ls : List V) (fs : List F) : Bool := (k == 1 || y == false) && (k == 2 || i == 0) && (k == 3 || tx == []) && (k == 4 || ls.isEmpty) && (k == 5 || fs.isEmpty)
theorem only_vals (k : Int) (y : Bool) (i : Int) (tx : List UInt8) (ls : List V) (fs : List F) : onlyV (.mk k y i tx ls fs) = (decide (0 ≤ k) && decide (k ≤ 5) && valsV k y i tx ls fs) := by
  simp only [onlyV, valsV, V.kind, V.yes, V.num, V.text, V.list, V.fields, Bool.and_assoc]
  rfl
theorem right_novals {D : Nat} {k : Int} {y : Bool} {i : Int} {tx : List UInt8} {ls : List V} {fs : List F} (h : valsV k y i tx ls fs = false) : rightV D (.mk k y i tx ls fs) = false := by
  cases D with
  | zero => rfl
  | succ d =>
    have h1 : onlyV (.mk k y i tx ls fs) = false := by rw [only_vals, h]; simp
    simp only [rightV, h1, Bool.false_and]
theorem few_bad1 {n : Nat} {k : Int} {y : Bool} {i : Int} {tx : List UInt8} {ls : List V} {fs : List F} (h : n = 0 ∨ 8 < ls.length ∨ 8 < fs.length ∨ 200 < tx.length) : fewV n (.mk k y i tx ls fs) = false := by
  cases n with
  | zero => rfl
  | succ n =>
    have : fewTop (.mk k y i tx ls fs) = false := by
      show (decide (ls.length ≤ 8) && decide (fs.length ≤ 8) && decide (tx.length ≤ 200)) = false
      rw [Bool.eq_false_iff]
      intro h1
      simp only [Bool.and_eq_true, decide_eq_true_eq] at h1
      omega
    simp [fewV, this]
end Go.AV.Val
namespace Go.AV.Val
open Go.AV.Ord Go.AV.Oct
theorem small_nest : ∀ n, SmallV (nestV n)
  | 0 => small_int 5
  | n + 1 => .mk _ _ _ _ _ _ (by simp) (by simp) (fun x h => by rcases List.mem_singleton.1 h with rfl; exact small_nest n) (fun _ h => by cases h)
end Go.AV.Val
namespace Go.AV.Val
open Go.AV.Ord Go.AV.Oct
def cmpNs (a b : List Int) : Int := cmpL (a.map ofInt) (b.map ofInt)
theorem cmpNs_sgn : ∀ (a b : List Int), cmpNs a b = -1 ∨ cmpNs a b = 0 ∨ cmpNs a b = 1
  | [], [] => by simp [cmpNs, cmpL_nn]
  | [], _ :: _ => by simp [cmpNs, cmpL_nc]
  | _ :: _, [] => by simp [cmpNs, cmpL_cn]
  | x :: a, y :: b => by
    have ih := cmpNs_sgn a b
    simp only [cmpNs, List.map_cons] at ih ⊢
    rw [cmpL_cons, cmp_int]
    unfold cmpI
    by_cases h1 : x < y
    · simp [h1]
    · by_cases h2 : y < x
      · simp [h1, h2]
      · simpa [h1, h2] using ih
end Go.AV.Val
namespace Go.AV.Val
end Go.AV.Val
namespace Go.AV.Val
open Go.AV.Ord Go.AV.Oct
def putF : List F → F → List F
  | [], f => [f]
  | g :: l, f => if Op.bytesLess g.name f.name then g :: putF l f else if g.name == f.name then f :: l else f :: g :: l
def posF : List F → List UInt8 → Nat
  | [], _ => 0
  | g :: l, n => if Op.bytesLess g.name n then posF l n + 1 else 0
def hasF (l : List F) (n : List UInt8) : Bool := match l[posF l n]? with
  | some g => g.name == n
  | none => false
theorem posF_le : ∀ (l : List F) (n : List UInt8), posF l n ≤ l.length
  | [], _ => Nat.le_refl _
  | g :: l, n => by
    have := posF_le l n
    simp only [posF]
    split
    · simp; omega
    · simp
theorem putF_has : ∀ (l : List F) (f : F), hasF l f.name = true → putF l f = l.set (posF l f.name) f
  | [], f, h => by simp [hasF, posF] at h
  | g :: l, f, h => by
    have ih := putF_has l f
    simp only [hasF, posF, putF] at h ih ⊢
    by_cases h1 : Op.bytesLess g.name f.name = true
    · rw [if_pos h1] at h ⊢
      rw [if_pos h1, List.getElem?_cons_succ] at *
      rw [ih h]; rfl
    · rw [if_neg h1] at h ⊢
      rw [if_neg h1] at *
      simp only [List.getElem?_cons_zero] at h
      rw [if_pos h]; rfl
theorem putF_new : ∀ (l : List F) (f : F), hasF l f.name = false → putF l f = l.take (posF l f.name) ++ f :: l.drop (posF l f.name)
  | [], f, _ => rfl
  | g :: l, f, h => by
    have ih := putF_new l f
    simp only [hasF, posF, putF] at h ih ⊢
    by_cases h1 : Op.bytesLess g.name f.name = true
    · rw [if_pos h1] at h ⊢
      rw [if_pos h1, List.getElem?_cons_succ] at *
      rw [ih h]; rfl
    · rw [if_neg h1] at h ⊢
      rw [if_neg h1] at *
      simp only [List.getElem?_cons_zero] at h
      rw [if_neg (by simp [h])]; rfl
theorem rises_tail {g : F} {l : List F} (h : rises (g :: l) = true) : rises l = true := by
  cases l with
  | nil => rfl
  | cons a l => simp only [rises, Bool.and_eq_true] at h; exact h.2
theorem rises_all : ∀ {g : F} {l : List F}, rises (g :: l) = true → ∀ x ∈ l, Op.bytesLess g.name x.name = true
  | g, a :: l, h, x, hx => by
    have h1 : Op.bytesLess g.name a.name = true := by simp only [rises, Bool.and_eq_true] at h; exact h.1
    rcases List.mem_cons.1 hx with rfl | hx
    · exact h1
    · exact less_trans h1 (rises_all (rises_tail h) x hx)
theorem posF_c1 {a : F} {l : List F} {n : List UInt8} (h : Op.bytesLess a.name n = true) : posF (a :: l) n = posF l n + 1 := by simp [posF, h]
theorem posF_c0 {a : F} {l : List F} {n : List UInt8} (h : ¬ Op.bytesLess a.name n = true) : posF (a :: l) n = 0 := by simp [posF, h]
theorem posF_lt : ∀ {l : List F} {n : List UInt8} {k : Nat} {g : F}, rises l = true → l[k]? = some g → (Op.bytesLess g.name n = true ↔ k < posF l n)
  | a :: l, n, 0, g, _, hk => by
    simp only [List.getElem?_cons_zero, Option.some.injEq] at hk
    subst hk
    by_cases h1 : Op.bytesLess a.name n = true
    · rw [posF_c1 h1]; simp [h1]
    · rw [posF_c0 h1]; simp [h1]
  | a :: l, n, k + 1, g, h, hk => by
    rw [List.getElem?_cons_succ] at hk
    by_cases h1 : Op.bytesLess a.name n = true
    · rw [posF_c1 h1, posF_lt (rises_tail h) hk]; omega
    · rw [posF_c0 h1]
      have h2 := rises_all h g (List.mem_of_getElem? hk)
      exact ⟨fun h3 => absurd (less_trans h2 h3) h1, fun h3 => by omega⟩
theorem cb_byL : ∀ a b : List UInt8, Lib.compareBytes a b = byL a b
  | [], [] => by simp [Lib.compareBytes, byL_self]
  | [], b :: bs => by simp [Lib.compareBytes, byL, Op.bytesLess]
  | a :: as1, [] => by simp [Lib.compareBytes, byL, Op.bytesLess]
  | a :: as1, b :: bs => by
    have ih := cb_byL as1 bs
    simp only [Lib.compareBytes]
    by_cases h1 : a < b
    · rw [if_pos h1]
      have : Op.bytesLess (a :: as1) (b :: bs) = true := by simp [Op.bytesLess, h1]
      rw [byL_lt this]
    · rw [if_neg h1]
      by_cases h2 : b < a
      · rw [if_pos h2]
        have : Op.bytesLess (b :: bs) (a :: as1) = true := by simp [Op.bytesLess, h2]
        rw [byL_gt this]
      · rw [if_neg h2]
        have e : a = b := by
          apply UInt8.toNat_inj.1
          have h3 : ¬ a.toNat < b.toNat := fun h => h1 (UInt8.lt_iff_toNat_lt.2 h)
          have h4 : ¬ b.toNat < a.toNat := fun h => h2 (UInt8.lt_iff_toNat_lt.2 h)
          omega
        subst e
        rw [ih]
        exact (byL_append [a] as1 bs).symm
theorem flat_take' {sz : Nat} : ∀ {ys : List DV}, (∀ y ∈ ys, y.cells.length = sz) → ∀ i, flat (ys.take i) = (flat ys).take (i * sz)
  | [], _, i => by simp [flat]
  | y :: ys, h, 0 => by simp [flat]
  | y :: ys, h, i + 1 => by
    have ih := flat_take' (ys := ys) (fun z hz => h z (by simp [hz])) i
    have hy := h y (by simp)
    have e : flat (y :: ys) = y.cells ++ flat ys := by simp [flat]
    have e2 : flat (y :: ys.take i) = y.cells ++ flat (ys.take i) := by simp [flat]
    rw [List.take_succ_cons, e2, e, ih, show (i + 1) * sz = y.cells.length + i * sz by rw [hy, Nat.add_mul]; omega, List.take_length_add_append]
theorem flat_drop' {sz : Nat} : ∀ {ys : List DV}, (∀ y ∈ ys, y.cells.length = sz) → ∀ i, flat (ys.drop i) = (flat ys).drop (i * sz)
  | [], _, i => by simp [flat]
  | y :: ys, h, 0 => by simp [flat]
  | y :: ys, h, i + 1 => by
    have ih := flat_drop' (ys := ys) (fun z hz => h z (by simp [hz])) i
    have hy := h y (by simp)
    have e : flat (y :: ys) = y.cells ++ flat ys := by simp [flat]
    rw [List.drop_succ_cons, e, ih, show (i + 1) * sz = y.cells.length + i * sz by rw [hy, Nat.add_mul]; omega, List.drop_length_add_append]
def fcells (l : List F) : List AV := (flat (l.map fD)).map .d
theorem fsz (l : List F) : ∀ y ∈ l.map fD, y.cells.length = 7 := by
  intro y hy
  obtain ⟨f, _, rfl⟩ := List.mem_map.1 hy
  exact fC_len f
theorem fcells_take (l : List F) (i : Nat) : fcells (l.take i) = (fcells l).take (i * 7) := by
  rw [fcells, fcells, List.map_take, flat_take' (fsz l), List.map_take]
theorem fcells_drop (l : List F) (i : Nat) : fcells (l.drop i) = (fcells l).drop (i * 7) := by
  rw [fcells, fcells, List.map_drop, flat_drop' (fsz l), List.map_drop]
theorem fcells_append (l m : List F) : fcells (l ++ m) = fcells l ++ fcells m := by
  simp [fcells, flat]
theorem fcells_cons (f : F) (m : List F) : fcells (f :: m) = (fC f).map .d ++ fcells m := by
  simp only [fcells, flat, List.map_cons, List.flatMap_cons, List.map_append]
  rfl
theorem rises_set {l : List F} {k : Nat} {f g : F} (hr : rises l = true) (h : l[k]? = some g) (hn : g.name = f.name) : rises (l.set k f) = true := by
  induction l generalizing k with
  | nil => rfl
  | cons a l ih =>
    cases k with
    | zero =>
      simp only [List.getElem?_cons_zero, Option.some.injEq] at h
      subst h
      cases l with
      | nil => rfl
      | cons b l => simp only [rises, List.set_cons_zero, Bool.and_eq_true] at hr ⊢; rw [← hn]; exact hr
    | succ k =>
      rw [List.getElem?_cons_succ] at h
      have h1 := ih (rises_tail hr) h
      cases l with
      | nil => simp at h
      | cons b l =>
        cases k with
        | zero =>
          simp only [List.getElem?_cons_zero, Option.some.injEq] at h
          subst h
          simp only [rises, List.set_cons_succ, List.set_cons_zero, Bool.and_eq_true] at hr h1 ⊢
          exact ⟨by rw [← hn]; exact hr.1, h1⟩
        | succ k =>
          simp only [rises, List.set_cons_succ, Bool.and_eq_true] at hr h1 ⊢
          exact ⟨hr.1, h1⟩
theorem putF_name {l : List F} {f x : F} (h : x ∈ putF l f) : x = f ∨ x ∈ l := by
  induction l with
  | nil => simp [putF] at h; exact .inl h
  | cons g l ih =>
    simp only [putF] at h
    split at h
    · rcases List.mem_cons.1 h with rfl | h
      · exact .inr (by simp)
      · rcases ih h with h | h
        · exact .inl h
        · exact .inr (by simp [h])
    · split at h
      · rcases List.mem_cons.1 h with rfl | h
        · exact .inl rfl
        · exact .inr (by simp [h])
      · rcases List.mem_cons.1 h with rfl | h
        · exact .inl rfl
        · exact .inr h
theorem rises_cons {g : F} {l : List F} (h1 : ∀ x ∈ l, Op.bytesLess g.name x.name = true) (h2 : rises l = true) : rises (g :: l) = true := by
  cases l with
  | nil => rfl
  | cons a l => simp only [rises, Bool.and_eq_true]; exact ⟨h1 a (by simp), h2⟩
theorem putF_rises {l : List F} (f : F) (h : rises l = true) : rises (putF l f) = true := by
  induction l with
  | nil => rfl
  | cons g l ih =>
    have hall := rises_all h
    simp only [putF]
    split
    · rename_i h1
      refine rises_cons (fun x hx => ?_) (ih (rises_tail h))
      rcases putF_name hx with rfl | hx
      · exact h1
      · exact hall x hx
    · rename_i h1
      split
      · rename_i h2
        have h2 : g.name = f.name := by simpa using h2
        exact rises_cons (fun x hx => by rw [← h2]; exact hall x hx) (rises_tail h)
      · rename_i h2
        have h2 : ¬ g.name = f.name := by simpa using h2
        have h3 : Op.bytesLess f.name g.name = true := by
          rw [less_total h2]; simpa using h1
        exact rises_cons (fun x hx => by
          rcases List.mem_cons.1 hx with rfl | hx
          · exact h3
          · exact less_trans h3 (hall x hx)) h
theorem foldl_rises : ∀ (fs l : List F), rises l = true → rises (fs.foldl putF l) = true
  | [], _, h => h
  | f :: fs, l, h => foldl_rises fs (putF l f) (putF_rises f h)
theorem putF_len (l : List F) (f : F) : (putF l f).length ≤ l.length + 1 := by
  induction l with
  | nil => simp [putF]
  | cons g l ih =>
    simp only [putF]
    split
    · simp; exact ih
    · split <;> simp
theorem foldl_len : ∀ (fs l : List F), (fs.foldl putF l).length ≤ l.length + fs.length
  | [], _ => by simp
  | f :: fs, l => by
    have h1 := foldl_len fs (putF l f)
    have h2 := putF_len l f
    simp only [List.foldl_cons, List.length_cons]
    omega
theorem foldl_mem : ∀ (fs l : List F) (x : F), x ∈ fs.foldl putF l → x ∈ l ∨ x ∈ fs
  | [], _, _, h => .inl h
  | f :: fs, l, x, h => by
    rcases foldl_mem fs (putF l f) x h with h | h
    · rcases putF_name h with rfl | h
      · exact .inr (by simp)
      · exact .inl h
    · exact .inr (by simp [h])
end Go.AV.Val
namespace Go.AV.Val
open Go.AV.Ord Go.AV.Oct
abbrev ArrF (H : HS) (tF : TypeId) (v : AV) (l : List F) : Prop := Arr H tF 7 v l.length (fcells l)
theorem Arr.pos {H : HS} {e : TypeId} {sz n : Nat} {v : AV} {us : List AV} (h : Arr H e sz v n us) (hn : 0 < n) : ∃ id cap cs, v = .arr id n cap ∧ H.blks[id]? = some ⟨e, cs, false⟩ ∧ cs.length = cap * sz ∧ n ≤ cap ∧ cs.take (n * sz) = us := by
  cases h with
  | nil => omega
  | arr id n cap cs us hb hc hnc hu => exact ⟨id, cap, cs, rfl, hb, hc, hnc, hu⟩
theorem Arr.or {H : HS} {e : TypeId} {sz n : Nat} {v : AV} {us : List AV} (h : Arr H e sz v n us) : v = nilS ∨ ∃ id cap, v = .arr id n cap := by
  cases h with
  | nil => exact .inl rfl
  | arr id n cap => exact .inr ⟨id, cap, rfl⟩
theorem Arr.mono {H H' : HS} {e : TypeId} {sz n : Nat} {v : AV} {us : List AV} (h : Arr H e sz v n us) (hk : ∀ id n cap, v = .arr id n cap → H'.blks[id]? = H.blks[id]?) : Arr H' e sz v n us := by
  cases h with
  | nil => exact .nil
  | arr id n cap cs us hb hc hnc hu => exact .arr id n cap cs us (by rw [hk _ _ _ rfl]; exact hb) hc hnc hu
section
variable {P : Program} [Wins P] {E : Operand → AV} {H : HS} {dst : Option Tmp} {ty : TypeId} {pos : String} {after : Array Edge} {gd : Option (Nat × Bool)}
theorem op_lenA {x : Operand} {t e e' : TypeId} {sz n : Nat} {v : AV} {us : List AV} (ht : P.underlying t = some (.slice e')) (hx : E x = v) (h : Arr H e sz v n us) {H' : HS} : OpR P ⟨dst, .call ⟨.builtin .len, #[x], #[t]⟩, ty, pos, after, gd⟩ E H' (Ret (.d (I n)) H') := by
  cases h with
  | nil =>
    refine opR_pure fun c w a hm hops => ?_
    have h1 := hops x (by simp [Op.operands, Call.operands])
    rw [hx] at h1
    exact ⟨.int .i64 0, by simp [execOp, resolve, invoke, builtin, h1.v_eq, Builtin.len_, run_underlying ht, goInt], .d (.v _ rfl)⟩
  | arr => exact op_lenArr ht hx
end
theorem putL_drop : ∀ (vs cs : List AV) (k m : Nat), k + vs.length ≤ m → (putL cs k vs).drop m = cs.drop m
  | [], cs, k, m, _ => rfl
  | v :: vs, cs, k, m, h => by
    simp only [List.length_cons] at h
    show (putL (cs.set k v) (k + 1) vs).drop m = _
    rw [putL_drop vs (cs.set k v) (k + 1) m (by omega), List.drop_set_of_lt (by omega)]
theorem putL_eq {cs vs : List AV} {k : Nat} (h : k + vs.length ≤ cs.length) : putL cs k vs = cs.take k ++ (vs ++ cs.drop (k + vs.length)) := by
  rw [← List.append_assoc, ← putL_take vs cs k h, ← putL_drop vs cs k (k + vs.length) (Nat.le_refl _), List.take_append_drop]
theorem set_cells {cs : List AV} {l : List F} {k : Nat} {f g : F} (hu : cs.take (l.length * 7) = fcells l) (h : l[k]? = some g) (hl : l.length * 7 ≤ cs.length) : (putL cs (k * 7) ((fC f).map .d)).take ((l.set k f).length * 7) = fcells (l.set k f) := by
  have hk : k < l.length := (List.getElem?_eq_some_iff.1 h).1
  have e : l.set k f = l.take k ++ f :: l.drop (k + 1) := by rw [List.set_eq_take_append_cons_drop, if_pos hk]
  have hx : ((fC f).map AV.d).length = 7 := by rw [List.length_map, fC_len]
  rw [List.length_set, e, fcells_append, fcells_cons, fcells_take, fcells_drop, ← hu]
  rw [putL_eq (by rw [hx]; omega), hx]
  rw [List.take_take, Nat.min_eq_left (by omega)]
  have hA : (cs.take (k * 7)).length = k * 7 := by rw [List.length_take]; omega
  rw [List.take_append, hA, List.take_of_length_le (show (cs.take (k * 7)).length ≤ l.length * 7 by rw [hA]; omega), List.take_append, hx, List.take_of_length_le (show ((fC f).map AV.d).length ≤ l.length * 7 - k * 7 by rw [hx]; omega), List.drop_take]
  rw [show k * 7 + 7 = (k + 1) * 7 by omega, show l.length * 7 - k * 7 - 7 = l.length * 7 - (k + 1) * 7 by omega]
structure InsR (Hs : HS) (tF : TypeId) (v : AV) (l : List F) (av : AV) (H' : HS) : Prop where
  arr : ArrF H' tF av l
  kept : Kept Hs H' v
  new : ∀ id n c, av = .arr id n c → Hs.nb ≤ id ∨ ∃ n c, v = .arr id n c
end Go.AV.Val
namespace Go.AV.Val
open Go.AV.Ord Go.AV.Oct
theorem Arr.idlt {H : HS} {e : TypeId} {sz n : Nat} {v : AV} {us : List AV} (h : Arr H e sz v n us) {id m c : Nat} (hv : v = .arr id m c) : id < H.nb := by
  cases h with
  | nil => cases hv
  | arr id n cap cs us hb hc hnc hu => cases hv; exact lt_nb hb
theorem ArrF.set {H : HS} {tF : TypeId} {id cap k : Nat} {cs : List AV} {l : List F} {x g : F} (hb : H.blks[id]? = some ⟨tF, cs, false⟩) (hc : cs.length = cap * 7) (hcap : l.length ≤ cap) (hu : cs.take (l.length * 7) = fcells l) (hg : l[k]? = some g) :
    ArrF (H.setB id ⟨tF, putL cs (k * 7) ((fC x).map .d), false⟩) tF (.arr id l.length cap) (l.set k x) := by
  have h := Arr.arr (H := H.setB id ⟨tF, putL cs (k * 7) ((fC x).map .d), false⟩) (e := tF) (sz := 7) id (l.set k x).length cap _ _ (setB_at hb) (by rw [putL_length]; exact hc) (by rw [List.length_set]; exact hcap) rfl
  rw [set_cells (f := x) hu hg (by omega)] at h
  unfold ArrF
  rw [show AV.arr id l.length cap = .arr id (l.set k x).length cap by rw [List.length_set]]
  exact h
section
variable {P : Program} [Wins P] {T : List AV} {H : HS} {dst : Option Tmp} {ty : TypeId} {pos : String} {after : Array Edge} {gd : Option (Nat × Bool)}
end
end Go.AV.Val
namespace Go.AV
open Go.RowKit
section
variable {P : Program} [Wins P] {E : Operand → AV} {H : HS} {dst : Option Tmp} {ty : TypeId} {pos : String} {after : Array Edge} {gd : Option (Nat × Bool)}
theorem equalIn_slice0 (w : World) (d : Nat) {t el : TypeId} (ht : P.underlying t = some (.slice el)) (a : Option Addr) (n c : Nat) : (Op.equalIn (d + 1) t (.slice a n c) (.slice none 0 0)).run P w = .ok a.isNone w := by
  cases a <;> simp [Op.equalIn, run_underlying ht]
theorem op_nilL {x y : Operand} {t t' el : TypeId} {sz : Nat} {xs : List DV} (ht : P.underlying t = some (.slice el)) (hx : LL (E x) sz xs) (hy : E y = nilS) :
    OpR P ⟨dst, .binOp .eql t x y t', ty, pos, after, gd⟩ E H (fun av H' => ∃ b, av = .d (TF b) ∧ (b = true → xs = []) ∧ H = H') :=
  opR_value fun B w0 c w a hI hops => by
    have h1 := hops x (by simp [Op.operands])
    have h2 := hops y (by simp [Op.operands])
    rw [hy] at h2
    obtain ⟨ad, n, cap, e, hr⟩ := hx.rep h1
    have hb : (binOp .eql t (.slice ad n cap) (.slice none 0 0)).run P w = .ok (.bool ad.isNone) w := by
      simp only [binOp]
      simp [Op.equal, Op.maxDepth, equalIn_slice0 w 9999 ht]
    refine ⟨.bool ad.isNone, w, c, .d (TF ad.isNone), H, ?_, Le.refl c, .d (.v _ rfl), hI, ad.isNone, rfl, fun h => ?_, rfl⟩
    · simp [execOp, e, h2.v_eq, eqGuard, hb]
    · cases hr with
      | lst => cases h
      | lstE => rfl
def clT (H : HS) : List DV → Option Nat
  | [] => none
  | _ :: _ => some (H.tk none)
def clH (H : HS) : List DV → HS
  | [] => H
  | x :: xs => H.up none (x :: xs).length
theorem clOk (H : HS) (xs : List DV) : (clH H xs).ok (clT H xs) xs.length := by
  cases xs with
  | nil => exact HS.ok_none _ _
  | cons x xs => exact HS.ok_up H none _ (HS.ok_none H 0)
theorem clH_blks (H : HS) (xs : List DV) : (clH H xs).blks = H.blks := by
  cases xs with
  | nil => rfl
  | cons x xs => simp [clH, HS.up_blks]
theorem clExt {B H : HS} (h : Ext B H) (xs : List DV) : Ext B (clH H xs) := by
  cases xs with
  | nil => exact h
  | cons x xs => exact h.new _
theorem clNew {B H : HS} (h : Ext B H) (xs : List DV) : NewTok B (clT H xs) := by
  obtain ⟨l, hl⟩ := h.toks
  cases xs with
  | nil => exact NewTok.none _
  | cons x xs => intro i hi; cases hi; simp [HS.tk, hl]
end
end Go.AV
namespace Go.AV
open Go.RowKit
section
variable {P : Program} [Wins P] {E : Operand → AV} {H : HS} {dst : Option Tmp} {ty : TypeId} {pos : String} {after : Array Edge} {gd : Option (Nat × Bool)}
end
theorem ACalls.tidyP2 {P : Program} [Wins P] {f : FuncId} {args : List AV} {H : HS} {m : List DV} {ed : DV} (h1 : ∀ d ∈ m, d.one = true)
    (h : ACalls P f args H fun av H' => Ext H H' ∧ ∃ l, av = .tup [.agg l, .d ed] ∧ (Weaks l (m.map .d) ∨ ∃ id n cap sz xs b, H.nb ≤ id ∧ H'.blks[id]? = some b ∧ b.cs.take (flat xs).length = (flat xs).map .d ∧ (flat xs).length ≤ b.cs.length ∧ xs.length = n ∧ n ≤ cap ∧ (∀ x ∈ xs, x.cells.length = sz) ∧ (∀ d ∈ flat xs, d.one = true) ∧ Becomes id n cap sz xs l m)) :
    ACalls P f args H (Ret (.tup [.d (.agg m), .d ed]) H) := by
  intro B w0 c w t vs hI hB hs ha kind cs hk hn
  refine h B w0 c w t vs hI hB hs ha kind cs hk ?_
  rintro v w' c' av H' t' fr q1 q2 q3 hB' ⟨⟨⟨l1, h5⟩, ⟨l2, h6⟩, hmm, hxx⟩, l, rfl, hl⟩ hL
  have hcut : H'.cut H.blks.length H.toks.length = H := by
    cases H
    simp only [HS.cut, h5, h6, List.take_left, hmm, hxx]
  have hfit : ∀ i b, i < H.blks.length → H'.blks[i]? = some b → ∀ j (hj : j < b.cs.length), Fits H.blks.length H.toks.length b.cs[j] := fun i b hi hb j hj => by
    have hb' : H.blks[i]? = some b := by rw [h5, List.getElem?_append_left (by omega)] at hb; exact hb
    have hlt : i < c.blk.length := by rw [hI.blkLen]; exact hi
    obtain ⟨_, _, cur, fr, _, _, _, q⟩ := hI.blk i _ b (List.getElem?_eq_getElem hlt) hb'
    have := (q j hj).fits
    rwa [hI.blkLen, hI.tokLen] at this
  have hmfit : MFits H.blks.length H.toks.length H' := fun i ps asg bd st pend T hm => hI.mfits i ps asg bd st pend T (hmm ▸ hm)
  have hblk : ∀ (i g : Nat), c.blk[i]? = some g → (c'.blk.take H.blks.length)[i]? = some g := fun i g hi => by
    have : i < c.blk.length := (List.getElem?_eq_some_iff.1 hi).1
    rw [List.getElem?_take, if_pos (by have := hI.blkLen; omega)]
    exact q1.blk i g hi
  have htok : ∀ (i : Nat) (e : Tok), c.tok[i]? = some e → ∃ e' : Tok, (c'.tok.take H.toks.length)[i]? = some e' ∧ (e' = e ∨ e.mark < e'.mark) := fun i e he => by
    have : i < c.tok.length := (List.getElem?_eq_some_iff.1 he).1
    obtain ⟨e', q1, q2⟩ := q1.tok i e he
    refine ⟨e', ?_, q2⟩
    rw [List.getElem?_take, if_pos (by have := hI.tokLen; omega)]
    exact q1
  have hv2 : ∃ u0 u1 : Value, v = .tuple #[u0, u1] ∧ Rep c' u0 (.agg l) ∧ Rep c' u1 (.d ed) := by
    generalize ha : AV.tup [AV.agg l, .d ed] = av at q2
    cases q2 with
    | tup us cs hl hr =>
      cases ha
      obtain ⟨ul⟩ := us
      match ul, hl with
      | [u0, u1], _ => exact ⟨u0, u1, rfl, hr 0 (by simp), hr 1 (by simp)⟩
    | _ => cases ha
  obtain ⟨u0, u1, rfl, q2a, q2b⟩ := hv2
  have hv : ∃ us : Array Value, u0 = .agg us ∧ us.size = l.length ∧ ∀ i (hi : i < l.length), Rep c' (us.getD i undef) l[i] := by
    generalize ha : AV.agg l = av at q2a
    cases q2a with
    | agg us cs hl hr => cases ha; exact ⟨us, rfl, hl, hr⟩
    | _ => cases ha
  obtain ⟨us, rfl, hul, hur⟩ := hv
  have two : ∀ {k : Ctx}, Rep k (.agg us) (.d (.agg m)) → Rep k u1 (.d ed) → Rep k (.tuple #[.agg us, u1]) (.tup [.d (.agg m), .d ed]) := fun h1 h2 => .tup _ _ rfl fun i hi => by
    match i, hi with
    | 0, _ => exact h1
    | 1, _ => exact h2
  rcases hl with hw | ⟨id, n, cap, sz, xs, b, hid, hb, hd, hlen, hxn, hnc, hsz, hone, hbec⟩
  · have i1 := q3.cut H.blks.length H.toks.length hfit hmfit
    rw [hcut] at i1
    refine hn (.tuple #[.agg us, u1]) w' (c'.cut H.blks.length H.toks.length) (.tup [.d (.agg m), .d ed]) H t' fr ⟨q1.mem, hblk, htok, q1.maps, q1.me⟩ (two (.d (.agg us m (by rw [hul, hw.len, List.length_map]) h1 fun i hi => ?_)) (.d (q2b.d_inv.mono (fun _ _ _ h => h)))) i1 hB' ⟨rfl, rfl⟩ hL
    have := hw.get c' (fun i => us.getD i undef) hur i (by rw [List.length_map]; exact hi)
    rw [List.getElem_map] at this
    exact this.d_inv.mono (fun _ _ _ h => h)
  · have hidl : id < c'.blk.length := by rw [q3.blkLen]; exact (List.getElem?_eq_some_iff.1 hb).1
    obtain ⟨vals, i1, m1, m2, m3⟩ := q3.protect id _ b (List.getElem?_eq_getElem hidl) hb H.blks.length H.toks.length hid hfit hmfit (flat xs) hd hlen
    rw [hcut] at i1
    refine hn (.tuple #[.agg us, u1]) w' ((c'.cut H.blks.length H.toks.length).prot c'.blk[id] (flat xs).length vals) (.tup [.d (.agg m), .d ed]) H t' fr ⟨fun g o u hm => m1 g o u (q1.mem g o u hm), hblk, htok, q1.maps, q1.me⟩ (two (.d (.agg us m (by rw [hul, hbec.len]) h1 ?_)) (.d (q2b.d_inv.mono m1))) i1 (hB'.mono m1 fun _ h => h) ⟨rfl, rfl⟩ hL
    refine hbec.get (c := c') m1 (fun y hy => ?_) (fun i => us.getD i undef) hur
    obtain ⟨g, hg, rfl⟩ := arr_val hy
    rw [List.getElem?_eq_getElem hidl] at hg
    cases hg
    exact .lst _ 0 n cap sz xs vals hxn hnc hsz hone (fun i hi => by rw [Nat.zero_add]; exact m2 i hi) (fun i hi => (m3 i hi).mono m1)
end Go.AV
namespace Go.AV
open Go.RowKit
def getE : List (List UInt8 × DV) → List UInt8 → Option DV
  | [], _ => none
  | e :: es, k => if e.1 = k then some e.2 else getE es k
def putE : List (List UInt8 × DV) → List UInt8 → DV → List (List UInt8 × DV)
  | [], k, v => [(k, v)]
  | e :: es, k, v => if e.1 = k then (k, v) :: es else e :: putE es k v
def delE : List (List UInt8 × DV) → List UInt8 → List (List UInt8 × DV)
  | [], _ => []
  | e :: es, k => if e.1 = k then es else e :: delE es k
def atE : List (List UInt8 × DV) → List UInt8 → Option Nat
  | [], _ => none
  | e :: es, k => if e.1 = k then some 0 else (atE es k).map (· + 1)
theorem atE_none : ∀ {es : List (List UInt8 × DV)} {k : List UInt8}, atE es k = none → getE es k = none ∧ (∀ v, putE es k v = es ++ [(k, v)]) ∧ delE es k = es
  | [], _, _ => ⟨rfl, fun _ => rfl, rfl⟩
  | e :: es, k, h => by
    by_cases hk : e.1 = k
    · simp [atE, hk] at h
    · simp only [atE, if_neg hk, Option.map_eq_none_iff] at h
      obtain ⟨h1, h2, h3⟩ := atE_none h
      exact ⟨by simp [getE, hk, h1], fun v => by simp [putE, hk, h2], by simp [delE, hk, h3]⟩
theorem atE_some : ∀ {es : List (List UInt8 × DV)} {k : List UInt8} {i : Nat}, atE es k = some i → ∃ d, es[i]? = some (k, d) ∧ getE es k = some d ∧ (∀ v, putE es k v = es.set i (k, v)) ∧ delE es k = es.eraseIdx i
  | [], _, _, h => by simp [atE] at h
  | e :: es, k, i, h => by
    by_cases hk : e.1 = k
    · simp only [atE, if_pos hk, Option.some.injEq] at h
      subst h
      exact ⟨e.2, by rw [← hk]; rfl, by simp [getE, hk], fun v => by simp [putE, hk], by simp [delE, hk]⟩
    · simp only [atE, if_neg hk] at h
      cases hi : atE es k with
      | none => rw [hi] at h; cases h
      | some j =>
        rw [hi] at h
        cases h
        obtain ⟨d, h1, h2, h3, h4⟩ := atE_some hi
        exact ⟨d, by simpa using h1, by simp [getE, hk, h2], fun v => by simp [putE, hk, h3], by simp [delE, hk, h4]⟩
def HS.nm (H : HS) : Nat := H.maps.length
def HS.pushM (H : HS) (m : MB) : HS := { H with maps := H.maps ++ [m] }
def HS.setM (H : HS) (i : Nat) (m : MB) : HS := { H with maps := H.maps.set i m }
theorem MapObj.find {m : Mem} {xs : Array MapEntry} {clock : Nat} {k : List UInt8} : ∀ {l : List MapEntry} {es : List (List UInt8 × DV)} (i0 : Nat) (_ : l.length = es.length) (_ : ∀ i (h : i < es.length), ∃ e, l[i]? = some e ∧ e.key = .string ⟨(es[i]).1.toArray⟩ ∧ RepD m e.val (es[i]).2),
    Instr.findNow .string (.string ⟨k.toArray⟩) l i0 = some ((atE es k).bind fun i => (l[i]?).map fun e => (i0 + i, e.val))
  | [], [], _, _, _ => rfl
  | [], _ :: _, _, h, _ => by simp at h
  | _ :: _, [], _, h, _ => by simp at h
  | e :: l, d :: es, i0, hl, hr => by
    obtain ⟨e', h1, h2, _⟩ := hr 0 (by simp)
    simp only [List.getElem?_cons_zero, Option.some.injEq] at h1
    subst h1
    simp only [List.getElem_cons_zero] at h2
    have ih := MapObj.find (m := m) (xs := xs) (clock := clock) (k := k) (l := l) (es := es) (i0 + 1) (by simpa using hl) fun i hi => by
      have := hr (i + 1) (by simpa using hi)
      simpa using this
    by_cases hk : d.1 = k
    · have hb : ((⟨k.toArray⟩ : ByteArray) == ⟨d.1.toArray⟩) = true := by rw [hk]; exact (MapKept.bytes_beq _ _).2 rfl
      simp only [Instr.findNow, h2, Instr.sameNow, hb, atE, if_pos hk]
      rfl
    · have hb : ((⟨k.toArray⟩ : ByteArray) == ⟨d.1.toArray⟩) = false := by
        cases hh : ((⟨k.toArray⟩ : ByteArray) == ⟨d.1.toArray⟩) with
        | false => rfl
        | true =>
          have := (MapKept.bytes_beq _ _).1 hh
          injection this with this
          exact absurd (by simpa using this.symm) hk
      simp only [Instr.findNow, h2, Instr.sameNow, hb, atE, if_neg hk, ih]
      cases ha : atE es k with
      | none => rfl
      | some j => simp [Nat.add_assoc, Nat.add_comm 1 j]
section
variable {P : Program} [Wins P] {E : Operand → AV} {H : HS} {dst : Option Tmp} {ty : TypeId} {pos : String} {after : Array Edge} {gd : Option (Nat × Bool)}
theorem Inv.allocM {B : Nat} {w0 w : World} {c : Ctx} {H : HS} (h : Inv B w0 c H w) (o : Obj) (m : MB) (ho : MIs c (w.alloc o) m w.heap.size) :
    Inv B w0 { c with maps := c.maps ++ [w.heap.size] } (H.pushM m) (w.alloc o) ∧ Le c { c with maps := c.maps ++ [w.heap.size] } := by
  have hle : Le c { c with maps := c.maps ++ [w.heap.size] } := by
    refine ⟨fun _ _ _ h => h, fun _ _ h => h, fun _ e h => ⟨e, h, .inl rfl⟩, fun i g hi => ?_, rfl⟩
    have : i < c.maps.length := (List.getElem?_eq_some_iff.1 hi).1
    show (c.maps ++ [w.heap.size])[i]? = some g
    rw [List.getElem?_append_left this]; exact hi
  have h' := h.alloc o
  have hlt : ∀ i g, c.maps[i]? = some g → g < w.heap.size := fun i g hi => by
    have hil : i < c.maps.length := (List.getElem?_eq_some_iff.1 hi).1
    obtain ⟨_, q⟩ := h.maps.is i g _ hi (List.getElem?_eq_getElem (h.maps.len ▸ hil))
    obtain ⟨o', q1, _⟩ := q.obj
    exact (Array.getElem?_eq_some_iff.1 q1).1
  have cs : ∀ i g, (c.maps ++ [w.heap.size])[i]? = some g → (c.maps[i]? = some g ∧ i < c.maps.length) ∨ (i = c.maps.length ∧ g = w.heap.size) := by
    intro i g hi
    by_cases hlt : i < c.maps.length
    · rw [List.getElem?_append_left hlt] at hi
      exact .inl ⟨hi, hlt⟩
    · rw [List.getElem?_append_right (by omega)] at hi
      have : i - c.maps.length = 0 := by
        have := (List.getElem?_eq_some_iff.1 hi).1
        simp at this; omega
      rw [this] at hi
      simp at hi
      exact .inr ⟨by omega, hi.symm⟩
  refine ⟨⟨h'.base, h'.below, h'.mem, h'.blkLen, fun i g b hg hb => ?_, h'.blkInj, h'.tokLen, h'.tok, h'.tokInj, ⟨?_, fun i j g hi hj => ?_, fun i g m' hg hm => ?_⟩, h'.cx, h'.xok⟩, hle⟩
  · obtain ⟨h1, h2, cur, fr, h3, h4, h5, h6⟩ := h'.blk i g b hg hb
    exact ⟨h1, h2, cur, fr, h3, h4, h5, fun j hj => (h6 j hj).mono hle⟩
  · simp [HS.pushM, h.maps.len]
  · rcases cs i g hi with ⟨hi', _⟩ | ⟨rfl, rfl⟩
    · rcases cs j g hj with ⟨hj', _⟩ | ⟨rfl, rfl⟩
      · exact h.maps.inj i j g hi' hj'
      · have := hlt _ _ hi'; omega
    · rcases cs j _ hj with ⟨hj', _⟩ | ⟨rfl, _⟩
      · have := hlt _ _ hj'; omega
      · rfl
  · rcases cs i g hg with ⟨hi', hl⟩ | ⟨rfl, rfl⟩
    · have hm' : H.maps[i]? = some m' := by
        simp only [HS.pushM] at hm
        rwa [List.getElem?_append_left (by rw [← h.maps.len]; exact hl)] at hm
      obtain ⟨q1, q2⟩ := h.maps.is i g m' hi' hm'
      exact ⟨q1, q2.keep hle (keeps_alloc w o)⟩
    · have : m' = m := by
        simp only [HS.pushM] at hm
        rw [h.maps.len] at hm
        simpa using hm.symm
      subst this
      exact ⟨h.base, ho.keep hle (.refl _)⟩
theorem Inv.setM {B : Nat} {w0 w : World} {c : Ctx} {H : HS} (h : Inv B w0 c H w) (i g : Nat) (m m' : MB) (hg : c.maps[i]? = some g) (hm : H.maps[i]? = some m) (o : Obj) (w' : World) (hw' : w'.heap = w.heap.setIfInBounds g o) (hb : Below B w0 w')
    (ho : MIs c w' m' g) (hoc : ∀ cs e fr, o ≠ Obj.cells cs e fr) (hno : ∀ es, m = .map es → ∀ (j n : Nat) l, H.maps[j]? ≠ some (.iter (some i) n l)) : Inv B w0 c (H.setM i m') w' := by
  obtain ⟨p1, p2⟩ := h.maps.is i g m hg hm
  obtain ⟨o0, p3, p4⟩ := p2.obj
  have hset := MapKept.heap_set (o' := o) p3
  rw [← hw'] at hset
  have hcells : ∀ (k : Nat) cs e fr, w.heap[k]? = some (Obj.cells cs e fr) → w'.heap[k]? = some (Obj.cells cs e fr) := fun k cs e fr hk => by
    rw [hset.2 k (fun hh => by subst hh; rw [p3] at hk; exact p4 _ _ _ (Option.some.inj hk))]
    exact hk
  refine ⟨by rw [hw']; simpa using h.base, hb, fun g' off u hm => ?_, h.blkLen, fun k g' b hk hbk => ?_, h.blkInj, h.tokLen, fun k e he => ?_, h.tokInj, ⟨by simpa [HS.setM] using h.maps.len, h.maps.inj, fun j g' mj hj hmj => ?_⟩, h.cx, h.xok⟩
  · have h1 := h.mem g' off u hm
    have hne : g' ≠ g := fun hh => by
      subst hh
      cases o0 with
      | cells cs e fr => exact p4 _ _ _ rfl
      | _ => simp [World.cell?, p3] at h1
    simp only [World.cell?] at h1 ⊢
    rw [hset.2 g' hne]
    exact h1
  · obtain ⟨h1, h2, cur, fr, h3, h4⟩ := h.blk k g' b hk hbk
    exact ⟨h1, h2, cur, fr, hcells _ _ _ _ h3, h4⟩
  · obtain ⟨h1, h2, h3, h4, h5, cur, et, fr, h6, h7⟩ := h.tok k e he
    exact ⟨h1, h2, h3, h4, h5, cur, et, fr, hcells _ _ _ _ h6, h7⟩
  · by_cases hij : i = j
    · subst hij
      have e1 : g' = g := by rw [hg] at hj; exact (Option.some.inj hj).symm
      subst e1
      have e2 : mj = m' := by
        have hlt := (List.getElem?_eq_some_iff.1 hm).1
        simp only [HS.setM] at hmj
        rw [List.getElem?_set_self hlt] at hmj
        exact (Option.some.inj hmj).symm
      subst e2
      exact ⟨p1, ho⟩
    · have e1 : H.maps[j]? = some mj := by
        simp only [HS.setM] at hmj
        rwa [List.getElem?_set_ne hij] at hmj
      obtain ⟨q1, q2⟩ := h.maps.is j g' mj hj e1
      have hne : g' ≠ g := fun hh => hij (h.maps.inj i j g hg (hh ▸ hj))
      refine ⟨q1, ?_⟩
      cases q2 with
      | map _ es xs clock hw hx => exact .map _ es xs clock (by rw [hset.2 _ hne]; exact hw) hx
      | iter _ id r n last xs clock seen hmm hr hw hn hd hs hl =>
        by_cases hrg : r = g
        · subst hrg
          have : id = i := h.maps.inj _ _ _ hmm hg
          subst this
          cases p2 with
          | map _ es _ _ _ _ => exact absurd e1 (hno es rfl j n last)
          | iter _ _ _ _ _ _ _ _ _ _ hw2 => rw [hr] at hw2; cases hw2
          | dead _ _ _ _ _ _ _ hw2 => rw [hr] at hw2; cases hw2
          | other _ o2 hw2 _ hnm2 => rw [hr] at hw2; exact absurd (Option.some.inj hw2).symm (hnm2 _ _)
          | recd _ _ _ _ _ _ _ _ _ _ hw2 => rw [hr] at hw2; cases hw2
        · exact .iter _ id r n last xs clock seen hmm (by rw [hset.2 _ hrg]; exact hr) (by rw [hset.2 _ hne]; exact hw) hn hd hs hl
      | dead _ n last r a b seen hw => exact .dead _ n last r a b seen (by rw [hset.2 _ hne]; exact hw)
      | other _ o2 hw hn hnm => exact .other _ o2 (by rw [hset.2 _ hne]; exact hw) hn hnm
      | recd _ fn D tmps ps asg bd st pend T hw hs hT => exact .recd _ fn D tmps ps asg bd st pend T (by rw [hset.2 _ hne]; exact hw) hs hT
theorem Rep.map_inv {c : Ctx} {v : Value} {id : Nat} (h : Rep c v (.map id)) : ∃ g, v = .map (some g) ∧ c.maps[id]? = some g := by
  cases h with
  | map _ g h => exact ⟨g, rfl, h⟩
theorem Rep.iter_inv {c : Ctx} {v : Value} {id : Nat} (h : Rep c v (.iter id)) : ∃ g, v = .pointer (some ⟨g, 0, none⟩) ∧ c.maps[id]? = some g := by
  cases h with
  | iter _ g h => exact ⟨g, rfl, h⟩
theorem MIs.map_inv {c : Ctx} {w : World} {es : List (List UInt8 × DV)} {g : Nat} (h : MIs c w (.map es) g) : ∃ xs clock, w.heap[g]? = some (.map xs clock) ∧ MapObj c.mem es xs clock := by
  cases h with
  | map _ _ xs clock hw h => exact ⟨xs, clock, hw, h⟩
theorem below_set {B : Nat} {w0 w : World} (h : Below B w0 w) {g : Nat} (hg : B ≤ g) (o : Obj) : Below B w0 { w with heap := w.heap.setIfInBounds g o } :=
  h.trans ⟨rfl, rfl, rfl, by simp, fun k hk => by show (w.heap.setIfInBounds g o)[k]? = _; simp [show ¬ g = k by omega]⟩
theorem op_makeMap {t : TypeId} : OpR P ⟨dst, .makeMap t none, ty, pos, after, gd⟩ E H (Ret (.map H.nm) (H.pushM (.map []))) :=
  opR_value fun B w0 c w a hI hops => by
    have hnew := heap_new w (.map #[] 0)
    obtain ⟨i1, l1⟩ := hI.allocM (.map #[] 0) (.map []) (.map _ [] #[] 0 hnew ⟨rfl, by simp, by simp, fun i h => by simp at h⟩)
    refine ⟨.map (some w.heap.size), w.alloc (.map #[] 0), _, .map H.nm, _, ?_, l1, .map _ _ ?_, i1, rfl, rfl⟩
    · simp [execOp, Instr.makeMap]
    · simp [HS.nm, ← hI.maps.len]
theorem MapObj.look {m : Mem} {es : List (List UInt8 × DV)} {xs : Array MapEntry} {clock : Nat} (h : MapObj m es xs clock) (k : List UInt8) :
    (atE es k = none ∧ Instr.findNow .string (.string ⟨k.toArray⟩) xs.toList 0 = some none) ∨
    ∃ i e d, atE es k = some i ∧ xs[i]? = some e ∧ e.key = .string ⟨k.toArray⟩ ∧ getE es k = some d ∧ RepD m e.val d ∧ Instr.findNow .string (.string ⟨k.toArray⟩) xs.toList 0 = some (some (i, e.val)) := by
  have hf := MapObj.find (m := m) (xs := xs) (clock := clock) (k := k) (l := xs.toList) (es := es) 0 (by simpa using h.len) fun i hi => by
    have := h.rep i hi
    simpa using this
  cases ha : atE es k with
  | none => exact .inl ⟨rfl, by rw [hf, ha]; rfl⟩
  | some i =>
    obtain ⟨d, h1, h2, _⟩ := atE_some ha
    have hi := (List.getElem?_eq_some_iff.1 h1).1
    obtain ⟨e, q1, q2, q3⟩ := h.rep i hi
    have he : es[i] = (k, d) := (List.getElem?_eq_some_iff.1 h1).2
    rw [he] at q2 q3
    refine .inr ⟨i, e, d, rfl, q1, q2, h2, q3, ?_⟩
    rw [hf, ha]
    simp [q1]
theorem MapObj.put {m : Mem} {es : List (List UInt8 × DV)} {xs : Array MapEntry} {clock i : Nat} {k : List UInt8} {v : Value} {d : DV} (h : MapObj m es xs clock) (hv : RepD m v d) :
    MapObj m (es.set i (k, d)) (xs.modify i fun e => { e with key := .string ⟨k.toArray⟩, val := v }) clock := by
  have hborn : (xs.modify i fun e => { e with key := .string ⟨k.toArray⟩, val := v }).toList.map (·.born) = xs.toList.map (·.born) := by
    apply List.ext_getElem?
    intro j
    simp only [List.getElem?_map, Array.getElem?_toList, Array.getElem?_modify]
    by_cases hij : i = j
    · subst hij
      cases he : xs[i]? with
      | none => simp
      | some e => simp
    · simp [hij]
  refine ⟨by simpa using h.len, by rw [hborn]; exact h.born, fun x hx => ?_, fun j hj => ?_⟩
  · have : x.born ∈ xs.toList.map (·.born) := by rw [← hborn]; exact List.mem_map.2 ⟨x, hx, rfl⟩
    obtain ⟨y, hy, e⟩ := List.mem_map.1 this
    rw [← e]; exact h.lt y hy
  · have hj' : j < es.length := by simpa using hj
    obtain ⟨e, q1, q2, q3⟩ := h.rep j hj'
    by_cases hij : i = j
    · subst hij
      exact ⟨{ e with key := .string ⟨k.toArray⟩, val := v }, by simp [Array.getElem?_modify, q1], by simp, by simpa using hv⟩
    · exact ⟨e, by simp [Array.getElem?_modify, hij, q1], by simpa [List.getElem_set_ne hij] using q2, by simpa [List.getElem_set_ne hij] using q3⟩
theorem MapObj.push {m : Mem} {es : List (List UInt8 × DV)} {xs : Array MapEntry} {clock : Nat} {k : List UInt8} {v : Value} {d : DV} (h : MapObj m es xs clock) (hv : RepD m v d) :
    MapObj m (es ++ [(k, d)]) (xs.push { key := .string ⟨k.toArray⟩, val := v, born := clock }) (clock + 1) := by
  refine ⟨by simp [h.len], ?_, fun x hx => ?_, fun j hj => ?_⟩
  · simp only [Array.toList_push, List.map_append, List.map_cons, List.map_nil]
    refine List.nodup_append.2 ⟨h.born, by simp, fun a ha b hb => ?_⟩
    simp only [List.mem_singleton] at hb
    subst hb
    obtain ⟨x, hx, rfl⟩ := List.mem_map.1 ha
    exact Nat.ne_of_lt (h.lt x hx)
  · simp only [Array.toList_push, List.mem_append, List.mem_singleton] at hx
    rcases hx with hx | rfl
    · exact Nat.lt_succ_of_lt (h.lt x hx)
    · exact Nat.lt_succ_self _
  · by_cases hlt : j < es.length
    · obtain ⟨e, q1, q2, q3⟩ := h.rep j hlt
      refine ⟨e, ?_, by rw [List.getElem_append_left hlt]; exact q2, by rw [List.getElem_append_left hlt]; exact q3⟩
      have : j < xs.size := by rw [h.len]; exact hlt
      rw [Array.getElem?_push, if_neg (by omega)]
      exact q1
    · have hje : j = es.length := by simp at hj; omega
      subst hje
      refine ⟨_, by rw [← h.len, Array.getElem?_push, if_pos rfl], by simp, by simpa using hv⟩
theorem op_lookup {x k : Operand} {t kt et : TypeId} {z : Value} {id : Nat} {es : List (List UInt8 × DV)} {l : List UInt8} {d0 : DV} (ht : P.underlying t = some (.map kt et)) (hkt : P.underlying kt = some .string) (hz : (P.info? et).map (·.zero) = some (some z))
    (hd : ∀ m, RepD m z d0) (hx : E x = .map id) (hl : E k = .d (S l)) (hm : H.maps[id]? = some (.map es)) : OpR P ⟨dst, .lookup t x k false, ty, pos, after, gd⟩ E H (Ret (.d ((getE es l).getD d0)) H) :=
  opR_value fun B w0 c w a hI hops => by
    have h1 := hops x (by simp [Op.operands])
    have h2 := hops k (by simp [Op.operands])
    rw [hx] at h1
    rw [hl] at h2
    obtain ⟨g, ev, hg⟩ := h1.map_inv
    have ek := h2.v_eq
    obtain ⟨_, q⟩ := hI.maps.is id g _ hg hm
    obtain ⟨xs, clock, hw, ho⟩ := q.map_inv
    obtain ⟨inf, hi1, hi2⟩ := Option.map_eq_some_iff.1 hz
    have hzv : ∀ w, (zeroValue et).run P w = .ok z w := fun w => by simp [zeroValue, typeInfo, hi1, hi2]
    have hck : ∀ e, (Instr.checkKey e 10000 kt (.string ⟨l.toArray⟩)).run P w = .ok () w := fun e => MapKept.run_checkKey hkt (show MapKept.IsKey .string (.string _) from trivial) e 9999
    rcases ho.look l with ⟨p1, p2⟩ | ⟨i, e, d, p1, p2, p3, p4, p5, p6⟩
    · refine ⟨z, w, c, _, H, ?_, Le.refl c, .d (hd _), hI, ?_, rfl⟩
      · simp [execOp, Instr.lookup, ev, ek, run_underlying ht, MapKept.run_getObj_map hw, hck, MapKept.run_findKey hkt p2, hzv]
      · rw [(atE_none p1).1]; rfl
    · refine ⟨e.val, w, c, _, H, ?_, Le.refl c, .d p5, hI, ?_, rfl⟩
      · simp [execOp, Instr.lookup, ev, ek, run_underlying ht, MapKept.run_getObj_map hw, hck, MapKept.run_findKey hkt p6]
      · rw [p4]; rfl
theorem op_lookup2 {x k : Operand} {t kt et : TypeId} {z : Value} {id : Nat} {es : List (List UInt8 × DV)} {l : List UInt8} {d0 : DV} (ht : P.underlying t = some (.map kt et)) (hkt : P.underlying kt = some .string) (hz : (P.info? et).map (·.zero) = some (some z))
    (hd : ∀ m, RepD m z d0) (hx : E x = .map id) (hl : E k = .d (S l)) (hm : H.maps[id]? = some (.map es)) : OpR P ⟨dst, .lookup t x k true, ty, pos, after, gd⟩ E H (Ret (.tup [.d ((getE es l).getD d0), .d (TF (getE es l).isSome)]) H) :=
  opR_value fun B w0 c w a hI hops => by
    have h1 := hops x (by simp [Op.operands])
    have h2 := hops k (by simp [Op.operands])
    rw [hx] at h1
    rw [hl] at h2
    obtain ⟨g, ev, hg⟩ := h1.map_inv
    have ek := h2.v_eq
    obtain ⟨_, q⟩ := hI.maps.is id g _ hg hm
    obtain ⟨xs, clock, hw, ho⟩ := q.map_inv
    obtain ⟨inf, hi1, hi2⟩ := Option.map_eq_some_iff.1 hz
    have hzv : ∀ w, (zeroValue et).run P w = .ok z w := fun w => by simp [zeroValue, typeInfo, hi1, hi2]
    have hck : ∀ e, (Instr.checkKey e 10000 kt (.string ⟨l.toArray⟩)).run P w = .ok () w := fun e => MapKept.run_checkKey hkt (show MapKept.IsKey .string (.string _) from trivial) e 9999
    have two : ∀ {u0 u1 : Value} {a b : AV}, Rep c u0 a → Rep c u1 b → Rep c (.tuple #[u0, u1]) (.tup [a, b]) := fun h1 h2 => .tup _ _ rfl fun i hi => by
      match i, hi with
      | 0, _ => exact h1
      | 1, _ => exact h2
    rcases ho.look l with ⟨p1, p2⟩ | ⟨i, e, d, p1, p2, p3, p4, p5, p6⟩
    · refine ⟨.tuple #[z, .bool false], w, c, _, H, ?_, Le.refl c, ?_, hI, rfl, rfl⟩
      · simp [execOp, Instr.lookup, ev, ek, run_underlying ht, MapKept.run_getObj_map hw, hck, MapKept.run_findKey hkt p2, hzv]
      · rw [(atE_none p1).1]; exact two (.d (hd _)) (.d (.v _ rfl))
    · refine ⟨.tuple #[e.val, .bool true], w, c, _, H, ?_, Le.refl c, ?_, hI, rfl, rfl⟩
      · simp [execOp, Instr.lookup, ev, ek, run_underlying ht, MapKept.run_getObj_map hw, hck, MapKept.run_findKey hkt p6]
      · rw [p4]; exact two (.d p5) (.d (.v _ rfl))
theorem op_lenMap {x : Operand} {t kt et : TypeId} {id : Nat} {es : List (List UInt8 × DV)} (ht : P.underlying t = some (.map kt et)) (hx : E x = .map id) (hm : H.maps[id]? = some (.map es)) :
    OpR P ⟨dst, .call ⟨.builtin .len, #[x], #[t]⟩, ty, pos, after, gd⟩ E H (Ret (.d (I es.length)) H) :=
  opR_value fun B w0 c w a hI hops => by
    have h1 := hops x (by simp [Op.operands, Call.operands])
    rw [hx] at h1
    obtain ⟨g, ev, hg⟩ := h1.map_inv
    obtain ⟨_, q⟩ := hI.maps.is id g _ hg hm
    obtain ⟨xs, clock, hw, ho⟩ := q.map_inv
    refine ⟨.int .i64 es.length, w, c, _, H, ?_, Le.refl c, .d (.v _ rfl), hI, rfl, rfl⟩
    simp [execOp, resolve, invoke, builtin, Builtin.len_, ev, run_underlying ht, MapKept.run_getObj_map hw, goInt, ho.len]
theorem op_range {x : Operand} {t kt et : TypeId} {id : Nat} {es : List (List UInt8 × DV)} (ht : P.underlying t = some (.map kt et)) (hx : E x = .map id) (hm : H.maps[id]? = some (.map es)) :
    OpR P ⟨dst, .range t x, ty, pos, after, gd⟩ E H (Ret (.iter H.nm) (H.pushM (.iter (some id) 0 none))) :=
  opR_value fun B w0 c w a hI hops => by
    have h1 := hops x (by simp [Op.operands])
    rw [hx] at h1
    obtain ⟨g, ev, hg⟩ := h1.map_inv
    obtain ⟨_, q⟩ := hI.maps.is id g _ hg hm
    obtain ⟨xs, clock, hw, ho⟩ := q.map_inv
    have hg' : (c.maps ++ [w.heap.size])[id]? = some g := by rw [List.getElem?_append_left (List.getElem?_eq_some_iff.1 hg).1]; exact hg
    have hnew := heap_new w (.mapIter (some g) clock #[] clock)
    have i0 : Inv B w0 { c with maps := c.maps ++ [w.heap.size] } (H.pushM (.iter (some id) 0 none)) (w.alloc (.mapIter (some g) clock #[] clock)) ∧ Le c { c with maps := c.maps ++ [w.heap.size] } := by
      obtain ⟨i1, l1⟩ := hI.allocM (.mapIter (some g) clock #[] clock) (.iter none 0 none) (.dead _ 0 none (some g) clock clock #[] hnew)
      refine ⟨⟨i1.base, i1.below, i1.mem, i1.blkLen, i1.blk, i1.blkInj, i1.tokLen, i1.tok, i1.tokInj, ⟨by simpa [HS.pushM] using i1.maps.len, i1.maps.inj, fun i g' m' hi hm' => ?_⟩, i1.cx, i1.xok⟩, l1⟩
      by_cases hlt : i < H.maps.length
      · refine i1.maps.is i g' m' hi ?_
        simp only [HS.pushM] at hm' ⊢
        rwa [List.getElem?_append_left hlt] at hm' ⊢
      · have hlen := hI.maps.len
        have hie : i = H.maps.length := by
          have := (List.getElem?_eq_some_iff.1 hm').1
          simp [HS.pushM] at this
          omega
        subst hie
        have e1 : m' = .iter (some id) 0 none := by simpa [HS.pushM] using hm'.symm
        have e2 : g' = w.heap.size := by
          have : (c.maps ++ [w.heap.size])[H.maps.length]? = some g' := hi
          rw [← hlen] at this
          simpa using this.symm
        subst e1 e2
        exact ⟨hI.base, .iter _ id g 0 none xs clock #[] hg' (by rw [heap_old w _ (Array.getElem?_eq_some_iff.1 hw).1]; exact hw) hnew rfl (by simp) (by simp) (by simp)⟩
    refine ⟨.pointer (some ⟨w.heap.size, 0, none⟩), w.alloc (.mapIter (some g) clock #[] clock), _, .iter H.nm, _, ?_, i0.2, .iter _ _ ?_, i0.1, rfl, rfl⟩
    · simp [execOp, Instr.range, ev, run_underlying ht, MapKept.run_getObj_map hw]
    · simp [HS.nm, ← hI.maps.len]
theorem nodup_len : ∀ {l m : List Nat}, l.Nodup → (∀ x ∈ l, x ∈ m) → l.length ≤ m.length
  | [], _, _, _ => Nat.zero_le _
  | x :: l, m, h, hs => by
    have hx := hs x (List.mem_cons_self ..)
    have hn := List.nodup_cons.1 h
    have := nodup_len (l := l) (m := m.erase x) hn.2 fun y hy => (List.mem_erase_of_ne (fun e => hn.1 (by rw [← e]; exact hy))).2 (hs y (List.mem_cons_of_mem _ hy))
    have e := List.length_erase_of_mem hx
    have : 0 < m.length := List.length_pos_iff.2 (fun e => by rw [e] at hx; cases hx)
    simp only [List.length_cons]
    omega
theorem op_next {x : Operand} {id j n : Nat} {last : Option (List UInt8 × DV)} {es : List (List UInt8 × DV)} (hx : E x = .iter j) (hj : H.maps[j]? = some (.iter (some id) n last)) (hm : H.maps[id]? = some (.map es)) :
    OpR P ⟨dst, .next x false, ty, pos, after, gd⟩ E H (fun v H' => (v = .tup [.d (TF false)] ∧ H' = H) ∨
      ∃ k d, (k, d) ∈ es ∧ n < es.length ∧ v = .tup [.d (TF true), .d (S k), .d d] ∧ H' = H.setM j (.iter (some id) (n + 1) (some (k, d)))) :=
  opR_value fun B w0 c w a hI hops => by
    have h1 := hops x (by simp [Op.operands])
    rw [hx] at h1
    obtain ⟨g, ev, hg⟩ := h1.iter_inv
    obtain ⟨q0, q⟩ := hI.maps.is j g _ hg hj
    cases q with
    | iter _ _ r _ _ xs clock seen hmm hr hw hn hd hs hl =>
    obtain ⟨_, q2⟩ := hI.maps.is id r _ hmm hm
    obtain ⟨xs', clock', hw', ho⟩ := q2.map_inv
    rw [hr] at hw'
    injection hw' with hw'
    injection hw' with e1 e2
    subst e1 e2
    rcases run_next_at (P := P) w ty g r clock clock seen xs clock hw hr ho.lt (Nat.le_refl _) with ⟨h0, hrun⟩ | ⟨e, he, w1, hal, hrun⟩
    · refine ⟨.tuple #[.bool false], w, c, _, H, ?_, Le.refl c, .tup _ [.d (TF false)] rfl fun i hi => ?_, hI, .inl ⟨rfl, rfl⟩⟩
      · simp [execOp, ev, hrun]
      · simp at hi
        subst hi
        exact .d (.v _ rfl)
    · obtain ⟨hem, hes⟩ := mem_left he
      obtain ⟨i, hi, hie⟩ := List.getElem_of_mem hem
      have hil : i < es.length := by rw [← ho.len]; simpa using hi
      obtain ⟨e', p1, p2, p3⟩ := ho.rep i hil
      have : e' = e := by
        have h5 : xs[i]? = some e := by
          have hi' : i < xs.size := by simpa using hi
          rw [Array.getElem?_eq_getElem hi']
          simpa using hie
        rw [h5] at p1; exact (Option.some.inj p1).symm
      subst this
      have hnd : (seen.push e'.born).toList.Nodup := by
        rw [Array.toList_push]
        refine List.nodup_append.2 ⟨hd, by simp, fun a ha b hb => ?_⟩
        simp only [List.mem_singleton] at hb
        subst hb
        intro hab
        subst hab
        simp [Array.contains_iff_mem, Array.mem_def, ha] at hes
      have hsub : ∀ b ∈ (seen.push e'.born).toList, b ∈ xs.toList.map (·.born) := fun b hb => by
        rw [Array.toList_push] at hb
        rcases List.mem_append.1 hb with hb | hb
        · exact hs b hb
        · simp only [List.mem_singleton] at hb
          subst hb
          exact List.mem_map.2 ⟨e', hem, rfl⟩
      have hlen : n < es.length := by
        have := nodup_len hnd hsub
        simp only [Array.toList_push, List.length_append, Array.length_toList, List.length_cons, List.length_nil, List.length_map] at this
        have := ho.len
        omega
      have hw1 : w1.heap = w.heap := by rcases hal with rfl | rfl <;> rfl
      have hb1 : Below B w0 w1 := by
        rcases hal with rfl | rfl
        · exact hI.below
        · exact hI.below.drew
      have hset := MapKept.heap_set (o' := Obj.mapIter (some r) clock (seen.push e'.born) clock) hw
      have hrg : r ≠ g := fun hh => by subst hh; rw [hr] at hw; cases hw
      refine ⟨.tuple #[.bool true, e'.key, e'.val], _, c, .tup [.d (TF true), .d (S (es[i]).1), .d (es[i]).2], _, by simp only [execOp, ev]; rw [Sem.run_bind, hrun]; rfl, Le.refl c, ?_,
        hI.setM j g _ (.iter (some id) (n + 1) (some ((es[i]).1, (es[i]).2))) hg hj (.mapIter (some r) clock (seen.push e'.born) clock) _ (by show w1.heap.setIfInBounds _ _ = _; rw [hw1]) (below_set hb1 q0 _) ?_ (by intros; simp) (fun es' he => by cases he),
        .inr ⟨(es[i]).1, (es[i]).2, List.getElem_mem hil, hlen, rfl, rfl⟩⟩
      · refine .tup _ _ rfl fun m hm' => ?_
        match m, hm' with
        | 0, _ => exact .d (.v _ rfl)
        | 1, _ => rw [show (#[Value.bool true, e'.key, e'.val] : Array Value).getD 1 undef = e'.key from rfl, p2]; exact .d (.v _ rfl)
        | 2, _ => exact .d p3
      · refine .iter _ id r (n + 1) _ xs clock (seen.push e'.born) hmm ?_ ?_ (by simp [hn]) hnd hsub fun k d hkd => ?_
        · show (w1.heap.setIfInBounds _ _)[r]? = _
          rw [hw1, hset.2 r hrg]; exact hr
        · show (w1.heap.setIfInBounds _ _)[g]? = _
          rw [hw1]; exact hset.1
        · simp only [Option.some.injEq, Prod.mk.injEq] at hkd
          obtain ⟨rfl, rfl⟩ := hkd
          exact ⟨e', hem, seen, rfl, p2, p3⟩
theorem op_entry {x : Operand} {id j n : Nat} {k : List UInt8} {d : DV} {es : List (List UInt8 × DV)} (hx : E x = .iter j) (hj : H.maps[j]? = some (.iter (some id) n (some (k, d)))) (hm : H.maps[id]? = some (.map es)) :
    OpR P ⟨dst, .entry x, ty, pos, after, gd⟩ E H (Ret (.tup [.d (S k), .d d]) H) :=
  opR_value fun B w0 c w a hI hops => by
    have h1 := hops x (by simp [Op.operands])
    rw [hx] at h1
    obtain ⟨g, ev, hg⟩ := h1.iter_inv
    obtain ⟨q0, q⟩ := hI.maps.is j g _ hg hj
    cases q with
    | iter _ _ r _ _ xs clock seen hmm hr hw hn hd hs hl =>
    obtain ⟨_, q2⟩ := hI.maps.is id r _ hmm hm
    obtain ⟨xs', clock', hw', ho⟩ := q2.map_inv
    rw [hr] at hw'
    injection hw' with hw'
    injection hw' with e1 e2
    subst e1 e2
    obtain ⟨e, p1, s0, rfl, p3, p4⟩ := hl k d rfl
    have hrun := run_entry_at (P := P) w g r clock s0 xs clock e hw hr p1 ho.born
    refine ⟨.tuple #[e.key, e.val], w, c, _, H, by simp [execOp, ev, hrun], Le.refl c, .tup _ _ rfl fun m hm' => ?_, hI, rfl, rfl⟩
    match m, hm' with
    | 0, _ => rw [show (#[e.key, e.val] : Array Value).getD 0 undef = e.key from rfl, p3]; exact .d (.v _ rfl)
    | 1, _ => exact .d p4
theorem MapObj.erase {m : Mem} {es : List (List UInt8 × DV)} {xs : Array MapEntry} {clock i : Nat} (h : MapObj m es xs clock) (hi : i < es.length) : MapObj m (es.eraseIdx i) (xs.eraseIdxIfInBounds i) clock := by
  have hix : i < xs.size := by rw [h.len]; exact hi
  have hl : (xs.eraseIdxIfInBounds i).toList = xs.toList.eraseIdx i := by
    unfold Array.eraseIdxIfInBounds
    rw [dif_pos hix, Array.toList_eraseIdx]
  have hs : (xs.eraseIdxIfInBounds i).toList.Sublist xs.toList := by rw [hl]; exact List.eraseIdx_sublist _ _
  refine ⟨?_, (hs.map _).nodup h.born, fun x hx => h.lt x (hs.subset hx), fun j hj => ?_⟩
  · rw [← Array.length_toList, hl, List.length_eraseIdx, List.length_eraseIdx, if_pos (by simpa using hix), if_pos hi]
    simp [h.len]
  · have hje : j < es.length - 1 := by rw [List.length_eraseIdx, if_pos hi] at hj; exact hj
    have hget : ∀ k, (xs.eraseIdxIfInBounds i)[k]? = if k < i then xs[k]? else xs[k + 1]? := fun k => by
      rw [← Array.getElem?_toList, hl, List.getElem?_eraseIdx]
      simp
    have hget' : (es.eraseIdx i)[j]? = if j < i then es[j]? else es[j + 1]? := List.getElem?_eraseIdx ..
    by_cases hji : j < i
    · obtain ⟨e, q1, q2, q3⟩ := h.rep j (by omega)
      have e1 : (es.eraseIdx i)[j] = es[j]'(by omega) := by
        rw [if_pos hji, List.getElem?_eq_getElem hj, List.getElem?_eq_getElem (by omega)] at hget'
        exact Option.some.inj hget'
      exact ⟨e, by rw [hget, if_pos hji]; exact q1, by rw [e1]; exact q2, by rw [e1]; exact q3⟩
    · obtain ⟨e, q1, q2, q3⟩ := h.rep (j + 1) (by omega)
      have e1 : (es.eraseIdx i)[j] = es[j + 1]'(by omega) := by
        rw [if_neg hji, List.getElem?_eq_getElem hj, List.getElem?_eq_getElem (by omega)] at hget'
        exact Option.some.inj hget'
      exact ⟨e, by rw [hget, if_neg hji]; exact q1, by rw [e1]; exact q2, by rw [e1]; exact q3⟩
theorem noIter1 {H : HS} {es : List (List UInt8 × DV)} (h : H.maps = [.map es]) (id : Nat) : ∀ (j n : Nat) q, H.maps[j]? ≠ some (.iter (some id) n q) := by
  intro j n q
  rw [h]
  cases j with
  | zero => simp
  | succ j => simp
end
end Go.AV

namespace Go.AV
open Go.RowKit
section
variable {P : Program} [Wins P] {E : Operand → AV} {H : HS} {dst : Option Tmp} {ty : TypeId} {pos : String} {after : Array Edge} {gd : Option (Nat × Bool)}
theorem From.src {B : Nat} {w0 w : World} {c : Ctx} (hI : Inv B w0 c H w) {tx e' : TypeId} {v : AV} {jd off m sz : Nat} {b2 : HB} {vs : List AV} (htx : P.underlying tx = some (.slice e')) (h : From v jd off m) (hb2 : H.blks[jd]? = some b2) (hv : (b2.cs.drop off).take (m * sz) = vs) (hl : vs.length = m * sz)
    {x : Value} (hr : Rep c x v) : ∃ news : List Value, Src P tx x w sz m news ∧ news.length = m * sz ∧ ∀ i (hi : i < news.length) (hi' : i < vs.length), Rep c news[i] vs[i] := by
  obtain ⟨g2, cap2, hg2, rfl⟩ := h.val hr
  obtain ⟨r1, r2, cur2, fr2, r3, r4, r5, r6⟩ := hI.blk jd g2 b2 hg2 hb2
  have r4' : cur2.size = b2.cs.length := r4
  have hvl : off + m * sz ≤ b2.cs.length ∨ m * sz = 0 := by
    have := congrArg List.length hv
    rw [List.length_take, List.length_drop, hl] at this
    omega
  have hul : ((cur2.toList.drop off).take (m * sz)).length = m * sz := by
    rw [List.length_take, List.length_drop, Array.length_toList]
    omega
  refine ⟨(cur2.toList.drop off).take (m * sz), ⟨.inr ⟨e', htx⟩, fun w' => by simp [Builtin.lenOf], fun w' hw' => ?_⟩, hul, fun j hj hj' => ?_⟩
  · refine firstCells_of hul (fun j u hu => ?_) w' hw'
    rw [List.getElem?_take] at hu
    split at hu
    · rw [List.getElem?_drop] at hu
      simp only [World.cell?, r3]
      simpa using hu
    · cases hu
  · have hjm : j < m * sz := by omega
    have h3 : off + j < b2.cs.length := by omega
    have h4 := r6 (off + j) h3
    have h5 : vs[j] = b2.cs[off + j]'h3 := by simp [← hv]
    have h6 : ((cur2.toList.drop off).take (m * sz))[j] = cur2.getD (off + j) undef := by
      have : off + j < cur2.size := by omega
      simp [this]
    rw [h5, h6]; exact h4
theorem op_appendC {x y : Operand} {t' tx e e' : TypeId} {z : Value} {sz bytes n jd off m : Nat} {us vs : List AV} {b2 : HB} (ht : P.underlying t' = some (.slice e)) (htx : P.underlying tx = some (.slice e')) (hi : tInfo P e z sz bytes) (hzs : z.cells.size = sz) (hx : Arr H e sz (E x) n us) (hy : From (E y) jd off m)
    (hb2 : H.blks[jd]? = some b2) (hv : (b2.cs.drop off).take (m * sz) = vs) (hl : vs.length = m * sz) (hone : ∀ v ∈ vs, v.one = true) (hne : 0 < m) (hb : (n + m) * bytes ≤ 140737488355328) (hn : n + m ≤ 140737488355328) :
    OpR P ⟨dst, .call ⟨.builtin .append, #[x, y], #[t', tx]⟩, ty, pos, after, gd⟩ E H (fun av H' => Arr H' e sz av (n + m) (us ++ vs) ∧ Kept H H' (E x) ∧ ∃ id m cap, av = .arr id m cap ∧ (E x = nilS → H.nb ≤ id) ∧ ∀ j n cap, E x = .arr j n cap → id = j ∨ H.nb ≤ id) :=
  opR_value (hw := own_arrX ht (.inl ⟨_, htx⟩) hx) fun B w0 c w a hI hops => by
    have q1 := hops x (by simp [Op.operands, Call.operands])
    have q2 := hops y (by simp [Op.operands, Call.operands])
    obtain ⟨news, hsrc, hnl, hyr⟩ := hy.src hI htx hb2 hv hl q2
    have hvone : ∀ u ∈ news, u.oneCell' = true := fun u hu => by
      obtain ⟨j, hj, rfl⟩ := List.getElem_of_mem hu
      have hj' : j < vs.length := by omega
      exact (hyr j hj hj').one (hone _ (List.getElem_mem hj'))
    have hrun : ∀ r, (Builtin.append_ #[t', tx] ty #[a.eval x, a.eval y]).run P w = r → (execOp a.eval ⟨dst, .call ⟨.builtin .append, #[x, y], #[t', tx]⟩, ty, pos, after, gd⟩).run P w = r.andThen fun v w => .ok (.value v) w := by
      intro r hr
      simp [execOp, resolve, invoke, builtin, hr]
    have grow : ∀ (base : Option Addr) (cap : Nat) (olds : List Value), a.eval x = .slice base n cap → cap < n + m → olds.length = n * sz → us.length = n * sz →
        (∀ i (hi : i < olds.length) (hi' : i < us.length), Rep c olds[i] us[i]) → (∀ w', w'.heap = w.heap → (Builtin.firstCells sz n (.slice base n cap)).run P w' = .ok olds.toArray w') →
        ∃ v' w' c' av H', (execOp a.eval ⟨dst, .call ⟨.builtin .append, #[x, y], #[t', tx]⟩, ty, pos, after, gd⟩).run P w = .ok (.value v') w' ∧ Le c c' ∧ Rep c' v' av ∧ Inv B w0 c' H' w' ∧
          (Arr H' e sz av (n + m) (us ++ vs) ∧ Kept H H' (E x) ∧ ∃ id m cap, av = .arr id m cap ∧ (E x = nilS → H.nb ≤ id) ∧ ∀ j n cap, E x = .arr j n cap → id = j ∨ H.nb ≤ id) := by
      intro base cap olds hev hcap hol hul hxr hold
      have hr := run_app_grow w t' tx ty e z sz bytes ht hi (a.eval y) m news hsrc base n cap olds hold hcap hb hn
      rw [← hev] at hr
      have hge := grownCap_ge w (n + m) cap e
      generalize grownCap w (n + m) cap e = ncap at hr hge
      have hsize : (olds.toArray ++ (news.toArray ++ Builtin.zeroCells z.cells (ncap - (n + m)))).size = (us ++ vs ++ List.replicate ((ncap - (n + m)) * sz) AV.un).length := by
        simp only [Array.size_append, List.size_toArray, size_zeroCells, hzs, hol, hnl, List.length_append, List.length_replicate, hul, hl]
        omega
      have hlen : (us ++ vs ++ List.replicate ((ncap - (n + m)) * sz) AV.un).length = ncap * sz := by
        simp only [List.length_append, List.length_replicate, hul, hl, ← Nat.add_mul]
        congr 1
        omega
      obtain ⟨i1, l1⟩ := hI.drew.allocBlk (olds.toArray ++ (news.toArray ++ Builtin.zeroCells z.cells (ncap - (n + m)))) e (us ++ vs ++ List.replicate ((ncap - (n + m)) * sz) AV.un) hsize (fun j hj => by
        have e1 : (olds.toArray ++ (news.toArray ++ Builtin.zeroCells z.cells (ncap - (n + m)))).getD j undef = (((olds ++ news) ++ (Builtin.zeroCells z.cells (ncap - (n + m))).toList)[j]?).getD undef := by
          rw [Array.getD_eq_getD_getElem?, ← Array.getElem?_toList]
          simp
        rw [e1]
        by_cases h1 : j < (us ++ vs).length
        · rw [List.getElem_append_left h1]
          have h1' : j < (olds ++ news).length := by
            simp only [List.length_append, hol, hnl, hul, hl] at h1 ⊢
            exact h1
          rw [List.getElem?_append_left h1', List.getElem?_eq_getElem h1']
          show Rep c (olds ++ news)[j] _
          by_cases h2 : j < us.length
          · rw [List.getElem_append_left h2, List.getElem_append_left (by omega)]
            exact hxr j (by omega) h2
          · rw [List.getElem_append_right (by omega), List.getElem_append_right (by omega)]
            have h3 : j - olds.length < vs.length := by simp at h1; omega
            have h4 : vs[j - us.length]'(by omega) = vs[j - olds.length]'h3 := by
              congr 1
              omega
            rw [h4]
            exact hyr (j - olds.length) (by omega) h3
        · rw [List.getElem_append_right (by omega)]
          simp only [List.getElem_replicate]
          exact .un _)
      refine ⟨_, _, _, _, _, hrun _ hr, l1, .arr c.blk.length (n + m) ncap w.heap.size (by simp), i1, ?_, ⟨rfl, by simp [HS.push, HS.nb], fun j hj _ => ?_, rfl, rfl⟩, c.blk.length, _, _, rfl, fun _ => by rw [hI.blkLen]; exact Nat.le_refl _, fun _ _ _ _ => .inr (by rw [hI.blkLen]; exact Nat.le_refl _)⟩
      · refine .arr _ _ _ (us ++ vs ++ List.replicate ((ncap - (n + m)) * sz) AV.un) _ ?_ hlen hge ?_
        · rw [hI.blkLen]; simp [HS.push]
        · have : (n + m) * sz = (us ++ vs).length := by simp [hul, hl, Nat.add_mul]
          rw [this, List.take_left' rfl]
      · simp only [HS.push]
        rw [List.getElem?_append_left hj]
    cases hE : E x with
    | d dv =>
      rw [hE] at hx q1
      cases hx with
      | nil =>
        have hev := q1.v_eq
        rw [hE] at grow
        exact grow none 0 [] hev (by omega) (by simp) (by simp) (by simp) (fun w' _ => by simp [Builtin.firstCells])
    | arr id n1 cap =>
      rw [hE] at hx q1
      rw [hE] at grow
      generalize hev : a.eval x = X at q1
      cases q1 with
      | arr _ _ _ g hg =>
      cases hx with
      | arr _ _ _ cs _ hbk hc hnc hu =>
      obtain ⟨p1, p2, cur, fr, p3, p4, p5, p6⟩ := hI.blk id g _ hg hbk
      have hcz : n * sz ≤ cap * sz := Nat.mul_le_mul_right _ hnc
      have hul : us.length = n * sz := by rw [← hu]; simp; omega
      have p4' : cur.size = cs.length := p4
      by_cases hroom : n + m ≤ cap
      · have hfit : n * sz + news.length ≤ cur.size := by
          rw [hnl, p4', hc, ← Nat.add_mul]
          exact Nat.mul_le_mul_right _ hroom
        have hr := run_app_room w t' tx ty e z sz bytes ht hi (a.eval y) m news hsrc g n cap cur fr p3 (fun o _ => p5 rfl o) hvone hroom hfit
        rw [← hev] at hr
        have hal : news.length = vs.length := by rw [hnl, hl]
        have i1 := hI.putBlk id g (n * sz) _ hg hbk news vs hal (fun j hj hj' => hyr j hj hj') (by show n * sz + vs.length ≤ cs.length; omega) cur _ fr p3
        have hnb : (H.put id (n * sz) vs).nb = H.nb := by simp [HS.put, HS.nb]
        refine ⟨_, _, c, _, _, hrun _ hr, Le.refl c, .arr id (n + m) cap g hg, i1, ?_, ⟨rfl, by rw [hnb]; exact Nat.le_refl _, fun j hj hne => ?_, rfl, rfl⟩, id, n + m, cap, rfl, (fun h => by cases h), (fun j _ _ h => Or.inl (by cases h; rfl))⟩
        · refine .arr _ _ _ (putL cs (n * sz) vs) _ (by simp [HS.put, hbk]) (by rw [putL_length]; exact hc) hroom ?_
          have e1 : (n + m) * sz = n * sz + vs.length := by rw [hl, Nat.add_mul]
          rw [e1, putL_take _ _ _ (by omega), hu]
        · have hji : id ≠ j := fun h => hne n cap (by rw [h])
          simp [HS.put, hji]
      · have hol : (cur.toList.take (n * sz)).length = n * sz := by simp; omega
        refine grow _ cap (cur.toList.take (n * sz)) hev (by omega) hol hul ?_ ?_
        · intro i hi1 hi2
          have hi3 : i < cs.length := by omega
          have h1 := p6 i hi3
          have h2 : us[i] = cs[i]'hi3 := by simp [← hu]
          have h4 : i < cur.size := by omega
          have h3 : (cur.toList.take (n * sz))[i] = cur.getD i undef := by simp [h4]
          rw [h2, h3]
          exact h1
        · refine firstCells_of hol fun j u hu' => ?_
          rw [List.getElem?_take] at hu'
          split at hu'
          · simp only [World.cell?, p3]
            simpa using hu'
          · cases hu'
    | own => rw [hE] at hx; cases hx
    | un => rw [hE] at hx; cases hx
    | nv => rw [hE] at hx; cases hx
    | elt => rw [hE] at hx; cases hx
    | ptr => rw [hE] at hx; cases hx
    | sub => rw [hE] at hx; cases hx
    | agg => rw [hE] at hx; cases hx
    | tup => rw [hE] at hx; cases hx
    | fn => rw [hE] at hx; cases hx
    | map => rw [hE] at hx; cases hx
    | iter => rw [hE] at hx; cases hx
theorem op_litC {t e : TypeId} {len sz : Nat} {parts : Array (Nat × Operand)} {z : Value} {ps : List (Nat × List AV)} (cs : List AV) (ht : P.underlying t = some (.slice e)) (hz : (P.info? e).map (fun i => (i.zero, i.size)) = some (some z, sz))
    (hk : parts.toList.all (fun p => (E p.2).known) = true) (hps : parts.toList.map (fun p => (p.1, (E p.2).cells)) = ps) (hcs : fillA (fun i => some (i * sz, sz)) (List.replicate (len * sz) .un) ps = some cs)
    (hsm : len * sz ≤ 16777216) : OpR P ⟨dst, .buildSlice t len parts, ty, pos, after, gd⟩ E H (Ret (.arr H.nb len len) (H.push e cs)) :=
  opR_value fun B w0 c w a hI hops => by
    obtain ⟨inf, hi1, hi2⟩ := Option.map_eq_some_iff.1 hz
    simp only [Prod.mk.injEq] at hi2
    obtain ⟨hi2, hi3⟩ := hi2
    obtain ⟨q1, q2⟩ := parts_cells (c := c) (a := a) hk hps (fun x hx => hops x (by simpa [Op.operands] using hx))
    have hzv : ∀ w, (zeroValue e).run P w = .ok z w := fun w => by simp [zeroValue, typeInfo, hi1, hi2]
    have hso : ∀ w, (sizeOf e).run P w = .ok sz w := fun w => by simp [sizeOf, typeInfo, hi1, hi3]
    have run : ∀ (zero : Array Value), ((Array.range (len * sz)).map (zero[· % zero.size]!)).size = len * sz → ∃ vs', Instr.fill (fun i => some (i * sz, sz)) ((Array.range (len * sz)).map (zero[· % zero.size]!)) (parts.map fun p => (p.1, a.eval p.2)).toList = some vs' ∧ Cells c vs' cs := by
      intro zero hs
      have hc := cells_un c ((Array.range (len * sz)).map (zero[· % zero.size]!))
      rw [hs] at hc
      obtain ⟨vs', f1, f2⟩ := fill_rep (c := c) ps (evP a parts.toList) _ _ _ hc q1 q2 hcs
      exact ⟨vs', by rw [Array.toList_map]; exact f1, f2⟩
    have hbs : ∃ vs', (Instr.buildSlice t len (parts.map fun p => (p.1, a.eval p.2))).run P w = .ok (.slice (some ⟨w.heap.size, 0, none⟩) len len) (w.alloc (.cells vs' e)) ∧ Cells c vs' cs := by
      unfold Instr.buildSlice
      rw [Sem.run_bind, run_underlying ht]
      simp only [Result.andThen_ok]
      rw [Sem.run_bind, hso]
      simp only [Result.andThen_ok]
      have hsm' : ¬ (len * sz > 2 ^ 24) := by omega
      rw [if_neg hsm']
      by_cases h0 : len * sz = 0
      · rw [if_pos h0]
        obtain ⟨vs', f1, f2⟩ := run #[] (by simp)
        refine ⟨vs', ?_, f2⟩
        simp only [Sem.run_bind, Sem.run_pure, Result.andThen_ok]
        rw [f1]
        simp [newRow]
      · rw [if_neg h0]
        obtain ⟨vs', f1, f2⟩ := run z.cells (by simp)
        refine ⟨vs', ?_, f2⟩
        simp only [Sem.run_bind, Sem.run_pure, Result.andThen_ok, hzv]
        rw [f1]
        simp [newRow]
    obtain ⟨vs', hr, hc⟩ := hbs
    obtain ⟨i1, l1⟩ := hI.allocBlk vs' e cs hc.size (hc.at_)
    refine ⟨_, _, _, _, _, ?_, l1, .arr H.nb len len w.heap.size ?_, i1, rfl, rfl⟩
    · simp [execOp, hr]
    · show (c.blk ++ [w.heap.size])[H.nb]? = _
      have : c.blk.length = H.nb := hI.blkLen
      rw [List.getElem?_append_right (by omega), this]; simp
end
end Go.AV
namespace Go.AV
open Go.RowKit
open Go.Conc (G)
def recP (fn : FuncId) (tmps : Array Value) (ps : Array Tmp) (assign body : Code) (D : Nat) (st : LoopState) (pend : Option Code) : Obj := .loop { state := st, pending := pend, fn, tmps, params := ps, assign, body, defers := D }
theorem other_def (o : Option (List Deferred)) : (∀ cs e fr, Obj.deferred o ≠ Obj.cells cs e fr) ∧ (∀ xs cl, Obj.deferred o ≠ Obj.map xs cl) := ⟨by intros; simp, by intros; simp⟩
theorem other_loop (r : Loop) : (∀ cs e fr, Obj.loop r ≠ Obj.cells cs e fr) ∧ (∀ xs cl, Obj.loop r ≠ Obj.map xs cl) := ⟨by intros; simp, by intros; simp⟩
theorem other_rec {fn : FuncId} {tmps : Array Value} {ps : Array Tmp} {assign body : Code} {D : Nat} {st : LoopState} {pend : Option Code} : (∀ cs e fr, recP fn tmps ps assign body D st pend ≠ Obj.cells cs e fr) ∧ (∀ xs cl, recP fn tmps ps assign body D st pend ≠ Obj.map xs cl) := other_loop _
theorem Inv.allocO {B : Nat} {w0 w : World} {c : Ctx} {H : HS} (h : Inv B w0 c H w) (o : Obj) (h1 : ∀ cs e fr, o ≠ Obj.cells cs e fr) (h2 : ∀ xs cl, o ≠ Obj.map xs cl) :
    Inv B w0 { c with maps := c.maps ++ [w.heap.size] } (H.pushM (.obj o)) (w.alloc o) ∧ Le c { c with maps := c.maps ++ [w.heap.size] } :=
  h.allocM o (.obj o) (.other _ o (World.alloc_heap_new w o) h1 h2)
theorem Inv.putO {B : Nat} {w0 w : World} {c : Ctx} {H : HS} (h : Inv B w0 c H w) {i g : Nat} {o : Obj} (hg : c.maps[i]? = some g) (hm : H.maps[i]? = some (.obj o)) (o' : Obj) (h1 : ∀ cs e fr, o' ≠ Obj.cells cs e fr) (h2 : ∀ xs cl, o' ≠ Obj.map xs cl) :
    w.heap[g]? = some o ∧ Inv B w0 c (H.setM i (.obj o')) (w.putObj g o') := by
  obtain ⟨q0, q⟩ := h.maps.is i g _ hg hm
  have hw : w.heap[g]? = some o := by
    cases q with
    | other _ _ hw _ _ => exact hw
  have hlt : g < w.heap.size := (Array.getElem?_eq_some_iff.1 hw).1
  refine ⟨hw, h.setM i g (.obj o) (.obj o') hg hm o' (w.putObj g o') rfl ?_ (.other g o' (World.putObj_heap_same hlt) h1 h2) h1 (fun es he => by cases he)⟩
  exact below_set h.below q0 o'
theorem Inv.getO {B : Nat} {w0 w : World} {c : Ctx} {H : HS} (h : Inv B w0 c H w) {i g : Nat} {o : Obj} (hg : c.maps[i]? = some g) (hm : H.maps[i]? = some (.obj o)) : w.heap[g]? = some o := by
  obtain ⟨q0, q⟩ := h.maps.is i g _ hg hm
  cases q with
  | other _ _ hw _ _ => exact hw
theorem Inv.rnd {B : Nat} {w0 w : World} {c : Ctx} {H : HS} (h : Inv B w0 c H w) {i g : Nat} {ps : Array Tmp} {asg bd : Code} {st : LoopState} {pend : Option Code} {T : List AV} (hg : c.maps[i]? = some g) (hm : H.maps[i]? = some (.rnd ps asg bd st pend T)) :
    ∃ fn tmps D, w.heap[g]? = some (recP fn tmps ps asg bd D st pend) ∧ RepT c tmps T ∧ ∀ st' pend', Inv B w0 c (H.setM i (.rnd ps asg bd st' pend' T)) (w.putObj g (recP fn tmps ps asg bd D st' pend')) := by
  obtain ⟨q0, q⟩ := h.maps.is i g _ hg hm
  cases q with
  | recd _ fn D tmps _ _ _ _ _ _ hw hs hT =>
    have hlt : g < w.heap.size := (Array.getElem?_eq_some_iff.1 hw).1
    refine ⟨fn, tmps, D, hw, ⟨hs, fun k hk => by rw [List.getD_eq_getElem?_getD, List.getElem?_eq_getElem hk]; exact hT k hk⟩, fun st' pend' => ?_⟩
    exact h.setM i g (.rnd ps asg bd st pend T) (.rnd ps asg bd st' pend' T) hg hm (recP fn tmps ps asg bd D st' pend') (w.putObj g _) rfl (below_set h.below q0 _) (.recd g fn D tmps ps asg bd st' pend' T (World.putObj_heap_same hlt) hs hT) other_rec.1 (fun es he => by cases he)
theorem wr_getLoop {P : Program} {W : Nat → Nat → Prop} (l : Nat) : Sem.Wr P W (Instr.getLoop l) := by
  unfold Instr.getLoop
  (repeat' (first | with_reducible assumption | with_reducible exact Sem.Wr.pure _ | with_reducible exact wr_getObj _ | exact wr_storeCells _ _ (by intro j; rw [addBlock, add_off, Nat.add_zero]; exact h _ _ _ (by first | rfl | assumption) (by omega) _ rfl _ hz j) | (with_reducible apply Sem.Wr.bind) | (with_reducible apply Sem.Wr.map) | (with_reducible apply Sem.Wr.ite) | (with_reducible intro _) | split | exact trivial | (dsimp only)))
theorem wr_beginRound {P : Program} {W : Nat → Nat → Prop} (l : Nat) : Sem.Wr P W (Instr.beginRound l) := by
  unfold Instr.beginRound
  refine Sem.Wr.bind (wr_getLoop l) fun r => ?_
  (repeat' (first | with_reducible assumption | with_reducible exact Sem.Wr.pure _ | with_reducible exact wr_setObj _ _ | with_reducible exact wr_runtimePanic _ | exact wr_storeCells _ _ (by intro j; rw [addBlock, add_off, Nat.add_zero]; exact h _ _ _ (by first | rfl | assumption) (by omega) _ rfl _ hz j) | (with_reducible apply Sem.Wr.bind) | (with_reducible apply Sem.Wr.map) | (with_reducible apply Sem.Wr.ite) | (with_reducible intro _) | split | exact trivial | (dsimp only)))
theorem wr_endRound {P : Program} {W : Nat → Nat → Prop} (l : Nat) (j : Option Code) : Sem.Wr P W (Instr.endRound l j) := by
  unfold Instr.endRound
  refine Sem.Wr.bind (wr_getLoop l) fun r => ?_
  (repeat' (first | with_reducible assumption | with_reducible exact Sem.Wr.pure _ | with_reducible exact wr_setObj _ _ | exact wr_storeCells _ _ (by intro j; rw [addBlock, add_off, Nat.add_zero]; exact h _ _ _ (by first | rfl | assumption) (by omega) _ rfl _ hz j) | (with_reducible apply Sem.Wr.bind) | (with_reducible apply Sem.Wr.map) | (with_reducible apply Sem.Wr.ite) | (with_reducible intro _) | split | exact trivial | (dsimp only)))
theorem wr_endLoop {P : Program} {W : Nat → Nat → Prop} (l : Nat) : Sem.Wr P W (Instr.endLoop l) := by
  unfold Instr.endLoop
  refine Sem.Wr.bind (wr_getLoop l) fun r => ?_
  (repeat' (first | with_reducible assumption | with_reducible exact Sem.Wr.pure _ | with_reducible exact wr_setObj _ _ | with_reducible exact wr_runtimePanic _ | exact wr_storeCells _ _ (by intro j; rw [addBlock, add_off, Nat.add_zero]; exact h _ _ _ (by first | rfl | assumption) (by omega) _ rfl _ hz j) | (with_reducible apply Sem.Wr.bind) | (with_reducible apply Sem.Wr.map) | (with_reducible apply Sem.Wr.ite) | (with_reducible intro _) | split | exact trivial | (dsimp only)))
theorem wr_yield {P : Program} {W : Nat → Nat → Prop} (l : Nat) (args : Array Value) : Sem.Wr P W (Instr.yield l args) := by
  unfold Instr.yield
  refine Sem.Wr.bind (wr_getLoop l) fun r => ?_
  (repeat' (first | with_reducible assumption | with_reducible exact Sem.Wr.pure _ | exact wr_storeCells _ _ (by intro j; rw [addBlock, add_off, Nat.add_zero]; exact h _ _ _ (by first | rfl | assumption) (by omega) _ rfl _ hz j) | (with_reducible apply Sem.Wr.bind) | (with_reducible apply Sem.Wr.map) | (with_reducible apply Sem.Wr.ite) | (with_reducible intro _) | split | exact trivial | (dsimp only)))
theorem wr_enterLoop {P : Program} {W : Nat → Nat → Prop} (fn : FuncId) (tmps : Array Value) (ps : Array Tmp) (assign body : Code) : Sem.Wr P W (Instr.enterLoop fn tmps ps assign body none) := by
  unfold Instr.enterLoop
  (repeat' (first | with_reducible assumption | with_reducible exact Sem.Wr.pure _ | with_reducible exact wr_newObj _ | exact wr_storeCells _ _ (by intro j; rw [addBlock, add_off, Nat.add_zero]; exact h _ _ _ (by first | rfl | assumption) (by omega) _ rfl _ hz j) | (with_reducible apply Sem.Wr.bind) | (with_reducible apply Sem.Wr.map) | (with_reducible apply Sem.Wr.ite) | (with_reducible intro _) | split | exact trivial | (dsimp only)))
theorem wr_takeDeferred {P : Program} {W : Nat → Nat → Prop} (r : Nat) : Sem.Wr P W (Instr.takeDeferred r) := by
  unfold Instr.takeDeferred
  (repeat' (first | with_reducible assumption | with_reducible exact Sem.Wr.pure _ | with_reducible exact wr_getObj _ | with_reducible exact wr_setObj _ _ | exact wr_storeCells _ _ (by intro j; rw [addBlock, add_off, Nat.add_zero]; exact h _ _ _ (by first | rfl | assumption) (by omega) _ rfl _ hz j) | (with_reducible apply Sem.Wr.bind) | (with_reducible apply Sem.Wr.map) | (with_reducible apply Sem.Wr.ite) | (with_reducible intro _) | split | exact trivial | (dsimp only)))
theorem wr_callFn {P : Program} {W : Nat → Nat → Prop} {f : FuncId} {fn : Func} (hfn : P.funcs[f]? = some fn) (hname : (fn.name == "runtime.NumGoroutine") = false) (hb : fn.body.isNone = false) (args : Array Value) : Sem.Wr P W (callFunc f args) := by
  change Sem.Wr P W (match P.funcs[f]? with | none => _ | some fn => _)
  rw [hfn]
  dsimp only
  rw [if_neg (by rw [hname]; decide), if_neg (by rw [hb]; decide)]
  exact trivial
theorem run_callFn {P : Program} {w : World} {f : FuncId} {fn : Func} (hfn : P.funcs[f]? = some fn) (hname : (fn.name == "runtime.NumGoroutine") = false) (hb : fn.body.isNone = false) (args : Array Value) : (callFunc f args).run P w = .ok (.enter f args) w := by
  have hn : fn.name ≠ "runtime.NumGoroutine" := by simpa using hname
  have hb' : ¬ fn.body = none := by intro hh; rw [hh] at hb; cases hb
  simp [callFunc, program, Sem.run, hfn, hn, hb']
section
variable {P : Program} {main : Bool} {b : Frame} {a : Act} {k : List Item} {cs : List Frame} {w w' : World}
theorem sg_rangeFunc {g : Operand} {ps : Array Tmp} {asg bd : Code} {l : Nat} {mark : List Deferred} {w1 : World} {gf : FuncId} {gn : Func} {cv : Array Value} (hr : b.roundOf = none) (hk : b.kind ≠ .early) (he : (Instr.enterLoop b.fn a.tmps ps asg bd none).run P w = .ok (l, mark) w1)
    (hv : a.eval g = .func (.func gf) #[] cv) (hfn : P.funcs[gf]? = some gn) (hname : (gn.name == "runtime.NumGoroutine") = false) (hb : gn.body.isNone = false) :
    ∃ s2 : Sem Next, (∀ W, Sem.Wr P W s2) ∧ stepG P main (G (b.atR a (.code (.rangeFunc g ps asg bd) :: k)) cs) w = .go (G (Frame.enter P gf (#[.func (.yield l) #[] #[]] ++ cv) .normal) (b.atR { a with defers := mark ++ a.defers } (.inRangeFunc l :: k) :: cs)) w1
      (seen P b.fn ((Instr.enterLoop b.fn a.tmps ps asg bd none).events P w #[]) ++ seen P b.fn (s2.events P w1 #[])) := by
  refine ⟨callFunc gf (#[.func (.yield l) #[] #[]] ++ cv), fun W => wr_callFn hfn hname hb _, ?_⟩
  have hk' : (b.kind == CallKind.early) = false := by simpa using hk
  have hrun := run_callFn (w := w1) hfn hname hb (#[.func (.yield l) #[] #[]] ++ cv)
  have hev : ({ fn := b.fn, tmps := a.tmps, todo := .inRangeFunc l :: k, defers := mark ++ a.defers, mode := .run, kind := b.kind, roundOf := none } : Frame).eval g = .func (.func gf) #[] cv := by
    rw [← hv]; cases g <;> rfl
  have hec : ∀ (fr : Frame) (v : Value), fr.eval (.const v) = v := fun _ _ => rfl
  simp [G, stepG, stepG.exec, Frame.atR, hr, he, stepG.apply, resolve, hev, hec, Deferred.ofValue, invoke, hrun, hk', GStep.after]
theorem sg_round {ops : Array Oper} {i : Nat} {rest : List Nat} {o : Oper} {l : Nat} {f : FuncId} {tmps : Array Value} {asg bd : Code} (ho : ops[i]? = some o) (hw : Region.wanted o (yielded ops a.tmps) = true) (hk : b.kind ≠ .early) (hd : ∀ c, o.op ≠ .defer c)
    (hr : (execOp a.eval o).run P w = .ok (.round l f tmps asg bd) w') : stepG P main (G (b.atR a (.inRegion ops (i :: rest) :: k)) cs) w = .go (G (Frame.round l f tmps asg bd .normal) (b.atR a (.inRegion ops (i :: rest) :: k) :: cs)) w' (seen P b.fn ((execOp a.eval o).events P w #[])) := by
  have hk' : (b.kind == CallKind.early) = false := by simpa using hk
  rw [sg_oper ho hw hd]
  simp [stepG.apply, hr, G, Frame.atR, hk', GStep.after]
theorem sg_beginRound {l : Nat} (hl : b.roundOf = some l) (hk : b.kind ≠ .early) (hr : (Instr.beginRound l).run P w = .ok () w') :
    ∃ s2 : Sem Next, (∀ W, Sem.Wr P W s2) ∧ stepG P main (G (b.atR a (.beginRound :: k)) cs) w = .go (G (b.atR a k) cs) w' (seen P b.fn (s2.events P w #[])) := by
  have hk' : (b.kind == CallKind.early) = false := by simpa using hk
  refine ⟨(do Instr.beginRound l; pure .skip), fun W => Sem.Wr.bind (wr_beginRound l) fun _ => trivial, ?_⟩
  have hf : ∀ v, (b.atR a (.beginRound :: k)).finish v = b.atR a k := fun _ => rfl
  simp only [Frame.atR] at hf
  simp [G, stepG, stepG.exec, Frame.atR, hl, stepG.apply, hr, hk', GStep.after, Frame.finish]
theorem sg_roundEnd {l : Nat} {caller : Frame} {v : Value} (hl : b.roundOf = some l) (hk : b.kind = .normal) (hr : (Instr.endRound l none).run P w = .ok v w') :
    stepG P main (G (b.atR a []) (caller :: cs)) w = .go (G (caller.finish v) cs) w' (seen P b.fn ((Instr.endRound l none).events P w #[])) := by
  simp [G, stepG, stepG.exec, Frame.atR, hl, hr, doReturn, hk, GStep.after]
theorem sg_endRange {l : Nat} {j : Option Code} (hr : (Instr.endLoop l).run P w = .ok j w') :
    stepG P main (G (b.atR a (.endRangeFunc l :: k)) cs) w = .go (G (b.atR a ((j.map Item.code).toList ++ k)) cs) w' (seen P b.fn ((Instr.endLoop l).events P w #[])) := by
  simp [G, stepG, stepG.exec, Frame.atR, hr, GStep.after]
theorem sg_collected {r : Nat} {v : Array Value} {ds calls : List Deferred} {todo : List Item} (hd : a.defers = { target := .collected r, args := v } :: ds) (hr : (Instr.takeDeferred r).run P w = .ok calls w') :
    stepG P main (G { b.atR a todo with mode := .returning } cs) w = .go (G { b.atR { a with defers := calls ++ ds } todo with mode := .returning } cs) w' (seen P b.fn ((Instr.takeDeferred r).events P w #[])) := by
  simp [G, stepG, unwind, Frame.atR, hd, hr, GStep.after]
theorem sg_deferCall {f : FuncId} {fn : Func} {cv : Array Value} {args : Array Value} {ds : List Deferred} {todo : List Item} (hd : a.defers = { target := .fn (.func f) cv, args } :: ds) (hfn : P.funcs[f]? = some fn) (hname : (fn.name == "runtime.NumGoroutine") = false) (hb : fn.body.isNone = false) :
    stepG P main (G { b.atR a todo with mode := .returning } cs) w = .go (G (Frame.enter P f (args ++ cv) .deferred) ({ b.atR { a with defers := ds } todo with mode := .returning } :: cs)) w (seen P b.fn ((callFunc f (args ++ cv)).events P w #[])) := by
  have hrun := run_callFn (w := w) hfn hname hb (args ++ cv)
  simp [G, stepG, unwind, callDeferred, Frame.atR, hd, invoke, hrun, GStep.after]
theorem sg_leaveD {f : FuncId} {fr caller : Frame} {v : Value} (h : Leaves P f .deferred fr w v) (hm : caller.mode = .returning) : ∃ fn, P.funcs[f]? = some fn ∧ stepG P main (G fr (caller :: cs)) w = .go (G caller cs) w (seen P fr.fn ((results fn fr.tmps).events P w #[])) := by
  obtain ⟨h1, h2, h3, h4, h5, fn, h6, h7⟩ := h
  refine ⟨fn, h6, ?_⟩
  rw [← h1] at h6
  obtain ⟨q1, q2, q3, q4, q5, q6, q7⟩ := caller
  simp only at hm
  subst hm
  simp [G, stepG, unwind, doReturn, h2, h3, h4, h6, h7, GStep.after]
end
theorem run_still {P : Program} [Wins P] {α : Type} {B : Nat} {w0 w w' : World} {c : Ctx} {H : HS} {fr fr' : Frame} {cs cs' : List Frame} {t : Trace} {s : Sem α} {fn : FuncId} (hI : Inv B w0 c H w) (hB : Held c t) (hs : ∀ W, Sem.Wr P W s)
    (h : stepG P (c.x.me == 0) (G fr cs) w = .go (G fr' cs') w' (seen P fn (s.events P w #[]))) (hn : ∀ t', Held c t' → Run P c.x w' t' fr' cs') : Run P c.x w t fr cs :=
  run_step hI.xok h fun pos => hn _ (hB.evs' (still_events hI (hs _) fn) (Le.refl c))
theorem opR_yield {P : Program} [Wins P] {E : Operand → AV} {K : HS} {R : AV → HS → Prop} {dst : Option Tmp} {fo x y : Operand} {ts : Array TypeId} {ty : TypeId} {pos : String} {after : Array Edge} {gd : Option (Nat × Bool)} {idx : Nat} {T : List AV} {p q : Tmp} {asg bd : Code}
    (hE : E fo = .fn (.yield 0) [] [.iter idx]) (hK : K.maps[idx]? = some (.rnd #[p, q] asg bd .ready none T))
    (hround : AW P asg (fun e T1 H1 => e = .normal ∧ H1.maps[idx]? = some (.rnd #[p, q] asg bd .ready none T) ∧
      AW P bd (fun e _ H2 => H2.maps[idx]? = some (.rnd #[p, q] asg bd .busy none T) ∧ match e with
        | .normal => R (.d (TF true)) (H2.setM idx (.rnd #[p, q] asg bd .ready none T))
        | .ret => R (.d (TF false)) (H2.setM idx (.rnd #[p, q] asg bd .done (some .ret) T))
        | .exit i => R (.d (TF false)) (H2.setM idx (.rnd #[p, q] asg bd .done (some (.exit i)) T))
        | _ => False) T1 (H1.setM idx (.rnd #[p, q] asg bd .busy none T))) (putT (putT T (some p) (E x)) (some q) (E y)) K) :
    OpR P ⟨dst, .call ⟨.value fo, #[x, y], ts⟩, ty, pos, after, gd⟩ E K R := by
  intro B w0 c w a t hI hB hops b ops i rest k cs hk ho hwt hnext
  have hf := hops fo (by simp [Op.operands, Call.operands])
  have hx := hops x (by simp [Op.operands, Call.operands])
  have hy := hops y (by simp [Op.operands, Call.operands])
  rw [hE] at hf
  generalize ha : AV.fn (.yield 0) [] [.iter idx] = av at hf
  generalize hv : a.eval fo = V at hf
  cases hf with
  | fn f fs cs fs' cs' hl h hl' h' hny => cases ha; exact absurd rfl (hny 0)
  | yld l idx' hm =>
    injection ha with e1 e2 e3
    injection e3 with e3 e4
    injection e3 with e3
    subst e3
    obtain ⟨fn, tmps, D, hw, h0, hput⟩ := hI.rnd hm hK
    have hrun : (execOp a.eval ⟨dst, .call ⟨.value fo, #[x, y], ts⟩, ty, pos, after, gd⟩).run P w = .ok (.round l fn ((#[p, q].zip #[a.eval x, a.eval y]).foldl (fun tmps (t, a) => tmps.setIfInBounds t a) tmps) asg bd) w := by
      have h1 := run_yield (P := P) (args := #[a.eval x, a.eval y]) (show w.heap[l]? = some (.loop _) from hw) rfl
      simp [execOp, resolve, hv, Deferred.ofValue, invoke, h1]
    have hwr : ∀ W, Sem.Wr P W (execOp a.eval ⟨dst, .call ⟨.value fo, #[x, y], ts⟩, ty, pos, after, gd⟩) := fun W => by
      have := wr_yield (P := P) (W := W) l #[a.eval x, a.eval y]
      simpa [execOp, resolve, hv, Deferred.ofValue, invoke] using this
    refine run_still hI hB hwr (sg_round ho hwt hk (by intro c h; cases h) hrun) fun t1 hB1 => ?_
    have hT0 : RepT c ((#[p, q].zip #[a.eval x, a.eval y]).foldl (fun tmps (t, a) => tmps.setIfInBounds t a) tmps) (putT (putT T (some p) (E x)) (some q) (E y)) := by
      have h1 := RepT.put (a := { tmps := tmps, defers := [] }) h0 (some p) hx
      have h2 := RepT.put (a := { tmps := tmps.setIfInBounds p (a.eval x), defers := [] }) h1 (some q) hy
      simpa [Act.put] using h2
    generalize htm : (#[p, q].zip #[a.eval x, a.eval y]).foldl (fun tmps (t, a) => tmps.setIfInBounds t a) tmps = tm at hT0
    let rb : Frame := { fn := fn, tmps := #[], todo := [], defers := [], mode := .run, kind := .normal, roundOf := some l }
    have hfr : Frame.round l fn tm asg bd .normal = rb.atR { tmps := tm, defers := [] } (.code asg :: [.beginRound, .code bd]) := rfl
    rw [hfr]
    refine hround B w0 c w { tmps := tm, defers := [] } t1 hI hB1 hT0 rb [.beginRound, .code bd] _ (by simp [rb]) ?_
    rintro e a1 w1 c1 t2 T1 H1 l1 i1 s1 r1 d1 ⟨rfl, m1, hbody⟩
    have g1 := l1.maps _ _ hm
    obtain ⟨fn1, tm1, D1, hw1, _, hp1⟩ := i1.rnd g1 m1
    obtain ⟨s2, hs2, hst⟩ := sg_beginRound (P := P) (main := c1.x.me == 0) (b := rb) (a := a1) (k := [.code bd]) (cs := b.atR a (.inRegion ops (i :: rest) :: k) :: cs) (l := l) rfl (by simp [rb]) (run_beginRound hw1 rfl)
    refine run_still i1 s1 hs2 hst fun t3 s3 => ?_
    refine hbody B w0 c1 _ a1 t3 (hp1 .busy none) s3 r1 rb [] _ (by simp [rb]) ?_
    rintro e a2 w2 c2 t4 T2 H2 l2 i3 s4 r2 d2 ⟨m2, hR⟩
    have g2 := l2.maps _ _ g1
    obtain ⟨fn2, tm2, D2, hw2, _, hp2⟩ := i3.rnd g2 m2
    have fin : ∀ v, (b.atR a (.inRegion ops (i :: rest) :: k)).finish v = b.atR (a.put dst v) (.inRegion ops rest :: k) := fun v => by rw [Frame.finish_atR, ho]; rfl
    cases e with
    | normal =>
      refine run_still (s := Instr.endRound l none) i3 s4 (fun _ => wr_endRound l none) (sg_roundEnd (b := rb) (l := l) rfl rfl (run_endRound none hw2)) fun t5 s5 => ?_
      rw [fin]
      exact hnext _ _ c2 _ _ t5 (l1.trans l2) (.d (.v _ rfl)) (hp2 .ready none) s5 hR
    | ret =>
      refine ⟨rfl, _, _, _, _, run_endRound (some .ret) hw2, rfl, fun pos => ?_⟩
      rw [fin]
      exact hnext _ _ c2 _ _ _ (l1.trans l2) (.d (.v _ rfl)) (hp2 .done (some .ret)) (s4.evs' (still_events i3 (wr_endRound l (some .ret)) fn) (Le.refl _)) hR
    | exit id =>
      refine ⟨rfl, _, _, _, _, run_endRound (some (.exit id)) hw2, rfl, fun pos => ?_⟩
      rw [fin]
      exact hnext _ _ c2 _ _ _ (l1.trans l2) (.d (.v _ rfl)) (hp2 .done (some (.exit id))) (s4.evs' (still_events i3 (wr_endRound l (some (.exit id))) fn) (Le.refl _)) hR
    | goto l => exact hR.elim
    | panic ch => exact hR.elim
    | outgrown => exact hR.elim
  | _ => cases ha
end Go.AV
namespace Go.AV
open Go.RowKit
open Go.Conc (G)
inductive DD where
  | col (idx : Nat)
  | call (f : FuncId) (args cs : List AV)
inductive RepDs (c : Ctx) : List Deferred → List DD → Prop
  | nil : RepDs c [] []
  | col {idx r : Nat} {v : Array Value} {ds : List Deferred} {DS : List DD} (h : c.maps[idx]? = some r) (t : RepDs c ds DS) : RepDs c ({ target := .collected r, args := v } :: ds) (.col idx :: DS)
  | call {f : FuncId} {av cv : Array Value} {args cs : List AV} {ds : List Deferred} {DS : List DD} (h1 : av.size = args.length) (h2 : ∀ i (hi : i < args.length), Rep c (av.getD i undef) args[i]) (h3 : cv.size = cs.length) (h4 : ∀ i (hi : i < cs.length), Rep c (cv.getD i undef) cs[i])
      (t : RepDs c ds DS) : RepDs c ({ target := .fn (.func f) cv, args := av } :: ds) (.call f args cs :: DS)
theorem RepDs.mono {c c' : Ctx} (hl : Lw c c') {ds : List Deferred} {DS : List DD} (h : RepDs c ds DS) : RepDs c' ds DS := by
  induction h with
  | nil => exact .nil
  | col h t ih => exact .col (hl.maps _ _ h) ih
  | call h1 h2 h3 h4 t ih => exact .call h1 (fun i hi => (h2 i hi).mono hl) h3 (fun i hi => (h4 i hi).mono hl) ih
abbrev PostX := Exit → List AV → HS → List DD → Prop
def AWX (P : Program) [Wins P] (k : Code) (Q : PostX) (T : List AV) (H : HS) (DS : List DD) : Prop :=
  ∀ (B : Nat) (w0 : World) (c : Ctx) (w : World) (a : Act) (t : Trace), Inv B w0 c H w → Held c t → RepT c a.tmps T → RepDs c a.defers DS →
  ∀ (b : Frame) (k' : List Item) (cs : List Frame), b.kind ≠ .early → b.roundOf = none →
    (∀ e a' w' c' t' T' H' DS', Lw c c' → Inv B w0 c' H' w' → Held c' t' → RepT c' a'.tmps T' → RepDs c' a'.defers DS' → Q e T' H' DS' → After P c'.x w' t' b k' cs e a') →
    Run P c.x w t (b.atR a (.code k :: k')) cs
def ALX (P : Program) [Wins P] (ops : Array Oper) (l : List Oper) (Q : PostX) (T : List AV) (H : HS) (DS : List DD) : Prop :=
  ∀ (n : Nat), ops.toList.drop n = l →
  ∀ (B : Nat) (w0 : World) (c : Ctx) (w : World) (a : Act) (t : Trace), Inv B w0 c H w → Held c t → RepT c a.tmps T → RepDs c a.defers DS →
  ∀ (b : Frame) (k' : List Item) (cs : List Frame), b.kind ≠ .early → b.roundOf = none →
    (∀ e a' w' c' t' T' H' DS', Lw c c' → Inv B w0 c' H' w' → Held c' t' → RepT c' a'.tmps T' → RepDs c' a'.defers DS' → Q e T' H' DS' → After P c'.x w' t' b k' cs e a') →
    Run P c.x w t (b.atR a (.inRegion ops (List.range' n l.length) :: k')) cs
section
variable {P : Program} [Wins P] {Q : PostX} {T : List AV} {H : HS} {DS : List DD}
theorem awx_aw {k : Code} (h : AW P k (fun e T' H' => Q e T' H' DS) T H) : AWX P k Q T H DS :=
  fun B w0 c w a t h1 h2 h3 h4 b k' cs hk _ hn => h B w0 c w a t h1 h2 h3 b k' cs hk fun e a' w' c' t' T' H' x1 x2 x3 x4 x5 x6 => hn e a' w' c' t' T' H' DS x1 x2 x3 x4 (x5 ▸ h4.mono x1) x6
theorem awx_mono {k : Code} {Q' : PostX} (h : AWX P k Q T H DS) (hq : ∀ e T H DS, Q e T H DS → Q' e T H DS) : AWX P k Q' T H DS :=
  fun B w0 c w a t h1 h2 h3 h4 b k' cs hk hr hn => h B w0 c w a t h1 h2 h3 h4 b k' cs hk hr fun e a' w' c' t' T' H' DS' x1 x2 x3 x4 x5 x6 => hn e a' w' c' t' T' H' DS' x1 x2 x3 x4 x5 (hq _ _ _ _ x6)
def ThenX (P : Program) [Wins P] (y : Code) (Q : PostX) : PostX
  | .normal, T, H, DS => AWX P y Q T H DS
  | e, T, H, DS => Q e T H DS
theorem awx_seq {x y : Code} (h : AWX P x (ThenX P y Q) T H DS) : AWX P (.seq x y) Q T H DS := by
  intro B w0 c w a t h1 h2 h3 h4 b k' cs hk hr hn
  refine run_quiet h1.xok sg_seq (h B w0 c w a t h1 h2 h3 h4 b (.code y :: k') cs hk hr ?_)
  intro e a' w' c' t' T' H' DS' x1 x2 x3 x4 x5 x6
  by_cases he : e = .normal
  · subst he
    exact x6 B w0 c' w' a' t' x2 x3 x4 x5 b k' cs hk hr fun e2 a2 w2 c2 t2 T2 H2 DS2 y1 y2 y3 y4 y5 y6 => hn e2 a2 w2 c2 t2 T2 H2 DS2 (x1.trans y1) y2 y3 y4 y5 y6
  · refine (hn e a' w' c' t' T' H' DS' x1 x2 x3 x4 x5 ?_).push (fun _ h => by cases h) he
    cases e with
    | normal => exact absurd rfl he
    | exit id => exact x6
    | goto l => exact x6
    | ret => exact x6
    | panic ch => exact x6
    | outgrown => exact x6
def InBlockX (id : Nat) (Q : PostX) : PostX
  | .exit id', T, H, DS => if id' = id then Q .normal T H DS else Q (.exit id') T H DS
  | e, T, H, DS => Q e T H DS
theorem awx_block {id : Nat} {k : Code} (h : AWX P k (InBlockX id Q) T H DS) : AWX P (.block id k) Q T H DS := by
  intro B w0 c w a t h1 h2 h3 h4 b k' cs hk hr hn
  refine run_quiet h1.xok sg_block (h B w0 c w a t h1 h2 h3 h4 b (.inBlock id :: k') cs hk hr ?_)
  intro e a' w' c' t' T' H' DS' x1 x2 x3 x4 x5 x6
  cases e with
  | normal => exact run_quiet x2.xok sg_inBlock (hn .normal a' w' c' t' T' H' DS' x1 x2 x3 x4 x5 x6)
  | exit id' =>
    by_cases hid : id' = id
    · subst hid
      have q : Q .normal T' H' DS' := by simpa [InBlockX] using x6
      have := hn .normal a' w' c' t' T' H' DS' x1 x2 x3 x4 x5 q
      rw [after_exit]
      simp only [exitTo, beq_self_eq_true, if_true]
      exact this
    · have q : Q (.exit id') T' H' DS' := by simpa [InBlockX, hid] using x6
      have := hn (.exit id') a' w' c' t' T' H' DS' x1 x2 x3 x4 x5 q
      rw [after_exit] at this ⊢
      have e : exitTo id' (.inBlock id :: k') = exitTo id' k' := by
        have : (id == id') = false := by simp; exact fun h => hid h.symm
        simp [exitTo, this]
      rw [e]
      exact this
  | goto l => exact hn (.goto l) a' w' c' t' T' H' DS' x1 x2 x3 x4 x5 x6
  | ret => exact hn .ret a' w' c' t' T' H' DS' x1 x2 x3 x4 x5 x6
  | panic ch => exact hn (.panic ch) a' w' c' t' T' H' DS' x1 x2 x3 x4 x5 x6
  | outgrown => exact hn .outgrown a' w' c' t' T' H' DS' x1 x2 x3 x4 x5 x6
theorem awx_cond {k : Operand} {x y : Code} {b : Bool} (hc : evalT T k = .d (.v (.bool b))) (ht : b = true → AWX P x Q T H DS) (hf : b = false → AWX P y Q T H DS) : AWX P (.cond k x y) Q T H DS := by
  intro B w0 c w a t h1 h2 h3 h4 b' k' cs hk hr hn
  have he := h3.eval k
  rw [hc] at he
  have he' := he.v_eq
  refine run_quiet h1.xok (sg_cond he') ?_
  cases b with
  | true => exact ht rfl B w0 c w a t h1 h2 h3 h4 b' k' cs hk hr hn
  | false => exact hf rfl B w0 c w a t h1 h2 h3 h4 b' k' cs hk hr hn
theorem awx_region {id : Nat} {l : List Oper} (h : ALX P l.toArray l Q T H DS) : AWX P (.region id l.toArray false) Q T H DS := by
  intro B w0 c w a t h1 h2 h3 h4 b k' cs hk hr hn
  refine run_quiet h1.xok sg_region ?_
  have := h 0 (by simp) B w0 c w a t h1 h2 h3 h4 b k' cs hk hr hn
  rwa [← List.range_eq_range'] at this
theorem alx_al {ops : Array Oper} {l : List Oper} (h : AL P ops l (fun e T' H' => Q e T' H' DS) T H) : ALX P ops l Q T H DS :=
  fun n hd B w0 c w a t h1 h2 h3 h4 b k' cs hk _ hn => h n hd B w0 c w a t h1 h2 h3 b k' cs hk fun e a' w' c' t' T' H' x1 x2 x3 x4 x5 x6 => hn e a' w' c' t' T' H' DS x1 x2 x3 x4 (x5 ▸ h4.mono x1) x6
theorem alx_cons {ops : Array Oper} {o : Oper} {l : List Oper} (R : AV → HS → Prop) (ho : OpR P o (evalT T) H R) (hg : o.guard = none) (h : ∀ v H', R v H' → ALX P ops l Q (putT T o.dst v) H' DS) : ALX P ops (o :: l) Q T H DS := by
  intro n hd B w0 c w a t h1 h2 h3 h4 b k' cs hk hr hn
  obtain ⟨e1, e2⟩ := drop_at hd
  rw [List.length_cons, List.range'_succ]
  refine ho B w0 c w a t h1 h2 (fun x _ => h3.eval x) b ops n _ k' cs hk (by simpa using e1) (by simp [Region.wanted, hg]) ?_
  intro v' w' c' av H' t' l1 r1 i1 s1 rr
  exact h av H' rr (n + 1) e2 B w0 c' w' _ t' i1 s1 ((h3.mono l1).put o.dst r1) (by rw [put_defers]; exact h4.mono l1) b k' cs hk hr fun e a2 w2 c2 t2 T2 H2 DS2 y1 y2 y3 y4 y5 y6 => hn e a2 w2 c2 t2 T2 H2 DS2 (l1.trans y1) y2 y3 y4 y5 y6
theorem alx_step {ops : Array Oper} {o : Oper} {l : List Oper} {v : AV} {H' : HS} {T' : List AV} (ho : OpR P o (evalT T) H (Ret v H')) (hg : o.guard = none) (hT : putT T o.dst v = T') (h : ALX P ops l Q T' H' DS) : ALX P ops (o :: l) Q T H DS :=
  alx_cons _ ho hg fun _ _ ⟨e1, e2⟩ => by subst e1; subst e2; subst hT; exact h
theorem alx_defer {ops : Array Oper} {l : List Oper} {dst : Option Tmp} {fo : Operand} {args : Array Operand} {ts : Array TypeId} {ty : TypeId} {pos : String} {after : Array Edge} {f : FuncId} {fs cs : List AV} (hf : evalT T fo = .fn (.func f) fs cs)
    (h : ALX P ops l Q (putT T dst .nv) H (.call f (fs ++ args.toList.map (evalT T)) cs :: DS)) : ALX P ops (⟨dst, .defer ⟨.value fo, args, ts⟩, ty, pos, after, none⟩ :: l) Q T H DS := by
  intro n hd B w0 c w a t h1 h2 h3 h4 b k' cs' hk hr hn
  obtain ⟨e1, e2⟩ := drop_at hd
  rw [List.length_cons, List.range'_succ]
  have hev := h3.eval fo
  rw [hf] at hev
  generalize hv : a.eval fo = V at hev
  cases hev with
  | fn _ fv cv _ _ hl hfs hl' hcs hny =>
    have ho : ops[n]? = some ⟨dst, .defer ⟨.value fo, args, ts⟩, ty, pos, after, none⟩ := by simpa using e1
    have hrun : (execOp a.eval ⟨dst, .defer ⟨.value fo, args, ts⟩, ty, pos, after, none⟩).run P w = .ok (.defer { target := .fn (.func f) cv, args := fv ++ args.map a.eval }) w := by
      simp [execOp, resolve, hv, Deferred.ofValue]
    have hwr : ∀ W, Sem.Wr P W (execOp a.eval ⟨dst, .defer ⟨.value fo, args, ts⟩, ty, pos, after, none⟩) := fun W => by
      simp only [execOp, resolve, hv, Deferred.ofValue]
      exact trivial
    have hk' : (b.kind == CallKind.early) = false := by simpa using hk
    have hwt : Region.wanted ⟨dst, .defer ⟨.value fo, args, ts⟩, ty, pos, after, none⟩ (yielded ops a.tmps) = true := by simp [Region.wanted]
    have he := Frame.eval_atR b a (.inRegion ops (n :: List.range' (n + 1) l.length) :: k')
    simp only [Frame.atR, hr] at he
    have hst : stepG P (c.x.me == 0) (G (b.atR a (.inRegion ops (n :: List.range' (n + 1) l.length) :: k')) cs') w = .go (G (b.atR { a.put dst undef with defers := { target := .fn (.func f) cv, args := fv ++ args.map a.eval } :: a.defers } (.inRegion ops (List.range' (n + 1) l.length) :: k')) cs') w (seen P b.fn ((execOp a.eval ⟨dst, .defer ⟨.value fo, args, ts⟩, ty, pos, after, none⟩).events P w #[])) := by
      cases dst <;> simp [G, stepG, stepG.exec, stepG.oper, stepG.apply, Frame.oper?, Frame.atR, ho, hwt, he, hr, hrun, hk', GStep.after, Frame.finish, Act.put]
    refine run_still h1 h2 hwr hst fun t1 s1 => ?_
    refine h (n + 1) e2 B w0 c w _ t1 h1 s1 ?_ ?_ b k' cs' hk hr hn
    · have := h3.put dst (v := undef) (y := .nv) .nv
      exact this
    · refine .call ?_ ?_ hl' hcs h4
      · simp [hl]
      · intro i hi
        by_cases hlt : i < fs.length
        · have e1 : (fv ++ args.map a.eval).getD i undef = fv.getD i undef := getD_left (by omega) _
          rw [e1, List.getElem_append_left hlt]
          exact hfs i hlt
        · have e1 : (fv ++ args.map a.eval).getD i undef = (args.map a.eval).getD (i - fv.size) undef := getD_right (by omega) _
          rw [e1, List.getElem_append_right (by omega)]
          have hi2 : i - fs.length < args.size := by simp at hi; omega
          have e2 : (args.map a.eval).getD (i - fv.size) undef = a.eval args[i - fs.length] := by
            rw [hl]
            simp [hi2]
          rw [e2]
          simp only [List.getElem_map, Array.getElem_toList]
          exact h3.eval _
theorem run_ret {x : Crowd} {w : World} {t : Trace} {b : Frame} {k : List Item} {cs : List Frame} {a : Act} (hx : x.Ok) (h : After P x w t b k cs .ret a) : Run P x w t (b.atR a (.code .ret :: k)) cs := run_out hx (.inl rfl) h
theorem run_exit {x : Crowd} {w : World} {t : Trace} {b : Frame} {k : List Item} {cs : List Frame} {a : Act} {id : Nat} (hx : x.Ok) (h : After P x w t b k cs (.exit id) a) : Run P x w t (b.atR a (.code (.exit id) :: k)) cs := by
  rw [after_exit] at h
  cases he : exitTo id k with
  | some k' =>
    rw [he] at h
    exact run_quiet hx (sg_exit he) h
  | none =>
    rw [he] at h
    exact run_out hx (.inr ⟨id, rfl, he⟩) h
theorem awx_range {g : Operand} {ps : Array Tmp} {asg bd : Code} {gf : FuncId} {gn : Func} {cs : List AV} (hg : evalT T g = .fn (.func gf) [] cs) (hgf : P.funcs[gf]? = some gn) (hgb : gn.body.isNone = false) (hgn : (gn.name == "runtime.NumGoroutine") = false)
    (hcall : ACalls P gf (.fn (.yield 0) [] [.iter (H.maps.length + 1)] :: cs) ((H.pushM (.obj (.deferred (some [])))).pushM (.rnd ps asg bd .ready none T))
      (fun _ K => ∃ st pend, K.maps[H.maps.length + 1]? = some (.rnd ps asg bd st pend T) ∧ st ≠ .busy ∧ match pend with
        | none => Q .normal T (K.setM (H.maps.length + 1) (.rnd ps asg bd .exhausted pend T)) (.col H.maps.length :: DS)
        | some .ret => Q .ret T (K.setM (H.maps.length + 1) (.rnd ps asg bd .exhausted pend T)) (.col H.maps.length :: DS)
        | some (.exit i) => Q (.exit i) T (K.setM (H.maps.length + 1) (.rnd ps asg bd .exhausted pend T)) (.col H.maps.length :: DS)
        | _ => False)) : AWX P (.rangeFunc g ps asg bd) Q T H DS := by
  intro B w0 c w a t h1 h2 h3 h4 b k' csF hk hr hn
  have hge := h3.eval g
  rw [hg] at hge
  generalize hv : a.eval g = V at hge
  cases hge with
  | fn _ fv cv _ _ hl hfs hl' hcs hny =>
    have hfv : fv = #[] := by
      apply Array.eq_empty_of_size_eq_zero
      simpa using hl
    subst hfv
    obtain ⟨j1, k1⟩ := h1.allocO (.deferred (some [])) (other_def _).1 (other_def _).2
    have hsz : (w.alloc (.deferred (some []))).heap.size = w.heap.size + 1 := World.size_alloc _ _
    have hT1 := h3.mono k1.lw
    obtain ⟨j2, k2⟩ := j1.allocM (recP b.fn a.tmps ps asg bd w.heap.size .ready none) (.rnd ps asg bd .ready none T)
      (.recd _ b.fn w.heap.size a.tmps ps asg bd .ready none T (World.alloc_heap_new _ _) hT1.size (fun i hi => by
        have := hT1.at_ i hi
        rwa [List.getD_eq_getElem?_getD, List.getElem?_eq_getElem hi] at this))
    rw [hsz] at j2 k2
    obtain ⟨cM, hcM⟩ : ∃ cM, cM = ({ c with maps := c.maps ++ [w.heap.size] ++ [w.heap.size + 1] } : Ctx) := ⟨_, rfl⟩
    have j2' : Inv B w0 cM ((H.pushM (.obj (.deferred (some [])))).pushM (.rnd ps asg bd .ready none T)) ((w.alloc (.deferred (some []))).alloc (recP b.fn a.tmps ps asg bd w.heap.size .ready none)) := by rw [hcM]; exact j2
    have k2' : Le c cM := by rw [hcM]; exact k1.trans k2
    have hml : c.maps.length = H.maps.length := h1.maps.len
    have m1 : cM.maps[H.maps.length]? = some w.heap.size := by rw [hcM, ← hml]; simp
    have m2 : cM.maps[H.maps.length + 1]? = some (w.heap.size + 1) := by rw [hcM, ← hml]; simp
    obtain ⟨W1, hW1⟩ : ∃ W1, W1 = ((w.alloc (.deferred (some []))).alloc (recP b.fn a.tmps ps asg bd w.heap.size .ready none)) := ⟨_, rfl⟩
    rw [← hW1] at j2'
    have henter : (Instr.enterLoop b.fn a.tmps ps asg bd none).run P w = .ok (w.heap.size + 1, [{ target := .collected w.heap.size, args := #[] }]) W1 := by
      rw [hW1]; exact run_enterLoop_outer _ _ _ _ _
    obtain ⟨s2, hs2, hst⟩ := sg_rangeFunc (main := c.x.me == 0) (b := b) (a := a) (k := k') (cs := csF) hr hk henter hv hgf hgn hgb
    refine run_step h1.xok hst fun pos => ?_
    have hxM : c.x = cM.x := by rw [hcM]
    rw [hxM]
    have hB2 : Held cM (t ++ MemOp.ofEvents cM.x.me b.fn pos (seen P b.fn ((Instr.enterLoop b.fn a.tmps ps asg bd none).events P w #[]) ++ seen P b.fn (s2.events P W1 #[]))) := by
      have := h2.evs (fn := b.fn) (pos := pos) (es := seen P b.fn ((Instr.enterLoop b.fn a.tmps ps asg bd none).events P w #[]) ++ seen P b.fn (s2.events P W1 #[])) (fun e he => by
        rcases Array.mem_append.1 he with q | q
        · exact still_events h1 (wr_enterLoop _ _ _ _ _) b.fn e q
        · have := still_events j2' (hs2 _) b.fn e q
          have hmm : cM.mem = c.mem := by rw [hcM]
          rwa [hmm] at this)
      have hmm : cM.mem = c.mem := by rw [hcM]
      unfold Held
      rw [← hxM, hmm]
      exact this
    refine hcall B w0 cM W1 _ _ j2' hB2 (by simp [hl', Nat.add_comm]) ?_ .normal _ (.inl rfl) ?_
    · intro i hi
      match i, hi with
      | 0, _ =>
        have e0 : (#[Value.func (.yield (w.heap.size + 1)) #[] #[]] ++ cv).getD 0 undef = .func (.yield (w.heap.size + 1)) #[] #[] := by simp [Array.getD]
        rw [e0]
        exact Rep.yld _ _ m2
      | i + 1, hi =>
        have hi' : i < cs.length := by simpa using hi
        have e1 : (#[Value.func (.yield (w.heap.size + 1)) #[] #[]] ++ cv).getD (i + 1) undef = cv.getD i undef := by
          have q1 : i < cv.size := by omega
          simp [Array.getD, q1, Nat.add_comm]
        rw [e1]
        exact (hcs i hi').mono k2'.lw
    · rintro v w5 c5 av' H5 t5 fr l5 r5 i5 s5 ⟨st, pend, q2, hst2, hq⟩ hL
      obtain ⟨fn2, hf2, hstep⟩ := sg_leave (main := c5.x.me == 0) (cs := csF) (caller := b.atR { a with defers := [{ target := .collected w.heap.size, args := #[] }] ++ a.defers } (.inRangeFunc (w.heap.size + 1) :: k')) hL
      refine run_still i5 s5 (fun _ => wr_results _ _) hstep fun t6 s6 => ?_
      have p2 := l5.maps _ _ m2
      have p1 := l5.maps _ _ m1
      obtain ⟨fnR, tmR, DR, hw5, _, hp⟩ := i5.rnd p2 q2
      have i6 := hp .exhausted pend
      have hfin : (b.atR { a with defers := [{ target := .collected w.heap.size, args := #[] }] ++ a.defers } (.inRangeFunc (w.heap.size + 1) :: k')).finish v = b.atR { a with defers := [{ target := .collected w.heap.size, args := #[] }] ++ a.defers } (.endRangeFunc (w.heap.size + 1) :: k') := rfl
      rw [hfin]
      refine run_still (s := Instr.endLoop (w.heap.size + 1)) i5 s6 (fun _ => wr_endLoop _) (sg_endRange (run_endLoop hw5 hst2)) fun t7 s7 => ?_
      have t5 : RepT c5 a.tmps T := h3.mono ((Le.lw k2').trans l5)
      have d5 : RepDs c5 ([{ target := .collected w.heap.size, args := #[] }] ++ a.defers) (.col H.maps.length :: DS) := .col p1 (h4.mono ((Le.lw k2').trans l5))
      cases pend with
      | none => exact hn .normal _ _ c5 t7 T _ _ ((Le.lw k2').trans l5) i6 s7 t5 d5 hq
      | some j =>
        cases j with
        | ret => exact run_ret i6.xok (hn .ret _ _ c5 t7 T _ _ ((Le.lw k2').trans l5) i6 s7 t5 d5 hq)
        | exit id => exact run_exit i6.xok (hn (.exit id) _ _ c5 t7 T _ _ ((Le.lw k2').trans l5) i6 s7 t5 d5 hq)
        | _ => exact hq.elim
def DEnd (P : Program) [Wins P] : List DD → (HS → Prop) → HS → Prop
  | [], K, H => K H
  | .col idx :: ds, K, H => H.maps[idx]? = some (.obj (.deferred (some []))) ∧ DEnd P ds K (H.setM idx (.obj (.deferred none)))
  | .call f args cs :: ds, K, H => (∃ fn, P.funcs[f]? = some fn ∧ (fn.name == "runtime.NumGoroutine") = false ∧ fn.body.isNone = false) ∧ ACalls P f (args ++ cs) H fun _ H' => DEnd P ds K H'
theorem dend_run {B : Nat} {w0 : World} {K : HS → Prop} : ∀ (DS : List DD) (H : HS), DEnd P DS K H → ∀ (c : Ctx) (w : World) (a : Act) (t : Trace) (b : Frame) (todo : List Item) (cs : List Frame), Inv B w0 c H w → Held c t → RepDs c a.defers DS →
    (∀ c' w' t' H', Lw c c' → Inv B w0 c' H' w' → Held c' t' → K H' → Run P c'.x w' t' { b.atR { a with defers := [] } todo with mode := .returning } cs) → Run P c.x w t { b.atR a todo with mode := .returning } cs
  | [], H, hd, c, w, a, t, b, todo, cs, hI, hB, hD, hn => by
    have : a.defers = [] := by cases hD' : a.defers with
      | nil => rfl
      | cons x l => rw [hD'] at hD; cases hD
    have e : a = { a with defers := [] } := by cases a; simp at this; subst this; rfl
    rw [e]
    exact hn c w t H (Lw.refl c) hI hB hd
  | .col idx :: ds, H, hd, c, w, a, t, b, todo, cs, hI, hB, hD, hn => by
    obtain ⟨m1, hd⟩ := hd
    generalize hA : a.defers = A at hD
    cases hD with
    | col hc ht =>
      obtain ⟨hw, i1⟩ := hI.putO hc m1 (.deferred none) (other_def _).1 (other_def _).2
      refine run_still hI hB (fun _ => wr_takeDeferred _) (sg_collected hA (run_takeDeferred hw)) fun t1 s1 => ?_
      exact dend_run ds _ hd c _ { a with defers := _ } t1 b todo cs i1 s1 ht hn
  | .call f args cs' :: ds, H, hd, c, w, a, t, b, todo, cs, hI, hB, hD, hn => by
    obtain ⟨⟨fn, hf, hname, hb⟩, hd⟩ := hd
    generalize hA : a.defers = A at hD
    cases hD with
    | call h1 h2 h3 h4 ht =>
      rename_i av cv ds'
      refine run_still hI hB (fun _ => wr_callFn hf hname hb _) (sg_deferCall hA hf hname hb) fun t1 s1 => ?_
      refine hd B w0 c w t1 (av ++ cv) hI s1 (by simp [h1, h3]) ?_ .deferred _ (.inr rfl) ?_
      · intro i hi
        by_cases hlt : i < args.length
        · have e1 : (av ++ cv).getD i undef = av.getD i undef := getD_left (by omega) _
          rw [e1, List.getElem_append_left hlt]
          exact h2 i hlt
        · have e1 : (av ++ cv).getD i undef = cv.getD (i - av.size) undef := getD_right (by omega) _
          have hi2 : i - args.length < cs'.length := by simp at hi; omega
          rw [e1, List.getElem_append_right (by omega)]
          have e2 : cv.getD (i - av.size) undef = cv.getD (i - args.length) undef := by rw [h1]
          rw [e2]
          exact h4 (i - args.length) hi2
      · intro v w' c' av' H' t' fr l1 r1 i1 s2 hk hL
        obtain ⟨fn2, hf2, hstep⟩ := sg_leaveD (main := c'.x.me == 0) (cs := cs) (caller := { b.atR { a with defers := ds' } todo with mode := .returning }) hL rfl
        refine run_still i1 s2 (fun _ => wr_results _ _) hstep fun t3 s3 => ?_
        exact dend_run ds H' hk c' w' { a with defers := ds' } t3 b todo cs i1 s3 (ht.mono l1) fun c2 w2 t2 H2 y1 y2 y3 y4 => hn c2 w2 t2 H2 (l1.trans y1) y2 y3 y4
theorem acalls_bodyX {f : FuncId} {fn : Func} {k : Code} {args : List AV} {R : AV → HS → Prop} (hf : P.funcs[f]? = some fn) (hb : fn.body = some k) (Q : PostX) (h : AWX P k Q (args ++ List.replicate (fn.ntmps - args.length) .un) H [])
    (hq : ∀ e T' H' DS', Q e T' H' DS' → (e = .ret ∨ e = .normal) ∧ DEnd P DS' (fun H2 => ∀ (B : Nat) (w0 : World) (c : Ctx) (w : World) (tmps : Array Value), Inv B w0 c H2 w → RepT c tmps T' → ∃ v av H3 c2, (results fn tmps).run P w = .ok v w ∧ Le c c2 ∧ Rep c2 v av ∧ Inv B w0 c2 H3 w ∧ R av H3) H') : ACalls P f args H R := by
  intro B w0 c w t vs hI hB hs ha kind cs hk hn
  have he : Frame.enter P f vs kind = (Frame.mk f #[] [] [] .run kind none).atR { tmps := vs ++ Array.replicate (fn.ntmps - vs.size) undef, defers := [] } [.code k] := by
    simp [Frame.enter, hf, hb, Frame.atR]
  rw [he]
  refine h B w0 c w _ t hI hB (repT_args hs ha) .nil _ [] cs (by rcases hk with rfl | rfl <;> simp) rfl ?_
  intro e a' w' c' t' T' H' DS' x1 x2 x3 x4 x5 x6
  obtain ⟨hee, hd⟩ := hq e T' H' DS' x6
  have fin : ∀ todo, Run P c'.x w' t' { (Frame.mk f #[] [] [] .run kind none).atR a' todo with mode := .returning } cs := by
    intro todo
    refine dend_run DS' H' hd c' w' a' t' _ todo cs x2 x3 x5 ?_
    intro c2 w2 t2 H2 y1 y2 y3 hres
    obtain ⟨v, av, H3, c3, r1, r2, r3, r4, r5⟩ := hres B w0 c2 w2 a'.tmps y2 (x4.mono y1)
    have := hn v w2 c3 av H3 t2 { (Frame.mk f #[] [] [] .run kind none).atR { a' with defers := [] } todo with mode := .returning } ((x1.trans y1).trans r2) r3 r4 (by unfold Held; rw [r2.x]; exact y3.mono r2.mem fun _ h => h) r5 ⟨rfl, rfl, rfl, rfl, rfl, fn, hf, r1⟩
    rw [r2.x] at this
    exact this
  rcases hee with rfl | rfl
  · exact ⟨rfl, fin⟩
  · exact run_quiet x2.xok (sg_end rfl) (fin [])
end
end Go.AV
namespace Go.AV
def beqV : Value → Value → Bool
  | .bool a, .bool b => decide (a = b)
  | .int k m, .int k' n => decide (k = k') && decide (m = n)
  | .string a, .string b => decide (a.data.toList = b.data.toList)
  | .pointer none, .pointer none => true
  | .slice none 0 0, .slice none 0 0 => true
  | .map none, .map none => true
  | .nilFunc, .nilFunc => true
  | .nilIface, .nilIface => true
  | _, _ => false
theorem beqV_ok {a b : Value} (h : beqV a b = true) : a = b := by
  unfold beqV at h
  split at h
  · simpa using h
  · simp only [Bool.and_eq_true, decide_eq_true_eq] at h; rw [h.1, h.2]
  · rename_i x y
    obtain ⟨⟨x⟩⟩ := x
    obtain ⟨⟨y⟩⟩ := y
    simp at h
    rw [h]
  all_goals first | rfl | (exact absurd h Bool.false_ne_true)
mutual
def beqD : DV → DV → Bool
  | .v a, .v b => beqV a b
  | .agg l, .agg m => beqDs l m
  | .lst s l, .lst s' m => decide (s = s') && beqDs l m
  | _, _ => false
def beqDs : List DV → List DV → Bool
  | [], [] => true
  | a :: l, b :: m => beqD a b && beqDs l m
  | _, _ => false
end
mutual
theorem beqD_ok : ∀ {a b : DV}, beqD a b = true → a = b
  | .v a, .v b, h => by
    have := beqV_ok (a := a) (b := b) (by simpa [beqD] using h)
    rw [this]
  | .agg l, .agg m, h => by
    have := beqDs_ok (a := l) (b := m) (by simpa [beqD] using h)
    rw [this]
  | .lst s l, .lst s' m, h => by
    simp only [beqD, Bool.and_eq_true, decide_eq_true_eq] at h
    rw [h.1, beqDs_ok h.2]
  | .v _, .agg _, h => by simp [beqD] at h
  | .v _, .lst _ _, h => by simp [beqD] at h
  | .agg _, .v _, h => by simp [beqD] at h
  | .agg _, .lst _ _, h => by simp [beqD] at h
  | .lst _ _, .v _, h => by simp [beqD] at h
  | .lst _ _, .agg _, h => by simp [beqD] at h
theorem beqDs_ok : ∀ {a b : List DV}, beqDs a b = true → a = b
  | [], [], _ => rfl
  | a :: l, b :: m, h => by
    simp only [beqDs, Bool.and_eq_true] at h
    rw [beqD_ok h.1, beqDs_ok h.2]
  | [], _ :: _, h => by simp [beqDs] at h
  | _ :: _, [], h => by simp [beqDs] at h
end
mutual
def beqA : AV → AV → Bool
  | .un, .un => true
  | .nv, .nv => true
  | .d x, .d y => beqD x y
  | .own t s l, .own t' s' m => decide (t = t') && decide (s = s') && beqDs l m
  | .elt l, .elt m => beqDs l m
  | .ptr i o, .ptr j q => decide (i = j) && decide (o = q)
  | .arr i n c, .arr j m d => decide (i = j) && decide (n = m) && decide (c = d)
  | .agg l, .agg m => beqAs l m
  | .tup l, .tup m => beqAs l m
  | .map i, .map j => decide (i = j)
  | .iter i, .iter j => decide (i = j)
  | _, _ => false
def beqAs : List AV → List AV → Bool
  | [], [] => true
  | a :: l, b :: m => beqA a b && beqAs l m
  | _, _ => false
end
mutual
theorem beqA_ok : ∀ (a b : AV), beqA a b = true → a = b
  | a, b, h => by
    cases a <;> cases b <;> simp only [beqA, Bool.and_eq_true, decide_eq_true_eq, Bool.false_eq_true] at h
    case un.un => rfl
    case nv.nv => rfl
    case d.d => rw [beqD_ok h]
    case own.own => rw [h.1.1, h.1.2, beqDs_ok h.2]
    case elt.elt => rw [beqDs_ok h]
    case ptr.ptr => rw [h.1, h.2]
    case arr.arr => rw [h.1.1, h.1.2, h.2]
    case agg.agg l m => rw [beqAs_ok l m h]
    case tup.tup l m => rw [beqAs_ok l m h]
    case map.map => rw [h]
    case iter.iter => rw [h]
theorem beqAs_ok : ∀ (a b : List AV), beqAs a b = true → a = b
  | [], [], _ => rfl
  | a :: l, b :: m, h => by
    simp only [beqAs, Bool.and_eq_true] at h
    rw [beqA_ok a b h.1, beqAs_ok l m h.2]
  | [], _ :: _, h => by simp [beqAs] at h
  | _ :: _, [], h => by simp [beqAs] at h
end
mutual
def fitsB (nb nt : Nat) : AV → Bool
  | .own (some i) _ _ => decide (i < nt)
  | .ptr id _ => decide (id < nb)
  | .arr id _ _ => decide (id < nb)
  | .sub id _ _ _ => decide (id < nb)
  | .agg cs => fitsBs nb nt cs
  | .tup cs => fitsBs nb nt cs
  | .fn _ fs cs => fitsBs nb nt fs && fitsBs nb nt cs
  | _ => true
def fitsBs (nb nt : Nat) : List AV → Bool
  | [] => true
  | a :: l => fitsB nb nt a && fitsBs nb nt l
end
mutual
theorem fitsB_ok (nb nt : Nat) : ∀ (a : AV), fitsB nb nt a = true → Fits nb nt a
  | .un, _ => .un
  | .nv, _ => .nv
  | .d x, _ => .d x
  | .own none s l, _ => .own0 s l
  | .own (some i) s l, h => .own i s l (by simpa [fitsB] using h)
  | .elt cs, _ => .elt cs
  | .ptr id o, h => .ptr id o (by simpa [fitsB] using h)
  | .arr id n c, h => .arr id n c (by simpa [fitsB] using h)
  | .sub id o n c, h => .sub id o n c (by simpa [fitsB] using h)
  | .agg cs, h => .agg cs (fitsBs_ok nb nt cs (by simpa [fitsB] using h))
  | .tup cs, h => .tup cs (fitsBs_ok nb nt cs (by simpa [fitsB] using h))
  | .fn f fs cs, h => by
    simp only [fitsB, Bool.and_eq_true] at h
    exact .fn f fs cs (fitsBs_ok nb nt fs h.1) (fitsBs_ok nb nt cs h.2)
  | .map id, _ => .map id
  | .iter id, _ => .iter id
theorem fitsBs_ok (nb nt : Nat) : ∀ (l : List AV), fitsBs nb nt l = true → ∀ i (hi : i < l.length), Fits nb nt l[i]
  | [], _, i, hi => by simp at hi
  | a :: l, h, i, hi => by
    simp only [fitsBs, Bool.and_eq_true] at h
    cases i with
    | zero => exact fitsB_ok nb nt a h.1
    | succ i => exact fitsBs_ok nb nt l h.2 i (by simpa using hi)
end
end Go.AV
namespace Go.AV
section
variable {α : Type}
def forceN : Nat → (Nat → α) → α
  | 0, k => k 0
  | n + 1, k => k (n + 1)
theorem forceN_eq (n : Nat) (k : Nat → α) : forceN n k = k n := by cases n <;> rfl
def forceI : Int → (Int → α) → α
  | .ofNat n, k => forceN n fun n => k (.ofNat n)
  | .negSucc n, k => forceN n fun n => k (.negSucc n)
theorem forceI_eq (n : Int) (k : Int → α) : forceI n k = k n := by cases n <;> simp [forceI, forceN_eq]
def forceB : Bool → (Bool → α) → α
  | true, k => k true
  | false, k => k false
theorem forceB_eq (b : Bool) (k : Bool → α) : forceB b k = k b := by cases b <;> rfl
def forceBs : List UInt8 → (List UInt8 → α) → α
  | [], k => k []
  | b :: l, k => forceN b.toNat fun n => forceBs l fun l => k (UInt8.ofNat n :: l)
theorem forceBs_eq : ∀ (l : List UInt8) (k : List UInt8 → α), forceBs l k = k l
  | [], k => rfl
  | b :: l, k => by simp [forceBs, forceN_eq, forceBs_eq l]
def forceV : Value → (Value → α) → α
  | .int kd n, k => forceI n fun n => k (.int kd n)
  | .string b, k => forceBs b.data.toList fun l => k (.string ⟨⟨l⟩⟩)
  | .bool b, k => forceB b fun b => k (.bool b)
  | v, k => k v
theorem forceV_eq (v : Value) (k : Value → α) : forceV v k = k v := by
  unfold forceV
  split
  · rw [forceI_eq]
  · rw [forceBs_eq]
  · rw [forceB_eq]
  · rfl
mutual
def forceD : DV → (DV → α) → α
  | .v x, k => forceV x fun x => k (.v x)
  | .agg l, k => forceDs l fun l => k (.agg l)
  | .lst s l, k => forceN s fun s => forceDs l fun l => k (.lst s l)
def forceDs : List DV → (List DV → α) → α
  | [], k => k []
  | x :: l, k => forceD x fun x => forceDs l fun l => k (x :: l)
end
mutual
theorem forceD_eq : ∀ (x : DV) (k : DV → α), forceD x k = k x
  | .v x, k => by simp only [forceD, forceV_eq]
  | .agg l, k => by simp only [forceD, forceDs_eq l]
  | .lst s l, k => by simp only [forceD, forceN_eq, forceDs_eq l]
theorem forceDs_eq : ∀ (l : List DV) (k : List DV → α), forceDs l k = k l
  | [], k => by simp only [forceDs]
  | x :: l, k => by simp only [forceDs, forceD_eq x, forceDs_eq l]
end
def forceO : Option Nat → (Option Nat → α) → α
  | none, k => k none
  | some n, k => forceN n fun n => k (some n)
theorem forceO_eq (o : Option Nat) (k : Option Nat → α) : forceO o k = k o := by cases o <;> simp [forceO, forceN_eq]
mutual
def forceA : AV → (AV → α) → α
  | .un, k => k .un
  | .nv, k => k .nv
  | .d x, k => forceD x fun x => k (.d x)
  | .own t s l, k => forceO t fun t => forceN s fun s => forceDs l fun l => k (.own t s l)
  | .elt l, k => forceDs l fun l => k (.elt l)
  | .ptr i o, k => forceN i fun i => forceN o fun o => k (.ptr i o)
  | .arr i n c, k => forceN i fun i => forceN n fun n => forceN c fun c => k (.arr i n c)
  | .sub i o n c, k => forceN i fun i => forceN o fun o => forceN n fun n => forceN c fun c => k (.sub i o n c)
  | .agg l, k => forceAs l fun l => k (.agg l)
  | .tup l, k => forceAs l fun l => k (.tup l)
  | .fn f fs cs, k => forceAs fs fun fs => forceAs cs fun cs => k (.fn f fs cs)
  | .map i, k => forceN i fun i => k (.map i)
  | .iter i, k => forceN i fun i => k (.iter i)
def forceAs : List AV → (List AV → α) → α
  | [], k => k []
  | x :: l, k => forceA x fun x => forceAs l fun l => k (x :: l)
end
mutual
theorem forceA_eq : ∀ (x : AV) (k : AV → α), forceA x k = k x
  | .un, k => by simp only [forceA]
  | .nv, k => by simp only [forceA]
  | .d x, k => by simp only [forceA, forceD_eq]
  | .own t s l, k => by simp only [forceA, forceO_eq, forceN_eq, forceDs_eq]
  | .elt l, k => by simp only [forceA, forceDs_eq]
  | .ptr i o, k => by simp only [forceA, forceN_eq]
  | .arr i n c, k => by simp only [forceA, forceN_eq]
  | .sub i o n c, k => by simp only [forceA, forceN_eq]
  | .agg l, k => by simp only [forceA, forceAs_eq l]
  | .tup l, k => by simp only [forceA, forceAs_eq l]
  | .fn f fs cs, k => by simp only [forceA, forceAs_eq fs, forceAs_eq cs]
  | .map i, k => by simp only [forceA, forceN_eq]
  | .iter i, k => by simp only [forceA, forceN_eq]
theorem forceAs_eq : ∀ (l : List AV) (k : List AV → α), forceAs l k = k l
  | [], k => by simp only [forceAs]
  | x :: l, k => by simp only [forceAs, forceA_eq x, forceAs_eq l]
end
def setK : List AV → Nat → AV → (List AV → α) → α
  | [], _, _, k => k []
  | _ :: l, 0, v, k => k (v :: l)
  | x :: l, n + 1, v, k => setK l n v fun l => k (x :: l)
theorem setK_eq : ∀ (l : List AV) (n : Nat) (v : AV) (k : List AV → α), setK l n v k = k (l.set n v)
  | [], _, _, _ => rfl
  | _ :: _, 0, _, _ => rfl
  | _ :: l, n + 1, v, k => by simp only [setK, setK_eq l n v, List.set]
def putK (T : List AV) (d : Option Tmp) (v : AV) (k : List AV → α) : α := match d with
  | none => k T
  | some d => setK T d v k
theorem putK_eq (T : List AV) (d : Option Tmp) (v : AV) (k : List AV → α) : putK T d v k = k (putT T d v) := by
  cases d with
  | none => rfl
  | some d => exact setK_eq T d v k
def forceBl : List HB → (List HB → α) → α
  | [], k => k []
  | ⟨e, cs, fz⟩ :: l, k => forceAs cs fun cs => forceB fz fun fz => forceBl l fun l => k (⟨e, cs, fz⟩ :: l)
theorem forceBl_eq : ∀ (l : List HB) (k : List HB → α), forceBl l k = k l
  | [], k => rfl
  | ⟨e, cs, fz⟩ :: l, k => by simp only [forceBl, forceAs_eq, forceB_eq, forceBl_eq l]
def forceNs : List Nat → (List Nat → α) → α
  | [], k => k []
  | n :: l, k => forceN n fun n => forceNs l fun l => k (n :: l)
theorem forceNs_eq : ∀ (l : List Nat) (k : List Nat → α), forceNs l k = k l
  | [], k => rfl
  | n :: l, k => by simp only [forceNs, forceN_eq, forceNs_eq l]
def forceMs : List MB → (List MB → α) → α
  | [], k => k []
  | .map es :: l, k => forceMs l fun l => k (.map es :: l)
  | .iter o n x :: l, k => forceO o fun o => forceN n fun n => forceMs l fun l => k (.iter o n x :: l)
  | .obj o :: l, k => forceMs l fun l => k (.obj o :: l)
  | .rnd ps asg bd st pend T :: l, k => forceMs l fun l => k (.rnd ps asg bd st pend T :: l)
theorem forceMs_eq : ∀ (l : List MB) (k : List MB → α), forceMs l k = k l
  | [], k => rfl
  | .map es :: l, k => by simp only [forceMs, forceMs_eq l]
  | .iter o n x :: l, k => by simp only [forceMs, forceO_eq, forceN_eq, forceMs_eq l]
  | .obj o :: l, k => by simp only [forceMs, forceMs_eq l]
  | .rnd ps asg bd st pend T :: l, k => by simp only [forceMs, forceMs_eq l]
def forceH : HS → (HS → α) → α
  | ⟨bl, tk, mp, x⟩, k => forceBl bl fun bl => forceNs tk fun tk => forceMs mp fun mp => k ⟨bl, tk, mp, x⟩
theorem forceH_eq (H : HS) (k : HS → α) : forceH H k = k H := by
  obtain ⟨bl, tk, mp, x⟩ := H
  simp only [forceH, forceBl_eq, forceNs_eq, forceMs_eq]
end
end Go.AV
namespace Go.AV
open Go.RowKit
def mskE (R : List Nat) (j : Nat) : List Edge → Nat → Nat
  | [], s => s
  | e :: es, s => match Region.binds .any e with
    | true => mskE R j es (s ||| 2 ^ e.on ||| R.getD (j - 1 - e.on) 0)
    | false => mskE R j es s
def edgeOk (j : Nat) : List Edge → Bool
  | [] => true
  | e :: es => match Region.binds .any e with
    | true => Nat.blt e.on j && edgeOk j es
    | false => edgeOk j es
def meets (di dj : Option Tmp) (li lj : List Tmp) : Bool :=
  (match di with
   | some d => lj.contains d || dj == some d
   | none => false) ||
  (match dj with
   | some d => li.contains d
   | none => false)
def prevOk (m : Nat) (dj : Option Tmp) (lj : List Tmp) : List (Option Tmp × List Tmp) → Nat → Bool
  | [], _ => true
  | (di, li) :: r, i => match meets di dj li lj with
    | true => m.testBit (i - 1) && prevOk m dj lj r (i - 1)
    | false => prevOk m dj lj r (i - 1)
def statGo (ops : Array Oper) : List Oper → List (Option Tmp × List Tmp) → List Nat → Nat → Option (List Nat)
  | [], _, _, _ => some []
  | o :: l, pv, R, j => match edgeOk j o.after.toList && prevOk (mskE R j o.after.toList 0) o.dst (o.looksAt ops) pv j with
    | true => match statGo ops l ((o.dst, o.looksAt ops) :: pv) (mskE R j o.after.toList 0 :: R) (j + 1) with
      | some ms => some (mskE R j o.after.toList 0 :: ms)
      | none => none
    | false => none
def stat (ops : Array Oper) : Option (List Nat) := statGo ops ops.toList [] [] 0
def dynOk : List Nat → List Nat → Nat → Nat → Nat → Bool
  | [], [], _, _, _ => true
  | f :: fl, m :: ms, W, D, j => match f with
    | 0 => dynOk fl ms W D (j + 1)
    | 1 => Nat.beq (W &&& m) W && dynOk fl ms W (D ||| 2 ^ j) (j + 1)
    | _ => Nat.beq (D &&& m) D && dynOk fl ms (W ||| 2 ^ j) (D ||| 2 ^ j) (j + 1)
  | _, _, _, _, _ => false
def drawF (ops : Array Oper) (fl : List Nat) : Bool := match stat ops with
  | some ms => dynOk fl ms 0 0 0
  | none => false
def stepB (acc : Array Nat) (o : Oper) : Array Nat := acc.push (o.after.foldl (fun s e => if Region.binds .any e then s ||| 2 ^ e.on ||| acc.getD e.on 0 else s) 0)
theorem before_eq (ops : Array Oper) : Region.before ops = ops.toList.foldl stepB #[] := by
  unfold Region.before
  rw [← Array.foldl_toList]
  rfl
theorem rev_getD {R : List Nat} {acc : Array Nat} {j i : Nat} (h : acc.toList = R.reverse) (hj : R.length = j) (hi : i < j) : R.getD (j - 1 - i) 0 = acc.getD i 0 := by
  have e : acc = ⟨R.reverse⟩ := by cases acc; simpa using h
  subst e
  have h1 : j - 1 - i < R.length := by omega
  have h2 : i < R.reverse.length := by simp; omega
  rw [List.getD_eq_getElem?_getD, List.getElem?_eq_getElem h1]
  simp only [Array.getD, List.size_toArray, h2, dif_pos, Option.getD_some]
  have h3 : (⟨R.reverse⟩ : Array Nat).getInternal i h2 = R.reverse[i] := rfl
  rw [h3, List.getElem_reverse]
  congr 1
  omega
theorem mskE_ok {R : List Nat} {acc : Array Nat} {j : Nat} (h : acc.toList = R.reverse) (hj : R.length = j) : ∀ (es : List Edge) (s : Nat), edgeOk j es = true → mskE R j es s = es.foldl (fun s e => if Region.binds .any e then s ||| 2 ^ e.on ||| acc.getD e.on 0 else s) s
  | [], s, _ => rfl
  | e :: es, s, he => by
    unfold edgeOk at he
    unfold mskE
    rw [List.foldl_cons]
    split at he
    · rename_i hb
      simp only [Bool.and_eq_true] at he
      have hlt : e.on < j := by simpa [Nat.blt_eq] using he.1
      rw [hb]
      simp only [if_true]
      rw [rev_getD h hj hlt]
      exact mskE_ok h hj es _ he.2
    · rename_i hb
      rw [hb]
      simp only [Bool.false_eq_true, if_false]
      exact mskE_ok h hj es _ he
theorem edgeOk_ok {j : Nat} : ∀ {es : List Edge}, edgeOk j es = true → ∀ e ∈ es, Region.binds .any e = true → e.on < j
  | e :: es, he, x, hx, hb => by
    unfold edgeOk at he
    rcases List.mem_cons.1 hx with rfl | hx
    · rw [hb] at he
      simp only [Bool.and_eq_true] at he
      simpa [Nat.blt_eq] using he.1
    · split at he
      · simp only [Bool.and_eq_true] at he
        exact edgeOk_ok he.2 x hx hb
      · exact edgeOk_ok he x hx hb
theorem prevOk_ok {m : Nat} {dj : Option Tmp} {lj : List Tmp} : ∀ {pv : List (Option Tmp × List Tmp)} {j : Nat}, pv.length = j → prevOk m dj lj pv j = true → ∀ i (x : Option Tmp × List Tmp), pv.reverse[i]? = some x → meets x.1 dj x.2 lj = true → m.testBit i = true
  | [], j, _, _, i, x, hx, _ => by simp at hx
  | (di, li) :: r, j, hl, h, i, x, hx, hm => by
    unfold prevOk at h
    have hl' : r.length = j - 1 := by simp at hl; omega
    rw [List.reverse_cons] at hx
    rcases Nat.lt_or_ge i r.length with hi | hi
    · rw [List.getElem?_append_left (by simpa using hi)] at hx
      split at h
      · simp only [Bool.and_eq_true] at h
        exact prevOk_ok hl' h.2 i x hx hm
      · exact prevOk_ok hl' h i x hx hm
    · have hi2 : i = r.length := by
        have := (List.getElem?_eq_some_iff.1 hx).1
        simp at this; omega
      subst hi2
      rw [List.getElem?_append_right (by simp)] at hx
      simp at hx
      subst hx
      rw [hm] at h
      simp only [Bool.and_eq_true] at h
      rw [hl']
      exact h.1
theorem statGo_ok {ops : Array Oper} : ∀ (l pre : List Oper) (pv : List (Option Tmp × List Tmp)) (R : List Nat) (j : Nat) (ms : List Nat), statGo ops l pv R j = some ms → pre.length = j →
    pv = (pre.map fun o => (o.dst, o.looksAt ops)).reverse → (pre.foldl stepB #[]).toList = R.reverse → R.length = j →
    ((pre ++ l).foldl stepB #[]).toList = R.reverse ++ ms ∧ ms.length = l.length ∧
    ∀ k o m, l[k]? = some o → ms[k]? = some m → edgeOk (j + k) o.after.toList = true ∧ ∀ i oi, i < j + k → (pre ++ l)[i]? = some oi → meets oi.dst o.dst (oi.looksAt ops) (o.looksAt ops) = true → m.testBit i = true
  | [], pre, pv, R, j, ms, h, hj, hp, hR, hl => by
    simp only [statGo, Option.some.injEq] at h
    subst h
    exact ⟨by simpa using hR, rfl, fun k o m hk => by simp at hk⟩
  | o :: l, pre, pv, R, j, ms, h, hj, hp, hR, hl => by
    unfold statGo at h
    split at h
    · rename_i hc
      simp only [Bool.and_eq_true] at hc
      split at h
      · rename_i ms' hrec
        cases h
        have hm := mskE_ok (acc := pre.foldl stepB #[]) hR hl o.after.toList 0 hc.1
        have hstep : ((pre ++ [o]).foldl stepB #[]).toList = (mskE R j o.after.toList 0 :: R).reverse := by
          rw [List.foldl_append, List.foldl_cons, List.foldl_nil, List.reverse_cons, ← hR, hm, Array.foldl_toList]
          simp [stepB]
        obtain ⟨q1, q2, q3⟩ := statGo_ok l (pre ++ [o]) _ _ (j + 1) ms' hrec (by simp [hj]) (by rw [hp]; simp) hstep (by simp [hl])
        refine ⟨by rw [List.append_assoc] at q1; simpa using q1, by simp [q2], fun k o' m' hk hm' => ?_⟩
        cases k with
        | zero =>
          simp only [List.getElem?_cons_zero, Option.some.injEq] at hk hm'
          subst hk hm'
          refine ⟨hc.1, fun i oi hi hoi hmt => ?_⟩
          have hpl : pv.length = j := by rw [hp]; simp [hj]
          refine prevOk_ok hpl hc.2 i (oi.dst, oi.looksAt ops) ?_ hmt
          rw [hp, List.reverse_reverse, List.getElem?_map]
          rw [List.getElem?_append_left (by omega)] at hoi
          rw [hoi]; rfl
        | succ k =>
          simp only [List.getElem?_cons_succ] at hk hm'
          obtain ⟨r1, r2⟩ := q3 k o' m' hk hm'
          rw [show j + (k + 1) = j + 1 + k by omega]
          exact ⟨r1, fun i oi hi hoi hmt => r2 i oi hi (by rw [List.append_assoc]; exact hoi) hmt⟩
      · cases h
    · cases h
theorem and_testBit {W m i : Nat} (h : Nat.beq (W &&& m) W = true) (hw : W.testBit i = true) : m.testBit i = true := by
  have e : W &&& m = W := Nat.eq_of_beq_eq_true h
  have : (W &&& m).testBit i = true := by rw [e]; exact hw
  rw [Nat.testBit_and, Bool.and_eq_true] at this
  exact this.2
theorem or_testBit {W i j : Nat} (h : W.testBit i = true ∨ i = j) : (W ||| 2 ^ j).testBit i = true := by
  rw [Nat.testBit_or]
  rcases h with h | rfl
  · simp [h]
  · simp
theorem dynOk_ok : ∀ (fl ms : List Nat) (W D j : Nat), (∀ i, W.testBit i = true → D.testBit i = true) → dynOk fl ms W D j = true → fl.length = ms.length ∧ ∀ (k f m : Nat), fl[k]? = some f → ms[k]? = some m →
    (1 ≤ f → ∀ i, W.testBit i = true → m.testBit i = true) ∧ (2 ≤ f → ∀ i, D.testBit i = true → m.testBit i = true) ∧
    (∀ (i fi : Nat), i < k → fl[i]? = some fi → (2 ≤ fi ∧ 1 ≤ f) ∨ (2 ≤ f ∧ 1 ≤ fi) → m.testBit (j + i) = true)
  | [], [], W, D, j, _, _ => ⟨rfl, fun k f m hk => by simp at hk⟩
  | f :: fl, m :: ms, W, D, j, hWD, h => by
    have key : ∀ (W' D' : Nat), (∀ i, W.testBit i = true → W'.testBit i = true) → (∀ i, D.testBit i = true → D'.testBit i = true) → (∀ i, W'.testBit i = true → D'.testBit i = true) → (2 ≤ f → W'.testBit j = true) → (1 ≤ f → D'.testBit j = true) →
        (1 ≤ f → ∀ i, W.testBit i = true → m.testBit i = true) → (2 ≤ f → ∀ i, D.testBit i = true → m.testBit i = true) → dynOk fl ms W' D' (j + 1) = true →
        (f :: fl).length = (m :: ms).length ∧ ∀ (k f' m' : Nat), (f :: fl)[k]? = some f' → (m :: ms)[k]? = some m' →
          (1 ≤ f' → ∀ i, W.testBit i = true → m'.testBit i = true) ∧ (2 ≤ f' → ∀ i, D.testBit i = true → m'.testBit i = true) ∧
          (∀ (i fi : Nat), i < k → (f :: fl)[i]? = some fi → (2 ≤ fi ∧ 1 ≤ f') ∨ (2 ≤ f' ∧ 1 ≤ fi) → m'.testBit (j + i) = true) := by
      intro W' D' hW hD hWD' hWj hDj h1 h2 hr
      obtain ⟨q1, q2⟩ := dynOk_ok fl ms W' D' (j + 1) hWD' hr
      refine ⟨by simp [q1], fun k f' m' hk hm => ?_⟩
      cases k with
      | zero =>
        simp only [List.getElem?_cons_zero, Option.some.injEq] at hk hm
        subst hk hm
        exact ⟨h1, h2, fun i fi hi => by omega⟩
      | succ k =>
        simp only [List.getElem?_cons_succ] at hk hm
        obtain ⟨r1, r2, r3⟩ := q2 k f' m' hk hm
        refine ⟨fun hf i hi => r1 hf i (hW i hi), fun hf i hi => r2 hf i (hD i hi), fun i fi hi hfi hc => ?_⟩
        cases i with
        | zero =>
          simp only [List.getElem?_cons_zero, Option.some.injEq] at hfi
          subst hfi
          rw [Nat.add_zero]
          rcases hc with ⟨c1, c2⟩ | ⟨c1, c2⟩
          · exact r1 c2 j (hWj c1)
          · exact r2 c1 j (hDj c2)
        | succ i =>
          simp only [List.getElem?_cons_succ] at hfi
          have := r3 i fi (by omega) hfi hc
          rwa [show j + (i + 1) = j + 1 + i by omega]
    match f, h, key with
    | 0, h, key => exact key W D (fun _ h => h) (fun _ h => h) hWD (by omega) (by omega) (by omega) (by omega) (by simpa only [dynOk] using h)
    | 1, h, key =>
      simp only [dynOk, Bool.and_eq_true] at h
      exact key W _ (fun _ h => h) (fun _ h => or_testBit (.inl h)) (fun i hi => or_testBit (.inl (hWD i hi))) (by omega) (fun _ => or_testBit (.inr rfl)) (fun _ i hi => and_testBit h.1 hi) (by omega) h.2
    | f + 2, h, key =>
      simp only [dynOk, Bool.and_eq_true] at h
      have hD : ∀ i, D.testBit i = true → m.testBit i = true := fun i hi => and_testBit h.1 hi
      refine key _ _ (fun _ h => or_testBit (.inl h)) (fun _ h => or_testBit (.inl h)) (fun i hi => ?_) (fun _ => or_testBit (.inr rfl)) (fun _ => or_testBit (.inr rfl)) (fun _ i hi => hD i (hWD i hi)) (fun _ => hD) h.2
      rw [Nat.testBit_or, Bool.or_eq_true] at hi
      rw [Nat.testBit_or, Bool.or_eq_true]
      exact hi.imp (hWD i) id
  | [], _ :: _, _, _, _, _, h => by simp [dynOk] at h
  | _ :: _, [], _, _, _, _, h => by simp [dynOk] at h
theorem foldl_edges {acc : Array Nat} {i : Nat} : ∀ (es : List Edge) (s : Nat), (es.foldl (fun s e => if Region.binds .any e then s ||| 2 ^ e.on ||| acc.getD e.on 0 else s) s).testBit i = true → s.testBit i = true ∨ ∃ e ∈ es, Region.binds .any e = true ∧ (e.on = i ∨ (acc.getD e.on 0).testBit i = true)
  | [], s, h => .inl h
  | e :: es, s, h => by
    rw [List.foldl_cons] at h
    rcases foldl_edges es _ h with h1 | ⟨x, hx, h2⟩
    · split at h1
      · rename_i hb
        rw [Nat.testBit_or, Bool.or_eq_true, Nat.testBit_or, Bool.or_eq_true] at h1
        rcases h1 with (h1 | h1) | h1
        · exact .inl h1
        · refine .inr ⟨e, List.mem_cons_self .., hb, .inl ?_⟩
          rw [Nat.testBit_two_pow] at h1
          simpa using h1
        · exact .inr ⟨e, List.mem_cons_self .., hb, .inr h1⟩
      · exact .inl h1
    · exact .inr ⟨x, List.mem_cons_of_mem _ hx, h2⟩
theorem foldB_size : ∀ (l : List Oper) (acc : Array Nat), (l.foldl stepB acc).size = acc.size + l.length
  | [], acc => by simp
  | o :: l, acc => by rw [List.foldl_cons, foldB_size l]; simp [stepB]; omega
theorem foldB_old : ∀ (l : List Oper) (acc : Array Nat) (i : Nat), i < acc.size → (l.foldl stepB acc).getD i 0 = acc.getD i 0
  | [], _, _, _ => rfl
  | o :: l, acc, i, hi => by
    rw [List.foldl_cons, foldB_old l _ i (by simp [stepB]; omega)]
    unfold stepB
    simp only [Array.getD_eq_getD_getElem?]
    rw [Array.getElem?_push, if_neg (by omega)]
theorem stepB_at (acc : Array Nat) (o : Oper) : (stepB acc o).getD acc.size 0 = o.after.toList.foldl (fun s e => if Region.binds .any e then s ||| 2 ^ e.on ||| acc.getD e.on 0 else s) 0 := by
  unfold stepB
  rw [Array.getD_eq_getD_getElem?, Array.getElem?_push_size, Option.getD_some, ← Array.foldl_toList]
theorem drawF_ok {ops : Array Oper} {fl : List Nat} (h : drawF ops fl = true) : drawOk ops fl (Region.before ops) = true := by
  unfold drawF at h
  split at h
  · rename_i ms hst
    obtain ⟨q1, q2, q3⟩ := statGo_ok ops.toList [] [] [] 0 ms hst rfl rfl rfl rfl
    obtain ⟨r1, r2⟩ := dynOk_ok fl ms 0 0 0 (fun i hi => by simp at hi) h
    have hB : (Region.before ops).toList = ms := by rw [before_eq]; simpa using q1
    have hbit : ∀ i j m, ms[j]? = some m → bit (Region.before ops) i j = m.testBit i := by
      intro i j m hm
      unfold bit
      have e : Region.before ops = ⟨ms⟩ := by rw [← hB]
      rw [e, Array.getD_eq_getD_getElem?]
      simp [hm]
    unfold drawOk
    rw [List.all_eq_true]
    intro j hj
    rw [List.mem_range] at hj
    obtain ⟨oj, hoj⟩ : ∃ o, ops[j]? = some o := ⟨_, Array.getElem?_eq_getElem hj⟩
    have hoj' : ops.toList[j]? = some oj := by simpa using hoj
    obtain ⟨mj, hmj⟩ : ∃ m, ms[j]? = some m := ⟨_, List.getElem?_eq_getElem (by rw [q2]; simpa using hj)⟩
    obtain ⟨fj, hfj⟩ : ∃ f, fl[j]? = some f := ⟨_, List.getElem?_eq_getElem (by rw [r1, q2]; simpa using hj)⟩
    obtain ⟨e1, e2⟩ := q3 j oj mj hoj' hmj
    rw [Nat.zero_add] at e1 e2
    obtain ⟨_, _, d3⟩ := r2 j fj mj hfj hmj
    rw [hoj]
    dsimp only
    rw [Bool.and_eq_true]
    have hedge : ∀ e ∈ oj.after, Region.binds .any e = true → e.on < j := fun e he hb => edgeOk_ok e1 e (by simpa using he) hb
    refine ⟨?_, ?_⟩
    · rw [Array.all_eq_true_iff_forall_mem]
      intro e he
      rw [Bool.or_eq_true]
      cases hb : Region.binds .any e with
      | false => exact .inl rfl
      | true => exact .inr (decide_eq_true (hedge e he hb))
    · rw [List.all_eq_true]
      intro i hi
      rw [List.mem_range] at hi
      obtain ⟨oi, hoi⟩ : ∃ o, ops[i]? = some o := ⟨_, Array.getElem?_eq_getElem hi⟩
      have hoi' : ops.toList[i]? = some oi := by simpa using hoi
      obtain ⟨fi, hfi⟩ : ∃ f, fl[i]? = some f := ⟨_, List.getElem?_eq_getElem (by rw [r1, q2]; simpa using hi)⟩
      rw [hoi]
      dsimp only
      rw [Bool.and_eq_true]
      refine ⟨?_, ?_⟩
      · rw [Bool.or_eq_true]
        cases hb : bit (Region.before ops) i j with
        | false => exact .inl rfl
        | true =>
          refine .inr ?_
          have hsp : ops.toList = ops.toList.take j ++ (oj :: ops.toList.drop (j + 1)) := by
            obtain ⟨h3, h4⟩ := List.getElem?_eq_some_iff.1 hoj'
            rw [← h4, ← List.drop_eq_getElem_cons h3, List.take_append_drop]
          have hsz : ((ops.toList.take j).foldl stepB #[]).size = j := by
            rw [foldB_size]; simp; omega
          have hBj : (Region.before ops).getD j 0 = oj.after.toList.foldl (fun s e => if Region.binds .any e then s ||| 2 ^ e.on ||| ((ops.toList.take j).foldl stepB #[]).getD e.on 0 else s) 0 := by
            rw [before_eq]
            conv => lhs; rw [hsp]
            rw [List.foldl_append, List.foldl_cons, foldB_old _ _ _ (by simp [stepB, hsz])]
            have := stepB_at ((ops.toList.take j).foldl stepB #[]) oj
            rwa [hsz] at this
          unfold bit at hb
          rw [hBj] at hb
          rcases foldl_edges _ _ hb with h0 | ⟨e, he, hbe, h5⟩
          · simp at h0
          · rw [Array.any_eq_true']
            refine ⟨e, by simpa using he, ?_⟩
            rw [Bool.and_eq_true, Bool.or_eq_true]
            refine ⟨hbe, ?_⟩
            rcases h5 with h5 | h5
            · exact .inl (by simpa using h5)
            · refine .inr ?_
              unfold bit
              rw [before_eq, hsp, List.foldl_append, foldB_old _ _ _ (by rw [hsz]; exact hedge e (by simpa using he) hbe)]
              exact h5
      · rw [hbit i j mj hmj]
        cases hlt : decide (i < j) with
        | false => rfl
        | true =>
          have hlt' : i < j := of_decide_eq_true hlt
          cases hc : (clash ops fl i j oi oj || clash ops fl j i oj oi) with
          | false => rfl
          | true =>
            have goal : mj.testBit i = true := by
              cases hm : meets oi.dst oj.dst (oi.looksAt ops) (oj.looksAt ops) with
              | true => exact e2 i oi hlt' (by simpa using hoi') hm
              | false =>
                have gfi : fl.getD i 2 = fi := by rw [List.getD_eq_getElem?_getD, hfi]; rfl
                have gfj : fl.getD j 2 = fj := by rw [List.getD_eq_getElem?_getD, hfj]; rfl
                have hc2 : (2 ≤ fi ∧ 1 ≤ fj) ∨ (2 ≤ fj ∧ 1 ≤ fi) := by
                  unfold meets at hm
                  unfold clash at hc
                  rw [gfi, gfj] at hc
                  rcases Nat.lt_or_ge fi 2 with a1 | a1 <;> rcases Nat.lt_or_ge fi 1 with a2 | a2 <;> rcases Nat.lt_or_ge fj 2 with a3 | a3 <;> rcases Nat.lt_or_ge fj 1 with a4 | a4 <;> first | omega | skip
                  all_goals
                    exfalso
                    have z1 : (decide (fi ≥ 2) && decide (fj ≥ 1)) = false := by simp; omega
                    have z2 : (decide (fj ≥ 2) && decide (fi ≥ 1)) = false := by simp; omega
                    rw [z1, z2] at hc
                    cases hdi : oi.dst with
                    | none => cases hdj : oj.dst with
                      | none => simp [hdi, hdj] at hc
                      | some q => simp [hdi, hdj] at hc hm; exact hm hc
                    | some p => cases hdj : oj.dst with
                      | none => simp [hdi, hdj] at hc hm; exact hm hc
                      | some q =>
                        simp [hdi, hdj] at hc hm
                        rcases hc with hc | hc
                        · rcases hc with (hc | hc) | hc
                          · exact hm.1.1 hc
                          · exact hm.1.2 hc
                          · exact hm.2 hc
                        · rcases hc with (hc | hc) | hc
                          · exact hm.2 hc
                          · exact hm.1.2 hc.symm
                          · exact hm.1.1 hc
                have := d3 i fi hlt' hfi hc2
                rwa [Nat.zero_add] at this
            rw [goal]; rfl
  · cases h
end Go.AV
