/- Part 6 of what the law needs: ValW2, ValW3, ValDA, PatchDec, PatchDecAV, PatDe, ArgVal, ArgOp, WPatchBytes. -/
import Derived.Test.YtjamnhofbkgblaaPB5
import Derived.KernelRfl
import Derived.ChangeArms
namespace Go.Proofs.Ytjamnhofbkgblaa
open Go.AV Go.AV.Ord Go.AV.Oct Go.AV.Val
set_option linter.unusedVariables false
set_option linter.unusedSimpArgs false
set_option maxHeartbeats 2000000 in
set_option maxRecDepth 100000 in
theorem val_step (Hs : HS) (rid q D : Nat) (s : List UInt8) (bad : Bool) (e : Int) (h : Rd Hs 76 99 rid q ((s, bad), e)) (hD : D ≤ 1000) (ih : ∀ d, D = d + 1 → ∀ (Hs : HS) (st : DS), Rd Hs 76 99 rid q st → ACalls Try.prog 60 [.ptr q 0, .d (I d)] Hs (Ret (.d (.agg (vC (rV d st).1))) (stH Hs 76 99 rid q (rV d st).2))) : ACalls Try.prog 60 [.ptr q 0, .d (I D)] Hs (Ret (.d (.agg (vC (rV D ((s, bad), e)).1))) (stH Hs 76 99 rid q (rV D ((s, bad), e)).2)) := by
 refine ACalls.tidy2 (lt_nb h.r) (lt_nb h.q) (by intro v hv; simp at hv; rcases hv with rfl | rfl <;> exact .d _) (by intro v hv; simp at hv; rcases hv with rfl | rfl; exact .ptr _ _ (lt_nb h.r); exact .d _) ?_
 refine acalls_of_awC Try.func60 rfl ?_
 refine aw_start (T' := ((.ptr q 0) :: (.d (I D)) :: .un :: .un :: .un :: .un :: .un :: .un :: .un :: .un :: .un :: .un :: .un :: .un :: .un :: .un :: .un :: .un :: .un :: .un :: .un :: .un :: .un :: .un :: .un :: .un :: .un :: .un :: .un :: .un :: .un :: .un :: .un :: .un :: .un :: .un :: .un :: .un :: .un :: .un :: .un :: .un :: .un :: .un :: .un :: .un :: .un :: .un :: .un :: .un :: .un :: .un :: .un :: .un :: .un :: .un :: .un :: .un :: .un :: .un :: .un :: .un :: .un :: .un :: .un :: .un :: .un :: .un :: .un :: .un :: .un :: .un :: .un :: .un :: .un :: .un :: .un :: .un :: .un :: .un :: .un :: .un :: .un :: .un :: .un :: .un :: .un :: .un :: .un :: .un :: .un :: .un :: .un :: .un :: .un :: .un :: .un :: .un :: .un :: .un :: .un :: .un :: .un :: .un :: .un :: .un :: .un :: .un :: .un :: .un :: .un :: .un :: .un :: .un :: .un :: .un :: .un :: .un :: .un :: .un :: .un :: .un :: .un :: .un :: .un :: .un :: .un :: .un :: .un :: .un :: .un :: .un :: .un :: .un :: .un :: .un :: .un :: .un :: .un :: .un :: .un :: .un :: .un :: .un :: .un :: .un :: .un :: .un :: .un :: .un :: .un :: .un :: .un :: .un :: .un :: .un :: .un :: .un :: .un :: .un :: .un :: .un :: .un :: .un :: .un :: .un :: [])) rfl ?_
 refine aw_seq ?_
 refine aw_region ?_
 refine zst (op_alloc (Zr26) (by rfl)) rfl (by dsimp only [zS, zN, zH, zT]) ?_
 refine al_end rfl ?_
 refine then_normal ?_
 refine aw_seq ?_
 refine aw_seq ?_
 refine aw_region ?_
 refine zst (op_move_tmp (by rfl)) rfl (by dsimp only [zS, zN, zH, zT]) ?_
 refine zst (by first | exact op_nilCheck_ptr (by rfl) | exact op_nilCheck_elt (by rfl)) rfl (by dsimp only [zS, zN, zH, zT]) ?_
 refine zst (by first | exact op_fieldAddr_ptr Try.underlying99 rfl Sz30 (by rfl) (by rfl) | exact op_fieldAddr_elt Try.underlying99 rfl Sz30 (by rfl) (by rfl) (by rfl)) rfl (by dsimp only [zS, zN, zH, zT]) ?_
 refine zst (by first | exact op_load_elt Try.underlying30 (by rfl) (by rfl) (by rfl) | exact op_load_ptr Try.underlying30 (by rfl) (by rfl) (by first | exact hPhi | exact hv.rd.q | exact hv.e1 | exact push_ne h.q | exact (hv.set1 _).e1 | exact hw | exact (hv.to _).e1 | exact (hv.far (by omega)).e1) (by rfl)) rfl (by dsimp only [zS, zN, zH, zT]) ?_
 refine zst (op_neI (by rfl) (by rfl)) rfl (by dsimp only [zS, zN, zH, zT]) ?_
 refine zst (op_move_tmp (by rfl)) rfl (by dsimp only [zS, zN, zH, zT]) ?_
 refine al_split 14 rfl (fun hg1 => ?_) (fun hg1 => ?_)
 ·
  (try simp only [y1, y2, y3, y4, y5, y6, y7, y8, y9, y0, List.length_map] at hg1)
  have hbr : broke ((s, bad), e) = true := broke_e hg1
  apply al_normT
  · (try dsimp only [zS, zN, zH, zT]); try exact rfl
  refine zuw rfl rfl rfl rfl (by dsimp only [zS, zN, zH, zT]) ?_
  refine zuw rfl rfl rfl rfl (by dsimp only [zS, zN, zH, zT]) ?_
  refine zuw rfl rfl rfl rfl (by dsimp only [zS, zN, zH, zT]) ?_
  refine zuw rfl rfl rfl rfl (by dsimp only [zS, zN, zH, zT]) ?_
  refine zuw rfl rfl rfl rfl (by dsimp only [zS, zN, zH, zT]) ?_
  refine zuw rfl rfl rfl rfl (by dsimp only [zS, zN, zH, zT]) ?_
  refine zst (op_pick_tt (by rfl) (val_const (by rfl))) rfl (by dsimp only [zS, zN, zH, zT]) ?_
  refine al_end rfl ?_
  refine then_normal ?_
  refine aw_cond rfl (fun _ => ?_) (fun h => by cases h)
  refine aw_seq ?_
  refine aw_region ?_
  refine zst (op_build (pl := [(0, 1), (1, 1), (2, 1), (3, 1), (4, 1), (5, 1)]) Try.underlying26 Zr26 (by kernel_rfl) (by rfl) (by rfl) (by rfl)) rfl (by dsimp only [zS, zN, zH, zT]) ?_
  refine zst (op_storeB (vs := (vs6 0 false 0 [] nilS nilS)) (b' := (vBlk 26 0 false 0 [] nilS nilS)) (H' := _) Sz26 (by rfl) push_at (by intro h; cases h) (by rfl) (by rfl) (Nat.le_of_ble_eq_true rfl) (by simp [AV.one, DV.one, TF, S, I, BY]) (by rfl) (by rfl) rfl) rfl (by dsimp only [zS, zN, zH, zT]) ?_
  refine al_end rfl ?_
  refine then_normal ?_
  refine aw_ret ?_
  refine then_ret ?_
  refine retC1 rfl (.cells Try.underlying26 (by rfl) Sz26 (by rfl) (setB_at push_at) (Nat.le_of_ble_eq_true rfl) (by rfl)) ?_
  rw [rV_broke hbr]
  refine ⟨Weak.aggD (weak6 weak_nilL weak_nilF) (vC_one _), ?_⟩
  show Ext (stH Hs 76 99 rid q ((s, bad), e)) _
  rw [h.self]; exact ((Ext.refl Hs).push _ _).setB (Nat.le_refl _)
 ·
  (try simp only [y1, y2, y3, y4, y5, y6, y7, y8, y9, y0, List.length_map] at hg1)
  have he0 : e = 0 := by simpa using hg1
  subst he0
  apply al_normT
  · (try dsimp only [zS, zN, zH, zT]); try exact rfl
  refine zsw rfl rfl rfl (op_move_tmp (by rfl)) (by dsimp only [zS, zN, zH, zT]) ?_
  refine zsw rfl rfl rfl (by first | exact op_nilCheck_ptr (by rfl) | exact op_nilCheck_elt (by rfl)) (by dsimp only [zS, zN, zH, zT]) ?_
  refine zsw rfl rfl rfl (by first | exact op_fieldAddr_ptr Try.underlying99 rfl Sz56 (by rfl) (by rfl) | exact op_fieldAddr_elt Try.underlying99 rfl Sz56 (by rfl) (by rfl) (by rfl)) (by dsimp only [zS, zN, zH, zT]) ?_
  refine zsw rfl rfl rfl (by first | exact op_load_elt Try.underlying56 (by rfl) (by rfl) (by rfl) | exact op_load_ptr Try.underlying56 (by rfl) (by rfl) (by first | exact hPhi | exact hv.rd.q | exact hv.e1 | exact push_ne h.q | exact (hv.set1 _).e1 | exact hw | exact (hv.to _).e1 | exact (hv.far (by omega)).e1) (by rfl)) (by dsimp only [zS, zN, zH, zT]) ?_
  refine zsw rfl rfl rfl (op_callF Try.func40 (by rfl) (by rfl) (.tmp (by rfl) .nil) (err_ok _ rid s bad (push_ne h.r))) (by dsimp only [zS, zN, zH, zT]) ?_
  refine zsw rfl rfl rfl (op_neI (by rfl) (by rfl)) (by dsimp only [zS, zN, zH, zT]) ?_
  refine zst (op_pick_ff (by rfl) (val_tmp (by rfl))) rfl (by dsimp only [zS, zN, zH, zT]) ?_
  refine al_end rfl ?_
  refine then_normal ?_
  refine aw_cond rfl (fun hc3 => ?_) (fun hc3 => ?_)
  ·
   (try simp only [y1, y2, y3, y4, y5, y6, y7, y8, y9, y0, List.length_map] at hc3)
   have hbr : broke ((s, bad), 0) = true := broke_r hc3
   refine aw_seq ?_
   refine aw_region ?_
   refine zst (op_build (pl := [(0, 1), (1, 1), (2, 1), (3, 1), (4, 1), (5, 1)]) Try.underlying26 Zr26 (by kernel_rfl) (by rfl) (by rfl) (by rfl)) rfl (by dsimp only [zS, zN, zH, zT]) ?_
   refine zst (op_storeB (vs := (vs6 0 false 0 [] nilS nilS)) (b' := (vBlk 26 0 false 0 [] nilS nilS)) (H' := _) Sz26 (by rfl) push_at (by intro h; cases h) (by rfl) (by rfl) (Nat.le_of_ble_eq_true rfl) (by simp [AV.one, DV.one, TF, S, I, BY]) (by rfl) (by rfl) rfl) rfl (by dsimp only [zS, zN, zH, zT]) ?_
   refine al_end rfl ?_
   refine then_normal ?_
   refine aw_ret ?_
   refine then_ret ?_
   refine retC1 rfl (.cells Try.underlying26 (by rfl) Sz26 (by rfl) (setB_at push_at) (Nat.le_of_ble_eq_true rfl) (by rfl)) ?_
   rw [rV_broke hbr]
   refine ⟨Weak.aggD (weak6 weak_nilL weak_nilF) (vC_one _), ?_⟩
   show Ext (stH Hs 76 99 rid q ((s, bad), 0)) _
   rw [h.self]; exact ((Ext.refl Hs).push _ _).setB (Nat.le_refl _)
  ·
   (try simp only [y1, y2, y3, y4, y5, y6, y7, y8, y9, y0, List.length_map] at hc3)
   have hb0 : bad = false := by have := broke_not (st := ((s, bad), 0)) rfl (by simpa using hc3); simpa [broke] using this
   subst hb0
   refine aw_skip ?_
   refine then_normal ?_
   refine aw_seq ?_
   refine aw_seq ?_
   refine aw_region ?_
   refine zst (op_move_tmp (by rfl)) rfl (by dsimp only [zS, zN, zH, zT]) ?_
   refine zst (op_ltI (by rfl) (by rfl)) rfl (by dsimp only [zS, zN, zH, zT]) ?_
   refine al_end rfl ?_
   refine then_normal ?_
   refine aw_cond rfl (fun hc4 => ?_) (fun hc4 => ?_)
   ·
    (try simp only [y1, y2, y3, y4, y5, y6, y7, y8, y9, y0, List.length_map] at hc4)
    have hD0 : D = 0 := by omega
    subst hD0
    refine aw_seq ?_
    refine aw_region ?_
    refine zst (op_move_tmp (by rfl)) rfl (by dsimp only [zS, zN, zH, zT]) ?_
    refine zst (by first | exact op_nilCheck_ptr (by rfl) | exact op_nilCheck_elt (by rfl)) rfl (by dsimp only [zS, zN, zH, zT]) ?_
    refine zst (by first | exact op_fieldAddr_ptr Try.underlying99 rfl Sz30 (by rfl) (by rfl) | exact op_fieldAddr_elt Try.underlying99 rfl Sz30 (by rfl) (by rfl) (by rfl)) rfl (by dsimp only [zS, zN, zH, zT]) ?_
    refine zst (op_storeB (vs := [.d (I 3)]) (b' := (VB 99 rid 3)) (H' := _) Sz30 (by rfl) (push_ne h.q) (by intro h; cases h) (by rfl) (by rfl) (Nat.le_of_ble_eq_true rfl) (by simp [AV.one, DV.one, TF, S, I, BY]) (by rfl) (by rfl) rfl) rfl (by dsimp only [zS, zN, zH, zT]) ?_
    refine al_end rfl ?_
    refine then_normal ?_
    refine aw_seq ?_
    refine aw_region ?_
    refine zst (op_build (pl := [(0, 1), (1, 1), (2, 1), (3, 1), (4, 1), (5, 1)]) Try.underlying26 Zr26 (by kernel_rfl) (by rfl) (by rfl) (by rfl)) rfl (by dsimp only [zS, zN, zH, zT]) ?_
    refine zst (op_storeB (vs := (vs6 0 false 0 [] nilS nilS)) (b' := (vBlk 26 0 false 0 [] nilS nilS)) (H' := _) Sz26 (by rfl) (by rw [setB_ne (by have := lt_nb h.q; omega)]; exact push_at) (by intro h; cases h) (by rfl) (by rfl) (Nat.le_of_ble_eq_true rfl) (by simp [AV.one, DV.one, TF, S, I, BY]) (by rfl) (by rfl) rfl) rfl (by dsimp only [zS, zN, zH, zT]) ?_
    refine al_end rfl ?_
    refine then_normal ?_
    refine aw_ret ?_
    refine then_ret ?_
    refine retC1 rfl (.cells Try.underlying26 (by rfl) Sz26 (by rfl) (setB_at (b := ⟨26, (vs6 0 false 0 [] nilS nilS), false⟩) (by rw [setB_ne (by have := lt_nb h.q; omega)]; exact push_at)) (Nat.le_of_ble_eq_true rfl) (by rfl)) ?_
    refine ⟨Weak.aggD (weak6 weak_nilL weak_nilF) (vC_one _), ?_⟩
    show Ext (stH Hs 76 99 rid q ((s, false), 3)) _
    rw [← h.set2 3]; exact (((Ext.refl Hs).push _ _).under (lt_nb h.q)).setB (by rw [setB_nb]; exact Nat.le_refl _)
   ·
    (try simp only [y1, y2, y3, y4, y5, y6, y7, y8, y9, y0, List.length_map] at hc4)
    obtain ⟨d, rfl⟩ : ∃ d, D = d + 1 := ⟨D - 1, by omega⟩
    obtain ⟨k, st1, hk⟩ : ∃ k st, rKind ((s, false), 0) = (k, st) := ⟨_, _, rfl⟩
    have hrv : rV (d + 1) ((s, false), 0) = rBody (rV d) k st1 := by simp only [rV, broke_ok, Bool.false_eq_true, if_false, hk]
    refine aw_skip ?_
    refine then_normal ?_
    apply aw_cutF (fun T H => ∃ (u : Unit), T = ((.ptr q 0) :: (.d (I ((d + 1 : Nat) : Int))) :: .un :: .un :: (.ptr Hs.nb 0) :: (.ptr (Hs.nb + 1) 0) :: .un :: .un :: .un :: .un :: .un :: .un :: .un :: .un :: .un :: .un :: .un :: .un :: .un :: .un :: .un :: .un :: .un :: .un :: .un :: .un :: .un :: .un :: .un :: .un :: .un :: .un :: .un :: .un :: .un :: .un :: .un :: .un :: .un :: .un :: .un :: .un :: .un :: .un :: .un :: .un :: .un :: .un :: .un :: .un :: .un :: .un :: .un :: .un :: .un :: .un :: .un :: .un :: .un :: .un :: .un :: .un :: .un :: .un :: .un :: .un :: .un :: .un :: .un :: .un :: .un :: .un :: .un :: .un :: .un :: .un :: .un :: .un :: .un :: .un :: .un :: .un :: .un :: .un :: .un :: .un :: .un :: .un :: .un :: .un :: .un :: .un :: .un :: .un :: .un :: .un :: .un :: .un :: .un :: .un :: .un :: .un :: .un :: .un :: .un :: .un :: .un :: .un :: .un :: .un :: .un :: .un :: .un :: .un :: .un :: .un :: .un :: .un :: .un :: .un :: .un :: .un :: .un :: .un :: .un :: .un :: .un :: .un :: .un :: .un :: .un :: .un :: .un :: .un :: .un :: .un :: .un :: .un :: .un :: .un :: .un :: .un :: .un :: .un :: .un :: .un :: .un :: .un :: .un :: .un :: .un :: .un :: .un :: .un :: .un :: .un :: .un :: .un :: .un :: .un :: .un :: .un :: .un :: .un :: .un :: .un :: []) ∧ VS Hs 76 99 26 rid q H (vBlk 26 k false 0 [] nilS nilS) st1)
    ·
     refine aw_region ?_
     refine zst (op_move_tmp (by rfl)) rfl (by dsimp only [zS, zN, zH, zT]) ?_
     refine zst (op_callF Try.func70 (by rfl) (by rfl) (.tmp (by rfl) .nil) (kind_at hk ⟨h.ne, push_ne h.r, push_ne h.q⟩)) rfl (by dsimp only [zS, zN, zH, zT]) ?_
     refine zst (op_build (pl := [(0, 1), (1, 1), (2, 1), (3, 1), (4, 1), (5, 1)]) Try.underlying26 Zr26 (by kernel_rfl) (by rfl) (by rfl) (by rfl)) rfl (by dsimp only [zS, zN, zH, zT]) ?_
     refine zst (op_alloc (Zr26) (by rfl)) rfl (by dsimp only [zS, zN, zH, zT]) ?_
     refine zst (op_storeB (vs := (vs6 k false 0 [] nilS nilS)) (b' := (vBlk 26 k false 0 [] nilS nilS)) (H' := _) Sz26 (by rfl) push_at (by intro h; cases h) (by rfl) (by rfl) (Nat.le_of_ble_eq_true rfl) (by simp [AV.one, DV.one, TF, S, I, BY]) (by rfl) (by rfl) rfl) rfl (by dsimp only [zS, zN, zH, zT]) ?_
     refine al_end rfl ?_
     apply cut_to (true :: true :: false :: false :: true :: true :: false :: false :: false :: false :: false :: false :: false :: false :: false :: false :: false :: false :: false :: false :: false :: false :: false :: false :: false :: false :: false :: false :: false :: false :: false :: false :: false :: false :: false :: false :: false :: false :: false :: false :: false :: false :: false :: false :: false :: false :: false :: false :: false :: false :: false :: false :: false :: false :: false :: false :: false :: false :: false :: false :: false :: false :: false :: false :: false :: false :: false :: false :: false :: false :: false :: false :: false :: false :: false :: false :: false :: false :: false :: false :: false :: false :: false :: false :: false :: false :: false :: false :: false :: false :: false :: false :: false :: false :: false :: false :: false :: false :: false :: false :: false :: false :: false :: false :: false :: false :: false :: false :: false :: false :: false :: false :: false :: false :: false :: false :: false :: false :: false :: false :: false :: false :: false :: false :: false :: false :: false :: false :: false :: false :: false :: false :: false :: false :: false :: false :: false :: false :: false :: false :: false :: false :: false :: false :: false :: false :: false :: false :: false :: false :: false :: false :: false :: false :: false :: false :: false :: false :: false :: false :: false :: false :: false :: false :: false :: false :: [])
     · (try dsimp only [maskT]); try exact rfl
     · rfl
     exact ⟨(), by (simp only [stH_nb, push_nb]) <;> rfl, by (simp only [stH_nb, push_nb]); exact VS.start h rfl st1 _⟩
    rintro T H ⟨u, rfl, hv⟩
    apply aw_cutF (fun T H => ∃ (k : Int) (y : Bool) (i : Int) (tx : List UInt8) (l : AV) (f : AV) (ls : List V) (fs : List F) (st2 : DS), T = ((.ptr q 0) :: .un :: .un :: .un :: (.ptr Hs.nb 0) :: (.ptr (Hs.nb + 1) 0) :: .un :: .un :: .un :: .un :: .un :: .un :: .un :: .un :: .un :: .un :: .un :: .un :: .un :: .un :: .un :: .un :: .un :: .un :: .un :: .un :: .un :: .un :: .un :: .un :: .un :: .un :: .un :: .un :: .un :: .un :: .un :: .un :: .un :: .un :: .un :: .un :: .un :: .un :: .un :: .un :: .un :: .un :: .un :: .un :: .un :: .un :: .un :: .un :: .un :: .un :: .un :: .un :: .un :: .un :: .un :: .un :: .un :: .un :: .un :: .un :: .un :: .un :: .un :: .un :: .un :: .un :: .un :: .un :: .un :: .un :: .un :: .un :: .un :: .un :: .un :: .un :: .un :: .un :: .un :: .un :: .un :: .un :: .un :: .un :: .un :: .un :: .un :: .un :: .un :: .un :: .un :: .un :: .un :: .un :: .un :: .un :: .un :: .un :: .un :: .un :: .un :: .un :: .un :: .un :: .un :: .un :: .un :: .un :: .un :: .un :: .un :: .un :: .un :: .un :: .un :: .un :: .un :: .un :: .un :: .un :: .un :: .un :: .un :: .un :: .un :: .un :: .un :: .un :: .un :: .un :: .un :: .un :: .un :: .un :: .un :: .un :: .un :: .un :: .un :: .un :: .un :: .un :: .un :: .un :: .un :: .un :: .un :: .un :: .un :: .un :: .un :: .un :: .un :: .un :: .un :: .un :: .un :: .un :: .un :: .un :: []) ∧ VS Hs 76 99 26 rid q H (vBlk 26 k y i tx l f) st2 ∧ Weak l (.d (.lst 6 (ls.map vD))) ∧ Weak f (.d (.lst 7 (fs.map fD))) ∧ rV (d + 1) ((s, false), 0) = (.mk k y i tx ls fs, st2))
    ·
     refine aw_seq ?_
     refine aw_region ?_
     refine zst (by first | exact op_fieldAddr_ptr Try.underlying26 rfl Sz22 (by rfl) (by rfl) | exact op_fieldAddr_elt Try.underlying26 rfl Sz22 (by rfl) (by rfl) (by rfl)) rfl (by dsimp only [zS, zN, zH, zT]) ?_
     refine zst (by first | exact op_load_elt Try.underlying22 (by rfl) (by rfl) (by rfl) | exact op_load_ptr Try.underlying22 (by rfl) (by rfl) (by first | exact hPhi | exact hv.rd.q | exact hv.e1 | exact push_ne h.q | exact (hv.set1 _).e1 | exact hw | exact (hv.to _).e1 | exact (hv.far (by omega)).e1) (by rfl)) rfl (by dsimp only [zS, zN, zH, zT]) ?_
     refine al_end rfl ?_
     refine then_normal ?_
     refine aw_block ?_
     refine aw_seq ?_
     refine aw_region ?_
     refine zst (op_eqI (by rfl) (by rfl)) rfl (by dsimp only [zS, zN, zH, zT]) ?_
     refine zst (op_assign_tmp (by rfl)) rfl (by dsimp only [zS, zN, zH, zT]) ?_
     refine al_end rfl ?_
     refine then_normal ?_
     refine aw_cond rfl (fun hc5 => ?_) (fun hc5 => ?_)
     ·
      (try simp only [y1, y2, y3, y4, y5, y6, y7, y8, y9, y0, List.length_map] at hc5)
      have hk1 : k = 1 := hc5
      subst hk1
      refine aw_region ?_
      refine zst (op_move_tmp (by rfl)) rfl (by dsimp only [zS, zN, zH, zT]) ?_
      refine zst (by first | exact op_nilCheck_ptr (by rfl) | exact op_nilCheck_elt (by rfl)) rfl (by dsimp only [zS, zN, zH, zT]) ?_
      refine zst (by first | exact op_fieldAddr_ptr Try.underlying99 rfl Sz56 (by rfl) (by rfl) | exact op_fieldAddr_elt Try.underlying99 rfl Sz56 (by rfl) (by rfl) (by rfl)) rfl (by dsimp only [zS, zN, zH, zT]) ?_
      refine zst (by first | exact op_load_elt Try.underlying56 (by rfl) (by rfl) (by rfl) | exact op_load_ptr Try.underlying56 (by rfl) (by rfl) (by first | exact hPhi | exact hv.rd.q | exact hv.e1 | exact push_ne h.q | exact (hv.set1 _).e1 | exact hw | exact (hv.to _).e1 | exact (hv.far (by omega)).e1) (by rfl)) rfl (by dsimp only [zS, zN, zH, zT]) ?_
      refine zst (op_callF Try.func71 (by rfl) (by rfl) (.tmp (by rfl) .nil) (rflag_ok _ rid st1.1.1 st1.1.2 hv.rd.r)) rfl (by dsimp only [zS, zN, zH, zT]) ?_
      refine zst (by first | exact op_fieldAddr_ptr Try.underlying26 rfl Sz4 (by rfl) (by rfl) | exact op_fieldAddr_elt Try.underlying26 rfl Sz4 (by rfl) (by rfl) (by rfl)) rfl (by dsimp only [zS, zN, zH, zT]) ?_
      refine zst (op_storeB (vs := [.d (TF _)]) (b' := (vBlk 26 1 _ 0 [] nilS nilS)) (H' := _) Sz4 (by rfl) (hv.set1 _).e1 (by intro h; cases h) (by rfl) (by rfl) (Nat.le_of_ble_eq_true rfl) (by simp [AV.one, DV.one, TF, S, I, BY]) (by rfl) (by rfl) rfl) rfl (by dsimp only [zS, zN, zH, zT]) ?_
      refine al_end rfl ?_
      refine inBlock_normal ?_
      apply cut_to (true :: false :: false :: false :: true :: true :: false :: false :: false :: false :: false :: false :: false :: false :: false :: false :: false :: false :: false :: false :: false :: false :: false :: false :: false :: false :: false :: false :: false :: false :: false :: false :: false :: false :: false :: false :: false :: false :: false :: false :: false :: false :: false :: false :: false :: false :: false :: false :: false :: false :: false :: false :: false :: false :: false :: false :: false :: false :: false :: false :: false :: false :: false :: false :: false :: false :: false :: false :: false :: false :: false :: false :: false :: false :: false :: false :: false :: false :: false :: false :: false :: false :: false :: false :: false :: false :: false :: false :: false :: false :: false :: false :: false :: false :: false :: false :: false :: false :: false :: false :: false :: false :: false :: false :: false :: false :: false :: false :: false :: false :: false :: false :: false :: false :: false :: false :: false :: false :: false :: false :: false :: false :: false :: false :: false :: false :: false :: false :: false :: false :: false :: false :: false :: false :: false :: false :: false :: false :: false :: false :: false :: false :: false :: false :: false :: false :: false :: false :: false :: false :: false :: false :: false :: false :: false :: false :: false :: false :: false :: false :: false :: false :: false :: false :: false :: false :: [])
      · (try dsimp only [maskT]); try exact rfl
      · rfl
      exact ⟨1, (rFlag (st1.1.1, st1.1.2)).1, 0, [], nilS, nilS, [], [], ((rFlag (st1.1.1, st1.1.2)).2, st1.2), rfl, (hv.set1 _).setv _, weak_nilL, weak_nilF, by rw [hrv]; simp [rBody]⟩
     ·
      (try simp only [y1, y2, y3, y4, y5, y6, y7, y8, y9, y0, List.length_map] at hc5)
      have hk1 : ¬ k = 1 := hc5
      refine aw_seq ?_
      refine aw_region ?_
      refine zst (op_eqI (by rfl) (by rfl)) rfl (by dsimp only [zS, zN, zH, zT]) ?_
      refine zst (op_assign_tmp (by rfl)) rfl (by dsimp only [zS, zN, zH, zT]) ?_
      refine al_end rfl ?_
      refine then_normal ?_
      refine aw_cond rfl (fun hc6 => ?_) (fun hc6 => ?_)
      ·
       (try simp only [y1, y2, y3, y4, y5, y6, y7, y8, y9, y0, List.length_map] at hc6)
       have hk2 : k = 2 := hc6
       subst hk2
       obtain ⟨a, st2, ha⟩ : ∃ a st, rNum 4294967295 st1.1 = (a, st) := ⟨_, _, rfl⟩
       obtain ⟨b, st3, hb2⟩ : ∃ a st, rNum 4294967295 st2 = (a, st) := ⟨_, _, rfl⟩
       have hal := rNum_most ha
       have hbl := rNum_most hb2
       have hal : a ≤ 4294967295 := by omega
       have hbl : b ≤ 4294967295 := by omega
       obtain ⟨x, hx⟩ : ∃ x, a * 4294967296 + b = x := ⟨_, rfl⟩
       have hxl : x < 18446744073709551616 := by omega
       refine aw_seq ?_
       refine aw_drawX (fun K => K.blks[q]? = some (VB 99 rid st1.2)) [0, 0, 0, 0, 2, 0, 0, 0, 0, 0, 0, 2, 0, 0, 0] mixed (by kernel_rfl) (hv.rd.q) (.inr (by kernel_rfl)) ?_
       apply drun0X
       · intro H hPhi; exact op_move_tmp (by rfl)
       · rfl
       apply drun_normT
       · (try dsimp only [zS, zN, zH, zT]); try exact rfl
       apply drun0X
       · intro H hPhi; first | exact op_nilCheck_ptr (by rfl) | exact op_nilCheck_elt (by rfl)
       · rfl
       apply drun_normT
       · (try dsimp only [zS, zN, zH, zT]); try exact rfl
       apply drun0X
       · intro H hPhi; first | exact op_fieldAddr_ptr Try.underlying99 rfl Sz56 (by rfl) (by rfl) | exact op_fieldAddr_elt Try.underlying99 rfl Sz56 (by rfl) (by rfl) (by rfl)
       · rfl
       apply drun_normT
       · (try dsimp only [zS, zN, zH, zT]); try exact rfl
       apply drun0X
       · intro H hPhi; first | exact op_load_elt Try.underlying56 (by rfl) (by rfl) (by rfl) | exact op_load_ptr Try.underlying56 (by rfl) (by rfl) (by first | exact hPhi | exact hv.rd.q | exact hv.e1 | exact push_ne h.q | exact (hv.set1 _).e1 | exact hw | exact (hv.to _).e1 | exact (hv.far (by omega)).e1) (by rfl)
       · rfl
       apply drun_normT
       · (try dsimp only [zS, zN, zH, zT]); try exact rfl
       apply drun2X
       · exact op_callF Try.func37 (by rfl) (by rfl) (.tmp (by rfl) (.const (by rfl) .nil)) (num_at (s := st1.1.1) (bad := st1.1.2) ha hv.rd.r (by decide))
       · rfl
       · refine .inr ?_; first | exact (hv.set1 _).rd.q | exact ((hv.set1 _).set1 _).rd.q
       apply drun_normT
       · (try dsimp only [zS, zN, zH, zT]); try exact rfl
       apply drun0X
       · intro H hPhi; first | exact op_convI (by rw [Try.underlying3]; rfl) Try.underlying94 (by rfl) (wrap_u64 ⟨by omega, by omega⟩) | exact op_convI (by rw [Try.underlying3]; rfl) Try.underlying94 (by rfl) (by rfl)
       · rfl
       apply drun_normT
       · (try dsimp only [zS, zN, zH, zT]); try exact rfl
       apply drun0X
       · intro H hPhi; exact op_shl (by rfl) (by rfl) (by omega) (shl32 hal)
       · rfl
       apply drun_normT
       · (try dsimp only [zS, zN, zH, zT]); try exact rfl
       apply drun0X
       · intro H hPhi; exact op_move_tmp (by rfl)
       · rfl
       apply drun_normT
       · (try dsimp only [zS, zN, zH, zT]); try exact rfl
       apply drun0X
       · intro H hPhi; first | exact op_nilCheck_ptr (by rfl) | exact op_nilCheck_elt (by rfl)
       · rfl
       apply drun_normT
       · (try dsimp only [zS, zN, zH, zT]); try exact rfl
       apply drun0X
       · intro H hPhi; first | exact op_fieldAddr_ptr Try.underlying99 rfl Sz56 (by rfl) (by rfl) | exact op_fieldAddr_elt Try.underlying99 rfl Sz56 (by rfl) (by rfl) (by rfl)
       · rfl
       apply drun_normT
       · (try dsimp only [zS, zN, zH, zT]); try exact rfl
       apply drun0X
       · intro H hPhi; first | exact op_load_elt Try.underlying56 (by rfl) (by rfl) (by rfl) | exact op_load_ptr Try.underlying56 (by rfl) (by rfl) (by first | exact hPhi | exact hv.rd.q | exact hv.e1 | exact push_ne h.q | exact (hv.set1 _).e1 | exact hw | exact (hv.to _).e1 | exact (hv.far (by omega)).e1) (by rfl)
       · rfl
       apply drun_normT
       · (try dsimp only [zS, zN, zH, zT]); try exact rfl
       apply drun2X
       · exact op_callF Try.func37 (by rfl) (by rfl) (.tmp (by rfl) (.const (by rfl) .nil)) (num_at hb2 (hv.set1 _).rd.r (by decide))
       · rfl
       · refine .inr ?_; first | exact (hv.set1 _).rd.q | exact ((hv.set1 _).set1 _).rd.q
       apply drun_normT
       · (try dsimp only [zS, zN, zH, zT]); try exact rfl
       apply drun0X
       · intro H hPhi; first | exact op_convI (by rw [Try.underlying3]; rfl) Try.underlying94 (by rfl) (wrap_u64 ⟨by omega, by omega⟩) | exact op_convI (by rw [Try.underlying3]; rfl) Try.underlying94 (by rfl) (by rfl)
       · rfl
       apply drun_normT
       · (try dsimp only [zS, zN, zH, zT]); try exact rfl
       apply drun0X
       · intro H hPhi; exact op_or (by rfl) (by rfl) ((or32 hal hbl).trans (congrArg Nat.cast hx))
       · rfl
       apply drun_normT
       · (try dsimp only [zS, zN, zH, zT]); try exact rfl
       apply drun0X
       · intro H hPhi; exact op_assign_tmp (by rfl)
       · rfl
       apply drun_normT
       · (try dsimp only [zS, zN, zH, zT]); try exact rfl
       refine drun_end rfl ?_
       refine then_normal ?_
       refine aw_region ?_
       refine zst (op_move_tmp (by rfl)) rfl (by dsimp only [zS, zN, zH, zT]) ?_
       refine zst (op_shr (by rfl) (by rfl) (by omega) (shr1 x)) rfl (by dsimp only [zS, zN, zH, zT]) ?_
       refine zst (by first | exact op_convI (by rw [Try.underlying94]; rfl) Try.underlying2 (by rfl) (wrap_i64 ⟨by omega, by omega⟩) | exact op_convI (by rw [Try.underlying94]; rfl) Try.underlying2 (by rfl) (by rfl)) rfl (by dsimp only [zS, zN, zH, zT]) ?_
       refine zst (op_move_tmp (by rfl)) rfl (by dsimp only [zS, zN, zH, zT]) ?_
       refine zst (op_and (by rfl) (by rfl) (and1 hxl)) rfl (by dsimp only [zS, zN, zH, zT]) ?_
       refine zst (by first | exact op_convI (by rw [Try.underlying94]; rfl) Try.underlying2 (by rfl) (wrap_i64 ⟨by omega, by omega⟩) | exact op_convI (by rw [Try.underlying94]; rfl) Try.underlying2 (by rfl) (by rfl)) rfl (by dsimp only [zS, zN, zH, zT]) ?_
       refine zst (op_neg (by rfl) (neg_small (by omega))) rfl (by dsimp only [zS, zN, zH, zT]) ?_
       refine zst (op_xor (by rfl) (by rfl) (unzig_bits hxl)) rfl (by dsimp only [zS, zN, zH, zT]) ?_
       refine zst (by first | exact op_fieldAddr_ptr Try.underlying26 rfl Sz2 (by rfl) (by rfl) | exact op_fieldAddr_elt Try.underlying26 rfl Sz2 (by rfl) (by rfl) (by rfl)) rfl (by dsimp only [zS, zN, zH, zT]) ?_
       refine zst (op_storeB (vs := [.d (.v (.int .i64 (unzig x)))]) (b' := (vBlk 26 2 false (unzig x) [] nilS nilS)) (H' := _) Sz2 (by rfl) ((hv.set1 _).set1 _).e1 (by intro h; cases h) (by rfl) (by rfl) (Nat.le_of_ble_eq_true rfl) (by simp [AV.one, DV.one, TF, S, I, BY]) (by rfl) (by rfl) rfl) rfl (by dsimp only [zS, zN, zH, zT]) ?_
       refine al_end rfl ?_
       refine inBlock_normal ?_
       apply cut_to (true :: false :: false :: false :: true :: true :: false :: false :: false :: false :: false :: false :: false :: false :: false :: false :: false :: false :: false :: false :: false :: false :: false :: false :: false :: false :: false :: false :: false :: false :: false :: false :: false :: false :: false :: false :: false :: false :: false :: false :: false :: false :: false :: false :: false :: false :: false :: false :: false :: false :: false :: false :: false :: false :: false :: false :: false :: false :: false :: false :: false :: false :: false :: false :: false :: false :: false :: false :: false :: false :: false :: false :: false :: false :: false :: false :: false :: false :: false :: false :: false :: false :: false :: false :: false :: false :: false :: false :: false :: false :: false :: false :: false :: false :: false :: false :: false :: false :: false :: false :: false :: false :: false :: false :: false :: false :: false :: false :: false :: false :: false :: false :: false :: false :: false :: false :: false :: false :: false :: false :: false :: false :: false :: false :: false :: false :: false :: false :: false :: false :: false :: false :: false :: false :: false :: false :: false :: false :: false :: false :: false :: false :: false :: false :: false :: false :: false :: false :: false :: false :: false :: false :: false :: false :: false :: false :: false :: false :: false :: false :: false :: false :: false :: false :: false :: false :: [])
       · (try dsimp only [maskT]); try exact rfl
       · rfl
       exact ⟨2, false, unzig x, [], nilS, nilS, [], [], (st3, st1.2), rfl, ((hv.set1 _).set1 _).setv _, weak_nilL, weak_nilF, by rw [hrv]; simp [rBody, rInt, ha, hb2, hx]⟩
      ·
       (try simp only [y1, y2, y3, y4, y5, y6, y7, y8, y9, y0, List.length_map] at hc6)
       have hk2 : ¬ k = 2 := hc6
       refine aw_seq ?_
       refine aw_region ?_
       refine zst (op_eqI (by rfl) (by rfl)) rfl (by dsimp only [zS, zN, zH, zT]) ?_
       refine zst (op_assign_tmp (by rfl)) rfl (by dsimp only [zS, zN, zH, zT]) ?_
       refine al_end rfl ?_
       refine then_normal ?_
       refine aw_cond rfl (fun hc7 => ?_) (fun hc7 => ?_)
       ·
        (try simp only [y1, y2, y3, y4, y5, y6, y7, y8, y9, y0, List.length_map] at hc7)
        have hk3 : k = 3 := hc7
        subst hk3
        refine aw_region ?_
        refine zst (op_move_tmp (by rfl)) rfl (by dsimp only [zS, zN, zH, zT]) ?_
        refine zst (by first | exact op_nilCheck_ptr (by rfl) | exact op_nilCheck_elt (by rfl)) rfl (by dsimp only [zS, zN, zH, zT]) ?_
        refine zst (by first | exact op_fieldAddr_ptr Try.underlying99 rfl Sz56 (by rfl) (by rfl) | exact op_fieldAddr_elt Try.underlying99 rfl Sz56 (by rfl) (by rfl) (by rfl)) rfl (by dsimp only [zS, zN, zH, zT]) ?_
        refine zst (by first | exact op_load_elt Try.underlying56 (by rfl) (by rfl) (by rfl) | exact op_load_ptr Try.underlying56 (by rfl) (by rfl) (by first | exact hPhi | exact hv.rd.q | exact hv.e1 | exact push_ne h.q | exact (hv.set1 _).e1 | exact hw | exact (hv.to _).e1 | exact (hv.far (by omega)).e1) (by rfl)) rfl (by dsimp only [zS, zN, zH, zT]) ?_
        refine zst (op_callF Try.func38 (by rfl) (by rfl) (.tmp (by rfl) (.const (by rfl) .nil)) (rtext_ok _ rid st1.1.1 st1.1.2 4096 hv.rd.r (by decide))) rfl (by dsimp only [zS, zN, zH, zT]) ?_
        refine zst (by first | exact op_fieldAddr_ptr Try.underlying26 rfl Sz9 (by rfl) (by rfl) | exact op_fieldAddr_elt Try.underlying26 rfl Sz9 (by rfl) (by rfl) (by rfl)) rfl (by dsimp only [zS, zN, zH, zT]) ?_
        refine zst (op_storeB (vs := [.d (S _)]) (b' := (vBlk 26 3 false 0 _ nilS nilS)) (H' := _) Sz9 (by rfl) (hv.set1 _).e1 (by intro h; cases h) (by rfl) (by rfl) (Nat.le_of_ble_eq_true rfl) (by simp [AV.one, DV.one, TF, S, I, BY]) (by rfl) (by rfl) rfl) rfl (by dsimp only [zS, zN, zH, zT]) ?_
        refine al_end rfl ?_
        refine inBlock_normal ?_
        apply cut_to (true :: false :: false :: false :: true :: true :: false :: false :: false :: false :: false :: false :: false :: false :: false :: false :: false :: false :: false :: false :: false :: false :: false :: false :: false :: false :: false :: false :: false :: false :: false :: false :: false :: false :: false :: false :: false :: false :: false :: false :: false :: false :: false :: false :: false :: false :: false :: false :: false :: false :: false :: false :: false :: false :: false :: false :: false :: false :: false :: false :: false :: false :: false :: false :: false :: false :: false :: false :: false :: false :: false :: false :: false :: false :: false :: false :: false :: false :: false :: false :: false :: false :: false :: false :: false :: false :: false :: false :: false :: false :: false :: false :: false :: false :: false :: false :: false :: false :: false :: false :: false :: false :: false :: false :: false :: false :: false :: false :: false :: false :: false :: false :: false :: false :: false :: false :: false :: false :: false :: false :: false :: false :: false :: false :: false :: false :: false :: false :: false :: false :: false :: false :: false :: false :: false :: false :: false :: false :: false :: false :: false :: false :: false :: false :: false :: false :: false :: false :: false :: false :: false :: false :: false :: false :: false :: false :: false :: false :: false :: false :: false :: false :: false :: false :: false :: false :: [])
        · (try dsimp only [maskT]); try exact rfl
        · rfl
        exact ⟨3, false, 0, (rText 4096 (st1.1.1, st1.1.2)).1, nilS, nilS, [], [], ((rText 4096 (st1.1.1, st1.1.2)).2, st1.2), rfl, (hv.set1 _).setv _, weak_nilL, weak_nilF, by rw [hrv]; simp [rBody]⟩
       ·
        (try simp only [y1, y2, y3, y4, y5, y6, y7, y8, y9, y0, List.length_map] at hc7)
        have hk3 : ¬ k = 3 := hc7
        refine aw_seq ?_
        refine aw_region ?_
        refine zst (op_eqI (by rfl) (by rfl)) rfl (by dsimp only [zS, zN, zH, zT]) ?_
        refine zst (op_assign_tmp (by rfl)) rfl (by dsimp only [zS, zN, zH, zT]) ?_
        refine al_end rfl ?_
        refine then_normal ?_
        refine aw_cond rfl (fun hc8 => ?_) (fun hc8 => ?_)
        ·
         (try simp only [y1, y2, y3, y4, y5, y6, y7, y8, y9, y0, List.length_map] at hc8)
         have hk4 : k = 4 := hc8
         subst hk4
         obtain ⟨m, st2, hm1⟩ : ∃ a st, rNum 4096 st1.1 = (a, st) := ⟨_, _, rfl⟩
         have hml := rNum_most hm1
         have hml : m ≤ 4096 := by omega
         refine aw_seq ?_
         refine aw_region ?_
         refine zst (op_move_tmp (by rfl)) rfl (by dsimp only [zS, zN, zH, zT]) ?_
         refine zst (by first | exact op_nilCheck_ptr (by rfl) | exact op_nilCheck_elt (by rfl)) rfl (by dsimp only [zS, zN, zH, zT]) ?_
         refine zst (by first | exact op_fieldAddr_ptr Try.underlying99 rfl Sz56 (by rfl) (by rfl) | exact op_fieldAddr_elt Try.underlying99 rfl Sz56 (by rfl) (by rfl) (by rfl)) rfl (by dsimp only [zS, zN, zH, zT]) ?_
         refine zst (by first | exact op_load_elt Try.underlying56 (by rfl) (by rfl) (by rfl) | exact op_load_ptr Try.underlying56 (by rfl) (by rfl) (by first | exact hPhi | exact hv.rd.q | exact hv.e1 | exact push_ne h.q | exact (hv.set1 _).e1 | exact hw | exact (hv.to _).e1 | exact (hv.far (by omega)).e1) (by rfl)) rfl (by dsimp only [zS, zN, zH, zT]) ?_
         refine zst (op_callF Try.func37 (by rfl) (by rfl) (.tmp (by rfl) (.const (by rfl) .nil)) (num_at (s := st1.1.1) (bad := st1.1.2) hm1 hv.rd.r (by decide))) rfl (by dsimp only [zS, zN, zH, zT]) ?_
         refine zst (op_move_const (by rfl)) rfl (by dsimp only [zS, zN, zH, zT]) ?_
         refine al_end rfl ?_
         refine then_normal ?_
         refine aw_block ?_
         apply aw_loopF (fun n T H => ∃ (j : Nat) (v : AV) (t : Option Nat), T = ((.ptr q 0) :: (.d (I ((d + 1 : Nat) : Int))) :: .un :: .un :: (.ptr Hs.nb 0) :: (.ptr (Hs.nb + 1) 0) :: .un :: .un :: .un :: .un :: .un :: .un :: .un :: .un :: .un :: .un :: .un :: .un :: .un :: .un :: .un :: .un :: .un :: .un :: .un :: .un :: .un :: .un :: .un :: .un :: .un :: .un :: .un :: .un :: .un :: .un :: .un :: .un :: .un :: .un :: .un :: .un :: .un :: .un :: .un :: .un :: .un :: .un :: .un :: .un :: .un :: .un :: .un :: .un :: .un :: .un :: .un :: .un :: .un :: .un :: .un :: .un :: .un :: .un :: .un :: .un :: .un :: .un :: .un :: .un :: .un :: .un :: .un :: .un :: .un :: .un :: .un :: .un :: .un :: .un :: .un :: (.d (I m)) :: (.d (I j)) :: .un :: .un :: .un :: .un :: .un :: .un :: .un :: .un :: .un :: .un :: .un :: .un :: .un :: .un :: .un :: .un :: .un :: .un :: .un :: .un :: .un :: .un :: .un :: .un :: .un :: .un :: .un :: .un :: .un :: .un :: .un :: .un :: .un :: .un :: .un :: .un :: .un :: .un :: .un :: .un :: .un :: .un :: .un :: .un :: .un :: .un :: .un :: .un :: .un :: .un :: .un :: .un :: .un :: .un :: .un :: .un :: .un :: .un :: .un :: .un :: .un :: .un :: .un :: .un :: .un :: .un :: .un :: .un :: .un :: .un :: .un :: .un :: .un :: .un :: .un :: .un :: .un :: .un :: .un :: .un :: .un :: .un :: .un :: []) ∧ j ≤ m ∧ n = m - j ∧ VS Hs 76 99 26 rid q H (vBlk 26 4 false 0 [] v nilS) (rL (rV d) j (st2, st1.2)).2 ∧ GL Hs H v t 6 ((rL (rV d) j (st2, st1.2)).1.map vD)) (m) (true :: true :: false :: false :: true :: true :: false :: false :: false :: false :: false :: false :: false :: false :: false :: false :: false :: false :: false :: false :: false :: false :: false :: false :: false :: false :: false :: false :: false :: false :: false :: false :: false :: false :: false :: false :: false :: false :: false :: false :: false :: false :: false :: false :: false :: false :: false :: false :: false :: false :: false :: false :: false :: false :: false :: false :: false :: false :: false :: false :: false :: false :: false :: false :: false :: false :: false :: false :: false :: false :: false :: false :: false :: false :: false :: false :: false :: false :: false :: false :: false :: true :: true :: false :: false :: false :: false :: false :: false :: false :: false :: false :: false :: false :: false :: false :: false :: false :: false :: false :: false :: false :: false :: false :: false :: false :: false :: false :: false :: false :: false :: false :: false :: false :: false :: false :: false :: false :: false :: false :: false :: false :: false :: false :: false :: false :: false :: false :: false :: false :: false :: false :: false :: false :: false :: false :: false :: false :: false :: false :: false :: false :: false :: false :: false :: false :: false :: false :: false :: false :: false :: false :: false :: false :: false :: false :: false :: false :: false :: false :: false :: false :: false :: false :: false :: false :: [])
         · (try dsimp only [maskT]); try exact rfl
         · rfl
         · exact ⟨0, _, _, rfl, by omega, rfl, hv.set1 st2, GL.nil _ _ _⟩
         rintro n T H ⟨j, v, t, rfl, hj, rfl, hv, hg⟩
         refine aw_seq ?_
         refine aw_region ?_
         refine zst (op_ltI (by rfl) (by rfl)) rfl (by dsimp only [zS, zN, zH, zT]) ?_
         refine al_end rfl ?_
         refine then_normal ?_
         refine aw_seq ?_
         refine aw_cond rfl (fun hc9 => ?_) (fun hc9 => ?_)
         ·
          (try simp only [y1, y2, y3, y4, y5, y6, y7, y8, y9, y0, List.length_map] at hc9)
          have hlt : j < m := by omega
          have hlen := rL_len (rV d) j (st2, st1.2)
          refine aw_skip ?_
          refine then_normal ?_
          refine aw_seq ?_
          refine aw_block ?_
          refine aw_seq ?_
          refine aw_seq ?_
          refine aw_region ?_
          refine zst (op_move_tmp (by rfl)) rfl (by dsimp only [zS, zN, zH, zT]) ?_
          refine zst (by first | exact op_nilCheck_ptr (by rfl) | exact op_nilCheck_elt (by rfl)) rfl (by dsimp only [zS, zN, zH, zT]) ?_
          refine zst (by first | exact op_fieldAddr_ptr Try.underlying99 rfl Sz30 (by rfl) (by rfl) | exact op_fieldAddr_elt Try.underlying99 rfl Sz30 (by rfl) (by rfl) (by rfl)) rfl (by dsimp only [zS, zN, zH, zT]) ?_
          refine zst (by first | exact op_load_elt Try.underlying30 (by rfl) (by rfl) (by rfl) | exact op_load_ptr Try.underlying30 (by rfl) (by rfl) (by first | exact hPhi | exact hv.rd.q | exact hv.e1 | exact push_ne h.q | exact (hv.set1 _).e1 | exact hw | exact (hv.to _).e1 | exact (hv.far (by omega)).e1) (by rfl)) rfl (by dsimp only [zS, zN, zH, zT]) ?_
          refine zst (op_neI (by rfl) (by rfl)) rfl (by dsimp only [zS, zN, zH, zT]) ?_
          refine zst (op_move_tmp (by rfl)) rfl (by dsimp only [zS, zN, zH, zT]) ?_
          refine al_split 89 rfl (fun hg10 => ?_) (fun hg10 => ?_)
          ·
           (try simp only [y1, y2, y3, y4, y5, y6, y7, y8, y9, y0, List.length_map] at hg10)
           have hbk : broke (rL (rV d) j (st2, st1.2)).2 = true := broke_e hg10
           apply al_normT
           · (try dsimp only [zS, zN, zH, zT]); try exact rfl
           refine zuw rfl rfl rfl rfl (by dsimp only [zS, zN, zH, zT]) ?_
           refine zuw rfl rfl rfl rfl (by dsimp only [zS, zN, zH, zT]) ?_
           refine zuw rfl rfl rfl rfl (by dsimp only [zS, zN, zH, zT]) ?_
           refine zuw rfl rfl rfl rfl (by dsimp only [zS, zN, zH, zT]) ?_
           refine zuw rfl rfl rfl rfl (by dsimp only [zS, zN, zH, zT]) ?_
           refine zuw rfl rfl rfl rfl (by dsimp only [zS, zN, zH, zT]) ?_
           refine zst (op_pick_tt (by rfl) (val_const (by rfl))) rfl (by dsimp only [zS, zN, zH, zT]) ?_
           refine al_end rfl ?_
           refine then_normal ?_
           refine aw_cond rfl (fun _ => ?_) (fun h => by cases h)
           refine aw_exit ?_
           refine then_exit (inBlock_past rfl (then_exit (again_exit (inBlock_here (inBlock_normal ?_)))))
           apply cut_to (true :: false :: false :: false :: true :: true :: false :: false :: false :: false :: false :: false :: false :: false :: false :: false :: false :: false :: false :: false :: false :: false :: false :: false :: false :: false :: false :: false :: false :: false :: false :: false :: false :: false :: false :: false :: false :: false :: false :: false :: false :: false :: false :: false :: false :: false :: false :: false :: false :: false :: false :: false :: false :: false :: false :: false :: false :: false :: false :: false :: false :: false :: false :: false :: false :: false :: false :: false :: false :: false :: false :: false :: false :: false :: false :: false :: false :: false :: false :: false :: false :: false :: false :: false :: false :: false :: false :: false :: false :: false :: false :: false :: false :: false :: false :: false :: false :: false :: false :: false :: false :: false :: false :: false :: false :: false :: false :: false :: false :: false :: false :: false :: false :: false :: false :: false :: false :: false :: false :: false :: false :: false :: false :: false :: false :: false :: false :: false :: false :: false :: false :: false :: false :: false :: false :: false :: false :: false :: false :: false :: false :: false :: false :: false :: false :: false :: false :: false :: false :: false :: false :: false :: false :: false :: false :: false :: false :: false :: false :: false :: false :: false :: false :: false :: false :: false :: [])
           · (try dsimp only [maskT]); try exact rfl
           · rfl
           exact ⟨4, false, 0, [], v, nilS, (rL (rV d) j (st2, st1.2)).1, [], (rL (rV d) j (st2, st1.2)).2, rfl, hv, Weak.lst hg.app, weak_nilF, by rw [hrv]; simp [rBody, hm1, rL_stay hbk m (by omega)]⟩
          ·
           (try simp only [y1, y2, y3, y4, y5, y6, y7, y8, y9, y0, List.length_map] at hg10)
           have he0 : (rL (rV d) j (st2, st1.2)).2.2 = 0 := by simpa using hg10
           apply al_normT
           · (try dsimp only [zS, zN, zH, zT]); try exact rfl
           refine zsw rfl rfl rfl (op_move_tmp (by rfl)) (by dsimp only [zS, zN, zH, zT]) ?_
           refine zsw rfl rfl rfl (by first | exact op_nilCheck_ptr (by rfl) | exact op_nilCheck_elt (by rfl)) (by dsimp only [zS, zN, zH, zT]) ?_
           refine zsw rfl rfl rfl (by first | exact op_fieldAddr_ptr Try.underlying99 rfl Sz56 (by rfl) (by rfl) | exact op_fieldAddr_elt Try.underlying99 rfl Sz56 (by rfl) (by rfl) (by rfl)) (by dsimp only [zS, zN, zH, zT]) ?_
           refine zsw rfl rfl rfl (by first | exact op_load_elt Try.underlying56 (by rfl) (by rfl) (by rfl) | exact op_load_ptr Try.underlying56 (by rfl) (by rfl) (by first | exact hPhi | exact hv.rd.q | exact hv.e1 | exact push_ne h.q | exact (hv.set1 _).e1 | exact hw | exact (hv.to _).e1 | exact (hv.far (by omega)).e1) (by rfl)) (by dsimp only [zS, zN, zH, zT]) ?_
           refine zsw rfl rfl rfl (op_callF Try.func40 (by rfl) (by rfl) (.tmp (by rfl) .nil) (err_ok _ rid _ _ hv.rd.r)) (by dsimp only [zS, zN, zH, zT]) ?_
           refine zsw rfl rfl rfl (op_neI (by rfl) (by rfl)) (by dsimp only [zS, zN, zH, zT]) ?_
           refine zst (op_pick_ff (by rfl) (val_tmp (by rfl))) rfl (by dsimp only [zS, zN, zH, zT]) ?_
           refine al_end rfl ?_
           refine then_normal ?_
           refine aw_cond rfl (fun hc12 => ?_) (fun hc12 => ?_)
           ·
            (try simp only [y1, y2, y3, y4, y5, y6, y7, y8, y9, y0, List.length_map] at hc12)
            have hbk : broke (rL (rV d) j (st2, st1.2)).2 = true := broke_r hc12
            refine aw_exit ?_
            refine then_exit (inBlock_past rfl (then_exit (again_exit (inBlock_here (inBlock_normal ?_)))))
            apply cut_to (true :: false :: false :: false :: true :: true :: false :: false :: false :: false :: false :: false :: false :: false :: false :: false :: false :: false :: false :: false :: false :: false :: false :: false :: false :: false :: false :: false :: false :: false :: false :: false :: false :: false :: false :: false :: false :: false :: false :: false :: false :: false :: false :: false :: false :: false :: false :: false :: false :: false :: false :: false :: false :: false :: false :: false :: false :: false :: false :: false :: false :: false :: false :: false :: false :: false :: false :: false :: false :: false :: false :: false :: false :: false :: false :: false :: false :: false :: false :: false :: false :: false :: false :: false :: false :: false :: false :: false :: false :: false :: false :: false :: false :: false :: false :: false :: false :: false :: false :: false :: false :: false :: false :: false :: false :: false :: false :: false :: false :: false :: false :: false :: false :: false :: false :: false :: false :: false :: false :: false :: false :: false :: false :: false :: false :: false :: false :: false :: false :: false :: false :: false :: false :: false :: false :: false :: false :: false :: false :: false :: false :: false :: false :: false :: false :: false :: false :: false :: false :: false :: false :: false :: false :: false :: false :: false :: false :: false :: false :: false :: false :: false :: false :: false :: false :: false :: [])
            · (try dsimp only [maskT]); try exact rfl
            · rfl
            exact ⟨4, false, 0, [], v, nilS, (rL (rV d) j (st2, st1.2)).1, [], (rL (rV d) j (st2, st1.2)).2, rfl, hv, Weak.lst hg.app, weak_nilF, by rw [hrv]; simp [rBody, hm1, rL_stay hbk m (by omega)]⟩
           ·
            (try simp only [y1, y2, y3, y4, y5, y6, y7, y8, y9, y0, List.length_map] at hc12)
            have hnb : broke (rL (rV d) j (st2, st1.2)).2 = false := broke_not he0 (by simpa using hc12)
            refine aw_skip ?_
            refine then_normal ?_
            refine aw_drawX (fun K => K.blks[Hs.nb + 1]? = some (vBlk 26 4 false 0 [] v nilS)) [0, 0, 0, 0, 0, 2, 0, 2, 0, 2] mixed (by kernel_rfl) (hv.e1) (.inr (by kernel_rfl)) ?_
            apply drun0X
            · intro H hPhi; first | exact op_fieldAddr_ptr Try.underlying26 rfl Sz23 (by rfl) (by rfl) | exact op_fieldAddr_elt Try.underlying26 rfl Sz23 (by rfl) (by rfl) (by rfl)
            · rfl
            apply drun_normT
            · (try dsimp only [zS, zN, zH, zT]); try exact rfl
            apply drun0X
            · intro H hPhi; first | exact op_load_elt Try.underlying23 (by rfl) (by rfl) (by rfl) | exact op_load_ptr Try.underlying23 (by rfl) (by rfl) (by first | exact hPhi | exact hv.rd.q | exact hv.e1 | exact push_ne h.q | exact (hv.set1 _).e1 | exact hw | exact (hv.to _).e1 | exact (hv.far (by omega)).e1) (by rfl)
            · rfl
            apply drun_normT
            · (try dsimp only [zS, zN, zH, zT]); try exact rfl
            apply drun0X
            · intro H hPhi; exact op_move_tmp (by rfl)
            · rfl
            apply drun_normT
            · (try dsimp only [zS, zN, zH, zT]); try exact rfl
            apply drun0X
            · intro H hPhi; exact op_move_tmp (by rfl)
            · rfl
            apply drun_normT
            · (try dsimp only [zS, zN, zH, zT]); try exact rfl
            apply drun0X
            · intro H hPhi; exact op_sub (by rfl) (by rfl) (show IntKind.i64.wrap (((d + 1 : Nat) : Int) - 1) = (d : Int) by rw [wrap_i64 ⟨by omega, by omega⟩]; omega)
            · rfl
            apply drun_normT
            · (try dsimp only [zS, zN, zH, zT]); try exact rfl
            apply drun2X
            · exact op_callF Try.func60 (by rfl) (by rfl) (.tmp (by rfl) (.tmp (by rfl) .nil)) (ih d rfl _ _ hv.rd)
            · rfl
            · refine .inr ?_; first | exact (hv.to _).e1 | exact ((hv.to _).up hg.new hg.ok).e1
            apply drun_normT
            · (try dsimp only [zS, zN, zH, zT]); try exact rfl
            apply drun0X
            · intro H hPhi; exact op_lit Try.underlying23 ZS26 (.cons (y := vD (rV d (rL (rV d) j (st2, st1.2)).2).1) (by rfl) (.nil _)) (by rfl) (lit_v _) (lit_v1 _) (by decide)
            · rfl
            apply drun_normT
            · (try dsimp only [zS, zN, zH, zT]); try exact rfl
            apply drun2X
            · exact op_append Try.underlying23 Inf26 (by rfl) hg.app (.list _ _ _ _ Try.underlying23 (LL.own _ _ _)) hg.ok (by simp) (by simp; omega) (by simp; omega)
            · rfl
            · refine .inr ?_; first | exact (hv.to _).e1 | exact ((hv.to _).up hg.new hg.ok).e1
            apply drun_normT
            · (try dsimp only [zS, zN, zH, zT]); try exact rfl
            apply drun0X
            · intro H hPhi; first | exact op_fieldAddr_ptr Try.underlying26 rfl Sz23 (by rfl) (by rfl) | exact op_fieldAddr_elt Try.underlying26 rfl Sz23 (by rfl) (by rfl) (by rfl)
            · rfl
            apply drun_normT
            · (try dsimp only [zS, zN, zH, zT]); try exact rfl
            apply drun2X
            · exact op_storeB (vs := [.own _ 6 _]) (b' := (vBlk 26 4 false 0 [] (.own _ 6 _) nilS)) (H' := _) Sz23 (by rfl) ((hv.to _).up hg.new hg.ok).e1 (by intro h; cases h) (by rfl) (by rfl) (Nat.le_of_ble_eq_true rfl) (by simp [AV.one, DV.one, TF, S, I, BY]) (by rfl) (by rfl) rfl
            · rfl
            · exact .inl rfl
            apply drun_normT
            · (try dsimp only [zS, zN, zH, zT]); try exact rfl
            refine drun_end rfl ?_
            refine inBlock_normal (then_normal ?_)
            refine aw_region ?_
            refine zst (by first | exact op_add (by rfl) (by rfl) (wrap_i64 ⟨by omega, by omega⟩) | exact op_add (by rfl) (by rfl) (by rfl)) rfl (by dsimp only [zS, zN, zH, zT]) ?_
            refine zst (op_move_tmp (by rfl)) rfl (by dsimp only [zS, zN, zH, zT]) ?_
            refine al_end rfl ?_
            apply again_to (m - (j + 1)) (true :: true :: false :: false :: true :: true :: false :: false :: false :: false :: false :: false :: false :: false :: false :: false :: false :: false :: false :: false :: false :: false :: false :: false :: false :: false :: false :: false :: false :: false :: false :: false :: false :: false :: false :: false :: false :: false :: false :: false :: false :: false :: false :: false :: false :: false :: false :: false :: false :: false :: false :: false :: false :: false :: false :: false :: false :: false :: false :: false :: false :: false :: false :: false :: false :: false :: false :: false :: false :: false :: false :: false :: false :: false :: false :: false :: false :: false :: false :: false :: false :: true :: true :: false :: false :: false :: false :: false :: false :: false :: false :: false :: false :: false :: false :: false :: false :: false :: false :: false :: false :: false :: false :: false :: false :: false :: false :: false :: false :: false :: false :: false :: false :: false :: false :: false :: false :: false :: false :: false :: false :: false :: false :: false :: false :: false :: false :: false :: false :: false :: false :: false :: false :: false :: false :: false :: false :: false :: false :: false :: false :: false :: false :: false :: false :: false :: false :: false :: false :: false :: false :: false :: false :: false :: false :: false :: false :: false :: false :: false :: false :: false :: false :: false :: false :: false :: [])
            · (try dsimp only [maskT]); try exact rfl
            · rfl
            · omega
            exact ⟨j + 1, _, _, rfl, by omega, rfl, by rw [rL_step hnb]; exact ((hv.to _).up hg.new hg.ok).setv _, (GL.step (H := stH H 76 99 rid q (rV d (rL (rV d) j (st2, st1.2)).2).2) (hg.toks rfl) (.inr hv.ext.toks) (by simp) (by rw [rL_step hnb]; simp)).toks rfl⟩
         ·
          (try simp only [y1, y2, y3, y4, y5, y6, y7, y8, y9, y0, List.length_map] at hc9)
          have hje : j = m := by omega
          subst hje
          refine aw_exit ?_
          refine then_exit (again_exit (inBlock_here (inBlock_normal ?_)))
          apply cut_to (true :: false :: false :: false :: true :: true :: false :: false :: false :: false :: false :: false :: false :: false :: false :: false :: false :: false :: false :: false :: false :: false :: false :: false :: false :: false :: false :: false :: false :: false :: false :: false :: false :: false :: false :: false :: false :: false :: false :: false :: false :: false :: false :: false :: false :: false :: false :: false :: false :: false :: false :: false :: false :: false :: false :: false :: false :: false :: false :: false :: false :: false :: false :: false :: false :: false :: false :: false :: false :: false :: false :: false :: false :: false :: false :: false :: false :: false :: false :: false :: false :: false :: false :: false :: false :: false :: false :: false :: false :: false :: false :: false :: false :: false :: false :: false :: false :: false :: false :: false :: false :: false :: false :: false :: false :: false :: false :: false :: false :: false :: false :: false :: false :: false :: false :: false :: false :: false :: false :: false :: false :: false :: false :: false :: false :: false :: false :: false :: false :: false :: false :: false :: false :: false :: false :: false :: false :: false :: false :: false :: false :: false :: false :: false :: false :: false :: false :: false :: false :: false :: false :: false :: false :: false :: false :: false :: false :: false :: false :: false :: false :: false :: false :: false :: false :: false :: [])
          · (try dsimp only [maskT]); try exact rfl
          · rfl
          exact ⟨4, false, 0, [], v, nilS, (rL (rV d) j (st2, st1.2)).1, [], (rL (rV d) j (st2, st1.2)).2, rfl, hv, Weak.lst hg.app, weak_nilF, by rw [hrv]; simp [rBody, hm1]⟩
        ·
         (try simp only [y1, y2, y3, y4, y5, y6, y7, y8, y9, y0, List.length_map] at hc8)
         have hk4 : ¬ k = 4 := hc8
         refine aw_seq ?_
         refine aw_region ?_
         refine zst (op_eqI (by rfl) (by rfl)) rfl (by dsimp only [zS, zN, zH, zT]) ?_
         refine zst (op_assign_tmp (by rfl)) rfl (by dsimp only [zS, zN, zH, zT]) ?_
         refine al_end rfl ?_
         refine then_normal ?_
         refine aw_cond rfl (fun hc13 => ?_) (fun hc13 => ?_)
         ·
          (try simp only [y1, y2, y3, y4, y5, y6, y7, y8, y9, y0, List.length_map] at hc13)
          have hk5 : k = 5 := hc13
          subst hk5
          obtain ⟨m, st2, hm1⟩ : ∃ a st, rNum 4096 st1.1 = (a, st) := ⟨_, _, rfl⟩
          have hml := rNum_most hm1
          have hml : m ≤ 4096 := by omega
          refine aw_seq ?_
          refine aw_region ?_
          refine zst (op_move_tmp (by rfl)) rfl (by dsimp only [zS, zN, zH, zT]) ?_
          refine zst (by first | exact op_nilCheck_ptr (by rfl) | exact op_nilCheck_elt (by rfl)) rfl (by dsimp only [zS, zN, zH, zT]) ?_
          refine zst (by first | exact op_fieldAddr_ptr Try.underlying99 rfl Sz56 (by rfl) (by rfl) | exact op_fieldAddr_elt Try.underlying99 rfl Sz56 (by rfl) (by rfl) (by rfl)) rfl (by dsimp only [zS, zN, zH, zT]) ?_
          refine zst (by first | exact op_load_elt Try.underlying56 (by rfl) (by rfl) (by rfl) | exact op_load_ptr Try.underlying56 (by rfl) (by rfl) (by first | exact hPhi | exact hv.rd.q | exact hv.e1 | exact push_ne h.q | exact (hv.set1 _).e1 | exact hw | exact (hv.to _).e1 | exact (hv.far (by omega)).e1) (by rfl)) rfl (by dsimp only [zS, zN, zH, zT]) ?_
          refine zst (op_callF Try.func37 (by rfl) (by rfl) (.tmp (by rfl) (.const (by rfl) .nil)) (num_at (s := st1.1.1) (bad := st1.1.2) hm1 hv.rd.r (by decide))) rfl (by dsimp only [zS, zN, zH, zT]) ?_
          refine zst (op_move_const (by rfl)) rfl (by dsimp only [zS, zN, zH, zT]) ?_
          refine al_end rfl ?_
          refine then_normal ?_
          refine aw_block ?_
          apply aw_loopF (fun n T H => ∃ (j : Nat) (v : AV) (t : Option Nat), T = ((.ptr q 0) :: (.d (I ((d + 1 : Nat) : Int))) :: .un :: .un :: (.ptr Hs.nb 0) :: (.ptr (Hs.nb + 1) 0) :: .un :: .un :: .un :: .un :: .un :: .un :: .un :: .un :: .un :: .un :: .un :: .un :: .un :: .un :: .un :: .un :: .un :: .un :: .un :: .un :: .un :: .un :: .un :: .un :: .un :: .un :: .un :: .un :: .un :: .un :: .un :: .un :: .un :: .un :: .un :: .un :: .un :: .un :: .un :: .un :: .un :: .un :: .un :: .un :: .un :: .un :: .un :: .un :: .un :: .un :: .un :: .un :: .un :: .un :: .un :: .un :: .un :: .un :: .un :: .un :: .un :: .un :: .un :: .un :: .un :: .un :: .un :: .un :: .un :: .un :: .un :: .un :: .un :: .un :: .un :: .un :: .un :: .un :: .un :: .un :: .un :: .un :: .un :: .un :: .un :: .un :: .un :: .un :: .un :: .un :: .un :: .un :: .un :: .un :: .un :: .un :: .un :: .un :: .un :: .un :: .un :: .un :: .un :: .un :: .un :: .un :: .un :: (.d (I m)) :: (.d (I j)) :: .un :: .un :: .un :: .un :: .un :: .un :: .un :: .un :: .un :: .un :: .un :: .un :: .un :: .un :: .un :: .un :: .un :: .un :: .un :: .un :: .un :: .un :: .un :: .un :: .un :: .un :: .un :: .un :: .un :: .un :: .un :: .un :: .un :: .un :: .un :: .un :: .un :: .un :: .un :: .un :: .un :: .un :: .un :: .un :: .un :: .un :: .un :: .un :: .un :: .un :: .un :: []) ∧ j ≤ m ∧ n = m - j ∧ VS Hs 76 99 26 rid q H (vBlk 26 5 false 0 [] nilS v) (rF (rV d) j (st2, st1.2)).2 ∧ GL Hs H v t 7 ((rF (rV d) j (st2, st1.2)).1.map fD)) (m) (true :: true :: false :: false :: true :: true :: false :: false :: false :: false :: false :: false :: false :: false :: false :: false :: false :: false :: false :: false :: false :: false :: false :: false :: false :: false :: false :: false :: false :: false :: false :: false :: false :: false :: false :: false :: false :: false :: false :: false :: false :: false :: false :: false :: false :: false :: false :: false :: false :: false :: false :: false :: false :: false :: false :: false :: false :: false :: false :: false :: false :: false :: false :: false :: false :: false :: false :: false :: false :: false :: false :: false :: false :: false :: false :: false :: false :: false :: false :: false :: false :: false :: false :: false :: false :: false :: false :: false :: false :: false :: false :: false :: false :: false :: false :: false :: false :: false :: false :: false :: false :: false :: false :: false :: false :: false :: false :: false :: false :: false :: false :: false :: false :: true :: true :: false :: false :: false :: false :: false :: false :: false :: false :: false :: false :: false :: false :: false :: false :: false :: false :: false :: false :: false :: false :: false :: false :: false :: false :: false :: false :: false :: false :: false :: false :: false :: false :: false :: false :: false :: false :: false :: false :: false :: false :: false :: false :: false :: false :: false :: false :: false :: false :: false :: false :: false :: [])
          · (try dsimp only [maskT]); try exact rfl
          · rfl
          · exact ⟨0, _, _, rfl, by omega, rfl, hv.set1 st2, GL.nil _ _ _⟩
          rintro n T H ⟨j, v, t, rfl, hj, rfl, hv, hg⟩
          refine aw_seq ?_
          refine aw_region ?_
          refine zst (op_ltI (by rfl) (by rfl)) rfl (by dsimp only [zS, zN, zH, zT]) ?_
          refine al_end rfl ?_
          refine then_normal ?_
          refine aw_seq ?_
          refine aw_cond rfl (fun hc14 => ?_) (fun hc14 => ?_)
          ·
           (try simp only [y1, y2, y3, y4, y5, y6, y7, y8, y9, y0, List.length_map] at hc14)
           have hlt : j < m := by omega
           have hlen := rF_len (rV d) j (st2, st1.2)
           refine aw_skip ?_
           refine then_normal ?_
           refine aw_seq ?_
           refine aw_block ?_
           refine aw_seq ?_
           refine aw_region ?_
           refine zst (op_move_tmp (by rfl)) rfl (by dsimp only [zS, zN, zH, zT]) ?_
           refine zst (op_assign_tmp (by rfl)) rfl (by dsimp only [zS, zN, zH, zT]) ?_
           refine al_end rfl ?_
           refine then_normal ?_
           refine aw_seq ?_
           refine aw_seq ?_
           refine aw_region ?_
           refine zst (op_move_tmp (by rfl)) rfl (by dsimp only [zS, zN, zH, zT]) ?_
           refine zst (by first | exact op_nilCheck_ptr (by rfl) | exact op_nilCheck_elt (by rfl)) rfl (by dsimp only [zS, zN, zH, zT]) ?_
           refine zst (by first | exact op_fieldAddr_ptr Try.underlying99 rfl Sz30 (by rfl) (by rfl) | exact op_fieldAddr_elt Try.underlying99 rfl Sz30 (by rfl) (by rfl) (by rfl)) rfl (by dsimp only [zS, zN, zH, zT]) ?_
           refine zst (by first | exact op_load_elt Try.underlying30 (by rfl) (by rfl) (by rfl) | exact op_load_ptr Try.underlying30 (by rfl) (by rfl) (by first | exact hPhi | exact hv.rd.q | exact hv.e1 | exact push_ne h.q | exact (hv.set1 _).e1 | exact hw | exact (hv.to _).e1 | exact (hv.far (by omega)).e1) (by rfl)) rfl (by dsimp only [zS, zN, zH, zT]) ?_
           refine zst (op_neI (by rfl) (by rfl)) rfl (by dsimp only [zS, zN, zH, zT]) ?_
           refine zst (op_move_tmp (by rfl)) rfl (by dsimp only [zS, zN, zH, zT]) ?_
           refine al_split 122 rfl (fun hg15 => ?_) (fun hg15 => ?_)
           ·
            (try simp only [y1, y2, y3, y4, y5, y6, y7, y8, y9, y0, List.length_map] at hg15)
            have hbk : broke (rF (rV d) j (st2, st1.2)).2 = true := broke_e hg15
            apply al_normT
            · (try dsimp only [zS, zN, zH, zT]); try exact rfl
            refine zuw rfl rfl rfl rfl (by dsimp only [zS, zN, zH, zT]) ?_
            refine zuw rfl rfl rfl rfl (by dsimp only [zS, zN, zH, zT]) ?_
            refine zuw rfl rfl rfl rfl (by dsimp only [zS, zN, zH, zT]) ?_
            refine zuw rfl rfl rfl rfl (by dsimp only [zS, zN, zH, zT]) ?_
            refine zuw rfl rfl rfl rfl (by dsimp only [zS, zN, zH, zT]) ?_
            refine zuw rfl rfl rfl rfl (by dsimp only [zS, zN, zH, zT]) ?_
            refine zst (op_pick_tt (by rfl) (val_const (by rfl))) rfl (by dsimp only [zS, zN, zH, zT]) ?_
            refine al_end rfl ?_
            refine then_normal ?_
            refine aw_cond rfl (fun _ => ?_) (fun h => by cases h)
            refine aw_exit ?_
            refine then_exit (inBlock_past rfl (then_exit (again_exit (inBlock_here (inBlock_normal ?_)))))
            apply cut_to (true :: false :: false :: false :: true :: true :: false :: false :: false :: false :: false :: false :: false :: false :: false :: false :: false :: false :: false :: false :: false :: false :: false :: false :: false :: false :: false :: false :: false :: false :: false :: false :: false :: false :: false :: false :: false :: false :: false :: false :: false :: false :: false :: false :: false :: false :: false :: false :: false :: false :: false :: false :: false :: false :: false :: false :: false :: false :: false :: false :: false :: false :: false :: false :: false :: false :: false :: false :: false :: false :: false :: false :: false :: false :: false :: false :: false :: false :: false :: false :: false :: false :: false :: false :: false :: false :: false :: false :: false :: false :: false :: false :: false :: false :: false :: false :: false :: false :: false :: false :: false :: false :: false :: false :: false :: false :: false :: false :: false :: false :: false :: false :: false :: false :: false :: false :: false :: false :: false :: false :: false :: false :: false :: false :: false :: false :: false :: false :: false :: false :: false :: false :: false :: false :: false :: false :: false :: false :: false :: false :: false :: false :: false :: false :: false :: false :: false :: false :: false :: false :: false :: false :: false :: false :: false :: false :: false :: false :: false :: false :: false :: false :: false :: false :: false :: false :: [])
            · (try dsimp only [maskT]); try exact rfl
            · rfl
            exact ⟨5, false, 0, [], nilS, v, [], (rF (rV d) j (st2, st1.2)).1, (rF (rV d) j (st2, st1.2)).2, rfl, hv, weak_nilL, Weak.lst hg.app, by rw [hrv]; simp [rBody, hm1, rF_stay hbk m (by omega)]⟩
           ·
            (try simp only [y1, y2, y3, y4, y5, y6, y7, y8, y9, y0, List.length_map] at hg15)
            have he0 : (rF (rV d) j (st2, st1.2)).2.2 = 0 := by simpa using hg15
            apply al_normT
            · (try dsimp only [zS, zN, zH, zT]); try exact rfl
            refine zsw rfl rfl rfl (op_move_tmp (by rfl)) (by dsimp only [zS, zN, zH, zT]) ?_
            refine zsw rfl rfl rfl (by first | exact op_nilCheck_ptr (by rfl) | exact op_nilCheck_elt (by rfl)) (by dsimp only [zS, zN, zH, zT]) ?_
            refine zsw rfl rfl rfl (by first | exact op_fieldAddr_ptr Try.underlying99 rfl Sz56 (by rfl) (by rfl) | exact op_fieldAddr_elt Try.underlying99 rfl Sz56 (by rfl) (by rfl) (by rfl)) (by dsimp only [zS, zN, zH, zT]) ?_
            refine zsw rfl rfl rfl (by first | exact op_load_elt Try.underlying56 (by rfl) (by rfl) (by rfl) | exact op_load_ptr Try.underlying56 (by rfl) (by rfl) (by first | exact hPhi | exact hv.rd.q | exact hv.e1 | exact push_ne h.q | exact (hv.set1 _).e1 | exact hw | exact (hv.to _).e1 | exact (hv.far (by omega)).e1) (by rfl)) (by dsimp only [zS, zN, zH, zT]) ?_
            refine zsw rfl rfl rfl (op_callF Try.func40 (by rfl) (by rfl) (.tmp (by rfl) .nil) (err_ok _ rid _ _ hv.rd.r)) (by dsimp only [zS, zN, zH, zT]) ?_
            refine zsw rfl rfl rfl (op_neI (by rfl) (by rfl)) (by dsimp only [zS, zN, zH, zT]) ?_
            refine zst (op_pick_ff (by rfl) (val_tmp (by rfl))) rfl (by dsimp only [zS, zN, zH, zT]) ?_
            refine al_end rfl ?_
            refine then_normal ?_
            refine aw_cond rfl (fun hc17 => ?_) (fun hc17 => ?_)
            ·
             (try simp only [y1, y2, y3, y4, y5, y6, y7, y8, y9, y0, List.length_map] at hc17)
             have hbk : broke (rF (rV d) j (st2, st1.2)).2 = true := broke_r hc17
             refine aw_exit ?_
             refine then_exit (inBlock_past rfl (then_exit (again_exit (inBlock_here (inBlock_normal ?_)))))
             apply cut_to (true :: false :: false :: false :: true :: true :: false :: false :: false :: false :: false :: false :: false :: false :: false :: false :: false :: false :: false :: false :: false :: false :: false :: false :: false :: false :: false :: false :: false :: false :: false :: false :: false :: false :: false :: false :: false :: false :: false :: false :: false :: false :: false :: false :: false :: false :: false :: false :: false :: false :: false :: false :: false :: false :: false :: false :: false :: false :: false :: false :: false :: false :: false :: false :: false :: false :: false :: false :: false :: false :: false :: false :: false :: false :: false :: false :: false :: false :: false :: false :: false :: false :: false :: false :: false :: false :: false :: false :: false :: false :: false :: false :: false :: false :: false :: false :: false :: false :: false :: false :: false :: false :: false :: false :: false :: false :: false :: false :: false :: false :: false :: false :: false :: false :: false :: false :: false :: false :: false :: false :: false :: false :: false :: false :: false :: false :: false :: false :: false :: false :: false :: false :: false :: false :: false :: false :: false :: false :: false :: false :: false :: false :: false :: false :: false :: false :: false :: false :: false :: false :: false :: false :: false :: false :: false :: false :: false :: false :: false :: false :: false :: false :: false :: false :: false :: false :: [])
             · (try dsimp only [maskT]); try exact rfl
             · rfl
             exact ⟨5, false, 0, [], nilS, v, [], (rF (rV d) j (st2, st1.2)).1, (rF (rV d) j (st2, st1.2)).2, rfl, hv, weak_nilL, Weak.lst hg.app, by rw [hrv]; simp [rBody, hm1, rF_stay hbk m (by omega)]⟩
            ·
             (try simp only [y1, y2, y3, y4, y5, y6, y7, y8, y9, y0, List.length_map] at hc17)
             have hnb : broke (rF (rV d) j (st2, st1.2)).2 = false := broke_not he0 (by simpa using hc17)
             have hfl := rF_full (rV d) j _ hnb
             refine aw_skip ?_
             refine then_normal ?_
             apply aw_cutF (fun T H => ∃ (id8 : Nat) (tx : List UInt8) (s3 : RS), T = ((.ptr q 0) :: (.d (I ((d + 1 : Nat) : Int))) :: .un :: .un :: (.ptr Hs.nb 0) :: (.ptr (Hs.nb + 1) 0) :: .un :: (.d (I j)) :: (.ptr id8 0) :: .un :: .un :: .un :: .un :: .un :: .un :: .un :: .un :: .un :: .un :: .un :: .un :: .un :: .un :: .un :: .un :: .un :: .un :: .un :: .un :: .un :: .un :: .un :: .un :: .un :: .un :: .un :: .un :: .un :: .un :: .un :: .un :: .un :: .un :: .un :: .un :: .un :: .un :: .un :: .un :: .un :: .un :: .un :: .un :: .un :: .un :: .un :: .un :: .un :: .un :: .un :: .un :: .un :: .un :: .un :: .un :: .un :: .un :: .un :: .un :: .un :: .un :: .un :: .un :: .un :: .un :: .un :: .un :: .un :: .un :: .un :: .un :: .un :: .un :: .un :: .un :: .un :: .un :: .un :: .un :: .un :: .un :: .un :: .un :: .un :: .un :: .un :: .un :: .un :: .un :: .un :: .un :: .un :: .un :: .un :: .un :: .un :: .un :: .un :: .un :: .un :: .un :: .un :: .un :: (.d (I m)) :: (.d (I j)) :: .un :: .un :: .un :: .un :: .un :: .un :: .un :: .un :: .un :: .un :: .un :: .un :: .un :: .un :: .un :: .un :: .un :: .un :: .un :: .un :: .un :: .un :: .un :: .un :: .un :: .un :: .un :: .un :: .un :: .un :: .un :: .un :: .un :: .un :: .un :: .un :: .un :: .un :: .un :: .un :: .un :: .un :: .un :: .un :: .un :: .un :: .un :: .un :: .un :: .un :: .un :: []) ∧ VS Hs 76 99 26 rid q H (vBlk 26 5 false 0 [] nilS v) (s3, (rF (rV d) j (st2, st1.2)).2.2) ∧ H.blks[id8]? = some ⟨48, [.d (S tx), .d (I 0), .d (TF false), .d (.v (.int .i64 0)), .d (S []), nilS, nilS], false⟩ ∧ Hs.nb + 2 ≤ id8 ∧ GL Hs H v t 7 ((rF (rV d) j (st2, st1.2)).1.map fD) ∧ rText 4096 (rF (rV d) j (st2, st1.2)).2.1 = (tx, s3))
             ·
              refine aw_region ?_
              refine zst (op_move_tmp (by rfl)) rfl (by dsimp only [zS, zN, zH, zT]) ?_
              refine zst (by first | exact op_nilCheck_ptr (by rfl) | exact op_nilCheck_elt (by rfl)) rfl (by dsimp only [zS, zN, zH, zT]) ?_
              refine zst (by first | exact op_fieldAddr_ptr Try.underlying99 rfl Sz56 (by rfl) (by rfl) | exact op_fieldAddr_elt Try.underlying99 rfl Sz56 (by rfl) (by rfl) (by rfl)) rfl (by dsimp only [zS, zN, zH, zT]) ?_
              refine zst (by first | exact op_load_elt Try.underlying56 (by rfl) (by rfl) (by rfl) | exact op_load_ptr Try.underlying56 (by rfl) (by rfl) (by first | exact hPhi | exact hv.rd.q | exact hv.e1 | exact push_ne h.q | exact (hv.set1 _).e1 | exact hw | exact (hv.to _).e1 | exact (hv.far (by omega)).e1) (by rfl)) rfl (by dsimp only [zS, zN, zH, zT]) ?_
              refine zst (op_callF Try.func38 (by rfl) (by rfl) (.tmp (by rfl) (.const (by rfl) .nil)) (rtext_ok _ rid _ _ 4096 hv.rd.r (by decide))) rfl (by dsimp only [zS, zN, zH, zT]) ?_
              refine zst (by first | exact op_buildD (pl := [(0, 1), (1, 6)]) _ Try.underlying48 Zr48 (by kernel_rfl) (by rfl) (by rfl) (by rfl) (by simp [DV.one, S, I, TF, BY]) | exact op_build (pl := [(0, 1), (1, 6)]) Try.underlying48 Zr48 (by kernel_rfl) (by rfl) (by rfl) (by rfl)) rfl (by dsimp only [zS, zN, zH, zT]) ?_
              refine zst (op_alloc (Zr48) (by rfl)) rfl (by dsimp only [zS, zN, zH, zT]) ?_
              refine zst (op_storeB (vs := [.d (S _), .d (I 0), .d (TF false), .d (.v (.int .i64 0)), .d (S []), nilS, nilS]) (b' := ⟨48, [.d (S _), .d (I 0), .d (TF false), .d (.v (.int .i64 0)), .d (S []), nilS, nilS], false⟩) (H' := _) Sz48 (by rfl) push_at (by intro h; cases h) (by rfl) (by rfl) (Nat.le_of_ble_eq_true rfl) (by simp [AV.one, DV.one, TF, S, I, BY]) (by rfl) (by rfl) rfl) rfl (by dsimp only [zS, zN, zH, zT]) ?_
              refine al_end rfl ?_
              apply cut_to (true :: true :: false :: false :: true :: true :: false :: true :: true :: false :: false :: false :: false :: false :: false :: false :: false :: false :: false :: false :: false :: false :: false :: false :: false :: false :: false :: false :: false :: false :: false :: false :: false :: false :: false :: false :: false :: false :: false :: false :: false :: false :: false :: false :: false :: false :: false :: false :: false :: false :: false :: false :: false :: false :: false :: false :: false :: false :: false :: false :: false :: false :: false :: false :: false :: false :: false :: false :: false :: false :: false :: false :: false :: false :: false :: false :: false :: false :: false :: false :: false :: false :: false :: false :: false :: false :: false :: false :: false :: false :: false :: false :: false :: false :: false :: false :: false :: false :: false :: false :: false :: false :: false :: false :: false :: false :: false :: false :: false :: false :: false :: false :: false :: true :: true :: false :: false :: false :: false :: false :: false :: false :: false :: false :: false :: false :: false :: false :: false :: false :: false :: false :: false :: false :: false :: false :: false :: false :: false :: false :: false :: false :: false :: false :: false :: false :: false :: false :: false :: false :: false :: false :: false :: false :: false :: false :: false :: false :: false :: false :: false :: false :: false :: false :: false :: false :: [])
              · (try dsimp only [maskT]); try exact rfl
              · rfl
              exact ⟨_, _, _, rfl, ((hv.set1 _).push).far (by have := hv.lt; rw [setB_nb]; omega), setB_at push_at, by have := hv.lt; rw [setB_nb]; omega, hg.toks rfl, rfl⟩
             rintro T H ⟨id8, tx, s3, rfl, hv, hw, hid, hg, htx⟩
             apply aw_cutF (fun T H => ∃ (e2 : Int), T = ((.ptr q 0) :: (.d (I ((d + 1 : Nat) : Int))) :: .un :: .un :: (.ptr Hs.nb 0) :: (.ptr (Hs.nb + 1) 0) :: .un :: .un :: (.ptr id8 0) :: .un :: .un :: .un :: .un :: .un :: .un :: .un :: .un :: .un :: .un :: .un :: .un :: .un :: .un :: .un :: .un :: .un :: .un :: .un :: .un :: .un :: .un :: .un :: .un :: .un :: .un :: .un :: .un :: .un :: .un :: .un :: .un :: .un :: .un :: .un :: .un :: .un :: .un :: .un :: .un :: .un :: .un :: .un :: .un :: .un :: .un :: .un :: .un :: .un :: .un :: .un :: .un :: .un :: .un :: .un :: .un :: .un :: .un :: .un :: .un :: .un :: .un :: .un :: .un :: .un :: .un :: .un :: .un :: .un :: .un :: .un :: .un :: .un :: .un :: .un :: .un :: .un :: .un :: .un :: .un :: .un :: .un :: .un :: .un :: .un :: .un :: .un :: .un :: .un :: .un :: .un :: .un :: .un :: .un :: .un :: .un :: .un :: .un :: .un :: .un :: .un :: .un :: .un :: .un :: (.d (I m)) :: (.d (I j)) :: .un :: .un :: .un :: .un :: .un :: .un :: .un :: .un :: .un :: .un :: .un :: .un :: .un :: .un :: .un :: .un :: .un :: .un :: .un :: .un :: .un :: .un :: .un :: .un :: .un :: .un :: .un :: .un :: .un :: .un :: .un :: .un :: .un :: .un :: .un :: .un :: .un :: .un :: .un :: .un :: .un :: .un :: .un :: .un :: .un :: .un :: .un :: .un :: .un :: .un :: .un :: []) ∧ VS Hs 76 99 26 rid q H (vBlk 26 5 false 0 [] nilS v) (s3, e2) ∧ H.blks[id8]? = some ⟨48, [.d (S tx), .d (I 0), .d (TF false), .d (.v (.int .i64 0)), .d (S []), nilS, nilS], false⟩ ∧ GL Hs H v t 7 ((rF (rV d) j (st2, st1.2)).1.map fD) ∧ e2 = if notBelow (rF (rV d) j (st2, st1.2)).1 tx then 2 else (rF (rV d) j (st2, st1.2)).2.2)
             ·
              refine aw_seq ?_
              refine aw_draw [0, 0, 0, 0, 1, 0, 0, 0, 0, 1, 0, 1, 0, 0] mixed (by kernel_rfl) ?_
              refine zd0 (fun H => (op_move_tmp (by rfl))) rfl (by dsimp only [zS, zN, zH, zT]) ?_
              refine zd0 (fun H => (op_gtI (by rfl) (by rfl))) rfl (by dsimp only [zS, zN, zH, zT]) ?_
              refine zd0 (fun H => (op_move_tmp (by rfl))) rfl (by dsimp only [zS, zN, zH, zT]) ?_
              refine drun_split 138 rfl (fun hg18 => ?_) (fun hg18 => ?_)
              ·
               (try simp only [y1, y2, y3, y4, y5, y6, y7, y8, y9, y0, List.length_map] at hg18)
               have hj0 : 0 < (j : Int) := hg18
               obtain ⟨y, hy⟩ : ∃ y, (rF (rV d) j (st2, st1.2)).1[j - 1]? = some y := ⟨_, List.getElem?_eq_getElem (by rw [hfl]; omega)⟩
               have hnbl := notBelow_at (x := tx) hfl hy
               apply drun_normT
               · (try dsimp only [zS, zN, zH, zT]); try exact rfl
               refine zd0w rfl rfl rfl (fun H => (by first | exact op_fieldAddr_ptr Try.underlying26 rfl Sz24 (by rfl) (by rfl) | exact op_fieldAddr_elt Try.underlying26 rfl Sz24 (by rfl) (by rfl) (by rfl))) (by dsimp only [zS, zN, zH, zT]) ?_
               refine zd1w rfl rfl rfl (by first | exact op_load_elt Try.underlying24 (by rfl) (by rfl) (by rfl) | exact op_load_ptr Try.underlying24 (by rfl) (by rfl) (by first | exact hPhi | exact hv.rd.q | exact hv.e1 | exact push_ne h.q | exact (hv.set1 _).e1 | exact hw | exact (hv.to _).e1 | exact (hv.far (by omega)).e1) (by rfl)) (by dsimp only [zS, zN, zH, zT]) ?_
               refine zd0w rfl rfl rfl (fun H => (op_move_tmp (by rfl))) (by dsimp only [zS, zN, zH, zT]) ?_
               refine zd0w rfl rfl rfl (fun H => (by first | exact op_sub (by rfl) (by rfl) (wrap_i64 ⟨by omega, by omega⟩) | exact op_sub (by rfl) (by rfl) (by rfl))) (by dsimp only [zS, zN, zH, zT]) ?_
               refine zd0w rfl rfl rfl (fun H => (op_indexAddr (z := fD y) (cs := S y.name :: vC y.val) Try.underlying24 Sz48 hg.app.ll (by rfl) (by omega) (by rw [show ((j : Int) - 1).toNat = j - 1 by omega, List.getElem?_map, hy]; rfl) (fD_cells y))) (by dsimp only [zS, zN, zH, zT]) ?_
               refine zd0w rfl rfl rfl (fun H => (by first | exact op_fieldAddr_ptr Try.underlying48 rfl Sz9 (by rfl) (by rfl) | exact op_fieldAddr_elt Try.underlying48 rfl Sz9 (by rfl) (by rfl) (by rfl))) (by dsimp only [zS, zN, zH, zT]) ?_
               refine zd1w rfl rfl rfl (by first | exact op_load_elt Try.underlying9 (by rfl) (by rfl) (by rfl) | exact op_load_ptr Try.underlying9 (by rfl) (by rfl) (by first | exact hPhi | exact hv.rd.q | exact hv.e1 | exact push_ne h.q | exact (hv.set1 _).e1 | exact hw | exact (hv.to _).e1 | exact (hv.far (by omega)).e1) (by rfl)) (by dsimp only [zS, zN, zH, zT]) ?_
               refine zd0w rfl rfl rfl (fun H => (by first | exact op_fieldAddr_ptr Try.underlying48 rfl Sz9 (by rfl) (by rfl) | exact op_fieldAddr_elt Try.underlying48 rfl Sz9 (by rfl) (by rfl) (by rfl))) (by dsimp only [zS, zN, zH, zT]) ?_
               refine zd1w rfl rfl rfl (by first | exact op_load_elt Try.underlying9 (by rfl) (by rfl) (by rfl) | exact op_load_ptr Try.underlying9 (by rfl) (by rfl) (by first | exact hPhi | exact hv.rd.q | exact hv.e1 | exact push_ne h.q | exact (hv.set1 _).e1 | exact hw | exact (hv.to _).e1 | exact (hv.far (by omega)).e1) (by rfl)) (by dsimp only [zS, zN, zH, zT]) ?_
               refine zd0w rfl rfl rfl (fun H => (op_geS (by rfl) (by rfl))) (by dsimp only [zS, zN, zH, zT]) ?_
               refine zd0 (fun H => (op_pick_tt (by rfl) (val_tmp (by rfl)))) rfl (by dsimp only [zS, zN, zH, zT]) ?_
               refine drun_end rfl ?_
               refine then_normal ?_
               refine aw_cond rfl (fun hc19 => ?_) (fun hc19 => ?_)
               ·
                (try simp only [y1, y2, y3, y4, y5, y6, y7, y8, y9, y0, List.length_map] at hc19)
                have hlx : Op.bytesLess y.name tx = false := by simpa using hc19
                refine aw_region ?_
                refine zst (op_move_tmp (by rfl)) rfl (by dsimp only [zS, zN, zH, zT]) ?_
                refine zst (by first | exact op_nilCheck_ptr (by rfl) | exact op_nilCheck_elt (by rfl)) rfl (by dsimp only [zS, zN, zH, zT]) ?_
                refine zst (by first | exact op_fieldAddr_ptr Try.underlying99 rfl Sz30 (by rfl) (by rfl) | exact op_fieldAddr_elt Try.underlying99 rfl Sz30 (by rfl) (by rfl) (by rfl)) rfl (by dsimp only [zS, zN, zH, zT]) ?_
                refine zst (op_storeB (vs := [.d (I 2)]) (b' := (VB 99 rid 2)) (H' := _) Sz30 (by rfl) hv.rd.q (by intro h; cases h) (by rfl) (by rfl) (Nat.le_of_ble_eq_true rfl) (by simp [AV.one, DV.one, TF, S, I, BY]) (by rfl) (by rfl) rfl) rfl (by dsimp only [zS, zN, zH, zT]) ?_
                refine al_end rfl ?_
                apply cut_to (true :: true :: false :: false :: true :: true :: false :: false :: true :: false :: false :: false :: false :: false :: false :: false :: false :: false :: false :: false :: false :: false :: false :: false :: false :: false :: false :: false :: false :: false :: false :: false :: false :: false :: false :: false :: false :: false :: false :: false :: false :: false :: false :: false :: false :: false :: false :: false :: false :: false :: false :: false :: false :: false :: false :: false :: false :: false :: false :: false :: false :: false :: false :: false :: false :: false :: false :: false :: false :: false :: false :: false :: false :: false :: false :: false :: false :: false :: false :: false :: false :: false :: false :: false :: false :: false :: false :: false :: false :: false :: false :: false :: false :: false :: false :: false :: false :: false :: false :: false :: false :: false :: false :: false :: false :: false :: false :: false :: false :: false :: false :: false :: false :: true :: true :: false :: false :: false :: false :: false :: false :: false :: false :: false :: false :: false :: false :: false :: false :: false :: false :: false :: false :: false :: false :: false :: false :: false :: false :: false :: false :: false :: false :: false :: false :: false :: false :: false :: false :: false :: false :: false :: false :: false :: false :: false :: false :: false :: false :: false :: false :: false :: false :: false :: false :: false :: [])
                · (try dsimp only [maskT]); try exact rfl
                · rfl
                exact ⟨2, rfl, hv.set2 2, (by rw [setB_ne (by have := hv.lq; omega)]; exact hw), hg.toks rfl, by rw [hnbl, hlx]; rfl⟩
               ·
                (try simp only [y1, y2, y3, y4, y5, y6, y7, y8, y9, y0, List.length_map] at hc19)
                have hlx : Op.bytesLess y.name tx = true := by simpa using hc19
                refine aw_skip ?_
                apply cut_to (true :: true :: false :: false :: true :: true :: false :: false :: true :: false :: false :: false :: false :: false :: false :: false :: false :: false :: false :: false :: false :: false :: false :: false :: false :: false :: false :: false :: false :: false :: false :: false :: false :: false :: false :: false :: false :: false :: false :: false :: false :: false :: false :: false :: false :: false :: false :: false :: false :: false :: false :: false :: false :: false :: false :: false :: false :: false :: false :: false :: false :: false :: false :: false :: false :: false :: false :: false :: false :: false :: false :: false :: false :: false :: false :: false :: false :: false :: false :: false :: false :: false :: false :: false :: false :: false :: false :: false :: false :: false :: false :: false :: false :: false :: false :: false :: false :: false :: false :: false :: false :: false :: false :: false :: false :: false :: false :: false :: false :: false :: false :: false :: false :: true :: true :: false :: false :: false :: false :: false :: false :: false :: false :: false :: false :: false :: false :: false :: false :: false :: false :: false :: false :: false :: false :: false :: false :: false :: false :: false :: false :: false :: false :: false :: false :: false :: false :: false :: false :: false :: false :: false :: false :: false :: false :: false :: false :: false :: false :: false :: false :: false :: false :: false :: false :: false :: [])
                · (try dsimp only [maskT]); try exact rfl
                · rfl
                exact ⟨(rF (rV d) j (st2, st1.2)).2.2, rfl, hv, hw, hg, by rw [hnbl, hlx]; rfl⟩
              ·
               (try simp only [y1, y2, y3, y4, y5, y6, y7, y8, y9, y0, List.length_map] at hg18)
               have hj0 : j = 0 := by have : ¬ 0 < (j : Int) := hg18; omega
               apply drun_normT
               · (try dsimp only [zS, zN, zH, zT]); try exact rfl
               refine zdU rfl rfl rfl rfl (by dsimp only [zS, zN, zH, zT]) ?_
               refine zdU rfl rfl rfl rfl (by dsimp only [zS, zN, zH, zT]) ?_
               refine zdU rfl rfl rfl rfl (by dsimp only [zS, zN, zH, zT]) ?_
               refine zdU rfl rfl rfl rfl (by dsimp only [zS, zN, zH, zT]) ?_
               refine zdU rfl rfl rfl rfl (by dsimp only [zS, zN, zH, zT]) ?_
               refine zdU rfl rfl rfl rfl (by dsimp only [zS, zN, zH, zT]) ?_
               refine zdU rfl rfl rfl rfl (by dsimp only [zS, zN, zH, zT]) ?_
               refine zdU rfl rfl rfl rfl (by dsimp only [zS, zN, zH, zT]) ?_
               refine zdU rfl rfl rfl rfl (by dsimp only [zS, zN, zH, zT]) ?_
               refine zdU rfl rfl rfl rfl (by dsimp only [zS, zN, zH, zT]) ?_
               refine zd0 (fun H => (op_pick_ff (by rfl) (val_const (by rfl)))) rfl (by dsimp only [zS, zN, zH, zT]) ?_
               refine drun_end rfl ?_
               refine then_normal ?_
               refine aw_cond rfl (fun h => by cases h) (fun _ => ?_)
               refine aw_skip ?_
               apply cut_to (true :: true :: false :: false :: true :: true :: false :: false :: true :: false :: false :: false :: false :: false :: false :: false :: false :: false :: false :: false :: false :: false :: false :: false :: false :: false :: false :: false :: false :: false :: false :: false :: false :: false :: false :: false :: false :: false :: false :: false :: false :: false :: false :: false :: false :: false :: false :: false :: false :: false :: false :: false :: false :: false :: false :: false :: false :: false :: false :: false :: false :: false :: false :: false :: false :: false :: false :: false :: false :: false :: false :: false :: false :: false :: false :: false :: false :: false :: false :: false :: false :: false :: false :: false :: false :: false :: false :: false :: false :: false :: false :: false :: false :: false :: false :: false :: false :: false :: false :: false :: false :: false :: false :: false :: false :: false :: false :: false :: false :: false :: false :: false :: false :: true :: true :: false :: false :: false :: false :: false :: false :: false :: false :: false :: false :: false :: false :: false :: false :: false :: false :: false :: false :: false :: false :: false :: false :: false :: false :: false :: false :: false :: false :: false :: false :: false :: false :: false :: false :: false :: false :: false :: false :: false :: false :: false :: false :: false :: false :: false :: false :: false :: false :: false :: false :: false :: [])
               · (try dsimp only [maskT]); try exact rfl
               · rfl
               exact ⟨(rF (rV d) j (st2, st1.2)).2.2, rfl, hv, hw, hg, by subst hj0; rfl⟩
             rintro T H ⟨e2, rfl, hv, hw, hg, he2⟩
             refine aw_seq ?_
             refine aw_region ?_
             refine zst (op_move_tmp (by rfl)) rfl (by dsimp only [zS, zN, zH, zT]) ?_
             refine zst (op_move_tmp (by rfl)) rfl (by dsimp only [zS, zN, zH, zT]) ?_
             refine zst (op_sub (by rfl) (by rfl) (show IntKind.i64.wrap (((d + 1 : Nat) : Int) - 1) = (d : Int) by rw [wrap_i64 ⟨by omega, by omega⟩]; omega)) rfl (by dsimp only [zS, zN, zH, zT]) ?_
             refine zst (op_callF Try.func60 (by rfl) (by rfl) (.tmp (by rfl) (.tmp (by rfl) .nil)) (ih d rfl _ _ hv.rd)) rfl (by dsimp only [zS, zN, zH, zT]) ?_
             refine zst (by first | exact op_fieldAddr_ptr Try.underlying48 rfl Sz26 (by rfl) (by rfl) | exact op_fieldAddr_elt Try.underlying48 rfl Sz26 (by rfl) (by rfl) (by rfl)) rfl (by dsimp only [zS, zN, zH, zT]) ?_
             refine zst (op_storeV (rV d _).1 Sz26 (by rfl) (by first | exact hw | (rw [show (stH H 76 99 rid q _).blks[id8]? = H.blks[id8]? from set2_ne (by have := hv.lr; omega) (by have := hv.lq; omega)]; exact hw)) (by rfl) (Nat.le_of_ble_eq_true rfl) (by rfl) (f0_put 48 tx _)) rfl (by dsimp only [zS, zN, zH, zT]) ?_
             refine al_end rfl ?_
             refine then_normal ?_
             refine aw_region ?_
             refine zst (by first | exact op_fieldAddr_ptr Try.underlying26 rfl Sz24 (by rfl) (by rfl) | exact op_fieldAddr_elt Try.underlying26 rfl Sz24 (by rfl) (by rfl) (by rfl)) rfl (by dsimp only [zS, zN, zH, zT]) ?_
             refine zst (op_load_ptr Try.underlying24 (by rfl) (by rfl) ((hv.to _).far hid).e1 (by rfl)) rfl (by dsimp only [zS, zN, zH, zT]) ?_
             refine zst (op_loadF 48 (.mk tx (rV d (s3, e2)).1) Try.underlying48 (by rfl) Sz48 (by rfl) (setB_at (b := ⟨48, [.d (S tx), .d (I 0), .d (TF false), .d (.v (.int .i64 0)), .d (S []), nilS, nilS], false⟩) (by rw [show (stH H 76 99 rid q _).blks[id8]? = H.blks[id8]? from set2_ne (by have := hv.lr; omega) (by have := hv.lq; omega)]; exact hw))) rfl (by dsimp only [zS, zN, zH, zT]) ?_
             refine zst (op_lit Try.underlying24 ZS48 (.cons (y := fD (.mk tx (rV d (s3, e2)).1)) (by rfl) (.nil _)) (by rfl) (lit_f _) (lit_f1 _) (by decide)) rfl (by dsimp only [zS, zN, zH, zT]) ?_
             refine zst (op_append Try.underlying24 Inf48 (by rfl) hg.app (.list _ _ _ _ Try.underlying24 (LL.own _ _ _)) hg.ok (by simp) (by simp; omega) (by simp; omega)) rfl (by dsimp only [zS, zN, zH, zT]) ?_
             refine zst (by first | exact op_fieldAddr_ptr Try.underlying26 rfl Sz24 (by rfl) (by rfl) | exact op_fieldAddr_elt Try.underlying26 rfl Sz24 (by rfl) (by rfl) (by rfl)) rfl (by dsimp only [zS, zN, zH, zT]) ?_
             refine zst (op_storeB (vs := [.own _ 7 _]) (b' := (vBlk 26 5 false 0 [] nilS (.own _ 7 _))) (H' := _) Sz24 (by rfl) (((hv.to _).far hid).up hg.new hg.ok).e1 (by intro h; cases h) (by rfl) (by rfl) (Nat.le_of_ble_eq_true rfl) (by simp [AV.one, DV.one, TF, S, I, BY]) (by rfl) (by rfl) rfl) rfl (by dsimp only [zS, zN, zH, zT]) ?_
             refine al_end rfl ?_
             refine inBlock_normal (then_normal ?_)
             refine aw_region ?_
             refine zst (by first | exact op_add (by rfl) (by rfl) (wrap_i64 ⟨by omega, by omega⟩) | exact op_add (by rfl) (by rfl) (by rfl)) rfl (by dsimp only [zS, zN, zH, zT]) ?_
             refine zst (op_move_tmp (by rfl)) rfl (by dsimp only [zS, zN, zH, zT]) ?_
             refine al_end rfl ?_
             have hst : rF (rV d) (j + 1) (st2, st1.2) = ((rF (rV d) j (st2, st1.2)).1 ++ [.mk tx (rV d (s3, e2)).1], (rV d (s3, e2)).2) := by rw [rF_step hnb, htx, ← he2]
             apply again_to (m - (j + 1)) (true :: true :: false :: false :: true :: true :: false :: false :: false :: false :: false :: false :: false :: false :: false :: false :: false :: false :: false :: false :: false :: false :: false :: false :: false :: false :: false :: false :: false :: false :: false :: false :: false :: false :: false :: false :: false :: false :: false :: false :: false :: false :: false :: false :: false :: false :: false :: false :: false :: false :: false :: false :: false :: false :: false :: false :: false :: false :: false :: false :: false :: false :: false :: false :: false :: false :: false :: false :: false :: false :: false :: false :: false :: false :: false :: false :: false :: false :: false :: false :: false :: false :: false :: false :: false :: false :: false :: false :: false :: false :: false :: false :: false :: false :: false :: false :: false :: false :: false :: false :: false :: false :: false :: false :: false :: false :: false :: false :: false :: false :: false :: false :: false :: true :: true :: false :: false :: false :: false :: false :: false :: false :: false :: false :: false :: false :: false :: false :: false :: false :: false :: false :: false :: false :: false :: false :: false :: false :: false :: false :: false :: false :: false :: false :: false :: false :: false :: false :: false :: false :: false :: false :: false :: false :: false :: false :: false :: false :: false :: false :: false :: false :: false :: false :: false :: false :: [])
             · (try dsimp only [maskT]); try exact rfl
             · rfl
             · omega
             exact ⟨j + 1, _, _, rfl, by omega, rfl, by rw [hst]; exact ((((hv.to _).far hid).up hg.new hg.ok).setv _), (GL.step (H := (stH H 76 99 rid q (rV d (s3, e2)).2).setB id8 _) (hg.toks rfl) (.inr hv.ext.toks) (by simp) (by rw [hst]; simp)).toks rfl⟩
          ·
           (try simp only [y1, y2, y3, y4, y5, y6, y7, y8, y9, y0, List.length_map] at hc14)
           have hje : j = m := by omega
           subst hje
           refine aw_exit ?_
           refine then_exit (again_exit (inBlock_here (inBlock_normal ?_)))
           apply cut_to (true :: false :: false :: false :: true :: true :: false :: false :: false :: false :: false :: false :: false :: false :: false :: false :: false :: false :: false :: false :: false :: false :: false :: false :: false :: false :: false :: false :: false :: false :: false :: false :: false :: false :: false :: false :: false :: false :: false :: false :: false :: false :: false :: false :: false :: false :: false :: false :: false :: false :: false :: false :: false :: false :: false :: false :: false :: false :: false :: false :: false :: false :: false :: false :: false :: false :: false :: false :: false :: false :: false :: false :: false :: false :: false :: false :: false :: false :: false :: false :: false :: false :: false :: false :: false :: false :: false :: false :: false :: false :: false :: false :: false :: false :: false :: false :: false :: false :: false :: false :: false :: false :: false :: false :: false :: false :: false :: false :: false :: false :: false :: false :: false :: false :: false :: false :: false :: false :: false :: false :: false :: false :: false :: false :: false :: false :: false :: false :: false :: false :: false :: false :: false :: false :: false :: false :: false :: false :: false :: false :: false :: false :: false :: false :: false :: false :: false :: false :: false :: false :: false :: false :: false :: false :: false :: false :: false :: false :: false :: false :: false :: false :: false :: false :: false :: false :: [])
           · (try dsimp only [maskT]); try exact rfl
           · rfl
           exact ⟨5, false, 0, [], nilS, v, [], (rF (rV d) j (st2, st1.2)).1, (rF (rV d) j (st2, st1.2)).2, rfl, hv, weak_nilL, Weak.lst hg.app, by rw [hrv]; simp [rBody, hm1]⟩
         ·
          (try simp only [y1, y2, y3, y4, y5, y6, y7, y8, y9, y0, List.length_map] at hc13)
          have hk5 : ¬ k = 5 := hc13
          refine aw_skip ?_
          refine inBlock_normal ?_
          apply cut_to (true :: false :: false :: false :: true :: true :: false :: false :: false :: false :: false :: false :: false :: false :: false :: false :: false :: false :: false :: false :: false :: false :: false :: false :: false :: false :: false :: false :: false :: false :: false :: false :: false :: false :: false :: false :: false :: false :: false :: false :: false :: false :: false :: false :: false :: false :: false :: false :: false :: false :: false :: false :: false :: false :: false :: false :: false :: false :: false :: false :: false :: false :: false :: false :: false :: false :: false :: false :: false :: false :: false :: false :: false :: false :: false :: false :: false :: false :: false :: false :: false :: false :: false :: false :: false :: false :: false :: false :: false :: false :: false :: false :: false :: false :: false :: false :: false :: false :: false :: false :: false :: false :: false :: false :: false :: false :: false :: false :: false :: false :: false :: false :: false :: false :: false :: false :: false :: false :: false :: false :: false :: false :: false :: false :: false :: false :: false :: false :: false :: false :: false :: false :: false :: false :: false :: false :: false :: false :: false :: false :: false :: false :: false :: false :: false :: false :: false :: false :: false :: false :: false :: false :: false :: false :: false :: false :: false :: false :: false :: false :: false :: false :: false :: false :: false :: false :: [])
          · (try dsimp only [maskT]); try exact rfl
          · rfl
          exact ⟨k, false, 0, [], nilS, nilS, [], [], st1, rfl, hv, weak_nilL, weak_nilF, by rw [hrv]; simp [rBody, hk1, hk2, hk3, hk4, hk5]⟩
    rintro T H ⟨k, y, i, tx, l, f, ls, fs, st2, rfl, hv, hwl, hwf, hres⟩
    refine aw_seq ?_
    refine aw_region ?_
    refine zst (op_load_ptrsW (off := 0) (vC (.mk k y i tx ls fs)) Try.underlying26 (by rfl) Sz26 (by rfl) hv.e1 (Nat.le_of_ble_eq_true rfl) (weak6 hwl hwf) (vC_one _)) rfl (by dsimp only [zS, zN, zH, zT]) ?_
    refine zst (op_storeV (b' := ⟨26, (vC (.mk k y i tx ls fs)).map .d, false⟩) (.mk k y i tx ls fs) Sz26 (by rfl) (hv.e0.choose_spec.choose_spec.choose_spec.choose_spec.choose_spec.choose_spec) (by rfl) (Nat.le_of_ble_eq_true rfl) (by rfl) (by rfl)) rfl (by dsimp only [zS, zN, zH, zT]) ?_
    refine al_end rfl ?_
    refine then_normal ?_
    refine aw_ret ?_
    refine retC1 rfl (.cells Try.underlying26 (by rfl) Sz26 (by rfl) (setB_at (hv.e0.choose_spec.choose_spec.choose_spec.choose_spec.choose_spec.choose_spec)) (Nat.le_of_ble_eq_true rfl) (by rfl)) ?_
    rw [hres]
    exact ⟨weak_agg_d (vC_one (.mk k y i tx ls fs)), hv.ext.setB (by rw [stH_nb]; exact Nat.le_refl _)⟩
end Go.Proofs.Ytjamnhofbkgblaa
namespace Go.Proofs.Ytjamnhofbkgblaa
open Go.AV Go.AV.Ord Go.AV.Oct Go.AV.Val
set_option linter.unusedVariables false
set_option linter.unusedSimpArgs false
theorem val_ok : ∀ (D : Nat), D ≤ 1000 → ∀ (Hs : HS) (rid q : Nat) (st : DS), Rd Hs 76 99 rid q st → ACalls Try.prog 60 [.ptr q 0, .d (I D)] Hs (Ret (.d (.agg (vC (rV D st).1))) (stH Hs 76 99 rid q (rV D st).2))
  | 0, hD, Hs, rid, q, ((s, bad), e), h => val_step Hs rid q 0 s bad e h hD (fun _ h => by cases h)
  | D + 1, hD, Hs, rid, q, ((s, bad), e), h => val_step Hs rid q (D + 1) s bad e h hD (fun d hd Hs st h => by
      cases hd
      exact val_ok D (by omega) Hs rid q st h)
set_option maxRecDepth 100000 in
theorem vdec_ok (Hs : HS) (s : List UInt8) : ACalls Try.prog 39 [.d (S s)] Hs (Ret (.tup [.d (.agg (vC (decV s).1)), .d (I (decV s).2)]) Hs) := by
 refine ACalls.tidyT (xs := [.agg (vC (decV s).1), I (decV s).2]) ?_
 suffices h : ACalls Try.prog 39 [.d (S s)] Hs (fun av H' => ∃ x, av = .tup [x, .d (I (decV s).2)] ∧ Weak x (.d (.agg (vC (decV s).1))) ∧ Ext Hs H') from h.weak fun v H' ⟨x, h1, h2, h3⟩ => ⟨_, by rw [h1]; exact Weak.tup (.cons h2 (.cons (Weak.refl _) .nil)), rfl, h3⟩
 obtain ⟨v, st, hr⟩ : ∃ v st, rV 32 ((s, false), 0) = (v, st) := ⟨_, _, rfl⟩
 refine acalls_of_awC Try.func39 rfl ?_
 refine aw_start (T' := [.d (S s), .un, .un, .un, .un, .un, .un, .un, .un, .un, .un, .un, .un, .un, .un, .un, .un, .un, .un, .un, .un, .un, .un, .un, .un, .un, .un, .un, .un, .un, .un, .un, .un, .un, .un, .un]) rfl ?_
 refine aw_seq ?_
 refine aw_region ?_
 refine zst (op_alloc (Zr26) (by rfl)) rfl (by dsimp only [zS, zN, zH, zT]) ?_
 refine zst (op_assign_const (by rfl)) rfl (by dsimp only [zS, zN, zH, zT]) ?_
 refine al_end rfl ?_
 refine then_normal ?_
 refine aw_seq ?_
 refine aw_seq ?_
 refine aw_region ?_
 refine zst (op_move_tmp (by rfl)) rfl (by dsimp only [zS, zN, zH, zT]) ?_
 refine zst (op_lenS Try.underlying9 (by rfl)) rfl (by dsimp only [zS, zN, zH, zT]) ?_
 refine zst (op_gtI (by rfl) (by rfl)) rfl (by dsimp only [zS, zN, zH, zT]) ?_
 refine al_end rfl ?_
 refine then_normal ?_
 refine aw_cond rfl (fun hc1 => ?_) (fun hc1 => ?_)
 ·
  (try simp only [y1, y2, y3, y4, y5, y6, y7, y8, y9, y0, List.length_map] at hc1)
  have hlong : 4096 < s.length := by omega
  have ed : decV s = (V0, 4) := by simp [decV, hlong]
  refine aw_seq ?_
  refine aw_region ?_
  refine zst (op_build (pl := [(0, 1), (1, 1), (2, 1), (3, 1), (4, 1), (5, 1)]) Try.underlying26 Zr26 (by kernel_rfl) (by rfl) (by rfl) (by rfl)) rfl (by dsimp only [zS, zN, zH, zT]) ?_
  refine zst (op_storeB (vs := (vs6 0 false 0 [] nilS nilS)) (b' := (vBlk 26 0 false 0 [] nilS nilS)) (H' := _) Sz26 (by rfl) push_at (by intro h; cases h) (by rfl) (by rfl) (Nat.le_of_ble_eq_true rfl) (by simp [AV.one, DV.one, TF, S, I, BY]) (by rfl) (by rfl) rfl) rfl (by dsimp only [zS, zN, zH, zT]) ?_
  refine zst (op_assign_const (by rfl)) rfl (by dsimp only [zS, zN, zH, zT]) ?_
  refine al_end rfl ?_
  refine then_normal ?_
  refine aw_ret ?_
  refine then_ret ?_
  refine retC2 rfl (.cells Try.underlying26 (by rfl) Sz26 (by rfl) (setB_at push_at) (Nat.le_of_ble_eq_true rfl) (by rfl)) (.tmp (by rfl)) ?_
  exact ⟨_, by (rw [ed]) <;> rfl, by rw [ed]; exact Weak.aggD (weak6 weak_nilL weak_nilF) (vC_one V0), ((Ext.refl Hs).push _ _).setB (Nat.le_refl _)⟩
 ·
  (try simp only [y1, y2, y3, y4, y5, y6, y7, y8, y9, y0, List.length_map] at hc1)
  have hlong : ¬ 4096 < s.length := by omega
  refine aw_skip ?_
  refine then_normal ?_
  apply aw_cutF (fun T H => ∃ (u : Unit), T = [.d (S s), .un, .ptr Hs.nb 0, .d (I 0), .ptr (Hs.nb + 2) 0, .un, .un, .un, .un, .un, .un, .un, .un, .un, .un, .un, .un, .un, .un, .un, .un, .un, .un, .un, .un, .un, .un, .un, .un, .un, .un, .un, .un, .un, .un, .un] ∧ Rd H 76 99 (Hs.nb + 1) (Hs.nb + 2) ((s, false), 0) ∧ H.blks[Hs.nb]? = some (vBlk 26 0 false 0 [] nilS nilS) ∧ Ext Hs H)
  ·
   refine aw_region ?_
   refine zst (op_move_tmp (by rfl)) rfl (by dsimp only [zS, zN, zH, zT]) ?_
   refine zst (op_callF Try.func24 (by rfl) (by rfl) (.tmp (by rfl) .nil) (read_ok _ s)) rfl (by dsimp only [zS, zN, zH, zT]) ?_
   refine zst (by first | exact op_buildD (pl := [(0, 1), (1, 1)]) _ Try.underlying99 Zr99 (by kernel_rfl) (by rfl) (by rfl) (by rfl) (by simp [DV.one, S, I, TF, BY]) | exact op_build (pl := [(0, 1), (1, 1)]) Try.underlying99 Zr99 (by kernel_rfl) (by rfl) (by rfl) (by rfl)) rfl (by dsimp only [zS, zN, zH, zT]) ?_
   refine zst (op_box_ptr (by intro h; cases h) (by rfl)) rfl (by dsimp only [zS, zN, zH, zT]) ?_
   refine zst (op_assign_tmp (by rfl)) rfl (by dsimp only [zS, zN, zH, zT]) ?_
   refine al_end rfl ?_
   have n1 : (Hs.push 26 (vs6 0 false 0 [] nilS nilS)).nb = Hs.nb + 1 := push_nb
   have n2 : ((Hs.push 26 (vs6 0 false 0 [] nilS nilS)).push 76 [.d (S s), .d (TF false)]).nb = Hs.nb + 2 := by rw [push_nb, n1]
   apply cut_to [true, false, true, true, true, false, false, false, false, false, false, false, false, false, false, false, false, false, false, false, false, false, false, false, false, false, false, false, false, false, false, false, false, false, false, false]
   · (try dsimp only [maskT]); try exact rfl
   · rfl
   exact ⟨(), by (simp only [push_nb]) <;> rfl, ⟨by omega, push_ne (by rw [← n1]; exact push_at), by have h := push_at (H := (Hs.push 26 (vs6 0 false 0 [] nilS nilS)).push 76 [.d (S s), .d (TF false)]) (e := 99) (cs := [.ptr (Hs.push 26 (vs6 0 false 0 [] nilS nilS)).nb 0, .d (I 0)]); rw [n2] at h; rw [show VB 99 (Hs.nb + 1) (((s, false), 0) : DS).2 = VB 99 (Hs.push 26 (vs6 0 false 0 [] nilS nilS)).nb 0 by rw [n1]]; exact h⟩, push_ne (push_ne push_at), ((((Ext.refl Hs).push _ _).push _ _).push _ _)⟩
  rintro T H ⟨u, rfl, hrd, hb0, hx5⟩
  apply aw_cutF (fun T H => ∃ (id5 : Nat), T = [.un, .un, .ptr Hs.nb 0, .d (I 0), .ptr (Hs.nb + 2) 0, .ptr id5 0, .un, .un, .un, .un, .un, .un, .un, .un, .un, .un, .un, .un, .un, .un, .un, .un, .un, .un, .un, .un, .un, .un, .un, .un, .un, .un, .un, .un, .un, .un] ∧ Rd H 76 99 (Hs.nb + 1) (Hs.nb + 2) st ∧ H.blks[Hs.nb]? = some (vBlk 26 0 false 0 [] nilS nilS) ∧ Ext Hs H ∧ H.blks[id5]? = some ⟨26, (vC v).map .d, false⟩)
  ·
   refine aw_region ?_
   refine zst (op_move_tmp (by rfl)) rfl (by dsimp only [zS, zN, zH, zT]) ?_
   refine zst (op_callF Try.func60 (by rfl) (by rfl) (.tmp (by rfl) (.const (by rfl) .nil)) ((by have h := val_ok 32 (by decide) _ _ _ _ hrd; rwa [hr] at h))) rfl (by dsimp only [zS, zN, zH, zT]) ?_
   refine zst (op_alloc (Zr26) (by rfl)) rfl (by dsimp only [zS, zN, zH, zT]) ?_
   refine zst (op_storeV (b' := ⟨26, (vC v).map .d, false⟩) v Sz26 (by rfl) push_at (by rfl) (Nat.le_of_ble_eq_true rfl) (by rfl) (by rw [vC_eq]; rfl)) rfl (by dsimp only [zS, zN, zH, zT]) ?_
   refine al_end rfl ?_
   have hq := lt_nb hrd.q
   apply cut_to [false, false, true, true, true, true, false, false, false, false, false, false, false, false, false, false, false, false, false, false, false, false, false, false, false, false, false, false, false, false, false, false, false, false, false, false]
   · (try dsimp only [maskT]); try exact rfl
   · rfl
   exact ⟨_, rfl, ((hrd.stH st).push).far (by rw [stH_nb]; omega) (by rw [stH_nb]; omega), by rw [setB_ne (by rw [stH_nb]; omega)]; exact push_ne (stH_ne (by omega) (by omega) hb0), (((Ext.stH hx5 (by omega) (by omega)).push _ _).setB (by rw [stH_nb]; omega)), setB_at push_at⟩
  rintro T H ⟨id5, rfl, hrd, hb0, hx5, hb5⟩
  refine aw_seq ?_
  refine aw_block ?_
  refine aw_seq ?_
  refine aw_region ?_
  refine zst (op_move_tmp (by rfl)) rfl (by dsimp only [zS, zN, zH, zT]) ?_
  refine zst (by first | exact op_nilCheck_ptr (by rfl) | exact op_nilCheck_elt (by rfl)) rfl (by dsimp only [zS, zN, zH, zT]) ?_
  refine zst (by first | exact op_fieldAddr_ptr Try.underlying99 rfl Sz30 (by rfl) (by rfl) | exact op_fieldAddr_elt Try.underlying99 rfl Sz30 (by rfl) (by rfl) (by rfl)) rfl (by dsimp only [zS, zN, zH, zT]) ?_
  refine zst (by first | exact op_load_elt Try.underlying30 (by rfl) (by rfl) (by rfl) | exact op_load_ptr Try.underlying30 (by rfl) (by rfl) (by first | exact hPhi | exact hrd.q) (by rfl)) rfl (by dsimp only [zS, zN, zH, zT]) ?_
  refine zst (op_neI (by rfl) (by rfl)) rfl (by dsimp only [zS, zN, zH, zT]) ?_
  refine zst (op_assign_tmp (by rfl)) rfl (by dsimp only [zS, zN, zH, zT]) ?_
  refine al_end rfl ?_
  refine then_normal ?_
  refine aw_cond rfl (fun hc2 => ?_) (fun hc2 => ?_)
  ·
   (try simp only [y1, y2, y3, y4, y5, y6, y7, y8, y9, y0, List.length_map] at hc2)
   have hne : ¬ st.2 = 0 := hc2
   have ed : decV s = (V0, st.2) := by simp [decV, hlong, hr, hne]
   refine aw_seq ?_
   refine aw_drawX (fun K => K.blks[Hs.nb + 2]? = some (VB 99 (Hs.nb + 1) st.2)) [0, 0, 0, 0, 0, 2, 0] mixed (by kernel_rfl) (hrd.q) (.inr (by kernel_rfl)) ?_
   apply drun0X
   · intro H hPhi; exact op_build (pl := [(0, 1), (1, 1), (2, 1), (3, 1), (4, 1), (5, 1)]) Try.underlying26 Zr26 (by kernel_rfl) (by rfl) (by rfl) (by rfl)
   · rfl
   apply drun_normT
   · (try dsimp only [zS, zN, zH, zT]); try exact rfl
   apply drun0X
   · intro H hPhi; exact op_move_tmp (by rfl)
   · rfl
   apply drun_normT
   · (try dsimp only [zS, zN, zH, zT]); try exact rfl
   apply drun0X
   · intro H hPhi; first | exact op_nilCheck_ptr (by rfl) | exact op_nilCheck_elt (by rfl)
   · rfl
   apply drun_normT
   · (try dsimp only [zS, zN, zH, zT]); try exact rfl
   apply drun0X
   · intro H hPhi; first | exact op_fieldAddr_ptr Try.underlying99 rfl Sz30 (by rfl) (by rfl) | exact op_fieldAddr_elt Try.underlying99 rfl Sz30 (by rfl) (by rfl) (by rfl)
   · rfl
   apply drun_normT
   · (try dsimp only [zS, zN, zH, zT]); try exact rfl
   apply drun0X
   · intro H hPhi; first | exact op_load_elt Try.underlying30 (by rfl) (by rfl) (by rfl) | exact op_load_ptr Try.underlying30 (by rfl) (by rfl) (by first | exact hPhi | exact hrd.q) (by rfl)
   · rfl
   apply drun_normT
   · (try dsimp only [zS, zN, zH, zT]); try exact rfl
   apply drun2X
   · exact op_storeB (vs := (vs6 0 false 0 [] nilS nilS)) (b' := (vBlk 26 0 false 0 [] nilS nilS)) (H' := _) Sz26 (by rfl) hb0 (by intro h; cases h) (by rfl) (by rfl) (Nat.le_of_ble_eq_true rfl) (by simp [AV.one, DV.one, TF, S, I, BY]) (by rfl) (by rfl) rfl
   · rfl
   · refine .inr ?_; rw [setB_ne (by omega)]; exact hrd.q
   apply drun_normT
   · (try dsimp only [zS, zN, zH, zT]); try exact rfl
   apply drun0X
   · intro H hPhi; exact op_assign_tmp (by rfl)
   · rfl
   apply drun_normT
   · (try dsimp only [zS, zN, zH, zT]); try exact rfl
   refine drun_end rfl ?_
   refine then_normal ?_
   refine aw_ret ?_
   refine inBlock_ret (then_ret ?_)
   refine retC2 rfl (.cells Try.underlying26 (by rfl) Sz26 (by rfl) (setB_at hb0) (Nat.le_of_ble_eq_true rfl) (by rfl)) (.tmp (by rfl)) ?_
   exact ⟨_, by (rw [ed]) <;> rfl, by rw [ed]; exact Weak.aggD (weak6 weak_nilL weak_nilF) (vC_one V0), hx5.setB (Nat.le_refl _)⟩
  ·
   (try simp only [y1, y2, y3, y4, y5, y6, y7, y8, y9, y0, List.length_map] at hc2)
   have heq : st.2 = 0 := by simpa using hc2
   refine aw_seq ?_
   refine aw_region ?_
   refine zst (op_move_tmp (by rfl)) rfl (by dsimp only [zS, zN, zH, zT]) ?_
   refine zst (by first | exact op_nilCheck_ptr (by rfl) | exact op_nilCheck_elt (by rfl)) rfl (by dsimp only [zS, zN, zH, zT]) ?_
   refine zst (by first | exact op_fieldAddr_ptr Try.underlying99 rfl Sz56 (by rfl) (by rfl) | exact op_fieldAddr_elt Try.underlying99 rfl Sz56 (by rfl) (by rfl) (by rfl)) rfl (by dsimp only [zS, zN, zH, zT]) ?_
   refine zst (by first | exact op_load_elt Try.underlying56 (by rfl) (by rfl) (by rfl) | exact op_load_ptr Try.underlying56 (by rfl) (by rfl) (by first | exact hPhi | exact hrd.q) (by rfl)) rfl (by dsimp only [zS, zN, zH, zT]) ?_
   refine zst (op_callF Try.func26 (by rfl) (by rfl) (.tmp (by rfl) .nil) (end_ok _ _ _ _ hrd.r)) rfl (by dsimp only [zS, zN, zH, zT]) ?_
   refine zst (op_neI (by rfl) (by rfl)) rfl (by dsimp only [zS, zN, zH, zT]) ?_
   refine zst (op_assign_tmp (by rfl)) rfl (by dsimp only [zS, zN, zH, zT]) ?_
   refine al_end rfl ?_
   refine then_normal ?_
   refine aw_cond rfl (fun hc3 => ?_) (fun hc3 => ?_)
   ·
    (try simp only [y1, y2, y3, y4, y5, y6, y7, y8, y9, y0, List.length_map] at hc3)
    have hne : ¬ rEnd st.1 = 0 := hc3
    have ed : decV s = (V0, 2) := by simp [decV, hlong, hr, hne, heq]
    refine aw_seq ?_
    refine aw_region ?_
    refine zst (op_build (pl := [(0, 1), (1, 1), (2, 1), (3, 1), (4, 1), (5, 1)]) Try.underlying26 Zr26 (by kernel_rfl) (by rfl) (by rfl) (by rfl)) rfl (by dsimp only [zS, zN, zH, zT]) ?_
    refine zst (op_storeB (vs := (vs6 0 false 0 [] nilS nilS)) (b' := (vBlk 26 0 false 0 [] nilS nilS)) (H' := _) Sz26 (by rfl) hb0 (by intro h; cases h) (by rfl) (by rfl) (Nat.le_of_ble_eq_true rfl) (by simp [AV.one, DV.one, TF, S, I, BY]) (by rfl) (by rfl) rfl) rfl (by dsimp only [zS, zN, zH, zT]) ?_
    refine zst (op_assign_const (by rfl)) rfl (by dsimp only [zS, zN, zH, zT]) ?_
    refine al_end rfl ?_
    refine then_normal ?_
    refine aw_ret ?_
    refine inBlock_ret (then_ret ?_)
    refine retC2 rfl (.cells Try.underlying26 (by rfl) Sz26 (by rfl) (setB_at hb0) (Nat.le_of_ble_eq_true rfl) (by rfl)) (.tmp (by rfl)) ?_
    exact ⟨_, by (rw [ed]) <;> rfl, by rw [ed]; exact Weak.aggD (weak6 weak_nilL weak_nilF) (vC_one V0), hx5.setB (Nat.le_refl _)⟩
   ·
    (try simp only [y1, y2, y3, y4, y5, y6, y7, y8, y9, y0, List.length_map] at hc3)
    have heq2 : rEnd st.1 = 0 := by simpa using hc3
    have ed : decV s = (v, 0) := by simp [decV, hlong, hr, heq, heq2]
    refine aw_skip ?_
    refine inBlock_normal (then_normal ?_)
    refine aw_seq ?_
    refine aw_region ?_
    refine zst (op_load_ptrsD (vC v) Try.underlying26 (by rfl) Sz26 (by rfl) hb5 (by show 0 + 6 ≤ ((vC v).map AV.d).length; rw [List.length_map, vC_len]; exact Nat.le_refl _) (by show (((vC v).map AV.d).drop 0).take 6 = _; rw [List.drop_zero, List.take_of_length_le (by rw [List.length_map, vC_len]; exact Nat.le_refl _)]) (vC_one v)) rfl (by dsimp only [zS, zN, zH, zT]) ?_
    refine zst (op_storeV (b' := ⟨26, (vC v).map .d, false⟩) v Sz26 (by rfl) hb0 (by rfl) (Nat.le_of_ble_eq_true rfl) (by rfl) (by rw [vC_eq]; rfl)) rfl (by dsimp only [zS, zN, zH, zT]) ?_
    refine zst (op_assign_const (by rfl)) rfl (by dsimp only [zS, zN, zH, zT]) ?_
    refine al_end rfl ?_
    refine then_normal ?_
    refine aw_ret ?_
    refine retC2 rfl (.cells Try.underlying26 (by rfl) Sz26 (by rfl) (setB_at hb0) (by show 0 + 6 ≤ ((vC v).map AV.d).length; rw [List.length_map, vC_len]; exact Nat.le_refl _) (by rfl)) (.tmp (by rfl)) ?_
    exact ⟨_, by (rw [ed]) <;> rfl, by rw [ed]; exact weak_take v, hx5.setB (Nat.le_refl _)⟩
end Go.Proofs.Ytjamnhofbkgblaa
namespace Go.Proofs.Ytjamnhofbkgblaa
open Go.AV Go.AV.Ord Go.AV.Oct Go.AV.Val
set_option linter.unusedVariables false
set_option linter.unusedSimpArgs false
theorem vdec_at {Hs : HS} {v : V} {s : List UInt8} {e : Int} (hO : decV s = (v, e)) : ACalls Try.prog 39 [.d (S s)] Hs (Ret (.tup [.d (.agg (vC v)), .d (I e)]) Hs) := by
  have h := vdec_ok Hs s
  rwa [hO] at h
theorem dec_small {s : List UInt8} {v : V} {e : Int} (h : decV s = (v, e)) : SmallV v := by
  by_cases he : e = 0
  · have h1 := decV_ok (s := s) (by rw [h]; exact he)
    rw [h] at h1
    exact small_of 32 v h1.1 (by rw [h1.2.1]; omega)
  · have h1 := decV_err (s := s) (by rw [h]; exact he)
    rw [h] at h1
    rw [show v = V0 from h1.1]
    exact .mk _ _ _ _ _ _ (by decide) (by decide) (fun _ h => by cases h) (fun _ h => by cases h)
end Go.Proofs.Ytjamnhofbkgblaa
namespace Go.AV.Patch
open Go.AV.Ord Go.AV.Oct Go.AV.Val
def rStrs : Nat → RS → List (List UInt8) × RS
  | 0, st => ([], st)
  | n + 1, st => let r := rStrs n st; let x := rText 4096 r.2; (r.1 ++ [x.1], x.2)
theorem rStrs_len : ∀ (n : Nat) (st : RS), (rStrs n st).1.length = n
  | 0, _ => rfl
  | n + 1, st => by simp [rStrs, rStrs_len n st]
theorem rStrs_bad : ∀ (n : Nat) (s : List UInt8), (rStrs n (s, true)).2 = (s, true)
  | 0, _ => rfl
  | n + 1, s => by simp only [rStrs, rStrs_bad n s, rText_bad]
theorem rStrs_back : ∀ (n : Nat) {s s' : List UInt8} {ps : List (List UInt8)}, rStrs n (s, false) = (ps, (s', false)) → s = ps.flatMap textB ++ s' ∧ ∀ p ∈ ps, p.length ≤ 4096
  | 0, s, s', ps, h => by
    simp only [rStrs, Prod.mk.injEq] at h
    obtain ⟨rfl, rfl, _⟩ := h
    exact ⟨rfl, by simp⟩
  | n + 1, s, s', ps, h => by
    obtain ⟨qs, ⟨s1, b1⟩, h1⟩ : ∃ xs st, rStrs n (s, false) = (xs, st) := ⟨_, _, rfl⟩
    simp only [rStrs, h1] at h
    cases b1 with
    | true => rw [rText_bad] at h; cases h
    | false =>
      obtain ⟨x, st, h2⟩ : ∃ x st, rText 4096 (s1, false) = (x, st) := ⟨_, _, rfl⟩
      rw [h2] at h
      simp only [Prod.mk.injEq] at h
      obtain ⟨rfl, rfl⟩ := h
      obtain ⟨e1, e2⟩ := rStrs_back n h1
      obtain ⟨e3, e4⟩ := rText_back h2
      refine ⟨by rw [e1, e3]; simp, fun p hp => ?_⟩
      rcases List.mem_append.1 hp with hp | hp
      · exact e2 p hp
      · simp at hp; subst hp; omega
theorem rStrs_fwd (ps : List (List UInt8)) (hp : ∀ p ∈ ps, p.length ≤ 4096) (r : List UInt8) : ∀ j, j ≤ ps.length → rStrs j (ps.flatMap textB ++ r, false) = (ps.take j, ((ps.drop j).flatMap textB ++ r, false))
  | 0, _ => rfl
  | j + 1, h => by
    obtain ⟨p, hpj⟩ : ∃ p, ps[j]? = some p := ⟨_, List.getElem?_eq_getElem (by omega)⟩
    have hl := hp p (List.mem_of_getElem? hpj)
    simp only [rStrs, rStrs_fwd ps hp r j (by omega)]
    rw [drop_one hpj, List.flatMap_cons, List.append_assoc, rText_fwd _ (by decide) (by omega), take_snoc hpj]
def rOp (st : RS) : (Opn × RS) × Bool :=
  let k := rNum 3 st
  let m := rNum 16 k.2
  let ps := rStrs m.1 m.2
  let t := rText 4096 ps.2
  let v := decV t.1
  ((⟨k.1, ps.1, v.1⟩, t.2), rErr t.2 == 0 && v.2 == 0 && rightO ⟨k.1, ps.1, v.1⟩)
structure OkO (o : Opn) : Prop where
  ok : okP o = true
  wf : WfV o.val
  ps : ∀ p ∈ o.path, p.length ≤ 4096
theorem rErr_zero {st : RS} (h : rErr st = 0) : st.2 = false := by
  unfold rErr at h
  cases hb : st.2 with
  | false => rfl
  | true => rw [hb] at h; cases h
theorem rOp_back {s s' : List UInt8} {b : Bool} {o : Opn} (h : rOp (s, false) = ((o, (s', b)), true)) : b = false ∧ s = opB o ++ s' ∧ OkO o := by
  obtain ⟨k, ⟨s1, b1⟩, h1⟩ : ∃ x st, rNum 3 (s, false) = (x, st) := ⟨_, _, rfl⟩
  obtain ⟨m, ⟨s2, b2⟩, h2⟩ : ∃ x st, rNum 16 (s1, b1) = (x, st) := ⟨_, _, rfl⟩
  obtain ⟨ps, ⟨s3, b3⟩, h3⟩ : ∃ x st, rStrs m (s2, b2) = (x, st) := ⟨_, _, rfl⟩
  obtain ⟨t, ⟨s4, b4⟩, h4⟩ : ∃ x st, rText 4096 (s3, b3) = (x, st) := ⟨_, _, rfl⟩
  have hl := rStrs_len m (s2, b2)
  rw [h3] at hl
  simp only at hl
  simp only [rOp, h1, h2, h3, h4, Prod.mk.injEq, Bool.and_eq_true, beq_iff_eq] at h
  obtain ⟨⟨rfl, rfl, rfl⟩, ⟨he, hv⟩, hr⟩ := h
  have hb4 : b4 = false := rErr_zero he
  subst hb4
  cases b3 with
  | true => rw [rText_bad] at h4; cases h4
  | false =>
    cases b2 with
    | true => have := rStrs_bad m s2; rw [h3] at this; cases this
    | false =>
      cases b1 with
      | true => rw [rNum_bad] at h2; cases h2
      | false =>
        obtain ⟨d1, d2, d3⟩ := decV_ok hv
        obtain ⟨p1, p2⟩ := rStrs_back m h3
        refine ⟨rfl, ?_, ⟨?_, decV_wf t, p2⟩⟩
        · rw [(rNum_back h1).1, (rNum_back h2).1, p1, (rText_back h4).1]
          simp [opB, d2, hl]
        · rw [okP, hr]
          have : (encO (decV t).1).2 = 0 := by
            unfold encO
            rw [if_pos d1, if_neg (by rw [d2]; omega)]
          rw [this]; rfl
theorem rOp_fwd {o : Opn} (h : OkO o) (r : List UInt8) : rOp (opB o ++ r, false) = ((o, (r, false)), true) := by
  obtain ⟨hok, hw, hps⟩ := h
  obtain ⟨hr, hrv, h40, _⟩ := okP_parts hok
  have hr2 := hr
  rw [rightO_eq] at hr2
  simp only [Bool.and_eq_true, decide_eq_true_eq] at hr2
  obtain ⟨⟨⟨⟨⟨⟨k1, k3⟩, p0⟩, p16⟩, _⟩, _⟩, _⟩ := hr2
  have e1 : rNum 3 (opB o ++ r, false) = (o.kind.toNat, (numB o.path.length ++ (o.path.flatMap textB ++ (textB (encV o.val) ++ r)), false)) := by
    rw [show opB o ++ r = numB o.kind.toNat ++ (numB o.path.length ++ (o.path.flatMap textB ++ (textB (encV o.val) ++ r))) by simp [opB]]
    exact rNum_fwd _ (Nat.le_trans (szN_4 (by omega)) (by decide)) (by omega)
  have e2 : rNum 16 (numB o.path.length ++ (o.path.flatMap textB ++ (textB (encV o.val) ++ r)), false) = (o.path.length, (o.path.flatMap textB ++ (textB (encV o.val) ++ r), false)) := rNum_fwd _ (Nat.le_trans (szN_4 (by omega)) (by decide)) (by omega)
  have e3 := rStrs_fwd o.path hps (textB (encV o.val) ++ r) o.path.length (Nat.le_refl _)
  rw [List.take_length, List.drop_length, List.flatMap_nil, List.nil_append] at e3
  have e4 : rText 4096 (textB (encV o.val) ++ r, false) = (encV o.val, (r, false)) := rText_fwd _ (by decide) (by omega)
  have e5 := decV_enc hrv hw h40
  have e6 : ((o.kind.toNat : Nat) : Int) = o.kind := by omega
  simp only [rOp, e1, e2, e3, e4, e5, e6]
  rw [hr]; rfl
def rOps : Nat → RS → (List Opn × RS) × Bool
  | 0, st => (([], st), true)
  | n + 1, st => let r := rOps n st; if r.2 then let x := rOp r.1.2; ((r.1.1 ++ [x.1.1], x.1.2), x.2) else r
theorem rOps_len : ∀ (n : Nat) (st : RS), (rOps n st).2 = true → (rOps n st).1.1.length = n
  | 0, _, _ => rfl
  | n + 1, st, h => by
    simp only [rOps] at h ⊢
    split at h
    · rename_i h1
      rw [if_pos h1]
      simp [rOps_len n st h1]
    · rename_i h1; exact absurd h h1
theorem rOps_back : ∀ (n : Nat) {s s' : List UInt8} {b : Bool} {l : List Opn}, rOps n (s, false) = ((l, (s', b)), true) → b = false ∧ s = l.flatMap opB ++ s' ∧ l.length = n ∧ ∀ o ∈ l, OkO o
  | 0, s, s', b, l, h => by
    simp only [rOps, Prod.mk.injEq] at h
    obtain ⟨⟨rfl, rfl, rfl⟩, _⟩ := h
    exact ⟨rfl, rfl, rfl, by simp⟩
  | n + 1, s, s', b, l, h => by
    obtain ⟨⟨l1, ⟨s1, b1⟩⟩, g1, h1⟩ : ∃ r g, rOps n (s, false) = (r, g) := ⟨_, _, rfl⟩
    simp only [rOps, h1] at h
    cases g1 with
    | false => simp at h
    | true =>
      obtain ⟨rfl, e1, e2, e3⟩ := rOps_back n h1
      obtain ⟨⟨o, ⟨s2, b2⟩⟩, g2, h2⟩ : ∃ r g, rOp (s1, false) = (r, g) := ⟨_, _, rfl⟩
      simp only [h2, if_true, Prod.mk.injEq] at h
      obtain ⟨⟨rfl, rfl, rfl⟩, rfl⟩ := h
      obtain ⟨rfl, e4, e5⟩ := rOp_back h2
      refine ⟨rfl, by rw [e1, e4]; simp, by simp [e2], fun x hx => ?_⟩
      rcases List.mem_append.1 hx with hx | hx
      · exact e3 x hx
      · simp at hx; subst hx; exact e5
theorem rOps_fwd (l : List Opn) (h : ∀ o ∈ l, OkO o) (r : List UInt8) : ∀ j, j ≤ l.length → rOps j (l.flatMap opB ++ r, false) = ((l.take j, ((l.drop j).flatMap opB ++ r, false)), true)
  | 0, _ => rfl
  | j + 1, hj => by
    obtain ⟨o, ho⟩ : ∃ p, l[j]? = some p := ⟨_, List.getElem?_eq_getElem (by omega)⟩
    simp only [rOps, rOps_fwd l h r j (by omega), if_true]
    rw [drop_one ho, List.flatMap_cons, List.append_assoc, rOp_fwd (h o (List.mem_of_getElem? ho)), take_snoc ho]
def decP (s : List UInt8) : (List Opn × Int) × RS :=
  let q := rNum 50 (s, false)
  let r := rOps q.1 q.2
  if r.2 then ((r.1.1, rErr r.1.2), r.1.2) else (([], 2), r.1.2)
theorem decP_fwd (l : List Opn) (h50 : l.length ≤ 50) (h : ∀ o ∈ l, OkO o) (r : List UInt8) : decP (numB l.length ++ l.flatMap opB ++ r) = ((l, 0), (r, false)) := by
  have e1 : rNum 50 (numB l.length ++ l.flatMap opB ++ r, false) = (l.length, (l.flatMap opB ++ r, false)) := by
    rw [List.append_assoc]
    exact rNum_fwd _ (Nat.le_trans (szN_4 (by omega)) (by decide)) (by omega)
  have e2 := rOps_fwd l h r l.length (Nat.le_refl _)
  rw [List.take_length, List.drop_length, List.flatMap_nil, List.nil_append] at e2
  simp only [decP, e1, e2, if_true]
  rfl
theorem decP_cut {l : List Opn} (h50 : l.length ≤ 50) (h : ∀ o ∈ l, OkO o) {c : Nat} (hc : c < (encJ l l.length).length) : (decP ((encJ l l.length).take c)).1 = ([], 2) := by
  have hs : encJ l l.length = numB l.length ++ l.flatMap opB := by simp [encJ]
  have hfull := decP_fwd l h50 h []
  rw [List.append_nil, ← hs] at hfull
  obtain ⟨s, e⟩ : ∃ s, encJ l l.length = s := ⟨_, rfl⟩
  rw [e] at hc hfull ⊢
  obtain ⟨q, ⟨s1, b1⟩, h1⟩ : ∃ x st, rNum 50 (s.take c, false) = (x, st) := ⟨_, _, rfl⟩
  obtain ⟨⟨l2, ⟨s2, b2⟩⟩, g, h2⟩ : ∃ r g, rOps q (s1, b1) = (r, g) := ⟨_, _, rfl⟩
  simp only [decP, h1, h2]
  cases g with
  | false => rfl
  | true =>
    simp only [if_true]
    cases b1 with
    | true =>
      have hq : q = 0 := by
        simp only [rNum, Bool.false_eq_true, if_false] at h1
        split at h1
        · cases h1; rfl
        · split at h1 <;> cases h1
          rfl
      subst hq
      simp only [rOps, Prod.mk.injEq] at h2
      obtain ⟨⟨rfl, rfl, rfl⟩, _⟩ := h2
      rfl
    | false =>
      exfalso
      obtain ⟨e1, e2⟩ := rNum_back h1
      obtain ⟨rfl, e3, e4, e5⟩ := rOps_back q h2
      have hq : q ≤ 50 := by omega
      have hcat : s = numB l2.length ++ l2.flatMap opB ++ (s2 ++ s.drop c) := by
        conv => lhs; rw [← List.take_append_drop c s, e1, e3]
        rw [e4]; simp
      have h3 := decP_fwd l2 (by omega) e5 (s2 ++ s.drop c)
      rw [← hcat, hfull] at h3
      have h4 : s2 ++ s.drop c = [] := (congrArg (fun x => x.2.1) h3).symm
      have h5 := congrArg List.length h4
      simp at h5
      omega
end Go.AV.Patch
namespace Go.AV
open Go.AV.Ord Go.AV.Oct
theorem HS.ok_up_ne {H : HS} {t t' : Option Nat} {n m k : Nat} (h : H.ok t n) (hne : ∀ i, t = some i → t' ≠ some i) (_ : H.ok t' k) : (H.up t' m).ok t n := by
  intro i hi
  have h1 := h i hi
  cases t' with
  | none =>
    simp only [HS.up]
    rw [List.getElem?_append_left (List.getElem?_eq_some_iff.1 h1).1]
    exact h1
  | some j =>
    have hj : j ≠ i := fun e => hne i hi (by rw [e])
    simp only [HS.up]
    rw [List.getElem?_set_ne hj]
    exact h1
theorem ACalls.tidyR {P : Program} {f : FuncId} {args : List AV} {H : HS} {i : Nat} {b : HB} {xs : List DV} (hb : ∀ v ∈ b.cs, Fits H.blks.length H.toks.length v)
    (h : ACalls P f args H fun av H' => av = .tup (xs.map .d) ∧ Ext (H.setB i b) H') : ACalls P f args H (Ret (.tup (xs.map .d)) (H.setB i b)) := by
  refine ACalls.tidyB (h.mono fun av H' ⟨h1, h2⟩ => ?_)
  refine ⟨H.setB i b, by rw [h1]; exact .tup _ fun j hj => by rw [List.getElem_map]; exact .d _, by simp [HS.setB], rfl, fun k b' hk j hj => ?_, h2, h1, rfl⟩
  by_cases hik : k = i
  · subst hik
    by_cases hlt : k < H.blks.length
    · have : (H.setB k b).blks[k]? = some b := by simp [HS.setB, hlt]
      rw [this] at hk
      cases hk
      exact .inr (hb _ (List.getElem_mem hj))
    · have : (H.setB k b).blks[k]? = none := by simp [HS.setB]; omega
      rw [this] at hk; cases hk
  · rw [setB_ne hik] at hk
    exact .inl hk
end Go.AV
namespace Go.AV.Patch
open Go.AV.Ord Go.AV.Oct Go.AV.Val
structure PD (Hs H : HS) (tR : TypeId) (rid : Nat) (w : AV) (t : Option Nat) (l : List Opn) (st : RS) : Prop where
  lt : rid < Hs.nb
  r : H.blks[rid]? = some (RB tR st)
  app : App w t 8 (l.map oD)
  ok : H.ok t l.length
  new : NewTok Hs t
  x : Ext (Hs.setB rid (RB tR st)) H
theorem PD.nb {Hs H : HS} {tR : TypeId} {rid : Nat} {w : AV} {t : Option Nat} {l : List Opn} {st : RS} (h : PD Hs H tR rid w t l st) : Hs.nb ≤ H.nb := by
  have := nb_le h.x
  rwa [setB_nb] at this
theorem PD.read {Hs H : HS} {tR : TypeId} {rid : Nat} {w : AV} {t : Option Nat} {l : List Opn} {st : RS} (h : PD Hs H tR rid w t l st) (st' : RS) : PD Hs (H.setB rid (RB tR st')) tR rid w t l st' := by
  have hx := h.x.under (b := RB tR st') (i := rid) (by rw [setB_nb]; exact h.lt)
  rw [setB_setB] at hx
  exact ⟨h.lt, setB_at h.r, h.app, h.ok, h.new, hx⟩
theorem PD.far {Hs H : HS} {tR : TypeId} {rid q : Nat} {w : AV} {t : Option Nat} {l : List Opn} {st : RS} {b : HB} (h : PD Hs H tR rid w t l st) (hq : Hs.nb ≤ q) : PD Hs (H.setB q b) tR rid w t l st :=
  ⟨h.lt, by rw [setB_ne (by have := h.lt; omega)]; exact h.r, h.app, h.ok, h.new, h.x.setB (by rw [setB_nb]; exact hq)⟩
theorem PD.push {Hs H : HS} {tR e : TypeId} {rid : Nat} {w : AV} {t : Option Nat} {l : List Opn} {st : RS} {cs : List AV} (h : PD Hs H tR rid w t l st) : PD Hs (H.push e cs) tR rid w t l st :=
  ⟨h.lt, push_ne h.r, h.app, h.ok, h.new, h.x.push _ _⟩
theorem PD.more {Hs H : HS} {tR : TypeId} {rid m : Nat} {w : AV} {t : Option Nat} {l : List Opn} {st : RS} (h : PD Hs H tR rid w t l st) (o : Opn) (hm : m = l.length + 1) : PD Hs (H.up t m) tR rid (.own (some (H.tk t)) 8 (l.map oD ++ [oD o])) (some (H.tk t)) (l ++ [o]) st := by
  subst hm
  have h1 := h.x.upN (n := l.length + 1) (show NewTok (Hs.setB rid (RB tR st)) t from h.new) h.ok
  refine ⟨h.lt, by rw [HS.up_blks]; exact h.r, by rw [List.map_append]; exact App.own _ _ _, ?_, h1.2, h1.1⟩
  have := HS.ok_up H t (l.length + 1) h.ok
  rwa [List.length_append]
abbrev opBl (tO : TypeId) (k : Int) (v : AV) : HB := ⟨tO, [.d (I k), v, .d (I 0), .d (TF false), .d (.v (.int .i64 0)), .d (S []), nilS, nilS], false⟩
structure PI (Hs H : HS) (tR tO : TypeId) (rid q : Nat) (w : AV) (t : Option Nat) (l : List Opn) (st : RS) (k : Int) (v : AV) (t5 : Option Nat) (ps : List (List UInt8)) : Prop where
  d : PD Hs H tR rid w t l st
  hq : Hs.nb ≤ q
  b5 : H.blks[q]? = some (opBl tO k v)
  app5 : App v t5 1 (ps.map S)
  ok5 : H.ok t5 ps.length
  new5 : NewTok Hs t5
  ne : ∀ i, t = some i → t5 ≠ some i
theorem PI.start {Hs H : HS} {tR tO : TypeId} {rid : Nat} {w : AV} {t : Option Nat} {l : List Opn} {st : RS} {cs : List AV} (h : PD Hs H tR rid w t l st) (k : Int) (hcs : cs.length = 8) : PI Hs ((H.push tO cs).setB H.nb (opBl tO k nilS)) tR tO rid H.nb w t l st k nilS none [] :=
  ⟨h.push.far h.nb, h.nb, setB_at push_at, App.nil _, HS.ok_none _ _, NewTok.none _, fun i _ e => by cases e⟩
theorem PI.read {Hs H : HS} {tR tO : TypeId} {rid q : Nat} {w : AV} {t : Option Nat} {l : List Opn} {st : RS} {k : Int} {v : AV} {t5 : Option Nat} {ps : List (List UInt8)} (h : PI Hs H tR tO rid q w t l st k v t5 ps) (st' : RS) : PI Hs (H.setB rid (RB tR st')) tR tO rid q w t l st' k v t5 ps :=
  ⟨h.d.read st', h.hq, by rw [setB_ne (by have := h.d.lt; have := h.hq; omega)]; exact h.b5, h.app5, h.ok5, h.new5, h.ne⟩
theorem PI.step {Hs H : HS} {tR tO : TypeId} {rid q m : Nat} {w : AV} {t : Option Nat} {l : List Opn} {st : RS} {k : Int} {v : AV} {t5 : Option Nat} {ps : List (List UInt8)} (h : PI Hs H tR tO rid q w t l st k v t5 ps) (x : List UInt8) (hm : m = ps.length + 1) :
    PI Hs ((H.up t5 m).setB q (opBl tO k (.own (some (H.tk t5)) 1 (ps.map S ++ [S x])))) tR tO rid q w t l st k (.own (some (H.tk t5)) 1 (ps.map S ++ [S x])) (some (H.tk t5)) (ps ++ [x]) := by
  subst hm
  obtain ⟨hd, hq, b5, app5, ok5, new5, ne⟩ := h
  have h1 := hd.x.upN (n := ps.length + 1) (show NewTok (Hs.setB rid (RB tR st)) t5 from new5) ok5
  have hpd : PD Hs (H.up t5 (ps.length + 1)) tR rid w t l st := ⟨hd.lt, by rw [HS.up_blks]; exact hd.r, hd.app, HS.ok_up_ne hd.ok ne ok5, hd.new, h1.1⟩
  refine ⟨hpd.far hq, hq, setB_at (by rw [HS.up_blks]; exact b5), by rw [List.map_append]; exact App.own _ _ _, ?_, h1.2, fun i hi e => ?_⟩
  · have := HS.ok_up H t5 (ps.length + 1) ok5
    rw [List.length_append]
    exact this
  · cases e
    cases t5 with
    | some j => exact ne _ hi rfl
    | none =>
      have := hd.ok _ hi
      have := (List.getElem?_eq_some_iff.1 this).1
      simp [HS.tk] at this
theorem rOps_stay {st : RS} {k : Nat} (h : (rOps k st).2 = false) : ∀ m, k ≤ m → rOps m st = rOps k st := by
  intro m hm
  induction m with
  | zero => rw [show k = 0 by omega]
  | succ m ih =>
    by_cases hk : k = m + 1
    · rw [hk]
    · have := ih (by omega)
      simp only [rOps, this, h, Bool.false_eq_true, if_false]
theorem rOps_next {st st1 st2 : RS} {k : Nat} {l : List Opn} {o : Opn} {b : Bool} (h : rOps k st = ((l, st1), true)) (h2 : rOp st1 = ((o, st2), b)) : rOps (k + 1) st = ((l ++ [o], st2), b) := by
  simp only [rOps, h, if_true, h2]
theorem rStrs_next {st st1 st2 : RS} {k : Nat} {ps : List (List UInt8)} {x : List UInt8} (h : rStrs k st = (ps, st1)) (h2 : rText 4096 st1 = (x, st2)) : rStrs (k + 1) st = (ps ++ [x], st2) := by
  simp only [rStrs, h, h2]
theorem weak_opv {k : Int} {ps : List (List UInt8)} {v : AV} {x : V} (hv : LL v 1 (ps.map S)) : Weaks (((.d (I k) :: v :: (vC x).map .d).drop 0).take 8) ((oC ⟨k, ps, x⟩).map .d) := by
  rw [List.drop_zero, List.take_of_length_le (by simp [vC_len])]
  exact weak_op hv
theorem put_op {tO : TypeId} {k : Int} {v : AV} (x : V) : (⟨tO, putL (opBl tO k v).cs 2 ((vC x).map .d), false⟩ : HB) = ⟨tO, .d (I k) :: v :: (vC x).map .d, false⟩ := by
  rw [vC_eq]; rfl
theorem and16 (n : Int) : ∃ m : Nat, m ≤ 65535 ∧ IntKind.i64.wrap ((BitVec.ofInt IntKind.i64.bits n &&& BitVec.ofInt IntKind.i64.bits 65535).toNat : Int) = (m : Int) := by
  refine ⟨(BitVec.ofInt IntKind.i64.bits n).toNat % 65536, by omega, ?_⟩
  have e : (BitVec.ofInt IntKind.i64.bits 65535).toNat = 2 ^ 16 - 1 := by decide
  rw [BitVec.toNat_and, e, Nat.and_two_pow_sub_one_eq_mod, wrap_i64 ⟨by omega, by omega⟩]
theorem bytes_no {l : List Opn} {s : List UInt8} {e : Int} (hE : encP l = (s, e)) (h : (decide (l.length ≤ 50) && l.all rightO) = false) : s = [] ∧ ((50 < l.length ∧ e = 4) ∨ (¬ 50 < l.length ∧ e = 1)) := by
  unfold encP at hE
  by_cases h50 : 50 < l.length
  · rw [if_pos h50] at hE; cases hE; exact ⟨rfl, .inl ⟨h50, rfl⟩⟩
  · rw [if_neg h50] at hE
    have hr : l.all rightO = false := by simpa [show l.length ≤ 50 by omega] using h
    have hk : l.all okP = false := by
      rw [List.all_eq_false] at hr ⊢
      obtain ⟨x, hx, hr⟩ := hr
      exact ⟨x, hx, fun hk => hr (okP_parts hk).1⟩
    rw [hk] at hE
    cases hE
    exact ⟨rfl, .inr ⟨h50, rfl⟩⟩
theorem bytes_err {l : List Opn} {s : List UInt8} {e : Int} (hE : encP l = (s, e)) (h : (decide (l.length ≤ 50) && l.all rightO) = true) (he : ¬ e = 0) : s = [] ∧ e = 1 := by
  have h50 : ¬ 50 < l.length := by simp at h; omega
  unfold encP at hE
  rw [if_neg h50] at hE
  split at hE
  · cases hE; exact absurd rfl he
  · cases hE; exact ⟨rfl, rfl⟩
theorem bytes_ok {l : List Opn} {s : List UInt8} {e : Int} (hE : encP l = (s, e)) (h : (decide (l.length ≤ 50) && l.all rightO) = true) (he : e = 0) (hf : ∀ o ∈ l, fewP o = true) (hw : ∀ o ∈ l, WfV o.val) :
    0 < s.length ∧ decP s = ((l, 0), ([], false)) ∧ ∀ c, c < s.length → (decP (s.take c)).1 = ([], 2) := by
  have h50 : l.length ≤ 50 := by simp at h; omega
  unfold encP at hE
  rw [if_neg (by omega)] at hE
  split at hE
  · rename_i hk
    cases hE
    rw [List.all_eq_true] at hk
    have hok : ∀ o ∈ l, OkO o := fun o ho => ⟨hk o ho, hw o ho, fun p hp => by have := (fewP_parts (hf o ho)).2.2 p hp; omega⟩
    refine ⟨by simp [encJ, numB], ?_, fun c hc => decP_cut h50 hok hc⟩
    have := decP_fwd l h50 hok []
    rw [List.append_nil] at this
    rw [show encJ l l.length = numB l.length ++ l.flatMap opB by simp [encJ]]
    exact this
  · cases hE; exact absurd he (by decide)
end Go.AV.Patch
namespace Go.Proofs.Ytjamnhofbkgblaa
open Go.AV Go.AV.Ord Go.AV.Oct Go.AV.Val Go.AV.Patch
set_option linter.unusedVariables false
set_option linter.unusedSimpArgs false
theorem ptext_at {Hs : HS} {id : Nat} {s s1 x : List UInt8} {bad b1 : Bool} {most : Int} (hr : rText most (s, bad) = (x, (s1, b1))) (hb : Hs.blks[id]? = some (RB 76 (s, bad))) (hm : most ≤ 9223372036854775807) : ACalls Try.prog 38 [.ptr id 0, .d (I most)] Hs (Ret (.d (S x)) (Hs.setB id (RB 76 (s1, b1)))) := by
  have h := rtext_ok Hs id s bad most hb hm
  rwa [hr] at h
set_option maxHeartbeats 1000000 in
set_option maxRecDepth 100000 in
theorem pdec_ok (Hs : HS) (rid : Nat) (s : List UInt8) (hb : Hs.blks[rid]? = some (RB 76 (s, false))) : ACalls Try.prog 25 [.ptr rid 0] Hs (Ret (.tup [.d (.lst 8 ((decP s).1.1.map oD)), .d (I (decP s).1.2)]) (Hs.setB rid (RB 76 (decP s).2))) := by
 refine ACalls.tidyR (xs := [.lst 8 ((decP s).1.1.map oD), I (decP s).1.2]) (by intro v hv; simp at hv; rcases hv with rfl | rfl <;> exact .d _) ?_
 obtain ⟨q, ⟨s1, b1⟩, hq⟩ : ∃ n st, rNum 50 (s, false) = (n, st) := ⟨_, _, rfl⟩
 have hq50 := rNum_most hq
 have hdec : decP s = if (rOps q (s1, b1)).2 then (((rOps q (s1, b1)).1.1, rErr (rOps q (s1, b1)).1.2), (rOps q (s1, b1)).1.2) else (([], 2), (rOps q (s1, b1)).1.2) := by simp only [decP, hq]
 refine acalls_of_awCW Try.func25 rfl ?_
 refine aw_start (T' := [.ptr rid 0, .un, .un, .un, .un, .un, .un, .un, .un, .un, .un, .un, .un, .un, .un, .un, .un, .un, .un, .un, .un, .un, .un, .un, .un, .un, .un, .un, .un, .un, .un, .un, .un, .un, .un, .un, .un, .un, .un, .un, .un, .un, .un, .un, .un, .un, .un, .un, .un, .un, .un, .un, .un, .un, .un]) rfl ?_
 refine aw_seq ?_
 refine aw_region ?_
 refine zst (op_assign_const (by rfl)) rfl (by dsimp only [zS, zN, zH, zT]) ?_
 refine zst (op_assign_const (by rfl)) rfl (by dsimp only [zS, zN, zH, zT]) ?_
 refine al_end rfl ?_
 refine then_normal ?_
 refine aw_seq ?_
 refine aw_region ?_
 refine zst (op_assign_const (by rfl)) rfl (by dsimp only [zS, zN, zH, zT]) ?_
 refine al_end rfl ?_
 refine then_normal ?_
 refine aw_seq ?_
 refine aw_seq ?_
 refine aw_region ?_
 refine zst (op_move_tmp (by rfl)) rfl (by dsimp only [zS, zN, zH, zT]) ?_
 refine zst (op_callF Try.func37 (by rfl) (by rfl) (.tmp (by rfl) (.const (by rfl) .nil)) (num_at hq hb (by decide))) rfl (by dsimp only [zS, zN, zH, zT]) ?_
 refine zst (op_move_const (by rfl)) rfl (by dsimp only [zS, zN, zH, zT]) ?_
 refine al_end rfl ?_
 refine then_normal ?_
 refine aw_block ?_
 apply aw_loopF (fun n T H => ∃ (j : Nat) (w : AV) (t : Option Nat) (l : List Opn) (s2 : List UInt8) (b2 : Bool), T = [.ptr rid 0, .un, .un, .un, w, .un, .un, .un, .un, .d (I (q : Nat)), .d (I (j : Nat)), .un, .un, .un, .un, .un, .un, .un, .un, .un, .un, .un, .un, .un, .un, .un, .un, .un, .un, .un, .un, .un, .un, .un, .un, .un, .un, .un, .un, .un, .un, .un, .un, .un, .un, .un, .un, .un, .un, .un, .un, .un, .un, .un, .un] ∧ j ≤ q ∧ n = q - j ∧ rOps j (s1, b1) = ((l, (s2, b2)), true) ∧ PD Hs H 76 rid w t l (s2, b2)) (q) [true, false, false, false, true, false, false, false, false, true, true, false, false, false, false, false, false, false, false, false, false, false, false, false, false, false, false, false, false, false, false, false, false, false, false, false, false, false, false, false, false, false, false, false, false, false, false, false, false, false, false, false, false, false, false]
 · (try dsimp only [maskT]); try exact rfl
 · rfl
 · exact ⟨0, _, none, [], _, _, rfl, by omega, rfl, rfl, ⟨lt_nb hb, setB_at hb, App.nil _, HS.ok_none _ _, NewTok.none _, Ext.refl _⟩⟩
 rintro n T H ⟨j, w, t, l, s2, b2, rfl, hj, rfl, hr, hd⟩
 refine aw_seq ?_
 refine aw_region ?_
 refine zst (op_ltI (by rfl) (by rfl)) rfl (by dsimp only [zS, zN, zH, zT]) ?_
 refine al_end rfl ?_
 refine then_normal ?_
 refine aw_seq ?_
 refine aw_cond rfl (fun hc1 => ?_) (fun hc1 => ?_)
 ·
  (try simp only [y1, y2, y3, y4, y5, y6, y7, y8, y9, y0, List.length_map] at hc1)
  have hlt : j < q := by omega
  obtain ⟨k, ⟨s0, b0⟩, hk⟩ : ∃ n st, rNum 3 (s2, b2) = (n, st) := ⟨_, _, rfl⟩
  obtain ⟨m, ⟨sm, bm⟩, hm⟩ : ∃ n st, rNum 16 (s0, b0) = (n, st) := ⟨_, _, rfl⟩
  have hk3 := rNum_most hk
  have hm16 := rNum_most hm
  have hrl := rOps_len j (s1, b1) (by rw [hr])
  rw [hr] at hrl
  simp only at hrl
  refine aw_skip ?_
  refine then_normal ?_
  refine aw_seq ?_
  refine aw_block ?_
  refine aw_seq ?_
  refine aw_region ?_
  refine zst (op_move_tmp (by rfl)) rfl (by dsimp only [zS, zN, zH, zT]) ?_
  refine zst (op_callF Try.func37 (by rfl) (by rfl) (.tmp (by rfl) (.const (by rfl) .nil)) (num_at hk hd.r (by decide))) rfl (by dsimp only [zS, zN, zH, zT]) ?_
  refine zst (op_build (pl := [(0, 1), (1, 1), (2, 6)]) Try.underlying36 Zr36 (by kernel_rfl) (by rfl) (by rfl) (by rfl)) rfl (by dsimp only [zS, zN, zH, zT]) ?_
  refine zst (op_alloc (Zr36) (by rfl)) rfl (by dsimp only [zS, zN, zH, zT]) ?_
  refine zst (op_storeB (vs := (opBl 36 (k : Int) nilS).cs) (b' := opBl 36 (k : Int) nilS) (H' := _) Sz36 (by rfl) push_at (by intro h; cases h) (by rfl) (by rfl) (Nat.le_of_ble_eq_true rfl) (by simp [AV.one, DV.one, TF, S, I, BY]) (by rfl) (by rfl) rfl) rfl (by dsimp only [zS, zN, zH, zT]) ?_
  refine al_end rfl ?_
  refine then_normal ?_
  refine aw_seq ?_
  refine aw_seq ?_
  refine aw_region ?_
  refine zst (op_move_tmp (by rfl)) rfl (by dsimp only [zS, zN, zH, zT]) ?_
  refine zst (op_callF Try.func37 (by rfl) (by rfl) (.tmp (by rfl) (.const (by rfl) .nil)) (num_at hm (PI.start (hd.read (s0, b0)) (k : Int) (by rfl)).d.r (by decide))) rfl (by dsimp only [zS, zN, zH, zT]) ?_
  refine zst (op_move_const (by rfl)) rfl (by dsimp only [zS, zN, zH, zT]) ?_
  refine al_end rfl ?_
  refine then_normal ?_
  refine aw_block ?_
  apply aw_loopF (fun n T H => ∃ (i : Nat) (v : AV) (t5 : Option Nat) (ps : List (List UInt8)) (s3 : List UInt8) (b3 : Bool) (q5 : Nat), T = [.ptr rid 0, .un, .un, .un, w, .ptr q5 0, .un, .un, .un, .d (I (q : Nat)), .d (I (j : Nat)), .un, .un, .un, .un, .un, .d (I (m : Nat)), .d (I (i : Nat)), .un, .un, .un, .un, .un, .un, .un, .un, .un, .un, .un, .un, .un, .un, .un, .un, .un, .un, .un, .un, .un, .un, .un, .un, .un, .un, .un, .un, .un, .un, .un, .un, .un, .un, .un, .un, .un] ∧ i ≤ m ∧ n = m - i ∧ rStrs i (sm, bm) = (ps, (s3, b3)) ∧ PI Hs H 76 36 rid q5 w t l (s3, b3) (k : Int) v t5 ps) (m) [true, false, false, false, true, true, false, false, false, true, true, false, false, false, false, false, true, true, false, false, false, false, false, false, false, false, false, false, false, false, false, false, false, false, false, false, false, false, false, false, false, false, false, false, false, false, false, false, false, false, false, false, false, false, false]
  · (try dsimp only [maskT]); try exact rfl
  · rfl
  · exact ⟨0, _, _, _, _, _, _, rfl, by omega, rfl, rfl, (PI.start (hd.read (s0, b0)) (k : Int) (by rfl)).read _⟩
  rintro n T H ⟨i, v, t5, ps, s3, b3, q5, rfl, hi2, rfl, hps, hi⟩
  refine aw_seq ?_
  refine aw_region ?_
  refine zst (op_ltI (by rfl) (by rfl)) rfl (by dsimp only [zS, zN, zH, zT]) ?_
  refine al_end rfl ?_
  refine then_normal ?_
  refine aw_seq ?_
  refine aw_cond rfl (fun hc2 => ?_) (fun hc2 => ?_)
  ·
   (try simp only [y1, y2, y3, y4, y5, y6, y7, y8, y9, y0, List.length_map] at hc2)
   have hlt2 : i < m := by omega
   have hpl := rStrs_len i (sm, bm)
   rw [hps] at hpl
   simp only at hpl
   refine aw_skip ?_
   refine then_normal ?_
   refine aw_seq ?_
   refine aw_block ?_
   obtain ⟨x, ⟨s4, b4⟩, hx⟩ : ∃ x st, rText 4096 (s3, b3) = (x, st) := ⟨_, _, rfl⟩
   refine aw_drawX (fun K => K.blks[q5]? = some (opBl 36 (k : Int) v)) [0, 0, 0, 2, 0, 2, 0, 2] mixed (by kernel_rfl) (hi.b5) (.inr (by kernel_rfl)) ?_
   apply drun0X
   · intro H hPhi; first | exact op_fieldAddr_ptr Try.underlying36 rfl Sz34 (by rfl) (by rfl) | exact op_fieldAddr_elt Try.underlying36 rfl Sz34 (by rfl) (by rfl) (by rfl)
   · rfl
   apply drun_normT
   · (try dsimp only [zS, zN, zH, zT]); try exact rfl
   apply drun0X
   · intro H hPhi; exact op_load_ptr Try.underlying34 (by rfl) (by rfl) hPhi (by rfl)
   · rfl
   apply drun_normT
   · (try dsimp only [zS, zN, zH, zT]); try exact rfl
   apply drun0X
   · intro H hPhi; exact op_move_tmp (by rfl)
   · rfl
   apply drun_normT
   · (try dsimp only [zS, zN, zH, zT]); try exact rfl
   apply drun2X
   · exact op_callF Try.func38 (by rfl) (by rfl) (.tmp (by rfl) (.const (by rfl) .nil)) (ptext_at hx hi.d.r (by decide))
   · rfl
   · refine .inr ?_; first | exact (hi.read _).b5 | (rw [HS.up_blks]; exact (hi.read _).b5)
   apply drun_normT
   · (try dsimp only [zS, zN, zH, zT]); try exact rfl
   apply drun0X
   · intro H hPhi; exact op_lit Try.underlying34 ZS9 (.cons (y := S x) (by rfl) (.nil _)) (by rfl) (by simp [S, DV.cells]) (by simp [flat, S, DV.cells, DV.one]) (by decide)
   · rfl
   apply drun_normT
   · (try dsimp only [zS, zN, zH, zT]); try exact rfl
   apply drun2X
   · exact op_append Try.underlying34 Inf9 (by rfl) hi.app5 (.list _ _ _ _ Try.underlying34 (LL.own _ _ _)) (by rw [List.length_map]; exact hi.ok5) (by simp) (by simp; omega) (by simp; omega)
   · rfl
   · refine .inr ?_; first | exact (hi.read _).b5 | (rw [HS.up_blks]; exact (hi.read _).b5)
   apply drun_normT
   · (try dsimp only [zS, zN, zH, zT]); try exact rfl
   apply drun0X
   · intro H hPhi; first | exact op_fieldAddr_ptr Try.underlying36 rfl Sz34 (by rfl) (by rfl) | exact op_fieldAddr_elt Try.underlying36 rfl Sz34 (by rfl) (by rfl) (by rfl)
   · rfl
   apply drun_normT
   · (try dsimp only [zS, zN, zH, zT]); try exact rfl
   apply drun2X
   · exact op_storeB (vs := [.own _ 1 _]) (b' := opBl 36 (k : Int) (.own _ 1 _)) (H' := _) Sz34 (by rfl) (by rw [HS.up_blks]; exact (hi.read _).b5) (by intro h; cases h) (by rfl) (by rfl) (Nat.le_of_ble_eq_true rfl) (by simp [AV.one, DV.one]) (by rfl) (by rfl) rfl
   · rfl
   · exact .inl rfl
   apply drun_normT
   · (try dsimp only [zS, zN, zH, zT]); try exact rfl
   refine drun_end rfl ?_
   refine inBlock_normal (then_normal ?_)
   refine aw_region ?_
   refine zst (by first | exact op_add (by rfl) (by rfl) (wrap_i64 ⟨by omega, by omega⟩) | exact op_add (by rfl) (by rfl) (by rfl)) rfl (by dsimp only [zS, zN, zH, zT]) ?_
   refine zst (op_move_tmp (by rfl)) rfl (by dsimp only [zS, zN, zH, zT]) ?_
   refine al_end rfl ?_
   apply again_to (m - (i + 1)) [true, false, false, false, true, true, false, false, false, true, true, false, false, false, false, false, true, true, false, false, false, false, false, false, false, false, false, false, false, false, false, false, false, false, false, false, false, false, false, false, false, false, false, false, false, false, false, false, false, false, false, false, false, false, false]
   · (try dsimp only [maskT]); try exact rfl
   · rfl
   · omega
   exact ⟨i + 1, _, _, _, _, _, _, rfl, by omega, rfl, rStrs_next hps hx, (hi.read (s4, b4)).step x (by simp)⟩
  ·
   (try simp only [y1, y2, y3, y4, y5, y6, y7, y8, y9, y0, List.length_map] at hc2)
   have hie : m = i := by omega
   subst hie
   refine aw_exit ?_
   refine then_exit (again_exit (inBlock_here (then_normal ?_)))
   refine aw_seq ?_
   obtain ⟨tx, ⟨s4, b4⟩, hx⟩ : ∃ x st, rText 4096 (s3, b3) = (x, st) := ⟨_, _, rfl⟩
   obtain ⟨x, e, hv4⟩ : ∃ x e, decV tx = (x, e) := ⟨_, _, rfl⟩
   refine aw_region ?_
   refine zst (op_move_tmp (by rfl)) rfl (by dsimp only [zS, zN, zH, zT]) ?_
   refine zst (op_callF Try.func38 (by rfl) (by rfl) (.tmp (by rfl) (.const (by rfl) .nil)) (ptext_at hx hi.d.r (by decide))) rfl (by dsimp only [zS, zN, zH, zT]) ?_
   refine zst (op_callF Try.func39 (by rfl) (by rfl) (.tmp (by rfl) .nil) (vdec_at hv4)) rfl (by dsimp only [zS, zN, zH, zT]) ?_
   refine zst (op_move_tmp (by rfl)) rfl (by dsimp only [zS, zN, zH, zT]) ?_
   refine zst (op_extract (by rfl) (by rfl)) rfl (by dsimp only [zS, zN, zH, zT]) ?_
   refine zst (op_extract (by rfl) (by rfl)) rfl (by dsimp only [zS, zN, zH, zT]) ?_
   refine zst (op_alloc (Zr26) (by rfl)) rfl (by dsimp only [zS, zN, zH, zT]) ?_
   refine zst (op_stV x Sz26 (by rfl) push_at (by first | exact VBl.z _ | exact VBl.v _ _) (by rfl)) rfl (by dsimp only [zS, zN, zH, zT]) ?_
   refine zst (op_assign_tmp (by rfl)) rfl (by dsimp only [zS, zN, zH, zT]) ?_
   refine al_end rfl ?_
   refine then_normal ?_
   refine aw_seq ?_
   apply aw_cutF (fun T H => ∃ (k : Nat) (s4 : List UInt8) (b4 : Bool) (x : V) (e : Int) (v : AV) (q5 : Nat) (ps : List (List UInt8)), T = [.ptr rid 0, .un, .un, .un, w, .ptr q5 0, .un, .d (I e), .un, .d (I (q : Nat)), .d (I (j : Nat)), .un, .un, .un, .un, .un, .un, .un, .un, .un, .un, .un, .un, .un, .un, .un, .un, .un, .un, .un, .un, .un, .un, .un, .un, .un, .un, .un, .un, .un, .un, .un, .un, .un, .un, .un, .un, .un, .un, .un, .un, .un, .un, .un, .un] ∧ PD Hs H 76 rid w t l (s4, b4) ∧ H.blks[q5]? = some ⟨36, .d (I (k : Int)) :: v :: (vC x).map .d, false⟩ ∧ LL v 1 (ps.map S) ∧ rOp (s2, b2) = ((Opn.mk (k : Int) ps x, (s4, b4)), rErr (s4, b4) == 0 && e == 0 && rightO (Opn.mk (k : Int) ps x)) ∧ SmallV x ∧ l.length = j)
   ·
    refine aw_region ?_
    refine zst (op_ldV x Try.underlying26 (by rfl) Sz26 (by rfl) (setB_at push_at) (by first | exact VBl.v _ _ | exact VBl.z _)) rfl (by dsimp only [zS, zN, zH, zT]) ?_
    refine zst (by first | exact op_fieldAddr_ptr Try.underlying36 rfl Sz26 (by rfl) (by rfl) | exact op_fieldAddr_elt Try.underlying36 rfl Sz26 (by rfl) (by rfl) (by rfl)) rfl (by dsimp only [zS, zN, zH, zT]) ?_
    refine zst (op_storeV (b' := ⟨36, .d (I (k : Int)) :: v :: (vC x).map .d, false⟩) x Sz26 (by rfl) (by rw [setB_ne (by have := lt_nb (hi.read (s4, b4)).b5; omega)]; exact push_ne (hi.read _).b5) (by rfl) (Nat.le_of_ble_eq_true rfl) (by rfl) (put_op x)) rfl (by dsimp only [zS, zN, zH, zT]) ?_
    refine al_end rfl ?_
    apply cut_to [true, false, false, false, true, true, false, true, false, true, true, false, false, false, false, false, false, false, false, false, false, false, false, false, false, false, false, false, false, false, false, false, false, false, false, false, false, false, false, false, false, false, false, false, false, false, false, false, false, false, false, false, false, false, false]
    · (try dsimp only [maskT]); try exact rfl
    · rfl
    exact ⟨_, _, _, _, _, _, _, _, rfl, ((hi.read _).d.push.far (by have := (hi.read (s4, b4)).d.nb; omega)).far hi.hq, setB_at (by rw [setB_ne (by have := lt_nb (hi.read (s4, b4)).b5; omega)]; exact push_ne (hi.read _).b5), hi.app5.ll, by simp only [rOp, hk, hm, hps, hx, hv4], dec_small hv4, hrl⟩
   rintro T H ⟨k, s4, b4, x, e, v, q5, ps, rfl, hd, hb5, hv, hop, hsx, hll⟩
   refine aw_seq ?_
   refine aw_region ?_
   refine zst (op_move_tmp (by rfl)) rfl (by dsimp only [zS, zN, zH, zT]) ?_
   refine zst (op_callF Try.func40 (by rfl) (by rfl) (.tmp (by rfl) .nil) (err_ok _ rid s4 b4 hd.r)) rfl (by dsimp only [zS, zN, zH, zT]) ?_
   refine zst (op_neI (by rfl) (by rfl)) rfl (by dsimp only [zS, zN, zH, zT]) ?_
   refine zst (op_move_tmp (by rfl)) rfl (by dsimp only [zS, zN, zH, zT]) ?_
   refine al_split 38 rfl (fun hg3 => ?_) (fun hg3 => ?_)
   ·
    (try simp only [y1, y2, y3, y4, y5, y6, y7, y8, y9, y0, List.length_map] at hg3)
    apply al_normT
    · (try dsimp only [zS, zN, zH, zT]); try exact rfl
    refine zuw rfl rfl rfl rfl (by dsimp only [zS, zN, zH, zT]) ?_
    refine zuw rfl rfl rfl rfl (by dsimp only [zS, zN, zH, zT]) ?_
    refine zst (op_pick_tt (by rfl) (val_const (by rfl))) rfl (by dsimp only [zS, zN, zH, zT]) ?_
    refine zst (op_move_tmp (by rfl)) rfl (by dsimp only [zS, zN, zH, zT]) ?_
    refine zuw rfl rfl rfl rfl (by dsimp only [zS, zN, zH, zT]) ?_
    refine zuw rfl rfl rfl rfl (by dsimp only [zS, zN, zH, zT]) ?_
    refine zuw rfl rfl rfl rfl (by dsimp only [zS, zN, zH, zT]) ?_
    refine zst (op_pick_tt (by rfl) (val_const (by rfl))) rfl (by dsimp only [zS, zN, zH, zT]) ?_
    refine al_end rfl ?_
    refine then_normal ?_
    refine aw_cond rfl (fun _ => ?_) (fun h => by cases h)
    refine aw_seq ?_
    have hbad : (rErr (s4, b4) == 0 && e == 0 && rightO (Opn.mk (k : Int) ps x)) = false := by (first | simp_all | (simp; intro h1 h2; simp_all))
    rw [hbad] at hop
    have hst := rOps_stay (k := j + 1) (st := (s1, b1)) (by rw [rOps_next hr hop]) q (by omega)
    rw [hst, rOps_next hr hop] at hdec
    refine aw_region ?_
    refine zst (op_assign_const (by rfl)) rfl (by dsimp only [zS, zN, zH, zT]) ?_
    refine zst (op_assign_const (by rfl)) rfl (by dsimp only [zS, zN, zH, zT]) ?_
    refine al_end rfl ?_
    refine then_normal ?_
    refine aw_ret ?_
    refine then_ret (inBlock_ret (then_ret (again_ret (inBlock_ret (then_ret ?_)))))
    refine retD2 rfl (.tmpW (.lst 8 []) (by rfl) (Weak.nil 8)) (.tmp (by rfl)) ?_
    exact ⟨by rw [hdec]; rfl, by rw [hdec]; exact hd.x⟩
   ·
    (try simp only [y1, y2, y3, y4, y5, y6, y7, y8, y9, y0, List.length_map] at hg3)
    apply al_normT
    · (try dsimp only [zS, zN, zH, zT]); try exact rfl
    refine zsw rfl rfl rfl (op_move_tmp (by rfl)) (by dsimp only [zS, zN, zH, zT]) ?_
    refine zsw rfl rfl rfl (op_neI (by rfl) (by rfl)) (by dsimp only [zS, zN, zH, zT]) ?_
    refine zst (op_pick_ff (by rfl) (val_tmp (by rfl))) rfl (by dsimp only [zS, zN, zH, zT]) ?_
    refine zst (op_move_tmp (by rfl)) rfl (by dsimp only [zS, zN, zH, zT]) ?_
    refine al_split 42 rfl (fun hg5 => ?_) (fun hg5 => ?_)
    ·
     (try simp only [y1, y2, y3, y4, y5, y6, y7, y8, y9, y0, List.length_map] at hg5)
     apply al_normT
     · (try dsimp only [zS, zN, zH, zT]); try exact rfl
     refine zuw rfl rfl rfl rfl (by dsimp only [zS, zN, zH, zT]) ?_
     refine zuw rfl rfl rfl rfl (by dsimp only [zS, zN, zH, zT]) ?_
     refine zuw rfl rfl rfl rfl (by dsimp only [zS, zN, zH, zT]) ?_
     refine zst (op_pick_tt (by rfl) (val_const (by rfl))) rfl (by dsimp only [zS, zN, zH, zT]) ?_
     refine al_end rfl ?_
     refine then_normal ?_
     refine aw_cond rfl (fun _ => ?_) (fun h => by cases h)
     refine aw_seq ?_
     have hbad : (rErr (s4, b4) == 0 && e == 0 && rightO (Opn.mk (k : Int) ps x)) = false := by (first | simp_all | (simp; intro h1 h2; simp_all))
     rw [hbad] at hop
     have hst := rOps_stay (k := j + 1) (st := (s1, b1)) (by rw [rOps_next hr hop]) q (by omega)
     rw [hst, rOps_next hr hop] at hdec
     refine aw_region ?_
     refine zst (op_assign_const (by rfl)) rfl (by dsimp only [zS, zN, zH, zT]) ?_
     refine zst (op_assign_const (by rfl)) rfl (by dsimp only [zS, zN, zH, zT]) ?_
     refine al_end rfl ?_
     refine then_normal ?_
     refine aw_ret ?_
     refine then_ret (inBlock_ret (then_ret (again_ret (inBlock_ret (then_ret ?_)))))
     refine retD2 rfl (.tmpW (.lst 8 []) (by rfl) (Weak.nil 8)) (.tmp (by rfl)) ?_
     exact ⟨by rw [hdec]; rfl, by rw [hdec]; exact hd.x⟩
    ·
     (try simp only [y1, y2, y3, y4, y5, y6, y7, y8, y9, y0, List.length_map] at hg5)
     apply al_normT
     · (try dsimp only [zS, zN, zH, zT]); try exact rfl
     refine zsw rfl rfl rfl (op_load_ptrsW (off := 0) (oC (Opn.mk (k : Int) ps x)) Try.underlying36 (by rfl) Sz36 (by rfl) hb5 (by show 8 ≤ (AV.d (I (k : Int)) :: v :: (vC x).map AV.d).length; simp [vC_len]) (weak_opv hv) (oC_one _)) (by dsimp only [zS, zN, zH, zT]) ?_
     refine zsw rfl rfl rfl (op_callF Try.func20 (by rfl) (by rfl) (.tmp (by rfl) .nil) (oright_ok _ (Opn.mk (k : Int) ps x) hsx)) (by dsimp only [zS, zN, zH, zT]) ?_
     refine zsw rfl rfl rfl (op_not (by rfl)) (by dsimp only [zS, zN, zH, zT]) ?_
     refine zst (op_pick_ff (by rfl) (val_tmp (by rfl))) rfl (by dsimp only [zS, zN, zH, zT]) ?_
     refine al_end rfl ?_
     refine then_normal ?_
     refine aw_cond rfl (fun hc7 => ?_) (fun hc7 => ?_)
     ·
      (try simp only [y1, y2, y3, y4, y5, y6, y7, y8, y9, y0, List.length_map] at hc7)
      refine aw_seq ?_
      have hbad : (rErr (s4, b4) == 0 && e == 0 && rightO (Opn.mk (k : Int) ps x)) = false := by (first | simp_all | (simp; intro h1 h2; simp_all))
      rw [hbad] at hop
      have hst := rOps_stay (k := j + 1) (st := (s1, b1)) (by rw [rOps_next hr hop]) q (by omega)
      rw [hst, rOps_next hr hop] at hdec
      refine aw_region ?_
      refine zst (op_assign_const (by rfl)) rfl (by dsimp only [zS, zN, zH, zT]) ?_
      refine zst (op_assign_const (by rfl)) rfl (by dsimp only [zS, zN, zH, zT]) ?_
      refine al_end rfl ?_
      refine then_normal ?_
      refine aw_ret ?_
      refine then_ret (inBlock_ret (then_ret (again_ret (inBlock_ret (then_ret ?_)))))
      refine retD2 rfl (.tmpW (.lst 8 []) (by rfl) (Weak.nil 8)) (.tmp (by rfl)) ?_
      exact ⟨by rw [hdec]; rfl, by rw [hdec]; exact hd.x⟩
     ·
      (try simp only [y1, y2, y3, y4, y5, y6, y7, y8, y9, y0, List.length_map] at hc7)
      refine aw_skip ?_
      refine then_normal ?_
      have hgood : (rErr (s4, b4) == 0 && e == 0 && rightO (Opn.mk (k : Int) ps x)) = true := by simp_all
      rw [hgood] at hop
      refine aw_region ?_
      refine zst (op_move_tmp (by rfl)) rfl (by dsimp only [zS, zN, zH, zT]) ?_
      refine zst (op_load_ptrsW (off := 0) (oC (Opn.mk (k : Int) ps x)) Try.underlying36 (by rfl) Sz36 (by rfl) hb5 (by show 8 ≤ (AV.d (I (k : Int)) :: v :: (vC x).map AV.d).length; simp [vC_len]) (weak_opv hv) (oC_one _)) rfl (by dsimp only [zS, zN, zH, zT]) ?_
      refine zst (op_lit Try.underlying37 ZS36 (.cons (y := oD (Opn.mk (k : Int) ps x)) (by rfl) (.nil _)) (by rfl) (lit_o [(Opn.mk (k : Int) ps x)]) (lit_o1 [(Opn.mk (k : Int) ps x)]) (by decide)) rfl (by dsimp only [zS, zN, zH, zT]) ?_
      refine zst (op_append Try.underlying37 Inf36 (by rfl) hd.app (.list _ _ _ _ Try.underlying37 (LL.own _ _ _)) (by rw [List.length_map]; exact hd.ok) (by simp) (by simp; omega) (by simp; omega)) rfl (by dsimp only [zS, zN, zH, zT]) ?_
      refine zst (op_assign_tmp (by rfl)) rfl (by dsimp only [zS, zN, zH, zT]) ?_
      refine al_end rfl ?_
      refine inBlock_normal (then_normal ?_)
      refine aw_region ?_
      refine zst (by first | exact op_add (by rfl) (by rfl) (wrap_i64 ⟨by omega, by omega⟩) | exact op_add (by rfl) (by rfl) (by rfl)) rfl (by dsimp only [zS, zN, zH, zT]) ?_
      refine zst (op_move_tmp (by rfl)) rfl (by dsimp only [zS, zN, zH, zT]) ?_
      refine al_end rfl ?_
      apply again_to (q - (j + 1)) [true, false, false, false, true, false, false, false, false, true, true, false, false, false, false, false, false, false, false, false, false, false, false, false, false, false, false, false, false, false, false, false, false, false, false, false, false, false, false, false, false, false, false, false, false, false, false, false, false, false, false, false, false, false, false]
      · (try dsimp only [maskT]); try exact rfl
      · rfl
      · omega
      exact ⟨j + 1, _, _, _, _, _, rfl, by omega, rfl, rOps_next hr hop, hd.more _ (by simp)⟩
 ·
  (try simp only [y1, y2, y3, y4, y5, y6, y7, y8, y9, y0, List.length_map] at hc1)
  have hje : q = j := by omega
  subst hje
  rw [hr] at hdec
  simp only [if_true] at hdec
  refine aw_exit ?_
  refine then_exit (again_exit (inBlock_here (then_normal ?_)))
  refine aw_seq ?_
  refine aw_region ?_
  refine zst (op_move_tmp (by rfl)) rfl (by dsimp only [zS, zN, zH, zT]) ?_
  refine zst (op_move_tmp (by rfl)) rfl (by dsimp only [zS, zN, zH, zT]) ?_
  refine zst (op_callF Try.func40 (by rfl) (by rfl) (.tmp (by rfl) .nil) (err_ok _ rid s2 b2 hd.r)) rfl (by dsimp only [zS, zN, zH, zT]) ?_
  refine zst (op_assign_tmp (by rfl)) rfl (by dsimp only [zS, zN, zH, zT]) ?_
  refine zst (op_assign_tmp (by rfl)) rfl (by dsimp only [zS, zN, zH, zT]) ?_
  refine al_end rfl ?_
  refine then_normal ?_
  refine aw_ret ?_
  refine retD2 rfl (.tmpW (.lst 8 (l.map oD)) (by rfl) (Weak.lst hd.app)) (.tmp (by rfl)) ?_
  exact ⟨by rw [hdec]; rfl, by rw [hdec]; exact hd.x⟩
theorem pdec_at {Hs : HS} {rid : Nat} {s : List UInt8} {l : List Opn} {e : Int} {st : RS} (hD : decP s = ((l, e), st)) (hb : Hs.blks[rid]? = some (RB 76 (s, false))) : ACalls Try.prog 25 [.ptr rid 0] Hs (Ret (.tup [.d (.lst 8 (l.map oD)), .d (I e)]) (Hs.setB rid (RB 76 st))) := by
  have h := pdec_ok Hs rid s hb
  rwa [hD] at h
end Go.Proofs.Ytjamnhofbkgblaa
namespace Go.AV.Val
open Go.AV.Ord Go.AV.Oct
structure VTypes (P : Program) (tV tF tK tB tI tS tL tM : TypeId) : Prop where
  v : ∃ fs, P.underlying tV = some (.struct fs) ∧ (∃ f, fs[0]? = some f ∧ f.type = tK ∧ f.offset = 0) ∧ (∃ f, fs[1]? = some f ∧ f.type = tB ∧ f.offset = 1) ∧ (∃ f, fs[2]? = some f ∧ f.type = tI ∧ f.offset = 2) ∧ (∃ f, fs[3]? = some f ∧ f.type = tS ∧ f.offset = 3) ∧ (∃ f, fs[4]? = some f ∧ f.type = tL ∧ f.offset = 4) ∧ (∃ f, fs[5]? = some f ∧ f.type = tM ∧ f.offset = 5) ∧ fs.size = 6
  f : ∃ fs, P.underlying tF = some (.struct fs) ∧ (∃ f, fs[0]? = some f ∧ f.type = tS ∧ f.offset = 0) ∧ (∃ f, fs[1]? = some f ∧ f.type = tV ∧ f.offset = 1) ∧ fs.size = 2
  k : P.underlying tK = some (.int .i64)
  b : P.underlying tB = some .bool
  i : P.underlying tI = some (.int .i64)
  s : P.underlying tS = some .string
  l : P.underlying tL = some (.slice tV)
  m : P.underlying tM = some (.slice tF)
  cV : P.cellsOf tV = 6
  cF : P.cellsOf tF = 7
  cK : P.cellsOf tK = 1
  cB : P.cellsOf tB = 1
  cI : P.cellsOf tI = 1
  cS : P.cellsOf tS = 1
  cL : P.cellsOf tL = 1
  cM : P.cellsOf tM = 1
section
variable {H : Type} {enc : TypeId × Value → H} {P : Program} {W : World} {sp : Nat → Bool} {held : Bool} {tV tF tK tB tI tS tL tM : TypeId}
theorem all_map' {α : Type} {p : α → Prop} {f : α → DV} : ∀ {ys : List DV}, (∀ y ∈ ys, ∃ x, p x ∧ y = f x) → ∃ xs : List α, (∀ x ∈ xs, p x) ∧ ys = xs.map f
  | [], _ => ⟨[], fun _ h => (by cases h), rfl⟩
  | y :: ys, h => by
    obtain ⟨x, hp, rfl⟩ := h y (by simp)
    obtain ⟨xs, hps, rfl⟩ := all_map' (ys := ys) fun z hz => h z (by simp [hz])
    exact ⟨x :: xs, fun z hz => by rcases List.mem_cons.1 hz with rfl | hz; exact hp; exact hps z hz, rfl⟩
theorem list_cell {fuel : Nat} {t e : TypeId} {sz : Nat} (hsz0 : 0 < sz) (Good : DV → Prop) (ht : P.underlying t = some (.slice e)) (hsz : P.cellsOf e = sz) {c : Value} {x : DataW H × List MemPlace} (h : DataW.trod enc P W 0 sp held fuel t [c] = some x)
    (hel : ∀ m, m < fuel → ∀ cs d p, DataW.trod enc P W 0 sp held m e cs = some (d, p) → cs.length = sz → ∃ y, Go.AV.Reads W Good sz cs y) : ∃ ys, RepD (ctx0 W).mem c (.lst sz ys) ∧ (∀ y ∈ ys, Good y) := by
  cases fuel with
  | zero => simp [DataW.trod] at h
  | succ n =>
    rcases DataW.trod_slice ht h with ⟨h1, _⟩ | ⟨a, len, cap, _, _, m, h0, h1, _⟩
    · cases h1
      exact ⟨[], .lstE _ _ _, fun _ h => (by cases h)⟩
    · cases h1
      obtain ⟨d, p⟩ := x
      exact rep_slice hsz0 Good ht hsz (hel n (by omega)) h
theorem one_cell {Good : DV → Prop} {c : Value} {y : DV} (h : Go.AV.Reads W Good 1 [c] y) (e : y.cells = [y]) : RepD (ctx0 W).mem c y := by
  have := h.at_ 0 (by simp) (by rw [e]; simp)
  simpa [e] using this
theorem reads_both (T : VTypes P tV tF tK tB tI tS tL tM) : ∀ (N fuel : Nat), fuel ≤ N →
    (∀ (cs : List Value) d p, DataW.trod enc P W 0 sp held fuel tV cs = some (d, p) → cs.length = 6 → ∃ y, Go.AV.Reads W (fun y => ∃ v, WfV v ∧ y = vD v) 6 cs y) ∧
    (∀ (cs : List Value) d p, DataW.trod enc P W 0 sp held fuel tF cs = some (d, p) → cs.length = 7 → ∃ y, Go.AV.Reads W (fun y => ∃ f : F, WfV f.val ∧ y = fD f) 7 cs y)
  | 0, fuel, hf => by
    have : fuel = 0 := by omega
    subst this
    exact ⟨fun _ _ _ h => by simp [DataW.trod] at h, fun _ _ _ h => by simp [DataW.trod] at h⟩
  | N + 1, fuel, hf => by
    refine ⟨fun cs d p h hl => ?_, fun cs d p h hl => ?_⟩
    · obtain ⟨fs, hu, ⟨f0, g0, e0, o0⟩, ⟨f1, g1, e1, o1⟩, ⟨f2, g2, e2, o2⟩, ⟨f3, g3, e3, o3⟩, ⟨f4, g4, e4, o4⟩, ⟨f5, g5, e5, o5⟩, hsz⟩ := T.v
      obtain ⟨xs, n, hn, _, _, hxl, hx⟩ := DataW.trod_struct hu h
      subst hn
      obtain ⟨c0, c1, c2, c3, c4, c5, rfl⟩ : ∃ c0 c1 c2 c3 c4 c5, cs = [c0, c1, c2, c3, c4, c5] := by
        match cs, hl with
        | [c0, c1, c2, c3, c4, c5], _ => exact ⟨_, _, _, _, _, _, rfl⟩
      have get : ∀ i, i < 6 → ∃ x, xs[i]? = some x := fun i hi => ⟨_, List.getElem?_eq_getElem (by omega)⟩
      have q0 := hx 0 f0 g0
      have q1 := hx 1 f1 g1
      have q2 := hx 2 f2 g2
      have q3 := hx 3 f3 g3
      have q4 := hx 4 f4 g4
      have q5 := hx 5 f5 g5
      rw [e0, o0, T.cK] at q0
      rw [e1, o1, T.cB] at q1
      rw [e2, o2, T.cI] at q2
      rw [e3, o3, T.cS] at q3
      rw [e4, o4, T.cL] at q4
      rw [e5, o5, T.cM] at q5
      obtain ⟨⟨_, _⟩, x0⟩ := get 0 (by decide)
      obtain ⟨⟨_, _⟩, x1⟩ := get 1 (by decide)
      obtain ⟨⟨_, _⟩, x2⟩ := get 2 (by decide)
      obtain ⟨⟨_, _⟩, x3⟩ := get 3 (by decide)
      obtain ⟨⟨_, _⟩, x4⟩ := get 4 (by decide)
      obtain ⟨⟨_, _⟩, x5⟩ := get 5 (by decide)
      rw [x0] at q0; rw [x1] at q1; rw [x2] at q2; rw [x3] at q3; rw [x4] at q4; rw [x5] at q5
      obtain ⟨y0, r0⟩ := reads_int T.k q0
      obtain ⟨y1, r1⟩ := reads_bool T.b q1
      obtain ⟨y2, r2⟩ := reads_int T.i q2
      obtain ⟨y3, r3⟩ := reads_str T.s q3
      obtain ⟨k, rfl, wk⟩ := r0.good
      obtain ⟨b, rfl⟩ := r1.good
      obtain ⟨i, rfl, wi⟩ := r2.good
      obtain ⟨s, rfl⟩ := r3.good
      obtain ⟨ls', r4, l4⟩ := list_cell (by decide) _ T.l T.cV q4 fun m hm => (reads_both T N m (by omega)).1
      obtain ⟨fs', r5, l5⟩ := list_cell (by decide) _ T.m T.cF q5 fun m hm => (reads_both T N m (by omega)).2
      obtain ⟨ls, wl, rfl⟩ := all_map' l4
      obtain ⟨ffs, wf, rfl⟩ := all_map' l5
      refine ⟨vD (.mk k b i s ls ffs), rfl, by rw [vD_cells]; rfl, fun z hz => vC_one _ z hz, ⟨_, .mk _ _ _ _ _ _ (wf_i64 wk) (wf_i64 wi) wl wf, rfl⟩, fun j hj hj' => ?_⟩
      have ec : (vD (.mk k b i s ls ffs)).cells = [.v (.int .i64 k), TF b, .v (.int .i64 i), S s, .lst 6 (ls.map vD), .lst 7 (ffs.map fD)] := vD_cells _
      have p0 := one_cell r0 rfl
      have p1 := one_cell r1 rfl
      have p2 := one_cell r2 rfl
      have p3 := one_cell r3 rfl
      simp only [ec]
      match j, hj with
      | 0, _ => exact p0
      | 1, _ => exact p1
      | 2, _ => exact p2
      | 3, _ => exact p3
      | 4, _ => exact r4
      | 5, _ => exact r5
    · obtain ⟨fs, hu, ⟨f0, g0, e0, o0⟩, ⟨f1, g1, e1, o1⟩, hsz⟩ := T.f
      obtain ⟨xs, n, hn, _, _, hxl, hx⟩ := DataW.trod_struct hu h
      subst hn
      obtain ⟨c0, cs', rfl⟩ : ∃ c0 cs', cs = c0 :: cs' := List.exists_cons_of_ne_nil (by intro e; subst e; cases hl)
      have hl' : cs'.length = 6 := by simpa using hl
      have get : ∀ i, i < 2 → ∃ x, xs[i]? = some x := fun i hi => ⟨_, List.getElem?_eq_getElem (by omega)⟩
      have q0 := hx 0 f0 g0
      have q1 := hx 1 f1 g1
      rw [e0, o0, T.cS] at q0
      rw [e1, o1, T.cV, List.drop_succ_cons, List.drop_zero, List.take_of_length_le (by omega)] at q1
      obtain ⟨⟨_, _⟩, x0⟩ := get 0 (by decide)
      obtain ⟨⟨_, _⟩, x1⟩ := get 1 (by decide)
      rw [x0] at q0; rw [x1] at q1
      obtain ⟨y0, r0⟩ := reads_str T.s q0
      obtain ⟨s, rfl⟩ := r0.good
      obtain ⟨y1, r1⟩ := (reads_both T N n (by omega)).1 _ _ _ q1 hl'
      obtain ⟨v, wv, rfl⟩ := r1.good
      have p0 := one_cell r0 rfl
      have ec : (fD (.mk s v)).cells = S s :: (vD v).cells := fD_cells _
      refine ⟨fD (.mk s v), hl, by rw [ec, List.length_cons, r1.ylen], fun z hz => fC_one _ z hz, ⟨.mk s v, wv, rfl⟩, fun j hj hj' => ?_⟩
      simp only [ec]
      match j, hj with
      | 0, _ => exact p0
      | j + 1, hj => exact r1.at_ j (by simpa using hj) (by rw [ec] at hj'; simpa using hj')
end
end Go.AV.Val
namespace Go.AV.Val
open Go.AV.Ord Go.AV.Oct
section
variable {H : Type} {enc : TypeId × Value → H} {P : Program} {W : World} {sp : Nat → Bool} {held : Bool}
end
end Go.AV.Val
namespace Go.AV.Patch
open Go.AV.Ord Go.AV.Oct Go.AV.Val
structure OTypes (P : Program) (tO tP tL tS tV tQ : TypeId) : Prop where
  o : ∃ fs, P.underlying tO = some (.struct fs) ∧ (∃ f, fs[0]? = some f ∧ f.type = tP ∧ f.offset = 0) ∧ (∃ f, fs[1]? = some f ∧ f.type = tL ∧ f.offset = 1) ∧ (∃ f, fs[2]? = some f ∧ f.type = tV ∧ f.offset = 2) ∧ fs.size = 3
  p : P.underlying tP = some (.int .i64)
  l : P.underlying tL = some (.slice tS)
  s : P.underlying tS = some .string
  q : P.underlying tQ = some (.slice tO)
  cO : P.cellsOf tO = 8
  cP : P.cellsOf tP = 1
  cL : P.cellsOf tL = 1
  cS : P.cellsOf tS = 1
theorem oC_eq (o : Opn) : oC o = I o.kind :: .lst 1 (o.path.map S) :: vC o.val := by rw [vC_eq]; rfl
section
variable {H : Type} {enc : TypeId × Value → H} {P : Program} {W : World} {sp : Nat → Bool} {held : Bool} {tV tF tK tB tI tS tL tM : TypeId} {tO tP tLs tSs tQ : TypeId}
theorem reads_op (T : VTypes P tV tF tK tB tI tS tL tM) (TO : OTypes P tO tP tLs tSs tV tQ) {fuel : Nat} {cs : List Value} {d : DataW H} {p : List MemPlace} (h : DataW.trod enc P W 0 sp held fuel tO cs = some (d, p)) (hl : cs.length = 8) : ∃ y, Go.AV.Reads W (fun y => ∃ o : Opn, WfV o.val ∧ y = oD o) 8 cs y := by
  obtain ⟨fs, hu, ⟨f0, g0, e0, o0⟩, ⟨f1, g1, e1, o1⟩, ⟨f2, g2, e2, o2⟩, hsz⟩ := TO.o
  obtain ⟨xs, n, hn, _, _, hxl, hx⟩ := DataW.trod_struct hu h
  subst hn
  obtain ⟨c0, c1, cs', rfl⟩ : ∃ c0 c1 cs', cs = c0 :: c1 :: cs' := by
    match cs, hl with
    | c0 :: c1 :: cs', _ => exact ⟨_, _, _, rfl⟩
  have hl' : cs'.length = 6 := by simpa using hl
  have get : ∀ i, i < 3 → ∃ x, xs[i]? = some x := fun i hi => ⟨_, List.getElem?_eq_getElem (by omega)⟩
  have q0 := hx 0 f0 g0
  have q1 := hx 1 f1 g1
  have q2 := hx 2 f2 g2
  rw [e0, o0, TO.cP] at q0
  rw [e1, o1, TO.cL] at q1
  rw [e2, o2, T.cV, List.drop_succ_cons, List.drop_succ_cons, List.drop_zero, List.take_of_length_le (by omega)] at q2
  obtain ⟨⟨_, _⟩, x0⟩ := get 0 (by decide)
  obtain ⟨⟨_, _⟩, x1⟩ := get 1 (by decide)
  obtain ⟨⟨_, _⟩, x2⟩ := get 2 (by decide)
  rw [x0] at q0; rw [x1] at q1; rw [x2] at q2
  obtain ⟨y0, r0⟩ := reads_int TO.p q0
  obtain ⟨k, rfl, wk⟩ := r0.good
  obtain ⟨ss', r1, l1⟩ := list_cell (by decide) (fun y => ∃ l : List UInt8, y = S l) TO.l TO.cS q1 fun m _ cs d p h _ => reads_str TO.s h
  obtain ⟨ss, rfl⟩ := all_map l1
  obtain ⟨y2, r2⟩ := (reads_both T n n (Nat.le_refl _)).1 _ _ _ q2 hl'
  obtain ⟨v, wv, rfl⟩ := r2.good
  have p0 := one_cell r0 rfl
  have ec : (oD ⟨k, ss, v⟩).cells = I k :: .lst 1 (ss.map S) :: (vD v).cells := oC_eq _
  refine ⟨oD ⟨k, ss, v⟩, hl, by rw [ec, List.length_cons, List.length_cons, r2.ylen], fun z hz => oC_one _ z hz, ⟨⟨k, ss, v⟩, wv, rfl⟩, fun j hj hj' => ?_⟩
  simp only [ec]
  match j, hj with
  | 0, _ => exact p0
  | 1, _ => exact r1
  | j + 2, hj => exact r2.at_ j (by simpa using hj) (by rw [ec] at hj'; simpa using hj')
theorem lst_len {m : Nat → Nat → Option Value} {a : Option Addr} {n cap sz : Nat} {ys : List DV} (h : RepD m (.slice a n cap) (.lst sz ys)) : ys.length = n := by
  cases h with
  | lstE => rfl
  | lst => assumption
theorem arg_ops (T : VTypes P tV tF tK tB tI tS tL tM) (TO : OTypes P tO tP tLs tSs tV tQ) {r : Reach} {b0 : Nat} {v : Value} {d : DataW H} {ps : List MemPlace} (hval : Value.okWide P W r b0 tQ v) (hd : DataW.Trod enc P W 0 sp held tQ v d ps) :
    ∃ l : List Opn, (∀ o ∈ l, WfV o.val) ∧ l.length ≤ 9223372036854775807 ∧ Rep (ctx0 W) v (.d (.lst 8 (l.map oD))) := by
  obtain ⟨ys, h1, h2⟩ := arg_list (by decide) (fun y => ∃ o : Opn, WfV o.val ∧ y = oD o) TO.q TO.cO hval hd fun fuel cs d p h hl => reads_op T TO h hl
  obtain ⟨l, hl, rfl⟩ := all_map' h1
  refine ⟨l, hl, ?_, h2⟩
  obtain ⟨fuel, hf⟩ := hd
  cases h2 with
  | d h2 =>
    cases fuel with
    | zero => simp [DataW.trod] at hf
    | succ n =>
      have h3 := h2
      have hcl : ∀ c, v.cells.toList = [c] → v = c → l.length ≤ 9223372036854775807 := by
        intro c hc hv
        rw [hc] at hf
        rcases DataW.trod_slice TO.q hf with ⟨e, _⟩ | ⟨ad, len, cap, _, _, m, h0, e, _, _, q2, q3, _⟩
        · subst hv
          obtain rfl := List.head_eq_of_cons_eq e
          have := lst_len h3
          simp at this
          subst this; decide
        · subst hv
          obtain rfl := List.head_eq_of_cons_eq e
          have := lst_len h3
          simp at this
          have hmax : (maxLen : Nat) = 9223372036854775807 := by decide
          omega
      generalize l.map oD = m at h2
      cases h2 with
      | lst => exact hcl _ rfl rfl
      | lstE => exact hcl _ rfl rfl
end
end Go.AV.Patch
namespace Go.Proofs.Ytjamnhofbkgblaa
open Go.AV Go.AV.Ord Go.AV.Oct Go.AV.Val Go.AV.Patch
set_option linter.unusedVariables false
set_option linter.unusedSimpArgs false
theorem vtypes : VTypes Try.prog 26 48 22 4 2 9 23 24 where
  v := ⟨_, Try.underlying26, ⟨_, rfl, rfl, rfl⟩, ⟨_, rfl, rfl, rfl⟩, ⟨_, rfl, rfl, rfl⟩, ⟨_, rfl, rfl, rfl⟩, ⟨_, rfl, rfl, rfl⟩, ⟨_, rfl, rfl, rfl⟩, rfl⟩
  f := ⟨_, Try.underlying48, ⟨_, rfl, rfl, rfl⟩, ⟨_, rfl, rfl, rfl⟩, rfl⟩
  k := Try.underlying22
  b := Try.underlying4
  i := Try.underlying2
  s := Try.underlying9
  l := Try.underlying23
  m := Try.underlying24
  cV := by kernel_rfl
  cF := by kernel_rfl
  cK := by kernel_rfl
  cB := by kernel_rfl
  cI := by kernel_rfl
  cS := by kernel_rfl
  cL := by kernel_rfl
  cM := by kernel_rfl
theorem otypes : OTypes Try.prog 36 33 34 9 26 37 where
  o := ⟨_, Try.underlying36, ⟨_, rfl, rfl, rfl⟩, ⟨_, rfl, rfl, rfl⟩, ⟨_, rfl, rfl, rfl⟩, rfl⟩
  p := Try.underlying33
  l := Try.underlying34
  s := Try.underlying9
  q := Try.underlying37
  cO := by kernel_rfl
  cP := by kernel_rfl
  cL := by kernel_rfl
  cS := by kernel_rfl
set_option maxHeartbeats 1000000 in
set_option maxRecDepth 100000 in
theorem patchBytes_walk (Hs : HS) (l : List Opn) (c : Int) (wl : ∀ o ∈ l, WfV o.val) (hl : l.length ≤ 9223372036854775807) : ACalls Try.prog 8 [.d (.lst 8 (l.map oD)), .d (I c)] Hs (fun av _ => av = .d (TF true)) := by
 refine acalls_of_aw Try.func8 rfl ?_
 refine aw_start (T' := ((.d (.lst 8 (l.map oD))) :: (.d (I c)) :: .un :: .un :: .un :: .un :: .un :: .un :: .un :: .un :: .un :: .un :: .un :: .un :: .un :: .un :: .un :: .un :: .un :: .un :: .un :: .un :: .un :: .un :: .un :: .un :: .un :: .un :: .un :: .un :: .un :: .un :: .un :: .un :: .un :: .un :: .un :: .un :: .un :: .un :: .un :: .un :: .un :: .un :: .un :: .un :: .un :: .un :: .un :: .un :: .un :: .un :: .un :: .un :: .un :: .un :: .un :: .un :: .un :: .un :: .un :: .un :: .un :: .un :: .un :: .un :: .un :: .un :: .un :: .un :: .un :: .un :: .un :: .un :: .un :: .un :: .un :: .un :: .un :: .un :: .un :: .un :: .un :: .un :: .un :: .un :: .un :: .un :: .un :: .un :: .un :: .un :: .un :: .un :: .un :: .un :: .un :: .un :: .un :: .un :: .un :: .un :: .un :: .un :: .un :: .un :: .un :: .un :: .un :: .un :: .un :: .un :: .un :: .un :: .un :: .un :: .un :: .un :: .un :: .un :: .un :: .un :: .un :: .un :: .un :: .un :: .un :: .un :: .un :: .un :: .un :: .un :: .un :: .un :: .un :: .un :: .un :: .un :: .un :: .un :: .un :: .un :: .un :: .un :: .un :: .un :: .un :: .un :: .un :: .un :: .un :: .un :: .un :: .un :: .un :: .un :: .un :: .un :: .un :: .un :: .un :: .un :: .un :: .un :: .un :: .un :: .un :: .un :: .un :: .un :: .un :: .un :: [])) rfl ?_
 refine aw_seq ?_
 refine aw_region ?_
 refine zst (op_assign_const (by rfl)) rfl (by dsimp only [zS, zN, zH, zT]) ?_
 refine al_end rfl ?_
 refine then_normal ?_
 refine aw_seq ?_
 refine aw_seq ?_
 refine aw_region ?_
 refine zst (op_callF Try.func9 (by rfl) (by rfl) .nil (phead_ok _)) rfl (by dsimp only [zS, zN, zH, zT]) ?_
 refine zst (op_not (by rfl)) rfl (by dsimp only [zS, zN, zH, zT]) ?_
 refine al_end rfl ?_
 refine then_normal ?_
 refine aw_cond rfl (fun hc1 => ?_) (fun hc1 => ?_)
 ·
  (try simp only [y1, y2, y3, y4, y5, y6, y7, y8, y9, y0, List.length_map] at hc1)
  exact absurd hc1 (by decide)
 ·
  (try simp only [y1, y2, y3, y4, y5, y6, y7, y8, y9, y0, List.length_map] at hc1)
  refine aw_skip ?_
  refine then_normal ?_
  refine aw_seq ?_
  refine aw_seq ?_
  refine aw_region ?_
  refine zst (op_move_tmp (by rfl)) rfl (by dsimp only [zS, zN, zH, zT]) ?_
  refine zst (op_callF Try.func16 (by rfl) (by rfl) (.tmp (by rfl) .nil) (pfew_ok _ _ l (LL.d _ _) hl)) rfl (by dsimp only [zS, zN, zH, zT]) ?_
  refine zst (op_not (by rfl)) rfl (by dsimp only [zS, zN, zH, zT]) ?_
  refine al_end rfl ?_
  refine then_normal ?_
  refine aw_cond rfl (fun hc2 => ?_) (fun hc2 => ?_)
  ·
   (try simp only [y1, y2, y3, y4, y5, y6, y7, y8, y9, y0, List.length_map] at hc2)
   refine aw_seq ?_
   refine aw_region ?_
   refine zst (op_assign_const (by rfl)) rfl (by dsimp only [zS, zN, zH, zT]) ?_
   refine al_end rfl ?_
   refine then_normal ?_
   refine aw_ret ?_
   refine then_ret ?_
   refine retPost1 rfl rfl ?_
   exact rfl
  ·
   (try simp only [y1, y2, y3, y4, y5, y6, y7, y8, y9, y0, List.length_map] at hc2)
   have hfo : fewO l = true := by simpa using hc2
   obtain ⟨hf, h60⟩ := fewO_parts hfo
   refine aw_skip ?_
   refine then_normal ?_
   refine aw_seq ?_
   refine aw_region ?_
   refine zst (op_move_tmp (by rfl)) rfl (by dsimp only [zS, zN, zH, zT]) ?_
   refine zst (op_lenL Try.underlying37 (by first | exact LL.d _ _ | exact LL.own _ _ _ | exact LL.nil _ | assumption)) rfl (by dsimp only [zS, zN, zH, zT]) ?_
   refine zst (op_leI (by rfl) (by rfl)) rfl (by dsimp only [zS, zN, zH, zT]) ?_
   refine zst (op_assign_tmp (by rfl)) rfl (by dsimp only [zS, zN, zH, zT]) ?_
   refine al_end rfl ?_
   refine then_normal ?_
   refine aw_seq ?_
   refine aw_seq ?_
   refine aw_region ?_
   refine zst (op_move_tmp (by rfl)) rfl (by dsimp only [zS, zN, zH, zT]) ?_
   refine zst (op_lenL Try.underlying37 (by first | exact LL.d _ _ | exact LL.own _ _ _ | exact LL.nil _ | assumption)) rfl (by dsimp only [zS, zN, zH, zT]) ?_
   refine zst (op_move_const (by rfl)) rfl (by dsimp only [zS, zN, zH, zT]) ?_
   refine al_end rfl ?_
   refine then_normal ?_
   refine aw_block ?_
   apply aw_loopF (fun n T H => ∃ (j : Nat) (g : Bool), T = ((.d (.lst 8 (l.map oD))) :: (.d (I c)) :: .un :: .un :: .un :: (.d (TF g)) :: .un :: .un :: .un :: .un :: .un :: .un :: .un :: .un :: .un :: .un :: .un :: .un :: .un :: .un :: .un :: .un :: .un :: .un :: .un :: .un :: (.d (.lst 8 (l.map oD))) :: (.d (I (l.map oD).length)) :: (.d (I j)) :: .un :: .un :: .un :: .un :: .un :: .un :: .un :: .un :: .un :: .un :: .un :: .un :: .un :: .un :: .un :: .un :: .un :: .un :: .un :: .un :: .un :: .un :: .un :: .un :: .un :: .un :: .un :: .un :: .un :: .un :: .un :: .un :: .un :: .un :: .un :: .un :: .un :: .un :: .un :: .un :: .un :: .un :: .un :: .un :: .un :: .un :: .un :: .un :: .un :: .un :: .un :: .un :: .un :: .un :: .un :: .un :: .un :: .un :: .un :: .un :: .un :: .un :: .un :: .un :: .un :: .un :: .un :: .un :: .un :: .un :: .un :: .un :: .un :: .un :: .un :: .un :: .un :: .un :: .un :: .un :: .un :: .un :: .un :: .un :: .un :: .un :: .un :: .un :: .un :: .un :: .un :: .un :: .un :: .un :: .un :: .un :: .un :: .un :: .un :: .un :: .un :: .un :: .un :: .un :: .un :: .un :: .un :: .un :: .un :: .un :: .un :: .un :: .un :: .un :: .un :: .un :: .un :: .un :: .un :: .un :: .un :: .un :: .un :: .un :: .un :: .un :: .un :: .un :: .un :: .un :: .un :: .un :: .un :: .un :: .un :: .un :: .un :: .un :: .un :: .un :: .un :: .un :: .un :: []) ∧ j ≤ l.length ∧ n = l.length - j ∧ g = (decide (l.length ≤ 50) && (l.take j).all rightO)) (l.length) (true :: true :: false :: false :: false :: true :: false :: false :: false :: false :: false :: false :: false :: false :: false :: false :: false :: false :: false :: false :: false :: false :: false :: false :: false :: false :: true :: true :: true :: false :: false :: false :: false :: false :: false :: false :: false :: false :: false :: false :: false :: false :: false :: false :: false :: false :: false :: false :: false :: false :: false :: false :: false :: false :: false :: false :: false :: false :: false :: false :: false :: false :: false :: false :: false :: false :: false :: false :: false :: false :: false :: false :: false :: false :: false :: false :: false :: false :: false :: false :: false :: false :: false :: false :: false :: false :: false :: false :: false :: false :: false :: false :: false :: false :: false :: false :: false :: false :: false :: false :: false :: false :: false :: false :: false :: false :: false :: false :: false :: false :: false :: false :: false :: false :: false :: false :: false :: false :: false :: false :: false :: false :: false :: false :: false :: false :: false :: false :: false :: false :: false :: false :: false :: false :: false :: false :: false :: false :: false :: false :: false :: false :: false :: false :: false :: false :: false :: false :: false :: false :: false :: false :: false :: false :: false :: false :: false :: false :: false :: false :: false :: false :: false :: false :: false :: false :: false :: false :: false :: false :: false :: false :: [])
   · (try dsimp only [maskT]); try exact rfl
   · rfl
   · exact ⟨0, _, rfl, by omega, rfl, by rw [List.take_zero, List.all_nil, Bool.and_true]; simp only [List.length_map]; exact decide_eq_decide.2 (by omega)⟩
   rintro n T H ⟨j, g, rfl, hj, rfl, hg⟩
   refine aw_seq ?_
   refine aw_region ?_
   refine zst (op_ltI (by rfl) (by rfl)) rfl (by dsimp only [zS, zN, zH, zT]) ?_
   refine al_end rfl ?_
   refine then_normal ?_
   refine aw_seq ?_
   refine aw_cond rfl (fun hc3 => ?_) (fun hc3 => ?_)
   ·
    (try simp only [y1, y2, y3, y4, y5, y6, y7, y8, y9, y0, List.length_map] at hc3)
    (try simp only [List.length_map] at hc3)
    have hlt : j < l.length := by omega
    obtain ⟨o, hx1⟩ : ∃ z0, l[j]? = some z0 := ⟨_, List.getElem?_eq_getElem hlt⟩
    have ho := List.mem_of_getElem? hx1
    have h20 := (fewP_parts (hf o ho)).1
    refine aw_skip ?_
    refine then_normal ?_
    refine aw_seq ?_
    refine aw_block ?_
    refine aw_seq ?_
    refine aw_region ?_
    refine zst (op_indexAddr (z := oD o) (cs := oC o) Try.underlying37 Sz36 (LL.d _ _) (by rfl) (by omega) (by rw [List.getElem?_map, show ((j : Nat) : Int).toNat = j from rfl, hx1]; rfl) (by rfl)) rfl (by dsimp only [zS, zN, zH, zT]) ?_
    refine zst (op_load_elts (ds := oC o) Try.underlying36 (by rfl) Sz36 (by rfl) (Nat.le_of_ble_eq_true rfl) (by rfl)) rfl (by dsimp only [zS, zN, zH, zT]) ?_
    refine zst (op_alloc (Zr36) (by rfl)) rfl (by dsimp only [zS, zN, zH, zT]) ?_
    refine zst (op_storeB (vs := (oC o).map .d) (b' := ⟨36, (oC o).map .d, false⟩) (H' := _) Sz36 (by rfl) push_at (by intro h; cases h) (by rfl) (by rfl) (Nat.le_of_ble_eq_true rfl) (by intro w hw; obtain ⟨d, hd, rfl⟩ := List.mem_map.1 hw; exact oC_one o d hd) (by rfl) (by rfl) rfl) rfl (by dsimp only [zS, zN, zH, zT]) ?_
    refine al_end rfl ?_
    refine then_normal ?_
    refine aw_region ?_
    refine zst (op_move_tmp (by rfl)) rfl (by dsimp only [zS, zN, zH, zT]) ?_
    refine zst (op_move_tmp (by rfl)) rfl (by dsimp only [zS, zN, zH, zT]) ?_
    refine al_split 33 rfl (fun hg4 => ?_) (fun hg4 => ?_)
    ·
     (try simp only [y1, y2, y3, y4, y5, y6, y7, y8, y9, y0, List.length_map] at hg4)
     have hg1 : g = true := by simpa using hg4
     apply al_normT
     · (try dsimp only [zS, zN, zH, zT]); try exact rfl
     refine zsw rfl rfl rfl (op_load_ptrsD (oC o) Try.underlying36 (by rfl) Sz36 (by rfl) (setB_at push_at) (Nat.le_of_ble_eq_true rfl) (by rfl) (oC_one o)) (by dsimp only [zS, zN, zH, zT]) ?_
     refine zsw rfl rfl rfl (op_callF Try.func17 (by rfl) (by rfl) (.tmp (by rfl) .nil) (plright_ok _ o (few_small 7 _ (fewP_parts (hf o ho)).2.1))) (by dsimp only [zS, zN, zH, zT]) ?_
     refine zst (op_pick_tt (by rfl) (val_tmp (by rfl))) rfl (by dsimp only [zS, zN, zH, zT]) ?_
     refine zst (op_assign_tmp (by rfl)) rfl (by dsimp only [zS, zN, zH, zT]) ?_
     refine al_end rfl ?_
     refine inBlock_normal (then_normal ?_)
     refine aw_region ?_
     refine zst (by first | exact op_add (by rfl) (by rfl) (wrap_i64 ⟨by omega, by omega⟩) | exact op_add (by rfl) (by rfl) (by rfl)) rfl (by dsimp only [zS, zN, zH, zT]) ?_
     refine zst (op_move_tmp (by rfl)) rfl (by dsimp only [zS, zN, zH, zT]) ?_
     refine al_end rfl ?_
     apply again_to (l.length - (j + 1)) (true :: true :: false :: false :: false :: true :: false :: false :: false :: false :: false :: false :: false :: false :: false :: false :: false :: false :: false :: false :: false :: false :: false :: false :: false :: false :: true :: true :: true :: false :: false :: false :: false :: false :: false :: false :: false :: false :: false :: false :: false :: false :: false :: false :: false :: false :: false :: false :: false :: false :: false :: false :: false :: false :: false :: false :: false :: false :: false :: false :: false :: false :: false :: false :: false :: false :: false :: false :: false :: false :: false :: false :: false :: false :: false :: false :: false :: false :: false :: false :: false :: false :: false :: false :: false :: false :: false :: false :: false :: false :: false :: false :: false :: false :: false :: false :: false :: false :: false :: false :: false :: false :: false :: false :: false :: false :: false :: false :: false :: false :: false :: false :: false :: false :: false :: false :: false :: false :: false :: false :: false :: false :: false :: false :: false :: false :: false :: false :: false :: false :: false :: false :: false :: false :: false :: false :: false :: false :: false :: false :: false :: false :: false :: false :: false :: false :: false :: false :: false :: false :: false :: false :: false :: false :: false :: false :: false :: false :: false :: false :: false :: false :: false :: false :: false :: false :: false :: false :: false :: false :: false :: false :: [])
     · (try dsimp only [maskT]); try exact rfl
     · rfl
     · omega
     exact ⟨j + 1, _, rfl, by omega, rfl, by rw [take_snoc hx1, List.all_append, ← Bool.and_assoc, ← hg, hg1]; simp⟩
    ·
     (try simp only [y1, y2, y3, y4, y5, y6, y7, y8, y9, y0, List.length_map] at hg4)
     have hg1 : g = false := by simpa using hg4
     apply al_normT
     · (try dsimp only [zS, zN, zH, zT]); try exact rfl
     refine zuw rfl rfl rfl rfl (by dsimp only [zS, zN, zH, zT]) ?_
     refine zuw rfl rfl rfl rfl (by dsimp only [zS, zN, zH, zT]) ?_
     refine zst (op_pick_ff (by rfl) (val_const (by rfl))) rfl (by dsimp only [zS, zN, zH, zT]) ?_
     refine zst (op_assign_tmp (by rfl)) rfl (by dsimp only [zS, zN, zH, zT]) ?_
     refine al_end rfl ?_
     refine inBlock_normal (then_normal ?_)
     refine aw_region ?_
     refine zst (by first | exact op_add (by rfl) (by rfl) (wrap_i64 ⟨by omega, by omega⟩) | exact op_add (by rfl) (by rfl) (by rfl)) rfl (by dsimp only [zS, zN, zH, zT]) ?_
     refine zst (op_move_tmp (by rfl)) rfl (by dsimp only [zS, zN, zH, zT]) ?_
     refine al_end rfl ?_
     apply again_to (l.length - (j + 1)) (true :: true :: false :: false :: false :: true :: false :: false :: false :: false :: false :: false :: false :: false :: false :: false :: false :: false :: false :: false :: false :: false :: false :: false :: false :: false :: true :: true :: true :: false :: false :: false :: false :: false :: false :: false :: false :: false :: false :: false :: false :: false :: false :: false :: false :: false :: false :: false :: false :: false :: false :: false :: false :: false :: false :: false :: false :: false :: false :: false :: false :: false :: false :: false :: false :: false :: false :: false :: false :: false :: false :: false :: false :: false :: false :: false :: false :: false :: false :: false :: false :: false :: false :: false :: false :: false :: false :: false :: false :: false :: false :: false :: false :: false :: false :: false :: false :: false :: false :: false :: false :: false :: false :: false :: false :: false :: false :: false :: false :: false :: false :: false :: false :: false :: false :: false :: false :: false :: false :: false :: false :: false :: false :: false :: false :: false :: false :: false :: false :: false :: false :: false :: false :: false :: false :: false :: false :: false :: false :: false :: false :: false :: false :: false :: false :: false :: false :: false :: false :: false :: false :: false :: false :: false :: false :: false :: false :: false :: false :: false :: false :: false :: false :: false :: false :: false :: false :: false :: false :: false :: false :: false :: [])
     · (try dsimp only [maskT]); try exact rfl
     · rfl
     · omega
     exact ⟨j + 1, _, rfl, by omega, rfl, by rw [take_snoc hx1, List.all_append, ← Bool.and_assoc, ← hg, hg1]; simp⟩
   ·
    (try simp only [y1, y2, y3, y4, y5, y6, y7, y8, y9, y0, List.length_map] at hc3)
    (try simp only [List.length_map] at hc3)
    have hje : j = l.length := by omega
    subst hje
    rw [List.take_length] at hg
    obtain ⟨s, e, hE⟩ : ∃ s e, encP l = (s, e) := ⟨_, _, rfl⟩
    refine aw_exit ?_
    refine then_exit (again_exit (inBlock_here (then_normal ?_)))
    refine aw_seq ?_
    refine aw_region ?_
    refine zst (op_move_tmp (by rfl)) rfl (by dsimp only [zS, zN, zH, zT]) ?_
    refine zst (op_callF Try.func23 (by rfl) (by rfl) (.tmp (by rfl) .nil) (penc_at hE (LL.d _ _) hf wl (by omega))) rfl (by dsimp only [zS, zN, zH, zT]) ?_
    refine zst (op_move_tmp (by rfl)) rfl (by dsimp only [zS, zN, zH, zT]) ?_
    refine zst (op_extract (by rfl) (by rfl)) rfl (by dsimp only [zS, zN, zH, zT]) ?_
    refine zst (op_extract (by rfl) (by rfl)) rfl (by dsimp only [zS, zN, zH, zT]) ?_
    refine zst (op_assign_tmp (by rfl)) rfl (by dsimp only [zS, zN, zH, zT]) ?_
    refine zst (op_assign_tmp (by rfl)) rfl (by dsimp only [zS, zN, zH, zT]) ?_
    refine al_end rfl ?_
    refine then_normal ?_
    refine aw_seq ?_
    refine aw_seq ?_
    refine aw_region ?_
    refine zst (op_move_tmp (by rfl)) rfl (by dsimp only [zS, zN, zH, zT]) ?_
    refine zst (op_not (by rfl)) rfl (by dsimp only [zS, zN, zH, zT]) ?_
    refine al_end rfl ?_
    refine then_normal ?_
    refine aw_cond rfl (fun hc5 => ?_) (fun hc5 => ?_)
    ·
     (try simp only [y1, y2, y3, y4, y5, y6, y7, y8, y9, y0, List.length_map] at hc5)
     have hg1 : g = false := by simpa using hc5
     rw [hg1] at hg
     obtain ⟨rfl, hcase⟩ := bytes_no hE hg.symm
     refine aw_seq ?_
     rcases hcase with ⟨h50, rfl⟩ | ⟨h50, rfl⟩
     ·
      refine aw_region ?_
      refine zst (op_move_tmp (by rfl)) rfl (by dsimp only [zS, zN, zH, zT]) ?_
      refine zst (op_eqS (by rfl) (by rfl)) rfl (by dsimp only [zS, zN, zH, zT]) ?_
      refine zst (op_move_tmp (by rfl)) rfl (by dsimp only [zS, zN, zH, zT]) ?_
      refine al_split 47 rfl (fun hg6 => ?_) (fun hg6 => ?_)
      ·
       (try simp only [y1, y2, y3, y4, y5, y6, y7, y8, y9, y0, List.length_map] at hg6)
       apply al_normT
       · (try dsimp only [zS, zN, zH, zT]); try exact rfl
       refine zsw rfl rfl rfl (op_move_tmp (by rfl)) (by dsimp only [zS, zN, zH, zT]) ?_
       refine zsw rfl rfl rfl (op_eqI (by rfl) (by rfl)) (by dsimp only [zS, zN, zH, zT]) ?_
       refine zsw rfl rfl rfl (op_move_tmp (by rfl)) (by dsimp only [zS, zN, zH, zT]) ?_
       refine zsw rfl rfl rfl (op_lenL Try.underlying37 (by first | exact LL.d _ _ | exact LL.own _ _ _ | exact LL.nil _ | assumption)) (by dsimp only [zS, zN, zH, zT]) ?_
       refine zsw rfl rfl rfl (op_gtI (by rfl) (by rfl)) (by dsimp only [zS, zN, zH, zT]) ?_
       refine zsw rfl rfl rfl (op_eqB Try.underlying4 (by rfl) (by rfl)) (by dsimp only [zS, zN, zH, zT]) ?_
       refine zst (op_pick_tt (by rfl) (val_tmp (by rfl))) rfl (by dsimp only [zS, zN, zH, zT]) ?_
       refine zst (op_move_tmp (by rfl)) rfl (by dsimp only [zS, zN, zH, zT]) ?_
       refine al_split 55 rfl (fun hg7 => ?_) (fun hg7 => ?_)
       ·
        (try simp only [y1, y2, y3, y4, y5, y6, y7, y8, y9, y0, List.length_map] at hg7)
        apply al_normT
        · (try dsimp only [zS, zN, zH, zT]); try exact rfl
        refine zsw rfl rfl rfl (op_move_tmp (by rfl)) (by dsimp only [zS, zN, zH, zT]) ?_
        refine zsw rfl rfl rfl (op_eqI (by rfl) (by rfl)) (by dsimp only [zS, zN, zH, zT]) ?_
        refine zsw rfl rfl rfl (op_move_tmp (by rfl)) (by dsimp only [zS, zN, zH, zT]) ?_
        refine al_split 58 rfl (fun hg8 => ?_) (fun hg8 => ?_)
        ·
         (try simp only [y1, y2, y3, y4, y5, y6, y7, y8, y9, y0, List.length_map] at hg8)
         apply al_normT
         · (try dsimp only [zS, zN, zH, zT]); try exact rfl
         refine zuw rfl rfl rfl rfl (by dsimp only [zS, zN, zH, zT]) ?_
         refine zuw rfl rfl rfl rfl (by dsimp only [zS, zN, zH, zT]) ?_
         refine zsw rfl rfl rfl (op_pick_tt (by rfl) (val_const (by rfl))) (by dsimp only [zS, zN, zH, zT]) ?_
         refine zst (op_pick_tt (by rfl) (val_tmp (by rfl))) rfl (by dsimp only [zS, zN, zH, zT]) ?_
         refine zst (op_assign_tmp (by rfl)) rfl (by dsimp only [zS, zN, zH, zT]) ?_
         refine al_end rfl ?_
         refine then_normal ?_
         refine aw_ret ?_
         refine then_ret ?_
         refine retPost1 rfl rfl ?_
         first | exact rfl | (exfalso; simp_all; done) | (exfalso; simp_all; omega)
        ·
         (try simp only [y1, y2, y3, y4, y5, y6, y7, y8, y9, y0, List.length_map] at hg8)
         apply al_normT
         · (try dsimp only [zS, zN, zH, zT]); try exact rfl
         refine zsw rfl rfl rfl (op_move_tmp (by rfl)) (by dsimp only [zS, zN, zH, zT]) ?_
         refine zsw rfl rfl rfl (op_eqI (by rfl) (by rfl)) (by dsimp only [zS, zN, zH, zT]) ?_
         refine zsw rfl rfl rfl (op_pick_ff (by rfl) (val_tmp (by rfl))) (by dsimp only [zS, zN, zH, zT]) ?_
         refine zst (op_pick_tt (by rfl) (val_tmp (by rfl))) rfl (by dsimp only [zS, zN, zH, zT]) ?_
         refine zst (op_assign_tmp (by rfl)) rfl (by dsimp only [zS, zN, zH, zT]) ?_
         refine al_end rfl ?_
         refine then_normal ?_
         refine aw_ret ?_
         refine then_ret ?_
         refine retPost1 rfl rfl ?_
         first | exact rfl | (exfalso; simp_all; done) | (exfalso; simp_all; omega)
       ·
        (try simp only [y1, y2, y3, y4, y5, y6, y7, y8, y9, y0, List.length_map] at hg7)
        apply al_normT
        · (try dsimp only [zS, zN, zH, zT]); try exact rfl
        refine zuw rfl rfl rfl rfl (by dsimp only [zS, zN, zH, zT]) ?_
        refine zuw rfl rfl rfl rfl (by dsimp only [zS, zN, zH, zT]) ?_
        refine zuw rfl rfl rfl rfl (by dsimp only [zS, zN, zH, zT]) ?_
        refine zun rfl rfl rfl (by dsimp only [zS, zN, zH, zT]) ?_
        refine zun rfl rfl rfl (by dsimp only [zS, zN, zH, zT]) ?_
        refine zuw rfl rfl rfl rfl (by dsimp only [zS, zN, zH, zT]) ?_
        refine zst (op_pick_ff (by rfl) (val_const (by rfl))) rfl (by dsimp only [zS, zN, zH, zT]) ?_
        refine zst (op_assign_tmp (by rfl)) rfl (by dsimp only [zS, zN, zH, zT]) ?_
        refine al_end rfl ?_
        refine then_normal ?_
        refine aw_ret ?_
        refine then_ret ?_
        refine retPost1 rfl rfl ?_
        first | exact rfl | (exfalso; simp_all; done) | (exfalso; simp_all; omega)
      ·
       (try simp only [y1, y2, y3, y4, y5, y6, y7, y8, y9, y0, List.length_map] at hg6)
       apply al_normT
       · (try dsimp only [zS, zN, zH, zT]); try exact rfl
       refine zuw rfl rfl rfl rfl (by dsimp only [zS, zN, zH, zT]) ?_
       refine zuw rfl rfl rfl rfl (by dsimp only [zS, zN, zH, zT]) ?_
       refine zuw rfl rfl rfl rfl (by dsimp only [zS, zN, zH, zT]) ?_
       refine zuw rfl rfl rfl rfl (by dsimp only [zS, zN, zH, zT]) ?_
       refine zuw rfl rfl rfl rfl (by dsimp only [zS, zN, zH, zT]) ?_
       refine zuw rfl rfl rfl rfl (by dsimp only [zS, zN, zH, zT]) ?_
       refine zst (op_pick_ff (by rfl) (val_const (by rfl))) rfl (by dsimp only [zS, zN, zH, zT]) ?_
       refine zst (op_move_tmp (by rfl)) rfl (by dsimp only [zS, zN, zH, zT]) ?_
       refine zuw rfl rfl rfl rfl (by dsimp only [zS, zN, zH, zT]) ?_
       refine zuw rfl rfl rfl rfl (by dsimp only [zS, zN, zH, zT]) ?_
       refine zuw rfl rfl rfl rfl (by dsimp only [zS, zN, zH, zT]) ?_
       refine zun rfl rfl rfl (by dsimp only [zS, zN, zH, zT]) ?_
       refine zun rfl rfl rfl (by dsimp only [zS, zN, zH, zT]) ?_
       refine zuw rfl rfl rfl rfl (by dsimp only [zS, zN, zH, zT]) ?_
       refine zst (op_pick_ff (by rfl) (val_const (by rfl))) rfl (by dsimp only [zS, zN, zH, zT]) ?_
       refine zst (op_assign_tmp (by rfl)) rfl (by dsimp only [zS, zN, zH, zT]) ?_
       refine al_end rfl ?_
       refine then_normal ?_
       refine aw_ret ?_
       refine then_ret ?_
       refine retPost1 rfl rfl ?_
       first | exact rfl | (exfalso; simp_all; done) | (exfalso; simp_all; omega)
     ·
      refine aw_region ?_
      refine zst (op_move_tmp (by rfl)) rfl (by dsimp only [zS, zN, zH, zT]) ?_
      refine zst (op_eqS (by rfl) (by rfl)) rfl (by dsimp only [zS, zN, zH, zT]) ?_
      refine zst (op_move_tmp (by rfl)) rfl (by dsimp only [zS, zN, zH, zT]) ?_
      refine al_split 47 rfl (fun hg9 => ?_) (fun hg9 => ?_)
      ·
       (try simp only [y1, y2, y3, y4, y5, y6, y7, y8, y9, y0, List.length_map] at hg9)
       apply al_normT
       · (try dsimp only [zS, zN, zH, zT]); try exact rfl
       refine zsw rfl rfl rfl (op_move_tmp (by rfl)) (by dsimp only [zS, zN, zH, zT]) ?_
       refine zsw rfl rfl rfl (op_eqI (by rfl) (by rfl)) (by dsimp only [zS, zN, zH, zT]) ?_
       refine zsw rfl rfl rfl (op_move_tmp (by rfl)) (by dsimp only [zS, zN, zH, zT]) ?_
       refine zsw rfl rfl rfl (op_lenL Try.underlying37 (by first | exact LL.d _ _ | exact LL.own _ _ _ | exact LL.nil _ | assumption)) (by dsimp only [zS, zN, zH, zT]) ?_
       refine zsw rfl rfl rfl (op_gtI (by rfl) (by rfl)) (by dsimp only [zS, zN, zH, zT]) ?_
       refine zsw rfl rfl rfl (op_eqB Try.underlying4 (by rfl) (by rfl)) (by dsimp only [zS, zN, zH, zT]) ?_
       refine zst (op_pick_tt (by rfl) (val_tmp (by rfl))) rfl (by dsimp only [zS, zN, zH, zT]) ?_
       refine zst (op_move_tmp (by rfl)) rfl (by dsimp only [zS, zN, zH, zT]) ?_
       refine al_split 55 rfl (fun hg10 => ?_) (fun hg10 => ?_)
       ·
        (try simp only [y1, y2, y3, y4, y5, y6, y7, y8, y9, y0, List.length_map] at hg10)
        apply al_normT
        · (try dsimp only [zS, zN, zH, zT]); try exact rfl
        refine zsw rfl rfl rfl (op_move_tmp (by rfl)) (by dsimp only [zS, zN, zH, zT]) ?_
        refine zsw rfl rfl rfl (op_eqI (by rfl) (by rfl)) (by dsimp only [zS, zN, zH, zT]) ?_
        refine zsw rfl rfl rfl (op_move_tmp (by rfl)) (by dsimp only [zS, zN, zH, zT]) ?_
        refine al_split 58 rfl (fun hg11 => ?_) (fun hg11 => ?_)
        ·
         (try simp only [y1, y2, y3, y4, y5, y6, y7, y8, y9, y0, List.length_map] at hg11)
         apply al_normT
         · (try dsimp only [zS, zN, zH, zT]); try exact rfl
         refine zuw rfl rfl rfl rfl (by dsimp only [zS, zN, zH, zT]) ?_
         refine zuw rfl rfl rfl rfl (by dsimp only [zS, zN, zH, zT]) ?_
         refine zsw rfl rfl rfl (op_pick_tt (by rfl) (val_const (by rfl))) (by dsimp only [zS, zN, zH, zT]) ?_
         refine zst (op_pick_tt (by rfl) (val_tmp (by rfl))) rfl (by dsimp only [zS, zN, zH, zT]) ?_
         refine zst (op_assign_tmp (by rfl)) rfl (by dsimp only [zS, zN, zH, zT]) ?_
         refine al_end rfl ?_
         refine then_normal ?_
         refine aw_ret ?_
         refine then_ret ?_
         refine retPost1 rfl rfl ?_
         first | exact rfl | (exfalso; simp_all; done) | (exfalso; simp_all; omega)
        ·
         (try simp only [y1, y2, y3, y4, y5, y6, y7, y8, y9, y0, List.length_map] at hg11)
         apply al_normT
         · (try dsimp only [zS, zN, zH, zT]); try exact rfl
         refine zsw rfl rfl rfl (op_move_tmp (by rfl)) (by dsimp only [zS, zN, zH, zT]) ?_
         refine zsw rfl rfl rfl (op_eqI (by rfl) (by rfl)) (by dsimp only [zS, zN, zH, zT]) ?_
         refine zsw rfl rfl rfl (op_pick_ff (by rfl) (val_tmp (by rfl))) (by dsimp only [zS, zN, zH, zT]) ?_
         refine zst (op_pick_tt (by rfl) (val_tmp (by rfl))) rfl (by dsimp only [zS, zN, zH, zT]) ?_
         refine zst (op_assign_tmp (by rfl)) rfl (by dsimp only [zS, zN, zH, zT]) ?_
         refine al_end rfl ?_
         refine then_normal ?_
         refine aw_ret ?_
         refine then_ret ?_
         refine retPost1 rfl rfl ?_
         first | exact rfl | (exfalso; simp_all; done) | (exfalso; simp_all; omega)
       ·
        (try simp only [y1, y2, y3, y4, y5, y6, y7, y8, y9, y0, List.length_map] at hg10)
        apply al_normT
        · (try dsimp only [zS, zN, zH, zT]); try exact rfl
        refine zuw rfl rfl rfl rfl (by dsimp only [zS, zN, zH, zT]) ?_
        refine zuw rfl rfl rfl rfl (by dsimp only [zS, zN, zH, zT]) ?_
        refine zuw rfl rfl rfl rfl (by dsimp only [zS, zN, zH, zT]) ?_
        refine zun rfl rfl rfl (by dsimp only [zS, zN, zH, zT]) ?_
        refine zun rfl rfl rfl (by dsimp only [zS, zN, zH, zT]) ?_
        refine zuw rfl rfl rfl rfl (by dsimp only [zS, zN, zH, zT]) ?_
        refine zst (op_pick_ff (by rfl) (val_const (by rfl))) rfl (by dsimp only [zS, zN, zH, zT]) ?_
        refine zst (op_assign_tmp (by rfl)) rfl (by dsimp only [zS, zN, zH, zT]) ?_
        refine al_end rfl ?_
        refine then_normal ?_
        refine aw_ret ?_
        refine then_ret ?_
        refine retPost1 rfl rfl ?_
        first | exact rfl | (exfalso; simp_all; done) | (exfalso; simp_all; omega)
      ·
       (try simp only [y1, y2, y3, y4, y5, y6, y7, y8, y9, y0, List.length_map] at hg9)
       apply al_normT
       · (try dsimp only [zS, zN, zH, zT]); try exact rfl
       refine zuw rfl rfl rfl rfl (by dsimp only [zS, zN, zH, zT]) ?_
       refine zuw rfl rfl rfl rfl (by dsimp only [zS, zN, zH, zT]) ?_
       refine zuw rfl rfl rfl rfl (by dsimp only [zS, zN, zH, zT]) ?_
       refine zuw rfl rfl rfl rfl (by dsimp only [zS, zN, zH, zT]) ?_
       refine zuw rfl rfl rfl rfl (by dsimp only [zS, zN, zH, zT]) ?_
       refine zuw rfl rfl rfl rfl (by dsimp only [zS, zN, zH, zT]) ?_
       refine zst (op_pick_ff (by rfl) (val_const (by rfl))) rfl (by dsimp only [zS, zN, zH, zT]) ?_
       refine zst (op_move_tmp (by rfl)) rfl (by dsimp only [zS, zN, zH, zT]) ?_
       refine zuw rfl rfl rfl rfl (by dsimp only [zS, zN, zH, zT]) ?_
       refine zuw rfl rfl rfl rfl (by dsimp only [zS, zN, zH, zT]) ?_
       refine zuw rfl rfl rfl rfl (by dsimp only [zS, zN, zH, zT]) ?_
       refine zun rfl rfl rfl (by dsimp only [zS, zN, zH, zT]) ?_
       refine zun rfl rfl rfl (by dsimp only [zS, zN, zH, zT]) ?_
       refine zuw rfl rfl rfl rfl (by dsimp only [zS, zN, zH, zT]) ?_
       refine zst (op_pick_ff (by rfl) (val_const (by rfl))) rfl (by dsimp only [zS, zN, zH, zT]) ?_
       refine zst (op_assign_tmp (by rfl)) rfl (by dsimp only [zS, zN, zH, zT]) ?_
       refine al_end rfl ?_
       refine then_normal ?_
       refine aw_ret ?_
       refine then_ret ?_
       refine retPost1 rfl rfl ?_
       first | exact rfl | (exfalso; simp_all; done) | (exfalso; simp_all; omega)
    ·
     (try simp only [y1, y2, y3, y4, y5, y6, y7, y8, y9, y0, List.length_map] at hc5)
     have hg1 : g = true := by simpa using hc5
     rw [hg1] at hg
     refine aw_skip ?_
     refine then_normal ?_
     refine aw_seq ?_
     refine aw_seq ?_
     refine aw_region ?_
     refine zst (op_move_tmp (by rfl)) rfl (by dsimp only [zS, zN, zH, zT]) ?_
     refine zst (op_neI (by rfl) (by rfl)) rfl (by dsimp only [zS, zN, zH, zT]) ?_
     refine al_end rfl ?_
     refine then_normal ?_
     refine aw_cond rfl (fun hc12 => ?_) (fun hc12 => ?_)
     ·
      (try simp only [y1, y2, y3, y4, y5, y6, y7, y8, y9, y0, List.length_map] at hc12)
      obtain ⟨rfl, rfl⟩ := bytes_err hE hg.symm hc12
      refine aw_seq ?_
      refine aw_region ?_
      refine zst (op_move_tmp (by rfl)) rfl (by dsimp only [zS, zN, zH, zT]) ?_
      refine zst (op_eqI (by rfl) (by rfl)) rfl (by dsimp only [zS, zN, zH, zT]) ?_
      refine zst (op_move_tmp (by rfl)) rfl (by dsimp only [zS, zN, zH, zT]) ?_
      refine zsw rfl rfl rfl (op_move_tmp (by rfl)) (by dsimp only [zS, zN, zH, zT]) ?_
      refine zsw rfl rfl rfl (op_eqS (by rfl) (by rfl)) (by dsimp only [zS, zN, zH, zT]) ?_
      refine zst (op_pick_tt (by rfl) (val_tmp (by rfl))) rfl (by dsimp only [zS, zN, zH, zT]) ?_
      refine zst (op_assign_tmp (by rfl)) rfl (by dsimp only [zS, zN, zH, zT]) ?_
      refine al_end rfl ?_
      refine then_normal ?_
      refine aw_ret ?_
      refine then_ret ?_
      refine retPost1 rfl rfl ?_
      exact rfl
     ·
      (try simp only [y1, y2, y3, y4, y5, y6, y7, y8, y9, y0, List.length_map] at hc12)
      have he : e = 0 := by simpa using hc12
      obtain ⟨hs0, hD, hcut⟩ := bytes_ok hE hg.symm he hf wl
      refine aw_skip ?_
      refine then_normal ?_
      refine aw_seq ?_
      refine aw_region ?_
      refine zst (op_move_tmp (by rfl)) rfl (by dsimp only [zS, zN, zH, zT]) ?_
      refine zst (op_callF Try.func24 (by rfl) (by rfl) (.tmp (by rfl) .nil) (read_ok _ _)) rfl (by dsimp only [zS, zN, zH, zT]) ?_
      refine zst (op_assign_tmp (by rfl)) rfl (by dsimp only [zS, zN, zH, zT]) ?_
      refine al_end rfl ?_
      refine then_normal ?_
      refine aw_seq ?_
      refine aw_region ?_
      refine zst (op_move_tmp (by rfl)) rfl (by dsimp only [zS, zN, zH, zT]) ?_
      refine zst (op_callF Try.func25 (by rfl) (by rfl) (.tmp (by rfl) .nil) (pdec_at hD push_at)) rfl (by dsimp only [zS, zN, zH, zT]) ?_
      refine zst (op_move_tmp (by rfl)) rfl (by dsimp only [zS, zN, zH, zT]) ?_
      refine zst (op_extract (by rfl) (by rfl)) rfl (by dsimp only [zS, zN, zH, zT]) ?_
      refine zst (op_extract (by rfl) (by rfl)) rfl (by dsimp only [zS, zN, zH, zT]) ?_
      refine zst (op_assign_tmp (by rfl)) rfl (by dsimp only [zS, zN, zH, zT]) ?_
      refine zst (op_assign_tmp (by rfl)) rfl (by dsimp only [zS, zN, zH, zT]) ?_
      refine al_end rfl ?_
      refine then_normal ?_
      refine aw_seq ?_
      refine aw_seq ?_
      refine aw_region ?_
      refine zst (op_move_tmp (by rfl)) rfl (by dsimp only [zS, zN, zH, zT]) ?_
      refine zst (op_neI (by rfl) (by rfl)) rfl (by dsimp only [zS, zN, zH, zT]) ?_
      refine zst (op_move_tmp (by rfl)) rfl (by dsimp only [zS, zN, zH, zT]) ?_
      refine zsw rfl rfl rfl (op_move_tmp (by rfl)) (by dsimp only [zS, zN, zH, zT]) ?_
      refine zsw rfl rfl rfl (op_callF Try.func26 (by rfl) (by rfl) (.tmp (by rfl) .nil) (end_ok _ _ [] false (setB_at push_at))) (by dsimp only [zS, zN, zH, zT]) ?_
      refine zsw rfl rfl rfl (op_neI (by rfl) (by rfl)) (by dsimp only [zS, zN, zH, zT]) ?_
      refine zst (op_pick_ff (by rfl) (val_tmp (by rfl))) rfl (by dsimp only [zS, zN, zH, zT]) ?_
      refine zst (op_move_tmp (by rfl)) rfl (by dsimp only [zS, zN, zH, zT]) ?_
      refine zsw rfl rfl rfl (op_move_tmp (by rfl)) (by dsimp only [zS, zN, zH, zT]) ?_
      refine zsw rfl rfl rfl (op_lenL Try.underlying37 (by first | exact LL.d _ _ | exact LL.own _ _ _ | exact LL.nil _ | assumption)) (by dsimp only [zS, zN, zH, zT]) ?_
      refine zsw rfl rfl rfl (op_move_tmp (by rfl)) (by dsimp only [zS, zN, zH, zT]) ?_
      refine zsw rfl rfl rfl (op_lenL Try.underlying37 (by first | exact LL.d _ _ | exact LL.own _ _ _ | exact LL.nil _ | assumption)) (by dsimp only [zS, zN, zH, zT]) ?_
      refine zsw rfl rfl rfl (op_neI (by rfl) (by rfl)) (by dsimp only [zS, zN, zH, zT]) ?_
      refine zst (op_pick_ff (by rfl) (val_tmp (by rfl))) rfl (by dsimp only [zS, zN, zH, zT]) ?_
      refine al_end rfl ?_
      refine then_normal ?_
      refine aw_cond rfl (fun hc13 => ?_) (fun hc13 => ?_)
      ·
       (try simp only [y1, y2, y3, y4, y5, y6, y7, y8, y9, y0, List.length_map] at hc13)
       simp at hc13
      ·
       (try simp only [y1, y2, y3, y4, y5, y6, y7, y8, y9, y0, List.length_map] at hc13)
       refine aw_skip ?_
       refine then_normal ?_
       refine aw_seq ?_
       refine aw_seq ?_
       refine aw_region ?_
       refine zst (op_move_tmp (by rfl)) rfl (by dsimp only [zS, zN, zH, zT]) ?_
       refine zst (op_lenL Try.underlying37 (by first | exact LL.d _ _ | exact LL.own _ _ _ | exact LL.nil _ | assumption)) rfl (by dsimp only [zS, zN, zH, zT]) ?_
       refine zst (op_move_const (by rfl)) rfl (by dsimp only [zS, zN, zH, zT]) ?_
       refine al_end rfl ?_
       refine then_normal ?_
       refine aw_block ?_
       apply aw_loopF (fun n T H => ∃ (j : Nat), T = ((.d (.lst 8 (l.map oD))) :: (.d (I c)) :: .un :: .un :: .un :: .un :: .un :: .un :: (.d (S s)) :: .un :: .un :: (.d (.lst 8 (l.map oD))) :: .un :: .un :: .un :: .un :: .un :: .un :: .un :: .un :: .un :: .un :: .un :: .un :: .un :: .un :: .un :: .un :: .un :: .un :: .un :: .un :: .un :: .un :: .un :: .un :: .un :: .un :: .un :: .un :: .un :: .un :: .un :: .un :: .un :: .un :: .un :: .un :: .un :: .un :: .un :: .un :: .un :: .un :: .un :: .un :: .un :: .un :: .un :: .un :: .un :: .un :: .un :: .un :: .un :: .un :: .un :: .un :: .un :: .un :: .un :: .un :: .un :: .un :: .un :: .un :: .un :: .un :: .un :: .un :: .un :: .un :: .un :: .un :: .un :: .un :: .un :: .un :: .un :: .un :: .un :: .un :: (.d (.lst 8 (l.map oD))) :: (.d (I (l.map oD).length)) :: (.d (I j)) :: .un :: .un :: .un :: .un :: .un :: .un :: .un :: .un :: .un :: .un :: .un :: .un :: .un :: .un :: .un :: .un :: .un :: .un :: .un :: .un :: .un :: .un :: .un :: .un :: .un :: .un :: .un :: .un :: .un :: .un :: .un :: .un :: .un :: .un :: .un :: .un :: .un :: .un :: .un :: .un :: .un :: .un :: .un :: .un :: .un :: .un :: .un :: .un :: .un :: .un :: .un :: .un :: .un :: .un :: .un :: .un :: .un :: .un :: .un :: .un :: .un :: .un :: .un :: .un :: .un :: .un :: .un :: .un :: .un :: .un :: .un :: .un :: .un :: .un :: .un :: .un :: .un :: []) ∧ j ≤ l.length ∧ n = l.length - j) (l.length) (true :: true :: false :: false :: false :: false :: false :: false :: true :: false :: false :: true :: false :: false :: false :: false :: false :: false :: false :: false :: false :: false :: false :: false :: false :: false :: false :: false :: false :: false :: false :: false :: false :: false :: false :: false :: false :: false :: false :: false :: false :: false :: false :: false :: false :: false :: false :: false :: false :: false :: false :: false :: false :: false :: false :: false :: false :: false :: false :: false :: false :: false :: false :: false :: false :: false :: false :: false :: false :: false :: false :: false :: false :: false :: false :: false :: false :: false :: false :: false :: false :: false :: false :: false :: false :: false :: false :: false :: false :: false :: false :: false :: true :: true :: true :: false :: false :: false :: false :: false :: false :: false :: false :: false :: false :: false :: false :: false :: false :: false :: false :: false :: false :: false :: false :: false :: false :: false :: false :: false :: false :: false :: false :: false :: false :: false :: false :: false :: false :: false :: false :: false :: false :: false :: false :: false :: false :: false :: false :: false :: false :: false :: false :: false :: false :: false :: false :: false :: false :: false :: false :: false :: false :: false :: false :: false :: false :: false :: false :: false :: false :: false :: false :: false :: false :: false :: false :: false :: false :: false :: false :: false :: [])
       · (try dsimp only [maskT]); try exact rfl
       · rfl
       · exact ⟨0, rfl, by omega, rfl⟩
       rintro n T H ⟨j, rfl, hj, rfl⟩
       refine aw_seq ?_
       refine aw_region ?_
       refine zst (op_ltI (by rfl) (by rfl)) rfl (by dsimp only [zS, zN, zH, zT]) ?_
       refine al_end rfl ?_
       refine then_normal ?_
       refine aw_seq ?_
       refine aw_cond rfl (fun hc14 => ?_) (fun hc14 => ?_)
       ·
        (try simp only [y1, y2, y3, y4, y5, y6, y7, y8, y9, y0, List.length_map] at hc14)
        (try simp only [List.length_map] at hc14)
        have hlt : j < l.length := by omega
        obtain ⟨o, hx1⟩ : ∃ z0, l[j]? = some z0 := ⟨_, List.getElem?_eq_getElem hlt⟩
        have ho := List.mem_of_getElem? hx1
        have h20 := (fewP_parts (hf o ho)).1
        refine aw_skip ?_
        refine then_normal ?_
        refine aw_seq ?_
        refine aw_block ?_
        refine aw_seq ?_
        refine aw_region ?_
        refine zst (op_move_tmp (by rfl)) rfl (by dsimp only [zS, zN, zH, zT]) ?_
        refine zst (op_indexAddr (z := oD o) (cs := oC o) Try.underlying37 Sz36 (LL.d _ _) (by rfl) (by omega) (by rw [List.getElem?_map, show ((j : Nat) : Int).toNat = j from rfl, hx1]; rfl) (by rfl)) rfl (by dsimp only [zS, zN, zH, zT]) ?_
        refine zst (op_load_elts (ds := oC o) Try.underlying36 (by rfl) Sz36 (by rfl) (Nat.le_of_ble_eq_true rfl) (by rfl)) rfl (by dsimp only [zS, zN, zH, zT]) ?_
        refine zst (op_alloc (Zr36) (by rfl)) rfl (by dsimp only [zS, zN, zH, zT]) ?_
        refine zst (op_assign_tmp (by rfl)) rfl (by dsimp only [zS, zN, zH, zT]) ?_
        refine zst (op_storeB (vs := (oC o).map .d) (b' := ⟨36, (oC o).map .d, false⟩) (H' := _) Sz36 (by rfl) push_at (by intro h; cases h) (by rfl) (by rfl) (Nat.le_of_ble_eq_true rfl) (by intro w hw; obtain ⟨d, hd, rfl⟩ := List.mem_map.1 hw; exact oC_one o d hd) (by rfl) (by rfl) rfl) rfl (by dsimp only [zS, zN, zH, zT]) ?_
        refine al_end rfl ?_
        refine then_normal ?_
        refine aw_seq ?_
        refine aw_seq ?_
        refine aw_draw [0, 0, 0, 0, 1, 0, 1, 0, 0, 0, 0, 0, 0, 1, 0, 0, 1, 0, 0, 0, 0, 0, 0, 0, 0, 1, 0, 1, 0, 0, 0] mixed (by kernel_rfl) ?_
        refine zd0 (fun H => (op_move_tmp (by rfl))) rfl (by dsimp only [zS, zN, zH, zT]) ?_
        refine zd0 (fun H => (op_move_tmp (by rfl))) rfl (by dsimp only [zS, zN, zH, zT]) ?_
        refine zd0 (fun H => (op_indexAddr (z := oD o) (cs := oC o) Try.underlying37 Sz36 (LL.d _ _) (by rfl) (by omega) (by rw [List.getElem?_map, show ((j : Nat) : Int).toNat = j from rfl, hx1]; rfl) (by rfl))) rfl (by dsimp only [zS, zN, zH, zT]) ?_
        refine zd0 (fun H => (by first | exact op_fieldAddr_ptr Try.underlying36 rfl Sz33 (by rfl) (by rfl) | exact op_fieldAddr_elt Try.underlying36 rfl Sz33 (by rfl) (by rfl) (by rfl))) rfl (by dsimp only [zS, zN, zH, zT]) ?_
        refine zd1 (by first | exact op_load_elt Try.underlying33 (by rfl) (by rfl) (by rfl) | exact op_load_ptr Try.underlying33 (by rfl) (by rfl) (by first | exact setB_at push_at | exact hq) (by rfl)) rfl (by dsimp only [zS, zN, zH, zT]) ?_
        refine zd0 (fun H => (by first | exact op_fieldAddr_ptr Try.underlying36 rfl Sz33 (by rfl) (by rfl) | exact op_fieldAddr_elt Try.underlying36 rfl Sz33 (by rfl) (by rfl) (by rfl))) rfl (by dsimp only [zS, zN, zH, zT]) ?_
        refine zd1 (by first | exact op_load_elt Try.underlying33 (by rfl) (by rfl) (by rfl) | exact op_load_ptr Try.underlying33 (by rfl) (by rfl) (by first | exact setB_at push_at | exact hq) (by rfl)) rfl (by dsimp only [zS, zN, zH, zT]) ?_
        refine zd0 (fun H => (op_neI (by rfl) (by rfl))) rfl (by dsimp only [zS, zN, zH, zT]) ?_
        refine zd0 (fun H => (op_move_tmp (by rfl))) rfl (by dsimp only [zS, zN, zH, zT]) ?_
        refine drun_split 107 rfl (fun hg15 => ?_) (fun hg15 => ?_)
        ·
         (try simp only [y1, y2, y3, y4, y5, y6, y7, y8, y9, y0, List.length_map] at hg15)
         apply drun_normT
         · (try dsimp only [zS, zN, zH, zT]); try exact rfl
         simp at hg15
        ·
         (try simp only [y1, y2, y3, y4, y5, y6, y7, y8, y9, y0, List.length_map] at hg15)
         apply drun_normT
         · (try dsimp only [zS, zN, zH, zT]); try exact rfl
         refine zd0w rfl rfl rfl (fun H => (op_move_tmp (by rfl))) (by dsimp only [zS, zN, zH, zT]) ?_
         refine zd0w rfl rfl rfl (fun H => (op_move_tmp (by rfl))) (by dsimp only [zS, zN, zH, zT]) ?_
         refine zd0w rfl rfl rfl (fun H => (op_indexAddr (z := oD o) (cs := oC o) Try.underlying37 Sz36 (LL.d _ _) (by rfl) (by omega) (by rw [List.getElem?_map, show ((j : Nat) : Int).toNat = j from rfl, hx1]; rfl) (by rfl))) (by dsimp only [zS, zN, zH, zT]) ?_
         refine zd0w rfl rfl rfl (fun H => (by first | exact op_fieldAddr_ptr Try.underlying36 rfl Sz34 (by rfl) (by rfl) | exact op_fieldAddr_elt Try.underlying36 rfl Sz34 (by rfl) (by rfl) (by rfl))) (by dsimp only [zS, zN, zH, zT]) ?_
         refine zd1w rfl rfl rfl (by first | exact op_load_elt Try.underlying34 (by rfl) (by rfl) (by rfl) | exact op_load_ptr Try.underlying34 (by rfl) (by rfl) (by first | exact setB_at push_at | exact hq) (by rfl)) (by dsimp only [zS, zN, zH, zT]) ?_
         refine zd0w rfl rfl rfl (fun H => (op_lenL Try.underlying34 (by first | exact LL.d _ _ | exact LL.own _ _ _ | exact LL.nil _ | assumption))) (by dsimp only [zS, zN, zH, zT]) ?_
         refine zd0w rfl rfl rfl (fun H => (by first | exact op_fieldAddr_ptr Try.underlying36 rfl Sz34 (by rfl) (by rfl) | exact op_fieldAddr_elt Try.underlying36 rfl Sz34 (by rfl) (by rfl) (by rfl))) (by dsimp only [zS, zN, zH, zT]) ?_
         refine zd1w rfl rfl rfl (by first | exact op_load_elt Try.underlying34 (by rfl) (by rfl) (by rfl) | exact op_load_ptr Try.underlying34 (by rfl) (by rfl) (by first | exact setB_at push_at | exact hq) (by rfl)) (by dsimp only [zS, zN, zH, zT]) ?_
         refine zd0w rfl rfl rfl (fun H => (op_lenL Try.underlying34 (by first | exact LL.d _ _ | exact LL.own _ _ _ | exact LL.nil _ | assumption))) (by dsimp only [zS, zN, zH, zT]) ?_
         refine zd0w rfl rfl rfl (fun H => (op_neI (by rfl) (by rfl))) (by dsimp only [zS, zN, zH, zT]) ?_
         refine zd0 (fun H => (op_pick_ff (by rfl) (val_tmp (by rfl)))) rfl (by dsimp only [zS, zN, zH, zT]) ?_
         refine zd0 (fun H => (op_move_tmp (by rfl))) rfl (by dsimp only [zS, zN, zH, zT]) ?_
         refine drun_split 119 rfl (fun hg16 => ?_) (fun hg16 => ?_)
         ·
          (try simp only [y1, y2, y3, y4, y5, y6, y7, y8, y9, y0, List.length_map] at hg16)
          apply drun_normT
          · (try dsimp only [zS, zN, zH, zT]); try exact rfl
          simp at hg16
         ·
          (try simp only [y1, y2, y3, y4, y5, y6, y7, y8, y9, y0, List.length_map] at hg16)
          apply drun_normT
          · (try dsimp only [zS, zN, zH, zT]); try exact rfl
          refine zd0w rfl rfl rfl (fun H => (op_move_tmp (by rfl))) (by dsimp only [zS, zN, zH, zT]) ?_
          refine zd0w rfl rfl rfl (fun H => (op_move_tmp (by rfl))) (by dsimp only [zS, zN, zH, zT]) ?_
          refine zd0w rfl rfl rfl (fun H => (op_indexAddr (z := oD o) (cs := oC o) Try.underlying37 Sz36 (LL.d _ _) (by rfl) (by omega) (by rw [List.getElem?_map, show ((j : Nat) : Int).toNat = j from rfl, hx1]; rfl) (by rfl))) (by dsimp only [zS, zN, zH, zT]) ?_
          refine zd0w rfl rfl rfl (fun H => (by first | exact op_fieldAddr_ptr Try.underlying36 rfl Sz26 (by rfl) (by rfl) | exact op_fieldAddr_elt Try.underlying36 rfl Sz26 (by rfl) (by rfl) (by rfl))) (by dsimp only [zS, zN, zH, zT]) ?_
          refine zd1w rfl rfl rfl (op_load_elts (ds := vC o.val) Try.underlying26 (by rfl) Sz26 (by rfl) (Nat.le_of_ble_eq_true rfl) (by rw [vC_eq]; rfl)) (by dsimp only [zS, zN, zH, zT]) ?_
          refine zd0w rfl rfl rfl (fun H => (by first | exact op_fieldAddr_ptr Try.underlying36 rfl Sz26 (by rfl) (by rfl) | exact op_fieldAddr_elt Try.underlying36 rfl Sz26 (by rfl) (by rfl) (by rfl))) (by dsimp only [zS, zN, zH, zT]) ?_
          refine zd1w rfl rfl rfl (op_load_ptrsD (vC o.val) Try.underlying26 (by rfl) Sz26 (by rfl) (setB_at push_at) (Nat.le_of_ble_eq_true rfl) (by rw [vC_eq]; rfl) (vC_one _)) (by dsimp only [zS, zN, zH, zT]) ?_
          refine zd0w rfl rfl rfl (fun H => (op_callF Try.func15 (by rfl) (by rfl) (.tmp (by rfl) (.tmp (by rfl) .nil)) (vsame_ok _ o.val o.val (few_small 7 _ (fewP_parts (hf o ho)).2.1) (few_small 7 _ (fewP_parts (hf o ho)).2.1)))) (by dsimp only [zS, zN, zH, zT]) ?_
          refine zd0w rfl rfl rfl (fun H => (op_not (by rfl))) (by dsimp only [zS, zN, zH, zT]) ?_
          refine zd0 (fun H => (op_pick_ff (by rfl) (val_tmp (by rfl)))) rfl (by dsimp only [zS, zN, zH, zT]) ?_
          refine drun_end rfl ?_
          refine then_normal ?_
          refine aw_cond rfl (fun hc17 => ?_) (fun hc17 => ?_)
          ·
           (try simp only [y1, y2, y3, y4, y5, y6, y7, y8, y9, y0, List.length_map] at hc17)
           simp [cmp_refl] at hc17
          ·
           (try simp only [y1, y2, y3, y4, y5, y6, y7, y8, y9, y0, List.length_map] at hc17)
           refine aw_skip ?_
           refine then_normal ?_
           refine aw_seq ?_
           refine aw_region ?_
           refine zst (by first | exact op_fieldAddr_ptr Try.underlying36 rfl Sz34 (by rfl) (by rfl) | exact op_fieldAddr_elt Try.underlying36 rfl Sz34 (by rfl) (by rfl) (by rfl)) rfl (by dsimp only [zS, zN, zH, zT]) ?_
           refine zst (by first | exact op_load_elt Try.underlying34 (by rfl) (by rfl) (by rfl) | exact op_load_ptr Try.underlying34 (by rfl) (by rfl) (by first | exact setB_at push_at | exact hq) (by rfl)) rfl (by dsimp only [zS, zN, zH, zT]) ?_
           refine zst (op_lenL Try.underlying34 (by first | exact LL.d _ _ | exact LL.own _ _ _ | exact LL.nil _ | assumption)) rfl (by dsimp only [zS, zN, zH, zT]) ?_
           refine zst (op_move_const (by rfl)) rfl (by dsimp only [zS, zN, zH, zT]) ?_
           refine al_end rfl ?_
           refine then_normal ?_
           refine aw_block ?_
           apply aw_loopF (fun n T H => ∃ (i : Nat) (q : Nat), T = ((.d (.lst 8 (l.map oD))) :: (.d (I c)) :: .un :: .un :: .un :: .un :: .un :: .un :: (.d (S s)) :: .un :: .un :: (.d (.lst 8 (l.map oD))) :: .un :: (.d (I j)) :: (.ptr q 0) :: .un :: .un :: .un :: .un :: .un :: .un :: .un :: .un :: .un :: .un :: .un :: .un :: .un :: .un :: .un :: .un :: .un :: .un :: .un :: .un :: .un :: .un :: .un :: .un :: .un :: .un :: .un :: .un :: .un :: .un :: .un :: .un :: .un :: .un :: .un :: .un :: .un :: .un :: .un :: .un :: .un :: .un :: .un :: .un :: .un :: .un :: .un :: .un :: .un :: .un :: .un :: .un :: .un :: .un :: .un :: .un :: .un :: .un :: .un :: .un :: .un :: .un :: .un :: .un :: .un :: .un :: .un :: .un :: .un :: .un :: .un :: .un :: .un :: .un :: .un :: .un :: .un :: (.d (.lst 8 (l.map oD))) :: (.d (I (l.map oD).length)) :: (.d (I j)) :: .un :: .un :: .un :: .un :: .un :: .un :: .un :: .un :: .un :: .un :: .un :: .un :: .un :: .un :: .un :: .un :: .un :: .un :: .un :: .un :: .un :: .un :: .un :: .un :: .un :: .un :: .un :: .un :: .un :: .un :: .un :: .un :: .un :: .un :: .un :: .un :: (.d (.lst 1 (o.path.map S))) :: (.d (I (o.path.map S).length)) :: (.d (I i)) :: .un :: .un :: .un :: .un :: .un :: .un :: .un :: .un :: .un :: .un :: .un :: .un :: .un :: .un :: .un :: .un :: .un :: .un :: .un :: .un :: .un :: .un :: .un :: .un :: .un :: .un :: .un :: .un :: .un :: .un :: .un :: .un :: .un :: .un :: .un :: .un :: .un :: .un :: []) ∧ i ≤ o.path.length ∧ n = o.path.length - i ∧ H.blks[q]? = some ⟨36, (oC o).map .d, false⟩) (o.path.length) (true :: true :: false :: false :: false :: false :: false :: false :: true :: false :: false :: true :: false :: true :: true :: false :: false :: false :: false :: false :: false :: false :: false :: false :: false :: false :: false :: false :: false :: false :: false :: false :: false :: false :: false :: false :: false :: false :: false :: false :: false :: false :: false :: false :: false :: false :: false :: false :: false :: false :: false :: false :: false :: false :: false :: false :: false :: false :: false :: false :: false :: false :: false :: false :: false :: false :: false :: false :: false :: false :: false :: false :: false :: false :: false :: false :: false :: false :: false :: false :: false :: false :: false :: false :: false :: false :: false :: false :: false :: false :: false :: false :: true :: true :: true :: false :: false :: false :: false :: false :: false :: false :: false :: false :: false :: false :: false :: false :: false :: false :: false :: false :: false :: false :: false :: false :: false :: false :: false :: false :: false :: false :: false :: false :: false :: false :: false :: false :: false :: false :: false :: true :: true :: true :: false :: false :: false :: false :: false :: false :: false :: false :: false :: false :: false :: false :: false :: false :: false :: false :: false :: false :: false :: false :: false :: false :: false :: false :: false :: false :: false :: false :: false :: false :: false :: false :: false :: false :: false :: false :: false :: false :: [])
           · (try dsimp only [maskT]); try exact rfl
           · rfl
           · exact ⟨0, _, rfl, by omega, rfl, setB_at push_at⟩
           rintro n T H ⟨i, q, rfl, hi, rfl, hq⟩
           refine aw_seq ?_
           refine aw_region ?_
           refine zst (op_ltI (by rfl) (by rfl)) rfl (by dsimp only [zS, zN, zH, zT]) ?_
           refine al_end rfl ?_
           refine then_normal ?_
           refine aw_seq ?_
           refine aw_cond rfl (fun hc18 => ?_) (fun hc18 => ?_)
           ·
            (try simp only [y1, y2, y3, y4, y5, y6, y7, y8, y9, y0, List.length_map] at hc18)
            (try simp only [List.length_map] at hc18)
            have hlt2 : i < o.path.length := by omega
            obtain ⟨y, hy1⟩ : ∃ z0, o.path[i]? = some z0 := ⟨_, List.getElem?_eq_getElem hlt2⟩
            refine aw_skip ?_
            refine then_normal ?_
            refine aw_seq ?_
            refine aw_block ?_
            refine aw_seq ?_
            refine aw_region ?_
            refine zst (op_move_tmp (by rfl)) rfl (by dsimp only [zS, zN, zH, zT]) ?_
            refine zst (op_assign_tmp (by rfl)) rfl (by dsimp only [zS, zN, zH, zT]) ?_
            refine al_end rfl ?_
            refine then_normal ?_
            refine aw_seq ?_
            refine aw_draw [0, 0, 0, 0, 1, 0, 0, 1, 0, 1, 0, 0, 1, 0] mixed (by kernel_rfl) ?_
            refine zd0 (fun H => (op_move_tmp (by rfl))) rfl (by dsimp only [zS, zN, zH, zT]) ?_
            refine zd0 (fun H => (op_move_tmp (by rfl))) rfl (by dsimp only [zS, zN, zH, zT]) ?_
            refine zd0 (fun H => (op_indexAddr (z := oD o) (cs := oC o) Try.underlying37 Sz36 (LL.d _ _) (by rfl) (by omega) (by rw [List.getElem?_map, show ((j : Nat) : Int).toNat = j from rfl, hx1]; rfl) (by rfl))) rfl (by dsimp only [zS, zN, zH, zT]) ?_
            refine zd0 (fun H => (by first | exact op_fieldAddr_ptr Try.underlying36 rfl Sz34 (by rfl) (by rfl) | exact op_fieldAddr_elt Try.underlying36 rfl Sz34 (by rfl) (by rfl) (by rfl))) rfl (by dsimp only [zS, zN, zH, zT]) ?_
            refine zd1 (by first | exact op_load_elt Try.underlying34 (by rfl) (by rfl) (by rfl) | exact op_load_ptr Try.underlying34 (by rfl) (by rfl) (by first | exact setB_at push_at | exact hq) (by rfl)) rfl (by dsimp only [zS, zN, zH, zT]) ?_
            refine zd0 (fun H => (op_move_tmp (by rfl))) rfl (by dsimp only [zS, zN, zH, zT]) ?_
            refine zd0 (fun H => (op_indexAddr Try.underlying34 Sz9 (LL.d _ _) (by rfl) (by omega) (show (o.path.map S)[((i : Nat) : Int).toNat]? = some (S y) by simp [hy1]) (by rfl))) rfl (by dsimp only [zS, zN, zH, zT]) ?_
            refine zd1 (by first | exact op_load_elt Try.underlying9 (by rfl) (by rfl) (by rfl) | exact op_load_ptr Try.underlying9 (by rfl) (by rfl) (by first | exact setB_at push_at | exact hq) (by rfl)) rfl (by dsimp only [zS, zN, zH, zT]) ?_
            refine zd0 (fun H => (by first | exact op_fieldAddr_ptr Try.underlying36 rfl Sz34 (by rfl) (by rfl) | exact op_fieldAddr_elt Try.underlying36 rfl Sz34 (by rfl) (by rfl) (by rfl))) rfl (by dsimp only [zS, zN, zH, zT]) ?_
            refine zd1 (by first | exact op_load_elt Try.underlying34 (by rfl) (by rfl) (by rfl) | exact op_load_ptr Try.underlying34 (by rfl) (by rfl) (by first | exact setB_at push_at | exact hq) (by rfl)) rfl (by dsimp only [zS, zN, zH, zT]) ?_
            refine zd0 (fun H => (op_move_tmp (by rfl))) rfl (by dsimp only [zS, zN, zH, zT]) ?_
            refine zd0 (fun H => (op_indexAddr Try.underlying34 Sz9 (LL.d _ _) (by rfl) (by omega) (show (o.path.map S)[((i : Nat) : Int).toNat]? = some (S y) by simp [hy1]) (by rfl))) rfl (by dsimp only [zS, zN, zH, zT]) ?_
            refine zd1 (by first | exact op_load_elt Try.underlying9 (by rfl) (by rfl) (by rfl) | exact op_load_ptr Try.underlying9 (by rfl) (by rfl) (by first | exact setB_at push_at | exact hq) (by rfl)) rfl (by dsimp only [zS, zN, zH, zT]) ?_
            refine zd0 (fun H => (op_neS (by rfl) (by rfl))) rfl (by dsimp only [zS, zN, zH, zT]) ?_
            refine drun_end rfl ?_
            refine then_normal ?_
            refine aw_cond rfl (fun hc19 => ?_) (fun hc19 => ?_)
            ·
             (try simp only [y1, y2, y3, y4, y5, y6, y7, y8, y9, y0, List.length_map] at hc19)
             simp at hc19
            ·
             (try simp only [y1, y2, y3, y4, y5, y6, y7, y8, y9, y0, List.length_map] at hc19)
             refine aw_skip ?_
             refine inBlock_normal (then_normal ?_)
             refine aw_region ?_
             refine zst (by first | exact op_add (by rfl) (by rfl) (wrap_i64 ⟨by omega, by omega⟩) | exact op_add (by rfl) (by rfl) (by rfl)) rfl (by dsimp only [zS, zN, zH, zT]) ?_
             refine zst (op_move_tmp (by rfl)) rfl (by dsimp only [zS, zN, zH, zT]) ?_
             refine al_end rfl ?_
             apply again_to (o.path.length - (i + 1)) (true :: true :: false :: false :: false :: false :: false :: false :: true :: false :: false :: true :: false :: true :: true :: false :: false :: false :: false :: false :: false :: false :: false :: false :: false :: false :: false :: false :: false :: false :: false :: false :: false :: false :: false :: false :: false :: false :: false :: false :: false :: false :: false :: false :: false :: false :: false :: false :: false :: false :: false :: false :: false :: false :: false :: false :: false :: false :: false :: false :: false :: false :: false :: false :: false :: false :: false :: false :: false :: false :: false :: false :: false :: false :: false :: false :: false :: false :: false :: false :: false :: false :: false :: false :: false :: false :: false :: false :: false :: false :: false :: false :: true :: true :: true :: false :: false :: false :: false :: false :: false :: false :: false :: false :: false :: false :: false :: false :: false :: false :: false :: false :: false :: false :: false :: false :: false :: false :: false :: false :: false :: false :: false :: false :: false :: false :: false :: false :: false :: false :: false :: true :: true :: true :: false :: false :: false :: false :: false :: false :: false :: false :: false :: false :: false :: false :: false :: false :: false :: false :: false :: false :: false :: false :: false :: false :: false :: false :: false :: false :: false :: false :: false :: false :: false :: false :: false :: false :: false :: false :: false :: false :: [])
             · (try dsimp only [maskT]); try exact rfl
             · rfl
             · omega
             exact ⟨i + 1, _, rfl, by omega, rfl, hq⟩
           ·
            (try simp only [y1, y2, y3, y4, y5, y6, y7, y8, y9, y0, List.length_map] at hc18)
            (try simp only [List.length_map] at hc18)
            have hie : i = o.path.length := by omega
            subst hie
            refine aw_exit ?_
            refine then_exit (again_exit (inBlock_here (inBlock_normal (then_normal ?_))))
            refine aw_region ?_
            refine zst (by first | exact op_add (by rfl) (by rfl) (wrap_i64 ⟨by omega, by omega⟩) | exact op_add (by rfl) (by rfl) (by rfl)) rfl (by dsimp only [zS, zN, zH, zT]) ?_
            refine zst (op_move_tmp (by rfl)) rfl (by dsimp only [zS, zN, zH, zT]) ?_
            refine al_end rfl ?_
            apply again_to (l.length - (j + 1)) (true :: true :: false :: false :: false :: false :: false :: false :: true :: false :: false :: true :: false :: false :: false :: false :: false :: false :: false :: false :: false :: false :: false :: false :: false :: false :: false :: false :: false :: false :: false :: false :: false :: false :: false :: false :: false :: false :: false :: false :: false :: false :: false :: false :: false :: false :: false :: false :: false :: false :: false :: false :: false :: false :: false :: false :: false :: false :: false :: false :: false :: false :: false :: false :: false :: false :: false :: false :: false :: false :: false :: false :: false :: false :: false :: false :: false :: false :: false :: false :: false :: false :: false :: false :: false :: false :: false :: false :: false :: false :: false :: false :: true :: true :: true :: false :: false :: false :: false :: false :: false :: false :: false :: false :: false :: false :: false :: false :: false :: false :: false :: false :: false :: false :: false :: false :: false :: false :: false :: false :: false :: false :: false :: false :: false :: false :: false :: false :: false :: false :: false :: false :: false :: false :: false :: false :: false :: false :: false :: false :: false :: false :: false :: false :: false :: false :: false :: false :: false :: false :: false :: false :: false :: false :: false :: false :: false :: false :: false :: false :: false :: false :: false :: false :: false :: false :: false :: false :: false :: false :: false :: false :: [])
            · (try dsimp only [maskT]); try exact rfl
            · rfl
            · omega
            exact ⟨j + 1, rfl, by omega, rfl⟩
       ·
        (try simp only [y1, y2, y3, y4, y5, y6, y7, y8, y9, y0, List.length_map] at hc14)
        (try simp only [List.length_map] at hc14)
        have hje : j = l.length := by omega
        subst hje
        obtain ⟨m, hm16, hcd⟩ := and16 c
        have hmod := Nat.mod_lt m hs0
        obtain ⟨⟨l2, e2⟩, st2, hD2⟩ : ∃ x y, decP (s.take (m % s.length)) = (x, y) := ⟨_, _, rfl⟩
        have hc2 := hcut _ hmod
        rw [hD2] at hc2
        obtain ⟨rfl, rfl⟩ := Prod.mk.inj hc2
        refine aw_exit ?_
        refine then_exit (again_exit (inBlock_here (then_normal ?_)))
        refine aw_seq ?_
        refine aw_region ?_
        refine zst (op_move_tmp (by rfl)) rfl (by dsimp only [zS, zN, zH, zT]) ?_
        refine zst (op_and (by rfl) (by rfl) hcd) rfl (by dsimp only [zS, zN, zH, zT]) ?_
        refine zst (op_move_tmp (by rfl)) rfl (by dsimp only [zS, zN, zH, zT]) ?_
        refine zst (op_lenS Try.underlying9 (by rfl)) rfl (by dsimp only [zS, zN, zH, zT]) ?_
        refine zst (op_rem (by rfl) (by rfl) (by omega) (show ((m : Nat) : Int).tmod (s.length : Int) = ((m % s.length : Nat) : Int) from rfl)) rfl (by dsimp only [zS, zN, zH, zT]) ?_
        refine zst (op_assign_tmp (by rfl)) rfl (by dsimp only [zS, zN, zH, zT]) ?_
        refine al_end rfl ?_
        refine then_normal ?_
        refine aw_seq ?_
        refine aw_region ?_
        refine zst (op_move_tmp (by rfl)) rfl (by dsimp only [zS, zN, zH, zT]) ?_
        refine zst (op_move_tmp (by rfl)) rfl (by dsimp only [zS, zN, zH, zT]) ?_
        refine zst (op_sliceS0 (s.take (m % s.length)) Try.underlying9 (by rfl) (by rfl) (by omega) (by omega) (by rfl)) rfl (by dsimp only [zS, zN, zH, zT]) ?_
        refine zst (op_callF Try.func24 (by rfl) (by rfl) (.tmp (by rfl) .nil) (read_ok _ _)) rfl (by dsimp only [zS, zN, zH, zT]) ?_
        refine zst (op_callF Try.func25 (by rfl) (by rfl) (.tmp (by rfl) .nil) (pdec_at hD2 push_at)) rfl (by dsimp only [zS, zN, zH, zT]) ?_
        refine zst (op_move_tmp (by rfl)) rfl (by dsimp only [zS, zN, zH, zT]) ?_
        refine zst (op_extract (by rfl) (by rfl)) rfl (by dsimp only [zS, zN, zH, zT]) ?_
        refine zst (op_extract (by rfl) (by rfl)) rfl (by dsimp only [zS, zN, zH, zT]) ?_
        refine zst (op_assign_tmp (by rfl)) rfl (by dsimp only [zS, zN, zH, zT]) ?_
        refine zst (op_assign_tmp (by rfl)) rfl (by dsimp only [zS, zN, zH, zT]) ?_
        refine al_end rfl ?_
        refine then_normal ?_
        refine aw_seq ?_
        refine aw_region ?_
        refine zst (op_move_tmp (by rfl)) rfl (by dsimp only [zS, zN, zH, zT]) ?_
        refine zst (op_eqI (by rfl) (by rfl)) rfl (by dsimp only [zS, zN, zH, zT]) ?_
        refine zst (op_move_tmp (by rfl)) rfl (by dsimp only [zS, zN, zH, zT]) ?_
        refine zsw rfl rfl rfl (op_move_tmp (by rfl)) (by dsimp only [zS, zN, zH, zT]) ?_
        refine zsw rfl rfl rfl (op_lenL Try.underlying37 (by first | exact LL.d _ _ | exact LL.own _ _ _ | exact LL.nil _ | assumption)) (by dsimp only [zS, zN, zH, zT]) ?_
        refine zsw rfl rfl rfl (op_eqI (by rfl) (by rfl)) (by dsimp only [zS, zN, zH, zT]) ?_
        refine zst (op_pick_tt (by rfl) (val_tmp (by rfl))) rfl (by dsimp only [zS, zN, zH, zT]) ?_
        refine zst (op_assign_tmp (by rfl)) rfl (by dsimp only [zS, zN, zH, zT]) ?_
        refine al_end rfl ?_
        refine then_normal ?_
        refine aw_ret ?_
        refine retPost1 rfl rfl ?_
        exact rfl
end Go.Proofs.Ytjamnhofbkgblaa
