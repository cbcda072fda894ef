/- Part 5 of what the law needs: PatH, ValRt, ArgVal, ArgOp, A20, PatchDone, PatD, OctV. -/
import Derived.Test.YtjamnhofbkgblaaPA4
import Derived.KernelRfl
import Derived.ChangeArms
namespace Go.Proofs.Ytjamnhofbkgblaa
open Go.AV Go.AV.Ord Go.AV.Oct Go.AV.Val Go.AV.Patch
set_option linter.unusedVariables false
set_option linter.unusedSimpArgs false
set_option maxRecDepth 100000 in
theorem phead_ok (Hs : HS) : ACalls Try.prog 9 [] Hs (Ret (.d (TF true)) Hs) := by
 refine ACalls.tidy1 ?_
 refine acalls_of_aw Try.func9 rfl ?_
 refine aw_start (T' := [.un, .un, .un, .un, .un, .un, .un, .un, .un, .un, .un, .un, .un, .un, .un, .un, .un, .un, .un, .un, .un, .un, .un, .un, .un]) rfl ?_
 refine aw_seq ?_
 refine aw_region ?_
 refine zst (op_assign_const (by rfl)) rfl (by dsimp only [zS, zN, zH, zT]) ?_
 refine al_end rfl ?_
 refine then_normal ?_
 refine aw_seq ?_
 refine aw_region ?_
 refine zst (op_callF Try.func14 (by rfl) (by rfl) (.const (by rfl) .nil) (ofInt_ok _ 5)) rfl (by dsimp only [zS, zN, zH, zT]) ?_
 refine zst (op_buildD (pl := [(0, 1), (1, 6)]) (fC (F.mk [110] (ofInt 5))) Try.underlying48 Zr48 (by kernel_rfl) (by rfl) (by rfl) (fill_field [110] (ofInt 5)) (fC_one _)) rfl (by dsimp only [zS, zN, zH, zT]) ?_
 refine zst (op_lit Try.underlying24 ZS48 (.cons (y := fD (F.mk [110] (ofInt 5))) (by rfl) (.nil _)) (by rfl) (lit_f _) (lit_f1 _) (by decide)) rfl (by dsimp only [zS, zN, zH, zT]) ?_
 refine zst (op_callF Try.func18 (by rfl) (by rfl) (.tmp (by rfl) .nil) (ofMap_ok _ _ [F.mk [110] (ofInt 5)] (LL.own _ _ _) (by decide))) rfl (by dsimp only [zS, zN, zH, zT]) ?_
 refine zst (op_lit Try.underlying34 ZS9 (.cons (by rfl) (.nil _)) (by rfl) (by simp [BY, S, I, TF, DV.cells]) (by simp [flat, BY, S, I, TF, DV.cells, DV.one]) (by decide)) rfl (by dsimp only [zS, zN, zH, zT]) ?_
 refine zst (op_callF Try.func14 (by rfl) (by rfl) (.const (by rfl) .nil) (ofInt_ok _ 2)) rfl (by dsimp only [zS, zN, zH, zT]) ?_
 refine zst (op_buildO (Opn.mk 3 [[110]] (ofInt 2)) (.own none 1 [S [110]]) Try.underlying36 Zr36 (by kernel_rfl) (by rfl) (by rfl) (by rfl) (by rfl) (LL.own _ _ _)) rfl (by dsimp only [zS, zN, zH, zT]) ?_
 refine zst (op_lit Try.underlying37 ZS36 (.cons (y := oD (Opn.mk 3 [[110]] (ofInt 2))) (by rfl) (.nil _)) (by rfl) (lit_o [(Opn.mk 3 [[110]] (ofInt 2))]) (lit_o1 [(Opn.mk 3 [[110]] (ofInt 2))]) (by decide)) rfl (by dsimp only [zS, zN, zH, zT]) ?_
 refine zst (op_callF Try.func12 (by rfl) (by rfl) (.tmp (by rfl) (.tmp (by rfl) .nil)) ((by have h := papply_ok Hs (ofMapV [F.mk [110] (ofInt 5)]) (.own none 8 ([(Opn.mk 3 [[110]] (ofInt 2))].map oD)) [(Opn.mk 3 [[110]] (ofInt 2))] 8 (by decide) (LL.own _ _ _) (by decide) head_few (by intro o ho; simp at ho; subst ho; exact BndV.int _); rw [head_apply] at h; exact h))) rfl (by dsimp only [zS, zN, zH, zT]) ?_
 refine zst (op_move_tmp (by rfl)) rfl (by dsimp only [zS, zN, zH, zT]) ?_
 refine zst (op_extract (by rfl) (by rfl)) rfl (by dsimp only [zS, zN, zH, zT]) ?_
 refine zst (op_extract (by rfl) (by rfl)) rfl (by dsimp only [zS, zN, zH, zT]) ?_
 refine zst (op_alloc (Zr26) (by rfl)) rfl (by dsimp only [zS, zN, zH, zT]) ?_
 refine zst (op_stV (ofMapV [F.mk [110] (ofInt 7)]) Sz26 (by rfl) push_at (by first | exact VBl.z _ | exact VBl.v _ _) (by rfl)) rfl (by dsimp only [zS, zN, zH, zT]) ?_
 refine zst (op_assign_tmp (by rfl)) rfl (by dsimp only [zS, zN, zH, zT]) ?_
 refine al_end rfl ?_
 refine then_normal ?_
 refine aw_seq ?_
 refine aw_draw [0, 0, 0, 1, 0, 0, 0, 0, 0, 0, 0] mixed (by kernel_rfl) ?_
 refine zd0 (fun H => (op_move_tmp (by rfl))) rfl (by dsimp only [zS, zN, zH, zT]) ?_
 refine zd0 (fun H => (op_eqI (by rfl) (by rfl))) rfl (by dsimp only [zS, zN, zH, zT]) ?_
 refine zd0 (fun H => (op_move_tmp (by rfl))) rfl (by dsimp only [zS, zN, zH, zT]) ?_
 refine zd1w rfl rfl rfl (op_ldV (ofMapV [F.mk [110] (ofInt 7)]) Try.underlying26 (by rfl) Sz26 (by rfl) (setB_at push_at) (by first | exact VBl.v _ _ | exact VBl.z _)) (by dsimp only [zS, zN, zH, zT]) ?_
 refine zd0w rfl rfl rfl (fun H => (op_callF Try.func14 (by rfl) (by rfl) (.const (by rfl) .nil) (ofInt_ok _ 7))) (by dsimp only [zS, zN, zH, zT]) ?_
 refine zd0w rfl rfl rfl (fun H => (op_buildD (pl := [(0, 1), (1, 6)]) (fC (F.mk [110] (ofInt 7))) Try.underlying48 Zr48 (by kernel_rfl) (by rfl) (by rfl) (fill_field [110] (ofInt 7)) (fC_one _))) (by dsimp only [zS, zN, zH, zT]) ?_
 refine zd0w rfl rfl rfl (fun H => (op_lit Try.underlying24 ZS48 (.cons (y := fD (F.mk [110] (ofInt 7))) (by rfl) (.nil _)) (by rfl) (lit_f _) (lit_f1 _) (by decide))) (by dsimp only [zS, zN, zH, zT]) ?_
 refine zd0w rfl rfl rfl (fun H => (op_callF Try.func18 (by rfl) (by rfl) (.tmp (by rfl) .nil) (ofMap_ok _ _ [F.mk [110] (ofInt 7)] (LL.own _ _ _) (by decide)))) (by dsimp only [zS, zN, zH, zT]) ?_
 refine zd0w rfl rfl rfl (fun H => (op_callF Try.func15 (by rfl) (by rfl) (.tmp (by rfl) (.tmp (by rfl) .nil)) (vsame_ok _ (ofMapV [F.mk [110] (ofInt 7)]) (ofMapV [F.mk [110] (ofInt 7)]) ((few_bnd 7 _ rfl).small (by decide)) ((few_bnd 7 _ rfl).small (by decide))))) (by dsimp only [zS, zN, zH, zT]) ?_
 refine zd0 (fun H => (op_pick_tt (by rfl) (val_tmp (by rfl)))) rfl (by dsimp only [zS, zN, zH, zT]) ?_
 refine zd0 (fun H => (op_assign_tmp (by rfl))) rfl (by dsimp only [zS, zN, zH, zT]) ?_
 refine drun_end rfl ?_
 refine then_normal ?_
 refine aw_ret ?_
 refine retPost1 rfl rfl ?_
 exact ⟨by (rw [cmp_refl]) <;> rfl, ((Ext.refl Hs).push _ _).setB (Nat.le_refl _)⟩
set_option maxRecDepth 100000 in
theorem pfew_ok (Hs : HS) (w : AV) (l : List Opn) (hw : LL w 8 (l.map oD)) (hl : l.length ≤ 9223372036854775807) : ACalls Try.prog 16 [w] Hs (Ret (.d (TF (fewO l))) Hs) := by
 refine ACalls.tidy1 ?_
 refine acalls_of_aw Try.func16 rfl ?_
 refine aw_start (T' := [w, .un, .un, .un, .un, .un, .un, .un, .un, .un, .un, .un, .un, .un, .un, .un, .un, .un, .un, .un, .un, .un, .un, .un, .un, .un, .un, .un, .un, .un, .un, .un, .un, .un, .un, .un, .un, .un]) rfl ?_
 refine aw_seq ?_
 refine aw_region ?_
 refine zst (op_assign_const (by rfl)) rfl (by dsimp only [zS, zN, zH, zT]) ?_
 refine al_end rfl ?_
 refine then_normal ?_
 refine aw_seq ?_
 refine aw_seq ?_
 refine aw_region ?_
 refine zst (op_move_tmp (by rfl)) rfl (by dsimp only [zS, zN, zH, zT]) ?_
 refine zst (op_lenL Try.underlying37 hw) rfl (by dsimp only [zS, zN, zH, zT]) ?_
 refine zst (op_move_const (by rfl)) rfl (by dsimp only [zS, zN, zH, zT]) ?_
 refine al_end rfl ?_
 refine then_normal ?_
 refine aw_block ?_
 apply aw_loopF (fun n T H => ∃ (j : Nat), T = [w, .un, .un, .un, .un, .un, .un, w, .d (I (l.map oD).length), .d (I j), .un, .un, .un, .un, .un, .un, .un, .un, .un, .un, .un, .un, .un, .un, .un, .un, .un, .un, .un, .un, .un, .un, .un, .un, .un, .un, .un, .un] ∧ j ≤ l.length ∧ n = l.length - j ∧ (l.take j).all fewP = true ∧ Ext Hs H) (l.length) [true, false, false, false, false, false, false, true, true, true, false, false, false, false, false, false, false, false, false, false, false, false, false, false, false, false, false, false, false, false, false, false, false, false, false, false, false, false]
 · (try dsimp only [maskT]); try exact rfl
 · rfl
 · exact ⟨0, rfl, by omega, rfl, rfl, Ext.refl _⟩
 rintro n T H ⟨j, rfl, hj, rfl, hall, hx⟩
 refine aw_seq ?_
 refine aw_region ?_
 refine zst (op_ltI (by rfl) (by rfl)) rfl (by dsimp only [zS, zN, zH, zT]) ?_
 refine al_end rfl ?_
 refine then_normal ?_
 refine aw_seq ?_
 refine aw_cond rfl (fun hc1 => ?_) (fun hc1 => ?_)
 ·
  (try simp only [y1, y2, y3, y4, y5, y6, y7, y8, y9, y0, List.length_map] at hc1)
  (try simp only [List.length_map] at hc1)
  have hlt : j < l.length := by omega
  obtain ⟨x, hx1⟩ : ∃ z0, l[j]? = some z0 := ⟨_, List.getElem?_eq_getElem hlt⟩
  refine aw_skip ?_
  refine then_normal ?_
  refine aw_seq ?_
  refine aw_block ?_
  refine aw_seq ?_
  refine aw_region ?_
  refine zst (op_indexAddr (z := oD x) (cs := oC x) Try.underlying37 Sz36 hw (by rfl) (by omega) (by rw [List.getElem?_map, show ((j : Nat) : Int).toNat = j from rfl, hx1]; rfl) (by rfl)) rfl (by dsimp only [zS, zN, zH, zT]) ?_
  refine zst (op_load_elts (ds := oC x) Try.underlying36 (by rfl) Sz36 (by rfl) (Nat.le_of_ble_eq_true rfl) (by rfl)) rfl (by dsimp only [zS, zN, zH, zT]) ?_
  refine zst (op_alloc (Zr36) (by rfl)) rfl (by dsimp only [zS, zN, zH, zT]) ?_
  refine zst (op_storeB (vs := (oC x).map .d) (b' := ⟨36, (oC x).map .d, false⟩) (H' := _) Sz36 (by rfl) push_at (by intro h; cases h) (by rfl) (by rfl) (Nat.le_of_ble_eq_true rfl) (by intro w hw; obtain ⟨d, hd, rfl⟩ := List.mem_map.1 hw; exact oC_one x d hd) (by rfl) (by rfl) rfl) rfl (by dsimp only [zS, zN, zH, zT]) ?_
  refine al_end rfl ?_
  refine then_normal ?_
  refine aw_seq ?_
  refine aw_seq ?_
  refine aw_region ?_
  refine zst (by first | exact op_fieldAddr_ptr Try.underlying36 rfl Sz34 (by rfl) (by rfl) | exact op_fieldAddr_elt Try.underlying36 rfl Sz34 (by rfl) (by rfl) (by rfl)) rfl (by dsimp only [zS, zN, zH, zT]) ?_
  refine zst (by first | exact op_load_elt Try.underlying34 (by rfl) (by rfl) (by rfl) | exact op_load_ptr Try.underlying34 (by rfl) (by rfl) (by exact setB_at push_at) (by rfl)) rfl (by dsimp only [zS, zN, zH, zT]) ?_
  refine zst (op_lenL Try.underlying34 (by first | exact LL.d _ _ | exact LL.own _ _ _ | exact LL.nil _ | assumption)) rfl (by dsimp only [zS, zN, zH, zT]) ?_
  refine zst (op_gtI (by rfl) (by rfl)) rfl (by dsimp only [zS, zN, zH, zT]) ?_
  refine zst (op_move_tmp (by rfl)) rfl (by dsimp only [zS, zN, zH, zT]) ?_
  refine al_split 17 rfl (fun hg2 => ?_) (fun hg2 => ?_)
  ·
   (try simp only [y1, y2, y3, y4, y5, y6, y7, y8, y9, y0, List.length_map] at hg2)
   (try simp only [List.length_map] at hg2)
   have hbad : fewP x = false := by (have h : ¬ x.path.length ≤ 20 := by omega); simp [fewP, h]
   apply al_normT
   · (try dsimp only [zS, zN, zH, zT]); try exact rfl
   refine zuw rfl rfl rfl rfl (by dsimp only [zS, zN, zH, zT]) ?_
   refine zuw rfl rfl rfl rfl (by dsimp only [zS, zN, zH, zT]) ?_
   refine zuw rfl rfl rfl rfl (by dsimp only [zS, zN, zH, zT]) ?_
   refine zuw rfl rfl rfl rfl (by dsimp only [zS, zN, zH, zT]) ?_
   refine zst (op_pick_tt (by rfl) (val_const (by rfl))) rfl (by dsimp only [zS, zN, zH, zT]) ?_
   refine al_end rfl ?_
   refine then_normal ?_
   refine aw_cond rfl (fun _ => ?_) (fun h => by cases h)
   refine aw_seq ?_
   refine aw_region ?_
   refine zst (op_assign_const (by rfl)) rfl (by dsimp only [zS, zN, zH, zT]) ?_
   refine al_end rfl ?_
   refine then_normal ?_
   refine aw_ret ?_
   refine then_ret (inBlock_ret (then_ret (again_ret (inBlock_ret (then_ret ?_)))))
   refine retPost1 rfl rfl ?_
   exact ⟨by rw [fewO, all_bad hx1 hbad]; rfl, (hx.push _ _).setB (nb_le hx)⟩
  ·
   (try simp only [y1, y2, y3, y4, y5, y6, y7, y8, y9, y0, List.length_map] at hg2)
   (try simp only [List.length_map] at hg2)
   have h20 : x.path.length ≤ 20 := by omega
   apply al_normT
   · (try dsimp only [zS, zN, zH, zT]); try exact rfl
   refine zsw rfl rfl rfl (by first | exact op_fieldAddr_ptr Try.underlying36 rfl Sz26 (by rfl) (by rfl) | exact op_fieldAddr_elt Try.underlying36 rfl Sz26 (by rfl) (by rfl) (by rfl)) (by dsimp only [zS, zN, zH, zT]) ?_
   refine zsw rfl rfl rfl (op_load_ptrsD (vC x.val) Try.underlying26 (by rfl) Sz26 (by rfl) (setB_at push_at) (Nat.le_of_ble_eq_true rfl) (by rw [vC_eq]; rfl) (vC_one _)) (by dsimp only [zS, zN, zH, zT]) ?_
   refine zsw rfl rfl rfl (op_callF Try.func10 (by rfl) (by rfl) (.tmp (by rfl) (.const (by rfl) .nil)) (few_ok 7 x.val (by decide) _)) (by dsimp only [zS, zN, zH, zT]) ?_
   refine zsw rfl rfl rfl (op_not (by rfl)) (by dsimp only [zS, zN, zH, zT]) ?_
   refine zst (op_pick_ff (by rfl) (val_tmp (by rfl))) rfl (by dsimp only [zS, zN, zH, zT]) ?_
   refine al_end rfl ?_
   refine then_normal ?_
   refine aw_cond rfl (fun hc4 => ?_) (fun hc4 => ?_)
   ·
    (try simp only [y1, y2, y3, y4, y5, y6, y7, y8, y9, y0, List.length_map] at hc4)
    (first | (have hf : fewV 7 x.val = false := (by simpa using hc4); have hbad : fewP x = false := (by simp [fewP, hf])) | skip)
    refine aw_seq ?_
    refine aw_region ?_
    refine zst (op_assign_const (by rfl)) rfl (by dsimp only [zS, zN, zH, zT]) ?_
    refine al_end rfl ?_
    refine then_normal ?_
    refine aw_ret ?_
    refine then_ret (inBlock_ret (then_ret (again_ret (inBlock_ret (then_ret ?_)))))
    refine retPost1 rfl rfl ?_
    exact ⟨by rw [fewO, all_bad hx1 hbad]; rfl, (hx.push _ _).setB (nb_le hx)⟩
   ·
    (try simp only [y1, y2, y3, y4, y5, y6, y7, y8, y9, y0, List.length_map] at hc4)
    have hf : fewV 7 x.val = true := by simpa using hc4
    refine aw_skip ?_
    refine then_normal ?_
    refine aw_seq ?_
    refine aw_region ?_
    refine zst (by first | exact op_fieldAddr_ptr Try.underlying36 rfl Sz34 (by rfl) (by rfl) | exact op_fieldAddr_elt Try.underlying36 rfl Sz34 (by rfl) (by rfl) (by rfl)) rfl (by dsimp only [zS, zN, zH, zT]) ?_
    refine zst (by first | exact op_load_elt Try.underlying34 (by rfl) (by rfl) (by rfl) | exact op_load_ptr Try.underlying34 (by rfl) (by rfl) (by exact setB_at push_at) (by rfl)) rfl (by dsimp only [zS, zN, zH, zT]) ?_
    refine zst (op_lenL Try.underlying34 (by first | exact LL.d _ _ | exact LL.own _ _ _ | exact LL.nil _ | assumption)) rfl (by dsimp only [zS, zN, zH, zT]) ?_
    refine zst (op_move_const (by rfl)) rfl (by dsimp only [zS, zN, zH, zT]) ?_
    refine al_end rfl ?_
    refine then_normal ?_
    refine aw_block ?_
    apply aw_loopF (fun n T H => ∃ (k : Nat), T = [w, .un, .un, .un, .un, .un, .un, w, .d (I (l.map oD).length), .d (I j), .un, .un, .un, .un, .un, .un, .un, .un, .un, .un, .un, .un, .un, .un, .d (.lst 1 (x.path.map S)), .d (I (x.path.map S).length), .d (I k), .un, .un, .un, .un, .un, .un, .un, .un, .un, .un, .un] ∧ k ≤ x.path.length ∧ n = x.path.length - k ∧ ((x.path.take k).all fun p => decide (p.length ≤ 40)) = true ∧ Ext Hs H) (x.path.length) [true, false, false, false, false, false, false, true, true, true, false, false, false, false, false, false, false, false, false, false, false, false, false, false, true, true, true, false, false, false, false, false, false, false, false, false, false, false]
    · (try dsimp only [maskT]); try exact rfl
    · rfl
    · exact ⟨0, rfl, by omega, rfl, rfl, (hx.push _ _).setB (nb_le hx)⟩
    rintro n T H ⟨k, rfl, hk, rfl, hpa, hx2⟩
    refine aw_seq ?_
    refine aw_region ?_
    refine zst (op_ltI (by rfl) (by rfl)) rfl (by dsimp only [zS, zN, zH, zT]) ?_
    refine al_end rfl ?_
    refine then_normal ?_
    refine aw_seq ?_
    refine aw_cond rfl (fun hc5 => ?_) (fun hc5 => ?_)
    ·
     (try simp only [y1, y2, y3, y4, y5, y6, y7, y8, y9, y0, List.length_map] at hc5)
     (try simp only [List.length_map] at hc5)
     have hlt : k < x.path.length := by omega
     obtain ⟨y, hy1⟩ : ∃ z0, x.path[k]? = some z0 := ⟨_, List.getElem?_eq_getElem hlt⟩
     refine aw_skip ?_
     refine then_normal ?_
     refine aw_seq ?_
     refine aw_block ?_
     refine aw_seq ?_
     refine aw_region ?_
     refine zst (op_indexAddr Try.underlying34 Sz9 (LL.d _ _) (by rfl) (by omega) (show (x.path.map S)[((k : Nat) : Int).toNat]? = some (S y) by simp [hy1]) (by rfl)) rfl (by dsimp only [zS, zN, zH, zT]) ?_
     refine zst (by first | exact op_load_elt Try.underlying9 (by rfl) (by rfl) (by rfl) | exact op_load_ptr Try.underlying9 (by rfl) (by rfl) (by exact setB_at push_at) (by rfl)) rfl (by dsimp only [zS, zN, zH, zT]) ?_
     refine zst (op_assign_tmp (by rfl)) rfl (by dsimp only [zS, zN, zH, zT]) ?_
     refine al_end rfl ?_
     refine then_normal ?_
     refine aw_seq ?_
     refine aw_region ?_
     refine zst (op_move_tmp (by rfl)) rfl (by dsimp only [zS, zN, zH, zT]) ?_
     refine zst (op_lenS Try.underlying9 (by rfl)) rfl (by dsimp only [zS, zN, zH, zT]) ?_
     refine zst (op_gtI (by rfl) (by rfl)) rfl (by dsimp only [zS, zN, zH, zT]) ?_
     refine al_end rfl ?_
     refine then_normal ?_
     refine aw_cond rfl (fun hc6 => ?_) (fun hc6 => ?_)
     ·
      (try simp only [y1, y2, y3, y4, y5, y6, y7, y8, y9, y0, List.length_map] at hc6)
      have hbad : fewP x = false := by (have h := all_bad (p := fun p : List UInt8 => decide (p.length ≤ 40)) hy1 (by simp; omega)); simp [fewP, h]
      refine aw_seq ?_
      refine aw_region ?_
      refine zst (op_assign_const (by rfl)) rfl (by dsimp only [zS, zN, zH, zT]) ?_
      refine al_end rfl ?_
      refine then_normal ?_
      refine aw_ret ?_
      refine inBlock_ret (then_ret (again_ret (inBlock_ret (inBlock_ret (then_ret (again_ret (inBlock_ret (then_ret ?_))))))))
      refine retPost1 rfl rfl ?_
      exact ⟨by rw [fewO, all_bad hx1 hbad]; rfl, hx2⟩
     ·
      (try simp only [y1, y2, y3, y4, y5, y6, y7, y8, y9, y0, List.length_map] at hc6)
      have h40 : y.length ≤ 40 := by omega
      refine aw_skip ?_
      refine inBlock_normal (then_normal ?_)
      refine aw_region ?_
      refine zst (by first | exact op_add (by rfl) (by rfl) (wrap_i64 ⟨by omega, by omega⟩) | exact op_add (by rfl) (by rfl) (by rfl)) rfl (by dsimp only [zS, zN, zH, zT]) ?_
      refine zst (op_move_tmp (by rfl)) rfl (by dsimp only [zS, zN, zH, zT]) ?_
      refine al_end rfl ?_
      apply again_to (x.path.length - (k + 1)) [true, false, false, false, false, false, false, true, true, true, false, false, false, false, false, false, false, false, false, false, false, false, false, false, true, true, true, false, false, false, false, false, false, false, false, false, false, false]
      · (try dsimp only [maskT]); try exact rfl
      · rfl
      · omega
      exact ⟨k + 1, rfl, by omega, rfl, by rw [take_snoc hy1, List.all_append, hpa]; simp [h40], hx2⟩
    ·
     (try simp only [y1, y2, y3, y4, y5, y6, y7, y8, y9, y0, List.length_map] at hc5)
     (try simp only [List.length_map] at hc5)
     have hje : k = x.path.length := by omega
     subst hje
     refine aw_exit ?_
     refine then_exit (again_exit (inBlock_here (inBlock_normal (then_normal ?_))))
     refine aw_region ?_
     refine zst (by first | exact op_add (by rfl) (by rfl) (wrap_i64 ⟨by omega, by omega⟩) | exact op_add (by rfl) (by rfl) (by rfl)) rfl (by dsimp only [zS, zN, zH, zT]) ?_
     refine zst (op_move_tmp (by rfl)) rfl (by dsimp only [zS, zN, zH, zT]) ?_
     refine al_end rfl ?_
     apply again_to (l.length - (j + 1)) [true, false, false, false, false, false, false, true, true, true, false, false, false, false, false, false, false, false, false, false, false, false, false, false, false, false, false, false, false, false, false, false, false, false, false, false, false, false]
     · (try dsimp only [maskT]); try exact rfl
     · rfl
     · omega
     exact ⟨j + 1, rfl, by omega, rfl, by rw [take_snoc hx1, List.all_append, hall]; simp [fewP, h20, hf]; simpa using hpa, hx2⟩
 ·
  (try simp only [y1, y2, y3, y4, y5, y6, y7, y8, y9, y0, List.length_map] at hc1)
  (try simp only [List.length_map] at hc1)
  have hje : j = l.length := by omega
  subst hje
  refine aw_exit ?_
  refine then_exit (again_exit (inBlock_here (then_normal ?_)))
  refine aw_seq ?_
  refine aw_region ?_
  refine zst (op_move_tmp (by rfl)) rfl (by dsimp only [zS, zN, zH, zT]) ?_
  refine zst (op_lenL Try.underlying37 hw) rfl (by dsimp only [zS, zN, zH, zT]) ?_
  refine zst (op_leI (by rfl) (by rfl)) rfl (by dsimp only [zS, zN, zH, zT]) ?_
  refine zst (op_assign_tmp (by rfl)) rfl (by dsimp only [zS, zN, zH, zT]) ?_
  refine al_end rfl ?_
  refine then_normal ?_
  refine aw_ret ?_
  refine retPost1 rfl rfl ?_
  exact ⟨by (rw [List.take_length] at hall; rw [fewO, hall]; simp only [TF, Bool.true_and, List.length_map]; congr 3; exact decide_eq_decide.2 (by omega)), hx⟩
set_option maxRecDepth 100000 in
theorem plright_ok (Hs : HS) (o : Opn) (ho : SmallV o.val) : ACalls Try.prog 17 [.d (oD o)] Hs (Ret (.d (TF (rightO o))) Hs) := by
 refine acalls_of_aw Try.func17 rfl ?_
 refine aw_start (T' := [.d (oD o), .un, .un, .un, .un, .un, .un, .un, .un, .un, .un, .un, .un, .un, .un, .un, .un, .un, .un, .un, .un, .un, .un, .un, .un, .un, .un, .un, .un, .un, .un, .un, .un, .un, .un, .un, .un, .un, .un, .un, .un, .un, .un, .un, .un, .un, .un, .un, .un, .un]) rfl ?_
 refine aw_seq ?_
 refine aw_region ?_
 refine zst (op_box_elt (cs := [I o.kind, .lst 1 (o.path.map S), I o.val.kind, TF o.val.yes, .v (.int .i64 o.val.num), S o.val.text, .lst 6 (o.val.list.map vD), .lst 7 (o.val.fields.map fD)]) (by rfl) (by rfl)) rfl (by dsimp only [zS, zN, zH, zT]) ?_
 refine zst (op_assign_const (by rfl)) rfl (by dsimp only [zS, zN, zH, zT]) ?_
 refine al_end rfl ?_
 refine then_normal ?_
 refine aw_seq ?_
 refine aw_region ?_
 refine zst (by first | exact op_fieldAddr_ptr Try.underlying36 rfl Sz33 (by rfl) (by rfl) | exact op_fieldAddr_elt Try.underlying36 rfl Sz33 (by rfl) (by rfl) (by rfl)) rfl (by dsimp only [zS, zN, zH, zT]) ?_
 refine zst (by first | exact op_load_elt Try.underlying33 (by rfl) (by rfl) (by rfl) | exact op_load_ptr Try.underlying33 (by rfl) (by rfl) (by rfl) (by rfl)) rfl (by dsimp only [zS, zN, zH, zT]) ?_
 refine zst (op_geI (by rfl) (by rfl)) rfl (by dsimp only [zS, zN, zH, zT]) ?_
 refine zst (op_move_tmp (by rfl)) rfl (by dsimp only [zS, zN, zH, zT]) ?_
 refine al_split 6 rfl (fun hg1 => ?_) (fun hg1 => ?_)
 ·
  (try simp only [y1, y2, y3, y4, y5, y6, y7, y8, y9, y0, List.length_map] at hg1)
  have g1 : (1 ≤ o.kind) := by first | omega | simpa using hg1
  apply al_normT
  · (try dsimp only [zS, zN, zH, zT]); try exact rfl
  refine zsw rfl rfl rfl (by first | exact op_fieldAddr_ptr Try.underlying36 rfl Sz33 (by rfl) (by rfl) | exact op_fieldAddr_elt Try.underlying36 rfl Sz33 (by rfl) (by rfl) (by rfl)) (by dsimp only [zS, zN, zH, zT]) ?_
  refine zsw rfl rfl rfl (by first | exact op_load_elt Try.underlying33 (by rfl) (by rfl) (by rfl) | exact op_load_ptr Try.underlying33 (by rfl) (by rfl) (by rfl) (by rfl)) (by dsimp only [zS, zN, zH, zT]) ?_
  refine zsw rfl rfl rfl (op_leI (by rfl) (by rfl)) (by dsimp only [zS, zN, zH, zT]) ?_
  refine zst (op_pick_tt (by rfl) (val_tmp (by rfl))) rfl (by dsimp only [zS, zN, zH, zT]) ?_
  refine zst (op_move_tmp (by rfl)) rfl (by dsimp only [zS, zN, zH, zT]) ?_
  refine al_split 11 rfl (fun hg2 => ?_) (fun hg2 => ?_)
  ·
   (try simp only [y1, y2, y3, y4, y5, y6, y7, y8, y9, y0, List.length_map] at hg2)
   have g2 : (o.kind ≤ 3) := by first | omega | simpa using hg2
   apply al_normT
   · (try dsimp only [zS, zN, zH, zT]); try exact rfl
   refine zsw rfl rfl rfl (by first | exact op_fieldAddr_ptr Try.underlying36 rfl Sz34 (by rfl) (by rfl) | exact op_fieldAddr_elt Try.underlying36 rfl Sz34 (by rfl) (by rfl) (by rfl)) (by dsimp only [zS, zN, zH, zT]) ?_
   refine zsw rfl rfl rfl (by first | exact op_load_elt Try.underlying34 (by rfl) (by rfl) (by rfl) | exact op_load_ptr Try.underlying34 (by rfl) (by rfl) (by rfl) (by rfl)) (by dsimp only [zS, zN, zH, zT]) ?_
   refine zsw rfl rfl rfl (op_lenL Try.underlying34 (by first | exact LL.d _ _ | exact LL.own _ _ _ | exact LL.nil _ | assumption)) (by dsimp only [zS, zN, zH, zT]) ?_
   refine zsw rfl rfl rfl (op_geI (by rfl) (by rfl)) (by dsimp only [zS, zN, zH, zT]) ?_
   refine zst (op_pick_tt (by rfl) (val_tmp (by rfl))) rfl (by dsimp only [zS, zN, zH, zT]) ?_
   refine zst (op_move_tmp (by rfl)) rfl (by dsimp only [zS, zN, zH, zT]) ?_
   refine al_split 17 rfl (fun hg3 => ?_) (fun hg3 => ?_)
   ·
    (try simp only [y1, y2, y3, y4, y5, y6, y7, y8, y9, y0, List.length_map] at hg3)
    have g3 : (0 < o.path.length) := by first | omega | simpa using hg3
    apply al_normT
    · (try dsimp only [zS, zN, zH, zT]); try exact rfl
    refine zsw rfl rfl rfl (by first | exact op_fieldAddr_ptr Try.underlying36 rfl Sz34 (by rfl) (by rfl) | exact op_fieldAddr_elt Try.underlying36 rfl Sz34 (by rfl) (by rfl) (by rfl)) (by dsimp only [zS, zN, zH, zT]) ?_
    refine zsw rfl rfl rfl (by first | exact op_load_elt Try.underlying34 (by rfl) (by rfl) (by rfl) | exact op_load_ptr Try.underlying34 (by rfl) (by rfl) (by rfl) (by rfl)) (by dsimp only [zS, zN, zH, zT]) ?_
    refine zsw rfl rfl rfl (op_lenL Try.underlying34 (by first | exact LL.d _ _ | exact LL.own _ _ _ | exact LL.nil _ | assumption)) (by dsimp only [zS, zN, zH, zT]) ?_
    refine zsw rfl rfl rfl (op_leI (by rfl) (by rfl)) (by dsimp only [zS, zN, zH, zT]) ?_
    refine zst (op_pick_tt (by rfl) (val_tmp (by rfl))) rfl (by dsimp only [zS, zN, zH, zT]) ?_
    refine zst (op_move_tmp (by rfl)) rfl (by dsimp only [zS, zN, zH, zT]) ?_
    refine al_split 23 rfl (fun hg4 => ?_) (fun hg4 => ?_)
    ·
     (try simp only [y1, y2, y3, y4, y5, y6, y7, y8, y9, y0, List.length_map] at hg4)
     have g4 : (o.path.length ≤ 16) := by first | omega | simpa using hg4
     apply al_normT
     · (try dsimp only [zS, zN, zH, zT]); try exact rfl
     refine zsw rfl rfl rfl (by first | exact op_fieldAddr_ptr Try.underlying36 rfl Sz26 (by rfl) (by rfl) | exact op_fieldAddr_elt Try.underlying36 rfl Sz26 (by rfl) (by rfl) (by rfl)) (by dsimp only [zS, zN, zH, zT]) ?_
     refine zsw rfl rfl rfl (op_load_elts (ds := vC o.val) Try.underlying26 (by rfl) Sz26 (by rfl) (Nat.le_of_ble_eq_true rfl) (by rw [vC_eq]; rfl)) (by dsimp only [zS, zN, zH, zT]) ?_
     refine zsw rfl rfl rfl (op_callF Try.func22 (by rfl) (by rfl) (.tmp (by rfl) .nil) (right_ok' _ o.val ho)) (by dsimp only [zS, zN, zH, zT]) ?_
     refine zst (op_pick_tt (by rfl) (val_tmp (by rfl))) rfl (by dsimp only [zS, zN, zH, zT]) ?_
     refine zst (op_move_tmp (by rfl)) rfl (by dsimp only [zS, zN, zH, zT]) ?_
     refine al_split 28 rfl (fun hg5 => ?_) (fun hg5 => ?_)
     ·
      (try simp only [y1, y2, y3, y4, y5, y6, y7, y8, y9, y0, List.length_map] at hg5)
      have g5 : (rightV 32 o.val = true) := by first | omega | simpa using hg5
      apply al_normT
      · (try dsimp only [zS, zN, zH, zT]); try exact rfl
      refine zsw rfl rfl rfl (by first | exact op_fieldAddr_ptr Try.underlying36 rfl Sz33 (by rfl) (by rfl) | exact op_fieldAddr_elt Try.underlying36 rfl Sz33 (by rfl) (by rfl) (by rfl)) (by dsimp only [zS, zN, zH, zT]) ?_
      refine zsw rfl rfl rfl (by first | exact op_load_elt Try.underlying33 (by rfl) (by rfl) (by rfl) | exact op_load_ptr Try.underlying33 (by rfl) (by rfl) (by rfl) (by rfl)) (by dsimp only [zS, zN, zH, zT]) ?_
      refine zsw rfl rfl rfl (op_neI (by rfl) (by rfl)) (by dsimp only [zS, zN, zH, zT]) ?_
      refine zsw rfl rfl rfl (op_move_tmp (by rfl)) (by dsimp only [zS, zN, zH, zT]) ?_
      refine al_split 32 rfl (fun hg6 => ?_) (fun hg6 => ?_)
      ·
       (try simp only [y1, y2, y3, y4, y5, y6, y7, y8, y9, y0, List.length_map] at hg6)
       have g6 : (o.kind ≠ 3) := by first | omega | simpa using hg6
       apply al_normT
       · (try dsimp only [zS, zN, zH, zT]); try exact rfl
       refine zuw rfl rfl rfl rfl (by dsimp only [zS, zN, zH, zT]) ?_
       refine zuw rfl rfl rfl rfl (by dsimp only [zS, zN, zH, zT]) ?_
       refine zuw rfl rfl rfl rfl (by dsimp only [zS, zN, zH, zT]) ?_
       refine zuw rfl rfl rfl rfl (by dsimp only [zS, zN, zH, zT]) ?_
       refine zsw rfl rfl rfl (op_pick_tt (by rfl) (val_const (by rfl))) (by dsimp only [zS, zN, zH, zT]) ?_
       refine zst (op_pick_tt (by rfl) (val_tmp (by rfl))) rfl (by dsimp only [zS, zN, zH, zT]) ?_
       refine zst (op_move_tmp (by rfl)) rfl (by dsimp only [zS, zN, zH, zT]) ?_
       refine zsw rfl rfl rfl (by first | exact op_fieldAddr_ptr Try.underlying36 rfl Sz33 (by rfl) (by rfl) | exact op_fieldAddr_elt Try.underlying36 rfl Sz33 (by rfl) (by rfl) (by rfl)) (by dsimp only [zS, zN, zH, zT]) ?_
       refine zsw rfl rfl rfl (by first | exact op_load_elt Try.underlying33 (by rfl) (by rfl) (by rfl) | exact op_load_ptr Try.underlying33 (by rfl) (by rfl) (by rfl) (by rfl)) (by dsimp only [zS, zN, zH, zT]) ?_
       refine zsw rfl rfl rfl (op_neI (by rfl) (by rfl)) (by dsimp only [zS, zN, zH, zT]) ?_
       refine zsw rfl rfl rfl (op_move_tmp (by rfl)) (by dsimp only [zS, zN, zH, zT]) ?_
       refine al_split 43 rfl (fun hg7 => ?_) (fun hg7 => ?_)
       ·
        (try simp only [y1, y2, y3, y4, y5, y6, y7, y8, y9, y0, List.length_map] at hg7)
        have g8 : (o.kind ≠ 2) := by first | omega | simpa using hg7
        apply al_normT
        · (try dsimp only [zS, zN, zH, zT]); try exact rfl
        refine zuw rfl rfl rfl rfl (by dsimp only [zS, zN, zH, zT]) ?_
        refine zuw rfl rfl rfl rfl (by dsimp only [zS, zN, zH, zT]) ?_
        refine zuw rfl rfl rfl rfl (by dsimp only [zS, zN, zH, zT]) ?_
        refine zuw rfl rfl rfl rfl (by dsimp only [zS, zN, zH, zT]) ?_
        refine zsw rfl rfl rfl (op_pick_tt (by rfl) (val_const (by rfl))) (by dsimp only [zS, zN, zH, zT]) ?_
        refine zst (op_pick_tt (by rfl) (val_tmp (by rfl))) rfl (by dsimp only [zS, zN, zH, zT]) ?_
        refine zst (op_assign_tmp (by rfl)) rfl (by dsimp only [zS, zN, zH, zT]) ?_
        refine al_end rfl ?_
        refine then_normal ?_
        refine aw_ret ?_
        refine retPost1 rfl rfl ?_
        exact ⟨by (rw [rightO_eq]; simp only [TF]; first | (exfalso; omega) | (simp [*]; done) | (congr 3; simp [*]; done) | (congr 3; simp [*]; rfl)), rfl⟩
       ·
        (try simp only [y1, y2, y3, y4, y5, y6, y7, y8, y9, y0, List.length_map] at hg7)
        have g8 : ¬ (o.kind ≠ 2) := by first | omega | simpa using hg7
        apply al_normT
        · (try dsimp only [zS, zN, zH, zT]); try exact rfl
        refine zsw rfl rfl rfl (by first | exact op_fieldAddr_ptr Try.underlying36 rfl Sz26 (by rfl) (by rfl) | exact op_fieldAddr_elt Try.underlying36 rfl Sz26 (by rfl) (by rfl) (by rfl)) (by dsimp only [zS, zN, zH, zT]) ?_
        refine zsw rfl rfl rfl (by first | exact op_fieldAddr_ptr Try.underlying26 rfl Sz22 (by rfl) (by rfl) | exact op_fieldAddr_elt Try.underlying26 rfl Sz22 (by rfl) (by rfl) (by rfl)) (by dsimp only [zS, zN, zH, zT]) ?_
        refine zsw rfl rfl rfl (by first | exact op_load_elt Try.underlying22 (by rfl) (by rfl) (by rfl) | exact op_load_ptr Try.underlying22 (by rfl) (by rfl) (by rfl) (by rfl)) (by dsimp only [zS, zN, zH, zT]) ?_
        refine zsw rfl rfl rfl (op_eqI (by rfl) (by rfl)) (by dsimp only [zS, zN, zH, zT]) ?_
        refine zsw rfl rfl rfl (op_pick_ff (by rfl) (val_tmp (by rfl))) (by dsimp only [zS, zN, zH, zT]) ?_
        refine zst (op_pick_tt (by rfl) (val_tmp (by rfl))) rfl (by dsimp only [zS, zN, zH, zT]) ?_
        refine zst (op_assign_tmp (by rfl)) rfl (by dsimp only [zS, zN, zH, zT]) ?_
        refine al_end rfl ?_
        refine then_normal ?_
        refine aw_ret ?_
        refine retPost1 rfl rfl ?_
        exact ⟨by (rw [rightO_eq]; simp only [TF]; first | (exfalso; omega) | (simp [*]; done) | (congr 3; simp [*]; done) | (congr 3; simp [*]; rfl)), rfl⟩
      ·
       (try simp only [y1, y2, y3, y4, y5, y6, y7, y8, y9, y0, List.length_map] at hg6)
       have g6 : ¬ (o.kind ≠ 3) := by first | omega | simpa using hg6
       apply al_normT
       · (try dsimp only [zS, zN, zH, zT]); try exact rfl
       refine zsw rfl rfl rfl (by first | exact op_fieldAddr_ptr Try.underlying36 rfl Sz26 (by rfl) (by rfl) | exact op_fieldAddr_elt Try.underlying36 rfl Sz26 (by rfl) (by rfl) (by rfl)) (by dsimp only [zS, zN, zH, zT]) ?_
       refine zsw rfl rfl rfl (by first | exact op_fieldAddr_ptr Try.underlying26 rfl Sz22 (by rfl) (by rfl) | exact op_fieldAddr_elt Try.underlying26 rfl Sz22 (by rfl) (by rfl) (by rfl)) (by dsimp only [zS, zN, zH, zT]) ?_
       refine zsw rfl rfl rfl (by first | exact op_load_elt Try.underlying22 (by rfl) (by rfl) (by rfl) | exact op_load_ptr Try.underlying22 (by rfl) (by rfl) (by rfl) (by rfl)) (by dsimp only [zS, zN, zH, zT]) ?_
       refine zsw rfl rfl rfl (op_eqI (by rfl) (by rfl)) (by dsimp only [zS, zN, zH, zT]) ?_
       refine zsw rfl rfl rfl (op_pick_ff (by rfl) (val_tmp (by rfl))) (by dsimp only [zS, zN, zH, zT]) ?_
       refine zst (op_pick_tt (by rfl) (val_tmp (by rfl))) rfl (by dsimp only [zS, zN, zH, zT]) ?_
       refine zst (op_move_tmp (by rfl)) rfl (by dsimp only [zS, zN, zH, zT]) ?_
       refine al_split 39 rfl (fun hg8 => ?_) (fun hg8 => ?_)
       ·
        (try simp only [y1, y2, y3, y4, y5, y6, y7, y8, y9, y0, List.length_map] at hg8)
        have g7 : (o.val.kind = 2) := by first | omega | simpa using hg8
        apply al_normT
        · (try dsimp only [zS, zN, zH, zT]); try exact rfl
        refine zsw rfl rfl rfl (by first | exact op_fieldAddr_ptr Try.underlying36 rfl Sz33 (by rfl) (by rfl) | exact op_fieldAddr_elt Try.underlying36 rfl Sz33 (by rfl) (by rfl) (by rfl)) (by dsimp only [zS, zN, zH, zT]) ?_
        refine zsw rfl rfl rfl (by first | exact op_load_elt Try.underlying33 (by rfl) (by rfl) (by rfl) | exact op_load_ptr Try.underlying33 (by rfl) (by rfl) (by rfl) (by rfl)) (by dsimp only [zS, zN, zH, zT]) ?_
        refine zsw rfl rfl rfl (op_neI (by rfl) (by rfl)) (by dsimp only [zS, zN, zH, zT]) ?_
        refine zsw rfl rfl rfl (op_move_tmp (by rfl)) (by dsimp only [zS, zN, zH, zT]) ?_
        refine al_split 43 rfl (fun hg9 => ?_) (fun hg9 => ?_)
        ·
         (try simp only [y1, y2, y3, y4, y5, y6, y7, y8, y9, y0, List.length_map] at hg9)
         have g8 : (o.kind ≠ 2) := by first | omega | simpa using hg9
         apply al_normT
         · (try dsimp only [zS, zN, zH, zT]); try exact rfl
         refine zuw rfl rfl rfl rfl (by dsimp only [zS, zN, zH, zT]) ?_
         refine zuw rfl rfl rfl rfl (by dsimp only [zS, zN, zH, zT]) ?_
         refine zuw rfl rfl rfl rfl (by dsimp only [zS, zN, zH, zT]) ?_
         refine zuw rfl rfl rfl rfl (by dsimp only [zS, zN, zH, zT]) ?_
         refine zsw rfl rfl rfl (op_pick_tt (by rfl) (val_const (by rfl))) (by dsimp only [zS, zN, zH, zT]) ?_
         refine zst (op_pick_tt (by rfl) (val_tmp (by rfl))) rfl (by dsimp only [zS, zN, zH, zT]) ?_
         refine zst (op_assign_tmp (by rfl)) rfl (by dsimp only [zS, zN, zH, zT]) ?_
         refine al_end rfl ?_
         refine then_normal ?_
         refine aw_ret ?_
         refine retPost1 rfl rfl ?_
         exact ⟨by (rw [rightO_eq]; simp only [TF]; first | (exfalso; omega) | (simp [*]; done) | (congr 3; simp [*]; done) | (congr 3; simp [*]; rfl)), rfl⟩
        ·
         (try simp only [y1, y2, y3, y4, y5, y6, y7, y8, y9, y0, List.length_map] at hg9)
         have g8 : ¬ (o.kind ≠ 2) := by first | omega | simpa using hg9
         apply al_normT
         · (try dsimp only [zS, zN, zH, zT]); try exact rfl
         refine zsw rfl rfl rfl (by first | exact op_fieldAddr_ptr Try.underlying36 rfl Sz26 (by rfl) (by rfl) | exact op_fieldAddr_elt Try.underlying36 rfl Sz26 (by rfl) (by rfl) (by rfl)) (by dsimp only [zS, zN, zH, zT]) ?_
         refine zsw rfl rfl rfl (by first | exact op_fieldAddr_ptr Try.underlying26 rfl Sz22 (by rfl) (by rfl) | exact op_fieldAddr_elt Try.underlying26 rfl Sz22 (by rfl) (by rfl) (by rfl)) (by dsimp only [zS, zN, zH, zT]) ?_
         refine zsw rfl rfl rfl (by first | exact op_load_elt Try.underlying22 (by rfl) (by rfl) (by rfl) | exact op_load_ptr Try.underlying22 (by rfl) (by rfl) (by rfl) (by rfl)) (by dsimp only [zS, zN, zH, zT]) ?_
         refine zsw rfl rfl rfl (op_eqI (by rfl) (by rfl)) (by dsimp only [zS, zN, zH, zT]) ?_
         refine zsw rfl rfl rfl (op_pick_ff (by rfl) (val_tmp (by rfl))) (by dsimp only [zS, zN, zH, zT]) ?_
         refine zst (op_pick_tt (by rfl) (val_tmp (by rfl))) rfl (by dsimp only [zS, zN, zH, zT]) ?_
         refine zst (op_assign_tmp (by rfl)) rfl (by dsimp only [zS, zN, zH, zT]) ?_
         refine al_end rfl ?_
         refine then_normal ?_
         refine aw_ret ?_
         refine retPost1 rfl rfl ?_
         exact ⟨by (rw [rightO_eq]; simp only [TF]; first | (exfalso; omega) | (simp [*]; done) | (congr 3; simp [*]; done) | (congr 3; simp [*]; rfl)), rfl⟩
       ·
        (try simp only [y1, y2, y3, y4, y5, y6, y7, y8, y9, y0, List.length_map] at hg8)
        have g7 : ¬ (o.val.kind = 2) := by first | omega | simpa using hg8
        apply al_normT
        · (try dsimp only [zS, zN, zH, zT]); try exact rfl
        refine zuw rfl rfl rfl rfl (by dsimp only [zS, zN, zH, zT]) ?_
        refine zuw rfl rfl rfl rfl (by dsimp only [zS, zN, zH, zT]) ?_
        refine zuw rfl rfl rfl rfl (by dsimp only [zS, zN, zH, zT]) ?_
        refine zuw rfl rfl rfl rfl (by dsimp only [zS, zN, zH, zT]) ?_
        refine zun rfl rfl rfl (by dsimp only [zS, zN, zH, zT]) ?_
        refine zun rfl rfl rfl (by dsimp only [zS, zN, zH, zT]) ?_
        refine zun rfl rfl rfl (by dsimp only [zS, zN, zH, zT]) ?_
        refine zun rfl rfl rfl (by dsimp only [zS, zN, zH, zT]) ?_
        refine zuw rfl rfl rfl rfl (by dsimp only [zS, zN, zH, zT]) ?_
        refine zst (op_pick_ff (by rfl) (val_const (by rfl))) rfl (by dsimp only [zS, zN, zH, zT]) ?_
        refine zst (op_assign_tmp (by rfl)) rfl (by dsimp only [zS, zN, zH, zT]) ?_
        refine al_end rfl ?_
        refine then_normal ?_
        refine aw_ret ?_
        refine retPost1 rfl rfl ?_
        exact ⟨by (rw [rightO_eq]; simp only [TF]; first | (exfalso; omega) | (simp [*]; done) | (congr 3; simp [*]; done) | (congr 3; simp [*]; rfl)), rfl⟩
     ·
      (try simp only [y1, y2, y3, y4, y5, y6, y7, y8, y9, y0, List.length_map] at hg5)
      have g5 : ¬ (rightV 32 o.val = true) := by first | omega | simpa using hg5
      apply al_normT
      · (try dsimp only [zS, zN, zH, zT]); try exact rfl
      refine zuw rfl rfl rfl rfl (by dsimp only [zS, zN, zH, zT]) ?_
      refine zuw rfl rfl rfl rfl (by dsimp only [zS, zN, zH, zT]) ?_
      refine zuw rfl rfl rfl rfl (by dsimp only [zS, zN, zH, zT]) ?_
      refine zuw rfl rfl rfl rfl (by dsimp only [zS, zN, zH, zT]) ?_
      refine zun rfl rfl rfl (by dsimp only [zS, zN, zH, zT]) ?_
      refine zun rfl rfl rfl (by dsimp only [zS, zN, zH, zT]) ?_
      refine zun rfl rfl rfl (by dsimp only [zS, zN, zH, zT]) ?_
      refine zun rfl rfl rfl (by dsimp only [zS, zN, zH, zT]) ?_
      refine zuw rfl rfl rfl rfl (by dsimp only [zS, zN, zH, zT]) ?_
      refine zst (op_pick_ff (by rfl) (val_const (by rfl))) rfl (by dsimp only [zS, zN, zH, zT]) ?_
      refine zst (op_move_tmp (by rfl)) rfl (by dsimp only [zS, zN, zH, zT]) ?_
      refine zuw rfl rfl rfl rfl (by dsimp only [zS, zN, zH, zT]) ?_
      refine zuw rfl rfl rfl rfl (by dsimp only [zS, zN, zH, zT]) ?_
      refine zuw rfl rfl rfl rfl (by dsimp only [zS, zN, zH, zT]) ?_
      refine zuw rfl rfl rfl rfl (by dsimp only [zS, zN, zH, zT]) ?_
      refine zun rfl rfl rfl (by dsimp only [zS, zN, zH, zT]) ?_
      refine zun rfl rfl rfl (by dsimp only [zS, zN, zH, zT]) ?_
      refine zun rfl rfl rfl (by dsimp only [zS, zN, zH, zT]) ?_
      refine zun rfl rfl rfl (by dsimp only [zS, zN, zH, zT]) ?_
      refine zuw rfl rfl rfl rfl (by dsimp only [zS, zN, zH, zT]) ?_
      refine zst (op_pick_ff (by rfl) (val_const (by rfl))) rfl (by dsimp only [zS, zN, zH, zT]) ?_
      refine zst (op_assign_tmp (by rfl)) rfl (by dsimp only [zS, zN, zH, zT]) ?_
      refine al_end rfl ?_
      refine then_normal ?_
      refine aw_ret ?_
      refine retPost1 rfl rfl ?_
      exact ⟨by (rw [rightO_eq]; simp only [TF]; first | (exfalso; omega) | (simp [*]; done) | (congr 3; simp [*]; done) | (congr 3; simp [*]; rfl)), rfl⟩
    ·
     (try simp only [y1, y2, y3, y4, y5, y6, y7, y8, y9, y0, List.length_map] at hg4)
     have g4 : ¬ (o.path.length ≤ 16) := by first | omega | simpa using hg4
     apply al_normT
     · (try dsimp only [zS, zN, zH, zT]); try exact rfl
     refine zuw rfl rfl rfl rfl (by dsimp only [zS, zN, zH, zT]) ?_
     refine zuw rfl rfl rfl rfl (by dsimp only [zS, zN, zH, zT]) ?_
     refine zuw rfl rfl rfl rfl (by dsimp only [zS, zN, zH, zT]) ?_
     refine zst (op_pick_ff (by rfl) (val_const (by rfl))) rfl (by dsimp only [zS, zN, zH, zT]) ?_
     refine zst (op_move_tmp (by rfl)) rfl (by dsimp only [zS, zN, zH, zT]) ?_
     refine zuw rfl rfl rfl rfl (by dsimp only [zS, zN, zH, zT]) ?_
     refine zuw rfl rfl rfl rfl (by dsimp only [zS, zN, zH, zT]) ?_
     refine zuw rfl rfl rfl rfl (by dsimp only [zS, zN, zH, zT]) ?_
     refine zuw rfl rfl rfl rfl (by dsimp only [zS, zN, zH, zT]) ?_
     refine zun rfl rfl rfl (by dsimp only [zS, zN, zH, zT]) ?_
     refine zun rfl rfl rfl (by dsimp only [zS, zN, zH, zT]) ?_
     refine zun rfl rfl rfl (by dsimp only [zS, zN, zH, zT]) ?_
     refine zun rfl rfl rfl (by dsimp only [zS, zN, zH, zT]) ?_
     refine zuw rfl rfl rfl rfl (by dsimp only [zS, zN, zH, zT]) ?_
     refine zst (op_pick_ff (by rfl) (val_const (by rfl))) rfl (by dsimp only [zS, zN, zH, zT]) ?_
     refine zst (op_move_tmp (by rfl)) rfl (by dsimp only [zS, zN, zH, zT]) ?_
     refine zuw rfl rfl rfl rfl (by dsimp only [zS, zN, zH, zT]) ?_
     refine zuw rfl rfl rfl rfl (by dsimp only [zS, zN, zH, zT]) ?_
     refine zuw rfl rfl rfl rfl (by dsimp only [zS, zN, zH, zT]) ?_
     refine zuw rfl rfl rfl rfl (by dsimp only [zS, zN, zH, zT]) ?_
     refine zun rfl rfl rfl (by dsimp only [zS, zN, zH, zT]) ?_
     refine zun rfl rfl rfl (by dsimp only [zS, zN, zH, zT]) ?_
     refine zun rfl rfl rfl (by dsimp only [zS, zN, zH, zT]) ?_
     refine zun rfl rfl rfl (by dsimp only [zS, zN, zH, zT]) ?_
     refine zuw rfl rfl rfl rfl (by dsimp only [zS, zN, zH, zT]) ?_
     refine zst (op_pick_ff (by rfl) (val_const (by rfl))) rfl (by dsimp only [zS, zN, zH, zT]) ?_
     refine zst (op_assign_tmp (by rfl)) rfl (by dsimp only [zS, zN, zH, zT]) ?_
     refine al_end rfl ?_
     refine then_normal ?_
     refine aw_ret ?_
     refine retPost1 rfl rfl ?_
     exact ⟨by (rw [rightO_eq]; simp only [TF]; first | (exfalso; omega) | (simp [*]; done) | (congr 3; simp [*]; done) | (congr 3; simp [*]; rfl)), rfl⟩
   ·
    (try simp only [y1, y2, y3, y4, y5, y6, y7, y8, y9, y0, List.length_map] at hg3)
    have g3 : ¬ (0 < o.path.length) := by first | omega | simpa using hg3
    apply al_normT
    · (try dsimp only [zS, zN, zH, zT]); try exact rfl
    refine zuw rfl rfl rfl rfl (by dsimp only [zS, zN, zH, zT]) ?_
    refine zuw rfl rfl rfl rfl (by dsimp only [zS, zN, zH, zT]) ?_
    refine zuw rfl rfl rfl rfl (by dsimp only [zS, zN, zH, zT]) ?_
    refine zuw rfl rfl rfl rfl (by dsimp only [zS, zN, zH, zT]) ?_
    refine zst (op_pick_ff (by rfl) (val_const (by rfl))) rfl (by dsimp only [zS, zN, zH, zT]) ?_
    refine zst (op_move_tmp (by rfl)) rfl (by dsimp only [zS, zN, zH, zT]) ?_
    refine zuw rfl rfl rfl rfl (by dsimp only [zS, zN, zH, zT]) ?_
    refine zuw rfl rfl rfl rfl (by dsimp only [zS, zN, zH, zT]) ?_
    refine zuw rfl rfl rfl rfl (by dsimp only [zS, zN, zH, zT]) ?_
    refine zst (op_pick_ff (by rfl) (val_const (by rfl))) rfl (by dsimp only [zS, zN, zH, zT]) ?_
    refine zst (op_move_tmp (by rfl)) rfl (by dsimp only [zS, zN, zH, zT]) ?_
    refine zuw rfl rfl rfl rfl (by dsimp only [zS, zN, zH, zT]) ?_
    refine zuw rfl rfl rfl rfl (by dsimp only [zS, zN, zH, zT]) ?_
    refine zuw rfl rfl rfl rfl (by dsimp only [zS, zN, zH, zT]) ?_
    refine zuw rfl rfl rfl rfl (by dsimp only [zS, zN, zH, zT]) ?_
    refine zun rfl rfl rfl (by dsimp only [zS, zN, zH, zT]) ?_
    refine zun rfl rfl rfl (by dsimp only [zS, zN, zH, zT]) ?_
    refine zun rfl rfl rfl (by dsimp only [zS, zN, zH, zT]) ?_
    refine zun rfl rfl rfl (by dsimp only [zS, zN, zH, zT]) ?_
    refine zuw rfl rfl rfl rfl (by dsimp only [zS, zN, zH, zT]) ?_
    refine zst (op_pick_ff (by rfl) (val_const (by rfl))) rfl (by dsimp only [zS, zN, zH, zT]) ?_
    refine zst (op_move_tmp (by rfl)) rfl (by dsimp only [zS, zN, zH, zT]) ?_
    refine zuw rfl rfl rfl rfl (by dsimp only [zS, zN, zH, zT]) ?_
    refine zuw rfl rfl rfl rfl (by dsimp only [zS, zN, zH, zT]) ?_
    refine zuw rfl rfl rfl rfl (by dsimp only [zS, zN, zH, zT]) ?_
    refine zuw rfl rfl rfl rfl (by dsimp only [zS, zN, zH, zT]) ?_
    refine zun rfl rfl rfl (by dsimp only [zS, zN, zH, zT]) ?_
    refine zun rfl rfl rfl (by dsimp only [zS, zN, zH, zT]) ?_
    refine zun rfl rfl rfl (by dsimp only [zS, zN, zH, zT]) ?_
    refine zun rfl rfl rfl (by dsimp only [zS, zN, zH, zT]) ?_
    refine zuw rfl rfl rfl rfl (by dsimp only [zS, zN, zH, zT]) ?_
    refine zst (op_pick_ff (by rfl) (val_const (by rfl))) rfl (by dsimp only [zS, zN, zH, zT]) ?_
    refine zst (op_assign_tmp (by rfl)) rfl (by dsimp only [zS, zN, zH, zT]) ?_
    refine al_end rfl ?_
    refine then_normal ?_
    refine aw_ret ?_
    refine retPost1 rfl rfl ?_
    exact ⟨by (rw [rightO_eq]; simp only [TF]; first | (exfalso; omega) | (simp [*]; done) | (congr 3; simp [*]; done) | (congr 3; simp [*]; rfl)), rfl⟩
  ·
   (try simp only [y1, y2, y3, y4, y5, y6, y7, y8, y9, y0, List.length_map] at hg2)
   have g2 : ¬ (o.kind ≤ 3) := by first | omega | simpa using hg2
   apply al_normT
   · (try dsimp only [zS, zN, zH, zT]); try exact rfl
   refine zuw rfl rfl rfl rfl (by dsimp only [zS, zN, zH, zT]) ?_
   refine zuw rfl rfl rfl rfl (by dsimp only [zS, zN, zH, zT]) ?_
   refine zuw rfl rfl rfl rfl (by dsimp only [zS, zN, zH, zT]) ?_
   refine zuw rfl rfl rfl rfl (by dsimp only [zS, zN, zH, zT]) ?_
   refine zst (op_pick_ff (by rfl) (val_const (by rfl))) rfl (by dsimp only [zS, zN, zH, zT]) ?_
   refine zst (op_move_tmp (by rfl)) rfl (by dsimp only [zS, zN, zH, zT]) ?_
   refine zuw rfl rfl rfl rfl (by dsimp only [zS, zN, zH, zT]) ?_
   refine zuw rfl rfl rfl rfl (by dsimp only [zS, zN, zH, zT]) ?_
   refine zuw rfl rfl rfl rfl (by dsimp only [zS, zN, zH, zT]) ?_
   refine zuw rfl rfl rfl rfl (by dsimp only [zS, zN, zH, zT]) ?_
   refine zst (op_pick_ff (by rfl) (val_const (by rfl))) rfl (by dsimp only [zS, zN, zH, zT]) ?_
   refine zst (op_move_tmp (by rfl)) rfl (by dsimp only [zS, zN, zH, zT]) ?_
   refine zuw rfl rfl rfl rfl (by dsimp only [zS, zN, zH, zT]) ?_
   refine zuw rfl rfl rfl rfl (by dsimp only [zS, zN, zH, zT]) ?_
   refine zuw rfl rfl rfl rfl (by dsimp only [zS, zN, zH, zT]) ?_
   refine zst (op_pick_ff (by rfl) (val_const (by rfl))) rfl (by dsimp only [zS, zN, zH, zT]) ?_
   refine zst (op_move_tmp (by rfl)) rfl (by dsimp only [zS, zN, zH, zT]) ?_
   refine zuw rfl rfl rfl rfl (by dsimp only [zS, zN, zH, zT]) ?_
   refine zuw rfl rfl rfl rfl (by dsimp only [zS, zN, zH, zT]) ?_
   refine zuw rfl rfl rfl rfl (by dsimp only [zS, zN, zH, zT]) ?_
   refine zuw rfl rfl rfl rfl (by dsimp only [zS, zN, zH, zT]) ?_
   refine zun rfl rfl rfl (by dsimp only [zS, zN, zH, zT]) ?_
   refine zun rfl rfl rfl (by dsimp only [zS, zN, zH, zT]) ?_
   refine zun rfl rfl rfl (by dsimp only [zS, zN, zH, zT]) ?_
   refine zun rfl rfl rfl (by dsimp only [zS, zN, zH, zT]) ?_
   refine zuw rfl rfl rfl rfl (by dsimp only [zS, zN, zH, zT]) ?_
   refine zst (op_pick_ff (by rfl) (val_const (by rfl))) rfl (by dsimp only [zS, zN, zH, zT]) ?_
   refine zst (op_move_tmp (by rfl)) rfl (by dsimp only [zS, zN, zH, zT]) ?_
   refine zuw rfl rfl rfl rfl (by dsimp only [zS, zN, zH, zT]) ?_
   refine zuw rfl rfl rfl rfl (by dsimp only [zS, zN, zH, zT]) ?_
   refine zuw rfl rfl rfl rfl (by dsimp only [zS, zN, zH, zT]) ?_
   refine zuw rfl rfl rfl rfl (by dsimp only [zS, zN, zH, zT]) ?_
   refine zun rfl rfl rfl (by dsimp only [zS, zN, zH, zT]) ?_
   refine zun rfl rfl rfl (by dsimp only [zS, zN, zH, zT]) ?_
   refine zun rfl rfl rfl (by dsimp only [zS, zN, zH, zT]) ?_
   refine zun rfl rfl rfl (by dsimp only [zS, zN, zH, zT]) ?_
   refine zuw rfl rfl rfl rfl (by dsimp only [zS, zN, zH, zT]) ?_
   refine zst (op_pick_ff (by rfl) (val_const (by rfl))) rfl (by dsimp only [zS, zN, zH, zT]) ?_
   refine zst (op_assign_tmp (by rfl)) rfl (by dsimp only [zS, zN, zH, zT]) ?_
   refine al_end rfl ?_
   refine then_normal ?_
   refine aw_ret ?_
   refine retPost1 rfl rfl ?_
   exact ⟨by (rw [rightO_eq]; simp only [TF]; first | (exfalso; omega) | (simp [*]; done) | (congr 3; simp [*]; done) | (congr 3; simp [*]; rfl)), rfl⟩
 ·
  (try simp only [y1, y2, y3, y4, y5, y6, y7, y8, y9, y0, List.length_map] at hg1)
  have g1 : ¬ (1 ≤ o.kind) := by first | omega | simpa using hg1
  apply al_normT
  · (try dsimp only [zS, zN, zH, zT]); try exact rfl
  refine zuw rfl rfl rfl rfl (by dsimp only [zS, zN, zH, zT]) ?_
  refine zuw rfl rfl rfl rfl (by dsimp only [zS, zN, zH, zT]) ?_
  refine zuw rfl rfl rfl rfl (by dsimp only [zS, zN, zH, zT]) ?_
  refine zst (op_pick_ff (by rfl) (val_const (by rfl))) rfl (by dsimp only [zS, zN, zH, zT]) ?_
  refine zst (op_move_tmp (by rfl)) rfl (by dsimp only [zS, zN, zH, zT]) ?_
  refine zuw rfl rfl rfl rfl (by dsimp only [zS, zN, zH, zT]) ?_
  refine zuw rfl rfl rfl rfl (by dsimp only [zS, zN, zH, zT]) ?_
  refine zuw rfl rfl rfl rfl (by dsimp only [zS, zN, zH, zT]) ?_
  refine zuw rfl rfl rfl rfl (by dsimp only [zS, zN, zH, zT]) ?_
  refine zst (op_pick_ff (by rfl) (val_const (by rfl))) rfl (by dsimp only [zS, zN, zH, zT]) ?_
  refine zst (op_move_tmp (by rfl)) rfl (by dsimp only [zS, zN, zH, zT]) ?_
  refine zuw rfl rfl rfl rfl (by dsimp only [zS, zN, zH, zT]) ?_
  refine zuw rfl rfl rfl rfl (by dsimp only [zS, zN, zH, zT]) ?_
  refine zuw rfl rfl rfl rfl (by dsimp only [zS, zN, zH, zT]) ?_
  refine zuw rfl rfl rfl rfl (by dsimp only [zS, zN, zH, zT]) ?_
  refine zst (op_pick_ff (by rfl) (val_const (by rfl))) rfl (by dsimp only [zS, zN, zH, zT]) ?_
  refine zst (op_move_tmp (by rfl)) rfl (by dsimp only [zS, zN, zH, zT]) ?_
  refine zuw rfl rfl rfl rfl (by dsimp only [zS, zN, zH, zT]) ?_
  refine zuw rfl rfl rfl rfl (by dsimp only [zS, zN, zH, zT]) ?_
  refine zuw rfl rfl rfl rfl (by dsimp only [zS, zN, zH, zT]) ?_
  refine zst (op_pick_ff (by rfl) (val_const (by rfl))) rfl (by dsimp only [zS, zN, zH, zT]) ?_
  refine zst (op_move_tmp (by rfl)) rfl (by dsimp only [zS, zN, zH, zT]) ?_
  refine zuw rfl rfl rfl rfl (by dsimp only [zS, zN, zH, zT]) ?_
  refine zuw rfl rfl rfl rfl (by dsimp only [zS, zN, zH, zT]) ?_
  refine zuw rfl rfl rfl rfl (by dsimp only [zS, zN, zH, zT]) ?_
  refine zuw rfl rfl rfl rfl (by dsimp only [zS, zN, zH, zT]) ?_
  refine zun rfl rfl rfl (by dsimp only [zS, zN, zH, zT]) ?_
  refine zun rfl rfl rfl (by dsimp only [zS, zN, zH, zT]) ?_
  refine zun rfl rfl rfl (by dsimp only [zS, zN, zH, zT]) ?_
  refine zun rfl rfl rfl (by dsimp only [zS, zN, zH, zT]) ?_
  refine zuw rfl rfl rfl rfl (by dsimp only [zS, zN, zH, zT]) ?_
  refine zst (op_pick_ff (by rfl) (val_const (by rfl))) rfl (by dsimp only [zS, zN, zH, zT]) ?_
  refine zst (op_move_tmp (by rfl)) rfl (by dsimp only [zS, zN, zH, zT]) ?_
  refine zuw rfl rfl rfl rfl (by dsimp only [zS, zN, zH, zT]) ?_
  refine zuw rfl rfl rfl rfl (by dsimp only [zS, zN, zH, zT]) ?_
  refine zuw rfl rfl rfl rfl (by dsimp only [zS, zN, zH, zT]) ?_
  refine zuw rfl rfl rfl rfl (by dsimp only [zS, zN, zH, zT]) ?_
  refine zun rfl rfl rfl (by dsimp only [zS, zN, zH, zT]) ?_
  refine zun rfl rfl rfl (by dsimp only [zS, zN, zH, zT]) ?_
  refine zun rfl rfl rfl (by dsimp only [zS, zN, zH, zT]) ?_
  refine zun rfl rfl rfl (by dsimp only [zS, zN, zH, zT]) ?_
  refine zuw rfl rfl rfl rfl (by dsimp only [zS, zN, zH, zT]) ?_
  refine zst (op_pick_ff (by rfl) (val_const (by rfl))) rfl (by dsimp only [zS, zN, zH, zT]) ?_
  refine zst (op_assign_tmp (by rfl)) rfl (by dsimp only [zS, zN, zH, zT]) ?_
  refine al_end rfl ?_
  refine then_normal ?_
  refine aw_ret ?_
  refine retPost1 rfl rfl ?_
  exact ⟨by (rw [rightO_eq]; simp only [TF]; first | (exfalso; omega) | (simp [*]; done) | (congr 3; simp [*]; done) | (congr 3; simp [*]; rfl)), rfl⟩
end Go.Proofs.Ytjamnhofbkgblaa
namespace Go.Proofs.Ytjamnhofbkgblaa
open Go.AV Go.AV.Ord Go.AV.Oct Go.AV.Val
set_option linter.unusedVariables false
set_option linter.unusedSimpArgs false
set_option maxHeartbeats 1000000 in
set_option maxRecDepth 100000 in
theorem lawR_step (Hs : HS) (k : Int) (y : Bool) (i : Int) (tx : List UInt8) (ls : List V) (fs : List F) (hls : ls.length ≤ 1000) (hfs : fs.length ≤ 1000) (ihL : ∀ x ∈ ls, ∀ Hs : HS, ACalls Try.prog 11 [.d (.agg (vC x))] Hs (Ret (.d (.agg (vC (lawR x)))) Hs)) (ihF : ∀ x ∈ fs, ∀ Hs : HS, ACalls Try.prog 11 [.d (.agg (vC x.val))] Hs (Ret (.d (.agg (vC (lawR x.val)))) Hs)) : ACalls Try.prog 11 [.d (.agg (v6D k y i tx ls fs))] Hs (Ret (.d (.agg (vC (lawR (.mk k y i tx ls fs))))) Hs) := by
 refine ACalls.tidy1 ?_
 suffices h : ACalls Try.prog 11 [.d (.agg (v6D k y i tx ls fs))] Hs (fun av H' => Weak av (.d (.agg (vC (lawR (.mk k y i tx ls fs))))) ∧ Ext Hs H') from h.weak fun v H' ⟨h1, h2⟩ => ⟨_, h1, rfl, h2⟩
 obtain ⟨q0, q5⟩ := kind6_le k
 refine acalls_of_awC Try.func11 rfl ?_
 refine aw_start (T' := ((.d (.agg (v6D k y i tx ls fs))) :: .un :: .un :: .un :: .un :: .un :: .un :: .un :: .un :: .un :: .un :: .un :: .un :: .un :: .un :: .un :: .un :: .un :: .un :: .un :: .un :: .un :: .un :: .un :: .un :: .un :: .un :: .un :: .un :: .un :: .un :: .un :: .un :: .un :: .un :: .un :: .un :: .un :: .un :: .un :: .un :: .un :: .un :: .un :: .un :: .un :: .un :: .un :: .un :: .un :: .un :: .un :: .un :: .un :: .un :: .un :: .un :: .un :: .un :: .un :: .un :: .un :: .un :: .un :: .un :: .un :: .un :: .un :: .un :: .un :: .un :: .un :: [])) rfl ?_
 refine aw_seq ?_
 refine aw_region ?_
 refine zst (op_box_elt (cs := v6D k y i tx ls fs) (by rfl) (by rfl)) rfl (by dsimp only [zS, zN, zH, zT]) ?_
 refine zst (op_alloc (Zr26) (by rfl)) rfl (by dsimp only [zS, zN, zH, zT]) ?_
 refine al_end rfl ?_
 refine then_normal ?_
 apply aw_cutF (fun T H => ∃ (u : Unit), T = (.un :: (.elt (v6D k y i tx ls fs)) :: (.ptr Hs.nb 0) :: (.ptr (Hs.nb + 1) 0) :: .un :: .un :: .un :: .un :: .un :: .un :: .un :: .un :: .un :: .un :: .un :: .un :: .un :: .un :: .un :: .un :: .un :: .un :: .un :: .un :: .un :: .un :: .un :: .un :: .un :: .un :: .un :: .un :: .un :: .un :: .un :: .un :: .un :: .un :: .un :: .un :: .un :: .un :: .un :: .un :: .un :: .un :: .un :: .un :: .un :: .un :: .un :: .un :: .un :: .un :: .un :: .un :: .un :: .un :: .un :: .un :: .un :: .un :: .un :: .un :: .un :: .un :: .un :: .un :: .un :: .un :: .un :: .un :: []) ∧ TwoB Hs 26 H (vBlk 26 (kind6 k) false 0 [] nilS nilS))
 ·
  refine aw_region ?_
  refine zst (by first | exact op_fieldAddr_ptr Try.underlying26 rfl Sz22 (by rfl) (by rfl) | exact op_fieldAddr_elt Try.underlying26 rfl Sz22 (by rfl) (by rfl) (by rfl)) rfl (by dsimp only [zS, zN, zH, zT]) ?_
  refine zst (by first | exact op_load_elt Try.underlying22 (by rfl) (by rfl) (by rfl) | exact op_load_ptr Try.underlying22 (by rfl) (by rfl) (by first | exact hb.e1 | exact hb.psh.e1 | exact setB_at push_at) (by rfl)) rfl (by dsimp only [zS, zN, zH, zT]) ?_
  refine zst (op_convI (by rw [Try.underlying22]; rfl) Try.underlying62 (by rfl) (by rfl)) rfl (by dsimp only [zS, zN, zH, zT]) ?_
  refine zst (op_rem (by rfl) (by rfl) (by decide) (rem6 k)) rfl (by dsimp only [zS, zN, zH, zT]) ?_
  refine zst (op_convI (by rw [Try.underlying62]; rfl) Try.underlying22 (by rfl) (wrap_i64 ⟨by omega, by omega⟩)) rfl (by dsimp only [zS, zN, zH, zT]) ?_
  refine zst (op_build (pl := [(0, 1), (1, 1), (2, 1), (3, 1), (4, 1), (5, 1)]) Try.underlying26 Zr26 (by kernel_rfl) (by rfl) (by rfl) (by rfl)) rfl (by dsimp only [zS, zN, zH, zT]) ?_
  refine zst (op_alloc (Zr26) (by rfl)) rfl (by dsimp only [zS, zN, zH, zT]) ?_
  refine zst (op_storeB (vs := (vs6 (kind6 k) false 0 [] nilS nilS)) (b' := (vBlk 26 (kind6 k) false 0 [] nilS nilS)) (H' := _) Sz26 (by rfl) push_at (by intro h; cases h) (by rfl) (by rfl) (Nat.le_of_ble_eq_true rfl) (by simp [AV.one, DV.one, TF, S, I, BY]) (by rfl) (by rfl) rfl) rfl (by dsimp only [zS, zN, zH, zT]) ?_
  refine al_end rfl ?_
  apply cut_to (false :: true :: true :: true :: false :: false :: false :: false :: false :: false :: false :: false :: false :: false :: false :: false :: false :: false :: false :: false :: false :: false :: false :: false :: false :: false :: false :: false :: false :: false :: false :: false :: false :: false :: false :: false :: false :: false :: false :: false :: false :: false :: false :: false :: false :: false :: false :: false :: false :: false :: false :: false :: false :: false :: false :: false :: false :: false :: false :: false :: false :: false :: false :: false :: false :: false :: false :: false :: false :: false :: false :: false :: [])
  · (try dsimp only [maskT]); try exact rfl
  · rfl
  exact ⟨(), by (simp only [push_nb]) <;> rfl, by (simp only [push_nb]); exact TwoB.start Hs 26 _⟩
 rintro T H ⟨u, rfl, hb⟩
 apply aw_cutF (fun T H => ∃ (k2 : Int) (y2 : Bool) (i2 : Int) (tx2 : List UInt8) (l2 : AV) (f2 : AV) (ls2 : List V) (fs2 : List F), T = (.un :: .un :: (.ptr Hs.nb 0) :: (.ptr (Hs.nb + 1) 0) :: .un :: .un :: .un :: .un :: .un :: .un :: .un :: .un :: .un :: .un :: .un :: .un :: .un :: .un :: .un :: .un :: .un :: .un :: .un :: .un :: .un :: .un :: .un :: .un :: .un :: .un :: .un :: .un :: .un :: .un :: .un :: .un :: .un :: .un :: .un :: .un :: .un :: .un :: .un :: .un :: .un :: .un :: .un :: .un :: .un :: .un :: .un :: .un :: .un :: .un :: .un :: .un :: .un :: .un :: .un :: .un :: .un :: .un :: .un :: .un :: .un :: .un :: .un :: .un :: .un :: .un :: .un :: .un :: []) ∧ TwoB Hs 26 H (vBlk 26 k2 y2 i2 tx2 l2 f2) ∧ Weak l2 (.d (.lst 6 (ls2.map vD))) ∧ Weak f2 (.d (.lst 7 (fs2.map fD))) ∧ lawR (.mk k y i tx ls fs) = .mk k2 y2 i2 tx2 ls2 fs2)
 ·
  refine aw_seq ?_
  refine aw_region ?_
  refine zst (by first | exact op_fieldAddr_ptr Try.underlying26 rfl Sz22 (by rfl) (by rfl) | exact op_fieldAddr_elt Try.underlying26 rfl Sz22 (by rfl) (by rfl) (by rfl)) rfl (by dsimp only [zS, zN, zH, zT]) ?_
  refine zst (by first | exact op_load_elt Try.underlying22 (by rfl) (by rfl) (by rfl) | exact op_load_ptr Try.underlying22 (by rfl) (by rfl) (by first | exact hb.e1 | exact hb.psh.e1 | exact setB_at push_at) (by rfl)) rfl (by dsimp only [zS, zN, zH, zT]) ?_
  refine al_end rfl ?_
  refine then_normal ?_
  refine aw_block ?_
  refine aw_seq ?_
  refine aw_region ?_
  refine zst (op_eqI (by rfl) (by rfl)) rfl (by dsimp only [zS, zN, zH, zT]) ?_
  refine zst (op_assign_tmp (by rfl)) rfl (by dsimp only [zS, zN, zH, zT]) ?_
  refine al_end rfl ?_
  refine then_normal ?_
  refine aw_cond rfl (fun hc1 => ?_) (fun hc1 => ?_)
  ·
   (try simp only [y1, y2, y3, y4, y5, y6, y7, y8, y9, y0, List.length_map] at hc1)
   have hk1 : kind6 k = 1 := hc1
   refine aw_region ?_
   refine zst (by first | exact op_fieldAddr_ptr Try.underlying26 rfl Sz4 (by rfl) (by rfl) | exact op_fieldAddr_elt Try.underlying26 rfl Sz4 (by rfl) (by rfl) (by rfl)) rfl (by dsimp only [zS, zN, zH, zT]) ?_
   refine zst (by first | exact op_load_elt Try.underlying4 (by rfl) (by rfl) (by rfl) | exact op_load_ptr Try.underlying4 (by rfl) (by rfl) (by first | exact hb.e1 | exact hb.psh.e1 | exact setB_at push_at) (by rfl)) rfl (by dsimp only [zS, zN, zH, zT]) ?_
   refine zst (by first | exact op_fieldAddr_ptr Try.underlying26 rfl Sz4 (by rfl) (by rfl) | exact op_fieldAddr_elt Try.underlying26 rfl Sz4 (by rfl) (by rfl) (by rfl)) rfl (by dsimp only [zS, zN, zH, zT]) ?_
   refine zst (op_storeB (vs := [.d (TF y)]) (b' := (vBlk 26 (kind6 k) y 0 [] nilS nilS)) (H' := _) Sz4 (by rfl) hb.e1 (by intro h; cases h) (by rfl) (by rfl) (Nat.le_of_ble_eq_true rfl) (by simp [AV.one, DV.one, TF, S, I, BY]) (by rfl) (by rfl) rfl) rfl (by dsimp only [zS, zN, zH, zT]) ?_
   refine al_end rfl ?_
   refine inBlock_normal ?_
   apply cut_to (false :: false :: true :: true :: false :: false :: false :: false :: false :: false :: false :: false :: false :: false :: false :: false :: false :: false :: false :: false :: false :: false :: false :: false :: false :: false :: false :: false :: false :: false :: false :: false :: false :: false :: false :: false :: false :: false :: false :: false :: false :: false :: false :: false :: false :: false :: false :: false :: false :: false :: false :: false :: false :: false :: false :: false :: false :: false :: false :: false :: false :: false :: false :: false :: false :: false :: false :: false :: false :: false :: false :: false :: [])
   · (try dsimp only [maskT]); try exact rfl
   · rfl
   exact ⟨_, _, _, _, _, _, [], [], rfl, hb.setv _, weak_nilL, weak_nilF, by rw [lawR_mk, if_pos hk1, hk1]⟩
  ·
   (try simp only [y1, y2, y3, y4, y5, y6, y7, y8, y9, y0, List.length_map] at hc1)
   have hk1 : ¬ kind6 k = 1 := hc1
   refine aw_seq ?_
   refine aw_region ?_
   refine zst (op_eqI (by rfl) (by rfl)) rfl (by dsimp only [zS, zN, zH, zT]) ?_
   refine zst (op_assign_tmp (by rfl)) rfl (by dsimp only [zS, zN, zH, zT]) ?_
   refine al_end rfl ?_
   refine then_normal ?_
   refine aw_cond rfl (fun hc2 => ?_) (fun hc2 => ?_)
   ·
    (try simp only [y1, y2, y3, y4, y5, y6, y7, y8, y9, y0, List.length_map] at hc2)
    have hk2 : kind6 k = 2 := hc2
    refine aw_region ?_
    refine zst (by first | exact op_fieldAddr_ptr Try.underlying26 rfl Sz2 (by rfl) (by rfl) | exact op_fieldAddr_elt Try.underlying26 rfl Sz2 (by rfl) (by rfl) (by rfl)) rfl (by dsimp only [zS, zN, zH, zT]) ?_
    refine zst (by first | exact op_load_elt Try.underlying2 (by rfl) (by rfl) (by rfl) | exact op_load_ptr Try.underlying2 (by rfl) (by rfl) (by first | exact hb.e1 | exact hb.psh.e1 | exact setB_at push_at) (by rfl)) rfl (by dsimp only [zS, zN, zH, zT]) ?_
    refine zst (by first | exact op_fieldAddr_ptr Try.underlying26 rfl Sz2 (by rfl) (by rfl) | exact op_fieldAddr_elt Try.underlying26 rfl Sz2 (by rfl) (by rfl) (by rfl)) rfl (by dsimp only [zS, zN, zH, zT]) ?_
    refine zst (op_storeB (vs := [.d (.v (.int .i64 i))]) (b' := (vBlk 26 (kind6 k) false i [] nilS nilS)) (H' := _) Sz2 (by rfl) hb.e1 (by intro h; cases h) (by rfl) (by rfl) (Nat.le_of_ble_eq_true rfl) (by simp [AV.one, DV.one, TF, S, I, BY]) (by rfl) (by rfl) rfl) rfl (by dsimp only [zS, zN, zH, zT]) ?_
    refine al_end rfl ?_
    refine inBlock_normal ?_
    apply cut_to (false :: false :: true :: true :: false :: false :: false :: false :: false :: false :: false :: false :: false :: false :: false :: false :: false :: false :: false :: false :: false :: false :: false :: false :: false :: false :: false :: false :: false :: false :: false :: false :: false :: false :: false :: false :: false :: false :: false :: false :: false :: false :: false :: false :: false :: false :: false :: false :: false :: false :: false :: false :: false :: false :: false :: false :: false :: false :: false :: false :: false :: false :: false :: false :: false :: false :: false :: false :: false :: false :: false :: false :: [])
    · (try dsimp only [maskT]); try exact rfl
    · rfl
    exact ⟨_, _, _, _, _, _, [], [], rfl, hb.setv _, weak_nilL, weak_nilF, by rw [lawR_mk, if_neg hk1, if_pos hk2, hk2]⟩
   ·
    (try simp only [y1, y2, y3, y4, y5, y6, y7, y8, y9, y0, List.length_map] at hc2)
    have hk2 : ¬ kind6 k = 2 := hc2
    refine aw_seq ?_
    refine aw_region ?_
    refine zst (op_eqI (by rfl) (by rfl)) rfl (by dsimp only [zS, zN, zH, zT]) ?_
    refine zst (op_assign_tmp (by rfl)) rfl (by dsimp only [zS, zN, zH, zT]) ?_
    refine al_end rfl ?_
    refine then_normal ?_
    refine aw_cond rfl (fun hc3 => ?_) (fun hc3 => ?_)
    ·
     (try simp only [y1, y2, y3, y4, y5, y6, y7, y8, y9, y0, List.length_map] at hc3)
     have hk3 : kind6 k = 3 := hc3
     refine aw_region ?_
     refine zst (by first | exact op_fieldAddr_ptr Try.underlying26 rfl Sz9 (by rfl) (by rfl) | exact op_fieldAddr_elt Try.underlying26 rfl Sz9 (by rfl) (by rfl) (by rfl)) rfl (by dsimp only [zS, zN, zH, zT]) ?_
     refine zst (by first | exact op_load_elt Try.underlying9 (by rfl) (by rfl) (by rfl) | exact op_load_ptr Try.underlying9 (by rfl) (by rfl) (by first | exact hb.e1 | exact hb.psh.e1 | exact setB_at push_at) (by rfl)) rfl (by dsimp only [zS, zN, zH, zT]) ?_
     refine zst (by first | exact op_fieldAddr_ptr Try.underlying26 rfl Sz9 (by rfl) (by rfl) | exact op_fieldAddr_elt Try.underlying26 rfl Sz9 (by rfl) (by rfl) (by rfl)) rfl (by dsimp only [zS, zN, zH, zT]) ?_
     refine zst (op_storeB (vs := [.d (S tx)]) (b' := (vBlk 26 (kind6 k) false 0 tx nilS nilS)) (H' := _) Sz9 (by rfl) hb.e1 (by intro h; cases h) (by rfl) (by rfl) (Nat.le_of_ble_eq_true rfl) (by simp [AV.one, DV.one, TF, S, I, BY]) (by rfl) (by rfl) rfl) rfl (by dsimp only [zS, zN, zH, zT]) ?_
     refine al_end rfl ?_
     refine inBlock_normal ?_
     apply cut_to (false :: false :: true :: true :: false :: false :: false :: false :: false :: false :: false :: false :: false :: false :: false :: false :: false :: false :: false :: false :: false :: false :: false :: false :: false :: false :: false :: false :: false :: false :: false :: false :: false :: false :: false :: false :: false :: false :: false :: false :: false :: false :: false :: false :: false :: false :: false :: false :: false :: false :: false :: false :: false :: false :: false :: false :: false :: false :: false :: false :: false :: false :: false :: false :: false :: false :: false :: false :: false :: false :: false :: false :: [])
     · (try dsimp only [maskT]); try exact rfl
     · rfl
     exact ⟨_, _, _, _, _, _, [], [], rfl, hb.setv _, weak_nilL, weak_nilF, by rw [lawR_mk, if_neg hk1, if_neg hk2, if_pos hk3, hk3]⟩
    ·
     (try simp only [y1, y2, y3, y4, y5, y6, y7, y8, y9, y0, List.length_map] at hc3)
     have hk3 : ¬ kind6 k = 3 := hc3
     refine aw_seq ?_
     refine aw_region ?_
     refine zst (op_eqI (by rfl) (by rfl)) rfl (by dsimp only [zS, zN, zH, zT]) ?_
     refine zst (op_assign_tmp (by rfl)) rfl (by dsimp only [zS, zN, zH, zT]) ?_
     refine al_end rfl ?_
     refine then_normal ?_
     refine aw_cond rfl (fun hc4 => ?_) (fun hc4 => ?_)
     ·
      (try simp only [y1, y2, y3, y4, y5, y6, y7, y8, y9, y0, List.length_map] at hc4)
      have hk4 : kind6 k = 4 := hc4
      refine aw_seq ?_
      refine aw_region ?_
      refine zst (by first | exact op_fieldAddr_ptr Try.underlying26 rfl Sz23 (by rfl) (by rfl) | exact op_fieldAddr_elt Try.underlying26 rfl Sz23 (by rfl) (by rfl) (by rfl)) rfl (by dsimp only [zS, zN, zH, zT]) ?_
      refine zst (by first | exact op_load_elt Try.underlying23 (by rfl) (by rfl) (by rfl) | exact op_load_ptr Try.underlying23 (by rfl) (by rfl) (by first | exact hb.e1 | exact hb.psh.e1 | exact setB_at push_at) (by rfl)) rfl (by dsimp only [zS, zN, zH, zT]) ?_
      refine zst (op_lenL Try.underlying23 (by first | exact LL.d _ _ | exact LL.own _ _ _ | exact LL.nil _ | assumption)) rfl (by dsimp only [zS, zN, zH, zT]) ?_
      refine zst (op_move_const (by rfl)) rfl (by dsimp only [zS, zN, zH, zT]) ?_
      refine al_end rfl ?_
      refine then_normal ?_
      refine aw_block ?_
      apply aw_loopF (fun n T H => ∃ (j : Nat) (v : AV) (t : Option Nat), T = (.un :: (.elt (v6D k y i tx ls fs)) :: (.ptr Hs.nb 0) :: (.ptr (Hs.nb + 1) 0) :: .un :: .un :: .un :: .un :: .un :: .un :: .un :: .un :: .un :: .un :: .un :: .un :: .un :: .un :: .un :: .un :: .un :: .un :: .un :: .un :: .un :: .un :: .un :: .un :: .un :: .un :: .un :: .un :: .un :: .un :: .un :: (.d (.lst 6 (ls.map vD))) :: (.d (I (ls.map vD).length)) :: (.d (I j)) :: .un :: .un :: .un :: .un :: .un :: .un :: .un :: .un :: .un :: .un :: .un :: .un :: .un :: .un :: .un :: .un :: .un :: .un :: .un :: .un :: .un :: .un :: .un :: .un :: .un :: .un :: .un :: .un :: .un :: .un :: .un :: .un :: .un :: .un :: []) ∧ j ≤ ls.length ∧ n = ls.length - j ∧ TwoB Hs 26 H (vBlk 26 (kind6 k) false 0 [] v nilS) ∧ GL Hs H v t 6 (((ls.take j).map lawR).map vD)) (ls.length) (false :: true :: true :: true :: false :: false :: false :: false :: false :: false :: false :: false :: false :: false :: false :: false :: false :: false :: false :: false :: false :: false :: false :: false :: false :: false :: false :: false :: false :: false :: false :: false :: false :: false :: false :: true :: true :: true :: false :: false :: false :: false :: false :: false :: false :: false :: false :: false :: false :: false :: false :: false :: false :: false :: false :: false :: false :: false :: false :: false :: false :: false :: false :: false :: false :: false :: false :: false :: false :: false :: false :: false :: [])
      · (try dsimp only [maskT]); try exact rfl
      · rfl
      · exact ⟨0, _, _, rfl, by omega, rfl, hb, GL.nil _ _ _⟩
      rintro n T H ⟨j, v, t, rfl, hj, rfl, hb, hg⟩
      refine aw_seq ?_
      refine aw_region ?_
      refine zst (op_ltI (by rfl) (by rfl)) rfl (by dsimp only [zS, zN, zH, zT]) ?_
      refine al_end rfl ?_
      refine then_normal ?_
      refine aw_seq ?_
      refine aw_cond rfl (fun hc5 => ?_) (fun hc5 => ?_)
      ·
       (try simp only [y1, y2, y3, y4, y5, y6, y7, y8, y9, y0, List.length_map] at hc5)
       (try simp only [List.length_map] at hc5)
       have hlt : j < ls.length := by omega
       obtain ⟨x, hx1⟩ : ∃ x, ls[j]? = some x := ⟨_, List.getElem?_eq_getElem hlt⟩
       refine aw_skip ?_
       refine then_normal ?_
       refine aw_seq ?_
       refine aw_block ?_
       refine aw_seq ?_
       refine aw_region ?_
       refine zst (op_indexAddr (z := vD x) (cs := [I x.kind, TF x.yes, .v (.int .i64 x.num), S x.text, .lst 6 (x.list.map vD), .lst 7 (x.fields.map fD)]) Try.underlying23 Sz26 (LL.d _ _) (by rfl) (by omega) (by rw [List.getElem?_map, show ((j : Nat) : Int).toNat = j from rfl, hx1]; rfl) (vD_cells x)) rfl (by dsimp only [zS, zN, zH, zT]) ?_
       refine zst (op_load_elts (ds := vC x) Try.underlying26 (by rfl) Sz26 (by rfl) (Nat.le_of_ble_eq_true rfl) (by rw [vC_eq]; rfl)) rfl (by dsimp only [zS, zN, zH, zT]) ?_
       refine zst (op_alloc (Zr26) (by rfl)) rfl (by dsimp only [zS, zN, zH, zT]) ?_
       refine zst (op_storeV (b' := ⟨26, (vC x).map .d, false⟩) x Sz26 (by rfl) push_at (by rfl) (Nat.le_of_ble_eq_true rfl) (by rfl) (by rw [vC_eq]; rfl)) rfl (by dsimp only [zS, zN, zH, zT]) ?_
       refine al_end rfl ?_
       refine then_normal ?_
       refine aw_draw [0, 1, 1, 0, 0, 2, 0, 2] mixed (by kernel_rfl) ?_
       refine zd0 (fun H => (by first | exact op_fieldAddr_ptr Try.underlying26 rfl Sz23 (by rfl) (by rfl) | exact op_fieldAddr_elt Try.underlying26 rfl Sz23 (by rfl) (by rfl) (by rfl))) rfl (by dsimp only [zS, zN, zH, zT]) ?_
       refine zd1 (by first | exact op_load_elt Try.underlying23 (by rfl) (by rfl) (by rfl) | exact op_load_ptr Try.underlying23 (by rfl) (by rfl) (by first | exact hb.e1 | exact hb.psh.e1 | exact setB_at push_at) (by rfl)) rfl (by dsimp only [zS, zN, zH, zT]) ?_
       refine zd1 (op_load_ptrsD (vC x) Try.underlying26 (by rfl) Sz26 (by rfl) (setB_at push_at) (by show 0 + 6 ≤ ((vC x).map AV.d).length; rw [List.length_map, vC_len]; exact Nat.le_refl _) (by show (((vC x).map AV.d).drop 0).take 6 = _; rw [List.drop_zero, List.take_of_length_le (by rw [List.length_map, vC_len]; exact Nat.le_refl _)]) (vC_one x)) rfl (by dsimp only [zS, zN, zH, zT]) ?_
       refine zd0 (fun H => (op_callF Try.func11 (by rfl) (by rfl) (.tmp (by rfl) .nil) (ihL x (List.mem_of_getElem? hx1) _))) rfl (by dsimp only [zS, zN, zH, zT]) ?_
       refine zd0 (fun H => (op_lit Try.underlying23 ZS26 (.cons (y := vD (lawR x)) (by rfl) (.nil _)) (by rfl) (lit_v _) (lit_v1 _) (by decide))) rfl (by dsimp only [zS, zN, zH, zT]) ?_
       refine zd2 (op_append Try.underlying23 Inf26 (by rfl) hg.app (.list _ _ _ _ Try.underlying23 (LL.own _ _ _)) hg.ok (by simp) (by simp; omega) (by simp; omega)) rfl (by dsimp only [zS, zN, zH, zT]) ?_
       refine zd0 (fun H => (by first | exact op_fieldAddr_ptr Try.underlying26 rfl Sz23 (by rfl) (by rfl) | exact op_fieldAddr_elt Try.underlying26 rfl Sz23 (by rfl) (by rfl) (by rfl))) rfl (by dsimp only [zS, zN, zH, zT]) ?_
       refine zd2 (op_storeB (vs := [.own _ 6 _]) (b' := (vBlk 26 (kind6 k) false 0 [] (.own _ 6 _) nilS)) (H' := _) Sz23 (by rfl) (hb.psh.up hg.new hg.ok).e1 (by intro h; cases h) (by rfl) (by rfl) (Nat.le_of_ble_eq_true rfl) (by simp [AV.one, DV.one, TF, S, I, BY]) (by rfl) (by rfl) rfl) rfl (by dsimp only [zS, zN, zH, zT]) ?_
       refine drun_end rfl ?_
       refine inBlock_normal (then_normal ?_)
       refine aw_region ?_
       refine zst (by first | exact op_add (by rfl) (by rfl) (wrap_i64 ⟨by omega, by omega⟩) | exact op_add (by rfl) (by rfl) (by rfl)) rfl (by dsimp only [zS, zN, zH, zT]) ?_
       refine zst (op_move_tmp (by rfl)) rfl (by dsimp only [zS, zN, zH, zT]) ?_
       refine al_end rfl ?_
       apply again_to (ls.length - (j + 1)) (false :: true :: true :: true :: false :: false :: false :: false :: false :: false :: false :: false :: false :: false :: false :: false :: false :: false :: false :: false :: false :: false :: false :: false :: false :: false :: false :: false :: false :: false :: false :: false :: false :: false :: false :: true :: true :: true :: false :: false :: false :: false :: false :: false :: false :: false :: false :: false :: false :: false :: false :: false :: false :: false :: false :: false :: false :: false :: false :: false :: false :: false :: false :: false :: false :: false :: false :: false :: false :: false :: false :: false :: [])
       · (try dsimp only [maskT]); try exact rfl
       · rfl
       · omega
       exact ⟨j + 1, _, _, rfl, by omega, rfl, ((hb.psh.up hg.new hg.ok).setv _), (GL.step (H := (H.push 26 _).setB H.nb _) (hg.toks rfl) (.inl (hb.psh.ext)) (by simp) (by rw [take_snoc hx1]; simp)).toks rfl⟩
      ·
       (try simp only [y1, y2, y3, y4, y5, y6, y7, y8, y9, y0, List.length_map] at hc5)
       (try simp only [List.length_map] at hc5)
       have hje : j = ls.length := by omega
       subst hje
       rw [List.take_length] at hg
       refine aw_exit ?_
       refine then_exit (again_exit (inBlock_here (inBlock_normal ?_)))
       apply cut_to (false :: false :: true :: true :: false :: false :: false :: false :: false :: false :: false :: false :: false :: false :: false :: false :: false :: false :: false :: false :: false :: false :: false :: false :: false :: false :: false :: false :: false :: false :: false :: false :: false :: false :: false :: false :: false :: false :: false :: false :: false :: false :: false :: false :: false :: false :: false :: false :: false :: false :: false :: false :: false :: false :: false :: false :: false :: false :: false :: false :: false :: false :: false :: false :: false :: false :: false :: false :: false :: false :: false :: false :: [])
       · (try dsimp only [maskT]); try exact rfl
       · rfl
       exact ⟨_, _, _, _, _, _, ls.map lawR, [], rfl, hb, Weak.lst hg.app, weak_nilF, by rw [lawR_mk, if_neg hk1, if_neg hk2, if_neg hk3, if_pos hk4, hk4]⟩
     ·
      (try simp only [y1, y2, y3, y4, y5, y6, y7, y8, y9, y0, List.length_map] at hc4)
      have hk4 : ¬ kind6 k = 4 := hc4
      refine aw_seq ?_
      refine aw_region ?_
      refine zst (op_eqI (by rfl) (by rfl)) rfl (by dsimp only [zS, zN, zH, zT]) ?_
      refine zst (op_assign_tmp (by rfl)) rfl (by dsimp only [zS, zN, zH, zT]) ?_
      refine al_end rfl ?_
      refine then_normal ?_
      refine aw_cond rfl (fun hc6 => ?_) (fun hc6 => ?_)
      ·
       (try simp only [y1, y2, y3, y4, y5, y6, y7, y8, y9, y0, List.length_map] at hc6)
       have hk5 : kind6 k = 5 := hc6
       refine aw_seq ?_
       refine aw_region ?_
       refine zst (op_lit Try.underlying24 ZS48 (.nil _) (by rfl) (by simp) (by simp [flat]) (by decide)) rfl (by dsimp only [zS, zN, zH, zT]) ?_
       refine zst (op_assign_tmp (by rfl)) rfl (by dsimp only [zS, zN, zH, zT]) ?_
       refine al_end rfl ?_
       refine then_normal ?_
       refine aw_seq ?_
       refine aw_seq ?_
       refine aw_region ?_
       refine zst (by first | exact op_fieldAddr_ptr Try.underlying26 rfl Sz24 (by rfl) (by rfl) | exact op_fieldAddr_elt Try.underlying26 rfl Sz24 (by rfl) (by rfl) (by rfl)) rfl (by dsimp only [zS, zN, zH, zT]) ?_
       refine zst (by first | exact op_load_elt Try.underlying24 (by rfl) (by rfl) (by rfl) | exact op_load_ptr Try.underlying24 (by rfl) (by rfl) (by first | exact hb.e1 | exact hb.psh.e1 | exact setB_at push_at) (by rfl)) rfl (by dsimp only [zS, zN, zH, zT]) ?_
       refine zst (op_lenL Try.underlying24 (by first | exact LL.d _ _ | exact LL.own _ _ _ | exact LL.nil _ | assumption)) rfl (by dsimp only [zS, zN, zH, zT]) ?_
       refine zst (op_move_const (by rfl)) rfl (by dsimp only [zS, zN, zH, zT]) ?_
       refine al_end rfl ?_
       refine then_normal ?_
       refine aw_block ?_
       apply aw_loopF (fun n T H => ∃ (j : Nat) (t : Option Nat), T = (.un :: (.elt (v6D k y i tx ls fs)) :: (.ptr Hs.nb 0) :: (.ptr (Hs.nb + 1) 0) :: .un :: .un :: (.own t 7 (((fs.take j).map lawF).map fD)) :: .un :: .un :: .un :: .un :: .un :: .un :: .un :: .un :: .un :: .un :: .un :: .un :: .un :: .un :: .un :: .un :: .un :: .un :: .un :: .un :: .un :: .un :: .un :: .un :: .un :: .un :: .un :: .un :: .un :: .un :: .un :: .un :: .un :: .un :: .un :: .un :: .un :: .un :: .un :: .un :: .un :: .un :: .un :: .un :: .un :: .un :: (.d (.lst 7 (fs.map fD))) :: (.d (I (fs.map fD).length)) :: (.d (I j)) :: .un :: .un :: .un :: .un :: .un :: .un :: .un :: .un :: .un :: .un :: .un :: .un :: .un :: .un :: .un :: .un :: []) ∧ j ≤ fs.length ∧ n = fs.length - j ∧ TwoB Hs 26 H (vBlk 26 (kind6 k) false 0 [] nilS nilS) ∧ GL Hs H (.own t 7 (((fs.take j).map lawF).map fD)) t 7 (((fs.take j).map lawF).map fD)) (fs.length) (false :: true :: true :: true :: false :: false :: true :: false :: false :: false :: false :: false :: false :: false :: false :: false :: false :: false :: false :: false :: false :: false :: false :: false :: false :: false :: false :: false :: false :: false :: false :: false :: false :: false :: false :: false :: false :: false :: false :: false :: false :: false :: false :: false :: false :: false :: false :: false :: false :: false :: false :: false :: false :: true :: true :: true :: false :: false :: false :: false :: false :: false :: false :: false :: false :: false :: false :: false :: false :: false :: false :: false :: [])
       · (try dsimp only [maskT]); try exact rfl
       · rfl
       · exact ⟨0, none, rfl, by omega, rfl, hb, ⟨.own _ _ _, HS.ok_none _ _, NewTok.none _⟩⟩
       rintro n T H ⟨j, t, rfl, hj, rfl, hb, hg⟩
       refine aw_seq ?_
       refine aw_region ?_
       refine zst (op_ltI (by rfl) (by rfl)) rfl (by dsimp only [zS, zN, zH, zT]) ?_
       refine al_end rfl ?_
       refine then_normal ?_
       refine aw_seq ?_
       refine aw_cond rfl (fun hc7 => ?_) (fun hc7 => ?_)
       ·
        (try simp only [y1, y2, y3, y4, y5, y6, y7, y8, y9, y0, List.length_map] at hc7)
        (try simp only [List.length_map] at hc7)
        have hlt : j < fs.length := by omega
        obtain ⟨x, hx1⟩ : ∃ x, fs[j]? = some x := ⟨_, List.getElem?_eq_getElem hlt⟩
        refine aw_skip ?_
        refine then_normal ?_
        refine aw_seq ?_
        refine aw_block ?_
        refine aw_seq ?_
        refine aw_region ?_
        refine zst (op_indexAddr (z := fD x) (cs := [S x.name, I x.val.kind, TF x.val.yes, .v (.int .i64 x.val.num), S x.val.text, .lst 6 (x.val.list.map vD), .lst 7 (x.val.fields.map fD)]) Try.underlying24 Sz48 (LL.d _ _) (by rfl) (by omega) (by rw [List.getElem?_map, show ((j : Nat) : Int).toNat = j from rfl, hx1]; rfl) (fD_cells7 x)) rfl (by dsimp only [zS, zN, zH, zT]) ?_
        refine zst (op_load_elts (ds := fC x) Try.underlying48 (by rfl) Sz48 (by rfl) (Nat.le_of_ble_eq_true rfl) (by rw [← fC7]; rfl)) rfl (by dsimp only [zS, zN, zH, zT]) ?_
        refine zst (op_alloc (Zr48) (by rfl)) rfl (by dsimp only [zS, zN, zH, zT]) ?_
        refine zst (op_storeF (b' := f1 48 x) x Sz48 (by rfl) push_at (by rfl) (Nat.le_of_ble_eq_true rfl) (by rfl) (by unfold f1; rw [← fC7]; rfl)) rfl (by dsimp only [zS, zN, zH, zT]) ?_
        refine al_end rfl ?_
        refine then_normal ?_
        refine aw_draw [0, 0, 1, 0, 1, 0, 0, 0, 2, 0] mixed (by kernel_rfl) ?_
        refine zd0 (fun H => (op_move_tmp (by rfl))) rfl (by dsimp only [zS, zN, zH, zT]) ?_
        refine zd0 (fun H => (by first | exact op_fieldAddr_ptr Try.underlying48 rfl Sz9 (by rfl) (by rfl) | exact op_fieldAddr_elt Try.underlying48 rfl Sz9 (by rfl) (by rfl) (by rfl))) rfl (by dsimp only [zS, zN, zH, zT]) ?_
        refine zd1 (op_load_ptr Try.underlying9 (by rfl) (by rfl) (setB_at push_at) (f1_name x)) rfl (by dsimp only [zS, zN, zH, zT]) ?_
        refine zd0 (fun H => (by first | exact op_fieldAddr_ptr Try.underlying48 rfl Sz26 (by rfl) (by rfl) | exact op_fieldAddr_elt Try.underlying48 rfl Sz26 (by rfl) (by rfl) (by rfl))) rfl (by dsimp only [zS, zN, zH, zT]) ?_
        refine zd1 (op_load_ptrsD (vC x.val) Try.underlying26 (by rfl) Sz26 (by rfl) (setB_at push_at) (by show 1 + 6 ≤ ((fC x).map AV.d).length; rw [List.length_map, fC_len]; exact Nat.le_refl _) (f1_val x) (vC_one _)) rfl (by dsimp only [zS, zN, zH, zT]) ?_
        refine zd0 (fun H => (op_callF Try.func11 (by rfl) (by rfl) (.tmp (by rfl) .nil) (ihF x (List.mem_of_getElem? hx1) _))) rfl (by dsimp only [zS, zN, zH, zT]) ?_
        refine zd0 (fun H => (op_buildD (pl := [(0, 1), (1, 6)]) (fC (lawF x)) Try.underlying48 Zr48 (by kernel_rfl) (by rfl) (by rfl) (fill_field x.name (lawR x.val)) (fC_one _))) rfl (by dsimp only [zS, zN, zH, zT]) ?_
        refine zd0 (fun H => (op_lit Try.underlying24 ZS48 (.cons (y := fD (lawF x)) (by rfl) (.nil _)) (by rfl) (lit_f _) (lit_f1 _) (by decide))) rfl (by dsimp only [zS, zN, zH, zT]) ?_
        refine zd2 (op_append Try.underlying24 Inf48 (by rfl) hg.app (.list _ _ _ _ Try.underlying24 (LL.own _ _ _)) hg.ok (by simp) (by simp; omega) (by simp; omega)) rfl (by dsimp only [zS, zN, zH, zT]) ?_
        refine zd0 (fun H => (op_assign_tmp (by rfl))) rfl (by dsimp only [zS, zN, zH, zT]) ?_
        refine drun_end rfl ?_
        refine inBlock_normal (then_normal ?_)
        refine aw_region ?_
        refine zst (by first | exact op_add (by rfl) (by rfl) (wrap_i64 ⟨by omega, by omega⟩) | exact op_add (by rfl) (by rfl) (by rfl)) rfl (by dsimp only [zS, zN, zH, zT]) ?_
        refine zst (op_move_tmp (by rfl)) rfl (by dsimp only [zS, zN, zH, zT]) ?_
        refine al_end rfl ?_
        apply again_to (fs.length - (j + 1)) (false :: true :: true :: true :: false :: false :: true :: false :: false :: false :: false :: false :: false :: false :: false :: false :: false :: false :: false :: false :: false :: false :: false :: false :: false :: false :: false :: false :: false :: false :: false :: false :: false :: false :: false :: false :: false :: false :: false :: false :: false :: false :: false :: false :: false :: false :: false :: false :: false :: false :: false :: false :: false :: true :: true :: true :: false :: false :: false :: false :: false :: false :: false :: false :: false :: false :: false :: false :: false :: false :: false :: false :: [])
        · (try dsimp only [maskT]); try exact rfl
        · rfl
        · omega
        exact ⟨j + 1, _, by (rw [take_snoc hx1]; simp) <;> exact ⟨rfl, rfl⟩, by omega, rfl, (hb.psh.up hg.new hg.ok), by rw [take_snoc hx1, List.map_append, List.map_append]; exact GL.step (H := (H.push 48 _).setB H.nb _) (hg.toks rfl) (.inl (hb.psh.ext)) (by simp) rfl⟩
       ·
        (try simp only [y1, y2, y3, y4, y5, y6, y7, y8, y9, y0, List.length_map] at hc7)
        (try simp only [List.length_map] at hc7)
        have hje : j = fs.length := by omega
        subst hje
        rw [List.take_length] at hg ⊢
        refine aw_exit ?_
        refine then_exit (again_exit (inBlock_here (then_normal ?_)))
        refine aw_region ?_
        refine zst (op_move_tmp (by rfl)) rfl (by dsimp only [zS, zN, zH, zT]) ?_
        refine zst (op_callF Try.func18 (by rfl) (by rfl) (.tmp (by rfl) .nil) (ofMap_ok _ _ (fs.map lawF) (LL.own _ _ _) (by simp; omega))) rfl (by dsimp only [zS, zN, zH, zT]) ?_
        refine zst (op_storeV (b' := vBlk 26 5 false 0 [] (.d (.lst 6 [])) (.d (.lst 7 ((ofF (fs.map lawF)).map fD)))) (ofMapV (fs.map lawF)) Sz26 (by rfl) hb.e1 (by rfl) (Nat.le_of_ble_eq_true rfl) (by rfl) (by unfold ofMapV; rw [vC_eq]; rfl)) rfl (by dsimp only [zS, zN, zH, zT]) ?_
        refine al_end rfl ?_
        refine inBlock_normal ?_
        apply cut_to (false :: false :: true :: true :: false :: false :: false :: false :: false :: false :: false :: false :: false :: false :: false :: false :: false :: false :: false :: false :: false :: false :: false :: false :: false :: false :: false :: false :: false :: false :: false :: false :: false :: false :: false :: false :: false :: false :: false :: false :: false :: false :: false :: false :: false :: false :: false :: false :: false :: false :: false :: false :: false :: false :: false :: false :: false :: false :: false :: false :: false :: false :: false :: false :: false :: false :: false :: false :: false :: false :: false :: false :: [])
        · (try dsimp only [maskT]); try exact rfl
        · rfl
        exact ⟨_, _, _, _, _, _, [], ofF (fs.map lawF), rfl, hb.setv _, Weak.refl _, Weak.refl _, by rw [lawR_mk, if_neg hk1, if_neg hk2, if_neg hk3, if_neg hk4, if_pos hk5]; rfl⟩
      ·
       (try simp only [y1, y2, y3, y4, y5, y6, y7, y8, y9, y0, List.length_map] at hc6)
       have hk5 : ¬ kind6 k = 5 := hc6
       refine aw_skip ?_
       refine inBlock_normal ?_
       apply cut_to (false :: false :: true :: true :: false :: false :: false :: false :: false :: false :: false :: false :: false :: false :: false :: false :: false :: false :: false :: false :: false :: false :: false :: false :: false :: false :: false :: false :: false :: false :: false :: false :: false :: false :: false :: false :: false :: false :: false :: false :: false :: false :: false :: false :: false :: false :: false :: false :: false :: false :: false :: false :: false :: false :: false :: false :: false :: false :: false :: false :: false :: false :: false :: false :: false :: false :: false :: false :: false :: false :: false :: false :: [])
       · (try dsimp only [maskT]); try exact rfl
       · rfl
       exact ⟨_, _, _, _, _, _, [], [], rfl, hb, weak_nilL, weak_nilF, by rw [lawR_mk, if_neg hk1, if_neg hk2, if_neg hk3, if_neg hk4, if_neg hk5, show kind6 k = 0 by omega]⟩
 rintro T H ⟨k2, y2, i2, tx2, l2, f2, ls2, fs2, rfl, hb, hwl, hwf, hres⟩
 refine aw_seq ?_
 refine aw_region ?_
 refine zst (op_load_ptrsW (off := 0) (vC (.mk k2 y2 i2 tx2 ls2 fs2)) Try.underlying26 (by rfl) Sz26 (by rfl) hb.e1 (Nat.le_of_ble_eq_true rfl) (weak6 hwl hwf) (vC_one _)) rfl (by dsimp only [zS, zN, zH, zT]) ?_
 refine zst (op_storeV (b' := ⟨26, (vC (.mk k2 y2 i2 tx2 ls2 fs2)).map .d, false⟩) (.mk k2 y2 i2 tx2 ls2 fs2) Sz26 (by rfl) hb.e0 (by rfl) (Nat.le_of_ble_eq_true rfl) (by rfl) (by rfl)) rfl (by dsimp only [zS, zN, zH, zT]) ?_
 refine al_end rfl ?_
 refine then_normal ?_
 refine aw_ret ?_
 refine retC1 rfl (.cells Try.underlying26 (by rfl) Sz26 (by rfl) (setB_at hb.e0) (Nat.le_of_ble_eq_true rfl) (by rfl)) ?_
 rw [hres]
 exact ⟨weak_agg_d (vC_one (.mk k2 y2 i2 tx2 ls2 fs2)), hb.ext.setB (Nat.le_refl _)⟩
theorem lawR_all : ∀ (m : Nat) (v : V), fewV m v = true → ∀ Hs : HS, ACalls Try.prog 11 [.d (.agg (vC v))] Hs (Ret (.d (.agg (vC (lawR v)))) Hs)
  | 0, v, h, _ => by simp [fewV] at h
  | m + 1, .mk k y i tx ls fs, h, Hs => by
    obtain ⟨h1, h2, _, h4, h5⟩ := few_parts h
    simp only [V.list, V.fields] at h1 h2 h4 h5
    rw [v6D_eq]
    exact lawR_step Hs k y i tx ls fs (by omega) (by omega) (fun x hx Hs => lawR_all m x (h4 x hx) Hs) (fun x hx Hs => lawR_all m x.val (h5 x hx).2 Hs)
end Go.Proofs.Ytjamnhofbkgblaa
namespace Go.AV.Val
open Go.AV.Ord Go.AV.Oct
structure VTypes (P : Program) (tV tF tK tB tI tS tL tM : TypeId) : Prop where
  v : ∃ fs, P.underlying tV = some (.struct fs) ∧ (∃ f, fs[0]? = some f ∧ f.type = tK ∧ f.offset = 0) ∧ (∃ f, fs[1]? = some f ∧ f.type = tB ∧ f.offset = 1) ∧ (∃ f, fs[2]? = some f ∧ f.type = tI ∧ f.offset = 2) ∧ (∃ f, fs[3]? = some f ∧ f.type = tS ∧ f.offset = 3) ∧ (∃ f, fs[4]? = some f ∧ f.type = tL ∧ f.offset = 4) ∧ (∃ f, fs[5]? = some f ∧ f.type = tM ∧ f.offset = 5) ∧ fs.size = 6
  f : ∃ fs, P.underlying tF = some (.struct fs) ∧ (∃ f, fs[0]? = some f ∧ f.type = tS ∧ f.offset = 0) ∧ (∃ f, fs[1]? = some f ∧ f.type = tV ∧ f.offset = 1) ∧ fs.size = 2
  k : P.underlying tK = some (.int .i64)
  b : P.underlying tB = some .bool
  i : P.underlying tI = some (.int .i64)
  s : P.underlying tS = some .string
  l : P.underlying tL = some (.slice tV)
  m : P.underlying tM = some (.slice tF)
  cV : P.cellsOf tV = 6
  cF : P.cellsOf tF = 7
  cK : P.cellsOf tK = 1
  cB : P.cellsOf tB = 1
  cI : P.cellsOf tI = 1
  cS : P.cellsOf tS = 1
  cL : P.cellsOf tL = 1
  cM : P.cellsOf tM = 1
section
variable {H : Type} {enc : TypeId × Value → H} {P : Program} {W : World} {sp : Nat → Bool} {held : Bool} {tV tF tK tB tI tS tL tM : TypeId}
theorem all_map' {α : Type} {p : α → Prop} {f : α → DV} : ∀ {ys : List DV}, (∀ y ∈ ys, ∃ x, p x ∧ y = f x) → ∃ xs : List α, (∀ x ∈ xs, p x) ∧ ys = xs.map f
  | [], _ => ⟨[], fun _ h => (by cases h), rfl⟩
  | y :: ys, h => by
    obtain ⟨x, hp, rfl⟩ := h y (by simp)
    obtain ⟨xs, hps, rfl⟩ := all_map' (ys := ys) fun z hz => h z (by simp [hz])
    exact ⟨x :: xs, fun z hz => by rcases List.mem_cons.1 hz with rfl | hz; exact hp; exact hps z hz, rfl⟩
theorem list_cell {fuel : Nat} {t e : TypeId} {sz : Nat} (hsz0 : 0 < sz) (Good : DV → Prop) (ht : P.underlying t = some (.slice e)) (hsz : P.cellsOf e = sz) {c : Value} {x : DataW H × List MemPlace} (h : DataW.trod enc P W 0 sp held fuel t [c] = some x)
    (hel : ∀ m, m < fuel → ∀ cs d p, DataW.trod enc P W 0 sp held m e cs = some (d, p) → cs.length = sz → ∃ y, Go.AV.Reads W Good sz cs y) : ∃ ys, RepD (ctx0 W).mem c (.lst sz ys) ∧ (∀ y ∈ ys, Good y) := by
  cases fuel with
  | zero => simp [DataW.trod] at h
  | succ n =>
    rcases DataW.trod_slice ht h with ⟨h1, _⟩ | ⟨a, len, cap, _, _, m, h0, h1, _⟩
    · cases h1
      exact ⟨[], .lstE _ _ _, fun _ h => (by cases h)⟩
    · cases h1
      obtain ⟨d, p⟩ := x
      exact rep_slice hsz0 Good ht hsz (hel n (by omega)) h
theorem one_cell {Good : DV → Prop} {c : Value} {y : DV} (h : Go.AV.Reads W Good 1 [c] y) (e : y.cells = [y]) : RepD (ctx0 W).mem c y := by
  have := h.at_ 0 (by simp) (by rw [e]; simp)
  simpa [e] using this
theorem reads_both (T : VTypes P tV tF tK tB tI tS tL tM) : ∀ (N fuel : Nat), fuel ≤ N →
    (∀ (cs : List Value) d p, DataW.trod enc P W 0 sp held fuel tV cs = some (d, p) → cs.length = 6 → ∃ y, Go.AV.Reads W (fun y => ∃ v, WfV v ∧ y = vD v) 6 cs y) ∧
    (∀ (cs : List Value) d p, DataW.trod enc P W 0 sp held fuel tF cs = some (d, p) → cs.length = 7 → ∃ y, Go.AV.Reads W (fun y => ∃ f : F, WfV f.val ∧ y = fD f) 7 cs y)
  | 0, fuel, hf => by
    have : fuel = 0 := by omega
    subst this
    exact ⟨fun _ _ _ h => by simp [DataW.trod] at h, fun _ _ _ h => by simp [DataW.trod] at h⟩
  | N + 1, fuel, hf => by
    refine ⟨fun cs d p h hl => ?_, fun cs d p h hl => ?_⟩
    · obtain ⟨fs, hu, ⟨f0, g0, e0, o0⟩, ⟨f1, g1, e1, o1⟩, ⟨f2, g2, e2, o2⟩, ⟨f3, g3, e3, o3⟩, ⟨f4, g4, e4, o4⟩, ⟨f5, g5, e5, o5⟩, hsz⟩ := T.v
      obtain ⟨xs, n, hn, _, _, hxl, hx⟩ := DataW.trod_struct hu h
      subst hn
      obtain ⟨c0, c1, c2, c3, c4, c5, rfl⟩ : ∃ c0 c1 c2 c3 c4 c5, cs = [c0, c1, c2, c3, c4, c5] := by
        match cs, hl with
        | [c0, c1, c2, c3, c4, c5], _ => exact ⟨_, _, _, _, _, _, rfl⟩
      have get : ∀ i, i < 6 → ∃ x, xs[i]? = some x := fun i hi => ⟨_, List.getElem?_eq_getElem (by omega)⟩
      have q0 := hx 0 f0 g0
      have q1 := hx 1 f1 g1
      have q2 := hx 2 f2 g2
      have q3 := hx 3 f3 g3
      have q4 := hx 4 f4 g4
      have q5 := hx 5 f5 g5
      rw [e0, o0, T.cK] at q0
      rw [e1, o1, T.cB] at q1
      rw [e2, o2, T.cI] at q2
      rw [e3, o3, T.cS] at q3
      rw [e4, o4, T.cL] at q4
      rw [e5, o5, T.cM] at q5
      obtain ⟨⟨_, _⟩, x0⟩ := get 0 (by decide)
      obtain ⟨⟨_, _⟩, x1⟩ := get 1 (by decide)
      obtain ⟨⟨_, _⟩, x2⟩ := get 2 (by decide)
      obtain ⟨⟨_, _⟩, x3⟩ := get 3 (by decide)
      obtain ⟨⟨_, _⟩, x4⟩ := get 4 (by decide)
      obtain ⟨⟨_, _⟩, x5⟩ := get 5 (by decide)
      rw [x0] at q0; rw [x1] at q1; rw [x2] at q2; rw [x3] at q3; rw [x4] at q4; rw [x5] at q5
      obtain ⟨y0, r0⟩ := reads_int T.k q0
      obtain ⟨y1, r1⟩ := reads_bool T.b q1
      obtain ⟨y2, r2⟩ := reads_int T.i q2
      obtain ⟨y3, r3⟩ := reads_str T.s q3
      obtain ⟨k, rfl, wk⟩ := r0.good
      obtain ⟨b, rfl⟩ := r1.good
      obtain ⟨i, rfl, wi⟩ := r2.good
      obtain ⟨s, rfl⟩ := r3.good
      obtain ⟨ls', r4, l4⟩ := list_cell (by decide) _ T.l T.cV q4 fun m hm => (reads_both T N m (by omega)).1
      obtain ⟨fs', r5, l5⟩ := list_cell (by decide) _ T.m T.cF q5 fun m hm => (reads_both T N m (by omega)).2
      obtain ⟨ls, wl, rfl⟩ := all_map' l4
      obtain ⟨ffs, wf, rfl⟩ := all_map' l5
      refine ⟨vD (.mk k b i s ls ffs), rfl, by rw [vD_cells]; rfl, fun z hz => vC_one _ z hz, ⟨_, .mk _ _ _ _ _ _ (wf_i64 wk) (wf_i64 wi) wl wf, rfl⟩, fun j hj hj' => ?_⟩
      have ec : (vD (.mk k b i s ls ffs)).cells = [.v (.int .i64 k), TF b, .v (.int .i64 i), S s, .lst 6 (ls.map vD), .lst 7 (ffs.map fD)] := vD_cells _
      have p0 := one_cell r0 rfl
      have p1 := one_cell r1 rfl
      have p2 := one_cell r2 rfl
      have p3 := one_cell r3 rfl
      simp only [ec]
      match j, hj with
      | 0, _ => exact p0
      | 1, _ => exact p1
      | 2, _ => exact p2
      | 3, _ => exact p3
      | 4, _ => exact r4
      | 5, _ => exact r5
    · obtain ⟨fs, hu, ⟨f0, g0, e0, o0⟩, ⟨f1, g1, e1, o1⟩, hsz⟩ := T.f
      obtain ⟨xs, n, hn, _, _, hxl, hx⟩ := DataW.trod_struct hu h
      subst hn
      obtain ⟨c0, cs', rfl⟩ : ∃ c0 cs', cs = c0 :: cs' := List.exists_cons_of_ne_nil (by intro e; subst e; cases hl)
      have hl' : cs'.length = 6 := by simpa using hl
      have get : ∀ i, i < 2 → ∃ x, xs[i]? = some x := fun i hi => ⟨_, List.getElem?_eq_getElem (by omega)⟩
      have q0 := hx 0 f0 g0
      have q1 := hx 1 f1 g1
      rw [e0, o0, T.cS] at q0
      rw [e1, o1, T.cV, List.drop_succ_cons, List.drop_zero, List.take_of_length_le (by omega)] at q1
      obtain ⟨⟨_, _⟩, x0⟩ := get 0 (by decide)
      obtain ⟨⟨_, _⟩, x1⟩ := get 1 (by decide)
      rw [x0] at q0; rw [x1] at q1
      obtain ⟨y0, r0⟩ := reads_str T.s q0
      obtain ⟨s, rfl⟩ := r0.good
      obtain ⟨y1, r1⟩ := (reads_both T N n (by omega)).1 _ _ _ q1 hl'
      obtain ⟨v, wv, rfl⟩ := r1.good
      have p0 := one_cell r0 rfl
      have ec : (fD (.mk s v)).cells = S s :: (vD v).cells := fD_cells _
      refine ⟨fD (.mk s v), hl, by rw [ec, List.length_cons, r1.ylen], fun z hz => fC_one _ z hz, ⟨.mk s v, wv, rfl⟩, fun j hj hj' => ?_⟩
      simp only [ec]
      match j, hj with
      | 0, _ => exact p0
      | j + 1, hj => exact r1.at_ j (by simpa using hj) (by rw [ec] at hj'; simpa using hj')
theorem arg_val (T : VTypes P tV tF tK tB tI tS tL tM) {r : Reach} {b0 : Nat} {v : Value} {d : DataW H} {ps : List MemPlace} (hval : Value.okWide P W r b0 tV v) (hd : DataW.Trod enc P W 0 sp held tV v d ps) : ∃ x : V, WfV x ∧ Rep (ctx0 W) v (.d (.agg (vC x))) := by
  obtain ⟨fs, hu, _⟩ := T.v
  obtain ⟨cs, rfl, hs⟩ := WideShapes.okWide_struct hu hval
  rw [T.cV] at hs
  obtain ⟨fuel, hf⟩ := hd
  have hl : (Value.agg cs).cells.toList.length = 6 := by simpa [Value.cells] using hs
  obtain ⟨y, hy⟩ := (reads_both T fuel fuel (Nat.le_refl _)).1 _ _ _ hf hl
  obtain ⟨x, wx, rfl⟩ := hy.good
  refine ⟨x, wx, .d (.agg cs (vC x) (by rw [hs, vC_len]) (vC_one x) fun i hi => ?_)⟩
  have hi6 : i < 6 := by rw [vC_len] at hi; exact hi
  have := hy.at_ i (by rw [hl]; exact hi6) hi
  have e : cs.getD i undef = (Value.agg cs).cells.toList[i]'(by rw [hl]; exact hi6) := by
    simp [Value.cells, Array.getD, hs, hi6]
  rw [e]
  exact this
end
end Go.AV.Val
namespace Go.AV.Val
open Go.AV.Ord Go.AV.Oct
section
variable {H : Type} {enc : TypeId × Value → H} {P : Program} {W : World} {sp : Nat → Bool} {held : Bool}
end
end Go.AV.Val
namespace Go.AV.Patch
open Go.AV.Ord Go.AV.Oct Go.AV.Val
structure OTypes (P : Program) (tO tP tL tS tV tQ : TypeId) : Prop where
  o : ∃ fs, P.underlying tO = some (.struct fs) ∧ (∃ f, fs[0]? = some f ∧ f.type = tP ∧ f.offset = 0) ∧ (∃ f, fs[1]? = some f ∧ f.type = tL ∧ f.offset = 1) ∧ (∃ f, fs[2]? = some f ∧ f.type = tV ∧ f.offset = 2) ∧ fs.size = 3
  p : P.underlying tP = some (.int .i64)
  l : P.underlying tL = some (.slice tS)
  s : P.underlying tS = some .string
  q : P.underlying tQ = some (.slice tO)
  cO : P.cellsOf tO = 8
  cP : P.cellsOf tP = 1
  cL : P.cellsOf tL = 1
  cS : P.cellsOf tS = 1
theorem oC_eq (o : Opn) : oC o = I o.kind :: .lst 1 (o.path.map S) :: vC o.val := by rw [vC_eq]; rfl
section
variable {H : Type} {enc : TypeId × Value → H} {P : Program} {W : World} {sp : Nat → Bool} {held : Bool} {tV tF tK tB tI tS tL tM : TypeId} {tO tP tLs tSs tQ : TypeId}
theorem reads_op (T : VTypes P tV tF tK tB tI tS tL tM) (TO : OTypes P tO tP tLs tSs tV tQ) {fuel : Nat} {cs : List Value} {d : DataW H} {p : List MemPlace} (h : DataW.trod enc P W 0 sp held fuel tO cs = some (d, p)) (hl : cs.length = 8) : ∃ y, Go.AV.Reads W (fun y => ∃ o : Opn, WfV o.val ∧ y = oD o) 8 cs y := by
  obtain ⟨fs, hu, ⟨f0, g0, e0, o0⟩, ⟨f1, g1, e1, o1⟩, ⟨f2, g2, e2, o2⟩, hsz⟩ := TO.o
  obtain ⟨xs, n, hn, _, _, hxl, hx⟩ := DataW.trod_struct hu h
  subst hn
  obtain ⟨c0, c1, cs', rfl⟩ : ∃ c0 c1 cs', cs = c0 :: c1 :: cs' := by
    match cs, hl with
    | c0 :: c1 :: cs', _ => exact ⟨_, _, _, rfl⟩
  have hl' : cs'.length = 6 := by simpa using hl
  have get : ∀ i, i < 3 → ∃ x, xs[i]? = some x := fun i hi => ⟨_, List.getElem?_eq_getElem (by omega)⟩
  have q0 := hx 0 f0 g0
  have q1 := hx 1 f1 g1
  have q2 := hx 2 f2 g2
  rw [e0, o0, TO.cP] at q0
  rw [e1, o1, TO.cL] at q1
  rw [e2, o2, T.cV, List.drop_succ_cons, List.drop_succ_cons, List.drop_zero, List.take_of_length_le (by omega)] at q2
  obtain ⟨⟨_, _⟩, x0⟩ := get 0 (by decide)
  obtain ⟨⟨_, _⟩, x1⟩ := get 1 (by decide)
  obtain ⟨⟨_, _⟩, x2⟩ := get 2 (by decide)
  rw [x0] at q0; rw [x1] at q1; rw [x2] at q2
  obtain ⟨y0, r0⟩ := reads_int TO.p q0
  obtain ⟨k, rfl, wk⟩ := r0.good
  obtain ⟨ss', r1, l1⟩ := list_cell (by decide) (fun y => ∃ l : List UInt8, y = S l) TO.l TO.cS q1 fun m _ cs d p h _ => reads_str TO.s h
  obtain ⟨ss, rfl⟩ := all_map l1
  obtain ⟨y2, r2⟩ := (reads_both T n n (Nat.le_refl _)).1 _ _ _ q2 hl'
  obtain ⟨v, wv, rfl⟩ := r2.good
  have p0 := one_cell r0 rfl
  have ec : (oD ⟨k, ss, v⟩).cells = I k :: .lst 1 (ss.map S) :: (vD v).cells := oC_eq _
  refine ⟨oD ⟨k, ss, v⟩, hl, by rw [ec, List.length_cons, List.length_cons, r2.ylen], fun z hz => oC_one _ z hz, ⟨⟨k, ss, v⟩, wv, rfl⟩, fun j hj hj' => ?_⟩
  simp only [ec]
  match j, hj with
  | 0, _ => exact p0
  | 1, _ => exact r1
  | j + 2, hj => exact r2.at_ j (by simpa using hj) (by rw [ec] at hj'; simpa using hj')
theorem lst_len {m : Nat → Nat → Option Value} {a : Option Addr} {n cap sz : Nat} {ys : List DV} (h : RepD m (.slice a n cap) (.lst sz ys)) : ys.length = n := by
  cases h with
  | lstE => rfl
  | lst => assumption
theorem arg_ops (T : VTypes P tV tF tK tB tI tS tL tM) (TO : OTypes P tO tP tLs tSs tV tQ) {r : Reach} {b0 : Nat} {v : Value} {d : DataW H} {ps : List MemPlace} (hval : Value.okWide P W r b0 tQ v) (hd : DataW.Trod enc P W 0 sp held tQ v d ps) :
    ∃ l : List Opn, (∀ o ∈ l, WfV o.val) ∧ l.length ≤ 9223372036854775807 ∧ Rep (ctx0 W) v (.d (.lst 8 (l.map oD))) := by
  obtain ⟨ys, h1, h2⟩ := arg_list (by decide) (fun y => ∃ o : Opn, WfV o.val ∧ y = oD o) TO.q TO.cO hval hd fun fuel cs d p h hl => reads_op T TO h hl
  obtain ⟨l, hl, rfl⟩ := all_map' h1
  refine ⟨l, hl, ?_, h2⟩
  obtain ⟨fuel, hf⟩ := hd
  cases h2 with
  | d h2 =>
    cases fuel with
    | zero => simp [DataW.trod] at hf
    | succ n =>
      have h3 := h2
      have hcl : ∀ c, v.cells.toList = [c] → v = c → l.length ≤ 9223372036854775807 := by
        intro c hc hv
        rw [hc] at hf
        rcases DataW.trod_slice TO.q hf with ⟨e, _⟩ | ⟨ad, len, cap, _, _, m, h0, e, _, _, q2, q3, _⟩
        · subst hv
          obtain rfl := List.head_eq_of_cons_eq e
          have := lst_len h3
          simp at this
          subst this; decide
        · subst hv
          obtain rfl := List.head_eq_of_cons_eq e
          have := lst_len h3
          simp at this
          have hmax : (maxLen : Nat) = 9223372036854775807 := by decide
          omega
      generalize l.map oD = m at h2
      cases h2 with
      | lst => exact hcl _ rfl rfl
      | lstE => exact hcl _ rfl rfl
end
end Go.AV.Patch
namespace Go.AV
open Go.RowKit
section
variable {P : Program} {E : Operand → AV} {H : HS} {dst : Option Tmp} {ty : TypeId} {pos : String} {after : Array Edge} {gd : Option (Nat × Bool)}
theorem op_append0A {x y : Operand} {t' tx e : TypeId} {z : Value} {sz bytes id n cap : Nat} (ht : P.underlying t' = some (.slice e)) (hi : tInfo P e z sz bytes) (hx : E x = .arr id n cap) (hn : n ≤ cap) (hy : Adds P tx (E y) sz []) :
    OpR P ⟨dst, .call ⟨.builtin .append, #[x, y], #[t', tx]⟩, ty, pos, after, gd⟩ E H (Ret (.arr id n cap) H) :=
  opR_value fun B w0 c w a hI hops => by
    have q1 := hops x (by simp [Op.operands, Call.operands])
    have q2 := hops y (by simp [Op.operands, Call.operands])
    rw [hx] at q1
    obtain ⟨news, ⟨hd', hlen', hf'⟩, hnl, _⟩ := hy.src hI q2
    have hn0 : news = [] := List.eq_nil_of_length_eq_zero (by simpa using hnl)
    subst hn0
    obtain ⟨g, hg, e1⟩ := arr_val q1
    refine ⟨a.eval x, w, c, _, H, ?_, Le.refl c, q1, hI, rfl, rfl⟩
    obtain ⟨inf, hinf, hz0, hsz0, hby0⟩ := hi.get
    subst hsz0
    have hso : ∀ w, (sizeOf e).run P w = .ok inf.size w := fun w => by simp [sizeOf, typeInfo, hinf]
    have hr : (Builtin.append_ #[t', tx] ty #[.slice (some ⟨g, 0, none⟩) n cap, a.eval y]).run P w = .ok (.slice (some ⟨g, 0, none⟩) n cap) w := by
      have hf0 := hf' w rfl
      have hl0 := hlen'
      simp only [List.length_nil] at hf0 hl0
      rcases hd' with hd' | ⟨e', hd'⟩ <;> simp [Builtin.append_, run_underlying ht, run_underlying hd', hso, hl0, hn, hf0, storeCells]
    simp [execOp, resolve, invoke, builtin, e1, hr]
theorem op_sliceEnd {x y : Operand} {t e : TypeId} {sz id n cap : Nat} {k : IntKind} {i : Int} (ht : P.underlying t = some (.slice e)) (hn : (P.info? e).map (·.size) = some sz) (hx : E x = .arr id n cap) (hy : E y = .d (.v (.int k i))) (h0 : 0 ≤ i) (h2 : i.toNat = n) (hc : n ≤ cap) :
    OpR P ⟨dst, .slice t x (some y) none none, ty, pos, after, gd⟩ E H (Ret (.d (.lst sz [])) H) :=
  opR_pure fun c w a _ hops => by
    have q1 := hops x (by simp [Op.operands])
    have q2 := hops y (by simp [Op.operands])
    rw [hx] at q1
    rw [hy] at q2
    obtain ⟨g, hg, e1⟩ := arr_val q1
    have b2 := bound_ok (P := P) (k := k) (y := n) (code := .sliceB) w h0 (by omega)
    by_cases hc : cap = i.toNat
    · exact ⟨.slice (some ⟨g, 0, none⟩) 0 (cap - i.toNat), by simp [execOp, e1, q2.v_eq, Instr.sliceAt, Instr.slice, Instr.sliceBounds, run_underlying ht, b2, run_sizeOf hn, hc]; omega, .d (.lstE _ _ _)⟩
    · exact ⟨.slice (some ((⟨g, 0, none⟩ : Addr).add (i.toNat * sz))) 0 (cap - i.toNat), by simp [execOp, e1, q2.v_eq, Instr.sliceAt, Instr.slice, Instr.sliceBounds, run_underlying ht, b2, run_sizeOf hn, hc]; omega, .d (.lstE _ _ _)⟩
theorem op_append_in {x y : Operand} {t' tx e e' : TypeId} {z : Value} {sz bytes id n cap jd off m cap2 : Nat} {b b2 : HB} {vs : List AV} (ht : P.underlying t' = some (.slice e)) (htx : P.underlying tx = some (.slice e')) (hi : tInfo P e z sz bytes) (hx : E x = .arr id n cap) (hy : E y = .sub jd off m cap2)
    (hb : H.blks[id]? = some b) (hbe : b.elem = e) (hbf : b.frz = false) (hb2 : H.blks[jd]? = some b2) (hv : (b2.cs.drop off).take (m * sz) = vs) (hl : vs.length = m * sz) (hroom : n + m ≤ cap) (hcap : b.cs.length = cap * sz) (hone : ∀ v ∈ vs, v.one = true) :
    OpR P ⟨dst, .call ⟨.builtin .append, #[x, y], #[t', tx]⟩, ty, pos, after, gd⟩ E H (Ret (.arr id (n + m) cap) (H.put id (n * sz) vs)) :=
  opR_value fun B w0 c w a hI hops => by
    have q1 := hops x (by simp [Op.operands, Call.operands])
    have q2 := hops y (by simp [Op.operands, Call.operands])
    rw [hx] at q1
    rw [hy] at q2
    obtain ⟨g, hg, e1⟩ := arr_val q1
    obtain ⟨g2, hg2, e2⟩ := sub_val q2
    obtain ⟨p1, p2, cur, fr, p3, p4, p5, p6⟩ := hI.blk id g b hg hb
    obtain ⟨r1, r2, cur2, fr2, r3, r4, r5, r6⟩ := hI.blk jd g2 b2 hg2 hb2
    subst hbe
    have r4' : cur2.size = b2.cs.length := r4
    have p4' : cur.size = b.cs.length := p4
    have hvl : off + m * sz ≤ b2.cs.length ∨ m * sz = 0 := by
      have := congrArg List.length hv
      rw [List.length_take, List.length_drop, hl] at this
      omega
    have hul : ((cur2.toList.drop off).take (m * sz)).length = m * sz := by
      rw [List.length_take, List.length_drop, Array.length_toList]
      omega
    have hrep : ∀ j (hj : j < ((cur2.toList.drop off).take (m * sz)).length) (hj' : j < vs.length), Rep c ((cur2.toList.drop off).take (m * sz))[j] vs[j] := by
      intro j hj hj'
      have hjm : j < m * sz := by omega
      have h3 : off + j < b2.cs.length := by omega
      have h4 := r6 (off + j) h3
      have h5 : vs[j] = b2.cs[off + j]'h3 := by simp [← hv]
      have h6 : ((cur2.toList.drop off).take (m * sz))[j] = cur2.getD (off + j) undef := by
        have : off + j < cur2.size := by omega
        simp [this]
      rw [h5, h6]; exact h4
    have hsrc : Src P tx (.slice (some ⟨g2, off, none⟩) m cap2) w sz m ((cur2.toList.drop off).take (m * sz)) := by
      refine ⟨.inr ⟨e', htx⟩, fun w' => by simp [Builtin.lenOf], fun w' hw' => ?_⟩
      refine firstCells_of hul (fun j u hu => ?_) w' hw'
      rw [List.getElem?_take] at hu
      split at hu
      · rw [List.getElem?_drop] at hu
        simp only [World.cell?, r3]
        simpa using hu
      · cases hu
    have hfit : n * sz + ((cur2.toList.drop off).take (m * sz)).length ≤ cur.size := by
      rw [hul, p4', hcap, ← Nat.add_mul]
      exact Nat.mul_le_mul_right _ hroom
    have hr := run_app_room w t' tx ty b.elem z sz bytes ht hi (.slice (some ⟨g2, off, none⟩) m cap2) m _ hsrc g n cap cur fr p3 (fun o _ => p5 hbf o) (fun v hvm => by
      obtain ⟨j, hj, rfl⟩ := List.getElem_of_mem hvm
      have hj' : j < vs.length := by omega
      exact (hrep j hj hj').one (hone _ (List.getElem_mem hj'))) hroom hfit
    have i1 := hI.putBlk id g (n * sz) b hg hb ((cur2.toList.drop off).take (m * sz)) vs (by rw [hul, hl]) hrep (by rw [← hul.trans hl.symm]; omega) cur _ fr p3
    refine ⟨_, _, c, _, _, ?_, Le.refl c, .arr id (n + m) cap g hg, i1, rfl, rfl⟩
    simp [execOp, resolve, invoke, builtin, e1, e2, hr]
end
theorem ACalls.tidyP2 {P : Program} {f : FuncId} {args : List AV} {H : HS} {m : List DV} {ed : DV} (h1 : ∀ d ∈ m, d.one = true)
    (h : ACalls P f args H fun av H' => Ext H H' ∧ ∃ l, av = .tup [.agg l, .d ed] ∧ (Weaks l (m.map .d) ∨ ∃ id n cap sz xs b, H.nb ≤ id ∧ H'.blks[id]? = some b ∧ b.cs.take (flat xs).length = (flat xs).map .d ∧ (flat xs).length ≤ b.cs.length ∧ xs.length = n ∧ n ≤ cap ∧ (∀ x ∈ xs, x.cells.length = sz) ∧ (∀ d ∈ flat xs, d.one = true) ∧ Becomes id n cap sz xs l m)) :
    ACalls P f args H (Ret (.tup [.d (.agg m), .d ed]) H) := by
  intro B w0 c w vs hI hs ha
  refine (h B w0 c w vs hI hs ha).mono ?_
  rintro e w' ⟨v, av, H', c', rfl, q1, q2, q3, ⟨⟨l1, h5⟩, ⟨l2, h6⟩⟩, l, rfl, hl⟩
  have hcut : H'.cut H.blks.length H.toks.length = H := by
    cases H
    simp only [HS.cut, h5, h6, List.take_left]
  have hfit : ∀ i b, i < H.blks.length → H'.blks[i]? = some b → ∀ j (hj : j < b.cs.length), Fits H.blks.length H.toks.length b.cs[j] := fun i b hi hb j hj => by
    have hb' : H.blks[i]? = some b := by rw [h5, List.getElem?_append_left (by omega)] at hb; exact hb
    have hlt : i < c.blk.length := by rw [hI.blkLen]; exact hi
    obtain ⟨_, _, cur, fr, _, _, _, q⟩ := hI.blk i _ b (List.getElem?_eq_getElem hlt) hb'
    have := (q j hj).fits
    rwa [hI.blkLen, hI.tokLen] at this
  have hblk : ∀ (i g : Nat), c.blk[i]? = some g → (c'.blk.take H.blks.length)[i]? = some g := fun i g hi => by
    have : i < c.blk.length := (List.getElem?_eq_some_iff.1 hi).1
    rw [List.getElem?_take, if_pos (by have := hI.blkLen; omega)]
    exact q1.blk i g hi
  have htok : ∀ (i : Nat) (e : Tok), c.tok[i]? = some e → ∃ e' : Tok, (c'.tok.take H.toks.length)[i]? = some e' ∧ (e' = e ∨ e.mark < e'.mark) := fun i e he => by
    have : i < c.tok.length := (List.getElem?_eq_some_iff.1 he).1
    obtain ⟨e', q1, q2⟩ := q1.tok i e he
    refine ⟨e', ?_, q2⟩
    rw [List.getElem?_take, if_pos (by have := hI.tokLen; omega)]
    exact q1
  have hv2 : ∃ u0 u1 : Value, v = .tuple #[u0, u1] ∧ Rep c' u0 (.agg l) ∧ Rep c' u1 (.d ed) := by
    generalize ha : AV.tup [AV.agg l, .d ed] = av at q2
    cases q2 with
    | tup us cs hl hr =>
      cases ha
      obtain ⟨ul⟩ := us
      match ul, hl with
      | [u0, u1], _ => exact ⟨u0, u1, rfl, hr 0 (by simp), hr 1 (by simp)⟩
    | _ => cases ha
  obtain ⟨u0, u1, rfl, q2a, q2b⟩ := hv2
  have hv : ∃ us : Array Value, u0 = .agg us ∧ us.size = l.length ∧ ∀ i (hi : i < l.length), Rep c' (us.getD i undef) l[i] := by
    generalize ha : AV.agg l = av at q2a
    cases q2a with
    | agg us cs hl hr => cases ha; exact ⟨us, rfl, hl, hr⟩
    | _ => cases ha
  obtain ⟨us, rfl, hul, hur⟩ := hv
  have two : ∀ {k : Ctx}, Rep k (.agg us) (.d (.agg m)) → Rep k u1 (.d ed) → Rep k (.tuple #[.agg us, u1]) (.tup [.d (.agg m), .d ed]) := fun h1 h2 => .tup _ _ rfl fun i hi => by
    match i, hi with
    | 0, _ => exact h1
    | 1, _ => exact h2
  rcases hl with hw | ⟨id, n, cap, sz, xs, b, hid, hb, hd, hlen, hxn, hnc, hsz, hone, hbec⟩
  · have i1 := q3.cut H.blks.length H.toks.length hfit
    rw [hcut] at i1
    refine ⟨.tuple #[.agg us, u1], .tup [.d (.agg m), .d ed], H, c'.cut H.blks.length H.toks.length, rfl, ⟨q1.mem, hblk, htok⟩, two (.d (.agg us m (by rw [hul, hw.len, List.length_map]) h1 fun i hi => ?_)) (.d (q2b.d_inv.mono (fun _ _ _ h => h))), i1, rfl, rfl⟩
    have := hw.get c' (fun i => us.getD i undef) hur i (by rw [List.length_map]; exact hi)
    rw [List.getElem_map] at this
    exact this.d_inv.mono (fun _ _ _ h => h)
  · have hidl : id < c'.blk.length := by rw [q3.blkLen]; exact (List.getElem?_eq_some_iff.1 hb).1
    obtain ⟨vals, i1, m1, m2, m3⟩ := q3.protect id _ b (List.getElem?_eq_getElem hidl) hb H.blks.length H.toks.length hid hfit (flat xs) hd hlen
    rw [hcut] at i1
    refine ⟨.tuple #[.agg us, u1], .tup [.d (.agg m), .d ed], H, _, rfl, ⟨fun g o u hm => m1 g o u (q1.mem g o u hm), hblk, htok⟩, two (.d (.agg us m (by rw [hul, hbec.len]) h1 ?_)) (.d (q2b.d_inv.mono m1)), i1, rfl, rfl⟩
    refine hbec.get (c := c') m1 (fun y hy => ?_) (fun i => us.getD i undef) hur
    obtain ⟨g, hg, rfl⟩ := arr_val hy
    rw [List.getElem?_eq_getElem hidl] at hg
    cases hg
    exact .lst _ 0 n cap sz xs vals hxn hnc hsz hone (fun i hi => by rw [Nat.zero_add]; exact m2 i hi) (fun i hi => (m3 i hi).mono m1)
end Go.AV
namespace Go.AV.Patch
open Go.AV.Ord Go.AV.Oct Go.AV.Val
theorem getF_at : ∀ {fs : List F} {i : Nat} {x : F}, rises fs = true → fs[i]? = some x → getF fs x.name = some x.val
  | g :: l, 0, x, _, h => by
    simp only [List.getElem?_cons_zero, Option.some.injEq] at h
    subst h
    rw [getF_cons, if_pos rfl]
  | g :: l, i + 1, x, hr, h => by
    rw [List.getElem?_cons_succ] at h
    have h1 := rises_all hr x (List.mem_of_getElem? h)
    rw [getF_cons, if_neg (less_ne h1), getF_at (rises_tail hr) h]
theorem put_set : ∀ {fs : List F} {i : Nat} {x : F} (y : V), rises fs = true → fs[i]? = some x → putF fs (.mk x.name y) = fs.set i (.mk x.name y)
  | g :: l, 0, x, y, _, h => by
    simp only [List.getElem?_cons_zero, Option.some.injEq] at h
    subst h
    rw [putF, if_neg (by show ¬ Go.Op.bytesLess g.name g.name = true; rw [less_irrefl]; decide), if_pos (by show (g.name == g.name) = true; simp)]
    rfl
  | g :: l, i + 1, x, y, hr, h => by
    rw [List.getElem?_cons_succ] at h
    have h1 := rises_all hr x (List.mem_of_getElem? h)
    rw [putF, if_pos (show Go.Op.bytesLess g.name (F.mk x.name y).name = true from h1), put_set y (rises_tail hr) h]
    rfl
theorem del_cut : ∀ {fs : List F} {i : Nat} {x : F}, rises fs = true → fs[i]? = some x → delF fs x.name = fs.take i ++ fs.drop (i + 1)
  | g :: l, 0, x, hr, h => by
    simp only [List.getElem?_cons_zero, Option.some.injEq] at h
    subst h
    rw [delF_cons, if_pos rfl, delF_none fun z hz e => less_ne (rises_all hr z hz) e.symm]
    rfl
  | g :: l, i + 1, x, hr, h => by
    rw [List.getElem?_cons_succ] at h
    have h1 := rises_all hr x (List.mem_of_getElem? h)
    rw [delF_cons, if_neg (less_ne h1), del_cut (rises_tail hr) h]
    rfl
def PlR (fs : List F) (j : Nat) (n : List UInt8) (r : Int) : Prop := (r = -1 ∧ ∀ x ∈ fs.take j, ¬ x.name = n) ∨ ∃ i : Nat, r = (i : Int) ∧ i < j ∧ ∃ x, fs[i]? = some x ∧ x.name = n
theorem PlR.start (fs : List F) (n : List UInt8) : PlR fs 0 n (-1) := .inl ⟨rfl, by simp⟩
theorem PlR.hit {fs : List F} {j : Nat} {n : List UInt8} {x : F} (hx : fs[j]? = some x) (hn : x.name = n) : PlR fs (j + 1) n (j : Nat) := .inr ⟨j, rfl, by omega, x, hx, hn⟩
theorem PlR.miss {fs : List F} {j : Nat} {n : List UInt8} {x : F} {r : Int} (h : PlR fs j n r) (hx : fs[j]? = some x) (hn : ¬ x.name = n) : PlR fs (j + 1) n r := by
  rcases h with ⟨h1, h2⟩ | ⟨i, h1, h2, h3⟩
  · refine .inl ⟨h1, fun z hz => ?_⟩
    rw [take_snoc hx] at hz
    rcases List.mem_append.1 hz with hz | hz
    · exact h2 z hz
    · simp at hz; subst hz; exact hn
  · exact .inr ⟨i, h1, by omega, h3⟩
theorem PlR.end_ {fs : List F} {n : List UInt8} {r : Int} (hr : rises fs = true) (h : PlR fs fs.length n r) : (r = -1 ∧ getF fs n = none) ∨ ∃ (i : Nat) (x : F), r = (i : Int) ∧ i < fs.length ∧ fs[i]? = some x ∧ x.name = n ∧ getF fs n = some x.val := by
  rcases h with ⟨h1, h2⟩ | ⟨i, h1, h2, x, h3, h4⟩
  · rw [List.take_length] at h2
    exact .inl ⟨h1, getF_none h2⟩
  · exact .inr ⟨i, x, h1, h2, h3, h4, by rw [← h4]; exact getF_at hr h3⟩
theorem add_over {a b : Int} (ha : i64 a) (hb : i64 b) : (addI a b).2 = false ↔ (0 < b ∧ 9223372036854775807 - b < a) ∨ (b < 0 ∧ a < -9223372036854775808 - b) := by
  unfold i64 at ha hb
  unfold addI
  have key : IntKind.i64.wrap (a + b) = a + b ∧ -9223372036854775808 ≤ a + b ∧ a + b ≤ 9223372036854775807 ∨ IntKind.i64.wrap (a + b) = a + b - 18446744073709551616 ∧ 9223372036854775807 < a + b ∨ IntKind.i64.wrap (a + b) = a + b + 18446744073709551616 ∧ a + b < -9223372036854775808 := by
    by_cases h1 : 9223372036854775807 < a + b
    · refine .inr (.inl ⟨?_, h1⟩)
      have := wrap_i64 (n := a + b - 18446744073709551616) (by omega)
      have e : (a + b - 18446744073709551616) % 2 ^ IntKind.i64.bits = (a + b) % 2 ^ IntKind.i64.bits := by rw [show (2 : Int) ^ IntKind.i64.bits = 18446744073709551616 by decide]; omega
      rw [← this]
      simp only [IntKind.wrap, e]
    · by_cases h2 : a + b < -9223372036854775808
      · refine .inr (.inr ⟨?_, h2⟩)
        have := wrap_i64 (n := a + b + 18446744073709551616) (by omega)
        have e : (a + b + 18446744073709551616) % 2 ^ IntKind.i64.bits = (a + b) % 2 ^ IntKind.i64.bits := by rw [show (2 : Int) ^ IntKind.i64.bits = 18446744073709551616 by decide]; omega
        rw [← this]
        simp only [IntKind.wrap, e]
      · exact .inl ⟨wrap_i64 (by omega), by omega, by omega⟩
  generalize IntKind.i64.wrap (a + b) = w at key
  by_cases hb0 : b > 0
  · by_cases hw : w > a
    · simp [hb0, hw]; omega
    · simp [hb0, hw]; omega
  · by_cases hw : w > a
    · simp [hb0, hw]; omega
    · simp [hb0, hw]; omega
theorem add_fine {a b : Int} (ha : i64 a) (hb : i64 b) (h : ¬ (addI a b).2 = false) : (addI a b).1 = a + b ∧ i64 (a + b) := by
  rw [add_over ha hb] at h
  unfold i64 at ha hb ⊢
  have : IntKind.i64.wrap (a + b) = a + b := wrap_i64 (by omega)
  exact ⟨this, by omega⟩
theorem val_cells {cs : List AV} {l : List F} {k : Nat} {x : F} {y : V} (hu : cs.take (l.length * 7) = fcells l) (h : l[k]? = some x) (hl : l.length * 7 ≤ cs.length) :
    (putL cs (k * 7 + 1) ((vC y).map .d)).take (l.length * 7) = fcells (l.set k (.mk x.name y)) := by
  have hk : k < l.length := (List.getElem?_eq_some_iff.1 h).1
  have h0 : cs[k * 7]? = some (.d (S x.name)) := by
    have h1 := cells_at hu h
    have h2 := congrArg (·[0]?) h1
    simp only [List.getElem?_take, List.getElem?_drop, fC_eq] at h2
    simpa using h2
  have e : putL cs (k * 7) ((fC (.mk x.name y)).map .d) = putL cs (k * 7 + 1) ((vC y).map .d) := by
    rw [fC_eq]
    show putL (cs.set (k * 7) (.d (S x.name))) (k * 7 + 1) ((vC y).map .d) = _
    rw [set_same h0]
  have := set_cells (f := .mk x.name y) hu h hl
  rw [e, List.length_set] at this
  exact this
theorem val_at {cs : List AV} {l : List F} {k : Nat} {x : F} (hu : cs.take (l.length * 7) = fcells l) (h : l[k]? = some x) : (cs.drop (k * 7 + 1)).take 6 = (vC x.val).map .d := by
  have h1 := congrArg (List.drop 1) (cells_at hu h)
  rw [List.drop_take, List.drop_drop, fC_eq] at h1
  simpa using h1
theorem cut_cells {cs : List AV} {l : List F} {i : Nat} (hu : cs.take (l.length * 7) = fcells l) (hi : i + 1 ≤ l.length) (hl : l.length * 7 ≤ cs.length) :
    (putL cs (i * 7) ((cs.drop ((i + 1) * 7)).take ((l.length - (i + 1)) * 7))).take ((i + (l.length - (i + 1))) * 7) = fcells (l.take i ++ l.drop (i + 1)) := by
  have hR : ((cs.drop ((i + 1) * 7)).take ((l.length - (i + 1)) * 7)).length = (l.length - (i + 1)) * 7 := by rw [List.length_take, List.length_drop]; omega
  have h := putL_take ((cs.drop ((i + 1) * 7)).take ((l.length - (i + 1)) * 7)) cs (i * 7) (by rw [hR]; omega)
  rw [hR, ← Nat.add_mul] at h
  rw [h, fcells_append, fcells_take, fcells_drop, ← hu, List.take_take, Nat.min_eq_left (by omega), List.drop_take]
  congr 2
  omega
theorem becomes_M {id n cap : Nat} {fs : List F} : Becomes id n cap 7 (fs.map fD) (vs6 5 false 0 [] nilS (.arr id n cap)) (vC (M fs)) := by
  unfold M
  rw [vC_eq]
  exact .d _ (Weak.refl _) (.d _ (Weak.refl _) (.d _ (Weak.refl _) (.d _ (Weak.refl _) (.d _ weak_nilL (.arr .nil)))))
theorem right_at : ∀ (p : List (List UInt8)) (o : Opn) {D : Nat} {v : V}, rightV 32 o.val = true → 32 + p.length ≤ D → rightV D v = true → rightV D (atV o v p).1 = true
  | [], o, D, v, _, hD, _ => by
    obtain ⟨d, rfl⟩ : ∃ d, D = d + 1 := ⟨D - 1, by omega⟩
    unfold atV; split <;> rfl
  | n :: p, o, D, v, ho, hD, hv => by
    obtain ⟨d, rfl⟩ : ∃ d, D = d + 1 := ⟨D - 1, by omega⟩
    simp only [List.length_cons] at hD
    by_cases hk : v.kind = 5
    · obtain ⟨hM, hr⟩ := map_of hv hk
      generalize v.fields = fs at hM hr
      subst hM
      rw [at_step o hr n p]
      have hx : ∀ x, getF fs n = some x → rightV d x = true := fun x hx => by
        obtain ⟨f, hf, rfl⟩ := getF_mem hx
        rw [map_right, Bool.and_eq_true, List.all_eq_true] at hv
        exact hv.2 f hf
      split
      · rfl
      · show rightV (d + 1) (M (updF fs n (stepO o p (getF fs n)).2)) = true
        cases hs : (stepO o p (getF fs n)).2 with
        | none => exact right_del hv n
        | some y =>
          refine right_put hv n ?_
          cases p with
          | nil =>
            simp only [stepO] at hs
            split at hs
            · cases hs; exact right_mono 32 d _ (by simp at hD; omega) ho
            · cases hg : getF fs n with
              | none => rw [hg] at hs; cases hs
              | some z =>
                rw [hg] at hs
                simp only at hs
                split at hs
                · cases hs
                split at hs
                · cases hs
                split at hs
                · cases hs
                · cases hs
                  obtain ⟨d', rfl⟩ : ∃ d', d = d' + 1 := ⟨d - 1, by simp at hD; omega⟩
                  exact right_int d' _
          | cons m p =>
            cases hg : getF fs n with
            | none => rw [hg] at hs; cases hs
            | some z =>
              rw [hg] at hs
              simp only [stepO] at hs
              split at hs
              · cases hs
              · cases hs
                exact right_at (m :: p) o ho (by omega) (hx z hg)
    · have : atV o v (n :: p) = (V0, 5) := by
        cases p with
        | nil => rw [atV_one, if_pos hk]
        | cons m p => rw [atV_more, if_pos hk]
      rw [this]; rfl
end Go.AV.Patch
namespace Go.AV.Patch
open Go.AV.Ord Go.AV.Oct Go.AV.Val
theorem weaks_take (v : V) : Weaks ((((vC v).map AV.d).drop 0).take 6) ((vC v).map .d) := by
  rw [List.drop_zero, List.take_of_length_le (by rw [List.length_map, vC_len]; exact Nat.le_refl _)]
  exact weaks_refl _
theorem at_nomap (o : Opn) {v : V} (h : ¬ v.kind = 5) (n : List UInt8) (p : List (List UInt8)) : atV o v (n :: p) = (V0, 5) := by
  cases p with
  | nil => rw [atV_one, if_pos h]
  | cons m p => rw [atV_more, if_pos h]
section
variable {P : Program} {E : Operand → AV} {H : HS} {dst : Option Tmp} {ty : TypeId} {pos : String} {after : Array Edge} {gd : Option (Nat × Bool)}
theorem op_copyF {x y : Operand} {t' tx tF : TypeId} {z : Value} {bytes j : Nat} {fs : List F} (ht : P.underlying t' = some (.slice tF)) (hi : tInfo P tF z 7 bytes) (hzs : z.cells.size = 7) (hx : E x = .arr j 0 0) (hb : H.blks[j]? = some ⟨tF, [], false⟩) (hy : Adds P tx (E y) 7 (fs.map fD)) (hbig : fs.length * bytes ≤ 140737488355328) (hn : fs.length ≤ 140737488355328) :
    OpR P ⟨dst, .call ⟨.builtin .append, #[x, y], #[t', tx]⟩, ty, pos, after, gd⟩ E H (fun av H' => ∃ id cap cs, av = .arr id fs.length cap ∧ H'.blks[id]? = some ⟨tF, cs, false⟩ ∧ cs.length = cap * 7 ∧ fs.length ≤ cap ∧ cs.take (fs.length * 7) = fcells fs ∧ Kept H H' (.arr j 0 0) ∧ (id = j ∨ H.nb ≤ id)) := by
  by_cases h0 : fs = []
  · subst h0
    intro B w0 c w a next Q h1 h2 h3
    refine op_append0A ht hi hx (Nat.le_refl 0) hy B w0 c w a next Q h1 h2 fun v' w' c' av H' l1 r1 i1 ⟨e1, e2⟩ => ?_
    subst e1 e2
    exact h3 v' w' c' _ _ l1 r1 i1 ⟨j, 0, [], rfl, hb, rfl, Nat.le_refl 0, rfl, ⟨rfl, Nat.le_refl _, fun _ _ _ => rfl⟩, .inl rfl⟩
  · have hp : 0 < fs.length := List.length_pos_iff.2 h0
    intro B w0 c w a next Q h1 h2 h3
    refine op_append_arr (n := 0) (us := []) ht hi hzs (by rw [hx]; exact .arr j 0 0 [] [] hb rfl (Nat.le_refl 0) rfl) hy (by rw [List.length_map]; exact hp) (by rw [List.length_map, Nat.zero_add]; exact hbig) (by rw [List.length_map, Nat.zero_add]; exact hn) B w0 c w a next Q h1 h2 fun v' w' c' av H' l1 r1 i1 hR => ?_
    rw [hx] at hR
    obtain ⟨hA, hK, id, m, cap, rfl, _, ho⟩ := hR
    rw [List.length_map, Nat.zero_add] at hA
    cases hA with
    | arr _ _ _ cs _ hb2 hc hcap hu =>
      exact h3 v' w' c' _ _ l1 r1 i1 ⟨id, cap, cs, rfl, hb2, hc, hcap, by simpa [fcells] using hu, hK, ho _ _ _ rfl⟩
theorem op_moreF {x y : Operand} {t' tx tF : TypeId} {z : Value} {bytes j cap0 : Nat} {fs : List F} {cs0 : List AV} (f : F) (ht : P.underlying t' = some (.slice tF)) (hi : tInfo P tF z 7 bytes) (hzs : z.cells.size = 7) (hx : E x = .arr j fs.length cap0) (hb : H.blks[j]? = some ⟨tF, cs0, false⟩) (hc : cs0.length = cap0 * 7) (hcap : fs.length ≤ cap0) (hu : cs0.take (fs.length * 7) = fcells fs)
    (hy : Adds P tx (E y) 7 [fD f]) (hbig : (fs.length + 1) * bytes ≤ 140737488355328) (hn : fs.length + 1 ≤ 140737488355328) :
    OpR P ⟨dst, .call ⟨.builtin .append, #[x, y], #[t', tx]⟩, ty, pos, after, gd⟩ E H (fun av H' => ∃ id cap cs, av = .arr id (fs ++ [f]).length cap ∧ H'.blks[id]? = some ⟨tF, cs, false⟩ ∧ cs.length = cap * 7 ∧ (fs ++ [f]).length ≤ cap ∧ cs.take ((fs ++ [f]).length * 7) = fcells (fs ++ [f]) ∧ Kept H H' (.arr j fs.length cap0) ∧ (id = j ∨ H.nb ≤ id)) := by
  intro B w0 c w a next Q h1 h2 h3
  refine op_append_arr (n := fs.length) (us := fcells fs) ht hi hzs (by rw [hx]; exact .arr j _ _ cs0 _ hb hc hcap hu) hy (by simp) (by simpa using hbig) (by simpa using hn) B w0 c w a next Q h1 h2 fun v' w' c' av H' l1 r1 i1 hR => ?_
  rw [hx] at hR
  obtain ⟨hA, hK, id, m, cap, rfl, _, ho⟩ := hR
  have e : (fs ++ [f]).length = fs.length + [fD f].length := by simp
  cases hA with
  | arr _ _ _ cs _ hb2 hc2 hcap2 hu2 =>
    exact h3 v' w' c' _ _ l1 r1 i1 ⟨id, cap, cs, by rw [e], hb2, hc2, by rw [e]; exact hcap2, by rw [e, hu2, fcells_append]; simp [fcells, flat], hK, ho _ _ _ rfl⟩
end
end Go.AV.Patch
namespace Go.AV.Patch
open Go.AV.Ord Go.AV.Oct Go.AV.Val
abbrev EndR (H0 H' : HS) (l : List AV) (m : List DV) : Prop := ∃ id n cap sz xs b, H0.nb ≤ id ∧ H'.blks[id]? = some b ∧ b.cs.take (flat xs).length = (flat xs).map .d ∧ (flat xs).length ≤ b.cs.length ∧ xs.length = n ∧ n ≤ cap ∧ (∀ x ∈ xs, x.cells.length = sz) ∧ (∀ d ∈ flat xs, d.one = true) ∧ Becomes id n cap sz xs l m
theorem endR {H0 H' : HS} {tF : TypeId} {id n cap : Nat} {cs : List AV} {fs : List F} (h0 : H0.nb ≤ id) (hb : H'.blks[id]? = some ⟨tF, cs, false⟩) (hc : cs.length = cap * 7) (hn : n = fs.length) (hcap : n ≤ cap) (hu : cs.take (fs.length * 7) = fcells fs) : EndR H0 H' (vs6 5 false 0 [] nilS (.arr id n cap)) (vC (M fs)) :=
  ⟨id, n, cap, 7, fs.map fD, _, h0, hb, by rw [flat_length (fsz _), List.length_map]; exact hu, by rw [flat_length (fsz _), List.length_map]; show _ ≤ cs.length; omega, by rw [List.length_map, hn], hcap, fsz _, fone _, becomes_M⟩
theorem setR {H0 H' : HS} {tF : TypeId} {id cap i : Nat} {cs : List AV} {fs : List F} {x : F} {y : V} {n0 : List UInt8} (h0 : H0.nb ≤ id) (hb : H'.blks[id]? = some ⟨tF, putL cs (i * 7 + 1) ((vC y).map .d), false⟩) (hc : cs.length = cap * 7) (hcap : fs.length ≤ cap) (hu : cs.take (fs.length * 7) = fcells fs) (hxi : fs[i]? = some x) (hn : x.name = n0) :
    EndR H0 H' (vs6 5 false 0 [] nilS (.arr id fs.length cap)) (vC (M (fs.set i (.mk n0 y)))) := by
  subst hn
  exact endR h0 hb (by rw [putL_length]; exact hc) (by rw [List.length_set]) hcap (by rw [List.length_set]; exact val_cells hu hxi (by omega))
theorem cutR {H0 H' : HS} {tF : TypeId} {id cap i : Nat} {cs : List AV} {fs : List F} (h0 : H0.nb ≤ id) (hb : H'.blks[id]? = some ⟨tF, putL cs (i * 7) ((cs.drop ((i + 1) * 7)).take ((fs.length - (i + 1)) * 7)), false⟩) (hc : cs.length = cap * 7) (hcap : fs.length ≤ cap) (hu : cs.take (fs.length * 7) = fcells fs) (hi : i < fs.length) :
    EndR H0 H' (vs6 5 false 0 [] nilS (.arr id (i + (fs.length - (i + 1))) cap)) (vC (M (fs.take i ++ fs.drop (i + 1)))) := by
  have e : i + (fs.length - (i + 1)) = (fs.take i ++ fs.drop (i + 1)).length := by simp; omega
  exact endR h0 hb (by rw [putL_length]; exact hc) e (by omega) (by rw [← e]; exact cut_cells hu hi (by omega))
theorem dropR {H0 H' : HS} {tF : TypeId} {id cap i : Nat} {cs : List AV} {fs : List F} (h0 : H0.nb ≤ id) (hb : H'.blks[id]? = some ⟨tF, cs, false⟩) (hc : cs.length = cap * 7) (hcap : fs.length ≤ cap) (hu : cs.take (fs.length * 7) = fcells fs) (hi : i < fs.length) (hl : i + 1 = fs.length) :
    EndR H0 H' (vs6 5 false 0 [] nilS (.arr id i cap)) (vC (M (fs.take i ++ fs.drop (i + 1)))) := by
  rw [hl, List.drop_length, List.append_nil]
  exact endR h0 hb hc (by rw [List.length_take]; omega) (by omega) (by rw [List.length_take, Nat.min_eq_left (by omega), fcells_take, ← hu, List.take_take, Nat.min_eq_left (by omega)])
end Go.AV.Patch
namespace Go.Proofs.Ytjamnhofbkgblaa
open Go.AV Go.AV.Ord Go.AV.Oct Go.AV.Val Go.AV.Patch
set_option linter.unusedVariables false
set_option linter.unusedSimpArgs false
set_option maxHeartbeats 1000000 in
set_option maxRecDepth 100000 in
theorem ofMap_arr (Hs : HS) (id0 cap0 : Nat) (cs0 : List AV) (fs : List F) (hb0 : Hs.blks[id0]? = some ⟨48, cs0, false⟩) (hc0 : cs0.length = cap0 * 7) (hcap0 : fs.length ≤ cap0) (hu0 : cs0.take (fs.length * 7) = fcells fs) (hl : fs.length ≤ 100000) : ACalls Try.prog 18 [.arr id0 fs.length cap0] Hs (Ret (.d (.agg (vC (ofMapV fs)))) Hs) := by
 refine ACalls.tidyP (vC_one (ofMapV fs)) ?_
 refine acalls_of_awC Try.func18 rfl ?_
 refine aw_start (T' := [.arr id0 fs.length cap0, .un, .un, .un, .un, .un, .un, .un, .un, .un, .un, .un, .un, .un, .un, .un, .un, .un, .un, .un, .un, .un, .un, .un, .un, .un, .un, .un, .un, .un, .un, .un, .un]) rfl ?_
 refine aw_seq ?_
 refine aw_region ?_
 refine zst (op_alloc (Zr26) (by rfl)) rfl (by dsimp only [zS, zN, zH, zT]) ?_
 refine al_end rfl ?_
 refine then_normal ?_
 refine aw_seq ?_
 refine aw_region ?_
 refine zst (op_assign_const (by rfl)) rfl (by dsimp only [zS, zN, zH, zT]) ?_
 refine al_end rfl ?_
 refine then_normal ?_
 refine aw_seq ?_
 refine aw_seq ?_
 refine aw_region ?_
 refine zst (op_move_tmp (by rfl)) rfl (by dsimp only [zS, zN, zH, zT]) ?_
 refine zst (op_lenArr Try.underlying24 (by rfl)) rfl (by dsimp only [zS, zN, zH, zT]) ?_
 refine zst (op_move_const (by rfl)) rfl (by dsimp only [zS, zN, zH, zT]) ?_
 refine al_end rfl ?_
 refine then_normal ?_
 refine aw_block ?_
 apply aw_loopF (fun n T H => ∃ (k : Nat) (v : AV), T = [.un, .un, .ptr Hs.nb 0, v, .un, .un, .un, .un, .arr id0 fs.length cap0, .d (I fs.length), .d (I k), .un, .un, .un, .un, .un, .un, .un, .un, .un, .un, .un, .un, .un, .un, .un, .un, .un, .un, .un, .un, .un, .un] ∧ k ≤ fs.length ∧ n = fs.length - k ∧ ArrF H 48 v (ofF (fs.take k)) ∧ Ext Hs H ∧ H.blks[Hs.nb]? = some (vBlk 26 0 false 0 [] nilS nilS) ∧ (∀ id m c, v = .arr id m c → Hs.nb < id)) (fs.length) [false, false, true, true, false, false, false, false, true, true, true, false, false, false, false, false, false, false, false, false, false, false, false, false, false, false, false, false, false, false, false, false, false]
 · (try dsimp only [maskT]); try exact rfl
 · rfl
 · exact ⟨0, nilS, rfl, by omega, rfl, Arr.nil, (Ext.refl Hs).push _ _, push_at, (fun _ _ _ h => by cases h)⟩
 rintro n T H ⟨k, v, rfl, hk, rfl, hA, hx, hz, hvn⟩
 refine aw_seq ?_
 refine aw_region ?_
 refine zst (op_ltI (by rfl) (by rfl)) rfl (by dsimp only [zS, zN, zH, zT]) ?_
 refine al_end rfl ?_
 refine then_normal ?_
 refine aw_seq ?_
 refine aw_cond rfl (fun hc1 => ?_) (fun hc1 => ?_)
 ·
  (try simp only [y1, y2, y3, y4, y5, y6, y7, y8, y9, y0, List.length_map] at hc1)
  (try simp only [List.length_map] at hc1)
  have hlt : k < fs.length := by omega
  obtain ⟨x, hx1⟩ : ∃ x, fs[k]? = some x := ⟨_, List.getElem?_eq_getElem hlt⟩
  have hlen := ofF_len (fs.take k)
  have hlt2 : (fs.take k).length = k := by rw [List.length_take]; omega
  have hri := ofF_rises (fs.take k)
  have hst := ofF_step hx1
  have hple := posF_le (ofF (fs.take k)) x.name
  refine aw_skip ?_
  refine then_normal ?_
  refine aw_seq ?_
  refine aw_block ?_
  refine aw_seq ?_
  refine aw_region ?_
  refine zst (op_indexArr Try.underlying24 Sz48 (by rfl) (by rfl) (by omega) (by omega) (by rfl)) rfl (by dsimp only [zS, zN, zH, zT]) ?_
  refine zst (op_loadFA x Try.underlying48 (by rfl) Sz48 (by rfl) (hx.at hb0) (by show _ ≤ cs0.length; omega) (cells_at hu0 hx1)) rfl (by dsimp only [zS, zN, zH, zT]) ?_
  refine zst (op_alloc (Zr48) (by rfl)) rfl (by dsimp only [zS, zN, zH, zT]) ?_
  refine zst (op_storeF (b' := f1 48 x) x Sz48 (by rfl) push_at (by rfl) (Nat.le_of_ble_eq_true rfl) (by rfl) (by unfold f1; rw [← fC7]; rfl)) rfl (by dsimp only [zS, zN, zH, zT]) ?_
  refine al_end rfl ?_
  refine then_normal ?_
  refine aw_seq ?_
  have hA2 : ArrF ((H.push 48 [.d (S []), .d (I 0), .d (TF false), .d (.v (.int .i64 0)), .d (S []), nilS, nilS]).setB H.nb (f1 48 x)) 48 v (ofF (fs.take k)) := ArrF.psh hA
  refine aw_region ?_
  refine zst (op_move_tmp (by rfl)) rfl (by dsimp only [zS, zN, zH, zT]) ?_
  refine zst (op_loadF 48 x Try.underlying48 (by rfl) Sz48 (by rfl) (setB_at push_at)) rfl (by dsimp only [zS, zN, zH, zT]) ?_
  refine zst (op_callF Try.func29 (by rfl) (by rfl) (.tmp (by rfl) (.tmp (by rfl) (.func .nil))) (search_ok _ v (ofF (fs.take k)) x hA2 hri (by omega))) rfl (by dsimp only [zS, zN, zH, zT]) ?_
  refine zst (op_move_tmp (by rfl)) rfl (by dsimp only [zS, zN, zH, zT]) ?_
  refine zst (op_extract (by rfl) (by rfl)) rfl (by dsimp only [zS, zN, zH, zT]) ?_
  refine zst (op_extract (by rfl) (by rfl)) rfl (by dsimp only [zS, zN, zH, zT]) ?_
  refine zst (op_assign_tmp (by rfl)) rfl (by dsimp only [zS, zN, zH, zT]) ?_
  refine zst (op_assign_tmp (by rfl)) rfl (by dsimp only [zS, zN, zH, zT]) ?_
  refine al_end rfl ?_
  refine then_normal ?_
  refine aw_seq ?_
  refine aw_seq ?_
  refine aw_region ?_
  refine zst (op_move_tmp (by rfl)) rfl (by dsimp only [zS, zN, zH, zT]) ?_
  refine al_end rfl ?_
  refine then_normal ?_
  refine aw_cond rfl (fun hc2 => ?_) (fun hc2 => ?_)
  ·
   (try simp only [y1, y2, y3, y4, y5, y6, y7, y8, y9, y0, List.length_map] at hc2)
   have hhas : hasF (ofF (fs.take k)) x.name = true := hc2
   obtain ⟨g, hg, hgn⟩ := hasF_at hhas
   have hgl := (List.getElem?_eq_some_iff.1 hg).1
   obtain ⟨id, cap, cs, rfl, hb, hc, hcap, hu⟩ := Arr.pos hA2 (by omega)
   refine aw_seq ?_
   refine aw_region ?_
   refine zst (op_move_tmp (by rfl)) rfl (by dsimp only [zS, zN, zH, zT]) ?_
   refine zst (op_move_tmp (by rfl)) rfl (by dsimp only [zS, zN, zH, zT]) ?_
   refine zst (op_loadF 48 x Try.underlying48 (by rfl) Sz48 (by rfl) (setB_at push_at)) rfl (by dsimp only [zS, zN, zH, zT]) ?_
   refine zst (op_indexArr (off := (posF (ofF (fs.take k)) x.name) * 7) Try.underlying24 Sz48 (by rfl) (by rfl) (by omega) (by omega) (by rfl)) rfl (by dsimp only [zS, zN, zH, zT]) ?_
   refine zst (op_storeF (b' := ⟨48, putL cs ((posF (ofF (fs.take k)) x.name) * 7) ((fC x).map .d), false⟩) x Sz48 (by rfl) hb (by rfl) (by show _ ≤ cs.length; omega) (by rfl) (by rfl)) rfl (by dsimp only [zS, zN, zH, zT]) ?_
   refine al_end rfl ?_
   refine then_normal ?_
   refine aw_exit ?_
   refine then_exit (inBlock_here (then_normal ?_))
   refine aw_region ?_
   refine zst (by first | exact op_add (by rfl) (by rfl) (wrap_i64 ⟨by omega, by omega⟩) | exact op_add (by rfl) (by rfl) (by rfl)) rfl (by dsimp only [zS, zN, zH, zT]) ?_
   refine zst (op_move_tmp (by rfl)) rfl (by dsimp only [zS, zN, zH, zT]) ?_
   refine al_end rfl ?_
   apply again_to (fs.length - (k + 1)) [false, false, true, true, false, false, false, false, true, true, true, false, false, false, false, false, false, false, false, false, false, false, false, false, false, false, false, false, false, false, false, false, false]
   · (try dsimp only [maskT]); try exact rfl
   · rfl
   · omega
   exact ⟨k + 1, _, rfl, by omega, rfl, by rw [hst, putF_has _ _ hhas]; exact ArrF.set hb hc hcap hu hg, ((hx.push _ _).setB (nb_le hx)).setB (by have := hvn _ _ _ rfl; omega), by rw [setB_ne (by have := hvn _ _ _ rfl; omega), setB_ne (by have := lt_nb hz; omega)]; exact push_ne hz, (fun _ _ _ h => by cases h; exact hvn _ _ _ rfl)⟩
  ·
   (try simp only [y1, y2, y3, y4, y5, y6, y7, y8, y9, y0, List.length_map] at hc2)
   have hhas : hasF (ofF (fs.take k)) x.name = false := hc2
   refine aw_skip ?_
   refine then_normal ?_
   refine aw_region ?_
   refine zst (op_move_tmp (by rfl)) rfl (by dsimp only [zS, zN, zH, zT]) ?_
   refine zst (op_move_tmp (by rfl)) rfl (by dsimp only [zS, zN, zH, zT]) ?_
   refine zst (op_loadF 48 x Try.underlying48 (by rfl) Sz48 (by rfl) (setB_at push_at)) rfl (by dsimp only [zS, zN, zH, zT]) ?_
   refine zst (op_litF x Try.underlying24 ZS48 (.cons (by rfl) (.nil _))) rfl (by dsimp only [zS, zN, zH, zT]) ?_
   refine al_cons _ (op_callF Try.func32 (by rfl) (by rfl) (.tmp (by rfl) (.tmp (by rfl) (.tmp (by rfl) .nil))) (insert_ok _ v (ofF (fs.take k)) (posF (ofF (fs.take k)) x.name) ((H.push 48 [.d (S []), .d (I 0), .d (TF false), .d (.v (.int .i64 0)), .d (S []), nilS, nilS]).setB H.nb (f1 48 x)).nb x (ArrF.pushed hA2) hple (by omega) push_at (fun m c h => by have := Arr.idlt hA2 h; omega))) rfl ?_
   rintro v2 H2 hI
   apply al_normT
   · (try dsimp only [putT, List.set_cons_zero, List.set_cons_succ]); try exact rfl
   refine zst (op_assign_tmp (by rfl)) rfl (by dsimp only [zS, zN, zH, zT]) ?_
   refine al_end rfl ?_
   refine inBlock_normal (then_normal ?_)
   refine aw_region ?_
   refine zst (by first | exact op_add (by rfl) (by rfl) (wrap_i64 ⟨by omega, by omega⟩) | exact op_add (by rfl) (by rfl) (by rfl)) rfl (by dsimp only [zS, zN, zH, zT]) ?_
   refine zst (op_move_tmp (by rfl)) rfl (by dsimp only [zS, zN, zH, zT]) ?_
   refine al_end rfl ?_
   apply again_to (fs.length - (k + 1)) [false, false, true, true, false, false, false, false, true, true, true, false, false, false, false, false, false, false, false, false, false, false, false, false, false, false, false, false, false, false, false, false, false]
   · (try dsimp only [maskT]); try exact rfl
   · rfl
   · omega
   exact ⟨k + 1, _, rfl, by omega, rfl, by rw [hst, putF_new _ _ hhas]; exact hI.arr, ext_kept (((hx.push _ _).setB (nb_le hx)).push _ _) hI.kept hvn, by rw [hI.kept.blks Hs.nb (by rw [push_nb, setB_nb, push_nb]; have := lt_nb hz; omega) (fun m c h => by have := hvn _ _ _ h; omega), push_lt (by rw [setB_nb, push_nb]; have := lt_nb hz; omega), setB_ne (by have := lt_nb hz; omega)]; exact push_ne hz, (fun id m c h => by rcases hI.new id m c h with h | ⟨m2, c2, h⟩; (rw [push_nb, setB_nb, push_nb] at h; have := lt_nb hz; omega); exact hvn _ _ _ h)⟩
 ·
  (try simp only [y1, y2, y3, y4, y5, y6, y7, y8, y9, y0, List.length_map] at hc1)
  (try simp only [List.length_map] at hc1)
  have hke : k = fs.length := by omega
  subst hke
  rw [List.take_length] at hA
  refine aw_exit ?_
  refine then_exit (again_exit (inBlock_here (then_normal ?_)))
  refine aw_seq ?_
  rcases Arr.or hA with rfl | ⟨id, cap, rfl⟩
  ·
   refine aw_region ?_
   refine zst (op_move_tmp (by rfl)) rfl (by dsimp only [zS, zN, zH, zT]) ?_
   refine zst (op_build (pl := [(0, 1), (1, 1), (2, 1), (3, 1), (4, 1), (5, 1)]) Try.underlying26 Zr26 (by kernel_rfl) (by rfl) (by rfl) (by rfl)) rfl (by dsimp only [zS, zN, zH, zT]) ?_
   refine zst (by first | exact op_storeB (vs := vs6 5 false 0 [] nilS nilS) (b' := vBlk 26 5 false 0 [] nilS nilS) (H' := _) Sz26 (by rfl) hz (by intro h; cases h) (by rfl) (by rfl) (Nat.le_of_ble_eq_true rfl) (by simp [AV.one, DV.one, TF, S, I, BY]) (by rfl) (by rfl) rfl | exact op_storeB (vs := vs6 5 false 0 [] nilS (.arr id (ofF fs).length cap)) (b' := vBlk 26 5 false 0 [] nilS (.arr id (ofF fs).length cap)) (H' := _) Sz26 (by rfl) hz (by intro h; cases h) (by rfl) (by rfl) (Nat.le_of_ble_eq_true rfl) (by simp [AV.one, DV.one, TF, S, I, BY]) (by rfl) (by rfl) rfl) rfl (by dsimp only [zS, zN, zH, zT]) ?_
   refine al_end rfl ?_
   refine then_normal ?_
   refine aw_ret ?_
   refine retC1 rfl (.cells Try.underlying26 (by rfl) Sz26 (by rfl) (setB_at hz) (Nat.le_of_ble_eq_true rfl) (by rfl)) ?_
   have h0 : ofF fs = [] := List.eq_nil_of_length_eq_zero (Arr.len0 hA)
   refine ⟨hx.setB (Nat.le_refl _), _, rfl, .inl ?_⟩
   unfold ofMapV; rw [h0]; exact weak6 weak_nilL weak_nilF
  ·
   refine aw_region ?_
   refine zst (op_move_tmp (by rfl)) rfl (by dsimp only [zS, zN, zH, zT]) ?_
   refine zst (op_build (pl := [(0, 1), (1, 1), (2, 1), (3, 1), (4, 1), (5, 1)]) Try.underlying26 Zr26 (by kernel_rfl) (by rfl) (by rfl) (by rfl)) rfl (by dsimp only [zS, zN, zH, zT]) ?_
   refine zst (by first | exact op_storeB (vs := vs6 5 false 0 [] nilS nilS) (b' := vBlk 26 5 false 0 [] nilS nilS) (H' := _) Sz26 (by rfl) hz (by intro h; cases h) (by rfl) (by rfl) (Nat.le_of_ble_eq_true rfl) (by simp [AV.one, DV.one, TF, S, I, BY]) (by rfl) (by rfl) rfl | exact op_storeB (vs := vs6 5 false 0 [] nilS (.arr id (ofF fs).length cap)) (b' := vBlk 26 5 false 0 [] nilS (.arr id (ofF fs).length cap)) (H' := _) Sz26 (by rfl) hz (by intro h; cases h) (by rfl) (by rfl) (Nat.le_of_ble_eq_true rfl) (by simp [AV.one, DV.one, TF, S, I, BY]) (by rfl) (by rfl) rfl) rfl (by dsimp only [zS, zN, zH, zT]) ?_
   refine al_end rfl ?_
   refine then_normal ?_
   refine aw_ret ?_
   refine retC1 rfl (.cells Try.underlying26 (by rfl) Sz26 (by rfl) (setB_at hz) (Nat.le_of_ble_eq_true rfl) (by rfl)) ?_
   have hn0 : Hs.nb < id := hvn _ _ _ rfl
   refine ⟨hx.setB (Nat.le_refl _), _, rfl, .inr ?_⟩
   rcases hA with _ | ⟨_, _, _, cs, _, hb, hc, hcap, hu⟩
   exact ⟨id, _, cap, 7, (ofF fs).map fD, _, by omega, by rw [setB_ne (by omega)]; exact hb, by rw [flat_length (fsz _), List.length_map]; exact hu, by rw [flat_length (fsz _), List.length_map]; show _ ≤ cs.length; omega, List.length_map _, hcap, fsz _, fone _, becomes_map⟩
set_option maxHeartbeats 1000000 in
set_option maxRecDepth 100000 in
theorem pdone_step (Hs : HS) (o : Opn) (v : V) (k D : Nat) (n0 : List UInt8) (p : List (List UInt8)) (hp : o.path.drop k = n0 :: p) (h20 : o.path.length ≤ 20) (hv : rightV (D + 1) v = true) (wv : WfV v) (wo : WfV o.val) (hl : v.fields.length ≤ 90000) (ih : ∀ x, p ≠ [] → getF v.fields n0 = some x → ∀ Hs : HS, ACalls Try.prog 21 [.d (.agg (vC x)), .d (oD o), .d (I ((k + 1 : Nat) : Int))] Hs (Ret (.tup [.d (.agg (vC (atV o x p).1)), .d (I (atV o x p).2)]) Hs)) : ACalls Try.prog 21 [.d (.agg (vC v)), .d (oD o), .d (I k)] Hs (Ret (.tup [.d (.agg (vC (atV o v (n0 :: p)).1)), .d (I (atV o v (n0 :: p)).2)]) Hs) := by
 refine ACalls.tidyP2 (vC_one _) ?_
 have hpk : o.path[k]? = some n0 := by have h := congrArg (·[0]?) hp; simpa using h
 have hpl : o.path.length = k + 1 + p.length := by have h := congrArg List.length hp; rw [List.length_drop, List.length_cons] at h; have := (List.getElem?_eq_some_iff.1 hpk).1; omega
 have hb64 := wo.n
 unfold i64 at hb64
 refine acalls_of_awC Try.func21 rfl ?_
 refine aw_start (T' := ((.d (.agg (vC v))) :: (.d (oD o)) :: (.d (I k)) :: .un :: .un :: .un :: .un :: .un :: .un :: .un :: .un :: .un :: .un :: .un :: .un :: .un :: .un :: .un :: .un :: .un :: .un :: .un :: .un :: .un :: .un :: .un :: .un :: .un :: .un :: .un :: .un :: .un :: .un :: .un :: .un :: .un :: .un :: .un :: .un :: .un :: .un :: .un :: .un :: .un :: .un :: .un :: .un :: .un :: .un :: .un :: .un :: .un :: .un :: .un :: .un :: .un :: .un :: .un :: .un :: .un :: .un :: .un :: .un :: .un :: .un :: .un :: .un :: .un :: .un :: .un :: .un :: .un :: .un :: .un :: .un :: .un :: .un :: .un :: .un :: .un :: .un :: .un :: .un :: .un :: .un :: .un :: .un :: .un :: .un :: .un :: .un :: .un :: .un :: .un :: .un :: .un :: .un :: .un :: .un :: .un :: .un :: .un :: .un :: .un :: .un :: .un :: .un :: .un :: .un :: .un :: .un :: .un :: .un :: .un :: .un :: .un :: .un :: .un :: .un :: .un :: .un :: .un :: .un :: .un :: .un :: .un :: .un :: .un :: .un :: .un :: .un :: .un :: .un :: .un :: .un :: .un :: .un :: .un :: .un :: .un :: .un :: .un :: .un :: .un :: .un :: .un :: .un :: [])) rfl ?_
 refine aw_seq ?_
 refine aw_region ?_
 refine zst (op_box_elt (cs := [I v.kind, TF v.yes, .v (.int .i64 v.num), S v.text, .lst 6 (v.list.map vD), .lst 7 (v.fields.map fD)]) (by rfl) (vD_cells v)) rfl (by dsimp only [zS, zN, zH, zT]) ?_
 refine zst (op_box_elt (cs := [I o.kind, .lst 1 (o.path.map S), I o.val.kind, TF o.val.yes, .v (.int .i64 o.val.num), S o.val.text, .lst 6 (o.val.list.map vD), .lst 7 (o.val.fields.map fD)]) (by rfl) (by rfl)) rfl (by dsimp only [zS, zN, zH, zT]) ?_
 refine zst (op_alloc (Zr26) (by rfl)) rfl (by dsimp only [zS, zN, zH, zT]) ?_
 refine zst (op_assign_const (by rfl)) rfl (by dsimp only [zS, zN, zH, zT]) ?_
 refine al_end rfl ?_
 refine then_normal ?_
 refine aw_seq ?_
 refine aw_seq ?_
 refine aw_region ?_
 refine zst (by first | exact op_fieldAddr_ptr Try.underlying26 rfl Sz22 (by rfl) (by rfl) | exact op_fieldAddr_elt Try.underlying26 rfl Sz22 (by rfl) (by rfl) (by rfl)) rfl (by dsimp only [zS, zN, zH, zT]) ?_
 refine zst (by first | exact op_load_elt Try.underlying22 (by rfl) (by rfl) (by rfl) | exact op_load_ptr Try.underlying22 (by rfl) (by rfl) (by exact setB_at push_at) (by rfl)) rfl (by dsimp only [zS, zN, zH, zT]) ?_
 refine zst (op_neI (by rfl) (by rfl)) rfl (by dsimp only [zS, zN, zH, zT]) ?_
 refine al_end rfl ?_
 refine then_normal ?_
 refine aw_cond rfl (fun hc1 => ?_) (fun hc1 => ?_)
 ·
  (try simp only [y1, y2, y3, y4, y5, y6, y7, y8, y9, y0, List.length_map] at hc1)
  have hk5 : ¬ v.kind = 5 := hc1
  have hres := at_nomap o hk5 n0 p
  refine aw_seq ?_
  refine aw_region ?_
  refine zst (op_zeroV (pl := [(0, 1), (1, 1), (2, 1), (3, 1), (4, 1), (5, 1)]) Try.underlying26 Zr26 (by kernel_rfl) (by rfl)) rfl (by dsimp only [zS, zN, zH, zT]) ?_
  refine zst (op_stV V0 Sz26 (by rfl) push_at (by first | exact VBl.z _ | exact VBl.v _ _) (by rfl)) rfl (by dsimp only [zS, zN, zH, zT]) ?_
  refine zst (op_assign_const (by rfl)) rfl (by dsimp only [zS, zN, zH, zT]) ?_
  refine al_end rfl ?_
  refine then_normal ?_
  refine aw_ret ?_
  refine then_ret ?_
  refine retC2 rfl (.cells Try.underlying26 (by rfl) Sz26 (by rfl) (setB_at push_at) (by show 0 + 6 ≤ ((vC _).map AV.d).length; rw [List.length_map, vC_len]; exact Nat.le_refl _) (by rfl)) (.tmp (by rfl)) ?_
  rw [hres]
  exact ⟨((Ext.refl Hs).push _ _).setB (Nat.le_refl _), _, rfl, .inl (weaks_take _)⟩
 ·
  (try simp only [y1, y2, y3, y4, y5, y6, y7, y8, y9, y0, List.length_map] at hc1)
  have hk5 : v.kind = 5 := by simpa using hc1
  obtain ⟨hM, hr⟩ := map_of hv hk5
  have hst := at_step o hr n0 p
  rw [← hM] at hst
  refine aw_skip ?_
  refine then_normal ?_
  refine aw_seq ?_
  refine aw_region ?_
  refine zst (by first | exact op_fieldAddr_ptr Try.underlying36 rfl Sz34 (by rfl) (by rfl) | exact op_fieldAddr_elt Try.underlying36 rfl Sz34 (by rfl) (by rfl) (by rfl)) rfl (by dsimp only [zS, zN, zH, zT]) ?_
  refine zst (by first | exact op_load_elt Try.underlying34 (by rfl) (by rfl) (by rfl) | exact op_load_ptr Try.underlying34 (by rfl) (by rfl) (by exact setB_at push_at) (by rfl)) rfl (by dsimp only [zS, zN, zH, zT]) ?_
  refine zst (op_move_tmp (by rfl)) rfl (by dsimp only [zS, zN, zH, zT]) ?_
  refine zst (op_indexAddr Try.underlying34 Sz9 (LL.d _ _) (by rfl) (by omega) (show (o.path.map S)[((k : Nat) : Int).toNat]? = some (S n0) by simp [hpk]) (by rfl)) rfl (by dsimp only [zS, zN, zH, zT]) ?_
  refine zst (by first | exact op_load_elt Try.underlying9 (by rfl) (by rfl) (by rfl) | exact op_load_ptr Try.underlying9 (by rfl) (by rfl) (by exact setB_at push_at) (by rfl)) rfl (by dsimp only [zS, zN, zH, zT]) ?_
  refine zst (op_assign_tmp (by rfl)) rfl (by dsimp only [zS, zN, zH, zT]) ?_
  refine al_end rfl ?_
  refine then_normal ?_
  refine aw_seq ?_
  refine aw_region ?_
  refine zst (op_assign_const (by rfl)) rfl (by dsimp only [zS, zN, zH, zT]) ?_
  refine al_end rfl ?_
  refine then_normal ?_
  refine aw_seq ?_
  refine aw_seq ?_
  refine aw_region ?_
  refine zst (by first | exact op_fieldAddr_ptr Try.underlying26 rfl Sz24 (by rfl) (by rfl) | exact op_fieldAddr_elt Try.underlying26 rfl Sz24 (by rfl) (by rfl) (by rfl)) rfl (by dsimp only [zS, zN, zH, zT]) ?_
  refine zst (by first | exact op_load_elt Try.underlying24 (by rfl) (by rfl) (by rfl) | exact op_load_ptr Try.underlying24 (by rfl) (by rfl) (by exact setB_at push_at) (by rfl)) rfl (by dsimp only [zS, zN, zH, zT]) ?_
  refine zst (op_lenL Try.underlying24 (by first | exact LL.d _ _ | exact LL.own _ _ _ | exact LL.nil _ | assumption)) rfl (by dsimp only [zS, zN, zH, zT]) ?_
  refine zst (op_move_const (by rfl)) rfl (by dsimp only [zS, zN, zH, zT]) ?_
  refine al_end rfl ?_
  refine then_normal ?_
  refine aw_block ?_
  apply aw_loopF (fun n T H => ∃ (j : Nat) (r : Int), T = (.un :: .un :: (.d (I k)) :: (.elt [I v.kind, TF v.yes, .v (.int .i64 v.num), S v.text, .lst 6 (v.list.map vD), .lst 7 (v.fields.map fD)]) :: (.elt [I o.kind, .lst 1 (o.path.map S), I o.val.kind, TF o.val.yes, .v (.int .i64 o.val.num), S o.val.text, .lst 6 (o.val.list.map vD), .lst 7 (o.val.fields.map fD)]) :: .un :: (.ptr Hs.nb 0) :: .un :: (.d (S n0)) :: (.d (I r)) :: .un :: .un :: .un :: .un :: .un :: .un :: .un :: .un :: .un :: .un :: .un :: .un :: .un :: .un :: .un :: .un :: .un :: (.d (.lst 7 (v.fields.map fD))) :: (.d (I (v.fields.map fD).length)) :: (.d (I j)) :: .un :: .un :: .un :: .un :: .un :: .un :: .un :: .un :: .un :: .un :: .un :: .un :: .un :: .un :: .un :: .un :: .un :: .un :: .un :: .un :: .un :: .un :: .un :: .un :: .un :: .un :: .un :: .un :: .un :: .un :: .un :: .un :: .un :: .un :: .un :: .un :: .un :: .un :: .un :: .un :: .un :: .un :: .un :: .un :: .un :: .un :: .un :: .un :: .un :: .un :: .un :: .un :: .un :: .un :: .un :: .un :: .un :: .un :: .un :: .un :: .un :: .un :: .un :: .un :: .un :: .un :: .un :: .un :: .un :: .un :: .un :: .un :: .un :: .un :: .un :: .un :: .un :: .un :: .un :: .un :: .un :: .un :: .un :: .un :: .un :: .un :: .un :: .un :: .un :: .un :: .un :: .un :: .un :: .un :: .un :: .un :: .un :: .un :: .un :: .un :: .un :: .un :: .un :: .un :: .un :: .un :: .un :: .un :: .un :: .un :: .un :: .un :: .un :: .un :: .un :: .un :: .un :: []) ∧ j ≤ v.fields.length ∧ n = v.fields.length - j ∧ PlR v.fields j n0 r ∧ H.blks[Hs.nb]? = some (vBlk 26 0 false 0 [] nilS nilS) ∧ Ext Hs H) (v.fields.length) (false :: false :: true :: true :: true :: false :: true :: false :: true :: true :: false :: false :: false :: false :: false :: false :: false :: false :: false :: false :: false :: false :: false :: false :: false :: false :: false :: true :: true :: true :: false :: false :: false :: false :: false :: false :: false :: false :: false :: false :: false :: false :: false :: false :: false :: false :: false :: false :: false :: false :: false :: false :: false :: false :: false :: false :: false :: false :: false :: false :: false :: false :: false :: false :: false :: false :: false :: false :: false :: false :: false :: false :: false :: false :: false :: false :: false :: false :: false :: false :: false :: false :: false :: false :: false :: false :: false :: false :: false :: false :: false :: false :: false :: false :: false :: false :: false :: false :: false :: false :: false :: false :: false :: false :: false :: false :: false :: false :: false :: false :: false :: false :: false :: false :: false :: false :: false :: false :: false :: false :: false :: false :: false :: false :: false :: false :: false :: false :: false :: false :: false :: false :: false :: false :: false :: false :: false :: false :: false :: false :: false :: false :: false :: false :: false :: false :: false :: [])
  · (try dsimp only [maskT]); try exact rfl
  · rfl
  · exact ⟨0, -1, rfl, by omega, rfl, PlR.start _ _, push_at, (Ext.refl Hs).push _ _⟩
  rintro n T H ⟨j, r, rfl, hj, rfl, hpr, e0, hx⟩
  refine aw_seq ?_
  refine aw_region ?_
  refine zst (op_ltI (by rfl) (by rfl)) rfl (by dsimp only [zS, zN, zH, zT]) ?_
  refine al_end rfl ?_
  refine then_normal ?_
  refine aw_seq ?_
  refine aw_cond rfl (fun hc2 => ?_) (fun hc2 => ?_)
  ·
   (try simp only [y1, y2, y3, y4, y5, y6, y7, y8, y9, y0, List.length_map] at hc2)
   (try simp only [List.length_map] at hc2)
   have hlt : j < v.fields.length := by omega
   obtain ⟨x, hx1⟩ : ∃ z0, v.fields[j]? = some z0 := ⟨_, List.getElem?_eq_getElem hlt⟩
   refine aw_skip ?_
   refine then_normal ?_
   refine aw_seq ?_
   refine aw_block ?_
   refine aw_seq ?_
   refine aw_region ?_
   refine zst (op_move_tmp (by rfl)) rfl (by dsimp only [zS, zN, zH, zT]) ?_
   refine zst (op_indexAddr (z := fD x) (cs := [S x.name, I x.val.kind, TF x.val.yes, .v (.int .i64 x.val.num), S x.val.text, .lst 6 (x.val.list.map vD), .lst 7 (x.val.fields.map fD)]) Try.underlying24 Sz48 (LL.d _ _) (by rfl) (by omega) (by rw [List.getElem?_map, show ((j : Nat) : Int).toNat = j from rfl, hx1]; rfl) (fD_cells7 x)) rfl (by dsimp only [zS, zN, zH, zT]) ?_
   refine zst (op_load_elts (ds := fC x) Try.underlying48 (by rfl) Sz48 (by rfl) (Nat.le_of_ble_eq_true rfl) (by rw [← fC7]; rfl)) rfl (by dsimp only [zS, zN, zH, zT]) ?_
   refine zst (op_alloc (Zr48) (by rfl)) rfl (by dsimp only [zS, zN, zH, zT]) ?_
   refine zst (op_assign_tmp (by rfl)) rfl (by dsimp only [zS, zN, zH, zT]) ?_
   refine zst (op_storeF (b' := f1 48 x) x Sz48 (by rfl) push_at (by rfl) (Nat.le_of_ble_eq_true rfl) (by rfl) (by unfold f1; rw [← fC7]; rfl)) rfl (by dsimp only [zS, zN, zH, zT]) ?_
   refine al_end rfl ?_
   refine then_normal ?_
   refine aw_seq ?_
   refine aw_region ?_
   refine zst (by first | exact op_fieldAddr_ptr Try.underlying48 rfl Sz9 (by rfl) (by rfl) | exact op_fieldAddr_elt Try.underlying48 rfl Sz9 (by rfl) (by rfl) (by rfl)) rfl (by dsimp only [zS, zN, zH, zT]) ?_
   refine zst (op_load_ptr Try.underlying9 (by rfl) (by rfl) (setB_at push_at) (f1_name x)) rfl (by dsimp only [zS, zN, zH, zT]) ?_
   refine zst (op_move_tmp (by rfl)) rfl (by dsimp only [zS, zN, zH, zT]) ?_
   refine zst (op_eqS (by rfl) (by rfl)) rfl (by dsimp only [zS, zN, zH, zT]) ?_
   refine al_end rfl ?_
   refine then_normal ?_
   refine aw_cond rfl (fun hc3 => ?_) (fun hc3 => ?_)
   ·
    (try simp only [y1, y2, y3, y4, y5, y6, y7, y8, y9, y0, List.length_map] at hc3)
    have hxn : x.name = n0 := hc3
    refine aw_region ?_
    refine zst (op_move_tmp (by rfl)) rfl (by dsimp only [zS, zN, zH, zT]) ?_
    refine zst (op_assign_tmp (by rfl)) rfl (by dsimp only [zS, zN, zH, zT]) ?_
    refine al_end rfl ?_
    refine inBlock_normal (then_normal ?_)
    refine aw_region ?_
    refine zst (by first | exact op_add (by rfl) (by rfl) (wrap_i64 ⟨by omega, by omega⟩) | exact op_add (by rfl) (by rfl) (by rfl)) rfl (by dsimp only [zS, zN, zH, zT]) ?_
    refine zst (op_move_tmp (by rfl)) rfl (by dsimp only [zS, zN, zH, zT]) ?_
    refine al_end rfl ?_
    apply again_to (v.fields.length - (j + 1)) (false :: false :: true :: true :: true :: false :: true :: false :: true :: true :: false :: false :: false :: false :: false :: false :: false :: false :: false :: false :: false :: false :: false :: false :: false :: false :: false :: true :: true :: true :: false :: false :: false :: false :: false :: false :: false :: false :: false :: false :: false :: false :: false :: false :: false :: false :: false :: false :: false :: false :: false :: false :: false :: false :: false :: false :: false :: false :: false :: false :: false :: false :: false :: false :: false :: false :: false :: false :: false :: false :: false :: false :: false :: false :: false :: false :: false :: false :: false :: false :: false :: false :: false :: false :: false :: false :: false :: false :: false :: false :: false :: false :: false :: false :: false :: false :: false :: false :: false :: false :: false :: false :: false :: false :: false :: false :: false :: false :: false :: false :: false :: false :: false :: false :: false :: false :: false :: false :: false :: false :: false :: false :: false :: false :: false :: false :: false :: false :: false :: false :: false :: false :: false :: false :: false :: false :: false :: false :: false :: false :: false :: false :: false :: false :: false :: false :: false :: [])
    · (try dsimp only [maskT]); try exact rfl
    · rfl
    · omega
    exact ⟨j + 1, _, rfl, by omega, rfl, PlR.hit hx1 hxn, (by rw [setB_ne (by have := lt_nb e0; omega)]; exact push_ne e0), (hx.push _ _).setB (nb_le hx)⟩
   ·
    (try simp only [y1, y2, y3, y4, y5, y6, y7, y8, y9, y0, List.length_map] at hc3)
    have hxn : ¬ x.name = n0 := hc3
    refine aw_skip ?_
    refine inBlock_normal (then_normal ?_)
    refine aw_region ?_
    refine zst (by first | exact op_add (by rfl) (by rfl) (wrap_i64 ⟨by omega, by omega⟩) | exact op_add (by rfl) (by rfl) (by rfl)) rfl (by dsimp only [zS, zN, zH, zT]) ?_
    refine zst (op_move_tmp (by rfl)) rfl (by dsimp only [zS, zN, zH, zT]) ?_
    refine al_end rfl ?_
    apply again_to (v.fields.length - (j + 1)) (false :: false :: true :: true :: true :: false :: true :: false :: true :: true :: false :: false :: false :: false :: false :: false :: false :: false :: false :: false :: false :: false :: false :: false :: false :: false :: false :: true :: true :: true :: false :: false :: false :: false :: false :: false :: false :: false :: false :: false :: false :: false :: false :: false :: false :: false :: false :: false :: false :: false :: false :: false :: false :: false :: false :: false :: false :: false :: false :: false :: false :: false :: false :: false :: false :: false :: false :: false :: false :: false :: false :: false :: false :: false :: false :: false :: false :: false :: false :: false :: false :: false :: false :: false :: false :: false :: false :: false :: false :: false :: false :: false :: false :: false :: false :: false :: false :: false :: false :: false :: false :: false :: false :: false :: false :: false :: false :: false :: false :: false :: false :: false :: false :: false :: false :: false :: false :: false :: false :: false :: false :: false :: false :: false :: false :: false :: false :: false :: false :: false :: false :: false :: false :: false :: false :: false :: false :: false :: false :: false :: false :: false :: false :: false :: false :: false :: false :: [])
    · (try dsimp only [maskT]); try exact rfl
    · rfl
    · omega
    exact ⟨j + 1, _, rfl, by omega, rfl, hpr.miss hx1 hxn, (by rw [setB_ne (by have := lt_nb e0; omega)]; exact push_ne e0), (hx.push _ _).setB (nb_le hx)⟩
  ·
   (try simp only [y1, y2, y3, y4, y5, y6, y7, y8, y9, y0, List.length_map] at hc2)
   (try simp only [List.length_map] at hc2)
   have hje : j = v.fields.length := by omega
   subst hje
   refine aw_exit ?_
   refine then_exit (again_exit (inBlock_here (then_normal ?_)))
   apply aw_cutF (fun T H => ∃ (id : Nat) (cap : Nat) (cs : List AV), T = (.un :: .un :: (.d (I k)) :: .un :: (.elt [I o.kind, .lst 1 (o.path.map S), I o.val.kind, TF o.val.yes, .v (.int .i64 o.val.num), S o.val.text, .lst 6 (o.val.list.map vD), .lst 7 (o.val.fields.map fD)]) :: .un :: (.ptr Hs.nb 0) :: .un :: (.d (S n0)) :: (.d (I r)) :: .un :: .un :: (.arr id v.fields.length cap) :: .un :: .un :: .un :: .un :: .un :: .un :: .un :: .un :: .un :: .un :: .un :: .un :: .un :: .un :: .un :: .un :: .un :: .un :: .un :: .un :: .un :: .un :: .un :: .un :: .un :: .un :: .un :: .un :: .un :: .un :: .un :: .un :: .un :: .un :: .un :: .un :: .un :: .un :: .un :: .un :: .un :: .un :: .un :: .un :: .un :: .un :: .un :: .un :: .un :: .un :: .un :: .un :: .un :: .un :: .un :: .un :: .un :: .un :: .un :: .un :: .un :: .un :: .un :: .un :: .un :: .un :: .un :: .un :: .un :: .un :: .un :: .un :: .un :: .un :: .un :: .un :: .un :: .un :: .un :: .un :: .un :: .un :: .un :: .un :: .un :: .un :: .un :: .un :: .un :: .un :: .un :: .un :: .un :: .un :: .un :: .un :: .un :: .un :: .un :: .un :: .un :: .un :: .un :: .un :: .un :: .un :: .un :: .un :: .un :: .un :: .un :: .un :: .un :: .un :: .un :: .un :: .un :: .un :: .un :: .un :: .un :: .un :: .un :: .un :: .un :: .un :: .un :: .un :: .un :: .un :: .un :: .un :: .un :: .un :: []) ∧ H.blks[id]? = some ⟨48, cs, false⟩ ∧ cs.length = cap * 7 ∧ v.fields.length ≤ cap ∧ cs.take (v.fields.length * 7) = fcells v.fields ∧ H.blks[Hs.nb]? = some (vBlk 26 0 false 0 [] nilS nilS) ∧ Ext Hs H ∧ Hs.nb < id)
   ·
    refine aw_region ?_
    refine zst (op_litArr Try.underlying24 ZS48 (.nil _) (by rfl) (by simp) (by decide)) rfl (by dsimp only [zS, zN, zH, zT]) ?_
    refine zst (by first | exact op_fieldAddr_ptr Try.underlying26 rfl Sz24 (by rfl) (by rfl) | exact op_fieldAddr_elt Try.underlying26 rfl Sz24 (by rfl) (by rfl) (by rfl)) rfl (by dsimp only [zS, zN, zH, zT]) ?_
    refine zst (by first | exact op_load_elt Try.underlying24 (by rfl) (by rfl) (by rfl) | exact op_load_ptr Try.underlying24 (by rfl) (by rfl) (by exact setB_at push_at) (by rfl)) rfl (by dsimp only [zS, zN, zH, zT]) ?_
    refine al_cons _ (op_copyF (fs := v.fields) Try.underlying24 Inf48 (by rfl) (by rfl) push_at (.list _ _ _ _ Try.underlying24 (LL.d _ _)) (by omega) (by omega)) rfl ?_
    rintro v2 H2 ⟨id, cap, cs, rfl, hb, hc, hcap, hu, hK, hid⟩
    apply al_normT
    · (try dsimp only [putT, List.set_cons_zero, List.set_cons_succ]); try exact rfl
    refine zst (op_assign_tmp (by rfl)) rfl (by dsimp only [zS, zN, zH, zT]) ?_
    refine al_end rfl ?_
    apply cut_to (false :: false :: true :: false :: true :: false :: true :: false :: true :: true :: false :: false :: true :: false :: false :: false :: false :: false :: false :: false :: false :: false :: false :: false :: false :: false :: false :: false :: false :: false :: false :: false :: false :: false :: false :: false :: false :: false :: false :: false :: false :: false :: false :: false :: false :: false :: false :: false :: false :: false :: false :: false :: false :: false :: false :: false :: false :: false :: false :: false :: false :: false :: false :: false :: false :: false :: false :: false :: false :: false :: false :: false :: false :: false :: false :: false :: false :: false :: false :: false :: false :: false :: false :: false :: false :: false :: false :: false :: false :: false :: false :: false :: false :: false :: false :: false :: false :: false :: false :: false :: false :: false :: false :: false :: false :: false :: false :: false :: false :: false :: false :: false :: false :: false :: false :: false :: false :: false :: false :: false :: false :: false :: false :: false :: false :: false :: false :: false :: false :: false :: false :: false :: false :: false :: false :: false :: false :: false :: false :: false :: false :: false :: false :: false :: false :: false :: false :: [])
    · (try dsimp only [maskT]); try exact rfl
    · rfl
    exact ⟨_, _, _, rfl, hb, hc, hcap, hu, by rw [hK.blks Hs.nb (by rw [push_nb]; have := lt_nb e0; omega) (fun m c h => by have := (AV.arr.inj h).1; have := lt_nb e0; omega)]; exact push_ne e0, ext_keptL (hx.push _ _) hK (fun i n c h => by rw [← (AV.arr.inj h).1]; exact nb_le hx), by have := lt_nb e0; rcases hid with h | h; omega; (rw [push_nb] at h; omega)⟩
   rintro T H ⟨id, cap, cs, rfl, hb, hc, hcap, hu, e0, hx, hlt⟩
   refine aw_seq ?_
   refine aw_seq ?_
   refine aw_region ?_
   refine zst (op_move_tmp (by rfl)) rfl (by dsimp only [zS, zN, zH, zT]) ?_
   refine zst (by first | exact op_fieldAddr_ptr Try.underlying36 rfl Sz34 (by rfl) (by rfl) | exact op_fieldAddr_elt Try.underlying36 rfl Sz34 (by rfl) (by rfl) (by rfl)) rfl (by dsimp only [zS, zN, zH, zT]) ?_
   refine zst (by first | exact op_load_elt Try.underlying34 (by rfl) (by rfl) (by rfl) | exact op_load_ptr Try.underlying34 (by rfl) (by rfl) (by exact setB_at push_at) (by rfl)) rfl (by dsimp only [zS, zN, zH, zT]) ?_
   refine zst (op_lenL Try.underlying34 (by first | exact LL.d _ _ | exact LL.own _ _ _ | exact LL.nil _ | assumption)) rfl (by dsimp only [zS, zN, zH, zT]) ?_
   refine zst (op_sub (by rfl) (by rfl) (show IntKind.i64.wrap (((o.path.map S).length : Int) - 1) = (o.path.length : Int) - 1 by rw [List.length_map, wrap_i64 ⟨by omega, by omega⟩])) rfl (by dsimp only [zS, zN, zH, zT]) ?_
   refine zst (op_ltI (by rfl) (by rfl)) rfl (by dsimp only [zS, zN, zH, zT]) ?_
   refine al_end rfl ?_
   refine then_normal ?_
   refine aw_cond rfl (fun hc4 => ?_) (fun hc4 => ?_)
   ·
    (try simp only [y1, y2, y3, y4, y5, y6, y7, y8, y9, y0, List.length_map] at hc4)
    obtain ⟨m, q, hpm⟩ := List.exists_cons_of_ne_nil (show p ≠ [] by intro e; rw [e] at hpl; simp at hpl hc4; omega)
    refine aw_seq ?_
    refine aw_seq ?_
    refine aw_region ?_
    refine zst (op_move_tmp (by rfl)) rfl (by dsimp only [zS, zN, zH, zT]) ?_
    refine zst (op_ltI (by rfl) (by rfl)) rfl (by dsimp only [zS, zN, zH, zT]) ?_
    refine al_end rfl ?_
    refine then_normal ?_
    refine aw_cond rfl (fun hc5 => ?_) (fun hc5 => ?_)
    ·
     (try simp only [y1, y2, y3, y4, y5, y6, y7, y8, y9, y0, List.length_map] at hc5)
     obtain ⟨hr1, hg⟩ : r = -1 ∧ getF v.fields n0 = none := by rcases hpr.end_ hr with h | ⟨i, x, h, _⟩; exact h; omega
     have hres : (atV o v (n0 :: p)) = (V0, 5) := by rw [hst, hg, hpm]; simp [stepO]
     refine aw_seq ?_
     refine aw_region ?_
     refine zst (op_zeroV (pl := [(0, 1), (1, 1), (2, 1), (3, 1), (4, 1), (5, 1)]) Try.underlying26 Zr26 (by kernel_rfl) (by rfl)) rfl (by dsimp only [zS, zN, zH, zT]) ?_
     refine zst (op_stV V0 Sz26 (by rfl) e0 (by first | exact VBl.z _ | exact VBl.v _ _) (by rfl)) rfl (by dsimp only [zS, zN, zH, zT]) ?_
     refine zst (op_assign_const (by rfl)) rfl (by dsimp only [zS, zN, zH, zT]) ?_
     refine al_end rfl ?_
     refine then_normal ?_
     refine aw_ret ?_
     refine then_ret (then_ret ?_)
     refine retC2 rfl (.cells Try.underlying26 (by rfl) Sz26 (by rfl) (setB_at e0) (by show 0 + 6 ≤ ((vC _).map AV.d).length; rw [List.length_map, vC_len]; exact Nat.le_refl _) (by rfl)) (.tmp (by rfl)) ?_
     rw [hres]
     exact ⟨hx.setB (Nat.le_refl _), _, rfl, .inl (weaks_take _)⟩
    ·
     (try simp only [y1, y2, y3, y4, y5, y6, y7, y8, y9, y0, List.length_map] at hc5)
     obtain ⟨i, x, rfl, hi, hxi, hxn, hg⟩ : ∃ (i : Nat) (x : F), r = (i : Int) ∧ i < v.fields.length ∧ v.fields[i]? = some x ∧ x.name = n0 ∧ getF v.fields n0 = some x.val := by rcases hpr.end_ hr with ⟨h, _⟩ | h; omega; exact h
     refine aw_skip ?_
     refine then_normal ?_
     refine aw_seq ?_
     refine aw_drawX (fun K => K.blks[id]? = some ⟨48, cs, false⟩) [0, 0, 0, 0, 0, 0, 0, 0, 0, 0, 0, 0, 2, 2, 0] mixed (by kernel_rfl) (hb) (.inr (by kernel_rfl)) ?_
     apply drun0X
     · intro H hPhi; exact op_move_tmp (by rfl)
     · rfl
     apply drun_normT
     · (try dsimp only [zS, zN, zH, zT]); try exact rfl
     apply drun0X
     · intro H hPhi; exact op_move_tmp (by rfl)
     · rfl
     apply drun_normT
     · (try dsimp only [zS, zN, zH, zT]); try exact rfl
     apply drun0X
     · intro H hPhi; exact op_indexArr (off := i * 7) Try.underlying24 Sz48 (by rfl) (by rfl) (by omega) (by omega) (by rfl)
     · rfl
     apply drun_normT
     · (try dsimp only [zS, zN, zH, zT]); try exact rfl
     apply drun0X
     · intro H hPhi; first | exact op_fieldAddr_ptr Try.underlying48 rfl Sz26 (by rfl) (by rfl) | exact op_fieldAddr_elt Try.underlying48 rfl Sz26 (by rfl) (by rfl) (by rfl)
     · rfl
     apply drun_normT
     · (try dsimp only [zS, zN, zH, zT]); try exact rfl
     apply drun0X
     · intro H hPhi; exact op_load_ptrsD (vC x.val) Try.underlying26 (by rfl) Sz26 (by rfl) hPhi (by show i * 7 + 1 + 6 ≤ cs.length; omega) (val_at hu hxi) (vC_one _)
     · rfl
     apply drun_normT
     · (try dsimp only [zS, zN, zH, zT]); try exact rfl
     apply drun0X
     · intro H hPhi; exact op_load_elts (ds := oC o) Try.underlying36 (by rfl) Sz36 (by rfl) (Nat.le_of_ble_eq_true rfl) (by rfl)
     · rfl
     apply drun_normT
     · (try dsimp only [zS, zN, zH, zT]); try exact rfl
     apply drun0X
     · intro H hPhi; exact op_move_tmp (by rfl)
     · rfl
     apply drun_normT
     · (try dsimp only [zS, zN, zH, zT]); try exact rfl
     apply drun0X
     · intro H hPhi; exact op_add (by rfl) (by rfl) (show IntKind.i64.wrap ((k : Int) + 1) = ((k + 1 : Nat) : Int) by rw [wrap_i64 ⟨by omega, by omega⟩]; omega)
     · rfl
     apply drun_normT
     · (try dsimp only [zS, zN, zH, zT]); try exact rfl
     apply drun0X
     · intro H hPhi; exact op_callF Try.func21 (by rfl) (by rfl) (.tmp (by rfl) (.tmp (by rfl) (.tmp (by rfl) .nil))) (ih x.val (by rw [hpm]; simp) hg _)
     · rfl
     apply drun_normT
     · (try dsimp only [zS, zN, zH, zT]); try exact rfl
     apply drun0X
     · intro H hPhi; exact op_move_tmp (by rfl)
     · rfl
     apply drun_normT
     · (try dsimp only [zS, zN, zH, zT]); try exact rfl
     apply drun0X
     · intro H hPhi; exact op_extract (by rfl) (by rfl)
     · rfl
     apply drun_normT
     · (try dsimp only [zS, zN, zH, zT]); try exact rfl
     apply drun0X
     · intro H hPhi; exact op_extract (by rfl) (by rfl)
     · rfl
     apply drun_normT
     · (try dsimp only [zS, zN, zH, zT]); try exact rfl
     apply drun2X
     · exact op_alloc (Zr26) (by rfl)
     · rfl
     · refine .inr ?_; first | exact push_ne hb | rw [setB_ne (by have := lt_nb hb; omega)]; exact push_ne hb
     apply drun_normT
     · (try dsimp only [zS, zN, zH, zT]); try exact rfl
     apply drun2X
     · exact op_stV (atV o x.val p).1 Sz26 (by rfl) push_at (by first | exact VBl.z _ | exact VBl.v _ _) (by rfl)
     · rfl
     · refine .inr ?_; first | exact push_ne hb | rw [setB_ne (by have := lt_nb hb; omega)]; exact push_ne hb
     apply drun_normT
     · (try dsimp only [zS, zN, zH, zT]); try exact rfl
     apply drun0X
     · intro H hPhi; exact op_assign_tmp (by rfl)
     · rfl
     apply drun_normT
     · (try dsimp only [zS, zN, zH, zT]); try exact rfl
     refine drun_end rfl ?_
     refine then_normal ?_
     refine aw_seq ?_
     refine aw_seq ?_
     refine aw_region ?_
     refine zst (op_move_tmp (by rfl)) rfl (by dsimp only [zS, zN, zH, zT]) ?_
     refine zst (op_neI (by rfl) (by rfl)) rfl (by dsimp only [zS, zN, zH, zT]) ?_
     refine al_end rfl ?_
     refine then_normal ?_
     refine aw_cond rfl (fun hc6 => ?_) (fun hc6 => ?_)
     ·
      (try simp only [y1, y2, y3, y4, y5, y6, y7, y8, y9, y0, List.length_map] at hc6)
      have he : (atV o x.val p).2 ≠ 0 := hc6
      have hres : (atV o v (n0 :: p)) = (V0, (atV o x.val p).2) := by rw [hst, hg, hpm] at *; simp [stepO, he]
      refine aw_seq ?_
      refine aw_region ?_
      refine zst (op_zeroV (pl := [(0, 1), (1, 1), (2, 1), (3, 1), (4, 1), (5, 1)]) Try.underlying26 Zr26 (by kernel_rfl) (by rfl)) rfl (by dsimp only [zS, zN, zH, zT]) ?_
      refine zst (op_move_tmp (by rfl)) rfl (by dsimp only [zS, zN, zH, zT]) ?_
      refine zst (op_stV V0 Sz26 (by rfl) (by rw [setB_ne (by have := lt_nb e0; omega)]; exact push_ne e0) (by first | exact VBl.z _ | exact VBl.v _ _) (by rfl)) rfl (by dsimp only [zS, zN, zH, zT]) ?_
      refine zst (op_assign_tmp (by rfl)) rfl (by dsimp only [zS, zN, zH, zT]) ?_
      refine al_end rfl ?_
      refine then_normal ?_
      refine aw_ret ?_
      refine then_ret (then_ret ?_)
      refine retC2 rfl (.cells Try.underlying26 (by rfl) Sz26 (by rfl) (setB_at (by rw [setB_ne (by have := lt_nb e0; omega)]; exact push_ne e0)) (by show 0 + 6 ≤ ((vC _).map AV.d).length; rw [List.length_map, vC_len]; exact Nat.le_refl _) (by rfl)) (.tmp (by rfl)) ?_
      rw [hres]
      exact ⟨(((hx.push _ _).setB (nb_le hx)).setB (Nat.le_refl _)), _, rfl, .inl (weaks_take _)⟩
     ·
      (try simp only [y1, y2, y3, y4, y5, y6, y7, y8, y9, y0, List.length_map] at hc6)
      have he : (atV o x.val p).2 = 0 := by simpa using hc6
      have hres : (atV o v (n0 :: p)) = (M (v.fields.set i (.mk n0 (atV o x.val p).1)), 0) := by rw [hst, hg, ← hxn, ← put_set _ hr hxi, hxn, hpm]; rw [hpm] at he; simp [stepO, he, updF]
      refine aw_skip ?_
      refine then_normal ?_
      refine aw_seq ?_
      refine aw_region ?_
      refine zst (op_move_tmp (by rfl)) rfl (by dsimp only [zS, zN, zH, zT]) ?_
      refine zst (op_move_tmp (by rfl)) rfl (by dsimp only [zS, zN, zH, zT]) ?_
      refine zst (op_ldV (atV o x.val p).1 Try.underlying26 (by rfl) Sz26 (by rfl) (setB_at push_at) (by first | exact VBl.v _ _ | exact VBl.z _)) rfl (by dsimp only [zS, zN, zH, zT]) ?_
      refine zst (op_indexArr (off := i * 7) Try.underlying24 Sz48 (by rfl) (by rfl) (by omega) (by omega) (by rfl)) rfl (by dsimp only [zS, zN, zH, zT]) ?_
      refine zst (by first | exact op_fieldAddr_ptr Try.underlying48 rfl Sz26 (by rfl) (by rfl) | exact op_fieldAddr_elt Try.underlying48 rfl Sz26 (by rfl) (by rfl) (by rfl)) rfl (by dsimp only [zS, zN, zH, zT]) ?_
      refine zst (op_storeV (b' := ⟨48, putL cs (i * 7 + 1) ((vC (atV o x.val p).1).map .d), false⟩) (atV o x.val p).1 Sz26 (by rfl) (by rw [setB_ne (by have := lt_nb hb; omega)]; exact push_ne hb) (by rfl) (by show i * 7 + 1 + 6 ≤ cs.length; omega) (by rfl) (by rfl)) rfl (by dsimp only [zS, zN, zH, zT]) ?_
      refine al_end rfl ?_
      refine then_normal ?_
      refine aw_seq ?_
      refine aw_region ?_
      refine zst (op_move_tmp (by rfl)) rfl (by dsimp only [zS, zN, zH, zT]) ?_
      refine zst (op_build (pl := [(0, 1), (1, 1), (2, 1), (3, 1), (4, 1), (5, 1)]) Try.underlying26 Zr26 (by kernel_rfl) (by rfl) (by rfl) (by rfl)) rfl (by dsimp only [zS, zN, zH, zT]) ?_
      refine zst (op_storeB (vs := (vs6 5 false 0 [] nilS (.arr id v.fields.length cap))) (b' := vBlk 26 5 false 0 [] nilS (.arr id v.fields.length cap)) (H' := _) Sz26 (by rfl) (by rw [setB_ne (by omega), setB_ne (by have := lt_nb e0; omega)]; exact push_ne e0) (by intro h; cases h) (by rfl) (by rfl) (Nat.le_of_ble_eq_true rfl) (by simp [AV.one, DV.one, TF, S, I, BY]) (by rfl) (by rfl) rfl) rfl (by dsimp only [zS, zN, zH, zT]) ?_
      refine zst (op_assign_const (by rfl)) rfl (by dsimp only [zS, zN, zH, zT]) ?_
      refine al_end rfl ?_
      refine then_normal ?_
      refine aw_ret ?_
      refine then_ret ?_
      refine retC2 rfl (.cells Try.underlying26 (by rfl) Sz26 (by rfl) (setB_at (by rw [setB_ne (by omega), setB_ne (by have := lt_nb e0; omega)]; exact push_ne e0)) (Nat.le_of_ble_eq_true rfl) (by rfl)) (.tmp (by rfl)) ?_
      rw [hres]
      exact ⟨((((hx.push _ _).setB (nb_le hx)).setB (by omega)).setB (Nat.le_refl _)), _, rfl, .inr (setR (by omega) (by rw [setB_ne (by omega)]; exact setB_at (by rw [setB_ne (by have := lt_nb hb; omega)]; exact push_ne hb)) hc hcap hu hxi hxn)⟩
   ·
    (try simp only [y1, y2, y3, y4, y5, y6, y7, y8, y9, y0, List.length_map] at hc4)
    have hp0 : p = [] := List.eq_nil_of_length_eq_zero (by (try simp only [List.length_map] at hc4); omega)
    refine aw_skip ?_
    refine then_normal ?_
    refine aw_seq ?_
    refine aw_seq ?_
    refine aw_region ?_
    refine zst (by first | exact op_fieldAddr_ptr Try.underlying36 rfl Sz33 (by rfl) (by rfl) | exact op_fieldAddr_elt Try.underlying36 rfl Sz33 (by rfl) (by rfl) (by rfl)) rfl (by dsimp only [zS, zN, zH, zT]) ?_
    refine zst (by first | exact op_load_elt Try.underlying33 (by rfl) (by rfl) (by rfl) | exact op_load_ptr Try.underlying33 (by rfl) (by rfl) (by exact setB_at push_at) (by rfl)) rfl (by dsimp only [zS, zN, zH, zT]) ?_
    refine zst (op_eqI (by rfl) (by rfl)) rfl (by dsimp only [zS, zN, zH, zT]) ?_
    refine al_end rfl ?_
    refine then_normal ?_
    refine aw_cond rfl (fun hc7 => ?_) (fun hc7 => ?_)
    ·
     (try simp only [y1, y2, y3, y4, y5, y6, y7, y8, y9, y0, List.length_map] at hc7)
     have h1 : o.kind = 1 := hc7
     have hres : (atV o v (n0 :: p)) = (ofMapV (v.fields ++ [F.mk n0 o.val]), 0) := by rw [hst, hp0]; have e := ofMap_rise hr n0 o.val; rw [withV, if_pos (show (M v.fields).kind = 5 from rfl)] at e; rw [show (M v.fields).fields = v.fields from rfl] at e; rw [e]; cases getF v.fields n0 <;> simp [stepO, h1, updF]
     refine aw_seq ?_
     refine aw_region ?_
     refine zst (op_move_tmp (by rfl)) rfl (by dsimp only [zS, zN, zH, zT]) ?_
     refine zst (op_move_tmp (by rfl)) rfl (by dsimp only [zS, zN, zH, zT]) ?_
     refine zst (by first | exact op_fieldAddr_ptr Try.underlying36 rfl Sz26 (by rfl) (by rfl) | exact op_fieldAddr_elt Try.underlying36 rfl Sz26 (by rfl) (by rfl) (by rfl)) rfl (by dsimp only [zS, zN, zH, zT]) ?_
     refine zst (op_load_elts (ds := vC o.val) Try.underlying26 (by rfl) Sz26 (by rfl) (Nat.le_of_ble_eq_true rfl) (by rw [vC_eq]; rfl)) rfl (by dsimp only [zS, zN, zH, zT]) ?_
     refine zst (op_buildD (pl := [(0, 1), (1, 6)]) (fC (F.mk n0 o.val)) Try.underlying48 Zr48 (by kernel_rfl) (by rfl) (by rfl) (fill_field n0 o.val) (fC_one _)) rfl (by dsimp only [zS, zN, zH, zT]) ?_
     refine zst (op_lit Try.underlying24 ZS48 (.cons (y := fD (F.mk n0 o.val)) (by rfl) (.nil _)) (by rfl) (lit_f _) (lit_f1 _) (by decide)) rfl (by dsimp only [zS, zN, zH, zT]) ?_
     refine al_cons _ (op_moreF (F.mk n0 o.val) Try.underlying24 Inf48 (by rfl) (by rfl) hb hc hcap hu (.list _ _ _ _ Try.underlying24 (LL.own _ _ _)) (by omega) (by omega)) rfl ?_
     rintro v2 H2 ⟨id2, cap2, cs2, rfl, hb2, hc2, hcap2, hu2, hK, hid2⟩
     have e1 : H2.blks[Hs.nb]? = some (vBlk 26 0 false 0 [] nilS nilS) := by rw [hK.blks Hs.nb (lt_nb e0) (fun m c h => by cases h; omega)]; exact e0
     have hx2 : Ext Hs H2 := ext_keptL hx hK (fun i n c h => by cases h; omega)
     apply al_normT
     · (try dsimp only [putT, List.set_cons_zero, List.set_cons_succ]); try exact rfl
     refine zst (op_callF Try.func18 (by rfl) (by rfl) (.tmp (by rfl) .nil) (ofMap_arr _ id2 cap2 cs2 (v.fields ++ [F.mk n0 o.val]) hb2 hc2 hcap2 hu2 (by simp; omega))) rfl (by dsimp only [zS, zN, zH, zT]) ?_
     refine zst (op_stV (ofMapV (v.fields ++ [F.mk n0 o.val])) Sz26 (by rfl) e1 (by first | exact VBl.z _ | exact VBl.v _ _) (by rfl)) rfl (by dsimp only [zS, zN, zH, zT]) ?_
     refine zst (op_assign_const (by rfl)) rfl (by dsimp only [zS, zN, zH, zT]) ?_
     refine al_end rfl ?_
     refine then_normal ?_
     refine aw_ret ?_
     refine then_ret ?_
     refine retC2 rfl (.cells Try.underlying26 (by rfl) Sz26 (by rfl) (setB_at e1) (by show 0 + 6 ≤ ((vC _).map AV.d).length; rw [List.length_map, vC_len]; exact Nat.le_refl _) (by rfl)) (.tmp (by rfl)) ?_
     rw [hres]
     exact ⟨hx2.setB (Nat.le_refl _), _, rfl, .inl (weaks_take _)⟩
    ·
     (try simp only [y1, y2, y3, y4, y5, y6, y7, y8, y9, y0, List.length_map] at hc7)
     have h1 : ¬ o.kind = 1 := hc7
     refine aw_skip ?_
     refine then_normal ?_
     refine aw_seq ?_
     refine aw_seq ?_
     refine aw_region ?_
     refine zst (op_move_tmp (by rfl)) rfl (by dsimp only [zS, zN, zH, zT]) ?_
     refine zst (op_ltI (by rfl) (by rfl)) rfl (by dsimp only [zS, zN, zH, zT]) ?_
     refine al_end rfl ?_
     refine then_normal ?_
     refine aw_cond rfl (fun hc8 => ?_) (fun hc8 => ?_)
     ·
      (try simp only [y1, y2, y3, y4, y5, y6, y7, y8, y9, y0, List.length_map] at hc8)
      obtain ⟨hr1, hg⟩ : r = -1 ∧ getF v.fields n0 = none := by rcases hpr.end_ hr with h | ⟨i, x, h, _⟩; exact h; omega
      have hres : (atV o v (n0 :: p)) = (V0, 5) := by rw [hst, hg, hp0]; simp [stepO, h1]
      refine aw_seq ?_
      refine aw_region ?_
      refine zst (op_zeroV (pl := [(0, 1), (1, 1), (2, 1), (3, 1), (4, 1), (5, 1)]) Try.underlying26 Zr26 (by kernel_rfl) (by rfl)) rfl (by dsimp only [zS, zN, zH, zT]) ?_
      refine zst (op_stV V0 Sz26 (by rfl) e0 (by first | exact VBl.z _ | exact VBl.v _ _) (by rfl)) rfl (by dsimp only [zS, zN, zH, zT]) ?_
      refine zst (op_assign_const (by rfl)) rfl (by dsimp only [zS, zN, zH, zT]) ?_
      refine al_end rfl ?_
      refine then_normal ?_
      refine aw_ret ?_
      refine then_ret ?_
      refine retC2 rfl (.cells Try.underlying26 (by rfl) Sz26 (by rfl) (setB_at e0) (by show 0 + 6 ≤ ((vC _).map AV.d).length; rw [List.length_map, vC_len]; exact Nat.le_refl _) (by rfl)) (.tmp (by rfl)) ?_
      rw [hres]
      exact ⟨hx.setB (Nat.le_refl _), _, rfl, .inl (weaks_take _)⟩
     ·
      (try simp only [y1, y2, y3, y4, y5, y6, y7, y8, y9, y0, List.length_map] at hc8)
      obtain ⟨i, x, rfl, hi, hxi, hxn, hg⟩ : ∃ (i : Nat) (x : F), r = (i : Int) ∧ i < v.fields.length ∧ v.fields[i]? = some x ∧ x.name = n0 ∧ getF v.fields n0 = some x.val := by rcases hpr.end_ hr with ⟨h, _⟩ | h; omega; exact h
      refine aw_skip ?_
      refine then_normal ?_
      refine aw_seq ?_
      refine aw_seq ?_
      refine aw_region ?_
      refine zst (by first | exact op_fieldAddr_ptr Try.underlying36 rfl Sz33 (by rfl) (by rfl) | exact op_fieldAddr_elt Try.underlying36 rfl Sz33 (by rfl) (by rfl) (by rfl)) rfl (by dsimp only [zS, zN, zH, zT]) ?_
      refine zst (by first | exact op_load_elt Try.underlying33 (by rfl) (by rfl) (by rfl) | exact op_load_ptr Try.underlying33 (by rfl) (by rfl) (by exact setB_at push_at) (by rfl)) rfl (by dsimp only [zS, zN, zH, zT]) ?_
      refine zst (op_eqI (by rfl) (by rfl)) rfl (by dsimp only [zS, zN, zH, zT]) ?_
      refine al_end rfl ?_
      refine then_normal ?_
      refine aw_cond rfl (fun hc9 => ?_) (fun hc9 => ?_)
      ·
       (try simp only [y1, y2, y3, y4, y5, y6, y7, y8, y9, y0, List.length_map] at hc9)
       have h2 : o.kind = 2 := hc9
       have hres : (atV o v (n0 :: p)) = (M (v.fields.take i ++ v.fields.drop (i + 1)), 0) := by rw [hst, hg, hp0, ← del_cut hr hxi, hxn]; simp [stepO, h2, updF]
       refine aw_seq ?_
       rcases Nat.lt_or_ge (i + 1) v.fields.length with hil | hil
       ·
        refine aw_draw [0, 0, 0, 0, 0, 0, 0, 2, 0, 2, 0] mixed (by kernel_rfl) ?_
        refine zd0 (fun H => (op_move_tmp (by rfl))) rfl (by dsimp only [zS, zN, zH, zT]) ?_
        refine zd0 (fun H => (op_move_tmp (by rfl))) rfl (by dsimp only [zS, zN, zH, zT]) ?_
        refine zd0 (fun H => (op_sliceArr0 Try.underlying24 Sz48 (by rfl) (by rfl) (by omega) (by omega) (by rfl))) rfl (by dsimp only [zS, zN, zH, zT]) ?_
        refine zd0 (fun H => (op_move_tmp (by rfl))) rfl (by dsimp only [zS, zN, zH, zT]) ?_
        refine zd0 (fun H => (op_move_tmp (by rfl))) rfl (by dsimp only [zS, zN, zH, zT]) ?_
        refine zd0 (fun H => (op_add (by rfl) (by rfl) (show IntKind.i64.wrap ((i : Int) + 1) = ((i + 1 : Nat) : Int) by rw [wrap_i64 ⟨by omega, by omega⟩]; omega))) rfl (by dsimp only [zS, zN, zH, zT]) ?_
        refine zd0 (fun H => (by first | exact op_sliceEnd Try.underlying24 Sz48 (by rfl) (by rfl) (by omega) (by omega) hcap | exact op_sliceArr1 (m := i + 1) (off := (i + 1) * 7) (n' := v.fields.length - (i + 1)) (cap' := cap - (i + 1)) Try.underlying24 Sz48 (by rfl) (by rfl) (by omega) (by omega) (by omega) (by omega) (by rfl) (by omega) (by rfl))) rfl (by dsimp only [zS, zN, zH, zT]) ?_
        refine zd2 (by first | exact op_append0A Try.underlying24 Inf48 (by rfl) (by omega) (.list _ _ _ _ Try.underlying24 (LL.d _ _)) | exact op_append_in (vs := (cs.drop ((i + 1) * 7)).take ((v.fields.length - (i + 1)) * 7)) Try.underlying24 Try.underlying24 Inf48 (by rfl) (by rfl) hb (by rfl) (by rfl) hb (by rfl) (by rw [List.length_take, List.length_drop]; omega) (by omega) hc (by intro w hw; have h := List.mem_of_mem_take hw; rw [show (cs.drop ((i + 1) * 7)).take ((v.fields.length - (i + 1)) * 7) = (fcells v.fields).drop ((i + 1) * 7) by rw [← hu, List.drop_take, Nat.sub_mul]] at hw; exact fcells_one v.fields w (List.mem_of_mem_drop hw))) rfl (by dsimp only [zS, zN, zH, zT]) ?_
        refine zd0 (fun H => (op_build (pl := [(0, 1), (1, 1), (2, 1), (3, 1), (4, 1), (5, 1)]) Try.underlying26 Zr26 (by kernel_rfl) (by rfl) (by rfl) (by rfl))) rfl (by dsimp only [zS, zN, zH, zT]) ?_
        refine zd2 (by first | exact op_storeB (vs := (vs6 5 false 0 [] nilS (.arr id i cap))) (b' := vBlk 26 5 false 0 [] nilS (.arr id i cap)) (H' := _) Sz26 (by rfl) e0 (by intro h; cases h) (by rfl) (by rfl) (Nat.le_of_ble_eq_true rfl) (by simp [AV.one, DV.one, TF, S, I, BY]) (by rfl) (by rfl) rfl | exact op_storeB (vs := (vs6 5 false 0 [] nilS (.arr id (i + (v.fields.length - (i + 1))) cap))) (b' := vBlk 26 5 false 0 [] nilS (.arr id (i + (v.fields.length - (i + 1))) cap)) (H' := _) Sz26 (by rfl) (by rw [put_blks_ne (by have h : Hs.nb < id := hlt; simp only [HS.nb] at h ⊢; omega)]; exact e0) (by intro h; cases h) (by rfl) (by rfl) (Nat.le_of_ble_eq_true rfl) (by simp [AV.one, DV.one, TF, S, I, BY]) (by rfl) (by rfl) rfl) rfl (by dsimp only [zS, zN, zH, zT]) ?_
        refine zd0 (fun H => (op_assign_const (by rfl))) rfl (by dsimp only [zS, zN, zH, zT]) ?_
        refine drun_end rfl ?_
        refine then_normal ?_
        refine aw_ret ?_
        refine then_ret ?_
        refine retC2 rfl (.cells Try.underlying26 (by rfl) Sz26 (by rfl) (setB_at (by first | exact e0 | (rw [put_blks_ne (by omega)]; exact e0))) (Nat.le_of_ble_eq_true rfl) (by rfl)) (.tmp (by rfl)) ?_
        rw [hres]
        first | exact ⟨hx.setB (Nat.le_refl _), _, rfl, .inr (dropR (by omega) (by rw [setB_ne (by omega)]; exact hb) hc hcap hu hi (by omega))⟩ | exact ⟨(hx.put (Nat.le_of_lt hlt) _ _).setB (Nat.le_refl _), _, rfl, .inr (cutR (by omega) (by rw [setB_ne (by omega)]; exact put_blks_at hb) hc hcap hu hi)⟩
       ·
        refine aw_draw [0, 0, 0, 0, 0, 0, 0, 2, 0, 2, 0] mixed (by kernel_rfl) ?_
        refine zd0 (fun H => (op_move_tmp (by rfl))) rfl (by dsimp only [zS, zN, zH, zT]) ?_
        refine zd0 (fun H => (op_move_tmp (by rfl))) rfl (by dsimp only [zS, zN, zH, zT]) ?_
        refine zd0 (fun H => (op_sliceArr0 Try.underlying24 Sz48 (by rfl) (by rfl) (by omega) (by omega) (by rfl))) rfl (by dsimp only [zS, zN, zH, zT]) ?_
        refine zd0 (fun H => (op_move_tmp (by rfl))) rfl (by dsimp only [zS, zN, zH, zT]) ?_
        refine zd0 (fun H => (op_move_tmp (by rfl))) rfl (by dsimp only [zS, zN, zH, zT]) ?_
        refine zd0 (fun H => (op_add (by rfl) (by rfl) (show IntKind.i64.wrap ((i : Int) + 1) = ((i + 1 : Nat) : Int) by rw [wrap_i64 ⟨by omega, by omega⟩]; omega))) rfl (by dsimp only [zS, zN, zH, zT]) ?_
        refine zd0 (fun H => (by first | exact op_sliceEnd Try.underlying24 Sz48 (by rfl) (by rfl) (by omega) (by omega) hcap | exact op_sliceArr1 (m := i + 1) (off := (i + 1) * 7) (n' := v.fields.length - (i + 1)) (cap' := cap - (i + 1)) Try.underlying24 Sz48 (by rfl) (by rfl) (by omega) (by omega) (by omega) (by omega) (by rfl) (by omega) (by rfl))) rfl (by dsimp only [zS, zN, zH, zT]) ?_
        refine zd2 (by first | exact op_append0A Try.underlying24 Inf48 (by rfl) (by omega) (.list _ _ _ _ Try.underlying24 (LL.d _ _)) | exact op_append_in (vs := (cs.drop ((i + 1) * 7)).take ((v.fields.length - (i + 1)) * 7)) Try.underlying24 Try.underlying24 Inf48 (by rfl) (by rfl) hb (by rfl) (by rfl) hb (by rfl) (by rw [List.length_take, List.length_drop]; omega) (by omega) hc (by intro w hw; have h := List.mem_of_mem_take hw; rw [show (cs.drop ((i + 1) * 7)).take ((v.fields.length - (i + 1)) * 7) = (fcells v.fields).drop ((i + 1) * 7) by rw [← hu, List.drop_take, Nat.sub_mul]] at hw; exact fcells_one v.fields w (List.mem_of_mem_drop hw))) rfl (by dsimp only [zS, zN, zH, zT]) ?_
        refine zd0 (fun H => (op_build (pl := [(0, 1), (1, 1), (2, 1), (3, 1), (4, 1), (5, 1)]) Try.underlying26 Zr26 (by kernel_rfl) (by rfl) (by rfl) (by rfl))) rfl (by dsimp only [zS, zN, zH, zT]) ?_
        refine zd2 (by first | exact op_storeB (vs := (vs6 5 false 0 [] nilS (.arr id i cap))) (b' := vBlk 26 5 false 0 [] nilS (.arr id i cap)) (H' := _) Sz26 (by rfl) e0 (by intro h; cases h) (by rfl) (by rfl) (Nat.le_of_ble_eq_true rfl) (by simp [AV.one, DV.one, TF, S, I, BY]) (by rfl) (by rfl) rfl | exact op_storeB (vs := (vs6 5 false 0 [] nilS (.arr id (i + (v.fields.length - (i + 1))) cap))) (b' := vBlk 26 5 false 0 [] nilS (.arr id (i + (v.fields.length - (i + 1))) cap)) (H' := _) Sz26 (by rfl) (by rw [put_blks_ne (by have h : Hs.nb < id := hlt; simp only [HS.nb] at h ⊢; omega)]; exact e0) (by intro h; cases h) (by rfl) (by rfl) (Nat.le_of_ble_eq_true rfl) (by simp [AV.one, DV.one, TF, S, I, BY]) (by rfl) (by rfl) rfl) rfl (by dsimp only [zS, zN, zH, zT]) ?_
        refine zd0 (fun H => (op_assign_const (by rfl))) rfl (by dsimp only [zS, zN, zH, zT]) ?_
        refine drun_end rfl ?_
        refine then_normal ?_
        refine aw_ret ?_
        refine then_ret ?_
        refine retC2 rfl (.cells Try.underlying26 (by rfl) Sz26 (by rfl) (setB_at (by first | exact e0 | (rw [put_blks_ne (by omega)]; exact e0))) (Nat.le_of_ble_eq_true rfl) (by rfl)) (.tmp (by rfl)) ?_
        rw [hres]
        first | exact ⟨hx.setB (Nat.le_refl _), _, rfl, .inr (dropR (by omega) (by rw [setB_ne (by omega)]; exact hb) hc hcap hu hi (by omega))⟩ | exact ⟨(hx.put (Nat.le_of_lt hlt) _ _).setB (Nat.le_refl _), _, rfl, .inr (cutR (by omega) (by rw [setB_ne (by omega)]; exact put_blks_at hb) hc hcap hu hi)⟩
      ·
       (try simp only [y1, y2, y3, y4, y5, y6, y7, y8, y9, y0, List.length_map] at hc9)
       have h2 : ¬ o.kind = 2 := hc9
       have ha64 := (wv.f x (List.mem_of_getElem? hxi)).n
       have hov := add_over ha64 wo.n
       have hfi := add_fine ha64 wo.n
       unfold i64 at ha64 hfi
       refine aw_skip ?_
       refine then_normal ?_
       refine aw_seq ?_
       refine aw_region ?_
       refine zst (op_move_tmp (by rfl)) rfl (by dsimp only [zS, zN, zH, zT]) ?_
       refine zst (op_move_tmp (by rfl)) rfl (by dsimp only [zS, zN, zH, zT]) ?_
       refine zst (op_indexArr (off := i * 7) Try.underlying24 Sz48 (by rfl) (by rfl) (by omega) (by omega) (by rfl)) rfl (by dsimp only [zS, zN, zH, zT]) ?_
       refine zst (by first | exact op_fieldAddr_ptr Try.underlying48 rfl Sz26 (by rfl) (by rfl) | exact op_fieldAddr_elt Try.underlying48 rfl Sz26 (by rfl) (by rfl) (by rfl)) rfl (by dsimp only [zS, zN, zH, zT]) ?_
       refine zst (op_load_ptrsD (vC x.val) Try.underlying26 (by rfl) Sz26 (by rfl) hb (by show i * 7 + 1 + 6 ≤ cs.length; omega) (val_at hu hxi) (vC_one _)) rfl (by dsimp only [zS, zN, zH, zT]) ?_
       refine zst (op_alloc (Zr26) (by rfl)) rfl (by dsimp only [zS, zN, zH, zT]) ?_
       refine zst (op_stV x.val Sz26 (by rfl) push_at (by first | exact VBl.z _ | exact VBl.v _ _) (by rfl)) rfl (by dsimp only [zS, zN, zH, zT]) ?_
       refine al_end rfl ?_
       refine then_normal ?_
       refine aw_seq ?_
       refine aw_region ?_
       refine zst (by first | exact op_fieldAddr_ptr Try.underlying36 rfl Sz26 (by rfl) (by rfl) | exact op_fieldAddr_elt Try.underlying36 rfl Sz26 (by rfl) (by rfl) (by rfl)) rfl (by dsimp only [zS, zN, zH, zT]) ?_
       refine zst (by first | exact op_fieldAddr_ptr Try.underlying26 rfl Sz2 (by rfl) (by rfl) | exact op_fieldAddr_elt Try.underlying26 rfl Sz2 (by rfl) (by rfl) (by rfl)) rfl (by dsimp only [zS, zN, zH, zT]) ?_
       refine zst (by first | exact op_load_elt Try.underlying2 (by rfl) (by rfl) (by rfl) | exact op_load_ptr Try.underlying2 (by rfl) (by rfl) (by exact setB_at push_at) (by rfl)) rfl (by dsimp only [zS, zN, zH, zT]) ?_
       refine zst (op_assign_tmp (by rfl)) rfl (by dsimp only [zS, zN, zH, zT]) ?_
       refine al_end rfl ?_
       refine then_normal ?_
       refine aw_seq ?_
       refine aw_seq ?_
       refine aw_region ?_
       refine zst (by first | exact op_fieldAddr_ptr Try.underlying26 rfl Sz22 (by rfl) (by rfl) | exact op_fieldAddr_elt Try.underlying26 rfl Sz22 (by rfl) (by rfl) (by rfl)) rfl (by dsimp only [zS, zN, zH, zT]) ?_
       refine zst (op_ldV1 Try.underlying22 (by rfl) (by rfl) (setB_at push_at) (VBl.v _ _) (by rfl)) rfl (by dsimp only [zS, zN, zH, zT]) ?_
       refine zst (op_neI (by rfl) (by rfl)) rfl (by dsimp only [zS, zN, zH, zT]) ?_
       refine zst (op_move_tmp (by rfl)) rfl (by dsimp only [zS, zN, zH, zT]) ?_
       refine al_split 113 rfl (fun hg10 => ?_) (fun hg10 => ?_)
       ·
        (try simp only [y1, y2, y3, y4, y5, y6, y7, y8, y9, y0, List.length_map] at hg10)
        have hk2 : ¬ x.val.kind = 2 := hg10
        apply al_normT
        · (try dsimp only [zS, zN, zH, zT]); try exact rfl
        refine zuw rfl rfl rfl rfl (by dsimp only [zS, zN, zH, zT]) ?_
        refine zuw rfl rfl rfl rfl (by dsimp only [zS, zN, zH, zT]) ?_
        refine zuw rfl rfl rfl rfl (by dsimp only [zS, zN, zH, zT]) ?_
        refine zun rfl rfl rfl (by dsimp only [zS, zN, zH, zT]) ?_
        refine zun rfl rfl rfl (by dsimp only [zS, zN, zH, zT]) ?_
        refine zun rfl rfl rfl (by dsimp only [zS, zN, zH, zT]) ?_
        refine zun rfl rfl rfl (by dsimp only [zS, zN, zH, zT]) ?_
        refine zun rfl rfl rfl (by dsimp only [zS, zN, zH, zT]) ?_
        refine zuw rfl rfl rfl rfl (by dsimp only [zS, zN, zH, zT]) ?_
        refine zst (op_pick_tt (by rfl) (val_const (by rfl))) rfl (by dsimp only [zS, zN, zH, zT]) ?_
        refine zst (op_move_tmp (by rfl)) rfl (by dsimp only [zS, zN, zH, zT]) ?_
        refine zuw rfl rfl rfl rfl (by dsimp only [zS, zN, zH, zT]) ?_
        refine zuw rfl rfl rfl rfl (by dsimp only [zS, zN, zH, zT]) ?_
        refine zuw rfl rfl rfl rfl (by dsimp only [zS, zN, zH, zT]) ?_
        refine zun rfl rfl rfl (by dsimp only [zS, zN, zH, zT]) ?_
        refine zun rfl rfl rfl (by dsimp only [zS, zN, zH, zT]) ?_
        refine zun rfl rfl rfl (by dsimp only [zS, zN, zH, zT]) ?_
        refine zun rfl rfl rfl (by dsimp only [zS, zN, zH, zT]) ?_
        refine zun rfl rfl rfl (by dsimp only [zS, zN, zH, zT]) ?_
        refine zuw rfl rfl rfl rfl (by dsimp only [zS, zN, zH, zT]) ?_
        refine zst (op_pick_tt (by rfl) (val_const (by rfl))) rfl (by dsimp only [zS, zN, zH, zT]) ?_
        refine al_end rfl ?_
        refine then_normal ?_
        refine aw_cond rfl (fun _ => ?_) (fun h => by cases h)
        refine aw_seq ?_
        refine aw_region ?_
        refine zst (op_zeroV (pl := [(0, 1), (1, 1), (2, 1), (3, 1), (4, 1), (5, 1)]) Try.underlying26 Zr26 (by kernel_rfl) (by rfl)) rfl (by dsimp only [zS, zN, zH, zT]) ?_
        refine zst (op_stV V0 Sz26 (by rfl) (by rw [setB_ne (by have := lt_nb e0; omega)]; exact push_ne e0) (by first | exact VBl.z _ | exact VBl.v _ _) (by rfl)) rfl (by dsimp only [zS, zN, zH, zT]) ?_
        refine zst (op_assign_const (by rfl)) rfl (by dsimp only [zS, zN, zH, zT]) ?_
        refine al_end rfl ?_
        refine then_normal ?_
        refine aw_ret ?_
        refine then_ret ?_
        refine retC2 rfl (.cells Try.underlying26 (by rfl) Sz26 (by rfl) (setB_at (by rw [setB_ne (by have := lt_nb e0; omega)]; exact push_ne e0)) (by show 0 + 6 ≤ ((vC _).map AV.d).length; rw [List.length_map, vC_len]; exact Nat.le_refl _) (by rfl)) (.tmp (by rfl)) ?_
        have hres : (atV o v (n0 :: p)) = (V0, 1) := by rw [hst, hg, hp0]; (first | (have h := hov.2 (by omega); simp [stepO, h1, h2, h]; done) | (simp [stepO, h1, h2, hk2]; done))
        rw [hres]
        exact ⟨(((hx.push _ _).setB (nb_le hx)).setB (Nat.le_refl _)), _, rfl, .inl (weaks_take _)⟩
       ·
        (try simp only [y1, y2, y3, y4, y5, y6, y7, y8, y9, y0, List.length_map] at hg10)
        have hk2 : x.val.kind = 2 := by simpa using hg10
        apply al_normT
        · (try dsimp only [zS, zN, zH, zT]); try exact rfl
        refine zsw rfl rfl rfl (op_move_tmp (by rfl)) (by dsimp only [zS, zN, zH, zT]) ?_
        refine zsw rfl rfl rfl (op_gtI (by rfl) (by rfl)) (by dsimp only [zS, zN, zH, zT]) ?_
        refine zsw rfl rfl rfl (op_move_tmp (by rfl)) (by dsimp only [zS, zN, zH, zT]) ?_
        refine al_split 116 rfl (fun hg12 => ?_) (fun hg12 => ?_)
        ·
         (try simp only [y1, y2, y3, y4, y5, y6, y7, y8, y9, y0, List.length_map] at hg12)
         apply al_normT
         · (try dsimp only [zS, zN, zH, zT]); try exact rfl
         refine zsw rfl rfl rfl (by first | exact op_fieldAddr_ptr Try.underlying26 rfl Sz2 (by rfl) (by rfl) | exact op_fieldAddr_elt Try.underlying26 rfl Sz2 (by rfl) (by rfl) (by rfl)) (by dsimp only [zS, zN, zH, zT]) ?_
         refine zsw rfl rfl rfl (op_ldV1 Try.underlying2 (by rfl) (by rfl) (setB_at push_at) (VBl.v _ _) (by rfl)) (by dsimp only [zS, zN, zH, zT]) ?_
         refine zsw rfl rfl rfl (op_move_tmp (by rfl)) (by dsimp only [zS, zN, zH, zT]) ?_
         refine zsw rfl rfl rfl (by first | exact op_sub (by rfl) (by rfl) (wrap_i64 ⟨by omega, by omega⟩)) (by dsimp only [zS, zN, zH, zT]) ?_
         refine zsw rfl rfl rfl (op_gtI (by rfl) (by rfl)) (by dsimp only [zS, zN, zH, zT]) ?_
         refine zsw rfl rfl rfl (op_pick_tt (by rfl) (val_tmp (by rfl))) (by dsimp only [zS, zN, zH, zT]) ?_
         refine zst (op_pick_ff (by rfl) (val_tmp (by rfl))) rfl (by dsimp only [zS, zN, zH, zT]) ?_
         refine zst (op_move_tmp (by rfl)) rfl (by dsimp only [zS, zN, zH, zT]) ?_
         refine al_split 124 rfl (fun hg13 => ?_) (fun hg13 => ?_)
         ·
          (try simp only [y1, y2, y3, y4, y5, y6, y7, y8, y9, y0, List.length_map] at hg13)
          apply al_normT
          · (try dsimp only [zS, zN, zH, zT]); try exact rfl
          refine zuw rfl rfl rfl rfl (by dsimp only [zS, zN, zH, zT]) ?_
          refine zuw rfl rfl rfl rfl (by dsimp only [zS, zN, zH, zT]) ?_
          refine zuw rfl rfl rfl rfl (by dsimp only [zS, zN, zH, zT]) ?_
          refine zun rfl rfl rfl (by dsimp only [zS, zN, zH, zT]) ?_
          refine zun rfl rfl rfl (by dsimp only [zS, zN, zH, zT]) ?_
          refine zun rfl rfl rfl (by dsimp only [zS, zN, zH, zT]) ?_
          refine zun rfl rfl rfl (by dsimp only [zS, zN, zH, zT]) ?_
          refine zun rfl rfl rfl (by dsimp only [zS, zN, zH, zT]) ?_
          refine zuw rfl rfl rfl rfl (by dsimp only [zS, zN, zH, zT]) ?_
          refine zst (op_pick_tt (by rfl) (val_const (by rfl))) rfl (by dsimp only [zS, zN, zH, zT]) ?_
          refine al_end rfl ?_
          refine then_normal ?_
          refine aw_cond rfl (fun _ => ?_) (fun h => by cases h)
          refine aw_seq ?_
          refine aw_region ?_
          refine zst (op_zeroV (pl := [(0, 1), (1, 1), (2, 1), (3, 1), (4, 1), (5, 1)]) Try.underlying26 Zr26 (by kernel_rfl) (by rfl)) rfl (by dsimp only [zS, zN, zH, zT]) ?_
          refine zst (op_stV V0 Sz26 (by rfl) (by rw [setB_ne (by have := lt_nb e0; omega)]; exact push_ne e0) (by first | exact VBl.z _ | exact VBl.v _ _) (by rfl)) rfl (by dsimp only [zS, zN, zH, zT]) ?_
          refine zst (op_assign_const (by rfl)) rfl (by dsimp only [zS, zN, zH, zT]) ?_
          refine al_end rfl ?_
          refine then_normal ?_
          refine aw_ret ?_
          refine then_ret ?_
          refine retC2 rfl (.cells Try.underlying26 (by rfl) Sz26 (by rfl) (setB_at (by rw [setB_ne (by have := lt_nb e0; omega)]; exact push_ne e0)) (by show 0 + 6 ≤ ((vC _).map AV.d).length; rw [List.length_map, vC_len]; exact Nat.le_refl _) (by rfl)) (.tmp (by rfl)) ?_
          have hres : (atV o v (n0 :: p)) = (V0, 1) := by rw [hst, hg, hp0]; (first | (have h := hov.2 (by omega); simp [stepO, h1, h2, h]; done) | (simp [stepO, h1, h2, hk2]; done))
          rw [hres]
          exact ⟨(((hx.push _ _).setB (nb_le hx)).setB (Nat.le_refl _)), _, rfl, .inl (weaks_take _)⟩
         ·
          (try simp only [y1, y2, y3, y4, y5, y6, y7, y8, y9, y0, List.length_map] at hg13)
          apply al_normT
          · (try dsimp only [zS, zN, zH, zT]); try exact rfl
          refine zsw rfl rfl rfl (op_move_tmp (by rfl)) (by dsimp only [zS, zN, zH, zT]) ?_
          refine zsw rfl rfl rfl (op_ltI (by rfl) (by rfl)) (by dsimp only [zS, zN, zH, zT]) ?_
          refine zsw rfl rfl rfl (op_move_tmp (by rfl)) (by dsimp only [zS, zN, zH, zT]) ?_
          refine al_split 127 rfl (fun hg15 => ?_) (fun hg15 => ?_)
          ·
           (try simp only [y1, y2, y3, y4, y5, y6, y7, y8, y9, y0, List.length_map] at hg15)
           apply al_normT
           · (try dsimp only [zS, zN, zH, zT]); try exact rfl
           refine zsw rfl rfl rfl (by first | exact op_fieldAddr_ptr Try.underlying26 rfl Sz2 (by rfl) (by rfl) | exact op_fieldAddr_elt Try.underlying26 rfl Sz2 (by rfl) (by rfl) (by rfl)) (by dsimp only [zS, zN, zH, zT]) ?_
           refine zsw rfl rfl rfl (op_ldV1 Try.underlying2 (by rfl) (by rfl) (setB_at push_at) (VBl.v _ _) (by rfl)) (by dsimp only [zS, zN, zH, zT]) ?_
           refine zsw rfl rfl rfl (op_move_tmp (by rfl)) (by dsimp only [zS, zN, zH, zT]) ?_
           refine zsw rfl rfl rfl (by first | exact op_sub (by rfl) (by rfl) (wrap_i64 ⟨by omega, by omega⟩)) (by dsimp only [zS, zN, zH, zT]) ?_
           refine zsw rfl rfl rfl (op_ltI (by rfl) (by rfl)) (by dsimp only [zS, zN, zH, zT]) ?_
           refine zsw rfl rfl rfl (op_pick_tt (by rfl) (val_tmp (by rfl))) (by dsimp only [zS, zN, zH, zT]) ?_
           refine zst (op_pick_ff (by rfl) (val_tmp (by rfl))) rfl (by dsimp only [zS, zN, zH, zT]) ?_
           refine al_end rfl ?_
           refine then_normal ?_
           refine aw_cond rfl (fun hc16 => ?_) (fun hc16 => ?_)
           ·
            (try simp only [y1, y2, y3, y4, y5, y6, y7, y8, y9, y0, List.length_map] at hc16)
            refine aw_seq ?_
            refine aw_region ?_
            refine zst (op_zeroV (pl := [(0, 1), (1, 1), (2, 1), (3, 1), (4, 1), (5, 1)]) Try.underlying26 Zr26 (by kernel_rfl) (by rfl)) rfl (by dsimp only [zS, zN, zH, zT]) ?_
            refine zst (op_stV V0 Sz26 (by rfl) (by rw [setB_ne (by have := lt_nb e0; omega)]; exact push_ne e0) (by first | exact VBl.z _ | exact VBl.v _ _) (by rfl)) rfl (by dsimp only [zS, zN, zH, zT]) ?_
            refine zst (op_assign_const (by rfl)) rfl (by dsimp only [zS, zN, zH, zT]) ?_
            refine al_end rfl ?_
            refine then_normal ?_
            refine aw_ret ?_
            refine then_ret ?_
            refine retC2 rfl (.cells Try.underlying26 (by rfl) Sz26 (by rfl) (setB_at (by rw [setB_ne (by have := lt_nb e0; omega)]; exact push_ne e0)) (by show 0 + 6 ≤ ((vC _).map AV.d).length; rw [List.length_map, vC_len]; exact Nat.le_refl _) (by rfl)) (.tmp (by rfl)) ?_
            have hres : (atV o v (n0 :: p)) = (V0, 1) := by rw [hst, hg, hp0]; (first | (have h := hov.2 (by omega); simp [stepO, h1, h2, h]; done) | (simp [stepO, h1, h2, hk2]; done))
            rw [hres]
            exact ⟨(((hx.push _ _).setB (nb_le hx)).setB (Nat.le_refl _)), _, rfl, .inl (weaks_take _)⟩
           ·
            (try simp only [y1, y2, y3, y4, y5, y6, y7, y8, y9, y0, List.length_map] at hc16)
            refine aw_skip ?_
            refine then_normal ?_
            refine aw_seq ?_
            have hno : ¬ (addI x.val.num o.val.num).2 = false := fun h => by have := hov.1 h; omega
            obtain ⟨hs1, hs64⟩ := hfi hno
            have hres : (atV o v (n0 :: p)) = (M (v.fields.set i (.mk n0 (ofInt (x.val.num + o.val.num)))), 0) := by rw [hst, hg, hp0, ← hxn, ← put_set _ hr hxi, hxn]; simp [stepO, h1, h2, hk2, hno, updF, hs1]
            refine aw_region ?_
            refine zst (op_move_tmp (by rfl)) rfl (by dsimp only [zS, zN, zH, zT]) ?_
            refine zst (op_move_tmp (by rfl)) rfl (by dsimp only [zS, zN, zH, zT]) ?_
            refine zst (by first | exact op_fieldAddr_ptr Try.underlying26 rfl Sz2 (by rfl) (by rfl) | exact op_fieldAddr_elt Try.underlying26 rfl Sz2 (by rfl) (by rfl) (by rfl)) rfl (by dsimp only [zS, zN, zH, zT]) ?_
            refine zst (op_ldV1 Try.underlying2 (by rfl) (by rfl) (setB_at push_at) (VBl.v _ _) (by rfl)) rfl (by dsimp only [zS, zN, zH, zT]) ?_
            refine zst (op_move_tmp (by rfl)) rfl (by dsimp only [zS, zN, zH, zT]) ?_
            refine zst (op_add (by rfl) (by rfl) (wrap_i64 hs64)) rfl (by dsimp only [zS, zN, zH, zT]) ?_
            refine zst (op_callF Try.func14 (by rfl) (by rfl) (.tmp (by rfl) .nil) (ofInt_ok _ _)) rfl (by dsimp only [zS, zN, zH, zT]) ?_
            refine zst (op_indexArr (off := i * 7) Try.underlying24 Sz48 (by rfl) (by rfl) (by omega) (by omega) (by rfl)) rfl (by dsimp only [zS, zN, zH, zT]) ?_
            refine zst (by first | exact op_fieldAddr_ptr Try.underlying48 rfl Sz26 (by rfl) (by rfl) | exact op_fieldAddr_elt Try.underlying48 rfl Sz26 (by rfl) (by rfl) (by rfl)) rfl (by dsimp only [zS, zN, zH, zT]) ?_
            refine zst (op_storeV (b' := ⟨48, putL cs (i * 7 + 1) ((vC (ofInt (x.val.num + o.val.num))).map .d), false⟩) (ofInt (x.val.num + o.val.num)) Sz26 (by rfl) (by rw [setB_ne (by have := lt_nb hb; omega)]; exact push_ne hb) (by rfl) (by show i * 7 + 1 + 6 ≤ cs.length; omega) (by rfl) (by rfl)) rfl (by dsimp only [zS, zN, zH, zT]) ?_
            refine al_end rfl ?_
            refine then_normal ?_
            refine aw_seq ?_
            refine aw_region ?_
            refine zst (op_move_tmp (by rfl)) rfl (by dsimp only [zS, zN, zH, zT]) ?_
            refine zst (op_build (pl := [(0, 1), (1, 1), (2, 1), (3, 1), (4, 1), (5, 1)]) Try.underlying26 Zr26 (by kernel_rfl) (by rfl) (by rfl) (by rfl)) rfl (by dsimp only [zS, zN, zH, zT]) ?_
            refine zst (op_storeB (vs := (vs6 5 false 0 [] nilS (.arr id v.fields.length cap))) (b' := vBlk 26 5 false 0 [] nilS (.arr id v.fields.length cap)) (H' := _) Sz26 (by rfl) (by rw [setB_ne (by omega), setB_ne (by have := lt_nb e0; omega)]; exact push_ne e0) (by intro h; cases h) (by rfl) (by rfl) (Nat.le_of_ble_eq_true rfl) (by simp [AV.one, DV.one, TF, S, I, BY]) (by rfl) (by rfl) rfl) rfl (by dsimp only [zS, zN, zH, zT]) ?_
            refine zst (op_assign_const (by rfl)) rfl (by dsimp only [zS, zN, zH, zT]) ?_
            refine al_end rfl ?_
            refine then_normal ?_
            refine aw_ret ?_
            refine retC2 rfl (.cells Try.underlying26 (by rfl) Sz26 (by rfl) (setB_at (by rw [setB_ne (by omega), setB_ne (by have := lt_nb e0; omega)]; exact push_ne e0)) (Nat.le_of_ble_eq_true rfl) (by rfl)) (.tmp (by rfl)) ?_
            rw [hres]
            exact ⟨((((hx.push _ _).setB (nb_le hx)).setB (by omega)).setB (Nat.le_refl _)), _, rfl, .inr (setR (by omega) (by rw [setB_ne (by omega)]; exact setB_at (by rw [setB_ne (by have := lt_nb hb; omega)]; exact push_ne hb)) hc hcap hu hxi hxn)⟩
          ·
           (try simp only [y1, y2, y3, y4, y5, y6, y7, y8, y9, y0, List.length_map] at hg15)
           apply al_normT
           · (try dsimp only [zS, zN, zH, zT]); try exact rfl
           refine zuw rfl rfl rfl rfl (by dsimp only [zS, zN, zH, zT]) ?_
           refine zuw rfl rfl rfl rfl (by dsimp only [zS, zN, zH, zT]) ?_
           refine zuw rfl rfl rfl rfl (by dsimp only [zS, zN, zH, zT]) ?_
           refine zuw rfl rfl rfl rfl (by dsimp only [zS, zN, zH, zT]) ?_
           refine zuw rfl rfl rfl rfl (by dsimp only [zS, zN, zH, zT]) ?_
           refine zsw rfl rfl rfl (op_pick_ff (by rfl) (val_const (by rfl))) (by dsimp only [zS, zN, zH, zT]) ?_
           refine zst (op_pick_ff (by rfl) (val_tmp (by rfl))) rfl (by dsimp only [zS, zN, zH, zT]) ?_
           refine al_end rfl ?_
           refine then_normal ?_
           refine aw_cond rfl (fun h => by cases h) (fun _ => ?_)
           refine aw_skip ?_
           refine then_normal ?_
           refine aw_seq ?_
           have hno : ¬ (addI x.val.num o.val.num).2 = false := fun h => by have := hov.1 h; omega
           obtain ⟨hs1, hs64⟩ := hfi hno
           have hres : (atV o v (n0 :: p)) = (M (v.fields.set i (.mk n0 (ofInt (x.val.num + o.val.num)))), 0) := by rw [hst, hg, hp0, ← hxn, ← put_set _ hr hxi, hxn]; simp [stepO, h1, h2, hk2, hno, updF, hs1]
           refine aw_region ?_
           refine zst (op_move_tmp (by rfl)) rfl (by dsimp only [zS, zN, zH, zT]) ?_
           refine zst (op_move_tmp (by rfl)) rfl (by dsimp only [zS, zN, zH, zT]) ?_
           refine zst (by first | exact op_fieldAddr_ptr Try.underlying26 rfl Sz2 (by rfl) (by rfl) | exact op_fieldAddr_elt Try.underlying26 rfl Sz2 (by rfl) (by rfl) (by rfl)) rfl (by dsimp only [zS, zN, zH, zT]) ?_
           refine zst (op_ldV1 Try.underlying2 (by rfl) (by rfl) (setB_at push_at) (VBl.v _ _) (by rfl)) rfl (by dsimp only [zS, zN, zH, zT]) ?_
           refine zst (op_move_tmp (by rfl)) rfl (by dsimp only [zS, zN, zH, zT]) ?_
           refine zst (op_add (by rfl) (by rfl) (wrap_i64 hs64)) rfl (by dsimp only [zS, zN, zH, zT]) ?_
           refine zst (op_callF Try.func14 (by rfl) (by rfl) (.tmp (by rfl) .nil) (ofInt_ok _ _)) rfl (by dsimp only [zS, zN, zH, zT]) ?_
           refine zst (op_indexArr (off := i * 7) Try.underlying24 Sz48 (by rfl) (by rfl) (by omega) (by omega) (by rfl)) rfl (by dsimp only [zS, zN, zH, zT]) ?_
           refine zst (by first | exact op_fieldAddr_ptr Try.underlying48 rfl Sz26 (by rfl) (by rfl) | exact op_fieldAddr_elt Try.underlying48 rfl Sz26 (by rfl) (by rfl) (by rfl)) rfl (by dsimp only [zS, zN, zH, zT]) ?_
           refine zst (op_storeV (b' := ⟨48, putL cs (i * 7 + 1) ((vC (ofInt (x.val.num + o.val.num))).map .d), false⟩) (ofInt (x.val.num + o.val.num)) Sz26 (by rfl) (by rw [setB_ne (by have := lt_nb hb; omega)]; exact push_ne hb) (by rfl) (by show i * 7 + 1 + 6 ≤ cs.length; omega) (by rfl) (by rfl)) rfl (by dsimp only [zS, zN, zH, zT]) ?_
           refine al_end rfl ?_
           refine then_normal ?_
           refine aw_seq ?_
           refine aw_region ?_
           refine zst (op_move_tmp (by rfl)) rfl (by dsimp only [zS, zN, zH, zT]) ?_
           refine zst (op_build (pl := [(0, 1), (1, 1), (2, 1), (3, 1), (4, 1), (5, 1)]) Try.underlying26 Zr26 (by kernel_rfl) (by rfl) (by rfl) (by rfl)) rfl (by dsimp only [zS, zN, zH, zT]) ?_
           refine zst (op_storeB (vs := (vs6 5 false 0 [] nilS (.arr id v.fields.length cap))) (b' := vBlk 26 5 false 0 [] nilS (.arr id v.fields.length cap)) (H' := _) Sz26 (by rfl) (by rw [setB_ne (by omega), setB_ne (by have := lt_nb e0; omega)]; exact push_ne e0) (by intro h; cases h) (by rfl) (by rfl) (Nat.le_of_ble_eq_true rfl) (by simp [AV.one, DV.one, TF, S, I, BY]) (by rfl) (by rfl) rfl) rfl (by dsimp only [zS, zN, zH, zT]) ?_
           refine zst (op_assign_const (by rfl)) rfl (by dsimp only [zS, zN, zH, zT]) ?_
           refine al_end rfl ?_
           refine then_normal ?_
           refine aw_ret ?_
           refine retC2 rfl (.cells Try.underlying26 (by rfl) Sz26 (by rfl) (setB_at (by rw [setB_ne (by omega), setB_ne (by have := lt_nb e0; omega)]; exact push_ne e0)) (Nat.le_of_ble_eq_true rfl) (by rfl)) (.tmp (by rfl)) ?_
           rw [hres]
           exact ⟨((((hx.push _ _).setB (nb_le hx)).setB (by omega)).setB (Nat.le_refl _)), _, rfl, .inr (setR (by omega) (by rw [setB_ne (by omega)]; exact setB_at (by rw [setB_ne (by have := lt_nb hb; omega)]; exact push_ne hb)) hc hcap hu hxi hxn)⟩
        ·
         (try simp only [y1, y2, y3, y4, y5, y6, y7, y8, y9, y0, List.length_map] at hg12)
         apply al_normT
         · (try dsimp only [zS, zN, zH, zT]); try exact rfl
         refine zuw rfl rfl rfl rfl (by dsimp only [zS, zN, zH, zT]) ?_
         refine zuw rfl rfl rfl rfl (by dsimp only [zS, zN, zH, zT]) ?_
         refine zuw rfl rfl rfl rfl (by dsimp only [zS, zN, zH, zT]) ?_
         refine zuw rfl rfl rfl rfl (by dsimp only [zS, zN, zH, zT]) ?_
         refine zuw rfl rfl rfl rfl (by dsimp only [zS, zN, zH, zT]) ?_
         refine zsw rfl rfl rfl (op_pick_ff (by rfl) (val_const (by rfl))) (by dsimp only [zS, zN, zH, zT]) ?_
         refine zst (op_pick_ff (by rfl) (val_tmp (by rfl))) rfl (by dsimp only [zS, zN, zH, zT]) ?_
         refine zst (op_move_tmp (by rfl)) rfl (by dsimp only [zS, zN, zH, zT]) ?_
         refine zsw rfl rfl rfl (op_move_tmp (by rfl)) (by dsimp only [zS, zN, zH, zT]) ?_
         refine zsw rfl rfl rfl (op_ltI (by rfl) (by rfl)) (by dsimp only [zS, zN, zH, zT]) ?_
         refine zsw rfl rfl rfl (op_move_tmp (by rfl)) (by dsimp only [zS, zN, zH, zT]) ?_
         refine al_split 127 rfl (fun hg18 => ?_) (fun hg18 => ?_)
         ·
          (try simp only [y1, y2, y3, y4, y5, y6, y7, y8, y9, y0, List.length_map] at hg18)
          apply al_normT
          · (try dsimp only [zS, zN, zH, zT]); try exact rfl
          refine zsw rfl rfl rfl (by first | exact op_fieldAddr_ptr Try.underlying26 rfl Sz2 (by rfl) (by rfl) | exact op_fieldAddr_elt Try.underlying26 rfl Sz2 (by rfl) (by rfl) (by rfl)) (by dsimp only [zS, zN, zH, zT]) ?_
          refine zsw rfl rfl rfl (op_ldV1 Try.underlying2 (by rfl) (by rfl) (setB_at push_at) (VBl.v _ _) (by rfl)) (by dsimp only [zS, zN, zH, zT]) ?_
          refine zsw rfl rfl rfl (op_move_tmp (by rfl)) (by dsimp only [zS, zN, zH, zT]) ?_
          refine zsw rfl rfl rfl (by first | exact op_sub (by rfl) (by rfl) (wrap_i64 ⟨by omega, by omega⟩)) (by dsimp only [zS, zN, zH, zT]) ?_
          refine zsw rfl rfl rfl (op_ltI (by rfl) (by rfl)) (by dsimp only [zS, zN, zH, zT]) ?_
          refine zsw rfl rfl rfl (op_pick_tt (by rfl) (val_tmp (by rfl))) (by dsimp only [zS, zN, zH, zT]) ?_
          refine zst (op_pick_ff (by rfl) (val_tmp (by rfl))) rfl (by dsimp only [zS, zN, zH, zT]) ?_
          refine al_end rfl ?_
          refine then_normal ?_
          refine aw_cond rfl (fun hc19 => ?_) (fun hc19 => ?_)
          ·
           (try simp only [y1, y2, y3, y4, y5, y6, y7, y8, y9, y0, List.length_map] at hc19)
           refine aw_seq ?_
           refine aw_region ?_
           refine zst (op_zeroV (pl := [(0, 1), (1, 1), (2, 1), (3, 1), (4, 1), (5, 1)]) Try.underlying26 Zr26 (by kernel_rfl) (by rfl)) rfl (by dsimp only [zS, zN, zH, zT]) ?_
           refine zst (op_stV V0 Sz26 (by rfl) (by rw [setB_ne (by have := lt_nb e0; omega)]; exact push_ne e0) (by first | exact VBl.z _ | exact VBl.v _ _) (by rfl)) rfl (by dsimp only [zS, zN, zH, zT]) ?_
           refine zst (op_assign_const (by rfl)) rfl (by dsimp only [zS, zN, zH, zT]) ?_
           refine al_end rfl ?_
           refine then_normal ?_
           refine aw_ret ?_
           refine then_ret ?_
           refine retC2 rfl (.cells Try.underlying26 (by rfl) Sz26 (by rfl) (setB_at (by rw [setB_ne (by have := lt_nb e0; omega)]; exact push_ne e0)) (by show 0 + 6 ≤ ((vC _).map AV.d).length; rw [List.length_map, vC_len]; exact Nat.le_refl _) (by rfl)) (.tmp (by rfl)) ?_
           have hres : (atV o v (n0 :: p)) = (V0, 1) := by rw [hst, hg, hp0]; (first | (have h := hov.2 (by omega); simp [stepO, h1, h2, h]; done) | (simp [stepO, h1, h2, hk2]; done))
           rw [hres]
           exact ⟨(((hx.push _ _).setB (nb_le hx)).setB (Nat.le_refl _)), _, rfl, .inl (weaks_take _)⟩
          ·
           (try simp only [y1, y2, y3, y4, y5, y6, y7, y8, y9, y0, List.length_map] at hc19)
           refine aw_skip ?_
           refine then_normal ?_
           refine aw_seq ?_
           have hno : ¬ (addI x.val.num o.val.num).2 = false := fun h => by have := hov.1 h; omega
           obtain ⟨hs1, hs64⟩ := hfi hno
           have hres : (atV o v (n0 :: p)) = (M (v.fields.set i (.mk n0 (ofInt (x.val.num + o.val.num)))), 0) := by rw [hst, hg, hp0, ← hxn, ← put_set _ hr hxi, hxn]; simp [stepO, h1, h2, hk2, hno, updF, hs1]
           refine aw_region ?_
           refine zst (op_move_tmp (by rfl)) rfl (by dsimp only [zS, zN, zH, zT]) ?_
           refine zst (op_move_tmp (by rfl)) rfl (by dsimp only [zS, zN, zH, zT]) ?_
           refine zst (by first | exact op_fieldAddr_ptr Try.underlying26 rfl Sz2 (by rfl) (by rfl) | exact op_fieldAddr_elt Try.underlying26 rfl Sz2 (by rfl) (by rfl) (by rfl)) rfl (by dsimp only [zS, zN, zH, zT]) ?_
           refine zst (op_ldV1 Try.underlying2 (by rfl) (by rfl) (setB_at push_at) (VBl.v _ _) (by rfl)) rfl (by dsimp only [zS, zN, zH, zT]) ?_
           refine zst (op_move_tmp (by rfl)) rfl (by dsimp only [zS, zN, zH, zT]) ?_
           refine zst (op_add (by rfl) (by rfl) (wrap_i64 hs64)) rfl (by dsimp only [zS, zN, zH, zT]) ?_
           refine zst (op_callF Try.func14 (by rfl) (by rfl) (.tmp (by rfl) .nil) (ofInt_ok _ _)) rfl (by dsimp only [zS, zN, zH, zT]) ?_
           refine zst (op_indexArr (off := i * 7) Try.underlying24 Sz48 (by rfl) (by rfl) (by omega) (by omega) (by rfl)) rfl (by dsimp only [zS, zN, zH, zT]) ?_
           refine zst (by first | exact op_fieldAddr_ptr Try.underlying48 rfl Sz26 (by rfl) (by rfl) | exact op_fieldAddr_elt Try.underlying48 rfl Sz26 (by rfl) (by rfl) (by rfl)) rfl (by dsimp only [zS, zN, zH, zT]) ?_
           refine zst (op_storeV (b' := ⟨48, putL cs (i * 7 + 1) ((vC (ofInt (x.val.num + o.val.num))).map .d), false⟩) (ofInt (x.val.num + o.val.num)) Sz26 (by rfl) (by rw [setB_ne (by have := lt_nb hb; omega)]; exact push_ne hb) (by rfl) (by show i * 7 + 1 + 6 ≤ cs.length; omega) (by rfl) (by rfl)) rfl (by dsimp only [zS, zN, zH, zT]) ?_
           refine al_end rfl ?_
           refine then_normal ?_
           refine aw_seq ?_
           refine aw_region ?_
           refine zst (op_move_tmp (by rfl)) rfl (by dsimp only [zS, zN, zH, zT]) ?_
           refine zst (op_build (pl := [(0, 1), (1, 1), (2, 1), (3, 1), (4, 1), (5, 1)]) Try.underlying26 Zr26 (by kernel_rfl) (by rfl) (by rfl) (by rfl)) rfl (by dsimp only [zS, zN, zH, zT]) ?_
           refine zst (op_storeB (vs := (vs6 5 false 0 [] nilS (.arr id v.fields.length cap))) (b' := vBlk 26 5 false 0 [] nilS (.arr id v.fields.length cap)) (H' := _) Sz26 (by rfl) (by rw [setB_ne (by omega), setB_ne (by have := lt_nb e0; omega)]; exact push_ne e0) (by intro h; cases h) (by rfl) (by rfl) (Nat.le_of_ble_eq_true rfl) (by simp [AV.one, DV.one, TF, S, I, BY]) (by rfl) (by rfl) rfl) rfl (by dsimp only [zS, zN, zH, zT]) ?_
           refine zst (op_assign_const (by rfl)) rfl (by dsimp only [zS, zN, zH, zT]) ?_
           refine al_end rfl ?_
           refine then_normal ?_
           refine aw_ret ?_
           refine retC2 rfl (.cells Try.underlying26 (by rfl) Sz26 (by rfl) (setB_at (by rw [setB_ne (by omega), setB_ne (by have := lt_nb e0; omega)]; exact push_ne e0)) (Nat.le_of_ble_eq_true rfl) (by rfl)) (.tmp (by rfl)) ?_
           rw [hres]
           exact ⟨((((hx.push _ _).setB (nb_le hx)).setB (by omega)).setB (Nat.le_refl _)), _, rfl, .inr (setR (by omega) (by rw [setB_ne (by omega)]; exact setB_at (by rw [setB_ne (by have := lt_nb hb; omega)]; exact push_ne hb)) hc hcap hu hxi hxn)⟩
         ·
          (try simp only [y1, y2, y3, y4, y5, y6, y7, y8, y9, y0, List.length_map] at hg18)
          apply al_normT
          · (try dsimp only [zS, zN, zH, zT]); try exact rfl
          refine zuw rfl rfl rfl rfl (by dsimp only [zS, zN, zH, zT]) ?_
          refine zuw rfl rfl rfl rfl (by dsimp only [zS, zN, zH, zT]) ?_
          refine zuw rfl rfl rfl rfl (by dsimp only [zS, zN, zH, zT]) ?_
          refine zuw rfl rfl rfl rfl (by dsimp only [zS, zN, zH, zT]) ?_
          refine zuw rfl rfl rfl rfl (by dsimp only [zS, zN, zH, zT]) ?_
          refine zsw rfl rfl rfl (op_pick_ff (by rfl) (val_const (by rfl))) (by dsimp only [zS, zN, zH, zT]) ?_
          refine zst (op_pick_ff (by rfl) (val_tmp (by rfl))) rfl (by dsimp only [zS, zN, zH, zT]) ?_
          refine al_end rfl ?_
          refine then_normal ?_
          refine aw_cond rfl (fun h => by cases h) (fun _ => ?_)
          refine aw_skip ?_
          refine then_normal ?_
          refine aw_seq ?_
          have hno : ¬ (addI x.val.num o.val.num).2 = false := fun h => by have := hov.1 h; omega
          obtain ⟨hs1, hs64⟩ := hfi hno
          have hres : (atV o v (n0 :: p)) = (M (v.fields.set i (.mk n0 (ofInt (x.val.num + o.val.num)))), 0) := by rw [hst, hg, hp0, ← hxn, ← put_set _ hr hxi, hxn]; simp [stepO, h1, h2, hk2, hno, updF, hs1]
          refine aw_region ?_
          refine zst (op_move_tmp (by rfl)) rfl (by dsimp only [zS, zN, zH, zT]) ?_
          refine zst (op_move_tmp (by rfl)) rfl (by dsimp only [zS, zN, zH, zT]) ?_
          refine zst (by first | exact op_fieldAddr_ptr Try.underlying26 rfl Sz2 (by rfl) (by rfl) | exact op_fieldAddr_elt Try.underlying26 rfl Sz2 (by rfl) (by rfl) (by rfl)) rfl (by dsimp only [zS, zN, zH, zT]) ?_
          refine zst (op_ldV1 Try.underlying2 (by rfl) (by rfl) (setB_at push_at) (VBl.v _ _) (by rfl)) rfl (by dsimp only [zS, zN, zH, zT]) ?_
          refine zst (op_move_tmp (by rfl)) rfl (by dsimp only [zS, zN, zH, zT]) ?_
          refine zst (op_add (by rfl) (by rfl) (wrap_i64 hs64)) rfl (by dsimp only [zS, zN, zH, zT]) ?_
          refine zst (op_callF Try.func14 (by rfl) (by rfl) (.tmp (by rfl) .nil) (ofInt_ok _ _)) rfl (by dsimp only [zS, zN, zH, zT]) ?_
          refine zst (op_indexArr (off := i * 7) Try.underlying24 Sz48 (by rfl) (by rfl) (by omega) (by omega) (by rfl)) rfl (by dsimp only [zS, zN, zH, zT]) ?_
          refine zst (by first | exact op_fieldAddr_ptr Try.underlying48 rfl Sz26 (by rfl) (by rfl) | exact op_fieldAddr_elt Try.underlying48 rfl Sz26 (by rfl) (by rfl) (by rfl)) rfl (by dsimp only [zS, zN, zH, zT]) ?_
          refine zst (op_storeV (b' := ⟨48, putL cs (i * 7 + 1) ((vC (ofInt (x.val.num + o.val.num))).map .d), false⟩) (ofInt (x.val.num + o.val.num)) Sz26 (by rfl) (by rw [setB_ne (by have := lt_nb hb; omega)]; exact push_ne hb) (by rfl) (by show i * 7 + 1 + 6 ≤ cs.length; omega) (by rfl) (by rfl)) rfl (by dsimp only [zS, zN, zH, zT]) ?_
          refine al_end rfl ?_
          refine then_normal ?_
          refine aw_seq ?_
          refine aw_region ?_
          refine zst (op_move_tmp (by rfl)) rfl (by dsimp only [zS, zN, zH, zT]) ?_
          refine zst (op_build (pl := [(0, 1), (1, 1), (2, 1), (3, 1), (4, 1), (5, 1)]) Try.underlying26 Zr26 (by kernel_rfl) (by rfl) (by rfl) (by rfl)) rfl (by dsimp only [zS, zN, zH, zT]) ?_
          refine zst (op_storeB (vs := (vs6 5 false 0 [] nilS (.arr id v.fields.length cap))) (b' := vBlk 26 5 false 0 [] nilS (.arr id v.fields.length cap)) (H' := _) Sz26 (by rfl) (by rw [setB_ne (by omega), setB_ne (by have := lt_nb e0; omega)]; exact push_ne e0) (by intro h; cases h) (by rfl) (by rfl) (Nat.le_of_ble_eq_true rfl) (by simp [AV.one, DV.one, TF, S, I, BY]) (by rfl) (by rfl) rfl) rfl (by dsimp only [zS, zN, zH, zT]) ?_
          refine zst (op_assign_const (by rfl)) rfl (by dsimp only [zS, zN, zH, zT]) ?_
          refine al_end rfl ?_
          refine then_normal ?_
          refine aw_ret ?_
          refine retC2 rfl (.cells Try.underlying26 (by rfl) Sz26 (by rfl) (setB_at (by rw [setB_ne (by omega), setB_ne (by have := lt_nb e0; omega)]; exact push_ne e0)) (Nat.le_of_ble_eq_true rfl) (by rfl)) (.tmp (by rfl)) ?_
          rw [hres]
          exact ⟨((((hx.push _ _).setB (nb_le hx)).setB (by omega)).setB (Nat.le_refl _)), _, rfl, .inr (setR (by omega) (by rw [setB_ne (by omega)]; exact setB_at (by rw [setB_ne (by have := lt_nb hb; omega)]; exact push_ne hb)) hc hcap hu hxi hxn)⟩
end Go.Proofs.Ytjamnhofbkgblaa
namespace Go.Proofs.Ytjamnhofbkgblaa
open Go.AV Go.AV.Ord Go.AV.Oct
set_option linter.unusedVariables false
set_option linter.unusedSimpArgs false
set_option maxRecDepth 100000 in
theorem onum_ok (Hs : HS) (t : Option Nat) (v : AV) (bs : List UInt8) (q : Int) (hv : App v t 1 (bs.map BY)) (hok : Hs.ok t bs.length) (hn : q ≤ 9223372036854775807) (hb : bs.length + 9 ≤ 140737488355328) : ACalls Try.prog 35 [v, .d (I q)] Hs (Ret (ownB Hs t (bs ++ numB q.toNat)) (upB Hs t (bs ++ numB q.toNat))) := by
 have hz8 := szN_8 hn
 have hzl := numB_len q.toNat
 obtain ⟨x, hx⟩ : ∃ x, q.toNat = x := ⟨_, rfl⟩
 rw [hx] at hz8 hzl ⊢
 refine acalls_of_aw Try.func35 rfl ?_
 refine aw_start (T' := [v, .d (I q), .un, .un, .un, .un, .un, .un, .un, .un, .un, .un, .un, .un, .un, .un, .un, .un, .un, .un, .un, .un, .un, .un, .un, .un, .un, .un, .un, .un, .un, .un, .un, .un, .un, .un, .un, .un, .un, .un, .un]) rfl ?_
 refine aw_seq ?_
 refine aw_region ?_
 refine zst (op_assign_const (by rfl)) rfl (by dsimp only [zS, zN, zH, zT]) ?_
 refine al_end rfl ?_
 refine then_normal ?_
 refine aw_seq ?_
 refine aw_region ?_
 refine zst (op_move_tmp (by rfl)) rfl (by dsimp only [zS, zN, zH, zT]) ?_
 refine zst (op_max (by rfl) (by rfl)) rfl (by dsimp only [zS, zN, zH, zT]) ?_
 refine zst (op_convI (by rw [Try.underlying3]; rfl) Try.underlying94 (by rfl) (show _ = (x : Int) by rw [wrap_u64 (by split <;> omega)]; split <;> omega)) rfl (by dsimp only [zS, zN, zH, zT]) ?_
 refine zst (op_assign_tmp (by rfl)) rfl (by dsimp only [zS, zN, zH, zT]) ?_
 refine al_end rfl ?_
 refine then_normal ?_
 refine aw_seq ?_
 refine aw_region ?_
 refine zst (op_assign_const (by rfl)) rfl (by dsimp only [zS, zN, zH, zT]) ?_
 refine al_end rfl ?_
 refine then_normal ?_
 refine aw_seq ?_
 refine aw_seq ?_
 refine aw_region ?_
 refine zst (op_move_tmp (by rfl)) rfl (by dsimp only [zS, zN, zH, zT]) ?_
 refine zst (op_assign_tmp (by rfl)) rfl (by dsimp only [zS, zN, zH, zT]) ?_
 refine al_end rfl ?_
 refine then_normal ?_
 refine aw_block ?_
 apply aw_loopF (fun n T H => ∃ (y : Nat), T = [v, .un, .un, .un, .un, .d (.v (.int .u64 x)), .d (I (szN x - szN y : Nat)), .d (.v (.int .u64 y)), .un, .un, .un, .un, .un, .un, .un, .un, .un, .un, .un, .un, .un, .un, .un, .un, .un, .un, .un, .un, .un, .un, .un, .un, .un, .un, .un, .un, .un, .un, .un, .un, .un] ∧ szN y ≤ szN x ∧ y ≤ x ∧ n = y ∧ Hs = H) (x) [true, false, false, false, false, true, true, true, false, false, false, false, false, false, false, false, false, false, false, false, false, false, false, false, false, false, false, false, false, false, false, false, false, false, false, false, false, false, false, false, false]
 · (try dsimp only [maskT]); try exact rfl
 · rfl
 · exact ⟨x, by rw [Nat.sub_self]; rfl, Nat.le_refl _, Nat.le_refl _, rfl, rfl⟩
 rintro n T H ⟨y, rfl, hy, hyn, hm, rfl⟩
 refine aw_seq ?_
 refine aw_seq ?_
 refine aw_region ?_
 refine zst (op_move_tmp (by rfl)) rfl (by dsimp only [zS, zN, zH, zT]) ?_
 refine zst (op_gtI (by rfl) (by rfl)) rfl (by dsimp only [zS, zN, zH, zT]) ?_
 refine al_end rfl ?_
 refine then_normal ?_
 refine aw_cond rfl (fun hc1 => ?_) (fun hc1 => ?_)
 ·
  (try simp only [y1, y2, y3, y4, y5, y6, y7, y8, y9, y0, List.length_map] at hc1)
  have hy0 : y ≠ 0 := by omega
  have hsy := szN_pos hy0
  refine aw_skip ?_
  refine then_normal ?_
  refine aw_seq ?_
  refine aw_block ?_
  refine aw_region ?_
  refine zst (op_move_tmp (by rfl)) rfl (by dsimp only [zS, zN, zH, zT]) ?_
  refine zst (by first | exact op_add (by rfl) (by rfl) (wrap_i64 ⟨by omega, by omega⟩) | exact op_add (by rfl) (by rfl) (by rfl)) rfl (by dsimp only [zS, zN, zH, zT]) ?_
  refine zst (op_assign_tmp (by rfl)) rfl (by dsimp only [zS, zN, zH, zT]) ?_
  refine al_end rfl ?_
  refine inBlock_normal (then_normal ?_)
  refine aw_region ?_
  refine zst (op_move_tmp (by rfl)) rfl (by dsimp only [zS, zN, zH, zT]) ?_
  refine zst (op_shr (by rfl) (by rfl) (by omega) (shr8 _)) rfl (by dsimp only [zS, zN, zH, zT]) ?_
  refine zst (op_assign_tmp (by rfl)) rfl (by dsimp only [zS, zN, zH, zT]) ?_
  refine al_end rfl ?_
  apply again_to (y / 256) [true, false, false, false, false, true, true, true, false, false, false, false, false, false, false, false, false, false, false, false, false, false, false, false, false, false, false, false, false, false, false, false, false, false, false, false, false, false, false, false, false]
  · (try dsimp only [maskT]); try exact rfl
  · rfl
  · omega
  exact ⟨y / 256, by rw [show szN x - szN (y / 256) = szN x - szN y + 1 by omega]; rfl, by omega, by omega, rfl, rfl⟩
 ·
  (try simp only [y1, y2, y3, y4, y5, y6, y7, y8, y9, y0, List.length_map] at hc1)
  have hy0 : y = 0 := by omega
  subst hy0
  rw [szN_zero, Nat.sub_zero]
  refine aw_exit ?_
  refine then_exit (again_exit (inBlock_here (then_normal ?_)))
  refine aw_seq ?_
  refine aw_region ?_
  refine zst (op_move_tmp (by rfl)) rfl (by dsimp only [zS, zN, zH, zT]) ?_
  refine zst (op_move_tmp (by rfl)) rfl (by dsimp only [zS, zN, zH, zT]) ?_
  refine zst (op_convI (by rw [Try.underlying3]; rfl) Try.underlying5 (by rfl) (conv_byte _)) rfl (by dsimp only [zS, zN, zH, zT]) ?_
  refine zst (op_lit Try.underlying70 ZS5 (.cons (by rfl) (.nil _)) (by rfl) (by simp [BY, S, I, TF, DV.cells]) (by simp [flat, BY, S, I, TF, DV.cells, DV.one]) (by decide)) rfl (by dsimp only [zS, zN, zH, zT]) ?_
  refine zst (op_append Try.underlying70 Inf5 (by rfl) hv (.list _ _ _ _ Try.underlying70 (LL.own _ _ _)) (by simpa using hok) (by simp) (by simp <;> omega) (by simp <;> omega)) rfl (by dsimp only [zS, zN, zH, zT]) ?_
  refine zst (op_assign_tmp (by rfl)) rfl (by dsimp only [zS, zN, zH, zT]) ?_
  refine al_end rfl ?_
  refine then_normal ?_
  refine aw_seq ?_
  refine aw_seq ?_
  refine aw_region ?_
  refine zst (op_move_tmp (by rfl)) rfl (by dsimp only [zS, zN, zH, zT]) ?_
  refine zst (op_move_const (by rfl)) rfl (by dsimp only [zS, zN, zH, zT]) ?_
  refine al_end rfl ?_
  refine then_normal ?_
  refine aw_block ?_
  apply aw_loopF (fun n T H => ∃ (k : Nat) (v' : AV), T = [v', .un, .un, .un, .un, .d (.v (.int .u64 x)), .d (I (szN x)), .un, .un, .un, .un, .un, .un, .un, .un, .un, .un, .un, .un, .un, .un, .un, .un, .un, .d (I (szN x)), .d (I k), .un, .un, .un, .un, .un, .un, .un, .un, .un, .un, .un, .un, .un, .un, .un] ∧ k ≤ szN x ∧ n = szN x - k ∧ Grew Hs t v bs v' H ((numB x).take (k + 1))) (szN x) [true, false, false, false, false, true, true, false, false, false, false, false, false, false, false, false, false, false, false, false, false, false, false, false, true, true, false, false, false, false, false, false, false, false, false, false, false, false, false, false, false]
  · (try dsimp only [maskT]); try exact rfl
  · rfl
  · exact ⟨0, _, rfl, by omega, rfl, Grew.mk (Heir.refl Hs t) (by rw [show (numB x).take (0 + 1) = [UInt8.ofNat (szN x)] from numB_take x, numB_mod hz8]; simp [BY]) (by rw [show (numB x).take (0 + 1) = [UInt8.ofNat (szN x)] from numB_take x]; simp)⟩
  rintro n T H ⟨k, v', rfl, hk, hm, hG⟩
  obtain ⟨t', hApp, hHeir, hOk⟩ := hG.use hv hok
  have hT : ((numB x).take (k + 1)).length = k + 1 := by simp; omega
  refine aw_seq ?_
  refine aw_region ?_
  refine zst (op_ltI (by rfl) (by rfl)) rfl (by dsimp only [zS, zN, zH, zT]) ?_
  refine al_end rfl ?_
  refine then_normal ?_
  refine aw_seq ?_
  refine aw_cond rfl (fun hc2 => ?_) (fun hc2 => ?_)
  ·
   (try simp only [y1, y2, y3, y4, y5, y6, y7, y8, y9, y0, List.length_map] at hc2)
   have hlt : k < szN x := by omega
   refine aw_skip ?_
   refine then_normal ?_
   refine aw_seq ?_
   refine aw_block ?_
   refine aw_seq ?_
   refine aw_region ?_
   refine zst (op_move_tmp (by rfl)) rfl (by dsimp only [zS, zN, zH, zT]) ?_
   refine zst (op_assign_tmp (by rfl)) rfl (by dsimp only [zS, zN, zH, zT]) ?_
   refine al_end rfl ?_
   refine then_normal ?_
   refine aw_region ?_
   refine zst (op_move_tmp (by rfl)) rfl (by dsimp only [zS, zN, zH, zT]) ?_
   refine zst (op_move_tmp (by rfl)) rfl (by dsimp only [zS, zN, zH, zT]) ?_
   refine zst (op_move_tmp (by rfl)) rfl (by dsimp only [zS, zN, zH, zT]) ?_
   refine zst (by first | exact op_sub (by rfl) (by rfl) (wrap_i64 ⟨by omega, by omega⟩) | exact op_sub (by rfl) (by rfl) (by rfl)) rfl (by dsimp only [zS, zN, zH, zT]) ?_
   refine zst (op_move_tmp (by rfl)) rfl (by dsimp only [zS, zN, zH, zT]) ?_
   refine zst (by first | exact op_sub (by rfl) (by rfl) (wrap_i64 ⟨by omega, by omega⟩) | exact op_sub (by rfl) (by rfl) (by rfl)) rfl (by dsimp only [zS, zN, zH, zT]) ?_
   refine zst (by first | exact op_mul (by rfl) (by rfl) (wrap_i64 ⟨by omega, by omega⟩) | exact op_mul (by rfl) (by rfl) (by rfl)) rfl (by dsimp only [zS, zN, zH, zT]) ?_
   refine zst (op_shr (by rfl) (by rfl) (by omega) (shr_at _ hlt hz8)) rfl (by dsimp only [zS, zN, zH, zT]) ?_
   refine zst (op_convI (by rw [Try.underlying94]; rfl) Try.underlying5 (by rfl) (conv_byte _)) rfl (by dsimp only [zS, zN, zH, zT]) ?_
   refine zst (op_lit Try.underlying70 ZS5 (.cons (by rfl) (.nil _)) (by rfl) (by simp [BY, S, I, TF, DV.cells]) (by simp [flat, BY, S, I, TF, DV.cells, DV.one]) (by decide)) rfl (by dsimp only [zS, zN, zH, zT]) ?_
   refine zst (op_append Try.underlying70 Inf5 (by rfl) hApp (.list _ _ _ _ Try.underlying70 (LL.own _ _ _)) (by simpa using hOk) (by simp) (by simp <;> omega) (by simp <;> omega)) rfl (by dsimp only [zS, zN, zH, zT]) ?_
   refine zst (op_assign_tmp (by rfl)) rfl (by dsimp only [zS, zN, zH, zT]) ?_
   refine al_end rfl ?_
   refine inBlock_normal (then_normal ?_)
   refine aw_region ?_
   refine zst (by first | exact op_add (by rfl) (by rfl) (wrap_i64 ⟨by omega, by omega⟩) | exact op_add (by rfl) (by rfl) (by rfl)) rfl (by dsimp only [zS, zN, zH, zT]) ?_
   refine zst (op_move_tmp (by rfl)) rfl (by dsimp only [zS, zN, zH, zT]) ?_
   refine al_end rfl ?_
   apply again_to (szN x - (k + 1)) [true, false, false, false, false, true, true, false, false, false, false, false, false, false, false, false, false, false, false, false, false, false, false, false, true, true, false, false, false, false, false, false, false, false, false, false, false, false, false, false, false]
   · (try dsimp only [maskT]); try exact rfl
   · rfl
   · omega
   exact ⟨k + 1, _, rfl, by omega, rfl, Grew.mk hHeir (by rw [take_snoc (numB_get hlt)]; simp [BY]) (by rw [take_snoc (numB_get hlt)]; simp <;> omega)⟩
  ·
   (try simp only [y1, y2, y3, y4, y5, y6, y7, y8, y9, y0, List.length_map] at hc2)
   have hke : k = szN x := by omega
   subst hke
   rw [List.take_of_length_le (by omega)] at hG
   refine aw_exit ?_
   refine then_exit (again_exit (inBlock_here (then_normal ?_)))
   refine aw_seq ?_
   refine aw_region ?_
   refine zst (op_move_tmp (by rfl)) rfl (by dsimp only [zS, zN, zH, zT]) ?_
   refine zst (op_assign_tmp (by rfl)) rfl (by dsimp only [zS, zN, zH, zT]) ?_
   refine al_end rfl ?_
   refine then_normal ?_
   refine aw_ret ?_
   refine retPost1 rfl rfl ?_
   exact hG.ret (by intro e; rw [e] at hzl; cases hzl)
set_option maxRecDepth 100000 in
theorem otext_ok (Hs : HS) (t : Option Nat) (v : AV) (bs : List UInt8) (s : List UInt8) (hv : App v t 1 (bs.map BY)) (hok : Hs.ok t bs.length) (hb : bs.length + s.length + 9 ≤ 140737488355328) : ACalls Try.prog 36 [v, .d (S s)] Hs (Ret (ownB Hs t (bs ++ textB s)) (upB Hs t (bs ++ textB s))) := by
 have hz8 := szN_8 (n := s.length) (by omega)
 have hzl := numB_len s.length
 rw [show ((s.length : Nat) : Int).toNat = s.length from rfl] at hz8
 have hnum := onum_ok Hs t v bs s.length hv hok (by omega) (by omega)
 rw [show ((s.length : Nat) : Int).toNat = s.length from rfl] at hnum
 rw [show bs ++ textB s = (bs ++ numB s.length) ++ s by simp [textB]]
 refine acalls_of_aw Try.func36 rfl ?_
 refine aw_start (T' := [v, .d (S s), .un, .un, .un, .un, .un, .un, .un, .un, .un]) rfl ?_
 refine aw_seq ?_
 refine aw_region ?_
 refine zst (op_assign_const (by rfl)) rfl (by dsimp only [zS, zN, zH, zT]) ?_
 refine al_end rfl ?_
 refine then_normal ?_
 refine aw_seq ?_
 refine aw_region ?_
 refine zst (op_move_tmp (by rfl)) rfl (by dsimp only [zS, zN, zH, zT]) ?_
 refine zst (op_move_tmp (by rfl)) rfl (by dsimp only [zS, zN, zH, zT]) ?_
 refine zst (op_lenS Try.underlying9 (by rfl)) rfl (by dsimp only [zS, zN, zH, zT]) ?_
 refine zst (op_callF Try.func35 (by rfl) (by rfl) (.tmp (by rfl) (.tmp (by rfl) .nil)) (hnum)) rfl (by dsimp only [zS, zN, zH, zT]) ?_
 refine zst (op_move_tmp (by rfl)) rfl (by dsimp only [zS, zN, zH, zT]) ?_
 refine zst (op_appendO Try.underlying70 Inf5 (by rfl) (by rfl) (.str s Try.underlying9) rfl hok (by simp; omega)) rfl (by dsimp only [zS, zN, zH, zT]) ?_
 refine zst (op_assign_tmp (by rfl)) rfl (by dsimp only [zS, zN, zH, zT]) ?_
 refine al_end rfl ?_
 refine then_normal ?_
 refine aw_ret ?_
 refine retPost1 rfl rfl ?_
 exact ⟨rfl, rfl⟩
set_option maxRecDepth 100000 in
theorem oflag_ok (Hs : HS) (t : Option Nat) (v : AV) (bs : List UInt8) (b : Bool) (hv : App v t 1 (bs.map BY)) (hok : Hs.ok t bs.length) (hb : bs.length + 1 ≤ 140737488355328) : ACalls Try.prog 55 [v, .d (TF b)] Hs (Ret (ownB Hs t (bs ++ flagB b)) (upB Hs t (bs ++ flagB b))) := by
 refine acalls_of_aw Try.func55 rfl ?_
 refine aw_start (T' := [v, .d (TF b), .un, .un, .un, .un, .un, .un, .un, .un, .un, .un]) rfl ?_
 refine aw_seq ?_
 refine aw_region ?_
 refine zst (op_assign_const (by rfl)) rfl (by dsimp only [zS, zN, zH, zT]) ?_
 refine al_end rfl ?_
 refine then_normal ?_
 refine aw_seq ?_
 refine aw_seq ?_
 refine aw_region ?_
 refine zst (op_move_tmp (by rfl)) rfl (by dsimp only [zS, zN, zH, zT]) ?_
 refine al_end rfl ?_
 refine then_normal ?_
 refine aw_cond rfl (fun hc1 => ?_) (fun hc1 => ?_)
 ·
  (try simp only [y1, y2, y3, y4, y5, y6, y7, y8, y9, y0, List.length_map] at hc1)
  have hb1 : b = true := hc1
  subst hb1
  refine aw_seq ?_
  refine aw_region ?_
  refine zst (op_move_tmp (by rfl)) rfl (by dsimp only [zS, zN, zH, zT]) ?_
  refine zst (op_lit Try.underlying70 ZS5 (.cons (by rfl) (.nil _)) (by rfl) (by simp [BY, S, I, TF, DV.cells]) (by simp [flat, BY, S, I, TF, DV.cells, DV.one]) (by decide)) rfl (by dsimp only [zS, zN, zH, zT]) ?_
  refine zst (op_append Try.underlying70 Inf5 (by rfl) hv (.list _ _ _ _ Try.underlying70 (LL.own _ _ _)) (by simpa using hok) (by simp) (by simp <;> omega) (by simp <;> omega)) rfl (by dsimp only [zS, zN, zH, zT]) ?_
  refine zst (op_assign_tmp (by rfl)) rfl (by dsimp only [zS, zN, zH, zT]) ?_
  refine al_end rfl ?_
  refine then_normal ?_
  refine aw_ret ?_
  refine then_ret ?_
  refine retPost1 rfl rfl ?_
  exact ⟨by simp [ownB, flagB, BY], by simp [upB, flagB]⟩
 ·
  (try simp only [y1, y2, y3, y4, y5, y6, y7, y8, y9, y0, List.length_map] at hc1)
  have hb1 : b = false := hc1
  subst hb1
  refine aw_skip ?_
  refine then_normal ?_
  refine aw_seq ?_
  refine aw_region ?_
  refine zst (op_move_tmp (by rfl)) rfl (by dsimp only [zS, zN, zH, zT]) ?_
  refine zst (op_lit Try.underlying70 ZS5 (.cons (by rfl) (.nil _)) (by rfl) (by simp [BY, S, I, TF, DV.cells]) (by simp [flat, BY, S, I, TF, DV.cells, DV.one]) (by decide)) rfl (by dsimp only [zS, zN, zH, zT]) ?_
  refine zst (op_append Try.underlying70 Inf5 (by rfl) hv (.list _ _ _ _ Try.underlying70 (LL.own _ _ _)) (by simpa using hok) (by simp) (by simp <;> omega) (by simp <;> omega)) rfl (by dsimp only [zS, zN, zH, zT]) ?_
  refine zst (op_assign_tmp (by rfl)) rfl (by dsimp only [zS, zN, zH, zT]) ?_
  refine al_end rfl ?_
  refine then_normal ?_
  refine aw_ret ?_
  refine retPost1 rfl rfl ?_
  exact ⟨by simp [ownB, flagB, BY], by simp [upB, flagB]⟩
end Go.Proofs.Ytjamnhofbkgblaa
