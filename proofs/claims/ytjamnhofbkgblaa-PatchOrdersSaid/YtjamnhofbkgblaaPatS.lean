/- What an operation comes to. -/
import Derived.Test.YtjamnhofbkgblaaPatO
import Derived.Test.YtjamnhofbkgblaaValU1
import Derived.Test.YtjamnhofbkgblaaPatchBnd
import Derived.KernelRfl
namespace Go.Proofs.Ytjamnhofbkgblaa
open Go.AV Go.AV.Ord Go.AV.Oct Go.AV.Val Go.AV.Patch
set_option linter.unusedVariables false
set_option linter.unusedSimpArgs false
/- The sum of two numbers, and whether it is one. -/
set_option maxRecDepth 100000 in
theorem padd_ok (Hs : HS) (a b : Int) : ACalls Try.prog 62 [.d (I a), .d (I b)] Hs (Ret (.tup [.d (I (addI a b).1), .d (TF (addI a b).2)]) Hs) := by
 refine acalls_of_aw Try.func62 rfl ?_
 refine aw_start (T' := [.d (I a), .d (I b), .un, .un, .un, .un, .un, .un, .un, .un, .un, .un, .un, .un, .un, .un, .un]) rfl ?_
 refine aw_seq ?_
 refine aw_region ?_
 refine zst (op_assign_const (by rfl)) rfl (by dsimp only [zS, zN, zH, zT]) ?_
 refine zst (op_assign_const (by rfl)) rfl (by dsimp only [zS, zN, zH, zT]) ?_
 refine al_end rfl ?_
 refine then_normal ?_
 refine aw_seq ?_
 refine aw_region ?_
 refine zst (op_move_tmp (by rfl)) rfl (by dsimp only [zS, zN, zH, zT]) ?_
 refine zst (op_move_tmp (by rfl)) rfl (by dsimp only [zS, zN, zH, zT]) ?_
 refine zst (op_add (by rfl) (by rfl) (by rfl)) rfl (by dsimp only [zS, zN, zH, zT]) ?_
 refine zst (op_assign_tmp (by rfl)) rfl (by dsimp only [zS, zN, zH, zT]) ?_
 refine al_end rfl ?_
 refine then_normal ?_
 refine aw_seq ?_
 refine aw_region ?_
 refine zst (op_move_tmp (by rfl)) rfl (by dsimp only [zS, zN, zH, zT]) ?_
 refine zst (op_move_tmp (by rfl)) rfl (by dsimp only [zS, zN, zH, zT]) ?_
 refine zst (op_move_tmp (by rfl)) rfl (by dsimp only [zS, zN, zH, zT]) ?_
 refine zst (op_gtI (by rfl) (by rfl)) rfl (by dsimp only [zS, zN, zH, zT]) ?_
 refine zst (op_move_tmp (by rfl)) rfl (by dsimp only [zS, zN, zH, zT]) ?_
 refine zst (op_gtI (by rfl) (by rfl)) rfl (by dsimp only [zS, zN, zH, zT]) ?_
 refine zst (op_eqB Try.underlying4 (by rfl) (by rfl)) rfl (by dsimp only [zS, zN, zH, zT]) ?_
 refine zst (op_assign_tmp (by rfl)) rfl (by dsimp only [zS, zN, zH, zT]) ?_
 refine zst (op_assign_tmp (by rfl)) rfl (by dsimp only [zS, zN, zH, zT]) ?_
 refine al_end rfl ?_
 refine then_normal ?_
 refine aw_ret ?_
 refine retPost2 rfl rfl rfl ?_
 exact ⟨rfl, rfl⟩
/- What is done at the end of a path. -/
set_option maxRecDepth 100000 in
theorem plast_ok (Hs : HS) (o : Opn) (v : V) (n0 : List UInt8) (hl : v.fields.length ≤ 90000) : ACalls Try.prog 42 [.d (oD o), .d (.agg (vC v)), .d (S n0)] Hs (Ret (.tup [.d (.agg (vC (lastV o v n0).1)), .d (I (lastV o v n0).2)]) Hs) := by
 refine ACalls.tidyT (xs := [.agg (vC (lastV o v n0).1), I (lastV o v n0).2]) ?_
 refine acalls_of_awCW Try.func42 rfl ?_
 refine aw_start (T' := [.d (oD o), .d (.agg (vC v)), .d (S n0), .un, .un, .un, .un, .un, .un, .un, .un, .un, .un, .un, .un, .un, .un, .un, .un, .un, .un, .un, .un, .un, .un, .un, .un, .un, .un, .un, .un, .un, .un, .un, .un, .un, .un, .un, .un, .un, .un, .un, .un, .un, .un, .un, .un, .un, .un, .un, .un, .un, .un, .un, .un, .un, .un, .un, .un]) rfl ?_
 refine aw_seq ?_
 refine aw_region ?_
 refine zst (op_box_elt (cs := [I o.kind, .lst 1 (o.path.map S), I o.val.kind, TF o.val.yes, .v (.int .i64 o.val.num), S o.val.text, .lst 6 (o.val.list.map vD), .lst 7 (o.val.fields.map fD)]) (by rfl) (by rfl)) rfl (by dsimp only [zS, zN, zH, zT]) ?_
 refine zst (op_box_elt (cs := [I v.kind, TF v.yes, .v (.int .i64 v.num), S v.text, .lst 6 (v.list.map vD), .lst 7 (v.fields.map fD)]) (by rfl) (vD_cells v)) rfl (by dsimp only [zS, zN, zH, zT]) ?_
 refine zst (op_alloc (Zr26) (by rfl)) rfl (by dsimp only [zS, zN, zH, zT]) ?_
 refine zst (op_assign_const (by rfl)) rfl (by dsimp only [zS, zN, zH, zT]) ?_
 refine al_end rfl ?_
 refine then_normal ?_
 refine aw_seq ?_
 refine aw_region ?_
 refine zst (op_load_elts (ds := vC v) Try.underlying26 (by rfl) Sz26 (by rfl) (Nat.le_of_ble_eq_true rfl) (by rw [vC_eq]; rfl)) rfl (by dsimp only [zS, zN, zH, zT]) ?_
 refine zst (op_move_tmp (by rfl)) rfl (by dsimp only [zS, zN, zH, zT]) ?_
 refine zst (op_callF Try.func13 (by rfl) (by rfl) (.tmp (by rfl) (.tmp (by rfl) .nil)) (get_ok _ v n0 (by omega))) rfl (by dsimp only [zS, zN, zH, zT]) ?_
 refine zst (op_move_tmp (by rfl)) rfl (by dsimp only [zS, zN, zH, zT]) ?_
 refine zst (op_extract (by rfl) (by rfl)) rfl (by dsimp only [zS, zN, zH, zT]) ?_
 refine zst (op_extract (by rfl) (by rfl)) rfl (by dsimp only [zS, zN, zH, zT]) ?_
 refine zst (op_alloc (Zr26) (by rfl)) rfl (by dsimp only [zS, zN, zH, zT]) ?_
 refine zst (op_stV (getV v n0).1 Sz26 (by rfl) push_at (by first | exact VBl.z _ | exact VBl.v _ _) (by rfl)) rfl (by dsimp only [zS, zN, zH, zT]) ?_
 refine zst (op_assign_tmp (by rfl)) rfl (by dsimp only [zS, zN, zH, zT]) ?_
 refine al_end rfl ?_
 refine then_normal ?_
 refine aw_seq ?_
 refine aw_block ?_
 refine aw_seq ?_
 refine aw_region ?_
 refine zst (by first | exact op_fieldAddr_ptr Try.underlying36 rfl Sz33 (by rfl) (by rfl) | exact op_fieldAddr_elt Try.underlying36 rfl Sz33 (by rfl) (by rfl) (by rfl)) rfl (by dsimp only [zS, zN, zH, zT]) ?_
 refine zst (by first | exact op_load_elt Try.underlying33 (by rfl) (by rfl) (by rfl) | exact op_load_ptr Try.underlying33 (by rfl) (by rfl) (by rfl) (by rfl)) rfl (by dsimp only [zS, zN, zH, zT]) ?_
 refine zst (op_eqI (by rfl) (by rfl)) rfl (by dsimp only [zS, zN, zH, zT]) ?_
 refine zst (op_assign_tmp (by rfl)) rfl (by dsimp only [zS, zN, zH, zT]) ?_
 refine al_end rfl ?_
 refine then_normal ?_
 refine aw_cond rfl (fun hc1 => ?_) (fun hc1 => ?_)
 ·
  (try simp only [y1, y2, y3, y4, y5, y6, y7, y8, y9, y0, List.length_map] at hc1)
  have h1 : o.kind = 1 := hc1
  refine aw_seq ?_
  refine aw_region ?_
  refine zst (op_load_elts (ds := vC v) Try.underlying26 (by rfl) Sz26 (by rfl) (Nat.le_of_ble_eq_true rfl) (by rw [vC_eq]; rfl)) rfl (by dsimp only [zS, zN, zH, zT]) ?_
  refine zst (op_move_tmp (by rfl)) rfl (by dsimp only [zS, zN, zH, zT]) ?_
  refine zst (by first | exact op_fieldAddr_ptr Try.underlying36 rfl Sz26 (by rfl) (by rfl) | exact op_fieldAddr_elt Try.underlying36 rfl Sz26 (by rfl) (by rfl) (by rfl)) rfl (by dsimp only [zS, zN, zH, zT]) ?_
  refine zst (op_load_elts (ds := vC o.val) Try.underlying26 (by rfl) Sz26 (by rfl) (Nat.le_of_ble_eq_true rfl) (by rw [vC_eq]; rfl)) rfl (by dsimp only [zS, zN, zH, zT]) ?_
  refine zst (op_callF Try.func43 (by rfl) (by rfl) (.tmp (by rfl) (.tmp (by rfl) (.tmp (by rfl) .nil))) (with_ok _ v n0 o.val hl)) rfl (by dsimp only [zS, zN, zH, zT]) ?_
  refine zst (op_stV (withV v n0 o.val) Sz26 (by rfl) (by rw [setB_ne (by rw [push_nb]; omega)]; exact push_ne push_at) (by first | exact VBl.z _ | exact VBl.v _ _) (by rfl)) rfl (by dsimp only [zS, zN, zH, zT]) ?_
  refine zst (op_assign_const (by rfl)) rfl (by dsimp only [zS, zN, zH, zT]) ?_
  refine al_end rfl ?_
  refine then_normal ?_
  refine aw_ret ?_
  refine inBlock_ret (then_ret ?_)
  refine retD2 rfl (resV _ Try.underlying26 (by rfl) Sz26 (by rfl) (setB_at (by rw [setB_ne (by rw [push_nb]; omega)]; exact push_ne push_at)) (VBl.v _ _)) (.tmp (by rfl)) ?_
  exact ⟨by unfold lastV; rw [if_pos h1]; rfl, ((((Ext.refl Hs).push _ _).push _ _).setB (by rw [push_nb]; omega)).setB (Nat.le_refl _)⟩
 ·
  (try simp only [y1, y2, y3, y4, y5, y6, y7, y8, y9, y0, List.length_map] at hc1)
  have h1 : ¬ o.kind = 1 := hc1
  refine aw_seq ?_
  refine aw_region ?_
  refine zst (op_move_tmp (by rfl)) rfl (by dsimp only [zS, zN, zH, zT]) ?_
  refine zst (op_not (by rfl)) rfl (by dsimp only [zS, zN, zH, zT]) ?_
  refine zst (op_assign_tmp (by rfl)) rfl (by dsimp only [zS, zN, zH, zT]) ?_
  refine al_end rfl ?_
  refine then_normal ?_
  refine aw_cond rfl (fun hc2 => ?_) (fun hc2 => ?_)
  ·
   (try simp only [y1, y2, y3, y4, y5, y6, y7, y8, y9, y0, List.length_map] at hc2)
   have h2 : (getV v n0).2 = false := hc2
   refine aw_seq ?_
   refine aw_region ?_
   refine zst (op_zeroV (pl := [(0, 1), (1, 1), (2, 1), (3, 1), (4, 1), (5, 1)]) Try.underlying26 Zr26 (by kernel_rfl) (by rfl)) rfl (by dsimp only [zS, zN, zH, zT]) ?_
   refine zst (op_stV V0 Sz26 (by rfl) (by rw [setB_ne (by rw [push_nb]; omega)]; exact push_ne push_at) (by first | exact VBl.z _ | exact VBl.v _ _) (by rfl)) rfl (by dsimp only [zS, zN, zH, zT]) ?_
   refine zst (op_assign_const (by rfl)) rfl (by dsimp only [zS, zN, zH, zT]) ?_
   refine al_end rfl ?_
   refine then_normal ?_
   refine aw_ret ?_
   refine inBlock_ret (then_ret ?_)
   refine retD2 rfl (resV _ Try.underlying26 (by rfl) Sz26 (by rfl) (setB_at (by rw [setB_ne (by rw [push_nb]; omega)]; exact push_ne push_at)) (VBl.v _ _)) (.tmp (by rfl)) ?_
   exact ⟨by unfold lastV; rw [if_neg h1, if_pos h2]; rfl, ((((Ext.refl Hs).push _ _).push _ _).setB (by rw [push_nb]; omega)).setB (Nat.le_refl _)⟩
  ·
   (try simp only [y1, y2, y3, y4, y5, y6, y7, y8, y9, y0, List.length_map] at hc2)
   have h2 : ¬ (getV v n0).2 = false := by rw [show (getV v n0).2 = true from hc2]; decide
   refine aw_seq ?_
   refine aw_region ?_
   refine zst (by first | exact op_fieldAddr_ptr Try.underlying36 rfl Sz33 (by rfl) (by rfl) | exact op_fieldAddr_elt Try.underlying36 rfl Sz33 (by rfl) (by rfl) (by rfl)) rfl (by dsimp only [zS, zN, zH, zT]) ?_
   refine zst (by first | exact op_load_elt Try.underlying33 (by rfl) (by rfl) (by rfl) | exact op_load_ptr Try.underlying33 (by rfl) (by rfl) (by rfl) (by rfl)) rfl (by dsimp only [zS, zN, zH, zT]) ?_
   refine zst (op_eqI (by rfl) (by rfl)) rfl (by dsimp only [zS, zN, zH, zT]) ?_
   refine zst (op_assign_tmp (by rfl)) rfl (by dsimp only [zS, zN, zH, zT]) ?_
   refine al_end rfl ?_
   refine then_normal ?_
   refine aw_cond rfl (fun hc3 => ?_) (fun hc3 => ?_)
   ·
    (try simp only [y1, y2, y3, y4, y5, y6, y7, y8, y9, y0, List.length_map] at hc3)
    have h3 : o.kind = 2 := hc3
    refine aw_seq ?_
    refine aw_region ?_
    refine zst (op_load_elts (ds := vC v) Try.underlying26 (by rfl) Sz26 (by rfl) (Nat.le_of_ble_eq_true rfl) (by rw [vC_eq]; rfl)) rfl (by dsimp only [zS, zN, zH, zT]) ?_
    refine zst (op_move_tmp (by rfl)) rfl (by dsimp only [zS, zN, zH, zT]) ?_
    refine zst (op_callF Try.func61 (by rfl) (by rfl) (.tmp (by rfl) (.tmp (by rfl) .nil)) (without_ok _ v n0 (by omega))) rfl (by dsimp only [zS, zN, zH, zT]) ?_
    refine zst (op_stV (withoutV v n0) Sz26 (by rfl) (by rw [setB_ne (by rw [push_nb]; omega)]; exact push_ne push_at) (by first | exact VBl.z _ | exact VBl.v _ _) (by rfl)) rfl (by dsimp only [zS, zN, zH, zT]) ?_
    refine zst (op_assign_const (by rfl)) rfl (by dsimp only [zS, zN, zH, zT]) ?_
    refine al_end rfl ?_
    refine then_normal ?_
    refine aw_ret ?_
    refine inBlock_ret (then_ret ?_)
    refine retD2 rfl (resV _ Try.underlying26 (by rfl) Sz26 (by rfl) (setB_at (by rw [setB_ne (by rw [push_nb]; omega)]; exact push_ne push_at)) (VBl.v _ _)) (.tmp (by rfl)) ?_
    exact ⟨by unfold lastV; rw [if_neg h1, if_neg h2, if_pos h3]; rfl, ((((Ext.refl Hs).push _ _).push _ _).setB (by rw [push_nb]; omega)).setB (Nat.le_refl _)⟩
   ·
    (try simp only [y1, y2, y3, y4, y5, y6, y7, y8, y9, y0, List.length_map] at hc3)
    have h3 : ¬ o.kind = 2 := hc3
    refine aw_skip ?_
    refine inBlock_normal (then_normal ?_)
    refine aw_seq ?_
    refine aw_seq ?_
    refine aw_region ?_
    refine zst (by first | exact op_fieldAddr_ptr Try.underlying26 rfl Sz22 (by rfl) (by rfl) | exact op_fieldAddr_elt Try.underlying26 rfl Sz22 (by rfl) (by rfl) (by rfl)) rfl (by dsimp only [zS, zN, zH, zT]) ?_
    refine zst (op_ldV1 Try.underlying22 (by rfl) (by rfl) (setB_at push_at) (VBl.v _ _) (by rfl)) rfl (by dsimp only [zS, zN, zH, zT]) ?_
    refine zst (op_neI (by rfl) (by rfl)) rfl (by dsimp only [zS, zN, zH, zT]) ?_
    refine al_end rfl ?_
    refine then_normal ?_
    refine aw_cond rfl (fun hc4 => ?_) (fun hc4 => ?_)
    ·
     (try simp only [y1, y2, y3, y4, y5, y6, y7, y8, y9, y0, List.length_map] at hc4)
     have h4 : (getV v n0).1.kind ≠ 2 := hc4
     refine aw_seq ?_
     refine aw_region ?_
     refine zst (op_zeroV (pl := [(0, 1), (1, 1), (2, 1), (3, 1), (4, 1), (5, 1)]) Try.underlying26 Zr26 (by kernel_rfl) (by rfl)) rfl (by dsimp only [zS, zN, zH, zT]) ?_
     refine zst (op_stV V0 Sz26 (by rfl) (by rw [setB_ne (by rw [push_nb]; omega)]; exact push_ne push_at) (by first | exact VBl.z _ | exact VBl.v _ _) (by rfl)) rfl (by dsimp only [zS, zN, zH, zT]) ?_
     refine zst (op_assign_const (by rfl)) rfl (by dsimp only [zS, zN, zH, zT]) ?_
     refine al_end rfl ?_
     refine then_normal ?_
     refine aw_ret ?_
     refine then_ret ?_
     refine retD2 rfl (resV _ Try.underlying26 (by rfl) Sz26 (by rfl) (setB_at (by rw [setB_ne (by rw [push_nb]; omega)]; exact push_ne push_at)) (VBl.v _ _)) (.tmp (by rfl)) ?_
     exact ⟨by unfold lastV; rw [if_neg h1, if_neg h2, if_neg h3, if_pos h4]; rfl, ((((Ext.refl Hs).push _ _).push _ _).setB (by rw [push_nb]; omega)).setB (Nat.le_refl _)⟩
    ·
     (try simp only [y1, y2, y3, y4, y5, y6, y7, y8, y9, y0, List.length_map] at hc4)
     have h4 : ¬ (getV v n0).1.kind ≠ 2 := fun h => h hc4
     refine aw_skip ?_
     refine then_normal ?_
     refine aw_seq ?_
     refine aw_region ?_
     refine zst (by first | exact op_fieldAddr_ptr Try.underlying26 rfl Sz2 (by rfl) (by rfl) | exact op_fieldAddr_elt Try.underlying26 rfl Sz2 (by rfl) (by rfl) (by rfl)) rfl (by dsimp only [zS, zN, zH, zT]) ?_
     refine zst (op_ldV1 Try.underlying2 (by rfl) (by rfl) (setB_at push_at) (VBl.v _ _) (by rfl)) rfl (by dsimp only [zS, zN, zH, zT]) ?_
     refine zst (by first | exact op_fieldAddr_ptr Try.underlying36 rfl Sz26 (by rfl) (by rfl) | exact op_fieldAddr_elt Try.underlying36 rfl Sz26 (by rfl) (by rfl) (by rfl)) rfl (by dsimp only [zS, zN, zH, zT]) ?_
     refine zst (by first | exact op_fieldAddr_ptr Try.underlying26 rfl Sz2 (by rfl) (by rfl) | exact op_fieldAddr_elt Try.underlying26 rfl Sz2 (by rfl) (by rfl) (by rfl)) rfl (by dsimp only [zS, zN, zH, zT]) ?_
     refine zst (by first | exact op_load_elt Try.underlying2 (by rfl) (by rfl) (by rfl) | exact op_load_ptr Try.underlying2 (by rfl) (by rfl) (by rfl) (by rfl)) rfl (by dsimp only [zS, zN, zH, zT]) ?_
     refine zst (op_callF Try.func62 (by rfl) (by rfl) (.tmp (by rfl) (.tmp (by rfl) .nil)) (padd_ok _ _ _)) rfl (by dsimp only [zS, zN, zH, zT]) ?_
     refine zst (op_move_tmp (by rfl)) rfl (by dsimp only [zS, zN, zH, zT]) ?_
     refine zst (op_extract (by rfl) (by rfl)) rfl (by dsimp only [zS, zN, zH, zT]) ?_
     refine zst (op_extract (by rfl) (by rfl)) rfl (by dsimp only [zS, zN, zH, zT]) ?_
     refine zst (op_assign_tmp (by rfl)) rfl (by dsimp only [zS, zN, zH, zT]) ?_
     refine zst (op_assign_tmp (by rfl)) rfl (by dsimp only [zS, zN, zH, zT]) ?_
     refine al_end rfl ?_
     refine then_normal ?_
     refine aw_seq ?_
     refine aw_seq ?_
     refine aw_region ?_
     refine zst (op_move_tmp (by rfl)) rfl (by dsimp only [zS, zN, zH, zT]) ?_
     refine zst (op_not (by rfl)) rfl (by dsimp only [zS, zN, zH, zT]) ?_
     refine al_end rfl ?_
     refine then_normal ?_
     refine aw_cond rfl (fun hc5 => ?_) (fun hc5 => ?_)
     ·
      (try simp only [y1, y2, y3, y4, y5, y6, y7, y8, y9, y0, List.length_map] at hc5)
      have h5 : (addI (getV v n0).1.num o.val.num).2 = false := hc5
      refine aw_seq ?_
      refine aw_region ?_
      refine zst (op_zeroV (pl := [(0, 1), (1, 1), (2, 1), (3, 1), (4, 1), (5, 1)]) Try.underlying26 Zr26 (by kernel_rfl) (by rfl)) rfl (by dsimp only [zS, zN, zH, zT]) ?_
      refine zst (op_stV V0 Sz26 (by rfl) (by rw [setB_ne (by rw [push_nb]; omega)]; exact push_ne push_at) (by first | exact VBl.z _ | exact VBl.v _ _) (by rfl)) rfl (by dsimp only [zS, zN, zH, zT]) ?_
      refine zst (op_assign_const (by rfl)) rfl (by dsimp only [zS, zN, zH, zT]) ?_
      refine al_end rfl ?_
      refine then_normal ?_
      refine aw_ret ?_
      refine then_ret ?_
      refine retD2 rfl (resV _ Try.underlying26 (by rfl) Sz26 (by rfl) (setB_at (by rw [setB_ne (by rw [push_nb]; omega)]; exact push_ne push_at)) (VBl.v _ _)) (.tmp (by rfl)) ?_
      exact ⟨by unfold lastV; rw [if_neg h1, if_neg h2, if_neg h3, if_neg h4, if_pos h5]; rfl, ((((Ext.refl Hs).push _ _).push _ _).setB (by rw [push_nb]; omega)).setB (Nat.le_refl _)⟩
     ·
      (try simp only [y1, y2, y3, y4, y5, y6, y7, y8, y9, y0, List.length_map] at hc5)
      have h5 : ¬ (addI (getV v n0).1.num o.val.num).2 = false := by rw [show (addI (getV v n0).1.num o.val.num).2 = true from hc5]; decide
      refine aw_skip ?_
      refine then_normal ?_
      refine aw_seq ?_
      refine aw_draw [0, 0, 0, 0, 0, 2, 0] mixed (by kernel_rfl) ?_
      refine zd0 (fun H => (op_load_elts (ds := vC v) Try.underlying26 (by rfl) Sz26 (by rfl) (Nat.le_of_ble_eq_true rfl) (by rw [vC_eq]; rfl))) rfl (by dsimp only [zS, zN, zH, zT]) ?_
      refine zd0 (fun H => (op_move_tmp (by rfl))) rfl (by dsimp only [zS, zN, zH, zT]) ?_
      refine zd0 (fun H => (op_move_tmp (by rfl))) rfl (by dsimp only [zS, zN, zH, zT]) ?_
      refine zd0 (fun H => (op_callF Try.func14 (by rfl) (by rfl) (.tmp (by rfl) .nil) (ofInt_ok _ _))) rfl (by dsimp only [zS, zN, zH, zT]) ?_
      refine zd0 (fun H => (op_callF Try.func43 (by rfl) (by rfl) (.tmp (by rfl) (.tmp (by rfl) (.tmp (by rfl) .nil))) (with_ok _ v n0 _ hl))) rfl (by dsimp only [zS, zN, zH, zT]) ?_
      refine zd2 (op_stV (withV v n0 (ofInt (addI (getV v n0).1.num o.val.num).1)) Sz26 (by rfl) (by rw [setB_ne (by rw [push_nb]; omega)]; exact push_ne push_at) (by first | exact VBl.z _ | exact VBl.v _ _) (by rfl)) rfl (by dsimp only [zS, zN, zH, zT]) ?_
      refine zd0 (fun H => (op_assign_const (by rfl))) rfl (by dsimp only [zS, zN, zH, zT]) ?_
      refine drun_end rfl ?_
      refine then_normal ?_
      refine aw_ret ?_
      refine retD2 rfl (resV _ Try.underlying26 (by rfl) Sz26 (by rfl) (setB_at (by rw [setB_ne (by rw [push_nb]; omega)]; exact push_ne push_at)) (VBl.v _ _)) (.tmp (by rfl)) ?_
      exact ⟨by unfold lastV; rw [if_neg h1, if_neg h2, if_neg h3, if_neg h4, if_neg h5]; rfl, ((((Ext.refl Hs).push _ _).push _ _).setB (by rw [push_nb]; omega)).setB (Nat.le_refl _)⟩
/- An operation along a path. -/
set_option maxRecDepth 100000 in
theorem pat_one (Hs : HS) (o : Opn) (v : V) (n0 : List UInt8) (hl : v.fields.length ≤ 90000)  : ACalls Try.prog 27 [.d (oD o), .d (.agg (vC v)), .d (.lst 1 [S n0])] Hs (Ret (.tup [.d (.agg (vC (atV o v [n0]).1)), .d (I (atV o v [n0]).2)]) Hs) := by
 refine ACalls.tidyT (xs := [.agg (vC (atV o v [n0]).1), I (atV o v [n0]).2]) ?_
 refine acalls_of_awCW Try.func27 rfl ?_
 refine aw_start (T' := [.d (oD o), .d (.agg (vC v)), .d (.lst 1 [S n0]), .un, .un, .un, .un, .un, .un, .un, .un, .un, .un, .un, .un, .un, .un, .un, .un, .un, .un, .un, .un, .un, .un, .un, .un, .un, .un, .un, .un, .un, .un, .un, .un, .un, .un, .un, .un, .un, .un, .un, .un, .un, .un, .un, .un, .un, .un, .un, .un, .un, .un, .un, .un, .un, .un]) rfl ?_
 refine aw_seq ?_
 refine aw_region ?_
 refine zst (op_box_elt (cs := [I o.kind, .lst 1 (o.path.map S), I o.val.kind, TF o.val.yes, .v (.int .i64 o.val.num), S o.val.text, .lst 6 (o.val.list.map vD), .lst 7 (o.val.fields.map fD)]) (by rfl) (by rfl)) rfl (by dsimp only [zS, zN, zH, zT]) ?_
 refine zst (op_box_elt (cs := [I v.kind, TF v.yes, .v (.int .i64 v.num), S v.text, .lst 6 (v.list.map vD), .lst 7 (v.fields.map fD)]) (by rfl) (vD_cells v)) rfl (by dsimp only [zS, zN, zH, zT]) ?_
 refine zst (op_alloc (Zr26) (by rfl)) rfl (by dsimp only [zS, zN, zH, zT]) ?_
 refine zst (op_assign_const (by rfl)) rfl (by dsimp only [zS, zN, zH, zT]) ?_
 refine al_end rfl ?_
 refine then_normal ?_
 refine aw_seq ?_
 refine aw_block ?_
 refine aw_seq ?_
 refine aw_region ?_
 refine zst (by first | exact op_fieldAddr_ptr Try.underlying26 rfl Sz22 (by rfl) (by rfl) | exact op_fieldAddr_elt Try.underlying26 rfl Sz22 (by rfl) (by rfl) (by rfl)) rfl (by dsimp only [zS, zN, zH, zT]) ?_
 refine zst (by first | exact op_load_elt Try.underlying22 (by rfl) (by rfl) (by rfl) | exact op_load_ptr Try.underlying22 (by rfl) (by rfl) (by rfl) (by rfl)) rfl (by dsimp only [zS, zN, zH, zT]) ?_
 refine zst (op_neI (by rfl) (by rfl)) rfl (by dsimp only [zS, zN, zH, zT]) ?_
 refine zst (op_assign_tmp (by rfl)) rfl (by dsimp only [zS, zN, zH, zT]) ?_
 refine al_end rfl ?_
 refine then_normal ?_
 refine aw_cond rfl (fun hc1 => ?_) (fun hc1 => ?_)
 ·
  (try simp only [y1, y2, y3, y4, y5, y6, y7, y8, y9, y0, List.length_map] at hc1)
  have h1 : v.kind ≠ 5 := hc1
  refine aw_seq ?_
  refine aw_region ?_
  refine zst (op_zeroV (pl := [(0, 1), (1, 1), (2, 1), (3, 1), (4, 1), (5, 1)]) Try.underlying26 Zr26 (by kernel_rfl) (by rfl)) rfl (by dsimp only [zS, zN, zH, zT]) ?_
  refine zst (op_stV V0 Sz26 (by rfl) push_at (by first | exact VBl.z _ | exact VBl.v _ _) (by rfl)) rfl (by dsimp only [zS, zN, zH, zT]) ?_
  refine zst (op_assign_const (by rfl)) rfl (by dsimp only [zS, zN, zH, zT]) ?_
  refine al_end rfl ?_
  refine then_normal ?_
  refine aw_ret ?_
  refine inBlock_ret (then_ret ?_)
  refine retD2 rfl (resV _ Try.underlying26 (by rfl) Sz26 (by rfl) (setB_at push_at) (VBl.v _ _)) (.tmp (by rfl)) ?_
  exact ⟨by rw [atV_one, if_pos h1]; rfl, ((Ext.refl Hs).push _ _).setB (Nat.le_refl _)⟩
 ·
  (try simp only [y1, y2, y3, y4, y5, y6, y7, y8, y9, y0, List.length_map] at hc1)
  have h1 : ¬ v.kind ≠ 5 := fun h => h hc1
  refine aw_seq ?_
  refine aw_region ?_
  refine zst (op_move_tmp (by rfl)) rfl (by dsimp only [zS, zN, zH, zT]) ?_
  refine zst (op_lenL Try.underlying34 (by first | exact LL.d _ _ | exact LL.own _ _ _ | exact LL.nil _ | assumption)) rfl (by dsimp only [zS, zN, zH, zT]) ?_
  refine zst (op_eqI (by rfl) (by rfl)) rfl (by dsimp only [zS, zN, zH, zT]) ?_
  refine zst (op_assign_tmp (by rfl)) rfl (by dsimp only [zS, zN, zH, zT]) ?_
  refine al_end rfl ?_
  refine then_normal ?_
  refine aw_cond rfl (fun hc2 => ?_) (fun hc2 => ?_)
  ·
   (try simp only [y1, y2, y3, y4, y5, y6, y7, y8, y9, y0, List.length_map] at hc2)
   refine aw_seq ?_
   refine aw_draw [0, 0, 0, 0, 0, 0, 0, 0, 2, 0] mixed (by kernel_rfl) ?_
   refine zd0 (fun H => (op_load_elts (ds := oC o) Try.underlying36 (by rfl) Sz36 (by rfl) (Nat.le_of_ble_eq_true rfl) (by rfl))) rfl (by dsimp only [zS, zN, zH, zT]) ?_
   refine zd0 (fun H => (op_load_elts (ds := vC v) Try.underlying26 (by rfl) Sz26 (by rfl) (Nat.le_of_ble_eq_true rfl) (by rw [vC_eq]; rfl))) rfl (by dsimp only [zS, zN, zH, zT]) ?_
   refine zd0 (fun H => (op_move_tmp (by rfl))) rfl (by dsimp only [zS, zN, zH, zT]) ?_
   refine zd0 (fun H => (op_indexAddr Try.underlying34 Sz9 (LL.d _ _) (by rfl) (by decide) (show ([S n0])[(0 : Int).toNat]? = some (S n0) from rfl) (by rfl))) rfl (by dsimp only [zS, zN, zH, zT]) ?_
   refine zd0 (fun H => (by first | exact op_load_elt Try.underlying9 (by rfl) (by rfl) (by rfl) | exact op_load_ptr Try.underlying9 (by rfl) (by rfl) (by rfl) (by rfl))) rfl (by dsimp only [zS, zN, zH, zT]) ?_
   refine zd0 (fun H => (op_callF Try.func42 (by rfl) (by rfl) (.tmp (by rfl) (.tmp (by rfl) (.tmp (by rfl) .nil))) (plast_ok _ o v n0 hl))) rfl (by dsimp only [zS, zN, zH, zT]) ?_
   refine zd0 (fun H => (op_extract (by rfl) (by rfl))) rfl (by dsimp only [zS, zN, zH, zT]) ?_
   refine zd0 (fun H => (op_extract (by rfl) (by rfl))) rfl (by dsimp only [zS, zN, zH, zT]) ?_
   refine zd2 (op_stV (lastV o v n0).1 Sz26 (by rfl) push_at (by first | exact VBl.z _ | exact VBl.v _ _) (by rfl)) rfl (by dsimp only [zS, zN, zH, zT]) ?_
   refine zd0 (fun H => (op_assign_tmp (by rfl))) rfl (by dsimp only [zS, zN, zH, zT]) ?_
   refine drun_end rfl ?_
   refine then_normal ?_
   refine aw_ret ?_
   refine inBlock_ret (then_ret ?_)
   refine retD2 rfl (resV _ Try.underlying26 (by rfl) Sz26 (by rfl) (setB_at push_at) (VBl.v _ _)) (.tmp (by rfl)) ?_
   exact ⟨by rw [atV_one, if_neg h1]; rfl, ((Ext.refl Hs).push _ _).setB (Nat.le_refl _)⟩
  ·
   (try simp only [y1, y2, y3, y4, y5, y6, y7, y8, y9, y0, List.length_map] at hc2)
   exact absurd rfl hc2
/- An operation along a path. -/
set_option maxRecDepth 100000 in
theorem pat_more (Hs : HS) (o : Opn) (v : V) (n0 : List UInt8) (hl : v.fields.length ≤ 90000) (m : List UInt8) (p : List (List UInt8)) (ih : ∀ Hs : HS, ACalls Try.prog 27 [.d (oD o), .d (.agg (vC (getV v n0).1)), .d (.lst 1 ((m :: p).map S))] Hs (Ret (.tup [.d (.agg (vC (atV o (getV v n0).1 (m :: p)).1)), .d (I (atV o (getV v n0).1 (m :: p)).2)]) Hs)) : ACalls Try.prog 27 [.d (oD o), .d (.agg (vC v)), .d (.lst 1 (S n0 :: S m :: p.map S))] Hs (Ret (.tup [.d (.agg (vC (atV o v (n0 :: m :: p)).1)), .d (I (atV o v (n0 :: m :: p)).2)]) Hs) := by
 refine ACalls.tidyT (xs := [.agg (vC (atV o v (n0 :: m :: p)).1), I (atV o v (n0 :: m :: p)).2]) ?_
 refine acalls_of_awCW Try.func27 rfl ?_
 refine aw_start (T' := [.d (oD o), .d (.agg (vC v)), .d (.lst 1 (S n0 :: S m :: p.map S)), .un, .un, .un, .un, .un, .un, .un, .un, .un, .un, .un, .un, .un, .un, .un, .un, .un, .un, .un, .un, .un, .un, .un, .un, .un, .un, .un, .un, .un, .un, .un, .un, .un, .un, .un, .un, .un, .un, .un, .un, .un, .un, .un, .un, .un, .un, .un, .un, .un, .un, .un, .un, .un, .un]) rfl ?_
 refine aw_seq ?_
 refine aw_region ?_
 refine zst (op_box_elt (cs := [I o.kind, .lst 1 (o.path.map S), I o.val.kind, TF o.val.yes, .v (.int .i64 o.val.num), S o.val.text, .lst 6 (o.val.list.map vD), .lst 7 (o.val.fields.map fD)]) (by rfl) (by rfl)) rfl (by dsimp only [zS, zN, zH, zT]) ?_
 refine zst (op_box_elt (cs := [I v.kind, TF v.yes, .v (.int .i64 v.num), S v.text, .lst 6 (v.list.map vD), .lst 7 (v.fields.map fD)]) (by rfl) (vD_cells v)) rfl (by dsimp only [zS, zN, zH, zT]) ?_
 refine zst (op_alloc (Zr26) (by rfl)) rfl (by dsimp only [zS, zN, zH, zT]) ?_
 refine zst (op_assign_const (by rfl)) rfl (by dsimp only [zS, zN, zH, zT]) ?_
 refine al_end rfl ?_
 refine then_normal ?_
 refine aw_seq ?_
 refine aw_block ?_
 refine aw_seq ?_
 refine aw_region ?_
 refine zst (by first | exact op_fieldAddr_ptr Try.underlying26 rfl Sz22 (by rfl) (by rfl) | exact op_fieldAddr_elt Try.underlying26 rfl Sz22 (by rfl) (by rfl) (by rfl)) rfl (by dsimp only [zS, zN, zH, zT]) ?_
 refine zst (by first | exact op_load_elt Try.underlying22 (by rfl) (by rfl) (by rfl) | exact op_load_ptr Try.underlying22 (by rfl) (by rfl) (by rfl) (by rfl)) rfl (by dsimp only [zS, zN, zH, zT]) ?_
 refine zst (op_neI (by rfl) (by rfl)) rfl (by dsimp only [zS, zN, zH, zT]) ?_
 refine zst (op_assign_tmp (by rfl)) rfl (by dsimp only [zS, zN, zH, zT]) ?_
 refine al_end rfl ?_
 refine then_normal ?_
 refine aw_cond rfl (fun hc1 => ?_) (fun hc1 => ?_)
 ·
  (try simp only [y1, y2, y3, y4, y5, y6, y7, y8, y9, y0, List.length_map] at hc1)
  have h1 : v.kind ≠ 5 := hc1
  refine aw_seq ?_
  refine aw_region ?_
  refine zst (op_zeroV (pl := [(0, 1), (1, 1), (2, 1), (3, 1), (4, 1), (5, 1)]) Try.underlying26 Zr26 (by kernel_rfl) (by rfl)) rfl (by dsimp only [zS, zN, zH, zT]) ?_
  refine zst (op_stV V0 Sz26 (by rfl) push_at (by first | exact VBl.z _ | exact VBl.v _ _) (by rfl)) rfl (by dsimp only [zS, zN, zH, zT]) ?_
  refine zst (op_assign_const (by rfl)) rfl (by dsimp only [zS, zN, zH, zT]) ?_
  refine al_end rfl ?_
  refine then_normal ?_
  refine aw_ret ?_
  refine inBlock_ret (then_ret ?_)
  refine retD2 rfl (resV _ Try.underlying26 (by rfl) Sz26 (by rfl) (setB_at push_at) (VBl.v _ _)) (.tmp (by rfl)) ?_
  exact ⟨by rw [atV_more, if_pos h1]; rfl, ((Ext.refl Hs).push _ _).setB (Nat.le_refl _)⟩
 ·
  (try simp only [y1, y2, y3, y4, y5, y6, y7, y8, y9, y0, List.length_map] at hc1)
  have h1 : ¬ v.kind ≠ 5 := fun h => h hc1
  refine aw_seq ?_
  refine aw_region ?_
  refine zst (op_move_tmp (by rfl)) rfl (by dsimp only [zS, zN, zH, zT]) ?_
  refine zst (op_lenL Try.underlying34 (by first | exact LL.d _ _ | exact LL.own _ _ _ | exact LL.nil _ | assumption)) rfl (by dsimp only [zS, zN, zH, zT]) ?_
  refine zst (op_eqI (by rfl) (by rfl)) rfl (by dsimp only [zS, zN, zH, zT]) ?_
  refine zst (op_assign_tmp (by rfl)) rfl (by dsimp only [zS, zN, zH, zT]) ?_
  refine al_end rfl ?_
  refine then_normal ?_
  refine aw_cond rfl (fun hc2 => ?_) (fun hc2 => ?_)
  ·
   (try simp only [y1, y2, y3, y4, y5, y6, y7, y8, y9, y0, List.length_map] at hc2)
   exact absurd hc2 (by simp only [List.length_cons]; omega)
  ·
   (try simp only [y1, y2, y3, y4, y5, y6, y7, y8, y9, y0, List.length_map] at hc2)
   refine aw_skip ?_
   refine inBlock_normal (then_normal ?_)
   refine aw_seq ?_
   refine aw_draw [0, 0, 0, 0, 0, 0, 0, 0, 2, 2, 0] mixed (by kernel_rfl) ?_
   refine zd0 (fun H => (op_load_elts (ds := vC v) Try.underlying26 (by rfl) Sz26 (by rfl) (Nat.le_of_ble_eq_true rfl) (by rw [vC_eq]; rfl))) rfl (by dsimp only [zS, zN, zH, zT]) ?_
   refine zd0 (fun H => (op_move_tmp (by rfl))) rfl (by dsimp only [zS, zN, zH, zT]) ?_
   refine zd0 (fun H => (op_indexAddr Try.underlying34 Sz9 (LL.d _ _) (by rfl) (by decide) (show ((S n0 :: S m :: p.map S))[(0 : Int).toNat]? = some (S n0) from rfl) (by rfl))) rfl (by dsimp only [zS, zN, zH, zT]) ?_
   refine zd0 (fun H => (by first | exact op_load_elt Try.underlying9 (by rfl) (by rfl) (by rfl) | exact op_load_ptr Try.underlying9 (by rfl) (by rfl) (by rfl) (by rfl))) rfl (by dsimp only [zS, zN, zH, zT]) ?_
   refine zd0 (fun H => (op_callF Try.func13 (by rfl) (by rfl) (.tmp (by rfl) (.tmp (by rfl) .nil)) (get_ok _ v n0 (by omega)))) rfl (by dsimp only [zS, zN, zH, zT]) ?_
   refine zd0 (fun H => (op_move_tmp (by rfl))) rfl (by dsimp only [zS, zN, zH, zT]) ?_
   refine zd0 (fun H => (op_extract (by rfl) (by rfl))) rfl (by dsimp only [zS, zN, zH, zT]) ?_
   refine zd0 (fun H => (op_extract (by rfl) (by rfl))) rfl (by dsimp only [zS, zN, zH, zT]) ?_
   refine zd2 (op_alloc (Zr26) (by rfl)) rfl (by dsimp only [zS, zN, zH, zT]) ?_
   refine zd2 (op_stV (getV v n0).1 Sz26 (by rfl) push_at (by first | exact VBl.z _ | exact VBl.v _ _) (by rfl)) rfl (by dsimp only [zS, zN, zH, zT]) ?_
   refine zd0 (fun H => (op_assign_tmp (by rfl))) rfl (by dsimp only [zS, zN, zH, zT]) ?_
   refine drun_end rfl ?_
   refine then_normal ?_
   refine aw_seq ?_
   refine aw_seq ?_
   refine aw_region ?_
   refine zst (op_move_tmp (by rfl)) rfl (by dsimp only [zS, zN, zH, zT]) ?_
   refine zst (op_not (by rfl)) rfl (by dsimp only [zS, zN, zH, zT]) ?_
   refine al_end rfl ?_
   refine then_normal ?_
   refine aw_cond rfl (fun hc3 => ?_) (fun hc3 => ?_)
   ·
    (try simp only [y1, y2, y3, y4, y5, y6, y7, y8, y9, y0, List.length_map] at hc3)
    have h2 : (getV v n0).2 = false := hc3
    refine aw_seq ?_
    refine aw_region ?_
    refine zst (op_zeroV (pl := [(0, 1), (1, 1), (2, 1), (3, 1), (4, 1), (5, 1)]) Try.underlying26 Zr26 (by kernel_rfl) (by rfl)) rfl (by dsimp only [zS, zN, zH, zT]) ?_
    refine zst (op_stV V0 Sz26 (by rfl) (by rw [setB_ne (by rw [push_nb]; omega)]; exact push_ne push_at) (by first | exact VBl.z _ | exact VBl.v _ _) (by rfl)) rfl (by dsimp only [zS, zN, zH, zT]) ?_
    refine zst (op_assign_const (by rfl)) rfl (by dsimp only [zS, zN, zH, zT]) ?_
    refine al_end rfl ?_
    refine then_normal ?_
    refine aw_ret ?_
    refine then_ret ?_
    refine retD2 rfl (resV _ Try.underlying26 (by rfl) Sz26 (by rfl) (setB_at (by rw [setB_ne (by rw [push_nb]; omega)]; exact push_ne push_at)) (VBl.v _ _)) (.tmp (by rfl)) ?_
    exact ⟨by rw [atV_more, if_neg h1, if_pos h2]; rfl, ((((Ext.refl Hs).push _ _).push _ _).setB (by rw [push_nb]; omega)).setB (Nat.le_refl _)⟩
   ·
    (try simp only [y1, y2, y3, y4, y5, y6, y7, y8, y9, y0, List.length_map] at hc3)
    have h2 : ¬ (getV v n0).2 = false := by rw [show (getV v n0).2 = true from hc3]; decide
    refine aw_skip ?_
    refine then_normal ?_
    refine aw_seq ?_
    refine aw_draw [0, 1, 0, 0, 0, 0, 0, 0, 2, 0] mixed (by kernel_rfl) ?_
    refine zd0 (fun H => (op_load_elts (ds := oC o) Try.underlying36 (by rfl) Sz36 (by rfl) (Nat.le_of_ble_eq_true rfl) (by rfl))) rfl (by dsimp only [zS, zN, zH, zT]) ?_
    refine zd1 (op_ldV (getV v n0).1 Try.underlying26 (by rfl) Sz26 (by rfl) (setB_at push_at) (by first | exact VBl.v _ _ | exact VBl.z _)) rfl (by dsimp only [zS, zN, zH, zT]) ?_
    refine zd0 (fun H => (op_move_tmp (by rfl))) rfl (by dsimp only [zS, zN, zH, zT]) ?_
    refine zd0 (fun H => (op_sliceL1 _ Try.underlying34 Sz9 (LL.d _ _) (by rfl) (by decide) (by simp; omega) (by rfl))) rfl (by dsimp only [zS, zN, zH, zT]) ?_
    refine zd0 (fun H => (op_callF Try.func27 (by rfl) (by rfl) (.tmp (by rfl) (.tmp (by rfl) (.tmp (by rfl) .nil))) (ih _))) rfl (by dsimp only [zS, zN, zH, zT]) ?_
    refine zd0 (fun H => (op_move_tmp (by rfl))) rfl (by dsimp only [zS, zN, zH, zT]) ?_
    refine zd0 (fun H => (op_extract (by rfl) (by rfl))) rfl (by dsimp only [zS, zN, zH, zT]) ?_
    refine zd0 (fun H => (op_extract (by rfl) (by rfl))) rfl (by dsimp only [zS, zN, zH, zT]) ?_
    refine zd2 (op_stV (atV o (getV v n0).1 (m :: p)).1 Sz26 (by rfl) (setB_at push_at) (by first | exact VBl.z _ | exact VBl.v _ _) (by rfl)) rfl (by dsimp only [zS, zN, zH, zT]) ?_
    refine zd0 (fun H => (op_assign_tmp (by rfl))) rfl (by dsimp only [zS, zN, zH, zT]) ?_
    refine drun_end rfl ?_
    refine then_normal ?_
    refine aw_seq ?_
    refine aw_seq ?_
    refine aw_region ?_
    refine zst (op_move_tmp (by rfl)) rfl (by dsimp only [zS, zN, zH, zT]) ?_
    refine zst (op_neI (by rfl) (by rfl)) rfl (by dsimp only [zS, zN, zH, zT]) ?_
    refine al_end rfl ?_
    refine then_normal ?_
    refine aw_cond rfl (fun hc4 => ?_) (fun hc4 => ?_)
    ·
     (try simp only [y1, y2, y3, y4, y5, y6, y7, y8, y9, y0, List.length_map] at hc4)
     have h3 : (atV o (getV v n0).1 (m :: p)).2 ≠ 0 := hc4
     refine aw_seq ?_
     refine aw_region ?_
     refine zst (op_zeroV (pl := [(0, 1), (1, 1), (2, 1), (3, 1), (4, 1), (5, 1)]) Try.underlying26 Zr26 (by kernel_rfl) (by rfl)) rfl (by dsimp only [zS, zN, zH, zT]) ?_
     refine zst (op_move_tmp (by rfl)) rfl (by dsimp only [zS, zN, zH, zT]) ?_
     refine zst (op_stV V0 Sz26 (by rfl) (by rw [setB_ne (by rw [push_nb]; omega), setB_ne (by rw [push_nb]; omega)]; exact push_ne push_at) (by first | exact VBl.z _ | exact VBl.v _ _) (by rfl)) rfl (by dsimp only [zS, zN, zH, zT]) ?_
     refine zst (op_assign_tmp (by rfl)) rfl (by dsimp only [zS, zN, zH, zT]) ?_
     refine al_end rfl ?_
     refine then_normal ?_
     refine aw_ret ?_
     refine then_ret ?_
     refine retD2 rfl (resV _ Try.underlying26 (by rfl) Sz26 (by rfl) (setB_at (by rw [setB_ne (by rw [push_nb]; omega), setB_ne (by rw [push_nb]; omega)]; exact push_ne push_at)) (VBl.v _ _)) (.tmp (by rfl)) ?_
     exact ⟨by rw [atV_more, if_neg h1, if_neg h2, if_pos h3]; rfl, (((((Ext.refl Hs).push _ _).push _ _).setB (by rw [push_nb]; omega)).setB (by rw [push_nb]; omega)).setB (Nat.le_refl _)⟩
    ·
     (try simp only [y1, y2, y3, y4, y5, y6, y7, y8, y9, y0, List.length_map] at hc4)
     have h3 : ¬ (atV o (getV v n0).1 (m :: p)).2 ≠ 0 := fun h => h hc4
     refine aw_skip ?_
     refine then_normal ?_
     refine aw_seq ?_
     refine aw_draw [0, 0, 0, 0, 1, 0, 2, 0] mixed (by kernel_rfl) ?_
     refine zd0 (fun H => (op_load_elts (ds := vC v) Try.underlying26 (by rfl) Sz26 (by rfl) (Nat.le_of_ble_eq_true rfl) (by rw [vC_eq]; rfl))) rfl (by dsimp only [zS, zN, zH, zT]) ?_
     refine zd0 (fun H => (op_move_tmp (by rfl))) rfl (by dsimp only [zS, zN, zH, zT]) ?_
     refine zd0 (fun H => (op_indexAddr Try.underlying34 Sz9 (LL.d _ _) (by rfl) (by decide) (show ((S n0 :: S m :: p.map S))[(0 : Int).toNat]? = some (S n0) from rfl) (by rfl))) rfl (by dsimp only [zS, zN, zH, zT]) ?_
     refine zd0 (fun H => (by first | exact op_load_elt Try.underlying9 (by rfl) (by rfl) (by rfl) | exact op_load_ptr Try.underlying9 (by rfl) (by rfl) (by rfl) (by rfl))) rfl (by dsimp only [zS, zN, zH, zT]) ?_
     refine zd1 (op_ldV (atV o (getV v n0).1 (m :: p)).1 Try.underlying26 (by rfl) Sz26 (by rfl) (setB_at (setB_at push_at)) (by first | exact VBl.v _ _ | exact VBl.z _)) rfl (by dsimp only [zS, zN, zH, zT]) ?_
     refine zd0 (fun H => (op_callF Try.func43 (by rfl) (by rfl) (.tmp (by rfl) (.tmp (by rfl) (.tmp (by rfl) .nil))) (with_ok _ v n0 _ hl))) rfl (by dsimp only [zS, zN, zH, zT]) ?_
     refine zd2 (op_stV (withV v n0 (atV o (getV v n0).1 (m :: p)).1) Sz26 (by rfl) (by rw [setB_ne (by rw [push_nb]; omega), setB_ne (by rw [push_nb]; omega)]; exact push_ne push_at) (by first | exact VBl.z _ | exact VBl.v _ _) (by rfl)) rfl (by dsimp only [zS, zN, zH, zT]) ?_
     refine zd0 (fun H => (op_assign_const (by rfl))) rfl (by dsimp only [zS, zN, zH, zT]) ?_
     refine drun_end rfl ?_
     refine then_normal ?_
     refine aw_ret ?_
     refine retD2 rfl (resV _ Try.underlying26 (by rfl) Sz26 (by rfl) (setB_at (by rw [setB_ne (by rw [push_nb]; omega), setB_ne (by rw [push_nb]; omega)]; exact push_ne push_at)) (VBl.v _ _)) (.tmp (by rfl)) ?_
     exact ⟨by rw [atV_more, if_neg h1, if_neg h2, if_neg h3]; rfl, (((((Ext.refl Hs).push _ _).push _ _).setB (by rw [push_nb]; omega)).setB (by rw [push_nb]; omega)).setB (Nat.le_refl _)⟩
theorem pat_ok (o : Opn) : ∀ (p : List (List UInt8)) (v : V) (m : Nat), m ≤ 90000 → BndV m v → p ≠ [] → ∀ Hs : HS, ACalls Try.prog 27 [.d (oD o), .d (.agg (vC v)), .d (.lst 1 (p.map S))] Hs (Ret (.tup [.d (.agg (vC (atV o v p).1)), .d (I (atV o v p).2)]) Hs)
  | [], v, m, hm, hv, h, Hs => absurd rfl h
  | [n0], v, m, hm, hv, h, Hs => pat_one Hs o v n0 (by have := hv.fl; omega)
  | n0 :: k :: p, v, m, hm, hv, h, Hs => pat_more Hs o v n0 (by have := hv.fl; omega) k p (pat_ok o (k :: p) _ m hm (hv.get n0) (by simp))
end Go.Proofs.Ytjamnhofbkgblaa
