/- What operations on a document come to. -/
import Derived.Test.YtjamnhofbkgblaaPatS
import Derived.Test.YtjamnhofbkgblaaPatR
import Derived.KernelRfl
namespace Go.Proofs.Ytjamnhofbkgblaa
open Go.AV Go.AV.Ord Go.AV.Oct Go.AV.Val Go.AV.Patch
set_option linter.unusedVariables false
set_option linter.unusedSimpArgs false
/- Operations, one behind the other; all of them, or none. -/
set_option maxRecDepth 100000 in
theorem papply_ok (Hs : HS) (v : V) (w : AV) (l : List Opn) (m : Nat) (hm : m ≤ 1000) (hw : LL w 8 (l.map oD)) (hl : l.length ≤ 9223372036854775807) (hv : BndV m v) (hb : ∀ o ∈ l, BndV m o.val) : ACalls Try.prog 12 [.d (.agg (vC v)), w] Hs (Ret (.tup [.d (.agg (vC (applyV v l).1)), .d (I (applyV v l).2)]) Hs) := by
 refine ACalls.tidyT (xs := [.agg (vC (applyV v l).1), I (applyV v l).2]) ?_
 refine acalls_of_awCW Try.func12 rfl ?_
 refine aw_start (T' := [.d (.agg (vC v)), w, .un, .un, .un, .un, .un, .un, .un, .un, .un, .un, .un, .un, .un, .un, .un, .un, .un, .un, .un, .un, .un, .un, .un, .un, .un, .un, .un, .un, .un, .un, .un, .un, .un, .un, .un, .un, .un, .un, .un, .un, .un, .un, .un, .un, .un, .un, .un, .un]) rfl ?_
 apply aw_cutF (fun T H => ∃ (q : Unit), T = [.un, w, .ptr Hs.nb 0, .un, .ptr (Hs.nb + 1) 0, .un, .un, .un, .un, .un, .un, .un, .un, .un, .un, .un, .un, .un, .un, .un, .un, .un, .un, .un, .un, .un, .un, .un, .un, .un, .un, .un, .un, .un, .un, .un, .un, .un, .un, .un, .un, .un, .un, .un, .un, .un, .un, .un, .un, .un] ∧ H.blks[Hs.nb]? = some (vB 26 v) ∧ H.blks[Hs.nb + 1]? = some (vBlk 26 0 false 0 [] nilS nilS) ∧ Ext Hs H)
 ·
  refine aw_region ?_
  refine zst (op_box_ptr (cs := (vC v).map .d) (by intro h; cases h) (by rfl)) rfl (by dsimp only [zS, zN, zH, zT]) ?_
  refine zst (op_alloc (Zr26) (by rfl)) rfl (by dsimp only [zS, zN, zH, zT]) ?_
  refine zst (op_assign_const (by rfl)) rfl (by dsimp only [zS, zN, zH, zT]) ?_
  refine al_end rfl ?_
  apply cut_to [false, true, true, false, true, false, false, false, false, false, false, false, false, false, false, false, false, false, false, false, false, false, false, false, false, false, false, false, false, false, false, false, false, false, false, false, false, false, false, false, false, false, false, false, false, false, false, false, false, false]
  · (try dsimp only [maskT]); try exact rfl
  · rfl
  exact ⟨(), by (simp only [push_nb]) <;> rfl, push_ne push_at, (by have h := push_at (H := Hs.push 26 ((vC v).map .d)) (e := 26) (cs := vs6 0 false 0 [] nilS nilS); rw [push_nb] at h; exact h), ((Ext.refl Hs).push _ _).push _ _⟩
 rintro T H ⟨q, rfl, b0, b1, hx⟩
 refine aw_seq ?_
 refine aw_seq ?_
 refine aw_region ?_
 refine zst (op_move_tmp (by rfl)) rfl (by dsimp only [zS, zN, zH, zT]) ?_
 refine zst (op_lenL Try.underlying37 hw) rfl (by dsimp only [zS, zN, zH, zT]) ?_
 refine zst (op_gtI (by rfl) (by rfl)) rfl (by dsimp only [zS, zN, zH, zT]) ?_
 refine al_end rfl ?_
 refine then_normal ?_
 refine aw_cond rfl (fun hc1 => ?_) (fun hc1 => ?_)
 ·
  (try simp only [y1, y2, y3, y4, y5, y6, y7, y8, y9, y0, List.length_map] at hc1)
  (try simp only [List.length_map] at hc1)
  have h50 : 50 < l.length := by omega
  refine aw_seq ?_
  refine aw_region ?_
  refine zst (op_zeroV (pl := [(0, 1), (1, 1), (2, 1), (3, 1), (4, 1), (5, 1)]) Try.underlying26 Zr26 (by kernel_rfl) (by rfl)) rfl (by dsimp only [zS, zN, zH, zT]) ?_
  refine zst (op_stV V0 Sz26 (by rfl) b1 (by first | exact VBl.z _ | exact VBl.v _ _) (by rfl)) rfl (by dsimp only [zS, zN, zH, zT]) ?_
  refine zst (op_assign_const (by rfl)) rfl (by dsimp only [zS, zN, zH, zT]) ?_
  refine al_end rfl ?_
  refine then_normal ?_
  refine aw_ret ?_
  refine then_ret ?_
  refine retD2 rfl (resV _ Try.underlying26 (by rfl) Sz26 (by rfl) (setB_at b1) (by first | exact VBl.v _ _ | exact VBl.z _)) (.tmp (by rfl)) ?_
  exact ⟨by rw [applyV, if_pos h50]; rfl, hx.setB (by omega)⟩
 ·
  (try simp only [y1, y2, y3, y4, y5, y6, y7, y8, y9, y0, List.length_map] at hc1)
  (try simp only [List.length_map] at hc1)
  have h50 : ¬ 50 < l.length := by omega
  refine aw_skip ?_
  refine then_normal ?_
  refine aw_seq ?_
  refine aw_seq ?_
  refine aw_region ?_
  refine zst (op_move_tmp (by rfl)) rfl (by dsimp only [zS, zN, zH, zT]) ?_
  refine zst (op_lenL Try.underlying37 hw) rfl (by dsimp only [zS, zN, zH, zT]) ?_
  refine zst (op_move_const (by rfl)) rfl (by dsimp only [zS, zN, zH, zT]) ?_
  refine al_end rfl ?_
  refine then_normal ?_
  refine aw_block ?_
  apply aw_loopF (fun n T H => ∃ (j : Nat), T = [.un, w, .ptr Hs.nb 0, .un, .ptr (Hs.nb + 1) 0, .un, .un, .un, .un, .un, .un, .un, .un, .un, .un, w, .d (I (l.map oD).length), .d (I j), .un, .un, .un, .un, .un, .un, .un, .un, .un, .un, .un, .un, .un, .un, .un, .un, .un, .un, .un, .un, .un, .un, .un, .un, .un, .un, .un, .un, .un, .un, .un, .un] ∧ j ≤ l.length ∧ n = l.length - j ∧ (l.take j).all rightO = true ∧ H.blks[Hs.nb]? = some (vB 26 v) ∧ H.blks[Hs.nb + 1]? = some (vBlk 26 0 false 0 [] nilS nilS) ∧ Ext Hs H) (l.length) [false, true, true, false, true, false, false, false, false, false, false, false, false, false, false, true, true, true, false, false, false, false, false, false, false, false, false, false, false, false, false, false, false, false, false, false, false, false, false, false, false, false, false, false, false, false, false, false, false, false]
  · (try dsimp only [maskT]); try exact rfl
  · rfl
  · exact ⟨0, rfl, by omega, rfl, rfl, b0, b1, hx⟩
  rintro n T H ⟨j, rfl, hj, rfl, hall, b0, b1, hx⟩
  refine aw_seq ?_
  refine aw_region ?_
  refine zst (op_ltI (by rfl) (by rfl)) rfl (by dsimp only [zS, zN, zH, zT]) ?_
  refine al_end rfl ?_
  refine then_normal ?_
  refine aw_seq ?_
  refine aw_cond rfl (fun hc2 => ?_) (fun hc2 => ?_)
  ·
   (try simp only [y1, y2, y3, y4, y5, y6, y7, y8, y9, y0, List.length_map] at hc2)
   (try simp only [List.length_map] at hc2)
   have hlt : j < l.length := by omega
   obtain ⟨x, hx1⟩ : ∃ z0, l[j]? = some z0 := ⟨_, List.getElem?_eq_getElem hlt⟩
   refine aw_skip ?_
   refine then_normal ?_
   refine aw_seq ?_
   refine aw_block ?_
   refine aw_seq ?_
   refine aw_region ?_
   refine zst (op_indexAddr (z := oD x) (cs := oC x) Try.underlying37 Sz36 hw (by rfl) (by omega) (by rw [List.getElem?_map, show ((j : Nat) : Int).toNat = j from rfl, hx1]; rfl) (by rfl)) rfl (by dsimp only [zS, zN, zH, zT]) ?_
   refine zst (op_load_elts (ds := oC x) Try.underlying36 (by rfl) Sz36 (by rfl) (Nat.le_of_ble_eq_true rfl) (by rfl)) rfl (by dsimp only [zS, zN, zH, zT]) ?_
   refine zst (op_alloc (Zr36) (by rfl)) rfl (by dsimp only [zS, zN, zH, zT]) ?_
   refine zst (op_storeB (vs := (oC x).map .d) (b' := ⟨36, (oC x).map .d, false⟩) (H' := _) Sz36 (by rfl) push_at (by intro h; cases h) (by rfl) (by rfl) (Nat.le_of_ble_eq_true rfl) (by intro w hw; obtain ⟨d, hd, rfl⟩ := List.mem_map.1 hw; exact oC_one x d hd) (by rfl) (by rfl) rfl) rfl (by dsimp only [zS, zN, zH, zT]) ?_
   refine al_end rfl ?_
   refine then_normal ?_
   refine aw_seq ?_
   refine aw_region ?_
   refine zst (op_load_ptrsD (oC x) Try.underlying36 (by rfl) Sz36 (by rfl) (setB_at push_at) (Nat.le_of_ble_eq_true rfl) (by rfl) (oC_one x)) rfl (by dsimp only [zS, zN, zH, zT]) ?_
   refine zst (op_callF Try.func20 (by rfl) (by rfl) (.tmp (by rfl) .nil) (oright_ok _ x ((hb x (List.mem_of_getElem? hx1)).small (by omega)))) rfl (by dsimp only [zS, zN, zH, zT]) ?_
   refine zst (op_not (by rfl)) rfl (by dsimp only [zS, zN, zH, zT]) ?_
   refine al_end rfl ?_
   refine then_normal ?_
   refine aw_cond rfl (fun hc3 => ?_) (fun hc3 => ?_)
   ·
    (try simp only [y1, y2, y3, y4, y5, y6, y7, y8, y9, y0, List.length_map] at hc3)
    have hr : rightO x = false := by simpa using hc3
    refine aw_seq ?_
    refine aw_region ?_
    refine zst (op_zeroV (pl := [(0, 1), (1, 1), (2, 1), (3, 1), (4, 1), (5, 1)]) Try.underlying26 Zr26 (by kernel_rfl) (by rfl)) rfl (by dsimp only [zS, zN, zH, zT]) ?_
    refine zst (op_stV V0 Sz26 (by rfl) (by rw [setB_ne (by have := lt_nb b1; omega)]; exact push_ne b1) (by first | exact VBl.z _ | exact VBl.v _ _) (by rfl)) rfl (by dsimp only [zS, zN, zH, zT]) ?_
    refine zst (op_assign_const (by rfl)) rfl (by dsimp only [zS, zN, zH, zT]) ?_
    refine al_end rfl ?_
    refine then_normal ?_
    refine aw_ret ?_
    refine inBlock_ret (then_ret (again_ret (inBlock_ret (then_ret ?_))))
    refine retD2 rfl (resV _ Try.underlying26 (by rfl) Sz26 (by rfl) (setB_at (by rw [setB_ne (by have := lt_nb b1; omega)]; exact push_ne b1)) (by first | exact VBl.v _ _ | exact VBl.z _)) (.tmp (by rfl)) ?_
    exact ⟨by rw [applyV, if_neg h50, if_neg (by rw [all_bad hx1 hr]; decide)]; rfl, ((hx.push _ _).setB (nb_le hx)).setB (by omega)⟩
   ·
    (try simp only [y1, y2, y3, y4, y5, y6, y7, y8, y9, y0, List.length_map] at hc3)
    have hr : rightO x = true := by simpa using hc3
    refine aw_skip ?_
    refine inBlock_normal (then_normal ?_)
    refine aw_region ?_
    refine zst (by first | exact op_add (by rfl) (by rfl) (wrap_i64 ⟨by omega, by omega⟩) | exact op_add (by rfl) (by rfl) (by rfl)) rfl (by dsimp only [zS, zN, zH, zT]) ?_
    refine zst (op_move_tmp (by rfl)) rfl (by dsimp only [zS, zN, zH, zT]) ?_
    refine al_end rfl ?_
    apply again_to (l.length - (j + 1)) [false, true, true, false, true, false, false, false, false, false, false, false, false, false, false, true, true, true, false, false, false, false, false, false, false, false, false, false, false, false, false, false, false, false, false, false, false, false, false, false, false, false, false, false, false, false, false, false, false, false]
    · (try dsimp only [maskT]); try exact rfl
    · rfl
    · omega
    exact ⟨j + 1, rfl, by omega, rfl, by rw [take_snoc hx1, List.all_append, hall]; simp [hr], (by rw [setB_ne (by have := lt_nb b0; omega)]; exact push_ne b0), (by rw [setB_ne (by have := lt_nb b1; omega)]; exact push_ne b1), (hx.push _ _).setB (nb_le hx)⟩
  ·
   (try simp only [y1, y2, y3, y4, y5, y6, y7, y8, y9, y0, List.length_map] at hc2)
   (try simp only [List.length_map] at hc2)
   have hje : j = l.length := by omega
   subst hje
   refine aw_exit ?_
   refine then_exit (again_exit (inBlock_here (then_normal ?_)))
   refine aw_seq ?_
   refine aw_seq ?_
   refine aw_region ?_
   refine zst (op_move_tmp (by rfl)) rfl (by dsimp only [zS, zN, zH, zT]) ?_
   refine zst (op_lenL Try.underlying37 hw) rfl (by dsimp only [zS, zN, zH, zT]) ?_
   refine zst (op_move_const (by rfl)) rfl (by dsimp only [zS, zN, zH, zT]) ?_
   refine al_end rfl ?_
   refine then_normal ?_
   refine aw_block ?_
   rw [List.take_length] at hall
   have hall2 := hall
   rw [List.all_eq_true] at hall
   apply aw_loopF (fun n T H => ∃ (j : Nat) (u : V), T = [.un, w, .ptr Hs.nb 0, .un, .ptr (Hs.nb + 1) 0, .un, .un, .un, .un, .un, .un, .un, .un, .un, .un, .un, .un, .un, .un, .un, .un, .un, .un, .un, .un, .un, w, .d (I (l.map oD).length), .d (I j), .un, .un, .un, .un, .un, .un, .un, .un, .un, .un, .un, .un, .un, .un, .un, .un, .un, .un, .un, .un, .un] ∧ j ≤ l.length ∧ n = l.length - j ∧ allV v l = allV u (l.drop j) ∧ BndV (m + j) u ∧ H.blks[Hs.nb]? = some (vB 26 u) ∧ H.blks[Hs.nb + 1]? = some (vBlk 26 0 false 0 [] nilS nilS) ∧ Ext Hs H) (l.length) [false, true, true, false, true, false, false, false, false, false, false, false, false, false, false, false, false, false, false, false, false, false, false, false, false, false, true, true, true, false, false, false, false, false, false, false, false, false, false, false, false, false, false, false, false, false, false, false, false, false]
   · (try dsimp only [maskT]); try exact rfl
   · rfl
   · exact ⟨0, v, rfl, by omega, rfl, rfl, hv, b0, b1, hx⟩
   rintro n T H ⟨j, u, rfl, hj, rfl, ha, hu, b0, b1, hx⟩
   refine aw_seq ?_
   refine aw_region ?_
   refine zst (op_ltI (by rfl) (by rfl)) rfl (by dsimp only [zS, zN, zH, zT]) ?_
   refine al_end rfl ?_
   refine then_normal ?_
   refine aw_seq ?_
   refine aw_cond rfl (fun hc4 => ?_) (fun hc4 => ?_)
   ·
    (try simp only [y1, y2, y3, y4, y5, y6, y7, y8, y9, y0, List.length_map] at hc4)
    (try simp only [List.length_map] at hc4)
    have hlt : j < l.length := by omega
    obtain ⟨x, hx1⟩ : ∃ x, l[j]? = some x := ⟨_, List.getElem?_eq_getElem hlt⟩
    refine aw_skip ?_
    refine then_normal ?_
    refine aw_seq ?_
    refine aw_block ?_
    refine aw_seq ?_
    refine aw_region ?_
    refine zst (op_indexAddr (z := oD x) (cs := oC x) Try.underlying37 Sz36 hw (by rfl) (by omega) (by rw [List.getElem?_map, show ((j : Nat) : Int).toNat = j from rfl, hx1]; rfl) (by rfl)) rfl (by dsimp only [zS, zN, zH, zT]) ?_
    refine zst (op_load_elts (ds := oC x) Try.underlying36 (by rfl) Sz36 (by rfl) (Nat.le_of_ble_eq_true rfl) (by rfl)) rfl (by dsimp only [zS, zN, zH, zT]) ?_
    refine zst (op_alloc (Zr36) (by rfl)) rfl (by dsimp only [zS, zN, zH, zT]) ?_
    refine zst (op_storeB (vs := (oC x).map .d) (b' := ⟨36, (oC x).map .d, false⟩) (H' := _) Sz36 (by rfl) push_at (by intro h; cases h) (by rfl) (by rfl) (Nat.le_of_ble_eq_true rfl) (by intro w hw; obtain ⟨d, hd, rfl⟩ := List.mem_map.1 hw; exact oC_one x d hd) (by rfl) (by rfl) rfl) rfl (by dsimp only [zS, zN, zH, zT]) ?_
    refine al_end rfl ?_
    refine then_normal ?_
    refine aw_seq ?_
    refine aw_region ?_
    refine zst (op_assign_const (by rfl)) rfl (by dsimp only [zS, zN, zH, zT]) ?_
    refine al_end rfl ?_
    refine then_normal ?_
    refine aw_seq ?_
    refine aw_region ?_
    refine zst (op_load_ptrsD (oC x) Try.underlying36 (by rfl) Sz36 (by rfl) (setB_at push_at) (Nat.le_of_ble_eq_true rfl) (by rfl) (oC_one x)) rfl (by dsimp only [zS, zN, zH, zT]) ?_
    refine zst (op_ldV u Try.underlying26 (by rfl) Sz26 (by rfl) (by rw [setB_ne (by have := lt_nb b0; omega)]; exact push_ne b0) (by first | exact VBl.v _ _ | exact VBl.z _)) rfl (by dsimp only [zS, zN, zH, zT]) ?_
    refine zst (by first | exact op_fieldAddr_ptr Try.underlying36 rfl Sz34 (by rfl) (by rfl) | exact op_fieldAddr_elt Try.underlying36 rfl Sz34 (by rfl) (by rfl) (by rfl)) rfl (by dsimp only [zS, zN, zH, zT]) ?_
    refine zst (by first | exact op_load_elt Try.underlying34 (by rfl) (by rfl) (by rfl) | exact op_load_ptr Try.underlying34 (by rfl) (by rfl) (by exact setB_at push_at) (by rfl)) rfl (by dsimp only [zS, zN, zH, zT]) ?_
    refine zst (op_callF Try.func27 (by rfl) (by rfl) (.tmp (by rfl) (.tmp (by rfl) (.tmp (by rfl) .nil))) (pat_ok x x.path u (m + j) (by omega) hu (path_ne (hall x (List.mem_of_getElem? hx1))) _)) rfl (by dsimp only [zS, zN, zH, zT]) ?_
    refine zst (op_move_tmp (by rfl)) rfl (by dsimp only [zS, zN, zH, zT]) ?_
    refine zst (op_extract (by rfl) (by rfl)) rfl (by dsimp only [zS, zN, zH, zT]) ?_
    refine zst (op_extract (by rfl) (by rfl)) rfl (by dsimp only [zS, zN, zH, zT]) ?_
    refine zst (op_stV (atV x u x.path).1 Sz26 (by rfl) (by rw [setB_ne (by have := lt_nb b0; omega)]; exact push_ne b0) (by first | exact VBl.z _ | exact VBl.v _ _) (by rfl)) rfl (by dsimp only [zS, zN, zH, zT]) ?_
    refine zst (op_assign_tmp (by rfl)) rfl (by dsimp only [zS, zN, zH, zT]) ?_
    refine al_end rfl ?_
    refine then_normal ?_
    refine aw_seq ?_
    refine aw_region ?_
    refine zst (op_move_tmp (by rfl)) rfl (by dsimp only [zS, zN, zH, zT]) ?_
    refine zst (op_neI (by rfl) (by rfl)) rfl (by dsimp only [zS, zN, zH, zT]) ?_
    refine al_end rfl ?_
    refine then_normal ?_
    refine aw_cond rfl (fun hc5 => ?_) (fun hc5 => ?_)
    ·
     (try simp only [y1, y2, y3, y4, y5, y6, y7, y8, y9, y0, List.length_map] at hc5)
     have he : (atV x u x.path).2 ≠ 0 := hc5
     refine aw_seq ?_
     refine aw_region ?_
     refine zst (op_zeroV (pl := [(0, 1), (1, 1), (2, 1), (3, 1), (4, 1), (5, 1)]) Try.underlying26 Zr26 (by kernel_rfl) (by rfl)) rfl (by dsimp only [zS, zN, zH, zT]) ?_
     refine zst (op_move_tmp (by rfl)) rfl (by dsimp only [zS, zN, zH, zT]) ?_
     refine zst (op_stV V0 Sz26 (by rfl) (by rw [setB_ne (by omega)]; exact (by rw [setB_ne (by have := lt_nb b1; omega)]; exact push_ne b1)) (by first | exact VBl.z _ | exact VBl.v _ _) (by rfl)) rfl (by dsimp only [zS, zN, zH, zT]) ?_
     refine zst (op_assign_tmp (by rfl)) rfl (by dsimp only [zS, zN, zH, zT]) ?_
     refine al_end rfl ?_
     refine then_normal ?_
     refine aw_ret ?_
     refine inBlock_ret (then_ret (again_ret (inBlock_ret (then_ret ?_))))
     refine retD2 rfl (resV _ Try.underlying26 (by rfl) Sz26 (by rfl) (setB_at (by rw [setB_ne (by omega)]; exact (by rw [setB_ne (by have := lt_nb b1; omega)]; exact push_ne b1))) (by first | exact VBl.v _ _ | exact VBl.z _)) (.tmp (by rfl)) ?_
     exact ⟨by rw [applyV, if_neg h50, if_pos hall2, ha, drop_one hx1, allV_cons, if_pos he]; rfl, (((hx.push _ _).setB (nb_le hx)).setB (Nat.le_refl _)).setB (by omega)⟩
    ·
     (try simp only [y1, y2, y3, y4, y5, y6, y7, y8, y9, y0, List.length_map] at hc5)
     have he : ¬ (atV x u x.path).2 ≠ 0 := fun h => h hc5
     refine aw_skip ?_
     refine inBlock_normal (then_normal ?_)
     refine aw_region ?_
     refine zst (by first | exact op_add (by rfl) (by rfl) (wrap_i64 ⟨by omega, by omega⟩) | exact op_add (by rfl) (by rfl) (by rfl)) rfl (by dsimp only [zS, zN, zH, zT]) ?_
     refine zst (op_move_tmp (by rfl)) rfl (by dsimp only [zS, zN, zH, zT]) ?_
     refine al_end rfl ?_
     apply again_to (l.length - (j + 1)) [false, true, true, false, true, false, false, false, false, false, false, false, false, false, false, false, false, false, false, false, false, false, false, false, false, false, true, true, true, false, false, false, false, false, false, false, false, false, false, false, false, false, false, false, false, false, false, false, false, false]
     · (try dsimp only [maskT]); try exact rfl
     · rfl
     · omega
     exact ⟨j + 1, _, rfl, by omega, rfl, by rw [ha, drop_one hx1, allV_cons, if_neg he], by rw [show m + (j + 1) = (m + j) + 1 by omega]; exact BndV.at_ ((hb x (List.mem_of_getElem? hx1)).mono (by omega)) _ hu, setB_at (by rw [setB_ne (by have := lt_nb b0; omega)]; exact push_ne b0), by rw [setB_ne (by omega)]; exact (by rw [setB_ne (by have := lt_nb b1; omega)]; exact push_ne b1), ((hx.push _ _).setB (nb_le hx)).setB (Nat.le_refl _)⟩
   ·
    (try simp only [y1, y2, y3, y4, y5, y6, y7, y8, y9, y0, List.length_map] at hc4)
    (try simp only [List.length_map] at hc4)
    have hje : j = l.length := by omega
    subst hje
    rw [List.drop_length] at ha
    refine aw_exit ?_
    refine then_exit (again_exit (inBlock_here (then_normal ?_)))
    refine aw_seq ?_
    refine aw_seq ?_
    refine aw_region ?_
    refine zst (op_ldV u Try.underlying26 (by rfl) Sz26 (by rfl) b0 (by first | exact VBl.v _ _ | exact VBl.z _)) rfl (by dsimp only [zS, zN, zH, zT]) ?_
    refine zst (op_callF Try.func22 (by rfl) (by rfl) (.tmp (by rfl) .nil) (right_ok' _ u (hu.small (by omega)))) rfl (by dsimp only [zS, zN, zH, zT]) ?_
    refine zst (op_not (by rfl)) rfl (by dsimp only [zS, zN, zH, zT]) ?_
    refine al_end rfl ?_
    refine then_normal ?_
    refine aw_cond rfl (fun hc6 => ?_) (fun hc6 => ?_)
    ·
     (try simp only [y1, y2, y3, y4, y5, y6, y7, y8, y9, y0, List.length_map] at hc6)
     have hr : rightV 32 u = false := by simpa using hc6
     refine aw_seq ?_
     refine aw_region ?_
     refine zst (op_zeroV (pl := [(0, 1), (1, 1), (2, 1), (3, 1), (4, 1), (5, 1)]) Try.underlying26 Zr26 (by kernel_rfl) (by rfl)) rfl (by dsimp only [zS, zN, zH, zT]) ?_
     refine zst (op_stV V0 Sz26 (by rfl) b1 (by first | exact VBl.z _ | exact VBl.v _ _) (by rfl)) rfl (by dsimp only [zS, zN, zH, zT]) ?_
     refine zst (op_assign_const (by rfl)) rfl (by dsimp only [zS, zN, zH, zT]) ?_
     refine al_end rfl ?_
     refine then_normal ?_
     refine aw_ret ?_
     refine then_ret ?_
     refine retD2 rfl (resV _ Try.underlying26 (by rfl) Sz26 (by rfl) (setB_at b1) (by first | exact VBl.v _ _ | exact VBl.z _)) (.tmp (by rfl)) ?_
     exact ⟨by rw [applyV, if_neg h50, if_pos hall2, ha, allV, hr]; rfl, hx.setB (by omega)⟩
    ·
     (try simp only [y1, y2, y3, y4, y5, y6, y7, y8, y9, y0, List.length_map] at hc6)
     have hr : rightV 32 u = true := by simpa using hc6
     refine aw_skip ?_
     refine then_normal ?_
     refine aw_seq ?_
     refine aw_region ?_
     refine zst (op_ldV u Try.underlying26 (by rfl) Sz26 (by rfl) b0 (by first | exact VBl.v _ _ | exact VBl.z _)) rfl (by dsimp only [zS, zN, zH, zT]) ?_
     refine zst (op_stV u Sz26 (by rfl) b1 (by first | exact VBl.z _ | exact VBl.v _ _) (by rfl)) rfl (by dsimp only [zS, zN, zH, zT]) ?_
     refine zst (op_assign_const (by rfl)) rfl (by dsimp only [zS, zN, zH, zT]) ?_
     refine al_end rfl ?_
     refine then_normal ?_
     refine aw_ret ?_
     refine retD2 rfl (resV _ Try.underlying26 (by rfl) Sz26 (by rfl) (setB_at b1) (by first | exact VBl.v _ _ | exact VBl.z _)) (.tmp (by rfl)) ?_
     exact ⟨by rw [applyV, if_neg h50, if_pos hall2, ha, allV, hr]; rfl, hx.setB (by omega)⟩
theorem papply_at {Hs : HS} {v x : V} {w : AV} {l : List Opn} {m : Nat} {e : Int} (hA : applyV v l = (x, e)) (hm : m ≤ 1000) (hw : LL w 8 (l.map oD)) (hl : l.length ≤ 9223372036854775807) (hv : BndV m v) (hb : ∀ o ∈ l, BndV m o.val) : ACalls Try.prog 12 [.d (.agg (vC v)), w] Hs (Ret (.tup [.d (.agg (vC x)), .d (I e)]) Hs) := by
  have h := papply_ok Hs v w l m hm hw hl hv hb
  rwa [hA] at h
end Go.Proofs.Ytjamnhofbkgblaa
