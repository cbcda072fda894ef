/- What a field by its name comes to, and a list's copy. -/
import Derived.Test.YtjamnhofbkgblaaFacts
import Derived.Test.YtjamnhofbkgblaaPatchAV
import Derived.KernelRfl
namespace Go.Proofs.Ytjamnhofbkgblaa
open Go.AV Go.AV.Ord Go.AV.Oct Go.AV.Val Go.AV.Patch
set_option linter.unusedVariables false
set_option linter.unusedSimpArgs false
/- A field by its name. -/
set_option maxRecDepth 100000 in
theorem get_ok (Hs : HS) (v : V) (n0 : List UInt8) (hl : v.fields.length ≤ 1000000) : ACalls Try.prog 13 [.d (.agg (vC v)), .d (S n0)] Hs (Ret (.tup [.d (.agg (vC (getV v n0).1)), .d (TF (getV v n0).2)]) Hs) := by
 refine ACalls.tidyT (xs := [.agg (vC (getV v n0).1), TF (getV v n0).2]) ?_
 refine acalls_of_awCW Try.func13 rfl ?_
 refine aw_start (T' := [.d (.agg (vC v)), .d (S n0), .un, .un, .un, .un, .un, .un, .un, .un, .un, .un, .un, .un, .un, .un, .un, .un, .un, .un, .un, .un, .un, .un, .un, .un]) rfl ?_
 refine aw_seq ?_
 refine aw_region ?_
 refine zst (op_box_elt (cs := [I v.kind, TF v.yes, .v (.int .i64 v.num), S v.text, .lst 6 (v.list.map vD), .lst 7 (v.fields.map fD)]) (by rfl) (vD_cells v)) rfl (by dsimp only [zS, zN, zH, zT]) ?_
 refine zst (op_alloc (Zr26) (by rfl)) rfl (by dsimp only [zS, zN, zH, zT]) ?_
 refine zst (op_assign_const (by rfl)) rfl (by dsimp only [zS, zN, zH, zT]) ?_
 refine al_end rfl ?_
 refine then_normal ?_
 refine aw_seq ?_
 refine aw_seq ?_
 refine aw_region ?_
 refine zst (by first | exact op_fieldAddr_ptr Try.underlying26 rfl Sz24 (by rfl) (by rfl) | exact op_fieldAddr_elt Try.underlying26 rfl Sz24 (by rfl) (by rfl) (by rfl)) rfl (by dsimp only [zS, zN, zH, zT]) ?_
 refine zst (by first | exact op_load_elt Try.underlying24 (by rfl) (by rfl) (by rfl) | exact op_load_ptr Try.underlying24 (by rfl) (by rfl) (by exact setB_at push_at) (by rfl)) rfl (by dsimp only [zS, zN, zH, zT]) ?_
 refine zst (op_lenL Try.underlying24 (by first | exact LL.d _ _ | exact LL.own _ _ _ | exact LL.nil _ | assumption)) rfl (by dsimp only [zS, zN, zH, zT]) ?_
 refine zst (op_move_const (by rfl)) rfl (by dsimp only [zS, zN, zH, zT]) ?_
 refine al_end rfl ?_
 refine then_normal ?_
 refine aw_block ?_
 apply aw_loopF (fun n T H => ∃ (j : Nat), T = [.un, .d (S n0), .elt [I v.kind, TF v.yes, .v (.int .i64 v.num), S v.text, .lst 6 (v.list.map vD), .lst 7 (v.fields.map fD)], .un, .ptr Hs.nb 0, .un, .un, .un, .un, .d (.lst 7 (v.fields.map fD)), .d (I (v.fields.map fD).length), .d (I j), .un, .un, .un, .un, .un, .un, .un, .un, .un, .un, .un, .un, .un, .un] ∧ j ≤ v.fields.length ∧ n = v.fields.length - j ∧ getF v.fields n0 = getF (v.fields.drop j) n0 ∧ H.blks[Hs.nb]? = some (vBlk 26 0 false 0 [] nilS nilS) ∧ Ext Hs H) (v.fields.length) [false, true, true, false, true, false, false, false, false, true, true, true, false, false, false, false, false, false, false, false, false, false, false, false, false, false]
 · (try dsimp only [maskT]); try exact rfl
 · rfl
 · exact ⟨0, rfl, by omega, rfl, rfl, push_at, (Ext.refl Hs).push _ _⟩
 rintro n T H ⟨j, rfl, hj, rfl, hg, e0, hx⟩
 refine aw_seq ?_
 refine aw_region ?_
 refine zst (op_ltI (by rfl) (by rfl)) rfl (by dsimp only [zS, zN, zH, zT]) ?_
 refine al_end rfl ?_
 refine then_normal ?_
 refine aw_seq ?_
 refine aw_cond rfl (fun hc1 => ?_) (fun hc1 => ?_)
 ·
  (try simp only [y1, y2, y3, y4, y5, y6, y7, y8, y9, y0, List.length_map] at hc1)
  (try simp only [List.length_map] at hc1)
  have hlt : j < v.fields.length := by omega
  obtain ⟨x, hx1⟩ : ∃ z0, v.fields[j]? = some z0 := ⟨_, List.getElem?_eq_getElem hlt⟩
  refine aw_skip ?_
  refine then_normal ?_
  refine aw_seq ?_
  refine aw_block ?_
  refine aw_seq ?_
  refine aw_region ?_
  refine zst (op_indexAddr (z := fD x) (cs := [S x.name, I x.val.kind, TF x.val.yes, .v (.int .i64 x.val.num), S x.val.text, .lst 6 (x.val.list.map vD), .lst 7 (x.val.fields.map fD)]) Try.underlying24 Sz48 (LL.d _ _) (by rfl) (by omega) (by rw [List.getElem?_map, show ((j : Nat) : Int).toNat = j from rfl, hx1]; rfl) (fD_cells7 x)) rfl (by dsimp only [zS, zN, zH, zT]) ?_
  refine zst (op_load_elts (ds := fC x) Try.underlying48 (by rfl) Sz48 (by rfl) (Nat.le_of_ble_eq_true rfl) (by rw [← fC7]; rfl)) rfl (by dsimp only [zS, zN, zH, zT]) ?_
  refine zst (op_alloc (Zr48) (by rfl)) rfl (by dsimp only [zS, zN, zH, zT]) ?_
  refine zst (op_storeF (b' := f1 48 x) x Sz48 (by rfl) push_at (by rfl) (Nat.le_of_ble_eq_true rfl) (by rfl) (by unfold f1; rw [← fC7]; rfl)) rfl (by dsimp only [zS, zN, zH, zT]) ?_
  refine al_end rfl ?_
  refine then_normal ?_
  refine aw_seq ?_
  refine aw_region ?_
  refine zst (by first | exact op_fieldAddr_ptr Try.underlying48 rfl Sz9 (by rfl) (by rfl) | exact op_fieldAddr_elt Try.underlying48 rfl Sz9 (by rfl) (by rfl) (by rfl)) rfl (by dsimp only [zS, zN, zH, zT]) ?_
  refine zst (op_load_ptr Try.underlying9 (by rfl) (by rfl) (setB_at push_at) (f1_name x)) rfl (by dsimp only [zS, zN, zH, zT]) ?_
  refine zst (op_move_tmp (by rfl)) rfl (by dsimp only [zS, zN, zH, zT]) ?_
  refine zst (op_eqS (by rfl) (by rfl)) rfl (by dsimp only [zS, zN, zH, zT]) ?_
  refine al_end rfl ?_
  refine then_normal ?_
  refine aw_cond rfl (fun hc2 => ?_) (fun hc2 => ?_)
  ·
   (try simp only [y1, y2, y3, y4, y5, y6, y7, y8, y9, y0, List.length_map] at hc2)
   have hn : x.name = n0 := hc2
   refine aw_seq ?_
   refine aw_draw [0, 1, 0, 0, 0, 2, 0] mixed (by kernel_rfl) ?_
   refine zd0 (fun H => (by first | exact op_fieldAddr_ptr Try.underlying48 rfl Sz26 (by rfl) (by rfl) | exact op_fieldAddr_elt Try.underlying48 rfl Sz26 (by rfl) (by rfl) (by rfl))) rfl (by dsimp only [zS, zN, zH, zT]) ?_
   refine zd1 (op_load_ptrsD (vC x.val) Try.underlying26 (by rfl) Sz26 (by rfl) (setB_at push_at) (by show 1 + 6 ≤ ((fC x).map AV.d).length; rw [List.length_map, fC_len]; exact Nat.le_refl _) (f1_val x) (vC_one _)) rfl (by dsimp only [zS, zN, zH, zT]) ?_
   refine zd0 (fun H => (by first | exact op_fieldAddr_ptr Try.underlying26 rfl Sz22 (by rfl) (by rfl) | exact op_fieldAddr_elt Try.underlying26 rfl Sz22 (by rfl) (by rfl) (by rfl))) rfl (by dsimp only [zS, zN, zH, zT]) ?_
   refine zd0 (fun H => (by first | exact op_load_elt Try.underlying22 (by rfl) (by rfl) (by rfl) | exact op_load_ptr Try.underlying22 (by rfl) (by rfl) (by exact setB_at push_at) (by rfl))) rfl (by dsimp only [zS, zN, zH, zT]) ?_
   refine zd0 (fun H => (op_eqI (by rfl) (by rfl))) rfl (by dsimp only [zS, zN, zH, zT]) ?_
   refine zd2 (op_stV x.val Sz26 (by rfl) (by rw [setB_ne (by have := lt_nb e0; omega)]; exact push_ne e0) (by first | exact VBl.z _ | exact VBl.v _ _) (by rfl)) rfl (by dsimp only [zS, zN, zH, zT]) ?_
   refine zd0 (fun H => (op_assign_tmp (by rfl))) rfl (by dsimp only [zS, zN, zH, zT]) ?_
   refine drun_end rfl ?_
   refine then_normal ?_
   refine aw_ret ?_
   refine inBlock_ret (then_ret (again_ret (inBlock_ret (then_ret ?_))))
   refine retD2 rfl (resV _ Try.underlying26 (by rfl) Sz26 (by rfl) (setB_at (by rw [setB_ne (by have := lt_nb e0; omega)]; exact push_ne e0)) (by first | exact VBl.v _ _ | exact VBl.z _)) (.tmp (by rfl)) ?_
   exact ⟨by rw [getV_some (by rw [hg, drop_one hx1, getF_cons, if_pos hn])]; rfl, ((hx.push _ _).setB (nb_le hx)).setB (Nat.le_refl _)⟩
  ·
   (try simp only [y1, y2, y3, y4, y5, y6, y7, y8, y9, y0, List.length_map] at hc2)
   have hn : ¬ x.name = n0 := hc2
   refine aw_skip ?_
   refine inBlock_normal (then_normal ?_)
   refine aw_region ?_
   refine zst (by first | exact op_add (by rfl) (by rfl) (wrap_i64 ⟨by omega, by omega⟩) | exact op_add (by rfl) (by rfl) (by rfl)) rfl (by dsimp only [zS, zN, zH, zT]) ?_
   refine zst (op_move_tmp (by rfl)) rfl (by dsimp only [zS, zN, zH, zT]) ?_
   refine al_end rfl ?_
   apply again_to (v.fields.length - (j + 1)) [false, true, true, false, true, false, false, false, false, true, true, true, false, false, false, false, false, false, false, false, false, false, false, false, false, false]
   · (try dsimp only [maskT]); try exact rfl
   · rfl
   · omega
   exact ⟨j + 1, rfl, by omega, rfl, by rw [hg, drop_one hx1, getF_cons, if_neg hn], by rw [setB_ne (by have := lt_nb e0; omega)]; exact push_ne e0, (hx.push _ _).setB (nb_le hx)⟩
 ·
  (try simp only [y1, y2, y3, y4, y5, y6, y7, y8, y9, y0, List.length_map] at hc1)
  (try simp only [List.length_map] at hc1)
  have hje : j = v.fields.length := by omega
  subst hje
  refine aw_exit ?_
  refine then_exit (again_exit (inBlock_here (then_normal ?_)))
  refine aw_seq ?_
  refine aw_region ?_
  refine zst (op_zeroV (pl := [(0, 1), (1, 1), (2, 1), (3, 1), (4, 1), (5, 1)]) Try.underlying26 Zr26 (by kernel_rfl) (by rfl)) rfl (by dsimp only [zS, zN, zH, zT]) ?_
  refine zst (op_stV V0 Sz26 (by rfl) e0 (by first | exact VBl.z _ | exact VBl.v _ _) (by rfl)) rfl (by dsimp only [zS, zN, zH, zT]) ?_
  refine zst (op_assign_const (by rfl)) rfl (by dsimp only [zS, zN, zH, zT]) ?_
  refine al_end rfl ?_
  refine then_normal ?_
  refine aw_ret ?_
  refine retD2 rfl (resV _ Try.underlying26 (by rfl) Sz26 (by rfl) (setB_at e0) (by first | exact VBl.v _ _ | exact VBl.z _)) (.tmp (by rfl)) ?_
  exact ⟨by rw [getV_none (by rw [hg, List.drop_length]; rfl)]; rfl, hx.setB (Nat.le_refl _)⟩
/- A list's copy. -/
set_option maxRecDepth 100000 in
theorem clone_cons (Hs : HS) (v : AV) (x : DV) (xs : List DV) (hv : LL v 7 (x :: xs)) (hl : xs.length ≤ 1000000) : ACalls Try.prog 63 [v] Hs (Ret (clV Hs 7 (x :: xs)) (clH Hs (x :: xs))) := by
 refine acalls_of_aw Try.func63 rfl ?_
 refine aw_start (T' := [v, .un, .un, .un, .un, .un, .un, .un]) rfl ?_
 refine aw_seq ?_
 refine aw_region ?_
 refine zst (op_assign_const (by rfl)) rfl (by dsimp only [zS, zN, zH, zT]) ?_
 refine al_end rfl ?_
 refine then_normal ?_
 refine aw_seq ?_
 refine aw_seq ?_
 refine aw_region ?_
 refine zst (op_move_tmp (by rfl)) rfl (by dsimp only [zS, zN, zH, zT]) ?_
 refine al_cons _ (op_nilL Try.underlying24 hv (by rfl)) rfl ?_
 rintro v2 H2 ⟨b, rfl, hb, rfl⟩
 apply al_normT
 · (try dsimp only [putT, List.set_cons_zero, List.set_cons_succ]); try exact rfl
 refine al_end rfl ?_
 refine then_normal ?_
 refine aw_cond rfl (fun hc1 => ?_) (fun hc1 => ?_)
 ·
  (try simp only [y1, y2, y3, y4, y5, y6, y7, y8, y9, y0, List.length_map] at hc1)
  exact absurd (hb hc1) (by simp)
 ·
  (try simp only [y1, y2, y3, y4, y5, y6, y7, y8, y9, y0, List.length_map] at hc1)
  refine aw_skip ?_
  refine then_normal ?_
  refine aw_seq ?_
  refine aw_region ?_
  refine zst (op_lit Try.underlying24 ZS48 (.nil _) (by rfl) (by simp) (by simp [flat]) (by decide)) rfl (by dsimp only [zS, zN, zH, zT]) ?_
  refine zst (op_move_tmp (by rfl)) rfl (by dsimp only [zS, zN, zH, zT]) ?_
  refine zst (op_append Try.underlying24 Inf48 (by rfl) (App.own _ _ _) (.list _ _ _ _ Try.underlying24 hv) (HS.ok_none _ _) (by simp) (by simp; omega) (by simp; omega)) rfl (by dsimp only [zS, zN, zH, zT]) ?_
  refine zst (op_assign_tmp (by rfl)) rfl (by dsimp only [zS, zN, zH, zT]) ?_
  refine al_end rfl ?_
  refine then_normal ?_
  refine aw_ret ?_
  refine retPost1 rfl rfl ?_
  exact ⟨rfl, by simp [clH]⟩
set_option maxRecDepth 100000 in
theorem clone_none (Hs : HS) (v : AV) (hv : LL v 7 []) : ACalls Try.prog 63 [v] Hs (Ret (.own none 7 []) Hs) := by
 suffices h : ACalls Try.prog 63 [v] Hs (fun av H' => Weak av (.own none 7 []) ∧ H' = Hs) from h.weak fun v H' ⟨h1, h2⟩ => ⟨_, h1, rfl, h2⟩
 refine acalls_of_aw Try.func63 rfl ?_
 refine aw_start (T' := [v, .un, .un, .un, .un, .un, .un, .un]) rfl ?_
 refine aw_seq ?_
 refine aw_region ?_
 refine zst (op_assign_const (by rfl)) rfl (by dsimp only [zS, zN, zH, zT]) ?_
 refine al_end rfl ?_
 refine then_normal ?_
 refine aw_seq ?_
 refine aw_seq ?_
 refine aw_region ?_
 refine zst (op_move_tmp (by rfl)) rfl (by dsimp only [zS, zN, zH, zT]) ?_
 refine al_cons _ (op_nilL Try.underlying24 hv (by rfl)) rfl ?_
 rintro v2 H2 ⟨b, rfl, hb, rfl⟩
 apply al_normT
 · (try dsimp only [putT, List.set_cons_zero, List.set_cons_succ]); try exact rfl
 refine al_end rfl ?_
 refine then_normal ?_
 refine aw_cond rfl (fun hc1 => ?_) (fun hc1 => ?_)
 ·
  (try simp only [y1, y2, y3, y4, y5, y6, y7, y8, y9, y0, List.length_map] at hc1)
  refine aw_seq ?_
  refine aw_region ?_
  refine zst (op_assign_const (by rfl)) rfl (by dsimp only [zS, zN, zH, zT]) ?_
  refine al_end rfl ?_
  refine then_normal ?_
  refine aw_ret ?_
  refine then_ret ?_
  refine retPost1 rfl rfl ?_
  exact ⟨weak_nil_own 7, rfl⟩
 ·
  (try simp only [y1, y2, y3, y4, y5, y6, y7, y8, y9, y0, List.length_map] at hc1)
  refine aw_skip ?_
  refine then_normal ?_
  refine aw_seq ?_
  refine aw_region ?_
  refine zst (op_lit Try.underlying24 ZS48 (.nil _) (by rfl) (by simp) (by simp [flat]) (by decide)) rfl (by dsimp only [zS, zN, zH, zT]) ?_
  refine zst (op_move_tmp (by rfl)) rfl (by dsimp only [zS, zN, zH, zT]) ?_
  refine zst (op_append0 Try.underlying24 Inf48 (LL.own _ _ _) (.list _ _ _ _ Try.underlying24 hv)) rfl (by dsimp only [zS, zN, zH, zT]) ?_
  refine zst (op_assign_tmp (by rfl)) rfl (by dsimp only [zS, zN, zH, zT]) ?_
  refine al_end rfl ?_
  refine then_normal ?_
  refine aw_ret ?_
  refine retPost1 rfl rfl ?_
  exact ⟨Weak.refl _, rfl⟩
theorem clone_ok (Hs : HS) (v : AV) (xs : List DV) (hv : LL v 7 xs) (hl : xs.length ≤ 1000000) : ACalls Try.prog 63 [v] Hs (Ret (clV Hs 7 xs) (clH Hs xs)) := by
  cases xs with
  | nil => exact clone_none Hs v hv
  | cons x xs => exact clone_cons Hs v x xs hv (by simp at hl; omega)
/- A copy that is written in place. -/
set_option maxRecDepth 100000 in
theorem clone_arr (Hs : HS) (v : AV) (fs : List F) (hv : LL v 7 (fs.map fD)) (h0 : fs ≠ []) (hl : fs.length ≤ 1000000) : ACalls Try.prog 63 [v] Hs (fun av H' => ArrF H' 48 av fs ∧ Ext Hs H' ∧ ∃ id m cap, av = .arr id m cap ∧ Hs.nb ≤ id) := by
 have hp : 0 < fs.length := List.length_pos_iff.2 h0
 refine acalls_of_aw Try.func63 rfl ?_
 refine aw_start (T' := [v, .un, .un, .un, .un, .un, .un, .un]) rfl ?_
 refine aw_seq ?_
 refine aw_region ?_
 refine zst (op_assign_const (by rfl)) rfl (by dsimp only [zS, zN, zH, zT]) ?_
 refine al_end rfl ?_
 refine then_normal ?_
 refine aw_seq ?_
 refine aw_seq ?_
 refine aw_region ?_
 refine zst (op_move_tmp (by rfl)) rfl (by dsimp only [zS, zN, zH, zT]) ?_
 refine al_cons _ (op_nilL Try.underlying24 hv (by rfl)) rfl ?_
 rintro v2 H2 ⟨b, rfl, hb, rfl⟩
 apply al_normT
 · (try dsimp only [putT, List.set_cons_zero, List.set_cons_succ]); try exact rfl
 refine al_end rfl ?_
 refine then_normal ?_
 refine aw_cond rfl (fun hc1 => ?_) (fun hc1 => ?_)
 ·
  (try simp only [y1, y2, y3, y4, y5, y6, y7, y8, y9, y0, List.length_map] at hc1)
  exact absurd (hb hc1) (by simp [h0])
 ·
  (try simp only [y1, y2, y3, y4, y5, y6, y7, y8, y9, y0, List.length_map] at hc1)
  refine aw_skip ?_
  refine then_normal ?_
  refine aw_seq ?_
  refine aw_region ?_
  refine zst (op_litArr Try.underlying24 ZS48 (.nil _) (by rfl) (by simp) (by decide)) rfl (by dsimp only [zS, zN, zH, zT]) ?_
  refine zst (op_move_tmp (by rfl)) rfl (by dsimp only [zS, zN, zH, zT]) ?_
  refine al_cons _ (op_append_arr Try.underlying24 Inf48 (by rfl) (Arr.arr Hs.nb 0 0 _ [] push_at (by simp [flat]) (Nat.le_refl _) (by simp)) (.list _ _ _ _ Try.underlying24 hv) (by simp; omega) (by simp; omega) (by simp; omega)) rfl ?_
  rintro v3 H3 ⟨hA, hK, id, m, cap, rfl, hn, ho⟩
  apply al_normT
  · (try dsimp only [putT, List.set_cons_zero, List.set_cons_succ]); try exact rfl
  refine zst (op_assign_tmp (by rfl)) rfl (by dsimp only [zS, zN, zH, zT]) ?_
  refine al_end rfl ?_
  refine then_normal ?_
  refine aw_ret ?_
  refine retPost1 rfl rfl ?_
  exact ⟨by simpa [ArrF, fcells] using hA, ext_keptL ((Ext.refl Hs).push _ _) hK (fun i n c h => by cases h; exact Nat.le_refl _), _, _, _, rfl, by rcases ho _ _ _ rfl with h | h; omega; (rw [push_nb] at h; omega)⟩
end Go.Proofs.Ytjamnhofbkgblaa
