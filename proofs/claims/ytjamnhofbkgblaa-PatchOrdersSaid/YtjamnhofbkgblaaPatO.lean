/- What a map without a field comes to. -/
import Derived.Test.YtjamnhofbkgblaaPatW
import Derived.KernelRfl
namespace Go.Proofs.Ytjamnhofbkgblaa
open Go.AV Go.AV.Ord Go.AV.Oct Go.AV.Val Go.AV.Patch
set_option linter.unusedVariables false
set_option linter.unusedSimpArgs false
/- A list of none. -/
set_option maxRecDepth 100000 in
theorem index0_ok (Hs : HS) (n0 : List UInt8) : ACalls Try.prog 76 [.own none 7 [], .fn (.func 73) [] [.elt [S n0]]] Hs (Ret (.d (I (-1))) Hs) := by
 refine acalls_of_aw Try.func76 rfl ?_
 refine aw_start (T' := [.own none 7 [], .fn (.func 73) [] [.elt [S n0]], .un, .un, .un, .un, .un, .un, .un, .un, .un, .un, .un, .un, .un, .un, .un, .un, .un]) rfl ?_
 refine aw_seq ?_
 refine aw_region ?_
 refine zst (op_assign_const (by rfl)) rfl (by dsimp only [zS, zN, zH, zT]) ?_
 refine al_end rfl ?_
 refine then_normal ?_
 refine aw_seq ?_
 refine aw_seq ?_
 refine aw_region ?_
 refine zst (op_move_tmp (by rfl)) rfl (by dsimp only [zS, zN, zH, zT]) ?_
 refine zst (op_lenL Try.underlying24 (LL.own _ _ _)) rfl (by dsimp only [zS, zN, zH, zT]) ?_
 refine zst (op_move_const (by rfl)) rfl (by dsimp only [zS, zN, zH, zT]) ?_
 refine al_end rfl ?_
 refine then_normal ?_
 refine aw_block ?_
 apply aw_loopF (fun n T H => ∃ (k : Nat), T = [.own none 7 [], .fn (.func 73) [] [.elt [S n0]], .un, .un, .un, .un, .un, .d (I ([] : List DV).length), .d (I 0), .un, .un, .un, .un, .un, .un, .un, .un, .un, .un] ∧ Hs = H) (0) [true, true, false, false, false, false, false, true, true, false, false, false, false, false, false, false, false, false, false]
 · (try dsimp only [maskT]); try exact rfl
 · rfl
 · exact ⟨0, rfl, rfl⟩
 rintro n T H ⟨k, rfl, rfl⟩
 refine aw_seq ?_
 refine aw_region ?_
 refine zst (op_ltI (by rfl) (by rfl)) rfl (by dsimp only [zS, zN, zH, zT]) ?_
 refine al_end rfl ?_
 refine then_normal ?_
 refine aw_seq ?_
 refine aw_cond rfl (fun hc1 => ?_) (fun hc1 => ?_)
 ·
  (try simp only [y1, y2, y3, y4, y5, y6, y7, y8, y9, y0, List.length_map] at hc1)
  exact absurd hc1 (by simp)
 ·
  (try simp only [y1, y2, y3, y4, y5, y6, y7, y8, y9, y0, List.length_map] at hc1)
  refine aw_exit ?_
  refine then_exit (again_exit (inBlock_here (then_normal ?_)))
  refine aw_seq ?_
  refine aw_region ?_
  refine zst (op_assign_const (by rfl)) rfl (by dsimp only [zS, zN, zH, zT]) ?_
  refine al_end rfl ?_
  refine then_normal ?_
  refine aw_ret ?_
  refine retPost1 rfl rfl ?_
  exact ⟨rfl, rfl⟩
set_option maxRecDepth 100000 in
theorem delete0_ok (Hs : HS) (n0 : List UInt8) : ACalls Try.prog 72 [.own none 7 [], .fn (.func 73) [] [.elt [S n0]]] Hs (Ret (.own none 7 []) Hs) := by
 refine acalls_of_aw Try.func72 rfl ?_
 refine aw_start (T' := [.own none 7 [], .fn (.func 73) [] [.elt [S n0]], .un, .un, .un, .un, .un, .un, .un, .un, .un, .un, .un, .un, .un, .un, .un, .un, .un, .un, .un, .un, .un, .un, .un, .un, .un, .un, .un, .un, .un, .un, .un, .un, .un, .un, .un, .un, .un, .un, .un, .un]) rfl ?_
 refine aw_seq ?_
 refine aw_region ?_
 refine zst (op_assign_const (by rfl)) rfl (by dsimp only [zS, zN, zH, zT]) ?_
 refine al_end rfl ?_
 refine then_normal ?_
 refine aw_seq ?_
 refine aw_region ?_
 refine zst (op_move_tmp (by rfl)) rfl (by dsimp only [zS, zN, zH, zT]) ?_
 refine zst (op_move_tmp (by rfl)) rfl (by dsimp only [zS, zN, zH, zT]) ?_
 refine zst (op_callF Try.func76 (by rfl) (by rfl) (.tmp (by rfl) (.tmp (by rfl) .nil)) (index0_ok _ n0)) rfl (by dsimp only [zS, zN, zH, zT]) ?_
 refine zst (op_assign_tmp (by rfl)) rfl (by dsimp only [zS, zN, zH, zT]) ?_
 refine al_end rfl ?_
 refine then_normal ?_
 refine aw_seq ?_
 refine aw_seq ?_
 refine aw_region ?_
 refine zst (op_move_tmp (by rfl)) rfl (by dsimp only [zS, zN, zH, zT]) ?_
 refine zst (op_eqI (by rfl) (by rfl)) rfl (by dsimp only [zS, zN, zH, zT]) ?_
 refine al_end rfl ?_
 refine then_normal ?_
 refine aw_cond rfl (fun hc1 => ?_) (fun hc1 => ?_)
 ·
  (try simp only [y1, y2, y3, y4, y5, y6, y7, y8, y9, y0, List.length_map] at hc1)
  refine aw_seq ?_
  refine aw_region ?_
  refine zst (op_move_tmp (by rfl)) rfl (by dsimp only [zS, zN, zH, zT]) ?_
  refine zst (op_assign_tmp (by rfl)) rfl (by dsimp only [zS, zN, zH, zT]) ?_
  refine al_end rfl ?_
  refine then_normal ?_
  refine aw_ret ?_
  refine then_ret ?_
  refine retPost1 rfl rfl ?_
  exact ⟨rfl, rfl⟩
 ·
  (try simp only [y1, y2, y3, y4, y5, y6, y7, y8, y9, y0, List.length_map] at hc1)
  exact absurd trivial hc1
/- A map without a field: there is none. -/
set_option maxRecDepth 100000 in
theorem without_none (Hs : HS) (k : Int) (y : Bool) (i : Int) (tx : List UInt8) (ls : List V) (fs : List F) (n0 : List UInt8) (hfs : fs = []) : ACalls Try.prog 61 [.d (.agg (v6D k y i tx ls fs)), .d (S n0)] Hs (Ret (.d (.agg (vC (withoutV (.mk k y i tx ls fs) n0)))) Hs) := by
 refine ACalls.tidyP (vC_one _) ?_
 refine acalls_of_awC Try.func61 rfl ?_
 refine aw_start (T' := [.d (.agg (v6D k y i tx ls fs)), .d (S n0), .un, .un, .un, .un, .un, .un, .un, .un, .un, .un]) rfl ?_
 refine aw_seq ?_
 refine aw_region ?_
 refine zst (op_box_ptr (cs := (v6D k y i tx ls fs).map .d) (by intro h; cases h) (by rfl)) rfl (by dsimp only [zS, zN, zH, zT]) ?_
 refine zst (op_box_elt (by rfl) (by rfl)) rfl (by dsimp only [zS, zN, zH, zT]) ?_
 refine zst (op_alloc (Zr26) (by rfl)) rfl (by dsimp only [zS, zN, zH, zT]) ?_
 refine al_end rfl ?_
 refine then_normal ?_
 refine aw_seq ?_
 refine aw_region ?_
 refine zst (by first | exact op_fieldAddr_ptr Try.underlying26 rfl Sz24 (by rfl) (by rfl) | exact op_fieldAddr_elt Try.underlying26 rfl Sz24 (by rfl) (by rfl) (by rfl)) rfl (by dsimp only [zS, zN, zH, zT]) ?_
 refine zst (op_load_ptr Try.underlying24 (by rfl) (by rfl) (push_ne push_at) (by rfl)) rfl (by dsimp only [zS, zN, zH, zT]) ?_
 refine zst (op_callF Try.func63 (by rfl) (by rfl) (.tmp (by rfl) .nil) ((by have h := clone_none ((Hs.push 26 ((v6D k y i tx ls fs).map .d)).push 26 [.d (I 0), .d (TF false), .d (.v (.int .i64 0)), .d (S []), nilS, nilS]) (.d (.lst 7 (fs.map fD))) (by rw [hfs]; exact LL.d _ _); exact h))) rfl (by dsimp only [zS, zN, zH, zT]) ?_
 refine zst (op_makeFn .nil (.tmp (by rfl) .nil)) rfl (by dsimp only [zS, zN, zH, zT]) ?_
 refine zst (op_callF Try.func72 (by rfl) (by rfl) (.tmp (by rfl) (.tmp (by rfl) .nil)) (delete0_ok _ n0)) rfl (by dsimp only [zS, zN, zH, zT]) ?_
 refine zst (by first | exact op_fieldAddr_ptr Try.underlying26 rfl Sz24 (by rfl) (by rfl) | exact op_fieldAddr_elt Try.underlying26 rfl Sz24 (by rfl) (by rfl) (by rfl)) rfl (by dsimp only [zS, zN, zH, zT]) ?_
 refine zst (op_storeB (vs := [(.own none 7 [])]) (b' := (vBlk 26 k y i tx (.d (.lst 6 (ls.map vD))) (.own none 7 []))) (H' := _) Sz24 (by rfl) (push_ne push_at) (by intro h; cases h) (by rfl) (by rfl) (Nat.le_of_ble_eq_true rfl) (by simp [AV.one, DV.one]) (by rfl) (by rfl) rfl) rfl (by dsimp only [zS, zN, zH, zT]) ?_
 refine al_end rfl ?_
 refine then_normal ?_
 refine aw_seq ?_
 refine aw_region ?_
 refine zst (op_load_ptrs Try.underlying26 (by rfl) Sz26 (by rfl) (setB_at (push_ne push_at)) (Nat.le_of_ble_eq_true rfl) (by rfl)) rfl (by dsimp only [zS, zN, zH, zT]) ?_
 refine zst (op_storeB (vs := (vs6 k y i tx (.d (.lst 6 (ls.map vD))) (.own none 7 []))) (b' := (vBlk 26 k y i tx (.d (.lst 6 (ls.map vD))) (.own none 7 []))) (H' := _) Sz26 (by rfl) (by rw [setB_ne (by simp only [push_nb, ne_eq]; omega)]; have h := push_at (H := Hs.push 26 ((v6D k y i tx ls fs).map .d)) (e := 26) (cs := [.d (I 0), .d (TF false), .d (.v (.int .i64 0)), .d (S []), nilS, nilS]); exact h) (by intro h; cases h) (by rfl) (by rfl) (Nat.le_of_ble_eq_true rfl) (by simp [AV.one, DV.one, TF, S, I, BY]) (by rfl) (by rfl) rfl) rfl (by dsimp only [zS, zN, zH, zT]) ?_
 refine al_end rfl ?_
 refine then_normal ?_
 refine aw_ret ?_
 refine retC1 rfl (.cells Try.underlying26 (by rfl) Sz26 (by rfl) (setB_at (by rw [setB_ne (by simp only [push_nb, ne_eq]; omega)]; have h := push_at (H := Hs.push 26 ((v6D k y i tx ls fs).map .d)) (e := 26) (cs := [.d (I 0), .d (TF false), .d (.v (.int .i64 0)), .d (S []), nilS, nilS]); exact h)) (Nat.le_of_ble_eq_true rfl) (by rfl)) ?_
 exact ⟨((((Ext.refl Hs).push _ _).push _ _).setB (Nat.le_refl _)).setB (by rw [push_nb]; omega), _, rfl, .inl (by rw [hfs]; exact weak6 (Weak.refl _) (Weak.lst (App.own _ _ _)))⟩
/- A map without a field. -/
set_option maxRecDepth 100000 in
theorem without_some (Hs : HS) (k : Int) (y : Bool) (i : Int) (tx : List UInt8) (ls : List V) (fs : List F) (n0 : List UInt8) (h0 : fs ≠ []) (hl : fs.length ≤ 1000000) : ACalls Try.prog 61 [.d (.agg (v6D k y i tx ls fs)), .d (S n0)] Hs (Ret (.d (.agg (vC (withoutV (.mk k y i tx ls fs) n0)))) Hs) := by
 refine ACalls.tidyP (vC_one _) ?_
 refine acalls_of_awC Try.func61 rfl ?_
 refine aw_start (T' := [.d (.agg (v6D k y i tx ls fs)), .d (S n0), .un, .un, .un, .un, .un, .un, .un, .un, .un, .un]) rfl ?_
 refine aw_seq ?_
 refine aw_region ?_
 refine zst (op_box_ptr (cs := (v6D k y i tx ls fs).map .d) (by intro h; cases h) (by rfl)) rfl (by dsimp only [zS, zN, zH, zT]) ?_
 refine zst (op_box_elt (by rfl) (by rfl)) rfl (by dsimp only [zS, zN, zH, zT]) ?_
 refine zst (op_alloc (Zr26) (by rfl)) rfl (by dsimp only [zS, zN, zH, zT]) ?_
 refine al_end rfl ?_
 refine then_normal ?_
 refine aw_seq ?_
 refine aw_region ?_
 refine zst (by first | exact op_fieldAddr_ptr Try.underlying26 rfl Sz24 (by rfl) (by rfl) | exact op_fieldAddr_elt Try.underlying26 rfl Sz24 (by rfl) (by rfl) (by rfl)) rfl (by dsimp only [zS, zN, zH, zT]) ?_
 refine zst (op_load_ptr Try.underlying24 (by rfl) (by rfl) (push_ne push_at) (by rfl)) rfl (by dsimp only [zS, zN, zH, zT]) ?_
 refine al_cons _ (op_callF Try.func63 (by rfl) (by rfl) (.tmp (by rfl) .nil) (clone_arr _ _ fs (LL.d _ _) h0 hl)) rfl ?_
 rintro v2 H2 ⟨hA, hX, id, m, cap, rfl, hid⟩
 rcases hA with _ | ⟨_, _, _, cs, _, hb, hc, hcap, hu⟩
 simp only [push_nb] at hid
 apply al_normT
 · (try dsimp only [putT, List.set_cons_zero, List.set_cons_succ]); try exact rfl
 refine zst (op_makeFn .nil (.tmp (by rfl) .nil)) rfl (by dsimp only [zS, zN, zH, zT]) ?_
 refine al_cons _ (op_callF Try.func72 (by rfl) (by rfl) (.tmp (by rfl) (.tmp (by rfl) .nil)) (deleteF_ok _ _ id cap cs fs n0 hX (by simp only [push_nb]; omega) hb hc hcap hu hl)) rfl ?_
 rintro v3 H3 ⟨⟨cs3, rfl, hb3, hc3, hcap3, hu3⟩, hX3⟩
 have hb1 : H3.blks[Hs.nb]? = some (vBlk 26 k y i tx (.d (.lst 6 (ls.map vD))) (.d (.lst 7 (fs.map fD)))) := hX3.at (push_ne push_at)
 have hb2 : H3.blks[Hs.nb + 1]? = some (vBlk 26 0 false 0 [] nilS nilS) := hX3.at (by have h := push_at (H := Hs.push 26 ((v6D k y i tx ls fs).map .d)) (e := 26) (cs := [.d (I 0), .d (TF false), .d (.v (.int .i64 0)), .d (S []), nilS, nilS]); rw [push_nb] at h; exact h)
 apply al_normT
 · (try dsimp only [putT, List.set_cons_zero, List.set_cons_succ]); try exact rfl
 refine zst (by first | exact op_fieldAddr_ptr Try.underlying26 rfl Sz24 (by rfl) (by rfl) | exact op_fieldAddr_elt Try.underlying26 rfl Sz24 (by rfl) (by rfl) (by rfl)) rfl (by dsimp only [zS, zN, zH, zT]) ?_
 refine zst (op_storeB (vs := [(.arr id (delF fs n0).length cap)]) (b' := (vBlk 26 k y i tx (.d (.lst 6 (ls.map vD))) (.arr id (delF fs n0).length cap))) (H' := _) Sz24 (by rfl) hb1 (by intro h; cases h) (by rfl) (by rfl) (Nat.le_of_ble_eq_true rfl) (by simp [AV.one, DV.one]) (by rfl) (by rfl) rfl) rfl (by dsimp only [zS, zN, zH, zT]) ?_
 refine al_end rfl ?_
 refine then_normal ?_
 refine aw_seq ?_
 refine aw_region ?_
 refine zst (op_load_ptrs Try.underlying26 (by rfl) Sz26 (by rfl) (setB_at hb1) (Nat.le_of_ble_eq_true rfl) (by rfl)) rfl (by dsimp only [zS, zN, zH, zT]) ?_
 refine zst (op_storeB (vs := (vs6 k y i tx (.d (.lst 6 (ls.map vD))) (.arr id (delF fs n0).length cap))) (b' := (vBlk 26 k y i tx (.d (.lst 6 (ls.map vD))) (.arr id (delF fs n0).length cap))) (H' := _) Sz26 (by rfl) (by rw [push_nb, setB_ne (by omega)]; exact hb2) (by intro h; cases h) (by rfl) (by rfl) (Nat.le_of_ble_eq_true rfl) (by simp [AV.one, DV.one, TF, S, I, BY]) (by rfl) (by rfl) rfl) rfl (by dsimp only [zS, zN, zH, zT]) ?_
 refine al_end rfl ?_
 refine then_normal ?_
 refine aw_ret ?_
 refine retC1 rfl (.cells Try.underlying26 (by rfl) Sz26 (by rfl) (setB_at (by rw [push_nb, setB_ne (by omega)]; exact hb2)) (Nat.le_of_ble_eq_true rfl) (by rfl)) ?_
 refine ⟨((((((Ext.refl Hs).push _ _).push _ _).trans hX3).setB (Nat.le_refl _)).setB (by rw [push_nb]; omega)), _, rfl, .inr ⟨id, _, cap, 7, (delF fs n0).map fD, _, by omega, by rw [push_nb, setB_ne (by omega), setB_ne (by omega)]; exact hb3, by rw [flat_length (fsz _), List.length_map]; exact hu3, by rw [flat_length (fsz _), List.length_map]; show _ ≤ cs3.length; omega, List.length_map _, hcap3, fsz _, fone _, becomes_without⟩⟩
theorem without_ok (Hs : HS) (v : V) (n0 : List UInt8) (hl : v.fields.length ≤ 1000000) : ACalls Try.prog 61 [.d (.agg (vC v)), .d (S n0)] Hs (Ret (.d (.agg (vC (withoutV v n0)))) Hs) := by
  obtain ⟨k, y, i, tx, ls, fs, rfl⟩ : ∃ k y n t l fs, v = .mk k y n t l fs := ⟨_, _, _, _, _, _, v.eta⟩
  rw [v6D_eq]
  by_cases h : fs = []
  · exact without_none Hs k y i tx ls fs n0 h
  · exact without_some Hs k y i tx ls fs n0 h hl
end Go.Proofs.Ytjamnhofbkgblaa
