/- What a map with a field comes to, or without it. -/
import Derived.Test.YtjamnhofbkgblaaPatG
import Derived.Test.YtjamnhofbkgblaaValMO
import Derived.KernelRfl
namespace Go.Proofs.Ytjamnhofbkgblaa
open Go.AV Go.AV.Ord Go.AV.Oct Go.AV.Val Go.AV.Patch
set_option linter.unusedVariables false
set_option linter.unusedSimpArgs false
/- A map with a field. -/
set_option maxRecDepth 100000 in
theorem with_ok (Hs : HS) (v : V) (n0 : List UInt8) (x : V) (hl : v.fields.length ≤ 90000) : ACalls Try.prog 43 [.d (.agg (vC v)), .d (S n0), .d (.agg (vC x))] Hs (Ret (.d (.agg (vC (withV v n0 x)))) Hs) := by
 refine ACalls.tidy1 ?_
 refine acalls_of_awCW Try.func43 rfl ?_
 refine aw_start (T' := [.d (.agg (vC v)), .d (S n0), .d (.agg (vC x)), .un, .un, .un, .un, .un, .un, .un, .un, .un, .un, .un, .un, .un, .un, .un, .un, .un]) rfl ?_
 refine aw_seq ?_
 refine aw_region ?_
 refine zst (op_box_elt (cs := [I v.kind, TF v.yes, .v (.int .i64 v.num), S v.text, .lst 6 (v.list.map vD), .lst 7 (v.fields.map fD)]) (by rfl) (vD_cells v)) rfl (by dsimp only [zS, zN, zH, zT]) ?_
 refine zst (op_box_elt (cs := [I x.kind, TF x.yes, .v (.int .i64 x.num), S x.text, .lst 6 (x.list.map vD), .lst 7 (x.fields.map fD)]) (by rfl) (vD_cells x)) rfl (by dsimp only [zS, zN, zH, zT]) ?_
 refine zst (op_alloc (Zr26) (by rfl)) rfl (by dsimp only [zS, zN, zH, zT]) ?_
 refine al_end rfl ?_
 refine then_normal ?_
 refine aw_seq ?_
 refine aw_seq ?_
 refine aw_region ?_
 refine zst (by first | exact op_fieldAddr_ptr Try.underlying26 rfl Sz22 (by rfl) (by rfl) | exact op_fieldAddr_elt Try.underlying26 rfl Sz22 (by rfl) (by rfl) (by rfl)) rfl (by dsimp only [zS, zN, zH, zT]) ?_
 refine zst (by first | exact op_load_elt Try.underlying22 (by rfl) (by rfl) (by rfl) | exact op_load_ptr Try.underlying22 (by rfl) (by rfl) (by exact push_at) (by rfl)) rfl (by dsimp only [zS, zN, zH, zT]) ?_
 refine zst (op_neI (by rfl) (by rfl)) rfl (by dsimp only [zS, zN, zH, zT]) ?_
 refine al_end rfl ?_
 refine then_normal ?_
 refine aw_cond rfl (fun hc1 => ?_) (fun hc1 => ?_)
 ·
  (try simp only [y1, y2, y3, y4, y5, y6, y7, y8, y9, y0, List.length_map] at hc1)
  have hk : ¬ v.kind = 5 := hc1
  refine aw_seq ?_
  refine aw_region ?_
  refine zst (op_load_elts (ds := vC v) Try.underlying26 (by rfl) Sz26 (by rfl) (Nat.le_of_ble_eq_true rfl) (by rw [vC_eq]; rfl)) rfl (by dsimp only [zS, zN, zH, zT]) ?_
  refine zst (op_stV v Sz26 (by rfl) push_at (by first | exact VBl.z _ | exact VBl.v _ _) (by rfl)) rfl (by dsimp only [zS, zN, zH, zT]) ?_
  refine al_end rfl ?_
  refine then_normal ?_
  refine aw_ret ?_
  refine then_ret ?_
  refine retD1 rfl (resV _ Try.underlying26 (by rfl) Sz26 (by rfl) (setB_at push_at) (by first | exact VBl.v _ _ | exact VBl.z _)) ?_
  exact ⟨by rw [withV, if_neg hk], ((Ext.refl Hs).push _ _).setB (Nat.le_refl _)⟩
 ·
  (try simp only [y1, y2, y3, y4, y5, y6, y7, y8, y9, y0, List.length_map] at hc1)
  have hk : v.kind = 5 := by simpa using hc1
  refine aw_skip ?_
  refine then_normal ?_
  refine aw_seq ?_
  refine aw_draw [0, 0, 2, 0, 0, 0, 0, 2, 2, 2] mixed (by kernel_rfl) ?_
  refine zd0 (fun H => (by first | exact op_fieldAddr_ptr Try.underlying26 rfl Sz24 (by rfl) (by rfl) | exact op_fieldAddr_elt Try.underlying26 rfl Sz24 (by rfl) (by rfl) (by rfl))) rfl (by dsimp only [zS, zN, zH, zT]) ?_
  refine zd0 (fun H => (by first | exact op_load_elt Try.underlying24 (by rfl) (by rfl) (by rfl) | exact op_load_ptr Try.underlying24 (by rfl) (by rfl) (by exact push_at) (by rfl))) rfl (by dsimp only [zS, zN, zH, zT]) ?_
  refine zd2 (op_callF Try.func63 (by rfl) (by rfl) (.tmp (by rfl) .nil) (clone_ok _ _ (v.fields.map fD) (LL.d _ _) (by simp; omega))) rfl (by dsimp only [zS, zN, zH, zT]) ?_
  refine zd0 (fun H => (op_move_tmp (by rfl))) rfl (by dsimp only [zS, zN, zH, zT]) ?_
  refine zd0 (fun H => (op_load_elts (ds := vC x) Try.underlying26 (by rfl) Sz26 (by rfl) (Nat.le_of_ble_eq_true rfl) (by rw [vC_eq]; rfl))) rfl (by dsimp only [zS, zN, zH, zT]) ?_
  refine zd0 (fun H => (op_buildD (pl := [(0, 1), (1, 6)]) (fC (F.mk n0 x)) Try.underlying48 Zr48 (by kernel_rfl) (by rfl) (by rfl) (fill_field n0 x) (fC_one _))) rfl (by dsimp only [zS, zN, zH, zT]) ?_
  refine zd0 (fun H => (op_lit Try.underlying24 ZS48 (.cons (y := fD (F.mk n0 x)) (by rfl) (.nil _)) (by rfl) (lit_f _) (lit_f1 _) (by decide))) rfl (by dsimp only [zS, zN, zH, zT]) ?_
  refine zd2 (op_append Try.underlying24 Inf48 (by rfl) (App.own _ _ _) (.list _ _ _ _ Try.underlying24 (LL.own _ _ _)) (clOk _ _) (by simp) (by simp; omega) (by simp; omega)) rfl (by dsimp only [zS, zN, zH, zT]) ?_
  refine zd2 (op_callF Try.func18 (by rfl) (by rfl) (.tmp (by rfl) .nil) (ofMap_ok _ _ (v.fields ++ [F.mk n0 x]) (by rw [List.map_append]; exact LL.own _ _ _) (by simp; omega))) rfl (by dsimp only [zS, zN, zH, zT]) ?_
  refine zd2 (op_stV (ofMapV (v.fields ++ [F.mk n0 x])) Sz26 (by rfl) (by rw [HS.up_blks, clH_blks]; exact push_at) (by first | exact VBl.z _ | exact VBl.v _ _) (by rfl)) rfl (by dsimp only [zS, zN, zH, zT]) ?_
  refine drun_end rfl ?_
  refine then_normal ?_
  refine aw_ret ?_
  refine retD1 rfl (resV _ Try.underlying26 (by rfl) Sz26 (by rfl) (setB_at (by rw [HS.up_blks, clH_blks]; exact push_at)) (by first | exact VBl.v _ _ | exact VBl.z _)) ?_
  exact ⟨by rw [withV, if_pos hk], (((clExt ((Ext.refl Hs).push _ _) _).upN (clNew ((Ext.refl Hs).push _ _) _) (clOk _ _)).1.setB (Nat.le_refl _))⟩
/- Is it the field? -/
set_option maxRecDepth 100000 in
theorem del1_ok (Hs : HS) (f : F) (n0 : List UInt8) : ACalls Try.prog 73 [.d (.agg (fC f)), .elt [S n0]] Hs (Ret (.d (TF (f.name == n0))) Hs) := by
 refine acalls_of_aw Try.func73 rfl ?_
 refine aw_start (T' := [.d (.agg (fC f)), .elt [S n0], .un, .un, .un, .un, .un, .un]) rfl ?_
 refine aw_seq ?_
 refine aw_region ?_
 refine zst (op_box_elt (cs := [S f.name, I f.val.kind, TF f.val.yes, .v (.int .i64 f.val.num), S f.val.text, .lst 6 (f.val.list.map vD), .lst 7 (f.val.fields.map fD)]) (by rfl) (fD_cells7 f)) rfl (by dsimp only [zS, zN, zH, zT]) ?_
 refine zst (op_assign_const (by rfl)) rfl (by dsimp only [zS, zN, zH, zT]) ?_
 refine al_end rfl ?_
 refine then_normal ?_
 refine aw_seq ?_
 refine aw_region ?_
 refine zst (by first | exact op_fieldAddr_ptr Try.underlying48 rfl Sz9 (by rfl) (by rfl) | exact op_fieldAddr_elt Try.underlying48 rfl Sz9 (by rfl) (by rfl) (by rfl)) rfl (by dsimp only [zS, zN, zH, zT]) ?_
 refine zst (by first | exact op_load_elt Try.underlying9 (by rfl) (by rfl) (by rfl) | exact op_load_ptr Try.underlying9 (by rfl) (by rfl) (by rfl) (by rfl)) rfl (by dsimp only [zS, zN, zH, zT]) ?_
 refine zst (by first | exact op_load_elt Try.underlying9 (by rfl) (by rfl) (by rfl) | exact op_load_ptr Try.underlying9 (by rfl) (by rfl) (by rfl) (by rfl)) rfl (by dsimp only [zS, zN, zH, zT]) ?_
 refine zst (op_eqS (by rfl) (by rfl)) rfl (by dsimp only [zS, zN, zH, zT]) ?_
 refine zst (op_assign_tmp (by rfl)) rfl (by dsimp only [zS, zN, zH, zT]) ?_
 refine al_end rfl ?_
 refine then_normal ?_
 refine aw_ret ?_
 refine retPost1 rfl rfl ?_
 exact ⟨rfl, rfl⟩
/- Where the field stands. -/
set_option maxRecDepth 100000 in
theorem indexF_ok (Hs : HS) (id cap : Nat) (cs : List AV) (fs : List F) (n0 : List UInt8) (hb : Hs.blks[id]? = some ⟨48, cs, false⟩) (hc : cs.length = cap * 7) (hcap : fs.length ≤ cap) (hu : cs.take (fs.length * 7) = fcells fs) (hl : fs.length ≤ 1000000) : ACalls Try.prog 76 [.arr id fs.length cap, .fn (.func 73) [] [.elt [S n0]]] Hs (fun av H' => H' = Hs ∧ ∃ r : Int, av = .d (I r) ∧ IxR fs n0 r) := by
 refine acalls_of_aw Try.func76 rfl ?_
 refine aw_start (T' := [.arr id fs.length cap, .fn (.func 73) [] [.elt [S n0]], .un, .un, .un, .un, .un, .un, .un, .un, .un, .un, .un, .un, .un, .un, .un, .un, .un]) rfl ?_
 refine aw_seq ?_
 refine aw_region ?_
 refine zst (op_assign_const (by rfl)) rfl (by dsimp only [zS, zN, zH, zT]) ?_
 refine al_end rfl ?_
 refine then_normal ?_
 refine aw_seq ?_
 refine aw_seq ?_
 refine aw_region ?_
 refine zst (op_move_tmp (by rfl)) rfl (by dsimp only [zS, zN, zH, zT]) ?_
 refine zst (op_lenArr Try.underlying24 (by rfl)) rfl (by dsimp only [zS, zN, zH, zT]) ?_
 refine zst (op_move_const (by rfl)) rfl (by dsimp only [zS, zN, zH, zT]) ?_
 refine al_end rfl ?_
 refine then_normal ?_
 refine aw_block ?_
 apply aw_loopF (fun n T H => ∃ (k : Nat), T = [.arr id fs.length cap, .fn (.func 73) [] [.elt [S n0]], .un, .un, .un, .un, .un, .d (I fs.length), .d (I k), .un, .un, .un, .un, .un, .un, .un, .un, .un, .un] ∧ k ≤ fs.length ∧ n = fs.length - k ∧ (∀ x ∈ fs.take k, ¬ x.name = n0) ∧ Hs = H) (fs.length) [true, true, false, false, false, false, false, true, true, false, false, false, false, false, false, false, false, false, false]
 · (try dsimp only [maskT]); try exact rfl
 · rfl
 · exact ⟨0, rfl, by omega, rfl, by simp, rfl⟩
 rintro n T H ⟨k, rfl, hk, rfl, hn, rfl⟩
 refine aw_seq ?_
 refine aw_region ?_
 refine zst (op_ltI (by rfl) (by rfl)) rfl (by dsimp only [zS, zN, zH, zT]) ?_
 refine al_end rfl ?_
 refine then_normal ?_
 refine aw_seq ?_
 refine aw_cond rfl (fun hc1 => ?_) (fun hc1 => ?_)
 ·
  (try simp only [y1, y2, y3, y4, y5, y6, y7, y8, y9, y0, List.length_map] at hc1)
  (try simp only [List.length_map] at hc1)
  have hlt : k < fs.length := by omega
  obtain ⟨x, hx⟩ : ∃ z0, fs[k]? = some z0 := ⟨_, List.getElem?_eq_getElem hlt⟩
  refine aw_skip ?_
  refine then_normal ?_
  refine aw_seq ?_
  refine aw_block ?_
  refine aw_seq ?_
  refine aw_region ?_
  refine zst (op_move_tmp (by rfl)) rfl (by dsimp only [zS, zN, zH, zT]) ?_
  refine zst (op_assign_tmp (by rfl)) rfl (by dsimp only [zS, zN, zH, zT]) ?_
  refine al_end rfl ?_
  refine then_normal ?_
  refine aw_seq ?_
  refine aw_region ?_
  refine zst (op_move_tmp (by rfl)) rfl (by dsimp only [zS, zN, zH, zT]) ?_
  refine zst (op_move_tmp (by rfl)) rfl (by dsimp only [zS, zN, zH, zT]) ?_
  refine zst (op_move_tmp (by rfl)) rfl (by dsimp only [zS, zN, zH, zT]) ?_
  refine zst (op_indexArr Try.underlying24 Sz48 (by rfl) (by rfl) (by omega) (by omega) (by rfl)) rfl (by dsimp only [zS, zN, zH, zT]) ?_
  refine zst (op_loadFA x Try.underlying48 (by rfl) Sz48 (by rfl) hb (by show _ ≤ cs.length; omega) (cells_at hu hx)) rfl (by dsimp only [zS, zN, zH, zT]) ?_
  refine zst (op_callV (by rfl) Try.func73 (by rfl) (by rfl) (.tmp (by rfl) .nil) (del1_ok _ x n0)) rfl (by dsimp only [zS, zN, zH, zT]) ?_
  refine al_end rfl ?_
  refine then_normal ?_
  refine aw_cond rfl (fun hc2 => ?_) (fun hc2 => ?_)
  ·
   (try simp only [y1, y2, y3, y4, y5, y6, y7, y8, y9, y0, List.length_map] at hc2)
   have hne : x.name = n0 := hc2
   refine aw_seq ?_
   refine aw_region ?_
   refine zst (op_move_tmp (by rfl)) rfl (by dsimp only [zS, zN, zH, zT]) ?_
   refine zst (op_assign_tmp (by rfl)) rfl (by dsimp only [zS, zN, zH, zT]) ?_
   refine al_end rfl ?_
   refine then_normal ?_
   refine aw_ret ?_
   refine inBlock_ret (then_ret (again_ret (inBlock_ret (then_ret ?_))))
   refine retPost1 rfl rfl ?_
   exact ⟨rfl, _, rfl, .inr ⟨k, rfl, hlt, hn, x, hx, hne⟩⟩
  ·
   (try simp only [y1, y2, y3, y4, y5, y6, y7, y8, y9, y0, List.length_map] at hc2)
   have hne : ¬ x.name = n0 := hc2
   refine aw_skip ?_
   refine inBlock_normal (then_normal ?_)
   refine aw_region ?_
   refine zst (by first | exact op_add (by rfl) (by rfl) (wrap_i64 ⟨by omega, by omega⟩) | exact op_add (by rfl) (by rfl) (by rfl)) rfl (by dsimp only [zS, zN, zH, zT]) ?_
   refine zst (op_move_tmp (by rfl)) rfl (by dsimp only [zS, zN, zH, zT]) ?_
   refine al_end rfl ?_
   apply again_to (fs.length - (k + 1)) [true, true, false, false, false, false, false, true, true, false, false, false, false, false, false, false, false, false, false]
   · (try dsimp only [maskT]); try exact rfl
   · rfl
   · omega
   exact ⟨k + 1, rfl, by omega, rfl, by rw [take_snoc hx]; intro y hy; rcases List.mem_append.1 hy with hy | hy; exact hn y hy; simp at hy; subst hy; exact hne, rfl⟩
 ·
  (try simp only [y1, y2, y3, y4, y5, y6, y7, y8, y9, y0, List.length_map] at hc1)
  (try simp only [List.length_map] at hc1)
  have hje : k = fs.length := by omega
  subst hje
  refine aw_exit ?_
  refine then_exit (again_exit (inBlock_here (then_normal ?_)))
  refine aw_seq ?_
  refine aw_region ?_
  refine zst (op_assign_const (by rfl)) rfl (by dsimp only [zS, zN, zH, zT]) ?_
  refine al_end rfl ?_
  refine then_normal ?_
  refine aw_ret ?_
  refine retPost1 rfl rfl ?_
  exact ⟨rfl, _, rfl, .inl ⟨rfl, by rwa [List.take_length] at hn⟩⟩
/- The field is taken out. -/
set_option maxRecDepth 100000 in
theorem deleteF_ok (B Hs : HS) (id cap : Nat) (cs : List AV) (fs : List F) (n0 : List UInt8) (hx0 : Ext B Hs) (hid : B.nb ≤ id) (hb : Hs.blks[id]? = some ⟨48, cs, false⟩) (hc : cs.length = cap * 7) (hcap : fs.length ≤ cap) (hu : cs.take (fs.length * 7) = fcells fs) (hl : fs.length ≤ 1000000) : ACalls Try.prog 72 [.arr id fs.length cap, .fn (.func 73) [] [.elt [S n0]]] Hs (fun av H' => DelR B 48 id cap (delF fs n0) av H') := by
 refine acalls_of_aw Try.func72 rfl ?_
 refine aw_start (T' := [.arr id fs.length cap, .fn (.func 73) [] [.elt [S n0]], .un, .un, .un, .un, .un, .un, .un, .un, .un, .un, .un, .un, .un, .un, .un, .un, .un, .un, .un, .un, .un, .un, .un, .un, .un, .un, .un, .un, .un, .un, .un, .un, .un, .un, .un, .un, .un, .un, .un, .un]) rfl ?_
 refine aw_seq ?_
 refine aw_region ?_
 refine zst (op_assign_const (by rfl)) rfl (by dsimp only [zS, zN, zH, zT]) ?_
 refine al_end rfl ?_
 refine then_normal ?_
 refine aw_seq ?_
 refine aw_region ?_
 refine zst (op_move_tmp (by rfl)) rfl (by dsimp only [zS, zN, zH, zT]) ?_
 refine zst (op_move_tmp (by rfl)) rfl (by dsimp only [zS, zN, zH, zT]) ?_
 refine al_cons _ (op_callF Try.func76 (by rfl) (by rfl) (.tmp (by rfl) (.tmp (by rfl) .nil)) (indexF_ok Hs id cap cs fs n0 hb hc hcap hu hl)) rfl ?_
 rintro v2 H2 ⟨rfl, r, rfl, hr⟩
 apply al_normT
 · (try dsimp only [putT, List.set_cons_zero, List.set_cons_succ]); try exact rfl
 refine zst (op_assign_tmp (by rfl)) rfl (by dsimp only [zS, zN, zH, zT]) ?_
 refine al_end rfl ?_
 refine then_normal ?_
 refine aw_seq ?_
 refine aw_seq ?_
 refine aw_region ?_
 refine zst (op_move_tmp (by rfl)) rfl (by dsimp only [zS, zN, zH, zT]) ?_
 refine zst (op_eqI (by rfl) (by rfl)) rfl (by dsimp only [zS, zN, zH, zT]) ?_
 refine al_end rfl ?_
 refine then_normal ?_
 refine aw_cond rfl (fun hc1 => ?_) (fun hc1 => ?_)
 ·
  (try simp only [y1, y2, y3, y4, y5, y6, y7, y8, y9, y0, List.length_map] at hc1)
  have hr1 : r = -1 := hc1
  have hno : ∀ x ∈ fs, ¬ x.name = n0 := by rcases hr with ⟨_, h⟩ | ⟨i, e, _⟩; exact h; omega
  refine aw_seq ?_
  refine aw_region ?_
  refine zst (op_move_tmp (by rfl)) rfl (by dsimp only [zS, zN, zH, zT]) ?_
  refine zst (op_assign_tmp (by rfl)) rfl (by dsimp only [zS, zN, zH, zT]) ?_
  refine al_end rfl ?_
  refine then_normal ?_
  refine aw_ret ?_
  refine then_ret ?_
  refine retPost1 rfl rfl ?_
  exact ⟨⟨cs, by rw [delF_none hno], hb, hc, by rw [delF_none hno]; exact hcap, by rw [delF_none hno]; exact hu⟩, hx0⟩
 ·
  (try simp only [y1, y2, y3, y4, y5, y6, y7, y8, y9, y0, List.length_map] at hc1)
  have hr1 : ¬ r = -1 := hc1
  rcases hr with ⟨e, _⟩ | ⟨i0, rfl, hi, hno, x0, hxi, hn0⟩; exact absurd e hr1
  have hstart := Del.start hb hc hcap hu hx0 hid hi hno hxi hn0
  refine aw_skip ?_
  refine then_normal ?_
  refine aw_seq ?_
  refine aw_seq ?_
  refine aw_region ?_
  refine zst (op_move_tmp (by rfl)) rfl (by dsimp only [zS, zN, zH, zT]) ?_
  refine zst (by first | exact op_add (by rfl) (by rfl) (wrap_i64 ⟨by omega, by omega⟩) | exact op_add (by rfl) (by rfl) (by rfl)) rfl (by dsimp only [zS, zN, zH, zT]) ?_
  refine zst (op_assign_tmp (by rfl)) rfl (by dsimp only [zS, zN, zH, zT]) ?_
  refine al_end rfl ?_
  refine then_normal ?_
  refine aw_block ?_
  apply aw_loopF (fun n T H => ∃ (i : Nat) (j : Nat) (l : List F) (cs : List AV), T = [.arr id fs.length cap, .fn (.func 73) [] [.elt [S n0]], .un, .un, .un, .d (I i), .d (I j), .un, .un, .un, .un, .un, .un, .un, .un, .un, .un, .un, .un, .un, .un, .un, .un, .un, .un, .un, .un, .un, .un, .un, .un, .un, .un, .un, .un, .un, .un, .un, .un, .un, .un, .un] ∧ n = fs.length - j ∧ Del B 48 id cap fs n0 H i j l cs) (fs.length - (i0 + 1)) [true, true, false, false, false, true, true, false, false, false, false, false, false, false, false, false, false, false, false, false, false, false, false, false, false, false, false, false, false, false, false, false, false, false, false, false, false, false, false, false, false, false]
  · (try dsimp only [maskT]); try exact rfl
  · rfl
  · exact ⟨i0, i0 + 1, _, _, rfl, rfl, hstart⟩
  rintro n T H ⟨i, j, l, cs, rfl, rfl, hd⟩
  have hij := hd.ij
  have hjl := hd.jl
  refine aw_seq ?_
  refine aw_seq ?_
  refine aw_region ?_
  refine zst (op_move_tmp (by rfl)) rfl (by dsimp only [zS, zN, zH, zT]) ?_
  refine zst (op_move_tmp (by rfl)) rfl (by dsimp only [zS, zN, zH, zT]) ?_
  refine zst (op_lenArr Try.underlying24 (by rfl)) rfl (by dsimp only [zS, zN, zH, zT]) ?_
  refine zst (op_ltI (by rfl) (by rfl)) rfl (by dsimp only [zS, zN, zH, zT]) ?_
  refine al_end rfl ?_
  refine then_normal ?_
  refine aw_cond rfl (fun hc2 => ?_) (fun hc2 => ?_)
  ·
   (try simp only [y1, y2, y3, y4, y5, y6, y7, y8, y9, y0, List.length_map] at hc2)
   (try simp only [List.length_map] at hc2)
   have hlt : j < fs.length := by omega
   obtain ⟨x, hx⟩ : ∃ z0, fs[j]? = some z0 := ⟨_, List.getElem?_eq_getElem hlt⟩
   refine aw_skip ?_
   refine then_normal ?_
   refine aw_seq ?_
   refine aw_block ?_
   refine aw_seq ?_
   refine aw_region ?_
   refine zst (op_move_tmp (by rfl)) rfl (by dsimp only [zS, zN, zH, zT]) ?_
   refine zst (op_move_tmp (by rfl)) rfl (by dsimp only [zS, zN, zH, zT]) ?_
   refine zst (op_indexArr Try.underlying24 Sz48 (by rfl) (by rfl) (by omega) (by omega) (by rfl)) rfl (by dsimp only [zS, zN, zH, zT]) ?_
   refine zst (op_loadFA x Try.underlying48 (by rfl) Sz48 (by rfl) hd.b (by show _ ≤ cs.length; have := hd.c; have := hd.cap; omega) (cells_at hd.u (hd.at_ hx))) rfl (by dsimp only [zS, zN, zH, zT]) ?_
   refine zst (op_alloc (Zr48) (by rfl)) rfl (by dsimp only [zS, zN, zH, zT]) ?_
   refine zst (op_storeF (b' := f1 48 x) x Sz48 (by rfl) push_at (by rfl) (Nat.le_of_ble_eq_true rfl) (by rfl) (by unfold f1; rw [← fC7]; rfl)) rfl (by dsimp only [zS, zN, zH, zT]) ?_
   refine al_end rfl ?_
   refine then_normal ?_
   refine aw_seq ?_
   refine aw_region ?_
   refine zst (op_move_tmp (by rfl)) rfl (by dsimp only [zS, zN, zH, zT]) ?_
   refine zst (op_loadF 48 x Try.underlying48 (by rfl) Sz48 (by rfl) (setB_at push_at)) rfl (by dsimp only [zS, zN, zH, zT]) ?_
   refine zst (op_callV (by rfl) Try.func73 (by rfl) (by rfl) (.tmp (by rfl) .nil) (del1_ok _ x n0)) rfl (by dsimp only [zS, zN, zH, zT]) ?_
   refine zst (op_not (by rfl)) rfl (by dsimp only [zS, zN, zH, zT]) ?_
   refine al_end rfl ?_
   refine then_normal ?_
   refine aw_cond rfl (fun hc3 => ?_) (fun hc3 => ?_)
   ·
    (try simp only [y1, y2, y3, y4, y5, y6, y7, y8, y9, y0, List.length_map] at hc3)
    have hn : ¬ x.name = n0 := by simpa using hc3
    have hd2 := hd.push (e := 48) (z := [.d (S []), .d (I 0), .d (TF false), .d (.v (.int .i64 0)), .d (S []), nilS, nilS]) (b := f1 48 x)
    refine aw_seq ?_
    refine aw_region ?_
    refine zst (op_move_tmp (by rfl)) rfl (by dsimp only [zS, zN, zH, zT]) ?_
    refine zst (op_move_tmp (by rfl)) rfl (by dsimp only [zS, zN, zH, zT]) ?_
    refine zst (op_loadF 48 x Try.underlying48 (by rfl) Sz48 (by rfl) (setB_at push_at)) rfl (by dsimp only [zS, zN, zH, zT]) ?_
    refine zst (op_indexArr Try.underlying24 Sz48 (by rfl) (by rfl) (by omega) (by omega) (by rfl)) rfl (by dsimp only [zS, zN, zH, zT]) ?_
    refine zst (op_storeF (b' := ⟨48, putL cs (i * 7) ((fC x).map .d), false⟩) x Sz48 (by rfl) hd2.b (by rfl) (by show _ ≤ cs.length; have := hd2.c; have := hd2.cap; have := hd2.ij; omega) (by rfl) (by rfl)) rfl (by dsimp only [zS, zN, zH, zT]) ?_
    refine al_end rfl ?_
    refine then_normal ?_
    refine aw_region ?_
    refine zst (op_move_tmp (by rfl)) rfl (by dsimp only [zS, zN, zH, zT]) ?_
    refine zst (by first | exact op_add (by rfl) (by rfl) (wrap_i64 ⟨by omega, by omega⟩) | exact op_add (by rfl) (by rfl) (by rfl)) rfl (by dsimp only [zS, zN, zH, zT]) ?_
    refine zst (op_assign_tmp (by rfl)) rfl (by dsimp only [zS, zN, zH, zT]) ?_
    refine al_end rfl ?_
    refine inBlock_normal (then_normal ?_)
    refine aw_region ?_
    refine zst (op_move_tmp (by rfl)) rfl (by dsimp only [zS, zN, zH, zT]) ?_
    refine zst (by first | exact op_add (by rfl) (by rfl) (wrap_i64 ⟨by omega, by omega⟩) | exact op_add (by rfl) (by rfl) (by rfl)) rfl (by dsimp only [zS, zN, zH, zT]) ?_
    refine zst (op_assign_tmp (by rfl)) rfl (by dsimp only [zS, zN, zH, zT]) ?_
    refine al_end rfl ?_
    apply again_to (fs.length - (j + 1)) [true, true, false, false, false, true, true, false, false, false, false, false, false, false, false, false, false, false, false, false, false, false, false, false, false, false, false, false, false, false, false, false, false, false, false, false, false, false, false, false, false, false]
    · (try dsimp only [maskT]); try exact rfl
    · rfl
    · omega
    exact ⟨i + 1, j + 1, _, _, rfl, rfl, hd2.move hx hn⟩
   ·
    (try simp only [y1, y2, y3, y4, y5, y6, y7, y8, y9, y0, List.length_map] at hc3)
    have hn : x.name = n0 := by simpa using hc3
    refine aw_skip ?_
    refine inBlock_normal (then_normal ?_)
    refine aw_region ?_
    refine zst (op_move_tmp (by rfl)) rfl (by dsimp only [zS, zN, zH, zT]) ?_
    refine zst (by first | exact op_add (by rfl) (by rfl) (wrap_i64 ⟨by omega, by omega⟩) | exact op_add (by rfl) (by rfl) (by rfl)) rfl (by dsimp only [zS, zN, zH, zT]) ?_
    refine zst (op_assign_tmp (by rfl)) rfl (by dsimp only [zS, zN, zH, zT]) ?_
    refine al_end rfl ?_
    apply again_to (fs.length - (j + 1)) [true, true, false, false, false, true, true, false, false, false, false, false, false, false, false, false, false, false, false, false, false, false, false, false, false, false, false, false, false, false, false, false, false, false, false, false, false, false, false, false, false, false]
    · (try dsimp only [maskT]); try exact rfl
    · rfl
    · omega
    exact ⟨i, j + 1, _, _, rfl, rfl, hd.push.skip hx hn⟩
  ·
   (try simp only [y1, y2, y3, y4, y5, y6, y7, y8, y9, y0, List.length_map] at hc2)
   (try simp only [List.length_map] at hc2)
   have hje : j = fs.length := by omega
   subst hje
   refine aw_exit ?_
   refine then_exit (again_exit (inBlock_here (then_normal ?_)))
   refine aw_seq ?_
   refine aw_region ?_
   refine zst (op_move_tmp (by rfl)) rfl (by dsimp only [zS, zN, zH, zT]) ?_
   refine zst (op_move_tmp (by rfl)) rfl (by dsimp only [zS, zN, zH, zT]) ?_
   refine zst (op_sliceArr1 (m := i) (off := i * 7) (n' := fs.length - i) (cap' := cap - i) Try.underlying24 Sz48 (by rfl) (by rfl) (by omega) (by omega) (by have := hd.cap; omega) (by omega) (by rfl) (by omega) (by rfl)) rfl (by dsimp only [zS, zN, zH, zT]) ?_
   refine zst (op_clear Try.underlying24 ZS48 (by rfl) (by decide) (by decide) (by rfl) hd.b (by omega) (by show _ ≤ cs.length; have := hd.c; have := hd.cap; omega) (by rfl)) rfl (by dsimp only [zS, zN, zH, zT]) ?_
   refine al_end rfl ?_
   refine then_normal ?_
   refine aw_seq ?_
   refine aw_region ?_
   refine zst (op_move_tmp (by rfl)) rfl (by dsimp only [zS, zN, zH, zT]) ?_
   refine zst (op_move_tmp (by rfl)) rfl (by dsimp only [zS, zN, zH, zT]) ?_
   refine zst (op_sliceArr0 Try.underlying24 Sz48 (by rfl) (by rfl) (by omega) (by have := hd.cap; omega) (by rfl)) rfl (by dsimp only [zS, zN, zH, zT]) ?_
   refine zst (op_assign_tmp (by rfl)) rfl (by dsimp only [zS, zN, zH, zT]) ?_
   refine al_end rfl ?_
   refine then_normal ?_
   refine aw_ret ?_
   refine retPost1 rfl rfl ?_
   exact hd.stop (by omega)
end Go.Proofs.Ytjamnhofbkgblaa
