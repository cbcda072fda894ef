/- What the functions that maps of fields need come to. -/
import Derived.Test.YtjamnhofbkgblaaValC
import Derived.Test.YtjamnhofbkgblaaMapAV
import Derived.KernelRfl
namespace Go.Proofs.Ytjamnhofbkgblaa
open Go.AV Go.AV.Ord Go.AV.Oct Go.AV.Val
set_option linter.unusedVariables false
set_option linter.unusedSimpArgs false
/- The order of two fields by their names. -/
set_option maxRecDepth 100000 in
theorem mcmp_ok (Hs : HS) (f g : F) : ACalls Try.prog 30 [.d (.agg (fC f)), .d (.agg (fC g))] Hs (Ret (.d (I (Lib.compareBytes f.name g.name))) Hs) := by
 refine acalls_of_aw Try.func30 rfl ?_
 refine aw_start (T' := [.d (.agg (fC f)), .d (.agg (fC g)), .un, .un, .un, .un, .un, .un, .un, .un]) rfl ?_
 refine aw_seq ?_
 refine aw_region ?_
 refine zst (op_box_elt (cs := [S f.name, I f.val.kind, TF f.val.yes, .v (.int .i64 f.val.num), S f.val.text, .lst 6 (f.val.list.map vD), .lst 7 (f.val.fields.map fD)]) (by rfl) (fD_cells7 f)) rfl (by dsimp only [zS, zN, zH, zT]) ?_
 refine zst (op_box_elt (cs := [S g.name, I g.val.kind, TF g.val.yes, .v (.int .i64 g.val.num), S g.val.text, .lst 6 (g.val.list.map vD), .lst 7 (g.val.fields.map fD)]) (by rfl) (fD_cells7 g)) rfl (by dsimp only [zS, zN, zH, zT]) ?_
 refine zst (op_assign_const (by rfl)) rfl (by dsimp only [zS, zN, zH, zT]) ?_
 refine al_end rfl ?_
 refine then_normal ?_
 refine aw_seq ?_
 refine aw_region ?_
 refine zst (by first | exact op_fieldAddr_ptr Try.underlying48 rfl Sz9 (by rfl) (by rfl) | exact op_fieldAddr_elt Try.underlying48 rfl Sz9 (by rfl) (by rfl) (by rfl)) rfl (by dsimp only [zS, zN, zH, zT]) ?_
 refine zst (by first | exact op_load_elt Try.underlying9 (by rfl) (by rfl) (by rfl) | exact op_load_ptr Try.underlying9 (by rfl) (by rfl) (by rfl) (by rfl)) rfl (by dsimp only [zS, zN, zH, zT]) ?_
 refine zst (by first | exact op_fieldAddr_ptr Try.underlying48 rfl Sz9 (by rfl) (by rfl) | exact op_fieldAddr_elt Try.underlying48 rfl Sz9 (by rfl) (by rfl) (by rfl)) rfl (by dsimp only [zS, zN, zH, zT]) ?_
 refine zst (by first | exact op_load_elt Try.underlying9 (by rfl) (by rfl) (by rfl) | exact op_load_ptr Try.underlying9 (by rfl) (by rfl) (by rfl) (by rfl)) rfl (by dsimp only [zS, zN, zH, zT]) ?_
 refine zst (op_callF Try.func31 (by rfl) (by rfl) (.tmp (by rfl) (.tmp (by rfl) .nil)) (strCmp_ok _ f.name g.name)) rfl (by dsimp only [zS, zN, zH, zT]) ?_
 refine zst (op_assign_tmp (by rfl)) rfl (by dsimp only [zS, zN, zH, zT]) ?_
 refine al_end rfl ?_
 refine then_normal ?_
 refine aw_ret ?_
 refine retPost1 rfl rfl ?_
 exact ⟨rfl, rfl⟩
/- Where is a name? -/
set_option maxRecDepth 100000 in
theorem search_ok (Hs : HS) (v : AV) (l : List F) (x : F) (hA : ArrF Hs 48 v l) (hr : rises l = true) (hl : l.length ≤ 100000) : ACalls Try.prog 29 [v, .d (.agg (fC x)), .fn (.func 30) [] []] Hs (Ret (.tup [.d (I (posF l x.name)), .d (TF (hasF l x.name))]) Hs) := by
 have hple := posF_le l x.name
 refine acalls_of_aw Try.func29 rfl ?_
 refine aw_start (T' := [v, .d (.agg (fC x)), .fn (.func 30) [] [], .un, .un, .un, .un, .un, .un, .un, .un, .un, .un, .un, .un, .un, .un, .un, .un, .un, .un, .un, .un, .un, .un, .un, .un, .un, .un, .un, .un, .un, .un, .un, .un, .un, .un, .un, .un, .un, .un, .un, .un, .un, .un, .un, .un, .un, .un]) rfl ?_
 refine aw_seq ?_
 refine aw_region ?_
 refine zst (op_box_elt (cs := [S x.name, I x.val.kind, TF x.val.yes, .v (.int .i64 x.val.num), S x.val.text, .lst 6 (x.val.list.map vD), .lst 7 (x.val.fields.map fD)]) (by rfl) (fD_cells7 x)) rfl (by dsimp only [zS, zN, zH, zT]) ?_
 refine zst (op_assign_const (by rfl)) rfl (by dsimp only [zS, zN, zH, zT]) ?_
 refine zst (op_assign_const (by rfl)) rfl (by dsimp only [zS, zN, zH, zT]) ?_
 refine al_end rfl ?_
 refine then_normal ?_
 refine aw_seq ?_
 refine aw_region ?_
 refine zst (op_move_tmp (by rfl)) rfl (by dsimp only [zS, zN, zH, zT]) ?_
 refine zst (op_lenA Try.underlying24 (by rfl) hA) rfl (by dsimp only [zS, zN, zH, zT]) ?_
 refine zst (op_assign_tmp (by rfl)) rfl (by dsimp only [zS, zN, zH, zT]) ?_
 refine al_end rfl ?_
 refine then_normal ?_
 refine aw_seq ?_
 refine aw_region ?_
 refine zst (op_move_tmp (by rfl)) rfl (by dsimp only [zS, zN, zH, zT]) ?_
 refine zst (op_assign_const (by rfl)) rfl (by dsimp only [zS, zN, zH, zT]) ?_
 refine zst (op_assign_tmp (by rfl)) rfl (by dsimp only [zS, zN, zH, zT]) ?_
 refine al_end rfl ?_
 refine then_normal ?_
 refine aw_seq ?_
 refine aw_block ?_
 apply aw_loopF (fun n T H => ∃ (i : Nat) (j : Nat), T = [v, .un, .fn (.func 30) [] [], .un, .elt [S x.name, I x.val.kind, TF x.val.yes, .v (.int .i64 x.val.num), S x.val.text, .lst 6 (x.val.list.map vD), .lst 7 (x.val.fields.map fD)], .un, .un, .un, .d (I l.length), .d (I i), .d (I j), .un, .un, .un, .un, .un, .un, .un, .un, .un, .un, .un, .un, .un, .un, .un, .un, .un, .un, .un, .un, .un, .un, .un, .un, .un, .un, .un, .un, .un, .un, .un, .un, .un, .un, .un, .un, .un, .un] ∧ i ≤ posF l x.name ∧ posF l x.name ≤ j ∧ j ≤ l.length ∧ n = j - i ∧ Hs = H) (l.length) [true, false, true, false, true, false, false, false, true, true, true, false, false, false, false, false, false, false, false, false, false, false, false, false, false, false, false, false, false, false, false, false, false, false, false, false, false, false, false, false, false, false, false, false, false, false, false, false, false]
 · (try dsimp only [maskT]); try exact rfl
 · rfl
 · exact ⟨0, l.length, rfl, by omega, hple, by omega, rfl, rfl⟩
 rintro n T H ⟨i, j, rfl, hi, hj, hjl, rfl, rfl⟩
 refine aw_seq ?_
 refine aw_seq ?_
 refine aw_region ?_
 refine zst (op_move_tmp (by rfl)) rfl (by dsimp only [zS, zN, zH, zT]) ?_
 refine zst (op_move_tmp (by rfl)) rfl (by dsimp only [zS, zN, zH, zT]) ?_
 refine zst (op_ltI (by rfl) (by rfl)) rfl (by dsimp only [zS, zN, zH, zT]) ?_
 refine al_end rfl ?_
 refine then_normal ?_
 refine aw_cond rfl (fun hc1 => ?_) (fun hc1 => ?_)
 ·
  (try simp only [y1, y2, y3, y4, y5, y6, y7, y8, y9, y0, List.length_map] at hc1)
  have hij : i < j := by omega
  obtain ⟨h, hh⟩ : ∃ h, (i + j) / 2 = h := ⟨_, rfl⟩
  have hh1 : i ≤ h ∧ h < j := by omega
  obtain ⟨id, cap, cs, rfl, hb, hc, hcap, hu⟩ := Arr.pos hA (by omega)
  obtain ⟨g, hg⟩ : ∃ g, l[h]? = some g := ⟨_, List.getElem?_eq_getElem (by omega)⟩
  have hpl := posF_lt (n := x.name) hr hg
  refine aw_skip ?_
  refine then_normal ?_
  refine aw_block ?_
  refine aw_seq ?_
  refine aw_region ?_
  refine zst (op_move_tmp (by rfl)) rfl (by dsimp only [zS, zN, zH, zT]) ?_
  refine zst (op_move_tmp (by rfl)) rfl (by dsimp only [zS, zN, zH, zT]) ?_
  refine zst (op_add (by rfl) (by rfl) (show IntKind.i64.wrap ((i : Int) + j) = ((i + j : Nat) : Int) by rw [wrap_i64 ⟨by omega, by omega⟩]; omega)) rfl (by dsimp only [zS, zN, zH, zT]) ?_
  refine zst (op_convI (by rw [Try.underlying3]; rfl) Try.underlying62 (by rfl) (wrap_u64 ⟨by omega, by omega⟩)) rfl (by dsimp only [zS, zN, zH, zT]) ?_
  refine zst (op_shr (by rfl) (by rfl) (by omega) ((shr1 (i + j)).trans (congrArg Nat.cast hh))) rfl (by dsimp only [zS, zN, zH, zT]) ?_
  refine zst (op_convI (by rw [Try.underlying62]; rfl) Try.underlying3 (by rfl) (wrap_i64 ⟨by omega, by omega⟩)) rfl (by dsimp only [zS, zN, zH, zT]) ?_
  refine zst (op_assign_tmp (by rfl)) rfl (by dsimp only [zS, zN, zH, zT]) ?_
  refine al_end rfl ?_
  refine then_normal ?_
  refine aw_seq ?_
  refine aw_draw [0, 0, 0, 0, 1, 1, 0, 0] mixed (by kernel_rfl) ?_
  refine zd0 (fun H => (op_move_tmp (by rfl))) rfl (by dsimp only [zS, zN, zH, zT]) ?_
  refine zd0 (fun H => (op_move_tmp (by rfl))) rfl (by dsimp only [zS, zN, zH, zT]) ?_
  refine zd0 (fun H => (op_move_tmp (by rfl))) rfl (by dsimp only [zS, zN, zH, zT]) ?_
  refine zd0 (fun H => (op_indexArr Try.underlying24 Sz48 (by rfl) (by rfl) (by omega) (by omega) (by rfl))) rfl (by dsimp only [zS, zN, zH, zT]) ?_
  refine zd1 (op_loadFA g Try.underlying48 (by rfl) Sz48 (by rfl) hb (by show _ ≤ cs.length; omega) (cells_at hu hg)) rfl (by dsimp only [zS, zN, zH, zT]) ?_
  refine zd1 (op_load_elts (ds := fC x) Try.underlying48 (by rfl) Sz48 (by rfl) (Nat.le_of_ble_eq_true rfl) (by rw [← fC7]; rfl)) rfl (by dsimp only [zS, zN, zH, zT]) ?_
  refine zd0 (fun H => (op_callV (by rfl) Try.func30 (by rfl) (by rfl) (.tmp (by rfl) (.tmp (by rfl) .nil)) (mcmp_ok _ g x))) rfl (by dsimp only [zS, zN, zH, zT]) ?_
  refine zd0 (fun H => (op_ltI (by rfl) (by rfl))) rfl (by dsimp only [zS, zN, zH, zT]) ?_
  refine drun_end rfl ?_
  refine then_normal ?_
  refine aw_cond rfl (fun hc2 => ?_) (fun hc2 => ?_)
  ·
   (try simp only [y1, y2, y3, y4, y5, y6, y7, y8, y9, y0, List.length_map] at hc2)
   have hless : h + 1 ≤ posF l x.name := hpl.1 (cb_lt.1 hc2)
   refine aw_region ?_
   refine zst (op_move_tmp (by rfl)) rfl (by dsimp only [zS, zN, zH, zT]) ?_
   refine zst (by first | exact op_add (by rfl) (by rfl) (wrap_i64 ⟨by omega, by omega⟩) | exact op_add (by rfl) (by rfl) (by rfl)) rfl (by dsimp only [zS, zN, zH, zT]) ?_
   refine zst (op_assign_tmp (by rfl)) rfl (by dsimp only [zS, zN, zH, zT]) ?_
   refine al_end rfl ?_
   refine inBlock_normal ?_
   apply again_to (j - (h + 1)) [true, false, true, false, true, false, false, false, true, true, true, false, false, false, false, false, false, false, false, false, false, false, false, false, false, false, false, false, false, false, false, false, false, false, false, false, false, false, false, false, false, false, false, false, false, false, false, false, false]
   · (try dsimp only [maskT]); try exact rfl
   · rfl
   · omega
   exact ⟨h + 1, j, rfl, hless, hj, hjl, rfl, rfl⟩
  ·
   (try simp only [y1, y2, y3, y4, y5, y6, y7, y8, y9, y0, List.length_map] at hc2)
   have hless : posF l x.name ≤ h := by have h1 : ¬ h < posF l x.name := fun h2 => hc2 (cb_lt.2 (hpl.2 h2)); omega
   refine aw_region ?_
   refine zst (op_move_tmp (by rfl)) rfl (by dsimp only [zS, zN, zH, zT]) ?_
   refine zst (op_assign_tmp (by rfl)) rfl (by dsimp only [zS, zN, zH, zT]) ?_
   refine al_end rfl ?_
   refine inBlock_normal ?_
   apply again_to (h - i) [true, false, true, false, true, false, false, false, true, true, true, false, false, false, false, false, false, false, false, false, false, false, false, false, false, false, false, false, false, false, false, false, false, false, false, false, false, false, false, false, false, false, false, false, false, false, false, false, false]
   · (try dsimp only [maskT]); try exact rfl
   · rfl
   · omega
   exact ⟨i, h, rfl, hi, hless, by omega, rfl, rfl⟩
 ·
  (try simp only [y1, y2, y3, y4, y5, y6, y7, y8, y9, y0, List.length_map] at hc1)
  have hij : i = j := by omega
  subst hij
  have hpi : posF l x.name = i := by omega
  refine aw_exit ?_
  refine then_exit (again_exit (inBlock_here (then_normal ?_)))
  refine aw_seq ?_
  refine aw_draw [0, 0, 0, 0, 0, 0, 0, 0, 0, 1, 1, 0, 0, 0, 0, 0] mixed (by kernel_rfl) ?_
  refine zd0 (fun H => (op_move_tmp (by rfl))) rfl (by dsimp only [zS, zN, zH, zT]) ?_
  refine zd0 (fun H => (op_move_tmp (by rfl))) rfl (by dsimp only [zS, zN, zH, zT]) ?_
  refine zd0 (fun H => (op_move_tmp (by rfl))) rfl (by dsimp only [zS, zN, zH, zT]) ?_
  refine zd0 (fun H => (op_ltI (by rfl) (by rfl))) rfl (by dsimp only [zS, zN, zH, zT]) ?_
  refine zd0 (fun H => (op_move_tmp (by rfl))) rfl (by dsimp only [zS, zN, zH, zT]) ?_
  refine drun_split 39 rfl (fun hg3 => ?_) (fun hg3 => ?_)
  ·
   (try simp only [y1, y2, y3, y4, y5, y6, y7, y8, y9, y0, List.length_map] at hg3)
   have hil : i < l.length := by (have h : (i : Int) < (l.length : Int) := hg3); omega
   obtain ⟨id, cap, cs, rfl, hb, hc, hcap, hu⟩ := Arr.pos hA (by omega)
   obtain ⟨g, hg⟩ : ∃ g, l[i]? = some g := ⟨_, List.getElem?_eq_getElem (by omega)⟩
   apply drun_normT
   · (try dsimp only [zS, zN, zH, zT]); try exact rfl
   refine zd0w rfl rfl rfl (fun H => (op_move_tmp (by rfl))) (by dsimp only [zS, zN, zH, zT]) ?_
   refine zd0w rfl rfl rfl (fun H => (op_move_tmp (by rfl))) (by dsimp only [zS, zN, zH, zT]) ?_
   refine zd0w rfl rfl rfl (fun H => (op_move_tmp (by rfl))) (by dsimp only [zS, zN, zH, zT]) ?_
   refine zd0w rfl rfl rfl (fun H => (op_indexArr Try.underlying24 Sz48 (by rfl) (by rfl) (by omega) (by omega) (by rfl))) (by dsimp only [zS, zN, zH, zT]) ?_
   refine zd1w rfl rfl rfl (op_loadFA g Try.underlying48 (by rfl) Sz48 (by rfl) hb (by show _ ≤ cs.length; omega) (cells_at hu hg)) (by dsimp only [zS, zN, zH, zT]) ?_
   refine zd1w rfl rfl rfl (op_load_elts (ds := fC x) Try.underlying48 (by rfl) Sz48 (by rfl) (Nat.le_of_ble_eq_true rfl) (by rw [← fC7]; rfl)) (by dsimp only [zS, zN, zH, zT]) ?_
   refine zd0w rfl rfl rfl (fun H => (op_callV (by rfl) Try.func30 (by rfl) (by rfl) (.tmp (by rfl) (.tmp (by rfl) .nil)) (mcmp_ok _ g x))) (by dsimp only [zS, zN, zH, zT]) ?_
   refine zd0w rfl rfl rfl (fun H => (op_eqI (by rfl) (by rfl))) (by dsimp only [zS, zN, zH, zT]) ?_
   refine zd0 (fun H => (op_pick_tt (by rfl) (val_tmp (by rfl)))) rfl (by dsimp only [zS, zN, zH, zT]) ?_
   refine zd0 (fun H => (op_assign_tmp (by rfl))) rfl (by dsimp only [zS, zN, zH, zT]) ?_
   refine zd0 (fun H => (op_assign_tmp (by rfl))) rfl (by dsimp only [zS, zN, zH, zT]) ?_
   refine drun_end rfl ?_
   refine then_normal ?_
   refine aw_ret ?_
   refine retPost2 rfl rfl rfl ?_
   exact ⟨by (rw [hpi, show hasF l x.name = (g.name == x.name) by simp [hasF, hpi, hg]]; rw [show (Lib.compareBytes g.name x.name == 0) = (g.name == x.name) by rw [Bool.eq_iff_iff]; simp [cb_eq]]), rfl⟩
  ·
   (try simp only [y1, y2, y3, y4, y5, y6, y7, y8, y9, y0, List.length_map] at hg3)
   have hil : ¬ i < l.length := by (have h : ¬ (i : Int) < (l.length : Int) := hg3); omega
   apply drun_normT
   · (try dsimp only [zS, zN, zH, zT]); try exact rfl
   refine zdU rfl rfl rfl rfl (by dsimp only [zS, zN, zH, zT]) ?_
   refine zdU rfl rfl rfl rfl (by dsimp only [zS, zN, zH, zT]) ?_
   refine zdU rfl rfl rfl rfl (by dsimp only [zS, zN, zH, zT]) ?_
   refine zdU rfl rfl rfl rfl (by dsimp only [zS, zN, zH, zT]) ?_
   refine zdU rfl rfl rfl rfl (by dsimp only [zS, zN, zH, zT]) ?_
   refine zdU rfl rfl rfl rfl (by dsimp only [zS, zN, zH, zT]) ?_
   refine zdU rfl rfl rfl rfl (by dsimp only [zS, zN, zH, zT]) ?_
   refine zdU rfl rfl rfl rfl (by dsimp only [zS, zN, zH, zT]) ?_
   refine zd0 (fun H => (op_pick_ff (by rfl) (val_const (by rfl)))) rfl (by dsimp only [zS, zN, zH, zT]) ?_
   refine zd0 (fun H => (op_assign_tmp (by rfl))) rfl (by dsimp only [zS, zN, zH, zT]) ?_
   refine zd0 (fun H => (op_assign_tmp (by rfl))) rfl (by dsimp only [zS, zN, zH, zT]) ?_
   refine drun_end rfl ?_
   refine then_normal ?_
   refine aw_ret ?_
   refine retPost2 rfl rfl rfl ?_
   exact ⟨by (rw [hpi, show hasF l x.name = false by simp [hasF, hpi, List.getElem?_eq_none (show l.length ≤ i by omega)]]) <;> rfl, rfl⟩
/- A field is inserted. -/
set_option maxHeartbeats 1000000 in
set_option maxRecDepth 100000 in
theorem insert_ok (Hs : HS) (v : AV) (l : List F) (i vid : Nat) (x : F) (hA : ArrF Hs 48 v l) (hi : i ≤ l.length) (hl : l.length ≤ 100000) (hv : Hs.blks[vid]? = some (f1 48 x)) (hne : ∀ m c, v ≠ .arr vid m c) : ACalls Try.prog 32 [v, .d (I i), .arr vid 1 1] Hs (fun av H' => InsR Hs 48 v (l.take i ++ x :: l.drop i) av H') := by
 refine acalls_of_aw Try.func32 rfl ?_
 refine aw_start (T' := (v :: (.d (I i)) :: (.arr vid 1 1) :: .un :: .un :: .un :: .un :: .un :: .un :: .un :: .un :: .un :: .un :: .un :: .un :: .un :: .un :: .un :: .un :: .un :: .un :: .un :: .un :: .un :: .un :: .un :: .un :: .un :: .un :: .un :: .un :: .un :: .un :: .un :: .un :: .un :: .un :: .un :: .un :: .un :: .un :: .un :: .un :: .un :: .un :: .un :: .un :: .un :: .un :: .un :: .un :: .un :: .un :: .un :: .un :: .un :: .un :: .un :: .un :: .un :: .un :: .un :: .un :: .un :: .un :: .un :: .un :: .un :: .un :: .un :: .un :: .un :: .un :: .un :: .un :: .un :: .un :: .un :: .un :: .un :: .un :: .un :: .un :: .un :: .un :: .un :: .un :: .un :: .un :: .un :: .un :: .un :: .un :: .un :: .un :: [])) rfl ?_
 refine aw_seq ?_
 refine aw_region ?_
 refine zst (op_assign_const (by rfl)) rfl (by dsimp only [zS, zN, zH, zT]) ?_
 refine al_end rfl ?_
 refine then_normal ?_
 refine aw_seq ?_
 refine aw_region ?_
 refine zst (op_move_tmp (by rfl)) rfl (by dsimp only [zS, zN, zH, zT]) ?_
 refine zst (op_move_tmp (by rfl)) rfl (by dsimp only [zS, zN, zH, zT]) ?_
 refine zst (op_sliceUn Try.underlying24 Sz48 hA (by rfl) (by omega) (by omega)) rfl (by dsimp only [zS, zN, zH, zT]) ?_
 refine al_end rfl ?_
 refine then_normal ?_
 refine aw_seq ?_
 refine aw_region ?_
 refine zst (op_move_tmp (by rfl)) rfl (by dsimp only [zS, zN, zH, zT]) ?_
 refine zst (op_lenArr Try.underlying24 (by rfl)) rfl (by dsimp only [zS, zN, zH, zT]) ?_
 refine zst (op_assign_tmp (by rfl)) rfl (by dsimp only [zS, zN, zH, zT]) ?_
 refine al_end rfl ?_
 refine then_normal ?_
 refine aw_seq ?_
 refine aw_seq ?_
 refine aw_region ?_
 refine zst (op_move_tmp (by rfl)) rfl (by dsimp only [zS, zN, zH, zT]) ?_
 refine zst (op_eqI (by rfl) (by rfl)) rfl (by dsimp only [zS, zN, zH, zT]) ?_
 refine al_end rfl ?_
 refine then_normal ?_
 refine aw_cond rfl (fun hc1 => ?_) (fun hc1 => ?_)
 ·
  (try simp only [y1, y2, y3, y4, y5, y6, y7, y8, y9, y0, List.length_map] at hc1)
  exact absurd hc1 (by decide)
 ·
  (try simp only [y1, y2, y3, y4, y5, y6, y7, y8, y9, y0, List.length_map] at hc1)
  refine aw_skip ?_
  refine then_normal ?_
  refine aw_seq ?_
  refine aw_region ?_
  refine zst (op_move_tmp (by rfl)) rfl (by dsimp only [zS, zN, zH, zT]) ?_
  refine zst (op_lenA Try.underlying24 (by rfl) hA) rfl (by dsimp only [zS, zN, zH, zT]) ?_
  refine zst (op_assign_tmp (by rfl)) rfl (by dsimp only [zS, zN, zH, zT]) ?_
  refine al_end rfl ?_
  refine then_normal ?_
  refine aw_seq ?_
  refine aw_seq ?_
  refine aw_region ?_
  refine zst (op_move_tmp (by rfl)) rfl (by dsimp only [zS, zN, zH, zT]) ?_
  refine zst (op_move_tmp (by rfl)) rfl (by dsimp only [zS, zN, zH, zT]) ?_
  refine zst (op_eqI (by rfl) (by rfl)) rfl (by dsimp only [zS, zN, zH, zT]) ?_
  refine al_end rfl ?_
  refine then_normal ?_
  refine aw_cond rfl (fun hc2 => ?_) (fun hc2 => ?_)
  ·
   (try simp only [y1, y2, y3, y4, y5, y6, y7, y8, y9, y0, List.length_map] at hc2)
   have hil : i = l.length := by omega
   refine aw_seq ?_
   refine aw_region ?_
   refine zst (op_move_tmp (by rfl)) rfl (by dsimp only [zS, zN, zH, zT]) ?_
   refine zst (op_move_tmp (by rfl)) rfl (by dsimp only [zS, zN, zH, zT]) ?_
   refine al_cons _ (op_append_arrX Try.underlying24 Inf48 (by rfl) hA (AddsX.arr (n := 1) (b := f1 48 x) (ys := [fD x]) Try.underlying24 hv (by rfl) (by show (((fC x).map AV.d).take (1 * 7)) = _; rw [List.take_of_length_le (by rw [List.length_map, fC_len]; omega)]; simp [flat, fD, DV.cells]) (by show 1 * 7 ≤ ((fC x).map AV.d).length; rw [List.length_map, fC_len]; omega) (lit_f x) (lit_f1 x)) (by simp) (by simp; omega) (by simp; omega)) rfl ?_
   rintro v2 H2 ⟨hA2, hK2, id2, m2, cc2, rfl, hn2, ho2⟩
   apply al_normT
   · (try dsimp only [putT, List.set_cons_zero, List.set_cons_succ]); try exact rfl
   refine zst (op_assign_tmp (by rfl)) rfl (by dsimp only [zS, zN, zH, zT]) ?_
   refine al_end rfl ?_
   refine then_normal ?_
   refine aw_ret ?_
   refine then_ret ?_
   refine retPost1 rfl rfl ?_
   exact ⟨by subst hil; unfold ArrF; rw [ins_len (Nat.le_refl _), List.take_length, List.drop_length, fcells_append]; simpa [fcells] using hA2, hK2, fun id n c h => by cases h; rcases Arr.or hA with h0 | ⟨id3, cap3, h3⟩; exact .inl (hn2 h0); rcases ho2 _ _ _ h3 with h | h; exact .inr ⟨_, _, by rw [h]; exact h3⟩; exact .inl h⟩
  ·
   (try simp only [y1, y2, y3, y4, y5, y6, y7, y8, y9, y0, List.length_map] at hc2)
   have hil : i < l.length := by omega
   obtain ⟨id, cap, cs, rfl, hb, hc, hcap, hu⟩ := Arr.pos hA (by omega)
   have hvi : vid ≠ id := fun h => hne _ _ (by rw [h])
   have hcs : (⟨48, cs, false⟩ : HB).cs.length = cap * 7 := hc
   refine aw_skip ?_
   refine then_normal ?_
   refine aw_seq ?_
   refine aw_seq ?_
   refine aw_region ?_
   refine zst (op_move_tmp (by rfl)) rfl (by dsimp only [zS, zN, zH, zT]) ?_
   refine zst (op_move_tmp (by rfl)) rfl (by dsimp only [zS, zN, zH, zT]) ?_
   refine zst (op_add (by rfl) (by rfl) (show IntKind.i64.wrap ((l.length : Int) + 1) = ((l.length + 1 : Nat) : Int) by rw [wrap_i64 ⟨by omega, by omega⟩]; omega)) rfl (by dsimp only [zS, zN, zH, zT]) ?_
   refine zst (op_move_tmp (by rfl)) rfl (by dsimp only [zS, zN, zH, zT]) ?_
   refine zst (op_capArr Try.underlying24 (by rfl)) rfl (by dsimp only [zS, zN, zH, zT]) ?_
   refine zst (op_gtI (by rfl) (by rfl)) rfl (by dsimp only [zS, zN, zH, zT]) ?_
   refine al_end rfl ?_
   refine then_normal ?_
   refine aw_cond rfl (fun hc3 => ?_) (fun hc3 => ?_)
   ·
    (try simp only [y1, y2, y3, y4, y5, y6, y7, y8, y9, y0, List.length_map] at hc3)
    have hg : cap < l.length + 1 := by omega
    refine aw_seq ?_
    refine aw_region ?_
    refine zst (op_move_tmp (by rfl)) rfl (by dsimp only [zS, zN, zH, zT]) ?_
    refine zst (op_move_tmp (by rfl)) rfl (by dsimp only [zS, zN, zH, zT]) ?_
    refine zst (op_sliceArr0 Try.underlying24 Sz48 (by rfl) (by rfl) (by omega) (by omega) (by rfl)) rfl (by dsimp only [zS, zN, zH, zT]) ?_
    refine zst (op_move_tmp (by rfl)) rfl (by dsimp only [zS, zN, zH, zT]) ?_
    refine zst (op_move_tmp (by rfl)) rfl (by dsimp only [zS, zN, zH, zT]) ?_
    refine zst (op_add (by rfl) (by rfl) (show IntKind.i64.wrap ((l.length : Int) + 1) = ((l.length + 1 : Nat) : Int) by rw [wrap_i64 ⟨by omega, by omega⟩]; omega)) rfl (by dsimp only [zS, zN, zH, zT]) ?_
    refine zst (op_move_tmp (by rfl)) rfl (by dsimp only [zS, zN, zH, zT]) ?_
    refine zst (op_sub (by rfl) (by rfl) (show IntKind.i64.wrap (((l.length + 1 : Nat) : Int) - (i : Int)) = ((l.length + 1 - i : Nat) : Int) by rw [wrap_i64 ⟨by omega, by omega⟩]; omega)) rfl (by dsimp only [zS, zN, zH, zT]) ?_
    refine al_cons _ (op_appendZ (k := l.length + 1 - i) Try.underlying24 Try.underlying3 Inf48 (by rfl) (by decide) (by rfl) (by rfl) (by omega) (by omega) hb (by show _ ≤ cs.length; omega) (by omega) (by omega)) rfl ?_
    rintro v2 H2 ⟨c2, hc2, rfl, rfl⟩
    apply al_normT
    · (try dsimp only [putT, List.set_cons_zero, List.set_cons_succ]); try exact rfl
    refine zst (op_assign_tmp (by rfl)) rfl (by dsimp only [zS, zN, zH, zT]) ?_
    refine al_end rfl ?_
    refine then_normal ?_
    refine aw_seq ?_
    refine aw_region ?_
    refine zst (op_move_tmp (by rfl)) rfl (by dsimp only [zS, zN, zH, zT]) ?_
    refine zst (op_move_tmp (by rfl)) rfl (by dsimp only [zS, zN, zH, zT]) ?_
    refine zst (op_sliceArr1 (m := i) (off := (i) * 7) (n' := l.length + 1 - i) (cap' := c2 - i) Try.underlying24 Sz48 (by rfl) (by rfl) (by omega) (by omega) (by omega) (by omega) (by rfl) (by omega) (by rfl)) rfl (by dsimp only [zS, zN, zH, zT]) ?_
    refine zst (op_move_tmp (by rfl)) rfl (by dsimp only [zS, zN, zH, zT]) ?_
    refine zst (op_copyB (b := ⟨48, (cs.take (i * 7) ++ List.replicate ((c2 - i) * 7) AV.un), false⟩) (b2 := f1 48 x) (vs := ((fC x).map AV.d)) (m := 1) Try.underlying24 Try.underlying24 Sz48 (by rfl) (From.arr vid 1 1) (by omega) push_at (push_ne hv) (by show (((fC x).map AV.d).drop 0).take (1 * 7) = ((fC x).map AV.d); rw [List.drop_zero, List.take_of_length_le (by rw [List.length_map, fC_len]; omega)]) (by rw [List.length_map, fC_len]) (by show _ ≤ ((cs.take (i * 7) ++ List.replicate ((c2 - i) * 7) AV.un)).length; rw [List.length_append, List.length_take, List.length_replicate]; omega) (by intro w hw; obtain ⟨d, hd, rfl⟩ := List.mem_map.1 hw; exact fC_one x d hd) (by rfl)) rfl (by dsimp only [zS, zN, zH, zT]) ?_
    refine al_end rfl ?_
    refine then_normal ?_
    refine aw_seq ?_
    refine aw_draw [0, 0, 0, 0, 0, 0, 0, 0, 2] mixed (by kernel_rfl) ?_
    refine zd0 (fun H => (op_move_tmp (by rfl))) rfl (by dsimp only [zS, zN, zH, zT]) ?_
    refine zd0 (fun H => (op_move_tmp (by rfl))) rfl (by dsimp only [zS, zN, zH, zT]) ?_
    refine zd0 (fun H => (op_move_tmp (by rfl))) rfl (by dsimp only [zS, zN, zH, zT]) ?_
    refine zd0 (fun H => (op_add (by rfl) (by rfl) (show IntKind.i64.wrap ((i : Int) + 1) = ((i + 1 : Nat) : Int) by rw [wrap_i64 ⟨by omega, by omega⟩]; omega))) rfl (by dsimp only [zS, zN, zH, zT]) ?_
    refine zd0 (fun H => (op_sliceArr1 (m := i + 1) (off := (i + 1) * 7) (n' := l.length - i) (cap' := c2 - (i + 1)) Try.underlying24 Sz48 (by rfl) (by rfl) (by omega) (by omega) (by omega) (by omega) (by rfl) (by omega) (by rfl))) rfl (by dsimp only [zS, zN, zH, zT]) ?_
    refine zd0 (fun H => (op_move_tmp (by rfl))) rfl (by dsimp only [zS, zN, zH, zT]) ?_
    refine zd0 (fun H => (op_move_tmp (by rfl))) rfl (by dsimp only [zS, zN, zH, zT]) ?_
    refine zd0 (fun H => (op_sliceArr1 (m := i) (off := (i) * 7) (n' := l.length - i) (cap' := cap - i) Try.underlying24 Sz48 (by rfl) (by rfl) (by omega) (by omega) (by omega) (by omega) (by rfl) (by omega) (by rfl))) rfl (by dsimp only [zS, zN, zH, zT]) ?_
    refine zd2 (op_copyB (b2 := ⟨48, cs, false⟩) (vs := ((cs.drop (i * 7)).take ((l.length - i) * 7))) (m := l.length - i) Try.underlying24 Try.underlying24 Sz48 (by rfl) (From.sub id (i * 7) (l.length - i) (cap - i)) (by omega) (put_blks_at push_at) (by rw [put_blks_ne (by have := lt_nb hb; omega)]; exact push_ne hb) (by rfl) (by show ((cs.drop (i * 7)).take ((l.length - i) * 7)).length = _; rw [List.length_take, List.length_drop]; omega) (by show _ ≤ (putL _ _ _).length; rw [putL_length, List.length_append, List.length_take, List.length_replicate]; omega) (by intro w hw; rw [rest_cells hu] at hw; exact fcells_one l w (List.mem_of_mem_drop hw)) (by rfl)) rfl (by dsimp only [zS, zN, zH, zT]) ?_
    refine drun_end rfl ?_
    refine then_normal ?_
    refine aw_seq ?_
    refine aw_region ?_
    refine zst (op_move_tmp (by rfl)) rfl (by dsimp only [zS, zN, zH, zT]) ?_
    refine zst (op_assign_tmp (by rfl)) rfl (by dsimp only [zS, zN, zH, zT]) ?_
    refine al_end rfl ?_
    refine then_normal ?_
    refine aw_ret ?_
    refine then_ret ?_
    refine retPost1 rfl rfl ?_
    exact insR_grow hc hcap hu hil hc2
   ·
    (try simp only [y1, y2, y3, y4, y5, y6, y7, y8, y9, y0, List.length_map] at hc3)
    have hg : l.length + 1 ≤ cap := by omega
    refine aw_skip ?_
    refine then_normal ?_
    refine aw_seq ?_
    refine aw_region ?_
    refine zst (op_move_tmp (by rfl)) rfl (by dsimp only [zS, zN, zH, zT]) ?_
    refine zst (op_move_tmp (by rfl)) rfl (by dsimp only [zS, zN, zH, zT]) ?_
    refine zst (op_move_tmp (by rfl)) rfl (by dsimp only [zS, zN, zH, zT]) ?_
    refine zst (op_add (by rfl) (by rfl) (show IntKind.i64.wrap ((l.length : Int) + 1) = ((l.length + 1 : Nat) : Int) by rw [wrap_i64 ⟨by omega, by omega⟩]; omega)) rfl (by dsimp only [zS, zN, zH, zT]) ?_
    refine zst (op_sliceArr0 (m := l.length + 1) Try.underlying24 Sz48 (by rfl) (by rfl) (by omega) (by omega) (by rfl)) rfl (by dsimp only [zS, zN, zH, zT]) ?_
    refine zst (op_assign_tmp (by rfl)) rfl (by dsimp only [zS, zN, zH, zT]) ?_
    refine al_end rfl ?_
    refine then_normal ?_
    refine aw_seq ?_
    refine aw_seq ?_
    refine aw_region ?_
    refine zst (op_move_tmp (by rfl)) rfl (by dsimp only [zS, zN, zH, zT]) ?_
    refine zst (op_move_tmp (by rfl)) rfl (by dsimp only [zS, zN, zH, zT]) ?_
    refine zst (op_move_tmp (by rfl)) rfl (by dsimp only [zS, zN, zH, zT]) ?_
    refine zst (op_move_tmp (by rfl)) rfl (by dsimp only [zS, zN, zH, zT]) ?_
    refine zst (op_add (by rfl) (by rfl) (show IntKind.i64.wrap ((i : Int) + 1) = ((i + 1 : Nat) : Int) by rw [wrap_i64 ⟨by omega, by omega⟩]; omega)) rfl (by dsimp only [zS, zN, zH, zT]) ?_
    refine zst (op_sliceArr1 (m := i + 1) (off := (i + 1) * 7) (n' := l.length - i) (cap' := cap - (i + 1)) Try.underlying24 Sz48 (by rfl) (by rfl) (by omega) (by omega) (by omega) (by omega) (by rfl) (by omega) (by rfl)) rfl (by dsimp only [zS, zN, zH, zT]) ?_
    refine zst (op_overlaps (rt := 4) Try.func53 (by kernel_rfl) (by kernel_rfl) (by kernel_rfl) (by kernel_rfl) Try.underlying24 Sz48 (by rfl) (by rfl) hvi hv hb (by rfl) (by show 0 < cs.length; omega)) rfl (by dsimp only [zS, zN, zH, zT]) ?_
    refine zst (op_not (by rfl)) rfl (by dsimp only [zS, zN, zH, zT]) ?_
    refine al_end rfl ?_
    refine then_normal ?_
    refine aw_cond rfl (fun _ => ?_) (fun h => by cases h)
    refine aw_seq ?_
    refine aw_draw [0, 0, 0, 0, 0, 0, 0, 0, 2] mixed (by kernel_rfl) ?_
    refine zd0 (fun H => (op_move_tmp (by rfl))) rfl (by dsimp only [zS, zN, zH, zT]) ?_
    refine zd0 (fun H => (op_move_tmp (by rfl))) rfl (by dsimp only [zS, zN, zH, zT]) ?_
    refine zd0 (fun H => (op_move_tmp (by rfl))) rfl (by dsimp only [zS, zN, zH, zT]) ?_
    refine zd0 (fun H => (op_add (by rfl) (by rfl) (show IntKind.i64.wrap ((i : Int) + 1) = ((i + 1 : Nat) : Int) by rw [wrap_i64 ⟨by omega, by omega⟩]; omega))) rfl (by dsimp only [zS, zN, zH, zT]) ?_
    refine zd0 (fun H => (op_sliceArr1 (m := i + 1) (off := (i + 1) * 7) (n' := l.length - i) (cap' := cap - (i + 1)) Try.underlying24 Sz48 (by rfl) (by rfl) (by omega) (by omega) (by omega) (by omega) (by rfl) (by omega) (by rfl))) rfl (by dsimp only [zS, zN, zH, zT]) ?_
    refine zd0 (fun H => (op_move_tmp (by rfl))) rfl (by dsimp only [zS, zN, zH, zT]) ?_
    refine zd0 (fun H => (op_move_tmp (by rfl))) rfl (by dsimp only [zS, zN, zH, zT]) ?_
    refine zd0 (fun H => (op_sliceArr1 (m := i) (off := (i) * 7) (n' := l.length + 1 - i) (cap' := cap - i) Try.underlying24 Sz48 (by rfl) (by rfl) (by omega) (by omega) (by omega) (by omega) (by rfl) (by omega) (by rfl))) rfl (by dsimp only [zS, zN, zH, zT]) ?_
    refine zd2 (op_copyB (b := ⟨48, cs, false⟩) (b2 := ⟨48, cs, false⟩) (vs := ((cs.drop (i * 7)).take ((l.length - i) * 7))) (m := l.length - i) Try.underlying24 Try.underlying24 Sz48 (by rfl) (From.sub id (i * 7) (l.length + 1 - i) (cap - i)) (by omega) hb hb (by rfl) (by show ((cs.drop (i * 7)).take ((l.length - i) * 7)).length = _; rw [List.length_take, List.length_drop]; omega) (by show _ ≤ cs.length; omega) (by intro w hw; rw [rest_cells hu] at hw; exact fcells_one l w (List.mem_of_mem_drop hw)) (by rfl)) rfl (by dsimp only [zS, zN, zH, zT]) ?_
    refine drun_end rfl ?_
    refine then_normal ?_
    refine aw_seq ?_
    refine aw_region ?_
    refine zst (op_move_tmp (by rfl)) rfl (by dsimp only [zS, zN, zH, zT]) ?_
    refine zst (op_move_tmp (by rfl)) rfl (by dsimp only [zS, zN, zH, zT]) ?_
    refine zst (op_sliceArr1 (m := i) (off := (i) * 7) (n' := l.length + 1 - i) (cap' := cap - i) Try.underlying24 Sz48 (by rfl) (by rfl) (by omega) (by omega) (by omega) (by omega) (by rfl) (by omega) (by rfl)) rfl (by dsimp only [zS, zN, zH, zT]) ?_
    refine zst (op_move_tmp (by rfl)) rfl (by dsimp only [zS, zN, zH, zT]) ?_
    refine zst (op_copyB (b2 := f1 48 x) (vs := ((fC x).map AV.d)) (m := 1) Try.underlying24 Try.underlying24 Sz48 (by rfl) (From.arr vid 1 1) (by omega) (put_blks_at hb) (by rw [put_blks_ne hvi]; exact hv) (by show (((fC x).map AV.d).drop 0).take (1 * 7) = ((fC x).map AV.d); rw [List.drop_zero, List.take_of_length_le (by rw [List.length_map, fC_len]; omega)]) (by rw [List.length_map, fC_len]) (by show _ ≤ (putL _ _ _).length; rw [putL_length]; omega) (by intro w hw; obtain ⟨d, hd, rfl⟩ := List.mem_map.1 hw; exact fC_one x d hd) (by rfl)) rfl (by dsimp only [zS, zN, zH, zT]) ?_
    refine al_end rfl ?_
    refine then_normal ?_
    refine aw_seq ?_
    refine aw_region ?_
    refine zst (op_move_tmp (by rfl)) rfl (by dsimp only [zS, zN, zH, zT]) ?_
    refine zst (op_assign_tmp (by rfl)) rfl (by dsimp only [zS, zN, zH, zT]) ?_
    refine al_end rfl ?_
    refine then_normal ?_
    refine aw_ret ?_
    refine then_ret ?_
    refine retPost1 rfl rfl ?_
    exact insR_shift rfl hb hc hg hu hil
end Go.Proofs.Ytjamnhofbkgblaa
