/- Part 4 of what the law needs: SbTxn, OctW, OctV, OrdW, CKeyW, SchW, SbSch, SbMake, HistAV, HistTurn, HistEv. -/
import Derived.Test.YtjbpfnoibeogbaaPS3
import Derived.KernelRfl
import Derived.Shelf.Sort.Plain
import Derived.Shelf.Slices.CompactS
import Derived.Shelf.Slices.In.SortNone
import Derived.Shelf.SlMaps.Clone
namespace Go.Proofs.Ytjbpfnoibeogbaa
open Go.AV Go.AV.Ord Go.AV.Oct Go.AV.Hist Go.AV.Sb
set_option linter.unusedVariables false
set_option linter.unusedSimpArgs false
set_option maxRecDepth 100000 in
theorem txget_ok (Hs : HS) (tid sid : Nat) (lv : AV) (sz : Int) (o : TO) (key : List UInt8) (hT : Hs.blks[tid]? = some ⟨145, [.ptr sid 0, .d (I 0), .d (I 0), .d (I 0), .d (I 0), lv, .d (I sz)], false⟩) (hS : Hs.blks[sid]? = some ⟨134, [nilS, .d (I 0), .d (I 0), nilS], false⟩) (hL : LL lv 1 (lsO o)) (hgo : ∀ k w, o = some (k, w) → w.gone = false) : ACalls Try.prog 64 [.ptr tid 0, .d (S key)] Hs (Ret (.tup [.d (S ((foundO o key).getD Wn).val), .d (TF (foundO o key).isSome)]) Hs) := by
 refine ACalls.tidyT (xs := [S ((foundO o key).getD Wn).val, TF (foundO o key).isSome]) ?_
 have hgx : ((foundO o key).getD Wn).gone = false := by match o with | none => rfl | some (k, w) => by_cases hk : k = key <;> simp [foundO, hk, hgo k w rfl, Wn]
 refine acalls_of_aw Try.func64 rfl ?_
 refine aw_start (T' := [.ptr tid 0, .d (S key), .un, .un, .un, .un, .un, .un, .un, .un, .un, .un, .un, .un, .un, .un, .un, .un, .un, .un, .un, .un, .un, .un, .un, .un, .un, .un, .un, .un, .un, .un, .un, .un, .un, .un]) rfl ?_
 refine aw_seq ?_
 refine aw_region ?_
 refine zst (op_assign_const (by rfl)) rfl (by dsimp only [zS, zN, zH, zT]) ?_
 refine zst (op_assign_const (by rfl)) rfl (by dsimp only [zS, zN, zH, zT]) ?_
 refine al_end rfl ?_
 refine then_normal ?_
 refine aw_seq ?_
 refine aw_seq ?_
 refine aw_region ?_
 refine zst (op_move_tmp (by rfl)) rfl (by dsimp only [zS, zN, zH, zT]) ?_
 refine zst (op_ptr_nil Try.underlying72 (by rfl) (by rfl)) rfl (by dsimp only [zS, zN, zH, zT]) ?_
 refine al_end rfl ?_
 refine then_normal ?_
 refine aw_cond rfl (fun h => by cases h) (fun _ => ?_)
 refine aw_skip ?_
 refine then_normal ?_
 refine aw_seq ?_
 refine aw_seq ?_
 refine aw_region ?_
 refine zst (op_move_tmp (by rfl)) rfl (by dsimp only [zS, zN, zH, zT]) ?_
 refine zst (by first | exact op_nilCheck_ptr (by rfl) | exact op_nilCheck_elt (by rfl)) rfl (by dsimp only [zS, zN, zH, zT]) ?_
 refine zst (by first | exact op_fieldAddr_ptr Try.underlying145 rfl Sz143 (by rfl) (by rfl) | exact op_fieldAddr_elt Try.underlying145 rfl Sz143 (by rfl) (by rfl) (by rfl)) rfl (by dsimp only [zS, zN, zH, zT]) ?_
 refine zst (op_move_tmp (by rfl)) rfl (by dsimp only [zS, zN, zH, zT]) ?_
 refine zst (op_callF Try.func96 (by rfl) (by rfl) (.tmp (by rfl) (.tmp (by rfl) .nil)) (tget_ok _ tid sid lv sz key hT o hL)) rfl (by dsimp only [zS, zN, zH, zT]) ?_
 refine zst (op_move_tmp (by rfl)) rfl (by dsimp only [zS, zN, zH, zT]) ?_
 refine zst (op_extract (by rfl) (by rfl)) rfl (by dsimp only [zS, zN, zH, zT]) ?_
 refine zst (op_extract (by rfl) (by rfl)) rfl (by dsimp only [zS, zN, zH, zT]) ?_
 refine zst (op_alloc (Zr51) (by rfl)) rfl (by dsimp only [zS, zN, zH, zT]) ?_
 refine zst (op_storeB (vs := [.d (S ((foundO o key).getD Wn).key), .d (S ((foundO o key).getD Wn).val), .d (TF ((foundO o key).getD Wn).gone)]) (b' := ⟨51, [.d (S ((foundO o key).getD Wn).key), .d (S ((foundO o key).getD Wn).val), .d (TF ((foundO o key).getD Wn).gone)], false⟩) (H' := _) Sz51 (by rfl) push_at (by intro h; cases h) (by rfl) (by rfl) (Nat.le_of_ble_eq_true rfl) (by simp [AV.one, DV.one, TF, S, I, BY]) (by rfl) (by rfl) rfl) rfl (by dsimp only [zS, zN, zH, zT]) ?_
 refine zst (op_assign_tmp (by rfl)) rfl (by dsimp only [zS, zN, zH, zT]) ?_
 refine al_end rfl ?_
 refine then_normal ?_
 refine aw_seq ?_
 refine aw_region ?_
 refine zst (op_move_tmp (by rfl)) rfl (by dsimp only [zS, zN, zH, zT]) ?_
 refine al_end rfl ?_
 refine then_normal ?_
 refine aw_cond rfl (fun hc2 => ?_) (fun hc2 => ?_)
 ·
  (try simp only [y1, y2, y3, y4, y5, y6, y7, y8, y9, y0, List.length_map] at hc2)
  have his : (foundO o key).isSome = true := hc2
  refine aw_seq ?_
  refine aw_draw [0, 1, 0, 1, 0, 0, 0] mixed (by kernel_rfl) ?_
  refine zd0 (fun H => (by first | exact op_fieldAddr_ptr Try.underlying51 rfl Sz9 (by rfl) (by rfl) | exact op_fieldAddr_elt Try.underlying51 rfl Sz9 (by rfl) (by rfl) (by rfl))) rfl (by dsimp only [zS, zN, zH, zT]) ?_
  refine zd1 (by first | exact op_load_elt Try.underlying9 (by rfl) (by rfl) (by rfl) | exact op_load_ptr Try.underlying9 (by rfl) (by rfl) (by (try have l1 := lt_nb hT); (try have l2 := lt_nb hS); repeat (first | assumption | exact push_at | exact setB_at push_at | (rw [setB_ne (by simp only [setB_nb, push_nb, ne_eq]; omega)]) | apply push_ne | apply setB_at)) (by rfl)) rfl (by dsimp only [zS, zN, zH, zT]) ?_
  refine zd0 (fun H => (by first | exact op_fieldAddr_ptr Try.underlying51 rfl Sz4 (by rfl) (by rfl) | exact op_fieldAddr_elt Try.underlying51 rfl Sz4 (by rfl) (by rfl) (by rfl))) rfl (by dsimp only [zS, zN, zH, zT]) ?_
  refine zd1 (by first | exact op_load_elt Try.underlying4 (by rfl) (by rfl) (by rfl) | exact op_load_ptr Try.underlying4 (by rfl) (by rfl) (by (try have l1 := lt_nb hT); (try have l2 := lt_nb hS); repeat (first | assumption | exact push_at | exact setB_at push_at | (rw [setB_ne (by simp only [setB_nb, push_nb, ne_eq]; omega)]) | apply push_ne | apply setB_at)) (by rfl)) rfl (by dsimp only [zS, zN, zH, zT]) ?_
  refine zd0 (fun H => (op_not (by rfl))) rfl (by dsimp only [zS, zN, zH, zT]) ?_
  refine zd0 (fun H => (op_assign_tmp (by rfl))) rfl (by dsimp only [zS, zN, zH, zT]) ?_
  refine zd0 (fun H => (op_assign_tmp (by rfl))) rfl (by dsimp only [zS, zN, zH, zT]) ?_
  refine drun_end rfl ?_
  refine then_normal ?_
  refine aw_ret ?_
  refine then_ret ?_
  refine retPost2 rfl rfl rfl ?_
  exact ⟨by rw [hgx, his]; rfl, (by repeat (first | exact Ext.refl _ | apply Ext.push | (refine Ext.setB ?_ (by (try simp only [setB_nb, push_nb]); omega))))⟩
 ·
  (try simp only [y1, y2, y3, y4, y5, y6, y7, y8, y9, y0, List.length_map] at hc2)
  have his : (foundO o key).isSome = false := by simpa using hc2
  have hno : foundO o key = none := by simpa using his
  refine aw_skip ?_
  refine then_normal ?_
  refine aw_seq ?_
  refine aw_draw [0, 0, 0, 1, 0, 0, 0, 0, 1, 1, 0, 0, 0, 0] mixed (by kernel_rfl) ?_
  refine zd0 (fun H => (op_move_tmp (by rfl))) rfl (by dsimp only [zS, zN, zH, zT]) ?_
  refine zd0 (fun H => (by first | exact op_nilCheck_ptr (by rfl) | exact op_nilCheck_elt (by rfl))) rfl (by dsimp only [zS, zN, zH, zT]) ?_
  refine zd0 (fun H => (by first | exact op_fieldAddr_ptr Try.underlying145 rfl Sz69 (by rfl) (by rfl) | exact op_fieldAddr_elt Try.underlying145 rfl Sz69 (by rfl) (by rfl) (by rfl))) rfl (by dsimp only [zS, zN, zH, zT]) ?_
  refine zd1 (by first | exact op_load_elt Try.underlying69 (by rfl) (by rfl) (by rfl) | exact op_load_ptr Try.underlying69 (by rfl) (by rfl) (by (try have l1 := lt_nb hT); (try have l2 := lt_nb hS); repeat (first | assumption | exact push_at | exact setB_at push_at | (rw [setB_ne (by simp only [setB_nb, push_nb, ne_eq]; omega)]) | apply push_ne | apply setB_at)) (by rfl)) rfl (by dsimp only [zS, zN, zH, zT]) ?_
  refine zd0 (fun H => (op_move_tmp (by rfl))) rfl (by dsimp only [zS, zN, zH, zT]) ?_
  refine zd0 (fun H => (op_move_tmp (by rfl))) rfl (by dsimp only [zS, zN, zH, zT]) ?_
  refine zd0 (fun H => (by first | exact op_nilCheck_ptr (by rfl) | exact op_nilCheck_elt (by rfl))) rfl (by dsimp only [zS, zN, zH, zT]) ?_
  refine zd0 (fun H => (by first | exact op_fieldAddr_ptr Try.underlying145 rfl Sz3 (by rfl) (by rfl) | exact op_fieldAddr_elt Try.underlying145 rfl Sz3 (by rfl) (by rfl) (by rfl))) rfl (by dsimp only [zS, zN, zH, zT]) ?_
  refine zd1 (by first | exact op_load_elt Try.underlying3 (by rfl) (by rfl) (by rfl) | exact op_load_ptr Try.underlying3 (by rfl) (by rfl) (by (try have l1 := lt_nb hT); (try have l2 := lt_nb hS); repeat (first | assumption | exact push_at | exact setB_at push_at | (rw [setB_ne (by simp only [setB_nb, push_nb, ne_eq]; omega)]) | apply push_ne | apply setB_at)) (by rfl)) rfl (by dsimp only [zS, zN, zH, zT]) ?_
  refine zd1 (op_callF Try.func97 (by rfl) (by rfl) (.tmp (by rfl) (.tmp (by rfl) (.tmp (by rfl) .nil))) (sget_ok _ sid key _ (by (try have l1 := lt_nb hT); (try have l2 := lt_nb hS); repeat (first | assumption | exact push_at | exact setB_at push_at | (rw [setB_ne (by simp only [setB_nb, push_nb, ne_eq]; omega)]) | apply push_ne | apply setB_at)))) rfl (by dsimp only [zS, zN, zH, zT]) ?_
  refine zd0 (fun H => (op_extract (by rfl) (by rfl))) rfl (by dsimp only [zS, zN, zH, zT]) ?_
  refine zd0 (fun H => (op_extract (by rfl) (by rfl))) rfl (by dsimp only [zS, zN, zH, zT]) ?_
  refine zd0 (fun H => (op_assign_tmp (by rfl))) rfl (by dsimp only [zS, zN, zH, zT]) ?_
  refine zd0 (fun H => (op_assign_tmp (by rfl))) rfl (by dsimp only [zS, zN, zH, zT]) ?_
  refine drun_end rfl ?_
  refine then_normal ?_
  refine aw_ret ?_
  refine retPost2 rfl rfl rfl ?_
  exact ⟨by rw [hno]; rfl, (by repeat (first | exact Ext.refl _ | apply Ext.push | (refine Ext.setB ?_ (by (try simp only [setB_nb, push_nb]); omega))))⟩
set_option maxRecDepth 100000 in
theorem tlen_ok (Hs : HS) (tid sid : Nat) (lv : AV) (sz : Int) (hT : Hs.blks[tid]? = some ⟨145, [.ptr sid 0, .d (I 0), .d (I 0), .d (I 0), .d (I 0), lv, .d (I sz)], false⟩)  : ACalls Try.prog 129 [.ptr tid 5] Hs (Ret (.d (I sz)) Hs) := by
 refine acalls_of_aw Try.func129 rfl ?_
 refine aw_start (T' := [.ptr tid 5, .un, .un, .un, .un, .un, .un, .un, .un]) rfl ?_
 refine aw_seq ?_
 refine aw_region ?_
 refine zst (op_assign_const (by rfl)) rfl (by dsimp only [zS, zN, zH, zT]) ?_
 refine al_end rfl ?_
 refine then_normal ?_
 refine aw_seq ?_
 refine aw_seq ?_
 refine aw_region ?_
 refine zst (op_move_tmp (by rfl)) rfl (by dsimp only [zS, zN, zH, zT]) ?_
 refine zst (op_ptr_nil Try.underlying193 (by rfl) (by rfl)) rfl (by dsimp only [zS, zN, zH, zT]) ?_
 refine al_end rfl ?_
 refine then_normal ?_
 refine aw_cond rfl (fun h => by cases h) (fun _ => ?_)
 refine aw_skip ?_
 refine then_normal ?_
 refine aw_seq ?_
 refine aw_region ?_
 refine zst (op_move_tmp (by rfl)) rfl (by dsimp only [zS, zN, zH, zT]) ?_
 refine zst (by first | exact op_nilCheck_ptr (by rfl) | exact op_nilCheck_elt (by rfl)) rfl (by dsimp only [zS, zN, zH, zT]) ?_
 refine zst (by first | exact op_fieldAddr_ptr Try.underlying143 rfl Sz3 (by rfl) (by rfl) | exact op_fieldAddr_elt Try.underlying143 rfl Sz3 (by rfl) (by rfl) (by rfl)) rfl (by dsimp only [zS, zN, zH, zT]) ?_
 refine zst (by first | exact op_load_elt Try.underlying3 (by rfl) (by rfl) (by rfl) | exact op_load_ptr Try.underlying3 (by rfl) (by rfl) (by assumption) (by rfl)) rfl (by dsimp only [zS, zN, zH, zT]) ?_
 refine zst (op_assign_tmp (by rfl)) rfl (by dsimp only [zS, zN, zH, zT]) ?_
 refine al_end rfl ?_
 refine then_normal ?_
 refine aw_ret ?_
 refine retPost1 rfl rfl ?_
 exact ⟨rfl, rfl⟩
set_option maxRecDepth 100000 in
theorem tput_ok (Hs : HS) (tid sid : Nat) (lv : AV) (key : List UInt8) (w : Wt) (hT : Hs.blks[tid]? = some ⟨145, [.ptr sid 0, .d (I 0), .d (I 0), .d (I 0), .d (I 0), lv, .d (I 0)], false⟩) (hL : LL lv 1 (lsO none))  : ACalls Try.prog 130 [.ptr tid 5, .d (S key), .d (.agg (wC w))] Hs (Ret (.d (TF false)) (Hs.setB tid ⟨145, [.ptr sid 0, .d (I 0), .d (I 0), .d (I 0), .d (I 0), .d (.lst 1 (lsO (some (key, w)))), .d (I 1)], false⟩)) := by
 refine acalls_of_aw Try.func130 rfl ?_
 refine aw_start (T' := ((.ptr tid 5) :: (.d (S key)) :: (.d (.agg (wC w))) :: .un :: .un :: .un :: .un :: .un :: .un :: .un :: .un :: .un :: .un :: .un :: .un :: .un :: .un :: .un :: .un :: .un :: .un :: .un :: .un :: .un :: .un :: .un :: .un :: .un :: .un :: .un :: .un :: .un :: .un :: .un :: .un :: .un :: .un :: .un :: .un :: .un :: .un :: .un :: .un :: .un :: .un :: .un :: .un :: .un :: .un :: .un :: .un :: .un :: .un :: .un :: .un :: .un :: .un :: .un :: .un :: .un :: .un :: .un :: .un :: .un :: .un :: .un :: .un :: .un :: .un :: .un :: .un :: .un :: .un :: .un :: .un :: .un :: .un :: .un :: .un :: .un :: .un :: .un :: .un :: .un :: .un :: .un :: .un :: .un :: .un :: .un :: .un :: .un :: .un :: .un :: .un :: .un :: .un :: .un :: .un :: .un :: .un :: .un :: [])) rfl ?_
 refine aw_seq ?_
 refine aw_region ?_
 refine zst (op_box_elt (cs := [S w.key, S w.val, TF w.gone]) (by rfl) (by rfl)) rfl (by dsimp only [zS, zN, zH, zT]) ?_
 refine zst (op_assign_const (by rfl)) rfl (by dsimp only [zS, zN, zH, zT]) ?_
 refine al_end rfl ?_
 refine then_normal ?_
 refine aw_seq ?_
 refine aw_seq ?_
 refine aw_region ?_
 refine zst (op_move_tmp (by rfl)) rfl (by dsimp only [zS, zN, zH, zT]) ?_
 refine zst (op_ptr_nil Try.underlying193 (by rfl) (by rfl)) rfl (by dsimp only [zS, zN, zH, zT]) ?_
 refine al_end rfl ?_
 refine then_normal ?_
 refine aw_cond rfl (fun h => by cases h) (fun _ => ?_)
 refine aw_skip ?_
 refine then_normal ?_
 refine aw_seq ?_
 refine aw_region ?_
 refine zst (op_move_tmp (by rfl)) rfl (by dsimp only [zS, zN, zH, zT]) ?_
 refine zst (op_move_tmp (by rfl)) rfl (by dsimp only [zS, zN, zH, zT]) ?_
 refine zst (op_callF Try.func100 (by rfl) (by rfl) (.tmp (by rfl) (.tmp (by rfl) .nil)) (find0_ok _ tid sid lv 0 key hT hL)) rfl (by dsimp only [zS, zN, zH, zT]) ?_
 refine zst (op_move_tmp (by rfl)) rfl (by dsimp only [zS, zN, zH, zT]) ?_
 refine zst (op_extract (by rfl) (by rfl)) rfl (by dsimp only [zS, zN, zH, zT]) ?_
 refine zst (op_extract (by rfl) (by rfl)) rfl (by dsimp only [zS, zN, zH, zT]) ?_
 refine zst (op_extract (by rfl) (by rfl)) rfl (by dsimp only [zS, zN, zH, zT]) ?_
 refine zst (op_assign_tmp (by rfl)) rfl (by dsimp only [zS, zN, zH, zT]) ?_
 refine zst (op_assign_tmp (by rfl)) rfl (by dsimp only [zS, zN, zH, zT]) ?_
 refine zst (op_assign_tmp (by rfl)) rfl (by dsimp only [zS, zN, zH, zT]) ?_
 refine al_end rfl ?_
 refine then_normal ?_
 refine aw_seq ?_
 refine aw_seq ?_
 refine aw_region ?_
 refine zst (op_move_tmp (by rfl)) rfl (by dsimp only [zS, zN, zH, zT]) ?_
 refine al_end rfl ?_
 refine then_normal ?_
 refine aw_cond rfl (fun h => by cases h) (fun _ => ?_)
 refine aw_skip ?_
 refine then_normal ?_
 refine aw_seq ?_
 refine aw_region ?_
 refine zst (op_move_tmp (by rfl)) rfl (by dsimp only [zS, zN, zH, zT]) ?_
 refine zst (by first | exact op_nilCheck_ptr (by rfl) | exact op_nilCheck_elt (by rfl)) rfl (by dsimp only [zS, zN, zH, zT]) ?_
 refine zst (by first | exact op_fieldAddr_ptr Try.underlying143 rfl Sz3 (by rfl) (by rfl) | exact op_fieldAddr_elt Try.underlying143 rfl Sz3 (by rfl) (by rfl) (by rfl)) rfl (by dsimp only [zS, zN, zH, zT]) ?_
 refine zst (by first | exact op_load_elt Try.underlying3 (by rfl) (by rfl) (by rfl) | exact op_load_ptr Try.underlying3 (by rfl) (by rfl) (by first | assumption | exact setB_at hT) (by rfl)) rfl (by dsimp only [zS, zN, zH, zT]) ?_
 refine zst (by first | exact op_add (by rfl) (by rfl) (wrap_i64 ⟨by omega, by omega⟩) | exact op_add (by rfl) (by rfl) (by rfl)) rfl (by dsimp only [zS, zN, zH, zT]) ?_
 refine zst (by first | exact op_nilCheck_ptr (by rfl) | exact op_nilCheck_elt (by rfl)) rfl (by dsimp only [zS, zN, zH, zT]) ?_
 refine zst (by first | exact op_fieldAddr_ptr Try.underlying143 rfl Sz3 (by rfl) (by rfl) | exact op_fieldAddr_elt Try.underlying143 rfl Sz3 (by rfl) (by rfl) (by rfl)) rfl (by dsimp only [zS, zN, zH, zT]) ?_
 refine zst (op_storeB (vs := [.d (I 1)]) (b' := ⟨145, [.ptr sid 0, .d (I 0), .d (I 0), .d (I 0), .d (I 0), lv, .d (I 1)], false⟩) (H' := _) Sz3 (by rfl) hT (by intro h; cases h) (by rfl) (by rfl) (Nat.le_of_ble_eq_true rfl) (by simp [AV.one, DV.one, TF, S, I, BY]) (by rfl) (by rfl) rfl) rfl (by dsimp only [zS, zN, zH, zT]) ?_
 refine al_end rfl ?_
 refine then_normal ?_
 refine aw_seq ?_
 refine aw_seq ?_
 refine aw_region ?_
 refine zst (op_move_tmp (by rfl)) rfl (by dsimp only [zS, zN, zH, zT]) ?_
 refine zst (by first | exact op_nilCheck_ptr (by rfl) | exact op_nilCheck_elt (by rfl)) rfl (by dsimp only [zS, zN, zH, zT]) ?_
 refine zst (by first | exact op_fieldAddr_ptr Try.underlying143 rfl Sz141 (by rfl) (by rfl) | exact op_fieldAddr_elt Try.underlying143 rfl Sz141 (by rfl) (by rfl) (by rfl)) rfl (by dsimp only [zS, zN, zH, zT]) ?_
 refine zst (by first | exact op_load_elt Try.underlying141 (by rfl) (by rfl) (by rfl) | exact op_load_ptr Try.underlying141 (by rfl) (by rfl) (by first | assumption | exact setB_at hT) (by rfl)) rfl (by dsimp only [zS, zN, zH, zT]) ?_
 refine zst (op_lenL Try.underlying141 hL) rfl (by dsimp only [zS, zN, zH, zT]) ?_
 refine zst (op_eqI (by rfl) (by rfl)) rfl (by dsimp only [zS, zN, zH, zT]) ?_
 refine al_end rfl ?_
 refine then_normal ?_
 refine aw_cond rfl (fun _ => ?_) (fun h => by cases h)
 refine aw_seq ?_
 refine aw_region ?_
 refine zst (op_move_tmp (by rfl)) rfl (by dsimp only [zS, zN, zH, zT]) ?_
 refine zst (op_move_tmp (by rfl)) rfl (by dsimp only [zS, zN, zH, zT]) ?_
 refine zst (op_load_elts (ds := wC w) Try.underlying51 (by rfl) Sz51 (by rfl) (Nat.le_of_ble_eq_true rfl) (by rfl)) rfl (by dsimp only [zS, zN, zH, zT]) ?_
 refine zst (op_buildD (pl := [(0, 1), (1, 3)]) (iC key w) Try.underlying197 Zr197 (by kernel_rfl) (by rfl) (by rfl) (by rfl) (iC_one _ _)) rfl (by dsimp only [zS, zN, zH, zT]) ?_
 refine zst (opR_weaken (op_lit Try.underlying195 ZS197 (.cons (y := iD key w) (by rfl) (.nil _)) (by rfl) (lit_i _ _) (lit_i1 _ _) (by decide)) fun c x h => Weak.lst (App.own _ _ _) c x h) rfl (by dsimp only [zS, zN, zH, zT]) ?_
 refine zst (opR_weaken (op_lit Try.underlying141 ZS195 (.cons (y := .lst 4 [iD key w]) (by rfl) (.nil _)) (by rfl) (by simp [DV.cells]) (by simp [flat, DV.cells, DV.one]) (by decide)) fun c x h => Weak.lst (App.own _ _ _) c x h) rfl (by dsimp only [zS, zN, zH, zT]) ?_
 refine zst (by first | exact op_nilCheck_ptr (by rfl) | exact op_nilCheck_elt (by rfl)) rfl (by dsimp only [zS, zN, zH, zT]) ?_
 refine zst (by first | exact op_fieldAddr_ptr Try.underlying143 rfl Sz141 (by rfl) (by rfl) | exact op_fieldAddr_elt Try.underlying143 rfl Sz141 (by rfl) (by rfl) (by rfl)) rfl (by dsimp only [zS, zN, zH, zT]) ?_
 refine zst (op_storeB (vs := [.d (.lst 1 [.lst 4 [iD key w]])]) (b' := ⟨145, [.ptr sid 0, .d (I 0), .d (I 0), .d (I 0), .d (I 0), .d (.lst 1 (lsO (some (key, w)))), .d (I 1)], false⟩) (H' := _) Sz141 (by rfl) (setB_at hT) (by intro h; cases h) (by rfl) (by rfl) (Nat.le_of_ble_eq_true rfl) (by simp [AV.one, DV.one, TF, S, I, BY]) (by rfl) (by rfl) rfl) rfl (by dsimp only [zS, zN, zH, zT]) ?_
 refine al_end rfl ?_
 refine then_normal ?_
 refine aw_seq ?_
 refine aw_region ?_
 refine zst (op_assign_const (by rfl)) rfl (by dsimp only [zS, zN, zH, zT]) ?_
 refine al_end rfl ?_
 refine then_normal ?_
 refine aw_ret ?_
 refine then_ret ?_
 refine retPost1 rfl rfl ?_
 exact ⟨rfl, setB_setB⟩
set_option maxRecDepth 100000 in
theorem write_ok (Hs : HS) (tid sid : Nat) (lv : AV) (w : Wt) (hT : Hs.blks[tid]? = some ⟨145, [.ptr sid 0, .d (I 0), .d (I 0), .d (I 0), .d (I 0), lv, .d (I 0)], false⟩) (hS : Hs.blks[sid]? = some ⟨134, [nilS, .d (I 0), .d (I 0), nilS], false⟩) (hL : LL lv 1 (lsO none)) (hk : w.key ≠ []) (hkl : w.key.length ≤ 400) (hvl : w.val.length ≤ 4096) (hg : w.gone = false)  : ACalls Try.prog 98 [.ptr tid 0, .d (.agg (wC w))] Hs (Ret (.d (I 0)) (Hs.setB tid ⟨145, [.ptr sid 0, .d (I 0), .d (I 0), .d (I 0), .d (I 0), .d (.lst 1 (lsO (some (w.key, w)))), .d (I 1)], false⟩)) := by
 refine ACalls.tidyR1 (fits_tx (lt_nb hS)) ?_
 refine acalls_of_aw Try.func98 rfl ?_
 refine aw_start (T' := [.ptr tid 0, .d (.agg (wC w)), .un, .un, .un, .un, .un, .un, .un, .un, .un, .un, .un, .un, .un, .un, .un, .un, .un, .un, .un, .un, .un, .un, .un, .un, .un, .un, .un, .un, .un, .un, .un, .un, .un, .un, .un, .un, .un, .un, .un, .un]) rfl ?_
 refine aw_seq ?_
 refine aw_region ?_
 refine zst (op_box_elt (cs := [S w.key, S w.val, TF w.gone]) (by rfl) (by rfl)) rfl (by dsimp only [zS, zN, zH, zT]) ?_
 refine zst (op_assign_const (by rfl)) rfl (by dsimp only [zS, zN, zH, zT]) ?_
 refine al_end rfl ?_
 refine then_normal ?_
 refine aw_seq ?_
 refine aw_drawX (fun K => K.blks[tid]? = some ⟨145, [.ptr sid 0, .d (I 0), .d (I 0), .d (I 0), .d (I 0), lv, .d (I 0)], false⟩) [0, 0, 0, 0, 0, 0, 0, 0, 0, 2, 2, 0] mixed (by kernel_rfl) (hT) (.inr (by kernel_rfl)) ?_
 apply drun0X
 · intro H hPhi; exact op_move_tmp (by rfl)
 · rfl
 apply drun_normT
 · (try dsimp only [zS, zN, zH, zT]); try exact rfl
 apply drun0X
 · intro H hPhi; first | exact op_nilCheck_ptr (by rfl) | exact op_nilCheck_elt (by rfl)
 · rfl
 apply drun_normT
 · (try dsimp only [zS, zN, zH, zT]); try exact rfl
 apply drun0X
 · intro H hPhi; first | exact op_fieldAddr_ptr Try.underlying145 rfl Sz143 (by rfl) (by rfl) | exact op_fieldAddr_elt Try.underlying145 rfl Sz143 (by rfl) (by rfl) (by rfl)
 · rfl
 apply drun_normT
 · (try dsimp only [zS, zN, zH, zT]); try exact rfl
 apply drun0X
 · intro H hPhi; first | exact op_fieldAddr_ptr Try.underlying51 rfl Sz9 (by rfl) (by rfl) | exact op_fieldAddr_elt Try.underlying51 rfl Sz9 (by rfl) (by rfl) (by rfl)
 · rfl
 apply drun_normT
 · (try dsimp only [zS, zN, zH, zT]); try exact rfl
 apply drun0X
 · intro H hPhi; first | exact op_load_elt Try.underlying9 (by rfl) (by rfl) (by rfl) | exact op_load_ptr Try.underlying9 (by rfl) (by rfl) (by (try have l1 := lt_nb hT); (try have l2 := lt_nb hS); repeat (first | assumption | exact push_at | exact setB_at push_at | (rw [setB_ne (by simp only [setB_nb, push_nb, ne_eq]; omega)]) | apply push_ne | apply setB_at)) (by rfl)
 · rfl
 apply drun_normT
 · (try dsimp only [zS, zN, zH, zT]); try exact rfl
 apply drun0X
 · intro H hPhi; exact op_callF Try.func96 (by rfl) (by rfl) (.tmp (by rfl) (.tmp (by rfl) .nil)) (tget_ok _ tid sid lv 0 w.key hPhi none hL)
 · rfl
 apply drun_normT
 · (try dsimp only [zS, zN, zH, zT]); try exact rfl
 apply drun0X
 · intro H hPhi; exact op_move_tmp (by rfl)
 · rfl
 apply drun_normT
 · (try dsimp only [zS, zN, zH, zT]); try exact rfl
 apply drun0X
 · intro H hPhi; exact op_extract (by rfl) (by rfl)
 · rfl
 apply drun_normT
 · (try dsimp only [zS, zN, zH, zT]); try exact rfl
 apply drun0X
 · intro H hPhi; exact op_extract (by rfl) (by rfl)
 · rfl
 apply drun_normT
 · (try dsimp only [zS, zN, zH, zT]); try exact rfl
 apply drun2X
 · exact op_alloc (Zr51) (by rfl)
 · rfl
 · refine .inr ?_; have l1 := lt_nb hT; repeat (first | assumption | (rw [setB_ne (by simp only [setB_nb, push_nb, ne_eq]; omega)]) | apply push_ne)
 apply drun_normT
 · (try dsimp only [zS, zN, zH, zT]); try exact rfl
 apply drun2X
 · exact op_storeB (vs := [.d (S Wn.key), .d (S Wn.val), .d (TF Wn.gone)]) (b' := ⟨51, [.d (S Wn.key), .d (S Wn.val), .d (TF Wn.gone)], false⟩) (H' := _) Sz51 (by rfl) push_at (by intro h; cases h) (by rfl) (by rfl) (Nat.le_of_ble_eq_true rfl) (by simp [AV.one, DV.one, TF, S, I, BY]) (by rfl) (by rfl) rfl
 · rfl
 · refine .inr ?_; have l1 := lt_nb hT; repeat (first | assumption | (rw [setB_ne (by simp only [setB_nb, push_nb, ne_eq]; omega)]) | apply push_ne)
 apply drun_normT
 · (try dsimp only [zS, zN, zH, zT]); try exact rfl
 apply drun0X
 · intro H hPhi; exact op_assign_tmp (by rfl)
 · rfl
 apply drun_normT
 · (try dsimp only [zS, zN, zH, zT]); try exact rfl
 refine drun_end rfl ?_
 refine then_normal ?_
 refine aw_seq ?_
 refine aw_block ?_
 refine aw_seq ?_
 refine aw_region ?_
 refine zst (op_move_tmp (by rfl)) rfl (by dsimp only [zS, zN, zH, zT]) ?_
 refine zst (op_ptr_nil Try.underlying72 (by rfl) (by rfl)) rfl (by dsimp only [zS, zN, zH, zT]) ?_
 refine zst (op_move_tmp (by rfl)) rfl (by dsimp only [zS, zN, zH, zT]) ?_
 refine zsw rfl rfl rfl (op_load_elts (ds := wC w) Try.underlying51 (by rfl) Sz51 (by rfl) (Nat.le_of_ble_eq_true rfl) (by rfl)) (by dsimp only [zS, zN, zH, zT]) ?_
 refine zsw rfl rfl rfl (op_lit Try.underlying46 ZS51 (.cons (y := wD w) (by rfl) (.nil _)) (by rfl) (lit_w _) (lit_w1 _) (by decide)) (by dsimp only [zS, zN, zH, zT]) ?_
 refine zsw rfl rfl rfl (op_callF Try.func128 (by rfl) (by rfl) (.tmp (by rfl) .nil) (right1_ok _ _ w (LL.own _ _ _) hk hkl hvl hg)) (by dsimp only [zS, zN, zH, zT]) ?_
 refine zsw rfl rfl rfl (op_not (by rfl)) (by dsimp only [zS, zN, zH, zT]) ?_
 refine zst (op_pick_ff (by rfl) (val_tmp (by rfl))) rfl (by dsimp only [zS, zN, zH, zT]) ?_
 refine zst (op_assign_tmp (by rfl)) rfl (by dsimp only [zS, zN, zH, zT]) ?_
 refine al_end rfl ?_
 refine then_normal ?_
 refine aw_cond rfl (fun h => by cases h) (fun _ => ?_)
 refine aw_seq ?_
 refine aw_region ?_
 refine zst (op_move_tmp (by rfl)) rfl (by dsimp only [zS, zN, zH, zT]) ?_
 refine zst (op_not (by rfl)) rfl (by dsimp only [zS, zN, zH, zT]) ?_
 refine zst (op_move_tmp (by rfl)) rfl (by dsimp only [zS, zN, zH, zT]) ?_
 refine zsw rfl rfl rfl (op_move_tmp (by rfl)) (by dsimp only [zS, zN, zH, zT]) ?_
 refine zsw rfl rfl rfl (by first | exact op_nilCheck_ptr (by rfl) | exact op_nilCheck_elt (by rfl)) (by dsimp only [zS, zN, zH, zT]) ?_
 refine zsw rfl rfl rfl (by first | exact op_fieldAddr_ptr Try.underlying145 rfl Sz143 (by rfl) (by rfl) | exact op_fieldAddr_elt Try.underlying145 rfl Sz143 (by rfl) (by rfl) (by rfl)) (by dsimp only [zS, zN, zH, zT]) ?_
 refine zsw rfl rfl rfl (op_callF Try.func129 (by rfl) (by rfl) (.tmp (by rfl) .nil) (tlen_ok _ tid sid lv 0 (by (try have l1 := lt_nb hT); (try have l2 := lt_nb hS); repeat (first | assumption | exact push_at | exact setB_at push_at | (rw [setB_ne (by simp only [setB_nb, push_nb, ne_eq]; omega)]) | apply push_ne | apply setB_at)))) (by dsimp only [zS, zN, zH, zT]) ?_
 refine zsw rfl rfl rfl (op_geI (by rfl) (by rfl)) (by dsimp only [zS, zN, zH, zT]) ?_
 refine zst (op_pick_tt (by rfl) (val_tmp (by rfl))) rfl (by dsimp only [zS, zN, zH, zT]) ?_
 refine zst (op_assign_tmp (by rfl)) rfl (by dsimp only [zS, zN, zH, zT]) ?_
 refine al_end rfl ?_
 refine then_normal ?_
 refine aw_cond rfl (fun h => by cases h) (fun _ => ?_)
 refine aw_skip ?_
 refine inBlock_normal (then_normal ?_)
 refine aw_seq ?_
 refine aw_draw [0, 0, 0, 0, 1, 1, 2] mixed (by kernel_rfl) ?_
 refine zd0 (fun H => (op_move_tmp (by rfl))) rfl (by dsimp only [zS, zN, zH, zT]) ?_
 refine zd0 (fun H => (by first | exact op_nilCheck_ptr (by rfl) | exact op_nilCheck_elt (by rfl))) rfl (by dsimp only [zS, zN, zH, zT]) ?_
 refine zd0 (fun H => (by first | exact op_fieldAddr_ptr Try.underlying145 rfl Sz143 (by rfl) (by rfl) | exact op_fieldAddr_elt Try.underlying145 rfl Sz143 (by rfl) (by rfl) (by rfl))) rfl (by dsimp only [zS, zN, zH, zT]) ?_
 refine zd0 (fun H => (by first | exact op_fieldAddr_ptr Try.underlying51 rfl Sz9 (by rfl) (by rfl) | exact op_fieldAddr_elt Try.underlying51 rfl Sz9 (by rfl) (by rfl) (by rfl))) rfl (by dsimp only [zS, zN, zH, zT]) ?_
 refine zd1 (by first | exact op_load_elt Try.underlying9 (by rfl) (by rfl) (by rfl) | exact op_load_ptr Try.underlying9 (by rfl) (by rfl) (by (try have l1 := lt_nb hT); (try have l2 := lt_nb hS); repeat (first | assumption | exact push_at | exact setB_at push_at | (rw [setB_ne (by simp only [setB_nb, push_nb, ne_eq]; omega)]) | apply push_ne | apply setB_at)) (by rfl)) rfl (by dsimp only [zS, zN, zH, zT]) ?_
 refine zd1 (op_load_elts (ds := wC w) Try.underlying51 (by rfl) Sz51 (by rfl) (Nat.le_of_ble_eq_true rfl) (by rfl)) rfl (by dsimp only [zS, zN, zH, zT]) ?_
 refine zd2 (op_callF Try.func130 (by rfl) (by rfl) (.tmp (by rfl) (.tmp (by rfl) (.tmp (by rfl) .nil))) (tput_ok _ tid sid lv w.key w (by (try have l1 := lt_nb hT); (try have l2 := lt_nb hS); repeat (first | assumption | exact push_at | exact setB_at push_at | (rw [setB_ne (by simp only [setB_nb, push_nb, ne_eq]; omega)]) | apply push_ne | apply setB_at)) hL)) rfl (by dsimp only [zS, zN, zH, zT]) ?_
 refine drun_end rfl ?_
 refine then_normal ?_
 refine aw_seq ?_
 refine aw_region ?_
 refine zst (op_assign_const (by rfl)) rfl (by dsimp only [zS, zN, zH, zT]) ?_
 refine al_end rfl ?_
 refine then_normal ?_
 refine aw_ret ?_
 refine retPost1 rfl rfl ?_
 exact ⟨rfl, ext_low (by repeat (first | exact Ext.refl _ | apply Ext.push | (refine Ext.setB ?_ (by (try simp only [setB_nb, push_nb]); omega)))) (lt_nb hT)⟩
set_option maxRecDepth 100000 in
theorem txput_ok (Hs : HS) (tid sid : Nat) (lv : AV) (key val : List UInt8) (hT : Hs.blks[tid]? = some ⟨145, [.ptr sid 0, .d (I 0), .d (I 0), .d (I 0), .d (I 0), lv, .d (I 0)], false⟩) (hS : Hs.blks[sid]? = some ⟨134, [nilS, .d (I 0), .d (I 0), nilS], false⟩) (hL : LL lv 1 (lsO none)) (hk : key ≠ []) (hkl : key.length ≤ 400) (hvl : val.length ≤ 4096) : ACalls Try.prog 65 [.ptr tid 0, .d (S key), .d (S val)] Hs (Ret (.d (I 0)) (Hs.setB tid ⟨145, [.ptr sid 0, .d (I 0), .d (I 0), .d (I 0), .d (I 0), .d (.lst 1 (lsO (some (key, ⟨key, val, false⟩)))), .d (I 1)], false⟩)) := by
 refine acalls_of_aw Try.func65 rfl ?_
 refine aw_start (T' := [.ptr tid 0, .d (S key), .d (S val), .un, .un, .un, .un, .un, .un, .un, .un, .un, .un, .un]) rfl ?_
 refine aw_seq ?_
 refine aw_region ?_
 refine zst (op_assign_const (by rfl)) rfl (by dsimp only [zS, zN, zH, zT]) ?_
 refine al_end rfl ?_
 refine then_normal ?_
 refine aw_seq ?_
 refine aw_seq ?_
 refine aw_region ?_
 refine zst (op_move_tmp (by rfl)) rfl (by dsimp only [zS, zN, zH, zT]) ?_
 refine zst (op_ptr_nil Try.underlying72 (by rfl) (by rfl)) rfl (by dsimp only [zS, zN, zH, zT]) ?_
 refine al_end rfl ?_
 refine then_normal ?_
 refine aw_cond rfl (fun h => by cases h) (fun _ => ?_)
 refine aw_skip ?_
 refine then_normal ?_
 refine aw_seq ?_
 refine aw_region ?_
 refine zst (op_move_tmp (by rfl)) rfl (by dsimp only [zS, zN, zH, zT]) ?_
 refine zst (op_move_tmp (by rfl)) rfl (by dsimp only [zS, zN, zH, zT]) ?_
 refine zst (op_move_tmp (by rfl)) rfl (by dsimp only [zS, zN, zH, zT]) ?_
 refine zst (op_buildD (pl := [(0, 1), (1, 1), (2, 1)]) (wC ⟨key, val, false⟩) Try.underlying51 Zr51 (by kernel_rfl) (by rfl) (by rfl) (by rfl) (wC_one _)) rfl (by dsimp only [zS, zN, zH, zT]) ?_
 refine zst (op_callF Try.func98 (by rfl) (by rfl) (.tmp (by rfl) (.tmp (by rfl) .nil)) (write_ok _ tid sid lv ⟨key, val, false⟩ hT hS hL hk hkl hvl rfl)) rfl (by dsimp only [zS, zN, zH, zT]) ?_
 refine zst (op_assign_tmp (by rfl)) rfl (by dsimp only [zS, zN, zH, zT]) ?_
 refine al_end rfl ?_
 refine then_normal ?_
 refine aw_ret ?_
 refine retPost1 rfl rfl ?_
 exact ⟨rfl, rfl⟩
end Go.Proofs.Ytjbpfnoibeogbaa
namespace Go.Proofs.Ytjbpfnoibeogbaa
open Go.AV Go.AV.Ord Go.AV.Oct
set_option linter.unusedVariables false
set_option linter.unusedSimpArgs false
set_option maxRecDepth 100000 in
theorem fail_ok (H : HS) (id : Nat) (x y : AV) (hb : H.blks[id]? = some ⟨179, [x, y], false⟩) : ACalls Try.prog 89 [.ptr id 0] H (Ret (.tup []) (H.setB id (RB 179 ([], true)))) := by
 refine acalls_of_aw Try.func89 rfl ?_
 refine aw_start (T' := [.ptr id 0, .un, .un, .un, .un, .un, .un, .un]) rfl ?_
 refine aw_region ?_
 refine zst (op_move_tmp (by rfl)) rfl (by dsimp only [zS, zN, zH, zT]) ?_
 refine zst (op_move_tmp (by rfl)) rfl (by dsimp only [zS, zN, zH, zT]) ?_
 refine zst (by first | exact op_nilCheck_ptr (by rfl) | exact op_nilCheck_elt (by rfl)) rfl (by dsimp only [zS, zN, zH, zT]) ?_
 refine zst (by first | exact op_fieldAddr_ptr Try.underlying179 rfl Sz4 (by rfl) (by rfl) | exact op_fieldAddr_elt Try.underlying179 rfl Sz4 (by rfl) (by rfl) (by rfl)) rfl (by dsimp only [zS, zN, zH, zT]) ?_
 refine zst (op_storeB (vs := [.d (TF true)]) (b' := ⟨179, [x, .d (TF true)], false⟩) (H' := H.setB id ⟨179, [x, .d (TF true)], false⟩) Sz4 (by rfl) hb (by intro h; cases h) (by rfl) (by rfl) (Nat.le_of_ble_eq_true rfl) (by simp [AV.one, DV.one, TF, S, I, BY]) (by rfl) (by rfl) rfl) rfl (by dsimp only [zS, zN, zH, zT]) ?_
 refine zst (by first | exact op_nilCheck_ptr (by rfl) | exact op_nilCheck_elt (by rfl)) rfl (by dsimp only [zS, zN, zH, zT]) ?_
 refine zst (by first | exact op_fieldAddr_ptr Try.underlying179 rfl Sz9 (by rfl) (by rfl) | exact op_fieldAddr_elt Try.underlying179 rfl Sz9 (by rfl) (by rfl) (by rfl)) rfl (by dsimp only [zS, zN, zH, zT]) ?_
 refine zst (op_storeB (vs := [.d (S [])]) (b' := ⟨179, [.d (S []), .d (TF true)], false⟩) (H' := H.setB id ⟨179, [.d (S []), .d (TF true)], false⟩) Sz9 (by rfl) (setB_at hb) (by intro h; cases h) (by rfl) (by rfl) (Nat.le_of_ble_eq_true rfl) (by simp [AV.one, DV.one, TF, S, I, BY]) (by rfl) (by rfl) setB_setB) rfl (by dsimp only [zS, zN, zH, zT]) ?_
 refine al_end rfl ?_
 refine retPost0 (by first | exact .inl rfl | exact .inr rfl) rfl ?_
 exact ⟨rfl, rfl⟩
set_option maxRecDepth 100000 in
theorem num_ok (Hs : HS) (id : Nat) (s : List UInt8) (bad : Bool) (most : Int) (hb : Hs.blks[id]? = some (RB 179 (s, bad))) (hm : most ≤ 9223372036854775807) : ACalls Try.prog 57 [.ptr id 0, .d (I most)] Hs (Ret (.d (I (rNum most (s, bad)).1)) (Hs.setB id (RB 179 (rNum most (s, bad)).2))) := by
 have hb : Hs.blks[id]? = some ⟨179, [.d (S s), .d (TF bad)], false⟩ := hb
 refine acalls_of_aw Try.func57 rfl ?_
 refine aw_start (T' := ((.ptr id 0) :: (.d (I most)) :: .un :: .un :: .un :: .un :: .un :: .un :: .un :: .un :: .un :: .un :: .un :: .un :: .un :: .un :: .un :: .un :: .un :: .un :: .un :: .un :: .un :: .un :: .un :: .un :: .un :: .un :: .un :: .un :: .un :: .un :: .un :: .un :: .un :: .un :: .un :: .un :: .un :: .un :: .un :: .un :: .un :: .un :: .un :: .un :: .un :: .un :: .un :: .un :: .un :: .un :: .un :: .un :: .un :: .un :: .un :: .un :: .un :: .un :: .un :: .un :: .un :: .un :: .un :: .un :: .un :: .un :: .un :: .un :: .un :: .un :: .un :: .un :: .un :: .un :: .un :: .un :: .un :: .un :: .un :: .un :: .un :: .un :: .un :: .un :: .un :: .un :: .un :: .un :: .un :: .un :: .un :: .un :: .un :: .un :: .un :: .un :: .un :: .un :: .un :: .un :: .un :: .un :: .un :: .un :: .un :: [])) rfl ?_
 refine aw_seq ?_
 refine aw_region ?_
 refine zst (op_assign_const (by rfl)) rfl (by dsimp only [zS, zN, zH, zT]) ?_
 refine al_end rfl ?_
 refine then_normal ?_
 refine aw_seq ?_
 refine aw_seq ?_
 refine aw_region ?_
 refine zst (op_move_tmp (by rfl)) rfl (by dsimp only [zS, zN, zH, zT]) ?_
 refine zst (op_ptr_nil Try.underlying124 (by rfl) (by rfl)) rfl (by dsimp only [zS, zN, zH, zT]) ?_
 refine zst (op_move_tmp (by rfl)) rfl (by dsimp only [zS, zN, zH, zT]) ?_
 refine zsw rfl rfl rfl (op_move_tmp (by rfl)) (by dsimp only [zS, zN, zH, zT]) ?_
 refine zsw rfl rfl rfl (by first | exact op_nilCheck_ptr (by rfl) | exact op_nilCheck_elt (by rfl)) (by dsimp only [zS, zN, zH, zT]) ?_
 refine zsw rfl rfl rfl (by first | exact op_fieldAddr_ptr Try.underlying179 rfl Sz4 (by rfl) (by rfl) | exact op_fieldAddr_elt Try.underlying179 rfl Sz4 (by rfl) (by rfl) (by rfl)) (by dsimp only [zS, zN, zH, zT]) ?_
 refine zsw rfl rfl rfl (by first | exact op_load_elt Try.underlying4 (by rfl) (by rfl) (by rfl) | exact op_load_ptr Try.underlying4 (by rfl) (by rfl) (by first | exact hb | exact setB_at hb) (by rfl)) (by dsimp only [zS, zN, zH, zT]) ?_
 refine zst (op_pick_ff (by rfl) (val_tmp (by rfl))) rfl (by dsimp only [zS, zN, zH, zT]) ?_
 refine al_end rfl ?_
 refine then_normal ?_
 refine aw_cond rfl (fun hc1 => ?_) (fun hc1 => ?_)
 ·
  (try simp only [y1, y2, y3, y4, y5, y6, y7, y8, y9, y0, List.length_map] at hc1)
  have hbad : bad = true := hc1
  subst hbad
  refine aw_seq ?_
  refine aw_region ?_
  refine zst (op_assign_const (by rfl)) rfl (by dsimp only [zS, zN, zH, zT]) ?_
  refine al_end rfl ?_
  refine then_normal ?_
  refine aw_ret ?_
  refine then_ret ?_
  refine retPost1 rfl rfl ?_
  rw [rNum_bad]; exact ⟨rfl, (setB_self hb).symm⟩
 ·
  (try simp only [y1, y2, y3, y4, y5, y6, y7, y8, y9, y0, List.length_map] at hc1)
  have hbad : bad = false := hc1
  subst hbad
  refine aw_skip ?_
  refine then_normal ?_
  refine aw_seq ?_
  apply aw_cutF (fun T H => ∃ (u : Unit), T = ((.ptr id 0) :: (.d (I most)) :: .un :: .un :: .un :: .un :: .un :: .un :: .un :: .un :: .un :: .un :: .un :: .un :: .un :: .un :: .un :: .un :: .un :: .un :: .un :: .un :: .un :: .un :: .un :: .un :: .un :: .un :: .un :: .un :: .un :: .un :: .un :: .un :: .un :: .un :: .un :: .un :: .un :: .un :: .un :: .un :: .un :: .un :: .un :: .un :: .un :: .un :: .un :: .un :: .un :: .un :: .un :: .un :: .un :: .un :: .un :: .un :: .un :: .un :: (.d (TF (badN s))) :: .un :: .un :: .un :: .un :: .un :: .un :: .un :: .un :: .un :: .un :: .un :: .un :: .un :: .un :: .un :: .un :: .un :: .un :: .un :: .un :: .un :: .un :: .un :: .un :: .un :: .un :: .un :: .un :: .un :: .un :: .un :: .un :: .un :: .un :: .un :: .un :: .un :: .un :: .un :: .un :: .un :: .un :: .un :: .un :: .un :: .un :: []) ∧ Hs = H)
  ·
   refine aw_draw [0, 0, 0, 1, 0, 0, 0, 0, 0, 1, 0, 0, 0, 0, 0, 0, 0, 1, 0, 0, 0, 0, 1, 0, 0, 0, 0, 0, 0, 0, 0, 0, 1, 0, 0, 0, 0, 0, 0, 1, 0, 0, 0, 0] mixed (by kernel_rfl) ?_
   refine zd0 (fun H => (op_move_tmp (by rfl))) rfl (by dsimp only [zS, zN, zH, zT]) ?_
   refine zd0 (fun H => (by first | exact op_nilCheck_ptr (by rfl) | exact op_nilCheck_elt (by rfl))) rfl (by dsimp only [zS, zN, zH, zT]) ?_
   refine zd0 (fun H => (by first | exact op_fieldAddr_ptr Try.underlying179 rfl Sz9 (by rfl) (by rfl) | exact op_fieldAddr_elt Try.underlying179 rfl Sz9 (by rfl) (by rfl) (by rfl))) rfl (by dsimp only [zS, zN, zH, zT]) ?_
   refine zd1 (by first | exact op_load_elt Try.underlying9 (by rfl) (by rfl) (by rfl) | exact op_load_ptr Try.underlying9 (by rfl) (by rfl) (by first | exact hb | exact setB_at hb) (by rfl)) rfl (by dsimp only [zS, zN, zH, zT]) ?_
   refine zd0 (fun H => (op_eqS (by rfl) (by rfl))) rfl (by dsimp only [zS, zN, zH, zT]) ?_
   refine zd0 (fun H => (op_move_tmp (by rfl))) rfl (by dsimp only [zS, zN, zH, zT]) ?_
   refine drun_split 22 rfl (fun hg2 => ?_) (fun hg2 => ?_)
   ·
    (try simp only [y1, y2, y3, y4, y5, y6, y7, y8, y9, y0, List.length_map] at hg2)
    have hs0 : s = [] := hg2
    subst hs0
    apply drun_normT
    · (try dsimp only [zS, zN, zH, zT]); try exact rfl
    refine zdU rfl rfl rfl rfl (by dsimp only [zS, zN, zH, zT]) ?_
    refine zdU rfl rfl rfl rfl (by dsimp only [zS, zN, zH, zT]) ?_
    refine zdU rfl rfl rfl rfl (by dsimp only [zS, zN, zH, zT]) ?_
    refine zdU rfl rfl rfl rfl (by dsimp only [zS, zN, zH, zT]) ?_
    refine zdU rfl rfl rfl rfl (by dsimp only [zS, zN, zH, zT]) ?_
    refine zdU rfl rfl rfl rfl (by dsimp only [zS, zN, zH, zT]) ?_
    refine zd0 (fun H => (op_pick_tt (by rfl) (val_const (by rfl)))) rfl (by dsimp only [zS, zN, zH, zT]) ?_
    refine zd0 (fun H => (op_move_tmp (by rfl))) rfl (by dsimp only [zS, zN, zH, zT]) ?_
    refine zdU rfl rfl rfl rfl (by dsimp only [zS, zN, zH, zT]) ?_
    refine zdU rfl rfl rfl rfl (by dsimp only [zS, zN, zH, zT]) ?_
    refine zdU rfl rfl rfl rfl (by dsimp only [zS, zN, zH, zT]) ?_
    refine zdU rfl rfl rfl rfl (by dsimp only [zS, zN, zH, zT]) ?_
    refine zdU rfl rfl rfl rfl (by dsimp only [zS, zN, zH, zT]) ?_
    refine zdU rfl rfl rfl rfl (by dsimp only [zS, zN, zH, zT]) ?_
    refine zdU rfl rfl rfl rfl (by dsimp only [zS, zN, zH, zT]) ?_
    refine zdU rfl rfl rfl rfl (by dsimp only [zS, zN, zH, zT]) ?_
    refine zdU rfl rfl rfl rfl (by dsimp only [zS, zN, zH, zT]) ?_
    refine zdU rfl rfl rfl rfl (by dsimp only [zS, zN, zH, zT]) ?_
    refine zdU rfl rfl rfl rfl (by dsimp only [zS, zN, zH, zT]) ?_
    refine zdU rfl rfl rfl rfl (by dsimp only [zS, zN, zH, zT]) ?_
    refine zdU rfl rfl rfl rfl (by dsimp only [zS, zN, zH, zT]) ?_
    refine zd0 (fun H => (op_pick_tt (by rfl) (val_const (by rfl)))) rfl (by dsimp only [zS, zN, zH, zT]) ?_
    refine zd0 (fun H => (op_move_tmp (by rfl))) rfl (by dsimp only [zS, zN, zH, zT]) ?_
    refine zdU rfl rfl rfl rfl (by dsimp only [zS, zN, zH, zT]) ?_
    refine zdU rfl rfl rfl rfl (by dsimp only [zS, zN, zH, zT]) ?_
    refine zdU rfl rfl rfl rfl (by dsimp only [zS, zN, zH, zT]) ?_
    refine zdU rfl rfl rfl rfl (by dsimp only [zS, zN, zH, zT]) ?_
    refine zdU rfl rfl rfl rfl (by dsimp only [zS, zN, zH, zT]) ?_
    refine zdU rfl rfl rfl rfl (by dsimp only [zS, zN, zH, zT]) ?_
    refine zdU rfl rfl rfl rfl (by dsimp only [zS, zN, zH, zT]) ?_
    refine zdV rfl rfl rfl (by dsimp only [zS, zN, zH, zT]) ?_
    refine zdV rfl rfl rfl (by dsimp only [zS, zN, zH, zT]) ?_
    refine zdV rfl rfl rfl (by dsimp only [zS, zN, zH, zT]) ?_
    refine zdV rfl rfl rfl (by dsimp only [zS, zN, zH, zT]) ?_
    refine zdV rfl rfl rfl (by dsimp only [zS, zN, zH, zT]) ?_
    refine zdV rfl rfl rfl (by dsimp only [zS, zN, zH, zT]) ?_
    refine zdU rfl rfl rfl rfl (by dsimp only [zS, zN, zH, zT]) ?_
    refine zd0 (fun H => (op_pick_tt (by rfl) (val_const (by rfl)))) rfl (by dsimp only [zS, zN, zH, zT]) ?_
    refine drun_end rfl ?_
    apply cut_to (true :: true :: false :: false :: false :: false :: false :: false :: false :: false :: false :: false :: false :: false :: false :: false :: false :: false :: false :: false :: false :: false :: false :: false :: false :: false :: false :: false :: false :: false :: false :: false :: false :: false :: false :: false :: false :: false :: false :: false :: false :: false :: false :: false :: false :: false :: false :: false :: false :: false :: false :: false :: false :: false :: false :: false :: false :: false :: false :: false :: true :: false :: false :: false :: false :: false :: false :: false :: false :: false :: false :: false :: false :: false :: false :: false :: false :: false :: false :: false :: false :: false :: false :: false :: false :: false :: false :: false :: false :: false :: false :: false :: false :: false :: false :: false :: false :: false :: false :: false :: false :: false :: false :: false :: false :: false :: false :: [])
    · (try dsimp only [maskT]); try exact rfl
    · rfl
    exact ⟨(), by rfl, rfl⟩
   ·
    (try simp only [y1, y2, y3, y4, y5, y6, y7, y8, y9, y0, List.length_map] at hg2)
    obtain ⟨c, r, rfl⟩ := List.exists_cons_of_ne_nil hg2
    have hcl := c.toNat_lt
    apply drun_normT
    · (try dsimp only [zS, zN, zH, zT]); try exact rfl
    refine zd0w rfl rfl rfl (fun H => (op_move_tmp (by rfl))) (by dsimp only [zS, zN, zH, zT]) ?_
    refine zd0w rfl rfl rfl (fun H => (by first | exact op_nilCheck_ptr (by rfl) | exact op_nilCheck_elt (by rfl))) (by dsimp only [zS, zN, zH, zT]) ?_
    refine zd0w rfl rfl rfl (fun H => (by first | exact op_fieldAddr_ptr Try.underlying179 rfl Sz9 (by rfl) (by rfl) | exact op_fieldAddr_elt Try.underlying179 rfl Sz9 (by rfl) (by rfl) (by rfl))) (by dsimp only [zS, zN, zH, zT]) ?_
    refine zd1w rfl rfl rfl (by first | exact op_load_elt Try.underlying9 (by rfl) (by rfl) (by rfl) | exact op_load_ptr Try.underlying9 (by rfl) (by rfl) (by first | exact hb | exact setB_at hb) (by rfl)) (by dsimp only [zS, zN, zH, zT]) ?_
    refine zd0w rfl rfl rfl (fun H => (op_indexS Try.underlying9 (by rfl) (by rfl) (by decide) (show (c :: r)[(0 : Int).toNat]? = some c by rfl))) (by dsimp only [zS, zN, zH, zT]) ?_
    refine zd0w rfl rfl rfl (fun H => (op_gtI (by rfl) (by rfl))) (by dsimp only [zS, zN, zH, zT]) ?_
    refine zd0 (fun H => (op_pick_ff (by rfl) (val_tmp (by rfl)))) rfl (by dsimp only [zS, zN, zH, zT]) ?_
    refine zd0 (fun H => (op_move_tmp (by rfl))) rfl (by dsimp only [zS, zN, zH, zT]) ?_
    refine drun_split 30 rfl (fun hg3 => ?_) (fun hg3 => ?_)
    ·
     (try simp only [y1, y2, y3, y4, y5, y6, y7, y8, y9, y0, List.length_map] at hg3)
     have h8 : 8 < (c.toNat : Int) := hg3
     apply drun_normT
     · (try dsimp only [zS, zN, zH, zT]); try exact rfl
     refine zdU rfl rfl rfl rfl (by dsimp only [zS, zN, zH, zT]) ?_
     refine zdU rfl rfl rfl rfl (by dsimp only [zS, zN, zH, zT]) ?_
     refine zdU rfl rfl rfl rfl (by dsimp only [zS, zN, zH, zT]) ?_
     refine zdU rfl rfl rfl rfl (by dsimp only [zS, zN, zH, zT]) ?_
     refine zdU rfl rfl rfl rfl (by dsimp only [zS, zN, zH, zT]) ?_
     refine zdU rfl rfl rfl rfl (by dsimp only [zS, zN, zH, zT]) ?_
     refine zdU rfl rfl rfl rfl (by dsimp only [zS, zN, zH, zT]) ?_
     refine zdU rfl rfl rfl rfl (by dsimp only [zS, zN, zH, zT]) ?_
     refine zdU rfl rfl rfl rfl (by dsimp only [zS, zN, zH, zT]) ?_
     refine zdU rfl rfl rfl rfl (by dsimp only [zS, zN, zH, zT]) ?_
     refine zdU rfl rfl rfl rfl (by dsimp only [zS, zN, zH, zT]) ?_
     refine zdU rfl rfl rfl rfl (by dsimp only [zS, zN, zH, zT]) ?_
     refine zdU rfl rfl rfl rfl (by dsimp only [zS, zN, zH, zT]) ?_
     refine zd0 (fun H => (op_pick_tt (by rfl) (val_const (by rfl)))) rfl (by dsimp only [zS, zN, zH, zT]) ?_
     refine zd0 (fun H => (op_move_tmp (by rfl))) rfl (by dsimp only [zS, zN, zH, zT]) ?_
     refine zdU rfl rfl rfl rfl (by dsimp only [zS, zN, zH, zT]) ?_
     refine zdU rfl rfl rfl rfl (by dsimp only [zS, zN, zH, zT]) ?_
     refine zdU rfl rfl rfl rfl (by dsimp only [zS, zN, zH, zT]) ?_
     refine zdU rfl rfl rfl rfl (by dsimp only [zS, zN, zH, zT]) ?_
     refine zdU rfl rfl rfl rfl (by dsimp only [zS, zN, zH, zT]) ?_
     refine zdU rfl rfl rfl rfl (by dsimp only [zS, zN, zH, zT]) ?_
     refine zdU rfl rfl rfl rfl (by dsimp only [zS, zN, zH, zT]) ?_
     refine zdV rfl rfl rfl (by dsimp only [zS, zN, zH, zT]) ?_
     refine zdV rfl rfl rfl (by dsimp only [zS, zN, zH, zT]) ?_
     refine zdV rfl rfl rfl (by dsimp only [zS, zN, zH, zT]) ?_
     refine zdV rfl rfl rfl (by dsimp only [zS, zN, zH, zT]) ?_
     refine zdV rfl rfl rfl (by dsimp only [zS, zN, zH, zT]) ?_
     refine zdV rfl rfl rfl (by dsimp only [zS, zN, zH, zT]) ?_
     refine zdU rfl rfl rfl rfl (by dsimp only [zS, zN, zH, zT]) ?_
     refine zd0 (fun H => (op_pick_tt (by rfl) (val_const (by rfl)))) rfl (by dsimp only [zS, zN, zH, zT]) ?_
     refine drun_end rfl ?_
     apply cut_to (true :: true :: false :: false :: false :: false :: false :: false :: false :: false :: false :: false :: false :: false :: false :: false :: false :: false :: false :: false :: false :: false :: false :: false :: false :: false :: false :: false :: false :: false :: false :: false :: false :: false :: false :: false :: false :: false :: false :: false :: false :: false :: false :: false :: false :: false :: false :: false :: false :: false :: false :: false :: false :: false :: false :: false :: false :: false :: false :: false :: true :: false :: false :: false :: false :: false :: false :: false :: false :: false :: false :: false :: false :: false :: false :: false :: false :: false :: false :: false :: false :: false :: false :: false :: false :: false :: false :: false :: false :: false :: false :: false :: false :: false :: false :: false :: false :: false :: false :: false :: false :: false :: false :: false :: false :: false :: false :: [])
     · (try dsimp only [maskT]); try exact rfl
     · rfl
     exact ⟨(), by (rw [badN_big h8]) <;> rfl, rfl⟩
    ·
     (try simp only [y1, y2, y3, y4, y5, y6, y7, y8, y9, y0, List.length_map] at hg3)
     have h8 : ¬ 8 < (c.toNat : Int) := hg3
     apply drun_normT
     · (try dsimp only [zS, zN, zH, zT]); try exact rfl
     refine zd0w rfl rfl rfl (fun H => (op_move_tmp (by rfl))) (by dsimp only [zS, zN, zH, zT]) ?_
     refine zd0w rfl rfl rfl (fun H => (by first | exact op_nilCheck_ptr (by rfl) | exact op_nilCheck_elt (by rfl))) (by dsimp only [zS, zN, zH, zT]) ?_
     refine zd0w rfl rfl rfl (fun H => (by first | exact op_fieldAddr_ptr Try.underlying179 rfl Sz9 (by rfl) (by rfl) | exact op_fieldAddr_elt Try.underlying179 rfl Sz9 (by rfl) (by rfl) (by rfl))) (by dsimp only [zS, zN, zH, zT]) ?_
     refine zd1w rfl rfl rfl (by first | exact op_load_elt Try.underlying9 (by rfl) (by rfl) (by rfl) | exact op_load_ptr Try.underlying9 (by rfl) (by rfl) (by first | exact hb | exact setB_at hb) (by rfl)) (by dsimp only [zS, zN, zH, zT]) ?_
     refine zd0w rfl rfl rfl (fun H => (op_lenS Try.underlying9 (by rfl))) (by dsimp only [zS, zN, zH, zT]) ?_
     refine zd0w rfl rfl rfl (fun H => (op_move_tmp (by rfl))) (by dsimp only [zS, zN, zH, zT]) ?_
     refine zd0w rfl rfl rfl (fun H => (by first | exact op_nilCheck_ptr (by rfl) | exact op_nilCheck_elt (by rfl))) (by dsimp only [zS, zN, zH, zT]) ?_
     refine zd0w rfl rfl rfl (fun H => (by first | exact op_fieldAddr_ptr Try.underlying179 rfl Sz9 (by rfl) (by rfl) | exact op_fieldAddr_elt Try.underlying179 rfl Sz9 (by rfl) (by rfl) (by rfl))) (by dsimp only [zS, zN, zH, zT]) ?_
     refine zd1w rfl rfl rfl (by first | exact op_load_elt Try.underlying9 (by rfl) (by rfl) (by rfl) | exact op_load_ptr Try.underlying9 (by rfl) (by rfl) (by first | exact hb | exact setB_at hb) (by rfl)) (by dsimp only [zS, zN, zH, zT]) ?_
     refine zd0w rfl rfl rfl (fun H => (op_indexS Try.underlying9 (by rfl) (by rfl) (by decide) (show (c :: r)[(0 : Int).toNat]? = some c by rfl))) (by dsimp only [zS, zN, zH, zT]) ?_
     refine zd0w rfl rfl rfl (fun H => (by first | exact op_convI (by rw [Try.underlying5]; rfl) Try.underlying3 (by rfl) (wrap_i64 ⟨by omega, by omega⟩) | exact op_convI (by rw [Try.underlying5]; rfl) Try.underlying3 (by rfl) (by rfl))) (by dsimp only [zS, zN, zH, zT]) ?_
     refine zd0w rfl rfl rfl (fun H => (by first | exact op_add (by rfl) (by rfl) (wrap_i64 ⟨by omega, by omega⟩) | exact op_add (by rfl) (by rfl) (by rfl))) (by dsimp only [zS, zN, zH, zT]) ?_
     refine zd0w rfl rfl rfl (fun H => (op_ltI (by rfl) (by rfl))) (by dsimp only [zS, zN, zH, zT]) ?_
     refine zd0 (fun H => (op_pick_ff (by rfl) (val_tmp (by rfl)))) rfl (by dsimp only [zS, zN, zH, zT]) ?_
     refine zd0 (fun H => (op_move_tmp (by rfl))) rfl (by dsimp only [zS, zN, zH, zT]) ?_
     refine drun_split 45 rfl (fun hg4 => ?_) (fun hg4 => ?_)
     ·
      (try simp only [y1, y2, y3, y4, y5, y6, y7, y8, y9, y0, List.length_map] at hg4)
      have hsh : (((c :: r).length : Nat) : Int) < 1 + (c.toNat : Int) := hg4
      apply drun_normT
      · (try dsimp only [zS, zN, zH, zT]); try exact rfl
      refine zdU rfl rfl rfl rfl (by dsimp only [zS, zN, zH, zT]) ?_
      refine zdU rfl rfl rfl rfl (by dsimp only [zS, zN, zH, zT]) ?_
      refine zdU rfl rfl rfl rfl (by dsimp only [zS, zN, zH, zT]) ?_
      refine zdU rfl rfl rfl rfl (by dsimp only [zS, zN, zH, zT]) ?_
      refine zdU rfl rfl rfl rfl (by dsimp only [zS, zN, zH, zT]) ?_
      refine zdU rfl rfl rfl rfl (by dsimp only [zS, zN, zH, zT]) ?_
      refine zdU rfl rfl rfl rfl (by dsimp only [zS, zN, zH, zT]) ?_
      refine zdV rfl rfl rfl (by dsimp only [zS, zN, zH, zT]) ?_
      refine zdV rfl rfl rfl (by dsimp only [zS, zN, zH, zT]) ?_
      refine zdV rfl rfl rfl (by dsimp only [zS, zN, zH, zT]) ?_
      refine zdV rfl rfl rfl (by dsimp only [zS, zN, zH, zT]) ?_
      refine zdV rfl rfl rfl (by dsimp only [zS, zN, zH, zT]) ?_
      refine zdV rfl rfl rfl (by dsimp only [zS, zN, zH, zT]) ?_
      refine zdU rfl rfl rfl rfl (by dsimp only [zS, zN, zH, zT]) ?_
      refine zd0 (fun H => (op_pick_tt (by rfl) (val_const (by rfl)))) rfl (by dsimp only [zS, zN, zH, zT]) ?_
      refine drun_end rfl ?_
      apply cut_to (true :: true :: false :: false :: false :: false :: false :: false :: false :: false :: false :: false :: false :: false :: false :: false :: false :: false :: false :: false :: false :: false :: false :: false :: false :: false :: false :: false :: false :: false :: false :: false :: false :: false :: false :: false :: false :: false :: false :: false :: false :: false :: false :: false :: false :: false :: false :: false :: false :: false :: false :: false :: false :: false :: false :: false :: false :: false :: false :: false :: true :: false :: false :: false :: false :: false :: false :: false :: false :: false :: false :: false :: false :: false :: false :: false :: false :: false :: false :: false :: false :: false :: false :: false :: false :: false :: false :: false :: false :: false :: false :: false :: false :: false :: false :: false :: false :: false :: false :: false :: false :: false :: false :: false :: false :: false :: false :: [])
      · (try dsimp only [maskT]); try exact rfl
      · rfl
      exact ⟨(), by (rw [badN_short hsh]) <;> rfl, rfl⟩
     ·
      (try simp only [y1, y2, y3, y4, y5, y6, y7, y8, y9, y0, List.length_map] at hg4)
      have hsh : ¬ (((c :: r).length : Nat) : Int) < 1 + (c.toNat : Int) := hg4
      apply drun_normT
      · (try dsimp only [zS, zN, zH, zT]); try exact rfl
      refine zd0w rfl rfl rfl (fun H => (op_move_tmp (by rfl))) (by dsimp only [zS, zN, zH, zT]) ?_
      refine zd0w rfl rfl rfl (fun H => (by first | exact op_nilCheck_ptr (by rfl) | exact op_nilCheck_elt (by rfl))) (by dsimp only [zS, zN, zH, zT]) ?_
      refine zd0w rfl rfl rfl (fun H => (by first | exact op_fieldAddr_ptr Try.underlying179 rfl Sz9 (by rfl) (by rfl) | exact op_fieldAddr_elt Try.underlying179 rfl Sz9 (by rfl) (by rfl) (by rfl))) (by dsimp only [zS, zN, zH, zT]) ?_
      refine zd1w rfl rfl rfl (by first | exact op_load_elt Try.underlying9 (by rfl) (by rfl) (by rfl) | exact op_load_ptr Try.underlying9 (by rfl) (by rfl) (by first | exact hb | exact setB_at hb) (by rfl)) (by dsimp only [zS, zN, zH, zT]) ?_
      refine zd0w rfl rfl rfl (fun H => (op_indexS Try.underlying9 (by rfl) (by rfl) (by decide) (show (c :: r)[(0 : Int).toNat]? = some c by rfl))) (by dsimp only [zS, zN, zH, zT]) ?_
      refine zd0w rfl rfl rfl (fun H => (op_gtI (by rfl) (by rfl))) (by dsimp only [zS, zN, zH, zT]) ?_
      refine zd0w rfl rfl rfl (fun H => (op_move_tmp (by rfl))) (by dsimp only [zS, zN, zH, zT]) ?_
      refine drun_split 52 rfl (fun hg5 => ?_) (fun hg5 => ?_)
      ·
       (try simp only [y1, y2, y3, y4, y5, y6, y7, y8, y9, y0, List.length_map] at hg5)
       have h0 : 0 < (c.toNat : Int) := hg5
       obtain ⟨d, r, rfl⟩ : ∃ d q, r = d :: q := List.exists_cons_of_ne_nil (by intro h; subst h; simp at hsh; omega)
       apply drun_normT
       · (try dsimp only [zS, zN, zH, zT]); try exact rfl
       refine zd0w rfl rfl rfl (fun H => (op_move_tmp (by rfl))) (by dsimp only [zS, zN, zH, zT]) ?_
       refine zd0w rfl rfl rfl (fun H => (by first | exact op_nilCheck_ptr (by rfl) | exact op_nilCheck_elt (by rfl))) (by dsimp only [zS, zN, zH, zT]) ?_
       refine zd0w rfl rfl rfl (fun H => (by first | exact op_fieldAddr_ptr Try.underlying179 rfl Sz9 (by rfl) (by rfl) | exact op_fieldAddr_elt Try.underlying179 rfl Sz9 (by rfl) (by rfl) (by rfl))) (by dsimp only [zS, zN, zH, zT]) ?_
       refine zd1w rfl rfl rfl (by first | exact op_load_elt Try.underlying9 (by rfl) (by rfl) (by rfl) | exact op_load_ptr Try.underlying9 (by rfl) (by rfl) (by first | exact hb | exact setB_at hb) (by rfl)) (by dsimp only [zS, zN, zH, zT]) ?_
       refine zd0w rfl rfl rfl (fun H => (op_indexS Try.underlying9 (by rfl) (by rfl) (by decide) (show (c :: d :: r)[(1 : Int).toNat]? = some d by rfl))) (by dsimp only [zS, zN, zH, zT]) ?_
       refine zd0w rfl rfl rfl (fun H => (op_eqI (by rfl) (by rfl))) (by dsimp only [zS, zN, zH, zT]) ?_
       refine zd0w rfl rfl rfl (fun H => (op_pick_tt (by rfl) (val_tmp (by rfl)))) (by dsimp only [zS, zN, zH, zT]) ?_
       refine zd0 (fun H => (op_pick_ff (by rfl) (val_tmp (by rfl)))) rfl (by dsimp only [zS, zN, zH, zT]) ?_
       refine drun_end rfl ?_
       apply cut_to (true :: true :: false :: false :: false :: false :: false :: false :: false :: false :: false :: false :: false :: false :: false :: false :: false :: false :: false :: false :: false :: false :: false :: false :: false :: false :: false :: false :: false :: false :: false :: false :: false :: false :: false :: false :: false :: false :: false :: false :: false :: false :: false :: false :: false :: false :: false :: false :: false :: false :: false :: false :: false :: false :: false :: false :: false :: false :: false :: false :: true :: false :: false :: false :: false :: false :: false :: false :: false :: false :: false :: false :: false :: false :: false :: false :: false :: false :: false :: false :: false :: false :: false :: false :: false :: false :: false :: false :: false :: false :: false :: false :: false :: false :: false :: false :: false :: false :: false :: false :: false :: false :: false :: false :: false :: false :: false :: [])
       · (try dsimp only [maskT]); try exact rfl
       · rfl
       exact ⟨(), by (rw [badN_two h8 hsh h0]) <;> rfl, rfl⟩
      ·
       (try simp only [y1, y2, y3, y4, y5, y6, y7, y8, y9, y0, List.length_map] at hg5)
       have h0 : ¬ 0 < (c.toNat : Int) := hg5
       apply drun_normT
       · (try dsimp only [zS, zN, zH, zT]); try exact rfl
       refine zdU rfl rfl rfl rfl (by dsimp only [zS, zN, zH, zT]) ?_
       refine zdU rfl rfl rfl rfl (by dsimp only [zS, zN, zH, zT]) ?_
       refine zdU rfl rfl rfl rfl (by dsimp only [zS, zN, zH, zT]) ?_
       refine zdU rfl rfl rfl rfl (by dsimp only [zS, zN, zH, zT]) ?_
       refine zdU rfl rfl rfl rfl (by dsimp only [zS, zN, zH, zT]) ?_
       refine zdU rfl rfl rfl rfl (by dsimp only [zS, zN, zH, zT]) ?_
       refine zd0w rfl rfl rfl (fun H => (op_pick_ff (by rfl) (val_const (by rfl)))) (by dsimp only [zS, zN, zH, zT]) ?_
       refine zd0 (fun H => (op_pick_ff (by rfl) (val_tmp (by rfl)))) rfl (by dsimp only [zS, zN, zH, zT]) ?_
       refine drun_end rfl ?_
       apply cut_to (true :: true :: false :: false :: false :: false :: false :: false :: false :: false :: false :: false :: false :: false :: false :: false :: false :: false :: false :: false :: false :: false :: false :: false :: false :: false :: false :: false :: false :: false :: false :: false :: false :: false :: false :: false :: false :: false :: false :: false :: false :: false :: false :: false :: false :: false :: false :: false :: false :: false :: false :: false :: false :: false :: false :: false :: false :: false :: false :: false :: true :: false :: false :: false :: false :: false :: false :: false :: false :: false :: false :: false :: false :: false :: false :: false :: false :: false :: false :: false :: false :: false :: false :: false :: false :: false :: false :: false :: false :: false :: false :: false :: false :: false :: false :: false :: false :: false :: false :: false :: false :: false :: false :: false :: false :: false :: false :: [])
       · (try dsimp only [maskT]); try exact rfl
       · rfl
       exact ⟨(), by (rw [badN_one h8 hsh h0]) <;> rfl, rfl⟩
  rintro T H ⟨u, rfl, rfl⟩
  refine aw_cond rfl (fun hc6 => ?_) (fun hc6 => ?_)
  ·
   (try simp only [y1, y2, y3, y4, y5, y6, y7, y8, y9, y0, List.length_map] at hc6)
   have hB : badN s = true := hc6
   refine aw_seq ?_
   refine aw_region ?_
   refine zst (op_move_tmp (by rfl)) rfl (by dsimp only [zS, zN, zH, zT]) ?_
   refine zst (op_callF Try.func89 (by rfl) (by rfl) (.tmp (by rfl) .nil) (fail_ok _ id _ _ hb)) rfl (by dsimp only [zS, zN, zH, zT]) ?_
   refine al_end rfl ?_
   refine then_normal ?_
   refine aw_seq ?_
   refine aw_region ?_
   refine zst (op_assign_const (by rfl)) rfl (by dsimp only [zS, zN, zH, zT]) ?_
   refine al_end rfl ?_
   refine then_normal ?_
   refine aw_ret ?_
   refine then_ret ?_
   refine retPost1 rfl rfl ?_
   rw [rNum_badN hB]; exact ⟨rfl, rfl⟩
  ·
   (try simp only [y1, y2, y3, y4, y5, y6, y7, y8, y9, y0, List.length_map] at hc6)
   have hB : badN s = false := hc6
   obtain ⟨c, r, rfl⟩ : ∃ c r, s = c :: r := by cases s with | nil => cases hB | cons c r => exact ⟨c, r, rfl⟩
   have hcl := c.toNat_lt
   obtain ⟨hc8, hcr⟩ := badN_false hB
   have hbl : (r.take c.toNat).length = c.toNat := by simp; omega
   refine aw_skip ?_
   refine then_normal ?_
   refine aw_seq ?_
   refine aw_region ?_
   refine zst (op_move_tmp (by rfl)) rfl (by dsimp only [zS, zN, zH, zT]) ?_
   refine zst (by first | exact op_nilCheck_ptr (by rfl) | exact op_nilCheck_elt (by rfl)) rfl (by dsimp only [zS, zN, zH, zT]) ?_
   refine zst (by first | exact op_fieldAddr_ptr Try.underlying179 rfl Sz9 (by rfl) (by rfl) | exact op_fieldAddr_elt Try.underlying179 rfl Sz9 (by rfl) (by rfl) (by rfl)) rfl (by dsimp only [zS, zN, zH, zT]) ?_
   refine zst (by first | exact op_load_elt Try.underlying9 (by rfl) (by rfl) (by rfl) | exact op_load_ptr Try.underlying9 (by rfl) (by rfl) (by first | exact hb | exact setB_at hb) (by rfl)) rfl (by dsimp only [zS, zN, zH, zT]) ?_
   refine zst (op_indexS Try.underlying9 (by rfl) (by rfl) (by decide) (show (c :: r)[(0 : Int).toNat]? = some c by rfl)) rfl (by dsimp only [zS, zN, zH, zT]) ?_
   refine zst (by first | exact op_convI (by rw [Try.underlying5]; rfl) Try.underlying3 (by rfl) (wrap_i64 ⟨by omega, by omega⟩) | exact op_convI (by rw [Try.underlying5]; rfl) Try.underlying3 (by rfl) (by rfl)) rfl (by dsimp only [zS, zN, zH, zT]) ?_
   refine zst (op_assign_tmp (by rfl)) rfl (by dsimp only [zS, zN, zH, zT]) ?_
   refine al_end rfl ?_
   refine then_normal ?_
   refine aw_seq ?_
   refine aw_region ?_
   refine zst (op_assign_const (by rfl)) rfl (by dsimp only [zS, zN, zH, zT]) ?_
   refine al_end rfl ?_
   refine then_normal ?_
   refine aw_seq ?_
   refine aw_seq ?_
   refine aw_region ?_
   refine zst (op_move_tmp (by rfl)) rfl (by dsimp only [zS, zN, zH, zT]) ?_
   refine zst (by first | exact op_nilCheck_ptr (by rfl) | exact op_nilCheck_elt (by rfl)) rfl (by dsimp only [zS, zN, zH, zT]) ?_
   refine zst (by first | exact op_fieldAddr_ptr Try.underlying179 rfl Sz9 (by rfl) (by rfl) | exact op_fieldAddr_elt Try.underlying179 rfl Sz9 (by rfl) (by rfl) (by rfl)) rfl (by dsimp only [zS, zN, zH, zT]) ?_
   refine zst (by first | exact op_load_elt Try.underlying9 (by rfl) (by rfl) (by rfl) | exact op_load_ptr Try.underlying9 (by rfl) (by rfl) (by first | exact hb | exact setB_at hb) (by rfl)) rfl (by dsimp only [zS, zN, zH, zT]) ?_
   refine zst (op_move_tmp (by rfl)) rfl (by dsimp only [zS, zN, zH, zT]) ?_
   refine zst (by first | exact op_add (by rfl) (by rfl) (wrap_i64 ⟨by omega, by omega⟩) | exact op_add (by rfl) (by rfl) (by rfl)) rfl (by dsimp only [zS, zN, zH, zT]) ?_
   refine zst (op_sliceS2 (r.take c.toNat) Try.underlying9 (by rfl) (by rfl) (by rfl) (by omega) (by omega) (by simp; omega) (by rw [show (1 : Int).toNat = 1 by rfl, show (1 + (c.toNat : Int)).toNat - 1 = c.toNat by omega]; rfl)) rfl (by dsimp only [zS, zN, zH, zT]) ?_
   refine zst (op_bytes Try.underlying9 Try.underlying49 Try.underlying5 (by rfl)) rfl (by dsimp only [zS, zN, zH, zT]) ?_
   refine zst (op_lenL Try.underlying49 (by first | exact LL.d _ _ | exact LL.own _ _ _ | exact LL.nil _ | assumption)) rfl (by dsimp only [zS, zN, zH, zT]) ?_
   refine zst (op_move_const (by rfl)) rfl (by dsimp only [zS, zN, zH, zT]) ?_
   refine al_end rfl ?_
   refine then_normal ?_
   refine aw_block ?_
   apply aw_loopF (fun n T H => ∃ (k : Nat), T = ((.ptr id 0) :: (.d (I most)) :: .un :: .un :: .un :: (.d (I c.toNat)) :: (.d (.v (.int .u64 (val ((r.take c.toNat).take k))))) :: .un :: .un :: .un :: .un :: .un :: .un :: .un :: .un :: .un :: .un :: .un :: .un :: .un :: .un :: .un :: .un :: .un :: .un :: .un :: .un :: .un :: .un :: .un :: .un :: .un :: .un :: .un :: .un :: .un :: .un :: .un :: .un :: .un :: .un :: .un :: .un :: .un :: .un :: .un :: .un :: .un :: .un :: .un :: .un :: .un :: .un :: .un :: .un :: .un :: .un :: .un :: .un :: .un :: .un :: .un :: .un :: .un :: .un :: .un :: .un :: .un :: .un :: .un :: .un :: .un :: .un :: .un :: .un :: .un :: (.d (.lst 1 ((r.take c.toNat).map BY))) :: (.d (I ((r.take c.toNat).map BY).length)) :: (.d (I k)) :: .un :: .un :: .un :: .un :: .un :: .un :: .un :: .un :: .un :: .un :: .un :: .un :: .un :: .un :: .un :: .un :: .un :: .un :: .un :: .un :: .un :: .un :: .un :: .un :: .un :: .un :: .un :: .un :: []) ∧ k ≤ c.toNat ∧ n = c.toNat - k ∧ Hs = H) (c.toNat) (true :: true :: false :: false :: false :: true :: true :: false :: false :: false :: false :: false :: false :: false :: false :: false :: false :: false :: false :: false :: false :: false :: false :: false :: false :: false :: false :: false :: false :: false :: false :: false :: false :: false :: false :: false :: false :: false :: false :: false :: false :: false :: false :: false :: false :: false :: false :: false :: false :: false :: false :: false :: false :: false :: false :: false :: false :: false :: false :: false :: false :: false :: false :: false :: false :: false :: false :: false :: false :: false :: false :: false :: false :: false :: false :: false :: true :: true :: true :: false :: false :: false :: false :: false :: false :: false :: false :: false :: false :: false :: false :: false :: false :: false :: false :: false :: false :: false :: false :: false :: false :: false :: false :: false :: false :: false :: false :: [])
   · (try dsimp only [maskT]); try exact rfl
   · rfl
   · exact ⟨0, rfl, by omega, rfl, rfl⟩
   rintro n T H ⟨k, rfl, hk, rfl, rfl⟩
   have hv := val_lt ((r.take c.toNat).take k)
   have hT : ((r.take c.toNat).take k).length = k := by rw [List.length_take]; omega
   rw [hT] at hv
   refine aw_seq ?_
   refine aw_region ?_
   refine zst (op_ltI (by rfl) (by rfl)) rfl (by dsimp only [zS, zN, zH, zT]) ?_
   refine al_end rfl ?_
   refine then_normal ?_
   refine aw_seq ?_
   refine aw_cond rfl (fun hc7 => ?_) (fun hc7 => ?_)
   ·
    (try simp only [y1, y2, y3, y4, y5, y6, y7, y8, y9, y0, List.length_map] at hc7)
    (try simp only [List.length_map] at hc7)
    have hlt : k < c.toNat := by omega
    obtain ⟨x, hx⟩ : ∃ x, (r.take c.toNat)[k]? = some x := ⟨_, List.getElem?_eq_getElem (by omega)⟩
    have hxl := x.toNat_lt
    have hv7 : val ((r.take c.toNat).take k) < 256 ^ 7 := Nat.lt_of_lt_of_le hv (Nat.pow_le_pow_right (by decide) (by omega))
    have hv' : val ((r.take c.toNat).take k) < 72057594037927936 := by simpa using hv7
    refine aw_skip ?_
    refine then_normal ?_
    refine aw_seq ?_
    refine aw_block ?_
    refine aw_seq ?_
    refine aw_region ?_
    refine zst (op_indexAddr Try.underlying49 Sz5 (LL.d _ _) (by rfl) (by omega) (show ((r.take c.toNat).map BY)[((k : Nat) : Int).toNat]? = some (BY x) by rw [List.getElem?_map, show ((k : Nat) : Int).toNat = k from rfl, hx]; rfl) (by rfl)) rfl (by dsimp only [zS, zN, zH, zT]) ?_
    refine zst (by first | exact op_load_elt Try.underlying5 (by rfl) (by rfl) (by rfl) | exact op_load_ptr Try.underlying5 (by rfl) (by rfl) (by first | exact hb | exact setB_at hb) (by rfl)) rfl (by dsimp only [zS, zN, zH, zT]) ?_
    refine zst (op_assign_tmp (by rfl)) rfl (by dsimp only [zS, zN, zH, zT]) ?_
    refine al_end rfl ?_
    refine then_normal ?_
    refine aw_region ?_
    refine zst (op_move_tmp (by rfl)) rfl (by dsimp only [zS, zN, zH, zT]) ?_
    refine zst (op_shl (by rfl) (by rfl) (by omega) (shl8 hv7)) rfl (by dsimp only [zS, zN, zH, zT]) ?_
    refine zst (op_move_tmp (by rfl)) rfl (by dsimp only [zS, zN, zH, zT]) ?_
    refine zst (by first | exact op_convI (by rw [Try.underlying5]; rfl) Try.underlying177 (by rfl) (wrap_u64 ⟨by omega, by omega⟩) | exact op_convI (by rw [Try.underlying5]; rfl) Try.underlying177 (by rfl) (by rfl)) rfl (by dsimp only [zS, zN, zH, zT]) ?_
    refine zst (op_or (by rfl) (by rfl) ((or_byte hv7 hxl).trans (by rw [← val_snoc, ← take_snoc hx]))) rfl (by dsimp only [zS, zN, zH, zT]) ?_
    refine zst (op_assign_tmp (by rfl)) rfl (by dsimp only [zS, zN, zH, zT]) ?_
    refine al_end rfl ?_
    refine inBlock_normal (then_normal ?_)
    refine aw_region ?_
    refine zst (by first | exact op_add (by rfl) (by rfl) (wrap_i64 ⟨by omega, by omega⟩) | exact op_add (by rfl) (by rfl) (by rfl)) rfl (by dsimp only [zS, zN, zH, zT]) ?_
    refine zst (op_move_tmp (by rfl)) rfl (by dsimp only [zS, zN, zH, zT]) ?_
    refine al_end rfl ?_
    apply again_to (c.toNat - (k + 1)) (true :: true :: false :: false :: false :: true :: true :: false :: false :: false :: false :: false :: false :: false :: false :: false :: false :: false :: false :: false :: false :: false :: false :: false :: false :: false :: false :: false :: false :: false :: false :: false :: false :: false :: false :: false :: false :: false :: false :: false :: false :: false :: false :: false :: false :: false :: false :: false :: false :: false :: false :: false :: false :: false :: false :: false :: false :: false :: false :: false :: false :: false :: false :: false :: false :: false :: false :: false :: false :: false :: false :: false :: false :: false :: false :: false :: true :: true :: true :: false :: false :: false :: false :: false :: false :: false :: false :: false :: false :: false :: false :: false :: false :: false :: false :: false :: false :: false :: false :: false :: false :: false :: false :: false :: false :: false :: false :: [])
    · (try dsimp only [maskT]); try exact rfl
    · rfl
    · omega
    exact ⟨k + 1, rfl, by omega, rfl, rfl⟩
   ·
    (try simp only [y1, y2, y3, y4, y5, y6, y7, y8, y9, y0, List.length_map] at hc7)
    (try simp only [List.length_map] at hc7)
    have hke : k = c.toNat := by omega
    subst hke
    rw [List.take_of_length_le (by omega : (r.take c.toNat).length ≤ c.toNat)] at hv ⊢
    have hv8 : val (r.take c.toNat) < 256 ^ 8 := Nat.lt_of_lt_of_le hv (Nat.pow_le_pow_right (by decide) hc8)
    have hv9 : val (r.take c.toNat) < 18446744073709551616 := by simpa using hv8
    refine aw_exit ?_
    refine then_exit (again_exit (inBlock_here (then_normal ?_)))
    refine aw_seq ?_
    refine aw_region ?_
    refine zst (op_move_tmp (by rfl)) rfl (by dsimp only [zS, zN, zH, zT]) ?_
    refine zst (op_move_tmp (by rfl)) rfl (by dsimp only [zS, zN, zH, zT]) ?_
    refine zst (by first | exact op_nilCheck_ptr (by rfl) | exact op_nilCheck_elt (by rfl)) rfl (by dsimp only [zS, zN, zH, zT]) ?_
    refine zst (by first | exact op_fieldAddr_ptr Try.underlying179 rfl Sz9 (by rfl) (by rfl) | exact op_fieldAddr_elt Try.underlying179 rfl Sz9 (by rfl) (by rfl) (by rfl)) rfl (by dsimp only [zS, zN, zH, zT]) ?_
    refine zst (by first | exact op_load_elt Try.underlying9 (by rfl) (by rfl) (by rfl) | exact op_load_ptr Try.underlying9 (by rfl) (by rfl) (by first | exact hb | exact setB_at hb) (by rfl)) rfl (by dsimp only [zS, zN, zH, zT]) ?_
    refine zst (op_move_tmp (by rfl)) rfl (by dsimp only [zS, zN, zH, zT]) ?_
    refine zst (by first | exact op_add (by rfl) (by rfl) (wrap_i64 ⟨by omega, by omega⟩) | exact op_add (by rfl) (by rfl) (by rfl)) rfl (by dsimp only [zS, zN, zH, zT]) ?_
    refine zst (op_sliceS1 (r.drop c.toNat) Try.underlying9 (by rfl) (by rfl) (by omega) (by simp; omega) (by rw [show (1 + (c.toNat : Int)).toNat = c.toNat + 1 by omega]; rfl)) rfl (by dsimp only [zS, zN, zH, zT]) ?_
    refine zst (by first | exact op_nilCheck_ptr (by rfl) | exact op_nilCheck_elt (by rfl)) rfl (by dsimp only [zS, zN, zH, zT]) ?_
    refine zst (by first | exact op_fieldAddr_ptr Try.underlying179 rfl Sz9 (by rfl) (by rfl) | exact op_fieldAddr_elt Try.underlying179 rfl Sz9 (by rfl) (by rfl) (by rfl)) rfl (by dsimp only [zS, zN, zH, zT]) ?_
    refine zst (op_storeB (vs := [.d (S (r.drop c.toNat))]) (b' := ⟨179, [.d (S (r.drop c.toNat)), .d (TF false)], false⟩) (H' := Hs.setB id ⟨179, [.d (S (r.drop c.toNat)), .d (TF false)], false⟩) Sz9 (by rfl) hb (by intro h; cases h) (by rfl) (by rfl) (Nat.le_of_ble_eq_true rfl) (by simp [AV.one, DV.one, TF, S, I, BY]) (by rfl) (by rfl) rfl) rfl (by dsimp only [zS, zN, zH, zT]) ?_
    refine al_end rfl ?_
    refine then_normal ?_
    refine aw_seq ?_
    refine aw_seq ?_
    refine aw_region ?_
    refine zst (op_move_tmp (by rfl)) rfl (by dsimp only [zS, zN, zH, zT]) ?_
    refine zst (op_move_tmp (by rfl)) rfl (by dsimp only [zS, zN, zH, zT]) ?_
    refine zst (op_max (by rfl) (by rfl)) rfl (by dsimp only [zS, zN, zH, zT]) ?_
    refine zst (op_convI (by rw [Try.underlying3]; rfl) Try.underlying177 (by rfl) (wrap_u64 (by split <;> omega))) rfl (by dsimp only [zS, zN, zH, zT]) ?_
    refine zst (op_gtI (by rfl) (by rfl)) rfl (by dsimp only [zS, zN, zH, zT]) ?_
    refine al_end rfl ?_
    refine then_normal ?_
    refine aw_cond rfl (fun hc8 => ?_) (fun hc8 => ?_)
    ·
     (try simp only [y1, y2, y3, y4, y5, y6, y7, y8, y9, y0, List.length_map] at hc8)
     have hbig := hc8
     refine aw_seq ?_
     refine aw_region ?_
     refine zst (op_move_tmp (by rfl)) rfl (by dsimp only [zS, zN, zH, zT]) ?_
     refine zst (op_callF Try.func89 (by rfl) (by rfl) (.tmp (by rfl) .nil) (fail_ok _ id _ _ (setB_at hb))) rfl (by dsimp only [zS, zN, zH, zT]) ?_
     refine al_end rfl ?_
     refine then_normal ?_
     refine aw_seq ?_
     refine aw_region ?_
     refine zst (op_assign_const (by rfl)) rfl (by dsimp only [zS, zN, zH, zT]) ?_
     refine al_end rfl ?_
     refine then_normal ?_
     refine aw_ret ?_
     refine then_ret ?_
     refine retPost1 rfl rfl ?_
     rw [rNum_big hB hbig]; exact ⟨rfl, setB_setB⟩
    ·
     (try simp only [y1, y2, y3, y4, y5, y6, y7, y8, y9, y0, List.length_map] at hc8)
     have hsm := hc8
     refine aw_skip ?_
     refine then_normal ?_
     refine aw_seq ?_
     refine aw_region ?_
     refine zst (op_move_tmp (by rfl)) rfl (by dsimp only [zS, zN, zH, zT]) ?_
     refine zst (op_convI (by rw [Try.underlying177]; rfl) Try.underlying3 (by rfl) (wrap_i64 (by split at hsm <;> omega))) rfl (by dsimp only [zS, zN, zH, zT]) ?_
     refine zst (op_assign_tmp (by rfl)) rfl (by dsimp only [zS, zN, zH, zT]) ?_
     refine al_end rfl ?_
     refine then_normal ?_
     refine aw_ret ?_
     refine retPost1 rfl rfl ?_
     rw [rNum_ok hB hsm]; exact ⟨rfl, rfl⟩
theorem num_at {Hs : HS} {id : Nat} {s s' : List UInt8} {bad bad' : Bool} {most : Int} {n : Nat} (hr : rNum most (s, bad) = (n, (s', bad'))) (hb : Hs.blks[id]? = some (RB 179 (s, bad))) (hm : most ≤ 9223372036854775807) : ACalls Try.prog 57 [.ptr id 0, .d (I most)] Hs (Ret (.d (I n)) (Hs.setB id (RB 179 (s', bad')))) := by
  have h := num_ok Hs id s bad most hb hm
  rwa [hr] at h
set_option maxRecDepth 100000 in
theorem rtext_ok (Hs : HS) (id : Nat) (s : List UInt8) (bad : Bool) (most : Int) (hb : Hs.blks[id]? = some (RB 179 (s, bad))) (hm : most ≤ 9223372036854775807) : ACalls Try.prog 58 [.ptr id 0, .d (I most)] Hs (Ret (.d (S (rText most (s, bad)).1)) (Hs.setB id (RB 179 (rText most (s, bad)).2))) := by
 obtain ⟨n, ⟨s', bad'⟩, hr⟩ : ∃ n st, rNum most (s, bad) = (n, st) := ⟨_, _, rfl⟩
 have hb1 : (Hs.setB id (RB 179 (s', bad'))).blks[id]? = some ⟨179, [.d (S s'), .d (TF bad')], false⟩ := setB_at hb
 have hnum : ACalls Try.prog 57 [.ptr id 0, .d (I most)] Hs (Ret (.d (I n)) (Hs.setB id (RB 179 (s', bad')))) := by have h := num_ok Hs id s bad most hb hm; rwa [hr] at h
 have hn0 : (0 : Int) ≤ n := by omega
 refine acalls_of_aw Try.func58 rfl ?_
 refine aw_start (T' := [.ptr id 0, .d (I most), .un, .un, .un, .un, .un, .un, .un, .un, .un, .un, .un, .un, .un, .un, .un, .un, .un, .un, .un, .un, .un, .un, .un, .un, .un, .un, .un, .un, .un, .un, .un, .un, .un, .un, .un, .un, .un, .un, .un, .un, .un]) rfl ?_
 refine aw_seq ?_
 refine aw_region ?_
 refine zst (op_assign_const (by rfl)) rfl (by dsimp only [zS, zN, zH, zT]) ?_
 refine al_end rfl ?_
 refine then_normal ?_
 refine aw_seq ?_
 refine aw_region ?_
 refine zst (op_move_tmp (by rfl)) rfl (by dsimp only [zS, zN, zH, zT]) ?_
 refine zst (op_move_tmp (by rfl)) rfl (by dsimp only [zS, zN, zH, zT]) ?_
 refine zst (op_callF Try.func57 (by rfl) (by rfl) (.tmp (by rfl) (.tmp (by rfl) .nil)) (hnum)) rfl (by dsimp only [zS, zN, zH, zT]) ?_
 refine zst (op_assign_tmp (by rfl)) rfl (by dsimp only [zS, zN, zH, zT]) ?_
 refine al_end rfl ?_
 refine then_normal ?_
 refine aw_seq ?_
 refine aw_seq ?_
 refine aw_region ?_
 refine zst (op_move_tmp (by rfl)) rfl (by dsimp only [zS, zN, zH, zT]) ?_
 refine zst (op_ptr_nil Try.underlying124 (by rfl) (by rfl)) rfl (by dsimp only [zS, zN, zH, zT]) ?_
 refine zst (op_move_tmp (by rfl)) rfl (by dsimp only [zS, zN, zH, zT]) ?_
 refine zsw rfl rfl rfl (op_move_tmp (by rfl)) (by dsimp only [zS, zN, zH, zT]) ?_
 refine zsw rfl rfl rfl (by first | exact op_nilCheck_ptr (by rfl) | exact op_nilCheck_elt (by rfl)) (by dsimp only [zS, zN, zH, zT]) ?_
 refine zsw rfl rfl rfl (by first | exact op_fieldAddr_ptr Try.underlying179 rfl Sz4 (by rfl) (by rfl) | exact op_fieldAddr_elt Try.underlying179 rfl Sz4 (by rfl) (by rfl) (by rfl)) (by dsimp only [zS, zN, zH, zT]) ?_
 refine zsw rfl rfl rfl (by first | exact op_load_elt Try.underlying4 (by rfl) (by rfl) (by rfl) | exact op_load_ptr Try.underlying4 (by rfl) (by rfl) hb1 (by rfl)) (by dsimp only [zS, zN, zH, zT]) ?_
 refine zst (op_pick_ff (by rfl) (val_tmp (by rfl))) rfl (by dsimp only [zS, zN, zH, zT]) ?_
 refine al_end rfl ?_
 refine then_normal ?_
 refine aw_cond rfl (fun hc1 => ?_) (fun hc1 => ?_)
 ·
  (try simp only [y1, y2, y3, y4, y5, y6, y7, y8, y9, y0, List.length_map] at hc1)
  have hbad : bad' = true := hc1
  refine aw_seq ?_
  refine aw_region ?_
  refine zst (op_assign_const (by rfl)) rfl (by dsimp only [zS, zN, zH, zT]) ?_
  refine al_end rfl ?_
  refine then_normal ?_
  refine aw_ret ?_
  refine then_ret ?_
  refine retPost1 rfl rfl ?_
  have e : rText most (s, bad) = ([], (s', bad')) := by simp [rText, hr, hbad]
  rw [e]; exact ⟨rfl, rfl⟩
 ·
  (try simp only [y1, y2, y3, y4, y5, y6, y7, y8, y9, y0, List.length_map] at hc1)
  have hbad : bad' = false := hc1
  subst hbad
  refine aw_skip ?_
  refine then_normal ?_
  refine aw_seq ?_
  refine aw_seq ?_
  refine aw_region ?_
  refine zst (op_move_tmp (by rfl)) rfl (by dsimp only [zS, zN, zH, zT]) ?_
  refine zst (op_move_tmp (by rfl)) rfl (by dsimp only [zS, zN, zH, zT]) ?_
  refine zst (by first | exact op_nilCheck_ptr (by rfl) | exact op_nilCheck_elt (by rfl)) rfl (by dsimp only [zS, zN, zH, zT]) ?_
  refine zst (by first | exact op_fieldAddr_ptr Try.underlying179 rfl Sz9 (by rfl) (by rfl) | exact op_fieldAddr_elt Try.underlying179 rfl Sz9 (by rfl) (by rfl) (by rfl)) rfl (by dsimp only [zS, zN, zH, zT]) ?_
  refine zst (by first | exact op_load_elt Try.underlying9 (by rfl) (by rfl) (by rfl) | exact op_load_ptr Try.underlying9 (by rfl) (by rfl) hb1 (by rfl)) rfl (by dsimp only [zS, zN, zH, zT]) ?_
  refine zst (op_lenS Try.underlying9 (by rfl)) rfl (by dsimp only [zS, zN, zH, zT]) ?_
  refine zst (op_gtI (by rfl) (by rfl)) rfl (by dsimp only [zS, zN, zH, zT]) ?_
  refine al_end rfl ?_
  refine then_normal ?_
  refine aw_cond rfl (fun hc2 => ?_) (fun hc2 => ?_)
  ·
   (try simp only [y1, y2, y3, y4, y5, y6, y7, y8, y9, y0, List.length_map] at hc2)
   have hlt : s'.length < n := by omega
   refine aw_seq ?_
   refine aw_region ?_
   refine zst (op_move_tmp (by rfl)) rfl (by dsimp only [zS, zN, zH, zT]) ?_
   refine zst (op_callF Try.func89 (by rfl) (by rfl) (.tmp (by rfl) .nil) (fail_ok _ id _ _ hb1)) rfl (by dsimp only [zS, zN, zH, zT]) ?_
   refine al_end rfl ?_
   refine then_normal ?_
   refine aw_seq ?_
   refine aw_region ?_
   refine zst (op_assign_const (by rfl)) rfl (by dsimp only [zS, zN, zH, zT]) ?_
   refine al_end rfl ?_
   refine then_normal ?_
   refine aw_ret ?_
   refine then_ret ?_
   refine retPost1 rfl rfl ?_
   have e : rText most (s, bad) = ([], ([], true)) := by simp [rText, hr, hlt]
   rw [e]; exact ⟨rfl, setB_setB⟩
  ·
   (try simp only [y1, y2, y3, y4, y5, y6, y7, y8, y9, y0, List.length_map] at hc2)
   have hge : n ≤ s'.length := by omega
   refine aw_skip ?_
   refine then_normal ?_
   refine aw_seq ?_
   refine aw_region ?_
   refine zst (op_move_tmp (by rfl)) rfl (by dsimp only [zS, zN, zH, zT]) ?_
   refine zst (by first | exact op_nilCheck_ptr (by rfl) | exact op_nilCheck_elt (by rfl)) rfl (by dsimp only [zS, zN, zH, zT]) ?_
   refine zst (by first | exact op_fieldAddr_ptr Try.underlying179 rfl Sz9 (by rfl) (by rfl) | exact op_fieldAddr_elt Try.underlying179 rfl Sz9 (by rfl) (by rfl) (by rfl)) rfl (by dsimp only [zS, zN, zH, zT]) ?_
   refine zst (by first | exact op_load_elt Try.underlying9 (by rfl) (by rfl) (by rfl) | exact op_load_ptr Try.underlying9 (by rfl) (by rfl) hb1 (by rfl)) rfl (by dsimp only [zS, zN, zH, zT]) ?_
   refine zst (op_move_tmp (by rfl)) rfl (by dsimp only [zS, zN, zH, zT]) ?_
   refine zst (op_sliceS0 (s'.take n) Try.underlying9 (by rfl) (by rfl) (by omega) (by omega) (by simp)) rfl (by dsimp only [zS, zN, zH, zT]) ?_
   refine zst (op_assign_tmp (by rfl)) rfl (by dsimp only [zS, zN, zH, zT]) ?_
   refine al_end rfl ?_
   refine then_normal ?_
   refine aw_seq ?_
   refine aw_region ?_
   refine zst (op_move_tmp (by rfl)) rfl (by dsimp only [zS, zN, zH, zT]) ?_
   refine zst (op_move_tmp (by rfl)) rfl (by dsimp only [zS, zN, zH, zT]) ?_
   refine zst (by first | exact op_nilCheck_ptr (by rfl) | exact op_nilCheck_elt (by rfl)) rfl (by dsimp only [zS, zN, zH, zT]) ?_
   refine zst (by first | exact op_fieldAddr_ptr Try.underlying179 rfl Sz9 (by rfl) (by rfl) | exact op_fieldAddr_elt Try.underlying179 rfl Sz9 (by rfl) (by rfl) (by rfl)) rfl (by dsimp only [zS, zN, zH, zT]) ?_
   refine zst (by first | exact op_load_elt Try.underlying9 (by rfl) (by rfl) (by rfl) | exact op_load_ptr Try.underlying9 (by rfl) (by rfl) hb1 (by rfl)) rfl (by dsimp only [zS, zN, zH, zT]) ?_
   refine zst (op_move_tmp (by rfl)) rfl (by dsimp only [zS, zN, zH, zT]) ?_
   refine zst (op_sliceS1 (s'.drop n) Try.underlying9 (by rfl) (by rfl) (by omega) (by omega) (by simp)) rfl (by dsimp only [zS, zN, zH, zT]) ?_
   refine zst (by first | exact op_nilCheck_ptr (by rfl) | exact op_nilCheck_elt (by rfl)) rfl (by dsimp only [zS, zN, zH, zT]) ?_
   refine zst (by first | exact op_fieldAddr_ptr Try.underlying179 rfl Sz9 (by rfl) (by rfl) | exact op_fieldAddr_elt Try.underlying179 rfl Sz9 (by rfl) (by rfl) (by rfl)) rfl (by dsimp only [zS, zN, zH, zT]) ?_
   refine zst (op_storeB (vs := [.d (S (s'.drop n))]) (b' := ⟨179, [.d (S (s'.drop n)), .d (TF false)], false⟩) (H' := Hs.setB id ⟨179, [.d (S (s'.drop n)), .d (TF false)], false⟩) Sz9 (by rfl) hb1 (by intro h; cases h) (by rfl) (by rfl) (Nat.le_of_ble_eq_true rfl) (by simp [AV.one, DV.one, TF, S, I, BY]) (by rfl) (by rfl) setB_setB) rfl (by dsimp only [zS, zN, zH, zT]) ?_
   refine al_end rfl ?_
   refine then_normal ?_
   refine aw_seq ?_
   refine aw_region ?_
   refine zst (op_move_tmp (by rfl)) rfl (by dsimp only [zS, zN, zH, zT]) ?_
   refine zst (op_assign_tmp (by rfl)) rfl (by dsimp only [zS, zN, zH, zT]) ?_
   refine al_end rfl ?_
   refine then_normal ?_
   refine aw_ret ?_
   refine retPost1 rfl rfl ?_
   have e : rText most (s, bad) = (s'.take n, (s'.drop n, false)) := by simp [rText, hr, show ¬ s'.length < n by omega]
   rw [e]; exact ⟨rfl, rfl⟩
set_option maxRecDepth 100000 in
theorem rflag_ok (Hs : HS) (id : Nat) (s : List UInt8) (bad : Bool) (hb : Hs.blks[id]? = some (RB 179 (s, bad))) : ACalls Try.prog 71 [.ptr id 0] Hs (Ret (.d (TF (rFlag (s, bad)).1)) (Hs.setB id (RB 179 (rFlag (s, bad)).2))) := by
 have hb : Hs.blks[id]? = some ⟨179, [.d (S s), .d (TF bad)], false⟩ := hb
 refine acalls_of_aw Try.func71 rfl ?_
 refine aw_start (T' := [.ptr id 0, .un, .un, .un, .un, .un, .un, .un, .un, .un, .un, .un, .un, .un, .un, .un, .un, .un, .un, .un, .un, .un, .un, .un, .un, .un, .un, .un, .un, .un, .un, .un, .un, .un, .un, .un, .un, .un, .un, .un, .un, .un]) rfl ?_
 refine aw_seq ?_
 refine aw_region ?_
 refine zst (op_assign_const (by rfl)) rfl (by dsimp only [zS, zN, zH, zT]) ?_
 refine al_end rfl ?_
 refine then_normal ?_
 refine aw_seq ?_
 refine aw_seq ?_
 refine aw_region ?_
 refine zst (op_move_tmp (by rfl)) rfl (by dsimp only [zS, zN, zH, zT]) ?_
 refine zst (op_ptr_nil Try.underlying124 (by rfl) (by rfl)) rfl (by dsimp only [zS, zN, zH, zT]) ?_
 refine zst (op_move_tmp (by rfl)) rfl (by dsimp only [zS, zN, zH, zT]) ?_
 refine zsw rfl rfl rfl (op_move_tmp (by rfl)) (by dsimp only [zS, zN, zH, zT]) ?_
 refine zsw rfl rfl rfl (by first | exact op_nilCheck_ptr (by rfl) | exact op_nilCheck_elt (by rfl)) (by dsimp only [zS, zN, zH, zT]) ?_
 refine zsw rfl rfl rfl (by first | exact op_fieldAddr_ptr Try.underlying179 rfl Sz4 (by rfl) (by rfl) | exact op_fieldAddr_elt Try.underlying179 rfl Sz4 (by rfl) (by rfl) (by rfl)) (by dsimp only [zS, zN, zH, zT]) ?_
 refine zsw rfl rfl rfl (by first | exact op_load_elt Try.underlying4 (by rfl) (by rfl) (by rfl) | exact op_load_ptr Try.underlying4 (by rfl) (by rfl) hb (by rfl)) (by dsimp only [zS, zN, zH, zT]) ?_
 refine zst (op_pick_ff (by rfl) (val_tmp (by rfl))) rfl (by dsimp only [zS, zN, zH, zT]) ?_
 refine al_end rfl ?_
 refine then_normal ?_
 refine aw_cond rfl (fun hc1 => ?_) (fun hc1 => ?_)
 ·
  (try simp only [y1, y2, y3, y4, y5, y6, y7, y8, y9, y0, List.length_map] at hc1)
  have hbad : bad = true := hc1
  subst hbad
  refine aw_seq ?_
  refine aw_region ?_
  refine zst (op_assign_const (by rfl)) rfl (by dsimp only [zS, zN, zH, zT]) ?_
  refine al_end rfl ?_
  refine then_normal ?_
  refine aw_ret ?_
  refine then_ret ?_
  refine retPost1 rfl rfl ?_
  exact ⟨rfl, (setB_self hb).symm⟩
 ·
  (try simp only [y1, y2, y3, y4, y5, y6, y7, y8, y9, y0, List.length_map] at hc1)
  have hbad : bad = false := hc1
  subst hbad
  refine aw_skip ?_
  refine then_normal ?_
  refine aw_seq ?_
  refine aw_seq ?_
  refine aw_region ?_
  refine zst (op_move_tmp (by rfl)) rfl (by dsimp only [zS, zN, zH, zT]) ?_
  refine zst (by first | exact op_nilCheck_ptr (by rfl) | exact op_nilCheck_elt (by rfl)) rfl (by dsimp only [zS, zN, zH, zT]) ?_
  refine zst (by first | exact op_fieldAddr_ptr Try.underlying179 rfl Sz9 (by rfl) (by rfl) | exact op_fieldAddr_elt Try.underlying179 rfl Sz9 (by rfl) (by rfl) (by rfl)) rfl (by dsimp only [zS, zN, zH, zT]) ?_
  refine zst (by first | exact op_load_elt Try.underlying9 (by rfl) (by rfl) (by rfl) | exact op_load_ptr Try.underlying9 (by rfl) (by rfl) hb (by rfl)) rfl (by dsimp only [zS, zN, zH, zT]) ?_
  refine zst (op_eqS (by rfl) (by rfl)) rfl (by dsimp only [zS, zN, zH, zT]) ?_
  refine zst (op_move_tmp (by rfl)) rfl (by dsimp only [zS, zN, zH, zT]) ?_
  refine al_split 17 rfl (fun hg2 => ?_) (fun hg2 => ?_)
  ·
   (try simp only [y1, y2, y3, y4, y5, y6, y7, y8, y9, y0, List.length_map] at hg2)
   have hs0 : s = [] := hg2
   subst hs0
   apply al_normT
   · (try dsimp only [zS, zN, zH, zT]); try exact rfl
   refine zuw rfl rfl rfl rfl (by dsimp only [zS, zN, zH, zT]) ?_
   refine zuw rfl rfl rfl rfl (by dsimp only [zS, zN, zH, zT]) ?_
   refine zuw rfl rfl rfl rfl (by dsimp only [zS, zN, zH, zT]) ?_
   refine zuw rfl rfl rfl rfl (by dsimp only [zS, zN, zH, zT]) ?_
   refine zuw rfl rfl rfl rfl (by dsimp only [zS, zN, zH, zT]) ?_
   refine zuw rfl rfl rfl rfl (by dsimp only [zS, zN, zH, zT]) ?_
   refine zst (op_pick_tt (by rfl) (val_const (by rfl))) rfl (by dsimp only [zS, zN, zH, zT]) ?_
   refine al_end rfl ?_
   refine then_normal ?_
   refine aw_cond rfl (fun _ => ?_) (fun h => by cases h)
   refine aw_seq ?_
   refine aw_region ?_
   refine zst (op_move_tmp (by rfl)) rfl (by dsimp only [zS, zN, zH, zT]) ?_
   refine zst (op_callF Try.func89 (by rfl) (by rfl) (.tmp (by rfl) .nil) (fail_ok _ id _ _ hb)) rfl (by dsimp only [zS, zN, zH, zT]) ?_
   refine al_end rfl ?_
   refine then_normal ?_
   refine aw_seq ?_
   refine aw_region ?_
   refine zst (op_assign_const (by rfl)) rfl (by dsimp only [zS, zN, zH, zT]) ?_
   refine al_end rfl ?_
   refine then_normal ?_
   refine aw_ret ?_
   refine then_ret ?_
   refine retPost1 rfl rfl ?_
   exact ⟨rfl, rfl⟩
  ·
   (try simp only [y1, y2, y3, y4, y5, y6, y7, y8, y9, y0, List.length_map] at hg2)
   obtain ⟨c, r, rfl⟩ := List.exists_cons_of_ne_nil hg2
   have hcl := c.toNat_lt
   apply al_normT
   · (try dsimp only [zS, zN, zH, zT]); try exact rfl
   refine zsw rfl rfl rfl (op_move_tmp (by rfl)) (by dsimp only [zS, zN, zH, zT]) ?_
   refine zsw rfl rfl rfl (by first | exact op_nilCheck_ptr (by rfl) | exact op_nilCheck_elt (by rfl)) (by dsimp only [zS, zN, zH, zT]) ?_
   refine zsw rfl rfl rfl (by first | exact op_fieldAddr_ptr Try.underlying179 rfl Sz9 (by rfl) (by rfl) | exact op_fieldAddr_elt Try.underlying179 rfl Sz9 (by rfl) (by rfl) (by rfl)) (by dsimp only [zS, zN, zH, zT]) ?_
   refine zsw rfl rfl rfl (by first | exact op_load_elt Try.underlying9 (by rfl) (by rfl) (by rfl) | exact op_load_ptr Try.underlying9 (by rfl) (by rfl) hb (by rfl)) (by dsimp only [zS, zN, zH, zT]) ?_
   refine zsw rfl rfl rfl (op_indexS Try.underlying9 (by rfl) (by rfl) (by decide) (show (c :: r)[(0 : Int).toNat]? = some c by rfl)) (by dsimp only [zS, zN, zH, zT]) ?_
   refine zsw rfl rfl rfl (op_gtI (by rfl) (by rfl)) (by dsimp only [zS, zN, zH, zT]) ?_
   refine zst (op_pick_ff (by rfl) (val_tmp (by rfl))) rfl (by dsimp only [zS, zN, zH, zT]) ?_
   refine al_end rfl ?_
   refine then_normal ?_
   refine aw_cond rfl (fun hc4 => ?_) (fun hc4 => ?_)
   ·
    (try simp only [y1, y2, y3, y4, y5, y6, y7, y8, y9, y0, List.length_map] at hc4)
    have h1 : 1 < (c.toNat : Int) := hc4
    refine aw_seq ?_
    refine aw_region ?_
    refine zst (op_move_tmp (by rfl)) rfl (by dsimp only [zS, zN, zH, zT]) ?_
    refine zst (op_callF Try.func89 (by rfl) (by rfl) (.tmp (by rfl) .nil) (fail_ok _ id _ _ hb)) rfl (by dsimp only [zS, zN, zH, zT]) ?_
    refine al_end rfl ?_
    refine then_normal ?_
    refine aw_seq ?_
    refine aw_region ?_
    refine zst (op_assign_const (by rfl)) rfl (by dsimp only [zS, zN, zH, zT]) ?_
    refine al_end rfl ?_
    refine then_normal ?_
    refine aw_ret ?_
    refine then_ret ?_
    refine retPost1 rfl rfl ?_
    have e : rFlag (c :: r, false) = (false, ([], true)) := by simp [rFlag, show 1 < c.toNat by omega]
    rw [e]; exact ⟨rfl, rfl⟩
   ·
    (try simp only [y1, y2, y3, y4, y5, y6, y7, y8, y9, y0, List.length_map] at hc4)
    have h1 : ¬ 1 < (c.toNat : Int) := hc4
    refine aw_skip ?_
    refine then_normal ?_
    refine aw_seq ?_
    refine aw_region ?_
    refine zst (op_move_tmp (by rfl)) rfl (by dsimp only [zS, zN, zH, zT]) ?_
    refine zst (by first | exact op_nilCheck_ptr (by rfl) | exact op_nilCheck_elt (by rfl)) rfl (by dsimp only [zS, zN, zH, zT]) ?_
    refine zst (by first | exact op_fieldAddr_ptr Try.underlying179 rfl Sz9 (by rfl) (by rfl) | exact op_fieldAddr_elt Try.underlying179 rfl Sz9 (by rfl) (by rfl) (by rfl)) rfl (by dsimp only [zS, zN, zH, zT]) ?_
    refine zst (by first | exact op_load_elt Try.underlying9 (by rfl) (by rfl) (by rfl) | exact op_load_ptr Try.underlying9 (by rfl) (by rfl) hb (by rfl)) rfl (by dsimp only [zS, zN, zH, zT]) ?_
    refine zst (op_indexS Try.underlying9 (by rfl) (by rfl) (by decide) (show (c :: r)[(0 : Int).toNat]? = some c by rfl)) rfl (by dsimp only [zS, zN, zH, zT]) ?_
    refine zst (op_eqI (by rfl) (by rfl)) rfl (by dsimp only [zS, zN, zH, zT]) ?_
    refine zst (op_assign_tmp (by rfl)) rfl (by dsimp only [zS, zN, zH, zT]) ?_
    refine al_end rfl ?_
    refine then_normal ?_
    refine aw_seq ?_
    refine aw_region ?_
    refine zst (op_move_tmp (by rfl)) rfl (by dsimp only [zS, zN, zH, zT]) ?_
    refine zst (op_move_tmp (by rfl)) rfl (by dsimp only [zS, zN, zH, zT]) ?_
    refine zst (by first | exact op_nilCheck_ptr (by rfl) | exact op_nilCheck_elt (by rfl)) rfl (by dsimp only [zS, zN, zH, zT]) ?_
    refine zst (by first | exact op_fieldAddr_ptr Try.underlying179 rfl Sz9 (by rfl) (by rfl) | exact op_fieldAddr_elt Try.underlying179 rfl Sz9 (by rfl) (by rfl) (by rfl)) rfl (by dsimp only [zS, zN, zH, zT]) ?_
    refine zst (by first | exact op_load_elt Try.underlying9 (by rfl) (by rfl) (by rfl) | exact op_load_ptr Try.underlying9 (by rfl) (by rfl) hb (by rfl)) rfl (by dsimp only [zS, zN, zH, zT]) ?_
    refine zst (op_sliceS1 r Try.underlying9 (by rfl) (by rfl) (by decide) (by simp; omega) (by rfl)) rfl (by dsimp only [zS, zN, zH, zT]) ?_
    refine zst (by first | exact op_nilCheck_ptr (by rfl) | exact op_nilCheck_elt (by rfl)) rfl (by dsimp only [zS, zN, zH, zT]) ?_
    refine zst (by first | exact op_fieldAddr_ptr Try.underlying179 rfl Sz9 (by rfl) (by rfl) | exact op_fieldAddr_elt Try.underlying179 rfl Sz9 (by rfl) (by rfl) (by rfl)) rfl (by dsimp only [zS, zN, zH, zT]) ?_
    refine zst (op_storeB (vs := [.d (S r)]) (b' := ⟨179, [.d (S r), .d (TF false)], false⟩) (H' := Hs.setB id ⟨179, [.d (S r), .d (TF false)], false⟩) Sz9 (by rfl) hb (by intro h; cases h) (by rfl) (by rfl) (Nat.le_of_ble_eq_true rfl) (by simp [AV.one, DV.one, TF, S, I, BY]) (by rfl) (by rfl) rfl) rfl (by dsimp only [zS, zN, zH, zT]) ?_
    refine al_end rfl ?_
    refine then_normal ?_
    refine aw_seq ?_
    refine aw_region ?_
    refine zst (op_move_tmp (by rfl)) rfl (by dsimp only [zS, zN, zH, zT]) ?_
    refine zst (op_assign_tmp (by rfl)) rfl (by dsimp only [zS, zN, zH, zT]) ?_
    refine al_end rfl ?_
    refine then_normal ?_
    refine aw_ret ?_
    refine retPost1 rfl rfl ?_
    have e : rFlag (c :: r, false) = (((c.toNat : Int) == 1), (r, false)) := by simp only [rFlag, Bool.false_eq_true, if_false, show ¬ 1 < c.toNat by omega]; rw [flag_eq]
    rw [e]; exact ⟨rfl, rfl⟩
set_option maxRecDepth 100000 in
theorem left_ok (Hs : HS) (id : Nat) (s : List UInt8) (bad : Bool) (hb : Hs.blks[id]? = some (RB 179 (s, bad))) : ACalls Try.prog 90 [.ptr id 0] Hs (Ret (.d (I s.length)) Hs) := by
 have hb : Hs.blks[id]? = some ⟨179, [.d (S s), .d (TF bad)], false⟩ := hb
 refine acalls_of_aw Try.func90 rfl ?_
 refine aw_start (T' := [.ptr id 0, .un, .un, .un, .un, .un, .un, .un, .un, .un]) rfl ?_
 refine aw_seq ?_
 refine aw_region ?_
 refine zst (op_assign_const (by rfl)) rfl (by dsimp only [zS, zN, zH, zT]) ?_
 refine al_end rfl ?_
 refine then_normal ?_
 refine aw_seq ?_
 refine aw_seq ?_
 refine aw_region ?_
 refine zst (op_move_tmp (by rfl)) rfl (by dsimp only [zS, zN, zH, zT]) ?_
 refine zst (op_ptr_nil Try.underlying124 (by rfl) (by rfl)) rfl (by dsimp only [zS, zN, zH, zT]) ?_
 refine al_end rfl ?_
 refine then_normal ?_
 refine aw_cond rfl (fun hc1 => ?_) (fun hc1 => ?_)
 ·
  (try simp only [y1, y2, y3, y4, y5, y6, y7, y8, y9, y0, List.length_map] at hc1)
  exact absurd hc1 (by decide)
 ·
  (try simp only [y1, y2, y3, y4, y5, y6, y7, y8, y9, y0, List.length_map] at hc1)
  refine aw_skip ?_
  refine then_normal ?_
  refine aw_seq ?_
  refine aw_region ?_
  refine zst (op_move_tmp (by rfl)) rfl (by dsimp only [zS, zN, zH, zT]) ?_
  refine zst (by first | exact op_nilCheck_ptr (by rfl) | exact op_nilCheck_elt (by rfl)) rfl (by dsimp only [zS, zN, zH, zT]) ?_
  refine zst (by first | exact op_fieldAddr_ptr Try.underlying179 rfl Sz9 (by rfl) (by rfl) | exact op_fieldAddr_elt Try.underlying179 rfl Sz9 (by rfl) (by rfl) (by rfl)) rfl (by dsimp only [zS, zN, zH, zT]) ?_
  refine zst (by first | exact op_load_elt Try.underlying9 (by rfl) (by rfl) (by rfl) | exact op_load_ptr Try.underlying9 (by rfl) (by rfl) hb (by rfl)) rfl (by dsimp only [zS, zN, zH, zT]) ?_
  refine zst (op_lenS Try.underlying9 (by rfl)) rfl (by dsimp only [zS, zN, zH, zT]) ?_
  refine zst (op_assign_tmp (by rfl)) rfl (by dsimp only [zS, zN, zH, zT]) ?_
  refine al_end rfl ?_
  refine then_normal ?_
  refine aw_ret ?_
  refine retPost1 rfl rfl ?_
  exact ⟨rfl, rfl⟩
set_option maxRecDepth 100000 in
theorem err_ok (Hs : HS) (id : Nat) (s : List UInt8) (bad : Bool) (hb : Hs.blks[id]? = some (RB 179 (s, bad))) : ACalls Try.prog 91 [.ptr id 0] Hs (Ret (.d (I (rErr (s, bad)))) Hs) := by
 have hb : Hs.blks[id]? = some ⟨179, [.d (S s), .d (TF bad)], false⟩ := hb
 refine acalls_of_aw Try.func91 rfl ?_
 refine aw_start (T' := [.ptr id 0, .un, .un, .un, .un, .un, .un, .un, .un, .un, .un]) rfl ?_
 refine aw_seq ?_
 refine aw_region ?_
 refine zst (op_assign_const (by rfl)) rfl (by dsimp only [zS, zN, zH, zT]) ?_
 refine al_end rfl ?_
 refine then_normal ?_
 refine aw_seq ?_
 refine aw_seq ?_
 refine aw_region ?_
 refine zst (op_move_tmp (by rfl)) rfl (by dsimp only [zS, zN, zH, zT]) ?_
 refine zst (op_ptr_nil Try.underlying124 (by rfl) (by rfl)) rfl (by dsimp only [zS, zN, zH, zT]) ?_
 refine zst (op_move_tmp (by rfl)) rfl (by dsimp only [zS, zN, zH, zT]) ?_
 refine zsw rfl rfl rfl (op_move_tmp (by rfl)) (by dsimp only [zS, zN, zH, zT]) ?_
 refine zsw rfl rfl rfl (by first | exact op_nilCheck_ptr (by rfl) | exact op_nilCheck_elt (by rfl)) (by dsimp only [zS, zN, zH, zT]) ?_
 refine zsw rfl rfl rfl (by first | exact op_fieldAddr_ptr Try.underlying179 rfl Sz4 (by rfl) (by rfl) | exact op_fieldAddr_elt Try.underlying179 rfl Sz4 (by rfl) (by rfl) (by rfl)) (by dsimp only [zS, zN, zH, zT]) ?_
 refine zsw rfl rfl rfl (by first | exact op_load_elt Try.underlying4 (by rfl) (by rfl) (by rfl) | exact op_load_ptr Try.underlying4 (by rfl) (by rfl) hb (by rfl)) (by dsimp only [zS, zN, zH, zT]) ?_
 refine zst (op_pick_ff (by rfl) (val_tmp (by rfl))) rfl (by dsimp only [zS, zN, zH, zT]) ?_
 refine al_end rfl ?_
 refine then_normal ?_
 refine aw_cond rfl (fun hc1 => ?_) (fun hc1 => ?_)
 ·
  (try simp only [y1, y2, y3, y4, y5, y6, y7, y8, y9, y0, List.length_map] at hc1)
  have hbad : bad = true := hc1
  subst hbad
  refine aw_seq ?_
  refine aw_region ?_
  refine zst (op_assign_const (by rfl)) rfl (by dsimp only [zS, zN, zH, zT]) ?_
  refine al_end rfl ?_
  refine then_normal ?_
  refine aw_ret ?_
  refine then_ret ?_
  refine retPost1 rfl rfl ?_
  exact ⟨rfl, rfl⟩
 ·
  (try simp only [y1, y2, y3, y4, y5, y6, y7, y8, y9, y0, List.length_map] at hc1)
  have hbad : bad = false := hc1
  subst hbad
  refine aw_skip ?_
  refine then_normal ?_
  refine aw_seq ?_
  refine aw_region ?_
  refine zst (op_assign_const (by rfl)) rfl (by dsimp only [zS, zN, zH, zT]) ?_
  refine al_end rfl ?_
  refine then_normal ?_
  refine aw_ret ?_
  refine retPost1 rfl rfl ?_
  exact ⟨rfl, rfl⟩
set_option maxRecDepth 100000 in
theorem end_ok (Hs : HS) (id : Nat) (s : List UInt8) (bad : Bool) (hb : Hs.blks[id]? = some (RB 179 (s, bad))) : ACalls Try.prog 59 [.ptr id 0] Hs (Ret (.d (I (rEnd (s, bad)))) Hs) := by
 refine acalls_of_aw Try.func59 rfl ?_
 refine aw_start (T' := [.ptr id 0, .un, .un, .un, .un, .un, .un, .un]) rfl ?_
 refine aw_seq ?_
 refine aw_region ?_
 refine zst (op_assign_const (by rfl)) rfl (by dsimp only [zS, zN, zH, zT]) ?_
 refine al_end rfl ?_
 refine then_normal ?_
 refine aw_seq ?_
 refine aw_seq ?_
 refine aw_region ?_
 refine zst (op_move_tmp (by rfl)) rfl (by dsimp only [zS, zN, zH, zT]) ?_
 refine zst (op_callF Try.func90 (by rfl) (by rfl) (.tmp (by rfl) .nil) (left_ok _ id s bad hb)) rfl (by dsimp only [zS, zN, zH, zT]) ?_
 refine zst (op_gtI (by rfl) (by rfl)) rfl (by dsimp only [zS, zN, zH, zT]) ?_
 refine al_end rfl ?_
 refine then_normal ?_
 refine aw_cond rfl (fun hc1 => ?_) (fun hc1 => ?_)
 ·
  (try simp only [y1, y2, y3, y4, y5, y6, y7, y8, y9, y0, List.length_map] at hc1)
  have hl : 0 < s.length := by omega
  refine aw_seq ?_
  refine aw_region ?_
  refine zst (op_assign_const (by rfl)) rfl (by dsimp only [zS, zN, zH, zT]) ?_
  refine al_end rfl ?_
  refine then_normal ?_
  refine aw_ret ?_
  refine then_ret ?_
  refine retPost1 rfl rfl ?_
  simp only [rEnd, hl, if_true]; exact ⟨rfl, rfl⟩
 ·
  (try simp only [y1, y2, y3, y4, y5, y6, y7, y8, y9, y0, List.length_map] at hc1)
  have hl : ¬ 0 < s.length := by omega
  refine aw_skip ?_
  refine then_normal ?_
  refine aw_seq ?_
  refine aw_region ?_
  refine zst (op_move_tmp (by rfl)) rfl (by dsimp only [zS, zN, zH, zT]) ?_
  refine zst (op_callF Try.func91 (by rfl) (by rfl) (.tmp (by rfl) .nil) (err_ok _ id s bad hb)) rfl (by dsimp only [zS, zN, zH, zT]) ?_
  refine zst (op_assign_tmp (by rfl)) rfl (by dsimp only [zS, zN, zH, zT]) ?_
  refine al_end rfl ?_
  refine then_normal ?_
  refine aw_ret ?_
  refine retPost1 rfl rfl ?_
  simp only [rEnd, hl, if_false]; exact ⟨rfl, rfl⟩
set_option maxRecDepth 100000 in
theorem read_ok (Hs : HS) (s : List UInt8) : ACalls Try.prog 56 [.d (S s)] Hs (Ret (.ptr Hs.nb 0) (Hs.push 179 [.d (S s), .d (TF false)])) := by
 refine acalls_of_aw Try.func56 rfl ?_
 refine aw_start (T' := [.d (S s), .un, .un, .un, .un, .un]) rfl ?_
 refine aw_seq ?_
 refine aw_region ?_
 refine zst (op_assign_const (by rfl)) rfl (by dsimp only [zS, zN, zH, zT]) ?_
 refine al_end rfl ?_
 refine then_normal ?_
 refine aw_seq ?_
 refine aw_region ?_
 refine zst (op_move_tmp (by rfl)) rfl (by dsimp only [zS, zN, zH, zT]) ?_
 refine zst (by first | exact op_buildD (pl := [(0, 1), (1, 1)]) _ Try.underlying179 Zr179 (by kernel_rfl) (by rfl) (by rfl) (by rfl) (by simp [DV.one, S, I, TF, BY]) | exact op_build (pl := [(0, 1), (1, 1)]) Try.underlying179 Zr179 (by kernel_rfl) (by rfl) (by rfl) (by rfl)) rfl (by dsimp only [zS, zN, zH, zT]) ?_
 refine zst (op_box_ptr (by intro h; cases h) (by rfl)) rfl (by dsimp only [zS, zN, zH, zT]) ?_
 refine zst (op_assign_tmp (by rfl)) rfl (by dsimp only [zS, zN, zH, zT]) ?_
 refine al_end rfl ?_
 refine then_normal ?_
 refine aw_ret ?_
 refine retPost1 rfl rfl ?_
 exact ⟨rfl, rfl⟩
end Go.Proofs.Ytjbpfnoibeogbaa
namespace Go.Proofs.Ytjbpfnoibeogbaa
open Go.AV Go.AV.Ord Go.AV.Oct
set_option linter.unusedVariables false
set_option linter.unusedSimpArgs false
set_option maxRecDepth 100000 in
theorem onum_ok (Hs : HS) (t : Option Nat) (v : AV) (bs : List UInt8) (q : Int) (hv : App v t 1 (bs.map BY)) (hok : Hs.ok t bs.length) (hn : q ≤ 9223372036854775807) (hb : bs.length + 9 ≤ 140737488355328) : ACalls Try.prog 54 [v, .d (I q)] Hs (Ret (ownB Hs t (bs ++ numB q.toNat)) (upB Hs t (bs ++ numB q.toNat))) := by
 have hz8 := szN_8 hn
 have hzl := numB_len q.toNat
 obtain ⟨x, hx⟩ : ∃ x, q.toNat = x := ⟨_, rfl⟩
 rw [hx] at hz8 hzl ⊢
 refine acalls_of_aw Try.func54 rfl ?_
 refine aw_start (T' := [v, .d (I q), .un, .un, .un, .un, .un, .un, .un, .un, .un, .un, .un, .un, .un, .un, .un, .un, .un, .un, .un, .un, .un, .un, .un, .un, .un, .un, .un, .un, .un, .un, .un, .un, .un, .un, .un, .un, .un, .un, .un]) rfl ?_
 refine aw_seq ?_
 refine aw_region ?_
 refine zst (op_assign_const (by rfl)) rfl (by dsimp only [zS, zN, zH, zT]) ?_
 refine al_end rfl ?_
 refine then_normal ?_
 refine aw_seq ?_
 refine aw_region ?_
 refine zst (op_move_tmp (by rfl)) rfl (by dsimp only [zS, zN, zH, zT]) ?_
 refine zst (op_max (by rfl) (by rfl)) rfl (by dsimp only [zS, zN, zH, zT]) ?_
 refine zst (op_convI (by rw [Try.underlying3]; rfl) Try.underlying177 (by rfl) (show _ = (x : Int) by rw [wrap_u64 (by split <;> omega)]; split <;> omega)) rfl (by dsimp only [zS, zN, zH, zT]) ?_
 refine zst (op_assign_tmp (by rfl)) rfl (by dsimp only [zS, zN, zH, zT]) ?_
 refine al_end rfl ?_
 refine then_normal ?_
 refine aw_seq ?_
 refine aw_region ?_
 refine zst (op_assign_const (by rfl)) rfl (by dsimp only [zS, zN, zH, zT]) ?_
 refine al_end rfl ?_
 refine then_normal ?_
 refine aw_seq ?_
 refine aw_seq ?_
 refine aw_region ?_
 refine zst (op_move_tmp (by rfl)) rfl (by dsimp only [zS, zN, zH, zT]) ?_
 refine zst (op_assign_tmp (by rfl)) rfl (by dsimp only [zS, zN, zH, zT]) ?_
 refine al_end rfl ?_
 refine then_normal ?_
 refine aw_block ?_
 apply aw_loopF (fun n T H => ∃ (y : Nat), T = [v, .un, .un, .un, .un, .d (.v (.int .u64 x)), .d (I (szN x - szN y : Nat)), .d (.v (.int .u64 y)), .un, .un, .un, .un, .un, .un, .un, .un, .un, .un, .un, .un, .un, .un, .un, .un, .un, .un, .un, .un, .un, .un, .un, .un, .un, .un, .un, .un, .un, .un, .un, .un, .un] ∧ szN y ≤ szN x ∧ y ≤ x ∧ n = y ∧ Hs = H) (x) [true, false, false, false, false, true, true, true, false, false, false, false, false, false, false, false, false, false, false, false, false, false, false, false, false, false, false, false, false, false, false, false, false, false, false, false, false, false, false, false, false]
 · (try dsimp only [maskT]); try exact rfl
 · rfl
 · exact ⟨x, by rw [Nat.sub_self]; rfl, Nat.le_refl _, Nat.le_refl _, rfl, rfl⟩
 rintro n T H ⟨y, rfl, hy, hyn, hm, rfl⟩
 refine aw_seq ?_
 refine aw_seq ?_
 refine aw_region ?_
 refine zst (op_move_tmp (by rfl)) rfl (by dsimp only [zS, zN, zH, zT]) ?_
 refine zst (op_gtI (by rfl) (by rfl)) rfl (by dsimp only [zS, zN, zH, zT]) ?_
 refine al_end rfl ?_
 refine then_normal ?_
 refine aw_cond rfl (fun hc1 => ?_) (fun hc1 => ?_)
 ·
  (try simp only [y1, y2, y3, y4, y5, y6, y7, y8, y9, y0, List.length_map] at hc1)
  have hy0 : y ≠ 0 := by omega
  have hsy := szN_pos hy0
  refine aw_skip ?_
  refine then_normal ?_
  refine aw_seq ?_
  refine aw_block ?_
  refine aw_region ?_
  refine zst (op_move_tmp (by rfl)) rfl (by dsimp only [zS, zN, zH, zT]) ?_
  refine zst (by first | exact op_add (by rfl) (by rfl) (wrap_i64 ⟨by omega, by omega⟩) | exact op_add (by rfl) (by rfl) (by rfl)) rfl (by dsimp only [zS, zN, zH, zT]) ?_
  refine zst (op_assign_tmp (by rfl)) rfl (by dsimp only [zS, zN, zH, zT]) ?_
  refine al_end rfl ?_
  refine inBlock_normal (then_normal ?_)
  refine aw_region ?_
  refine zst (op_move_tmp (by rfl)) rfl (by dsimp only [zS, zN, zH, zT]) ?_
  refine zst (op_shr (by rfl) (by rfl) (by omega) (shr8 _)) rfl (by dsimp only [zS, zN, zH, zT]) ?_
  refine zst (op_assign_tmp (by rfl)) rfl (by dsimp only [zS, zN, zH, zT]) ?_
  refine al_end rfl ?_
  apply again_to (y / 256) [true, false, false, false, false, true, true, true, false, false, false, false, false, false, false, false, false, false, false, false, false, false, false, false, false, false, false, false, false, false, false, false, false, false, false, false, false, false, false, false, false]
  · (try dsimp only [maskT]); try exact rfl
  · rfl
  · omega
  exact ⟨y / 256, by rw [show szN x - szN (y / 256) = szN x - szN y + 1 by omega]; rfl, by omega, by omega, rfl, rfl⟩
 ·
  (try simp only [y1, y2, y3, y4, y5, y6, y7, y8, y9, y0, List.length_map] at hc1)
  have hy0 : y = 0 := by omega
  subst hy0
  rw [szN_zero, Nat.sub_zero]
  refine aw_exit ?_
  refine then_exit (again_exit (inBlock_here (then_normal ?_)))
  refine aw_seq ?_
  refine aw_region ?_
  refine zst (op_move_tmp (by rfl)) rfl (by dsimp only [zS, zN, zH, zT]) ?_
  refine zst (op_move_tmp (by rfl)) rfl (by dsimp only [zS, zN, zH, zT]) ?_
  refine zst (op_convI (by rw [Try.underlying3]; rfl) Try.underlying5 (by rfl) (conv_byte _)) rfl (by dsimp only [zS, zN, zH, zT]) ?_
  refine zst (op_lit Try.underlying49 ZS5 (.cons (by rfl) (.nil _)) (by rfl) (by simp [BY, S, I, TF, DV.cells]) (by simp [flat, BY, S, I, TF, DV.cells, DV.one]) (by decide)) rfl (by dsimp only [zS, zN, zH, zT]) ?_
  refine zst (op_append Try.underlying49 Inf5 (by rfl) hv (.list _ _ _ _ Try.underlying49 (LL.own _ _ _)) (by simpa using hok) (by simp) (by simp <;> omega) (by simp <;> omega)) rfl (by dsimp only [zS, zN, zH, zT]) ?_
  refine zst (op_assign_tmp (by rfl)) rfl (by dsimp only [zS, zN, zH, zT]) ?_
  refine al_end rfl ?_
  refine then_normal ?_
  refine aw_seq ?_
  refine aw_seq ?_
  refine aw_region ?_
  refine zst (op_move_tmp (by rfl)) rfl (by dsimp only [zS, zN, zH, zT]) ?_
  refine zst (op_move_const (by rfl)) rfl (by dsimp only [zS, zN, zH, zT]) ?_
  refine al_end rfl ?_
  refine then_normal ?_
  refine aw_block ?_
  apply aw_loopF (fun n T H => ∃ (k : Nat) (v' : AV), T = [v', .un, .un, .un, .un, .d (.v (.int .u64 x)), .d (I (szN x)), .un, .un, .un, .un, .un, .un, .un, .un, .un, .un, .un, .un, .un, .un, .un, .un, .un, .d (I (szN x)), .d (I k), .un, .un, .un, .un, .un, .un, .un, .un, .un, .un, .un, .un, .un, .un, .un] ∧ k ≤ szN x ∧ n = szN x - k ∧ Grew Hs t v bs v' H ((numB x).take (k + 1))) (szN x) [true, false, false, false, false, true, true, false, false, false, false, false, false, false, false, false, false, false, false, false, false, false, false, false, true, true, false, false, false, false, false, false, false, false, false, false, false, false, false, false, false]
  · (try dsimp only [maskT]); try exact rfl
  · rfl
  · exact ⟨0, _, rfl, by omega, rfl, Grew.mk (Heir.refl Hs t) (by rw [show (numB x).take (0 + 1) = [UInt8.ofNat (szN x)] from numB_take x, numB_mod hz8]; simp [BY]) (by rw [show (numB x).take (0 + 1) = [UInt8.ofNat (szN x)] from numB_take x]; simp)⟩
  rintro n T H ⟨k, v', rfl, hk, hm, hG⟩
  obtain ⟨t', hApp, hHeir, hOk⟩ := hG.use hv hok
  have hT : ((numB x).take (k + 1)).length = k + 1 := by simp; omega
  refine aw_seq ?_
  refine aw_region ?_
  refine zst (op_ltI (by rfl) (by rfl)) rfl (by dsimp only [zS, zN, zH, zT]) ?_
  refine al_end rfl ?_
  refine then_normal ?_
  refine aw_seq ?_
  refine aw_cond rfl (fun hc2 => ?_) (fun hc2 => ?_)
  ·
   (try simp only [y1, y2, y3, y4, y5, y6, y7, y8, y9, y0, List.length_map] at hc2)
   have hlt : k < szN x := by omega
   refine aw_skip ?_
   refine then_normal ?_
   refine aw_seq ?_
   refine aw_block ?_
   refine aw_seq ?_
   refine aw_region ?_
   refine zst (op_move_tmp (by rfl)) rfl (by dsimp only [zS, zN, zH, zT]) ?_
   refine zst (op_assign_tmp (by rfl)) rfl (by dsimp only [zS, zN, zH, zT]) ?_
   refine al_end rfl ?_
   refine then_normal ?_
   refine aw_region ?_
   refine zst (op_move_tmp (by rfl)) rfl (by dsimp only [zS, zN, zH, zT]) ?_
   refine zst (op_move_tmp (by rfl)) rfl (by dsimp only [zS, zN, zH, zT]) ?_
   refine zst (op_move_tmp (by rfl)) rfl (by dsimp only [zS, zN, zH, zT]) ?_
   refine zst (by first | exact op_sub (by rfl) (by rfl) (wrap_i64 ⟨by omega, by omega⟩) | exact op_sub (by rfl) (by rfl) (by rfl)) rfl (by dsimp only [zS, zN, zH, zT]) ?_
   refine zst (op_move_tmp (by rfl)) rfl (by dsimp only [zS, zN, zH, zT]) ?_
   refine zst (by first | exact op_sub (by rfl) (by rfl) (wrap_i64 ⟨by omega, by omega⟩) | exact op_sub (by rfl) (by rfl) (by rfl)) rfl (by dsimp only [zS, zN, zH, zT]) ?_
   refine zst (by first | exact op_mul (by rfl) (by rfl) (wrap_i64 ⟨by omega, by omega⟩) | exact op_mul (by rfl) (by rfl) (by rfl)) rfl (by dsimp only [zS, zN, zH, zT]) ?_
   refine zst (op_shr (by rfl) (by rfl) (by omega) (shr_at _ hlt hz8)) rfl (by dsimp only [zS, zN, zH, zT]) ?_
   refine zst (op_convI (by rw [Try.underlying177]; rfl) Try.underlying5 (by rfl) (conv_byte _)) rfl (by dsimp only [zS, zN, zH, zT]) ?_
   refine zst (op_lit Try.underlying49 ZS5 (.cons (by rfl) (.nil _)) (by rfl) (by simp [BY, S, I, TF, DV.cells]) (by simp [flat, BY, S, I, TF, DV.cells, DV.one]) (by decide)) rfl (by dsimp only [zS, zN, zH, zT]) ?_
   refine zst (op_append Try.underlying49 Inf5 (by rfl) hApp (.list _ _ _ _ Try.underlying49 (LL.own _ _ _)) (by simpa using hOk) (by simp) (by simp <;> omega) (by simp <;> omega)) rfl (by dsimp only [zS, zN, zH, zT]) ?_
   refine zst (op_assign_tmp (by rfl)) rfl (by dsimp only [zS, zN, zH, zT]) ?_
   refine al_end rfl ?_
   refine inBlock_normal (then_normal ?_)
   refine aw_region ?_
   refine zst (by first | exact op_add (by rfl) (by rfl) (wrap_i64 ⟨by omega, by omega⟩) | exact op_add (by rfl) (by rfl) (by rfl)) rfl (by dsimp only [zS, zN, zH, zT]) ?_
   refine zst (op_move_tmp (by rfl)) rfl (by dsimp only [zS, zN, zH, zT]) ?_
   refine al_end rfl ?_
   apply again_to (szN x - (k + 1)) [true, false, false, false, false, true, true, false, false, false, false, false, false, false, false, false, false, false, false, false, false, false, false, false, true, true, false, false, false, false, false, false, false, false, false, false, false, false, false, false, false]
   · (try dsimp only [maskT]); try exact rfl
   · rfl
   · omega
   exact ⟨k + 1, _, rfl, by omega, rfl, Grew.mk hHeir (by rw [take_snoc (numB_get hlt)]; simp [BY]) (by rw [take_snoc (numB_get hlt)]; simp <;> omega)⟩
  ·
   (try simp only [y1, y2, y3, y4, y5, y6, y7, y8, y9, y0, List.length_map] at hc2)
   have hke : k = szN x := by omega
   subst hke
   rw [List.take_of_length_le (by omega)] at hG
   refine aw_exit ?_
   refine then_exit (again_exit (inBlock_here (then_normal ?_)))
   refine aw_seq ?_
   refine aw_region ?_
   refine zst (op_move_tmp (by rfl)) rfl (by dsimp only [zS, zN, zH, zT]) ?_
   refine zst (op_assign_tmp (by rfl)) rfl (by dsimp only [zS, zN, zH, zT]) ?_
   refine al_end rfl ?_
   refine then_normal ?_
   refine aw_ret ?_
   refine retPost1 rfl rfl ?_
   exact hG.ret (by intro e; rw [e] at hzl; cases hzl)
set_option maxRecDepth 100000 in
theorem otext_ok (Hs : HS) (t : Option Nat) (v : AV) (bs : List UInt8) (s : List UInt8) (hv : App v t 1 (bs.map BY)) (hok : Hs.ok t bs.length) (hb : bs.length + s.length + 9 ≤ 140737488355328) : ACalls Try.prog 55 [v, .d (S s)] Hs (Ret (ownB Hs t (bs ++ textB s)) (upB Hs t (bs ++ textB s))) := by
 have hz8 := szN_8 (n := s.length) (by omega)
 have hzl := numB_len s.length
 rw [show ((s.length : Nat) : Int).toNat = s.length from rfl] at hz8
 have hnum := onum_ok Hs t v bs s.length hv hok (by omega) (by omega)
 rw [show ((s.length : Nat) : Int).toNat = s.length from rfl] at hnum
 rw [show bs ++ textB s = (bs ++ numB s.length) ++ s by simp [textB]]
 refine acalls_of_aw Try.func55 rfl ?_
 refine aw_start (T' := [v, .d (S s), .un, .un, .un, .un, .un, .un, .un, .un, .un]) rfl ?_
 refine aw_seq ?_
 refine aw_region ?_
 refine zst (op_assign_const (by rfl)) rfl (by dsimp only [zS, zN, zH, zT]) ?_
 refine al_end rfl ?_
 refine then_normal ?_
 refine aw_seq ?_
 refine aw_region ?_
 refine zst (op_move_tmp (by rfl)) rfl (by dsimp only [zS, zN, zH, zT]) ?_
 refine zst (op_move_tmp (by rfl)) rfl (by dsimp only [zS, zN, zH, zT]) ?_
 refine zst (op_lenS Try.underlying9 (by rfl)) rfl (by dsimp only [zS, zN, zH, zT]) ?_
 refine zst (op_callF Try.func54 (by rfl) (by rfl) (.tmp (by rfl) (.tmp (by rfl) .nil)) (hnum)) rfl (by dsimp only [zS, zN, zH, zT]) ?_
 refine zst (op_move_tmp (by rfl)) rfl (by dsimp only [zS, zN, zH, zT]) ?_
 refine zst (op_appendO Try.underlying49 Inf5 (by rfl) (by rfl) (.str s Try.underlying9) rfl hok (by simp; omega)) rfl (by dsimp only [zS, zN, zH, zT]) ?_
 refine zst (op_assign_tmp (by rfl)) rfl (by dsimp only [zS, zN, zH, zT]) ?_
 refine al_end rfl ?_
 refine then_normal ?_
 refine aw_ret ?_
 refine retPost1 rfl rfl ?_
 exact ⟨rfl, rfl⟩
set_option maxRecDepth 100000 in
theorem oflag_ok (Hs : HS) (t : Option Nat) (v : AV) (bs : List UInt8) (b : Bool) (hv : App v t 1 (bs.map BY)) (hok : Hs.ok t bs.length) (hb : bs.length + 1 ≤ 140737488355328) : ACalls Try.prog 70 [v, .d (TF b)] Hs (Ret (ownB Hs t (bs ++ flagB b)) (upB Hs t (bs ++ flagB b))) := by
 refine acalls_of_aw Try.func70 rfl ?_
 refine aw_start (T' := [v, .d (TF b), .un, .un, .un, .un, .un, .un, .un, .un, .un, .un]) rfl ?_
 refine aw_seq ?_
 refine aw_region ?_
 refine zst (op_assign_const (by rfl)) rfl (by dsimp only [zS, zN, zH, zT]) ?_
 refine al_end rfl ?_
 refine then_normal ?_
 refine aw_seq ?_
 refine aw_seq ?_
 refine aw_region ?_
 refine zst (op_move_tmp (by rfl)) rfl (by dsimp only [zS, zN, zH, zT]) ?_
 refine al_end rfl ?_
 refine then_normal ?_
 refine aw_cond rfl (fun hc1 => ?_) (fun hc1 => ?_)
 ·
  (try simp only [y1, y2, y3, y4, y5, y6, y7, y8, y9, y0, List.length_map] at hc1)
  have hb1 : b = true := hc1
  subst hb1
  refine aw_seq ?_
  refine aw_region ?_
  refine zst (op_move_tmp (by rfl)) rfl (by dsimp only [zS, zN, zH, zT]) ?_
  refine zst (op_lit Try.underlying49 ZS5 (.cons (by rfl) (.nil _)) (by rfl) (by simp [BY, S, I, TF, DV.cells]) (by simp [flat, BY, S, I, TF, DV.cells, DV.one]) (by decide)) rfl (by dsimp only [zS, zN, zH, zT]) ?_
  refine zst (op_append Try.underlying49 Inf5 (by rfl) hv (.list _ _ _ _ Try.underlying49 (LL.own _ _ _)) (by simpa using hok) (by simp) (by simp <;> omega) (by simp <;> omega)) rfl (by dsimp only [zS, zN, zH, zT]) ?_
  refine zst (op_assign_tmp (by rfl)) rfl (by dsimp only [zS, zN, zH, zT]) ?_
  refine al_end rfl ?_
  refine then_normal ?_
  refine aw_ret ?_
  refine then_ret ?_
  refine retPost1 rfl rfl ?_
  exact ⟨by simp [ownB, flagB, BY], by simp [upB, flagB]⟩
 ·
  (try simp only [y1, y2, y3, y4, y5, y6, y7, y8, y9, y0, List.length_map] at hc1)
  have hb1 : b = false := hc1
  subst hb1
  refine aw_skip ?_
  refine then_normal ?_
  refine aw_seq ?_
  refine aw_region ?_
  refine zst (op_move_tmp (by rfl)) rfl (by dsimp only [zS, zN, zH, zT]) ?_
  refine zst (op_lit Try.underlying49 ZS5 (.cons (by rfl) (.nil _)) (by rfl) (by simp [BY, S, I, TF, DV.cells]) (by simp [flat, BY, S, I, TF, DV.cells, DV.one]) (by decide)) rfl (by dsimp only [zS, zN, zH, zT]) ?_
  refine zst (op_append Try.underlying49 Inf5 (by rfl) hv (.list _ _ _ _ Try.underlying49 (LL.own _ _ _)) (by simpa using hok) (by simp) (by simp <;> omega) (by simp <;> omega)) rfl (by dsimp only [zS, zN, zH, zT]) ?_
  refine zst (op_assign_tmp (by rfl)) rfl (by dsimp only [zS, zN, zH, zT]) ?_
  refine al_end rfl ?_
  refine then_normal ?_
  refine aw_ret ?_
  refine retPost1 rfl rfl ?_
  exact ⟨by simp [ownB, flagB, BY], by simp [upB, flagB]⟩
end Go.Proofs.Ytjbpfnoibeogbaa
namespace Go.Proofs.Ytjbpfnoibeogbaa
open Go.AV Go.AV.Ord
set_option linter.unusedVariables false
set_option linter.unusedSimpArgs false
set_option maxRecDepth 100000 in
theorem text_ok (Hs : HS) (t : Option Nat) (v : AV) (bs s : List UInt8) (hv : App v t 1 (bs.map BY)) (hok : Hs.ok t bs.length) (hb : bs.length + 2 * s.length + 2 ≤ 140737488355328) : ACalls Try.prog 82 [v, .d (S s)] Hs (Ret (ownB Hs t (bs ++ encT s)) (upB Hs t (bs ++ encT s))) := by
 refine acalls_of_aw Try.func82 rfl ?_
 refine aw_start (T' := [v, .d (S s), .un, .un, .un, .un, .un, .un, .un, .un, .un, .un, .un, .un, .un, .un, .un, .un, .un, .un, .un, .un, .un, .un, .un, .un, .un]) rfl ?_
 refine aw_seq ?_
 refine aw_region ?_
 refine zst (op_assign_const (by rfl)) rfl (by dsimp only [zS, zN, zH, zT]) ?_
 refine al_end rfl ?_
 refine then_normal ?_
 refine aw_seq ?_
 refine aw_seq ?_
 refine aw_region ?_
 refine zst (op_move_tmp (by rfl)) rfl (by dsimp only [zS, zN, zH, zT]) ?_
 refine zst (op_bytes Try.underlying9 Try.underlying49 Try.underlying5 (by rfl)) rfl (by dsimp only [zS, zN, zH, zT]) ?_
 refine zst (op_lenL Try.underlying49 (by first | exact LL.d _ _ | exact LL.own _ _ _ | exact LL.nil _ | assumption)) rfl (by dsimp only [zS, zN, zH, zT]) ?_
 refine zst (op_move_const (by rfl)) rfl (by dsimp only [zS, zN, zH, zT]) ?_
 refine al_end rfl ?_
 refine then_normal ?_
 refine aw_block ?_
 apply aw_loopF (fun n T H => ∃ (k : Nat) (v' : AV), T = [v', .d (S s), .un, .un, .un, .un, .un, .un, .d (.lst 1 (s.map BY)), .d (I (s.map BY).length), .d (I k), .un, .un, .un, .un, .un, .un, .un, .un, .un, .un, .un, .un, .un, .un, .un, .un] ∧ k ≤ s.length ∧ n = s.length - k ∧ Bytes Hs t v' H (bs ++ enc0 (s.take k))) (s.length) [true, true, false, false, false, false, false, false, true, true, true, false, false, false, false, false, false, false, false, false, false, false, false, false, false, false, false]
 · (try dsimp only [maskT]); try exact rfl
 · rfl
 · exact ⟨0, v, rfl, Nat.zero_le _, rfl, by simpa [enc0] using Bytes.own hv hok⟩
 rintro n T H ⟨k, v', rfl, hk, rfl, hB⟩
 obtain ⟨t', hApp, hHeir, hOk⟩ := hB.ex
 have hE := enc0_len (s.take k)
 have hT : (s.take k).length = k := by simp; omega
 rw [hT] at hE
 refine aw_seq ?_
 refine aw_region ?_
 refine zst (op_ltI (by rfl) (by rfl)) rfl (by dsimp only [zS, zN, zH, zT]) ?_
 refine al_end rfl ?_
 refine then_normal ?_
 refine aw_seq ?_
 refine aw_cond rfl (fun hc1 => ?_) (fun hc1 => ?_)
 ·
  (try simp only [y1, y2, y3, y4, y5, y6, y7, y8, y9, y0, List.length_map] at hc1)
  (try simp only [List.length_map] at hc1)
  have hlt : k < s.length := by omega
  obtain ⟨c, hcc⟩ : ∃ c, s[k]? = some c := ⟨_, List.getElem?_eq_getElem hlt⟩
  refine aw_skip ?_
  refine then_normal ?_
  refine aw_seq ?_
  refine aw_block ?_
  refine aw_seq ?_
  refine aw_region ?_
  refine zst (op_indexAddr Try.underlying49 Sz5 (LL.d _ _) (by rfl) (by omega) (show (s.map BY)[((k : Nat) : Int).toNat]? = some (BY c) by simp [hcc]) (by rfl)) rfl (by dsimp only [zS, zN, zH, zT]) ?_
  refine zst (by first | exact op_load_elt Try.underlying5 (by rfl) (by rfl) (by rfl) | exact op_load_ptr Try.underlying5 (by rfl) (by rfl) (by rfl) (by rfl)) rfl (by dsimp only [zS, zN, zH, zT]) ?_
  refine zst (op_assign_tmp (by rfl)) rfl (by dsimp only [zS, zN, zH, zT]) ?_
  refine al_end rfl ?_
  refine then_normal ?_
  refine aw_seq ?_
  refine aw_region ?_
  refine zst (op_move_tmp (by rfl)) rfl (by dsimp only [zS, zN, zH, zT]) ?_
  refine zst (op_move_tmp (by rfl)) rfl (by dsimp only [zS, zN, zH, zT]) ?_
  refine zst (op_lit Try.underlying49 ZS5 (.cons (by rfl) (.nil _)) (by rfl) (by simp [BY, S, I, TF, DV.cells]) (by simp [flat, BY, S, I, TF, DV.cells, DV.one]) (by decide)) rfl (by dsimp only [zS, zN, zH, zT]) ?_
  refine zst (op_append Try.underlying49 Inf5 (by rfl) hApp (.list _ _ _ _ Try.underlying49 (LL.own _ _ _)) (by simpa using hOk) (by simp) (by simp <;> omega) (by simp <;> omega)) rfl (by dsimp only [zS, zN, zH, zT]) ?_
  refine zst (op_assign_tmp (by rfl)) rfl (by dsimp only [zS, zN, zH, zT]) ?_
  refine al_end rfl ?_
  refine then_normal ?_
  refine aw_seq ?_
  refine aw_region ?_
  refine zst (op_move_tmp (by rfl)) rfl (by dsimp only [zS, zN, zH, zT]) ?_
  refine zst (op_eqI (by rfl) (by rfl)) rfl (by dsimp only [zS, zN, zH, zT]) ?_
  refine al_end rfl ?_
  refine then_normal ?_
  refine aw_cond rfl (fun hc2 => ?_) (fun hc2 => ?_)
  ·
   (try simp only [y1, y2, y3, y4, y5, y6, y7, y8, y9, y0, List.length_map] at hc2)
   have hc0 : c = 0 := UInt8.toNat_inj.1 (by have : ((c.toNat : Nat) : Int) = 0 := hc2; simpa using this)
   refine aw_region ?_
   refine zst (op_move_tmp (by rfl)) rfl (by dsimp only [zS, zN, zH, zT]) ?_
   refine zst (op_lit Try.underlying49 ZS5 (.cons (by rfl) (.nil _)) (by rfl) (by simp [BY, S, I, TF, DV.cells]) (by simp [flat, BY, S, I, TF, DV.cells, DV.one]) (by decide)) rfl (by dsimp only [zS, zN, zH, zT]) ?_
   refine zst (op_append Try.underlying49 Inf5 (by rfl) (App.own _ _ _) (.list _ _ _ _ Try.underlying49 (LL.own _ _ _)) (HS.ok_up' hOk (by simp <;> omega)) (by simp) (by simp <;> omega) (by simp <;> omega)) rfl (by dsimp only [zS, zN, zH, zT]) ?_
   refine zst (op_assign_tmp (by rfl)) rfl (by dsimp only [zS, zN, zH, zT]) ?_
   refine al_end rfl ?_
   refine inBlock_normal (then_normal ?_)
   refine aw_region ?_
   refine zst (by first | exact op_add (by rfl) (by rfl) (wrap_i64 ⟨by omega, by omega⟩) | exact op_add (by rfl) (by rfl) (by rfl)) rfl (by dsimp only [zS, zN, zH, zT]) ?_
   refine zst (op_move_tmp (by rfl)) rfl (by dsimp only [zS, zN, zH, zT]) ?_
   refine al_end rfl ?_
   apply again_to (s.length - (k + 1)) [true, true, false, false, false, false, false, false, true, true, true, false, false, false, false, false, false, false, false, false, false, false, false, false, false, false, false]
   · (try dsimp only [maskT]); try exact rfl
   · rfl
   · omega
   exact ⟨k + 1, _, rfl, by omega, rfl, Bytes.grown' (hHeir.step _) (HS.ok_up' hOk rfl) (by subst hc0; simp [take_snoc hcc, enc0_snoc, enc1, BY]) (by simp <;> omega)⟩
  ·
   (try simp only [y1, y2, y3, y4, y5, y6, y7, y8, y9, y0, List.length_map] at hc2)
   have hc0 : c ≠ 0 := by intro e; subst e; exact absurd hc2 (by decide)
   refine aw_skip ?_
   refine inBlock_normal (then_normal ?_)
   refine aw_region ?_
   refine zst (by first | exact op_add (by rfl) (by rfl) (wrap_i64 ⟨by omega, by omega⟩) | exact op_add (by rfl) (by rfl) (by rfl)) rfl (by dsimp only [zS, zN, zH, zT]) ?_
   refine zst (op_move_tmp (by rfl)) rfl (by dsimp only [zS, zN, zH, zT]) ?_
   refine al_end rfl ?_
   apply again_to (s.length - (k + 1)) [true, true, false, false, false, false, false, false, true, true, true, false, false, false, false, false, false, false, false, false, false, false, false, false, false, false, false]
   · (try dsimp only [maskT]); try exact rfl
   · rfl
   · omega
   exact ⟨k + 1, _, rfl, by omega, rfl, Bytes.grown' hHeir hOk (by simp [take_snoc hcc, enc0_snoc, enc1, hc0]) (by simp <;> omega)⟩
 ·
  (try simp only [y1, y2, y3, y4, y5, y6, y7, y8, y9, y0, List.length_map] at hc1)
  (try simp only [List.length_map] at hc1)
  have hke : k = s.length := by omega
  subst hke
  simp only [List.take_length] at hApp hOk hE
  refine aw_exit ?_
  refine then_exit (again_exit (inBlock_here (then_normal ?_)))
  refine aw_seq ?_
  refine aw_region ?_
  refine zst (op_move_tmp (by rfl)) rfl (by dsimp only [zS, zN, zH, zT]) ?_
  refine zst (op_lit Try.underlying49 ZS5 (.cons (by rfl) (.cons (by rfl) (.nil _))) (by rfl) (by simp [BY, S, I, TF, DV.cells]) (by simp [flat, BY, S, I, TF, DV.cells, DV.one]) (by decide)) rfl (by dsimp only [zS, zN, zH, zT]) ?_
  refine zst (op_append Try.underlying49 Inf5 (by rfl) hApp (.list _ _ _ _ Try.underlying49 (LL.own _ _ _)) (by simpa using hOk) (by simp) (by simp <;> omega) (by simp <;> omega)) rfl (by dsimp only [zS, zN, zH, zT]) ?_
  refine zst (op_assign_tmp (by rfl)) rfl (by dsimp only [zS, zN, zH, zT]) ?_
  refine al_end rfl ?_
  refine then_normal ?_
  refine aw_ret ?_
  refine retPost1 rfl rfl ?_
  refine ⟨?_, ?_⟩
  · rw [hHeir.tk]; simp [ownB, encT, BY]
  · rw [hHeir.up]; simp [upB, encT, Nat.add_assoc]
set_option maxRecDepth 100000 in
theorem key_ok (Hs : HS) (v : AV) (ps : List (List UInt8)) (hv : LL v 1 (ps.map S)) (hb : 2 * (ps.map List.length).sum + 2 * ps.length ≤ 140737488355328) : ACalls Try.prog 51 [v] Hs (Ret (.d (S (keyL ps))) Hs) := by
 refine ACalls.tidy1 ?_
 refine acalls_of_aw Try.func51 rfl ?_
 refine aw_start (T' := [v, .un, .un, .un, .un, .un, .un, .un, .un, .un, .un, .un, .un, .un, .un, .un, .un, .un]) rfl ?_
 refine aw_seq ?_
 refine aw_region ?_
 refine zst (op_assign_const (by rfl)) rfl (by dsimp only [zS, zN, zH, zT]) ?_
 refine al_end rfl ?_
 refine then_normal ?_
 refine aw_seq ?_
 refine aw_region ?_
 refine zst (op_assign_const (by rfl)) rfl (by dsimp only [zS, zN, zH, zT]) ?_
 refine al_end rfl ?_
 refine then_normal ?_
 refine aw_seq ?_
 refine aw_seq ?_
 refine aw_region ?_
 refine zst (op_move_tmp (by rfl)) rfl (by dsimp only [zS, zN, zH, zT]) ?_
 refine zst (op_lenL Try.underlying52 hv) rfl (by dsimp only [zS, zN, zH, zT]) ?_
 refine zst (op_move_const (by rfl)) rfl (by dsimp only [zS, zN, zH, zT]) ?_
 refine al_end rfl ?_
 refine then_normal ?_
 refine aw_block ?_
 apply aw_loopF (fun n T H => ∃ (k : Nat) (v' : AV), T = [.un, .un, .un, v', .un, .un, v, .d (I (ps.map S).length), .d (I k), .un, .un, .un, .un, .un, .un, .un, .un, .un] ∧ k ≤ ps.length ∧ n = ps.length - k ∧ Bytes Hs none v' H (keyL (ps.take k))) (ps.length) [false, false, false, true, false, false, true, true, true, false, false, false, false, false, false, false, false, false]
 · (try dsimp only [maskT]); try exact rfl
 · rfl
 · exact ⟨0, _, rfl, Nat.zero_le _, rfl, Bytes.own (App.nil _) (HS.ok_none _ _)⟩
 rintro n T H ⟨k, v', rfl, hk, rfl, hB⟩
 obtain ⟨t', hApp, hHeir, hOk⟩ := hB.ex
 refine aw_seq ?_
 refine aw_region ?_
 refine zst (op_ltI (by rfl) (by rfl)) rfl (by dsimp only [zS, zN, zH, zT]) ?_
 refine al_end rfl ?_
 refine then_normal ?_
 refine aw_seq ?_
 refine aw_cond rfl (fun hc1 => ?_) (fun hc1 => ?_)
 ·
  (try simp only [y1, y2, y3, y4, y5, y6, y7, y8, y9, y0, List.length_map] at hc1)
  (try simp only [List.length_map] at hc1)
  have hlt : k < ps.length := by omega
  obtain ⟨p, hcc⟩ : ∃ c, ps[k]? = some c := ⟨_, List.getElem?_eq_getElem hlt⟩
  have hL := keyL_len hcc
  refine aw_skip ?_
  refine then_normal ?_
  refine aw_seq ?_
  refine aw_block ?_
  refine aw_seq ?_
  refine aw_region ?_
  refine zst (op_indexAddr Try.underlying52 Sz9 hv (by rfl) (by omega) (show (ps.map S)[((k : Nat) : Int).toNat]? = some (S p) by simp [hcc]) (by rfl)) rfl (by dsimp only [zS, zN, zH, zT]) ?_
  refine zst (by first | exact op_load_elt Try.underlying9 (by rfl) (by rfl) (by rfl) | exact op_load_ptr Try.underlying9 (by rfl) (by rfl) (by rfl) (by rfl)) rfl (by dsimp only [zS, zN, zH, zT]) ?_
  refine zst (op_assign_tmp (by rfl)) rfl (by dsimp only [zS, zN, zH, zT]) ?_
  refine al_end rfl ?_
  refine then_normal ?_
  refine aw_region ?_
  refine zst (op_move_tmp (by rfl)) rfl (by dsimp only [zS, zN, zH, zT]) ?_
  refine zst (op_move_tmp (by rfl)) rfl (by dsimp only [zS, zN, zH, zT]) ?_
  refine zst (op_callF Try.func82 (by rfl) (by rfl) (.tmp (by rfl) (.tmp (by rfl) .nil)) (text_ok _ t' _ _ p hApp hOk (by omega))) rfl (by dsimp only [zS, zN, zH, zT]) ?_
  refine zst (op_assign_tmp (by rfl)) rfl (by dsimp only [zS, zN, zH, zT]) ?_
  refine al_end rfl ?_
  refine inBlock_normal (then_normal ?_)
  refine aw_region ?_
  refine zst (by first | exact op_add (by rfl) (by rfl) (wrap_i64 ⟨by omega, by omega⟩) | exact op_add (by rfl) (by rfl) (by rfl)) rfl (by dsimp only [zS, zN, zH, zT]) ?_
  refine zst (op_move_tmp (by rfl)) rfl (by dsimp only [zS, zN, zH, zT]) ?_
  refine al_end rfl ?_
  apply again_to (ps.length - (k + 1)) [false, false, false, true, false, false, true, true, true, false, false, false, false, false, false, false, false, false]
  · (try dsimp only [maskT]); try exact rfl
  · rfl
  · omega
  exact ⟨k + 1, _, rfl, by omega, rfl, Bytes.grown' hHeir hOk (by simp [take_snoc hcc, keyL]) (by simp [keyL])⟩
 ·
  (try simp only [y1, y2, y3, y4, y5, y6, y7, y8, y9, y0, List.length_map] at hc1)
  (try simp only [List.length_map] at hc1)
  have hke : k = ps.length := by omega
  subst hke
  simp only [List.take_length] at hApp hOk
  refine aw_exit ?_
  refine then_exit (again_exit (inBlock_here (then_normal ?_)))
  refine aw_seq ?_
  refine aw_region ?_
  refine zst (op_move_tmp (by rfl)) rfl (by dsimp only [zS, zN, zH, zT]) ?_
  refine zst (op_string Try.underlying49 Try.underlying9 Try.underlying5 hApp.ll (by rfl)) rfl (by dsimp only [zS, zN, zH, zT]) ?_
  refine zst (op_assign_tmp (by rfl)) rfl (by dsimp only [zS, zN, zH, zT]) ?_
  refine al_end rfl ?_
  refine then_normal ?_
  refine aw_ret ?_
  refine retPost1 rfl rfl ?_
  exact ⟨rfl, hHeir.ext⟩
end Go.Proofs.Ytjbpfnoibeogbaa
namespace Go.Proofs.Ytjbpfnoibeogbaa
open Go.AV Go.AV.Ord
set_option linter.unusedVariables false
set_option linter.unusedSimpArgs false
set_option maxRecDepth 100000 in
theorem ckey_ok (Hs : HS) (name : List UInt8) (z : DV) (hb : name.length ≤ 1000000) : ACalls Try.prog 60 [.d (.agg [S name, z])] Hs (Ret (.d (S (keyL [[99], name]))) Hs) := by
 refine acalls_of_aw Try.func60 rfl ?_
 refine aw_start (T' := [.d (.agg [S name, z]), .un, .un, .un, .un, .un, .un]) rfl ?_
 refine aw_seq ?_
 refine aw_region ?_
 refine zst (op_box_elt (by rfl) (by rfl)) rfl (by dsimp only [zS, zN, zH, zT]) ?_
 refine zst (op_assign_const (by rfl)) rfl (by dsimp only [zS, zN, zH, zT]) ?_
 refine al_end rfl ?_
 refine then_normal ?_
 refine aw_seq ?_
 refine aw_region ?_
 refine zst (by first | exact op_fieldAddr_ptr Try.underlying77 rfl Sz9 (by rfl) (by rfl) | exact op_fieldAddr_elt Try.underlying77 rfl Sz9 (by rfl) (by rfl) (by rfl)) rfl (by dsimp only [zS, zN, zH, zT]) ?_
 refine zst (by first | exact op_load_elt Try.underlying9 (by rfl) (by rfl) (by rfl) | exact op_load_ptr Try.underlying9 (by rfl) (by rfl) (by rfl) (by rfl)) rfl (by dsimp only [zS, zN, zH, zT]) ?_
 refine zst (op_lit Try.underlying52 ZS9 (.cons (by rfl) (.cons (by rfl) (.nil _))) (by rfl) (by simp [BY, S, I, TF, DV.cells]) (by simp [flat, BY, S, I, TF, DV.cells, DV.one]) (by decide)) rfl (by dsimp only [zS, zN, zH, zT]) ?_
 refine zst (op_callF Try.func51 (by rfl) (by rfl) (.tmp (by rfl) .nil) (key_ok _ _ [[99], name] (LL.own _ _ _) (by simp; omega))) rfl (by dsimp only [zS, zN, zH, zT]) ?_
 refine zst (op_assign_tmp (by rfl)) rfl (by dsimp only [zS, zN, zH, zT]) ?_
 refine al_end rfl ?_
 refine then_normal ?_
 refine aw_ret ?_
 refine retPost1 rfl rfl ?_
 exact ⟨rfl, rfl⟩
end Go.Proofs.Ytjbpfnoibeogbaa
namespace Go.Proofs.Ytjbpfnoibeogbaa
open Go.AV Go.AV.Ord Go.AV.Oct Go.AV.Sch
set_option linter.unusedVariables false
set_option linter.unusedSimpArgs false
set_option maxRecDepth 100000 in
theorem name_ok (Hs : HS) (s : List UInt8) : ACalls Try.prog 67 [.d (S s)] Hs (Ret (.d (TF (nameB s))) Hs) := by
 refine acalls_of_aw Try.func67 rfl ?_
 refine aw_start (T' := [.d (S s), .un, .un, .un, .un, .un, .un, .un, .un, .un]) rfl ?_
 refine aw_seq ?_
 refine aw_region ?_
 refine zst (op_assign_const (by rfl)) rfl (by dsimp only [zS, zN, zH, zT]) ?_
 refine al_end rfl ?_
 refine then_normal ?_
 refine aw_seq ?_
 refine aw_region ?_
 refine zst (op_move_tmp (by rfl)) rfl (by dsimp only [zS, zN, zH, zT]) ?_
 refine zst (op_neS (by rfl) (by rfl)) rfl (by dsimp only [zS, zN, zH, zT]) ?_
 refine zst (op_move_tmp (by rfl)) rfl (by dsimp only [zS, zN, zH, zT]) ?_
 refine al_split 5 rfl (fun hg1 => ?_) (fun hg1 => ?_)
 ·
  (try simp only [y1, y2, y3, y4, y5, y6, y7, y8, y9, y0, List.length_map] at hg1)
  have h0 : ¬ s = [] := hg1
  apply al_normT
  · (try dsimp only [zS, zN, zH, zT]); try exact rfl
  refine zsw rfl rfl rfl (op_move_tmp (by rfl)) (by dsimp only [zS, zN, zH, zT]) ?_
  refine zsw rfl rfl rfl (op_lenS Try.underlying9 (by rfl)) (by dsimp only [zS, zN, zH, zT]) ?_
  refine zsw rfl rfl rfl (op_leI (by rfl) (by rfl)) (by dsimp only [zS, zN, zH, zT]) ?_
  refine zst (op_pick_tt (by rfl) (val_tmp (by rfl))) rfl (by dsimp only [zS, zN, zH, zT]) ?_
  refine zst (op_assign_tmp (by rfl)) rfl (by dsimp only [zS, zN, zH, zT]) ?_
  refine al_end rfl ?_
  refine then_normal ?_
  refine aw_ret ?_
  refine retPost1 rfl rfl ?_
  exact ⟨by (rw [nameB_ne h0]) <;> rfl, rfl⟩
 ·
  (try simp only [y1, y2, y3, y4, y5, y6, y7, y8, y9, y0, List.length_map] at hg1)
  have h0 : s = [] := hg1
  apply al_normT
  · (try dsimp only [zS, zN, zH, zT]); try exact rfl
  refine zuw rfl rfl rfl rfl (by dsimp only [zS, zN, zH, zT]) ?_
  refine zuw rfl rfl rfl rfl (by dsimp only [zS, zN, zH, zT]) ?_
  refine zuw rfl rfl rfl rfl (by dsimp only [zS, zN, zH, zT]) ?_
  refine zst (op_pick_ff (by rfl) (val_const (by rfl))) rfl (by dsimp only [zS, zN, zH, zT]) ?_
  refine zst (op_assign_tmp (by rfl)) rfl (by dsimp only [zS, zN, zH, zT]) ?_
  refine al_end rfl ?_
  refine then_normal ?_
  refine aw_ret ?_
  refine retPost1 rfl rfl ?_
  exact ⟨by subst h0; rfl, rfl⟩
set_option maxRecDepth 100000 in
theorem called_ok (Hs : HS) (x y : Ix) : ACalls Try.prog 69 [.d (ixD x), .d (ixD y)] Hs (Ret (.d (TF (x.name == y.name))) Hs) := by
 refine acalls_of_aw Try.func69 rfl ?_
 refine aw_start (T' := [.d (ixD x), .d (ixD y), .un, .un, .un, .un, .un, .un, .un, .un]) rfl ?_
 refine aw_seq ?_
 refine aw_region ?_
 refine zst (op_box_elt (by rfl) (by rfl)) rfl (by dsimp only [zS, zN, zH, zT]) ?_
 refine zst (op_box_elt (by rfl) (by rfl)) rfl (by dsimp only [zS, zN, zH, zT]) ?_
 refine zst (op_assign_const (by rfl)) rfl (by dsimp only [zS, zN, zH, zT]) ?_
 refine al_end rfl ?_
 refine then_normal ?_
 refine aw_seq ?_
 refine aw_region ?_
 refine zst (by first | exact op_fieldAddr_ptr Try.underlying88 rfl Sz9 (by rfl) (by rfl) | exact op_fieldAddr_elt Try.underlying88 rfl Sz9 (by rfl) (by rfl) (by rfl)) rfl (by dsimp only [zS, zN, zH, zT]) ?_
 refine zst (by first | exact op_load_elt Try.underlying9 (by rfl) (by rfl) (by rfl) | exact op_load_ptr Try.underlying9 (by rfl) (by rfl) (by rfl) (by rfl)) rfl (by dsimp only [zS, zN, zH, zT]) ?_
 refine zst (by first | exact op_fieldAddr_ptr Try.underlying88 rfl Sz9 (by rfl) (by rfl) | exact op_fieldAddr_elt Try.underlying88 rfl Sz9 (by rfl) (by rfl) (by rfl)) rfl (by dsimp only [zS, zN, zH, zT]) ?_
 refine zst (by first | exact op_load_elt Try.underlying9 (by rfl) (by rfl) (by rfl) | exact op_load_ptr Try.underlying9 (by rfl) (by rfl) (by rfl) (by rfl)) rfl (by dsimp only [zS, zN, zH, zT]) ?_
 refine zst (op_eqS (by rfl) (by rfl)) rfl (by dsimp only [zS, zN, zH, zT]) ?_
 refine zst (op_assign_tmp (by rfl)) rfl (by dsimp only [zS, zN, zH, zT]) ?_
 refine al_end rfl ?_
 refine then_normal ?_
 refine aw_ret ?_
 refine retPost1 rfl rfl ?_
 exact ⟨rfl, rfl⟩
set_option maxRecDepth 100000 in
theorem index_ok (Hs : HS) (xs : List Ix) (x : Ix) (hl : xs.length ≤ 1000000) : ACalls Try.prog 72 [.d (.lst 3 (xs.map ixD)), .fn (.func 69) [.d (ixD x)] []] Hs (fun av H' => H' = Hs ∧ ∃ r : Int, av = .d (I r) ∧ decide (0 ≤ r) = xs.any fun y => x.name == y.name) := by
 refine acalls_of_aw Try.func72 rfl ?_
 refine aw_start (T' := [.d (.lst 3 (xs.map ixD)), .fn (.func 69) [.d (ixD x)] [], .un, .un, .un, .un, .un, .un, .un, .un, .un, .un, .un, .un, .un, .un, .un, .un, .un]) rfl ?_
 refine aw_seq ?_
 refine aw_region ?_
 refine zst (op_assign_const (by rfl)) rfl (by dsimp only [zS, zN, zH, zT]) ?_
 refine al_end rfl ?_
 refine then_normal ?_
 refine aw_seq ?_
 refine aw_seq ?_
 refine aw_region ?_
 refine zst (op_move_tmp (by rfl)) rfl (by dsimp only [zS, zN, zH, zT]) ?_
 refine zst (op_lenL Try.underlying75 (by first | exact LL.d _ _ | exact LL.own _ _ _ | exact LL.nil _ | assumption)) rfl (by dsimp only [zS, zN, zH, zT]) ?_
 refine zst (op_move_const (by rfl)) rfl (by dsimp only [zS, zN, zH, zT]) ?_
 refine al_end rfl ?_
 refine then_normal ?_
 refine aw_block ?_
 apply aw_loopF (fun n T H => ∃ (k : Nat), T = [.d (.lst 3 (xs.map ixD)), .fn (.func 69) [.d (ixD x)] [], .un, .un, .un, .un, .un, .d (I (xs.map ixD).length), .d (I k), .un, .un, .un, .un, .un, .un, .un, .un, .un, .un] ∧ k ≤ xs.length ∧ n = xs.length - k ∧ ((xs.take k).any fun y => x.name == y.name) = false ∧ Hs = H) (xs.length) [true, true, false, false, false, false, false, true, true, false, false, false, false, false, false, false, false, false, false]
 · (try dsimp only [maskT]); try exact rfl
 · rfl
 · exact ⟨0, rfl, by omega, rfl, by simp, rfl⟩
 rintro n T H ⟨k, rfl, hk, rfl, hn, rfl⟩
 refine aw_seq ?_
 refine aw_region ?_
 refine zst (op_ltI (by rfl) (by rfl)) rfl (by dsimp only [zS, zN, zH, zT]) ?_
 refine al_end rfl ?_
 refine then_normal ?_
 refine aw_seq ?_
 refine aw_cond rfl (fun hc1 => ?_) (fun hc1 => ?_)
 ·
  (try simp only [y1, y2, y3, y4, y5, y6, y7, y8, y9, y0, List.length_map] at hc1)
  (try simp only [List.length_map] at hc1)
  have hlt : k < xs.length := by omega
  obtain ⟨y, hy⟩ : ∃ y, xs[k]? = some y := ⟨_, List.getElem?_eq_getElem hlt⟩
  refine aw_skip ?_
  refine then_normal ?_
  refine aw_seq ?_
  refine aw_block ?_
  refine aw_seq ?_
  refine aw_region ?_
  refine zst (op_move_tmp (by rfl)) rfl (by dsimp only [zS, zN, zH, zT]) ?_
  refine zst (op_assign_tmp (by rfl)) rfl (by dsimp only [zS, zN, zH, zT]) ?_
  refine al_end rfl ?_
  refine then_normal ?_
  refine aw_seq ?_
  refine aw_region ?_
  refine zst (op_move_tmp (by rfl)) rfl (by dsimp only [zS, zN, zH, zT]) ?_
  refine zst (op_move_tmp (by rfl)) rfl (by dsimp only [zS, zN, zH, zT]) ?_
  refine zst (op_move_tmp (by rfl)) rfl (by dsimp only [zS, zN, zH, zT]) ?_
  refine zst (op_indexAddr Try.underlying75 Sz88 (LL.d _ _) (by rfl) (by omega) (show (xs.map ixD)[((k : Nat) : Int).toNat]? = some (ixD y) by rw [List.getElem?_map, show ((k : Nat) : Int).toNat = k from rfl, hy]; rfl) (by rfl)) rfl (by dsimp only [zS, zN, zH, zT]) ?_
  refine zst (op_load_elts (ds := ixC y) Try.underlying88 (by rfl) Sz88 (by rfl) (Nat.le_of_ble_eq_true rfl) (by rfl)) rfl (by dsimp only [zS, zN, zH, zT]) ?_
  refine zst (op_callV (by rfl) Try.func69 (by rfl) (by rfl) (.tmp (by rfl) .nil) (called_ok _ x y)) rfl (by dsimp only [zS, zN, zH, zT]) ?_
  refine al_end rfl ?_
  refine then_normal ?_
  refine aw_cond rfl (fun hc2 => ?_) (fun hc2 => ?_)
  ·
   (try simp only [y1, y2, y3, y4, y5, y6, y7, y8, y9, y0, List.length_map] at hc2)
   have hc : x.name = y.name := hc2
   refine aw_seq ?_
   refine aw_region ?_
   refine zst (op_move_tmp (by rfl)) rfl (by dsimp only [zS, zN, zH, zT]) ?_
   refine zst (op_assign_tmp (by rfl)) rfl (by dsimp only [zS, zN, zH, zT]) ?_
   refine al_end rfl ?_
   refine then_normal ?_
   refine aw_ret ?_
   refine inBlock_ret (then_ret (again_ret (inBlock_ret (then_ret ?_))))
   refine retPost1 rfl rfl ?_
   exact ⟨rfl, _, rfl, by rw [show decide ((0 : Int) ≤ (k : Int)) = true by simp]; symm; rw [List.any_eq_true]; exact ⟨y, List.mem_of_getElem? hy, by simp [hc]⟩⟩
  ·
   (try simp only [y1, y2, y3, y4, y5, y6, y7, y8, y9, y0, List.length_map] at hc2)
   have hc : ¬ x.name = y.name := hc2
   refine aw_skip ?_
   refine inBlock_normal (then_normal ?_)
   refine aw_region ?_
   refine zst (by first | exact op_add (by rfl) (by rfl) (wrap_i64 ⟨by omega, by omega⟩) | exact op_add (by rfl) (by rfl) (by rfl)) rfl (by dsimp only [zS, zN, zH, zT]) ?_
   refine zst (op_move_tmp (by rfl)) rfl (by dsimp only [zS, zN, zH, zT]) ?_
   refine al_end rfl ?_
   apply again_to (xs.length - (k + 1)) [true, true, false, false, false, false, false, true, true, false, false, false, false, false, false, false, false, false, false]
   · (try dsimp only [maskT]); try exact rfl
   · rfl
   · omega
   exact ⟨k + 1, rfl, by omega, rfl, by rw [take_snoc hy, List.any_append, hn]; simpa using hc, rfl⟩
 ·
  (try simp only [y1, y2, y3, y4, y5, y6, y7, y8, y9, y0, List.length_map] at hc1)
  (try simp only [List.length_map] at hc1)
  have hke : k = xs.length := by omega
  subst hke
  rw [List.take_length] at hn
  refine aw_exit ?_
  refine then_exit (again_exit (inBlock_here (then_normal ?_)))
  refine aw_seq ?_
  refine aw_region ?_
  refine zst (op_assign_const (by rfl)) rfl (by dsimp only [zS, zN, zH, zT]) ?_
  refine al_end rfl ?_
  refine then_normal ?_
  refine aw_ret ?_
  refine retPost1 rfl rfl ?_
  exact ⟨rfl, _, rfl, by rw [hn]; rfl⟩
set_option maxRecDepth 100000 in
theorem contains_ok (Hs : HS) (xs : List Ix) (x : Ix) (hl : xs.length ≤ 1000000) : ACalls Try.prog 68 [.d (.lst 3 (xs.map ixD)), .fn (.func 69) [.d (ixD x)] []] Hs (Ret (.d (TF (xs.any fun y => x.name == y.name))) Hs) := by
 refine acalls_of_aw Try.func68 rfl ?_
 refine aw_start (T' := [.d (.lst 3 (xs.map ixD)), .fn (.func 69) [.d (ixD x)] [], .un, .un, .un, .un, .un, .un, .un]) rfl ?_
 refine aw_seq ?_
 refine aw_region ?_
 refine zst (op_assign_const (by rfl)) rfl (by dsimp only [zS, zN, zH, zT]) ?_
 refine al_end rfl ?_
 refine then_normal ?_
 refine aw_seq ?_
 refine aw_region ?_
 refine zst (op_move_tmp (by rfl)) rfl (by dsimp only [zS, zN, zH, zT]) ?_
 refine zst (op_move_tmp (by rfl)) rfl (by dsimp only [zS, zN, zH, zT]) ?_
 refine al_cons _ (op_callF Try.func72 (by rfl) (by rfl) (.tmp (by rfl) (.tmp (by rfl) .nil)) (index_ok Hs xs x hl)) rfl ?_
 rintro v2 H2 ⟨rfl, r, rfl, hr⟩
 apply al_normT
 · (try dsimp only [putT, List.set_cons_zero, List.set_cons_succ]); try exact rfl
 refine zst (op_geI (by rfl) (by rfl)) rfl (by dsimp only [zS, zN, zH, zT]) ?_
 refine zst (op_assign_tmp (by rfl)) rfl (by dsimp only [zS, zN, zH, zT]) ?_
 refine al_end rfl ?_
 refine then_normal ?_
 refine aw_ret ?_
 refine retPost1 rfl rfl ?_
 exact ⟨by (rw [← hr]) <;> rfl, rfl⟩
set_option maxRecDepth 100000 in
theorem cright_ok (Hs : HS) (name : List UInt8) (xs : List Ix) : ACalls Try.prog 33 [.d (.agg [S name, .lst 3 (xs.map ixD)])] Hs (Ret (.d (TF (rightC name xs))) Hs) := by
 refine ACalls.tidy1 ?_
 refine acalls_of_aw Try.func33 rfl ?_
 refine aw_start (T' := [.d (.agg [S name, .lst 3 (xs.map ixD)]), .un, .un, .un, .un, .un, .un, .un, .un, .un, .un, .un, .un, .un, .un, .un, .un, .un, .un, .un, .un, .un, .un, .un, .un, .un, .un, .un, .un, .un, .un, .un, .un, .un, .un, .un, .un, .un, .un, .un, .un, .un, .un]) rfl ?_
 refine aw_seq ?_
 refine aw_region ?_
 refine zst (op_box_elt (by rfl) (by rfl)) rfl (by dsimp only [zS, zN, zH, zT]) ?_
 refine zst (op_assign_const (by rfl)) rfl (by dsimp only [zS, zN, zH, zT]) ?_
 refine al_end rfl ?_
 refine then_normal ?_
 refine aw_seq ?_
 refine aw_seq ?_
 refine aw_region ?_
 refine zst (by first | exact op_fieldAddr_ptr Try.underlying77 rfl Sz9 (by rfl) (by rfl) | exact op_fieldAddr_elt Try.underlying77 rfl Sz9 (by rfl) (by rfl) (by rfl)) rfl (by dsimp only [zS, zN, zH, zT]) ?_
 refine zst (by first | exact op_load_elt Try.underlying9 (by rfl) (by rfl) (by rfl) | exact op_load_ptr Try.underlying9 (by rfl) (by rfl) (by exact setB_at push_at) (by rfl)) rfl (by dsimp only [zS, zN, zH, zT]) ?_
 refine zst (op_callF Try.func67 (by rfl) (by rfl) (.tmp (by rfl) .nil) (name_ok _ _)) rfl (by dsimp only [zS, zN, zH, zT]) ?_
 refine zst (op_not (by rfl)) rfl (by dsimp only [zS, zN, zH, zT]) ?_
 refine zst (op_move_tmp (by rfl)) rfl (by dsimp only [zS, zN, zH, zT]) ?_
 refine al_split 9 rfl (fun hg1 => ?_) (fun hg1 => ?_)
 ·
  (try simp only [y1, y2, y3, y4, y5, y6, y7, y8, y9, y0, List.length_map] at hg1)
  have hn0 : nameB name = false := by simpa using hg1
  apply al_normT
  · (try dsimp only [zS, zN, zH, zT]); try exact rfl
  refine zuw rfl rfl rfl rfl (by dsimp only [zS, zN, zH, zT]) ?_
  refine zuw rfl rfl rfl rfl (by dsimp only [zS, zN, zH, zT]) ?_
  refine zuw rfl rfl rfl rfl (by dsimp only [zS, zN, zH, zT]) ?_
  refine zuw rfl rfl rfl rfl (by dsimp only [zS, zN, zH, zT]) ?_
  refine zst (op_pick_tt (by rfl) (val_const (by rfl))) rfl (by dsimp only [zS, zN, zH, zT]) ?_
  refine al_end rfl ?_
  refine then_normal ?_
  refine aw_cond rfl (fun _ => ?_) (fun h => by cases h)
  refine aw_seq ?_
  refine aw_region ?_
  refine zst (op_assign_const (by rfl)) rfl (by dsimp only [zS, zN, zH, zT]) ?_
  refine al_end rfl ?_
  refine then_normal ?_
  refine aw_ret ?_
  refine then_ret ?_
  refine retPost1 rfl rfl ?_
  exact ⟨by simp [rightC_eq, hn0, TF], Ext.refl _⟩
 ·
  (try simp only [y1, y2, y3, y4, y5, y6, y7, y8, y9, y0, List.length_map] at hg1)
  have hn0 : nameB name = true := by simpa using hg1
  apply al_normT
  · (try dsimp only [zS, zN, zH, zT]); try exact rfl
  refine zsw rfl rfl rfl (by first | exact op_fieldAddr_ptr Try.underlying77 rfl Sz75 (by rfl) (by rfl) | exact op_fieldAddr_elt Try.underlying77 rfl Sz75 (by rfl) (by rfl) (by rfl)) (by dsimp only [zS, zN, zH, zT]) ?_
  refine zsw rfl rfl rfl (by first | exact op_load_elt Try.underlying75 (by rfl) (by rfl) (by rfl) | exact op_load_ptr Try.underlying75 (by rfl) (by rfl) (by exact setB_at push_at) (by rfl)) (by dsimp only [zS, zN, zH, zT]) ?_
  refine zsw rfl rfl rfl (op_lenL Try.underlying75 (by first | exact LL.d _ _ | exact LL.own _ _ _ | exact LL.nil _ | assumption)) (by dsimp only [zS, zN, zH, zT]) ?_
  refine zsw rfl rfl rfl (op_gtI (by rfl) (by rfl)) (by dsimp only [zS, zN, zH, zT]) ?_
  refine zst (op_pick_ff (by rfl) (val_tmp (by rfl))) rfl (by dsimp only [zS, zN, zH, zT]) ?_
  refine al_end rfl ?_
  refine then_normal ?_
  refine aw_cond rfl (fun hc3 => ?_) (fun hc3 => ?_)
  ·
   (try simp only [y1, y2, y3, y4, y5, y6, y7, y8, y9, y0, List.length_map] at hc3)
   have h8 : 8 < (xs.length : Int) := by simpa using hc3
   refine aw_seq ?_
   refine aw_region ?_
   refine zst (op_assign_const (by rfl)) rfl (by dsimp only [zS, zN, zH, zT]) ?_
   refine al_end rfl ?_
   refine then_normal ?_
   refine aw_ret ?_
   refine then_ret ?_
   refine retPost1 rfl rfl ?_
   exact ⟨by simp [rightC_eq, show ¬ xs.length ≤ 8 by omega, TF], Ext.refl _⟩
  ·
   (try simp only [y1, y2, y3, y4, y5, y6, y7, y8, y9, y0, List.length_map] at hc3)
   have h8 : ¬ 8 < (xs.length : Int) := by simpa using hc3
   refine aw_skip ?_
   refine then_normal ?_
   refine aw_seq ?_
   refine aw_seq ?_
   refine aw_region ?_
   refine zst (by first | exact op_fieldAddr_ptr Try.underlying77 rfl Sz75 (by rfl) (by rfl) | exact op_fieldAddr_elt Try.underlying77 rfl Sz75 (by rfl) (by rfl) (by rfl)) rfl (by dsimp only [zS, zN, zH, zT]) ?_
   refine zst (by first | exact op_load_elt Try.underlying75 (by rfl) (by rfl) (by rfl) | exact op_load_ptr Try.underlying75 (by rfl) (by rfl) (by exact setB_at push_at) (by rfl)) rfl (by dsimp only [zS, zN, zH, zT]) ?_
   refine zst (op_lenL Try.underlying75 (by first | exact LL.d _ _ | exact LL.own _ _ _ | exact LL.nil _ | assumption)) rfl (by dsimp only [zS, zN, zH, zT]) ?_
   refine zst (op_move_const (by rfl)) rfl (by dsimp only [zS, zN, zH, zT]) ?_
   refine al_end rfl ?_
   refine then_normal ?_
   refine aw_block ?_
   apply aw_loopF (fun n T H => ∃ (k : Nat), T = [.un, .elt [S name, .lst 3 (xs.map ixD)], .un, .un, .un, .un, .un, .un, .un, .un, .un, .un, .un, .un, .un, .un, .d (.lst 3 (xs.map ixD)), .d (I (xs.map ixD).length), .d (I k), .un, .un, .un, .un, .un, .un, .un, .un, .un, .un, .un, .un, .un, .un, .un, .un, .un, .un, .un, .un, .un, .un, .un, .un] ∧ k ≤ xs.length ∧ n = xs.length - k ∧ (List.range k).all (rightAt xs) = true ∧ Ext Hs H) (xs.length) [false, true, false, false, false, false, false, false, false, false, false, false, false, false, false, false, true, true, true, false, false, false, false, false, false, false, false, false, false, false, false, false, false, false, false, false, false, false, false, false, false, false, false]
   · (try dsimp only [maskT]); try exact rfl
   · rfl
   · exact ⟨0, rfl, by omega, rfl, rfl, Ext.refl Hs⟩
   rintro n T H ⟨k, rfl, hk, rfl, hall, hx⟩
   refine aw_seq ?_
   refine aw_region ?_
   refine zst (op_ltI (by rfl) (by rfl)) rfl (by dsimp only [zS, zN, zH, zT]) ?_
   refine al_end rfl ?_
   refine then_normal ?_
   refine aw_seq ?_
   refine aw_cond rfl (fun hc4 => ?_) (fun hc4 => ?_)
   ·
    (try simp only [y1, y2, y3, y4, y5, y6, y7, y8, y9, y0, List.length_map] at hc4)
    (try simp only [List.length_map] at hc4)
    have hlt : k < xs.length := by omega
    obtain ⟨y, hy⟩ : ∃ y, xs[k]? = some y := ⟨_, List.getElem?_eq_getElem hlt⟩
    refine aw_skip ?_
    refine then_normal ?_
    refine aw_seq ?_
    refine aw_block ?_
    refine aw_seq ?_
    refine aw_region ?_
    refine zst (op_move_tmp (by rfl)) rfl (by dsimp only [zS, zN, zH, zT]) ?_
    refine zst (op_indexAddr Try.underlying75 Sz88 (LL.d _ _) (by rfl) (by omega) (show (xs.map ixD)[((k : Nat) : Int).toNat]? = some (ixD y) by rw [List.getElem?_map, show ((k : Nat) : Int).toNat = k from rfl, hy]; rfl) (by rfl)) rfl (by dsimp only [zS, zN, zH, zT]) ?_
    refine zst (op_load_elts (ds := ixC y) Try.underlying88 (by rfl) Sz88 (by rfl) (Nat.le_of_ble_eq_true rfl) (by rfl)) rfl (by dsimp only [zS, zN, zH, zT]) ?_
    refine zst (op_alloc (Zr88) (by rfl)) rfl (by dsimp only [zS, zN, zH, zT]) ?_
    refine zst (op_assign_tmp (by rfl)) rfl (by dsimp only [zS, zN, zH, zT]) ?_
    refine zst (op_storeB (vs := [.d (S y.name), .d (S y.field), .d (TF y.uniq)]) (b' := ⟨88, [.d (S y.name), .d (S y.field), .d (TF y.uniq)], false⟩) (H' := _) Sz88 (by rfl) push_at (by intro h; cases h) (by rfl) (by rfl) (Nat.le_of_ble_eq_true rfl) (by simp [AV.one, DV.one, TF, S, I, BY]) (by rfl) (by rfl) rfl) rfl (by dsimp only [zS, zN, zH, zT]) ?_
    refine al_end rfl ?_
    refine then_normal ?_
    refine aw_seq ?_
    refine aw_draw [0, 1, 0, 0, 0, 0, 1, 0, 0, 0, 0, 0, 1, 0, 0, 1, 0, 0, 0] mixed (by kernel_rfl) ?_
    refine zd0 (fun H => (by first | exact op_fieldAddr_ptr Try.underlying88 rfl Sz9 (by rfl) (by rfl) | exact op_fieldAddr_elt Try.underlying88 rfl Sz9 (by rfl) (by rfl) (by rfl))) rfl (by dsimp only [zS, zN, zH, zT]) ?_
    refine zd1 (by first | exact op_load_elt Try.underlying9 (by rfl) (by rfl) (by rfl) | exact op_load_ptr Try.underlying9 (by rfl) (by rfl) (by exact setB_at push_at) (by rfl)) rfl (by dsimp only [zS, zN, zH, zT]) ?_
    refine zd0 (fun H => (op_callF Try.func67 (by rfl) (by rfl) (.tmp (by rfl) .nil) (name_ok _ _))) rfl (by dsimp only [zS, zN, zH, zT]) ?_
    refine zd0 (fun H => (op_not (by rfl))) rfl (by dsimp only [zS, zN, zH, zT]) ?_
    refine zd0 (fun H => (op_move_tmp (by rfl))) rfl (by dsimp only [zS, zN, zH, zT]) ?_
    refine drun_split 27 rfl (fun hg5 => ?_) (fun hg5 => ?_)
    ·
     (try simp only [y1, y2, y3, y4, y5, y6, y7, y8, y9, y0, List.length_map] at hg5)
     have hn1 : nameB y.name = false := by simpa using hg5
     apply drun_normT
     · (try dsimp only [zS, zN, zH, zT]); try exact rfl
     refine zdU rfl rfl rfl rfl (by dsimp only [zS, zN, zH, zT]) ?_
     refine zdU rfl rfl rfl rfl (by dsimp only [zS, zN, zH, zT]) ?_
     refine zdU rfl rfl rfl rfl (by dsimp only [zS, zN, zH, zT]) ?_
     refine zdU rfl rfl rfl rfl (by dsimp only [zS, zN, zH, zT]) ?_
     refine zd0 (fun H => (op_pick_tt (by rfl) (val_const (by rfl)))) rfl (by dsimp only [zS, zN, zH, zT]) ?_
     refine zd0 (fun H => (op_move_tmp (by rfl))) rfl (by dsimp only [zS, zN, zH, zT]) ?_
     refine zdU rfl rfl rfl rfl (by dsimp only [zS, zN, zH, zT]) ?_
     refine zdU rfl rfl rfl rfl (by dsimp only [zS, zN, zH, zT]) ?_
     refine zdU rfl rfl rfl rfl (by dsimp only [zS, zN, zH, zT]) ?_
     refine zdU rfl rfl rfl rfl (by dsimp only [zS, zN, zH, zT]) ?_
     refine zdU rfl rfl rfl rfl (by dsimp only [zS, zN, zH, zT]) ?_
     refine zdU rfl rfl rfl rfl (by dsimp only [zS, zN, zH, zT]) ?_
     refine zdU rfl rfl rfl rfl (by dsimp only [zS, zN, zH, zT]) ?_
     refine zd0 (fun H => (op_pick_tt (by rfl) (val_const (by rfl)))) rfl (by dsimp only [zS, zN, zH, zT]) ?_
     refine drun_end rfl ?_
     refine then_normal ?_
     refine aw_cond rfl (fun _ => ?_) (fun h => by cases h)
     refine aw_seq ?_
     refine aw_region ?_
     refine zst (op_assign_const (by rfl)) rfl (by dsimp only [zS, zN, zH, zT]) ?_
     refine al_end rfl ?_
     refine then_normal ?_
     refine aw_ret ?_
     refine inBlock_ret (then_ret (again_ret (inBlock_ret (then_ret ?_))))
     refine retPost1 rfl rfl ?_
     exact ⟨by rw [right_bad hlt (by rw [rightAt_some hy]; simp [rightIx, hn1])]; rfl, (hx.push _ _).setB (nb_le hx)⟩
    ·
     (try simp only [y1, y2, y3, y4, y5, y6, y7, y8, y9, y0, List.length_map] at hg5)
     have hn1 : nameB y.name = true := by simpa using hg5
     apply drun_normT
     · (try dsimp only [zS, zN, zH, zT]); try exact rfl
     refine zd0w rfl rfl rfl (fun H => (by first | exact op_fieldAddr_ptr Try.underlying88 rfl Sz9 (by rfl) (by rfl) | exact op_fieldAddr_elt Try.underlying88 rfl Sz9 (by rfl) (by rfl) (by rfl))) (by dsimp only [zS, zN, zH, zT]) ?_
     refine zd1w rfl rfl rfl (by first | exact op_load_elt Try.underlying9 (by rfl) (by rfl) (by rfl) | exact op_load_ptr Try.underlying9 (by rfl) (by rfl) (by exact setB_at push_at) (by rfl)) (by dsimp only [zS, zN, zH, zT]) ?_
     refine zd0w rfl rfl rfl (fun H => (op_lenS Try.underlying9 (by rfl))) (by dsimp only [zS, zN, zH, zT]) ?_
     refine zd0w rfl rfl rfl (fun H => (op_gtI (by rfl) (by rfl))) (by dsimp only [zS, zN, zH, zT]) ?_
     refine zd0 (fun H => (op_pick_ff (by rfl) (val_tmp (by rfl)))) rfl (by dsimp only [zS, zN, zH, zT]) ?_
     refine zd0 (fun H => (op_move_tmp (by rfl))) rfl (by dsimp only [zS, zN, zH, zT]) ?_
     refine drun_split 33 rfl (fun hg7 => ?_) (fun hg7 => ?_)
     ·
      (try simp only [y1, y2, y3, y4, y5, y6, y7, y8, y9, y0, List.length_map] at hg7)
      have hf40 : ¬ y.field.length ≤ 40 := by have h : 40 < (y.field.length : Int) := hg7; omega
      apply drun_normT
      · (try dsimp only [zS, zN, zH, zT]); try exact rfl
      refine zdU rfl rfl rfl rfl (by dsimp only [zS, zN, zH, zT]) ?_
      refine zdU rfl rfl rfl rfl (by dsimp only [zS, zN, zH, zT]) ?_
      refine zdU rfl rfl rfl rfl (by dsimp only [zS, zN, zH, zT]) ?_
      refine zdU rfl rfl rfl rfl (by dsimp only [zS, zN, zH, zT]) ?_
      refine zdU rfl rfl rfl rfl (by dsimp only [zS, zN, zH, zT]) ?_
      refine zdU rfl rfl rfl rfl (by dsimp only [zS, zN, zH, zT]) ?_
      refine zdU rfl rfl rfl rfl (by dsimp only [zS, zN, zH, zT]) ?_
      refine zd0 (fun H => (op_pick_tt (by rfl) (val_const (by rfl)))) rfl (by dsimp only [zS, zN, zH, zT]) ?_
      refine drun_end rfl ?_
      refine then_normal ?_
      refine aw_cond rfl (fun _ => ?_) (fun h => by cases h)
      refine aw_seq ?_
      refine aw_region ?_
      refine zst (op_assign_const (by rfl)) rfl (by dsimp only [zS, zN, zH, zT]) ?_
      refine al_end rfl ?_
      refine then_normal ?_
      refine aw_ret ?_
      refine inBlock_ret (then_ret (again_ret (inBlock_ret (then_ret ?_))))
      refine retPost1 rfl rfl ?_
      exact ⟨by rw [right_bad hlt (by rw [rightAt_some hy]; simp [rightIx, hf40])]; rfl, (hx.push _ _).setB (nb_le hx)⟩
     ·
      (try simp only [y1, y2, y3, y4, y5, y6, y7, y8, y9, y0, List.length_map] at hg7)
      have hf40 : y.field.length ≤ 40 := by have h : ¬ 40 < (y.field.length : Int) := hg7; omega
      apply drun_normT
      · (try dsimp only [zS, zN, zH, zT]); try exact rfl
      refine zd0w rfl rfl rfl (fun H => (by first | exact op_fieldAddr_ptr Try.underlying77 rfl Sz75 (by rfl) (by rfl) | exact op_fieldAddr_elt Try.underlying77 rfl Sz75 (by rfl) (by rfl) (by rfl))) (by dsimp only [zS, zN, zH, zT]) ?_
      refine zd1w rfl rfl rfl (by first | exact op_load_elt Try.underlying75 (by rfl) (by rfl) (by rfl) | exact op_load_ptr Try.underlying75 (by rfl) (by rfl) (by exact setB_at push_at) (by rfl)) (by dsimp only [zS, zN, zH, zT]) ?_
      refine zd0w rfl rfl rfl (fun H => (op_move_tmp (by rfl))) (by dsimp only [zS, zN, zH, zT]) ?_
      refine zd0w rfl rfl rfl (fun H => (op_sliceL0 ((xs.take k).map ixD) Try.underlying75 Sz88 (LL.d _ _) (by rfl) (by omega) (by simp; omega) (by simp))) (by dsimp only [zS, zN, zH, zT]) ?_
      refine zd1w rfl rfl rfl (op_load_ptrsD (ixC y) Try.underlying88 (by rfl) Sz88 (by rfl) (setB_at push_at) (Nat.le_of_ble_eq_true rfl) (by rfl) (by simp [ixC, DV.one, S, TF])) (by dsimp only [zS, zN, zH, zT]) ?_
      refine zd0w rfl rfl rfl (fun H => (op_makeFn (.tmp (by rfl) .nil) .nil)) (by dsimp only [zS, zN, zH, zT]) ?_
      refine zd0w rfl rfl rfl (fun H => (op_callF Try.func68 (by rfl) (by rfl) (.tmp (by rfl) (.tmp (by rfl) .nil)) (contains_ok _ (xs.take k) y (by simp; omega)))) (by dsimp only [zS, zN, zH, zT]) ?_
      refine zd0 (fun H => (op_pick_ff (by rfl) (val_tmp (by rfl)))) rfl (by dsimp only [zS, zN, zH, zT]) ?_
      refine drun_end rfl ?_
      refine then_normal ?_
      refine aw_cond rfl (fun hc9 => ?_) (fun hc9 => ?_)
      ·
       (try simp only [y1, y2, y3, y4, y5, y6, y7, y8, y9, y0, List.length_map] at hc9)
       have hcon := hc9
       refine aw_seq ?_
       refine aw_region ?_
       refine zst (op_assign_const (by rfl)) rfl (by dsimp only [zS, zN, zH, zT]) ?_
       refine al_end rfl ?_
       refine then_normal ?_
       refine aw_ret ?_
       refine inBlock_ret (then_ret (again_ret (inBlock_ret (then_ret ?_))))
       refine retPost1 rfl rfl ?_
       exact ⟨by rw [right_bad hlt (by rw [rightAt_some hy]; simp only [rightIx, hcon]; simp)]; rfl, (hx.push _ _).setB (nb_le hx)⟩
      ·
       (try simp only [y1, y2, y3, y4, y5, y6, y7, y8, y9, y0, List.length_map] at hc9)
       have hcon := hc9
       refine aw_skip ?_
       refine inBlock_normal (then_normal ?_)
       refine aw_region ?_
       refine zst (by first | exact op_add (by rfl) (by rfl) (wrap_i64 ⟨by omega, by omega⟩) | exact op_add (by rfl) (by rfl) (by rfl)) rfl (by dsimp only [zS, zN, zH, zT]) ?_
       refine zst (op_move_tmp (by rfl)) rfl (by dsimp only [zS, zN, zH, zT]) ?_
       refine al_end rfl ?_
       apply again_to (xs.length - (k + 1)) [false, true, false, false, false, false, false, false, false, false, false, false, false, false, false, false, true, true, true, false, false, false, false, false, false, false, false, false, false, false, false, false, false, false, false, false, false, false, false, false, false, false, false]
       · (try dsimp only [maskT]); try exact rfl
       · rfl
       · omega
       exact ⟨k + 1, rfl, by omega, rfl, right_step hall (by rw [rightAt_some hy]; simp [rightIx, hn1, hf40, hcon]), (hx.push _ _).setB (nb_le hx)⟩
   ·
    (try simp only [y1, y2, y3, y4, y5, y6, y7, y8, y9, y0, List.length_map] at hc4)
    (try simp only [List.length_map] at hc4)
    have hke : k = xs.length := by omega
    subst hke
    refine aw_exit ?_
    refine then_exit (again_exit (inBlock_here (then_normal ?_)))
    refine aw_seq ?_
    refine aw_region ?_
    refine zst (op_assign_const (by rfl)) rfl (by dsimp only [zS, zN, zH, zT]) ?_
    refine al_end rfl ?_
    refine then_normal ?_
    refine aw_ret ?_
    refine retPost1 rfl rfl ?_
    exact ⟨by rw [rightC_eq, hn0, hall]; simp [show xs.length ≤ 8 by omega, TF], hx⟩
set_option maxRecDepth 100000 in
theorem cenc_ok (Hs : HS) (name : List UInt8) (xs : List Ix) (hl : xs.length ≤ 1000000) (hb : (encC xs).length ≤ 1000000000) : ACalls Try.prog 34 [.d (.agg [S name, .lst 3 (xs.map ixD)])] Hs (Ret (.d (S (encC xs))) Hs) := by
 refine ACalls.tidy1 ?_
 have hnum := onum_ok Hs none _ [] xs.length (App.nil _) (HS.ok_none _ _) (by omega) (by simp)
 rw [show ((xs.length : Nat) : Int).toNat = xs.length from rfl, List.nil_append] at hnum
 refine acalls_of_aw Try.func34 rfl ?_
 refine aw_start (T' := [.d (.agg [S name, .lst 3 (xs.map ixD)]), .un, .un, .un, .un, .un, .un, .un, .un, .un, .un, .un, .un, .un, .un, .un, .un, .un, .un, .un, .un, .un, .un, .un, .un, .un, .un, .un, .un, .un]) rfl ?_
 refine aw_seq ?_
 refine aw_region ?_
 refine zst (op_box_elt (by rfl) (by rfl)) rfl (by dsimp only [zS, zN, zH, zT]) ?_
 refine zst (op_assign_const (by rfl)) rfl (by dsimp only [zS, zN, zH, zT]) ?_
 refine al_end rfl ?_
 refine then_normal ?_
 refine aw_seq ?_
 refine aw_region ?_
 refine zst (by first | exact op_fieldAddr_ptr Try.underlying77 rfl Sz75 (by rfl) (by rfl) | exact op_fieldAddr_elt Try.underlying77 rfl Sz75 (by rfl) (by rfl) (by rfl)) rfl (by dsimp only [zS, zN, zH, zT]) ?_
 refine zst (by first | exact op_load_elt Try.underlying75 (by rfl) (by rfl) (by rfl) | exact op_load_ptr Try.underlying75 (by rfl) (by rfl) (by exact hPhi) (by rfl)) rfl (by dsimp only [zS, zN, zH, zT]) ?_
 refine zst (op_lenL Try.underlying75 (by first | exact LL.d _ _ | exact LL.own _ _ _ | exact LL.nil _ | assumption)) rfl (by dsimp only [zS, zN, zH, zT]) ?_
 refine zst (op_callF Try.func54 (by rfl) (by rfl) (.const (by rfl) (.tmp (by rfl) .nil)) ((by have h := hnum; simpa using h))) rfl (by dsimp only [zS, zN, zH, zT]) ?_
 refine zst (op_assign_tmp (by rfl)) rfl (by dsimp only [zS, zN, zH, zT]) ?_
 refine al_end rfl ?_
 refine then_normal ?_
 refine aw_seq ?_
 refine aw_seq ?_
 refine aw_region ?_
 refine zst (by first | exact op_fieldAddr_ptr Try.underlying77 rfl Sz75 (by rfl) (by rfl) | exact op_fieldAddr_elt Try.underlying77 rfl Sz75 (by rfl) (by rfl) (by rfl)) rfl (by dsimp only [zS, zN, zH, zT]) ?_
 refine zst (by first | exact op_load_elt Try.underlying75 (by rfl) (by rfl) (by rfl) | exact op_load_ptr Try.underlying75 (by rfl) (by rfl) (by exact hPhi) (by rfl)) rfl (by dsimp only [zS, zN, zH, zT]) ?_
 refine zst (op_lenL Try.underlying75 (by first | exact LL.d _ _ | exact LL.own _ _ _ | exact LL.nil _ | assumption)) rfl (by dsimp only [zS, zN, zH, zT]) ?_
 refine zst (op_move_const (by rfl)) rfl (by dsimp only [zS, zN, zH, zT]) ?_
 refine al_end rfl ?_
 refine then_normal ?_
 refine aw_block ?_
 apply aw_loopF (fun n T H => ∃ (k : Nat) (v' : AV) (t' : Option Nat), T = [.un, .elt [S name, .lst 3 (xs.map ixD)], .un, v', .un, .un, .un, .un, .un, .un, .un, .d (.lst 3 (xs.map ixD)), .d (I (xs.map ixD).length), .d (I k), .un, .un, .un, .un, .un, .un, .un, .un, .un, .un, .un, .un, .un, .un, .un, .un] ∧ k ≤ xs.length ∧ n = xs.length - k ∧ App v' t' 1 ((encK xs k).map BY) ∧ H.ok t' (encK xs k).length ∧ NewTok Hs t' ∧ Ext Hs H) (xs.length) [false, true, false, true, false, false, false, false, false, false, false, true, true, true, false, false, false, false, false, false, false, false, false, false, false, false, false, false, false, false]
 · (try dsimp only [maskT]); try exact rfl
 · rfl
 · exact ⟨0, _, _, rfl, by omega, rfl, by rw [encK_zero]; exact App.own _ _ _, by rw [encK_zero]; exact okB _ _ _ (HS.ok_none _ 0), ((Ext.refl Hs).upN (n := 0) (NewTok.none Hs) (HS.ok_none _ 0)).2, ((Ext.refl Hs).upN (NewTok.none Hs) (HS.ok_none _ 0)).1⟩
 rintro n T H ⟨k, v', t', rfl, hk, rfl, hv, hok, hnt, hx⟩
 refine aw_seq ?_
 refine aw_region ?_
 refine zst (op_ltI (by rfl) (by rfl)) rfl (by dsimp only [zS, zN, zH, zT]) ?_
 refine al_end rfl ?_
 refine then_normal ?_
 refine aw_seq ?_
 refine aw_cond rfl (fun hc1 => ?_) (fun hc1 => ?_)
 ·
  (try simp only [y1, y2, y3, y4, y5, y6, y7, y8, y9, y0, List.length_map] at hc1)
  (try simp only [List.length_map] at hc1)
  have hlt : k < xs.length := by omega
  obtain ⟨y, hy⟩ : ∃ y, xs[k]? = some y := ⟨_, List.getElem?_eq_getElem hlt⟩
  have hel := encK_len hy
  have hte := textB_ge y.name
  have hte2 := textB_ge y.field
  simp only [ixB, List.length_append] at hel
  have hok' : ∀ cs b, ((H.push 88 cs).setB H.nb b).ok t' (encK xs k).length := fun _ _ => hok
  refine aw_skip ?_
  refine then_normal ?_
  refine aw_seq ?_
  refine aw_block ?_
  refine aw_seq ?_
  refine aw_region ?_
  refine zst (op_indexAddr Try.underlying75 Sz88 (LL.d _ _) (by rfl) (by omega) (show (xs.map ixD)[((k : Nat) : Int).toNat]? = some (ixD y) by rw [List.getElem?_map, show ((k : Nat) : Int).toNat = k from rfl, hy]; rfl) (by rfl)) rfl (by dsimp only [zS, zN, zH, zT]) ?_
  refine zst (op_load_elts (ds := ixC y) Try.underlying88 (by rfl) Sz88 (by rfl) (Nat.le_of_ble_eq_true rfl) (by rfl)) rfl (by dsimp only [zS, zN, zH, zT]) ?_
  refine zst (op_alloc (Zr88) (by rfl)) rfl (by dsimp only [zS, zN, zH, zT]) ?_
  refine zst (op_storeB (vs := [.d (S y.name), .d (S y.field), .d (TF y.uniq)]) (b' := ⟨88, [.d (S y.name), .d (S y.field), .d (TF y.uniq)], false⟩) (H' := _) Sz88 (by rfl) push_at (by intro h; cases h) (by rfl) (by rfl) (Nat.le_of_ble_eq_true rfl) (by simp [AV.one, DV.one, TF, S, I, BY]) (by rfl) (by rfl) rfl) rfl (by dsimp only [zS, zN, zH, zT]) ?_
  refine al_end rfl ?_
  refine then_normal ?_
  refine aw_drawX (fun K => K.blks[H.nb]? = some ⟨88, [.d (S y.name), .d (S y.field), .d (TF y.uniq)], false⟩) [0, 0, 0, 2, 0, 0, 2, 0, 0, 2, 0] mixed (by kernel_rfl) (setB_at push_at) (.inr (by kernel_rfl)) ?_
  apply drun0X
  · intro H hPhi; exact op_move_tmp (by rfl)
  · rfl
  apply drun_normT
  · (try dsimp only [zS, zN, zH, zT]); try exact rfl
  apply drun0X
  · intro H hPhi; first | exact op_fieldAddr_ptr Try.underlying88 rfl Sz9 (by rfl) (by rfl) | exact op_fieldAddr_elt Try.underlying88 rfl Sz9 (by rfl) (by rfl) (by rfl)
  · rfl
  apply drun_normT
  · (try dsimp only [zS, zN, zH, zT]); try exact rfl
  apply drun0X
  · intro H hPhi; first | exact op_load_elt Try.underlying9 (by rfl) (by rfl) (by rfl) | exact op_load_ptr Try.underlying9 (by rfl) (by rfl) (by exact hPhi) (by rfl)
  · rfl
  apply drun_normT
  · (try dsimp only [zS, zN, zH, zT]); try exact rfl
  apply drun2X
  · exact op_callF Try.func55 (by rfl) (by rfl) (.tmp (by rfl) (.tmp (by rfl) .nil)) (otext_ok _ t' v' _ y.name hv (hok' _ _) (by omega))
  · rfl
  · refine .inr ?_; first | (rw [HS.up_blks]; exact setB_at push_at) | (rw [HS.up_blks, HS.up_blks]; exact setB_at push_at) | (rw [HS.up_blks, HS.up_blks, HS.up_blks]; exact setB_at push_at)
  apply drun_normT
  · (try dsimp only [zS, zN, zH, zT]); try exact rfl
  apply drun0X
  · intro H hPhi; first | exact op_fieldAddr_ptr Try.underlying88 rfl Sz9 (by rfl) (by rfl) | exact op_fieldAddr_elt Try.underlying88 rfl Sz9 (by rfl) (by rfl) (by rfl)
  · rfl
  apply drun_normT
  · (try dsimp only [zS, zN, zH, zT]); try exact rfl
  apply drun0X
  · intro H hPhi; first | exact op_load_elt Try.underlying9 (by rfl) (by rfl) (by rfl) | exact op_load_ptr Try.underlying9 (by rfl) (by rfl) (by exact hPhi) (by rfl)
  · rfl
  apply drun_normT
  · (try dsimp only [zS, zN, zH, zT]); try exact rfl
  apply drun2X
  · exact op_callF Try.func55 (by rfl) (by rfl) (.tmp (by rfl) (.tmp (by rfl) .nil)) (otext_ok _ _ _ _ y.field (App.own _ _ _) (okB _ _ _ (hok' _ _)) (by simp; omega))
  · rfl
  · refine .inr ?_; first | (rw [HS.up_blks]; exact setB_at push_at) | (rw [HS.up_blks, HS.up_blks]; exact setB_at push_at) | (rw [HS.up_blks, HS.up_blks, HS.up_blks]; exact setB_at push_at)
  apply drun_normT
  · (try dsimp only [zS, zN, zH, zT]); try exact rfl
  apply drun0X
  · intro H hPhi; first | exact op_fieldAddr_ptr Try.underlying88 rfl Sz4 (by rfl) (by rfl) | exact op_fieldAddr_elt Try.underlying88 rfl Sz4 (by rfl) (by rfl) (by rfl)
  · rfl
  apply drun_normT
  · (try dsimp only [zS, zN, zH, zT]); try exact rfl
  apply drun0X
  · intro H hPhi; first | exact op_load_elt Try.underlying4 (by rfl) (by rfl) (by rfl) | exact op_load_ptr Try.underlying4 (by rfl) (by rfl) (by exact hPhi) (by rfl)
  · rfl
  apply drun_normT
  · (try dsimp only [zS, zN, zH, zT]); try exact rfl
  apply drun2X
  · exact op_callF Try.func70 (by rfl) (by rfl) (.tmp (by rfl) (.tmp (by rfl) .nil)) (oflag_ok _ _ _ _ y.uniq (App.own _ _ _) (okB _ _ _ (okB _ _ _ (hok' _ _))) (by simp; omega))
  · rfl
  · refine .inr ?_; first | (rw [HS.up_blks]; exact setB_at push_at) | (rw [HS.up_blks, HS.up_blks]; exact setB_at push_at) | (rw [HS.up_blks, HS.up_blks, HS.up_blks]; exact setB_at push_at)
  apply drun_normT
  · (try dsimp only [zS, zN, zH, zT]); try exact rfl
  apply drun0X
  · intro H hPhi; exact op_assign_tmp (by rfl)
  · rfl
  apply drun_normT
  · (try dsimp only [zS, zN, zH, zT]); try exact rfl
  refine drun_end rfl ?_
  refine inBlock_normal (then_normal ?_)
  refine aw_region ?_
  refine zst (by first | exact op_add (by rfl) (by rfl) (wrap_i64 ⟨by omega, by omega⟩) | exact op_add (by rfl) (by rfl) (by rfl)) rfl (by dsimp only [zS, zN, zH, zT]) ?_
  refine zst (op_move_tmp (by rfl)) rfl (by dsimp only [zS, zN, zH, zT]) ?_
  refine al_end rfl ?_
  apply again_to (xs.length - (k + 1)) [false, true, false, true, false, false, false, false, false, false, false, true, true, true, false, false, false, false, false, false, false, false, false, false, false, false, false, false, false, false]
  · (try dsimp only [maskT]); try exact rfl
  · rfl
  · omega
  exact ⟨k + 1, _, _, rfl, by omega, rfl, by rw [encK_step hy]; exact App.own _ _ _, by rw [encK_step hy]; exact okB _ _ _ (okB _ _ _ (okB _ _ _ (hok' _ _))), (((hx.push _ _).setB (nb_le hx)).upN (n := 0) hnt (hok' _ _)).2, by rw [up_upB, up_upB]; exact (((hx.push _ _).setB (nb_le hx)).upN hnt (hok' _ _)).1⟩
 ·
  (try simp only [y1, y2, y3, y4, y5, y6, y7, y8, y9, y0, List.length_map] at hc1)
  (try simp only [List.length_map] at hc1)
  have hke : k = xs.length := by omega
  subst hke
  rw [encK_full] at hv hok
  refine aw_exit ?_
  refine then_exit (again_exit (inBlock_here (then_normal ?_)))
  refine aw_seq ?_
  refine aw_region ?_
  refine zst (op_move_tmp (by rfl)) rfl (by dsimp only [zS, zN, zH, zT]) ?_
  refine zst (op_string Try.underlying49 Try.underlying9 Try.underlying5 hv.ll (by rfl)) rfl (by dsimp only [zS, zN, zH, zT]) ?_
  refine zst (op_assign_tmp (by rfl)) rfl (by dsimp only [zS, zN, zH, zT]) ?_
  refine al_end rfl ?_
  refine then_normal ?_
  refine aw_ret ?_
  refine retPost1 rfl rfl ?_
  exact ⟨rfl, hx⟩
set_option maxRecDepth 100000 in
theorem cdec_ok (Hs : HS) (name s : List UInt8) : ACalls Try.prog 35 [.d (S name), .d (S s)] Hs (Ret (.tup [.d (.agg [S (decName name s), .lst 3 ((decIxs name s).map ixD)]), .d (I (decErr name s))]) Hs) := by
 refine ACalls.tidyT (xs := [.agg [S (decName name s), .lst 3 ((decIxs name s).map ixD)], I (decErr name s)]) ?_
 suffices h : ACalls Try.prog 35 [.d (S name), .d (S s)] Hs (fun av H' => ∃ x, av = .tup [x, .d (I (decErr name s))] ∧ Weak x (.d (.agg [S (decName name s), .lst 3 ((decIxs name s).map ixD)])) ∧ Ext Hs H') from h.weak fun v H' ⟨x, h1, h2, h3⟩ => ⟨_, by rw [h1]; exact Weak.tup (.cons h2 (.cons (Weak.refl _) .nil)), rfl, h3⟩
 obtain ⟨q, ⟨s1, b1⟩, hr⟩ : ∃ q st, rNum 8 (s, false) = (q, st) := ⟨_, _, rfl⟩
 have hn8 := rNum_most hr
 have hdec : decC s = rIxs q (s1, b1) := by unfold decC; rw [hr]
 generalize hst0 : (s1, b1) = st0 at hdec
 refine acalls_of_awC Try.func35 rfl ?_
 refine aw_start (T' := [.d (S name), .d (S s), .un, .un, .un, .un, .un, .un, .un, .un, .un, .un, .un, .un, .un, .un, .un, .un, .un, .un, .un, .un, .un, .un, .un, .un, .un, .un, .un, .un, .un, .un, .un, .un, .un, .un, .un, .un, .un]) rfl ?_
 refine aw_seq ?_
 refine aw_region ?_
 refine zst (op_alloc (Zr77) (by rfl)) rfl (by dsimp only [zS, zN, zH, zT]) ?_
 refine zst (op_assign_const (by rfl)) rfl (by dsimp only [zS, zN, zH, zT]) ?_
 refine al_end rfl ?_
 refine then_normal ?_
 refine aw_seq ?_
 refine aw_region ?_
 refine zst (op_move_tmp (by rfl)) rfl (by dsimp only [zS, zN, zH, zT]) ?_
 refine zst (op_callF Try.func56 (by rfl) (by rfl) (.tmp (by rfl) .nil) (read_ok _ s)) rfl (by dsimp only [zS, zN, zH, zT]) ?_
 refine zst (op_assign_tmp (by rfl)) rfl (by dsimp only [zS, zN, zH, zT]) ?_
 refine al_end rfl ?_
 refine then_normal ?_
 refine aw_seq ?_
 refine aw_region ?_
 refine zst (op_move_tmp (by rfl)) rfl (by dsimp only [zS, zN, zH, zT]) ?_
 refine zst (by first | exact op_buildD (pl := [(0, 1), (1, 1)]) _ Try.underlying77 Zr77 (by kernel_rfl) (by rfl) (by rfl) (by rfl) (by simp [DV.one, S, I, TF, BY]) | exact op_build (pl := [(0, 1), (1, 1)]) Try.underlying77 Zr77 (by kernel_rfl) (by rfl) (by rfl) (by rfl)) rfl (by dsimp only [zS, zN, zH, zT]) ?_
 refine zst (op_alloc (Zr77) (by rfl)) rfl (by dsimp only [zS, zN, zH, zT]) ?_
 refine zst (op_storeB (vs := [.d (S name), nilS]) (b' := ⟨77, [.d (S name), nilS], false⟩) (H' := _) Sz77 (by rfl) push_at (by intro h; cases h) (by rfl) (by rfl) (Nat.le_of_ble_eq_true rfl) (by simp [AV.one, DV.one, TF, S, I, BY]) (by rfl) (by rfl) rfl) rfl (by dsimp only [zS, zN, zH, zT]) ?_
 refine al_end rfl ?_
 refine then_normal ?_
 refine aw_seq ?_
 apply aw_cutF (fun T H => ∃ (v : AV) (t : Option Nat), T = [.un, .un, .un, .un, .ptr Hs.nb 0, .un, .ptr (Hs.nb + 1) 0, .ptr (Hs.nb + 2) 0, .un, .un, .un, .un, .un, .d (I q), .d (I 0), .un, .un, .un, .un, .un, .un, .un, .un, .un, .un, .un, .un, .un, .un, .un, .un, .un, .un, .un, .un, .un, .un, .un, .un] ∧ DecS Hs 77 179 H name v t [] st0)
 ·
  refine aw_region ?_
  refine zst (op_move_tmp (by rfl)) rfl (by dsimp only [zS, zN, zH, zT]) ?_
  refine zst (op_callF Try.func57 (by rfl) (by rfl) (.tmp (by rfl) (.const (by rfl) .nil)) (num_at hr (by rw [setB_ne (by simp only [push_nb, ne_eq]; omega)]; exact push_ne push_at) (by decide))) rfl (by dsimp only [zS, zN, zH, zT]) ?_
  refine zst (op_move_const (by rfl)) rfl (by dsimp only [zS, zN, zH, zT]) ?_
  refine al_end rfl ?_
  apply cut_to [false, false, false, false, true, false, true, true, false, false, false, false, false, true, true, false, false, false, false, false, false, false, false, false, false, false, false, false, false, false, false, false, false, false, false, false, false, false, false]
  · (try dsimp only [maskT]); try exact rfl
  · rfl
  exact ⟨nilS, none, by (simp only [push_nb]) <;> rfl, by subst hst0; simp only [push_nb]; exact DecS.start Hs 77 179 name s _ _ _ _ _⟩
 rintro T H ⟨v, t, rfl, hd⟩
 refine aw_block ?_
 apply aw_loopF (fun n T H => ∃ (k : Nat) (v : AV) (t : Option Nat), T = [.un, .un, .un, .un, .ptr Hs.nb 0, .un, .ptr (Hs.nb + 1) 0, .ptr (Hs.nb + 2) 0, .un, .un, .un, .un, .un, .d (I q), .d (I k), .un, .un, .un, .un, .un, .un, .un, .un, .un, .un, .un, .un, .un, .un, .un, .un, .un, .un, .un, .un, .un, .un, .un, .un] ∧ k ≤ q ∧ n = q - k ∧ DecS Hs 77 179 H name v t (rIxs k st0).1 (rIxs k st0).2) (q) [false, false, false, false, true, false, true, true, false, false, false, false, false, true, true, false, false, false, false, false, false, false, false, false, false, false, false, false, false, false, false, false, false, false, false, false, false, false, false]
 · (try dsimp only [maskT]); try exact rfl
 · rfl
 · exact ⟨0, _, _, rfl, by omega, rfl, hd⟩
 rintro n T H ⟨k, v, t, rfl, hk, rfl, hd⟩
 refine aw_seq ?_
 refine aw_region ?_
 refine zst (op_ltI (by rfl) (by rfl)) rfl (by dsimp only [zS, zN, zH, zT]) ?_
 refine al_end rfl ?_
 refine then_normal ?_
 refine aw_seq ?_
 refine aw_cond rfl (fun hc1 => ?_) (fun hc1 => ?_)
 ·
  (try simp only [y1, y2, y3, y4, y5, y6, y7, y8, y9, y0, List.length_map] at hc1)
  have hlt : k < q := by omega
  have hlx := rIxs_len k st0
  refine aw_skip ?_
  refine then_normal ?_
  refine aw_seq ?_
  refine aw_block ?_
  refine aw_drawX (fun K => K.blks[Hs.nb + 2]? = some ⟨77, [.d (S name), v], false⟩) [0, 0, 0, 2, 0, 2, 0, 2, 0, 0, 2, 0, 2] mixed (by kernel_rfl) (hd.e3) (.inr (by kernel_rfl)) ?_
  apply drun0X
  · intro H hPhi; first | exact op_fieldAddr_ptr Try.underlying77 rfl Sz75 (by rfl) (by rfl) | exact op_fieldAddr_elt Try.underlying77 rfl Sz75 (by rfl) (by rfl) (by rfl)
  · rfl
  apply drun_normT
  · (try dsimp only [zS, zN, zH, zT]); try exact rfl
  apply drun0X
  · intro H hPhi; first | exact op_load_elt Try.underlying75 (by rfl) (by rfl) (by rfl) | exact op_load_ptr Try.underlying75 (by rfl) (by rfl) (by first | exact hPhi | exact hd.e3) (by rfl)
  · rfl
  apply drun_normT
  · (try dsimp only [zS, zN, zH, zT]); try exact rfl
  apply drun0X
  · intro H hPhi; exact op_move_tmp (by rfl)
  · rfl
  apply drun_normT
  · (try dsimp only [zS, zN, zH, zT]); try exact rfl
  apply drun2X
  · exact op_callF Try.func58 (by rfl) (by rfl) (.tmp (by rfl) (.const (by rfl) .nil)) (rtext_ok _ _ (rIxs k st0).2.1 (rIxs k st0).2.2 40 hd.e2 (by decide))
  · rfl
  · refine .inr ?_; simp only [HS.up_blks, setB_ne (show Hs.nb + 2 ≠ Hs.nb + 1 by omega)]; exact hd.e3
  apply drun_normT
  · (try dsimp only [zS, zN, zH, zT]); try exact rfl
  apply drun0X
  · intro H hPhi; exact op_move_tmp (by rfl)
  · rfl
  apply drun_normT
  · (try dsimp only [zS, zN, zH, zT]); try exact rfl
  apply drun2X
  · exact op_callF Try.func58 (by rfl) (by rfl) (.tmp (by rfl) (.const (by rfl) .nil)) (rtext_ok _ _ _ _ 40 (setB_at hd.e2) (by decide))
  · rfl
  · refine .inr ?_; simp only [HS.up_blks, setB_ne (show Hs.nb + 2 ≠ Hs.nb + 1 by omega)]; exact hd.e3
  apply drun_normT
  · (try dsimp only [zS, zN, zH, zT]); try exact rfl
  apply drun0X
  · intro H hPhi; exact op_move_tmp (by rfl)
  · rfl
  apply drun_normT
  · (try dsimp only [zS, zN, zH, zT]); try exact rfl
  apply drun2X
  · exact op_callF Try.func71 (by rfl) (by rfl) (.tmp (by rfl) .nil) (rflag_ok _ _ _ _ (setB_at (setB_at hd.e2)))
  · rfl
  · refine .inr ?_; simp only [HS.up_blks, setB_ne (show Hs.nb + 2 ≠ Hs.nb + 1 by omega)]; exact hd.e3
  apply drun_normT
  · (try dsimp only [zS, zN, zH, zT]); try exact rfl
  apply drun0X
  · intro H hPhi; exact op_buildD (pl := [(0, 1), (1, 1), (2, 1)]) (ixC (rIx (rIxs k st0).2).1) Try.underlying88 Zr88 (by kernel_rfl) (by rfl) (by rfl) (by rfl) (by simp [ixC, DV.one, S, TF])
  · rfl
  apply drun_normT
  · (try dsimp only [zS, zN, zH, zT]); try exact rfl
  apply drun0X
  · intro H hPhi; exact op_lit Try.underlying75 ZS88 (.cons (y := ixD (rIx (rIxs k st0).2).1) (by rfl) (.nil _)) (by rfl) (by simp [ixD, ixC, DV.cells]) (by simp [flat, ixD, ixC, S, TF, DV.cells, DV.one]) (by decide)
  · rfl
  apply drun_normT
  · (try dsimp only [zS, zN, zH, zT]); try exact rfl
  apply drun2X
  · exact op_append Try.underlying75 Inf88 (by rfl) hd.app (.list _ _ _ _ Try.underlying75 (LL.own _ _ _)) (by rw [List.length_map]; exact hd.ok) (by simp) (by simp; omega) (by simp; omega)
  · rfl
  · refine .inr ?_; simp only [HS.up_blks, setB_ne (show Hs.nb + 2 ≠ Hs.nb + 1 by omega)]; exact hd.e3
  apply drun_normT
  · (try dsimp only [zS, zN, zH, zT]); try exact rfl
  apply drun0X
  · intro H hPhi; first | exact op_fieldAddr_ptr Try.underlying77 rfl Sz75 (by rfl) (by rfl) | exact op_fieldAddr_elt Try.underlying77 rfl Sz75 (by rfl) (by rfl) (by rfl)
  · rfl
  apply drun_normT
  · (try dsimp only [zS, zN, zH, zT]); try exact rfl
  apply drun2X
  · exact op_storeB (vs := [.own _ 3 _]) (b' := ⟨77, [.d (S name), .own _ 3 _], false⟩) (H' := _) Sz75 (by rfl) (by rw [HS.up_blks, setB_ne (by omega), setB_ne (by omega), setB_ne (by omega)]; exact hd.e3) (by intro h; cases h) (by rfl) (by rfl) (Nat.le_of_ble_eq_true rfl) (by simp [AV.one, DV.one, TF, S, I, BY]) (by rfl) (by rfl) rfl
  · rfl
  · exact .inl rfl
  apply drun_normT
  · (try dsimp only [zS, zN, zH, zT]); try exact rfl
  refine drun_end rfl ?_
  refine inBlock_normal (then_normal ?_)
  refine aw_region ?_
  refine zst (by first | exact op_add (by rfl) (by rfl) (wrap_i64 ⟨by omega, by omega⟩) | exact op_add (by rfl) (by rfl) (by rfl)) rfl (by dsimp only [zS, zN, zH, zT]) ?_
  refine zst (op_move_tmp (by rfl)) rfl (by dsimp only [zS, zN, zH, zT]) ?_
  refine al_end rfl ?_
  apply again_to (q - (k + 1)) [false, false, false, false, true, false, true, true, false, false, false, false, false, true, true, false, false, false, false, false, false, false, false, false, false, false, false, false, false, false, false, false, false, false, false, false, false, false, false]
  · (try dsimp only [maskT]); try exact rfl
  · rfl
  · omega
  exact ⟨k + 1, _, _, rfl, by omega, rfl, hd.step (by simp)⟩
 ·
  (try simp only [y1, y2, y3, y4, y5, y6, y7, y8, y9, y0, List.length_map] at hc1)
  have hke : q = k := by omega
  subst hke
  refine aw_exit ?_
  refine then_exit (again_exit (inBlock_here (then_normal ?_)))
  refine aw_seq ?_
  refine aw_seq ?_
  refine aw_region ?_
  refine zst (op_move_tmp (by rfl)) rfl (by dsimp only [zS, zN, zH, zT]) ?_
  refine zst (op_callF Try.func59 (by rfl) (by rfl) (.tmp (by rfl) .nil) (end_ok _ _ (rIxs q st0).2.1 (rIxs q st0).2.2 hd.e2)) rfl (by dsimp only [zS, zN, zH, zT]) ?_
  refine zst (op_neI (by rfl) (by rfl)) rfl (by dsimp only [zS, zN, zH, zT]) ?_
  refine zst (op_move_tmp (by rfl)) rfl (by dsimp only [zS, zN, zH, zT]) ?_
  refine al_split 32 rfl (fun hg2 => ?_) (fun hg2 => ?_)
  ·
   (try simp only [y1, y2, y3, y4, y5, y6, y7, y8, y9, y0, List.length_map] at hg2)
   have hne : ¬ rEnd (rIxs q st0).2 = 0 := hg2
   apply al_normT
   · (try dsimp only [zS, zN, zH, zT]); try exact rfl
   refine zuw rfl rfl rfl rfl (by dsimp only [zS, zN, zH, zT]) ?_
   refine zuw rfl rfl rfl rfl (by dsimp only [zS, zN, zH, zT]) ?_
   refine zuw rfl rfl rfl rfl (by dsimp only [zS, zN, zH, zT]) ?_
   refine zst (op_pick_tt (by rfl) (val_const (by rfl))) rfl (by dsimp only [zS, zN, zH, zT]) ?_
   refine al_end rfl ?_
   refine then_normal ?_
   refine aw_cond rfl (fun _ => ?_) (fun h => by cases h)
   refine aw_seq ?_
   refine aw_region ?_
   refine zst (by first | exact op_buildD (pl := [(0, 1), (1, 1)]) _ Try.underlying77 Zr77 (by kernel_rfl) (by rfl) (by rfl) (by rfl) (by simp [DV.one, S, I, TF, BY]) | exact op_build (pl := [(0, 1), (1, 1)]) Try.underlying77 Zr77 (by kernel_rfl) (by rfl) (by rfl) (by rfl)) rfl (by dsimp only [zS, zN, zH, zT]) ?_
   refine zst (op_storeB (vs := [.d (S []), nilS]) (b' := ⟨77, [.d (S []), nilS], false⟩) (H' := _) Sz77 (by rfl) (hd.e1.choose_spec.choose_spec) (by intro h; cases h) (by rfl) (by rfl) (Nat.le_of_ble_eq_true rfl) (by simp [AV.one, DV.one, TF, S, I, BY]) (by rfl) (by rfl) rfl) rfl (by dsimp only [zS, zN, zH, zT]) ?_
   refine zst (op_assign_const (by rfl)) rfl (by dsimp only [zS, zN, zH, zT]) ?_
   refine al_end rfl ?_
   refine then_normal ?_
   refine aw_ret ?_
   refine then_ret ?_
   refine retC2 rfl (.cells Try.underlying77 (by rfl) Sz77 (by rfl) (setB_at hd.e1.choose_spec.choose_spec) (Nat.le_of_ble_eq_true rfl) (by rfl)) (.tmp (by rfl)) ?_
   have e : decOk name s = false := by simp [decOk, hdec, hne]
   exact ⟨_, by simp only [decErr, e]; rfl, by simp only [decName, decIxs, e]; exact Weak.aggD (.cons (Weak.refl _) (.cons (Weak.nil 3) .nil)) (by simp [DV.one, S]), hd.ext.setB (Nat.le_refl _)⟩
  ·
   (try simp only [y1, y2, y3, y4, y5, y6, y7, y8, y9, y0, List.length_map] at hg2)
   have heq : rEnd (rIxs q st0).2 = 0 := by simpa using hg2
   apply al_normT
   · (try dsimp only [zS, zN, zH, zT]); try exact rfl
   refine zsw rfl rfl rfl (op_load_ptrsW (off := 0) [S name, .lst 3 ((rIxs q st0).1.map ixD)] Try.underlying77 (by rfl) Sz77 (by rfl) hd.e3 (Nat.le_of_ble_eq_true rfl) (.cons (Weak.refl _) (.cons (Weak.lst hd.app) .nil)) (by simp [DV.one, S])) (by dsimp only [zS, zN, zH, zT]) ?_
   refine zsw rfl rfl rfl (op_callF Try.func33 (by rfl) (by rfl) (.tmp (by rfl) .nil) (cright_ok _ name (rIxs q st0).1)) (by dsimp only [zS, zN, zH, zT]) ?_
   refine zsw rfl rfl rfl (op_not (by rfl)) (by dsimp only [zS, zN, zH, zT]) ?_
   refine zst (op_pick_ff (by rfl) (val_tmp (by rfl))) rfl (by dsimp only [zS, zN, zH, zT]) ?_
   refine al_end rfl ?_
   refine then_normal ?_
   refine aw_cond rfl (fun hc4 => ?_) (fun hc4 => ?_)
   ·
    (try simp only [y1, y2, y3, y4, y5, y6, y7, y8, y9, y0, List.length_map] at hc4)
    have hrt : rightC name (rIxs q st0).1 = false := by simpa using hc4
    refine aw_seq ?_
    refine aw_region ?_
    refine zst (by first | exact op_buildD (pl := [(0, 1), (1, 1)]) _ Try.underlying77 Zr77 (by kernel_rfl) (by rfl) (by rfl) (by rfl) (by simp [DV.one, S, I, TF, BY]) | exact op_build (pl := [(0, 1), (1, 1)]) Try.underlying77 Zr77 (by kernel_rfl) (by rfl) (by rfl) (by rfl)) rfl (by dsimp only [zS, zN, zH, zT]) ?_
    refine zst (op_storeB (vs := [.d (S []), nilS]) (b' := ⟨77, [.d (S []), nilS], false⟩) (H' := _) Sz77 (by rfl) (hd.e1.choose_spec.choose_spec) (by intro h; cases h) (by rfl) (by rfl) (Nat.le_of_ble_eq_true rfl) (by simp [AV.one, DV.one, TF, S, I, BY]) (by rfl) (by rfl) rfl) rfl (by dsimp only [zS, zN, zH, zT]) ?_
    refine zst (op_assign_const (by rfl)) rfl (by dsimp only [zS, zN, zH, zT]) ?_
    refine al_end rfl ?_
    refine then_normal ?_
    refine aw_ret ?_
    refine then_ret ?_
    refine retC2 rfl (.cells Try.underlying77 (by rfl) Sz77 (by rfl) (setB_at hd.e1.choose_spec.choose_spec) (Nat.le_of_ble_eq_true rfl) (by rfl)) (.tmp (by rfl)) ?_
    have e : decOk name s = false := by simp [decOk, hdec, heq, hrt]
    exact ⟨_, by simp only [decErr, e]; rfl, by simp only [decName, decIxs, e]; exact Weak.aggD (.cons (Weak.refl _) (.cons (Weak.nil 3) .nil)) (by simp [DV.one, S]), hd.ext.setB (Nat.le_refl _)⟩
   ·
    (try simp only [y1, y2, y3, y4, y5, y6, y7, y8, y9, y0, List.length_map] at hc4)
    have hrt : rightC name (rIxs q st0).1 = true := by simpa using hc4
    refine aw_skip ?_
    refine then_normal ?_
    refine aw_seq ?_
    refine aw_region ?_
    refine zst (op_load_ptrsW (off := 0) [S name, .lst 3 ((rIxs q st0).1.map ixD)] Try.underlying77 (by rfl) Sz77 (by rfl) hd.e3 (Nat.le_of_ble_eq_true rfl) (.cons (Weak.refl _) (.cons (Weak.lst hd.app) .nil)) (by simp [DV.one, S])) rfl (by dsimp only [zS, zN, zH, zT]) ?_
    refine zst (op_storeB (vs := [.d (S name), .d (.lst 3 ((rIxs q st0).1.map ixD))]) (b' := ⟨77, [.d (S name), .d (.lst 3 ((rIxs q st0).1.map ixD))], false⟩) (H' := _) Sz77 (by rfl) (hd.e1.choose_spec.choose_spec) (by intro h; cases h) (by rfl) (by rfl) (Nat.le_of_ble_eq_true rfl) (by simp [AV.one, DV.one, TF, S, I, BY]) (by rfl) (by rfl) rfl) rfl (by dsimp only [zS, zN, zH, zT]) ?_
    refine zst (op_assign_const (by rfl)) rfl (by dsimp only [zS, zN, zH, zT]) ?_
    refine al_end rfl ?_
    refine then_normal ?_
    refine aw_ret ?_
    refine retC2 rfl (.cells Try.underlying77 (by rfl) Sz77 (by rfl) (setB_at hd.e1.choose_spec.choose_spec) (Nat.le_of_ble_eq_true rfl) (by rfl)) (.tmp (by rfl)) ?_
    have e : decOk name s = true := by simp [decOk, hdec, heq, hrt]
    exact ⟨_, by simp only [decErr, e]; rfl, by simp only [decName, decIxs, e, hdec, if_true]; exact Weak.aggD (.cons (Weak.refl _) (.cons (Weak.refl _) .nil)) (by simp [DV.one, S]), hd.ext.setB (Nat.le_refl _)⟩
end Go.Proofs.Ytjbpfnoibeogbaa
namespace Go.AV.Sch
open Go.AV.Ord Go.AV.Oct
theorem nameB_len {s : List UInt8} (h : nameB s = true) : s ≠ [] ∧ s.length ≤ 40 := by
  simp only [nameB, Bool.and_eq_true, Bool.not_eq_true', decide_eq_true_eq] at h
  exact ⟨by intro e; rw [e] at h; exact absurd h.1 (by decide), h.2⟩
theorem right_at {name : List UInt8} {xs : List Ix} (h : rightC name xs = true) {k : Nat} {x : Ix} (hx : xs[k]? = some x) : rightIx xs k x = true := by
  rw [rightC_eq, Bool.and_eq_true, List.all_eq_true] at h
  have hk : k < xs.length := (List.getElem?_eq_some_iff.1 hx).1
  have := h.2 k (List.mem_range.2 hk)
  rwa [rightAt_some hx] at this
theorem right_ix {name : List UInt8} {xs : List Ix} (h : rightC name xs = true) : ∀ x ∈ xs, x.name ≠ [] ∧ x.name.length ≤ 40 ∧ x.field.length ≤ 40 := fun x hx => by
  obtain ⟨k, hk, rfl⟩ := List.getElem_of_mem hx
  have := right_at h (List.getElem?_eq_getElem hk)
  simp only [rightIx, Bool.and_eq_true, decide_eq_true_eq] at this
  exact ⟨(nameB_len this.1.1).1, (nameB_len this.1.1).2, this.1.2⟩
theorem textB_short {s : List UInt8} (h : s.length ≤ 40) : (textB s).length ≤ 50 := by
  have := szN_8 (n := s.length) (by omega)
  simp [textB, numB_len]
  simp at this
  omega
theorem ixB_short {x : Ix} (h1 : x.name.length ≤ 40) (h2 : x.field.length ≤ 40) : (ixB x).length ≤ 101 := by
  have a := textB_short h1
  have b := textB_short h2
  simp [ixB, flagB]
  omega
theorem flat_short : ∀ (xs : List Ix), (∀ x ∈ xs, x.name ≠ [] ∧ x.name.length ≤ 40 ∧ x.field.length ≤ 40) → (xs.flatMap ixB).length ≤ 101 * xs.length
  | [], _ => by simp
  | x :: xs, h => by
    have h1 := h x (by simp)
    have h2 := ixB_short h1.2.1 h1.2.2
    have h3 := flat_short xs fun y hy => h y (by simp [hy])
    simp only [List.flatMap_cons, List.length_append, List.length_cons]
    omega
theorem right_bounds {name : List UInt8} {xs : List Ix} (h : rightC name xs = true) : xs.length ≤ 8 ∧ name.length ≤ 40 ∧ (encC xs).length ≤ 1000 := by
  have h0 := h
  rw [rightC_eq] at h
  simp only [Bool.and_eq_true, decide_eq_true_eq] at h
  have h1 := flat_short xs (right_ix h0)
  have h2 := szN_8 (n := xs.length) (by omega)
  refine ⟨h.1.2, (nameB_len h.1.1).2, ?_⟩
  simp only [encC, List.length_append, numB_len]
  simp at h2
  omega
theorem ckey_short {name : List UInt8} (h : name.length ≤ 40) : (keyL [[99], name]).length ≤ 400 := by
  have := keyL_le [[99], name]
  simp at this
  omega
theorem rIx_fwd {x : Ix} (r : List UInt8) (h1 : x.name.length ≤ 40) (h2 : x.field.length ≤ 40) : rIx (ixB x ++ r, false) = (x, (r, false)) := by
  have a := rText_fwd (most := 40) (s := x.name) (textB x.field ++ (flagB x.uniq ++ r)) (by decide) (by omega)
  have b := rText_fwd (most := 40) (s := x.field) (flagB x.uniq ++ r) (by decide) (by omega)
  have c := rFlag_fwd x.uniq r
  have e : ixB x ++ r = textB x.name ++ (textB x.field ++ (flagB x.uniq ++ r)) := by simp [ixB]
  unfold rIx
  simp only [e, a, b, c]
theorem rIxs_take (xs : List Ix) (h : ∀ x ∈ xs, x.name.length ≤ 40 ∧ x.field.length ≤ 40) : ∀ (k : Nat) (r : List UInt8), k ≤ xs.length → rIxs k ((xs.take k).flatMap ixB ++ r, false) = (xs.take k, (r, false))
  | 0, r, _ => rfl
  | k + 1, r, hk => by
    obtain ⟨x, hx⟩ : ∃ x, xs[k]? = some x := ⟨_, List.getElem?_eq_getElem (by omega)⟩
    have h1 := h x (List.mem_of_getElem? hx)
    rw [take_snoc hx, List.flatMap_append, List.append_assoc, List.flatMap_cons, List.flatMap_nil, List.append_nil]
    have ih := rIxs_take xs h k (ixB x ++ r) (by omega)
    show (let q := rIxs k _; let y := rIx q.2; (q.1 ++ [y.1], y.2)) = _
    simp only [ih, rIx_fwd r h1.1 h1.2]
theorem rIxs_fwd (xs : List Ix) (r : List UInt8) (h : ∀ x ∈ xs, x.name.length ≤ 40 ∧ x.field.length ≤ 40) : rIxs xs.length (xs.flatMap ixB ++ r, false) = (xs, (r, false)) := by
  have := rIxs_take xs h xs.length r (Nat.le_refl _)
  rwa [List.take_length] at this
theorem decC_fwd {xs : List Ix} (r : List UInt8) (h8 : xs.length ≤ 8) (h : ∀ x ∈ xs, x.name.length ≤ 40 ∧ x.field.length ≤ 40) : decC (encC xs ++ r) = (xs, (r, false)) := by
  unfold decC encC
  have a := rNum_fwd (most := 8) (x := xs.length) (xs.flatMap ixB ++ r) (by have := szN_8 (n := xs.length) (by omega); simpa using this) (by omega)
  rw [List.append_assoc, a]
  exact rIxs_fwd xs r h
end Go.AV.Sch
namespace Go.Proofs.Ytjbpfnoibeogbaa
open Go.AV Go.AV.Ord Go.AV.Oct Go.AV.Hist Go.AV.Sb Go.AV.Sch
set_option linter.unusedVariables false
set_option linter.unusedSimpArgs false
set_option maxRecDepth 100000 in
theorem make_bad (Hs : HS) (tid sid : Nat) (lv : AV) (name : List UInt8) (xs : List Ix) (hr : rightC name xs = false) : ACalls Try.prog 28 [.ptr tid 0, .d (.agg [S name, .lst 3 (xs.map ixD)])] Hs (Ret (.d (I 1)) Hs) := by
 refine acalls_of_aw Try.func28 rfl ?_
 refine aw_start (T' := [.ptr tid 0, .d (.agg [S name, .lst 3 (xs.map ixD)]), .un, .un, .un, .un, .un, .un, .un, .un, .un, .un, .un, .un, .un, .un, .un, .un, .un, .un, .un, .un, .un, .un]) rfl ?_
 refine aw_seq ?_
 refine aw_region ?_
 refine zst (op_box_elt (cs := [S name, .lst 3 (xs.map ixD)]) (by rfl) (by rfl)) rfl (by dsimp only [zS, zN, zH, zT]) ?_
 refine zst (op_assign_const (by rfl)) rfl (by dsimp only [zS, zN, zH, zT]) ?_
 refine al_end rfl ?_
 refine then_normal ?_
 refine aw_seq ?_
 refine aw_seq ?_
 refine aw_region ?_
 refine zst (op_load_elts (ds := [S name, .lst 3 (xs.map ixD)]) Try.underlying77 (by rfl) Sz77 (by rfl) (Nat.le_of_ble_eq_true rfl) (by rfl)) rfl (by dsimp only [zS, zN, zH, zT]) ?_
 refine zst (op_callF Try.func33 (by rfl) (by rfl) (.tmp (by rfl) .nil) (cright_ok _ name xs)) rfl (by dsimp only [zS, zN, zH, zT]) ?_
 refine zst (op_not (by rfl)) rfl (by dsimp only [zS, zN, zH, zT]) ?_
 refine al_end rfl ?_
 refine then_normal ?_
 refine aw_cond rfl (fun hc1 => ?_) (fun hc1 => ?_)
 ·
  (try simp only [y1, y2, y3, y4, y5, y6, y7, y8, y9, y0, List.length_map] at hc1)
  refine aw_seq ?_
  refine aw_region ?_
  refine zst (op_assign_const (by rfl)) rfl (by dsimp only [zS, zN, zH, zT]) ?_
  refine al_end rfl ?_
  refine then_normal ?_
  refine aw_ret ?_
  refine then_ret ?_
  refine retPost1 rfl rfl ?_
  exact ⟨rfl, rfl⟩
 ·
  (try simp only [y1, y2, y3, y4, y5, y6, y7, y8, y9, y0, List.length_map] at hc1)
  exact absurd hc1 (by simp [hr])
set_option maxRecDepth 100000 in
theorem make_new (Hs : HS) (tid sid : Nat) (lv : AV) (name : List UInt8) (xs : List Ix) (hT : Hs.blks[tid]? = some ⟨145, [.ptr sid 0, .d (I 0), .d (I 0), .d (I 0), .d (I 0), lv, .d (I 0)], false⟩) (hS : Hs.blks[sid]? = some ⟨134, [nilS, .d (I 0), .d (I 0), nilS], false⟩) (hL : LL lv 1 (lsO none)) (hr : rightC name xs = true) : ACalls Try.prog 28 [.ptr tid 0, .d (.agg [S name, .lst 3 (xs.map ixD)])] Hs (Ret (.d (I 0)) (Hs.setB tid ⟨145, [.ptr sid 0, .d (I 0), .d (I 0), .d (I 0), .d (I 0), .d (.lst 1 (lsO (some ((keyL [[99], name]), ⟨(keyL [[99], name]), encC xs, false⟩)))), .d (I 1)], false⟩)) := by
 have hbd := right_bounds hr
 refine acalls_of_aw Try.func28 rfl ?_
 refine aw_start (T' := [.ptr tid 0, .d (.agg [S name, .lst 3 (xs.map ixD)]), .un, .un, .un, .un, .un, .un, .un, .un, .un, .un, .un, .un, .un, .un, .un, .un, .un, .un, .un, .un, .un, .un]) rfl ?_
 refine aw_seq ?_
 refine aw_region ?_
 refine zst (op_box_elt (cs := [S name, .lst 3 (xs.map ixD)]) (by rfl) (by rfl)) rfl (by dsimp only [zS, zN, zH, zT]) ?_
 refine zst (op_assign_const (by rfl)) rfl (by dsimp only [zS, zN, zH, zT]) ?_
 refine al_end rfl ?_
 refine then_normal ?_
 refine aw_seq ?_
 refine aw_seq ?_
 refine aw_region ?_
 refine zst (op_load_elts (ds := [S name, .lst 3 (xs.map ixD)]) Try.underlying77 (by rfl) Sz77 (by rfl) (Nat.le_of_ble_eq_true rfl) (by rfl)) rfl (by dsimp only [zS, zN, zH, zT]) ?_
 refine zst (op_callF Try.func33 (by rfl) (by rfl) (.tmp (by rfl) .nil) (cright_ok _ name xs)) rfl (by dsimp only [zS, zN, zH, zT]) ?_
 refine zst (op_not (by rfl)) rfl (by dsimp only [zS, zN, zH, zT]) ?_
 refine al_end rfl ?_
 refine then_normal ?_
 refine aw_cond rfl (fun hc1 => ?_) (fun hc1 => ?_)
 ·
  (try simp only [y1, y2, y3, y4, y5, y6, y7, y8, y9, y0, List.length_map] at hc1)
  exact absurd hc1 (by simp [hr])
 ·
  (try simp only [y1, y2, y3, y4, y5, y6, y7, y8, y9, y0, List.length_map] at hc1)
  refine aw_skip ?_
  refine then_normal ?_
  refine aw_seq ?_
  refine aw_seq ?_
  refine aw_region ?_
  refine zst (op_move_tmp (by rfl)) rfl (by dsimp only [zS, zN, zH, zT]) ?_
  refine zst (op_load_elts (ds := [S name, .lst 3 (xs.map ixD)]) Try.underlying77 (by rfl) Sz77 (by rfl) (Nat.le_of_ble_eq_true rfl) (by rfl)) rfl (by dsimp only [zS, zN, zH, zT]) ?_
  refine zst (op_callF Try.func60 (by rfl) (by rfl) (.tmp (by rfl) .nil) (ckey_ok _ name (.lst 3 (xs.map ixD)) (by omega))) rfl (by dsimp only [zS, zN, zH, zT]) ?_
  refine zst (op_callF Try.func64 (by rfl) (by rfl) (.tmp (by rfl) (.tmp (by rfl) .nil)) (txget_ok _ tid sid lv 0 none (keyL [[99], name]) hT hS hL (fun _ _ h => by cases h))) rfl (by dsimp only [zS, zN, zH, zT]) ?_
  refine zst (op_move_tmp (by rfl)) rfl (by dsimp only [zS, zN, zH, zT]) ?_
  refine zst (op_extract (by rfl) (by rfl)) rfl (by dsimp only [zS, zN, zH, zT]) ?_
  refine zst (op_extract (by rfl) (by rfl)) rfl (by dsimp only [zS, zN, zH, zT]) ?_
  refine zst (op_assign_tmp (by rfl)) rfl (by dsimp only [zS, zN, zH, zT]) ?_
  refine zst (op_assign_tmp (by rfl)) rfl (by dsimp only [zS, zN, zH, zT]) ?_
  refine al_end rfl ?_
  refine then_normal ?_
  refine aw_seq ?_
  refine aw_region ?_
  refine zst (op_move_tmp (by rfl)) rfl (by dsimp only [zS, zN, zH, zT]) ?_
  refine al_end rfl ?_
  refine then_normal ?_
  refine aw_cond rfl (fun h => by cases h) (fun _ => ?_)
  refine aw_skip ?_
  refine then_normal ?_
  refine aw_seq ?_
  refine aw_draw [0, 0, 0, 0, 0, 2, 0] mixed (by kernel_rfl) ?_
  refine zd0 (fun H => (op_move_tmp (by rfl))) rfl (by dsimp only [zS, zN, zH, zT]) ?_
  refine zd0 (fun H => (op_load_elts (ds := [S name, .lst 3 (xs.map ixD)]) Try.underlying77 (by rfl) Sz77 (by rfl) (Nat.le_of_ble_eq_true rfl) (by rfl))) rfl (by dsimp only [zS, zN, zH, zT]) ?_
  refine zd0 (fun H => (op_callF Try.func60 (by rfl) (by rfl) (.tmp (by rfl) .nil) (ckey_ok _ name (.lst 3 (xs.map ixD)) (by omega)))) rfl (by dsimp only [zS, zN, zH, zT]) ?_
  refine zd0 (fun H => (op_load_elts (ds := [S name, .lst 3 (xs.map ixD)]) Try.underlying77 (by rfl) Sz77 (by rfl) (Nat.le_of_ble_eq_true rfl) (by rfl))) rfl (by dsimp only [zS, zN, zH, zT]) ?_
  refine zd0 (fun H => (op_callF Try.func34 (by rfl) (by rfl) (.tmp (by rfl) .nil) (cenc_ok _ name xs (by omega) (by omega)))) rfl (by dsimp only [zS, zN, zH, zT]) ?_
  refine zd2 (op_callF Try.func65 (by rfl) (by rfl) (.tmp (by rfl) (.tmp (by rfl) (.tmp (by rfl) .nil))) (txput_ok _ tid sid lv (keyL [[99], name]) (encC xs) hT hS hL keyL_ne (ckey_short hbd.2.1) (by omega))) rfl (by dsimp only [zS, zN, zH, zT]) ?_
  refine zd0 (fun H => (op_assign_tmp (by rfl))) rfl (by dsimp only [zS, zN, zH, zT]) ?_
  refine drun_end rfl ?_
  refine then_normal ?_
  refine aw_ret ?_
  refine retPost1 rfl rfl ?_
  exact ⟨rfl, rfl⟩
set_option maxRecDepth 100000 in
theorem make_twice (Hs : HS) (tid sid : Nat) (lv : AV) (sz : Int) (o : TO) (name : List UInt8) (xs : List Ix) (hT : Hs.blks[tid]? = some ⟨145, [.ptr sid 0, .d (I 0), .d (I 0), .d (I 0), .d (I 0), lv, .d (I sz)], false⟩) (hS : Hs.blks[sid]? = some ⟨134, [nilS, .d (I 0), .d (I 0), nilS], false⟩) (hL : LL lv 1 (lsO o)) (hgo : ∀ k w, o = some (k, w) → w.gone = false) (hf : (foundO o (keyL [[99], name])).isSome = true) (hr : rightC name xs = true) : ACalls Try.prog 28 [.ptr tid 0, .d (.agg [S name, .lst 3 (xs.map ixD)])] Hs (Ret (.d (I 6)) Hs) := by
 have hbd := right_bounds hr
 refine acalls_of_aw Try.func28 rfl ?_
 refine aw_start (T' := [.ptr tid 0, .d (.agg [S name, .lst 3 (xs.map ixD)]), .un, .un, .un, .un, .un, .un, .un, .un, .un, .un, .un, .un, .un, .un, .un, .un, .un, .un, .un, .un, .un, .un]) rfl ?_
 refine aw_seq ?_
 refine aw_region ?_
 refine zst (op_box_elt (cs := [S name, .lst 3 (xs.map ixD)]) (by rfl) (by rfl)) rfl (by dsimp only [zS, zN, zH, zT]) ?_
 refine zst (op_assign_const (by rfl)) rfl (by dsimp only [zS, zN, zH, zT]) ?_
 refine al_end rfl ?_
 refine then_normal ?_
 refine aw_seq ?_
 refine aw_seq ?_
 refine aw_region ?_
 refine zst (op_load_elts (ds := [S name, .lst 3 (xs.map ixD)]) Try.underlying77 (by rfl) Sz77 (by rfl) (Nat.le_of_ble_eq_true rfl) (by rfl)) rfl (by dsimp only [zS, zN, zH, zT]) ?_
 refine zst (op_callF Try.func33 (by rfl) (by rfl) (.tmp (by rfl) .nil) (cright_ok _ name xs)) rfl (by dsimp only [zS, zN, zH, zT]) ?_
 refine zst (op_not (by rfl)) rfl (by dsimp only [zS, zN, zH, zT]) ?_
 refine al_end rfl ?_
 refine then_normal ?_
 refine aw_cond rfl (fun hc1 => ?_) (fun hc1 => ?_)
 ·
  (try simp only [y1, y2, y3, y4, y5, y6, y7, y8, y9, y0, List.length_map] at hc1)
  exact absurd hc1 (by simp [hr])
 ·
  (try simp only [y1, y2, y3, y4, y5, y6, y7, y8, y9, y0, List.length_map] at hc1)
  refine aw_skip ?_
  refine then_normal ?_
  refine aw_seq ?_
  refine aw_seq ?_
  refine aw_region ?_
  refine zst (op_move_tmp (by rfl)) rfl (by dsimp only [zS, zN, zH, zT]) ?_
  refine zst (op_load_elts (ds := [S name, .lst 3 (xs.map ixD)]) Try.underlying77 (by rfl) Sz77 (by rfl) (Nat.le_of_ble_eq_true rfl) (by rfl)) rfl (by dsimp only [zS, zN, zH, zT]) ?_
  refine zst (op_callF Try.func60 (by rfl) (by rfl) (.tmp (by rfl) .nil) (ckey_ok _ name (.lst 3 (xs.map ixD)) (by omega))) rfl (by dsimp only [zS, zN, zH, zT]) ?_
  refine zst (op_callF Try.func64 (by rfl) (by rfl) (.tmp (by rfl) (.tmp (by rfl) .nil)) (txget_ok _ tid sid lv sz o (keyL [[99], name]) hT hS hL hgo)) rfl (by dsimp only [zS, zN, zH, zT]) ?_
  refine zst (op_move_tmp (by rfl)) rfl (by dsimp only [zS, zN, zH, zT]) ?_
  refine zst (op_extract (by rfl) (by rfl)) rfl (by dsimp only [zS, zN, zH, zT]) ?_
  refine zst (op_extract (by rfl) (by rfl)) rfl (by dsimp only [zS, zN, zH, zT]) ?_
  refine zst (op_assign_tmp (by rfl)) rfl (by dsimp only [zS, zN, zH, zT]) ?_
  refine zst (op_assign_tmp (by rfl)) rfl (by dsimp only [zS, zN, zH, zT]) ?_
  refine al_end rfl ?_
  refine then_normal ?_
  refine aw_seq ?_
  refine aw_region ?_
  refine zst (op_move_tmp (by rfl)) rfl (by dsimp only [zS, zN, zH, zT]) ?_
  refine al_end rfl ?_
  refine then_normal ?_
  refine aw_cond rfl (fun hc2 => ?_) (fun hc2 => ?_)
  ·
   (try simp only [y1, y2, y3, y4, y5, y6, y7, y8, y9, y0, List.length_map] at hc2)
   refine aw_seq ?_
   refine aw_region ?_
   refine zst (op_assign_const (by rfl)) rfl (by dsimp only [zS, zN, zH, zT]) ?_
   refine al_end rfl ?_
   refine then_normal ?_
   refine aw_ret ?_
   refine then_ret ?_
   refine retPost1 rfl rfl ?_
   exact ⟨rfl, rfl⟩
  ·
   (try simp only [y1, y2, y3, y4, y5, y6, y7, y8, y9, y0, List.length_map] at hc2)
   exact absurd hc2 (by rw [hf]; decide)
set_option maxRecDepth 100000 in
theorem of_none (Hs : HS) (tid sid : Nat) (lv : AV) (sz : Int) (o : TO) (name : List UInt8) (hT : Hs.blks[tid]? = some ⟨145, [.ptr sid 0, .d (I 0), .d (I 0), .d (I 0), .d (I 0), lv, .d (I sz)], false⟩) (hS : Hs.blks[sid]? = some ⟨134, [nilS, .d (I 0), .d (I 0), nilS], false⟩) (hL : LL lv 1 (lsO o)) (hgo : ∀ k w, o = some (k, w) → w.gone = false) (hf : foundO o (keyL [[99], name]) = none) (hn : name.length ≤ 1000000) : ACalls Try.prog 30 [.ptr tid 0, .d (S name)] Hs (Ret (.tup [.d (.agg [S [], .lst 3 []]), .d (I 5)]) Hs) := by
 refine ACalls.tidyT (xs := [.agg [S [], .lst 3 []], I 5]) ?_
 suffices h : ACalls Try.prog 30 [.ptr tid 0, .d (S name)] Hs (fun av H' => ∃ x, av = .tup [x, .d (I 5)] ∧ Weak x (.d (.agg [S [], .lst 3 []])) ∧ Ext Hs H') from h.weak fun v H' ⟨x, h1, h2, h3⟩ => ⟨_, by rw [h1]; exact Weak.tup (.cons h2 (.cons (Weak.refl _) .nil)), rfl, h3⟩
 refine acalls_of_awC Try.func30 rfl ?_
 refine aw_start (T' := [.ptr tid 0, .d (S name), .un, .un, .un, .un, .un, .un, .un, .un, .un, .un, .un, .un, .un, .un, .un, .un, .un, .un, .un, .un, .un, .un]) rfl ?_
 refine aw_seq ?_
 refine aw_region ?_
 refine zst (op_alloc (Zr77) (by rfl)) rfl (by dsimp only [zS, zN, zH, zT]) ?_
 refine zst (op_assign_const (by rfl)) rfl (by dsimp only [zS, zN, zH, zT]) ?_
 refine al_end rfl ?_
 refine then_normal ?_
 refine aw_seq ?_
 refine aw_region ?_
 refine zst (op_move_tmp (by rfl)) rfl (by dsimp only [zS, zN, zH, zT]) ?_
 refine zst (op_move_tmp (by rfl)) rfl (by dsimp only [zS, zN, zH, zT]) ?_
 refine zst (op_buildD (pl := [(0, 1), (1, 1)]) [S name, .v (.slice none 0 0)] Try.underlying77 Zr77 (by kernel_rfl) (by rfl) (by rfl) (by rfl) (by simp [DV.one, S])) rfl (by dsimp only [zS, zN, zH, zT]) ?_
 refine zst (op_callF Try.func60 (by rfl) (by rfl) (.tmp (by rfl) .nil) (ckey_ok _ name (.v (.slice none 0 0)) hn)) rfl (by dsimp only [zS, zN, zH, zT]) ?_
 refine zst (op_callF Try.func64 (by rfl) (by rfl) (.tmp (by rfl) (.tmp (by rfl) .nil)) (txget_ok _ tid sid lv sz o (keyL [[99], name]) (push_ne hT) (push_ne hS) hL hgo)) rfl (by dsimp only [zS, zN, zH, zT]) ?_
 refine zst (op_move_tmp (by rfl)) rfl (by dsimp only [zS, zN, zH, zT]) ?_
 refine zst (op_extract (by rfl) (by rfl)) rfl (by dsimp only [zS, zN, zH, zT]) ?_
 refine zst (op_extract (by rfl) (by rfl)) rfl (by dsimp only [zS, zN, zH, zT]) ?_
 refine zst (op_assign_tmp (by rfl)) rfl (by dsimp only [zS, zN, zH, zT]) ?_
 refine zst (op_assign_tmp (by rfl)) rfl (by dsimp only [zS, zN, zH, zT]) ?_
 refine al_end rfl ?_
 refine then_normal ?_
 refine aw_seq ?_
 refine aw_seq ?_
 refine aw_region ?_
 refine zst (op_move_tmp (by rfl)) rfl (by dsimp only [zS, zN, zH, zT]) ?_
 refine zst (op_not (by rfl)) rfl (by dsimp only [zS, zN, zH, zT]) ?_
 refine al_end rfl ?_
 refine then_normal ?_
 refine aw_cond rfl (fun hc1 => ?_) (fun hc1 => ?_)
 ·
  (try simp only [y1, y2, y3, y4, y5, y6, y7, y8, y9, y0, List.length_map] at hc1)
  refine aw_seq ?_
  refine aw_region ?_
  refine zst (op_buildD (pl := [(0, 1), (1, 1)]) [S [], .v (.slice none 0 0)] Try.underlying77 Zr77 (by kernel_rfl) (by rfl) (by rfl) (by rfl) (by simp [DV.one, S])) rfl (by dsimp only [zS, zN, zH, zT]) ?_
  refine zst (op_storeB (vs := [.d (S []), nilS]) (b' := ⟨77, [.d (S []), nilS], false⟩) (H' := _) Sz77 (by rfl) push_at (by intro h; cases h) (by rfl) (by rfl) (Nat.le_of_ble_eq_true rfl) (by simp [AV.one, DV.one, TF, S, I, BY]) (by rfl) (by rfl) rfl) rfl (by dsimp only [zS, zN, zH, zT]) ?_
  refine zst (op_assign_const (by rfl)) rfl (by dsimp only [zS, zN, zH, zT]) ?_
  refine al_end rfl ?_
  refine then_normal ?_
  refine aw_ret ?_
  refine then_ret ?_
  refine retC2 rfl (.cells Try.underlying77 (by rfl) Sz77 (by rfl) (setB_at push_at) (Nat.le_of_ble_eq_true rfl) (by rfl)) (.tmp (by rfl)) ?_
  exact ⟨_, rfl, Weak.aggD (.cons (Weak.refl _) (.cons (Weak.nil 3) .nil)) (by simp [DV.one, S]), ((Ext.refl Hs).push _ _).setB (Nat.le_refl _)⟩
 ·
  (try simp only [y1, y2, y3, y4, y5, y6, y7, y8, y9, y0, List.length_map] at hc1)
  rw [hf] at hc1
  exact absurd hc1 (by simp)
set_option maxRecDepth 100000 in
theorem of_some (Hs : HS) (tid sid : Nat) (lv : AV) (sz : Int) (o : TO) (name : List UInt8) (hT : Hs.blks[tid]? = some ⟨145, [.ptr sid 0, .d (I 0), .d (I 0), .d (I 0), .d (I 0), lv, .d (I sz)], false⟩) (hS : Hs.blks[sid]? = some ⟨134, [nilS, .d (I 0), .d (I 0), nilS], false⟩) (hL : LL lv 1 (lsO o)) (hgo : ∀ k w, o = some (k, w) → w.gone = false) (w : Wt) (hf : foundO o (keyL [[99], name]) = some w) (hn : name.length ≤ 1000000) : ACalls Try.prog 30 [.ptr tid 0, .d (S name)] Hs (Ret (.tup [.d (.agg [S (decName name w.val), .lst 3 ((decIxs name w.val).map ixD)]), .d (I (decErr name w.val))]) Hs) := by
 refine ACalls.tidyT (xs := [.agg [S (decName name w.val), .lst 3 ((decIxs name w.val).map ixD)], I (decErr name w.val)]) ?_
 suffices h : ACalls Try.prog 30 [.ptr tid 0, .d (S name)] Hs (fun av H' => ∃ x, av = .tup [x, .d (I (decErr name w.val))] ∧ Weak x (.d (.agg [S (decName name w.val), .lst 3 ((decIxs name w.val).map ixD)])) ∧ Ext Hs H') from h.weak fun v H' ⟨x, h1, h2, h3⟩ => ⟨_, by rw [h1]; exact Weak.tup (.cons h2 (.cons (Weak.refl _) .nil)), rfl, h3⟩
 refine acalls_of_awC Try.func30 rfl ?_
 refine aw_start (T' := [.ptr tid 0, .d (S name), .un, .un, .un, .un, .un, .un, .un, .un, .un, .un, .un, .un, .un, .un, .un, .un, .un, .un, .un, .un, .un, .un]) rfl ?_
 refine aw_seq ?_
 refine aw_region ?_
 refine zst (op_alloc (Zr77) (by rfl)) rfl (by dsimp only [zS, zN, zH, zT]) ?_
 refine zst (op_assign_const (by rfl)) rfl (by dsimp only [zS, zN, zH, zT]) ?_
 refine al_end rfl ?_
 refine then_normal ?_
 refine aw_seq ?_
 refine aw_region ?_
 refine zst (op_move_tmp (by rfl)) rfl (by dsimp only [zS, zN, zH, zT]) ?_
 refine zst (op_move_tmp (by rfl)) rfl (by dsimp only [zS, zN, zH, zT]) ?_
 refine zst (op_buildD (pl := [(0, 1), (1, 1)]) [S name, .v (.slice none 0 0)] Try.underlying77 Zr77 (by kernel_rfl) (by rfl) (by rfl) (by rfl) (by simp [DV.one, S])) rfl (by dsimp only [zS, zN, zH, zT]) ?_
 refine zst (op_callF Try.func60 (by rfl) (by rfl) (.tmp (by rfl) .nil) (ckey_ok _ name (.v (.slice none 0 0)) hn)) rfl (by dsimp only [zS, zN, zH, zT]) ?_
 refine zst (op_callF Try.func64 (by rfl) (by rfl) (.tmp (by rfl) (.tmp (by rfl) .nil)) (txget_ok _ tid sid lv sz o (keyL [[99], name]) (push_ne hT) (push_ne hS) hL hgo)) rfl (by dsimp only [zS, zN, zH, zT]) ?_
 refine zst (op_move_tmp (by rfl)) rfl (by dsimp only [zS, zN, zH, zT]) ?_
 refine zst (op_extract (by rfl) (by rfl)) rfl (by dsimp only [zS, zN, zH, zT]) ?_
 refine zst (op_extract (by rfl) (by rfl)) rfl (by dsimp only [zS, zN, zH, zT]) ?_
 refine zst (op_assign_tmp (by rfl)) rfl (by dsimp only [zS, zN, zH, zT]) ?_
 refine zst (op_assign_tmp (by rfl)) rfl (by dsimp only [zS, zN, zH, zT]) ?_
 refine al_end rfl ?_
 refine then_normal ?_
 refine aw_seq ?_
 refine aw_seq ?_
 refine aw_region ?_
 refine zst (op_move_tmp (by rfl)) rfl (by dsimp only [zS, zN, zH, zT]) ?_
 refine zst (op_not (by rfl)) rfl (by dsimp only [zS, zN, zH, zT]) ?_
 refine al_end rfl ?_
 refine then_normal ?_
 refine aw_cond rfl (fun hc1 => ?_) (fun hc1 => ?_)
 ·
  (try simp only [y1, y2, y3, y4, y5, y6, y7, y8, y9, y0, List.length_map] at hc1)
  rw [hf] at hc1
  exact absurd hc1 (by simp)
 ·
  (try simp only [y1, y2, y3, y4, y5, y6, y7, y8, y9, y0, List.length_map] at hc1)
  rw [hf]
  refine aw_skip ?_
  refine then_normal ?_
  refine aw_seq ?_
  refine aw_region ?_
  refine zst (op_move_tmp (by rfl)) rfl (by dsimp only [zS, zN, zH, zT]) ?_
  refine zst (op_move_tmp (by rfl)) rfl (by dsimp only [zS, zN, zH, zT]) ?_
  refine zst (op_callF Try.func35 (by rfl) (by rfl) (.tmp (by rfl) (.tmp (by rfl) .nil)) (cdec_ok _ name w.val)) rfl (by dsimp only [zS, zN, zH, zT]) ?_
  refine zst (op_extract (by rfl) (by rfl)) rfl (by dsimp only [zS, zN, zH, zT]) ?_
  refine zst (op_extract (by rfl) (by rfl)) rfl (by dsimp only [zS, zN, zH, zT]) ?_
  refine zst (op_storeB (vs := [.d (S (decName name w.val)), .d (.lst 3 ((decIxs name w.val).map ixD))]) (b' := ⟨77, [.d (S (decName name w.val)), .d (.lst 3 ((decIxs name w.val).map ixD))], false⟩) (H' := _) Sz77 (by rfl) push_at (by intro h; cases h) (by rfl) (by rfl) (Nat.le_of_ble_eq_true rfl) (by simp [AV.one, DV.one, TF, S, I, BY]) (by rfl) (by rfl) rfl) rfl (by dsimp only [zS, zN, zH, zT]) ?_
  refine zst (op_assign_tmp (by rfl)) rfl (by dsimp only [zS, zN, zH, zT]) ?_
  refine al_end rfl ?_
  refine then_normal ?_
  refine aw_ret ?_
  refine retC2 rfl (.cells Try.underlying77 (by rfl) Sz77 (by rfl) (setB_at push_at) (Nat.le_of_ble_eq_true rfl) (by rfl)) (.tmp (by rfl)) ?_
  exact ⟨_, rfl, Weak.aggD (.cons (Weak.refl _) (.cons (Weak.refl _) .nil)) (by simp [DV.one, S]), ((Ext.refl Hs).push _ _).setB (Nat.le_refl _)⟩
end Go.Proofs.Ytjbpfnoibeogbaa
namespace Go.AV
open Go.RowKit Go.Sort
open Go.Proofs (encStr)
theorem Inv.ahead {B : Nat} {w0 w : World} {c : Ctx} {H : HS} (h : Inv B w0 c H w) : ∀ n, Inv B w0 c H (Sort.ahead w n)
  | 0 => h
  | n + 1 => by rw [← ahead_drew]; exact (Inv.ahead h n).drew
theorem Inv.grow {B : Nat} {w0 w : World} {c : Ctx} {H : HS} (h : Inv B w0 c H w) (os : Array Obj) : Inv B w0 c H (Sort.grow w os) := by
  have key : ∀ l : List Obj, ∀ w, Inv B w0 c H w → Inv B w0 c H (Sort.grow w l.toArray) := fun l => by
    induction l with
    | nil => intro w h; simpa using h
    | cons o l ih =>
      intro w h
      have := ih (w.alloc o) (h.alloc o)
      rw [alloc_eq_grow, grow_grow] at this
      simpa using this
  have := key os.toList w h
  simpa using this
theorem putCells_putA (d : Array (List UInt8)) (cur : Array Value) (h : d.size ≤ cur.size) : putCells encStr 0 d cur = putA cur 0 (d.toList.map encStr) := by
  apply Array.ext_getElem?
  intro k
  rw [putA_get (by simpa using h)]
  simp only [putCells, Array.getElem?_mapIdx, List.length_map, Array.length_toList]
  by_cases hk : k < d.size
  · rw [if_pos ⟨Nat.zero_le _, by omega⟩, Array.getElem?_eq_getElem (show k < cur.size by omega), Option.map_some, if_pos ⟨Nat.zero_le _, by omega⟩]
    simp [hk]
  · rw [if_neg (by omega)]
    cases cur[k]? with
    | none => rfl
    | some x => rw [Option.map_some, if_neg (by omega)]
theorem putRow_setRow {w : World} {g : Nat} {cur : Array Value} {e : TypeId} {fr : Nat × Nat} (hw : w.heap[g]? = some (.cells cur e fr)) (d : Array (List UInt8)) (h : d.size ≤ cur.size) : putRow encStr w g 0 d = w.setRow g (putA cur 0 (d.toList.map encStr)) := by
  unfold putRow mapBlock World.setRow
  congr 1
  apply Array.ext_getElem?
  intro k
  simp only [Array.getElem?_modify]
  by_cases hk : g = k
  · subst hk
    simp only [if_true, hw, Option.map_some, onCells, putCells_putA d cur h]
  · simp [hk]
theorem Inv.holds {B : Nat} {w0 w : World} {c : Ctx} {H : HS} (h : Inv B w0 c H w) {id g : Nat} {b : HB} (hg : c.blk[id]? = some g) (hb : H.blks[id]? = some b) (hf : b.frz = false) {ss : List (List UInt8)} (hl : ss.length ≤ b.cs.length)
    (hu : b.cs.take ss.length = ss.map fun s => .d (S s)) : Holds encStr w g 0 ss.toArray ∧ g < w.heap.size := by
  obtain ⟨p1, p2, cur, fr, p3, p4, p5, p6⟩ := h.blk id g b hg hb
  refine ⟨fun j hj => ?_, (Array.getElem?_eq_some_iff.1 p3).1⟩
  have hj' : j < ss.length := by simpa using hj
  have hjc : j < b.cs.length := by omega
  have e1 : b.cs[j] = .d (S ss[j]) := by
    have h1 : (b.cs.take ss.length)[j]? = some b.cs[j] := by rw [List.getElem?_take, if_pos hj', List.getElem?_eq_getElem hjc]
    rw [hu] at h1
    simpa [hj'] using h1.symm
  have h2 := p6 j hjc
  rw [e1] at h2
  have h3 := h2.v_eq
  have hcs : j < cur.size := by rw [p4]; exact hjc
  refine ⟨?_, ?_⟩
  · simp only [World.cell?, p3]
    simp [hcs] at h3 ⊢
    rw [h3]
    simp [hj']
  · have := p5 hf (0 + j)
    simp only [World.frozen?, p3]
    simp only [Bool.and_eq_false_iff, decide_eq_false_iff_not]
    omega
theorem Inv.putTexts {B : Nat} {w0 w : World} {c : Ctx} {H : HS} (h : Inv B w0 c H w) {id g n : Nat} {b : HB} (hg : c.blk[id]? = some g) (hb : H.blks[id]? = some b) (ts : List (List UInt8)) (hl : ts.length ≤ b.cs.length) :
    Inv B w0 c (H.put id 0 (ts.map fun s => .d (S s))) (putRow encStr (Sort.ahead w n) g 0 ts.toArray) := by
  obtain ⟨p1, p2, cur, fr, p3, p4, p5, p6⟩ := h.blk id g b hg hb
  have i1 := h.ahead n
  have hw : (Sort.ahead w n).heap[g]? = some (.cells cur b.elem fr) := p3
  rw [putRow_setRow hw ts.toArray (by rw [p4]; simpa using hl)]
  refine i1.putBlk id g 0 b hg hb _ _ (by simp) (fun j hj hj' => ?_) (by simpa using hl) cur _ fr hw
  simp only [List.getElem_map]
  exact .d (.v _ rfl)
def sortS (ss : List (List UInt8)) : List (List UInt8) := ss.mergeSort fun x y => decide (x ≤ y)
theorem sortS_len (ss : List (List UInt8)) : (sortS ss).length = ss.length := List.length_mergeSort ss
section
variable {P : Program} {Hs : HS} {id n cap : Nat} {e : TypeId} {cs : List AV} {ss : List (List UInt8)}
theorem Rep.arr_inv {c : Ctx} {v : Value} (h : Rep c v (.arr id n cap)) : ∃ g, v = .slice (some ⟨g, 0, none⟩) n cap ∧ c.blk[id]? = some g := by
  cases h with
  | arr _ _ _ g h => exact ⟨g, rfl, h⟩
theorem one_arg {c : Ctx} {vs : Array Value} {x : AV} (hs : vs.size = [x].length) (ha : ∀ i (hi : i < [x].length), Rep c (vs.getD i undef) [x][i]) : ∃ v, vs = #[v] ∧ Rep c v x := by
  have h1 : vs.size = 1 := hs
  refine ⟨vs.getD 0 undef, ?_, ha 0 (by simp)⟩
  apply Array.ext
  · simp [h1]
  · intro i hi hi'
    have : i = 0 := by omega
    subst this
    simp [h1]
theorem sort_av {ρ : Go.Shelf.Ren} (L : Go.Proofs.Lays.n190 P ρ) (hb : Hs.blks[id]? = some ⟨e, cs, false⟩) (hl : ss.length ≤ cs.length) (hu : cs.take ss.length = ss.map fun s => .d (S s)) (hm : ss.length < 4611686018427387904) :
    ACalls P (ρ.f 190) [.arr id ss.length cap] Hs (Ret (.tup []) (Hs.put id 0 ((sortS ss).map fun s => .d (S s)))) := by
  intro B w0 c w vs hI hs ha
  obtain ⟨v, rfl, hv⟩ := one_arg hs ha
  obtain ⟨g, rfl, hg⟩ := hv.arr_inv
  obtain ⟨hH, hlt⟩ := hI.holds hg hb rfl hl hu
  refine (Go.Proofs.Any.slices_Sort_string L g 0 cap ss w hH hlt hm).mono ?_
  rintro e' w' ⟨rfl, n, os, rfl⟩
  refine ⟨_, .tup [], _, c, rfl, Le.refl c, .tup _ _ rfl fun i hi => by simp at hi, (hI.putTexts hg hb (sortS ss) (by rw [sortS_len]; exact hl)).grow os, rfl, rfl⟩
theorem sort_none {ρ : Go.Shelf.Ren} (L : Go.Proofs.Lays.n190 P ρ) : ACalls P (ρ.f 190) [nilS] Hs (Ret (.tup []) Hs) := by
  intro B w0 c w vs hI hs ha
  obtain ⟨v, rfl, hv⟩ := one_arg hs ha
  obtain rfl := hv.v_eq
  refine (Go.Proofs.Any.slices_Sort_string_none L none 0 w).mono ?_
  rintro e' w' ⟨rfl, rfl⟩
  exact ⟨_, .tup [], _, c, rfl, Le.refl c, .tup _ _ rfl fun i hi => by simp at hi, hI, rfl, rfl⟩
def compS (ss : List (List UInt8)) : List (List UInt8) := Lib.compact ss
theorem compS_len (ss : List (List UInt8)) : (compS ss).length ≤ ss.length := by
  unfold compS Lib.compact Lib.compactUpTo
  rw [List.length_map]
  exact Nat.le_trans (List.length_filter_le _ _) (by simp)
def padS (ss : List (List UInt8)) : List (List UInt8) := compS ss ++ List.replicate (ss.length - (compS ss).length) []
theorem compact_av {ρ : Go.Shelf.Ren} (L : Go.Proofs.Lays.n194 P ρ) (hb : Hs.blks[id]? = some ⟨e, cs, false⟩) (hl : ss.length ≤ cs.length) (hu : cs.take ss.length = ss.map fun s => .d (S s)) (hm : ss.length ≤ 9223372036854775807) (hc : ss.length ≤ cap) (hp : (compS ss).length ≤ ss.length) :
    ACalls P (ρ.f 194) [.arr id ss.length cap] Hs (Ret (.arr id (compS ss).length cap) (Hs.put id 0 ((padS ss).map fun s => .d (S s)))) := by
  intro B w0 c w vs hI hs ha
  obtain ⟨v, rfl, hv⟩ := one_arg hs ha
  obtain ⟨g, rfl, hg⟩ := hv.arr_inv
  obtain ⟨hH, hlt⟩ := hI.holds hg hb rfl hl hu
  refine (Go.Proofs.Any.slices_Compact_string L g 0 cap ss w hH hm hc).mono ?_
  rintro e' w' ⟨rfl, q, rfl⟩
  exact ⟨_, _, _, c, rfl, Le.refl c, .arr id _ cap g hg, hI.putTexts hg hb (padS ss) (by simp [padS]; omega), rfl, rfl⟩
theorem compact_none {ρ : Go.Shelf.Ren} (L : Go.Proofs.Lays.n194 P ρ) : ACalls P (ρ.f 194) [nilS] Hs (Ret nilS Hs) := by
  intro B w0 c w vs hI hs ha
  obtain ⟨v, rfl, hv⟩ := one_arg hs ha
  obtain rfl := hv.v_eq
  refine (Go.Proofs.Any.slices_Compact_string_empty L none 0 w).mono ?_
  rintro e' w' ⟨rfl, rfl⟩
  exact ⟨_, nilS, _, c, rfl, Le.refl c, .d (.v _ rfl), hI, rfl, rfl⟩
end
theorem ACalls.tidyM {P : Program} {f : FuncId} {args : List AV} {H : HS} {R : AV → HS → Prop}
    (h : ACalls P f args H fun av H' => ∃ (m : MB) (x0 l : AV) (ids : List (List UInt8)) (ed : DV), av = .tup [x0, l, .d ed] ∧ Ext (H.pushM m) H' ∧ (x0 = .map H.nm ∨ ∃ z, x0 = .d z) ∧
      (l = nilS ∧ ids = [] ∨ ∃ id cap b, l = .arr id ids.length cap ∧ H.nb ≤ id ∧ H'.blks[id]? = some b ∧ b.cs.take ids.length = ids.map (fun s => .d (S s)) ∧ ids.length ≤ b.cs.length ∧ ids.length ≤ cap) ∧ R (.tup [x0, .d (.lst 1 (ids.map S)), .d ed]) (H.pushM m)) : ACalls P f args H R := by
  intro B w0 c w vs hI hs ha
  refine (h B w0 c w vs hI hs ha).mono ?_
  rintro e w' ⟨v, av, H', c', rfl, q1, q2, q3, m, x0, l, ids, ed, rfl, ⟨⟨l1, h5⟩, ⟨l2, h6⟩, hmm⟩, hx0, hl, hR⟩
  have h5' : H'.blks = H.blks ++ l1 := h5
  have h6' : H'.toks = H.toks ++ l2 := h6
  have hcut : H'.cut H.blks.length H.toks.length = H.pushM m := by
    have e1 : H'.maps = H.maps ++ [m] := hmm
    unfold HS.cut HS.pushM
    rw [h5', h6', e1, List.take_left, List.take_left]
  have hfit : ∀ i b, i < H.blks.length → H'.blks[i]? = some b → ∀ j (hj : j < b.cs.length), Fits H.blks.length H.toks.length b.cs[j] := fun i b hi hb j hj => by
    have hb' : H.blks[i]? = some b := by rw [h5', List.getElem?_append_left (by omega)] at hb; exact hb
    have hlt : i < c.blk.length := by rw [hI.blkLen]; exact hi
    obtain ⟨_, _, cur, fr, _, _, _, q⟩ := hI.blk i _ b (List.getElem?_eq_getElem hlt) hb'
    have := (q j hj).fits
    rwa [hI.blkLen, hI.tokLen] at this
  have hblk : ∀ (i g : Nat), c.blk[i]? = some g → (c'.blk.take H.blks.length)[i]? = some g := fun i g hi => by
    have : i < c.blk.length := (List.getElem?_eq_some_iff.1 hi).1
    rw [List.getElem?_take, if_pos (by have := hI.blkLen; omega)]
    exact q1.blk i g hi
  have htok : ∀ (i : Nat) (e : Tok), c.tok[i]? = some e → ∃ e' : Tok, (c'.tok.take H.toks.length)[i]? = some e' ∧ (e' = e ∨ e.mark < e'.mark) := fun i e he => by
    have : i < c.tok.length := (List.getElem?_eq_some_iff.1 he).1
    obtain ⟨e', q1, q2⟩ := q1.tok i e he
    refine ⟨e', ?_, q2⟩
    rw [List.getElem?_take, if_pos (by have := hI.tokLen; omega)]
    exact q1
  have hv2 : ∃ u0 u1 u2 : Value, v = .tuple #[u0, u1, u2] ∧ Rep c' u0 x0 ∧ Rep c' u1 l ∧ Rep c' u2 (.d ed) := by
    generalize ha : AV.tup [x0, l, .d ed] = av at q2
    cases q2 with
    | tup us cs hl hr =>
      cases ha
      obtain ⟨ul⟩ := us
      match ul, hl with
      | [u0, u1, u2], _ => exact ⟨u0, u1, u2, rfl, hr 0 (by simp), hr 1 (by simp), hr 2 (by simp)⟩
    | _ => cases ha
  obtain ⟨u0, u1, u2, rfl, qa, qb, qc⟩ := hv2
  have three : ∀ {k : Ctx}, Rep k u0 x0 → Rep k u1 (.d (.lst 1 (ids.map S))) → Rep k u2 (.d ed) → Rep k (.tuple #[u0, u1, u2]) (.tup [x0, .d (.lst 1 (ids.map S)), .d ed]) := fun h1 h2 h3 => .tup _ _ rfl fun i hi => by
    match i, hi with
    | 0, _ => exact h1
    | 1, _ => exact h2
    | 2, _ => exact h3
  have hf0 : Fits H.blks.length H.toks.length x0 := by
    rcases hx0 with rfl | ⟨z, rfl⟩
    · exact .map _
    · exact .d _
  rcases hl with ⟨rfl, rfl⟩ | ⟨id, cap, b, rfl, hid, hb, hd, hlen, hcap⟩
  · have i1 := q3.cut H.blks.length H.toks.length hfit
    rw [hcut] at i1
    refine ⟨_, _, _, c'.cut H.blks.length H.toks.length, rfl, ⟨q1.mem, hblk, htok, q1.maps⟩, three (qa.cut hf0) ?_ (.d (qc.d_inv.mono (fun _ _ _ h => h))), i1, hR⟩
    have := Weak.nil 1 c' u1 qb
    exact .d (this.d_inv.mono (fun _ _ _ h => h))
  · have hidl : id < c'.blk.length := by rw [q3.blkLen]; exact (List.getElem?_eq_some_iff.1 hb).1
    have hfl : flat (ids.map S) = ids.map S := by
      have : ∀ l : List (List UInt8), flat (l.map S) = l.map S := fun l => by
        induction l with
        | nil => rfl
        | cons x l ih => simp only [List.map_cons, flat, List.flatMap_cons] at ih ⊢; rw [ih]; rfl
      exact this ids
    obtain ⟨vals, i1, m1, m2, m3⟩ := q3.protect id _ b (List.getElem?_eq_getElem hidl) hb H.blks.length H.toks.length hid hfit (ids.map S) (by rw [List.length_map, hd, List.map_map]; rfl) (by simpa using hlen)
    rw [hcut] at i1
    obtain ⟨g, hg, rfl⟩ := arr_val qb
    rw [List.getElem?_eq_getElem hidl] at hg
    cases hg
    have h0 : Rep (c'.cut H.blks.length H.toks.length) u0 x0 := qa.cut hf0
    refine ⟨_, _, _, _, rfl, ⟨fun g o u hm => m1 g o u (q1.mem g o u hm), hblk, htok, q1.maps⟩, three ?_ ?_ (.d (qc.d_inv.mono m1)), i1, hR⟩
    · rcases hx0 with rfl | ⟨z, rfl⟩
      · obtain ⟨g0, rfl, hg0⟩ := qa.map_inv
        exact .map _ g0 hg0
      · exact .d (qa.d_inv.mono m1)
    · refine .d (.lst _ 0 _ cap 1 _ vals (by simp) hcap (fun x hx => ?_) (fun x hx => ?_) (fun i hi => ?_) (fun i hi => ?_))
      · obtain ⟨s, _, rfl⟩ := List.mem_map.1 hx; rfl
      · rw [hfl] at hx
        obtain ⟨s, _, rfl⟩ := List.mem_map.1 hx; rfl
      · rw [Nat.zero_add]
        exact m2 i (by rw [hfl] at hi; exact hi)
      · have hi' : i < (ids.map S).length := by rw [hfl] at hi; exact hi
        have := (m3 i hi').mono m1
        simp only [hfl]
        exact this
section
variable {P : Program} {E : Operand → AV} {H : HS} {dst : Option Tmp} {ty : TypeId} {pos : String} {after : Array Edge} {gd : Option (Nat × Bool)}
theorem op_field1 {x : Operand} {t : TypeId} {k : Nat} {fs : Array Field} {f : Field} {cs : List DV} {d : DV} (ht : P.underlying t = some (.struct fs)) (hf : fs[k]? = some f) (ha : ∀ w, (isAgg f.type).run P w = .ok false w) (hx : E x = .d (.agg cs)) (hd : cs[f.offset]? = some d) :
    OpR P ⟨dst, .field t x k, ty, pos, after, gd⟩ E H (Ret (.d d) H) :=
  opR_pure fun c w a _ hops => by
    have h1 := hops x (by simp [Op.operands])
    rw [hx] at h1
    generalize hv : a.eval x = v at h1
    generalize hc : DV.agg cs = y at h1
    have h2 := h1.d_inv
    cases h2 with
    | agg vs cs' hl h1' hr =>
      cases hc
      have hlt := (List.getElem?_eq_some_iff.1 hd).1
      have hvs : f.offset < vs.size := by rw [hl]; exact hlt
      have h3 := hr f.offset hlt
      rw [(List.getElem?_eq_some_iff.1 hd).2] at h3
      refine ⟨vs[f.offset], ?_, .d (by simpa [hvs] using h3)⟩
      simp [execOp, Instr.field, hv, run_underlying ht, hf, part, ha, asAgg, Result.andThen, hvs]
    | _ => cases hc
end
structure Texts (H H' : HS) (id : Nat) (e : TypeId) (n : Nat) (ts : List (List UInt8)) : Prop where
  blk : ∃ cs, H'.blks[id]? = some ⟨e, cs, false⟩ ∧ cs.take ts.length = (ts.map fun s => AV.d (S s)) ∧ ts.length ≤ cs.length ∧ cs.length = n
  oth : ∀ j, j ≠ id → H'.blks[j]? = H.blks[j]?
  toks : H'.toks = H.toks
  maps : H'.maps = H.maps
  nb : H'.nb = H.nb
theorem Texts.put {H : HS} {id : Nat} {e : TypeId} {cs : List AV} (hb : H.blks[id]? = some ⟨e, cs, false⟩) (ts : List (List UInt8)) (hl : ts.length ≤ cs.length) : Texts H (H.put id 0 (ts.map fun s => .d (S s))) id e cs.length ts := by
  refine ⟨⟨_, put_blks_at hb, ?_, ?_, ?_⟩, fun j hj => put_blks_ne hj, rfl, rfl, put_nb⟩
  · have := putL_take (ts.map fun s => AV.d (S s)) cs 0 (by simpa using hl)
    simpa using this
  · rw [putL_length]; exact hl
  · rw [putL_length]
theorem Texts.ext {B H H' : HS} {id n : Nat} {e : TypeId} {ts : List (List UInt8)} (h : Texts H H' id e n ts) (hx : Ext B H) (hid : B.nb ≤ id) : Ext B H' := hx.of h.toks (fun j hj => h.oth j (by omega)) h.maps
theorem Arr.or {H : HS} {e : TypeId} {v : AV} {ids : List (List UInt8)} (h : Arr H e 1 v ids.length (ids.map fun s => AV.d (S s))) : (v = nilS ∧ ids = []) ∨
    ∃ id cap cs, v = .arr id ids.length cap ∧ H.blks[id]? = some ⟨e, cs, false⟩ ∧ cs.take ids.length = (ids.map fun s => AV.d (S s)) ∧ ids.length ≤ cs.length ∧ ids.length ≤ cap := by
  generalize hn : ids.length = n at h
  generalize hu : (ids.map fun s => AV.d (S s)) = us at h
  cases h with
  | nil => exact .inl ⟨rfl, List.length_eq_zero_iff.1 hn⟩
  | arr id _ cap cs _ hb hc hl hu' => exact .inr ⟨id, cap, cs, rfl, hb, by rw [Nat.mul_one] at hu'; exact hu', by omega, hl⟩
def NoIt (H : HS) : Prop := ∀ (j : Nat) (o : Option Nat) (n : Nat) q, H.maps[j]? ≠ some (.iter o n q)
theorem NoIt.ext {Hs H : HS} {es : List (List UInt8 × DV)} (h : NoIt Hs) (hx : Ext (Hs.pushM (.map es)) H) : NoIt H := by
  intro j o n q he
  rw [hx.maps] at he
  have he' : (Hs.maps ++ [MB.map es])[j]? = some (.iter o n q) := he
  by_cases hj : j < Hs.maps.length
  · rw [List.getElem?_append_left hj] at he'; exact h j o n q he'
  · rw [List.getElem?_append_right (by omega)] at he'
    cases hk : j - Hs.maps.length with
    | zero => rw [hk] at he'; simp at he'
    | succ k => rw [hk] at he'; simp at he'
theorem Ext.setM {Hs H : HS} {m m' : MB} (h : Ext (Hs.pushM m) H) : Ext (Hs.pushM m') (H.setM Hs.nm m') :=
  ⟨h.blks, h.toks, by
    show H.maps.set Hs.maps.length m' = Hs.maps ++ [m']
    rw [h.maps]
    show (Hs.maps ++ [m]).set Hs.maps.length m' = _
    rw [List.set_append_right _ _ (Nat.le_refl _)]; simp⟩
def TX (H : HS) (e : TypeId) (v : AV) (ids : List (List UInt8)) : Prop := Arr H e 1 v ids.length (ids.map fun s => AV.d (S s))
section
variable {P : Program} {Hs : HS} {e : TypeId} {v : AV} {ss : List (List UInt8)}
theorem Texts.kept {H H' : HS} {id n k cap : Nat} {ts : List (List UInt8)} (h : Texts H H' id e n ts) : Kept H H' (.arr id k cap) :=
  ⟨h.toks, by rw [h.nb]; exact Nat.le_refl _, fun j _ hne => h.oth j (fun hj => hne k cap (by rw [hj])), h.maps⟩
theorem TX.sort {ρ : Go.Shelf.Ren} (L : Go.Proofs.Lays.n190 P ρ) (h : TX Hs e v ss) (hm : ss.length < 4611686018427387904) : ACalls P (ρ.f 190) [v] Hs (fun av H' => av = .tup [] ∧ TX H' e v (sortS ss) ∧ Kept Hs H' v) := by
  unfold TX at h ⊢
  generalize hn : ss.length = n at h
  generalize hu : (ss.map fun s => AV.d (S s)) = us at h
  cases h with
  | nil =>
    obtain rfl := List.length_eq_zero_iff.1 hn
    exact (sort_none L).mono fun av H' ⟨h1, h2⟩ => ⟨h1, by rw [h2, show sortS [] = [] from by simp [sortS]]; exact .nil, by rw [h2]; exact ⟨rfl, Nat.le_refl _, fun _ _ _ => rfl, rfl⟩⟩
  | arr id _ cap cs _ hb hc hl hu' =>
    subst hn
    rw [Nat.mul_one] at hu' hc
    have hlen : ss.length ≤ cs.length := by omega
    refine (sort_av (cap := cap) L hb hlen (hu'.trans hu.symm) hm).mono fun av H' ⟨h1, h2⟩ => ⟨h1, ?_, ?_⟩
    · obtain ⟨⟨cs', q1, q2, q3, q4⟩, _⟩ := Texts.put hb (sortS ss) (by rw [sortS_len]; exact hlen)
      rw [h2]
      rw [sortS_len] at q2 ⊢
      exact .arr id _ cap cs' _ q1 (by rw [q4, hc, Nat.mul_one]) hl (by rw [Nat.mul_one]; exact q2)
    · rw [h2]; exact (Texts.put hb (sortS ss) (by rw [sortS_len]; exact hlen)).kept
theorem TX.compact {ρ : Go.Shelf.Ren} (L : Go.Proofs.Lays.n194 P ρ) (h : TX Hs e v ss) (hm : ss.length ≤ 9223372036854775807) (hp : (compS ss).length ≤ ss.length) :
    ACalls P (ρ.f 194) [v] Hs (fun av H' => TX H' e av (compS ss) ∧ Kept Hs H' v ∧ ∀ id n cap, av = .arr id n cap → ∃ n' cap', v = .arr id n' cap') := by
  unfold TX at h ⊢
  generalize hn : ss.length = n at h
  generalize hu : (ss.map fun s => AV.d (S s)) = us at h
  cases h with
  | nil =>
    obtain rfl := List.length_eq_zero_iff.1 hn
    refine (compact_none L).mono fun av H' ⟨h1, h2⟩ => ⟨?_, by rw [h2]; exact ⟨rfl, Nat.le_refl _, fun _ _ _ => rfl, rfl⟩, fun id n cap e => by rw [h1] at e; cases e⟩
    rw [h1, List.length_eq_zero_iff.1 (Nat.le_zero.1 hp)]
    exact .nil
  | arr id _ cap cs _ hb hc hl hu' =>
    subst hn
    rw [Nat.mul_one] at hu' hc
    have hlen : ss.length ≤ cs.length := by omega
    have hpad : (padS ss).length = ss.length := by simp [padS]; omega
    refine (compact_av (cap := cap) L hb hlen (hu'.trans hu.symm) hm hl hp).mono fun av H' ⟨h1, h2⟩ => ⟨?_, ?_, fun id' n' cap' e => by rw [h1] at e; cases e; exact ⟨_, _, rfl⟩⟩
    · obtain ⟨⟨cs', q1, q2, q3, q4⟩, _⟩ := Texts.put hb (padS ss) (by rw [hpad]; exact hlen)
      rw [h2, h1]
      refine .arr id _ cap cs' _ q1 (by rw [q4, hc, Nat.mul_one]) (by omega) ?_
      have := congrArg (List.take (compS ss).length) q2
      rw [List.take_take, hpad, Nat.min_eq_left hp] at this
      rw [Nat.mul_one, this]
      unfold padS
      rw [List.map_append, List.take_left' (by simp)]
    · rw [h2]; exact (Texts.put hb (padS ss) (by rw [hpad]; exact hlen)).kept
theorem TX.push {H : HS} (h : TX H e v ss) (t : TypeId) (cs : List AV) : TX (H.push t cs) e v ss := by
  unfold TX at h ⊢
  generalize ss.length = n at h ⊢
  generalize (ss.map fun s => AV.d (S s)) = us at h ⊢
  cases h with
  | nil => exact .nil
  | arr id _ cap cs' _ hb hc hl hu => exact .arr id _ cap cs' _ (push_ne hb) hc hl hu
theorem TX.setB {H : HS} {i : Nat} {b : HB} (h : TX H e v ss) (hne : ∀ id n cap, v = .arr id n cap → id ≠ i) : TX (H.setB i b) e v ss := by
  unfold TX at h ⊢
  generalize ss.length = n at h ⊢
  generalize (ss.map fun s => AV.d (S s)) = us at h ⊢
  cases h with
  | nil => exact .nil
  | arr id _ cap cs' _ hb hc hl hu => exact .arr id _ cap cs' _ (by rw [setB_ne (hne _ _ _ rfl)]; exact hb) hc hl hu
theorem TX.setM {H : HS} {i : Nat} {m : MB} (h : TX H e v ss) : TX (H.setM i m) e v ss := by
  unfold TX at h ⊢
  generalize ss.length = n at h ⊢
  generalize (ss.map fun s => AV.d (S s)) = us at h ⊢
  cases h with
  | nil => exact .nil
  | arr id _ cap cs' _ hb hc hl hu => exact .arr id _ cap cs' _ hb hc hl hu
theorem TX.lt {H : HS} (h : TX H e v ss) : ∀ id n cap, v = .arr id n cap → id < H.nb := by
  intro id n cap hv
  unfold TX at h
  generalize ss.length = k at h
  generalize (ss.map fun s => AV.d (S s)) = us at h
  cases h with
  | nil => cases hv
  | arr id' _ cap' cs' _ hb hc hl hu => cases hv; exact (List.getElem?_eq_some_iff.1 hb).1
theorem TX.or {H : HS} (h : TX H e v ss) : (v = nilS ∧ ss = []) ∨ ∃ id cap b, v = .arr id ss.length cap ∧ H.blks[id]? = some b ∧ b.cs.take ss.length = (ss.map fun s => AV.d (S s)) ∧ ss.length ≤ b.cs.length ∧ ss.length ≤ cap := by
  rcases Arr.or h with h | ⟨id, cap, cs, h1, h2, h3, h4, h5⟩
  · exact .inl h
  · exact .inr ⟨id, cap, _, h1, h2, h3, h4, h5⟩
theorem TX.one {H : HS} {e : TypeId} {v : AV} {us : List AV} {s : List UInt8} (h : Arr H e 1 v (ss.length + 1) (us ++ [.d (S s)])) (hu : us = ss.map fun s => AV.d (S s)) : TX H e v (ss ++ [s]) := by
  unfold TX
  rw [List.length_append, List.map_append, ← hu]
  exact h
theorem Kept.ext {B H H' : HS} {v : AV} (k : Kept H H' v) (h : Ext B H) (hv : ∀ id n c, v = .arr id n c → B.nb ≤ id) : Ext B H' :=
  h.of k.toks (fun j hj => k.blks j (by have := nb_le h; omega) fun n c e => by have := hv _ _ _ e; omega) k.maps
theorem TX.grown {B H H1 : HS} (hT : TX H e v ss) (hv : ∀ id n c, v = .arr id n c → B.nb ≤ id) (hB : B.nb ≤ H1.nb) {id3 m3 cap3 : Nat} (hn : v = nilS → H1.nb ≤ id3) (ho : ∀ j n cap, v = .arr j n cap → id3 = j ∨ H1.nb ≤ id3) :
    ∀ i n cap, AV.arr id3 m3 cap3 = .arr i n cap → B.nb ≤ i := by
  intro i n cap h
  cases h
  rcases hT.or with ⟨h, _⟩ | ⟨j, c, b, h, _⟩
  · have := hn h; omega
  · rcases ho _ _ _ h with rfl | h2
    · exact hv _ _ _ h
    · omega
end
end Go.AV
namespace Go.AV.Hist
open Go.AV.Ord Go.AV.Oct
def mE (ps : List (List UInt8 × Pl)) : List (List UInt8 × DV) := ps.map fun x => (x.1, pD x.2)
def getK : List (List UInt8 × Pl) → List UInt8 → Option Pl
  | [], _ => none
  | e :: es, k => if e.1 = k then some e.2 else getK es k
def putK : List (List UInt8 × Pl) → List UInt8 → Pl → List (List UInt8 × Pl)
  | [], k, v => [(k, v)]
  | e :: es, k, v => if e.1 = k then (k, v) :: es else e :: putK es k v
def delK : List (List UInt8 × Pl) → List UInt8 → List (List UInt8 × Pl)
  | [], _ => []
  | e :: es, k => if e.1 = k then es else e :: delK es k
theorem getE_mE : ∀ (ps : List (List UInt8 × Pl)) (k : List UInt8), getE (mE ps) k = (getK ps k).map pD
  | [], _ => rfl
  | e :: ps, k => by
    show (if e.1 = k then some (pD e.2) else getE (mE ps) k) = _
    unfold getK
    by_cases h : e.1 = k
    · rw [if_pos h, if_pos h]; rfl
    · rw [if_neg h, if_neg h]; exact getE_mE ps k
theorem putE_mE : ∀ (ps : List (List UInt8 × Pl)) (k : List UInt8) (p : Pl), putE (mE ps) k (pD p) = mE (putK ps k p)
  | [], _, _ => rfl
  | e :: ps, k, p => by
    show (if e.1 = k then (k, pD p) :: mE ps else (e.1, pD e.2) :: putE (mE ps) k (pD p)) = _
    unfold putK
    by_cases h : e.1 = k
    · rw [if_pos h, if_pos h]; rfl
    · rw [if_neg h, if_neg h, putE_mE ps k p]; rfl
theorem delE_mE : ∀ (ps : List (List UInt8 × Pl)) (k : List UInt8), delE (mE ps) k = mE (delK ps k)
  | [], _ => rfl
  | e :: ps, k => by
    show (if e.1 = k then mE ps else (e.1, pD e.2) :: delE (mE ps) k) = _
    unfold delK
    by_cases h : e.1 = k
    · rw [if_pos h, if_pos h]
    · rw [if_neg h, if_neg h, delE_mE ps k]; rfl
def atK (ps : List (List UInt8 × Pl)) (k : List UInt8) : Pl := (getK ps k).getD P0
def turnT : List (List UInt8 × Pl) → List (List UInt8) → List Wt → Option (List (List UInt8 × Pl) × List (List UInt8))
  | ps, ids, [] => some (ps, ids)
  | ps, ids, w :: ws => if (msgT w.key).2.2 = false then turnT ps ids ws else
    if w.gone then turnT (if (atK ps (msgT w.key).2.1).q = (msgT w.key).1 then delK ps (msgT w.key).2.1 else ps) (ids ++ [(msgT w.key).2.1]) ws else
      if decE w.val = 0 then turnT (putK ps (msgT w.key).2.1 ⟨(msgT w.key).1, decM (msgT w.key).2.1 w.val⟩) (ids ++ [(msgT w.key).2.1]) ws else none
end Go.AV.Hist
namespace Go.AV
def HS.addM (H : HS) (ms : List MB) : HS := { H with maps := H.maps ++ ms }
theorem addM_nil (H : HS) : H.addM [] = H := by cases H; simp [HS.addM]
theorem Ext.pushAdd {Hs H : HS} {ms : List MB} {m : MB} (h : Ext (Hs.addM ms) H) : Ext (Hs.addM (ms ++ [m])) (H.pushM m) :=
  ⟨h.blks, h.toks, by
    show H.maps ++ [m] = Hs.maps ++ (ms ++ [m])
    rw [h.maps]
    show (Hs.maps ++ ms) ++ [m] = _
    rw [List.append_assoc]⟩
theorem NoIt.of {H H' : HS} (h : NoIt H) (e : H'.maps = H.maps) : NoIt H' := fun j o n q => by rw [e]; exact h j o n q
theorem NoIt.push {H : HS} (h : NoIt H) (es : List (List UInt8 × DV)) : NoIt (H.pushM (.map es)) := h.ext (Ext.refl _)
theorem ACalls.tidyA {P : Program} {f : FuncId} {args : List AV} {H : HS} {R : AV → HS → Prop}
    (h : ACalls P f args H fun av H' => ∃ ms, Fits H.blks.length H.toks.length av ∧ Ext (H.addM ms) H' ∧ R av (H.addM ms)) : ACalls P f args H R :=
  ACalls.tidyB (h.mono fun av H' ⟨ms, h1, h2, h3⟩ => ⟨H.addM ms, h1, rfl, rfl, fun _ _ hb _ _ => .inl hb, h2, h3⟩)
namespace Hist
open Go.AV.Ord Go.AV.Oct
theorem turnT_len : ∀ (ws : List Wt) {ps ps' : List (List UInt8 × Pl)} {ids ids' : List (List UInt8)}, turnT ps ids ws = some (ps', ids') → ids'.length ≤ ids.length + ws.length
  | [], _, _, _, _, h => by simp [turnT] at h; rw [h.2]; exact Nat.le_add_right _ _
  | w :: ws, ps, ps', ids, ids', h => by
    rw [turnT] at h
    split at h
    · have := turnT_len ws h; simp; omega
    · split at h
      · have := turnT_len ws h; simp at this ⊢; omega
      · split at h
        · have := turnT_len ws h; simp at this ⊢; omega
        · cases h
def evOf (c : Cm) (ps ps' : List (List UInt8 × Pl)) (id : List UInt8) : Ev := ⟨c.seq, c.at_, id, (atK ps id).q, (atK ps' id).q, (atK ps id).m, (atK ps' id).m⟩
def evs (c : Cm) (ps ps' : List (List UInt8 × Pl)) (ids : List (List UInt8)) : List Ev := (ids.filter fun id => !decide (atK ps id = atK ps' id)).map (evOf c ps ps')
theorem evs_len (c : Cm) (ps ps' : List (List UInt8 × Pl)) (ids : List (List UInt8)) : (evs c ps ps' ids).length ≤ ids.length := by
  unfold evs
  rw [List.length_map]
  exact List.length_filter_le _ _
def eventsT : List (List UInt8 × Pl) → List Ev → List Cm → Option (List Ev)
  | _, es, [] => some es
  | ps, es, c :: cs => match turnT ps [] c.ws with
    | none => none
    | some (ps', ids) => eventsT ps' (es ++ evs c ps ps' (compS (sortS ids))) cs
theorem eventsT_none {ps : List (List UInt8 × Pl)} {es : List Ev} {c : Cm} {cs : List Cm} (h : turnT ps [] c.ws = none) : eventsT ps es (c :: cs) = none := by rw [eventsT, h]
theorem eventsT_some {ps ps' : List (List UInt8 × Pl)} {es : List Ev} {c : Cm} {cs : List Cm} {ids : List (List UInt8)} (h : turnT ps [] c.ws = some (ps', ids)) : eventsT ps es (c :: cs) = eventsT ps' (es ++ evs c ps ps' (compS (sortS ids))) cs := by rw [eventsT, h]
section
variable {P : Program} {E : Operand → AV} {H : HS} {dst : Option Tmp} {ty : TypeId} {pos : String} {after : Array Edge} {gd : Option (Nat × Bool)}
end
def msT : List (List UInt8 × Pl) → List Cm → List MB
  | _, [] => []
  | ps, c :: cs => match turnT ps [] c.ws with
    | none => []
    | some (ps', _) => .map (mE ps') :: msT ps' cs
end Hist
end Go.AV
