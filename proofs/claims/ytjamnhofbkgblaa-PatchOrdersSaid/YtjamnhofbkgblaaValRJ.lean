/- What the functions of layer 2 that judge come to. -/
import Derived.Test.YtjamnhofbkgblaaFacts
import Derived.Test.YtjamnhofbkgblaaValAV2
import Derived.KernelRfl
namespace Go.Proofs.Ytjamnhofbkgblaa
open Go.AV Go.AV.Ord Go.AV.Oct Go.AV.Val
set_option linter.unusedVariables false
set_option linter.unusedSimpArgs false
/- Is a part not right? -/
set_option maxRecDepth 100000 in
theorem right1_ok (Hs : HS) (x : V) (d : Nat) (hd : d ≤ 1000) (ihx : ∀ Hs : HS, ACalls Try.prog 34 [.d (.agg (vC x)), .d (I d)] Hs (Ret (.d (TF (rightV d x))) Hs)) : ACalls Try.prog 58 [.d (.agg (vC x)), .elt [I ((d + 1 : Nat) : Int)]] Hs (Ret (.d (TF (!rightV d x))) Hs) := by
 refine acalls_of_aw Try.func58 rfl ?_
 refine aw_start (T' := [.d (.agg (vC x)), .elt [I ((d + 1 : Nat) : Int)], .un, .un, .un, .un, .un, .un, .un]) rfl ?_
 refine aw_seq ?_
 refine aw_region ?_
 refine zst (op_box_elt (cs := [I x.kind, TF x.yes, .v (.int .i64 x.num), S x.text, .lst 6 (x.list.map vD), .lst 7 (x.fields.map fD)]) (by rfl) (vD_cells x)) rfl (by dsimp only [zS, zN, zH, zT]) ?_
 refine zst (op_assign_const (by rfl)) rfl (by dsimp only [zS, zN, zH, zT]) ?_
 refine al_end rfl ?_
 refine then_normal ?_
 refine aw_seq ?_
 refine aw_region ?_
 refine zst (op_load_elts (ds := vC x) Try.underlying26 (by rfl) Sz26 (by rfl) (Nat.le_of_ble_eq_true rfl) (by rw [vC_eq]; rfl)) rfl (by dsimp only [zS, zN, zH, zT]) ?_
 refine zst (by first | exact op_load_elt Try.underlying3 (by rfl) (by rfl) (by rfl) | exact op_load_ptr Try.underlying3 (by rfl) (by rfl) (by rfl) (by rfl)) rfl (by dsimp only [zS, zN, zH, zT]) ?_
 refine zst (op_sub (by rfl) (by rfl) (show IntKind.i64.wrap (((d + 1 : Nat) : Int) - 1) = (d : Int) by rw [wrap_i64 ⟨by omega, by omega⟩]; omega)) rfl (by dsimp only [zS, zN, zH, zT]) ?_
 refine zst (op_callF Try.func34 (by rfl) (by rfl) (.tmp (by rfl) (.tmp (by rfl) .nil)) (ihx _)) rfl (by dsimp only [zS, zN, zH, zT]) ?_
 refine zst (op_not (by rfl)) rfl (by dsimp only [zS, zN, zH, zT]) ?_
 refine zst (op_assign_tmp (by rfl)) rfl (by dsimp only [zS, zN, zH, zT]) ?_
 refine al_end rfl ?_
 refine then_normal ?_
 refine aw_ret ?_
 refine retPost1 rfl rfl ?_
 exact ⟨rfl, rfl⟩
/- The first part that is not right. -/
set_option maxRecDepth 100000 in
theorem indexV_ok (Hs : HS) (xs : List V) (d : Nat) (hd : d ≤ 1000) (hl : xs.length ≤ 1000000) (ihA : ∀ x ∈ xs, ∀ Hs : HS, ACalls Try.prog 34 [.d (.agg (vC x)), .d (I d)] Hs (Ret (.d (TF (rightV d x))) Hs)) : ACalls Try.prog 69 [.d (.lst 6 (xs.map vD)), .fn (.func 58) [] [.elt [I ((d + 1 : Nat) : Int)]]] Hs (fun av H' => H' = Hs ∧ ∃ r : Int, av = .d (I r) ∧ decide (0 ≤ r) = xs.any fun x => !rightV d x) := by
 refine acalls_of_aw Try.func69 rfl ?_
 refine aw_start (T' := [.d (.lst 6 (xs.map vD)), .fn (.func 58) [] [.elt [I ((d + 1 : Nat) : Int)]], .un, .un, .un, .un, .un, .un, .un, .un, .un, .un, .un, .un, .un, .un, .un, .un, .un]) rfl ?_
 refine aw_seq ?_
 refine aw_region ?_
 refine zst (op_assign_const (by rfl)) rfl (by dsimp only [zS, zN, zH, zT]) ?_
 refine al_end rfl ?_
 refine then_normal ?_
 refine aw_seq ?_
 refine aw_seq ?_
 refine aw_region ?_
 refine zst (op_move_tmp (by rfl)) rfl (by dsimp only [zS, zN, zH, zT]) ?_
 refine zst (op_lenL Try.underlying23 (by first | exact LL.d _ _ | exact LL.own _ _ _ | exact LL.nil _ | assumption)) rfl (by dsimp only [zS, zN, zH, zT]) ?_
 refine zst (op_move_const (by rfl)) rfl (by dsimp only [zS, zN, zH, zT]) ?_
 refine al_end rfl ?_
 refine then_normal ?_
 refine aw_block ?_
 apply aw_loopF (fun n T H => ∃ (k : Nat), T = [.d (.lst 6 (xs.map vD)), .fn (.func 58) [] [.elt [I ((d + 1 : Nat) : Int)]], .un, .un, .un, .un, .un, .d (I (xs.map vD).length), .d (I k), .un, .un, .un, .un, .un, .un, .un, .un, .un, .un] ∧ k ≤ xs.length ∧ n = xs.length - k ∧ ((xs.take k).any fun x => !rightV d x) = false ∧ Hs = H) (xs.length) [true, true, false, false, false, false, false, true, true, false, false, false, false, false, false, false, false, false, false]
 · (try dsimp only [maskT]); try exact rfl
 · rfl
 · exact ⟨0, rfl, by omega, rfl, by simp, rfl⟩
 rintro n T H ⟨k, rfl, hk, rfl, hn, rfl⟩
 refine aw_seq ?_
 refine aw_region ?_
 refine zst (op_ltI (by rfl) (by rfl)) rfl (by dsimp only [zS, zN, zH, zT]) ?_
 refine al_end rfl ?_
 refine then_normal ?_
 refine aw_seq ?_
 refine aw_cond rfl (fun hc1 => ?_) (fun hc1 => ?_)
 ·
  (try simp only [y1, y2, y3, y4, y5, y6, y7, y8, y9, y0, List.length_map] at hc1)
  (try simp only [List.length_map] at hc1)
  have hlt : k < xs.length := by omega
  obtain ⟨y, hy⟩ : ∃ y, xs[k]? = some y := ⟨_, List.getElem?_eq_getElem hlt⟩
  refine aw_skip ?_
  refine then_normal ?_
  refine aw_seq ?_
  refine aw_block ?_
  refine aw_seq ?_
  refine aw_region ?_
  refine zst (op_move_tmp (by rfl)) rfl (by dsimp only [zS, zN, zH, zT]) ?_
  refine zst (op_assign_tmp (by rfl)) rfl (by dsimp only [zS, zN, zH, zT]) ?_
  refine al_end rfl ?_
  refine then_normal ?_
  refine aw_seq ?_
  refine aw_region ?_
  refine zst (op_move_tmp (by rfl)) rfl (by dsimp only [zS, zN, zH, zT]) ?_
  refine zst (op_move_tmp (by rfl)) rfl (by dsimp only [zS, zN, zH, zT]) ?_
  refine zst (op_move_tmp (by rfl)) rfl (by dsimp only [zS, zN, zH, zT]) ?_
  refine zst (op_indexAddr (z := vD y) (cs := [I y.kind, TF y.yes, .v (.int .i64 y.num), S y.text, .lst 6 (y.list.map vD), .lst 7 (y.fields.map fD)]) Try.underlying23 Sz26 (LL.d _ _) (by rfl) (by omega) (by rw [List.getElem?_map, show ((k : Nat) : Int).toNat = k from rfl, hy]; rfl) (vD_cells y)) rfl (by dsimp only [zS, zN, zH, zT]) ?_
  refine zst (op_load_elts (ds := vC y) Try.underlying26 (by rfl) Sz26 (by rfl) (Nat.le_of_ble_eq_true rfl) (by rw [vC_eq]; rfl)) rfl (by dsimp only [zS, zN, zH, zT]) ?_
  refine zst (op_callV (by rfl) Try.func58 (by rfl) (by rfl) (.tmp (by rfl) .nil) (right1_ok _ y d hd (ihA y (List.mem_of_getElem? hy)))) rfl (by dsimp only [zS, zN, zH, zT]) ?_
  refine al_end rfl ?_
  refine then_normal ?_
  refine aw_cond rfl (fun hc2 => ?_) (fun hc2 => ?_)
  ·
   (try simp only [y1, y2, y3, y4, y5, y6, y7, y8, y9, y0, List.length_map] at hc2)
   have hc : rightV d y = false := by simpa using hc2
   refine aw_seq ?_
   refine aw_region ?_
   refine zst (op_move_tmp (by rfl)) rfl (by dsimp only [zS, zN, zH, zT]) ?_
   refine zst (op_assign_tmp (by rfl)) rfl (by dsimp only [zS, zN, zH, zT]) ?_
   refine al_end rfl ?_
   refine then_normal ?_
   refine aw_ret ?_
   refine inBlock_ret (then_ret (again_ret (inBlock_ret (then_ret ?_))))
   refine retPost1 rfl rfl ?_
   exact ⟨rfl, _, rfl, by rw [show decide ((0 : Int) ≤ (k : Int)) = true by simp]; symm; rw [List.any_eq_true]; exact ⟨y, List.mem_of_getElem? hy, by simp [hc]⟩⟩
  ·
   (try simp only [y1, y2, y3, y4, y5, y6, y7, y8, y9, y0, List.length_map] at hc2)
   have hc : rightV d y = true := by simpa using hc2
   refine aw_skip ?_
   refine inBlock_normal (then_normal ?_)
   refine aw_region ?_
   refine zst (by first | exact op_add (by rfl) (by rfl) (wrap_i64 ⟨by omega, by omega⟩) | exact op_add (by rfl) (by rfl) (by rfl)) rfl (by dsimp only [zS, zN, zH, zT]) ?_
   refine zst (op_move_tmp (by rfl)) rfl (by dsimp only [zS, zN, zH, zT]) ?_
   refine al_end rfl ?_
   apply again_to (xs.length - (k + 1)) [true, true, false, false, false, false, false, true, true, false, false, false, false, false, false, false, false, false, false]
   · (try dsimp only [maskT]); try exact rfl
   · rfl
   · omega
   exact ⟨k + 1, rfl, by omega, rfl, by rw [take_snoc hy, List.any_append, hn]; simp [hc], rfl⟩
 ·
  (try simp only [y1, y2, y3, y4, y5, y6, y7, y8, y9, y0, List.length_map] at hc1)
  (try simp only [List.length_map] at hc1)
  have hke : k = xs.length := by omega
  subst hke
  rw [List.take_length] at hn
  refine aw_exit ?_
  refine then_exit (again_exit (inBlock_here (then_normal ?_)))
  refine aw_seq ?_
  refine aw_region ?_
  refine zst (op_assign_const (by rfl)) rfl (by dsimp only [zS, zN, zH, zT]) ?_
  refine al_end rfl ?_
  refine then_normal ?_
  refine aw_ret ?_
  refine retPost1 rfl rfl ?_
  exact ⟨rfl, _, rfl, by rw [hn]; rfl⟩
/- Is one of the parts not right? -/
set_option maxRecDepth 100000 in
theorem containsV_ok (Hs : HS) (xs : List V) (d : Nat) (hd : d ≤ 1000) (hl : xs.length ≤ 1000000) (ihA : ∀ x ∈ xs, ∀ Hs : HS, ACalls Try.prog 34 [.d (.agg (vC x)), .d (I d)] Hs (Ret (.d (TF (rightV d x))) Hs)) : ACalls Try.prog 57 [.d (.lst 6 (xs.map vD)), .fn (.func 58) [] [.elt [I ((d + 1 : Nat) : Int)]]] Hs (Ret (.d (TF (xs.any fun x => !rightV d x))) Hs) := by
 refine acalls_of_aw Try.func57 rfl ?_
 refine aw_start (T' := [.d (.lst 6 (xs.map vD)), .fn (.func 58) [] [.elt [I ((d + 1 : Nat) : Int)]], .un, .un, .un, .un, .un, .un, .un]) rfl ?_
 refine aw_seq ?_
 refine aw_region ?_
 refine zst (op_assign_const (by rfl)) rfl (by dsimp only [zS, zN, zH, zT]) ?_
 refine al_end rfl ?_
 refine then_normal ?_
 refine aw_seq ?_
 refine aw_region ?_
 refine zst (op_move_tmp (by rfl)) rfl (by dsimp only [zS, zN, zH, zT]) ?_
 refine zst (op_move_tmp (by rfl)) rfl (by dsimp only [zS, zN, zH, zT]) ?_
 refine al_cons _ (op_callF Try.func69 (by rfl) (by rfl) (.tmp (by rfl) (.tmp (by rfl) .nil)) (indexV_ok Hs xs d hd hl ihA)) rfl ?_
 rintro v2 H2 ⟨rfl, r, rfl, hr⟩
 apply al_normT
 · (try dsimp only [putT, List.set_cons_zero, List.set_cons_succ]); try exact rfl
 refine zst (op_geI (by rfl) (by rfl)) rfl (by dsimp only [zS, zN, zH, zT]) ?_
 refine zst (op_assign_tmp (by rfl)) rfl (by dsimp only [zS, zN, zH, zT]) ?_
 refine al_end rfl ?_
 refine then_normal ?_
 refine aw_ret ?_
 refine retPost1 rfl rfl ?_
 exact ⟨by (rw [← hr]) <;> rfl, rfl⟩
/- Is a value right, so deep at most? -/
set_option maxHeartbeats 1000000 in
set_option maxRecDepth 100000 in
theorem right_step (Hs : HS) (D : Nat) (k : Int) (y : Bool) (i : Int) (tx : List UInt8) (ls : List V) (fs : List F) (hD : D ≤ 1000) (hls : ls.length ≤ 1000000) (hfs : fs.length ≤ 1000000) (ihL : ∀ d, D = d + 1 → ∀ x ∈ ls, ∀ Hs : HS, ACalls Try.prog 34 [.d (.agg (vC x)), .d (I d)] Hs (Ret (.d (TF (rightV d x))) Hs)) (ihF : ∀ d, D = d + 1 → ∀ x ∈ fs, ∀ Hs : HS, ACalls Try.prog 34 [.d (.agg (vC x.val)), .d (I d)] Hs (Ret (.d (TF (rightV d x.val))) Hs)) : ACalls Try.prog 34 [.d (.agg (v6D k y i tx ls fs)), .d (I D)] Hs (Ret (.d (TF (rightV D (.mk k y i tx ls fs)))) Hs) := by
 refine ACalls.tidy1 ?_
 refine acalls_of_aw Try.func34 rfl ?_
 refine aw_start (T' := ((.d (.agg (v6D k y i tx ls fs))) :: (.d (I D)) :: .un :: .un :: .un :: .un :: .un :: .un :: .un :: .un :: .un :: .un :: .un :: .un :: .un :: .un :: .un :: .un :: .un :: .un :: .un :: .un :: .un :: .un :: .un :: .un :: .un :: .un :: .un :: .un :: .un :: .un :: .un :: .un :: .un :: .un :: .un :: .un :: .un :: .un :: .un :: .un :: .un :: .un :: .un :: .un :: .un :: .un :: .un :: .un :: .un :: .un :: .un :: .un :: .un :: .un :: .un :: .un :: .un :: .un :: .un :: .un :: .un :: .un :: .un :: .un :: .un :: .un :: .un :: .un :: .un :: .un :: .un :: .un :: .un :: .un :: .un :: .un :: .un :: .un :: .un :: .un :: .un :: .un :: .un :: .un :: .un :: .un :: .un :: .un :: .un :: .un :: .un :: .un :: .un :: .un :: .un :: .un :: .un :: .un :: .un :: .un :: .un :: .un :: .un :: .un :: .un :: .un :: .un :: .un :: .un :: .un :: .un :: .un :: [])) rfl ?_
 refine aw_seq ?_
 refine aw_region ?_
 refine zst (op_box_elt (cs := v6D k y i tx ls fs) (by rfl) (by rfl)) rfl (by dsimp only [zS, zN, zH, zT]) ?_
 refine zst (op_box_elt (cs := [I D]) (by rfl) (by rfl)) rfl (by dsimp only [zS, zN, zH, zT]) ?_
 refine zst (op_assign_const (by rfl)) rfl (by dsimp only [zS, zN, zH, zT]) ?_
 refine al_end rfl ?_
 refine then_normal ?_
 refine aw_seq ?_
 refine aw_region ?_
 refine zst (by first | exact op_fieldAddr_ptr Try.underlying26 rfl Sz22 (by rfl) (by rfl) | exact op_fieldAddr_elt Try.underlying26 rfl Sz22 (by rfl) (by rfl) (by rfl)) rfl (by dsimp only [zS, zN, zH, zT]) ?_
 refine zst (by first | exact op_load_elt Try.underlying22 (by rfl) (by rfl) (by rfl) | exact op_load_ptr Try.underlying22 (by rfl) (by rfl) (by first | exact hb13 | exact setB_at push_at) (by rfl)) rfl (by dsimp only [zS, zN, zH, zT]) ?_
 refine zst (op_build (pl := [(0, 1), (1, 1), (2, 1), (3, 1), (4, 1), (5, 1)]) Try.underlying26 Zr26 (by kernel_rfl) (by rfl) (by rfl) (by rfl)) rfl (by dsimp only [zS, zN, zH, zT]) ?_
 refine zst (op_alloc (Zr26) (by rfl)) rfl (by dsimp only [zS, zN, zH, zT]) ?_
 refine zst (op_storeB (vs := (vs6 k false 0 [] nilS nilS)) (b' := (vBlk 26 k false 0 [] nilS nilS)) (H' := _) Sz26 (by rfl) push_at (by intro h; cases h) (by rfl) (by rfl) (Nat.le_of_ble_eq_true rfl) (by simp [AV.one, DV.one, TF, S, I, BY]) (by rfl) (by rfl) rfl) rfl (by dsimp only [zS, zN, zH, zT]) ?_
 refine al_end rfl ?_
 refine then_normal ?_
 apply aw_cutF (fun T H => ∃ (y2 : Bool) (i2 : Int) (tx2 : List UInt8), T = (.un :: .un :: (.elt (v6D k y i tx ls fs)) :: (.elt [I D]) :: .un :: (.ptr Hs.nb 0) :: .un :: .un :: .un :: .un :: .un :: .un :: .un :: .un :: .un :: .un :: .un :: .un :: .un :: .un :: .un :: .un :: .un :: .un :: .un :: .un :: .un :: .un :: .un :: .un :: .un :: .un :: .un :: .un :: .un :: .un :: .un :: .un :: .un :: .un :: .un :: .un :: .un :: .un :: .un :: .un :: .un :: .un :: .un :: .un :: .un :: .un :: .un :: .un :: .un :: .un :: .un :: .un :: .un :: .un :: .un :: .un :: .un :: .un :: .un :: .un :: .un :: .un :: .un :: .un :: .un :: .un :: .un :: .un :: .un :: .un :: .un :: .un :: .un :: .un :: .un :: .un :: .un :: .un :: .un :: .un :: .un :: .un :: .un :: .un :: .un :: .un :: .un :: .un :: .un :: .un :: .un :: .un :: .un :: .un :: .un :: .un :: .un :: .un :: .un :: .un :: .un :: .un :: .un :: .un :: .un :: .un :: .un :: .un :: []) ∧ Ext Hs H ∧ H.blks[Hs.nb]? = some (vBlk 26 k y2 i2 tx2 nilS nilS) ∧ 0 ≤ k ∧ k ≤ 5 ∧ y2 = only2 k y ∧ i2 = only3 k i ∧ tx2 = only4 k tx)
 ·
  refine aw_seq ?_
  refine aw_region ?_
  refine zst (by first | exact op_fieldAddr_ptr Try.underlying26 rfl Sz22 (by rfl) (by rfl) | exact op_fieldAddr_elt Try.underlying26 rfl Sz22 (by rfl) (by rfl) (by rfl)) rfl (by dsimp only [zS, zN, zH, zT]) ?_
  refine zst (by first | exact op_load_elt Try.underlying22 (by rfl) (by rfl) (by rfl) | exact op_load_ptr Try.underlying22 (by rfl) (by rfl) (by first | exact hb13 | exact setB_at push_at) (by rfl)) rfl (by dsimp only [zS, zN, zH, zT]) ?_
  refine al_end rfl ?_
  refine then_normal ?_
  refine aw_block ?_
  refine aw_seq ?_
  refine aw_region ?_
  refine zst (op_eqI (by rfl) (by rfl)) rfl (by dsimp only [zS, zN, zH, zT]) ?_
  refine zst (op_assign_tmp (by rfl)) rfl (by dsimp only [zS, zN, zH, zT]) ?_
  refine al_end rfl ?_
  refine then_normal ?_
  refine aw_cond rfl (fun hc1 => ?_) (fun hc1 => ?_)
  ·
   (try simp only [y1, y2, y3, y4, y5, y6, y7, y8, y9, y0, List.length_map] at hc1)
   have hk0 : k = 0 := hc1
   refine aw_skip ?_
   refine inBlock_normal ?_
   apply cut_to (false :: false :: true :: true :: false :: true :: false :: false :: false :: false :: false :: false :: false :: false :: false :: false :: false :: false :: false :: false :: false :: false :: false :: false :: false :: false :: false :: false :: false :: false :: false :: false :: false :: false :: false :: false :: false :: false :: false :: false :: false :: false :: false :: false :: false :: false :: false :: false :: false :: false :: false :: false :: false :: false :: false :: false :: false :: false :: false :: false :: false :: false :: false :: false :: false :: false :: false :: false :: false :: false :: false :: false :: false :: false :: false :: false :: false :: false :: false :: false :: false :: false :: false :: false :: false :: false :: false :: false :: false :: false :: false :: false :: false :: false :: false :: false :: false :: false :: false :: false :: false :: false :: false :: false :: false :: false :: false :: false :: false :: false :: false :: false :: false :: false :: [])
   · (try dsimp only [maskT]); try exact rfl
   · rfl
   exact ⟨false, 0, [], rfl, ((Ext.refl Hs).push _ _).setB (Nat.le_refl _), setB_at push_at, by omega, by omega, by simp [only2, *], by simp [only3, *], by simp [only4, *]⟩
  ·
   (try simp only [y1, y2, y3, y4, y5, y6, y7, y8, y9, y0, List.length_map] at hc1)
   have hk0 : ¬ k = 0 := hc1
   refine aw_seq ?_
   refine aw_region ?_
   refine zst (op_eqI (by rfl) (by rfl)) rfl (by dsimp only [zS, zN, zH, zT]) ?_
   refine zst (op_assign_tmp (by rfl)) rfl (by dsimp only [zS, zN, zH, zT]) ?_
   refine al_end rfl ?_
   refine then_normal ?_
   refine aw_cond rfl (fun hc2 => ?_) (fun hc2 => ?_)
   ·
    (try simp only [y1, y2, y3, y4, y5, y6, y7, y8, y9, y0, List.length_map] at hc2)
    have hk1 : k = 1 := hc2
    refine aw_region ?_
    refine zst (by first | exact op_fieldAddr_ptr Try.underlying26 rfl Sz4 (by rfl) (by rfl) | exact op_fieldAddr_elt Try.underlying26 rfl Sz4 (by rfl) (by rfl) (by rfl)) rfl (by dsimp only [zS, zN, zH, zT]) ?_
    refine zst (by first | exact op_load_elt Try.underlying4 (by rfl) (by rfl) (by rfl) | exact op_load_ptr Try.underlying4 (by rfl) (by rfl) (by first | exact hb13 | exact setB_at push_at) (by rfl)) rfl (by dsimp only [zS, zN, zH, zT]) ?_
    refine zst (by first | exact op_fieldAddr_ptr Try.underlying26 rfl Sz4 (by rfl) (by rfl) | exact op_fieldAddr_elt Try.underlying26 rfl Sz4 (by rfl) (by rfl) (by rfl)) rfl (by dsimp only [zS, zN, zH, zT]) ?_
    refine zst (op_storeB (vs := [.d (TF y)]) (b' := (vBlk 26 k y 0 [] nilS nilS)) (H' := _) Sz4 (by rfl) (setB_at push_at) (by intro h; cases h) (by rfl) (by rfl) (Nat.le_of_ble_eq_true rfl) (by simp [AV.one, DV.one, TF, S, I, BY]) (by rfl) (by rfl) rfl) rfl (by dsimp only [zS, zN, zH, zT]) ?_
    refine al_end rfl ?_
    refine inBlock_normal ?_
    apply cut_to (false :: false :: true :: true :: false :: true :: false :: false :: false :: false :: false :: false :: false :: false :: false :: false :: false :: false :: false :: false :: false :: false :: false :: false :: false :: false :: false :: false :: false :: false :: false :: false :: false :: false :: false :: false :: false :: false :: false :: false :: false :: false :: false :: false :: false :: false :: false :: false :: false :: false :: false :: false :: false :: false :: false :: false :: false :: false :: false :: false :: false :: false :: false :: false :: false :: false :: false :: false :: false :: false :: false :: false :: false :: false :: false :: false :: false :: false :: false :: false :: false :: false :: false :: false :: false :: false :: false :: false :: false :: false :: false :: false :: false :: false :: false :: false :: false :: false :: false :: false :: false :: false :: false :: false :: false :: false :: false :: false :: false :: false :: false :: false :: false :: false :: [])
    · (try dsimp only [maskT]); try exact rfl
    · rfl
    exact ⟨y, 0, [], rfl, (((Ext.refl Hs).push _ _).setB (Nat.le_refl _)).setB (Nat.le_refl _), setB_at (setB_at push_at), by omega, by omega, by simp [only2, *], by simp [only3, *], by simp [only4, *]⟩
   ·
    (try simp only [y1, y2, y3, y4, y5, y6, y7, y8, y9, y0, List.length_map] at hc2)
    have hk1 : ¬ k = 1 := hc2
    refine aw_seq ?_
    refine aw_region ?_
    refine zst (op_eqI (by rfl) (by rfl)) rfl (by dsimp only [zS, zN, zH, zT]) ?_
    refine zst (op_assign_tmp (by rfl)) rfl (by dsimp only [zS, zN, zH, zT]) ?_
    refine al_end rfl ?_
    refine then_normal ?_
    refine aw_cond rfl (fun hc3 => ?_) (fun hc3 => ?_)
    ·
     (try simp only [y1, y2, y3, y4, y5, y6, y7, y8, y9, y0, List.length_map] at hc3)
     have hk2 : k = 2 := hc3
     refine aw_region ?_
     refine zst (by first | exact op_fieldAddr_ptr Try.underlying26 rfl Sz2 (by rfl) (by rfl) | exact op_fieldAddr_elt Try.underlying26 rfl Sz2 (by rfl) (by rfl) (by rfl)) rfl (by dsimp only [zS, zN, zH, zT]) ?_
     refine zst (by first | exact op_load_elt Try.underlying2 (by rfl) (by rfl) (by rfl) | exact op_load_ptr Try.underlying2 (by rfl) (by rfl) (by first | exact hb13 | exact setB_at push_at) (by rfl)) rfl (by dsimp only [zS, zN, zH, zT]) ?_
     refine zst (by first | exact op_fieldAddr_ptr Try.underlying26 rfl Sz2 (by rfl) (by rfl) | exact op_fieldAddr_elt Try.underlying26 rfl Sz2 (by rfl) (by rfl) (by rfl)) rfl (by dsimp only [zS, zN, zH, zT]) ?_
     refine zst (op_storeB (vs := [.d (.v (.int .i64 i))]) (b' := (vBlk 26 k false i [] nilS nilS)) (H' := _) Sz2 (by rfl) (setB_at push_at) (by intro h; cases h) (by rfl) (by rfl) (Nat.le_of_ble_eq_true rfl) (by simp [AV.one, DV.one, TF, S, I, BY]) (by rfl) (by rfl) rfl) rfl (by dsimp only [zS, zN, zH, zT]) ?_
     refine al_end rfl ?_
     refine inBlock_normal ?_
     apply cut_to (false :: false :: true :: true :: false :: true :: false :: false :: false :: false :: false :: false :: false :: false :: false :: false :: false :: false :: false :: false :: false :: false :: false :: false :: false :: false :: false :: false :: false :: false :: false :: false :: false :: false :: false :: false :: false :: false :: false :: false :: false :: false :: false :: false :: false :: false :: false :: false :: false :: false :: false :: false :: false :: false :: false :: false :: false :: false :: false :: false :: false :: false :: false :: false :: false :: false :: false :: false :: false :: false :: false :: false :: false :: false :: false :: false :: false :: false :: false :: false :: false :: false :: false :: false :: false :: false :: false :: false :: false :: false :: false :: false :: false :: false :: false :: false :: false :: false :: false :: false :: false :: false :: false :: false :: false :: false :: false :: false :: false :: false :: false :: false :: false :: false :: [])
     · (try dsimp only [maskT]); try exact rfl
     · rfl
     exact ⟨false, i, [], rfl, (((Ext.refl Hs).push _ _).setB (Nat.le_refl _)).setB (Nat.le_refl _), setB_at (setB_at push_at), by omega, by omega, by simp [only2, *], by simp [only3, *], by simp [only4, *]⟩
    ·
     (try simp only [y1, y2, y3, y4, y5, y6, y7, y8, y9, y0, List.length_map] at hc3)
     have hk2 : ¬ k = 2 := hc3
     refine aw_seq ?_
     refine aw_region ?_
     refine zst (op_eqI (by rfl) (by rfl)) rfl (by dsimp only [zS, zN, zH, zT]) ?_
     refine zst (op_assign_tmp (by rfl)) rfl (by dsimp only [zS, zN, zH, zT]) ?_
     refine al_end rfl ?_
     refine then_normal ?_
     refine aw_cond rfl (fun hc4 => ?_) (fun hc4 => ?_)
     ·
      (try simp only [y1, y2, y3, y4, y5, y6, y7, y8, y9, y0, List.length_map] at hc4)
      have hk3 : k = 3 := hc4
      refine aw_region ?_
      refine zst (by first | exact op_fieldAddr_ptr Try.underlying26 rfl Sz9 (by rfl) (by rfl) | exact op_fieldAddr_elt Try.underlying26 rfl Sz9 (by rfl) (by rfl) (by rfl)) rfl (by dsimp only [zS, zN, zH, zT]) ?_
      refine zst (by first | exact op_load_elt Try.underlying9 (by rfl) (by rfl) (by rfl) | exact op_load_ptr Try.underlying9 (by rfl) (by rfl) (by first | exact hb13 | exact setB_at push_at) (by rfl)) rfl (by dsimp only [zS, zN, zH, zT]) ?_
      refine zst (by first | exact op_fieldAddr_ptr Try.underlying26 rfl Sz9 (by rfl) (by rfl) | exact op_fieldAddr_elt Try.underlying26 rfl Sz9 (by rfl) (by rfl) (by rfl)) rfl (by dsimp only [zS, zN, zH, zT]) ?_
      refine zst (op_storeB (vs := [.d (S tx)]) (b' := (vBlk 26 k false 0 tx nilS nilS)) (H' := _) Sz9 (by rfl) (setB_at push_at) (by intro h; cases h) (by rfl) (by rfl) (Nat.le_of_ble_eq_true rfl) (by simp [AV.one, DV.one, TF, S, I, BY]) (by rfl) (by rfl) rfl) rfl (by dsimp only [zS, zN, zH, zT]) ?_
      refine al_end rfl ?_
      refine inBlock_normal ?_
      apply cut_to (false :: false :: true :: true :: false :: true :: false :: false :: false :: false :: false :: false :: false :: false :: false :: false :: false :: false :: false :: false :: false :: false :: false :: false :: false :: false :: false :: false :: false :: false :: false :: false :: false :: false :: false :: false :: false :: false :: false :: false :: false :: false :: false :: false :: false :: false :: false :: false :: false :: false :: false :: false :: false :: false :: false :: false :: false :: false :: false :: false :: false :: false :: false :: false :: false :: false :: false :: false :: false :: false :: false :: false :: false :: false :: false :: false :: false :: false :: false :: false :: false :: false :: false :: false :: false :: false :: false :: false :: false :: false :: false :: false :: false :: false :: false :: false :: false :: false :: false :: false :: false :: false :: false :: false :: false :: false :: false :: false :: false :: false :: false :: false :: false :: false :: [])
      · (try dsimp only [maskT]); try exact rfl
      · rfl
      exact ⟨false, 0, tx, rfl, (((Ext.refl Hs).push _ _).setB (Nat.le_refl _)).setB (Nat.le_refl _), setB_at (setB_at push_at), by omega, by omega, by simp [only2, *], by simp [only3, *], by simp [only4, *]⟩
     ·
      (try simp only [y1, y2, y3, y4, y5, y6, y7, y8, y9, y0, List.length_map] at hc4)
      have hk3 : ¬ k = 3 := hc4
      refine aw_seq ?_
      refine aw_seq ?_
      refine aw_region ?_
      refine zst (op_eqI (by rfl) (by rfl)) rfl (by dsimp only [zS, zN, zH, zT]) ?_
      refine zst (op_assign_tmp (by rfl)) rfl (by dsimp only [zS, zN, zH, zT]) ?_
      refine al_end rfl ?_
      refine then_normal ?_
      refine aw_cond rfl (fun hc5 => ?_) (fun hc5 => ?_)
      ·
       (try simp only [y1, y2, y3, y4, y5, y6, y7, y8, y9, y0, List.length_map] at hc5)
       first | (have hk4 : k = 4 := hc5; subst hk4) | have hk5 : k = 5 := hc5
       refine aw_skip ?_
       refine then_normal ?_
       refine aw_cond rfl (fun _ => ?_) (fun h => by exact absurd h (by decide))
       refine aw_skip ?_
       refine inBlock_normal ?_
       apply cut_to (false :: false :: true :: true :: false :: true :: false :: false :: false :: false :: false :: false :: false :: false :: false :: false :: false :: false :: false :: false :: false :: false :: false :: false :: false :: false :: false :: false :: false :: false :: false :: false :: false :: false :: false :: false :: false :: false :: false :: false :: false :: false :: false :: false :: false :: false :: false :: false :: false :: false :: false :: false :: false :: false :: false :: false :: false :: false :: false :: false :: false :: false :: false :: false :: false :: false :: false :: false :: false :: false :: false :: false :: false :: false :: false :: false :: false :: false :: false :: false :: false :: false :: false :: false :: false :: false :: false :: false :: false :: false :: false :: false :: false :: false :: false :: false :: false :: false :: false :: false :: false :: false :: false :: false :: false :: false :: false :: false :: false :: false :: false :: false :: false :: false :: [])
       · (try dsimp only [maskT]); try exact rfl
       · rfl
       exact ⟨false, 0, [], rfl, ((Ext.refl Hs).push _ _).setB (Nat.le_refl _), setB_at push_at, by omega, by omega, by simp [only2, *], by simp [only3, *], by simp [only4, *]⟩
      ·
       (try simp only [y1, y2, y3, y4, y5, y6, y7, y8, y9, y0, List.length_map] at hc5)
       refine aw_region ?_
       refine zst (op_eqI (by rfl) (by rfl)) rfl (by dsimp only [zS, zN, zH, zT]) ?_
       refine zst (op_assign_tmp (by rfl)) rfl (by dsimp only [zS, zN, zH, zT]) ?_
       refine al_end rfl ?_
       refine then_normal ?_
       refine aw_cond rfl (fun hc7 => ?_) (fun hc7 => ?_)
       ·
        (try simp only [y1, y2, y3, y4, y5, y6, y7, y8, y9, y0, List.length_map] at hc7)
        first | (have hk4 : k = 4 := hc7; subst hk4) | have hk5 : k = 5 := hc7
        refine aw_skip ?_
        refine inBlock_normal ?_
        apply cut_to (false :: false :: true :: true :: false :: true :: false :: false :: false :: false :: false :: false :: false :: false :: false :: false :: false :: false :: false :: false :: false :: false :: false :: false :: false :: false :: false :: false :: false :: false :: false :: false :: false :: false :: false :: false :: false :: false :: false :: false :: false :: false :: false :: false :: false :: false :: false :: false :: false :: false :: false :: false :: false :: false :: false :: false :: false :: false :: false :: false :: false :: false :: false :: false :: false :: false :: false :: false :: false :: false :: false :: false :: false :: false :: false :: false :: false :: false :: false :: false :: false :: false :: false :: false :: false :: false :: false :: false :: false :: false :: false :: false :: false :: false :: false :: false :: false :: false :: false :: false :: false :: false :: false :: false :: false :: false :: false :: false :: false :: false :: false :: false :: false :: false :: [])
        · (try dsimp only [maskT]); try exact rfl
        · rfl
        exact ⟨false, 0, [], rfl, ((Ext.refl Hs).push _ _).setB (Nat.le_refl _), setB_at push_at, by omega, by omega, by simp [only2, *], by simp [only3, *], by simp [only4, *]⟩
       ·
        (try simp only [y1, y2, y3, y4, y5, y6, y7, y8, y9, y0, List.length_map] at hc7)
        refine aw_seq ?_
        refine aw_region ?_
        refine zst (op_assign_const (by rfl)) rfl (by dsimp only [zS, zN, zH, zT]) ?_
        refine al_end rfl ?_
        refine then_normal ?_
        refine aw_ret ?_
        refine inBlock_ret (cut_ret ?_)
        refine retPost1 rfl rfl ?_
        exact ⟨by rw [right_kind (by omega)]; rfl, ((Ext.refl Hs).push _ _).setB (Nat.le_refl _)⟩
 rintro T H ⟨y2, i2, tx2, rfl, hx, hb13, h0, h5, rfl, rfl, rfl⟩
 refine aw_seq ?_
 apply aw_cutF (fun T H => ∃ (c : Bool), T = (.un :: .un :: (.elt (v6D k y i tx ls fs)) :: (.elt [I D]) :: .un :: .un :: .un :: .un :: .un :: .un :: .un :: .un :: .un :: .un :: .un :: .un :: .un :: .un :: .un :: .un :: .un :: .un :: .un :: .un :: .un :: .un :: .un :: .un :: .un :: .un :: .un :: .un :: .un :: .un :: .un :: .un :: .un :: .un :: .un :: .un :: .un :: .un :: .un :: .un :: .un :: .un :: .un :: .un :: .un :: .un :: .un :: .un :: .un :: .un :: .un :: .un :: .un :: .un :: .un :: .un :: .un :: .un :: .un :: .un :: .un :: .un :: .un :: .un :: .un :: .un :: .un :: .un :: .un :: .un :: .un :: .un :: .un :: (.d (TF c)) :: .un :: .un :: .un :: .un :: .un :: .un :: .un :: .un :: .un :: .un :: .un :: .un :: .un :: .un :: .un :: .un :: .un :: .un :: .un :: .un :: .un :: .un :: .un :: .un :: .un :: .un :: .un :: .un :: .un :: .un :: .un :: .un :: .un :: .un :: .un :: .un :: []) ∧ Ext Hs H ∧ c = wrongV D k y i tx ls fs)
 ·
  refine aw_region ?_
  refine zst (by first | exact op_fieldAddr_ptr Try.underlying26 rfl Sz4 (by rfl) (by rfl) | exact op_fieldAddr_elt Try.underlying26 rfl Sz4 (by rfl) (by rfl) (by rfl)) rfl (by dsimp only [zS, zN, zH, zT]) ?_
  refine zst (by first | exact op_load_elt Try.underlying4 (by rfl) (by rfl) (by rfl) | exact op_load_ptr Try.underlying4 (by rfl) (by rfl) (by first | exact hb13 | exact setB_at push_at) (by rfl)) rfl (by dsimp only [zS, zN, zH, zT]) ?_
  refine zst (by first | exact op_fieldAddr_ptr Try.underlying26 rfl Sz4 (by rfl) (by rfl) | exact op_fieldAddr_elt Try.underlying26 rfl Sz4 (by rfl) (by rfl) (by rfl)) rfl (by dsimp only [zS, zN, zH, zT]) ?_
  refine zst (by first | exact op_load_elt Try.underlying4 (by rfl) (by rfl) (by rfl) | exact op_load_ptr Try.underlying4 (by rfl) (by rfl) (by first | exact hb13 | exact setB_at push_at) (by rfl)) rfl (by dsimp only [zS, zN, zH, zT]) ?_
  refine zst (op_neB Try.underlying4 (by rfl) (by rfl)) rfl (by dsimp only [zS, zN, zH, zT]) ?_
  refine zst (op_move_tmp (by rfl)) rfl (by dsimp only [zS, zN, zH, zT]) ?_
  refine al_split 38 rfl (fun hg8 => ?_) (fun hg8 => ?_)
  ·
   (try simp only [y1, y2, y3, y4, y5, y6, y7, y8, y9, y0, List.length_map] at hg8)
   have g1 : (y != only2 k y) = true := by simpa using hg8
   apply al_normT
   · (try dsimp only [zS, zN, zH, zT]); try exact rfl
   refine zuw rfl rfl rfl rfl (by dsimp only [zS, zN, zH, zT]) ?_
   refine zuw rfl rfl rfl rfl (by dsimp only [zS, zN, zH, zT]) ?_
   refine zuw rfl rfl rfl rfl (by dsimp only [zS, zN, zH, zT]) ?_
   refine zuw rfl rfl rfl rfl (by dsimp only [zS, zN, zH, zT]) ?_
   refine zuw rfl rfl rfl rfl (by dsimp only [zS, zN, zH, zT]) ?_
   refine zst (op_pick_tt (by rfl) (val_const (by rfl))) rfl (by dsimp only [zS, zN, zH, zT]) ?_
   refine zst (op_move_tmp (by rfl)) rfl (by dsimp only [zS, zN, zH, zT]) ?_
   refine zuw rfl rfl rfl rfl (by dsimp only [zS, zN, zH, zT]) ?_
   refine zuw rfl rfl rfl rfl (by dsimp only [zS, zN, zH, zT]) ?_
   refine zuw rfl rfl rfl rfl (by dsimp only [zS, zN, zH, zT]) ?_
   refine zuw rfl rfl rfl rfl (by dsimp only [zS, zN, zH, zT]) ?_
   refine zuw rfl rfl rfl rfl (by dsimp only [zS, zN, zH, zT]) ?_
   refine zst (op_pick_tt (by rfl) (val_const (by rfl))) rfl (by dsimp only [zS, zN, zH, zT]) ?_
   refine zst (op_move_tmp (by rfl)) rfl (by dsimp only [zS, zN, zH, zT]) ?_
   refine zuw rfl rfl rfl rfl (by dsimp only [zS, zN, zH, zT]) ?_
   refine zuw rfl rfl rfl rfl (by dsimp only [zS, zN, zH, zT]) ?_
   refine zuw rfl rfl rfl rfl (by dsimp only [zS, zN, zH, zT]) ?_
   refine zuw rfl rfl rfl rfl (by dsimp only [zS, zN, zH, zT]) ?_
   refine zun rfl rfl rfl (by dsimp only [zS, zN, zH, zT]) ?_
   refine zun rfl rfl rfl (by dsimp only [zS, zN, zH, zT]) ?_
   refine zun rfl rfl rfl (by dsimp only [zS, zN, zH, zT]) ?_
   refine zun rfl rfl rfl (by dsimp only [zS, zN, zH, zT]) ?_
   refine zuw rfl rfl rfl rfl (by dsimp only [zS, zN, zH, zT]) ?_
   refine zst (op_pick_tt (by rfl) (val_const (by rfl))) rfl (by dsimp only [zS, zN, zH, zT]) ?_
   refine zst (op_move_tmp (by rfl)) rfl (by dsimp only [zS, zN, zH, zT]) ?_
   refine zuw rfl rfl rfl rfl (by dsimp only [zS, zN, zH, zT]) ?_
   refine zuw rfl rfl rfl rfl (by dsimp only [zS, zN, zH, zT]) ?_
   refine zuw rfl rfl rfl rfl (by dsimp only [zS, zN, zH, zT]) ?_
   refine zuw rfl rfl rfl rfl (by dsimp only [zS, zN, zH, zT]) ?_
   refine zun rfl rfl rfl (by dsimp only [zS, zN, zH, zT]) ?_
   refine zun rfl rfl rfl (by dsimp only [zS, zN, zH, zT]) ?_
   refine zun rfl rfl rfl (by dsimp only [zS, zN, zH, zT]) ?_
   refine zun rfl rfl rfl (by dsimp only [zS, zN, zH, zT]) ?_
   refine zuw rfl rfl rfl rfl (by dsimp only [zS, zN, zH, zT]) ?_
   refine zst (op_pick_tt (by rfl) (val_const (by rfl))) rfl (by dsimp only [zS, zN, zH, zT]) ?_
   refine zst (op_move_tmp (by rfl)) rfl (by dsimp only [zS, zN, zH, zT]) ?_
   refine zuw rfl rfl rfl rfl (by dsimp only [zS, zN, zH, zT]) ?_
   refine zuw rfl rfl rfl rfl (by dsimp only [zS, zN, zH, zT]) ?_
   refine zst (op_pick_tt (by rfl) (val_const (by rfl))) rfl (by dsimp only [zS, zN, zH, zT]) ?_
   refine al_end rfl ?_
   apply cut_to (false :: false :: true :: true :: false :: false :: false :: false :: false :: false :: false :: false :: false :: false :: false :: false :: false :: false :: false :: false :: false :: false :: false :: false :: false :: false :: false :: false :: false :: false :: false :: false :: false :: false :: false :: false :: false :: false :: false :: false :: false :: false :: false :: false :: false :: false :: false :: false :: false :: false :: false :: false :: false :: false :: false :: false :: false :: false :: false :: false :: false :: false :: false :: false :: false :: false :: false :: false :: false :: false :: false :: false :: false :: false :: false :: false :: false :: true :: false :: false :: false :: false :: false :: false :: false :: false :: false :: false :: false :: false :: false :: false :: false :: false :: false :: false :: false :: false :: false :: false :: false :: false :: false :: false :: false :: false :: false :: false :: false :: false :: false :: false :: false :: false :: [])
   · (try dsimp only [maskT]); try exact rfl
   · rfl
   exact ⟨true, rfl, hx, by simp only [wrongV, g1, Bool.true_or, Bool.or_true, Bool.false_or, Bool.and_true, Bool.true_and, Bool.false_and, Bool.or_false]⟩
  ·
   (try simp only [y1, y2, y3, y4, y5, y6, y7, y8, y9, y0, List.length_map] at hg8)
   have g1 : (y != only2 k y) = false := by simpa using hg8
   apply al_normT
   · (try dsimp only [zS, zN, zH, zT]); try exact rfl
   refine zsw rfl rfl rfl (by first | exact op_fieldAddr_ptr Try.underlying26 rfl Sz2 (by rfl) (by rfl) | exact op_fieldAddr_elt Try.underlying26 rfl Sz2 (by rfl) (by rfl) (by rfl)) (by dsimp only [zS, zN, zH, zT]) ?_
   refine zsw rfl rfl rfl (by first | exact op_load_elt Try.underlying2 (by rfl) (by rfl) (by rfl) | exact op_load_ptr Try.underlying2 (by rfl) (by rfl) (by first | exact hb13 | exact setB_at push_at) (by rfl)) (by dsimp only [zS, zN, zH, zT]) ?_
   refine zsw rfl rfl rfl (by first | exact op_fieldAddr_ptr Try.underlying26 rfl Sz2 (by rfl) (by rfl) | exact op_fieldAddr_elt Try.underlying26 rfl Sz2 (by rfl) (by rfl) (by rfl)) (by dsimp only [zS, zN, zH, zT]) ?_
   refine zsw rfl rfl rfl (by first | exact op_load_elt Try.underlying2 (by rfl) (by rfl) (by rfl) | exact op_load_ptr Try.underlying2 (by rfl) (by rfl) (by first | exact hb13 | exact setB_at push_at) (by rfl)) (by dsimp only [zS, zN, zH, zT]) ?_
   refine zsw rfl rfl rfl (op_neI (by rfl) (by rfl)) (by dsimp only [zS, zN, zH, zT]) ?_
   refine zst (op_pick_ff (by rfl) (val_tmp (by rfl))) rfl (by dsimp only [zS, zN, zH, zT]) ?_
   refine zst (op_move_tmp (by rfl)) rfl (by dsimp only [zS, zN, zH, zT]) ?_
   refine al_split 45 rfl (fun hg9 => ?_) (fun hg9 => ?_)
   ·
    (try simp only [y1, y2, y3, y4, y5, y6, y7, y8, y9, y0, List.length_map] at hg9)
    have g2 : (i != only3 k i) = true := by simpa using hg9
    apply al_normT
    · (try dsimp only [zS, zN, zH, zT]); try exact rfl
    refine zuw rfl rfl rfl rfl (by dsimp only [zS, zN, zH, zT]) ?_
    refine zuw rfl rfl rfl rfl (by dsimp only [zS, zN, zH, zT]) ?_
    refine zuw rfl rfl rfl rfl (by dsimp only [zS, zN, zH, zT]) ?_
    refine zuw rfl rfl rfl rfl (by dsimp only [zS, zN, zH, zT]) ?_
    refine zuw rfl rfl rfl rfl (by dsimp only [zS, zN, zH, zT]) ?_
    refine zst (op_pick_tt (by rfl) (val_const (by rfl))) rfl (by dsimp only [zS, zN, zH, zT]) ?_
    refine zst (op_move_tmp (by rfl)) rfl (by dsimp only [zS, zN, zH, zT]) ?_
    refine zuw rfl rfl rfl rfl (by dsimp only [zS, zN, zH, zT]) ?_
    refine zuw rfl rfl rfl rfl (by dsimp only [zS, zN, zH, zT]) ?_
    refine zuw rfl rfl rfl rfl (by dsimp only [zS, zN, zH, zT]) ?_
    refine zuw rfl rfl rfl rfl (by dsimp only [zS, zN, zH, zT]) ?_
    refine zun rfl rfl rfl (by dsimp only [zS, zN, zH, zT]) ?_
    refine zun rfl rfl rfl (by dsimp only [zS, zN, zH, zT]) ?_
    refine zun rfl rfl rfl (by dsimp only [zS, zN, zH, zT]) ?_
    refine zun rfl rfl rfl (by dsimp only [zS, zN, zH, zT]) ?_
    refine zuw rfl rfl rfl rfl (by dsimp only [zS, zN, zH, zT]) ?_
    refine zst (op_pick_tt (by rfl) (val_const (by rfl))) rfl (by dsimp only [zS, zN, zH, zT]) ?_
    refine zst (op_move_tmp (by rfl)) rfl (by dsimp only [zS, zN, zH, zT]) ?_
    refine zuw rfl rfl rfl rfl (by dsimp only [zS, zN, zH, zT]) ?_
    refine zuw rfl rfl rfl rfl (by dsimp only [zS, zN, zH, zT]) ?_
    refine zuw rfl rfl rfl rfl (by dsimp only [zS, zN, zH, zT]) ?_
    refine zuw rfl rfl rfl rfl (by dsimp only [zS, zN, zH, zT]) ?_
    refine zun rfl rfl rfl (by dsimp only [zS, zN, zH, zT]) ?_
    refine zun rfl rfl rfl (by dsimp only [zS, zN, zH, zT]) ?_
    refine zun rfl rfl rfl (by dsimp only [zS, zN, zH, zT]) ?_
    refine zun rfl rfl rfl (by dsimp only [zS, zN, zH, zT]) ?_
    refine zuw rfl rfl rfl rfl (by dsimp only [zS, zN, zH, zT]) ?_
    refine zst (op_pick_tt (by rfl) (val_const (by rfl))) rfl (by dsimp only [zS, zN, zH, zT]) ?_
    refine zst (op_move_tmp (by rfl)) rfl (by dsimp only [zS, zN, zH, zT]) ?_
    refine zuw rfl rfl rfl rfl (by dsimp only [zS, zN, zH, zT]) ?_
    refine zuw rfl rfl rfl rfl (by dsimp only [zS, zN, zH, zT]) ?_
    refine zst (op_pick_tt (by rfl) (val_const (by rfl))) rfl (by dsimp only [zS, zN, zH, zT]) ?_
    refine al_end rfl ?_
    apply cut_to (false :: false :: true :: true :: false :: false :: false :: false :: false :: false :: false :: false :: false :: false :: false :: false :: false :: false :: false :: false :: false :: false :: false :: false :: false :: false :: false :: false :: false :: false :: false :: false :: false :: false :: false :: false :: false :: false :: false :: false :: false :: false :: false :: false :: false :: false :: false :: false :: false :: false :: false :: false :: false :: false :: false :: false :: false :: false :: false :: false :: false :: false :: false :: false :: false :: false :: false :: false :: false :: false :: false :: false :: false :: false :: false :: false :: false :: true :: false :: false :: false :: false :: false :: false :: false :: false :: false :: false :: false :: false :: false :: false :: false :: false :: false :: false :: false :: false :: false :: false :: false :: false :: false :: false :: false :: false :: false :: false :: false :: false :: false :: false :: false :: false :: [])
    · (try dsimp only [maskT]); try exact rfl
    · rfl
    exact ⟨true, rfl, hx, by simp only [wrongV, g1, g2, Bool.true_or, Bool.or_true, Bool.false_or, Bool.and_true, Bool.true_and, Bool.false_and, Bool.or_false]⟩
   ·
    (try simp only [y1, y2, y3, y4, y5, y6, y7, y8, y9, y0, List.length_map] at hg9)
    have g2 : (i != only3 k i) = false := by simpa using hg9
    apply al_normT
    · (try dsimp only [zS, zN, zH, zT]); try exact rfl
    refine zsw rfl rfl rfl (by first | exact op_fieldAddr_ptr Try.underlying26 rfl Sz9 (by rfl) (by rfl) | exact op_fieldAddr_elt Try.underlying26 rfl Sz9 (by rfl) (by rfl) (by rfl)) (by dsimp only [zS, zN, zH, zT]) ?_
    refine zsw rfl rfl rfl (by first | exact op_load_elt Try.underlying9 (by rfl) (by rfl) (by rfl) | exact op_load_ptr Try.underlying9 (by rfl) (by rfl) (by first | exact hb13 | exact setB_at push_at) (by rfl)) (by dsimp only [zS, zN, zH, zT]) ?_
    refine zsw rfl rfl rfl (by first | exact op_fieldAddr_ptr Try.underlying26 rfl Sz9 (by rfl) (by rfl) | exact op_fieldAddr_elt Try.underlying26 rfl Sz9 (by rfl) (by rfl) (by rfl)) (by dsimp only [zS, zN, zH, zT]) ?_
    refine zsw rfl rfl rfl (by first | exact op_load_elt Try.underlying9 (by rfl) (by rfl) (by rfl) | exact op_load_ptr Try.underlying9 (by rfl) (by rfl) (by first | exact hb13 | exact setB_at push_at) (by rfl)) (by dsimp only [zS, zN, zH, zT]) ?_
    refine zsw rfl rfl rfl (op_neS (by rfl) (by rfl)) (by dsimp only [zS, zN, zH, zT]) ?_
    refine zst (op_pick_ff (by rfl) (val_tmp (by rfl))) rfl (by dsimp only [zS, zN, zH, zT]) ?_
    refine zst (op_move_tmp (by rfl)) rfl (by dsimp only [zS, zN, zH, zT]) ?_
    refine al_split 52 rfl (fun hg10 => ?_) (fun hg10 => ?_)
    ·
     (try simp only [y1, y2, y3, y4, y5, y6, y7, y8, y9, y0, List.length_map] at hg10)
     have g3 : (!(tx == only4 k tx)) = true := by simpa using hg10
     apply al_normT
     · (try dsimp only [zS, zN, zH, zT]); try exact rfl
     refine zuw rfl rfl rfl rfl (by dsimp only [zS, zN, zH, zT]) ?_
     refine zuw rfl rfl rfl rfl (by dsimp only [zS, zN, zH, zT]) ?_
     refine zuw rfl rfl rfl rfl (by dsimp only [zS, zN, zH, zT]) ?_
     refine zuw rfl rfl rfl rfl (by dsimp only [zS, zN, zH, zT]) ?_
     refine zun rfl rfl rfl (by dsimp only [zS, zN, zH, zT]) ?_
     refine zun rfl rfl rfl (by dsimp only [zS, zN, zH, zT]) ?_
     refine zun rfl rfl rfl (by dsimp only [zS, zN, zH, zT]) ?_
     refine zun rfl rfl rfl (by dsimp only [zS, zN, zH, zT]) ?_
     refine zuw rfl rfl rfl rfl (by dsimp only [zS, zN, zH, zT]) ?_
     refine zst (op_pick_tt (by rfl) (val_const (by rfl))) rfl (by dsimp only [zS, zN, zH, zT]) ?_
     refine zst (op_move_tmp (by rfl)) rfl (by dsimp only [zS, zN, zH, zT]) ?_
     refine zuw rfl rfl rfl rfl (by dsimp only [zS, zN, zH, zT]) ?_
     refine zuw rfl rfl rfl rfl (by dsimp only [zS, zN, zH, zT]) ?_
     refine zuw rfl rfl rfl rfl (by dsimp only [zS, zN, zH, zT]) ?_
     refine zuw rfl rfl rfl rfl (by dsimp only [zS, zN, zH, zT]) ?_
     refine zun rfl rfl rfl (by dsimp only [zS, zN, zH, zT]) ?_
     refine zun rfl rfl rfl (by dsimp only [zS, zN, zH, zT]) ?_
     refine zun rfl rfl rfl (by dsimp only [zS, zN, zH, zT]) ?_
     refine zun rfl rfl rfl (by dsimp only [zS, zN, zH, zT]) ?_
     refine zuw rfl rfl rfl rfl (by dsimp only [zS, zN, zH, zT]) ?_
     refine zst (op_pick_tt (by rfl) (val_const (by rfl))) rfl (by dsimp only [zS, zN, zH, zT]) ?_
     refine zst (op_move_tmp (by rfl)) rfl (by dsimp only [zS, zN, zH, zT]) ?_
     refine zuw rfl rfl rfl rfl (by dsimp only [zS, zN, zH, zT]) ?_
     refine zuw rfl rfl rfl rfl (by dsimp only [zS, zN, zH, zT]) ?_
     refine zst (op_pick_tt (by rfl) (val_const (by rfl))) rfl (by dsimp only [zS, zN, zH, zT]) ?_
     refine al_end rfl ?_
     apply cut_to (false :: false :: true :: true :: false :: false :: false :: false :: false :: false :: false :: false :: false :: false :: false :: false :: false :: false :: false :: false :: false :: false :: false :: false :: false :: false :: false :: false :: false :: false :: false :: false :: false :: false :: false :: false :: false :: false :: false :: false :: false :: false :: false :: false :: false :: false :: false :: false :: false :: false :: false :: false :: false :: false :: false :: false :: false :: false :: false :: false :: false :: false :: false :: false :: false :: false :: false :: false :: false :: false :: false :: false :: false :: false :: false :: false :: false :: true :: false :: false :: false :: false :: false :: false :: false :: false :: false :: false :: false :: false :: false :: false :: false :: false :: false :: false :: false :: false :: false :: false :: false :: false :: false :: false :: false :: false :: false :: false :: false :: false :: false :: false :: false :: false :: [])
     · (try dsimp only [maskT]); try exact rfl
     · rfl
     exact ⟨true, rfl, hx, by simp only [wrongV, g1, g2, g3, Bool.true_or, Bool.or_true, Bool.false_or, Bool.and_true, Bool.true_and, Bool.false_and, Bool.or_false]⟩
    ·
     (try simp only [y1, y2, y3, y4, y5, y6, y7, y8, y9, y0, List.length_map] at hg10)
     have g3 : (!(tx == only4 k tx)) = false := by simpa using hg10
     apply al_normT
     · (try dsimp only [zS, zN, zH, zT]); try exact rfl
     refine zsw rfl rfl rfl (by first | exact op_fieldAddr_ptr Try.underlying26 rfl Sz22 (by rfl) (by rfl) | exact op_fieldAddr_elt Try.underlying26 rfl Sz22 (by rfl) (by rfl) (by rfl)) (by dsimp only [zS, zN, zH, zT]) ?_
     refine zsw rfl rfl rfl (by first | exact op_load_elt Try.underlying22 (by rfl) (by rfl) (by rfl) | exact op_load_ptr Try.underlying22 (by rfl) (by rfl) (by first | exact hb13 | exact setB_at push_at) (by rfl)) (by dsimp only [zS, zN, zH, zT]) ?_
     refine zsw rfl rfl rfl (op_neI (by rfl) (by rfl)) (by dsimp only [zS, zN, zH, zT]) ?_
     refine zsw rfl rfl rfl (op_move_tmp (by rfl)) (by dsimp only [zS, zN, zH, zT]) ?_
     refine al_split 56 rfl (fun hg11 => ?_) (fun hg11 => ?_)
     ·
      (try simp only [y1, y2, y3, y4, y5, y6, y7, y8, y9, y0, List.length_map] at hg11)
      have g4 : (k != 4) = true := by simpa using hg11
      apply al_normT
      · (try dsimp only [zS, zN, zH, zT]); try exact rfl
      refine zsw rfl rfl rfl (by first | exact op_fieldAddr_ptr Try.underlying26 rfl Sz23 (by rfl) (by rfl) | exact op_fieldAddr_elt Try.underlying26 rfl Sz23 (by rfl) (by rfl) (by rfl)) (by dsimp only [zS, zN, zH, zT]) ?_
      refine zsw rfl rfl rfl (by first | exact op_load_elt Try.underlying23 (by rfl) (by rfl) (by rfl) | exact op_load_ptr Try.underlying23 (by rfl) (by rfl) (by first | exact hb13 | exact setB_at push_at) (by rfl)) (by dsimp only [zS, zN, zH, zT]) ?_
      refine zsw rfl rfl rfl (op_lenL Try.underlying23 (by first | exact LL.d _ _ | exact LL.own _ _ _ | exact LL.nil _ | assumption)) (by dsimp only [zS, zN, zH, zT]) ?_
      refine zsw rfl rfl rfl (op_gtI (by rfl) (by rfl)) (by dsimp only [zS, zN, zH, zT]) ?_
      refine zsw rfl rfl rfl (op_pick_tt (by rfl) (val_tmp (by rfl))) (by dsimp only [zS, zN, zH, zT]) ?_
      refine zst (op_pick_ff (by rfl) (val_tmp (by rfl))) rfl (by dsimp only [zS, zN, zH, zT]) ?_
      refine zst (op_move_tmp (by rfl)) rfl (by dsimp only [zS, zN, zH, zT]) ?_
      refine al_split 63 rfl (fun hg12 => ?_) (fun hg12 => ?_)
      ·
       (try simp only [y1, y2, y3, y4, y5, y6, y7, y8, y9, y0, List.length_map] at hg12)
       have g5 : decide (0 < (ls.length : Int)) = true := by simpa using hg12
       apply al_normT
       · (try dsimp only [zS, zN, zH, zT]); try exact rfl
       refine zuw rfl rfl rfl rfl (by dsimp only [zS, zN, zH, zT]) ?_
       refine zuw rfl rfl rfl rfl (by dsimp only [zS, zN, zH, zT]) ?_
       refine zuw rfl rfl rfl rfl (by dsimp only [zS, zN, zH, zT]) ?_
       refine zuw rfl rfl rfl rfl (by dsimp only [zS, zN, zH, zT]) ?_
       refine zun rfl rfl rfl (by dsimp only [zS, zN, zH, zT]) ?_
       refine zun rfl rfl rfl (by dsimp only [zS, zN, zH, zT]) ?_
       refine zun rfl rfl rfl (by dsimp only [zS, zN, zH, zT]) ?_
       refine zun rfl rfl rfl (by dsimp only [zS, zN, zH, zT]) ?_
       refine zuw rfl rfl rfl rfl (by dsimp only [zS, zN, zH, zT]) ?_
       refine zst (op_pick_tt (by rfl) (val_const (by rfl))) rfl (by dsimp only [zS, zN, zH, zT]) ?_
       refine zst (op_move_tmp (by rfl)) rfl (by dsimp only [zS, zN, zH, zT]) ?_
       refine zuw rfl rfl rfl rfl (by dsimp only [zS, zN, zH, zT]) ?_
       refine zuw rfl rfl rfl rfl (by dsimp only [zS, zN, zH, zT]) ?_
       refine zst (op_pick_tt (by rfl) (val_const (by rfl))) rfl (by dsimp only [zS, zN, zH, zT]) ?_
       refine al_end rfl ?_
       apply cut_to (false :: false :: true :: true :: false :: false :: false :: false :: false :: false :: false :: false :: false :: false :: false :: false :: false :: false :: false :: false :: false :: false :: false :: false :: false :: false :: false :: false :: false :: false :: false :: false :: false :: false :: false :: false :: false :: false :: false :: false :: false :: false :: false :: false :: false :: false :: false :: false :: false :: false :: false :: false :: false :: false :: false :: false :: false :: false :: false :: false :: false :: false :: false :: false :: false :: false :: false :: false :: false :: false :: false :: false :: false :: false :: false :: false :: false :: true :: false :: false :: false :: false :: false :: false :: false :: false :: false :: false :: false :: false :: false :: false :: false :: false :: false :: false :: false :: false :: false :: false :: false :: false :: false :: false :: false :: false :: false :: false :: false :: false :: false :: false :: false :: false :: [])
       · (try dsimp only [maskT]); try exact rfl
       · rfl
       exact ⟨true, rfl, hx, by simp only [wrongV, g1, g2, g3, g4, g5, Bool.true_or, Bool.or_true, Bool.false_or, Bool.and_true, Bool.true_and, Bool.false_and, Bool.or_false]⟩
      ·
       (try simp only [y1, y2, y3, y4, y5, y6, y7, y8, y9, y0, List.length_map] at hg12)
       have g5 : decide (0 < (ls.length : Int)) = false := by simpa using hg12
       apply al_normT
       · (try dsimp only [zS, zN, zH, zT]); try exact rfl
       refine zsw rfl rfl rfl (by first | exact op_fieldAddr_ptr Try.underlying26 rfl Sz22 (by rfl) (by rfl) | exact op_fieldAddr_elt Try.underlying26 rfl Sz22 (by rfl) (by rfl) (by rfl)) (by dsimp only [zS, zN, zH, zT]) ?_
       refine zsw rfl rfl rfl (by first | exact op_load_elt Try.underlying22 (by rfl) (by rfl) (by rfl) | exact op_load_ptr Try.underlying22 (by rfl) (by rfl) (by first | exact hb13 | exact setB_at push_at) (by rfl)) (by dsimp only [zS, zN, zH, zT]) ?_
       refine zsw rfl rfl rfl (op_neI (by rfl) (by rfl)) (by dsimp only [zS, zN, zH, zT]) ?_
       refine zsw rfl rfl rfl (op_move_tmp (by rfl)) (by dsimp only [zS, zN, zH, zT]) ?_
       refine al_split 67 rfl (fun hg13 => ?_) (fun hg13 => ?_)
       ·
        (try simp only [y1, y2, y3, y4, y5, y6, y7, y8, y9, y0, List.length_map] at hg13)
        have g6 : (k != 5) = true := by simpa using hg13
        apply al_normT
        · (try dsimp only [zS, zN, zH, zT]); try exact rfl
        refine zsw rfl rfl rfl (by first | exact op_fieldAddr_ptr Try.underlying26 rfl Sz24 (by rfl) (by rfl) | exact op_fieldAddr_elt Try.underlying26 rfl Sz24 (by rfl) (by rfl) (by rfl)) (by dsimp only [zS, zN, zH, zT]) ?_
        refine zsw rfl rfl rfl (by first | exact op_load_elt Try.underlying24 (by rfl) (by rfl) (by rfl) | exact op_load_ptr Try.underlying24 (by rfl) (by rfl) (by first | exact hb13 | exact setB_at push_at) (by rfl)) (by dsimp only [zS, zN, zH, zT]) ?_
        refine zsw rfl rfl rfl (op_lenL Try.underlying24 (by first | exact LL.d _ _ | exact LL.own _ _ _ | exact LL.nil _ | assumption)) (by dsimp only [zS, zN, zH, zT]) ?_
        refine zsw rfl rfl rfl (op_gtI (by rfl) (by rfl)) (by dsimp only [zS, zN, zH, zT]) ?_
        refine zsw rfl rfl rfl (op_pick_tt (by rfl) (val_tmp (by rfl))) (by dsimp only [zS, zN, zH, zT]) ?_
        refine zst (op_pick_ff (by rfl) (val_tmp (by rfl))) rfl (by dsimp only [zS, zN, zH, zT]) ?_
        refine zst (op_move_tmp (by rfl)) rfl (by dsimp only [zS, zN, zH, zT]) ?_
        refine al_split 74 rfl (fun hg14 => ?_) (fun hg14 => ?_)
        ·
         (try simp only [y1, y2, y3, y4, y5, y6, y7, y8, y9, y0, List.length_map] at hg14)
         have g7 : decide (0 < (fs.length : Int)) = true := by simpa using hg14
         apply al_normT
         · (try dsimp only [zS, zN, zH, zT]); try exact rfl
         refine zuw rfl rfl rfl rfl (by dsimp only [zS, zN, zH, zT]) ?_
         refine zuw rfl rfl rfl rfl (by dsimp only [zS, zN, zH, zT]) ?_
         refine zst (op_pick_tt (by rfl) (val_const (by rfl))) rfl (by dsimp only [zS, zN, zH, zT]) ?_
         refine al_end rfl ?_
         apply cut_to (false :: false :: true :: true :: false :: false :: false :: false :: false :: false :: false :: false :: false :: false :: false :: false :: false :: false :: false :: false :: false :: false :: false :: false :: false :: false :: false :: false :: false :: false :: false :: false :: false :: false :: false :: false :: false :: false :: false :: false :: false :: false :: false :: false :: false :: false :: false :: false :: false :: false :: false :: false :: false :: false :: false :: false :: false :: false :: false :: false :: false :: false :: false :: false :: false :: false :: false :: false :: false :: false :: false :: false :: false :: false :: false :: false :: false :: true :: false :: false :: false :: false :: false :: false :: false :: false :: false :: false :: false :: false :: false :: false :: false :: false :: false :: false :: false :: false :: false :: false :: false :: false :: false :: false :: false :: false :: false :: false :: false :: false :: false :: false :: false :: false :: [])
         · (try dsimp only [maskT]); try exact rfl
         · rfl
         exact ⟨true, rfl, hx, by simp only [wrongV, g1, g2, g3, g4, g5, g6, g7, Bool.true_or, Bool.or_true, Bool.false_or, Bool.and_true, Bool.true_and, Bool.false_and, Bool.or_false]⟩
        ·
         (try simp only [y1, y2, y3, y4, y5, y6, y7, y8, y9, y0, List.length_map] at hg14)
         have g7 : decide (0 < (fs.length : Int)) = false := by simpa using hg14
         apply al_normT
         · (try dsimp only [zS, zN, zH, zT]); try exact rfl
         refine zsw rfl rfl rfl (by first | exact op_load_elt Try.underlying3 (by rfl) (by rfl) (by rfl) | exact op_load_ptr Try.underlying3 (by rfl) (by rfl) (by first | exact hb13 | exact setB_at push_at) (by rfl)) (by dsimp only [zS, zN, zH, zT]) ?_
         refine zsw rfl rfl rfl (op_ltI (by rfl) (by rfl)) (by dsimp only [zS, zN, zH, zT]) ?_
         refine zst (op_pick_ff (by rfl) (val_tmp (by rfl))) rfl (by dsimp only [zS, zN, zH, zT]) ?_
         refine al_end rfl ?_
         apply cut_to (false :: false :: true :: true :: false :: false :: false :: false :: false :: false :: false :: false :: false :: false :: false :: false :: false :: false :: false :: false :: false :: false :: false :: false :: false :: false :: false :: false :: false :: false :: false :: false :: false :: false :: false :: false :: false :: false :: false :: false :: false :: false :: false :: false :: false :: false :: false :: false :: false :: false :: false :: false :: false :: false :: false :: false :: false :: false :: false :: false :: false :: false :: false :: false :: false :: false :: false :: false :: false :: false :: false :: false :: false :: false :: false :: false :: false :: true :: false :: false :: false :: false :: false :: false :: false :: false :: false :: false :: false :: false :: false :: false :: false :: false :: false :: false :: false :: false :: false :: false :: false :: false :: false :: false :: false :: false :: false :: false :: false :: false :: false :: false :: false :: false :: [])
         · (try dsimp only [maskT]); try exact rfl
         · rfl
         exact ⟨decide ((D : Int) < 1), rfl, hx, by simp only [wrongV, g1, g2, g3, g4, g5, g6, g7, Bool.true_or, Bool.or_true, Bool.false_or, Bool.and_true, Bool.true_and, Bool.false_and, Bool.or_false]⟩
       ·
        (try simp only [y1, y2, y3, y4, y5, y6, y7, y8, y9, y0, List.length_map] at hg13)
        have g6 : (k != 5) = false := by simpa using hg13
        apply al_normT
        · (try dsimp only [zS, zN, zH, zT]); try exact rfl
        refine zuw rfl rfl rfl rfl (by dsimp only [zS, zN, zH, zT]) ?_
        refine zuw rfl rfl rfl rfl (by dsimp only [zS, zN, zH, zT]) ?_
        refine zuw rfl rfl rfl rfl (by dsimp only [zS, zN, zH, zT]) ?_
        refine zuw rfl rfl rfl rfl (by dsimp only [zS, zN, zH, zT]) ?_
        refine zsw rfl rfl rfl (op_pick_ff (by rfl) (val_const (by rfl))) (by dsimp only [zS, zN, zH, zT]) ?_
        refine zst (op_pick_ff (by rfl) (val_tmp (by rfl))) rfl (by dsimp only [zS, zN, zH, zT]) ?_
        refine zst (op_move_tmp (by rfl)) rfl (by dsimp only [zS, zN, zH, zT]) ?_
        refine zsw rfl rfl rfl (by first | exact op_load_elt Try.underlying3 (by rfl) (by rfl) (by rfl) | exact op_load_ptr Try.underlying3 (by rfl) (by rfl) (by first | exact hb13 | exact setB_at push_at) (by rfl)) (by dsimp only [zS, zN, zH, zT]) ?_
        refine zsw rfl rfl rfl (op_ltI (by rfl) (by rfl)) (by dsimp only [zS, zN, zH, zT]) ?_
        refine zst (op_pick_ff (by rfl) (val_tmp (by rfl))) rfl (by dsimp only [zS, zN, zH, zT]) ?_
        refine al_end rfl ?_
        apply cut_to (false :: false :: true :: true :: false :: false :: false :: false :: false :: false :: false :: false :: false :: false :: false :: false :: false :: false :: false :: false :: false :: false :: false :: false :: false :: false :: false :: false :: false :: false :: false :: false :: false :: false :: false :: false :: false :: false :: false :: false :: false :: false :: false :: false :: false :: false :: false :: false :: false :: false :: false :: false :: false :: false :: false :: false :: false :: false :: false :: false :: false :: false :: false :: false :: false :: false :: false :: false :: false :: false :: false :: false :: false :: false :: false :: false :: false :: true :: false :: false :: false :: false :: false :: false :: false :: false :: false :: false :: false :: false :: false :: false :: false :: false :: false :: false :: false :: false :: false :: false :: false :: false :: false :: false :: false :: false :: false :: false :: false :: false :: false :: false :: false :: false :: [])
        · (try dsimp only [maskT]); try exact rfl
        · rfl
        exact ⟨decide ((D : Int) < 1), rfl, hx, by simp only [wrongV, g1, g2, g3, g4, g5, g6, Bool.true_or, Bool.or_true, Bool.false_or, Bool.and_true, Bool.true_and, Bool.false_and, Bool.or_false]⟩
     ·
      (try simp only [y1, y2, y3, y4, y5, y6, y7, y8, y9, y0, List.length_map] at hg11)
      have g4 : (k != 4) = false := by simpa using hg11
      apply al_normT
      · (try dsimp only [zS, zN, zH, zT]); try exact rfl
      refine zuw rfl rfl rfl rfl (by dsimp only [zS, zN, zH, zT]) ?_
      refine zuw rfl rfl rfl rfl (by dsimp only [zS, zN, zH, zT]) ?_
      refine zuw rfl rfl rfl rfl (by dsimp only [zS, zN, zH, zT]) ?_
      refine zuw rfl rfl rfl rfl (by dsimp only [zS, zN, zH, zT]) ?_
      refine zsw rfl rfl rfl (op_pick_ff (by rfl) (val_const (by rfl))) (by dsimp only [zS, zN, zH, zT]) ?_
      refine zst (op_pick_ff (by rfl) (val_tmp (by rfl))) rfl (by dsimp only [zS, zN, zH, zT]) ?_
      refine zst (op_move_tmp (by rfl)) rfl (by dsimp only [zS, zN, zH, zT]) ?_
      refine zsw rfl rfl rfl (by first | exact op_fieldAddr_ptr Try.underlying26 rfl Sz22 (by rfl) (by rfl) | exact op_fieldAddr_elt Try.underlying26 rfl Sz22 (by rfl) (by rfl) (by rfl)) (by dsimp only [zS, zN, zH, zT]) ?_
      refine zsw rfl rfl rfl (by first | exact op_load_elt Try.underlying22 (by rfl) (by rfl) (by rfl) | exact op_load_ptr Try.underlying22 (by rfl) (by rfl) (by first | exact hb13 | exact setB_at push_at) (by rfl)) (by dsimp only [zS, zN, zH, zT]) ?_
      refine zsw rfl rfl rfl (op_neI (by rfl) (by rfl)) (by dsimp only [zS, zN, zH, zT]) ?_
      refine zsw rfl rfl rfl (op_move_tmp (by rfl)) (by dsimp only [zS, zN, zH, zT]) ?_
      refine al_split 67 rfl (fun hg15 => ?_) (fun hg15 => ?_)
      ·
       (try simp only [y1, y2, y3, y4, y5, y6, y7, y8, y9, y0, List.length_map] at hg15)
       have g6 : (k != 5) = true := by simpa using hg15
       apply al_normT
       · (try dsimp only [zS, zN, zH, zT]); try exact rfl
       refine zsw rfl rfl rfl (by first | exact op_fieldAddr_ptr Try.underlying26 rfl Sz24 (by rfl) (by rfl) | exact op_fieldAddr_elt Try.underlying26 rfl Sz24 (by rfl) (by rfl) (by rfl)) (by dsimp only [zS, zN, zH, zT]) ?_
       refine zsw rfl rfl rfl (by first | exact op_load_elt Try.underlying24 (by rfl) (by rfl) (by rfl) | exact op_load_ptr Try.underlying24 (by rfl) (by rfl) (by first | exact hb13 | exact setB_at push_at) (by rfl)) (by dsimp only [zS, zN, zH, zT]) ?_
       refine zsw rfl rfl rfl (op_lenL Try.underlying24 (by first | exact LL.d _ _ | exact LL.own _ _ _ | exact LL.nil _ | assumption)) (by dsimp only [zS, zN, zH, zT]) ?_
       refine zsw rfl rfl rfl (op_gtI (by rfl) (by rfl)) (by dsimp only [zS, zN, zH, zT]) ?_
       refine zsw rfl rfl rfl (op_pick_tt (by rfl) (val_tmp (by rfl))) (by dsimp only [zS, zN, zH, zT]) ?_
       refine zst (op_pick_ff (by rfl) (val_tmp (by rfl))) rfl (by dsimp only [zS, zN, zH, zT]) ?_
       refine zst (op_move_tmp (by rfl)) rfl (by dsimp only [zS, zN, zH, zT]) ?_
       refine al_split 74 rfl (fun hg16 => ?_) (fun hg16 => ?_)
       ·
        (try simp only [y1, y2, y3, y4, y5, y6, y7, y8, y9, y0, List.length_map] at hg16)
        have g7 : decide (0 < (fs.length : Int)) = true := by simpa using hg16
        apply al_normT
        · (try dsimp only [zS, zN, zH, zT]); try exact rfl
        refine zuw rfl rfl rfl rfl (by dsimp only [zS, zN, zH, zT]) ?_
        refine zuw rfl rfl rfl rfl (by dsimp only [zS, zN, zH, zT]) ?_
        refine zst (op_pick_tt (by rfl) (val_const (by rfl))) rfl (by dsimp only [zS, zN, zH, zT]) ?_
        refine al_end rfl ?_
        apply cut_to (false :: false :: true :: true :: false :: false :: false :: false :: false :: false :: false :: false :: false :: false :: false :: false :: false :: false :: false :: false :: false :: false :: false :: false :: false :: false :: false :: false :: false :: false :: false :: false :: false :: false :: false :: false :: false :: false :: false :: false :: false :: false :: false :: false :: false :: false :: false :: false :: false :: false :: false :: false :: false :: false :: false :: false :: false :: false :: false :: false :: false :: false :: false :: false :: false :: false :: false :: false :: false :: false :: false :: false :: false :: false :: false :: false :: false :: true :: false :: false :: false :: false :: false :: false :: false :: false :: false :: false :: false :: false :: false :: false :: false :: false :: false :: false :: false :: false :: false :: false :: false :: false :: false :: false :: false :: false :: false :: false :: false :: false :: false :: false :: false :: false :: [])
        · (try dsimp only [maskT]); try exact rfl
        · rfl
        exact ⟨true, rfl, hx, by simp only [wrongV, g1, g2, g3, g4, g6, g7, Bool.true_or, Bool.or_true, Bool.false_or, Bool.and_true, Bool.true_and, Bool.false_and, Bool.or_false]⟩
       ·
        (try simp only [y1, y2, y3, y4, y5, y6, y7, y8, y9, y0, List.length_map] at hg16)
        have g7 : decide (0 < (fs.length : Int)) = false := by simpa using hg16
        apply al_normT
        · (try dsimp only [zS, zN, zH, zT]); try exact rfl
        refine zsw rfl rfl rfl (by first | exact op_load_elt Try.underlying3 (by rfl) (by rfl) (by rfl) | exact op_load_ptr Try.underlying3 (by rfl) (by rfl) (by first | exact hb13 | exact setB_at push_at) (by rfl)) (by dsimp only [zS, zN, zH, zT]) ?_
        refine zsw rfl rfl rfl (op_ltI (by rfl) (by rfl)) (by dsimp only [zS, zN, zH, zT]) ?_
        refine zst (op_pick_ff (by rfl) (val_tmp (by rfl))) rfl (by dsimp only [zS, zN, zH, zT]) ?_
        refine al_end rfl ?_
        apply cut_to (false :: false :: true :: true :: false :: false :: false :: false :: false :: false :: false :: false :: false :: false :: false :: false :: false :: false :: false :: false :: false :: false :: false :: false :: false :: false :: false :: false :: false :: false :: false :: false :: false :: false :: false :: false :: false :: false :: false :: false :: false :: false :: false :: false :: false :: false :: false :: false :: false :: false :: false :: false :: false :: false :: false :: false :: false :: false :: false :: false :: false :: false :: false :: false :: false :: false :: false :: false :: false :: false :: false :: false :: false :: false :: false :: false :: false :: true :: false :: false :: false :: false :: false :: false :: false :: false :: false :: false :: false :: false :: false :: false :: false :: false :: false :: false :: false :: false :: false :: false :: false :: false :: false :: false :: false :: false :: false :: false :: false :: false :: false :: false :: false :: false :: [])
        · (try dsimp only [maskT]); try exact rfl
        · rfl
        exact ⟨decide ((D : Int) < 1), rfl, hx, by simp only [wrongV, g1, g2, g3, g4, g6, g7, Bool.true_or, Bool.or_true, Bool.false_or, Bool.and_true, Bool.true_and, Bool.false_and, Bool.or_false]⟩
      ·
       (try simp only [y1, y2, y3, y4, y5, y6, y7, y8, y9, y0, List.length_map] at hg15)
       have g6 : (k != 5) = false := by simpa using hg15
       apply al_normT
       · (try dsimp only [zS, zN, zH, zT]); try exact rfl
       refine zuw rfl rfl rfl rfl (by dsimp only [zS, zN, zH, zT]) ?_
       refine zuw rfl rfl rfl rfl (by dsimp only [zS, zN, zH, zT]) ?_
       refine zuw rfl rfl rfl rfl (by dsimp only [zS, zN, zH, zT]) ?_
       refine zuw rfl rfl rfl rfl (by dsimp only [zS, zN, zH, zT]) ?_
       refine zsw rfl rfl rfl (op_pick_ff (by rfl) (val_const (by rfl))) (by dsimp only [zS, zN, zH, zT]) ?_
       refine zst (op_pick_ff (by rfl) (val_tmp (by rfl))) rfl (by dsimp only [zS, zN, zH, zT]) ?_
       refine zst (op_move_tmp (by rfl)) rfl (by dsimp only [zS, zN, zH, zT]) ?_
       refine zsw rfl rfl rfl (by first | exact op_load_elt Try.underlying3 (by rfl) (by rfl) (by rfl) | exact op_load_ptr Try.underlying3 (by rfl) (by rfl) (by first | exact hb13 | exact setB_at push_at) (by rfl)) (by dsimp only [zS, zN, zH, zT]) ?_
       refine zsw rfl rfl rfl (op_ltI (by rfl) (by rfl)) (by dsimp only [zS, zN, zH, zT]) ?_
       refine zst (op_pick_ff (by rfl) (val_tmp (by rfl))) rfl (by dsimp only [zS, zN, zH, zT]) ?_
       refine al_end rfl ?_
       apply cut_to (false :: false :: true :: true :: false :: false :: false :: false :: false :: false :: false :: false :: false :: false :: false :: false :: false :: false :: false :: false :: false :: false :: false :: false :: false :: false :: false :: false :: false :: false :: false :: false :: false :: false :: false :: false :: false :: false :: false :: false :: false :: false :: false :: false :: false :: false :: false :: false :: false :: false :: false :: false :: false :: false :: false :: false :: false :: false :: false :: false :: false :: false :: false :: false :: false :: false :: false :: false :: false :: false :: false :: false :: false :: false :: false :: false :: false :: true :: false :: false :: false :: false :: false :: false :: false :: false :: false :: false :: false :: false :: false :: false :: false :: false :: false :: false :: false :: false :: false :: false :: false :: false :: false :: false :: false :: false :: false :: false :: false :: false :: false :: false :: false :: false :: [])
       · (try dsimp only [maskT]); try exact rfl
       · rfl
       exact ⟨decide ((D : Int) < 1), rfl, hx, by simp only [wrongV, g1, g2, g3, g4, g6, Bool.true_or, Bool.or_true, Bool.false_or, Bool.and_true, Bool.true_and, Bool.false_and, Bool.or_false]⟩
 rintro T H ⟨c, rfl, hx, hcw⟩
 refine aw_cond rfl (fun hc17 => ?_) (fun hc17 => ?_)
 ·
  (try simp only [y1, y2, y3, y4, y5, y6, y7, y8, y9, y0, List.length_map] at hc17)
  have hwr : c = true := hc17
  rw [hcw] at hwr
  refine aw_seq ?_
  refine aw_region ?_
  refine zst (op_assign_const (by rfl)) rfl (by dsimp only [zS, zN, zH, zT]) ?_
  refine al_end rfl ?_
  refine then_normal ?_
  refine aw_ret ?_
  refine then_ret ?_
  refine retPost1 rfl rfl ?_
  exact ⟨by rw [right_wrong h0 h5 hwr]; rfl, hx⟩
 ·
  (try simp only [y1, y2, y3, y4, y5, y6, y7, y8, y9, y0, List.length_map] at hc17)
  have hwr : c = false := hc17
  rw [hcw] at hwr
  obtain ⟨d, rfl, hR⟩ := right_ok h0 h5 hwr
  refine aw_skip ?_
  refine then_normal ?_
  refine aw_seq ?_
  refine aw_seq ?_
  refine aw_region ?_
  refine zst (by first | exact op_fieldAddr_ptr Try.underlying26 rfl Sz24 (by rfl) (by rfl) | exact op_fieldAddr_elt Try.underlying26 rfl Sz24 (by rfl) (by rfl) (by rfl)) rfl (by dsimp only [zS, zN, zH, zT]) ?_
  refine zst (by first | exact op_load_elt Try.underlying24 (by rfl) (by rfl) (by rfl) | exact op_load_ptr Try.underlying24 (by rfl) (by rfl) (by first | exact hb13 | exact setB_at push_at) (by rfl)) rfl (by dsimp only [zS, zN, zH, zT]) ?_
  refine zst (op_lenL Try.underlying24 (by first | exact LL.d _ _ | exact LL.own _ _ _ | exact LL.nil _ | assumption)) rfl (by dsimp only [zS, zN, zH, zT]) ?_
  refine zst (op_move_const (by rfl)) rfl (by dsimp only [zS, zN, zH, zT]) ?_
  refine al_end rfl ?_
  refine then_normal ?_
  refine aw_block ?_
  apply aw_loopF (fun n T H => ∃ (j : Nat), T = (.un :: .un :: (.elt (v6D k y i tx ls fs)) :: (.elt [I ((d + 1 : Nat) : Int)]) :: .un :: .un :: .un :: .un :: .un :: .un :: .un :: .un :: .un :: .un :: .un :: .un :: .un :: .un :: .un :: .un :: .un :: .un :: .un :: .un :: .un :: .un :: .un :: .un :: .un :: .un :: .un :: .un :: .un :: .un :: .un :: .un :: .un :: .un :: .un :: .un :: .un :: .un :: .un :: .un :: .un :: .un :: .un :: .un :: .un :: .un :: .un :: .un :: .un :: .un :: .un :: .un :: .un :: .un :: .un :: .un :: .un :: .un :: .un :: .un :: .un :: .un :: .un :: .un :: .un :: .un :: .un :: .un :: .un :: .un :: .un :: .un :: .un :: .un :: .un :: (.d (.lst 7 (fs.map fD))) :: (.d (I (fs.map fD).length)) :: (.d (I j)) :: .un :: .un :: .un :: .un :: .un :: .un :: .un :: .un :: .un :: .un :: .un :: .un :: .un :: .un :: .un :: .un :: .un :: .un :: .un :: .un :: .un :: .un :: .un :: .un :: .un :: .un :: .un :: .un :: .un :: .un :: .un :: .un :: []) ∧ j ≤ fs.length ∧ n = fs.length - j ∧ fieldsOk d (fs.take j) = true ∧ Ext Hs H) (fs.length) (false :: false :: true :: true :: false :: false :: false :: false :: false :: false :: false :: false :: false :: false :: false :: false :: false :: false :: false :: false :: false :: false :: false :: false :: false :: false :: false :: false :: false :: false :: false :: false :: false :: false :: false :: false :: false :: false :: false :: false :: false :: false :: false :: false :: false :: false :: false :: false :: false :: false :: false :: false :: false :: false :: false :: false :: false :: false :: false :: false :: false :: false :: false :: false :: false :: false :: false :: false :: false :: false :: false :: false :: false :: false :: false :: false :: false :: false :: false :: true :: true :: true :: false :: false :: false :: false :: false :: false :: false :: false :: false :: false :: false :: false :: false :: false :: false :: false :: false :: false :: false :: false :: false :: false :: false :: false :: false :: false :: false :: false :: false :: false :: false :: false :: [])
  · (try dsimp only [maskT]); try exact rfl
  · rfl
  · exact ⟨0, rfl, by omega, rfl, by simp [fieldsOk, rises], hx⟩
  rintro n T H ⟨j, rfl, hj, rfl, hfo, hx⟩
  refine aw_seq ?_
  refine aw_region ?_
  refine zst (op_ltI (by rfl) (by rfl)) rfl (by dsimp only [zS, zN, zH, zT]) ?_
  refine al_end rfl ?_
  refine then_normal ?_
  refine aw_seq ?_
  refine aw_cond rfl (fun hc18 => ?_) (fun hc18 => ?_)
  ·
   (try simp only [y1, y2, y3, y4, y5, y6, y7, y8, y9, y0, List.length_map] at hc18)
   (try simp only [List.length_map] at hc18)
   have hlt : j < fs.length := by omega
   obtain ⟨x, hx1⟩ : ∃ x, fs[j]? = some x := ⟨_, List.getElem?_eq_getElem hlt⟩
   have hst := fieldsOk_step (d := d) hx1
   refine aw_skip ?_
   refine then_normal ?_
   refine aw_seq ?_
   refine aw_block ?_
   refine aw_seq ?_
   refine aw_region ?_
   refine zst (op_move_tmp (by rfl)) rfl (by dsimp only [zS, zN, zH, zT]) ?_
   refine zst (op_indexAddr (z := fD x) (cs := [S x.name, I x.val.kind, TF x.val.yes, .v (.int .i64 x.val.num), S x.val.text, .lst 6 (x.val.list.map vD), .lst 7 (x.val.fields.map fD)]) Try.underlying24 Sz48 (LL.d _ _) (by rfl) (by omega) (by rw [List.getElem?_map, show ((j : Nat) : Int).toNat = j from rfl, hx1]; rfl) (fD_cells7 x)) rfl (by dsimp only [zS, zN, zH, zT]) ?_
   refine zst (op_load_elts (ds := fC x) Try.underlying48 (by rfl) Sz48 (by rfl) (Nat.le_of_ble_eq_true rfl) (by rw [← fC7]; rfl)) rfl (by dsimp only [zS, zN, zH, zT]) ?_
   refine zst (op_alloc (Zr48) (by rfl)) rfl (by dsimp only [zS, zN, zH, zT]) ?_
   refine zst (op_assign_tmp (by rfl)) rfl (by dsimp only [zS, zN, zH, zT]) ?_
   refine zst (op_storeF (b' := f1 48 x) x Sz48 (by rfl) push_at (by rfl) (Nat.le_of_ble_eq_true rfl) (by rfl) (by unfold f1; rw [← fC7]; rfl)) rfl (by dsimp only [zS, zN, zH, zT]) ?_
   refine al_end rfl ?_
   refine then_normal ?_
   refine aw_seq ?_
   refine aw_draw [0, 0, 0, 0, 1, 0, 0, 0, 0, 1, 0, 1, 0, 0, 0, 0, 1, 1, 0, 0, 0, 0] mixed (by kernel_rfl) ?_
   refine zd0 (fun H => (op_move_tmp (by rfl))) rfl (by dsimp only [zS, zN, zH, zT]) ?_
   refine zd0 (fun H => (op_gtI (by rfl) (by rfl))) rfl (by dsimp only [zS, zN, zH, zT]) ?_
   refine zd0 (fun H => (op_move_tmp (by rfl))) rfl (by dsimp only [zS, zN, zH, zT]) ?_
   refine drun_split 88 rfl (fun hg19 => ?_) (fun hg19 => ?_)
   ·
    (try simp only [y1, y2, y3, y4, y5, y6, y7, y8, y9, y0, List.length_map] at hg19)
    have hj0 : 0 < (j : Int) := hg19
    obtain ⟨z, hz⟩ : ∃ z, fs[j - 1]? = some z := ⟨_, List.getElem?_eq_getElem (by omega)⟩
    have hnbl := notBelow_at (x := x.name) (l := fs.take j) (j := j) (by rw [List.length_take]; omega) (take_at hz (by omega))
    apply drun_normT
    · (try dsimp only [zS, zN, zH, zT]); try exact rfl
    refine zd0w rfl rfl rfl (fun H => (by first | exact op_fieldAddr_ptr Try.underlying26 rfl Sz24 (by rfl) (by rfl) | exact op_fieldAddr_elt Try.underlying26 rfl Sz24 (by rfl) (by rfl) (by rfl))) (by dsimp only [zS, zN, zH, zT]) ?_
    refine zd1w rfl rfl rfl (by first | exact op_load_elt Try.underlying24 (by rfl) (by rfl) (by rfl) | exact op_load_ptr Try.underlying24 (by rfl) (by rfl) (by first | exact hb13 | exact setB_at push_at) (by rfl)) (by dsimp only [zS, zN, zH, zT]) ?_
    refine zd0w rfl rfl rfl (fun H => (op_move_tmp (by rfl))) (by dsimp only [zS, zN, zH, zT]) ?_
    refine zd0w rfl rfl rfl (fun H => (by first | exact op_sub (by rfl) (by rfl) (wrap_i64 ⟨by omega, by omega⟩) | exact op_sub (by rfl) (by rfl) (by rfl))) (by dsimp only [zS, zN, zH, zT]) ?_
    refine zd0w rfl rfl rfl (fun H => (op_indexAddr (z := fD z) (cs := [S z.name, I z.val.kind, TF z.val.yes, .v (.int .i64 z.val.num), S z.val.text, .lst 6 (z.val.list.map vD), .lst 7 (z.val.fields.map fD)]) Try.underlying24 Sz48 (LL.d _ _) (by rfl) (by omega) (by rw [List.getElem?_map, show ((j : Int) - 1).toNat = j - 1 by omega, hz]; rfl) (fD_cells7 z))) (by dsimp only [zS, zN, zH, zT]) ?_
    refine zd0w rfl rfl rfl (fun H => (by first | exact op_fieldAddr_ptr Try.underlying48 rfl Sz9 (by rfl) (by rfl) | exact op_fieldAddr_elt Try.underlying48 rfl Sz9 (by rfl) (by rfl) (by rfl))) (by dsimp only [zS, zN, zH, zT]) ?_
    refine zd1w rfl rfl rfl (by first | exact op_load_elt Try.underlying9 (by rfl) (by rfl) (by rfl) | exact op_load_ptr Try.underlying9 (by rfl) (by rfl) (by first | exact hb13 | exact setB_at push_at) (by rfl)) (by dsimp only [zS, zN, zH, zT]) ?_
    refine zd0w rfl rfl rfl (fun H => (by first | exact op_fieldAddr_ptr Try.underlying48 rfl Sz9 (by rfl) (by rfl) | exact op_fieldAddr_elt Try.underlying48 rfl Sz9 (by rfl) (by rfl) (by rfl))) (by dsimp only [zS, zN, zH, zT]) ?_
    refine zd1w rfl rfl rfl (op_load_ptr Try.underlying9 (by rfl) (by rfl) (setB_at push_at) (f1_name x)) (by dsimp only [zS, zN, zH, zT]) ?_
    refine zd0w rfl rfl rfl (fun H => (op_geS (by rfl) (by rfl))) (by dsimp only [zS, zN, zH, zT]) ?_
    refine zd0 (fun H => (op_pick_tt (by rfl) (val_tmp (by rfl)))) rfl (by dsimp only [zS, zN, zH, zT]) ?_
    refine zd0 (fun H => (op_move_tmp (by rfl))) rfl (by dsimp only [zS, zN, zH, zT]) ?_
    refine drun_split 100 rfl (fun hg20 => ?_) (fun hg20 => ?_)
    ·
     (try simp only [y1, y2, y3, y4, y5, y6, y7, y8, y9, y0, List.length_map] at hg20)
     have hbl : Op.bytesLess z.name x.name = false := by simpa using hg20
     apply drun_normT
     · (try dsimp only [zS, zN, zH, zT]); try exact rfl
     refine zdU rfl rfl rfl rfl (by dsimp only [zS, zN, zH, zT]) ?_
     refine zdU rfl rfl rfl rfl (by dsimp only [zS, zN, zH, zT]) ?_
     refine zdU rfl rfl rfl rfl (by dsimp only [zS, zN, zH, zT]) ?_
     refine zdU rfl rfl rfl rfl (by dsimp only [zS, zN, zH, zT]) ?_
     refine zdU rfl rfl rfl rfl (by dsimp only [zS, zN, zH, zT]) ?_
     refine zdU rfl rfl rfl rfl (by dsimp only [zS, zN, zH, zT]) ?_
     refine zd0 (fun H => (op_pick_tt (by rfl) (val_const (by rfl)))) rfl (by dsimp only [zS, zN, zH, zT]) ?_
     refine drun_end rfl ?_
     refine then_normal ?_
     refine aw_cond rfl (fun _ => ?_) (fun h => by cases h)
     refine aw_seq ?_
     refine aw_region ?_
     refine zst (op_assign_const (by rfl)) rfl (by dsimp only [zS, zN, zH, zT]) ?_
     refine al_end rfl ?_
     refine then_normal ?_
     refine aw_ret ?_
     refine inBlock_ret (then_ret (again_ret (inBlock_ret (then_ret ?_))))
     refine retPost1 rfl rfl ?_
     exact ⟨by rw [hR, fieldsOk_pre (by rw [hst, hnbl, hbl]; simp)]; rfl, (hx.push _ _).setB (nb_le hx)⟩
    ·
     (try simp only [y1, y2, y3, y4, y5, y6, y7, y8, y9, y0, List.length_map] at hg20)
     have hbl : Op.bytesLess z.name x.name = true := by simpa using hg20
     apply drun_normT
     · (try dsimp only [zS, zN, zH, zT]); try exact rfl
     refine zd0w rfl rfl rfl (fun H => (by first | exact op_fieldAddr_ptr Try.underlying48 rfl Sz26 (by rfl) (by rfl) | exact op_fieldAddr_elt Try.underlying48 rfl Sz26 (by rfl) (by rfl) (by rfl))) (by dsimp only [zS, zN, zH, zT]) ?_
     refine zd1w rfl rfl rfl (op_load_ptrsD (vC x.val) Try.underlying26 (by rfl) Sz26 (by rfl) (setB_at push_at) (by show 1 + 6 ≤ ((fC x).map AV.d).length; rw [List.length_map, fC_len]; exact Nat.le_refl _) (f1_val x) (vC_one _)) (by dsimp only [zS, zN, zH, zT]) ?_
     refine zd1w rfl rfl rfl (by first | exact op_load_elt Try.underlying3 (by rfl) (by rfl) (by rfl) | exact op_load_ptr Try.underlying3 (by rfl) (by rfl) (by first | exact hb13 | exact setB_at push_at) (by rfl)) (by dsimp only [zS, zN, zH, zT]) ?_
     refine zd0w rfl rfl rfl (fun H => (op_sub (by rfl) (by rfl) (show IntKind.i64.wrap (((d + 1 : Nat) : Int) - 1) = (d : Int) by rw [wrap_i64 ⟨by omega, by omega⟩]; omega))) (by dsimp only [zS, zN, zH, zT]) ?_
     refine zd0w rfl rfl rfl (fun H => (op_callF Try.func34 (by rfl) (by rfl) (.tmp (by rfl) (.tmp (by rfl) .nil)) (ihF d rfl x (List.mem_of_getElem? hx1) _))) (by dsimp only [zS, zN, zH, zT]) ?_
     refine zd0w rfl rfl rfl (fun H => (op_not (by rfl))) (by dsimp only [zS, zN, zH, zT]) ?_
     refine zd0 (fun H => (op_pick_ff (by rfl) (val_tmp (by rfl)))) rfl (by dsimp only [zS, zN, zH, zT]) ?_
     refine drun_end rfl ?_
     refine then_normal ?_
     refine aw_cond rfl (fun hc22 => ?_) (fun hc22 => ?_)
     ·
      (try simp only [y1, y2, y3, y4, y5, y6, y7, y8, y9, y0, List.length_map] at hc22)
      have hrx : rightV d x.val = false := by simpa using hc22
      refine aw_seq ?_
      refine aw_region ?_
      refine zst (op_assign_const (by rfl)) rfl (by dsimp only [zS, zN, zH, zT]) ?_
      refine al_end rfl ?_
      refine then_normal ?_
      refine aw_ret ?_
      refine inBlock_ret (then_ret (again_ret (inBlock_ret (then_ret ?_))))
      refine retPost1 rfl rfl ?_
      exact ⟨by rw [hR, fieldsOk_pre (by rw [hst, hrx]; simp)]; rfl, (hx.push _ _).setB (nb_le hx)⟩
     ·
      (try simp only [y1, y2, y3, y4, y5, y6, y7, y8, y9, y0, List.length_map] at hc22)
      have hrx : rightV d x.val = true := by simpa using hc22
      refine aw_skip ?_
      refine inBlock_normal (then_normal ?_)
      refine aw_region ?_
      refine zst (by first | exact op_add (by rfl) (by rfl) (wrap_i64 ⟨by omega, by omega⟩) | exact op_add (by rfl) (by rfl) (by rfl)) rfl (by dsimp only [zS, zN, zH, zT]) ?_
      refine zst (op_move_tmp (by rfl)) rfl (by dsimp only [zS, zN, zH, zT]) ?_
      refine al_end rfl ?_
      apply again_to (fs.length - (j + 1)) (false :: false :: true :: true :: false :: false :: false :: false :: false :: false :: false :: false :: false :: false :: false :: false :: false :: false :: false :: false :: false :: false :: false :: false :: false :: false :: false :: false :: false :: false :: false :: false :: false :: false :: false :: false :: false :: false :: false :: false :: false :: false :: false :: false :: false :: false :: false :: false :: false :: false :: false :: false :: false :: false :: false :: false :: false :: false :: false :: false :: false :: false :: false :: false :: false :: false :: false :: false :: false :: false :: false :: false :: false :: false :: false :: false :: false :: false :: false :: true :: true :: true :: false :: false :: false :: false :: false :: false :: false :: false :: false :: false :: false :: false :: false :: false :: false :: false :: false :: false :: false :: false :: false :: false :: false :: false :: false :: false :: false :: false :: false :: false :: false :: false :: [])
      · (try dsimp only [maskT]); try exact rfl
      · rfl
      · omega
      exact ⟨j + 1, rfl, by omega, rfl, by rw [hst, hfo, hnbl, hbl, hrx]; rfl, (hx.push _ _).setB (nb_le hx)⟩
   ·
    (try simp only [y1, y2, y3, y4, y5, y6, y7, y8, y9, y0, List.length_map] at hg19)
    have hj0 : j = 0 := by have : ¬ 0 < (j : Int) := hg19; omega
    apply drun_normT
    · (try dsimp only [zS, zN, zH, zT]); try exact rfl
    refine zdU rfl rfl rfl rfl (by dsimp only [zS, zN, zH, zT]) ?_
    refine zdU rfl rfl rfl rfl (by dsimp only [zS, zN, zH, zT]) ?_
    refine zdU rfl rfl rfl rfl (by dsimp only [zS, zN, zH, zT]) ?_
    refine zdU rfl rfl rfl rfl (by dsimp only [zS, zN, zH, zT]) ?_
    refine zdU rfl rfl rfl rfl (by dsimp only [zS, zN, zH, zT]) ?_
    refine zdU rfl rfl rfl rfl (by dsimp only [zS, zN, zH, zT]) ?_
    refine zdU rfl rfl rfl rfl (by dsimp only [zS, zN, zH, zT]) ?_
    refine zdU rfl rfl rfl rfl (by dsimp only [zS, zN, zH, zT]) ?_
    refine zdU rfl rfl rfl rfl (by dsimp only [zS, zN, zH, zT]) ?_
    refine zdU rfl rfl rfl rfl (by dsimp only [zS, zN, zH, zT]) ?_
    refine zd0 (fun H => (op_pick_ff (by rfl) (val_const (by rfl)))) rfl (by dsimp only [zS, zN, zH, zT]) ?_
    refine zd0 (fun H => (op_move_tmp (by rfl))) rfl (by dsimp only [zS, zN, zH, zT]) ?_
    refine zd0w rfl rfl rfl (fun H => (by first | exact op_fieldAddr_ptr Try.underlying48 rfl Sz26 (by rfl) (by rfl) | exact op_fieldAddr_elt Try.underlying48 rfl Sz26 (by rfl) (by rfl) (by rfl))) (by dsimp only [zS, zN, zH, zT]) ?_
    refine zd1w rfl rfl rfl (op_load_ptrsD (vC x.val) Try.underlying26 (by rfl) Sz26 (by rfl) (setB_at push_at) (by show 1 + 6 ≤ ((fC x).map AV.d).length; rw [List.length_map, fC_len]; exact Nat.le_refl _) (f1_val x) (vC_one _)) (by dsimp only [zS, zN, zH, zT]) ?_
    refine zd1w rfl rfl rfl (by first | exact op_load_elt Try.underlying3 (by rfl) (by rfl) (by rfl) | exact op_load_ptr Try.underlying3 (by rfl) (by rfl) (by first | exact hb13 | exact setB_at push_at) (by rfl)) (by dsimp only [zS, zN, zH, zT]) ?_
    refine zd0w rfl rfl rfl (fun H => (op_sub (by rfl) (by rfl) (show IntKind.i64.wrap (((d + 1 : Nat) : Int) - 1) = (d : Int) by rw [wrap_i64 ⟨by omega, by omega⟩]; omega))) (by dsimp only [zS, zN, zH, zT]) ?_
    refine zd0w rfl rfl rfl (fun H => (op_callF Try.func34 (by rfl) (by rfl) (.tmp (by rfl) (.tmp (by rfl) .nil)) (ihF d rfl x (List.mem_of_getElem? hx1) _))) (by dsimp only [zS, zN, zH, zT]) ?_
    refine zd0w rfl rfl rfl (fun H => (op_not (by rfl))) (by dsimp only [zS, zN, zH, zT]) ?_
    refine zd0 (fun H => (op_pick_ff (by rfl) (val_tmp (by rfl)))) rfl (by dsimp only [zS, zN, zH, zT]) ?_
    refine drun_end rfl ?_
    refine then_normal ?_
    refine aw_cond rfl (fun hc23 => ?_) (fun hc23 => ?_)
    ·
     (try simp only [y1, y2, y3, y4, y5, y6, y7, y8, y9, y0, List.length_map] at hc23)
     have hrx : rightV d x.val = false := by simpa using hc23
     refine aw_seq ?_
     refine aw_region ?_
     refine zst (op_assign_const (by rfl)) rfl (by dsimp only [zS, zN, zH, zT]) ?_
     refine al_end rfl ?_
     refine then_normal ?_
     refine aw_ret ?_
     refine inBlock_ret (then_ret (again_ret (inBlock_ret (then_ret ?_))))
     refine retPost1 rfl rfl ?_
     exact ⟨by rw [hR, fieldsOk_pre (by rw [hst, hrx]; simp)]; rfl, (hx.push _ _).setB (nb_le hx)⟩
    ·
     (try simp only [y1, y2, y3, y4, y5, y6, y7, y8, y9, y0, List.length_map] at hc23)
     have hrx : rightV d x.val = true := by simpa using hc23
     refine aw_skip ?_
     refine inBlock_normal (then_normal ?_)
     refine aw_region ?_
     refine zst (by first | exact op_add (by rfl) (by rfl) (wrap_i64 ⟨by omega, by omega⟩) | exact op_add (by rfl) (by rfl) (by rfl)) rfl (by dsimp only [zS, zN, zH, zT]) ?_
     refine zst (op_move_tmp (by rfl)) rfl (by dsimp only [zS, zN, zH, zT]) ?_
     refine al_end rfl ?_
     apply again_to (fs.length - (j + 1)) (false :: false :: true :: true :: false :: false :: false :: false :: false :: false :: false :: false :: false :: false :: false :: false :: false :: false :: false :: false :: false :: false :: false :: false :: false :: false :: false :: false :: false :: false :: false :: false :: false :: false :: false :: false :: false :: false :: false :: false :: false :: false :: false :: false :: false :: false :: false :: false :: false :: false :: false :: false :: false :: false :: false :: false :: false :: false :: false :: false :: false :: false :: false :: false :: false :: false :: false :: false :: false :: false :: false :: false :: false :: false :: false :: false :: false :: false :: false :: true :: true :: true :: false :: false :: false :: false :: false :: false :: false :: false :: false :: false :: false :: false :: false :: false :: false :: false :: false :: false :: false :: false :: false :: false :: false :: false :: false :: false :: false :: false :: false :: false :: false :: false :: [])
     · (try dsimp only [maskT]); try exact rfl
     · rfl
     · omega
     exact ⟨j + 1, rfl, by omega, rfl, by rw [hst, hfo, hrx]; subst hj0; rfl, (hx.push _ _).setB (nb_le hx)⟩
  ·
   (try simp only [y1, y2, y3, y4, y5, y6, y7, y8, y9, y0, List.length_map] at hc18)
   (try simp only [List.length_map] at hc18)
   have hje : j = fs.length := by omega
   subst hje
   rw [List.take_length] at hfo
   refine aw_exit ?_
   refine then_exit (again_exit (inBlock_here (then_normal ?_)))
   refine aw_seq ?_
   refine aw_region ?_
   refine zst (by first | exact op_fieldAddr_ptr Try.underlying26 rfl Sz23 (by rfl) (by rfl) | exact op_fieldAddr_elt Try.underlying26 rfl Sz23 (by rfl) (by rfl) (by rfl)) rfl (by dsimp only [zS, zN, zH, zT]) ?_
   refine zst (by first | exact op_load_elt Try.underlying23 (by rfl) (by rfl) (by rfl) | exact op_load_ptr Try.underlying23 (by rfl) (by rfl) (by first | exact hb13 | exact setB_at push_at) (by rfl)) rfl (by dsimp only [zS, zN, zH, zT]) ?_
   refine zst (op_makeFn .nil (.tmp (by rfl) .nil)) rfl (by dsimp only [zS, zN, zH, zT]) ?_
   refine zst (op_callF Try.func57 (by rfl) (by rfl) (.tmp (by rfl) (.tmp (by rfl) .nil)) (containsV_ok _ ls d (by omega) hls (ihL d rfl))) rfl (by dsimp only [zS, zN, zH, zT]) ?_
   refine zst (op_not (by rfl)) rfl (by dsimp only [zS, zN, zH, zT]) ?_
   refine zst (op_assign_tmp (by rfl)) rfl (by dsimp only [zS, zN, zH, zT]) ?_
   refine al_end rfl ?_
   refine then_normal ?_
   refine aw_ret ?_
   refine retPost1 rfl rfl ?_
   exact ⟨by rw [hR, hfo, not_any_not]; rfl, hx⟩
/-- Right: that is what the program finds. -/
theorem right_all : ∀ (D : Nat) (v : V), D ≤ 1000 → SmallV v → ∀ Hs : HS, ACalls Try.prog 34 [.d (.agg (vC v)), .d (I D)] Hs (Ret (.d (TF (rightV D v))) Hs)
  | 0, .mk k y i tx ls fs, hD, hs, Hs => by
    rw [v6D_eq]
    exact right_step Hs 0 k y i tx ls fs hD hs.ll hs.fl (fun _ h => by cases h) (fun _ h => by cases h)
  | D + 1, .mk k y i tx ls fs, hD, hs, Hs => by
    rw [v6D_eq]
    exact right_step Hs (D + 1) k y i tx ls fs hD hs.ll hs.fl (fun d h x hx Hs => by cases h; exact right_all D x (by omega) (hs.l x hx) Hs) (fun d h x hx Hs => by cases h; exact right_all D x.val (by omega) (hs.f x hx) Hs)
end Go.Proofs.Ytjamnhofbkgblaa
