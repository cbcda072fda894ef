/- What the law PatchOrders comes to. -/
import Derived.Test.YtjamnhofbkgblaaPatH
import Derived.Test.YtjamnhofbkgblaaValRt
import Derived.Test.YtjamnhofbkgblaaArgOp
import Derived.KernelRfl
namespace Go.Proofs.Ytjamnhofbkgblaa
open Go.AV Go.AV.Ord Go.AV.Oct Go.AV.Val Go.AV.Patch
set_option linter.unusedVariables false
set_option linter.unusedSimpArgs false
theorem vtypes : VTypes Try.prog 26 48 22 4 2 9 23 24 where
  v := ⟨_, Try.underlying26, ⟨_, rfl, rfl, rfl⟩, ⟨_, rfl, rfl, rfl⟩, ⟨_, rfl, rfl, rfl⟩, ⟨_, rfl, rfl, rfl⟩, ⟨_, rfl, rfl, rfl⟩, ⟨_, rfl, rfl, rfl⟩, rfl⟩
  f := ⟨_, Try.underlying48, ⟨_, rfl, rfl, rfl⟩, ⟨_, rfl, rfl, rfl⟩, rfl⟩
  k := Try.underlying22
  b := Try.underlying4
  i := Try.underlying2
  s := Try.underlying9
  l := Try.underlying23
  m := Try.underlying24
  cV := by kernel_rfl
  cF := by kernel_rfl
  cK := by kernel_rfl
  cB := by kernel_rfl
  cI := by kernel_rfl
  cS := by kernel_rfl
  cL := by kernel_rfl
  cM := by kernel_rfl
theorem otypes : OTypes Try.prog 36 33 34 9 26 37 where
  o := ⟨_, Try.underlying36, ⟨_, rfl, rfl, rfl⟩, ⟨_, rfl, rfl, rfl⟩, ⟨_, rfl, rfl, rfl⟩, rfl⟩
  p := Try.underlying33
  l := Try.underlying34
  s := Try.underlying9
  q := Try.underlying37
  cO := by kernel_rfl
  cP := by kernel_rfl
  cL := by kernel_rfl
  cS := by kernel_rfl
/- The law. -/
set_option maxRecDepth 100000 in
theorem patchOrders_walk (Hs : HS) (v : V) (a b : Opn) (wv : WfV v) : ACalls Try.prog 4 [.d (.agg (vC v)), .d (oD a), .d (oD b)] Hs (fun av _ => av = .d (TF true)) := by
 refine acalls_of_aw Try.func4 rfl ?_
 refine aw_start (T' := ((.d (.agg (vC v))) :: (.d (oD a)) :: (.d (oD b)) :: .un :: .un :: .un :: .un :: .un :: .un :: .un :: .un :: .un :: .un :: .un :: .un :: .un :: .un :: .un :: .un :: .un :: .un :: .un :: .un :: .un :: .un :: .un :: .un :: .un :: .un :: .un :: .un :: .un :: .un :: .un :: .un :: .un :: .un :: .un :: .un :: .un :: .un :: .un :: .un :: .un :: .un :: .un :: .un :: .un :: .un :: .un :: .un :: .un :: .un :: .un :: .un :: .un :: .un :: .un :: .un :: .un :: .un :: .un :: .un :: .un :: .un :: .un :: .un :: .un :: .un :: .un :: .un :: .un :: .un :: .un :: .un :: .un :: [])) rfl ?_
 refine aw_seq ?_
 refine aw_region ?_
 refine zst (op_box_ptr (cs := (vC v).map .d) (by intro h; cases h) (by rfl)) rfl (by dsimp only [zS, zN, zH, zT]) ?_
 refine zst (op_box_elt (cs := [I a.kind, .lst 1 (a.path.map S), I a.val.kind, TF a.val.yes, .v (.int .i64 a.val.num), S a.val.text, .lst 6 (a.val.list.map vD), .lst 7 (a.val.fields.map fD)]) (by rfl) (by rfl)) rfl (by dsimp only [zS, zN, zH, zT]) ?_
 refine zst (op_box_elt (cs := [I b.kind, .lst 1 (b.path.map S), I b.val.kind, TF b.val.yes, .v (.int .i64 b.val.num), S b.val.text, .lst 6 (b.val.list.map vD), .lst 7 (b.val.fields.map fD)]) (by rfl) (by rfl)) rfl (by dsimp only [zS, zN, zH, zT]) ?_
 refine zst (op_assign_const (by rfl)) rfl (by dsimp only [zS, zN, zH, zT]) ?_
 refine al_end rfl ?_
 refine then_normal ?_
 refine aw_seq ?_
 refine aw_seq ?_
 refine aw_region ?_
 refine zst (op_callF Try.func9 (by rfl) (by rfl) .nil (phead_ok _)) rfl (by dsimp only [zS, zN, zH, zT]) ?_
 refine zst (op_not (by rfl)) rfl (by dsimp only [zS, zN, zH, zT]) ?_
 refine al_end rfl ?_
 refine then_normal ?_
 refine aw_cond rfl (fun hc1 => ?_) (fun hc1 => ?_)
 ·
  (try simp only [y1, y2, y3, y4, y5, y6, y7, y8, y9, y0, List.length_map] at hc1)
  exact absurd hc1 (by decide)
 ·
  (try simp only [y1, y2, y3, y4, y5, y6, y7, y8, y9, y0, List.length_map] at hc1)
  refine aw_skip ?_
  refine then_normal ?_
  refine aw_seq ?_
  refine aw_seq ?_
  refine aw_draw [1, 0, 0, 0, 0, 0, 0, 0, 0, 0, 0, 0, 0, 0, 0, 0, 0, 0, 0, 0, 0, 0, 0, 0, 0, 0, 0, 0, 0, 0, 0] mixed (by kernel_rfl) ?_
  refine zd1 (op_ldV v Try.underlying26 (by rfl) Sz26 (by rfl) push_at (by first | exact VBl.v _ _ | exact VBl.z _)) rfl (by dsimp only [zS, zN, zH, zT]) ?_
  refine zd0 (fun H => (op_callF Try.func10 (by rfl) (by rfl) (.tmp (by rfl) (.const (by rfl) .nil)) (few_ok 7 v (by decide) _))) rfl (by dsimp only [zS, zN, zH, zT]) ?_
  refine zd0 (fun H => (op_not (by rfl))) rfl (by dsimp only [zS, zN, zH, zT]) ?_
  refine zd0 (fun H => (op_move_tmp (by rfl))) rfl (by dsimp only [zS, zN, zH, zT]) ?_
  refine drun_split 16 rfl (fun hg2 => ?_) (fun hg2 => ?_)
  ·
   (try simp only [y1, y2, y3, y4, y5, y6, y7, y8, y9, y0, List.length_map] at hg2)
   apply drun_normT
   · (try dsimp only [zS, zN, zH, zT]); try exact rfl
   refine zdU rfl rfl rfl rfl (by dsimp only [zS, zN, zH, zT]) ?_
   refine zdU rfl rfl rfl rfl (by dsimp only [zS, zN, zH, zT]) ?_
   refine zdU rfl rfl rfl rfl (by dsimp only [zS, zN, zH, zT]) ?_
   refine zdU rfl rfl rfl rfl (by dsimp only [zS, zN, zH, zT]) ?_
   refine zdU rfl rfl rfl rfl (by dsimp only [zS, zN, zH, zT]) ?_
   refine zd0 (fun H => (op_pick_tt (by rfl) (val_const (by rfl)))) rfl (by dsimp only [zS, zN, zH, zT]) ?_
   refine zd0 (fun H => (op_move_tmp (by rfl))) rfl (by dsimp only [zS, zN, zH, zT]) ?_
   refine zdU rfl rfl rfl rfl (by dsimp only [zS, zN, zH, zT]) ?_
   refine zdU rfl rfl rfl rfl (by dsimp only [zS, zN, zH, zT]) ?_
   refine zdU rfl rfl rfl rfl (by dsimp only [zS, zN, zH, zT]) ?_
   refine zd0 (fun H => (op_pick_tt (by rfl) (val_const (by rfl)))) rfl (by dsimp only [zS, zN, zH, zT]) ?_
   refine zd0 (fun H => (op_move_tmp (by rfl))) rfl (by dsimp only [zS, zN, zH, zT]) ?_
   refine zdU rfl rfl rfl rfl (by dsimp only [zS, zN, zH, zT]) ?_
   refine zdU rfl rfl rfl rfl (by dsimp only [zS, zN, zH, zT]) ?_
   refine zdU rfl rfl rfl rfl (by dsimp only [zS, zN, zH, zT]) ?_
   refine zd0 (fun H => (op_pick_tt (by rfl) (val_const (by rfl)))) rfl (by dsimp only [zS, zN, zH, zT]) ?_
   refine zd0 (fun H => (op_move_tmp (by rfl))) rfl (by dsimp only [zS, zN, zH, zT]) ?_
   refine zdU rfl rfl rfl rfl (by dsimp only [zS, zN, zH, zT]) ?_
   refine zdU rfl rfl rfl rfl (by dsimp only [zS, zN, zH, zT]) ?_
   refine zdU rfl rfl rfl rfl (by dsimp only [zS, zN, zH, zT]) ?_
   refine zdU rfl rfl rfl rfl (by dsimp only [zS, zN, zH, zT]) ?_
   refine zdU rfl rfl rfl rfl (by dsimp only [zS, zN, zH, zT]) ?_
   refine zdU rfl rfl rfl rfl (by dsimp only [zS, zN, zH, zT]) ?_
   refine zdU rfl rfl rfl rfl (by dsimp only [zS, zN, zH, zT]) ?_
   refine zdU rfl rfl rfl rfl (by dsimp only [zS, zN, zH, zT]) ?_
   refine zdU rfl rfl rfl rfl (by dsimp only [zS, zN, zH, zT]) ?_
   refine zd0 (fun H => (op_pick_tt (by rfl) (val_const (by rfl)))) rfl (by dsimp only [zS, zN, zH, zT]) ?_
   refine drun_end rfl ?_
   refine then_normal ?_
   refine aw_cond rfl (fun _ => ?_) (fun h => by cases h)
   refine aw_seq ?_
   refine aw_region ?_
   refine zst (op_assign_const (by rfl)) rfl (by dsimp only [zS, zN, zH, zT]) ?_
   refine al_end rfl ?_
   refine then_normal ?_
   refine aw_ret ?_
   refine then_ret ?_
   refine retPost1 rfl rfl ?_
   first | exact rfl | (rw [hxy, cmp_refl]; rfl)
  ·
   (try simp only [y1, y2, y3, y4, y5, y6, y7, y8, y9, y0, List.length_map] at hg2)
   have hf : fewV 7 v = true := by simpa using hg2
   apply drun_normT
   · (try dsimp only [zS, zN, zH, zT]); try exact rfl
   refine zd0w rfl rfl rfl (fun H => (op_load_elts (ds := oC a) Try.underlying36 (by rfl) Sz36 (by rfl) (Nat.le_of_ble_eq_true rfl) (by rfl))) (by dsimp only [zS, zN, zH, zT]) ?_
   refine zd0w rfl rfl rfl (fun H => (op_load_elts (ds := oC b) Try.underlying36 (by rfl) Sz36 (by rfl) (Nat.le_of_ble_eq_true rfl) (by rfl))) (by dsimp only [zS, zN, zH, zT]) ?_
   refine zd0w rfl rfl rfl (fun H => (op_lit Try.underlying37 ZS36 (.cons (y := oD a) (by rfl) (.cons (y := oD b) (by rfl) (.nil _))) (by rfl) (lit_o [a, b]) (lit_o1 [a, b]) (by decide))) (by dsimp only [zS, zN, zH, zT]) ?_
   refine zd0w rfl rfl rfl (fun H => (op_callF Try.func16 (by rfl) (by rfl) (.tmp (by rfl) .nil) (pfew_ok _ _ [a, b] (LL.own _ _ _) (by simp)))) (by dsimp only [zS, zN, zH, zT]) ?_
   refine zd0w rfl rfl rfl (fun H => (op_not (by rfl))) (by dsimp only [zS, zN, zH, zT]) ?_
   refine zd0 (fun H => (op_pick_ff (by rfl) (val_tmp (by rfl)))) rfl (by dsimp only [zS, zN, zH, zT]) ?_
   refine zd0 (fun H => (op_move_tmp (by rfl))) rfl (by dsimp only [zS, zN, zH, zT]) ?_
   refine drun_split 23 rfl (fun hg4 => ?_) (fun hg4 => ?_)
   ·
    (try simp only [y1, y2, y3, y4, y5, y6, y7, y8, y9, y0, List.length_map] at hg4)
    apply drun_normT
    · (try dsimp only [zS, zN, zH, zT]); try exact rfl
    refine zdU rfl rfl rfl rfl (by dsimp only [zS, zN, zH, zT]) ?_
    refine zdU rfl rfl rfl rfl (by dsimp only [zS, zN, zH, zT]) ?_
    refine zdU rfl rfl rfl rfl (by dsimp only [zS, zN, zH, zT]) ?_
    refine zd0 (fun H => (op_pick_tt (by rfl) (val_const (by rfl)))) rfl (by dsimp only [zS, zN, zH, zT]) ?_
    refine zd0 (fun H => (op_move_tmp (by rfl))) rfl (by dsimp only [zS, zN, zH, zT]) ?_
    refine zdU rfl rfl rfl rfl (by dsimp only [zS, zN, zH, zT]) ?_
    refine zdU rfl rfl rfl rfl (by dsimp only [zS, zN, zH, zT]) ?_
    refine zdU rfl rfl rfl rfl (by dsimp only [zS, zN, zH, zT]) ?_
    refine zd0 (fun H => (op_pick_tt (by rfl) (val_const (by rfl)))) rfl (by dsimp only [zS, zN, zH, zT]) ?_
    refine zd0 (fun H => (op_move_tmp (by rfl))) rfl (by dsimp only [zS, zN, zH, zT]) ?_
    refine zdU rfl rfl rfl rfl (by dsimp only [zS, zN, zH, zT]) ?_
    refine zdU rfl rfl rfl rfl (by dsimp only [zS, zN, zH, zT]) ?_
    refine zdU rfl rfl rfl rfl (by dsimp only [zS, zN, zH, zT]) ?_
    refine zdU rfl rfl rfl rfl (by dsimp only [zS, zN, zH, zT]) ?_
    refine zdU rfl rfl rfl rfl (by dsimp only [zS, zN, zH, zT]) ?_
    refine zdU rfl rfl rfl rfl (by dsimp only [zS, zN, zH, zT]) ?_
    refine zdU rfl rfl rfl rfl (by dsimp only [zS, zN, zH, zT]) ?_
    refine zdU rfl rfl rfl rfl (by dsimp only [zS, zN, zH, zT]) ?_
    refine zdU rfl rfl rfl rfl (by dsimp only [zS, zN, zH, zT]) ?_
    refine zd0 (fun H => (op_pick_tt (by rfl) (val_const (by rfl)))) rfl (by dsimp only [zS, zN, zH, zT]) ?_
    refine drun_end rfl ?_
    refine then_normal ?_
    refine aw_cond rfl (fun _ => ?_) (fun h => by cases h)
    refine aw_seq ?_
    refine aw_region ?_
    refine zst (op_assign_const (by rfl)) rfl (by dsimp only [zS, zN, zH, zT]) ?_
    refine al_end rfl ?_
    refine then_normal ?_
    refine aw_ret ?_
    refine then_ret ?_
    refine retPost1 rfl rfl ?_
    first | exact rfl | (rw [hxy, cmp_refl]; rfl)
   ·
    (try simp only [y1, y2, y3, y4, y5, y6, y7, y8, y9, y0, List.length_map] at hg4)
    have hfo : fewO [a, b] = true := by simpa using hg4
    have fa : fewP a = true := (fewO_parts hfo).1 a (by simp)
    have fb : fewP b = true := (fewO_parts hfo).1 b (by simp)
    apply drun_normT
    · (try dsimp only [zS, zN, zH, zT]); try exact rfl
    refine zd0w rfl rfl rfl (fun H => (op_load_elts (ds := oC a) Try.underlying36 (by rfl) Sz36 (by rfl) (Nat.le_of_ble_eq_true rfl) (by rfl))) (by dsimp only [zS, zN, zH, zT]) ?_
    refine zd0w rfl rfl rfl (fun H => (op_callF Try.func17 (by rfl) (by rfl) (.tmp (by rfl) .nil) (plright_ok _ a (few_small 7 _ (fewP_parts fa).2.1)))) (by dsimp only [zS, zN, zH, zT]) ?_
    refine zd0w rfl rfl rfl (fun H => (op_not (by rfl))) (by dsimp only [zS, zN, zH, zT]) ?_
    refine zd0 (fun H => (op_pick_ff (by rfl) (val_tmp (by rfl)))) rfl (by dsimp only [zS, zN, zH, zT]) ?_
    refine zd0 (fun H => (op_move_tmp (by rfl))) rfl (by dsimp only [zS, zN, zH, zT]) ?_
    refine drun_split 28 rfl (fun hg6 => ?_) (fun hg6 => ?_)
    ·
     (try simp only [y1, y2, y3, y4, y5, y6, y7, y8, y9, y0, List.length_map] at hg6)
     apply drun_normT
     · (try dsimp only [zS, zN, zH, zT]); try exact rfl
     refine zdU rfl rfl rfl rfl (by dsimp only [zS, zN, zH, zT]) ?_
     refine zdU rfl rfl rfl rfl (by dsimp only [zS, zN, zH, zT]) ?_
     refine zdU rfl rfl rfl rfl (by dsimp only [zS, zN, zH, zT]) ?_
     refine zd0 (fun H => (op_pick_tt (by rfl) (val_const (by rfl)))) rfl (by dsimp only [zS, zN, zH, zT]) ?_
     refine zd0 (fun H => (op_move_tmp (by rfl))) rfl (by dsimp only [zS, zN, zH, zT]) ?_
     refine zdU rfl rfl rfl rfl (by dsimp only [zS, zN, zH, zT]) ?_
     refine zdU rfl rfl rfl rfl (by dsimp only [zS, zN, zH, zT]) ?_
     refine zdU rfl rfl rfl rfl (by dsimp only [zS, zN, zH, zT]) ?_
     refine zdU rfl rfl rfl rfl (by dsimp only [zS, zN, zH, zT]) ?_
     refine zdU rfl rfl rfl rfl (by dsimp only [zS, zN, zH, zT]) ?_
     refine zdU rfl rfl rfl rfl (by dsimp only [zS, zN, zH, zT]) ?_
     refine zdU rfl rfl rfl rfl (by dsimp only [zS, zN, zH, zT]) ?_
     refine zdU rfl rfl rfl rfl (by dsimp only [zS, zN, zH, zT]) ?_
     refine zdU rfl rfl rfl rfl (by dsimp only [zS, zN, zH, zT]) ?_
     refine zd0 (fun H => (op_pick_tt (by rfl) (val_const (by rfl)))) rfl (by dsimp only [zS, zN, zH, zT]) ?_
     refine drun_end rfl ?_
     refine then_normal ?_
     refine aw_cond rfl (fun _ => ?_) (fun h => by cases h)
     refine aw_seq ?_
     refine aw_region ?_
     refine zst (op_assign_const (by rfl)) rfl (by dsimp only [zS, zN, zH, zT]) ?_
     refine al_end rfl ?_
     refine then_normal ?_
     refine aw_ret ?_
     refine then_ret ?_
     refine retPost1 rfl rfl ?_
     first | exact rfl | (rw [hxy, cmp_refl]; rfl)
    ·
     (try simp only [y1, y2, y3, y4, y5, y6, y7, y8, y9, y0, List.length_map] at hg6)
     have ra : rightO a = true := by simpa using hg6
     apply drun_normT
     · (try dsimp only [zS, zN, zH, zT]); try exact rfl
     refine zd0w rfl rfl rfl (fun H => (op_load_elts (ds := oC b) Try.underlying36 (by rfl) Sz36 (by rfl) (Nat.le_of_ble_eq_true rfl) (by rfl))) (by dsimp only [zS, zN, zH, zT]) ?_
     refine zd0w rfl rfl rfl (fun H => (op_callF Try.func17 (by rfl) (by rfl) (.tmp (by rfl) .nil) (plright_ok _ b (few_small 7 _ (fewP_parts fb).2.1)))) (by dsimp only [zS, zN, zH, zT]) ?_
     refine zd0w rfl rfl rfl (fun H => (op_not (by rfl))) (by dsimp only [zS, zN, zH, zT]) ?_
     refine zd0 (fun H => (op_pick_ff (by rfl) (val_tmp (by rfl)))) rfl (by dsimp only [zS, zN, zH, zT]) ?_
     refine zd0 (fun H => (op_move_tmp (by rfl))) rfl (by dsimp only [zS, zN, zH, zT]) ?_
     refine drun_split 33 rfl (fun hg8 => ?_) (fun hg8 => ?_)
     ·
      (try simp only [y1, y2, y3, y4, y5, y6, y7, y8, y9, y0, List.length_map] at hg8)
      apply drun_normT
      · (try dsimp only [zS, zN, zH, zT]); try exact rfl
      refine zdU rfl rfl rfl rfl (by dsimp only [zS, zN, zH, zT]) ?_
      refine zdU rfl rfl rfl rfl (by dsimp only [zS, zN, zH, zT]) ?_
      refine zdU rfl rfl rfl rfl (by dsimp only [zS, zN, zH, zT]) ?_
      refine zdU rfl rfl rfl rfl (by dsimp only [zS, zN, zH, zT]) ?_
      refine zdU rfl rfl rfl rfl (by dsimp only [zS, zN, zH, zT]) ?_
      refine zdU rfl rfl rfl rfl (by dsimp only [zS, zN, zH, zT]) ?_
      refine zdU rfl rfl rfl rfl (by dsimp only [zS, zN, zH, zT]) ?_
      refine zdU rfl rfl rfl rfl (by dsimp only [zS, zN, zH, zT]) ?_
      refine zdU rfl rfl rfl rfl (by dsimp only [zS, zN, zH, zT]) ?_
      refine zd0 (fun H => (op_pick_tt (by rfl) (val_const (by rfl)))) rfl (by dsimp only [zS, zN, zH, zT]) ?_
      refine drun_end rfl ?_
      refine then_normal ?_
      refine aw_cond rfl (fun _ => ?_) (fun h => by cases h)
      refine aw_seq ?_
      refine aw_region ?_
      refine zst (op_assign_const (by rfl)) rfl (by dsimp only [zS, zN, zH, zT]) ?_
      refine al_end rfl ?_
      refine then_normal ?_
      refine aw_ret ?_
      refine then_ret ?_
      refine retPost1 rfl rfl ?_
      first | exact rfl | (rw [hxy, cmp_refl]; rfl)
     ·
      (try simp only [y1, y2, y3, y4, y5, y6, y7, y8, y9, y0, List.length_map] at hg8)
      have rb : rightO b = true := by simpa using hg8
      obtain ⟨n, p, hp⟩ := List.exists_cons_of_ne_nil (path_ne ra)
      obtain ⟨m, q, hq⟩ := List.exists_cons_of_ne_nil (path_ne rb)
      apply drun_normT
      · (try dsimp only [zS, zN, zH, zT]); try exact rfl
      refine zd0w rfl rfl rfl (fun H => (by first | exact op_fieldAddr_ptr Try.underlying36 rfl Sz34 (by rfl) (by rfl) | exact op_fieldAddr_elt Try.underlying36 rfl Sz34 (by rfl) (by rfl) (by rfl))) (by dsimp only [zS, zN, zH, zT]) ?_
      refine zd0w rfl rfl rfl (fun H => (by first | exact op_load_elt Try.underlying34 (by rfl) (by rfl) (by rfl) | exact op_load_ptr Try.underlying34 (by rfl) (by rfl) (by rfl) (by rfl))) (by dsimp only [zS, zN, zH, zT]) ?_
      refine zd0w rfl rfl rfl (fun H => (op_indexAddr Try.underlying34 Sz9 (LL.d _ _) (by rfl) (by decide) (show (a.path.map S)[(0 : Int).toNat]? = some (S n) by rw [hp]; rfl) (by rfl))) (by dsimp only [zS, zN, zH, zT]) ?_
      refine zd0w rfl rfl rfl (fun H => (by first | exact op_load_elt Try.underlying9 (by rfl) (by rfl) (by rfl) | exact op_load_ptr Try.underlying9 (by rfl) (by rfl) (by rfl) (by rfl))) (by dsimp only [zS, zN, zH, zT]) ?_
      refine zd0w rfl rfl rfl (fun H => (by first | exact op_fieldAddr_ptr Try.underlying36 rfl Sz34 (by rfl) (by rfl) | exact op_fieldAddr_elt Try.underlying36 rfl Sz34 (by rfl) (by rfl) (by rfl))) (by dsimp only [zS, zN, zH, zT]) ?_
      refine zd0w rfl rfl rfl (fun H => (by first | exact op_load_elt Try.underlying34 (by rfl) (by rfl) (by rfl) | exact op_load_ptr Try.underlying34 (by rfl) (by rfl) (by rfl) (by rfl))) (by dsimp only [zS, zN, zH, zT]) ?_
      refine zd0w rfl rfl rfl (fun H => (op_indexAddr Try.underlying34 Sz9 (LL.d _ _) (by rfl) (by decide) (show (b.path.map S)[(0 : Int).toNat]? = some (S m) by rw [hq]; rfl) (by rfl))) (by dsimp only [zS, zN, zH, zT]) ?_
      refine zd0w rfl rfl rfl (fun H => (by first | exact op_load_elt Try.underlying9 (by rfl) (by rfl) (by rfl) | exact op_load_ptr Try.underlying9 (by rfl) (by rfl) (by rfl) (by rfl))) (by dsimp only [zS, zN, zH, zT]) ?_
      refine zd0w rfl rfl rfl (fun H => (op_eqS (by rfl) (by rfl))) (by dsimp only [zS, zN, zH, zT]) ?_
      refine zd0 (fun H => (op_pick_ff (by rfl) (val_tmp (by rfl)))) rfl (by dsimp only [zS, zN, zH, zT]) ?_
      refine drun_end rfl ?_
      refine then_normal ?_
      refine aw_cond rfl (fun hc10 => ?_) (fun hc10 => ?_)
      ·
       (try simp only [y1, y2, y3, y4, y5, y6, y7, y8, y9, y0, List.length_map] at hc10)
       refine aw_seq ?_
       refine aw_region ?_
       refine zst (op_assign_const (by rfl)) rfl (by dsimp only [zS, zN, zH, zT]) ?_
       refine al_end rfl ?_
       refine then_normal ?_
       refine aw_ret ?_
       refine then_ret ?_
       refine retPost1 rfl rfl ?_
       first | exact rfl | (rw [hxy, cmp_refl]; rfl)
      ·
       (try simp only [y1, y2, y3, y4, y5, y6, y7, y8, y9, y0, List.length_map] at hc10)
       have hne : ¬ n = m := hc10
       have bv : BndV 8 (lawR v) := law_bnd hf wv
       have ba : BndV 8 a.val := few_bnd 7 _ (fewP_parts fa).2.1
       have bb : BndV 8 b.val := few_bnd 7 _ (fewP_parts fb).2.1
       obtain ⟨hr, _, _, _⟩ := law_parts hf wv
       have hL := orders_law hr ra rb hp hq hne
       obtain ⟨x, e, hA⟩ : ∃ x e, applyV (lawR v) [a, b] = (x, e) := ⟨_, _, rfl⟩
       obtain ⟨y, f, hB⟩ : ∃ x e, applyV (lawR v) [b, a] = (x, e) := ⟨_, _, rfl⟩
       rw [hA, hB] at hL
       obtain ⟨h1, h2⟩ : (e = 0 ↔ f = 0) ∧ (e = 0 → x = y) := hL
       have sx : SmallV x := bv.applied (by intro o ho; simp at ho; rcases ho with rfl | rfl <;> assumption) hA (by simp)
       have sy : SmallV y := bv.applied (by intro o ho; simp at ho; rcases ho with rfl | rfl <;> assumption) hB (by simp)
       refine aw_skip ?_
       refine then_normal ?_
       refine aw_seq ?_
       refine aw_region ?_
       refine zst (op_ldV v Try.underlying26 (by rfl) Sz26 (by rfl) push_at (by first | exact VBl.v _ _ | exact VBl.z _)) rfl (by dsimp only [zS, zN, zH, zT]) ?_
       refine zst (op_callF Try.func11 (by rfl) (by rfl) (.tmp (by rfl) .nil) (lawR_all 7 v hf _)) rfl (by dsimp only [zS, zN, zH, zT]) ?_
       refine zst (op_stV (lawR v) Sz26 (by rfl) push_at (by first | exact VBl.z _ | exact VBl.v _ _) (by rfl)) rfl (by dsimp only [zS, zN, zH, zT]) ?_
       refine al_end rfl ?_
       refine then_normal ?_
       refine aw_seq ?_
       refine aw_region ?_
       refine zst (op_ldV (lawR v) Try.underlying26 (by rfl) Sz26 (by rfl) (setB_at push_at) (by first | exact VBl.v _ _ | exact VBl.z _)) rfl (by dsimp only [zS, zN, zH, zT]) ?_
       refine zst (op_load_elts (ds := oC a) Try.underlying36 (by rfl) Sz36 (by rfl) (Nat.le_of_ble_eq_true rfl) (by rfl)) rfl (by dsimp only [zS, zN, zH, zT]) ?_
       refine zst (op_load_elts (ds := oC b) Try.underlying36 (by rfl) Sz36 (by rfl) (Nat.le_of_ble_eq_true rfl) (by rfl)) rfl (by dsimp only [zS, zN, zH, zT]) ?_
       refine zst (op_lit Try.underlying37 ZS36 (.cons (y := oD a) (by rfl) (.cons (y := oD b) (by rfl) (.nil _))) (by rfl) (lit_o [a, b]) (lit_o1 [a, b]) (by decide)) rfl (by dsimp only [zS, zN, zH, zT]) ?_
       refine zst (op_callF Try.func12 (by rfl) (by rfl) (.tmp (by rfl) (.tmp (by rfl) .nil)) (papply_at (l := [a, b]) (m := 8) hA (by decide) (LL.own _ _ _) (by simp) bv (by intro o ho; simp at ho; rcases ho with rfl | rfl <;> assumption))) rfl (by dsimp only [zS, zN, zH, zT]) ?_
       refine zst (op_move_tmp (by rfl)) rfl (by dsimp only [zS, zN, zH, zT]) ?_
       refine zst (op_extract (by rfl) (by rfl)) rfl (by dsimp only [zS, zN, zH, zT]) ?_
       refine zst (op_extract (by rfl) (by rfl)) rfl (by dsimp only [zS, zN, zH, zT]) ?_
       refine zst (op_alloc (Zr26) (by rfl)) rfl (by dsimp only [zS, zN, zH, zT]) ?_
       refine zst (op_stV x Sz26 (by rfl) push_at (by first | exact VBl.z _ | exact VBl.v _ _) (by rfl)) rfl (by dsimp only [zS, zN, zH, zT]) ?_
       refine zst (op_assign_tmp (by rfl)) rfl (by dsimp only [zS, zN, zH, zT]) ?_
       refine al_end rfl ?_
       refine then_normal ?_
       refine aw_seq ?_
       refine aw_region ?_
       refine zst (op_ldV (lawR v) Try.underlying26 (by rfl) Sz26 (by rfl) (by rw [setB_ne (by simp only [setB_nb, push_nb]; omega)]; exact push_ne (setB_at push_at)) (by first | exact VBl.v _ _ | exact VBl.z _)) rfl (by dsimp only [zS, zN, zH, zT]) ?_
       refine zst (op_load_elts (ds := oC b) Try.underlying36 (by rfl) Sz36 (by rfl) (Nat.le_of_ble_eq_true rfl) (by rfl)) rfl (by dsimp only [zS, zN, zH, zT]) ?_
       refine zst (op_load_elts (ds := oC a) Try.underlying36 (by rfl) Sz36 (by rfl) (Nat.le_of_ble_eq_true rfl) (by rfl)) rfl (by dsimp only [zS, zN, zH, zT]) ?_
       refine zst (op_lit Try.underlying37 ZS36 (.cons (y := oD b) (by rfl) (.cons (y := oD a) (by rfl) (.nil _))) (by rfl) (lit_o [b, a]) (lit_o1 [b, a]) (by decide)) rfl (by dsimp only [zS, zN, zH, zT]) ?_
       refine zst (op_callF Try.func12 (by rfl) (by rfl) (.tmp (by rfl) (.tmp (by rfl) .nil)) (papply_at (l := [b, a]) (m := 8) hB (by decide) (LL.own _ _ _) (by simp) bv (by intro o ho; simp at ho; rcases ho with rfl | rfl <;> assumption))) rfl (by dsimp only [zS, zN, zH, zT]) ?_
       refine zst (op_move_tmp (by rfl)) rfl (by dsimp only [zS, zN, zH, zT]) ?_
       refine zst (op_extract (by rfl) (by rfl)) rfl (by dsimp only [zS, zN, zH, zT]) ?_
       refine zst (op_extract (by rfl) (by rfl)) rfl (by dsimp only [zS, zN, zH, zT]) ?_
       refine zst (op_alloc (Zr26) (by rfl)) rfl (by dsimp only [zS, zN, zH, zT]) ?_
       refine zst (op_stV y Sz26 (by rfl) push_at (by first | exact VBl.z _ | exact VBl.v _ _) (by rfl)) rfl (by dsimp only [zS, zN, zH, zT]) ?_
       refine zst (op_assign_tmp (by rfl)) rfl (by dsimp only [zS, zN, zH, zT]) ?_
       refine al_end rfl ?_
       refine then_normal ?_
       refine aw_seq ?_
       refine aw_region ?_
       refine zst (op_move_tmp (by rfl)) rfl (by dsimp only [zS, zN, zH, zT]) ?_
       refine zst (op_eqI (by rfl) (by rfl)) rfl (by dsimp only [zS, zN, zH, zT]) ?_
       refine zst (op_move_tmp (by rfl)) rfl (by dsimp only [zS, zN, zH, zT]) ?_
       refine zst (op_eqI (by rfl) (by rfl)) rfl (by dsimp only [zS, zN, zH, zT]) ?_
       refine zst (op_eqB Try.underlying4 (by rfl) (by rfl)) rfl (by dsimp only [zS, zN, zH, zT]) ?_
       refine zst (op_move_tmp (by rfl)) rfl (by dsimp only [zS, zN, zH, zT]) ?_
       refine al_split 67 rfl (fun hg11 => ?_) (fun hg11 => ?_)
       ·
        (try simp only [y1, y2, y3, y4, y5, y6, y7, y8, y9, y0, List.length_map] at hg11)
        apply al_normT
        · (try dsimp only [zS, zN, zH, zT]); try exact rfl
        refine zsw rfl rfl rfl (op_move_tmp (by rfl)) (by dsimp only [zS, zN, zH, zT]) ?_
        refine zsw rfl rfl rfl (op_neI (by rfl) (by rfl)) (by dsimp only [zS, zN, zH, zT]) ?_
        refine zsw rfl rfl rfl (op_move_tmp (by rfl)) (by dsimp only [zS, zN, zH, zT]) ?_
        refine al_split 70 rfl (fun hg12 => ?_) (fun hg12 => ?_)
        ·
         (try simp only [y1, y2, y3, y4, y5, y6, y7, y8, y9, y0, List.length_map] at hg12)
         apply al_normT
         · (try dsimp only [zS, zN, zH, zT]); try exact rfl
         refine zuw rfl rfl rfl rfl (by dsimp only [zS, zN, zH, zT]) ?_
         refine zuw rfl rfl rfl rfl (by dsimp only [zS, zN, zH, zT]) ?_
         refine zuw rfl rfl rfl rfl (by dsimp only [zS, zN, zH, zT]) ?_
         refine zsw rfl rfl rfl (op_pick_tt (by rfl) (val_const (by rfl))) (by dsimp only [zS, zN, zH, zT]) ?_
         refine zst (op_pick_tt (by rfl) (val_tmp (by rfl))) rfl (by dsimp only [zS, zN, zH, zT]) ?_
         refine zst (op_assign_tmp (by rfl)) rfl (by dsimp only [zS, zN, zH, zT]) ?_
         refine al_end rfl ?_
         refine then_normal ?_
         refine aw_ret ?_
         refine retPost1 rfl rfl ?_
         first | exact rfl | (rw [hxy, cmp_refl]; rfl)
        ·
         (try simp only [y1, y2, y3, y4, y5, y6, y7, y8, y9, y0, List.length_map] at hg12)
         have he : e = 0 := by simpa using hg12
         have hxy := h2 he
         apply al_normT
         · (try dsimp only [zS, zN, zH, zT]); try exact rfl
         refine zsw rfl rfl rfl (op_ldV x Try.underlying26 (by rfl) Sz26 (by rfl) (by rw [setB_ne (by simp only [setB_nb, push_nb]; omega)]; exact push_ne (setB_at push_at)) (by first | exact VBl.v _ _ | exact VBl.z _)) (by dsimp only [zS, zN, zH, zT]) ?_
         refine zsw rfl rfl rfl (op_ldV y Try.underlying26 (by rfl) Sz26 (by rfl) (setB_at push_at) (by first | exact VBl.v _ _ | exact VBl.z _)) (by dsimp only [zS, zN, zH, zT]) ?_
         refine zsw rfl rfl rfl (op_callF Try.func15 (by rfl) (by rfl) (.tmp (by rfl) (.tmp (by rfl) .nil)) (vsame_ok _ x y sx sy)) (by dsimp only [zS, zN, zH, zT]) ?_
         refine zsw rfl rfl rfl (op_pick_ff (by rfl) (val_tmp (by rfl))) (by dsimp only [zS, zN, zH, zT]) ?_
         refine zst (op_pick_tt (by rfl) (val_tmp (by rfl))) rfl (by dsimp only [zS, zN, zH, zT]) ?_
         refine zst (op_assign_tmp (by rfl)) rfl (by dsimp only [zS, zN, zH, zT]) ?_
         refine al_end rfl ?_
         refine then_normal ?_
         refine aw_ret ?_
         refine retPost1 rfl rfl ?_
         first | exact rfl | (rw [hxy, cmp_refl]; rfl)
       ·
        (try simp only [y1, y2, y3, y4, y5, y6, y7, y8, y9, y0, List.length_map] at hg11)
        apply al_normT
        · (try dsimp only [zS, zN, zH, zT]); try exact rfl
        exact absurd (show (e == 0) = (f == 0) by rw [Bool.eq_iff_iff]; simp only [beq_iff_eq]; exact h1) hg11
end Go.Proofs.Ytjamnhofbkgblaa
