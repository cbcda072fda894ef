/- Part 5 of what the law needs: WPatchPaths. -/
import Derived.Test.YtjamnhofbkgblaaPP4
import Derived.KernelRfl
namespace Go.Proofs.Ytjamnhofbkgblaa
open Go.AV Go.AV.Ord Go.AV.Oct Go.AV.Val Go.AV.Patch
set_option linter.unusedVariables false
set_option linter.unusedSimpArgs false
set_option maxRecDepth 100000 in
theorem patchPaths_walk (Hs : HS) (a b : Int) : ACalls Try.prog 5 [.d (I a), .d (I b)] Hs (fun av _ => av = .d (TF true)) := by
 obtain ⟨n, hn, hnd⟩ := and31 a
 obtain ⟨q, hq, hqd⟩ := and31 b
 refine acalls_of_aw Try.func5 rfl ?_
 refine aw_start (T' := ((.d (I a)) :: (.d (I b)) :: .un :: .un :: .un :: .un :: .un :: .un :: .un :: .un :: .un :: .un :: .un :: .un :: .un :: .un :: .un :: .un :: .un :: .un :: .un :: .un :: .un :: .un :: .un :: .un :: .un :: .un :: .un :: .un :: .un :: .un :: .un :: .un :: .un :: .un :: .un :: .un :: .un :: .un :: .un :: .un :: .un :: .un :: .un :: .un :: .un :: .un :: .un :: .un :: .un :: .un :: .un :: .un :: .un :: .un :: .un :: .un :: .un :: .un :: .un :: .un :: .un :: .un :: .un :: .un :: .un :: .un :: .un :: .un :: .un :: .un :: .un :: .un :: .un :: .un :: .un :: .un :: .un :: .un :: .un :: .un :: .un :: .un :: .un :: .un :: .un :: .un :: .un :: .un :: .un :: .un :: .un :: .un :: [])) rfl ?_
 refine aw_seq ?_
 refine aw_region ?_
 refine zst (op_assign_const (by rfl)) rfl (by dsimp only [zS, zN, zH, zT]) ?_
 refine al_end rfl ?_
 refine then_normal ?_
 refine aw_seq ?_
 refine aw_seq ?_
 refine aw_region ?_
 refine zst (op_callF Try.func9 (by rfl) (by rfl) .nil (phead_ok _)) rfl (by dsimp only [zS, zN, zH, zT]) ?_
 refine zst (op_not (by rfl)) rfl (by dsimp only [zS, zN, zH, zT]) ?_
 refine al_end rfl ?_
 refine then_normal ?_
 refine aw_cond rfl (fun hc1 => ?_) (fun hc1 => ?_)
 ·
  (try simp only [y1, y2, y3, y4, y5, y6, y7, y8, y9, y0, List.length_map] at hc1)
  exact absurd hc1 (by decide)
 ·
  (try simp only [y1, y2, y3, y4, y5, y6, y7, y8, y9, y0, List.length_map] at hc1)
  refine aw_skip ?_
  refine then_normal ?_
  refine aw_seq ?_
  refine aw_region ?_
  refine zst (op_move_tmp (by rfl)) rfl (by dsimp only [zS, zN, zH, zT]) ?_
  refine zst (op_and (by rfl) (by rfl) hnd) rfl (by dsimp only [zS, zN, zH, zT]) ?_
  refine zst (op_add (by rfl) (by rfl) (show IntKind.i64.wrap (1 + (n : Int)) = ((n + 1 : Nat) : Int) by rw [wrap_i64 ⟨by omega, by omega⟩]; omega)) rfl (by dsimp only [zS, zN, zH, zT]) ?_
  refine zst (op_assign_tmp (by rfl)) rfl (by dsimp only [zS, zN, zH, zT]) ?_
  refine al_end rfl ?_
  refine then_normal ?_
  refine aw_seq ?_
  refine aw_region ?_
  refine zst (op_move_tmp (by rfl)) rfl (by dsimp only [zS, zN, zH, zT]) ?_
  refine zst (op_and (by rfl) (by rfl) hqd) rfl (by dsimp only [zS, zN, zH, zT]) ?_
  refine zst (op_assign_tmp (by rfl)) rfl (by dsimp only [zS, zN, zH, zT]) ?_
  refine al_end rfl ?_
  refine then_normal ?_
  refine aw_seq ?_
  refine aw_region ?_
  refine zst (op_callF Try.func18 (by rfl) (by rfl) (.const (by rfl) .nil) (ofMap_ok _ nilS [] (LL.nil _) (by decide))) rfl (by dsimp only [zS, zN, zH, zT]) ?_
  refine zst (op_alloc (Zr26) (by rfl)) rfl (by dsimp only [zS, zN, zH, zT]) ?_
  refine zst (op_stV (M (nestF 0)) Sz26 (by rfl) push_at (by first | exact VBl.z _ | exact VBl.v _ _) (by rfl)) rfl (by dsimp only [zS, zN, zH, zT]) ?_
  refine al_end rfl ?_
  refine then_normal ?_
  apply aw_cutF (fun T H => ∃ (d : Nat), T = ((.d (I ((n + 1 : Nat) : Int))) :: (.d (I (q : Nat))) :: .un :: .un :: .un :: (.ptr Hs.nb 0) :: .un :: .un :: .un :: .un :: .un :: .un :: .un :: .un :: .un :: .un :: .un :: .un :: .un :: .un :: .un :: .un :: .un :: .un :: .un :: .un :: .un :: .un :: .un :: .un :: .un :: .un :: .un :: .un :: .un :: .un :: .un :: .un :: .un :: .un :: .un :: .un :: .un :: .un :: .un :: .un :: .un :: .un :: .un :: .un :: .un :: .un :: .un :: .un :: .un :: .un :: .un :: .un :: .un :: .un :: .un :: .un :: .un :: .un :: .un :: .un :: .un :: .un :: .un :: .un :: .un :: .un :: .un :: .un :: .un :: .un :: .un :: .un :: .un :: .un :: .un :: .un :: .un :: .un :: .un :: .un :: .un :: .un :: .un :: .un :: .un :: .un :: .un :: .un :: []) ∧ d = min q 30 ∧ H.blks[Hs.nb]? = some (vB 26 (M (nestF d))) ∧ Ext Hs H)
  ·
   refine aw_seq ?_
   refine aw_region ?_
   refine zst (op_assign_const (by rfl)) rfl (by dsimp only [zS, zN, zH, zT]) ?_
   refine al_end rfl ?_
   refine then_normal ?_
   refine aw_block ?_
   apply aw_loopF (fun m T H => ∃ (i : Nat), T = ((.d (I ((n + 1 : Nat) : Int))) :: (.d (I (q : Nat))) :: .un :: .un :: .un :: (.ptr Hs.nb 0) :: (.d (I i)) :: .un :: .un :: .un :: .un :: .un :: .un :: .un :: .un :: .un :: .un :: .un :: .un :: .un :: .un :: .un :: .un :: .un :: .un :: .un :: .un :: .un :: .un :: .un :: .un :: .un :: .un :: .un :: .un :: .un :: .un :: .un :: .un :: .un :: .un :: .un :: .un :: .un :: .un :: .un :: .un :: .un :: .un :: .un :: .un :: .un :: .un :: .un :: .un :: .un :: .un :: .un :: .un :: .un :: .un :: .un :: .un :: .un :: .un :: .un :: .un :: .un :: .un :: .un :: .un :: .un :: .un :: .un :: .un :: .un :: .un :: .un :: .un :: .un :: .un :: .un :: .un :: .un :: .un :: .un :: .un :: .un :: .un :: .un :: .un :: .un :: .un :: .un :: []) ∧ i ≤ min q 30 ∧ m = q - i ∧ H.blks[Hs.nb]? = some (vB 26 (M (nestF i))) ∧ Ext Hs H) (q) (true :: true :: false :: false :: false :: true :: true :: false :: false :: false :: false :: false :: false :: false :: false :: false :: false :: false :: false :: false :: false :: false :: false :: false :: false :: false :: false :: false :: false :: false :: false :: false :: false :: false :: false :: false :: false :: false :: false :: false :: false :: false :: false :: false :: false :: false :: false :: false :: false :: false :: false :: false :: false :: false :: false :: false :: false :: false :: false :: false :: false :: false :: false :: false :: false :: false :: false :: false :: false :: false :: false :: false :: false :: false :: false :: false :: false :: false :: false :: false :: false :: false :: false :: false :: false :: false :: false :: false :: false :: false :: false :: false :: false :: false :: [])
   · (try dsimp only [maskT]); try exact rfl
   · rfl
   · exact ⟨0, rfl, by omega, rfl, setB_at push_at, ((Ext.refl Hs).push _ _).setB (Nat.le_refl _)⟩
   rintro m T H ⟨i, rfl, hi, rfl, hb, hx⟩
   refine aw_seq ?_
   refine aw_seq ?_
   refine aw_region ?_
   refine zst (op_move_tmp (by rfl)) rfl (by dsimp only [zS, zN, zH, zT]) ?_
   refine zst (op_move_tmp (by rfl)) rfl (by dsimp only [zS, zN, zH, zT]) ?_
   refine zst (op_ltI (by rfl) (by rfl)) rfl (by dsimp only [zS, zN, zH, zT]) ?_
   refine zst (op_move_tmp (by rfl)) rfl (by dsimp only [zS, zN, zH, zT]) ?_
   refine al_split 25 rfl (fun hg2 => ?_) (fun hg2 => ?_)
   ·
    (try simp only [y1, y2, y3, y4, y5, y6, y7, y8, y9, y0, List.length_map] at hg2)
    have hiq : i < q := by have h : (i : Int) < (q : Int) := hg2; omega
    apply al_normT
    · (try dsimp only [zS, zN, zH, zT]); try exact rfl
    refine zsw rfl rfl rfl (op_move_tmp (by rfl)) (by dsimp only [zS, zN, zH, zT]) ?_
    refine zsw rfl rfl rfl (op_ltI (by rfl) (by rfl)) (by dsimp only [zS, zN, zH, zT]) ?_
    refine zst (op_pick_tt (by rfl) (val_tmp (by rfl))) rfl (by dsimp only [zS, zN, zH, zT]) ?_
    refine al_end rfl ?_
    refine then_normal ?_
    refine aw_cond rfl (fun hc3 => ?_) (fun hc3 => ?_)
    ·
     (try simp only [y1, y2, y3, y4, y5, y6, y7, y8, y9, y0, List.length_map] at hc3)
     have hi30 : i < 30 := by omega
     refine aw_skip ?_
     refine then_normal ?_
     refine aw_seq ?_
     refine aw_block ?_
     refine aw_region ?_
     refine zst (op_ldV (M (nestF i)) Try.underlying26 (by rfl) Sz26 (by rfl) hb (by first | exact VBl.v _ _ | exact VBl.z _)) rfl (by dsimp only [zS, zN, zH, zT]) ?_
     refine zst (op_buildD (pl := [(0, 1), (1, 6)]) (fC (F.mk [97] (M (nestF i)))) Try.underlying48 Zr48 (by kernel_rfl) (by rfl) (by rfl) (fill_field [97] (M (nestF i))) (fC_one _)) rfl (by dsimp only [zS, zN, zH, zT]) ?_
     refine zst (op_lit Try.underlying24 ZS48 (.cons (y := fD (F.mk [97] (M (nestF i)))) (by rfl) (.nil _)) (by rfl) (lit_f _) (lit_f1 _) (by decide)) rfl (by dsimp only [zS, zN, zH, zT]) ?_
     refine zst (op_callF Try.func18 (by rfl) (by rfl) (.tmp (by rfl) .nil) ((by have h := ofMap_ok H (.own none 7 [fD (.mk [97] (M (nestF i)))]) [.mk [97] (M (nestF i))] (LL.own _ _ _) (by simp); exact h))) rfl (by dsimp only [zS, zN, zH, zT]) ?_
     refine zst (op_stV (M (nestF (i + 1))) Sz26 (by rfl) hb (by first | exact VBl.z _ | exact VBl.v _ _) (by rfl)) rfl (by dsimp only [zS, zN, zH, zT]) ?_
     refine al_end rfl ?_
     refine inBlock_normal (then_normal ?_)
     refine aw_region ?_
     refine zst (op_move_tmp (by rfl)) rfl (by dsimp only [zS, zN, zH, zT]) ?_
     refine zst (by first | exact op_add (by rfl) (by rfl) (wrap_i64 ⟨by omega, by omega⟩) | exact op_add (by rfl) (by rfl) (by rfl)) rfl (by dsimp only [zS, zN, zH, zT]) ?_
     refine zst (op_assign_tmp (by rfl)) rfl (by dsimp only [zS, zN, zH, zT]) ?_
     refine al_end rfl ?_
     apply again_to (q - (i + 1)) (true :: true :: false :: false :: false :: true :: true :: false :: false :: false :: false :: false :: false :: false :: false :: false :: false :: false :: false :: false :: false :: false :: false :: false :: false :: false :: false :: false :: false :: false :: false :: false :: false :: false :: false :: false :: false :: false :: false :: false :: false :: false :: false :: false :: false :: false :: false :: false :: false :: false :: false :: false :: false :: false :: false :: false :: false :: false :: false :: false :: false :: false :: false :: false :: false :: false :: false :: false :: false :: false :: false :: false :: false :: false :: false :: false :: false :: false :: false :: false :: false :: false :: false :: false :: false :: false :: false :: false :: false :: false :: false :: false :: false :: false :: [])
     · (try dsimp only [maskT]); try exact rfl
     · rfl
     · omega
     exact ⟨i + 1, rfl, by omega, rfl, setB_at hb, hx.setB (Nat.le_refl _)⟩
    ·
     (try simp only [y1, y2, y3, y4, y5, y6, y7, y8, y9, y0, List.length_map] at hc3)
     refine aw_exit ?_
     refine then_exit (again_exit (inBlock_here ?_))
     apply cut_to (true :: true :: false :: false :: false :: true :: false :: false :: false :: false :: false :: false :: false :: false :: false :: false :: false :: false :: false :: false :: false :: false :: false :: false :: false :: false :: false :: false :: false :: false :: false :: false :: false :: false :: false :: false :: false :: false :: false :: false :: false :: false :: false :: false :: false :: false :: false :: false :: false :: false :: false :: false :: false :: false :: false :: false :: false :: false :: false :: false :: false :: false :: false :: false :: false :: false :: false :: false :: false :: false :: false :: false :: false :: false :: false :: false :: false :: false :: false :: false :: false :: false :: false :: false :: false :: false :: false :: false :: false :: false :: false :: false :: false :: false :: [])
     · (try dsimp only [maskT]); try exact rfl
     · rfl
     exact ⟨i, rfl, by omega, hb, hx⟩
   ·
    (try simp only [y1, y2, y3, y4, y5, y6, y7, y8, y9, y0, List.length_map] at hg2)
    have hiq : ¬ i < q := by have h : ¬ (i : Int) < (q : Int) := hg2; omega
    apply al_normT
    · (try dsimp only [zS, zN, zH, zT]); try exact rfl
    refine zuw rfl rfl rfl rfl (by dsimp only [zS, zN, zH, zT]) ?_
    refine zuw rfl rfl rfl rfl (by dsimp only [zS, zN, zH, zT]) ?_
    refine zst (op_pick_ff (by rfl) (val_const (by rfl))) rfl (by dsimp only [zS, zN, zH, zT]) ?_
    refine al_end rfl ?_
    refine then_normal ?_
    refine aw_cond rfl (fun h => by cases h) (fun _ => ?_)
    refine aw_exit ?_
    refine then_exit (again_exit (inBlock_here ?_))
    apply cut_to (true :: true :: false :: false :: false :: true :: false :: false :: false :: false :: false :: false :: false :: false :: false :: false :: false :: false :: false :: false :: false :: false :: false :: false :: false :: false :: false :: false :: false :: false :: false :: false :: false :: false :: false :: false :: false :: false :: false :: false :: false :: false :: false :: false :: false :: false :: false :: false :: false :: false :: false :: false :: false :: false :: false :: false :: false :: false :: false :: false :: false :: false :: false :: false :: false :: false :: false :: false :: false :: false :: false :: false :: false :: false :: false :: false :: false :: false :: false :: false :: false :: false :: false :: false :: false :: false :: false :: false :: false :: false :: false :: false :: false :: false :: [])
    · (try dsimp only [maskT]); try exact rfl
    · rfl
    exact ⟨i, rfl, by omega, hb, hx⟩
  rintro T H ⟨d, rfl, hdq, hb, hx⟩
  refine aw_seq ?_
  refine aw_region ?_
  refine zst (op_lit Try.underlying34 ZS9 (.nil _) (by rfl) (by simp) (by simp [flat]) (by decide)) rfl (by dsimp only [zS, zN, zH, zT]) ?_
  refine zst (op_assign_tmp (by rfl)) rfl (by dsimp only [zS, zN, zH, zT]) ?_
  refine al_end rfl ?_
  refine then_normal ?_
  refine aw_seq ?_
  refine aw_seq ?_
  refine aw_region ?_
  refine zst (op_assign_const (by rfl)) rfl (by dsimp only [zS, zN, zH, zT]) ?_
  refine al_end rfl ?_
  refine then_normal ?_
  refine aw_block ?_
  apply aw_loopF (fun m T H => ∃ (i : Nat) (w : AV) (t : Option Nat), T = ((.d (I ((n + 1 : Nat) : Int))) :: (.d (I (q : Nat))) :: .un :: .un :: .un :: (.ptr Hs.nb 0) :: .un :: w :: (.d (I i)) :: .un :: .un :: .un :: .un :: .un :: .un :: .un :: .un :: .un :: .un :: .un :: .un :: .un :: .un :: .un :: .un :: .un :: .un :: .un :: .un :: .un :: .un :: .un :: .un :: .un :: .un :: .un :: .un :: .un :: .un :: .un :: .un :: .un :: .un :: .un :: .un :: .un :: .un :: .un :: .un :: .un :: .un :: .un :: .un :: .un :: .un :: .un :: .un :: .un :: .un :: .un :: .un :: .un :: .un :: .un :: .un :: .un :: .un :: .un :: .un :: .un :: .un :: .un :: .un :: .un :: .un :: .un :: .un :: .un :: .un :: .un :: .un :: .un :: .un :: .un :: .un :: .un :: .un :: .un :: .un :: .un :: .un :: .un :: .un :: .un :: []) ∧ i ≤ n ∧ m = n - i ∧ GL Hs H w t 1 ((List.replicate i [97]).map S) ∧ H.blks[Hs.nb]? = some (vB 26 (M (nestF d))) ∧ Ext Hs H) (n) (true :: true :: false :: false :: false :: true :: false :: true :: true :: false :: false :: false :: false :: false :: false :: false :: false :: false :: false :: false :: false :: false :: false :: false :: false :: false :: false :: false :: false :: false :: false :: false :: false :: false :: false :: false :: false :: false :: false :: false :: false :: false :: false :: false :: false :: false :: false :: false :: false :: false :: false :: false :: false :: false :: false :: false :: false :: false :: false :: false :: false :: false :: false :: false :: false :: false :: false :: false :: false :: false :: false :: false :: false :: false :: false :: false :: false :: false :: false :: false :: false :: false :: false :: false :: false :: false :: false :: false :: false :: false :: false :: false :: false :: false :: [])
  · (try dsimp only [maskT]); try exact rfl
  · rfl
  · exact ⟨0, _, none, rfl, by omega, rfl, ⟨App.own none 1 [], HS.ok_none _ _, NewTok.none _⟩, hb, hx⟩
  rintro m T H ⟨i, w, t, rfl, hi, rfl, hg, hb, hx⟩
  refine aw_seq ?_
  refine aw_seq ?_
  refine aw_region ?_
  refine zst (op_move_tmp (by rfl)) rfl (by dsimp only [zS, zN, zH, zT]) ?_
  refine zst (op_move_tmp (by rfl)) rfl (by dsimp only [zS, zN, zH, zT]) ?_
  refine zst (op_sub (by rfl) (by rfl) (show IntKind.i64.wrap (((n + 1 : Nat) : Int) - 1) = (n : Int) by rw [wrap_i64 ⟨by omega, by omega⟩]; omega)) rfl (by dsimp only [zS, zN, zH, zT]) ?_
  refine zst (op_ltI (by rfl) (by rfl)) rfl (by dsimp only [zS, zN, zH, zT]) ?_
  refine al_end rfl ?_
  refine then_normal ?_
  refine aw_cond rfl (fun hc5 => ?_) (fun hc5 => ?_)
  ·
   (try simp only [y1, y2, y3, y4, y5, y6, y7, y8, y9, y0, List.length_map] at hc5)
   have hin : i < n := by omega
   refine aw_skip ?_
   refine then_normal ?_
   refine aw_seq ?_
   refine aw_block ?_
   refine aw_region ?_
   refine zst (op_move_tmp (by rfl)) rfl (by dsimp only [zS, zN, zH, zT]) ?_
   refine zst (op_lit Try.underlying34 ZS9 (.cons (y := S [97]) (by rfl) (.nil _)) (by rfl) (by simp [S, DV.cells]) (by simp [flat, S, DV.cells, DV.one]) (by decide)) rfl (by dsimp only [zS, zN, zH, zT]) ?_
   refine zst (op_append Try.underlying34 Inf9 (by rfl) hg.app (.list _ _ _ _ Try.underlying34 (LL.own _ _ _)) hg.ok (by simp) (by simp; omega) (by simp; omega)) rfl (by dsimp only [zS, zN, zH, zT]) ?_
   refine zst (op_assign_tmp (by rfl)) rfl (by dsimp only [zS, zN, zH, zT]) ?_
   refine al_end rfl ?_
   refine inBlock_normal (then_normal ?_)
   refine aw_region ?_
   refine zst (op_move_tmp (by rfl)) rfl (by dsimp only [zS, zN, zH, zT]) ?_
   refine zst (by first | exact op_add (by rfl) (by rfl) (wrap_i64 ⟨by omega, by omega⟩) | exact op_add (by rfl) (by rfl) (by rfl)) rfl (by dsimp only [zS, zN, zH, zT]) ?_
   refine zst (op_assign_tmp (by rfl)) rfl (by dsimp only [zS, zN, zH, zT]) ?_
   refine al_end rfl ?_
   apply again_to (n - (i + 1)) (true :: true :: false :: false :: false :: true :: false :: true :: true :: false :: false :: false :: false :: false :: false :: false :: false :: false :: false :: false :: false :: false :: false :: false :: false :: false :: false :: false :: false :: false :: false :: false :: false :: false :: false :: false :: false :: false :: false :: false :: false :: false :: false :: false :: false :: false :: false :: false :: false :: false :: false :: false :: false :: false :: false :: false :: false :: false :: false :: false :: false :: false :: false :: false :: false :: false :: false :: false :: false :: false :: false :: false :: false :: false :: false :: false :: false :: false :: false :: false :: false :: false :: false :: false :: false :: false :: false :: false :: false :: false :: false :: false :: false :: false :: [])
   · (try dsimp only [maskT]); try exact rfl
   · rfl
   · omega
   exact ⟨i + 1, _, _, rfl, by omega, rfl, hg.step (.inl hx) (by simp) (by rw [List.replicate_succ', List.map_append]; rfl), by rw [HS.up_blks]; exact hb, (hx.upN hg.new hg.ok).1⟩
  ·
   (try simp only [y1, y2, y3, y4, y5, y6, y7, y8, y9, y0, List.length_map] at hc5)
   have hin : n = i := by omega
   subst hin
   refine aw_exit ?_
   refine then_exit (again_exit (inBlock_here (then_normal ?_)))
   refine aw_seq ?_
   refine aw_region ?_
   refine zst (op_move_tmp (by rfl)) rfl (by dsimp only [zS, zN, zH, zT]) ?_
   refine zst (op_lit Try.underlying34 ZS9 (.cons (y := S [98]) (by rfl) (.nil _)) (by rfl) (by simp [S, DV.cells]) (by simp [flat, S, DV.cells, DV.one]) (by decide)) rfl (by dsimp only [zS, zN, zH, zT]) ?_
   refine zst (op_append Try.underlying34 Inf9 (by rfl) hg.app (.list _ _ _ _ Try.underlying34 (LL.own _ _ _)) hg.ok (by simp) (by simp; omega) (by simp; omega)) rfl (by dsimp only [zS, zN, zH, zT]) ?_
   refine zst (op_assign_tmp (by rfl)) rfl (by dsimp only [zS, zN, zH, zT]) ?_
   refine al_end rfl ?_
   refine then_normal ?_
   apply aw_cutF (fun T H => ∃ (x : V) (e : Int) (q9 : Nat), T = ((.d (I ((n + 1 : Nat) : Int))) :: (.d (I (q : Nat))) :: .un :: .un :: .un :: .un :: .un :: .un :: .un :: (.ptr q9 0) :: (.d (I e)) :: .un :: .un :: .un :: .un :: .un :: .un :: .un :: .un :: .un :: .un :: .un :: .un :: .un :: .un :: .un :: .un :: .un :: .un :: .un :: .un :: .un :: .un :: .un :: .un :: .un :: .un :: .un :: .un :: .un :: .un :: .un :: .un :: .un :: .un :: .un :: .un :: .un :: .un :: .un :: .un :: .un :: .un :: .un :: .un :: .un :: .un :: .un :: .un :: .un :: .un :: .un :: .un :: .un :: .un :: .un :: .un :: .un :: .un :: .un :: .un :: .un :: .un :: .un :: .un :: .un :: .un :: .un :: .un :: .un :: .un :: .un :: .un :: .un :: .un :: .un :: .un :: .un :: .un :: .un :: .un :: .un :: .un :: .un :: []) ∧ H.blks[q9]? = some (vB 26 x) ∧ (16 < n + 1 → e = 1) ∧ (n + 1 ≤ 16 → ¬ n ≤ d → e = 5) ∧ (n + 1 ≤ 16 → n ≤ d → x = resN n d ∧ e = 0))
   ·
    obtain ⟨x, e, hA, l1, l2, l3⟩ := paths_law n d (by omega)
    refine aw_drawX (fun K => K.blks[Hs.nb]? = some (vB 26 (M (nestF d)))) [0, 0, 0, 0, 0, 0, 0, 0, 0, 2, 2, 0] mixed (by kernel_rfl) ((by rw [HS.up_blks]; exact hb)) (.inr (by kernel_rfl)) ?_
    apply drun0X
    · intro H hPhi; exact op_ldV (M (nestF d)) Try.underlying26 (by rfl) Sz26 (by rfl) hPhi (by first | exact VBl.v _ _ | exact VBl.z _)
    · rfl
    apply drun_normT
    · (try dsimp only [zS, zN, zH, zT]); try exact rfl
    apply drun0X
    · intro H hPhi; exact op_move_tmp (by rfl)
    · rfl
    apply drun_normT
    · (try dsimp only [zS, zN, zH, zT]); try exact rfl
    apply drun0X
    · intro H hPhi; exact op_callF Try.func14 (by rfl) (by rfl) (.const (by rfl) .nil) (ofInt_ok _ 1)
    · rfl
    apply drun_normT
    · (try dsimp only [zS, zN, zH, zT]); try exact rfl
    apply drun0X
    · intro H hPhi; exact op_buildO (Opn.mk 1 (pathN n) (ofInt 1)) _ Try.underlying36 Zr36 (by kernel_rfl) (by rfl) (by rfl) (by rfl) (by rfl) (by rw [pathN, List.map_append]; exact LL.own _ _ _)
    · rfl
    apply drun_normT
    · (try dsimp only [zS, zN, zH, zT]); try exact rfl
    apply drun0X
    · intro H hPhi; exact op_lit Try.underlying37 ZS36 (.cons (y := oD (Opn.mk 1 (pathN n) (ofInt 1))) (by rfl) (.nil _)) (by rfl) (lit_o [(Opn.mk 1 (pathN n) (ofInt 1))]) (lit_o1 [(Opn.mk 1 (pathN n) (ofInt 1))]) (by decide)
    · rfl
    apply drun_normT
    · (try dsimp only [zS, zN, zH, zT]); try exact rfl
    apply drun0X
    · intro H hPhi; exact op_callF Try.func12 (by rfl) (by rfl) (.tmp (by rfl) (.tmp (by rfl) .nil)) (papply_at (l := [(Opn.mk 1 (pathN n) (ofInt 1))]) (m := 1) hA (by decide) (LL.own _ _ _) (by simp) (bnd_nest d) (by intro o ho; simp at ho; subst ho; exact BndV.int _))
    · rfl
    apply drun_normT
    · (try dsimp only [zS, zN, zH, zT]); try exact rfl
    apply drun0X
    · intro H hPhi; exact op_move_tmp (by rfl)
    · rfl
    apply drun_normT
    · (try dsimp only [zS, zN, zH, zT]); try exact rfl
    apply drun0X
    · intro H hPhi; exact op_extract (by rfl) (by rfl)
    · rfl
    apply drun_normT
    · (try dsimp only [zS, zN, zH, zT]); try exact rfl
    apply drun0X
    · intro H hPhi; exact op_extract (by rfl) (by rfl)
    · rfl
    apply drun_normT
    · (try dsimp only [zS, zN, zH, zT]); try exact rfl
    apply drun2X
    · exact op_alloc (Zr26) (by rfl)
    · rfl
    · refine .inr ?_; first | exact push_ne (by rw [HS.up_blks]; exact hb) | (rw [setB_ne (by have := lt_nb hb; simp only [HS.nb, HS.up_blks] at this ⊢; omega)]; exact push_ne (by rw [HS.up_blks]; exact hb))
    apply drun_normT
    · (try dsimp only [zS, zN, zH, zT]); try exact rfl
    apply drun2X
    · exact op_stV x Sz26 (by rfl) push_at (by first | exact VBl.z _ | exact VBl.v _ _) (by rfl)
    · rfl
    · refine .inr ?_; first | exact push_ne (by rw [HS.up_blks]; exact hb) | (rw [setB_ne (by have := lt_nb hb; simp only [HS.nb, HS.up_blks] at this ⊢; omega)]; exact push_ne (by rw [HS.up_blks]; exact hb))
    apply drun_normT
    · (try dsimp only [zS, zN, zH, zT]); try exact rfl
    apply drun0X
    · intro H hPhi; exact op_assign_tmp (by rfl)
    · rfl
    apply drun_normT
    · (try dsimp only [zS, zN, zH, zT]); try exact rfl
    refine drun_end rfl ?_
    apply cut_to (true :: true :: false :: false :: false :: false :: false :: false :: false :: true :: true :: false :: false :: false :: false :: false :: false :: false :: false :: false :: false :: false :: false :: false :: false :: false :: false :: false :: false :: false :: false :: false :: false :: false :: false :: false :: false :: false :: false :: false :: false :: false :: false :: false :: false :: false :: false :: false :: false :: false :: false :: false :: false :: false :: false :: false :: false :: false :: false :: false :: false :: false :: false :: false :: false :: false :: false :: false :: false :: false :: false :: false :: false :: false :: false :: false :: false :: false :: false :: false :: false :: false :: false :: false :: false :: false :: false :: false :: false :: false :: false :: false :: false :: false :: [])
    · (try dsimp only [maskT]); try exact rfl
    · rfl
    exact ⟨_, _, _, rfl, setB_at push_at, l1, l2, l3⟩
   rintro T H ⟨x, e, q9, rfl, hb9, l1, l2, l3⟩
   refine aw_seq ?_
   refine aw_seq ?_
   refine aw_region ?_
   refine zst (op_move_tmp (by rfl)) rfl (by dsimp only [zS, zN, zH, zT]) ?_
   refine zst (op_gtI (by rfl) (by rfl)) rfl (by dsimp only [zS, zN, zH, zT]) ?_
   refine al_end rfl ?_
   refine then_normal ?_
   refine aw_cond rfl (fun hc6 => ?_) (fun hc6 => ?_)
   ·
    (try simp only [y1, y2, y3, y4, y5, y6, y7, y8, y9, y0, List.length_map] at hc6)
    have he := l1 (by omega)
    subst he
    refine aw_seq ?_
    refine aw_region ?_
    refine zst (op_move_tmp (by rfl)) rfl (by dsimp only [zS, zN, zH, zT]) ?_
    refine zst (op_eqI (by rfl) (by rfl)) rfl (by dsimp only [zS, zN, zH, zT]) ?_
    refine zst (op_assign_tmp (by rfl)) rfl (by dsimp only [zS, zN, zH, zT]) ?_
    refine al_end rfl ?_
    refine then_normal ?_
    refine aw_ret ?_
    refine then_ret ?_
    refine retPost1 rfl rfl ?_
    first | exact rfl | (simp [TF]; done)
   ·
    (try simp only [y1, y2, y3, y4, y5, y6, y7, y8, y9, y0, List.length_map] at hc6)
    have h16 : n + 1 ≤ 16 := by omega
    refine aw_skip ?_
    refine then_normal ?_
    refine aw_seq ?_
    refine aw_seq ?_
    refine aw_region ?_
    refine zst (op_move_tmp (by rfl)) rfl (by dsimp only [zS, zN, zH, zT]) ?_
    refine zst (op_sub (by rfl) (by rfl) (show IntKind.i64.wrap (((n + 1 : Nat) : Int) - 1) = (n : Int) by rw [wrap_i64 ⟨by omega, by omega⟩]; omega)) rfl (by dsimp only [zS, zN, zH, zT]) ?_
    refine zst (op_move_tmp (by rfl)) rfl (by dsimp only [zS, zN, zH, zT]) ?_
    refine zst (op_min (by rfl) (by rfl)) rfl (by dsimp only [zS, zN, zH, zT]) ?_
    refine zst (op_gtI (by rfl) (by rfl)) rfl (by dsimp only [zS, zN, zH, zT]) ?_
    refine al_end rfl ?_
    refine then_normal ?_
    refine aw_cond rfl (fun hc7 => ?_) (fun hc7 => ?_)
    ·
     (try simp only [y1, y2, y3, y4, y5, y6, y7, y8, y9, y0, List.length_map] at hc7)
     have hnd2 : ¬ n ≤ d := by omega
     have he := l2 h16 hnd2
     subst he
     refine aw_seq ?_
     refine aw_region ?_
     refine zst (op_move_tmp (by rfl)) rfl (by dsimp only [zS, zN, zH, zT]) ?_
     refine zst (op_eqI (by rfl) (by rfl)) rfl (by dsimp only [zS, zN, zH, zT]) ?_
     refine zst (op_assign_tmp (by rfl)) rfl (by dsimp only [zS, zN, zH, zT]) ?_
     refine al_end rfl ?_
     refine then_normal ?_
     refine aw_ret ?_
     refine then_ret ?_
     refine retPost1 rfl rfl ?_
     first | exact rfl | (simp [TF]; done)
    ·
     (try simp only [y1, y2, y3, y4, y5, y6, y7, y8, y9, y0, List.length_map] at hc7)
     have hnd2 : n ≤ d := by omega
     obtain ⟨rfl, rfl⟩ := l3 h16 hnd2
     refine aw_skip ?_
     refine then_normal ?_
     refine aw_seq ?_
     refine aw_seq ?_
     refine aw_region ?_
     refine zst (op_assign_const (by rfl)) rfl (by dsimp only [zS, zN, zH, zT]) ?_
     refine al_end rfl ?_
     refine then_normal ?_
     refine aw_block ?_
     apply aw_loopF (fun m T H => ∃ (i : Nat), T = ((.d (I ((n + 1 : Nat) : Int))) :: .un :: .un :: .un :: .un :: .un :: .un :: .un :: .un :: (.ptr q9 0) :: (.d (I 0)) :: (.d (I i)) :: .un :: .un :: .un :: .un :: .un :: .un :: .un :: .un :: .un :: .un :: .un :: .un :: .un :: .un :: .un :: .un :: .un :: .un :: .un :: .un :: .un :: .un :: .un :: .un :: .un :: .un :: .un :: .un :: .un :: .un :: .un :: .un :: .un :: .un :: .un :: .un :: .un :: .un :: .un :: .un :: .un :: .un :: .un :: .un :: .un :: .un :: .un :: .un :: .un :: .un :: .un :: .un :: .un :: .un :: .un :: .un :: .un :: .un :: .un :: .un :: .un :: .un :: .un :: .un :: .un :: .un :: .un :: .un :: .un :: .un :: .un :: .un :: .un :: .un :: .un :: .un :: .un :: .un :: .un :: .un :: .un :: .un :: []) ∧ i ≤ n ∧ m = n - i ∧ H.blks[q9]? = some (vB 26 (resN (n - i) (d - i)))) (n) (true :: false :: false :: false :: false :: false :: false :: false :: false :: true :: true :: true :: false :: false :: false :: false :: false :: false :: false :: false :: false :: false :: false :: false :: false :: false :: false :: false :: false :: false :: false :: false :: false :: false :: false :: false :: false :: false :: false :: false :: false :: false :: false :: false :: false :: false :: false :: false :: false :: false :: false :: false :: false :: false :: false :: false :: false :: false :: false :: false :: false :: false :: false :: false :: false :: false :: false :: false :: false :: false :: false :: false :: false :: false :: false :: false :: false :: false :: false :: false :: false :: false :: false :: false :: false :: false :: false :: false :: false :: false :: false :: false :: false :: false :: [])
     · (try dsimp only [maskT]); try exact rfl
     · rfl
     · exact ⟨0, rfl, by omega, rfl, hb9⟩
     rintro m T H ⟨i, rfl, hi, rfl, hb9⟩
     refine aw_seq ?_
     refine aw_seq ?_
     refine aw_region ?_
     refine zst (op_move_tmp (by rfl)) rfl (by dsimp only [zS, zN, zH, zT]) ?_
     refine zst (op_move_tmp (by rfl)) rfl (by dsimp only [zS, zN, zH, zT]) ?_
     refine zst (op_sub (by rfl) (by rfl) (show IntKind.i64.wrap (((n + 1 : Nat) : Int) - 1) = (n : Int) by rw [wrap_i64 ⟨by omega, by omega⟩]; omega)) rfl (by dsimp only [zS, zN, zH, zT]) ?_
     refine zst (op_ltI (by rfl) (by rfl)) rfl (by dsimp only [zS, zN, zH, zT]) ?_
     refine al_end rfl ?_
     refine then_normal ?_
     refine aw_cond rfl (fun hc8 => ?_) (fun hc8 => ?_)
     ·
      (try simp only [y1, y2, y3, y4, y5, y6, y7, y8, y9, y0, List.length_map] at hc8)
      have hin : i < n := by omega
      have hget : getV (resN (n - i) (d - i)) [97] = (resN (n - (i + 1)) (d - (i + 1)), true) := by have h := get_res (n - (i + 1)) (d - (i + 1)); rwa [show n - (i + 1) + 1 = n - i by omega, show d - (i + 1) + 1 = d - i by omega] at h
      refine aw_skip ?_
      refine then_normal ?_
      refine aw_seq ?_
      refine aw_block ?_
      refine aw_region ?_
      refine zst (op_ldV (resN (n - i) (d - i)) Try.underlying26 (by rfl) Sz26 (by rfl) hb9 (by first | exact VBl.v _ _ | exact VBl.z _)) rfl (by dsimp only [zS, zN, zH, zT]) ?_
      refine zst (op_callF Try.func13 (by rfl) (by rfl) (.tmp (by rfl) (.const (by rfl) .nil)) (get_at hget (bres _ _))) rfl (by dsimp only [zS, zN, zH, zT]) ?_
      refine zst (op_move_tmp (by rfl)) rfl (by dsimp only [zS, zN, zH, zT]) ?_
      refine zst (op_extract (by rfl) (by rfl)) rfl (by dsimp only [zS, zN, zH, zT]) ?_
      refine zst (op_extract (by rfl) (by rfl)) rfl (by dsimp only [zS, zN, zH, zT]) ?_
      refine zst (op_stV (resN (n - (i + 1)) (d - (i + 1))) Sz26 (by rfl) hb9 (by first | exact VBl.z _ | exact VBl.v _ _) (by rfl)) rfl (by dsimp only [zS, zN, zH, zT]) ?_
      refine al_end rfl ?_
      refine inBlock_normal (then_normal ?_)
      refine aw_region ?_
      refine zst (op_move_tmp (by rfl)) rfl (by dsimp only [zS, zN, zH, zT]) ?_
      refine zst (by first | exact op_add (by rfl) (by rfl) (wrap_i64 ⟨by omega, by omega⟩) | exact op_add (by rfl) (by rfl) (by rfl)) rfl (by dsimp only [zS, zN, zH, zT]) ?_
      refine zst (op_assign_tmp (by rfl)) rfl (by dsimp only [zS, zN, zH, zT]) ?_
      refine al_end rfl ?_
      apply again_to (n - (i + 1)) (true :: false :: false :: false :: false :: false :: false :: false :: false :: true :: true :: true :: false :: false :: false :: false :: false :: false :: false :: false :: false :: false :: false :: false :: false :: false :: false :: false :: false :: false :: false :: false :: false :: false :: false :: false :: false :: false :: false :: false :: false :: false :: false :: false :: false :: false :: false :: false :: false :: false :: false :: false :: false :: false :: false :: false :: false :: false :: false :: false :: false :: false :: false :: false :: false :: false :: false :: false :: false :: false :: false :: false :: false :: false :: false :: false :: false :: false :: false :: false :: false :: false :: false :: false :: false :: false :: false :: false :: false :: false :: false :: false :: false :: false :: [])
      · (try dsimp only [maskT]); try exact rfl
      · rfl
      · omega
      exact ⟨i + 1, rfl, by omega, rfl, setB_at hb9⟩
     ·
      (try simp only [y1, y2, y3, y4, y5, y6, y7, y8, y9, y0, List.length_map] at hc8)
      have hin : n = i := by omega
      subst hin
      rw [Nat.sub_self] at hb9
      refine aw_exit ?_
      refine then_exit (again_exit (inBlock_here (then_normal ?_)))
      refine aw_seq ?_
      refine aw_region ?_
      refine zst (op_ldV (resN 0 (d - n)) Try.underlying26 (by rfl) Sz26 (by rfl) hb9 (by first | exact VBl.v _ _ | exact VBl.z _)) rfl (by dsimp only [zS, zN, zH, zT]) ?_
      refine zst (op_callF Try.func13 (by rfl) (by rfl) (.tmp (by rfl) (.const (by rfl) .nil)) (get_at (get_end _) (bres _ _))) rfl (by dsimp only [zS, zN, zH, zT]) ?_
      refine zst (op_move_tmp (by rfl)) rfl (by dsimp only [zS, zN, zH, zT]) ?_
      refine zst (op_extract (by rfl) (by rfl)) rfl (by dsimp only [zS, zN, zH, zT]) ?_
      refine zst (op_extract (by rfl) (by rfl)) rfl (by dsimp only [zS, zN, zH, zT]) ?_
      refine zst (op_alloc (Zr26) (by rfl)) rfl (by dsimp only [zS, zN, zH, zT]) ?_
      refine zst (op_stV (ofInt 1) Sz26 (by rfl) push_at (by first | exact VBl.z _ | exact VBl.v _ _) (by rfl)) rfl (by dsimp only [zS, zN, zH, zT]) ?_
      refine zst (op_assign_tmp (by rfl)) rfl (by dsimp only [zS, zN, zH, zT]) ?_
      refine al_end rfl ?_
      refine then_normal ?_
      refine aw_seq ?_
      refine aw_region ?_
      refine zst (op_move_tmp (by rfl)) rfl (by dsimp only [zS, zN, zH, zT]) ?_
      refine zst (op_eqI (by rfl) (by rfl)) rfl (by dsimp only [zS, zN, zH, zT]) ?_
      refine zst (op_move_tmp (by rfl)) rfl (by dsimp only [zS, zN, zH, zT]) ?_
      refine zsw rfl rfl rfl (op_move_tmp (by rfl)) (by dsimp only [zS, zN, zH, zT]) ?_
      refine zst (op_pick_tt (by rfl) (val_tmp (by rfl))) rfl (by dsimp only [zS, zN, zH, zT]) ?_
      refine zst (op_move_tmp (by rfl)) rfl (by dsimp only [zS, zN, zH, zT]) ?_
      refine zsw rfl rfl rfl (by first | exact op_fieldAddr_ptr Try.underlying26 rfl Sz2 (by rfl) (by rfl) | exact op_fieldAddr_elt Try.underlying26 rfl Sz2 (by rfl) (by rfl) (by rfl)) (by dsimp only [zS, zN, zH, zT]) ?_
      refine zsw rfl rfl rfl (op_ldV1 Try.underlying2 (by rfl) (by rfl) (setB_at push_at) (VBl.v _ _) (by rfl)) (by dsimp only [zS, zN, zH, zT]) ?_
      refine zsw rfl rfl rfl (op_eqI (by rfl) (by rfl)) (by dsimp only [zS, zN, zH, zT]) ?_
      refine zst (op_pick_tt (by rfl) (val_tmp (by rfl))) rfl (by dsimp only [zS, zN, zH, zT]) ?_
      refine zst (op_assign_tmp (by rfl)) rfl (by dsimp only [zS, zN, zH, zT]) ?_
      refine al_end rfl ?_
      refine then_normal ?_
      refine aw_ret ?_
      refine retPost1 rfl rfl ?_
      first | exact rfl | (simp [TF]; done)
end Go.Proofs.Ytjamnhofbkgblaa
