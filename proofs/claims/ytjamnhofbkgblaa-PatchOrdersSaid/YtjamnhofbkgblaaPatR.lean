/- Is an operation one? -/
import Derived.Test.YtjamnhofbkgblaaValU1
import Derived.Test.YtjamnhofbkgblaaPatchAV
import Derived.KernelRfl
namespace Go.Proofs.Ytjamnhofbkgblaa
open Go.AV Go.AV.Ord Go.AV.Oct Go.AV.Val Go.AV.Patch
set_option linter.unusedVariables false
set_option linter.unusedSimpArgs false
/- Is an operation one? -/
set_option maxRecDepth 100000 in
theorem oright_ok (Hs : HS) (o : Opn) (ho : SmallV o.val) : ACalls Try.prog 20 [.d (oD o)] Hs (Ret (.d (TF (rightO o))) Hs) := by
 refine acalls_of_aw Try.func20 rfl ?_
 refine aw_start (T' := [.d (oD o), .un, .un, .un, .un, .un, .un, .un, .un, .un, .un, .un, .un, .un, .un, .un, .un, .un, .un, .un, .un, .un, .un, .un, .un, .un, .un, .un, .un, .un, .un, .un, .un, .un, .un, .un, .un, .un, .un, .un, .un, .un, .un, .un, .un, .un, .un, .un, .un, .un]) rfl ?_
 refine aw_seq ?_
 refine aw_region ?_
 refine zst (op_box_elt (cs := [I o.kind, .lst 1 (o.path.map S), I o.val.kind, TF o.val.yes, .v (.int .i64 o.val.num), S o.val.text, .lst 6 (o.val.list.map vD), .lst 7 (o.val.fields.map fD)]) (by rfl) (by rfl)) rfl (by dsimp only [zS, zN, zH, zT]) ?_
 refine zst (op_assign_const (by rfl)) rfl (by dsimp only [zS, zN, zH, zT]) ?_
 refine al_end rfl ?_
 refine then_normal ?_
 refine aw_seq ?_
 refine aw_region ?_
 refine zst (by first | exact op_fieldAddr_ptr Try.underlying36 rfl Sz33 (by rfl) (by rfl) | exact op_fieldAddr_elt Try.underlying36 rfl Sz33 (by rfl) (by rfl) (by rfl)) rfl (by dsimp only [zS, zN, zH, zT]) ?_
 refine zst (by first | exact op_load_elt Try.underlying33 (by rfl) (by rfl) (by rfl) | exact op_load_ptr Try.underlying33 (by rfl) (by rfl) (by rfl) (by rfl)) rfl (by dsimp only [zS, zN, zH, zT]) ?_
 refine zst (op_geI (by rfl) (by rfl)) rfl (by dsimp only [zS, zN, zH, zT]) ?_
 refine zst (op_move_tmp (by rfl)) rfl (by dsimp only [zS, zN, zH, zT]) ?_
 refine al_split 6 rfl (fun hg1 => ?_) (fun hg1 => ?_)
 ·
  (try simp only [y1, y2, y3, y4, y5, y6, y7, y8, y9, y0, List.length_map] at hg1)
  have g1 : (1 ≤ o.kind) := by first | omega | simpa using hg1
  apply al_normT
  · (try dsimp only [zS, zN, zH, zT]); try exact rfl
  refine zsw rfl rfl rfl (by first | exact op_fieldAddr_ptr Try.underlying36 rfl Sz33 (by rfl) (by rfl) | exact op_fieldAddr_elt Try.underlying36 rfl Sz33 (by rfl) (by rfl) (by rfl)) (by dsimp only [zS, zN, zH, zT]) ?_
  refine zsw rfl rfl rfl (by first | exact op_load_elt Try.underlying33 (by rfl) (by rfl) (by rfl) | exact op_load_ptr Try.underlying33 (by rfl) (by rfl) (by rfl) (by rfl)) (by dsimp only [zS, zN, zH, zT]) ?_
  refine zsw rfl rfl rfl (op_leI (by rfl) (by rfl)) (by dsimp only [zS, zN, zH, zT]) ?_
  refine zst (op_pick_tt (by rfl) (val_tmp (by rfl))) rfl (by dsimp only [zS, zN, zH, zT]) ?_
  refine zst (op_move_tmp (by rfl)) rfl (by dsimp only [zS, zN, zH, zT]) ?_
  refine al_split 11 rfl (fun hg2 => ?_) (fun hg2 => ?_)
  ·
   (try simp only [y1, y2, y3, y4, y5, y6, y7, y8, y9, y0, List.length_map] at hg2)
   have g2 : (o.kind ≤ 3) := by first | omega | simpa using hg2
   apply al_normT
   · (try dsimp only [zS, zN, zH, zT]); try exact rfl
   refine zsw rfl rfl rfl (by first | exact op_fieldAddr_ptr Try.underlying36 rfl Sz34 (by rfl) (by rfl) | exact op_fieldAddr_elt Try.underlying36 rfl Sz34 (by rfl) (by rfl) (by rfl)) (by dsimp only [zS, zN, zH, zT]) ?_
   refine zsw rfl rfl rfl (by first | exact op_load_elt Try.underlying34 (by rfl) (by rfl) (by rfl) | exact op_load_ptr Try.underlying34 (by rfl) (by rfl) (by rfl) (by rfl)) (by dsimp only [zS, zN, zH, zT]) ?_
   refine zsw rfl rfl rfl (op_lenL Try.underlying34 (by first | exact LL.d _ _ | exact LL.own _ _ _ | exact LL.nil _ | assumption)) (by dsimp only [zS, zN, zH, zT]) ?_
   refine zsw rfl rfl rfl (op_gtI (by rfl) (by rfl)) (by dsimp only [zS, zN, zH, zT]) ?_
   refine zst (op_pick_tt (by rfl) (val_tmp (by rfl))) rfl (by dsimp only [zS, zN, zH, zT]) ?_
   refine zst (op_move_tmp (by rfl)) rfl (by dsimp only [zS, zN, zH, zT]) ?_
   refine al_split 17 rfl (fun hg3 => ?_) (fun hg3 => ?_)
   ·
    (try simp only [y1, y2, y3, y4, y5, y6, y7, y8, y9, y0, List.length_map] at hg3)
    have g3 : (0 < o.path.length) := by first | omega | simpa using hg3
    apply al_normT
    · (try dsimp only [zS, zN, zH, zT]); try exact rfl
    refine zsw rfl rfl rfl (by first | exact op_fieldAddr_ptr Try.underlying36 rfl Sz34 (by rfl) (by rfl) | exact op_fieldAddr_elt Try.underlying36 rfl Sz34 (by rfl) (by rfl) (by rfl)) (by dsimp only [zS, zN, zH, zT]) ?_
    refine zsw rfl rfl rfl (by first | exact op_load_elt Try.underlying34 (by rfl) (by rfl) (by rfl) | exact op_load_ptr Try.underlying34 (by rfl) (by rfl) (by rfl) (by rfl)) (by dsimp only [zS, zN, zH, zT]) ?_
    refine zsw rfl rfl rfl (op_lenL Try.underlying34 (by first | exact LL.d _ _ | exact LL.own _ _ _ | exact LL.nil _ | assumption)) (by dsimp only [zS, zN, zH, zT]) ?_
    refine zsw rfl rfl rfl (op_leI (by rfl) (by rfl)) (by dsimp only [zS, zN, zH, zT]) ?_
    refine zst (op_pick_tt (by rfl) (val_tmp (by rfl))) rfl (by dsimp only [zS, zN, zH, zT]) ?_
    refine zst (op_move_tmp (by rfl)) rfl (by dsimp only [zS, zN, zH, zT]) ?_
    refine al_split 23 rfl (fun hg4 => ?_) (fun hg4 => ?_)
    ·
     (try simp only [y1, y2, y3, y4, y5, y6, y7, y8, y9, y0, List.length_map] at hg4)
     have g4 : (o.path.length ≤ 16) := by first | omega | simpa using hg4
     apply al_normT
     · (try dsimp only [zS, zN, zH, zT]); try exact rfl
     refine zsw rfl rfl rfl (by first | exact op_fieldAddr_ptr Try.underlying36 rfl Sz26 (by rfl) (by rfl) | exact op_fieldAddr_elt Try.underlying36 rfl Sz26 (by rfl) (by rfl) (by rfl)) (by dsimp only [zS, zN, zH, zT]) ?_
     refine zsw rfl rfl rfl (op_load_elts (ds := vC o.val) Try.underlying26 (by rfl) Sz26 (by rfl) (Nat.le_of_ble_eq_true rfl) (by rw [vC_eq]; rfl)) (by dsimp only [zS, zN, zH, zT]) ?_
     refine zsw rfl rfl rfl (op_callF Try.func22 (by rfl) (by rfl) (.tmp (by rfl) .nil) (right_ok' _ o.val ho)) (by dsimp only [zS, zN, zH, zT]) ?_
     refine zst (op_pick_tt (by rfl) (val_tmp (by rfl))) rfl (by dsimp only [zS, zN, zH, zT]) ?_
     refine zst (op_move_tmp (by rfl)) rfl (by dsimp only [zS, zN, zH, zT]) ?_
     refine al_split 28 rfl (fun hg5 => ?_) (fun hg5 => ?_)
     ·
      (try simp only [y1, y2, y3, y4, y5, y6, y7, y8, y9, y0, List.length_map] at hg5)
      have g5 : (rightV 32 o.val = true) := by first | omega | simpa using hg5
      apply al_normT
      · (try dsimp only [zS, zN, zH, zT]); try exact rfl
      refine zsw rfl rfl rfl (by first | exact op_fieldAddr_ptr Try.underlying36 rfl Sz33 (by rfl) (by rfl) | exact op_fieldAddr_elt Try.underlying36 rfl Sz33 (by rfl) (by rfl) (by rfl)) (by dsimp only [zS, zN, zH, zT]) ?_
      refine zsw rfl rfl rfl (by first | exact op_load_elt Try.underlying33 (by rfl) (by rfl) (by rfl) | exact op_load_ptr Try.underlying33 (by rfl) (by rfl) (by rfl) (by rfl)) (by dsimp only [zS, zN, zH, zT]) ?_
      refine zsw rfl rfl rfl (op_neI (by rfl) (by rfl)) (by dsimp only [zS, zN, zH, zT]) ?_
      refine zsw rfl rfl rfl (op_move_tmp (by rfl)) (by dsimp only [zS, zN, zH, zT]) ?_
      refine al_split 32 rfl (fun hg6 => ?_) (fun hg6 => ?_)
      ·
       (try simp only [y1, y2, y3, y4, y5, y6, y7, y8, y9, y0, List.length_map] at hg6)
       have g6 : (o.kind ≠ 3) := by first | omega | simpa using hg6
       apply al_normT
       · (try dsimp only [zS, zN, zH, zT]); try exact rfl
       refine zuw rfl rfl rfl rfl (by dsimp only [zS, zN, zH, zT]) ?_
       refine zuw rfl rfl rfl rfl (by dsimp only [zS, zN, zH, zT]) ?_
       refine zuw rfl rfl rfl rfl (by dsimp only [zS, zN, zH, zT]) ?_
       refine zuw rfl rfl rfl rfl (by dsimp only [zS, zN, zH, zT]) ?_
       refine zsw rfl rfl rfl (op_pick_tt (by rfl) (val_const (by rfl))) (by dsimp only [zS, zN, zH, zT]) ?_
       refine zst (op_pick_tt (by rfl) (val_tmp (by rfl))) rfl (by dsimp only [zS, zN, zH, zT]) ?_
       refine zst (op_move_tmp (by rfl)) rfl (by dsimp only [zS, zN, zH, zT]) ?_
       refine zsw rfl rfl rfl (by first | exact op_fieldAddr_ptr Try.underlying36 rfl Sz33 (by rfl) (by rfl) | exact op_fieldAddr_elt Try.underlying36 rfl Sz33 (by rfl) (by rfl) (by rfl)) (by dsimp only [zS, zN, zH, zT]) ?_
       refine zsw rfl rfl rfl (by first | exact op_load_elt Try.underlying33 (by rfl) (by rfl) (by rfl) | exact op_load_ptr Try.underlying33 (by rfl) (by rfl) (by rfl) (by rfl)) (by dsimp only [zS, zN, zH, zT]) ?_
       refine zsw rfl rfl rfl (op_neI (by rfl) (by rfl)) (by dsimp only [zS, zN, zH, zT]) ?_
       refine zsw rfl rfl rfl (op_move_tmp (by rfl)) (by dsimp only [zS, zN, zH, zT]) ?_
       refine al_split 43 rfl (fun hg7 => ?_) (fun hg7 => ?_)
       ·
        (try simp only [y1, y2, y3, y4, y5, y6, y7, y8, y9, y0, List.length_map] at hg7)
        have g8 : (o.kind ≠ 2) := by first | omega | simpa using hg7
        apply al_normT
        · (try dsimp only [zS, zN, zH, zT]); try exact rfl
        refine zuw rfl rfl rfl rfl (by dsimp only [zS, zN, zH, zT]) ?_
        refine zuw rfl rfl rfl rfl (by dsimp only [zS, zN, zH, zT]) ?_
        refine zuw rfl rfl rfl rfl (by dsimp only [zS, zN, zH, zT]) ?_
        refine zuw rfl rfl rfl rfl (by dsimp only [zS, zN, zH, zT]) ?_
        refine zsw rfl rfl rfl (op_pick_tt (by rfl) (val_const (by rfl))) (by dsimp only [zS, zN, zH, zT]) ?_
        refine zst (op_pick_tt (by rfl) (val_tmp (by rfl))) rfl (by dsimp only [zS, zN, zH, zT]) ?_
        refine zst (op_assign_tmp (by rfl)) rfl (by dsimp only [zS, zN, zH, zT]) ?_
        refine al_end rfl ?_
        refine then_normal ?_
        refine aw_ret ?_
        refine retPost1 rfl rfl ?_
        exact ⟨by (rw [rightO_eq]; simp only [TF]; first | (exfalso; omega) | (simp [*]; done) | (congr 3; simp [*]; done) | (congr 3; simp [*]; rfl)), rfl⟩
       ·
        (try simp only [y1, y2, y3, y4, y5, y6, y7, y8, y9, y0, List.length_map] at hg7)
        have g8 : ¬ (o.kind ≠ 2) := by first | omega | simpa using hg7
        apply al_normT
        · (try dsimp only [zS, zN, zH, zT]); try exact rfl
        refine zsw rfl rfl rfl (by first | exact op_fieldAddr_ptr Try.underlying36 rfl Sz26 (by rfl) (by rfl) | exact op_fieldAddr_elt Try.underlying36 rfl Sz26 (by rfl) (by rfl) (by rfl)) (by dsimp only [zS, zN, zH, zT]) ?_
        refine zsw rfl rfl rfl (by first | exact op_fieldAddr_ptr Try.underlying26 rfl Sz22 (by rfl) (by rfl) | exact op_fieldAddr_elt Try.underlying26 rfl Sz22 (by rfl) (by rfl) (by rfl)) (by dsimp only [zS, zN, zH, zT]) ?_
        refine zsw rfl rfl rfl (by first | exact op_load_elt Try.underlying22 (by rfl) (by rfl) (by rfl) | exact op_load_ptr Try.underlying22 (by rfl) (by rfl) (by rfl) (by rfl)) (by dsimp only [zS, zN, zH, zT]) ?_
        refine zsw rfl rfl rfl (op_eqI (by rfl) (by rfl)) (by dsimp only [zS, zN, zH, zT]) ?_
        refine zsw rfl rfl rfl (op_pick_ff (by rfl) (val_tmp (by rfl))) (by dsimp only [zS, zN, zH, zT]) ?_
        refine zst (op_pick_tt (by rfl) (val_tmp (by rfl))) rfl (by dsimp only [zS, zN, zH, zT]) ?_
        refine zst (op_assign_tmp (by rfl)) rfl (by dsimp only [zS, zN, zH, zT]) ?_
        refine al_end rfl ?_
        refine then_normal ?_
        refine aw_ret ?_
        refine retPost1 rfl rfl ?_
        exact ⟨by (rw [rightO_eq]; simp only [TF]; first | (exfalso; omega) | (simp [*]; done) | (congr 3; simp [*]; done) | (congr 3; simp [*]; rfl)), rfl⟩
      ·
       (try simp only [y1, y2, y3, y4, y5, y6, y7, y8, y9, y0, List.length_map] at hg6)
       have g6 : ¬ (o.kind ≠ 3) := by first | omega | simpa using hg6
       apply al_normT
       · (try dsimp only [zS, zN, zH, zT]); try exact rfl
       refine zsw rfl rfl rfl (by first | exact op_fieldAddr_ptr Try.underlying36 rfl Sz26 (by rfl) (by rfl) | exact op_fieldAddr_elt Try.underlying36 rfl Sz26 (by rfl) (by rfl) (by rfl)) (by dsimp only [zS, zN, zH, zT]) ?_
       refine zsw rfl rfl rfl (by first | exact op_fieldAddr_ptr Try.underlying26 rfl Sz22 (by rfl) (by rfl) | exact op_fieldAddr_elt Try.underlying26 rfl Sz22 (by rfl) (by rfl) (by rfl)) (by dsimp only [zS, zN, zH, zT]) ?_
       refine zsw rfl rfl rfl (by first | exact op_load_elt Try.underlying22 (by rfl) (by rfl) (by rfl) | exact op_load_ptr Try.underlying22 (by rfl) (by rfl) (by rfl) (by rfl)) (by dsimp only [zS, zN, zH, zT]) ?_
       refine zsw rfl rfl rfl (op_eqI (by rfl) (by rfl)) (by dsimp only [zS, zN, zH, zT]) ?_
       refine zsw rfl rfl rfl (op_pick_ff (by rfl) (val_tmp (by rfl))) (by dsimp only [zS, zN, zH, zT]) ?_
       refine zst (op_pick_tt (by rfl) (val_tmp (by rfl))) rfl (by dsimp only [zS, zN, zH, zT]) ?_
       refine zst (op_move_tmp (by rfl)) rfl (by dsimp only [zS, zN, zH, zT]) ?_
       refine al_split 39 rfl (fun hg8 => ?_) (fun hg8 => ?_)
       ·
        (try simp only [y1, y2, y3, y4, y5, y6, y7, y8, y9, y0, List.length_map] at hg8)
        have g7 : (o.val.kind = 2) := by first | omega | simpa using hg8
        apply al_normT
        · (try dsimp only [zS, zN, zH, zT]); try exact rfl
        refine zsw rfl rfl rfl (by first | exact op_fieldAddr_ptr Try.underlying36 rfl Sz33 (by rfl) (by rfl) | exact op_fieldAddr_elt Try.underlying36 rfl Sz33 (by rfl) (by rfl) (by rfl)) (by dsimp only [zS, zN, zH, zT]) ?_
        refine zsw rfl rfl rfl (by first | exact op_load_elt Try.underlying33 (by rfl) (by rfl) (by rfl) | exact op_load_ptr Try.underlying33 (by rfl) (by rfl) (by rfl) (by rfl)) (by dsimp only [zS, zN, zH, zT]) ?_
        refine zsw rfl rfl rfl (op_neI (by rfl) (by rfl)) (by dsimp only [zS, zN, zH, zT]) ?_
        refine zsw rfl rfl rfl (op_move_tmp (by rfl)) (by dsimp only [zS, zN, zH, zT]) ?_
        refine al_split 43 rfl (fun hg9 => ?_) (fun hg9 => ?_)
        ·
         (try simp only [y1, y2, y3, y4, y5, y6, y7, y8, y9, y0, List.length_map] at hg9)
         have g8 : (o.kind ≠ 2) := by first | omega | simpa using hg9
         apply al_normT
         · (try dsimp only [zS, zN, zH, zT]); try exact rfl
         refine zuw rfl rfl rfl rfl (by dsimp only [zS, zN, zH, zT]) ?_
         refine zuw rfl rfl rfl rfl (by dsimp only [zS, zN, zH, zT]) ?_
         refine zuw rfl rfl rfl rfl (by dsimp only [zS, zN, zH, zT]) ?_
         refine zuw rfl rfl rfl rfl (by dsimp only [zS, zN, zH, zT]) ?_
         refine zsw rfl rfl rfl (op_pick_tt (by rfl) (val_const (by rfl))) (by dsimp only [zS, zN, zH, zT]) ?_
         refine zst (op_pick_tt (by rfl) (val_tmp (by rfl))) rfl (by dsimp only [zS, zN, zH, zT]) ?_
         refine zst (op_assign_tmp (by rfl)) rfl (by dsimp only [zS, zN, zH, zT]) ?_
         refine al_end rfl ?_
         refine then_normal ?_
         refine aw_ret ?_
         refine retPost1 rfl rfl ?_
         exact ⟨by (rw [rightO_eq]; simp only [TF]; first | (exfalso; omega) | (simp [*]; done) | (congr 3; simp [*]; done) | (congr 3; simp [*]; rfl)), rfl⟩
        ·
         (try simp only [y1, y2, y3, y4, y5, y6, y7, y8, y9, y0, List.length_map] at hg9)
         have g8 : ¬ (o.kind ≠ 2) := by first | omega | simpa using hg9
         apply al_normT
         · (try dsimp only [zS, zN, zH, zT]); try exact rfl
         refine zsw rfl rfl rfl (by first | exact op_fieldAddr_ptr Try.underlying36 rfl Sz26 (by rfl) (by rfl) | exact op_fieldAddr_elt Try.underlying36 rfl Sz26 (by rfl) (by rfl) (by rfl)) (by dsimp only [zS, zN, zH, zT]) ?_
         refine zsw rfl rfl rfl (by first | exact op_fieldAddr_ptr Try.underlying26 rfl Sz22 (by rfl) (by rfl) | exact op_fieldAddr_elt Try.underlying26 rfl Sz22 (by rfl) (by rfl) (by rfl)) (by dsimp only [zS, zN, zH, zT]) ?_
         refine zsw rfl rfl rfl (by first | exact op_load_elt Try.underlying22 (by rfl) (by rfl) (by rfl) | exact op_load_ptr Try.underlying22 (by rfl) (by rfl) (by rfl) (by rfl)) (by dsimp only [zS, zN, zH, zT]) ?_
         refine zsw rfl rfl rfl (op_eqI (by rfl) (by rfl)) (by dsimp only [zS, zN, zH, zT]) ?_
         refine zsw rfl rfl rfl (op_pick_ff (by rfl) (val_tmp (by rfl))) (by dsimp only [zS, zN, zH, zT]) ?_
         refine zst (op_pick_tt (by rfl) (val_tmp (by rfl))) rfl (by dsimp only [zS, zN, zH, zT]) ?_
         refine zst (op_assign_tmp (by rfl)) rfl (by dsimp only [zS, zN, zH, zT]) ?_
         refine al_end rfl ?_
         refine then_normal ?_
         refine aw_ret ?_
         refine retPost1 rfl rfl ?_
         exact ⟨by (rw [rightO_eq]; simp only [TF]; first | (exfalso; omega) | (simp [*]; done) | (congr 3; simp [*]; done) | (congr 3; simp [*]; rfl)), rfl⟩
       ·
        (try simp only [y1, y2, y3, y4, y5, y6, y7, y8, y9, y0, List.length_map] at hg8)
        have g7 : ¬ (o.val.kind = 2) := by first | omega | simpa using hg8
        apply al_normT
        · (try dsimp only [zS, zN, zH, zT]); try exact rfl
        refine zuw rfl rfl rfl rfl (by dsimp only [zS, zN, zH, zT]) ?_
        refine zuw rfl rfl rfl rfl (by dsimp only [zS, zN, zH, zT]) ?_
        refine zuw rfl rfl rfl rfl (by dsimp only [zS, zN, zH, zT]) ?_
        refine zuw rfl rfl rfl rfl (by dsimp only [zS, zN, zH, zT]) ?_
        refine zun rfl rfl rfl (by dsimp only [zS, zN, zH, zT]) ?_
        refine zun rfl rfl rfl (by dsimp only [zS, zN, zH, zT]) ?_
        refine zun rfl rfl rfl (by dsimp only [zS, zN, zH, zT]) ?_
        refine zun rfl rfl rfl (by dsimp only [zS, zN, zH, zT]) ?_
        refine zuw rfl rfl rfl rfl (by dsimp only [zS, zN, zH, zT]) ?_
        refine zst (op_pick_ff (by rfl) (val_const (by rfl))) rfl (by dsimp only [zS, zN, zH, zT]) ?_
        refine zst (op_assign_tmp (by rfl)) rfl (by dsimp only [zS, zN, zH, zT]) ?_
        refine al_end rfl ?_
        refine then_normal ?_
        refine aw_ret ?_
        refine retPost1 rfl rfl ?_
        exact ⟨by (rw [rightO_eq]; simp only [TF]; first | (exfalso; omega) | (simp [*]; done) | (congr 3; simp [*]; done) | (congr 3; simp [*]; rfl)), rfl⟩
     ·
      (try simp only [y1, y2, y3, y4, y5, y6, y7, y8, y9, y0, List.length_map] at hg5)
      have g5 : ¬ (rightV 32 o.val = true) := by first | omega | simpa using hg5
      apply al_normT
      · (try dsimp only [zS, zN, zH, zT]); try exact rfl
      refine zuw rfl rfl rfl rfl (by dsimp only [zS, zN, zH, zT]) ?_
      refine zuw rfl rfl rfl rfl (by dsimp only [zS, zN, zH, zT]) ?_
      refine zuw rfl rfl rfl rfl (by dsimp only [zS, zN, zH, zT]) ?_
      refine zuw rfl rfl rfl rfl (by dsimp only [zS, zN, zH, zT]) ?_
      refine zun rfl rfl rfl (by dsimp only [zS, zN, zH, zT]) ?_
      refine zun rfl rfl rfl (by dsimp only [zS, zN, zH, zT]) ?_
      refine zun rfl rfl rfl (by dsimp only [zS, zN, zH, zT]) ?_
      refine zun rfl rfl rfl (by dsimp only [zS, zN, zH, zT]) ?_
      refine zuw rfl rfl rfl rfl (by dsimp only [zS, zN, zH, zT]) ?_
      refine zst (op_pick_ff (by rfl) (val_const (by rfl))) rfl (by dsimp only [zS, zN, zH, zT]) ?_
      refine zst (op_move_tmp (by rfl)) rfl (by dsimp only [zS, zN, zH, zT]) ?_
      refine zuw rfl rfl rfl rfl (by dsimp only [zS, zN, zH, zT]) ?_
      refine zuw rfl rfl rfl rfl (by dsimp only [zS, zN, zH, zT]) ?_
      refine zuw rfl rfl rfl rfl (by dsimp only [zS, zN, zH, zT]) ?_
      refine zuw rfl rfl rfl rfl (by dsimp only [zS, zN, zH, zT]) ?_
      refine zun rfl rfl rfl (by dsimp only [zS, zN, zH, zT]) ?_
      refine zun rfl rfl rfl (by dsimp only [zS, zN, zH, zT]) ?_
      refine zun rfl rfl rfl (by dsimp only [zS, zN, zH, zT]) ?_
      refine zun rfl rfl rfl (by dsimp only [zS, zN, zH, zT]) ?_
      refine zuw rfl rfl rfl rfl (by dsimp only [zS, zN, zH, zT]) ?_
      refine zst (op_pick_ff (by rfl) (val_const (by rfl))) rfl (by dsimp only [zS, zN, zH, zT]) ?_
      refine zst (op_assign_tmp (by rfl)) rfl (by dsimp only [zS, zN, zH, zT]) ?_
      refine al_end rfl ?_
      refine then_normal ?_
      refine aw_ret ?_
      refine retPost1 rfl rfl ?_
      exact ⟨by (rw [rightO_eq]; simp only [TF]; first | (exfalso; omega) | (simp [*]; done) | (congr 3; simp [*]; done) | (congr 3; simp [*]; rfl)), rfl⟩
    ·
     (try simp only [y1, y2, y3, y4, y5, y6, y7, y8, y9, y0, List.length_map] at hg4)
     have g4 : ¬ (o.path.length ≤ 16) := by first | omega | simpa using hg4
     apply al_normT
     · (try dsimp only [zS, zN, zH, zT]); try exact rfl
     refine zuw rfl rfl rfl rfl (by dsimp only [zS, zN, zH, zT]) ?_
     refine zuw rfl rfl rfl rfl (by dsimp only [zS, zN, zH, zT]) ?_
     refine zuw rfl rfl rfl rfl (by dsimp only [zS, zN, zH, zT]) ?_
     refine zst (op_pick_ff (by rfl) (val_const (by rfl))) rfl (by dsimp only [zS, zN, zH, zT]) ?_
     refine zst (op_move_tmp (by rfl)) rfl (by dsimp only [zS, zN, zH, zT]) ?_
     refine zuw rfl rfl rfl rfl (by dsimp only [zS, zN, zH, zT]) ?_
     refine zuw rfl rfl rfl rfl (by dsimp only [zS, zN, zH, zT]) ?_
     refine zuw rfl rfl rfl rfl (by dsimp only [zS, zN, zH, zT]) ?_
     refine zuw rfl rfl rfl rfl (by dsimp only [zS, zN, zH, zT]) ?_
     refine zun rfl rfl rfl (by dsimp only [zS, zN, zH, zT]) ?_
     refine zun rfl rfl rfl (by dsimp only [zS, zN, zH, zT]) ?_
     refine zun rfl rfl rfl (by dsimp only [zS, zN, zH, zT]) ?_
     refine zun rfl rfl rfl (by dsimp only [zS, zN, zH, zT]) ?_
     refine zuw rfl rfl rfl rfl (by dsimp only [zS, zN, zH, zT]) ?_
     refine zst (op_pick_ff (by rfl) (val_const (by rfl))) rfl (by dsimp only [zS, zN, zH, zT]) ?_
     refine zst (op_move_tmp (by rfl)) rfl (by dsimp only [zS, zN, zH, zT]) ?_
     refine zuw rfl rfl rfl rfl (by dsimp only [zS, zN, zH, zT]) ?_
     refine zuw rfl rfl rfl rfl (by dsimp only [zS, zN, zH, zT]) ?_
     refine zuw rfl rfl rfl rfl (by dsimp only [zS, zN, zH, zT]) ?_
     refine zuw rfl rfl rfl rfl (by dsimp only [zS, zN, zH, zT]) ?_
     refine zun rfl rfl rfl (by dsimp only [zS, zN, zH, zT]) ?_
     refine zun rfl rfl rfl (by dsimp only [zS, zN, zH, zT]) ?_
     refine zun rfl rfl rfl (by dsimp only [zS, zN, zH, zT]) ?_
     refine zun rfl rfl rfl (by dsimp only [zS, zN, zH, zT]) ?_
     refine zuw rfl rfl rfl rfl (by dsimp only [zS, zN, zH, zT]) ?_
     refine zst (op_pick_ff (by rfl) (val_const (by rfl))) rfl (by dsimp only [zS, zN, zH, zT]) ?_
     refine zst (op_assign_tmp (by rfl)) rfl (by dsimp only [zS, zN, zH, zT]) ?_
     refine al_end rfl ?_
     refine then_normal ?_
     refine aw_ret ?_
     refine retPost1 rfl rfl ?_
     exact ⟨by (rw [rightO_eq]; simp only [TF]; first | (exfalso; omega) | (simp [*]; done) | (congr 3; simp [*]; done) | (congr 3; simp [*]; rfl)), rfl⟩
   ·
    (try simp only [y1, y2, y3, y4, y5, y6, y7, y8, y9, y0, List.length_map] at hg3)
    have g3 : ¬ (0 < o.path.length) := by first | omega | simpa using hg3
    apply al_normT
    · (try dsimp only [zS, zN, zH, zT]); try exact rfl
    refine zuw rfl rfl rfl rfl (by dsimp only [zS, zN, zH, zT]) ?_
    refine zuw rfl rfl rfl rfl (by dsimp only [zS, zN, zH, zT]) ?_
    refine zuw rfl rfl rfl rfl (by dsimp only [zS, zN, zH, zT]) ?_
    refine zuw rfl rfl rfl rfl (by dsimp only [zS, zN, zH, zT]) ?_
    refine zst (op_pick_ff (by rfl) (val_const (by rfl))) rfl (by dsimp only [zS, zN, zH, zT]) ?_
    refine zst (op_move_tmp (by rfl)) rfl (by dsimp only [zS, zN, zH, zT]) ?_
    refine zuw rfl rfl rfl rfl (by dsimp only [zS, zN, zH, zT]) ?_
    refine zuw rfl rfl rfl rfl (by dsimp only [zS, zN, zH, zT]) ?_
    refine zuw rfl rfl rfl rfl (by dsimp only [zS, zN, zH, zT]) ?_
    refine zst (op_pick_ff (by rfl) (val_const (by rfl))) rfl (by dsimp only [zS, zN, zH, zT]) ?_
    refine zst (op_move_tmp (by rfl)) rfl (by dsimp only [zS, zN, zH, zT]) ?_
    refine zuw rfl rfl rfl rfl (by dsimp only [zS, zN, zH, zT]) ?_
    refine zuw rfl rfl rfl rfl (by dsimp only [zS, zN, zH, zT]) ?_
    refine zuw rfl rfl rfl rfl (by dsimp only [zS, zN, zH, zT]) ?_
    refine zuw rfl rfl rfl rfl (by dsimp only [zS, zN, zH, zT]) ?_
    refine zun rfl rfl rfl (by dsimp only [zS, zN, zH, zT]) ?_
    refine zun rfl rfl rfl (by dsimp only [zS, zN, zH, zT]) ?_
    refine zun rfl rfl rfl (by dsimp only [zS, zN, zH, zT]) ?_
    refine zun rfl rfl rfl (by dsimp only [zS, zN, zH, zT]) ?_
    refine zuw rfl rfl rfl rfl (by dsimp only [zS, zN, zH, zT]) ?_
    refine zst (op_pick_ff (by rfl) (val_const (by rfl))) rfl (by dsimp only [zS, zN, zH, zT]) ?_
    refine zst (op_move_tmp (by rfl)) rfl (by dsimp only [zS, zN, zH, zT]) ?_
    refine zuw rfl rfl rfl rfl (by dsimp only [zS, zN, zH, zT]) ?_
    refine zuw rfl rfl rfl rfl (by dsimp only [zS, zN, zH, zT]) ?_
    refine zuw rfl rfl rfl rfl (by dsimp only [zS, zN, zH, zT]) ?_
    refine zuw rfl rfl rfl rfl (by dsimp only [zS, zN, zH, zT]) ?_
    refine zun rfl rfl rfl (by dsimp only [zS, zN, zH, zT]) ?_
    refine zun rfl rfl rfl (by dsimp only [zS, zN, zH, zT]) ?_
    refine zun rfl rfl rfl (by dsimp only [zS, zN, zH, zT]) ?_
    refine zun rfl rfl rfl (by dsimp only [zS, zN, zH, zT]) ?_
    refine zuw rfl rfl rfl rfl (by dsimp only [zS, zN, zH, zT]) ?_
    refine zst (op_pick_ff (by rfl) (val_const (by rfl))) rfl (by dsimp only [zS, zN, zH, zT]) ?_
    refine zst (op_assign_tmp (by rfl)) rfl (by dsimp only [zS, zN, zH, zT]) ?_
    refine al_end rfl ?_
    refine then_normal ?_
    refine aw_ret ?_
    refine retPost1 rfl rfl ?_
    exact ⟨by (rw [rightO_eq]; simp only [TF]; first | (exfalso; omega) | (simp [*]; done) | (congr 3; simp [*]; done) | (congr 3; simp [*]; rfl)), rfl⟩
  ·
   (try simp only [y1, y2, y3, y4, y5, y6, y7, y8, y9, y0, List.length_map] at hg2)
   have g2 : ¬ (o.kind ≤ 3) := by first | omega | simpa using hg2
   apply al_normT
   · (try dsimp only [zS, zN, zH, zT]); try exact rfl
   refine zuw rfl rfl rfl rfl (by dsimp only [zS, zN, zH, zT]) ?_
   refine zuw rfl rfl rfl rfl (by dsimp only [zS, zN, zH, zT]) ?_
   refine zuw rfl rfl rfl rfl (by dsimp only [zS, zN, zH, zT]) ?_
   refine zuw rfl rfl rfl rfl (by dsimp only [zS, zN, zH, zT]) ?_
   refine zst (op_pick_ff (by rfl) (val_const (by rfl))) rfl (by dsimp only [zS, zN, zH, zT]) ?_
   refine zst (op_move_tmp (by rfl)) rfl (by dsimp only [zS, zN, zH, zT]) ?_
   refine zuw rfl rfl rfl rfl (by dsimp only [zS, zN, zH, zT]) ?_
   refine zuw rfl rfl rfl rfl (by dsimp only [zS, zN, zH, zT]) ?_
   refine zuw rfl rfl rfl rfl (by dsimp only [zS, zN, zH, zT]) ?_
   refine zuw rfl rfl rfl rfl (by dsimp only [zS, zN, zH, zT]) ?_
   refine zst (op_pick_ff (by rfl) (val_const (by rfl))) rfl (by dsimp only [zS, zN, zH, zT]) ?_
   refine zst (op_move_tmp (by rfl)) rfl (by dsimp only [zS, zN, zH, zT]) ?_
   refine zuw rfl rfl rfl rfl (by dsimp only [zS, zN, zH, zT]) ?_
   refine zuw rfl rfl rfl rfl (by dsimp only [zS, zN, zH, zT]) ?_
   refine zuw rfl rfl rfl rfl (by dsimp only [zS, zN, zH, zT]) ?_
   refine zst (op_pick_ff (by rfl) (val_const (by rfl))) rfl (by dsimp only [zS, zN, zH, zT]) ?_
   refine zst (op_move_tmp (by rfl)) rfl (by dsimp only [zS, zN, zH, zT]) ?_
   refine zuw rfl rfl rfl rfl (by dsimp only [zS, zN, zH, zT]) ?_
   refine zuw rfl rfl rfl rfl (by dsimp only [zS, zN, zH, zT]) ?_
   refine zuw rfl rfl rfl rfl (by dsimp only [zS, zN, zH, zT]) ?_
   refine zuw rfl rfl rfl rfl (by dsimp only [zS, zN, zH, zT]) ?_
   refine zun rfl rfl rfl (by dsimp only [zS, zN, zH, zT]) ?_
   refine zun rfl rfl rfl (by dsimp only [zS, zN, zH, zT]) ?_
   refine zun rfl rfl rfl (by dsimp only [zS, zN, zH, zT]) ?_
   refine zun rfl rfl rfl (by dsimp only [zS, zN, zH, zT]) ?_
   refine zuw rfl rfl rfl rfl (by dsimp only [zS, zN, zH, zT]) ?_
   refine zst (op_pick_ff (by rfl) (val_const (by rfl))) rfl (by dsimp only [zS, zN, zH, zT]) ?_
   refine zst (op_move_tmp (by rfl)) rfl (by dsimp only [zS, zN, zH, zT]) ?_
   refine zuw rfl rfl rfl rfl (by dsimp only [zS, zN, zH, zT]) ?_
   refine zuw rfl rfl rfl rfl (by dsimp only [zS, zN, zH, zT]) ?_
   refine zuw rfl rfl rfl rfl (by dsimp only [zS, zN, zH, zT]) ?_
   refine zuw rfl rfl rfl rfl (by dsimp only [zS, zN, zH, zT]) ?_
   refine zun rfl rfl rfl (by dsimp only [zS, zN, zH, zT]) ?_
   refine zun rfl rfl rfl (by dsimp only [zS, zN, zH, zT]) ?_
   refine zun rfl rfl rfl (by dsimp only [zS, zN, zH, zT]) ?_
   refine zun rfl rfl rfl (by dsimp only [zS, zN, zH, zT]) ?_
   refine zuw rfl rfl rfl rfl (by dsimp only [zS, zN, zH, zT]) ?_
   refine zst (op_pick_ff (by rfl) (val_const (by rfl))) rfl (by dsimp only [zS, zN, zH, zT]) ?_
   refine zst (op_assign_tmp (by rfl)) rfl (by dsimp only [zS, zN, zH, zT]) ?_
   refine al_end rfl ?_
   refine then_normal ?_
   refine aw_ret ?_
   refine retPost1 rfl rfl ?_
   exact ⟨by (rw [rightO_eq]; simp only [TF]; first | (exfalso; omega) | (simp [*]; done) | (congr 3; simp [*]; done) | (congr 3; simp [*]; rfl)), rfl⟩
 ·
  (try simp only [y1, y2, y3, y4, y5, y6, y7, y8, y9, y0, List.length_map] at hg1)
  have g1 : ¬ (1 ≤ o.kind) := by first | omega | simpa using hg1
  apply al_normT
  · (try dsimp only [zS, zN, zH, zT]); try exact rfl
  refine zuw rfl rfl rfl rfl (by dsimp only [zS, zN, zH, zT]) ?_
  refine zuw rfl rfl rfl rfl (by dsimp only [zS, zN, zH, zT]) ?_
  refine zuw rfl rfl rfl rfl (by dsimp only [zS, zN, zH, zT]) ?_
  refine zst (op_pick_ff (by rfl) (val_const (by rfl))) rfl (by dsimp only [zS, zN, zH, zT]) ?_
  refine zst (op_move_tmp (by rfl)) rfl (by dsimp only [zS, zN, zH, zT]) ?_
  refine zuw rfl rfl rfl rfl (by dsimp only [zS, zN, zH, zT]) ?_
  refine zuw rfl rfl rfl rfl (by dsimp only [zS, zN, zH, zT]) ?_
  refine zuw rfl rfl rfl rfl (by dsimp only [zS, zN, zH, zT]) ?_
  refine zuw rfl rfl rfl rfl (by dsimp only [zS, zN, zH, zT]) ?_
  refine zst (op_pick_ff (by rfl) (val_const (by rfl))) rfl (by dsimp only [zS, zN, zH, zT]) ?_
  refine zst (op_move_tmp (by rfl)) rfl (by dsimp only [zS, zN, zH, zT]) ?_
  refine zuw rfl rfl rfl rfl (by dsimp only [zS, zN, zH, zT]) ?_
  refine zuw rfl rfl rfl rfl (by dsimp only [zS, zN, zH, zT]) ?_
  refine zuw rfl rfl rfl rfl (by dsimp only [zS, zN, zH, zT]) ?_
  refine zuw rfl rfl rfl rfl (by dsimp only [zS, zN, zH, zT]) ?_
  refine zst (op_pick_ff (by rfl) (val_const (by rfl))) rfl (by dsimp only [zS, zN, zH, zT]) ?_
  refine zst (op_move_tmp (by rfl)) rfl (by dsimp only [zS, zN, zH, zT]) ?_
  refine zuw rfl rfl rfl rfl (by dsimp only [zS, zN, zH, zT]) ?_
  refine zuw rfl rfl rfl rfl (by dsimp only [zS, zN, zH, zT]) ?_
  refine zuw rfl rfl rfl rfl (by dsimp only [zS, zN, zH, zT]) ?_
  refine zst (op_pick_ff (by rfl) (val_const (by rfl))) rfl (by dsimp only [zS, zN, zH, zT]) ?_
  refine zst (op_move_tmp (by rfl)) rfl (by dsimp only [zS, zN, zH, zT]) ?_
  refine zuw rfl rfl rfl rfl (by dsimp only [zS, zN, zH, zT]) ?_
  refine zuw rfl rfl rfl rfl (by dsimp only [zS, zN, zH, zT]) ?_
  refine zuw rfl rfl rfl rfl (by dsimp only [zS, zN, zH, zT]) ?_
  refine zuw rfl rfl rfl rfl (by dsimp only [zS, zN, zH, zT]) ?_
  refine zun rfl rfl rfl (by dsimp only [zS, zN, zH, zT]) ?_
  refine zun rfl rfl rfl (by dsimp only [zS, zN, zH, zT]) ?_
  refine zun rfl rfl rfl (by dsimp only [zS, zN, zH, zT]) ?_
  refine zun rfl rfl rfl (by dsimp only [zS, zN, zH, zT]) ?_
  refine zuw rfl rfl rfl rfl (by dsimp only [zS, zN, zH, zT]) ?_
  refine zst (op_pick_ff (by rfl) (val_const (by rfl))) rfl (by dsimp only [zS, zN, zH, zT]) ?_
  refine zst (op_move_tmp (by rfl)) rfl (by dsimp only [zS, zN, zH, zT]) ?_
  refine zuw rfl rfl rfl rfl (by dsimp only [zS, zN, zH, zT]) ?_
  refine zuw rfl rfl rfl rfl (by dsimp only [zS, zN, zH, zT]) ?_
  refine zuw rfl rfl rfl rfl (by dsimp only [zS, zN, zH, zT]) ?_
  refine zuw rfl rfl rfl rfl (by dsimp only [zS, zN, zH, zT]) ?_
  refine zun rfl rfl rfl (by dsimp only [zS, zN, zH, zT]) ?_
  refine zun rfl rfl rfl (by dsimp only [zS, zN, zH, zT]) ?_
  refine zun rfl rfl rfl (by dsimp only [zS, zN, zH, zT]) ?_
  refine zun rfl rfl rfl (by dsimp only [zS, zN, zH, zT]) ?_
  refine zuw rfl rfl rfl rfl (by dsimp only [zS, zN, zH, zT]) ?_
  refine zst (op_pick_ff (by rfl) (val_const (by rfl))) rfl (by dsimp only [zS, zN, zH, zT]) ?_
  refine zst (op_assign_tmp (by rfl)) rfl (by dsimp only [zS, zN, zH, zT]) ?_
  refine al_end rfl ?_
  refine then_normal ?_
  refine aw_ret ?_
  refine retPost1 rfl rfl ?_
  exact ⟨by (rw [rightO_eq]; simp only [TF]; first | (exfalso; omega) | (simp [*]; done) | (congr 3; simp [*]; done) | (congr 3; simp [*]; rfl)), rfl⟩
end Go.Proofs.Ytjamnhofbkgblaa
