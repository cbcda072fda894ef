/- Part 5 of what the law needs: OctW, OctV, OrdW, CKeyW, SchW, SbSch, SbMake, SmMake, A27, SmFrom. -/
import Derived.Test.YtjbpfnoibeogbaaM4
import Derived.KernelRfl
import Derived.TacticsIn
namespace Go.Proofs.Ytjbpfnoibeogbaa
open Go.AV Go.AV.Ord Go.AV.Oct
set_option linter.unusedVariables false
set_option linter.unusedSimpArgs false
set_option maxRecDepth 100000 in
theorem fail_ok (H : HS) (id : Nat) (x y : AV) (hb : H.blks[id]? = some ⟨179, [x, y], false⟩) : ACalls Try.prog 89 [.ptr id 0] H (Ret (.tup []) (H.setB id (RB 179 ([], true)))) := by
 refine acalls_of_aw Try.func89 rfl ?_
 refine aw_start (T' := [.ptr id 0, .un, .un, .un, .un, .un, .un, .un]) rfl ?_
 refine aw_region ?_
 refine zst (op_move_tmp (by rfl)) rfl (by dsimp only [zS, zN, zH, zT]) ?_
 refine zst (op_move_tmp (by rfl)) rfl (by dsimp only [zS, zN, zH, zT]) ?_
 refine zst (by first | exact op_nilCheck_ptr (by rfl) | exact op_nilCheck_elt (by rfl)) rfl (by dsimp only [zS, zN, zH, zT]) ?_
 refine zst (by first | exact op_fieldAddr_ptr Try.underlying179 rfl Sz4 (by rfl) (by rfl) | exact op_fieldAddr_elt Try.underlying179 rfl Sz4 (by rfl) (by rfl) (by rfl)) rfl (by dsimp only [zS, zN, zH, zT]) ?_
 refine zst (op_storeB (vs := [.d (TF true)]) (b' := ⟨179, [x, .d (TF true)], false⟩) (H' := H.setB id ⟨179, [x, .d (TF true)], false⟩) Sz4 (by rfl) hb (by intro h; cases h) (by rfl) (by rfl) (Nat.le_of_ble_eq_true rfl) (by simp [AV.one, DV.one, TF, S, I, BY]) (by rfl) (by rfl) rfl) rfl (by dsimp only [zS, zN, zH, zT]) ?_
 refine zst (by first | exact op_nilCheck_ptr (by rfl) | exact op_nilCheck_elt (by rfl)) rfl (by dsimp only [zS, zN, zH, zT]) ?_
 refine zst (by first | exact op_fieldAddr_ptr Try.underlying179 rfl Sz9 (by rfl) (by rfl) | exact op_fieldAddr_elt Try.underlying179 rfl Sz9 (by rfl) (by rfl) (by rfl)) rfl (by dsimp only [zS, zN, zH, zT]) ?_
 refine zst (op_storeB (vs := [.d (S [])]) (b' := ⟨179, [.d (S []), .d (TF true)], false⟩) (H' := H.setB id ⟨179, [.d (S []), .d (TF true)], false⟩) Sz9 (by rfl) (setB_at hb) (by intro h; cases h) (by rfl) (by rfl) (Nat.le_of_ble_eq_true rfl) (by simp [AV.one, DV.one, TF, S, I, BY]) (by rfl) (by rfl) setB_setB) rfl (by dsimp only [zS, zN, zH, zT]) ?_
 refine al_end rfl ?_
 refine retPost0 (by first | exact .inl rfl | exact .inr rfl) rfl ?_
 exact ⟨rfl, rfl⟩
set_option maxRecDepth 100000 in
theorem num_ok (Hs : HS) (id : Nat) (s : List UInt8) (bad : Bool) (most : Int) (hb : Hs.blks[id]? = some (RB 179 (s, bad))) (hm : most ≤ 9223372036854775807) : ACalls Try.prog 57 [.ptr id 0, .d (I most)] Hs (Ret (.d (I (rNum most (s, bad)).1)) (Hs.setB id (RB 179 (rNum most (s, bad)).2))) := by
 have hb : Hs.blks[id]? = some ⟨179, [.d (S s), .d (TF bad)], false⟩ := hb
 refine acalls_of_aw Try.func57 rfl ?_
 refine aw_start (T' := ((.ptr id 0) :: (.d (I most)) :: .un :: .un :: .un :: .un :: .un :: .un :: .un :: .un :: .un :: .un :: .un :: .un :: .un :: .un :: .un :: .un :: .un :: .un :: .un :: .un :: .un :: .un :: .un :: .un :: .un :: .un :: .un :: .un :: .un :: .un :: .un :: .un :: .un :: .un :: .un :: .un :: .un :: .un :: .un :: .un :: .un :: .un :: .un :: .un :: .un :: .un :: .un :: .un :: .un :: .un :: .un :: .un :: .un :: .un :: .un :: .un :: .un :: .un :: .un :: .un :: .un :: .un :: .un :: .un :: .un :: .un :: .un :: .un :: .un :: .un :: .un :: .un :: .un :: .un :: .un :: .un :: .un :: .un :: .un :: .un :: .un :: .un :: .un :: .un :: .un :: .un :: .un :: .un :: .un :: .un :: .un :: .un :: .un :: .un :: .un :: .un :: .un :: .un :: .un :: .un :: .un :: .un :: .un :: .un :: .un :: [])) rfl ?_
 refine aw_seq ?_
 refine aw_region ?_
 refine zst (op_assign_const (by rfl)) rfl (by dsimp only [zS, zN, zH, zT]) ?_
 refine al_end rfl ?_
 refine then_normal ?_
 refine aw_seq ?_
 refine aw_seq ?_
 refine aw_region ?_
 refine zst (op_move_tmp (by rfl)) rfl (by dsimp only [zS, zN, zH, zT]) ?_
 refine zst (op_ptr_nil Try.underlying124 (by rfl) (by rfl)) rfl (by dsimp only [zS, zN, zH, zT]) ?_
 refine zst (op_move_tmp (by rfl)) rfl (by dsimp only [zS, zN, zH, zT]) ?_
 refine zsw rfl rfl rfl (op_move_tmp (by rfl)) (by dsimp only [zS, zN, zH, zT]) ?_
 refine zsw rfl rfl rfl (by first | exact op_nilCheck_ptr (by rfl) | exact op_nilCheck_elt (by rfl)) (by dsimp only [zS, zN, zH, zT]) ?_
 refine zsw rfl rfl rfl (by first | exact op_fieldAddr_ptr Try.underlying179 rfl Sz4 (by rfl) (by rfl) | exact op_fieldAddr_elt Try.underlying179 rfl Sz4 (by rfl) (by rfl) (by rfl)) (by dsimp only [zS, zN, zH, zT]) ?_
 refine zsw rfl rfl rfl (by first | exact op_load_elt Try.underlying4 (by rfl) (by rfl) (by rfl) | exact op_load_ptr Try.underlying4 (by rfl) (by rfl) (by first | exact hb | exact setB_at hb) (by rfl)) (by dsimp only [zS, zN, zH, zT]) ?_
 refine zst (op_pick_ff (by rfl) (val_tmp (by rfl))) rfl (by dsimp only [zS, zN, zH, zT]) ?_
 refine al_end rfl ?_
 refine then_normal ?_
 refine aw_cond rfl (fun hc1 => ?_) (fun hc1 => ?_)
 ·
  (try simp only [y1, y2, y3, y4, y5, y6, y7, y8, y9, y0, List.length_map] at hc1)
  have hbad : bad = true := hc1
  subst hbad
  refine aw_seq ?_
  refine aw_region ?_
  refine zst (op_assign_const (by rfl)) rfl (by dsimp only [zS, zN, zH, zT]) ?_
  refine al_end rfl ?_
  refine then_normal ?_
  refine aw_ret ?_
  refine then_ret ?_
  refine retPost1 rfl rfl ?_
  rw [rNum_bad]; exact ⟨rfl, (setB_self hb).symm⟩
 ·
  (try simp only [y1, y2, y3, y4, y5, y6, y7, y8, y9, y0, List.length_map] at hc1)
  have hbad : bad = false := hc1
  subst hbad
  refine aw_skip ?_
  refine then_normal ?_
  refine aw_seq ?_
  apply aw_cutF (fun T H => ∃ (u : Unit), T = ((.ptr id 0) :: (.d (I most)) :: .un :: .un :: .un :: .un :: .un :: .un :: .un :: .un :: .un :: .un :: .un :: .un :: .un :: .un :: .un :: .un :: .un :: .un :: .un :: .un :: .un :: .un :: .un :: .un :: .un :: .un :: .un :: .un :: .un :: .un :: .un :: .un :: .un :: .un :: .un :: .un :: .un :: .un :: .un :: .un :: .un :: .un :: .un :: .un :: .un :: .un :: .un :: .un :: .un :: .un :: .un :: .un :: .un :: .un :: .un :: .un :: .un :: .un :: (.d (TF (badN s))) :: .un :: .un :: .un :: .un :: .un :: .un :: .un :: .un :: .un :: .un :: .un :: .un :: .un :: .un :: .un :: .un :: .un :: .un :: .un :: .un :: .un :: .un :: .un :: .un :: .un :: .un :: .un :: .un :: .un :: .un :: .un :: .un :: .un :: .un :: .un :: .un :: .un :: .un :: .un :: .un :: .un :: .un :: .un :: .un :: .un :: .un :: []) ∧ Hs = H)
  ·
   refine aw_draw [0, 0, 0, 1, 0, 0, 0, 0, 0, 1, 0, 0, 0, 0, 0, 0, 0, 1, 0, 0, 0, 0, 1, 0, 0, 0, 0, 0, 0, 0, 0, 0, 1, 0, 0, 0, 0, 0, 0, 1, 0, 0, 0, 0] mixed (by kernel_rfl) ?_
   refine zd0 (fun H => (op_move_tmp (by rfl))) rfl (by dsimp only [zS, zN, zH, zT]) ?_
   refine zd0 (fun H => (by first | exact op_nilCheck_ptr (by rfl) | exact op_nilCheck_elt (by rfl))) rfl (by dsimp only [zS, zN, zH, zT]) ?_
   refine zd0 (fun H => (by first | exact op_fieldAddr_ptr Try.underlying179 rfl Sz9 (by rfl) (by rfl) | exact op_fieldAddr_elt Try.underlying179 rfl Sz9 (by rfl) (by rfl) (by rfl))) rfl (by dsimp only [zS, zN, zH, zT]) ?_
   refine zd1 (by first | exact op_load_elt Try.underlying9 (by rfl) (by rfl) (by rfl) | exact op_load_ptr Try.underlying9 (by rfl) (by rfl) (by first | exact hb | exact setB_at hb) (by rfl)) rfl (by dsimp only [zS, zN, zH, zT]) ?_
   refine zd0 (fun H => (op_eqS (by rfl) (by rfl))) rfl (by dsimp only [zS, zN, zH, zT]) ?_
   refine zd0 (fun H => (op_move_tmp (by rfl))) rfl (by dsimp only [zS, zN, zH, zT]) ?_
   refine drun_split 22 rfl (fun hg2 => ?_) (fun hg2 => ?_)
   ·
    (try simp only [y1, y2, y3, y4, y5, y6, y7, y8, y9, y0, List.length_map] at hg2)
    have hs0 : s = [] := hg2
    subst hs0
    apply drun_normT
    · (try dsimp only [zS, zN, zH, zT]); try exact rfl
    refine zdU rfl rfl rfl rfl (by dsimp only [zS, zN, zH, zT]) ?_
    refine zdU rfl rfl rfl rfl (by dsimp only [zS, zN, zH, zT]) ?_
    refine zdU rfl rfl rfl rfl (by dsimp only [zS, zN, zH, zT]) ?_
    refine zdU rfl rfl rfl rfl (by dsimp only [zS, zN, zH, zT]) ?_
    refine zdU rfl rfl rfl rfl (by dsimp only [zS, zN, zH, zT]) ?_
    refine zdU rfl rfl rfl rfl (by dsimp only [zS, zN, zH, zT]) ?_
    refine zd0 (fun H => (op_pick_tt (by rfl) (val_const (by rfl)))) rfl (by dsimp only [zS, zN, zH, zT]) ?_
    refine zd0 (fun H => (op_move_tmp (by rfl))) rfl (by dsimp only [zS, zN, zH, zT]) ?_
    refine zdU rfl rfl rfl rfl (by dsimp only [zS, zN, zH, zT]) ?_
    refine zdU rfl rfl rfl rfl (by dsimp only [zS, zN, zH, zT]) ?_
    refine zdU rfl rfl rfl rfl (by dsimp only [zS, zN, zH, zT]) ?_
    refine zdU rfl rfl rfl rfl (by dsimp only [zS, zN, zH, zT]) ?_
    refine zdU rfl rfl rfl rfl (by dsimp only [zS, zN, zH, zT]) ?_
    refine zdU rfl rfl rfl rfl (by dsimp only [zS, zN, zH, zT]) ?_
    refine zdU rfl rfl rfl rfl (by dsimp only [zS, zN, zH, zT]) ?_
    refine zdU rfl rfl rfl rfl (by dsimp only [zS, zN, zH, zT]) ?_
    refine zdU rfl rfl rfl rfl (by dsimp only [zS, zN, zH, zT]) ?_
    refine zdU rfl rfl rfl rfl (by dsimp only [zS, zN, zH, zT]) ?_
    refine zdU rfl rfl rfl rfl (by dsimp only [zS, zN, zH, zT]) ?_
    refine zdU rfl rfl rfl rfl (by dsimp only [zS, zN, zH, zT]) ?_
    refine zdU rfl rfl rfl rfl (by dsimp only [zS, zN, zH, zT]) ?_
    refine zd0 (fun H => (op_pick_tt (by rfl) (val_const (by rfl)))) rfl (by dsimp only [zS, zN, zH, zT]) ?_
    refine zd0 (fun H => (op_move_tmp (by rfl))) rfl (by dsimp only [zS, zN, zH, zT]) ?_
    refine zdU rfl rfl rfl rfl (by dsimp only [zS, zN, zH, zT]) ?_
    refine zdU rfl rfl rfl rfl (by dsimp only [zS, zN, zH, zT]) ?_
    refine zdU rfl rfl rfl rfl (by dsimp only [zS, zN, zH, zT]) ?_
    refine zdU rfl rfl rfl rfl (by dsimp only [zS, zN, zH, zT]) ?_
    refine zdU rfl rfl rfl rfl (by dsimp only [zS, zN, zH, zT]) ?_
    refine zdU rfl rfl rfl rfl (by dsimp only [zS, zN, zH, zT]) ?_
    refine zdU rfl rfl rfl rfl (by dsimp only [zS, zN, zH, zT]) ?_
    refine zdV rfl rfl rfl (by dsimp only [zS, zN, zH, zT]) ?_
    refine zdV rfl rfl rfl (by dsimp only [zS, zN, zH, zT]) ?_
    refine zdV rfl rfl rfl (by dsimp only [zS, zN, zH, zT]) ?_
    refine zdV rfl rfl rfl (by dsimp only [zS, zN, zH, zT]) ?_
    refine zdV rfl rfl rfl (by dsimp only [zS, zN, zH, zT]) ?_
    refine zdV rfl rfl rfl (by dsimp only [zS, zN, zH, zT]) ?_
    refine zdU rfl rfl rfl rfl (by dsimp only [zS, zN, zH, zT]) ?_
    refine zd0 (fun H => (op_pick_tt (by rfl) (val_const (by rfl)))) rfl (by dsimp only [zS, zN, zH, zT]) ?_
    refine drun_end rfl ?_
    apply cut_to (true :: true :: false :: false :: false :: false :: false :: false :: false :: false :: false :: false :: false :: false :: false :: false :: false :: false :: false :: false :: false :: false :: false :: false :: false :: false :: false :: false :: false :: false :: false :: false :: false :: false :: false :: false :: false :: false :: false :: false :: false :: false :: false :: false :: false :: false :: false :: false :: false :: false :: false :: false :: false :: false :: false :: false :: false :: false :: false :: false :: true :: false :: false :: false :: false :: false :: false :: false :: false :: false :: false :: false :: false :: false :: false :: false :: false :: false :: false :: false :: false :: false :: false :: false :: false :: false :: false :: false :: false :: false :: false :: false :: false :: false :: false :: false :: false :: false :: false :: false :: false :: false :: false :: false :: false :: false :: false :: [])
    · (try dsimp only [maskT]); try exact rfl
    · rfl
    exact ⟨(), by rfl, rfl⟩
   ·
    (try simp only [y1, y2, y3, y4, y5, y6, y7, y8, y9, y0, List.length_map] at hg2)
    obtain ⟨c, r, rfl⟩ := List.exists_cons_of_ne_nil hg2
    have hcl := c.toNat_lt
    apply drun_normT
    · (try dsimp only [zS, zN, zH, zT]); try exact rfl
    refine zd0w rfl rfl rfl (fun H => (op_move_tmp (by rfl))) (by dsimp only [zS, zN, zH, zT]) ?_
    refine zd0w rfl rfl rfl (fun H => (by first | exact op_nilCheck_ptr (by rfl) | exact op_nilCheck_elt (by rfl))) (by dsimp only [zS, zN, zH, zT]) ?_
    refine zd0w rfl rfl rfl (fun H => (by first | exact op_fieldAddr_ptr Try.underlying179 rfl Sz9 (by rfl) (by rfl) | exact op_fieldAddr_elt Try.underlying179 rfl Sz9 (by rfl) (by rfl) (by rfl))) (by dsimp only [zS, zN, zH, zT]) ?_
    refine zd1w rfl rfl rfl (by first | exact op_load_elt Try.underlying9 (by rfl) (by rfl) (by rfl) | exact op_load_ptr Try.underlying9 (by rfl) (by rfl) (by first | exact hb | exact setB_at hb) (by rfl)) (by dsimp only [zS, zN, zH, zT]) ?_
    refine zd0w rfl rfl rfl (fun H => (op_indexS Try.underlying9 (by rfl) (by rfl) (by decide) (show (c :: r)[(0 : Int).toNat]? = some c by rfl))) (by dsimp only [zS, zN, zH, zT]) ?_
    refine zd0w rfl rfl rfl (fun H => (op_gtI (by rfl) (by rfl))) (by dsimp only [zS, zN, zH, zT]) ?_
    refine zd0 (fun H => (op_pick_ff (by rfl) (val_tmp (by rfl)))) rfl (by dsimp only [zS, zN, zH, zT]) ?_
    refine zd0 (fun H => (op_move_tmp (by rfl))) rfl (by dsimp only [zS, zN, zH, zT]) ?_
    refine drun_split 30 rfl (fun hg3 => ?_) (fun hg3 => ?_)
    ·
     (try simp only [y1, y2, y3, y4, y5, y6, y7, y8, y9, y0, List.length_map] at hg3)
     have h8 : 8 < (c.toNat : Int) := hg3
     apply drun_normT
     · (try dsimp only [zS, zN, zH, zT]); try exact rfl
     refine zdU rfl rfl rfl rfl (by dsimp only [zS, zN, zH, zT]) ?_
     refine zdU rfl rfl rfl rfl (by dsimp only [zS, zN, zH, zT]) ?_
     refine zdU rfl rfl rfl rfl (by dsimp only [zS, zN, zH, zT]) ?_
     refine zdU rfl rfl rfl rfl (by dsimp only [zS, zN, zH, zT]) ?_
     refine zdU rfl rfl rfl rfl (by dsimp only [zS, zN, zH, zT]) ?_
     refine zdU rfl rfl rfl rfl (by dsimp only [zS, zN, zH, zT]) ?_
     refine zdU rfl rfl rfl rfl (by dsimp only [zS, zN, zH, zT]) ?_
     refine zdU rfl rfl rfl rfl (by dsimp only [zS, zN, zH, zT]) ?_
     refine zdU rfl rfl rfl rfl (by dsimp only [zS, zN, zH, zT]) ?_
     refine zdU rfl rfl rfl rfl (by dsimp only [zS, zN, zH, zT]) ?_
     refine zdU rfl rfl rfl rfl (by dsimp only [zS, zN, zH, zT]) ?_
     refine zdU rfl rfl rfl rfl (by dsimp only [zS, zN, zH, zT]) ?_
     refine zdU rfl rfl rfl rfl (by dsimp only [zS, zN, zH, zT]) ?_
     refine zd0 (fun H => (op_pick_tt (by rfl) (val_const (by rfl)))) rfl (by dsimp only [zS, zN, zH, zT]) ?_
     refine zd0 (fun H => (op_move_tmp (by rfl))) rfl (by dsimp only [zS, zN, zH, zT]) ?_
     refine zdU rfl rfl rfl rfl (by dsimp only [zS, zN, zH, zT]) ?_
     refine zdU rfl rfl rfl rfl (by dsimp only [zS, zN, zH, zT]) ?_
     refine zdU rfl rfl rfl rfl (by dsimp only [zS, zN, zH, zT]) ?_
     refine zdU rfl rfl rfl rfl (by dsimp only [zS, zN, zH, zT]) ?_
     refine zdU rfl rfl rfl rfl (by dsimp only [zS, zN, zH, zT]) ?_
     refine zdU rfl rfl rfl rfl (by dsimp only [zS, zN, zH, zT]) ?_
     refine zdU rfl rfl rfl rfl (by dsimp only [zS, zN, zH, zT]) ?_
     refine zdV rfl rfl rfl (by dsimp only [zS, zN, zH, zT]) ?_
     refine zdV rfl rfl rfl (by dsimp only [zS, zN, zH, zT]) ?_
     refine zdV rfl rfl rfl (by dsimp only [zS, zN, zH, zT]) ?_
     refine zdV rfl rfl rfl (by dsimp only [zS, zN, zH, zT]) ?_
     refine zdV rfl rfl rfl (by dsimp only [zS, zN, zH, zT]) ?_
     refine zdV rfl rfl rfl (by dsimp only [zS, zN, zH, zT]) ?_
     refine zdU rfl rfl rfl rfl (by dsimp only [zS, zN, zH, zT]) ?_
     refine zd0 (fun H => (op_pick_tt (by rfl) (val_const (by rfl)))) rfl (by dsimp only [zS, zN, zH, zT]) ?_
     refine drun_end rfl ?_
     apply cut_to (true :: true :: false :: false :: false :: false :: false :: false :: false :: false :: false :: false :: false :: false :: false :: false :: false :: false :: false :: false :: false :: false :: false :: false :: false :: false :: false :: false :: false :: false :: false :: false :: false :: false :: false :: false :: false :: false :: false :: false :: false :: false :: false :: false :: false :: false :: false :: false :: false :: false :: false :: false :: false :: false :: false :: false :: false :: false :: false :: false :: true :: false :: false :: false :: false :: false :: false :: false :: false :: false :: false :: false :: false :: false :: false :: false :: false :: false :: false :: false :: false :: false :: false :: false :: false :: false :: false :: false :: false :: false :: false :: false :: false :: false :: false :: false :: false :: false :: false :: false :: false :: false :: false :: false :: false :: false :: false :: [])
     · (try dsimp only [maskT]); try exact rfl
     · rfl
     exact ⟨(), by (rw [badN_big h8]) <;> rfl, rfl⟩
    ·
     (try simp only [y1, y2, y3, y4, y5, y6, y7, y8, y9, y0, List.length_map] at hg3)
     have h8 : ¬ 8 < (c.toNat : Int) := hg3
     apply drun_normT
     · (try dsimp only [zS, zN, zH, zT]); try exact rfl
     refine zd0w rfl rfl rfl (fun H => (op_move_tmp (by rfl))) (by dsimp only [zS, zN, zH, zT]) ?_
     refine zd0w rfl rfl rfl (fun H => (by first | exact op_nilCheck_ptr (by rfl) | exact op_nilCheck_elt (by rfl))) (by dsimp only [zS, zN, zH, zT]) ?_
     refine zd0w rfl rfl rfl (fun H => (by first | exact op_fieldAddr_ptr Try.underlying179 rfl Sz9 (by rfl) (by rfl) | exact op_fieldAddr_elt Try.underlying179 rfl Sz9 (by rfl) (by rfl) (by rfl))) (by dsimp only [zS, zN, zH, zT]) ?_
     refine zd1w rfl rfl rfl (by first | exact op_load_elt Try.underlying9 (by rfl) (by rfl) (by rfl) | exact op_load_ptr Try.underlying9 (by rfl) (by rfl) (by first | exact hb | exact setB_at hb) (by rfl)) (by dsimp only [zS, zN, zH, zT]) ?_
     refine zd0w rfl rfl rfl (fun H => (op_lenS Try.underlying9 (by rfl))) (by dsimp only [zS, zN, zH, zT]) ?_
     refine zd0w rfl rfl rfl (fun H => (op_move_tmp (by rfl))) (by dsimp only [zS, zN, zH, zT]) ?_
     refine zd0w rfl rfl rfl (fun H => (by first | exact op_nilCheck_ptr (by rfl) | exact op_nilCheck_elt (by rfl))) (by dsimp only [zS, zN, zH, zT]) ?_
     refine zd0w rfl rfl rfl (fun H => (by first | exact op_fieldAddr_ptr Try.underlying179 rfl Sz9 (by rfl) (by rfl) | exact op_fieldAddr_elt Try.underlying179 rfl Sz9 (by rfl) (by rfl) (by rfl))) (by dsimp only [zS, zN, zH, zT]) ?_
     refine zd1w rfl rfl rfl (by first | exact op_load_elt Try.underlying9 (by rfl) (by rfl) (by rfl) | exact op_load_ptr Try.underlying9 (by rfl) (by rfl) (by first | exact hb | exact setB_at hb) (by rfl)) (by dsimp only [zS, zN, zH, zT]) ?_
     refine zd0w rfl rfl rfl (fun H => (op_indexS Try.underlying9 (by rfl) (by rfl) (by decide) (show (c :: r)[(0 : Int).toNat]? = some c by rfl))) (by dsimp only [zS, zN, zH, zT]) ?_
     refine zd0w rfl rfl rfl (fun H => (by first | exact op_convI (by rw [Try.underlying5]; rfl) Try.underlying3 (by rfl) (wrap_i64 ⟨by omega, by omega⟩) | exact op_convI (by rw [Try.underlying5]; rfl) Try.underlying3 (by rfl) (by rfl))) (by dsimp only [zS, zN, zH, zT]) ?_
     refine zd0w rfl rfl rfl (fun H => (by first | exact op_add (by rfl) (by rfl) (wrap_i64 ⟨by omega, by omega⟩) | exact op_add (by rfl) (by rfl) (by rfl))) (by dsimp only [zS, zN, zH, zT]) ?_
     refine zd0w rfl rfl rfl (fun H => (op_ltI (by rfl) (by rfl))) (by dsimp only [zS, zN, zH, zT]) ?_
     refine zd0 (fun H => (op_pick_ff (by rfl) (val_tmp (by rfl)))) rfl (by dsimp only [zS, zN, zH, zT]) ?_
     refine zd0 (fun H => (op_move_tmp (by rfl))) rfl (by dsimp only [zS, zN, zH, zT]) ?_
     refine drun_split 45 rfl (fun hg4 => ?_) (fun hg4 => ?_)
     ·
      (try simp only [y1, y2, y3, y4, y5, y6, y7, y8, y9, y0, List.length_map] at hg4)
      have hsh : (((c :: r).length : Nat) : Int) < 1 + (c.toNat : Int) := hg4
      apply drun_normT
      · (try dsimp only [zS, zN, zH, zT]); try exact rfl
      refine zdU rfl rfl rfl rfl (by dsimp only [zS, zN, zH, zT]) ?_
      refine zdU rfl rfl rfl rfl (by dsimp only [zS, zN, zH, zT]) ?_
      refine zdU rfl rfl rfl rfl (by dsimp only [zS, zN, zH, zT]) ?_
      refine zdU rfl rfl rfl rfl (by dsimp only [zS, zN, zH, zT]) ?_
      refine zdU rfl rfl rfl rfl (by dsimp only [zS, zN, zH, zT]) ?_
      refine zdU rfl rfl rfl rfl (by dsimp only [zS, zN, zH, zT]) ?_
      refine zdU rfl rfl rfl rfl (by dsimp only [zS, zN, zH, zT]) ?_
      refine zdV rfl rfl rfl (by dsimp only [zS, zN, zH, zT]) ?_
      refine zdV rfl rfl rfl (by dsimp only [zS, zN, zH, zT]) ?_
      refine zdV rfl rfl rfl (by dsimp only [zS, zN, zH, zT]) ?_
      refine zdV rfl rfl rfl (by dsimp only [zS, zN, zH, zT]) ?_
      refine zdV rfl rfl rfl (by dsimp only [zS, zN, zH, zT]) ?_
      refine zdV rfl rfl rfl (by dsimp only [zS, zN, zH, zT]) ?_
      refine zdU rfl rfl rfl rfl (by dsimp only [zS, zN, zH, zT]) ?_
      refine zd0 (fun H => (op_pick_tt (by rfl) (val_const (by rfl)))) rfl (by dsimp only [zS, zN, zH, zT]) ?_
      refine drun_end rfl ?_
      apply cut_to (true :: true :: false :: false :: false :: false :: false :: false :: false :: false :: false :: false :: false :: false :: false :: false :: false :: false :: false :: false :: false :: false :: false :: false :: false :: false :: false :: false :: false :: false :: false :: false :: false :: false :: false :: false :: false :: false :: false :: false :: false :: false :: false :: false :: false :: false :: false :: false :: false :: false :: false :: false :: false :: false :: false :: false :: false :: false :: false :: false :: true :: false :: false :: false :: false :: false :: false :: false :: false :: false :: false :: false :: false :: false :: false :: false :: false :: false :: false :: false :: false :: false :: false :: false :: false :: false :: false :: false :: false :: false :: false :: false :: false :: false :: false :: false :: false :: false :: false :: false :: false :: false :: false :: false :: false :: false :: false :: [])
      · (try dsimp only [maskT]); try exact rfl
      · rfl
      exact ⟨(), by (rw [badN_short hsh]) <;> rfl, rfl⟩
     ·
      (try simp only [y1, y2, y3, y4, y5, y6, y7, y8, y9, y0, List.length_map] at hg4)
      have hsh : ¬ (((c :: r).length : Nat) : Int) < 1 + (c.toNat : Int) := hg4
      apply drun_normT
      · (try dsimp only [zS, zN, zH, zT]); try exact rfl
      refine zd0w rfl rfl rfl (fun H => (op_move_tmp (by rfl))) (by dsimp only [zS, zN, zH, zT]) ?_
      refine zd0w rfl rfl rfl (fun H => (by first | exact op_nilCheck_ptr (by rfl) | exact op_nilCheck_elt (by rfl))) (by dsimp only [zS, zN, zH, zT]) ?_
      refine zd0w rfl rfl rfl (fun H => (by first | exact op_fieldAddr_ptr Try.underlying179 rfl Sz9 (by rfl) (by rfl) | exact op_fieldAddr_elt Try.underlying179 rfl Sz9 (by rfl) (by rfl) (by rfl))) (by dsimp only [zS, zN, zH, zT]) ?_
      refine zd1w rfl rfl rfl (by first | exact op_load_elt Try.underlying9 (by rfl) (by rfl) (by rfl) | exact op_load_ptr Try.underlying9 (by rfl) (by rfl) (by first | exact hb | exact setB_at hb) (by rfl)) (by dsimp only [zS, zN, zH, zT]) ?_
      refine zd0w rfl rfl rfl (fun H => (op_indexS Try.underlying9 (by rfl) (by rfl) (by decide) (show (c :: r)[(0 : Int).toNat]? = some c by rfl))) (by dsimp only [zS, zN, zH, zT]) ?_
      refine zd0w rfl rfl rfl (fun H => (op_gtI (by rfl) (by rfl))) (by dsimp only [zS, zN, zH, zT]) ?_
      refine zd0w rfl rfl rfl (fun H => (op_move_tmp (by rfl))) (by dsimp only [zS, zN, zH, zT]) ?_
      refine drun_split 52 rfl (fun hg5 => ?_) (fun hg5 => ?_)
      ·
       (try simp only [y1, y2, y3, y4, y5, y6, y7, y8, y9, y0, List.length_map] at hg5)
       have h0 : 0 < (c.toNat : Int) := hg5
       obtain ⟨d, r, rfl⟩ : ∃ d q, r = d :: q := List.exists_cons_of_ne_nil (by intro h; subst h; simp at hsh; omega)
       apply drun_normT
       · (try dsimp only [zS, zN, zH, zT]); try exact rfl
       refine zd0w rfl rfl rfl (fun H => (op_move_tmp (by rfl))) (by dsimp only [zS, zN, zH, zT]) ?_
       refine zd0w rfl rfl rfl (fun H => (by first | exact op_nilCheck_ptr (by rfl) | exact op_nilCheck_elt (by rfl))) (by dsimp only [zS, zN, zH, zT]) ?_
       refine zd0w rfl rfl rfl (fun H => (by first | exact op_fieldAddr_ptr Try.underlying179 rfl Sz9 (by rfl) (by rfl) | exact op_fieldAddr_elt Try.underlying179 rfl Sz9 (by rfl) (by rfl) (by rfl))) (by dsimp only [zS, zN, zH, zT]) ?_
       refine zd1w rfl rfl rfl (by first | exact op_load_elt Try.underlying9 (by rfl) (by rfl) (by rfl) | exact op_load_ptr Try.underlying9 (by rfl) (by rfl) (by first | exact hb | exact setB_at hb) (by rfl)) (by dsimp only [zS, zN, zH, zT]) ?_
       refine zd0w rfl rfl rfl (fun H => (op_indexS Try.underlying9 (by rfl) (by rfl) (by decide) (show (c :: d :: r)[(1 : Int).toNat]? = some d by rfl))) (by dsimp only [zS, zN, zH, zT]) ?_
       refine zd0w rfl rfl rfl (fun H => (op_eqI (by rfl) (by rfl))) (by dsimp only [zS, zN, zH, zT]) ?_
       refine zd0w rfl rfl rfl (fun H => (op_pick_tt (by rfl) (val_tmp (by rfl)))) (by dsimp only [zS, zN, zH, zT]) ?_
       refine zd0 (fun H => (op_pick_ff (by rfl) (val_tmp (by rfl)))) rfl (by dsimp only [zS, zN, zH, zT]) ?_
       refine drun_end rfl ?_
       apply cut_to (true :: true :: false :: false :: false :: false :: false :: false :: false :: false :: false :: false :: false :: false :: false :: false :: false :: false :: false :: false :: false :: false :: false :: false :: false :: false :: false :: false :: false :: false :: false :: false :: false :: false :: false :: false :: false :: false :: false :: false :: false :: false :: false :: false :: false :: false :: false :: false :: false :: false :: false :: false :: false :: false :: false :: false :: false :: false :: false :: false :: true :: false :: false :: false :: false :: false :: false :: false :: false :: false :: false :: false :: false :: false :: false :: false :: false :: false :: false :: false :: false :: false :: false :: false :: false :: false :: false :: false :: false :: false :: false :: false :: false :: false :: false :: false :: false :: false :: false :: false :: false :: false :: false :: false :: false :: false :: false :: [])
       · (try dsimp only [maskT]); try exact rfl
       · rfl
       exact ⟨(), by (rw [badN_two h8 hsh h0]) <;> rfl, rfl⟩
      ·
       (try simp only [y1, y2, y3, y4, y5, y6, y7, y8, y9, y0, List.length_map] at hg5)
       have h0 : ¬ 0 < (c.toNat : Int) := hg5
       apply drun_normT
       · (try dsimp only [zS, zN, zH, zT]); try exact rfl
       refine zdU rfl rfl rfl rfl (by dsimp only [zS, zN, zH, zT]) ?_
       refine zdU rfl rfl rfl rfl (by dsimp only [zS, zN, zH, zT]) ?_
       refine zdU rfl rfl rfl rfl (by dsimp only [zS, zN, zH, zT]) ?_
       refine zdU rfl rfl rfl rfl (by dsimp only [zS, zN, zH, zT]) ?_
       refine zdU rfl rfl rfl rfl (by dsimp only [zS, zN, zH, zT]) ?_
       refine zdU rfl rfl rfl rfl (by dsimp only [zS, zN, zH, zT]) ?_
       refine zd0w rfl rfl rfl (fun H => (op_pick_ff (by rfl) (val_const (by rfl)))) (by dsimp only [zS, zN, zH, zT]) ?_
       refine zd0 (fun H => (op_pick_ff (by rfl) (val_tmp (by rfl)))) rfl (by dsimp only [zS, zN, zH, zT]) ?_
       refine drun_end rfl ?_
       apply cut_to (true :: true :: false :: false :: false :: false :: false :: false :: false :: false :: false :: false :: false :: false :: false :: false :: false :: false :: false :: false :: false :: false :: false :: false :: false :: false :: false :: false :: false :: false :: false :: false :: false :: false :: false :: false :: false :: false :: false :: false :: false :: false :: false :: false :: false :: false :: false :: false :: false :: false :: false :: false :: false :: false :: false :: false :: false :: false :: false :: false :: true :: false :: false :: false :: false :: false :: false :: false :: false :: false :: false :: false :: false :: false :: false :: false :: false :: false :: false :: false :: false :: false :: false :: false :: false :: false :: false :: false :: false :: false :: false :: false :: false :: false :: false :: false :: false :: false :: false :: false :: false :: false :: false :: false :: false :: false :: false :: [])
       · (try dsimp only [maskT]); try exact rfl
       · rfl
       exact ⟨(), by (rw [badN_one h8 hsh h0]) <;> rfl, rfl⟩
  rintro T H ⟨u, rfl, rfl⟩
  refine aw_cond rfl (fun hc6 => ?_) (fun hc6 => ?_)
  ·
   (try simp only [y1, y2, y3, y4, y5, y6, y7, y8, y9, y0, List.length_map] at hc6)
   have hB : badN s = true := hc6
   refine aw_seq ?_
   refine aw_region ?_
   refine zst (op_move_tmp (by rfl)) rfl (by dsimp only [zS, zN, zH, zT]) ?_
   refine zst (op_callF Try.func89 (by rfl) (by rfl) (.tmp (by rfl) .nil) (fail_ok _ id _ _ hb)) rfl (by dsimp only [zS, zN, zH, zT]) ?_
   refine al_end rfl ?_
   refine then_normal ?_
   refine aw_seq ?_
   refine aw_region ?_
   refine zst (op_assign_const (by rfl)) rfl (by dsimp only [zS, zN, zH, zT]) ?_
   refine al_end rfl ?_
   refine then_normal ?_
   refine aw_ret ?_
   refine then_ret ?_
   refine retPost1 rfl rfl ?_
   rw [rNum_badN hB]; exact ⟨rfl, rfl⟩
  ·
   (try simp only [y1, y2, y3, y4, y5, y6, y7, y8, y9, y0, List.length_map] at hc6)
   have hB : badN s = false := hc6
   obtain ⟨c, r, rfl⟩ : ∃ c r, s = c :: r := by cases s with | nil => cases hB | cons c r => exact ⟨c, r, rfl⟩
   have hcl := c.toNat_lt
   obtain ⟨hc8, hcr⟩ := badN_false hB
   have hbl : (r.take c.toNat).length = c.toNat := by simp; omega
   refine aw_skip ?_
   refine then_normal ?_
   refine aw_seq ?_
   refine aw_region ?_
   refine zst (op_move_tmp (by rfl)) rfl (by dsimp only [zS, zN, zH, zT]) ?_
   refine zst (by first | exact op_nilCheck_ptr (by rfl) | exact op_nilCheck_elt (by rfl)) rfl (by dsimp only [zS, zN, zH, zT]) ?_
   refine zst (by first | exact op_fieldAddr_ptr Try.underlying179 rfl Sz9 (by rfl) (by rfl) | exact op_fieldAddr_elt Try.underlying179 rfl Sz9 (by rfl) (by rfl) (by rfl)) rfl (by dsimp only [zS, zN, zH, zT]) ?_
   refine zst (by first | exact op_load_elt Try.underlying9 (by rfl) (by rfl) (by rfl) | exact op_load_ptr Try.underlying9 (by rfl) (by rfl) (by first | exact hb | exact setB_at hb) (by rfl)) rfl (by dsimp only [zS, zN, zH, zT]) ?_
   refine zst (op_indexS Try.underlying9 (by rfl) (by rfl) (by decide) (show (c :: r)[(0 : Int).toNat]? = some c by rfl)) rfl (by dsimp only [zS, zN, zH, zT]) ?_
   refine zst (by first | exact op_convI (by rw [Try.underlying5]; rfl) Try.underlying3 (by rfl) (wrap_i64 ⟨by omega, by omega⟩) | exact op_convI (by rw [Try.underlying5]; rfl) Try.underlying3 (by rfl) (by rfl)) rfl (by dsimp only [zS, zN, zH, zT]) ?_
   refine zst (op_assign_tmp (by rfl)) rfl (by dsimp only [zS, zN, zH, zT]) ?_
   refine al_end rfl ?_
   refine then_normal ?_
   refine aw_seq ?_
   refine aw_region ?_
   refine zst (op_assign_const (by rfl)) rfl (by dsimp only [zS, zN, zH, zT]) ?_
   refine al_end rfl ?_
   refine then_normal ?_
   refine aw_seq ?_
   refine aw_seq ?_
   refine aw_region ?_
   refine zst (op_move_tmp (by rfl)) rfl (by dsimp only [zS, zN, zH, zT]) ?_
   refine zst (by first | exact op_nilCheck_ptr (by rfl) | exact op_nilCheck_elt (by rfl)) rfl (by dsimp only [zS, zN, zH, zT]) ?_
   refine zst (by first | exact op_fieldAddr_ptr Try.underlying179 rfl Sz9 (by rfl) (by rfl) | exact op_fieldAddr_elt Try.underlying179 rfl Sz9 (by rfl) (by rfl) (by rfl)) rfl (by dsimp only [zS, zN, zH, zT]) ?_
   refine zst (by first | exact op_load_elt Try.underlying9 (by rfl) (by rfl) (by rfl) | exact op_load_ptr Try.underlying9 (by rfl) (by rfl) (by first | exact hb | exact setB_at hb) (by rfl)) rfl (by dsimp only [zS, zN, zH, zT]) ?_
   refine zst (op_move_tmp (by rfl)) rfl (by dsimp only [zS, zN, zH, zT]) ?_
   refine zst (by first | exact op_add (by rfl) (by rfl) (wrap_i64 ⟨by omega, by omega⟩) | exact op_add (by rfl) (by rfl) (by rfl)) rfl (by dsimp only [zS, zN, zH, zT]) ?_
   refine zst (op_sliceS2 (r.take c.toNat) Try.underlying9 (by rfl) (by rfl) (by rfl) (by omega) (by omega) (by simp; omega) (by rw [show (1 : Int).toNat = 1 by rfl, show (1 + (c.toNat : Int)).toNat - 1 = c.toNat by omega]; rfl)) rfl (by dsimp only [zS, zN, zH, zT]) ?_
   refine zst (op_bytes Try.underlying9 Try.underlying49 Try.underlying5 (by rfl)) rfl (by dsimp only [zS, zN, zH, zT]) ?_
   refine zst (op_lenL Try.underlying49 (by first | exact LL.d _ _ | exact LL.own _ _ _ | exact LL.nil _ | assumption)) rfl (by dsimp only [zS, zN, zH, zT]) ?_
   refine zst (op_move_const (by rfl)) rfl (by dsimp only [zS, zN, zH, zT]) ?_
   refine al_end rfl ?_
   refine then_normal ?_
   refine aw_block ?_
   apply aw_loopF (fun n T H => ∃ (k : Nat), T = ((.ptr id 0) :: (.d (I most)) :: .un :: .un :: .un :: (.d (I c.toNat)) :: (.d (.v (.int .u64 (val ((r.take c.toNat).take k))))) :: .un :: .un :: .un :: .un :: .un :: .un :: .un :: .un :: .un :: .un :: .un :: .un :: .un :: .un :: .un :: .un :: .un :: .un :: .un :: .un :: .un :: .un :: .un :: .un :: .un :: .un :: .un :: .un :: .un :: .un :: .un :: .un :: .un :: .un :: .un :: .un :: .un :: .un :: .un :: .un :: .un :: .un :: .un :: .un :: .un :: .un :: .un :: .un :: .un :: .un :: .un :: .un :: .un :: .un :: .un :: .un :: .un :: .un :: .un :: .un :: .un :: .un :: .un :: .un :: .un :: .un :: .un :: .un :: .un :: (.d (.lst 1 ((r.take c.toNat).map BY))) :: (.d (I ((r.take c.toNat).map BY).length)) :: (.d (I k)) :: .un :: .un :: .un :: .un :: .un :: .un :: .un :: .un :: .un :: .un :: .un :: .un :: .un :: .un :: .un :: .un :: .un :: .un :: .un :: .un :: .un :: .un :: .un :: .un :: .un :: .un :: .un :: .un :: []) ∧ k ≤ c.toNat ∧ n = c.toNat - k ∧ Hs = H) (c.toNat) (true :: true :: false :: false :: false :: true :: true :: false :: false :: false :: false :: false :: false :: false :: false :: false :: false :: false :: false :: false :: false :: false :: false :: false :: false :: false :: false :: false :: false :: false :: false :: false :: false :: false :: false :: false :: false :: false :: false :: false :: false :: false :: false :: false :: false :: false :: false :: false :: false :: false :: false :: false :: false :: false :: false :: false :: false :: false :: false :: false :: false :: false :: false :: false :: false :: false :: false :: false :: false :: false :: false :: false :: false :: false :: false :: false :: true :: true :: true :: false :: false :: false :: false :: false :: false :: false :: false :: false :: false :: false :: false :: false :: false :: false :: false :: false :: false :: false :: false :: false :: false :: false :: false :: false :: false :: false :: false :: [])
   · (try dsimp only [maskT]); try exact rfl
   · rfl
   · exact ⟨0, rfl, by omega, rfl, rfl⟩
   rintro n T H ⟨k, rfl, hk, rfl, rfl⟩
   have hv := val_lt ((r.take c.toNat).take k)
   have hT : ((r.take c.toNat).take k).length = k := by rw [List.length_take]; omega
   rw [hT] at hv
   refine aw_seq ?_
   refine aw_region ?_
   refine zst (op_ltI (by rfl) (by rfl)) rfl (by dsimp only [zS, zN, zH, zT]) ?_
   refine al_end rfl ?_
   refine then_normal ?_
   refine aw_seq ?_
   refine aw_cond rfl (fun hc7 => ?_) (fun hc7 => ?_)
   ·
    (try simp only [y1, y2, y3, y4, y5, y6, y7, y8, y9, y0, List.length_map] at hc7)
    (try simp only [List.length_map] at hc7)
    have hlt : k < c.toNat := by omega
    obtain ⟨x, hx⟩ : ∃ x, (r.take c.toNat)[k]? = some x := ⟨_, List.getElem?_eq_getElem (by omega)⟩
    have hxl := x.toNat_lt
    have hv7 : val ((r.take c.toNat).take k) < 256 ^ 7 := Nat.lt_of_lt_of_le hv (Nat.pow_le_pow_right (by decide) (by omega))
    have hv' : val ((r.take c.toNat).take k) < 72057594037927936 := by simpa using hv7
    refine aw_skip ?_
    refine then_normal ?_
    refine aw_seq ?_
    refine aw_block ?_
    refine aw_seq ?_
    refine aw_region ?_
    refine zst (op_indexAddr Try.underlying49 Sz5 (LL.d _ _) (by rfl) (by omega) (show ((r.take c.toNat).map BY)[((k : Nat) : Int).toNat]? = some (BY x) by rw [List.getElem?_map, show ((k : Nat) : Int).toNat = k from rfl, hx]; rfl) (by rfl)) rfl (by dsimp only [zS, zN, zH, zT]) ?_
    refine zst (by first | exact op_load_elt Try.underlying5 (by rfl) (by rfl) (by rfl) | exact op_load_ptr Try.underlying5 (by rfl) (by rfl) (by first | exact hb | exact setB_at hb) (by rfl)) rfl (by dsimp only [zS, zN, zH, zT]) ?_
    refine zst (op_assign_tmp (by rfl)) rfl (by dsimp only [zS, zN, zH, zT]) ?_
    refine al_end rfl ?_
    refine then_normal ?_
    refine aw_region ?_
    refine zst (op_move_tmp (by rfl)) rfl (by dsimp only [zS, zN, zH, zT]) ?_
    refine zst (op_shl (by rfl) (by rfl) (by omega) (shl8 hv7)) rfl (by dsimp only [zS, zN, zH, zT]) ?_
    refine zst (op_move_tmp (by rfl)) rfl (by dsimp only [zS, zN, zH, zT]) ?_
    refine zst (by first | exact op_convI (by rw [Try.underlying5]; rfl) Try.underlying177 (by rfl) (wrap_u64 ⟨by omega, by omega⟩) | exact op_convI (by rw [Try.underlying5]; rfl) Try.underlying177 (by rfl) (by rfl)) rfl (by dsimp only [zS, zN, zH, zT]) ?_
    refine zst (op_or (by rfl) (by rfl) ((or_byte hv7 hxl).trans (by rw [← val_snoc, ← take_snoc hx]))) rfl (by dsimp only [zS, zN, zH, zT]) ?_
    refine zst (op_assign_tmp (by rfl)) rfl (by dsimp only [zS, zN, zH, zT]) ?_
    refine al_end rfl ?_
    refine inBlock_normal (then_normal ?_)
    refine aw_region ?_
    refine zst (by first | exact op_add (by rfl) (by rfl) (wrap_i64 ⟨by omega, by omega⟩) | exact op_add (by rfl) (by rfl) (by rfl)) rfl (by dsimp only [zS, zN, zH, zT]) ?_
    refine zst (op_move_tmp (by rfl)) rfl (by dsimp only [zS, zN, zH, zT]) ?_
    refine al_end rfl ?_
    apply again_to (c.toNat - (k + 1)) (true :: true :: false :: false :: false :: true :: true :: false :: false :: false :: false :: false :: false :: false :: false :: false :: false :: false :: false :: false :: false :: false :: false :: false :: false :: false :: false :: false :: false :: false :: false :: false :: false :: false :: false :: false :: false :: false :: false :: false :: false :: false :: false :: false :: false :: false :: false :: false :: false :: false :: false :: false :: false :: false :: false :: false :: false :: false :: false :: false :: false :: false :: false :: false :: false :: false :: false :: false :: false :: false :: false :: false :: false :: false :: false :: false :: true :: true :: true :: false :: false :: false :: false :: false :: false :: false :: false :: false :: false :: false :: false :: false :: false :: false :: false :: false :: false :: false :: false :: false :: false :: false :: false :: false :: false :: false :: false :: [])
    · (try dsimp only [maskT]); try exact rfl
    · rfl
    · omega
    exact ⟨k + 1, rfl, by omega, rfl, rfl⟩
   ·
    (try simp only [y1, y2, y3, y4, y5, y6, y7, y8, y9, y0, List.length_map] at hc7)
    (try simp only [List.length_map] at hc7)
    have hke : k = c.toNat := by omega
    subst hke
    rw [List.take_of_length_le (by omega : (r.take c.toNat).length ≤ c.toNat)] at hv ⊢
    have hv8 : val (r.take c.toNat) < 256 ^ 8 := Nat.lt_of_lt_of_le hv (Nat.pow_le_pow_right (by decide) hc8)
    have hv9 : val (r.take c.toNat) < 18446744073709551616 := by simpa using hv8
    refine aw_exit ?_
    refine then_exit (again_exit (inBlock_here (then_normal ?_)))
    refine aw_seq ?_
    refine aw_region ?_
    refine zst (op_move_tmp (by rfl)) rfl (by dsimp only [zS, zN, zH, zT]) ?_
    refine zst (op_move_tmp (by rfl)) rfl (by dsimp only [zS, zN, zH, zT]) ?_
    refine zst (by first | exact op_nilCheck_ptr (by rfl) | exact op_nilCheck_elt (by rfl)) rfl (by dsimp only [zS, zN, zH, zT]) ?_
    refine zst (by first | exact op_fieldAddr_ptr Try.underlying179 rfl Sz9 (by rfl) (by rfl) | exact op_fieldAddr_elt Try.underlying179 rfl Sz9 (by rfl) (by rfl) (by rfl)) rfl (by dsimp only [zS, zN, zH, zT]) ?_
    refine zst (by first | exact op_load_elt Try.underlying9 (by rfl) (by rfl) (by rfl) | exact op_load_ptr Try.underlying9 (by rfl) (by rfl) (by first | exact hb | exact setB_at hb) (by rfl)) rfl (by dsimp only [zS, zN, zH, zT]) ?_
    refine zst (op_move_tmp (by rfl)) rfl (by dsimp only [zS, zN, zH, zT]) ?_
    refine zst (by first | exact op_add (by rfl) (by rfl) (wrap_i64 ⟨by omega, by omega⟩) | exact op_add (by rfl) (by rfl) (by rfl)) rfl (by dsimp only [zS, zN, zH, zT]) ?_
    refine zst (op_sliceS1 (r.drop c.toNat) Try.underlying9 (by rfl) (by rfl) (by omega) (by simp; omega) (by rw [show (1 + (c.toNat : Int)).toNat = c.toNat + 1 by omega]; rfl)) rfl (by dsimp only [zS, zN, zH, zT]) ?_
    refine zst (by first | exact op_nilCheck_ptr (by rfl) | exact op_nilCheck_elt (by rfl)) rfl (by dsimp only [zS, zN, zH, zT]) ?_
    refine zst (by first | exact op_fieldAddr_ptr Try.underlying179 rfl Sz9 (by rfl) (by rfl) | exact op_fieldAddr_elt Try.underlying179 rfl Sz9 (by rfl) (by rfl) (by rfl)) rfl (by dsimp only [zS, zN, zH, zT]) ?_
    refine zst (op_storeB (vs := [.d (S (r.drop c.toNat))]) (b' := ⟨179, [.d (S (r.drop c.toNat)), .d (TF false)], false⟩) (H' := Hs.setB id ⟨179, [.d (S (r.drop c.toNat)), .d (TF false)], false⟩) Sz9 (by rfl) hb (by intro h; cases h) (by rfl) (by rfl) (Nat.le_of_ble_eq_true rfl) (by simp [AV.one, DV.one, TF, S, I, BY]) (by rfl) (by rfl) rfl) rfl (by dsimp only [zS, zN, zH, zT]) ?_
    refine al_end rfl ?_
    refine then_normal ?_
    refine aw_seq ?_
    refine aw_seq ?_
    refine aw_region ?_
    refine zst (op_move_tmp (by rfl)) rfl (by dsimp only [zS, zN, zH, zT]) ?_
    refine zst (op_move_tmp (by rfl)) rfl (by dsimp only [zS, zN, zH, zT]) ?_
    refine zst (op_max (by rfl) (by rfl)) rfl (by dsimp only [zS, zN, zH, zT]) ?_
    refine zst (op_convI (by rw [Try.underlying3]; rfl) Try.underlying177 (by rfl) (wrap_u64 (by split <;> omega))) rfl (by dsimp only [zS, zN, zH, zT]) ?_
    refine zst (op_gtI (by rfl) (by rfl)) rfl (by dsimp only [zS, zN, zH, zT]) ?_
    refine al_end rfl ?_
    refine then_normal ?_
    refine aw_cond rfl (fun hc8 => ?_) (fun hc8 => ?_)
    ·
     (try simp only [y1, y2, y3, y4, y5, y6, y7, y8, y9, y0, List.length_map] at hc8)
     have hbig := hc8
     refine aw_seq ?_
     refine aw_region ?_
     refine zst (op_move_tmp (by rfl)) rfl (by dsimp only [zS, zN, zH, zT]) ?_
     refine zst (op_callF Try.func89 (by rfl) (by rfl) (.tmp (by rfl) .nil) (fail_ok _ id _ _ (setB_at hb))) rfl (by dsimp only [zS, zN, zH, zT]) ?_
     refine al_end rfl ?_
     refine then_normal ?_
     refine aw_seq ?_
     refine aw_region ?_
     refine zst (op_assign_const (by rfl)) rfl (by dsimp only [zS, zN, zH, zT]) ?_
     refine al_end rfl ?_
     refine then_normal ?_
     refine aw_ret ?_
     refine then_ret ?_
     refine retPost1 rfl rfl ?_
     rw [rNum_big hB hbig]; exact ⟨rfl, setB_setB⟩
    ·
     (try simp only [y1, y2, y3, y4, y5, y6, y7, y8, y9, y0, List.length_map] at hc8)
     have hsm := hc8
     refine aw_skip ?_
     refine then_normal ?_
     refine aw_seq ?_
     refine aw_region ?_
     refine zst (op_move_tmp (by rfl)) rfl (by dsimp only [zS, zN, zH, zT]) ?_
     refine zst (op_convI (by rw [Try.underlying177]; rfl) Try.underlying3 (by rfl) (wrap_i64 (by split at hsm <;> omega))) rfl (by dsimp only [zS, zN, zH, zT]) ?_
     refine zst (op_assign_tmp (by rfl)) rfl (by dsimp only [zS, zN, zH, zT]) ?_
     refine al_end rfl ?_
     refine then_normal ?_
     refine aw_ret ?_
     refine retPost1 rfl rfl ?_
     rw [rNum_ok hB hsm]; exact ⟨rfl, rfl⟩
theorem num_at {Hs : HS} {id : Nat} {s s' : List UInt8} {bad bad' : Bool} {most : Int} {n : Nat} (hr : rNum most (s, bad) = (n, (s', bad'))) (hb : Hs.blks[id]? = some (RB 179 (s, bad))) (hm : most ≤ 9223372036854775807) : ACalls Try.prog 57 [.ptr id 0, .d (I most)] Hs (Ret (.d (I n)) (Hs.setB id (RB 179 (s', bad')))) := by
  have h := num_ok Hs id s bad most hb hm
  rwa [hr] at h
set_option maxRecDepth 100000 in
theorem rtext_ok (Hs : HS) (id : Nat) (s : List UInt8) (bad : Bool) (most : Int) (hb : Hs.blks[id]? = some (RB 179 (s, bad))) (hm : most ≤ 9223372036854775807) : ACalls Try.prog 58 [.ptr id 0, .d (I most)] Hs (Ret (.d (S (rText most (s, bad)).1)) (Hs.setB id (RB 179 (rText most (s, bad)).2))) := by
 obtain ⟨n, ⟨s', bad'⟩, hr⟩ : ∃ n st, rNum most (s, bad) = (n, st) := ⟨_, _, rfl⟩
 have hb1 : (Hs.setB id (RB 179 (s', bad'))).blks[id]? = some ⟨179, [.d (S s'), .d (TF bad')], false⟩ := setB_at hb
 have hnum : ACalls Try.prog 57 [.ptr id 0, .d (I most)] Hs (Ret (.d (I n)) (Hs.setB id (RB 179 (s', bad')))) := by have h := num_ok Hs id s bad most hb hm; rwa [hr] at h
 have hn0 : (0 : Int) ≤ n := by omega
 refine acalls_of_aw Try.func58 rfl ?_
 refine aw_start (T' := [.ptr id 0, .d (I most), .un, .un, .un, .un, .un, .un, .un, .un, .un, .un, .un, .un, .un, .un, .un, .un, .un, .un, .un, .un, .un, .un, .un, .un, .un, .un, .un, .un, .un, .un, .un, .un, .un, .un, .un, .un, .un, .un, .un, .un, .un]) rfl ?_
 refine aw_seq ?_
 refine aw_region ?_
 refine zst (op_assign_const (by rfl)) rfl (by dsimp only [zS, zN, zH, zT]) ?_
 refine al_end rfl ?_
 refine then_normal ?_
 refine aw_seq ?_
 refine aw_region ?_
 refine zst (op_move_tmp (by rfl)) rfl (by dsimp only [zS, zN, zH, zT]) ?_
 refine zst (op_move_tmp (by rfl)) rfl (by dsimp only [zS, zN, zH, zT]) ?_
 refine zst (op_callF Try.func57 (by rfl) (by rfl) (.tmp (by rfl) (.tmp (by rfl) .nil)) (hnum)) rfl (by dsimp only [zS, zN, zH, zT]) ?_
 refine zst (op_assign_tmp (by rfl)) rfl (by dsimp only [zS, zN, zH, zT]) ?_
 refine al_end rfl ?_
 refine then_normal ?_
 refine aw_seq ?_
 refine aw_seq ?_
 refine aw_region ?_
 refine zst (op_move_tmp (by rfl)) rfl (by dsimp only [zS, zN, zH, zT]) ?_
 refine zst (op_ptr_nil Try.underlying124 (by rfl) (by rfl)) rfl (by dsimp only [zS, zN, zH, zT]) ?_
 refine zst (op_move_tmp (by rfl)) rfl (by dsimp only [zS, zN, zH, zT]) ?_
 refine zsw rfl rfl rfl (op_move_tmp (by rfl)) (by dsimp only [zS, zN, zH, zT]) ?_
 refine zsw rfl rfl rfl (by first | exact op_nilCheck_ptr (by rfl) | exact op_nilCheck_elt (by rfl)) (by dsimp only [zS, zN, zH, zT]) ?_
 refine zsw rfl rfl rfl (by first | exact op_fieldAddr_ptr Try.underlying179 rfl Sz4 (by rfl) (by rfl) | exact op_fieldAddr_elt Try.underlying179 rfl Sz4 (by rfl) (by rfl) (by rfl)) (by dsimp only [zS, zN, zH, zT]) ?_
 refine zsw rfl rfl rfl (by first | exact op_load_elt Try.underlying4 (by rfl) (by rfl) (by rfl) | exact op_load_ptr Try.underlying4 (by rfl) (by rfl) hb1 (by rfl)) (by dsimp only [zS, zN, zH, zT]) ?_
 refine zst (op_pick_ff (by rfl) (val_tmp (by rfl))) rfl (by dsimp only [zS, zN, zH, zT]) ?_
 refine al_end rfl ?_
 refine then_normal ?_
 refine aw_cond rfl (fun hc1 => ?_) (fun hc1 => ?_)
 ·
  (try simp only [y1, y2, y3, y4, y5, y6, y7, y8, y9, y0, List.length_map] at hc1)
  have hbad : bad' = true := hc1
  refine aw_seq ?_
  refine aw_region ?_
  refine zst (op_assign_const (by rfl)) rfl (by dsimp only [zS, zN, zH, zT]) ?_
  refine al_end rfl ?_
  refine then_normal ?_
  refine aw_ret ?_
  refine then_ret ?_
  refine retPost1 rfl rfl ?_
  have e : rText most (s, bad) = ([], (s', bad')) := by simp [rText, hr, hbad]
  rw [e]; exact ⟨rfl, rfl⟩
 ·
  (try simp only [y1, y2, y3, y4, y5, y6, y7, y8, y9, y0, List.length_map] at hc1)
  have hbad : bad' = false := hc1
  subst hbad
  refine aw_skip ?_
  refine then_normal ?_
  refine aw_seq ?_
  refine aw_seq ?_
  refine aw_region ?_
  refine zst (op_move_tmp (by rfl)) rfl (by dsimp only [zS, zN, zH, zT]) ?_
  refine zst (op_move_tmp (by rfl)) rfl (by dsimp only [zS, zN, zH, zT]) ?_
  refine zst (by first | exact op_nilCheck_ptr (by rfl) | exact op_nilCheck_elt (by rfl)) rfl (by dsimp only [zS, zN, zH, zT]) ?_
  refine zst (by first | exact op_fieldAddr_ptr Try.underlying179 rfl Sz9 (by rfl) (by rfl) | exact op_fieldAddr_elt Try.underlying179 rfl Sz9 (by rfl) (by rfl) (by rfl)) rfl (by dsimp only [zS, zN, zH, zT]) ?_
  refine zst (by first | exact op_load_elt Try.underlying9 (by rfl) (by rfl) (by rfl) | exact op_load_ptr Try.underlying9 (by rfl) (by rfl) hb1 (by rfl)) rfl (by dsimp only [zS, zN, zH, zT]) ?_
  refine zst (op_lenS Try.underlying9 (by rfl)) rfl (by dsimp only [zS, zN, zH, zT]) ?_
  refine zst (op_gtI (by rfl) (by rfl)) rfl (by dsimp only [zS, zN, zH, zT]) ?_
  refine al_end rfl ?_
  refine then_normal ?_
  refine aw_cond rfl (fun hc2 => ?_) (fun hc2 => ?_)
  ·
   (try simp only [y1, y2, y3, y4, y5, y6, y7, y8, y9, y0, List.length_map] at hc2)
   have hlt : s'.length < n := by omega
   refine aw_seq ?_
   refine aw_region ?_
   refine zst (op_move_tmp (by rfl)) rfl (by dsimp only [zS, zN, zH, zT]) ?_
   refine zst (op_callF Try.func89 (by rfl) (by rfl) (.tmp (by rfl) .nil) (fail_ok _ id _ _ hb1)) rfl (by dsimp only [zS, zN, zH, zT]) ?_
   refine al_end rfl ?_
   refine then_normal ?_
   refine aw_seq ?_
   refine aw_region ?_
   refine zst (op_assign_const (by rfl)) rfl (by dsimp only [zS, zN, zH, zT]) ?_
   refine al_end rfl ?_
   refine then_normal ?_
   refine aw_ret ?_
   refine then_ret ?_
   refine retPost1 rfl rfl ?_
   have e : rText most (s, bad) = ([], ([], true)) := by simp [rText, hr, hlt]
   rw [e]; exact ⟨rfl, setB_setB⟩
  ·
   (try simp only [y1, y2, y3, y4, y5, y6, y7, y8, y9, y0, List.length_map] at hc2)
   have hge : n ≤ s'.length := by omega
   refine aw_skip ?_
   refine then_normal ?_
   refine aw_seq ?_
   refine aw_region ?_
   refine zst (op_move_tmp (by rfl)) rfl (by dsimp only [zS, zN, zH, zT]) ?_
   refine zst (by first | exact op_nilCheck_ptr (by rfl) | exact op_nilCheck_elt (by rfl)) rfl (by dsimp only [zS, zN, zH, zT]) ?_
   refine zst (by first | exact op_fieldAddr_ptr Try.underlying179 rfl Sz9 (by rfl) (by rfl) | exact op_fieldAddr_elt Try.underlying179 rfl Sz9 (by rfl) (by rfl) (by rfl)) rfl (by dsimp only [zS, zN, zH, zT]) ?_
   refine zst (by first | exact op_load_elt Try.underlying9 (by rfl) (by rfl) (by rfl) | exact op_load_ptr Try.underlying9 (by rfl) (by rfl) hb1 (by rfl)) rfl (by dsimp only [zS, zN, zH, zT]) ?_
   refine zst (op_move_tmp (by rfl)) rfl (by dsimp only [zS, zN, zH, zT]) ?_
   refine zst (op_sliceS0 (s'.take n) Try.underlying9 (by rfl) (by rfl) (by omega) (by omega) (by simp)) rfl (by dsimp only [zS, zN, zH, zT]) ?_
   refine zst (op_assign_tmp (by rfl)) rfl (by dsimp only [zS, zN, zH, zT]) ?_
   refine al_end rfl ?_
   refine then_normal ?_
   refine aw_seq ?_
   refine aw_region ?_
   refine zst (op_move_tmp (by rfl)) rfl (by dsimp only [zS, zN, zH, zT]) ?_
   refine zst (op_move_tmp (by rfl)) rfl (by dsimp only [zS, zN, zH, zT]) ?_
   refine zst (by first | exact op_nilCheck_ptr (by rfl) | exact op_nilCheck_elt (by rfl)) rfl (by dsimp only [zS, zN, zH, zT]) ?_
   refine zst (by first | exact op_fieldAddr_ptr Try.underlying179 rfl Sz9 (by rfl) (by rfl) | exact op_fieldAddr_elt Try.underlying179 rfl Sz9 (by rfl) (by rfl) (by rfl)) rfl (by dsimp only [zS, zN, zH, zT]) ?_
   refine zst (by first | exact op_load_elt Try.underlying9 (by rfl) (by rfl) (by rfl) | exact op_load_ptr Try.underlying9 (by rfl) (by rfl) hb1 (by rfl)) rfl (by dsimp only [zS, zN, zH, zT]) ?_
   refine zst (op_move_tmp (by rfl)) rfl (by dsimp only [zS, zN, zH, zT]) ?_
   refine zst (op_sliceS1 (s'.drop n) Try.underlying9 (by rfl) (by rfl) (by omega) (by omega) (by simp)) rfl (by dsimp only [zS, zN, zH, zT]) ?_
   refine zst (by first | exact op_nilCheck_ptr (by rfl) | exact op_nilCheck_elt (by rfl)) rfl (by dsimp only [zS, zN, zH, zT]) ?_
   refine zst (by first | exact op_fieldAddr_ptr Try.underlying179 rfl Sz9 (by rfl) (by rfl) | exact op_fieldAddr_elt Try.underlying179 rfl Sz9 (by rfl) (by rfl) (by rfl)) rfl (by dsimp only [zS, zN, zH, zT]) ?_
   refine zst (op_storeB (vs := [.d (S (s'.drop n))]) (b' := ⟨179, [.d (S (s'.drop n)), .d (TF false)], false⟩) (H' := Hs.setB id ⟨179, [.d (S (s'.drop n)), .d (TF false)], false⟩) Sz9 (by rfl) hb1 (by intro h; cases h) (by rfl) (by rfl) (Nat.le_of_ble_eq_true rfl) (by simp [AV.one, DV.one, TF, S, I, BY]) (by rfl) (by rfl) setB_setB) rfl (by dsimp only [zS, zN, zH, zT]) ?_
   refine al_end rfl ?_
   refine then_normal ?_
   refine aw_seq ?_
   refine aw_region ?_
   refine zst (op_move_tmp (by rfl)) rfl (by dsimp only [zS, zN, zH, zT]) ?_
   refine zst (op_assign_tmp (by rfl)) rfl (by dsimp only [zS, zN, zH, zT]) ?_
   refine al_end rfl ?_
   refine then_normal ?_
   refine aw_ret ?_
   refine retPost1 rfl rfl ?_
   have e : rText most (s, bad) = (s'.take n, (s'.drop n, false)) := by simp [rText, hr, show ¬ s'.length < n by omega]
   rw [e]; exact ⟨rfl, rfl⟩
set_option maxRecDepth 100000 in
theorem rflag_ok (Hs : HS) (id : Nat) (s : List UInt8) (bad : Bool) (hb : Hs.blks[id]? = some (RB 179 (s, bad))) : ACalls Try.prog 71 [.ptr id 0] Hs (Ret (.d (TF (rFlag (s, bad)).1)) (Hs.setB id (RB 179 (rFlag (s, bad)).2))) := by
 have hb : Hs.blks[id]? = some ⟨179, [.d (S s), .d (TF bad)], false⟩ := hb
 refine acalls_of_aw Try.func71 rfl ?_
 refine aw_start (T' := [.ptr id 0, .un, .un, .un, .un, .un, .un, .un, .un, .un, .un, .un, .un, .un, .un, .un, .un, .un, .un, .un, .un, .un, .un, .un, .un, .un, .un, .un, .un, .un, .un, .un, .un, .un, .un, .un, .un, .un, .un, .un, .un, .un]) rfl ?_
 refine aw_seq ?_
 refine aw_region ?_
 refine zst (op_assign_const (by rfl)) rfl (by dsimp only [zS, zN, zH, zT]) ?_
 refine al_end rfl ?_
 refine then_normal ?_
 refine aw_seq ?_
 refine aw_seq ?_
 refine aw_region ?_
 refine zst (op_move_tmp (by rfl)) rfl (by dsimp only [zS, zN, zH, zT]) ?_
 refine zst (op_ptr_nil Try.underlying124 (by rfl) (by rfl)) rfl (by dsimp only [zS, zN, zH, zT]) ?_
 refine zst (op_move_tmp (by rfl)) rfl (by dsimp only [zS, zN, zH, zT]) ?_
 refine zsw rfl rfl rfl (op_move_tmp (by rfl)) (by dsimp only [zS, zN, zH, zT]) ?_
 refine zsw rfl rfl rfl (by first | exact op_nilCheck_ptr (by rfl) | exact op_nilCheck_elt (by rfl)) (by dsimp only [zS, zN, zH, zT]) ?_
 refine zsw rfl rfl rfl (by first | exact op_fieldAddr_ptr Try.underlying179 rfl Sz4 (by rfl) (by rfl) | exact op_fieldAddr_elt Try.underlying179 rfl Sz4 (by rfl) (by rfl) (by rfl)) (by dsimp only [zS, zN, zH, zT]) ?_
 refine zsw rfl rfl rfl (by first | exact op_load_elt Try.underlying4 (by rfl) (by rfl) (by rfl) | exact op_load_ptr Try.underlying4 (by rfl) (by rfl) hb (by rfl)) (by dsimp only [zS, zN, zH, zT]) ?_
 refine zst (op_pick_ff (by rfl) (val_tmp (by rfl))) rfl (by dsimp only [zS, zN, zH, zT]) ?_
 refine al_end rfl ?_
 refine then_normal ?_
 refine aw_cond rfl (fun hc1 => ?_) (fun hc1 => ?_)
 ·
  (try simp only [y1, y2, y3, y4, y5, y6, y7, y8, y9, y0, List.length_map] at hc1)
  have hbad : bad = true := hc1
  subst hbad
  refine aw_seq ?_
  refine aw_region ?_
  refine zst (op_assign_const (by rfl)) rfl (by dsimp only [zS, zN, zH, zT]) ?_
  refine al_end rfl ?_
  refine then_normal ?_
  refine aw_ret ?_
  refine then_ret ?_
  refine retPost1 rfl rfl ?_
  exact ⟨rfl, (setB_self hb).symm⟩
 ·
  (try simp only [y1, y2, y3, y4, y5, y6, y7, y8, y9, y0, List.length_map] at hc1)
  have hbad : bad = false := hc1
  subst hbad
  refine aw_skip ?_
  refine then_normal ?_
  refine aw_seq ?_
  refine aw_seq ?_
  refine aw_region ?_
  refine zst (op_move_tmp (by rfl)) rfl (by dsimp only [zS, zN, zH, zT]) ?_
  refine zst (by first | exact op_nilCheck_ptr (by rfl) | exact op_nilCheck_elt (by rfl)) rfl (by dsimp only [zS, zN, zH, zT]) ?_
  refine zst (by first | exact op_fieldAddr_ptr Try.underlying179 rfl Sz9 (by rfl) (by rfl) | exact op_fieldAddr_elt Try.underlying179 rfl Sz9 (by rfl) (by rfl) (by rfl)) rfl (by dsimp only [zS, zN, zH, zT]) ?_
  refine zst (by first | exact op_load_elt Try.underlying9 (by rfl) (by rfl) (by rfl) | exact op_load_ptr Try.underlying9 (by rfl) (by rfl) hb (by rfl)) rfl (by dsimp only [zS, zN, zH, zT]) ?_
  refine zst (op_eqS (by rfl) (by rfl)) rfl (by dsimp only [zS, zN, zH, zT]) ?_
  refine zst (op_move_tmp (by rfl)) rfl (by dsimp only [zS, zN, zH, zT]) ?_
  refine al_split 17 rfl (fun hg2 => ?_) (fun hg2 => ?_)
  ·
   (try simp only [y1, y2, y3, y4, y5, y6, y7, y8, y9, y0, List.length_map] at hg2)
   have hs0 : s = [] := hg2
   subst hs0
   apply al_normT
   · (try dsimp only [zS, zN, zH, zT]); try exact rfl
   refine zuw rfl rfl rfl rfl (by dsimp only [zS, zN, zH, zT]) ?_
   refine zuw rfl rfl rfl rfl (by dsimp only [zS, zN, zH, zT]) ?_
   refine zuw rfl rfl rfl rfl (by dsimp only [zS, zN, zH, zT]) ?_
   refine zuw rfl rfl rfl rfl (by dsimp only [zS, zN, zH, zT]) ?_
   refine zuw rfl rfl rfl rfl (by dsimp only [zS, zN, zH, zT]) ?_
   refine zuw rfl rfl rfl rfl (by dsimp only [zS, zN, zH, zT]) ?_
   refine zst (op_pick_tt (by rfl) (val_const (by rfl))) rfl (by dsimp only [zS, zN, zH, zT]) ?_
   refine al_end rfl ?_
   refine then_normal ?_
   refine aw_cond rfl (fun _ => ?_) (fun h => by cases h)
   refine aw_seq ?_
   refine aw_region ?_
   refine zst (op_move_tmp (by rfl)) rfl (by dsimp only [zS, zN, zH, zT]) ?_
   refine zst (op_callF Try.func89 (by rfl) (by rfl) (.tmp (by rfl) .nil) (fail_ok _ id _ _ hb)) rfl (by dsimp only [zS, zN, zH, zT]) ?_
   refine al_end rfl ?_
   refine then_normal ?_
   refine aw_seq ?_
   refine aw_region ?_
   refine zst (op_assign_const (by rfl)) rfl (by dsimp only [zS, zN, zH, zT]) ?_
   refine al_end rfl ?_
   refine then_normal ?_
   refine aw_ret ?_
   refine then_ret ?_
   refine retPost1 rfl rfl ?_
   exact ⟨rfl, rfl⟩
  ·
   (try simp only [y1, y2, y3, y4, y5, y6, y7, y8, y9, y0, List.length_map] at hg2)
   obtain ⟨c, r, rfl⟩ := List.exists_cons_of_ne_nil hg2
   have hcl := c.toNat_lt
   apply al_normT
   · (try dsimp only [zS, zN, zH, zT]); try exact rfl
   refine zsw rfl rfl rfl (op_move_tmp (by rfl)) (by dsimp only [zS, zN, zH, zT]) ?_
   refine zsw rfl rfl rfl (by first | exact op_nilCheck_ptr (by rfl) | exact op_nilCheck_elt (by rfl)) (by dsimp only [zS, zN, zH, zT]) ?_
   refine zsw rfl rfl rfl (by first | exact op_fieldAddr_ptr Try.underlying179 rfl Sz9 (by rfl) (by rfl) | exact op_fieldAddr_elt Try.underlying179 rfl Sz9 (by rfl) (by rfl) (by rfl)) (by dsimp only [zS, zN, zH, zT]) ?_
   refine zsw rfl rfl rfl (by first | exact op_load_elt Try.underlying9 (by rfl) (by rfl) (by rfl) | exact op_load_ptr Try.underlying9 (by rfl) (by rfl) hb (by rfl)) (by dsimp only [zS, zN, zH, zT]) ?_
   refine zsw rfl rfl rfl (op_indexS Try.underlying9 (by rfl) (by rfl) (by decide) (show (c :: r)[(0 : Int).toNat]? = some c by rfl)) (by dsimp only [zS, zN, zH, zT]) ?_
   refine zsw rfl rfl rfl (op_gtI (by rfl) (by rfl)) (by dsimp only [zS, zN, zH, zT]) ?_
   refine zst (op_pick_ff (by rfl) (val_tmp (by rfl))) rfl (by dsimp only [zS, zN, zH, zT]) ?_
   refine al_end rfl ?_
   refine then_normal ?_
   refine aw_cond rfl (fun hc4 => ?_) (fun hc4 => ?_)
   ·
    (try simp only [y1, y2, y3, y4, y5, y6, y7, y8, y9, y0, List.length_map] at hc4)
    have h1 : 1 < (c.toNat : Int) := hc4
    refine aw_seq ?_
    refine aw_region ?_
    refine zst (op_move_tmp (by rfl)) rfl (by dsimp only [zS, zN, zH, zT]) ?_
    refine zst (op_callF Try.func89 (by rfl) (by rfl) (.tmp (by rfl) .nil) (fail_ok _ id _ _ hb)) rfl (by dsimp only [zS, zN, zH, zT]) ?_
    refine al_end rfl ?_
    refine then_normal ?_
    refine aw_seq ?_
    refine aw_region ?_
    refine zst (op_assign_const (by rfl)) rfl (by dsimp only [zS, zN, zH, zT]) ?_
    refine al_end rfl ?_
    refine then_normal ?_
    refine aw_ret ?_
    refine then_ret ?_
    refine retPost1 rfl rfl ?_
    have e : rFlag (c :: r, false) = (false, ([], true)) := by simp [rFlag, show 1 < c.toNat by omega]
    rw [e]; exact ⟨rfl, rfl⟩
   ·
    (try simp only [y1, y2, y3, y4, y5, y6, y7, y8, y9, y0, List.length_map] at hc4)
    have h1 : ¬ 1 < (c.toNat : Int) := hc4
    refine aw_skip ?_
    refine then_normal ?_
    refine aw_seq ?_
    refine aw_region ?_
    refine zst (op_move_tmp (by rfl)) rfl (by dsimp only [zS, zN, zH, zT]) ?_
    refine zst (by first | exact op_nilCheck_ptr (by rfl) | exact op_nilCheck_elt (by rfl)) rfl (by dsimp only [zS, zN, zH, zT]) ?_
    refine zst (by first | exact op_fieldAddr_ptr Try.underlying179 rfl Sz9 (by rfl) (by rfl) | exact op_fieldAddr_elt Try.underlying179 rfl Sz9 (by rfl) (by rfl) (by rfl)) rfl (by dsimp only [zS, zN, zH, zT]) ?_
    refine zst (by first | exact op_load_elt Try.underlying9 (by rfl) (by rfl) (by rfl) | exact op_load_ptr Try.underlying9 (by rfl) (by rfl) hb (by rfl)) rfl (by dsimp only [zS, zN, zH, zT]) ?_
    refine zst (op_indexS Try.underlying9 (by rfl) (by rfl) (by decide) (show (c :: r)[(0 : Int).toNat]? = some c by rfl)) rfl (by dsimp only [zS, zN, zH, zT]) ?_
    refine zst (op_eqI (by rfl) (by rfl)) rfl (by dsimp only [zS, zN, zH, zT]) ?_
    refine zst (op_assign_tmp (by rfl)) rfl (by dsimp only [zS, zN, zH, zT]) ?_
    refine al_end rfl ?_
    refine then_normal ?_
    refine aw_seq ?_
    refine aw_region ?_
    refine zst (op_move_tmp (by rfl)) rfl (by dsimp only [zS, zN, zH, zT]) ?_
    refine zst (op_move_tmp (by rfl)) rfl (by dsimp only [zS, zN, zH, zT]) ?_
    refine zst (by first | exact op_nilCheck_ptr (by rfl) | exact op_nilCheck_elt (by rfl)) rfl (by dsimp only [zS, zN, zH, zT]) ?_
    refine zst (by first | exact op_fieldAddr_ptr Try.underlying179 rfl Sz9 (by rfl) (by rfl) | exact op_fieldAddr_elt Try.underlying179 rfl Sz9 (by rfl) (by rfl) (by rfl)) rfl (by dsimp only [zS, zN, zH, zT]) ?_
    refine zst (by first | exact op_load_elt Try.underlying9 (by rfl) (by rfl) (by rfl) | exact op_load_ptr Try.underlying9 (by rfl) (by rfl) hb (by rfl)) rfl (by dsimp only [zS, zN, zH, zT]) ?_
    refine zst (op_sliceS1 r Try.underlying9 (by rfl) (by rfl) (by decide) (by simp; omega) (by rfl)) rfl (by dsimp only [zS, zN, zH, zT]) ?_
    refine zst (by first | exact op_nilCheck_ptr (by rfl) | exact op_nilCheck_elt (by rfl)) rfl (by dsimp only [zS, zN, zH, zT]) ?_
    refine zst (by first | exact op_fieldAddr_ptr Try.underlying179 rfl Sz9 (by rfl) (by rfl) | exact op_fieldAddr_elt Try.underlying179 rfl Sz9 (by rfl) (by rfl) (by rfl)) rfl (by dsimp only [zS, zN, zH, zT]) ?_
    refine zst (op_storeB (vs := [.d (S r)]) (b' := ⟨179, [.d (S r), .d (TF false)], false⟩) (H' := Hs.setB id ⟨179, [.d (S r), .d (TF false)], false⟩) Sz9 (by rfl) hb (by intro h; cases h) (by rfl) (by rfl) (Nat.le_of_ble_eq_true rfl) (by simp [AV.one, DV.one, TF, S, I, BY]) (by rfl) (by rfl) rfl) rfl (by dsimp only [zS, zN, zH, zT]) ?_
    refine al_end rfl ?_
    refine then_normal ?_
    refine aw_seq ?_
    refine aw_region ?_
    refine zst (op_move_tmp (by rfl)) rfl (by dsimp only [zS, zN, zH, zT]) ?_
    refine zst (op_assign_tmp (by rfl)) rfl (by dsimp only [zS, zN, zH, zT]) ?_
    refine al_end rfl ?_
    refine then_normal ?_
    refine aw_ret ?_
    refine retPost1 rfl rfl ?_
    have e : rFlag (c :: r, false) = (((c.toNat : Int) == 1), (r, false)) := by simp only [rFlag, Bool.false_eq_true, if_false, show ¬ 1 < c.toNat by omega]; rw [flag_eq]
    rw [e]; exact ⟨rfl, rfl⟩
set_option maxRecDepth 100000 in
theorem left_ok (Hs : HS) (id : Nat) (s : List UInt8) (bad : Bool) (hb : Hs.blks[id]? = some (RB 179 (s, bad))) : ACalls Try.prog 90 [.ptr id 0] Hs (Ret (.d (I s.length)) Hs) := by
 have hb : Hs.blks[id]? = some ⟨179, [.d (S s), .d (TF bad)], false⟩ := hb
 refine acalls_of_aw Try.func90 rfl ?_
 refine aw_start (T' := [.ptr id 0, .un, .un, .un, .un, .un, .un, .un, .un, .un]) rfl ?_
 refine aw_seq ?_
 refine aw_region ?_
 refine zst (op_assign_const (by rfl)) rfl (by dsimp only [zS, zN, zH, zT]) ?_
 refine al_end rfl ?_
 refine then_normal ?_
 refine aw_seq ?_
 refine aw_seq ?_
 refine aw_region ?_
 refine zst (op_move_tmp (by rfl)) rfl (by dsimp only [zS, zN, zH, zT]) ?_
 refine zst (op_ptr_nil Try.underlying124 (by rfl) (by rfl)) rfl (by dsimp only [zS, zN, zH, zT]) ?_
 refine al_end rfl ?_
 refine then_normal ?_
 refine aw_cond rfl (fun hc1 => ?_) (fun hc1 => ?_)
 ·
  (try simp only [y1, y2, y3, y4, y5, y6, y7, y8, y9, y0, List.length_map] at hc1)
  exact absurd hc1 (by decide)
 ·
  (try simp only [y1, y2, y3, y4, y5, y6, y7, y8, y9, y0, List.length_map] at hc1)
  refine aw_skip ?_
  refine then_normal ?_
  refine aw_seq ?_
  refine aw_region ?_
  refine zst (op_move_tmp (by rfl)) rfl (by dsimp only [zS, zN, zH, zT]) ?_
  refine zst (by first | exact op_nilCheck_ptr (by rfl) | exact op_nilCheck_elt (by rfl)) rfl (by dsimp only [zS, zN, zH, zT]) ?_
  refine zst (by first | exact op_fieldAddr_ptr Try.underlying179 rfl Sz9 (by rfl) (by rfl) | exact op_fieldAddr_elt Try.underlying179 rfl Sz9 (by rfl) (by rfl) (by rfl)) rfl (by dsimp only [zS, zN, zH, zT]) ?_
  refine zst (by first | exact op_load_elt Try.underlying9 (by rfl) (by rfl) (by rfl) | exact op_load_ptr Try.underlying9 (by rfl) (by rfl) hb (by rfl)) rfl (by dsimp only [zS, zN, zH, zT]) ?_
  refine zst (op_lenS Try.underlying9 (by rfl)) rfl (by dsimp only [zS, zN, zH, zT]) ?_
  refine zst (op_assign_tmp (by rfl)) rfl (by dsimp only [zS, zN, zH, zT]) ?_
  refine al_end rfl ?_
  refine then_normal ?_
  refine aw_ret ?_
  refine retPost1 rfl rfl ?_
  exact ⟨rfl, rfl⟩
set_option maxRecDepth 100000 in
theorem err_ok (Hs : HS) (id : Nat) (s : List UInt8) (bad : Bool) (hb : Hs.blks[id]? = some (RB 179 (s, bad))) : ACalls Try.prog 91 [.ptr id 0] Hs (Ret (.d (I (rErr (s, bad)))) Hs) := by
 have hb : Hs.blks[id]? = some ⟨179, [.d (S s), .d (TF bad)], false⟩ := hb
 refine acalls_of_aw Try.func91 rfl ?_
 refine aw_start (T' := [.ptr id 0, .un, .un, .un, .un, .un, .un, .un, .un, .un, .un]) rfl ?_
 refine aw_seq ?_
 refine aw_region ?_
 refine zst (op_assign_const (by rfl)) rfl (by dsimp only [zS, zN, zH, zT]) ?_
 refine al_end rfl ?_
 refine then_normal ?_
 refine aw_seq ?_
 refine aw_seq ?_
 refine aw_region ?_
 refine zst (op_move_tmp (by rfl)) rfl (by dsimp only [zS, zN, zH, zT]) ?_
 refine zst (op_ptr_nil Try.underlying124 (by rfl) (by rfl)) rfl (by dsimp only [zS, zN, zH, zT]) ?_
 refine zst (op_move_tmp (by rfl)) rfl (by dsimp only [zS, zN, zH, zT]) ?_
 refine zsw rfl rfl rfl (op_move_tmp (by rfl)) (by dsimp only [zS, zN, zH, zT]) ?_
 refine zsw rfl rfl rfl (by first | exact op_nilCheck_ptr (by rfl) | exact op_nilCheck_elt (by rfl)) (by dsimp only [zS, zN, zH, zT]) ?_
 refine zsw rfl rfl rfl (by first | exact op_fieldAddr_ptr Try.underlying179 rfl Sz4 (by rfl) (by rfl) | exact op_fieldAddr_elt Try.underlying179 rfl Sz4 (by rfl) (by rfl) (by rfl)) (by dsimp only [zS, zN, zH, zT]) ?_
 refine zsw rfl rfl rfl (by first | exact op_load_elt Try.underlying4 (by rfl) (by rfl) (by rfl) | exact op_load_ptr Try.underlying4 (by rfl) (by rfl) hb (by rfl)) (by dsimp only [zS, zN, zH, zT]) ?_
 refine zst (op_pick_ff (by rfl) (val_tmp (by rfl))) rfl (by dsimp only [zS, zN, zH, zT]) ?_
 refine al_end rfl ?_
 refine then_normal ?_
 refine aw_cond rfl (fun hc1 => ?_) (fun hc1 => ?_)
 ·
  (try simp only [y1, y2, y3, y4, y5, y6, y7, y8, y9, y0, List.length_map] at hc1)
  have hbad : bad = true := hc1
  subst hbad
  refine aw_seq ?_
  refine aw_region ?_
  refine zst (op_assign_const (by rfl)) rfl (by dsimp only [zS, zN, zH, zT]) ?_
  refine al_end rfl ?_
  refine then_normal ?_
  refine aw_ret ?_
  refine then_ret ?_
  refine retPost1 rfl rfl ?_
  exact ⟨rfl, rfl⟩
 ·
  (try simp only [y1, y2, y3, y4, y5, y6, y7, y8, y9, y0, List.length_map] at hc1)
  have hbad : bad = false := hc1
  subst hbad
  refine aw_skip ?_
  refine then_normal ?_
  refine aw_seq ?_
  refine aw_region ?_
  refine zst (op_assign_const (by rfl)) rfl (by dsimp only [zS, zN, zH, zT]) ?_
  refine al_end rfl ?_
  refine then_normal ?_
  refine aw_ret ?_
  refine retPost1 rfl rfl ?_
  exact ⟨rfl, rfl⟩
set_option maxRecDepth 100000 in
theorem end_ok (Hs : HS) (id : Nat) (s : List UInt8) (bad : Bool) (hb : Hs.blks[id]? = some (RB 179 (s, bad))) : ACalls Try.prog 59 [.ptr id 0] Hs (Ret (.d (I (rEnd (s, bad)))) Hs) := by
 refine acalls_of_aw Try.func59 rfl ?_
 refine aw_start (T' := [.ptr id 0, .un, .un, .un, .un, .un, .un, .un]) rfl ?_
 refine aw_seq ?_
 refine aw_region ?_
 refine zst (op_assign_const (by rfl)) rfl (by dsimp only [zS, zN, zH, zT]) ?_
 refine al_end rfl ?_
 refine then_normal ?_
 refine aw_seq ?_
 refine aw_seq ?_
 refine aw_region ?_
 refine zst (op_move_tmp (by rfl)) rfl (by dsimp only [zS, zN, zH, zT]) ?_
 refine zst (op_callF Try.func90 (by rfl) (by rfl) (.tmp (by rfl) .nil) (left_ok _ id s bad hb)) rfl (by dsimp only [zS, zN, zH, zT]) ?_
 refine zst (op_gtI (by rfl) (by rfl)) rfl (by dsimp only [zS, zN, zH, zT]) ?_
 refine al_end rfl ?_
 refine then_normal ?_
 refine aw_cond rfl (fun hc1 => ?_) (fun hc1 => ?_)
 ·
  (try simp only [y1, y2, y3, y4, y5, y6, y7, y8, y9, y0, List.length_map] at hc1)
  have hl : 0 < s.length := by omega
  refine aw_seq ?_
  refine aw_region ?_
  refine zst (op_assign_const (by rfl)) rfl (by dsimp only [zS, zN, zH, zT]) ?_
  refine al_end rfl ?_
  refine then_normal ?_
  refine aw_ret ?_
  refine then_ret ?_
  refine retPost1 rfl rfl ?_
  simp only [rEnd, hl, if_true]; exact ⟨rfl, rfl⟩
 ·
  (try simp only [y1, y2, y3, y4, y5, y6, y7, y8, y9, y0, List.length_map] at hc1)
  have hl : ¬ 0 < s.length := by omega
  refine aw_skip ?_
  refine then_normal ?_
  refine aw_seq ?_
  refine aw_region ?_
  refine zst (op_move_tmp (by rfl)) rfl (by dsimp only [zS, zN, zH, zT]) ?_
  refine zst (op_callF Try.func91 (by rfl) (by rfl) (.tmp (by rfl) .nil) (err_ok _ id s bad hb)) rfl (by dsimp only [zS, zN, zH, zT]) ?_
  refine zst (op_assign_tmp (by rfl)) rfl (by dsimp only [zS, zN, zH, zT]) ?_
  refine al_end rfl ?_
  refine then_normal ?_
  refine aw_ret ?_
  refine retPost1 rfl rfl ?_
  simp only [rEnd, hl, if_false]; exact ⟨rfl, rfl⟩
set_option maxRecDepth 100000 in
theorem read_ok (Hs : HS) (s : List UInt8) : ACalls Try.prog 56 [.d (S s)] Hs (Ret (.ptr Hs.nb 0) (Hs.push 179 [.d (S s), .d (TF false)])) := by
 refine acalls_of_aw Try.func56 rfl ?_
 refine aw_start (T' := [.d (S s), .un, .un, .un, .un, .un]) rfl ?_
 refine aw_seq ?_
 refine aw_region ?_
 refine zst (op_assign_const (by rfl)) rfl (by dsimp only [zS, zN, zH, zT]) ?_
 refine al_end rfl ?_
 refine then_normal ?_
 refine aw_seq ?_
 refine aw_region ?_
 refine zst (op_move_tmp (by rfl)) rfl (by dsimp only [zS, zN, zH, zT]) ?_
 refine zst (by first | exact op_buildD (pl := [(0, 1), (1, 1)]) _ Try.underlying179 Zr179 (by kernel_rfl) (by rfl) (by rfl) (by rfl) (by simp [DV.one, S, I, TF, BY]) | exact op_build (pl := [(0, 1), (1, 1)]) Try.underlying179 Zr179 (by kernel_rfl) (by rfl) (by rfl) (by rfl)) rfl (by dsimp only [zS, zN, zH, zT]) ?_
 refine zst (op_box_ptr (by intro h; cases h) (by rfl)) rfl (by dsimp only [zS, zN, zH, zT]) ?_
 refine zst (op_assign_tmp (by rfl)) rfl (by dsimp only [zS, zN, zH, zT]) ?_
 refine al_end rfl ?_
 refine then_normal ?_
 refine aw_ret ?_
 refine retPost1 rfl rfl ?_
 exact ⟨rfl, rfl⟩
end Go.Proofs.Ytjbpfnoibeogbaa
namespace Go.Proofs.Ytjbpfnoibeogbaa
open Go.AV Go.AV.Ord Go.AV.Oct
set_option linter.unusedVariables false
set_option linter.unusedSimpArgs false
set_option maxRecDepth 100000 in
theorem onum_ok (Hs : HS) (t : Option Nat) (v : AV) (bs : List UInt8) (q : Int) (hv : App v t 1 (bs.map BY)) (hok : Hs.ok t bs.length) (hn : q ≤ 9223372036854775807) (hb : bs.length + 9 ≤ 140737488355328) : ACalls Try.prog 54 [v, .d (I q)] Hs (Ret (ownB Hs t (bs ++ numB q.toNat)) (upB Hs t (bs ++ numB q.toNat))) := by
 have hz8 := szN_8 hn
 have hzl := numB_len q.toNat
 obtain ⟨x, hx⟩ : ∃ x, q.toNat = x := ⟨_, rfl⟩
 rw [hx] at hz8 hzl ⊢
 refine acalls_of_aw Try.func54 rfl ?_
 refine aw_start (T' := [v, .d (I q), .un, .un, .un, .un, .un, .un, .un, .un, .un, .un, .un, .un, .un, .un, .un, .un, .un, .un, .un, .un, .un, .un, .un, .un, .un, .un, .un, .un, .un, .un, .un, .un, .un, .un, .un, .un, .un, .un, .un]) rfl ?_
 refine aw_seq ?_
 refine aw_region ?_
 refine zst (op_assign_const (by rfl)) rfl (by dsimp only [zS, zN, zH, zT]) ?_
 refine al_end rfl ?_
 refine then_normal ?_
 refine aw_seq ?_
 refine aw_region ?_
 refine zst (op_move_tmp (by rfl)) rfl (by dsimp only [zS, zN, zH, zT]) ?_
 refine zst (op_max (by rfl) (by rfl)) rfl (by dsimp only [zS, zN, zH, zT]) ?_
 refine zst (op_convI (by rw [Try.underlying3]; rfl) Try.underlying177 (by rfl) (show _ = (x : Int) by rw [wrap_u64 (by split <;> omega)]; split <;> omega)) rfl (by dsimp only [zS, zN, zH, zT]) ?_
 refine zst (op_assign_tmp (by rfl)) rfl (by dsimp only [zS, zN, zH, zT]) ?_
 refine al_end rfl ?_
 refine then_normal ?_
 refine aw_seq ?_
 refine aw_region ?_
 refine zst (op_assign_const (by rfl)) rfl (by dsimp only [zS, zN, zH, zT]) ?_
 refine al_end rfl ?_
 refine then_normal ?_
 refine aw_seq ?_
 refine aw_seq ?_
 refine aw_region ?_
 refine zst (op_move_tmp (by rfl)) rfl (by dsimp only [zS, zN, zH, zT]) ?_
 refine zst (op_assign_tmp (by rfl)) rfl (by dsimp only [zS, zN, zH, zT]) ?_
 refine al_end rfl ?_
 refine then_normal ?_
 refine aw_block ?_
 apply aw_loopF (fun n T H => ∃ (y : Nat), T = [v, .un, .un, .un, .un, .d (.v (.int .u64 x)), .d (I (szN x - szN y : Nat)), .d (.v (.int .u64 y)), .un, .un, .un, .un, .un, .un, .un, .un, .un, .un, .un, .un, .un, .un, .un, .un, .un, .un, .un, .un, .un, .un, .un, .un, .un, .un, .un, .un, .un, .un, .un, .un, .un] ∧ szN y ≤ szN x ∧ y ≤ x ∧ n = y ∧ Hs = H) (x) [true, false, false, false, false, true, true, true, false, false, false, false, false, false, false, false, false, false, false, false, false, false, false, false, false, false, false, false, false, false, false, false, false, false, false, false, false, false, false, false, false]
 · (try dsimp only [maskT]); try exact rfl
 · rfl
 · exact ⟨x, by rw [Nat.sub_self]; rfl, Nat.le_refl _, Nat.le_refl _, rfl, rfl⟩
 rintro n T H ⟨y, rfl, hy, hyn, hm, rfl⟩
 refine aw_seq ?_
 refine aw_seq ?_
 refine aw_region ?_
 refine zst (op_move_tmp (by rfl)) rfl (by dsimp only [zS, zN, zH, zT]) ?_
 refine zst (op_gtI (by rfl) (by rfl)) rfl (by dsimp only [zS, zN, zH, zT]) ?_
 refine al_end rfl ?_
 refine then_normal ?_
 refine aw_cond rfl (fun hc1 => ?_) (fun hc1 => ?_)
 ·
  (try simp only [y1, y2, y3, y4, y5, y6, y7, y8, y9, y0, List.length_map] at hc1)
  have hy0 : y ≠ 0 := by omega
  have hsy := szN_pos hy0
  refine aw_skip ?_
  refine then_normal ?_
  refine aw_seq ?_
  refine aw_block ?_
  refine aw_region ?_
  refine zst (op_move_tmp (by rfl)) rfl (by dsimp only [zS, zN, zH, zT]) ?_
  refine zst (by first | exact op_add (by rfl) (by rfl) (wrap_i64 ⟨by omega, by omega⟩) | exact op_add (by rfl) (by rfl) (by rfl)) rfl (by dsimp only [zS, zN, zH, zT]) ?_
  refine zst (op_assign_tmp (by rfl)) rfl (by dsimp only [zS, zN, zH, zT]) ?_
  refine al_end rfl ?_
  refine inBlock_normal (then_normal ?_)
  refine aw_region ?_
  refine zst (op_move_tmp (by rfl)) rfl (by dsimp only [zS, zN, zH, zT]) ?_
  refine zst (op_shr (by rfl) (by rfl) (by omega) (shr8 _)) rfl (by dsimp only [zS, zN, zH, zT]) ?_
  refine zst (op_assign_tmp (by rfl)) rfl (by dsimp only [zS, zN, zH, zT]) ?_
  refine al_end rfl ?_
  apply again_to (y / 256) [true, false, false, false, false, true, true, true, false, false, false, false, false, false, false, false, false, false, false, false, false, false, false, false, false, false, false, false, false, false, false, false, false, false, false, false, false, false, false, false, false]
  · (try dsimp only [maskT]); try exact rfl
  · rfl
  · omega
  exact ⟨y / 256, by rw [show szN x - szN (y / 256) = szN x - szN y + 1 by omega]; rfl, by omega, by omega, rfl, rfl⟩
 ·
  (try simp only [y1, y2, y3, y4, y5, y6, y7, y8, y9, y0, List.length_map] at hc1)
  have hy0 : y = 0 := by omega
  subst hy0
  rw [szN_zero, Nat.sub_zero]
  refine aw_exit ?_
  refine then_exit (again_exit (inBlock_here (then_normal ?_)))
  refine aw_seq ?_
  refine aw_region ?_
  refine zst (op_move_tmp (by rfl)) rfl (by dsimp only [zS, zN, zH, zT]) ?_
  refine zst (op_move_tmp (by rfl)) rfl (by dsimp only [zS, zN, zH, zT]) ?_
  refine zst (op_convI (by rw [Try.underlying3]; rfl) Try.underlying5 (by rfl) (conv_byte _)) rfl (by dsimp only [zS, zN, zH, zT]) ?_
  refine zst (op_lit Try.underlying49 ZS5 (.cons (by rfl) (.nil _)) (by rfl) (by simp [BY, S, I, TF, DV.cells]) (by simp [flat, BY, S, I, TF, DV.cells, DV.one]) (by decide)) rfl (by dsimp only [zS, zN, zH, zT]) ?_
  refine zst (op_append Try.underlying49 Inf5 (by rfl) hv (.list _ _ _ _ Try.underlying49 (LL.own _ _ _)) (by simpa using hok) (by simp) (by simp <;> omega) (by simp <;> omega)) rfl (by dsimp only [zS, zN, zH, zT]) ?_
  refine zst (op_assign_tmp (by rfl)) rfl (by dsimp only [zS, zN, zH, zT]) ?_
  refine al_end rfl ?_
  refine then_normal ?_
  refine aw_seq ?_
  refine aw_seq ?_
  refine aw_region ?_
  refine zst (op_move_tmp (by rfl)) rfl (by dsimp only [zS, zN, zH, zT]) ?_
  refine zst (op_move_const (by rfl)) rfl (by dsimp only [zS, zN, zH, zT]) ?_
  refine al_end rfl ?_
  refine then_normal ?_
  refine aw_block ?_
  apply aw_loopF (fun n T H => ∃ (k : Nat) (v' : AV), T = [v', .un, .un, .un, .un, .d (.v (.int .u64 x)), .d (I (szN x)), .un, .un, .un, .un, .un, .un, .un, .un, .un, .un, .un, .un, .un, .un, .un, .un, .un, .d (I (szN x)), .d (I k), .un, .un, .un, .un, .un, .un, .un, .un, .un, .un, .un, .un, .un, .un, .un] ∧ k ≤ szN x ∧ n = szN x - k ∧ Grew Hs t v bs v' H ((numB x).take (k + 1))) (szN x) [true, false, false, false, false, true, true, false, false, false, false, false, false, false, false, false, false, false, false, false, false, false, false, false, true, true, false, false, false, false, false, false, false, false, false, false, false, false, false, false, false]
  · (try dsimp only [maskT]); try exact rfl
  · rfl
  · exact ⟨0, _, rfl, by omega, rfl, Grew.mk (Heir.refl Hs t) (by rw [show (numB x).take (0 + 1) = [UInt8.ofNat (szN x)] from numB_take x, numB_mod hz8]; simp [BY]) (by rw [show (numB x).take (0 + 1) = [UInt8.ofNat (szN x)] from numB_take x]; simp)⟩
  rintro n T H ⟨k, v', rfl, hk, hm, hG⟩
  obtain ⟨t', hApp, hHeir, hOk⟩ := hG.use hv hok
  have hT : ((numB x).take (k + 1)).length = k + 1 := by simp; omega
  refine aw_seq ?_
  refine aw_region ?_
  refine zst (op_ltI (by rfl) (by rfl)) rfl (by dsimp only [zS, zN, zH, zT]) ?_
  refine al_end rfl ?_
  refine then_normal ?_
  refine aw_seq ?_
  refine aw_cond rfl (fun hc2 => ?_) (fun hc2 => ?_)
  ·
   (try simp only [y1, y2, y3, y4, y5, y6, y7, y8, y9, y0, List.length_map] at hc2)
   have hlt : k < szN x := by omega
   refine aw_skip ?_
   refine then_normal ?_
   refine aw_seq ?_
   refine aw_block ?_
   refine aw_seq ?_
   refine aw_region ?_
   refine zst (op_move_tmp (by rfl)) rfl (by dsimp only [zS, zN, zH, zT]) ?_
   refine zst (op_assign_tmp (by rfl)) rfl (by dsimp only [zS, zN, zH, zT]) ?_
   refine al_end rfl ?_
   refine then_normal ?_
   refine aw_region ?_
   refine zst (op_move_tmp (by rfl)) rfl (by dsimp only [zS, zN, zH, zT]) ?_
   refine zst (op_move_tmp (by rfl)) rfl (by dsimp only [zS, zN, zH, zT]) ?_
   refine zst (op_move_tmp (by rfl)) rfl (by dsimp only [zS, zN, zH, zT]) ?_
   refine zst (by first | exact op_sub (by rfl) (by rfl) (wrap_i64 ⟨by omega, by omega⟩) | exact op_sub (by rfl) (by rfl) (by rfl)) rfl (by dsimp only [zS, zN, zH, zT]) ?_
   refine zst (op_move_tmp (by rfl)) rfl (by dsimp only [zS, zN, zH, zT]) ?_
   refine zst (by first | exact op_sub (by rfl) (by rfl) (wrap_i64 ⟨by omega, by omega⟩) | exact op_sub (by rfl) (by rfl) (by rfl)) rfl (by dsimp only [zS, zN, zH, zT]) ?_
   refine zst (by first | exact op_mul (by rfl) (by rfl) (wrap_i64 ⟨by omega, by omega⟩) | exact op_mul (by rfl) (by rfl) (by rfl)) rfl (by dsimp only [zS, zN, zH, zT]) ?_
   refine zst (op_shr (by rfl) (by rfl) (by omega) (shr_at _ hlt hz8)) rfl (by dsimp only [zS, zN, zH, zT]) ?_
   refine zst (op_convI (by rw [Try.underlying177]; rfl) Try.underlying5 (by rfl) (conv_byte _)) rfl (by dsimp only [zS, zN, zH, zT]) ?_
   refine zst (op_lit Try.underlying49 ZS5 (.cons (by rfl) (.nil _)) (by rfl) (by simp [BY, S, I, TF, DV.cells]) (by simp [flat, BY, S, I, TF, DV.cells, DV.one]) (by decide)) rfl (by dsimp only [zS, zN, zH, zT]) ?_
   refine zst (op_append Try.underlying49 Inf5 (by rfl) hApp (.list _ _ _ _ Try.underlying49 (LL.own _ _ _)) (by simpa using hOk) (by simp) (by simp <;> omega) (by simp <;> omega)) rfl (by dsimp only [zS, zN, zH, zT]) ?_
   refine zst (op_assign_tmp (by rfl)) rfl (by dsimp only [zS, zN, zH, zT]) ?_
   refine al_end rfl ?_
   refine inBlock_normal (then_normal ?_)
   refine aw_region ?_
   refine zst (by first | exact op_add (by rfl) (by rfl) (wrap_i64 ⟨by omega, by omega⟩) | exact op_add (by rfl) (by rfl) (by rfl)) rfl (by dsimp only [zS, zN, zH, zT]) ?_
   refine zst (op_move_tmp (by rfl)) rfl (by dsimp only [zS, zN, zH, zT]) ?_
   refine al_end rfl ?_
   apply again_to (szN x - (k + 1)) [true, false, false, false, false, true, true, false, false, false, false, false, false, false, false, false, false, false, false, false, false, false, false, false, true, true, false, false, false, false, false, false, false, false, false, false, false, false, false, false, false]
   · (try dsimp only [maskT]); try exact rfl
   · rfl
   · omega
   exact ⟨k + 1, _, rfl, by omega, rfl, Grew.mk hHeir (by rw [take_snoc (numB_get hlt)]; simp [BY]) (by rw [take_snoc (numB_get hlt)]; simp <;> omega)⟩
  ·
   (try simp only [y1, y2, y3, y4, y5, y6, y7, y8, y9, y0, List.length_map] at hc2)
   have hke : k = szN x := by omega
   subst hke
   rw [List.take_of_length_le (by omega)] at hG
   refine aw_exit ?_
   refine then_exit (again_exit (inBlock_here (then_normal ?_)))
   refine aw_seq ?_
   refine aw_region ?_
   refine zst (op_move_tmp (by rfl)) rfl (by dsimp only [zS, zN, zH, zT]) ?_
   refine zst (op_assign_tmp (by rfl)) rfl (by dsimp only [zS, zN, zH, zT]) ?_
   refine al_end rfl ?_
   refine then_normal ?_
   refine aw_ret ?_
   refine retPost1 rfl rfl ?_
   exact hG.ret (by intro e; rw [e] at hzl; cases hzl)
set_option maxRecDepth 100000 in
theorem otext_ok (Hs : HS) (t : Option Nat) (v : AV) (bs : List UInt8) (s : List UInt8) (hv : App v t 1 (bs.map BY)) (hok : Hs.ok t bs.length) (hb : bs.length + s.length + 9 ≤ 140737488355328) : ACalls Try.prog 55 [v, .d (S s)] Hs (Ret (ownB Hs t (bs ++ textB s)) (upB Hs t (bs ++ textB s))) := by
 have hz8 := szN_8 (n := s.length) (by omega)
 have hzl := numB_len s.length
 rw [show ((s.length : Nat) : Int).toNat = s.length from rfl] at hz8
 have hnum := onum_ok Hs t v bs s.length hv hok (by omega) (by omega)
 rw [show ((s.length : Nat) : Int).toNat = s.length from rfl] at hnum
 rw [show bs ++ textB s = (bs ++ numB s.length) ++ s by simp [textB]]
 refine acalls_of_aw Try.func55 rfl ?_
 refine aw_start (T' := [v, .d (S s), .un, .un, .un, .un, .un, .un, .un, .un, .un]) rfl ?_
 refine aw_seq ?_
 refine aw_region ?_
 refine zst (op_assign_const (by rfl)) rfl (by dsimp only [zS, zN, zH, zT]) ?_
 refine al_end rfl ?_
 refine then_normal ?_
 refine aw_seq ?_
 refine aw_region ?_
 refine zst (op_move_tmp (by rfl)) rfl (by dsimp only [zS, zN, zH, zT]) ?_
 refine zst (op_move_tmp (by rfl)) rfl (by dsimp only [zS, zN, zH, zT]) ?_
 refine zst (op_lenS Try.underlying9 (by rfl)) rfl (by dsimp only [zS, zN, zH, zT]) ?_
 refine zst (op_callF Try.func54 (by rfl) (by rfl) (.tmp (by rfl) (.tmp (by rfl) .nil)) (hnum)) rfl (by dsimp only [zS, zN, zH, zT]) ?_
 refine zst (op_move_tmp (by rfl)) rfl (by dsimp only [zS, zN, zH, zT]) ?_
 refine zst (op_appendO Try.underlying49 Inf5 (by rfl) (by rfl) (.str s Try.underlying9) rfl hok (by simp; omega)) rfl (by dsimp only [zS, zN, zH, zT]) ?_
 refine zst (op_assign_tmp (by rfl)) rfl (by dsimp only [zS, zN, zH, zT]) ?_
 refine al_end rfl ?_
 refine then_normal ?_
 refine aw_ret ?_
 refine retPost1 rfl rfl ?_
 exact ⟨rfl, rfl⟩
set_option maxRecDepth 100000 in
theorem oflag_ok (Hs : HS) (t : Option Nat) (v : AV) (bs : List UInt8) (b : Bool) (hv : App v t 1 (bs.map BY)) (hok : Hs.ok t bs.length) (hb : bs.length + 1 ≤ 140737488355328) : ACalls Try.prog 70 [v, .d (TF b)] Hs (Ret (ownB Hs t (bs ++ flagB b)) (upB Hs t (bs ++ flagB b))) := by
 refine acalls_of_aw Try.func70 rfl ?_
 refine aw_start (T' := [v, .d (TF b), .un, .un, .un, .un, .un, .un, .un, .un, .un, .un]) rfl ?_
 refine aw_seq ?_
 refine aw_region ?_
 refine zst (op_assign_const (by rfl)) rfl (by dsimp only [zS, zN, zH, zT]) ?_
 refine al_end rfl ?_
 refine then_normal ?_
 refine aw_seq ?_
 refine aw_seq ?_
 refine aw_region ?_
 refine zst (op_move_tmp (by rfl)) rfl (by dsimp only [zS, zN, zH, zT]) ?_
 refine al_end rfl ?_
 refine then_normal ?_
 refine aw_cond rfl (fun hc1 => ?_) (fun hc1 => ?_)
 ·
  (try simp only [y1, y2, y3, y4, y5, y6, y7, y8, y9, y0, List.length_map] at hc1)
  have hb1 : b = true := hc1
  subst hb1
  refine aw_seq ?_
  refine aw_region ?_
  refine zst (op_move_tmp (by rfl)) rfl (by dsimp only [zS, zN, zH, zT]) ?_
  refine zst (op_lit Try.underlying49 ZS5 (.cons (by rfl) (.nil _)) (by rfl) (by simp [BY, S, I, TF, DV.cells]) (by simp [flat, BY, S, I, TF, DV.cells, DV.one]) (by decide)) rfl (by dsimp only [zS, zN, zH, zT]) ?_
  refine zst (op_append Try.underlying49 Inf5 (by rfl) hv (.list _ _ _ _ Try.underlying49 (LL.own _ _ _)) (by simpa using hok) (by simp) (by simp <;> omega) (by simp <;> omega)) rfl (by dsimp only [zS, zN, zH, zT]) ?_
  refine zst (op_assign_tmp (by rfl)) rfl (by dsimp only [zS, zN, zH, zT]) ?_
  refine al_end rfl ?_
  refine then_normal ?_
  refine aw_ret ?_
  refine then_ret ?_
  refine retPost1 rfl rfl ?_
  exact ⟨by simp [ownB, flagB, BY], by simp [upB, flagB]⟩
 ·
  (try simp only [y1, y2, y3, y4, y5, y6, y7, y8, y9, y0, List.length_map] at hc1)
  have hb1 : b = false := hc1
  subst hb1
  refine aw_skip ?_
  refine then_normal ?_
  refine aw_seq ?_
  refine aw_region ?_
  refine zst (op_move_tmp (by rfl)) rfl (by dsimp only [zS, zN, zH, zT]) ?_
  refine zst (op_lit Try.underlying49 ZS5 (.cons (by rfl) (.nil _)) (by rfl) (by simp [BY, S, I, TF, DV.cells]) (by simp [flat, BY, S, I, TF, DV.cells, DV.one]) (by decide)) rfl (by dsimp only [zS, zN, zH, zT]) ?_
  refine zst (op_append Try.underlying49 Inf5 (by rfl) hv (.list _ _ _ _ Try.underlying49 (LL.own _ _ _)) (by simpa using hok) (by simp) (by simp <;> omega) (by simp <;> omega)) rfl (by dsimp only [zS, zN, zH, zT]) ?_
  refine zst (op_assign_tmp (by rfl)) rfl (by dsimp only [zS, zN, zH, zT]) ?_
  refine al_end rfl ?_
  refine then_normal ?_
  refine aw_ret ?_
  refine retPost1 rfl rfl ?_
  exact ⟨by simp [ownB, flagB, BY], by simp [upB, flagB]⟩
end Go.Proofs.Ytjbpfnoibeogbaa
namespace Go.Proofs.Ytjbpfnoibeogbaa
open Go.AV Go.AV.Ord
set_option linter.unusedVariables false
set_option linter.unusedSimpArgs false
set_option maxRecDepth 100000 in
theorem text_ok (Hs : HS) (t : Option Nat) (v : AV) (bs s : List UInt8) (hv : App v t 1 (bs.map BY)) (hok : Hs.ok t bs.length) (hb : bs.length + 2 * s.length + 2 ≤ 140737488355328) : ACalls Try.prog 82 [v, .d (S s)] Hs (Ret (ownB Hs t (bs ++ encT s)) (upB Hs t (bs ++ encT s))) := by
 refine acalls_of_aw Try.func82 rfl ?_
 refine aw_start (T' := [v, .d (S s), .un, .un, .un, .un, .un, .un, .un, .un, .un, .un, .un, .un, .un, .un, .un, .un, .un, .un, .un, .un, .un, .un, .un, .un, .un]) rfl ?_
 refine aw_seq ?_
 refine aw_region ?_
 refine zst (op_assign_const (by rfl)) rfl (by dsimp only [zS, zN, zH, zT]) ?_
 refine al_end rfl ?_
 refine then_normal ?_
 refine aw_seq ?_
 refine aw_seq ?_
 refine aw_region ?_
 refine zst (op_move_tmp (by rfl)) rfl (by dsimp only [zS, zN, zH, zT]) ?_
 refine zst (op_bytes Try.underlying9 Try.underlying49 Try.underlying5 (by rfl)) rfl (by dsimp only [zS, zN, zH, zT]) ?_
 refine zst (op_lenL Try.underlying49 (by first | exact LL.d _ _ | exact LL.own _ _ _ | exact LL.nil _ | assumption)) rfl (by dsimp only [zS, zN, zH, zT]) ?_
 refine zst (op_move_const (by rfl)) rfl (by dsimp only [zS, zN, zH, zT]) ?_
 refine al_end rfl ?_
 refine then_normal ?_
 refine aw_block ?_
 apply aw_loopF (fun n T H => ∃ (k : Nat) (v' : AV), T = [v', .d (S s), .un, .un, .un, .un, .un, .un, .d (.lst 1 (s.map BY)), .d (I (s.map BY).length), .d (I k), .un, .un, .un, .un, .un, .un, .un, .un, .un, .un, .un, .un, .un, .un, .un, .un] ∧ k ≤ s.length ∧ n = s.length - k ∧ Bytes Hs t v' H (bs ++ enc0 (s.take k))) (s.length) [true, true, false, false, false, false, false, false, true, true, true, false, false, false, false, false, false, false, false, false, false, false, false, false, false, false, false]
 · (try dsimp only [maskT]); try exact rfl
 · rfl
 · exact ⟨0, v, rfl, Nat.zero_le _, rfl, by simpa [enc0] using Bytes.own hv hok⟩
 rintro n T H ⟨k, v', rfl, hk, rfl, hB⟩
 obtain ⟨t', hApp, hHeir, hOk⟩ := hB.ex
 have hE := enc0_len (s.take k)
 have hT : (s.take k).length = k := by simp; omega
 rw [hT] at hE
 refine aw_seq ?_
 refine aw_region ?_
 refine zst (op_ltI (by rfl) (by rfl)) rfl (by dsimp only [zS, zN, zH, zT]) ?_
 refine al_end rfl ?_
 refine then_normal ?_
 refine aw_seq ?_
 refine aw_cond rfl (fun hc1 => ?_) (fun hc1 => ?_)
 ·
  (try simp only [y1, y2, y3, y4, y5, y6, y7, y8, y9, y0, List.length_map] at hc1)
  (try simp only [List.length_map] at hc1)
  have hlt : k < s.length := by omega
  obtain ⟨c, hcc⟩ : ∃ c, s[k]? = some c := ⟨_, List.getElem?_eq_getElem hlt⟩
  refine aw_skip ?_
  refine then_normal ?_
  refine aw_seq ?_
  refine aw_block ?_
  refine aw_seq ?_
  refine aw_region ?_
  refine zst (op_indexAddr Try.underlying49 Sz5 (LL.d _ _) (by rfl) (by omega) (show (s.map BY)[((k : Nat) : Int).toNat]? = some (BY c) by simp [hcc]) (by rfl)) rfl (by dsimp only [zS, zN, zH, zT]) ?_
  refine zst (by first | exact op_load_elt Try.underlying5 (by rfl) (by rfl) (by rfl) | exact op_load_ptr Try.underlying5 (by rfl) (by rfl) (by rfl) (by rfl)) rfl (by dsimp only [zS, zN, zH, zT]) ?_
  refine zst (op_assign_tmp (by rfl)) rfl (by dsimp only [zS, zN, zH, zT]) ?_
  refine al_end rfl ?_
  refine then_normal ?_
  refine aw_seq ?_
  refine aw_region ?_
  refine zst (op_move_tmp (by rfl)) rfl (by dsimp only [zS, zN, zH, zT]) ?_
  refine zst (op_move_tmp (by rfl)) rfl (by dsimp only [zS, zN, zH, zT]) ?_
  refine zst (op_lit Try.underlying49 ZS5 (.cons (by rfl) (.nil _)) (by rfl) (by simp [BY, S, I, TF, DV.cells]) (by simp [flat, BY, S, I, TF, DV.cells, DV.one]) (by decide)) rfl (by dsimp only [zS, zN, zH, zT]) ?_
  refine zst (op_append Try.underlying49 Inf5 (by rfl) hApp (.list _ _ _ _ Try.underlying49 (LL.own _ _ _)) (by simpa using hOk) (by simp) (by simp <;> omega) (by simp <;> omega)) rfl (by dsimp only [zS, zN, zH, zT]) ?_
  refine zst (op_assign_tmp (by rfl)) rfl (by dsimp only [zS, zN, zH, zT]) ?_
  refine al_end rfl ?_
  refine then_normal ?_
  refine aw_seq ?_
  refine aw_region ?_
  refine zst (op_move_tmp (by rfl)) rfl (by dsimp only [zS, zN, zH, zT]) ?_
  refine zst (op_eqI (by rfl) (by rfl)) rfl (by dsimp only [zS, zN, zH, zT]) ?_
  refine al_end rfl ?_
  refine then_normal ?_
  refine aw_cond rfl (fun hc2 => ?_) (fun hc2 => ?_)
  ·
   (try simp only [y1, y2, y3, y4, y5, y6, y7, y8, y9, y0, List.length_map] at hc2)
   have hc0 : c = 0 := UInt8.toNat_inj.1 (by have : ((c.toNat : Nat) : Int) = 0 := hc2; simpa using this)
   refine aw_region ?_
   refine zst (op_move_tmp (by rfl)) rfl (by dsimp only [zS, zN, zH, zT]) ?_
   refine zst (op_lit Try.underlying49 ZS5 (.cons (by rfl) (.nil _)) (by rfl) (by simp [BY, S, I, TF, DV.cells]) (by simp [flat, BY, S, I, TF, DV.cells, DV.one]) (by decide)) rfl (by dsimp only [zS, zN, zH, zT]) ?_
   refine zst (op_append Try.underlying49 Inf5 (by rfl) (App.own _ _ _) (.list _ _ _ _ Try.underlying49 (LL.own _ _ _)) (HS.ok_up' hOk (by simp <;> omega)) (by simp) (by simp <;> omega) (by simp <;> omega)) rfl (by dsimp only [zS, zN, zH, zT]) ?_
   refine zst (op_assign_tmp (by rfl)) rfl (by dsimp only [zS, zN, zH, zT]) ?_
   refine al_end rfl ?_
   refine inBlock_normal (then_normal ?_)
   refine aw_region ?_
   refine zst (by first | exact op_add (by rfl) (by rfl) (wrap_i64 ⟨by omega, by omega⟩) | exact op_add (by rfl) (by rfl) (by rfl)) rfl (by dsimp only [zS, zN, zH, zT]) ?_
   refine zst (op_move_tmp (by rfl)) rfl (by dsimp only [zS, zN, zH, zT]) ?_
   refine al_end rfl ?_
   apply again_to (s.length - (k + 1)) [true, true, false, false, false, false, false, false, true, true, true, false, false, false, false, false, false, false, false, false, false, false, false, false, false, false, false]
   · (try dsimp only [maskT]); try exact rfl
   · rfl
   · omega
   exact ⟨k + 1, _, rfl, by omega, rfl, Bytes.grown' (hHeir.step _) (HS.ok_up' hOk rfl) (by subst hc0; simp [take_snoc hcc, enc0_snoc, enc1, BY]) (by simp <;> omega)⟩
  ·
   (try simp only [y1, y2, y3, y4, y5, y6, y7, y8, y9, y0, List.length_map] at hc2)
   have hc0 : c ≠ 0 := by intro e; subst e; exact absurd hc2 (by decide)
   refine aw_skip ?_
   refine inBlock_normal (then_normal ?_)
   refine aw_region ?_
   refine zst (by first | exact op_add (by rfl) (by rfl) (wrap_i64 ⟨by omega, by omega⟩) | exact op_add (by rfl) (by rfl) (by rfl)) rfl (by dsimp only [zS, zN, zH, zT]) ?_
   refine zst (op_move_tmp (by rfl)) rfl (by dsimp only [zS, zN, zH, zT]) ?_
   refine al_end rfl ?_
   apply again_to (s.length - (k + 1)) [true, true, false, false, false, false, false, false, true, true, true, false, false, false, false, false, false, false, false, false, false, false, false, false, false, false, false]
   · (try dsimp only [maskT]); try exact rfl
   · rfl
   · omega
   exact ⟨k + 1, _, rfl, by omega, rfl, Bytes.grown' hHeir hOk (by simp [take_snoc hcc, enc0_snoc, enc1, hc0]) (by simp <;> omega)⟩
 ·
  (try simp only [y1, y2, y3, y4, y5, y6, y7, y8, y9, y0, List.length_map] at hc1)
  (try simp only [List.length_map] at hc1)
  have hke : k = s.length := by omega
  subst hke
  simp only [List.take_length] at hApp hOk hE
  refine aw_exit ?_
  refine then_exit (again_exit (inBlock_here (then_normal ?_)))
  refine aw_seq ?_
  refine aw_region ?_
  refine zst (op_move_tmp (by rfl)) rfl (by dsimp only [zS, zN, zH, zT]) ?_
  refine zst (op_lit Try.underlying49 ZS5 (.cons (by rfl) (.cons (by rfl) (.nil _))) (by rfl) (by simp [BY, S, I, TF, DV.cells]) (by simp [flat, BY, S, I, TF, DV.cells, DV.one]) (by decide)) rfl (by dsimp only [zS, zN, zH, zT]) ?_
  refine zst (op_append Try.underlying49 Inf5 (by rfl) hApp (.list _ _ _ _ Try.underlying49 (LL.own _ _ _)) (by simpa using hOk) (by simp) (by simp <;> omega) (by simp <;> omega)) rfl (by dsimp only [zS, zN, zH, zT]) ?_
  refine zst (op_assign_tmp (by rfl)) rfl (by dsimp only [zS, zN, zH, zT]) ?_
  refine al_end rfl ?_
  refine then_normal ?_
  refine aw_ret ?_
  refine retPost1 rfl rfl ?_
  refine ⟨?_, ?_⟩
  · rw [hHeir.tk]; simp [ownB, encT, BY]
  · rw [hHeir.up]; simp [upB, encT, Nat.add_assoc]
set_option maxRecDepth 100000 in
theorem key_ok (Hs : HS) (v : AV) (ps : List (List UInt8)) (hv : LL v 1 (ps.map S)) (hb : 2 * (ps.map List.length).sum + 2 * ps.length ≤ 140737488355328) : ACalls Try.prog 51 [v] Hs (Ret (.d (S (keyL ps))) Hs) := by
 refine ACalls.tidy1 ?_
 refine acalls_of_aw Try.func51 rfl ?_
 refine aw_start (T' := [v, .un, .un, .un, .un, .un, .un, .un, .un, .un, .un, .un, .un, .un, .un, .un, .un, .un]) rfl ?_
 refine aw_seq ?_
 refine aw_region ?_
 refine zst (op_assign_const (by rfl)) rfl (by dsimp only [zS, zN, zH, zT]) ?_
 refine al_end rfl ?_
 refine then_normal ?_
 refine aw_seq ?_
 refine aw_region ?_
 refine zst (op_assign_const (by rfl)) rfl (by dsimp only [zS, zN, zH, zT]) ?_
 refine al_end rfl ?_
 refine then_normal ?_
 refine aw_seq ?_
 refine aw_seq ?_
 refine aw_region ?_
 refine zst (op_move_tmp (by rfl)) rfl (by dsimp only [zS, zN, zH, zT]) ?_
 refine zst (op_lenL Try.underlying52 hv) rfl (by dsimp only [zS, zN, zH, zT]) ?_
 refine zst (op_move_const (by rfl)) rfl (by dsimp only [zS, zN, zH, zT]) ?_
 refine al_end rfl ?_
 refine then_normal ?_
 refine aw_block ?_
 apply aw_loopF (fun n T H => ∃ (k : Nat) (v' : AV), T = [.un, .un, .un, v', .un, .un, v, .d (I (ps.map S).length), .d (I k), .un, .un, .un, .un, .un, .un, .un, .un, .un] ∧ k ≤ ps.length ∧ n = ps.length - k ∧ Bytes Hs none v' H (keyL (ps.take k))) (ps.length) [false, false, false, true, false, false, true, true, true, false, false, false, false, false, false, false, false, false]
 · (try dsimp only [maskT]); try exact rfl
 · rfl
 · exact ⟨0, _, rfl, Nat.zero_le _, rfl, Bytes.own (App.nil _) (HS.ok_none _ _)⟩
 rintro n T H ⟨k, v', rfl, hk, rfl, hB⟩
 obtain ⟨t', hApp, hHeir, hOk⟩ := hB.ex
 refine aw_seq ?_
 refine aw_region ?_
 refine zst (op_ltI (by rfl) (by rfl)) rfl (by dsimp only [zS, zN, zH, zT]) ?_
 refine al_end rfl ?_
 refine then_normal ?_
 refine aw_seq ?_
 refine aw_cond rfl (fun hc1 => ?_) (fun hc1 => ?_)
 ·
  (try simp only [y1, y2, y3, y4, y5, y6, y7, y8, y9, y0, List.length_map] at hc1)
  (try simp only [List.length_map] at hc1)
  have hlt : k < ps.length := by omega
  obtain ⟨p, hcc⟩ : ∃ c, ps[k]? = some c := ⟨_, List.getElem?_eq_getElem hlt⟩
  have hL := keyL_len hcc
  refine aw_skip ?_
  refine then_normal ?_
  refine aw_seq ?_
  refine aw_block ?_
  refine aw_seq ?_
  refine aw_region ?_
  refine zst (op_indexAddr Try.underlying52 Sz9 hv (by rfl) (by omega) (show (ps.map S)[((k : Nat) : Int).toNat]? = some (S p) by simp [hcc]) (by rfl)) rfl (by dsimp only [zS, zN, zH, zT]) ?_
  refine zst (by first | exact op_load_elt Try.underlying9 (by rfl) (by rfl) (by rfl) | exact op_load_ptr Try.underlying9 (by rfl) (by rfl) (by rfl) (by rfl)) rfl (by dsimp only [zS, zN, zH, zT]) ?_
  refine zst (op_assign_tmp (by rfl)) rfl (by dsimp only [zS, zN, zH, zT]) ?_
  refine al_end rfl ?_
  refine then_normal ?_
  refine aw_region ?_
  refine zst (op_move_tmp (by rfl)) rfl (by dsimp only [zS, zN, zH, zT]) ?_
  refine zst (op_move_tmp (by rfl)) rfl (by dsimp only [zS, zN, zH, zT]) ?_
  refine zst (op_callF Try.func82 (by rfl) (by rfl) (.tmp (by rfl) (.tmp (by rfl) .nil)) (text_ok _ t' _ _ p hApp hOk (by omega))) rfl (by dsimp only [zS, zN, zH, zT]) ?_
  refine zst (op_assign_tmp (by rfl)) rfl (by dsimp only [zS, zN, zH, zT]) ?_
  refine al_end rfl ?_
  refine inBlock_normal (then_normal ?_)
  refine aw_region ?_
  refine zst (by first | exact op_add (by rfl) (by rfl) (wrap_i64 ⟨by omega, by omega⟩) | exact op_add (by rfl) (by rfl) (by rfl)) rfl (by dsimp only [zS, zN, zH, zT]) ?_
  refine zst (op_move_tmp (by rfl)) rfl (by dsimp only [zS, zN, zH, zT]) ?_
  refine al_end rfl ?_
  apply again_to (ps.length - (k + 1)) [false, false, false, true, false, false, true, true, true, false, false, false, false, false, false, false, false, false]
  · (try dsimp only [maskT]); try exact rfl
  · rfl
  · omega
  exact ⟨k + 1, _, rfl, by omega, rfl, Bytes.grown' hHeir hOk (by simp [take_snoc hcc, keyL]) (by simp [keyL])⟩
 ·
  (try simp only [y1, y2, y3, y4, y5, y6, y7, y8, y9, y0, List.length_map] at hc1)
  (try simp only [List.length_map] at hc1)
  have hke : k = ps.length := by omega
  subst hke
  simp only [List.take_length] at hApp hOk
  refine aw_exit ?_
  refine then_exit (again_exit (inBlock_here (then_normal ?_)))
  refine aw_seq ?_
  refine aw_region ?_
  refine zst (op_move_tmp (by rfl)) rfl (by dsimp only [zS, zN, zH, zT]) ?_
  refine zst (op_string Try.underlying49 Try.underlying9 Try.underlying5 hApp.ll (by rfl)) rfl (by dsimp only [zS, zN, zH, zT]) ?_
  refine zst (op_assign_tmp (by rfl)) rfl (by dsimp only [zS, zN, zH, zT]) ?_
  refine al_end rfl ?_
  refine then_normal ?_
  refine aw_ret ?_
  refine retPost1 rfl rfl ?_
  exact ⟨rfl, hHeir.ext⟩
end Go.Proofs.Ytjbpfnoibeogbaa
namespace Go.Proofs.Ytjbpfnoibeogbaa
open Go.AV Go.AV.Ord
set_option linter.unusedVariables false
set_option linter.unusedSimpArgs false
set_option maxRecDepth 100000 in
theorem ckey_ok (Hs : HS) (name : List UInt8) (z : DV) (hb : name.length ≤ 1000000) : ACalls Try.prog 60 [.d (.agg [S name, z])] Hs (Ret (.d (S (keyL [[99], name]))) Hs) := by
 refine acalls_of_aw Try.func60 rfl ?_
 refine aw_start (T' := [.d (.agg [S name, z]), .un, .un, .un, .un, .un, .un]) rfl ?_
 refine aw_seq ?_
 refine aw_region ?_
 refine zst (op_box_elt (by rfl) (by rfl)) rfl (by dsimp only [zS, zN, zH, zT]) ?_
 refine zst (op_assign_const (by rfl)) rfl (by dsimp only [zS, zN, zH, zT]) ?_
 refine al_end rfl ?_
 refine then_normal ?_
 refine aw_seq ?_
 refine aw_region ?_
 refine zst (by first | exact op_fieldAddr_ptr Try.underlying77 rfl Sz9 (by rfl) (by rfl) | exact op_fieldAddr_elt Try.underlying77 rfl Sz9 (by rfl) (by rfl) (by rfl)) rfl (by dsimp only [zS, zN, zH, zT]) ?_
 refine zst (by first | exact op_load_elt Try.underlying9 (by rfl) (by rfl) (by rfl) | exact op_load_ptr Try.underlying9 (by rfl) (by rfl) (by rfl) (by rfl)) rfl (by dsimp only [zS, zN, zH, zT]) ?_
 refine zst (op_lit Try.underlying52 ZS9 (.cons (by rfl) (.cons (by rfl) (.nil _))) (by rfl) (by simp [BY, S, I, TF, DV.cells]) (by simp [flat, BY, S, I, TF, DV.cells, DV.one]) (by decide)) rfl (by dsimp only [zS, zN, zH, zT]) ?_
 refine zst (op_callF Try.func51 (by rfl) (by rfl) (.tmp (by rfl) .nil) (key_ok _ _ [[99], name] (LL.own _ _ _) (by simp; omega))) rfl (by dsimp only [zS, zN, zH, zT]) ?_
 refine zst (op_assign_tmp (by rfl)) rfl (by dsimp only [zS, zN, zH, zT]) ?_
 refine al_end rfl ?_
 refine then_normal ?_
 refine aw_ret ?_
 refine retPost1 rfl rfl ?_
 exact ⟨rfl, rfl⟩
end Go.Proofs.Ytjbpfnoibeogbaa
namespace Go.Proofs.Ytjbpfnoibeogbaa
open Go.AV Go.AV.Ord Go.AV.Oct Go.AV.Sch
set_option linter.unusedVariables false
set_option linter.unusedSimpArgs false
set_option maxRecDepth 100000 in
theorem name_ok (Hs : HS) (s : List UInt8) : ACalls Try.prog 67 [.d (S s)] Hs (Ret (.d (TF (nameB s))) Hs) := by
 refine acalls_of_aw Try.func67 rfl ?_
 refine aw_start (T' := [.d (S s), .un, .un, .un, .un, .un, .un, .un, .un, .un]) rfl ?_
 refine aw_seq ?_
 refine aw_region ?_
 refine zst (op_assign_const (by rfl)) rfl (by dsimp only [zS, zN, zH, zT]) ?_
 refine al_end rfl ?_
 refine then_normal ?_
 refine aw_seq ?_
 refine aw_region ?_
 refine zst (op_move_tmp (by rfl)) rfl (by dsimp only [zS, zN, zH, zT]) ?_
 refine zst (op_neS (by rfl) (by rfl)) rfl (by dsimp only [zS, zN, zH, zT]) ?_
 refine zst (op_move_tmp (by rfl)) rfl (by dsimp only [zS, zN, zH, zT]) ?_
 refine al_split 5 rfl (fun hg1 => ?_) (fun hg1 => ?_)
 ·
  (try simp only [y1, y2, y3, y4, y5, y6, y7, y8, y9, y0, List.length_map] at hg1)
  have h0 : ¬ s = [] := hg1
  apply al_normT
  · (try dsimp only [zS, zN, zH, zT]); try exact rfl
  refine zsw rfl rfl rfl (op_move_tmp (by rfl)) (by dsimp only [zS, zN, zH, zT]) ?_
  refine zsw rfl rfl rfl (op_lenS Try.underlying9 (by rfl)) (by dsimp only [zS, zN, zH, zT]) ?_
  refine zsw rfl rfl rfl (op_leI (by rfl) (by rfl)) (by dsimp only [zS, zN, zH, zT]) ?_
  refine zst (op_pick_tt (by rfl) (val_tmp (by rfl))) rfl (by dsimp only [zS, zN, zH, zT]) ?_
  refine zst (op_assign_tmp (by rfl)) rfl (by dsimp only [zS, zN, zH, zT]) ?_
  refine al_end rfl ?_
  refine then_normal ?_
  refine aw_ret ?_
  refine retPost1 rfl rfl ?_
  exact ⟨by (rw [nameB_ne h0]) <;> rfl, rfl⟩
 ·
  (try simp only [y1, y2, y3, y4, y5, y6, y7, y8, y9, y0, List.length_map] at hg1)
  have h0 : s = [] := hg1
  apply al_normT
  · (try dsimp only [zS, zN, zH, zT]); try exact rfl
  refine zuw rfl rfl rfl rfl (by dsimp only [zS, zN, zH, zT]) ?_
  refine zuw rfl rfl rfl rfl (by dsimp only [zS, zN, zH, zT]) ?_
  refine zuw rfl rfl rfl rfl (by dsimp only [zS, zN, zH, zT]) ?_
  refine zst (op_pick_ff (by rfl) (val_const (by rfl))) rfl (by dsimp only [zS, zN, zH, zT]) ?_
  refine zst (op_assign_tmp (by rfl)) rfl (by dsimp only [zS, zN, zH, zT]) ?_
  refine al_end rfl ?_
  refine then_normal ?_
  refine aw_ret ?_
  refine retPost1 rfl rfl ?_
  exact ⟨by subst h0; rfl, rfl⟩
set_option maxRecDepth 100000 in
theorem called_ok (Hs : HS) (x y : Ix) : ACalls Try.prog 69 [.d (ixD x), .d (ixD y)] Hs (Ret (.d (TF (x.name == y.name))) Hs) := by
 refine acalls_of_aw Try.func69 rfl ?_
 refine aw_start (T' := [.d (ixD x), .d (ixD y), .un, .un, .un, .un, .un, .un, .un, .un]) rfl ?_
 refine aw_seq ?_
 refine aw_region ?_
 refine zst (op_box_elt (by rfl) (by rfl)) rfl (by dsimp only [zS, zN, zH, zT]) ?_
 refine zst (op_box_elt (by rfl) (by rfl)) rfl (by dsimp only [zS, zN, zH, zT]) ?_
 refine zst (op_assign_const (by rfl)) rfl (by dsimp only [zS, zN, zH, zT]) ?_
 refine al_end rfl ?_
 refine then_normal ?_
 refine aw_seq ?_
 refine aw_region ?_
 refine zst (by first | exact op_fieldAddr_ptr Try.underlying88 rfl Sz9 (by rfl) (by rfl) | exact op_fieldAddr_elt Try.underlying88 rfl Sz9 (by rfl) (by rfl) (by rfl)) rfl (by dsimp only [zS, zN, zH, zT]) ?_
 refine zst (by first | exact op_load_elt Try.underlying9 (by rfl) (by rfl) (by rfl) | exact op_load_ptr Try.underlying9 (by rfl) (by rfl) (by rfl) (by rfl)) rfl (by dsimp only [zS, zN, zH, zT]) ?_
 refine zst (by first | exact op_fieldAddr_ptr Try.underlying88 rfl Sz9 (by rfl) (by rfl) | exact op_fieldAddr_elt Try.underlying88 rfl Sz9 (by rfl) (by rfl) (by rfl)) rfl (by dsimp only [zS, zN, zH, zT]) ?_
 refine zst (by first | exact op_load_elt Try.underlying9 (by rfl) (by rfl) (by rfl) | exact op_load_ptr Try.underlying9 (by rfl) (by rfl) (by rfl) (by rfl)) rfl (by dsimp only [zS, zN, zH, zT]) ?_
 refine zst (op_eqS (by rfl) (by rfl)) rfl (by dsimp only [zS, zN, zH, zT]) ?_
 refine zst (op_assign_tmp (by rfl)) rfl (by dsimp only [zS, zN, zH, zT]) ?_
 refine al_end rfl ?_
 refine then_normal ?_
 refine aw_ret ?_
 refine retPost1 rfl rfl ?_
 exact ⟨rfl, rfl⟩
set_option maxRecDepth 100000 in
theorem index_ok (Hs : HS) (xs : List Ix) (x : Ix) (hl : xs.length ≤ 1000000) : ACalls Try.prog 72 [.d (.lst 3 (xs.map ixD)), .fn (.func 69) [.d (ixD x)] []] Hs (fun av H' => H' = Hs ∧ ∃ r : Int, av = .d (I r) ∧ decide (0 ≤ r) = xs.any fun y => x.name == y.name) := by
 refine acalls_of_aw Try.func72 rfl ?_
 refine aw_start (T' := [.d (.lst 3 (xs.map ixD)), .fn (.func 69) [.d (ixD x)] [], .un, .un, .un, .un, .un, .un, .un, .un, .un, .un, .un, .un, .un, .un, .un, .un, .un]) rfl ?_
 refine aw_seq ?_
 refine aw_region ?_
 refine zst (op_assign_const (by rfl)) rfl (by dsimp only [zS, zN, zH, zT]) ?_
 refine al_end rfl ?_
 refine then_normal ?_
 refine aw_seq ?_
 refine aw_seq ?_
 refine aw_region ?_
 refine zst (op_move_tmp (by rfl)) rfl (by dsimp only [zS, zN, zH, zT]) ?_
 refine zst (op_lenL Try.underlying75 (by first | exact LL.d _ _ | exact LL.own _ _ _ | exact LL.nil _ | assumption)) rfl (by dsimp only [zS, zN, zH, zT]) ?_
 refine zst (op_move_const (by rfl)) rfl (by dsimp only [zS, zN, zH, zT]) ?_
 refine al_end rfl ?_
 refine then_normal ?_
 refine aw_block ?_
 apply aw_loopF (fun n T H => ∃ (k : Nat), T = [.d (.lst 3 (xs.map ixD)), .fn (.func 69) [.d (ixD x)] [], .un, .un, .un, .un, .un, .d (I (xs.map ixD).length), .d (I k), .un, .un, .un, .un, .un, .un, .un, .un, .un, .un] ∧ k ≤ xs.length ∧ n = xs.length - k ∧ ((xs.take k).any fun y => x.name == y.name) = false ∧ Hs = H) (xs.length) [true, true, false, false, false, false, false, true, true, false, false, false, false, false, false, false, false, false, false]
 · (try dsimp only [maskT]); try exact rfl
 · rfl
 · exact ⟨0, rfl, by omega, rfl, by simp, rfl⟩
 rintro n T H ⟨k, rfl, hk, rfl, hn, rfl⟩
 refine aw_seq ?_
 refine aw_region ?_
 refine zst (op_ltI (by rfl) (by rfl)) rfl (by dsimp only [zS, zN, zH, zT]) ?_
 refine al_end rfl ?_
 refine then_normal ?_
 refine aw_seq ?_
 refine aw_cond rfl (fun hc1 => ?_) (fun hc1 => ?_)
 ·
  (try simp only [y1, y2, y3, y4, y5, y6, y7, y8, y9, y0, List.length_map] at hc1)
  (try simp only [List.length_map] at hc1)
  have hlt : k < xs.length := by omega
  obtain ⟨y, hy⟩ : ∃ y, xs[k]? = some y := ⟨_, List.getElem?_eq_getElem hlt⟩
  refine aw_skip ?_
  refine then_normal ?_
  refine aw_seq ?_
  refine aw_block ?_
  refine aw_seq ?_
  refine aw_region ?_
  refine zst (op_move_tmp (by rfl)) rfl (by dsimp only [zS, zN, zH, zT]) ?_
  refine zst (op_assign_tmp (by rfl)) rfl (by dsimp only [zS, zN, zH, zT]) ?_
  refine al_end rfl ?_
  refine then_normal ?_
  refine aw_seq ?_
  refine aw_region ?_
  refine zst (op_move_tmp (by rfl)) rfl (by dsimp only [zS, zN, zH, zT]) ?_
  refine zst (op_move_tmp (by rfl)) rfl (by dsimp only [zS, zN, zH, zT]) ?_
  refine zst (op_move_tmp (by rfl)) rfl (by dsimp only [zS, zN, zH, zT]) ?_
  refine zst (op_indexAddr Try.underlying75 Sz88 (LL.d _ _) (by rfl) (by omega) (show (xs.map ixD)[((k : Nat) : Int).toNat]? = some (ixD y) by rw [List.getElem?_map, show ((k : Nat) : Int).toNat = k from rfl, hy]; rfl) (by rfl)) rfl (by dsimp only [zS, zN, zH, zT]) ?_
  refine zst (op_load_elts (ds := ixC y) Try.underlying88 (by rfl) Sz88 (by rfl) (Nat.le_of_ble_eq_true rfl) (by rfl)) rfl (by dsimp only [zS, zN, zH, zT]) ?_
  refine zst (op_callV (by rfl) Try.func69 (by rfl) (by rfl) (.tmp (by rfl) .nil) (called_ok _ x y)) rfl (by dsimp only [zS, zN, zH, zT]) ?_
  refine al_end rfl ?_
  refine then_normal ?_
  refine aw_cond rfl (fun hc2 => ?_) (fun hc2 => ?_)
  ·
   (try simp only [y1, y2, y3, y4, y5, y6, y7, y8, y9, y0, List.length_map] at hc2)
   have hc : x.name = y.name := hc2
   refine aw_seq ?_
   refine aw_region ?_
   refine zst (op_move_tmp (by rfl)) rfl (by dsimp only [zS, zN, zH, zT]) ?_
   refine zst (op_assign_tmp (by rfl)) rfl (by dsimp only [zS, zN, zH, zT]) ?_
   refine al_end rfl ?_
   refine then_normal ?_
   refine aw_ret ?_
   refine inBlock_ret (then_ret (again_ret (inBlock_ret (then_ret ?_))))
   refine retPost1 rfl rfl ?_
   exact ⟨rfl, _, rfl, by rw [show decide ((0 : Int) ≤ (k : Int)) = true by simp]; symm; rw [List.any_eq_true]; exact ⟨y, List.mem_of_getElem? hy, by simp [hc]⟩⟩
  ·
   (try simp only [y1, y2, y3, y4, y5, y6, y7, y8, y9, y0, List.length_map] at hc2)
   have hc : ¬ x.name = y.name := hc2
   refine aw_skip ?_
   refine inBlock_normal (then_normal ?_)
   refine aw_region ?_
   refine zst (by first | exact op_add (by rfl) (by rfl) (wrap_i64 ⟨by omega, by omega⟩) | exact op_add (by rfl) (by rfl) (by rfl)) rfl (by dsimp only [zS, zN, zH, zT]) ?_
   refine zst (op_move_tmp (by rfl)) rfl (by dsimp only [zS, zN, zH, zT]) ?_
   refine al_end rfl ?_
   apply again_to (xs.length - (k + 1)) [true, true, false, false, false, false, false, true, true, false, false, false, false, false, false, false, false, false, false]
   · (try dsimp only [maskT]); try exact rfl
   · rfl
   · omega
   exact ⟨k + 1, rfl, by omega, rfl, by rw [take_snoc hy, List.any_append, hn]; simpa using hc, rfl⟩
 ·
  (try simp only [y1, y2, y3, y4, y5, y6, y7, y8, y9, y0, List.length_map] at hc1)
  (try simp only [List.length_map] at hc1)
  have hke : k = xs.length := by omega
  subst hke
  rw [List.take_length] at hn
  refine aw_exit ?_
  refine then_exit (again_exit (inBlock_here (then_normal ?_)))
  refine aw_seq ?_
  refine aw_region ?_
  refine zst (op_assign_const (by rfl)) rfl (by dsimp only [zS, zN, zH, zT]) ?_
  refine al_end rfl ?_
  refine then_normal ?_
  refine aw_ret ?_
  refine retPost1 rfl rfl ?_
  exact ⟨rfl, _, rfl, by rw [hn]; rfl⟩
set_option maxRecDepth 100000 in
theorem contains_ok (Hs : HS) (xs : List Ix) (x : Ix) (hl : xs.length ≤ 1000000) : ACalls Try.prog 68 [.d (.lst 3 (xs.map ixD)), .fn (.func 69) [.d (ixD x)] []] Hs (Ret (.d (TF (xs.any fun y => x.name == y.name))) Hs) := by
 refine acalls_of_aw Try.func68 rfl ?_
 refine aw_start (T' := [.d (.lst 3 (xs.map ixD)), .fn (.func 69) [.d (ixD x)] [], .un, .un, .un, .un, .un, .un, .un]) rfl ?_
 refine aw_seq ?_
 refine aw_region ?_
 refine zst (op_assign_const (by rfl)) rfl (by dsimp only [zS, zN, zH, zT]) ?_
 refine al_end rfl ?_
 refine then_normal ?_
 refine aw_seq ?_
 refine aw_region ?_
 refine zst (op_move_tmp (by rfl)) rfl (by dsimp only [zS, zN, zH, zT]) ?_
 refine zst (op_move_tmp (by rfl)) rfl (by dsimp only [zS, zN, zH, zT]) ?_
 refine al_cons _ (op_callF Try.func72 (by rfl) (by rfl) (.tmp (by rfl) (.tmp (by rfl) .nil)) (index_ok Hs xs x hl)) rfl ?_
 rintro v2 H2 ⟨rfl, r, rfl, hr⟩
 apply al_normT
 · (try dsimp only [putT, List.set_cons_zero, List.set_cons_succ]); try exact rfl
 refine zst (op_geI (by rfl) (by rfl)) rfl (by dsimp only [zS, zN, zH, zT]) ?_
 refine zst (op_assign_tmp (by rfl)) rfl (by dsimp only [zS, zN, zH, zT]) ?_
 refine al_end rfl ?_
 refine then_normal ?_
 refine aw_ret ?_
 refine retPost1 rfl rfl ?_
 exact ⟨by (rw [← hr]) <;> rfl, rfl⟩
set_option maxRecDepth 100000 in
theorem cright_ok (Hs : HS) (name : List UInt8) (xs : List Ix) : ACalls Try.prog 33 [.d (.agg [S name, .lst 3 (xs.map ixD)])] Hs (Ret (.d (TF (rightC name xs))) Hs) := by
 refine ACalls.tidy1 ?_
 refine acalls_of_aw Try.func33 rfl ?_
 refine aw_start (T' := [.d (.agg [S name, .lst 3 (xs.map ixD)]), .un, .un, .un, .un, .un, .un, .un, .un, .un, .un, .un, .un, .un, .un, .un, .un, .un, .un, .un, .un, .un, .un, .un, .un, .un, .un, .un, .un, .un, .un, .un, .un, .un, .un, .un, .un, .un, .un, .un, .un, .un, .un]) rfl ?_
 refine aw_seq ?_
 refine aw_region ?_
 refine zst (op_box_elt (by rfl) (by rfl)) rfl (by dsimp only [zS, zN, zH, zT]) ?_
 refine zst (op_assign_const (by rfl)) rfl (by dsimp only [zS, zN, zH, zT]) ?_
 refine al_end rfl ?_
 refine then_normal ?_
 refine aw_seq ?_
 refine aw_seq ?_
 refine aw_region ?_
 refine zst (by first | exact op_fieldAddr_ptr Try.underlying77 rfl Sz9 (by rfl) (by rfl) | exact op_fieldAddr_elt Try.underlying77 rfl Sz9 (by rfl) (by rfl) (by rfl)) rfl (by dsimp only [zS, zN, zH, zT]) ?_
 refine zst (by first | exact op_load_elt Try.underlying9 (by rfl) (by rfl) (by rfl) | exact op_load_ptr Try.underlying9 (by rfl) (by rfl) (by exact setB_at push_at) (by rfl)) rfl (by dsimp only [zS, zN, zH, zT]) ?_
 refine zst (op_callF Try.func67 (by rfl) (by rfl) (.tmp (by rfl) .nil) (name_ok _ _)) rfl (by dsimp only [zS, zN, zH, zT]) ?_
 refine zst (op_not (by rfl)) rfl (by dsimp only [zS, zN, zH, zT]) ?_
 refine zst (op_move_tmp (by rfl)) rfl (by dsimp only [zS, zN, zH, zT]) ?_
 refine al_split 9 rfl (fun hg1 => ?_) (fun hg1 => ?_)
 ·
  (try simp only [y1, y2, y3, y4, y5, y6, y7, y8, y9, y0, List.length_map] at hg1)
  have hn0 : nameB name = false := by simpa using hg1
  apply al_normT
  · (try dsimp only [zS, zN, zH, zT]); try exact rfl
  refine zuw rfl rfl rfl rfl (by dsimp only [zS, zN, zH, zT]) ?_
  refine zuw rfl rfl rfl rfl (by dsimp only [zS, zN, zH, zT]) ?_
  refine zuw rfl rfl rfl rfl (by dsimp only [zS, zN, zH, zT]) ?_
  refine zuw rfl rfl rfl rfl (by dsimp only [zS, zN, zH, zT]) ?_
  refine zst (op_pick_tt (by rfl) (val_const (by rfl))) rfl (by dsimp only [zS, zN, zH, zT]) ?_
  refine al_end rfl ?_
  refine then_normal ?_
  refine aw_cond rfl (fun _ => ?_) (fun h => by cases h)
  refine aw_seq ?_
  refine aw_region ?_
  refine zst (op_assign_const (by rfl)) rfl (by dsimp only [zS, zN, zH, zT]) ?_
  refine al_end rfl ?_
  refine then_normal ?_
  refine aw_ret ?_
  refine then_ret ?_
  refine retPost1 rfl rfl ?_
  exact ⟨by simp [rightC_eq, hn0, TF], Ext.refl _⟩
 ·
  (try simp only [y1, y2, y3, y4, y5, y6, y7, y8, y9, y0, List.length_map] at hg1)
  have hn0 : nameB name = true := by simpa using hg1
  apply al_normT
  · (try dsimp only [zS, zN, zH, zT]); try exact rfl
  refine zsw rfl rfl rfl (by first | exact op_fieldAddr_ptr Try.underlying77 rfl Sz75 (by rfl) (by rfl) | exact op_fieldAddr_elt Try.underlying77 rfl Sz75 (by rfl) (by rfl) (by rfl)) (by dsimp only [zS, zN, zH, zT]) ?_
  refine zsw rfl rfl rfl (by first | exact op_load_elt Try.underlying75 (by rfl) (by rfl) (by rfl) | exact op_load_ptr Try.underlying75 (by rfl) (by rfl) (by exact setB_at push_at) (by rfl)) (by dsimp only [zS, zN, zH, zT]) ?_
  refine zsw rfl rfl rfl (op_lenL Try.underlying75 (by first | exact LL.d _ _ | exact LL.own _ _ _ | exact LL.nil _ | assumption)) (by dsimp only [zS, zN, zH, zT]) ?_
  refine zsw rfl rfl rfl (op_gtI (by rfl) (by rfl)) (by dsimp only [zS, zN, zH, zT]) ?_
  refine zst (op_pick_ff (by rfl) (val_tmp (by rfl))) rfl (by dsimp only [zS, zN, zH, zT]) ?_
  refine al_end rfl ?_
  refine then_normal ?_
  refine aw_cond rfl (fun hc3 => ?_) (fun hc3 => ?_)
  ·
   (try simp only [y1, y2, y3, y4, y5, y6, y7, y8, y9, y0, List.length_map] at hc3)
   have h8 : 8 < (xs.length : Int) := by simpa using hc3
   refine aw_seq ?_
   refine aw_region ?_
   refine zst (op_assign_const (by rfl)) rfl (by dsimp only [zS, zN, zH, zT]) ?_
   refine al_end rfl ?_
   refine then_normal ?_
   refine aw_ret ?_
   refine then_ret ?_
   refine retPost1 rfl rfl ?_
   exact ⟨by simp [rightC_eq, show ¬ xs.length ≤ 8 by omega, TF], Ext.refl _⟩
  ·
   (try simp only [y1, y2, y3, y4, y5, y6, y7, y8, y9, y0, List.length_map] at hc3)
   have h8 : ¬ 8 < (xs.length : Int) := by simpa using hc3
   refine aw_skip ?_
   refine then_normal ?_
   refine aw_seq ?_
   refine aw_seq ?_
   refine aw_region ?_
   refine zst (by first | exact op_fieldAddr_ptr Try.underlying77 rfl Sz75 (by rfl) (by rfl) | exact op_fieldAddr_elt Try.underlying77 rfl Sz75 (by rfl) (by rfl) (by rfl)) rfl (by dsimp only [zS, zN, zH, zT]) ?_
   refine zst (by first | exact op_load_elt Try.underlying75 (by rfl) (by rfl) (by rfl) | exact op_load_ptr Try.underlying75 (by rfl) (by rfl) (by exact setB_at push_at) (by rfl)) rfl (by dsimp only [zS, zN, zH, zT]) ?_
   refine zst (op_lenL Try.underlying75 (by first | exact LL.d _ _ | exact LL.own _ _ _ | exact LL.nil _ | assumption)) rfl (by dsimp only [zS, zN, zH, zT]) ?_
   refine zst (op_move_const (by rfl)) rfl (by dsimp only [zS, zN, zH, zT]) ?_
   refine al_end rfl ?_
   refine then_normal ?_
   refine aw_block ?_
   apply aw_loopF (fun n T H => ∃ (k : Nat), T = [.un, .elt [S name, .lst 3 (xs.map ixD)], .un, .un, .un, .un, .un, .un, .un, .un, .un, .un, .un, .un, .un, .un, .d (.lst 3 (xs.map ixD)), .d (I (xs.map ixD).length), .d (I k), .un, .un, .un, .un, .un, .un, .un, .un, .un, .un, .un, .un, .un, .un, .un, .un, .un, .un, .un, .un, .un, .un, .un, .un] ∧ k ≤ xs.length ∧ n = xs.length - k ∧ (List.range k).all (rightAt xs) = true ∧ Ext Hs H) (xs.length) [false, true, false, false, false, false, false, false, false, false, false, false, false, false, false, false, true, true, true, false, false, false, false, false, false, false, false, false, false, false, false, false, false, false, false, false, false, false, false, false, false, false, false]
   · (try dsimp only [maskT]); try exact rfl
   · rfl
   · exact ⟨0, rfl, by omega, rfl, rfl, Ext.refl Hs⟩
   rintro n T H ⟨k, rfl, hk, rfl, hall, hx⟩
   refine aw_seq ?_
   refine aw_region ?_
   refine zst (op_ltI (by rfl) (by rfl)) rfl (by dsimp only [zS, zN, zH, zT]) ?_
   refine al_end rfl ?_
   refine then_normal ?_
   refine aw_seq ?_
   refine aw_cond rfl (fun hc4 => ?_) (fun hc4 => ?_)
   ·
    (try simp only [y1, y2, y3, y4, y5, y6, y7, y8, y9, y0, List.length_map] at hc4)
    (try simp only [List.length_map] at hc4)
    have hlt : k < xs.length := by omega
    obtain ⟨y, hy⟩ : ∃ y, xs[k]? = some y := ⟨_, List.getElem?_eq_getElem hlt⟩
    refine aw_skip ?_
    refine then_normal ?_
    refine aw_seq ?_
    refine aw_block ?_
    refine aw_seq ?_
    refine aw_region ?_
    refine zst (op_move_tmp (by rfl)) rfl (by dsimp only [zS, zN, zH, zT]) ?_
    refine zst (op_indexAddr Try.underlying75 Sz88 (LL.d _ _) (by rfl) (by omega) (show (xs.map ixD)[((k : Nat) : Int).toNat]? = some (ixD y) by rw [List.getElem?_map, show ((k : Nat) : Int).toNat = k from rfl, hy]; rfl) (by rfl)) rfl (by dsimp only [zS, zN, zH, zT]) ?_
    refine zst (op_load_elts (ds := ixC y) Try.underlying88 (by rfl) Sz88 (by rfl) (Nat.le_of_ble_eq_true rfl) (by rfl)) rfl (by dsimp only [zS, zN, zH, zT]) ?_
    refine zst (op_alloc (Zr88) (by rfl)) rfl (by dsimp only [zS, zN, zH, zT]) ?_
    refine zst (op_assign_tmp (by rfl)) rfl (by dsimp only [zS, zN, zH, zT]) ?_
    refine zst (op_storeB (vs := [.d (S y.name), .d (S y.field), .d (TF y.uniq)]) (b' := ⟨88, [.d (S y.name), .d (S y.field), .d (TF y.uniq)], false⟩) (H' := _) Sz88 (by rfl) push_at (by intro h; cases h) (by rfl) (by rfl) (Nat.le_of_ble_eq_true rfl) (by simp [AV.one, DV.one, TF, S, I, BY]) (by rfl) (by rfl) rfl) rfl (by dsimp only [zS, zN, zH, zT]) ?_
    refine al_end rfl ?_
    refine then_normal ?_
    refine aw_seq ?_
    refine aw_draw [0, 1, 0, 0, 0, 0, 1, 0, 0, 0, 0, 0, 1, 0, 0, 1, 0, 0, 0] mixed (by kernel_rfl) ?_
    refine zd0 (fun H => (by first | exact op_fieldAddr_ptr Try.underlying88 rfl Sz9 (by rfl) (by rfl) | exact op_fieldAddr_elt Try.underlying88 rfl Sz9 (by rfl) (by rfl) (by rfl))) rfl (by dsimp only [zS, zN, zH, zT]) ?_
    refine zd1 (by first | exact op_load_elt Try.underlying9 (by rfl) (by rfl) (by rfl) | exact op_load_ptr Try.underlying9 (by rfl) (by rfl) (by exact setB_at push_at) (by rfl)) rfl (by dsimp only [zS, zN, zH, zT]) ?_
    refine zd0 (fun H => (op_callF Try.func67 (by rfl) (by rfl) (.tmp (by rfl) .nil) (name_ok _ _))) rfl (by dsimp only [zS, zN, zH, zT]) ?_
    refine zd0 (fun H => (op_not (by rfl))) rfl (by dsimp only [zS, zN, zH, zT]) ?_
    refine zd0 (fun H => (op_move_tmp (by rfl))) rfl (by dsimp only [zS, zN, zH, zT]) ?_
    refine drun_split 27 rfl (fun hg5 => ?_) (fun hg5 => ?_)
    ·
     (try simp only [y1, y2, y3, y4, y5, y6, y7, y8, y9, y0, List.length_map] at hg5)
     have hn1 : nameB y.name = false := by simpa using hg5
     apply drun_normT
     · (try dsimp only [zS, zN, zH, zT]); try exact rfl
     refine zdU rfl rfl rfl rfl (by dsimp only [zS, zN, zH, zT]) ?_
     refine zdU rfl rfl rfl rfl (by dsimp only [zS, zN, zH, zT]) ?_
     refine zdU rfl rfl rfl rfl (by dsimp only [zS, zN, zH, zT]) ?_
     refine zdU rfl rfl rfl rfl (by dsimp only [zS, zN, zH, zT]) ?_
     refine zd0 (fun H => (op_pick_tt (by rfl) (val_const (by rfl)))) rfl (by dsimp only [zS, zN, zH, zT]) ?_
     refine zd0 (fun H => (op_move_tmp (by rfl))) rfl (by dsimp only [zS, zN, zH, zT]) ?_
     refine zdU rfl rfl rfl rfl (by dsimp only [zS, zN, zH, zT]) ?_
     refine zdU rfl rfl rfl rfl (by dsimp only [zS, zN, zH, zT]) ?_
     refine zdU rfl rfl rfl rfl (by dsimp only [zS, zN, zH, zT]) ?_
     refine zdU rfl rfl rfl rfl (by dsimp only [zS, zN, zH, zT]) ?_
     refine zdU rfl rfl rfl rfl (by dsimp only [zS, zN, zH, zT]) ?_
     refine zdU rfl rfl rfl rfl (by dsimp only [zS, zN, zH, zT]) ?_
     refine zdU rfl rfl rfl rfl (by dsimp only [zS, zN, zH, zT]) ?_
     refine zd0 (fun H => (op_pick_tt (by rfl) (val_const (by rfl)))) rfl (by dsimp only [zS, zN, zH, zT]) ?_
     refine drun_end rfl ?_
     refine then_normal ?_
     refine aw_cond rfl (fun _ => ?_) (fun h => by cases h)
     refine aw_seq ?_
     refine aw_region ?_
     refine zst (op_assign_const (by rfl)) rfl (by dsimp only [zS, zN, zH, zT]) ?_
     refine al_end rfl ?_
     refine then_normal ?_
     refine aw_ret ?_
     refine inBlock_ret (then_ret (again_ret (inBlock_ret (then_ret ?_))))
     refine retPost1 rfl rfl ?_
     exact ⟨by rw [right_bad hlt (by rw [rightAt_some hy]; simp [rightIx, hn1])]; rfl, (hx.push _ _).setB (nb_le hx)⟩
    ·
     (try simp only [y1, y2, y3, y4, y5, y6, y7, y8, y9, y0, List.length_map] at hg5)
     have hn1 : nameB y.name = true := by simpa using hg5
     apply drun_normT
     · (try dsimp only [zS, zN, zH, zT]); try exact rfl
     refine zd0w rfl rfl rfl (fun H => (by first | exact op_fieldAddr_ptr Try.underlying88 rfl Sz9 (by rfl) (by rfl) | exact op_fieldAddr_elt Try.underlying88 rfl Sz9 (by rfl) (by rfl) (by rfl))) (by dsimp only [zS, zN, zH, zT]) ?_
     refine zd1w rfl rfl rfl (by first | exact op_load_elt Try.underlying9 (by rfl) (by rfl) (by rfl) | exact op_load_ptr Try.underlying9 (by rfl) (by rfl) (by exact setB_at push_at) (by rfl)) (by dsimp only [zS, zN, zH, zT]) ?_
     refine zd0w rfl rfl rfl (fun H => (op_lenS Try.underlying9 (by rfl))) (by dsimp only [zS, zN, zH, zT]) ?_
     refine zd0w rfl rfl rfl (fun H => (op_gtI (by rfl) (by rfl))) (by dsimp only [zS, zN, zH, zT]) ?_
     refine zd0 (fun H => (op_pick_ff (by rfl) (val_tmp (by rfl)))) rfl (by dsimp only [zS, zN, zH, zT]) ?_
     refine zd0 (fun H => (op_move_tmp (by rfl))) rfl (by dsimp only [zS, zN, zH, zT]) ?_
     refine drun_split 33 rfl (fun hg7 => ?_) (fun hg7 => ?_)
     ·
      (try simp only [y1, y2, y3, y4, y5, y6, y7, y8, y9, y0, List.length_map] at hg7)
      have hf40 : ¬ y.field.length ≤ 40 := by have h : 40 < (y.field.length : Int) := hg7; omega
      apply drun_normT
      · (try dsimp only [zS, zN, zH, zT]); try exact rfl
      refine zdU rfl rfl rfl rfl (by dsimp only [zS, zN, zH, zT]) ?_
      refine zdU rfl rfl rfl rfl (by dsimp only [zS, zN, zH, zT]) ?_
      refine zdU rfl rfl rfl rfl (by dsimp only [zS, zN, zH, zT]) ?_
      refine zdU rfl rfl rfl rfl (by dsimp only [zS, zN, zH, zT]) ?_
      refine zdU rfl rfl rfl rfl (by dsimp only [zS, zN, zH, zT]) ?_
      refine zdU rfl rfl rfl rfl (by dsimp only [zS, zN, zH, zT]) ?_
      refine zdU rfl rfl rfl rfl (by dsimp only [zS, zN, zH, zT]) ?_
      refine zd0 (fun H => (op_pick_tt (by rfl) (val_const (by rfl)))) rfl (by dsimp only [zS, zN, zH, zT]) ?_
      refine drun_end rfl ?_
      refine then_normal ?_
      refine aw_cond rfl (fun _ => ?_) (fun h => by cases h)
      refine aw_seq ?_
      refine aw_region ?_
      refine zst (op_assign_const (by rfl)) rfl (by dsimp only [zS, zN, zH, zT]) ?_
      refine al_end rfl ?_
      refine then_normal ?_
      refine aw_ret ?_
      refine inBlock_ret (then_ret (again_ret (inBlock_ret (then_ret ?_))))
      refine retPost1 rfl rfl ?_
      exact ⟨by rw [right_bad hlt (by rw [rightAt_some hy]; simp [rightIx, hf40])]; rfl, (hx.push _ _).setB (nb_le hx)⟩
     ·
      (try simp only [y1, y2, y3, y4, y5, y6, y7, y8, y9, y0, List.length_map] at hg7)
      have hf40 : y.field.length ≤ 40 := by have h : ¬ 40 < (y.field.length : Int) := hg7; omega
      apply drun_normT
      · (try dsimp only [zS, zN, zH, zT]); try exact rfl
      refine zd0w rfl rfl rfl (fun H => (by first | exact op_fieldAddr_ptr Try.underlying77 rfl Sz75 (by rfl) (by rfl) | exact op_fieldAddr_elt Try.underlying77 rfl Sz75 (by rfl) (by rfl) (by rfl))) (by dsimp only [zS, zN, zH, zT]) ?_
      refine zd1w rfl rfl rfl (by first | exact op_load_elt Try.underlying75 (by rfl) (by rfl) (by rfl) | exact op_load_ptr Try.underlying75 (by rfl) (by rfl) (by exact setB_at push_at) (by rfl)) (by dsimp only [zS, zN, zH, zT]) ?_
      refine zd0w rfl rfl rfl (fun H => (op_move_tmp (by rfl))) (by dsimp only [zS, zN, zH, zT]) ?_
      refine zd0w rfl rfl rfl (fun H => (op_sliceL0 ((xs.take k).map ixD) Try.underlying75 Sz88 (LL.d _ _) (by rfl) (by omega) (by simp; omega) (by simp))) (by dsimp only [zS, zN, zH, zT]) ?_
      refine zd1w rfl rfl rfl (op_load_ptrsD (ixC y) Try.underlying88 (by rfl) Sz88 (by rfl) (setB_at push_at) (Nat.le_of_ble_eq_true rfl) (by rfl) (by simp [ixC, DV.one, S, TF])) (by dsimp only [zS, zN, zH, zT]) ?_
      refine zd0w rfl rfl rfl (fun H => (op_makeFn (.tmp (by rfl) .nil) .nil)) (by dsimp only [zS, zN, zH, zT]) ?_
      refine zd0w rfl rfl rfl (fun H => (op_callF Try.func68 (by rfl) (by rfl) (.tmp (by rfl) (.tmp (by rfl) .nil)) (contains_ok _ (xs.take k) y (by simp; omega)))) (by dsimp only [zS, zN, zH, zT]) ?_
      refine zd0 (fun H => (op_pick_ff (by rfl) (val_tmp (by rfl)))) rfl (by dsimp only [zS, zN, zH, zT]) ?_
      refine drun_end rfl ?_
      refine then_normal ?_
      refine aw_cond rfl (fun hc9 => ?_) (fun hc9 => ?_)
      ·
       (try simp only [y1, y2, y3, y4, y5, y6, y7, y8, y9, y0, List.length_map] at hc9)
       have hcon := hc9
       refine aw_seq ?_
       refine aw_region ?_
       refine zst (op_assign_const (by rfl)) rfl (by dsimp only [zS, zN, zH, zT]) ?_
       refine al_end rfl ?_
       refine then_normal ?_
       refine aw_ret ?_
       refine inBlock_ret (then_ret (again_ret (inBlock_ret (then_ret ?_))))
       refine retPost1 rfl rfl ?_
       exact ⟨by rw [right_bad hlt (by rw [rightAt_some hy]; simp only [rightIx, hcon]; simp)]; rfl, (hx.push _ _).setB (nb_le hx)⟩
      ·
       (try simp only [y1, y2, y3, y4, y5, y6, y7, y8, y9, y0, List.length_map] at hc9)
       have hcon := hc9
       refine aw_skip ?_
       refine inBlock_normal (then_normal ?_)
       refine aw_region ?_
       refine zst (by first | exact op_add (by rfl) (by rfl) (wrap_i64 ⟨by omega, by omega⟩) | exact op_add (by rfl) (by rfl) (by rfl)) rfl (by dsimp only [zS, zN, zH, zT]) ?_
       refine zst (op_move_tmp (by rfl)) rfl (by dsimp only [zS, zN, zH, zT]) ?_
       refine al_end rfl ?_
       apply again_to (xs.length - (k + 1)) [false, true, false, false, false, false, false, false, false, false, false, false, false, false, false, false, true, true, true, false, false, false, false, false, false, false, false, false, false, false, false, false, false, false, false, false, false, false, false, false, false, false, false]
       · (try dsimp only [maskT]); try exact rfl
       · rfl
       · omega
       exact ⟨k + 1, rfl, by omega, rfl, right_step hall (by rw [rightAt_some hy]; simp [rightIx, hn1, hf40, hcon]), (hx.push _ _).setB (nb_le hx)⟩
   ·
    (try simp only [y1, y2, y3, y4, y5, y6, y7, y8, y9, y0, List.length_map] at hc4)
    (try simp only [List.length_map] at hc4)
    have hke : k = xs.length := by omega
    subst hke
    refine aw_exit ?_
    refine then_exit (again_exit (inBlock_here (then_normal ?_)))
    refine aw_seq ?_
    refine aw_region ?_
    refine zst (op_assign_const (by rfl)) rfl (by dsimp only [zS, zN, zH, zT]) ?_
    refine al_end rfl ?_
    refine then_normal ?_
    refine aw_ret ?_
    refine retPost1 rfl rfl ?_
    exact ⟨by rw [rightC_eq, hn0, hall]; simp [show xs.length ≤ 8 by omega, TF], hx⟩
set_option maxRecDepth 100000 in
theorem cenc_ok (Hs : HS) (name : List UInt8) (xs : List Ix) (hl : xs.length ≤ 1000000) (hb : (encC xs).length ≤ 1000000000) : ACalls Try.prog 34 [.d (.agg [S name, .lst 3 (xs.map ixD)])] Hs (Ret (.d (S (encC xs))) Hs) := by
 refine ACalls.tidy1 ?_
 have hnum := onum_ok Hs none _ [] xs.length (App.nil _) (HS.ok_none _ _) (by omega) (by simp)
 rw [show ((xs.length : Nat) : Int).toNat = xs.length from rfl, List.nil_append] at hnum
 refine acalls_of_aw Try.func34 rfl ?_
 refine aw_start (T' := [.d (.agg [S name, .lst 3 (xs.map ixD)]), .un, .un, .un, .un, .un, .un, .un, .un, .un, .un, .un, .un, .un, .un, .un, .un, .un, .un, .un, .un, .un, .un, .un, .un, .un, .un, .un, .un, .un]) rfl ?_
 refine aw_seq ?_
 refine aw_region ?_
 refine zst (op_box_elt (by rfl) (by rfl)) rfl (by dsimp only [zS, zN, zH, zT]) ?_
 refine zst (op_assign_const (by rfl)) rfl (by dsimp only [zS, zN, zH, zT]) ?_
 refine al_end rfl ?_
 refine then_normal ?_
 refine aw_seq ?_
 refine aw_region ?_
 refine zst (by first | exact op_fieldAddr_ptr Try.underlying77 rfl Sz75 (by rfl) (by rfl) | exact op_fieldAddr_elt Try.underlying77 rfl Sz75 (by rfl) (by rfl) (by rfl)) rfl (by dsimp only [zS, zN, zH, zT]) ?_
 refine zst (by first | exact op_load_elt Try.underlying75 (by rfl) (by rfl) (by rfl) | exact op_load_ptr Try.underlying75 (by rfl) (by rfl) (by exact hPhi) (by rfl)) rfl (by dsimp only [zS, zN, zH, zT]) ?_
 refine zst (op_lenL Try.underlying75 (by first | exact LL.d _ _ | exact LL.own _ _ _ | exact LL.nil _ | assumption)) rfl (by dsimp only [zS, zN, zH, zT]) ?_
 refine zst (op_callF Try.func54 (by rfl) (by rfl) (.const (by rfl) (.tmp (by rfl) .nil)) ((by have h := hnum; simpa using h))) rfl (by dsimp only [zS, zN, zH, zT]) ?_
 refine zst (op_assign_tmp (by rfl)) rfl (by dsimp only [zS, zN, zH, zT]) ?_
 refine al_end rfl ?_
 refine then_normal ?_
 refine aw_seq ?_
 refine aw_seq ?_
 refine aw_region ?_
 refine zst (by first | exact op_fieldAddr_ptr Try.underlying77 rfl Sz75 (by rfl) (by rfl) | exact op_fieldAddr_elt Try.underlying77 rfl Sz75 (by rfl) (by rfl) (by rfl)) rfl (by dsimp only [zS, zN, zH, zT]) ?_
 refine zst (by first | exact op_load_elt Try.underlying75 (by rfl) (by rfl) (by rfl) | exact op_load_ptr Try.underlying75 (by rfl) (by rfl) (by exact hPhi) (by rfl)) rfl (by dsimp only [zS, zN, zH, zT]) ?_
 refine zst (op_lenL Try.underlying75 (by first | exact LL.d _ _ | exact LL.own _ _ _ | exact LL.nil _ | assumption)) rfl (by dsimp only [zS, zN, zH, zT]) ?_
 refine zst (op_move_const (by rfl)) rfl (by dsimp only [zS, zN, zH, zT]) ?_
 refine al_end rfl ?_
 refine then_normal ?_
 refine aw_block ?_
 apply aw_loopF (fun n T H => ∃ (k : Nat) (v' : AV) (t' : Option Nat), T = [.un, .elt [S name, .lst 3 (xs.map ixD)], .un, v', .un, .un, .un, .un, .un, .un, .un, .d (.lst 3 (xs.map ixD)), .d (I (xs.map ixD).length), .d (I k), .un, .un, .un, .un, .un, .un, .un, .un, .un, .un, .un, .un, .un, .un, .un, .un] ∧ k ≤ xs.length ∧ n = xs.length - k ∧ App v' t' 1 ((encK xs k).map BY) ∧ H.ok t' (encK xs k).length ∧ NewTok Hs t' ∧ Ext Hs H) (xs.length) [false, true, false, true, false, false, false, false, false, false, false, true, true, true, false, false, false, false, false, false, false, false, false, false, false, false, false, false, false, false]
 · (try dsimp only [maskT]); try exact rfl
 · rfl
 · exact ⟨0, _, _, rfl, by omega, rfl, by rw [encK_zero]; exact App.own _ _ _, by rw [encK_zero]; exact okB _ _ _ (HS.ok_none _ 0), ((Ext.refl Hs).upN (n := 0) (NewTok.none Hs) (HS.ok_none _ 0)).2, ((Ext.refl Hs).upN (NewTok.none Hs) (HS.ok_none _ 0)).1⟩
 rintro n T H ⟨k, v', t', rfl, hk, rfl, hv, hok, hnt, hx⟩
 refine aw_seq ?_
 refine aw_region ?_
 refine zst (op_ltI (by rfl) (by rfl)) rfl (by dsimp only [zS, zN, zH, zT]) ?_
 refine al_end rfl ?_
 refine then_normal ?_
 refine aw_seq ?_
 refine aw_cond rfl (fun hc1 => ?_) (fun hc1 => ?_)
 ·
  (try simp only [y1, y2, y3, y4, y5, y6, y7, y8, y9, y0, List.length_map] at hc1)
  (try simp only [List.length_map] at hc1)
  have hlt : k < xs.length := by omega
  obtain ⟨y, hy⟩ : ∃ y, xs[k]? = some y := ⟨_, List.getElem?_eq_getElem hlt⟩
  have hel := encK_len hy
  have hte := textB_ge y.name
  have hte2 := textB_ge y.field
  simp only [ixB, List.length_append] at hel
  have hok' : ∀ cs b, ((H.push 88 cs).setB H.nb b).ok t' (encK xs k).length := fun _ _ => hok
  refine aw_skip ?_
  refine then_normal ?_
  refine aw_seq ?_
  refine aw_block ?_
  refine aw_seq ?_
  refine aw_region ?_
  refine zst (op_indexAddr Try.underlying75 Sz88 (LL.d _ _) (by rfl) (by omega) (show (xs.map ixD)[((k : Nat) : Int).toNat]? = some (ixD y) by rw [List.getElem?_map, show ((k : Nat) : Int).toNat = k from rfl, hy]; rfl) (by rfl)) rfl (by dsimp only [zS, zN, zH, zT]) ?_
  refine zst (op_load_elts (ds := ixC y) Try.underlying88 (by rfl) Sz88 (by rfl) (Nat.le_of_ble_eq_true rfl) (by rfl)) rfl (by dsimp only [zS, zN, zH, zT]) ?_
  refine zst (op_alloc (Zr88) (by rfl)) rfl (by dsimp only [zS, zN, zH, zT]) ?_
  refine zst (op_storeB (vs := [.d (S y.name), .d (S y.field), .d (TF y.uniq)]) (b' := ⟨88, [.d (S y.name), .d (S y.field), .d (TF y.uniq)], false⟩) (H' := _) Sz88 (by rfl) push_at (by intro h; cases h) (by rfl) (by rfl) (Nat.le_of_ble_eq_true rfl) (by simp [AV.one, DV.one, TF, S, I, BY]) (by rfl) (by rfl) rfl) rfl (by dsimp only [zS, zN, zH, zT]) ?_
  refine al_end rfl ?_
  refine then_normal ?_
  refine aw_drawX (fun K => K.blks[H.nb]? = some ⟨88, [.d (S y.name), .d (S y.field), .d (TF y.uniq)], false⟩) [0, 0, 0, 2, 0, 0, 2, 0, 0, 2, 0] mixed (by kernel_rfl) (setB_at push_at) (.inr (by kernel_rfl)) ?_
  apply drun0X
  · intro H hPhi; exact op_move_tmp (by rfl)
  · rfl
  apply drun_normT
  · (try dsimp only [zS, zN, zH, zT]); try exact rfl
  apply drun0X
  · intro H hPhi; first | exact op_fieldAddr_ptr Try.underlying88 rfl Sz9 (by rfl) (by rfl) | exact op_fieldAddr_elt Try.underlying88 rfl Sz9 (by rfl) (by rfl) (by rfl)
  · rfl
  apply drun_normT
  · (try dsimp only [zS, zN, zH, zT]); try exact rfl
  apply drun0X
  · intro H hPhi; first | exact op_load_elt Try.underlying9 (by rfl) (by rfl) (by rfl) | exact op_load_ptr Try.underlying9 (by rfl) (by rfl) (by exact hPhi) (by rfl)
  · rfl
  apply drun_normT
  · (try dsimp only [zS, zN, zH, zT]); try exact rfl
  apply drun2X
  · exact op_callF Try.func55 (by rfl) (by rfl) (.tmp (by rfl) (.tmp (by rfl) .nil)) (otext_ok _ t' v' _ y.name hv (hok' _ _) (by omega))
  · rfl
  · refine .inr ?_; first | (rw [HS.up_blks]; exact setB_at push_at) | (rw [HS.up_blks, HS.up_blks]; exact setB_at push_at) | (rw [HS.up_blks, HS.up_blks, HS.up_blks]; exact setB_at push_at)
  apply drun_normT
  · (try dsimp only [zS, zN, zH, zT]); try exact rfl
  apply drun0X
  · intro H hPhi; first | exact op_fieldAddr_ptr Try.underlying88 rfl Sz9 (by rfl) (by rfl) | exact op_fieldAddr_elt Try.underlying88 rfl Sz9 (by rfl) (by rfl) (by rfl)
  · rfl
  apply drun_normT
  · (try dsimp only [zS, zN, zH, zT]); try exact rfl
  apply drun0X
  · intro H hPhi; first | exact op_load_elt Try.underlying9 (by rfl) (by rfl) (by rfl) | exact op_load_ptr Try.underlying9 (by rfl) (by rfl) (by exact hPhi) (by rfl)
  · rfl
  apply drun_normT
  · (try dsimp only [zS, zN, zH, zT]); try exact rfl
  apply drun2X
  · exact op_callF Try.func55 (by rfl) (by rfl) (.tmp (by rfl) (.tmp (by rfl) .nil)) (otext_ok _ _ _ _ y.field (App.own _ _ _) (okB _ _ _ (hok' _ _)) (by simp; omega))
  · rfl
  · refine .inr ?_; first | (rw [HS.up_blks]; exact setB_at push_at) | (rw [HS.up_blks, HS.up_blks]; exact setB_at push_at) | (rw [HS.up_blks, HS.up_blks, HS.up_blks]; exact setB_at push_at)
  apply drun_normT
  · (try dsimp only [zS, zN, zH, zT]); try exact rfl
  apply drun0X
  · intro H hPhi; first | exact op_fieldAddr_ptr Try.underlying88 rfl Sz4 (by rfl) (by rfl) | exact op_fieldAddr_elt Try.underlying88 rfl Sz4 (by rfl) (by rfl) (by rfl)
  · rfl
  apply drun_normT
  · (try dsimp only [zS, zN, zH, zT]); try exact rfl
  apply drun0X
  · intro H hPhi; first | exact op_load_elt Try.underlying4 (by rfl) (by rfl) (by rfl) | exact op_load_ptr Try.underlying4 (by rfl) (by rfl) (by exact hPhi) (by rfl)
  · rfl
  apply drun_normT
  · (try dsimp only [zS, zN, zH, zT]); try exact rfl
  apply drun2X
  · exact op_callF Try.func70 (by rfl) (by rfl) (.tmp (by rfl) (.tmp (by rfl) .nil)) (oflag_ok _ _ _ _ y.uniq (App.own _ _ _) (okB _ _ _ (okB _ _ _ (hok' _ _))) (by simp; omega))
  · rfl
  · refine .inr ?_; first | (rw [HS.up_blks]; exact setB_at push_at) | (rw [HS.up_blks, HS.up_blks]; exact setB_at push_at) | (rw [HS.up_blks, HS.up_blks, HS.up_blks]; exact setB_at push_at)
  apply drun_normT
  · (try dsimp only [zS, zN, zH, zT]); try exact rfl
  apply drun0X
  · intro H hPhi; exact op_assign_tmp (by rfl)
  · rfl
  apply drun_normT
  · (try dsimp only [zS, zN, zH, zT]); try exact rfl
  refine drun_end rfl ?_
  refine inBlock_normal (then_normal ?_)
  refine aw_region ?_
  refine zst (by first | exact op_add (by rfl) (by rfl) (wrap_i64 ⟨by omega, by omega⟩) | exact op_add (by rfl) (by rfl) (by rfl)) rfl (by dsimp only [zS, zN, zH, zT]) ?_
  refine zst (op_move_tmp (by rfl)) rfl (by dsimp only [zS, zN, zH, zT]) ?_
  refine al_end rfl ?_
  apply again_to (xs.length - (k + 1)) [false, true, false, true, false, false, false, false, false, false, false, true, true, true, false, false, false, false, false, false, false, false, false, false, false, false, false, false, false, false]
  · (try dsimp only [maskT]); try exact rfl
  · rfl
  · omega
  exact ⟨k + 1, _, _, rfl, by omega, rfl, by rw [encK_step hy]; exact App.own _ _ _, by rw [encK_step hy]; exact okB _ _ _ (okB _ _ _ (okB _ _ _ (hok' _ _))), (((hx.push _ _).setB (nb_le hx)).upN (n := 0) hnt (hok' _ _)).2, by rw [up_upB, up_upB]; exact (((hx.push _ _).setB (nb_le hx)).upN hnt (hok' _ _)).1⟩
 ·
  (try simp only [y1, y2, y3, y4, y5, y6, y7, y8, y9, y0, List.length_map] at hc1)
  (try simp only [List.length_map] at hc1)
  have hke : k = xs.length := by omega
  subst hke
  rw [encK_full] at hv hok
  refine aw_exit ?_
  refine then_exit (again_exit (inBlock_here (then_normal ?_)))
  refine aw_seq ?_
  refine aw_region ?_
  refine zst (op_move_tmp (by rfl)) rfl (by dsimp only [zS, zN, zH, zT]) ?_
  refine zst (op_string Try.underlying49 Try.underlying9 Try.underlying5 hv.ll (by rfl)) rfl (by dsimp only [zS, zN, zH, zT]) ?_
  refine zst (op_assign_tmp (by rfl)) rfl (by dsimp only [zS, zN, zH, zT]) ?_
  refine al_end rfl ?_
  refine then_normal ?_
  refine aw_ret ?_
  refine retPost1 rfl rfl ?_
  exact ⟨rfl, hx⟩
set_option maxRecDepth 100000 in
theorem cdec_ok (Hs : HS) (name s : List UInt8) : ACalls Try.prog 35 [.d (S name), .d (S s)] Hs (Ret (.tup [.d (.agg [S (decName name s), .lst 3 ((decIxs name s).map ixD)]), .d (I (decErr name s))]) Hs) := by
 refine ACalls.tidyT (xs := [.agg [S (decName name s), .lst 3 ((decIxs name s).map ixD)], I (decErr name s)]) ?_
 suffices h : ACalls Try.prog 35 [.d (S name), .d (S s)] Hs (fun av H' => ∃ x, av = .tup [x, .d (I (decErr name s))] ∧ Weak x (.d (.agg [S (decName name s), .lst 3 ((decIxs name s).map ixD)])) ∧ Ext Hs H') from h.weak fun v H' ⟨x, h1, h2, h3⟩ => ⟨_, by rw [h1]; exact Weak.tup (.cons h2 (.cons (Weak.refl _) .nil)), rfl, h3⟩
 obtain ⟨q, ⟨s1, b1⟩, hr⟩ : ∃ q st, rNum 8 (s, false) = (q, st) := ⟨_, _, rfl⟩
 have hn8 := rNum_most hr
 have hdec : decC s = rIxs q (s1, b1) := by unfold decC; rw [hr]
 generalize hst0 : (s1, b1) = st0 at hdec
 refine acalls_of_awC Try.func35 rfl ?_
 refine aw_start (T' := [.d (S name), .d (S s), .un, .un, .un, .un, .un, .un, .un, .un, .un, .un, .un, .un, .un, .un, .un, .un, .un, .un, .un, .un, .un, .un, .un, .un, .un, .un, .un, .un, .un, .un, .un, .un, .un, .un, .un, .un, .un]) rfl ?_
 refine aw_seq ?_
 refine aw_region ?_
 refine zst (op_alloc (Zr77) (by rfl)) rfl (by dsimp only [zS, zN, zH, zT]) ?_
 refine zst (op_assign_const (by rfl)) rfl (by dsimp only [zS, zN, zH, zT]) ?_
 refine al_end rfl ?_
 refine then_normal ?_
 refine aw_seq ?_
 refine aw_region ?_
 refine zst (op_move_tmp (by rfl)) rfl (by dsimp only [zS, zN, zH, zT]) ?_
 refine zst (op_callF Try.func56 (by rfl) (by rfl) (.tmp (by rfl) .nil) (read_ok _ s)) rfl (by dsimp only [zS, zN, zH, zT]) ?_
 refine zst (op_assign_tmp (by rfl)) rfl (by dsimp only [zS, zN, zH, zT]) ?_
 refine al_end rfl ?_
 refine then_normal ?_
 refine aw_seq ?_
 refine aw_region ?_
 refine zst (op_move_tmp (by rfl)) rfl (by dsimp only [zS, zN, zH, zT]) ?_
 refine zst (by first | exact op_buildD (pl := [(0, 1), (1, 1)]) _ Try.underlying77 Zr77 (by kernel_rfl) (by rfl) (by rfl) (by rfl) (by simp [DV.one, S, I, TF, BY]) | exact op_build (pl := [(0, 1), (1, 1)]) Try.underlying77 Zr77 (by kernel_rfl) (by rfl) (by rfl) (by rfl)) rfl (by dsimp only [zS, zN, zH, zT]) ?_
 refine zst (op_alloc (Zr77) (by rfl)) rfl (by dsimp only [zS, zN, zH, zT]) ?_
 refine zst (op_storeB (vs := [.d (S name), nilS]) (b' := ⟨77, [.d (S name), nilS], false⟩) (H' := _) Sz77 (by rfl) push_at (by intro h; cases h) (by rfl) (by rfl) (Nat.le_of_ble_eq_true rfl) (by simp [AV.one, DV.one, TF, S, I, BY]) (by rfl) (by rfl) rfl) rfl (by dsimp only [zS, zN, zH, zT]) ?_
 refine al_end rfl ?_
 refine then_normal ?_
 refine aw_seq ?_
 apply aw_cutF (fun T H => ∃ (v : AV) (t : Option Nat), T = [.un, .un, .un, .un, .ptr Hs.nb 0, .un, .ptr (Hs.nb + 1) 0, .ptr (Hs.nb + 2) 0, .un, .un, .un, .un, .un, .d (I q), .d (I 0), .un, .un, .un, .un, .un, .un, .un, .un, .un, .un, .un, .un, .un, .un, .un, .un, .un, .un, .un, .un, .un, .un, .un, .un] ∧ DecS Hs 77 179 H name v t [] st0)
 ·
  refine aw_region ?_
  refine zst (op_move_tmp (by rfl)) rfl (by dsimp only [zS, zN, zH, zT]) ?_
  refine zst (op_callF Try.func57 (by rfl) (by rfl) (.tmp (by rfl) (.const (by rfl) .nil)) (num_at hr (by rw [setB_ne (by simp only [push_nb, ne_eq]; omega)]; exact push_ne push_at) (by decide))) rfl (by dsimp only [zS, zN, zH, zT]) ?_
  refine zst (op_move_const (by rfl)) rfl (by dsimp only [zS, zN, zH, zT]) ?_
  refine al_end rfl ?_
  apply cut_to [false, false, false, false, true, false, true, true, false, false, false, false, false, true, true, false, false, false, false, false, false, false, false, false, false, false, false, false, false, false, false, false, false, false, false, false, false, false, false]
  · (try dsimp only [maskT]); try exact rfl
  · rfl
  exact ⟨nilS, none, by (simp only [push_nb]) <;> rfl, by subst hst0; simp only [push_nb]; exact DecS.start Hs 77 179 name s _ _ _ _ _⟩
 rintro T H ⟨v, t, rfl, hd⟩
 refine aw_block ?_
 apply aw_loopF (fun n T H => ∃ (k : Nat) (v : AV) (t : Option Nat), T = [.un, .un, .un, .un, .ptr Hs.nb 0, .un, .ptr (Hs.nb + 1) 0, .ptr (Hs.nb + 2) 0, .un, .un, .un, .un, .un, .d (I q), .d (I k), .un, .un, .un, .un, .un, .un, .un, .un, .un, .un, .un, .un, .un, .un, .un, .un, .un, .un, .un, .un, .un, .un, .un, .un] ∧ k ≤ q ∧ n = q - k ∧ DecS Hs 77 179 H name v t (rIxs k st0).1 (rIxs k st0).2) (q) [false, false, false, false, true, false, true, true, false, false, false, false, false, true, true, false, false, false, false, false, false, false, false, false, false, false, false, false, false, false, false, false, false, false, false, false, false, false, false]
 · (try dsimp only [maskT]); try exact rfl
 · rfl
 · exact ⟨0, _, _, rfl, by omega, rfl, hd⟩
 rintro n T H ⟨k, v, t, rfl, hk, rfl, hd⟩
 refine aw_seq ?_
 refine aw_region ?_
 refine zst (op_ltI (by rfl) (by rfl)) rfl (by dsimp only [zS, zN, zH, zT]) ?_
 refine al_end rfl ?_
 refine then_normal ?_
 refine aw_seq ?_
 refine aw_cond rfl (fun hc1 => ?_) (fun hc1 => ?_)
 ·
  (try simp only [y1, y2, y3, y4, y5, y6, y7, y8, y9, y0, List.length_map] at hc1)
  have hlt : k < q := by omega
  have hlx := rIxs_len k st0
  refine aw_skip ?_
  refine then_normal ?_
  refine aw_seq ?_
  refine aw_block ?_
  refine aw_drawX (fun K => K.blks[Hs.nb + 2]? = some ⟨77, [.d (S name), v], false⟩) [0, 0, 0, 2, 0, 2, 0, 2, 0, 0, 2, 0, 2] mixed (by kernel_rfl) (hd.e3) (.inr (by kernel_rfl)) ?_
  apply drun0X
  · intro H hPhi; first | exact op_fieldAddr_ptr Try.underlying77 rfl Sz75 (by rfl) (by rfl) | exact op_fieldAddr_elt Try.underlying77 rfl Sz75 (by rfl) (by rfl) (by rfl)
  · rfl
  apply drun_normT
  · (try dsimp only [zS, zN, zH, zT]); try exact rfl
  apply drun0X
  · intro H hPhi; first | exact op_load_elt Try.underlying75 (by rfl) (by rfl) (by rfl) | exact op_load_ptr Try.underlying75 (by rfl) (by rfl) (by first | exact hPhi | exact hd.e3) (by rfl)
  · rfl
  apply drun_normT
  · (try dsimp only [zS, zN, zH, zT]); try exact rfl
  apply drun0X
  · intro H hPhi; exact op_move_tmp (by rfl)
  · rfl
  apply drun_normT
  · (try dsimp only [zS, zN, zH, zT]); try exact rfl
  apply drun2X
  · exact op_callF Try.func58 (by rfl) (by rfl) (.tmp (by rfl) (.const (by rfl) .nil)) (rtext_ok _ _ (rIxs k st0).2.1 (rIxs k st0).2.2 40 hd.e2 (by decide))
  · rfl
  · refine .inr ?_; simp only [HS.up_blks, setB_ne (show Hs.nb + 2 ≠ Hs.nb + 1 by omega)]; exact hd.e3
  apply drun_normT
  · (try dsimp only [zS, zN, zH, zT]); try exact rfl
  apply drun0X
  · intro H hPhi; exact op_move_tmp (by rfl)
  · rfl
  apply drun_normT
  · (try dsimp only [zS, zN, zH, zT]); try exact rfl
  apply drun2X
  · exact op_callF Try.func58 (by rfl) (by rfl) (.tmp (by rfl) (.const (by rfl) .nil)) (rtext_ok _ _ _ _ 40 (setB_at hd.e2) (by decide))
  · rfl
  · refine .inr ?_; simp only [HS.up_blks, setB_ne (show Hs.nb + 2 ≠ Hs.nb + 1 by omega)]; exact hd.e3
  apply drun_normT
  · (try dsimp only [zS, zN, zH, zT]); try exact rfl
  apply drun0X
  · intro H hPhi; exact op_move_tmp (by rfl)
  · rfl
  apply drun_normT
  · (try dsimp only [zS, zN, zH, zT]); try exact rfl
  apply drun2X
  · exact op_callF Try.func71 (by rfl) (by rfl) (.tmp (by rfl) .nil) (rflag_ok _ _ _ _ (setB_at (setB_at hd.e2)))
  · rfl
  · refine .inr ?_; simp only [HS.up_blks, setB_ne (show Hs.nb + 2 ≠ Hs.nb + 1 by omega)]; exact hd.e3
  apply drun_normT
  · (try dsimp only [zS, zN, zH, zT]); try exact rfl
  apply drun0X
  · intro H hPhi; exact op_buildD (pl := [(0, 1), (1, 1), (2, 1)]) (ixC (rIx (rIxs k st0).2).1) Try.underlying88 Zr88 (by kernel_rfl) (by rfl) (by rfl) (by rfl) (by simp [ixC, DV.one, S, TF])
  · rfl
  apply drun_normT
  · (try dsimp only [zS, zN, zH, zT]); try exact rfl
  apply drun0X
  · intro H hPhi; exact op_lit Try.underlying75 ZS88 (.cons (y := ixD (rIx (rIxs k st0).2).1) (by rfl) (.nil _)) (by rfl) (by simp [ixD, ixC, DV.cells]) (by simp [flat, ixD, ixC, S, TF, DV.cells, DV.one]) (by decide)
  · rfl
  apply drun_normT
  · (try dsimp only [zS, zN, zH, zT]); try exact rfl
  apply drun2X
  · exact op_append Try.underlying75 Inf88 (by rfl) hd.app (.list _ _ _ _ Try.underlying75 (LL.own _ _ _)) (by rw [List.length_map]; exact hd.ok) (by simp) (by simp; omega) (by simp; omega)
  · rfl
  · refine .inr ?_; simp only [HS.up_blks, setB_ne (show Hs.nb + 2 ≠ Hs.nb + 1 by omega)]; exact hd.e3
  apply drun_normT
  · (try dsimp only [zS, zN, zH, zT]); try exact rfl
  apply drun0X
  · intro H hPhi; first | exact op_fieldAddr_ptr Try.underlying77 rfl Sz75 (by rfl) (by rfl) | exact op_fieldAddr_elt Try.underlying77 rfl Sz75 (by rfl) (by rfl) (by rfl)
  · rfl
  apply drun_normT
  · (try dsimp only [zS, zN, zH, zT]); try exact rfl
  apply drun2X
  · exact op_storeB (vs := [.own _ 3 _]) (b' := ⟨77, [.d (S name), .own _ 3 _], false⟩) (H' := _) Sz75 (by rfl) (by rw [HS.up_blks, setB_ne (by omega), setB_ne (by omega), setB_ne (by omega)]; exact hd.e3) (by intro h; cases h) (by rfl) (by rfl) (Nat.le_of_ble_eq_true rfl) (by simp [AV.one, DV.one, TF, S, I, BY]) (by rfl) (by rfl) rfl
  · rfl
  · exact .inl rfl
  apply drun_normT
  · (try dsimp only [zS, zN, zH, zT]); try exact rfl
  refine drun_end rfl ?_
  refine inBlock_normal (then_normal ?_)
  refine aw_region ?_
  refine zst (by first | exact op_add (by rfl) (by rfl) (wrap_i64 ⟨by omega, by omega⟩) | exact op_add (by rfl) (by rfl) (by rfl)) rfl (by dsimp only [zS, zN, zH, zT]) ?_
  refine zst (op_move_tmp (by rfl)) rfl (by dsimp only [zS, zN, zH, zT]) ?_
  refine al_end rfl ?_
  apply again_to (q - (k + 1)) [false, false, false, false, true, false, true, true, false, false, false, false, false, true, true, false, false, false, false, false, false, false, false, false, false, false, false, false, false, false, false, false, false, false, false, false, false, false, false]
  · (try dsimp only [maskT]); try exact rfl
  · rfl
  · omega
  exact ⟨k + 1, _, _, rfl, by omega, rfl, hd.step (by simp)⟩
 ·
  (try simp only [y1, y2, y3, y4, y5, y6, y7, y8, y9, y0, List.length_map] at hc1)
  have hke : q = k := by omega
  subst hke
  refine aw_exit ?_
  refine then_exit (again_exit (inBlock_here (then_normal ?_)))
  refine aw_seq ?_
  refine aw_seq ?_
  refine aw_region ?_
  refine zst (op_move_tmp (by rfl)) rfl (by dsimp only [zS, zN, zH, zT]) ?_
  refine zst (op_callF Try.func59 (by rfl) (by rfl) (.tmp (by rfl) .nil) (end_ok _ _ (rIxs q st0).2.1 (rIxs q st0).2.2 hd.e2)) rfl (by dsimp only [zS, zN, zH, zT]) ?_
  refine zst (op_neI (by rfl) (by rfl)) rfl (by dsimp only [zS, zN, zH, zT]) ?_
  refine zst (op_move_tmp (by rfl)) rfl (by dsimp only [zS, zN, zH, zT]) ?_
  refine al_split 32 rfl (fun hg2 => ?_) (fun hg2 => ?_)
  ·
   (try simp only [y1, y2, y3, y4, y5, y6, y7, y8, y9, y0, List.length_map] at hg2)
   have hne : ¬ rEnd (rIxs q st0).2 = 0 := hg2
   apply al_normT
   · (try dsimp only [zS, zN, zH, zT]); try exact rfl
   refine zuw rfl rfl rfl rfl (by dsimp only [zS, zN, zH, zT]) ?_
   refine zuw rfl rfl rfl rfl (by dsimp only [zS, zN, zH, zT]) ?_
   refine zuw rfl rfl rfl rfl (by dsimp only [zS, zN, zH, zT]) ?_
   refine zst (op_pick_tt (by rfl) (val_const (by rfl))) rfl (by dsimp only [zS, zN, zH, zT]) ?_
   refine al_end rfl ?_
   refine then_normal ?_
   refine aw_cond rfl (fun _ => ?_) (fun h => by cases h)
   refine aw_seq ?_
   refine aw_region ?_
   refine zst (by first | exact op_buildD (pl := [(0, 1), (1, 1)]) _ Try.underlying77 Zr77 (by kernel_rfl) (by rfl) (by rfl) (by rfl) (by simp [DV.one, S, I, TF, BY]) | exact op_build (pl := [(0, 1), (1, 1)]) Try.underlying77 Zr77 (by kernel_rfl) (by rfl) (by rfl) (by rfl)) rfl (by dsimp only [zS, zN, zH, zT]) ?_
   refine zst (op_storeB (vs := [.d (S []), nilS]) (b' := ⟨77, [.d (S []), nilS], false⟩) (H' := _) Sz77 (by rfl) (hd.e1.choose_spec.choose_spec) (by intro h; cases h) (by rfl) (by rfl) (Nat.le_of_ble_eq_true rfl) (by simp [AV.one, DV.one, TF, S, I, BY]) (by rfl) (by rfl) rfl) rfl (by dsimp only [zS, zN, zH, zT]) ?_
   refine zst (op_assign_const (by rfl)) rfl (by dsimp only [zS, zN, zH, zT]) ?_
   refine al_end rfl ?_
   refine then_normal ?_
   refine aw_ret ?_
   refine then_ret ?_
   refine retC2 rfl (.cells Try.underlying77 (by rfl) Sz77 (by rfl) (setB_at hd.e1.choose_spec.choose_spec) (Nat.le_of_ble_eq_true rfl) (by rfl)) (.tmp (by rfl)) ?_
   have e : decOk name s = false := by simp [decOk, hdec, hne]
   exact ⟨_, by simp only [decErr, e]; rfl, by simp only [decName, decIxs, e]; exact Weak.aggD (.cons (Weak.refl _) (.cons (Weak.nil 3) .nil)) (by simp [DV.one, S]), hd.ext.setB (Nat.le_refl _)⟩
  ·
   (try simp only [y1, y2, y3, y4, y5, y6, y7, y8, y9, y0, List.length_map] at hg2)
   have heq : rEnd (rIxs q st0).2 = 0 := by simpa using hg2
   apply al_normT
   · (try dsimp only [zS, zN, zH, zT]); try exact rfl
   refine zsw rfl rfl rfl (op_load_ptrsW (off := 0) [S name, .lst 3 ((rIxs q st0).1.map ixD)] Try.underlying77 (by rfl) Sz77 (by rfl) hd.e3 (Nat.le_of_ble_eq_true rfl) (.cons (Weak.refl _) (.cons (Weak.lst hd.app) .nil)) (by simp [DV.one, S])) (by dsimp only [zS, zN, zH, zT]) ?_
   refine zsw rfl rfl rfl (op_callF Try.func33 (by rfl) (by rfl) (.tmp (by rfl) .nil) (cright_ok _ name (rIxs q st0).1)) (by dsimp only [zS, zN, zH, zT]) ?_
   refine zsw rfl rfl rfl (op_not (by rfl)) (by dsimp only [zS, zN, zH, zT]) ?_
   refine zst (op_pick_ff (by rfl) (val_tmp (by rfl))) rfl (by dsimp only [zS, zN, zH, zT]) ?_
   refine al_end rfl ?_
   refine then_normal ?_
   refine aw_cond rfl (fun hc4 => ?_) (fun hc4 => ?_)
   ·
    (try simp only [y1, y2, y3, y4, y5, y6, y7, y8, y9, y0, List.length_map] at hc4)
    have hrt : rightC name (rIxs q st0).1 = false := by simpa using hc4
    refine aw_seq ?_
    refine aw_region ?_
    refine zst (by first | exact op_buildD (pl := [(0, 1), (1, 1)]) _ Try.underlying77 Zr77 (by kernel_rfl) (by rfl) (by rfl) (by rfl) (by simp [DV.one, S, I, TF, BY]) | exact op_build (pl := [(0, 1), (1, 1)]) Try.underlying77 Zr77 (by kernel_rfl) (by rfl) (by rfl) (by rfl)) rfl (by dsimp only [zS, zN, zH, zT]) ?_
    refine zst (op_storeB (vs := [.d (S []), nilS]) (b' := ⟨77, [.d (S []), nilS], false⟩) (H' := _) Sz77 (by rfl) (hd.e1.choose_spec.choose_spec) (by intro h; cases h) (by rfl) (by rfl) (Nat.le_of_ble_eq_true rfl) (by simp [AV.one, DV.one, TF, S, I, BY]) (by rfl) (by rfl) rfl) rfl (by dsimp only [zS, zN, zH, zT]) ?_
    refine zst (op_assign_const (by rfl)) rfl (by dsimp only [zS, zN, zH, zT]) ?_
    refine al_end rfl ?_
    refine then_normal ?_
    refine aw_ret ?_
    refine then_ret ?_
    refine retC2 rfl (.cells Try.underlying77 (by rfl) Sz77 (by rfl) (setB_at hd.e1.choose_spec.choose_spec) (Nat.le_of_ble_eq_true rfl) (by rfl)) (.tmp (by rfl)) ?_
    have e : decOk name s = false := by simp [decOk, hdec, heq, hrt]
    exact ⟨_, by simp only [decErr, e]; rfl, by simp only [decName, decIxs, e]; exact Weak.aggD (.cons (Weak.refl _) (.cons (Weak.nil 3) .nil)) (by simp [DV.one, S]), hd.ext.setB (Nat.le_refl _)⟩
   ·
    (try simp only [y1, y2, y3, y4, y5, y6, y7, y8, y9, y0, List.length_map] at hc4)
    have hrt : rightC name (rIxs q st0).1 = true := by simpa using hc4
    refine aw_skip ?_
    refine then_normal ?_
    refine aw_seq ?_
    refine aw_region ?_
    refine zst (op_load_ptrsW (off := 0) [S name, .lst 3 ((rIxs q st0).1.map ixD)] Try.underlying77 (by rfl) Sz77 (by rfl) hd.e3 (Nat.le_of_ble_eq_true rfl) (.cons (Weak.refl _) (.cons (Weak.lst hd.app) .nil)) (by simp [DV.one, S])) rfl (by dsimp only [zS, zN, zH, zT]) ?_
    refine zst (op_storeB (vs := [.d (S name), .d (.lst 3 ((rIxs q st0).1.map ixD))]) (b' := ⟨77, [.d (S name), .d (.lst 3 ((rIxs q st0).1.map ixD))], false⟩) (H' := _) Sz77 (by rfl) (hd.e1.choose_spec.choose_spec) (by intro h; cases h) (by rfl) (by rfl) (Nat.le_of_ble_eq_true rfl) (by simp [AV.one, DV.one, TF, S, I, BY]) (by rfl) (by rfl) rfl) rfl (by dsimp only [zS, zN, zH, zT]) ?_
    refine zst (op_assign_const (by rfl)) rfl (by dsimp only [zS, zN, zH, zT]) ?_
    refine al_end rfl ?_
    refine then_normal ?_
    refine aw_ret ?_
    refine retC2 rfl (.cells Try.underlying77 (by rfl) Sz77 (by rfl) (setB_at hd.e1.choose_spec.choose_spec) (Nat.le_of_ble_eq_true rfl) (by rfl)) (.tmp (by rfl)) ?_
    have e : decOk name s = true := by simp [decOk, hdec, heq, hrt]
    exact ⟨_, by simp only [decErr, e]; rfl, by simp only [decName, decIxs, e, hdec, if_true]; exact Weak.aggD (.cons (Weak.refl _) (.cons (Weak.refl _) .nil)) (by simp [DV.one, S]), hd.ext.setB (Nat.le_refl _)⟩
end Go.Proofs.Ytjbpfnoibeogbaa
namespace Go.AV.Sch
open Go.AV.Ord Go.AV.Oct
theorem nameB_len {s : List UInt8} (h : nameB s = true) : s ≠ [] ∧ s.length ≤ 40 := by
  simp only [nameB, Bool.and_eq_true, Bool.not_eq_true', decide_eq_true_eq] at h
  exact ⟨by intro e; rw [e] at h; exact absurd h.1 (by decide), h.2⟩
theorem right_at {name : List UInt8} {xs : List Ix} (h : rightC name xs = true) {k : Nat} {x : Ix} (hx : xs[k]? = some x) : rightIx xs k x = true := by
  rw [rightC_eq, Bool.and_eq_true, List.all_eq_true] at h
  have hk : k < xs.length := (List.getElem?_eq_some_iff.1 hx).1
  have := h.2 k (List.mem_range.2 hk)
  rwa [rightAt_some hx] at this
theorem right_ix {name : List UInt8} {xs : List Ix} (h : rightC name xs = true) : ∀ x ∈ xs, x.name ≠ [] ∧ x.name.length ≤ 40 ∧ x.field.length ≤ 40 := fun x hx => by
  obtain ⟨k, hk, rfl⟩ := List.getElem_of_mem hx
  have := right_at h (List.getElem?_eq_getElem hk)
  simp only [rightIx, Bool.and_eq_true, decide_eq_true_eq] at this
  exact ⟨(nameB_len this.1.1).1, (nameB_len this.1.1).2, this.1.2⟩
theorem textB_short {s : List UInt8} (h : s.length ≤ 40) : (textB s).length ≤ 50 := by
  have := szN_8 (n := s.length) (by omega)
  simp [textB, numB_len]
  simp at this
  omega
theorem ixB_short {x : Ix} (h1 : x.name.length ≤ 40) (h2 : x.field.length ≤ 40) : (ixB x).length ≤ 101 := by
  have a := textB_short h1
  have b := textB_short h2
  simp [ixB, flagB]
  omega
theorem flat_short : ∀ (xs : List Ix), (∀ x ∈ xs, x.name ≠ [] ∧ x.name.length ≤ 40 ∧ x.field.length ≤ 40) → (xs.flatMap ixB).length ≤ 101 * xs.length
  | [], _ => by simp
  | x :: xs, h => by
    have h1 := h x (by simp)
    have h2 := ixB_short h1.2.1 h1.2.2
    have h3 := flat_short xs fun y hy => h y (by simp [hy])
    simp only [List.flatMap_cons, List.length_append, List.length_cons]
    omega
theorem right_bounds {name : List UInt8} {xs : List Ix} (h : rightC name xs = true) : xs.length ≤ 8 ∧ name.length ≤ 40 ∧ (encC xs).length ≤ 1000 := by
  have h0 := h
  rw [rightC_eq] at h
  simp only [Bool.and_eq_true, decide_eq_true_eq] at h
  have h1 := flat_short xs (right_ix h0)
  have h2 := szN_8 (n := xs.length) (by omega)
  refine ⟨h.1.2, (nameB_len h.1.1).2, ?_⟩
  simp only [encC, List.length_append, numB_len]
  simp at h2
  omega
theorem ckey_short {name : List UInt8} (h : name.length ≤ 40) : (keyL [[99], name]).length ≤ 400 := by
  have := keyL_le [[99], name]
  simp at this
  omega
theorem rIx_fwd {x : Ix} (r : List UInt8) (h1 : x.name.length ≤ 40) (h2 : x.field.length ≤ 40) : rIx (ixB x ++ r, false) = (x, (r, false)) := by
  have a := rText_fwd (most := 40) (s := x.name) (textB x.field ++ (flagB x.uniq ++ r)) (by decide) (by omega)
  have b := rText_fwd (most := 40) (s := x.field) (flagB x.uniq ++ r) (by decide) (by omega)
  have c := rFlag_fwd x.uniq r
  have e : ixB x ++ r = textB x.name ++ (textB x.field ++ (flagB x.uniq ++ r)) := by simp [ixB]
  unfold rIx
  simp only [e, a, b, c]
theorem rIxs_take (xs : List Ix) (h : ∀ x ∈ xs, x.name.length ≤ 40 ∧ x.field.length ≤ 40) : ∀ (k : Nat) (r : List UInt8), k ≤ xs.length → rIxs k ((xs.take k).flatMap ixB ++ r, false) = (xs.take k, (r, false))
  | 0, r, _ => rfl
  | k + 1, r, hk => by
    obtain ⟨x, hx⟩ : ∃ x, xs[k]? = some x := ⟨_, List.getElem?_eq_getElem (by omega)⟩
    have h1 := h x (List.mem_of_getElem? hx)
    rw [take_snoc hx, List.flatMap_append, List.append_assoc, List.flatMap_cons, List.flatMap_nil, List.append_nil]
    have ih := rIxs_take xs h k (ixB x ++ r) (by omega)
    show (let q := rIxs k _; let y := rIx q.2; (q.1 ++ [y.1], y.2)) = _
    simp only [ih, rIx_fwd r h1.1 h1.2]
theorem rIxs_fwd (xs : List Ix) (r : List UInt8) (h : ∀ x ∈ xs, x.name.length ≤ 40 ∧ x.field.length ≤ 40) : rIxs xs.length (xs.flatMap ixB ++ r, false) = (xs, (r, false)) := by
  have := rIxs_take xs h xs.length r (Nat.le_refl _)
  rwa [List.take_length] at this
theorem decC_fwd {xs : List Ix} (r : List UInt8) (h8 : xs.length ≤ 8) (h : ∀ x ∈ xs, x.name.length ≤ 40 ∧ x.field.length ≤ 40) : decC (encC xs ++ r) = (xs, (r, false)) := by
  unfold decC encC
  have a := rNum_fwd (most := 8) (x := xs.length) (xs.flatMap ixB ++ r) (by have := szN_8 (n := xs.length) (by omega); simpa using this) (by omega)
  rw [List.append_assoc, a]
  exact rIxs_fwd xs r h
end Go.AV.Sch
namespace Go.Proofs.Ytjbpfnoibeogbaa
open Go.AV Go.AV.Ord Go.AV.Oct Go.AV.Hist Go.AV.Sb Go.AV.Sch
set_option linter.unusedVariables false
set_option linter.unusedSimpArgs false
set_option maxRecDepth 100000 in
theorem make_bad (Hs : HS) (tid sid : Nat) (lv : AV) (name : List UInt8) (xs : List Ix) (hr : rightC name xs = false) : ACalls Try.prog 28 [.ptr tid 0, .d (.agg [S name, .lst 3 (xs.map ixD)])] Hs (Ret (.d (I 1)) Hs) := by
 refine acalls_of_aw Try.func28 rfl ?_
 refine aw_start (T' := [.ptr tid 0, .d (.agg [S name, .lst 3 (xs.map ixD)]), .un, .un, .un, .un, .un, .un, .un, .un, .un, .un, .un, .un, .un, .un, .un, .un, .un, .un, .un, .un, .un, .un]) rfl ?_
 refine aw_seq ?_
 refine aw_region ?_
 refine zst (op_box_elt (cs := [S name, .lst 3 (xs.map ixD)]) (by rfl) (by rfl)) rfl (by dsimp only [zS, zN, zH, zT]) ?_
 refine zst (op_assign_const (by rfl)) rfl (by dsimp only [zS, zN, zH, zT]) ?_
 refine al_end rfl ?_
 refine then_normal ?_
 refine aw_seq ?_
 refine aw_seq ?_
 refine aw_region ?_
 refine zst (op_load_elts (ds := [S name, .lst 3 (xs.map ixD)]) Try.underlying77 (by rfl) Sz77 (by rfl) (Nat.le_of_ble_eq_true rfl) (by rfl)) rfl (by dsimp only [zS, zN, zH, zT]) ?_
 refine zst (op_callF Try.func33 (by rfl) (by rfl) (.tmp (by rfl) .nil) (cright_ok _ name xs)) rfl (by dsimp only [zS, zN, zH, zT]) ?_
 refine zst (op_not (by rfl)) rfl (by dsimp only [zS, zN, zH, zT]) ?_
 refine al_end rfl ?_
 refine then_normal ?_
 refine aw_cond rfl (fun hc1 => ?_) (fun hc1 => ?_)
 ·
  (try simp only [y1, y2, y3, y4, y5, y6, y7, y8, y9, y0, List.length_map] at hc1)
  refine aw_seq ?_
  refine aw_region ?_
  refine zst (op_assign_const (by rfl)) rfl (by dsimp only [zS, zN, zH, zT]) ?_
  refine al_end rfl ?_
  refine then_normal ?_
  refine aw_ret ?_
  refine then_ret ?_
  refine retPost1 rfl rfl ?_
  exact ⟨rfl, rfl⟩
 ·
  (try simp only [y1, y2, y3, y4, y5, y6, y7, y8, y9, y0, List.length_map] at hc1)
  exact absurd hc1 (by simp [hr])
end Go.Proofs.Ytjbpfnoibeogbaa
namespace Go.Proofs.Ytjbpfnoibeogbaa
open Go.AV Go.AV.Ord Go.AV.Oct Go.AV.Hist Go.AV.Sb Go.AV.Sch Go.AV.Val
set_option linter.unusedVariables false
set_option linter.unusedSimpArgs false
set_option maxRecDepth 100000 in
theorem make2_new (Hs : HS) (tid sid : Nat) (lv : AV) (sz : Int) (ls : List (List It)) (vs : List AV) (name : List UInt8) (xs : List Ix) (l : List It) (hl : LfAt ls (keyL [[99], name]) l) (hr : rises (firstsF ls) = true) (hrl : rises (keysF l) = true) (hl9 : ls.length ≤ 2) (hno : hasF (keysF l) (keyL [[99], name]) = false) (hll : l.length ≤ 8) (hcase : l.length = 8 → ls = [l]) (hsz : 0 ≤ sz ∧ sz ≤ 100) (hT : Hs.blks[tid]? = some ⟨145, [.ptr sid 0, .d (I 0), .d (I 0), .d (I 0), .d (I 0), lv, .d (I sz)], false⟩) (hL : LvT Hs 195 197 lv ls vs) (hS : Hs.blks[sid]? = some ⟨134, [nilS, .d (I 0), .d (I 0), nilS], false⟩) (hrc : rightC name xs = true) : ACalls Try.prog 28 [.ptr tid 0, .d (.agg [S name, .lst 3 (xs.map ixD)])] Hs (fun av H' => av = .d (I 0) ∧ ∃ lv' vs', H'.blks[tid]? = some ⟨145, [.ptr sid 0, .d (I 0), .d (I 0), .d (I 0), .d (I 0), lv', .d (I (sz + 1))], false⟩ ∧ LvT H' 195 197 lv' (insL ls ⟨(keyL [[99], name]), ⟨(keyL [[99], name]), encC xs, false⟩⟩ l) vs' ∧ Was 195 197 tid Hs H') := by
 have hbd := right_bounds hrc
 refine acalls_of_aw Try.func28 rfl ?_
 refine aw_start (T' := [.ptr tid 0, .d (.agg [S name, .lst 3 (xs.map ixD)]), .un, .un, .un, .un, .un, .un, .un, .un, .un, .un, .un, .un, .un, .un, .un, .un, .un, .un, .un, .un, .un, .un]) rfl ?_
 refine aw_seq ?_
 refine aw_region ?_
 refine zst (op_box_elt (cs := [S name, .lst 3 (xs.map ixD)]) (by rfl) (by rfl)) rfl (by dsimp only [zS, zN, zH, zT]) ?_
 refine zst (op_assign_const (by rfl)) rfl (by dsimp only [zS, zN, zH, zT]) ?_
 refine al_end rfl ?_
 refine then_normal ?_
 refine aw_seq ?_
 refine aw_seq ?_
 refine aw_region ?_
 refine zst (op_load_elts (ds := [S name, .lst 3 (xs.map ixD)]) Try.underlying77 (by rfl) Sz77 (by rfl) (Nat.le_of_ble_eq_true rfl) (by rfl)) rfl (by dsimp only [zS, zN, zH, zT]) ?_
 refine zst (op_callF Try.func33 (by rfl) (by rfl) (.tmp (by rfl) .nil) (cright_ok _ name xs)) rfl (by dsimp only [zS, zN, zH, zT]) ?_
 refine zst (op_not (by rfl)) rfl (by dsimp only [zS, zN, zH, zT]) ?_
 refine al_end rfl ?_
 refine then_normal ?_
 refine aw_cond rfl (fun hc1 => ?_) (fun hc1 => ?_)
 ·
  (try simp only [y1, y2, y3, y4, y5, y6, y7, y8, y9, y0, List.length_map] at hc1)
  exact absurd hc1 (by simp [hrc])
 ·
  (try simp only [y1, y2, y3, y4, y5, y6, y7, y8, y9, y0, List.length_map] at hc1)
  refine aw_skip ?_
  refine then_normal ?_
  refine aw_seq ?_
  refine aw_seq ?_
  refine aw_region ?_
  refine zst (op_move_tmp (by rfl)) rfl (by dsimp only [zS, zN, zH, zT]) ?_
  refine zst (op_load_elts (ds := [S name, .lst 3 (xs.map ixD)]) Try.underlying77 (by rfl) Sz77 (by rfl) (Nat.le_of_ble_eq_true rfl) (by rfl)) rfl (by dsimp only [zS, zN, zH, zT]) ?_
  refine zst (op_callF Try.func60 (by rfl) (by rfl) (.tmp (by rfl) .nil) (ckey_ok _ name (.lst 3 (xs.map ixD)) (by omega))) rfl (by dsimp only [zS, zN, zH, zT]) ?_
  refine zst (op_callF Try.func64 (by rfl) (by rfl) (.tmp (by rfl) (.tmp (by rfl) .nil)) (txget2_ok _ tid sid lv sz ls vs (keyL [[99], name]) l hl hr hrl hl9 none (fnd_no hno) hT hL hS (fun _ h => by cases h))) rfl (by dsimp only [zS, zN, zH, zT]) ?_
  refine zst (op_move_tmp (by rfl)) rfl (by dsimp only [zS, zN, zH, zT]) ?_
  refine zst (op_extract (by rfl) (by rfl)) rfl (by dsimp only [zS, zN, zH, zT]) ?_
  refine zst (op_extract (by rfl) (by rfl)) rfl (by dsimp only [zS, zN, zH, zT]) ?_
  refine zst (op_assign_tmp (by rfl)) rfl (by dsimp only [zS, zN, zH, zT]) ?_
  refine zst (op_assign_tmp (by rfl)) rfl (by dsimp only [zS, zN, zH, zT]) ?_
  refine al_end rfl ?_
  refine then_normal ?_
  refine aw_seq ?_
  refine aw_region ?_
  refine zst (op_move_tmp (by rfl)) rfl (by dsimp only [zS, zN, zH, zT]) ?_
  refine al_end rfl ?_
  refine then_normal ?_
  refine aw_cond rfl (fun h => by cases h) (fun _ => ?_)
  refine aw_skip ?_
  refine then_normal ?_
  refine aw_seq ?_
  refine aw_explore 7 #[false, false, false, false, false, false, false] mixed rfl (by rfl) ?_
  refine de_pure 0 #[true, false, false, false, false, false, false] rfl (by kernel_rfl) (by kernel_rfl) (by kernel_rfl) rfl rfl (by intro ch T H h; simp [Then, RetPost, InBlock, Again, CutP] at h) (opY_move (by rfl)) (by dsimp only [zS, zN, zH, zT]) ?_
  refine de_two 1 3 (by kernel_rfl) ?_ ?_
  ·
   refine deop_step #[true, true, false, false, false, false, false] rfl rfl rfl (op_load_elts (ds := [S name, .lst 3 (xs.map ixD)]) Try.underlying77 (by rfl) Sz77 (by rfl) (Nat.le_of_ble_eq_true rfl) (by rfl)) (by dsimp only [zS, zN, zH, zT]) ?_
   refine de_two 2 3 (by kernel_rfl) ?_ ?_
   ·
    refine deop_step #[true, true, true, false, false, false, false] rfl rfl rfl (op_callF Try.func60 (by rfl) (by rfl) (.tmp (by rfl) .nil) (ckey_ok _ name (.lst 3 (xs.map ixD)) (by omega))) (by dsimp only [zS, zN, zH, zT]) ?_
    refine de_step 3 #[true, true, true, true, false, false, false] (by kernel_rfl) rfl rfl rfl (op_load_elts (ds := [S name, .lst 3 (xs.map ixD)]) Try.underlying77 (by rfl) Sz77 (by rfl) (Nat.le_of_ble_eq_true rfl) (by rfl)) (by dsimp only [zS, zN, zH, zT]) ?_
    refine de_step 4 #[true, true, true, true, true, false, false] (by kernel_rfl) rfl rfl rfl (op_callF Try.func34 (by rfl) (by rfl) (.tmp (by rfl) .nil) (cenc_ok _ name xs (by omega) (by omega))) (by dsimp only [zS, zN, zH, zT]) ?_
    refine de_one 5 #[true, true, true, true, true, true, false] (by kernel_rfl) rfl rfl rfl (op_callF Try.func65 (by rfl) (by rfl) (.tmp (by rfl) (.tmp (by rfl) (.tmp (by rfl) .nil))) (txput2_ok _ tid sid lv sz ls vs (keyL [[99], name]) (encC xs) l hl hr hrl hl9 hno hll hcase hsz hT hL hS keyL_ne (ckey_short hbd.2.1) (by omega))) ?_
    rintro v6 H6 ⟨rfl, lv6, vs6, hT6, hL6, hw6⟩
    apply de_normT
    · (try dsimp only [zS, zN, zH, zT]); try exact rfl
    refine de_pure 6 #[true, true, true, true, true, true, true] rfl (by kernel_rfl) (by kernel_rfl) (by kernel_rfl) rfl rfl (by intro ch T H h; simp [Then, RetPost, InBlock, Again, CutP] at h) (opY_assign (by rfl)) (by dsimp only [zS, zN, zH, zT]) ?_
    refine de_end (by kernel_rfl) ?_
    refine then_normal ?_
    refine aw_ret ?_
    refine retPost1 rfl rfl ?_
    exact ⟨rfl, lv6, vs6, hT6, hL6, hw6⟩
   ·
    refine deop_step #[true, true, false, true, false, false, false] rfl rfl rfl (op_load_elts (ds := [S name, .lst 3 (xs.map ixD)]) Try.underlying77 (by rfl) Sz77 (by rfl) (Nat.le_of_ble_eq_true rfl) (by rfl)) (by dsimp only [zS, zN, zH, zT]) ?_
    refine de_step 2 #[true, true, true, true, false, false, false] (by kernel_rfl) rfl rfl rfl (op_callF Try.func60 (by rfl) (by rfl) (.tmp (by rfl) .nil) (ckey_ok _ name (.lst 3 (xs.map ixD)) (by omega))) (by dsimp only [zS, zN, zH, zT]) ?_
    refine de_step 4 #[true, true, true, true, true, false, false] (by kernel_rfl) rfl rfl rfl (op_callF Try.func34 (by rfl) (by rfl) (.tmp (by rfl) .nil) (cenc_ok _ name xs (by omega) (by omega))) (by dsimp only [zS, zN, zH, zT]) ?_
    refine de_one 5 #[true, true, true, true, true, true, false] (by kernel_rfl) rfl rfl rfl (op_callF Try.func65 (by rfl) (by rfl) (.tmp (by rfl) (.tmp (by rfl) (.tmp (by rfl) .nil))) (txput2_ok _ tid sid lv sz ls vs (keyL [[99], name]) (encC xs) l hl hr hrl hl9 hno hll hcase hsz hT hL hS keyL_ne (ckey_short hbd.2.1) (by omega))) ?_
    rintro v6 H6 ⟨rfl, lv6, vs6, hT6, hL6, hw6⟩
    apply de_normT
    · (try dsimp only [zS, zN, zH, zT]); try exact rfl
    refine de_pure 6 #[true, true, true, true, true, true, true] rfl (by kernel_rfl) (by kernel_rfl) (by kernel_rfl) rfl rfl (by intro ch T H h; simp [Then, RetPost, InBlock, Again, CutP] at h) (opY_assign (by rfl)) (by dsimp only [zS, zN, zH, zT]) ?_
    refine de_end (by kernel_rfl) ?_
    refine then_normal ?_
    refine aw_ret ?_
    refine retPost1 rfl rfl ?_
    exact ⟨rfl, lv6, vs6, hT6, hL6, hw6⟩
  ·
   refine deop_step #[true, false, false, true, false, false, false] rfl rfl rfl (op_load_elts (ds := [S name, .lst 3 (xs.map ixD)]) Try.underlying77 (by rfl) Sz77 (by rfl) (Nat.le_of_ble_eq_true rfl) (by rfl)) (by dsimp only [zS, zN, zH, zT]) ?_
   refine de_step 1 #[true, true, false, true, false, false, false] (by kernel_rfl) rfl rfl rfl (op_load_elts (ds := [S name, .lst 3 (xs.map ixD)]) Try.underlying77 (by rfl) Sz77 (by rfl) (Nat.le_of_ble_eq_true rfl) (by rfl)) (by dsimp only [zS, zN, zH, zT]) ?_
   refine de_step 2 #[true, true, true, true, false, false, false] (by kernel_rfl) rfl rfl rfl (op_callF Try.func60 (by rfl) (by rfl) (.tmp (by rfl) .nil) (ckey_ok _ name (.lst 3 (xs.map ixD)) (by omega))) (by dsimp only [zS, zN, zH, zT]) ?_
   refine de_step 4 #[true, true, true, true, true, false, false] (by kernel_rfl) rfl rfl rfl (op_callF Try.func34 (by rfl) (by rfl) (.tmp (by rfl) .nil) (cenc_ok _ name xs (by omega) (by omega))) (by dsimp only [zS, zN, zH, zT]) ?_
   refine de_one 5 #[true, true, true, true, true, true, false] (by kernel_rfl) rfl rfl rfl (op_callF Try.func65 (by rfl) (by rfl) (.tmp (by rfl) (.tmp (by rfl) (.tmp (by rfl) .nil))) (txput2_ok _ tid sid lv sz ls vs (keyL [[99], name]) (encC xs) l hl hr hrl hl9 hno hll hcase hsz hT hL hS keyL_ne (ckey_short hbd.2.1) (by omega))) ?_
   rintro v6 H6 ⟨rfl, lv6, vs6, hT6, hL6, hw6⟩
   apply de_normT
   · (try dsimp only [zS, zN, zH, zT]); try exact rfl
   refine de_pure 6 #[true, true, true, true, true, true, true] rfl (by kernel_rfl) (by kernel_rfl) (by kernel_rfl) rfl rfl (by intro ch T H h; simp [Then, RetPost, InBlock, Again, CutP] at h) (opY_assign (by rfl)) (by dsimp only [zS, zN, zH, zT]) ?_
   refine de_end (by kernel_rfl) ?_
   refine then_normal ?_
   refine aw_ret ?_
   refine retPost1 rfl rfl ?_
   exact ⟨rfl, lv6, vs6, hT6, hL6, hw6⟩
set_option maxRecDepth 100000 in
theorem make2_twice (Hs : HS) (tid sid : Nat) (lv : AV) (sz : Int) (ls : List (List It)) (vs : List AV) (name : List UInt8) (xs : List Ix) (l : List It) (hl : LfAt ls (keyL [[99], name]) l) (hr : rises (firstsF ls) = true) (hrl : rises (keysF l) = true) (hl9 : ls.length ≤ 2) (w : Wt) (hf : fndL l (keyL [[99], name]) = some w) (hgo : w.gone = false) (hT : Hs.blks[tid]? = some ⟨145, [.ptr sid 0, .d (I 0), .d (I 0), .d (I 0), .d (I 0), lv, .d (I sz)], false⟩) (hL : LvT Hs 195 197 lv ls vs) (hS : Hs.blks[sid]? = some ⟨134, [nilS, .d (I 0), .d (I 0), nilS], false⟩) (hrc : rightC name xs = true) : ACalls Try.prog 28 [.ptr tid 0, .d (.agg [S name, .lst 3 (xs.map ixD)])] Hs (Ret (.d (I 6)) Hs) := by
 have hbd := right_bounds hrc
 refine acalls_of_aw Try.func28 rfl ?_
 refine aw_start (T' := [.ptr tid 0, .d (.agg [S name, .lst 3 (xs.map ixD)]), .un, .un, .un, .un, .un, .un, .un, .un, .un, .un, .un, .un, .un, .un, .un, .un, .un, .un, .un, .un, .un, .un]) rfl ?_
 refine aw_seq ?_
 refine aw_region ?_
 refine zst (op_box_elt (cs := [S name, .lst 3 (xs.map ixD)]) (by rfl) (by rfl)) rfl (by dsimp only [zS, zN, zH, zT]) ?_
 refine zst (op_assign_const (by rfl)) rfl (by dsimp only [zS, zN, zH, zT]) ?_
 refine al_end rfl ?_
 refine then_normal ?_
 refine aw_seq ?_
 refine aw_seq ?_
 refine aw_region ?_
 refine zst (op_load_elts (ds := [S name, .lst 3 (xs.map ixD)]) Try.underlying77 (by rfl) Sz77 (by rfl) (Nat.le_of_ble_eq_true rfl) (by rfl)) rfl (by dsimp only [zS, zN, zH, zT]) ?_
 refine zst (op_callF Try.func33 (by rfl) (by rfl) (.tmp (by rfl) .nil) (cright_ok _ name xs)) rfl (by dsimp only [zS, zN, zH, zT]) ?_
 refine zst (op_not (by rfl)) rfl (by dsimp only [zS, zN, zH, zT]) ?_
 refine al_end rfl ?_
 refine then_normal ?_
 refine aw_cond rfl (fun hc1 => ?_) (fun hc1 => ?_)
 ·
  (try simp only [y1, y2, y3, y4, y5, y6, y7, y8, y9, y0, List.length_map] at hc1)
  exact absurd hc1 (by simp [hrc])
 ·
  (try simp only [y1, y2, y3, y4, y5, y6, y7, y8, y9, y0, List.length_map] at hc1)
  refine aw_skip ?_
  refine then_normal ?_
  refine aw_seq ?_
  refine aw_seq ?_
  refine aw_region ?_
  refine zst (op_move_tmp (by rfl)) rfl (by dsimp only [zS, zN, zH, zT]) ?_
  refine zst (op_load_elts (ds := [S name, .lst 3 (xs.map ixD)]) Try.underlying77 (by rfl) Sz77 (by rfl) (Nat.le_of_ble_eq_true rfl) (by rfl)) rfl (by dsimp only [zS, zN, zH, zT]) ?_
  refine zst (op_callF Try.func60 (by rfl) (by rfl) (.tmp (by rfl) .nil) (ckey_ok _ name (.lst 3 (xs.map ixD)) (by omega))) rfl (by dsimp only [zS, zN, zH, zT]) ?_
  refine zst (op_callF Try.func64 (by rfl) (by rfl) (.tmp (by rfl) (.tmp (by rfl) .nil)) (txget2_ok _ tid sid lv sz ls vs (keyL [[99], name]) l hl hr hrl hl9 (some w) hf hT hL hS (fun _ h => by cases h; exact hgo))) rfl (by dsimp only [zS, zN, zH, zT]) ?_
  refine zst (op_move_tmp (by rfl)) rfl (by dsimp only [zS, zN, zH, zT]) ?_
  refine zst (op_extract (by rfl) (by rfl)) rfl (by dsimp only [zS, zN, zH, zT]) ?_
  refine zst (op_extract (by rfl) (by rfl)) rfl (by dsimp only [zS, zN, zH, zT]) ?_
  refine zst (op_assign_tmp (by rfl)) rfl (by dsimp only [zS, zN, zH, zT]) ?_
  refine zst (op_assign_tmp (by rfl)) rfl (by dsimp only [zS, zN, zH, zT]) ?_
  refine al_end rfl ?_
  refine then_normal ?_
  refine aw_seq ?_
  refine aw_region ?_
  refine zst (op_move_tmp (by rfl)) rfl (by dsimp only [zS, zN, zH, zT]) ?_
  refine al_end rfl ?_
  refine then_normal ?_
  refine aw_cond rfl (fun _ => ?_) (fun h => by cases h)
  refine aw_seq ?_
  refine aw_region ?_
  refine zst (op_assign_const (by rfl)) rfl (by dsimp only [zS, zN, zH, zT]) ?_
  refine al_end rfl ?_
  refine then_normal ?_
  refine aw_ret ?_
  refine then_ret ?_
  refine retPost1 rfl rfl ?_
  exact ⟨rfl, rfl⟩
set_option maxRecDepth 100000 in
theorem of2_some (Hs : HS) (tid sid : Nat) (lv : AV) (sz : Int) (ls : List (List It)) (vs : List AV) (name : List UInt8) (l : List It) (hl : LfAt ls (keyL [[99], name]) l) (hr : rises (firstsF ls) = true) (hrl : rises (keysF l) = true) (hl9 : ls.length ≤ 2) (w : Wt) (hf : fndL l (keyL [[99], name]) = some w) (hgo : w.gone = false) (hT : Hs.blks[tid]? = some ⟨145, [.ptr sid 0, .d (I 0), .d (I 0), .d (I 0), .d (I 0), lv, .d (I sz)], false⟩) (hL : LvT Hs 195 197 lv ls vs) (hS : Hs.blks[sid]? = some ⟨134, [nilS, .d (I 0), .d (I 0), nilS], false⟩) (hn : name.length ≤ 1000000) : ACalls Try.prog 30 [.ptr tid 0, .d (S name)] Hs (Ret (.tup [.d (.agg [S (decName name w.val), .lst 3 ((decIxs name w.val).map ixD)]), .d (I (decErr name w.val))]) Hs) := by
 refine ACalls.tidyT (xs := [.agg [S (decName name w.val), .lst 3 ((decIxs name w.val).map ixD)], I (decErr name w.val)]) ?_
 suffices h : ACalls Try.prog 30 [.ptr tid 0, .d (S name)] Hs (fun av H' => ∃ x, av = .tup [x, .d (I (decErr name w.val))] ∧ Weak x (.d (.agg [S (decName name w.val), .lst 3 ((decIxs name w.val).map ixD)])) ∧ Ext Hs H') from h.weak fun v H' ⟨x, h1, h2, h3⟩ => ⟨_, by rw [h1]; exact Weak.tup (.cons h2 (.cons (Weak.refl _) .nil)), rfl, h3⟩
 refine acalls_of_awC Try.func30 rfl ?_
 refine aw_start (T' := [.ptr tid 0, .d (S name), .un, .un, .un, .un, .un, .un, .un, .un, .un, .un, .un, .un, .un, .un, .un, .un, .un, .un, .un, .un, .un, .un]) rfl ?_
 refine aw_seq ?_
 refine aw_region ?_
 refine zst (op_alloc (Zr77) (by rfl)) rfl (by dsimp only [zS, zN, zH, zT]) ?_
 refine zst (op_assign_const (by rfl)) rfl (by dsimp only [zS, zN, zH, zT]) ?_
 refine al_end rfl ?_
 refine then_normal ?_
 refine aw_seq ?_
 refine aw_region ?_
 refine zst (op_move_tmp (by rfl)) rfl (by dsimp only [zS, zN, zH, zT]) ?_
 refine zst (op_move_tmp (by rfl)) rfl (by dsimp only [zS, zN, zH, zT]) ?_
 refine zst (op_buildD (pl := [(0, 1), (1, 1)]) [S name, .v (.slice none 0 0)] Try.underlying77 Zr77 (by kernel_rfl) (by rfl) (by rfl) (by rfl) (by simp [DV.one, S])) rfl (by dsimp only [zS, zN, zH, zT]) ?_
 refine zst (op_callF Try.func60 (by rfl) (by rfl) (.tmp (by rfl) .nil) (ckey_ok _ name (.v (.slice none 0 0)) hn)) rfl (by dsimp only [zS, zN, zH, zT]) ?_
 refine zst (op_callF Try.func64 (by rfl) (by rfl) (.tmp (by rfl) (.tmp (by rfl) .nil)) (txget2_ok _ tid sid lv sz ls vs (keyL [[99], name]) l hl hr hrl hl9 (some w) hf (push_ne hT) (hL.push _ _) (push_ne hS) (fun _ h => by cases h; exact hgo))) rfl (by dsimp only [zS, zN, zH, zT]) ?_
 refine zst (op_move_tmp (by rfl)) rfl (by dsimp only [zS, zN, zH, zT]) ?_
 refine zst (op_extract (by rfl) (by rfl)) rfl (by dsimp only [zS, zN, zH, zT]) ?_
 refine zst (op_extract (by rfl) (by rfl)) rfl (by dsimp only [zS, zN, zH, zT]) ?_
 refine zst (op_assign_tmp (by rfl)) rfl (by dsimp only [zS, zN, zH, zT]) ?_
 refine zst (op_assign_tmp (by rfl)) rfl (by dsimp only [zS, zN, zH, zT]) ?_
 refine al_end rfl ?_
 refine then_normal ?_
 refine aw_seq ?_
 refine aw_seq ?_
 refine aw_region ?_
 refine zst (op_move_tmp (by rfl)) rfl (by dsimp only [zS, zN, zH, zT]) ?_
 refine zst (op_not (by rfl)) rfl (by dsimp only [zS, zN, zH, zT]) ?_
 refine al_end rfl ?_
 refine then_normal ?_
 refine aw_cond rfl (fun h => by cases h) (fun _ => ?_)
 refine aw_skip ?_
 refine then_normal ?_
 refine aw_seq ?_
 refine aw_region ?_
 refine zst (op_move_tmp (by rfl)) rfl (by dsimp only [zS, zN, zH, zT]) ?_
 refine zst (op_move_tmp (by rfl)) rfl (by dsimp only [zS, zN, zH, zT]) ?_
 refine zst (op_callF Try.func35 (by rfl) (by rfl) (.tmp (by rfl) (.tmp (by rfl) .nil)) (cdec_ok _ name w.val)) rfl (by dsimp only [zS, zN, zH, zT]) ?_
 refine zst (op_extract (by rfl) (by rfl)) rfl (by dsimp only [zS, zN, zH, zT]) ?_
 refine zst (op_extract (by rfl) (by rfl)) rfl (by dsimp only [zS, zN, zH, zT]) ?_
 refine zst (op_storeB (vs := [.d (S (decName name w.val)), .d (.lst 3 ((decIxs name w.val).map ixD))]) (b' := ⟨77, [.d (S (decName name w.val)), .d (.lst 3 ((decIxs name w.val).map ixD))], false⟩) (H' := _) Sz77 (by rfl) push_at (by intro h; cases h) (by rfl) (by rfl) (Nat.le_of_ble_eq_true rfl) (by simp [AV.one, DV.one, TF, S, I, BY]) (by rfl) (by rfl) rfl) rfl (by dsimp only [zS, zN, zH, zT]) ?_
 refine zst (op_assign_tmp (by rfl)) rfl (by dsimp only [zS, zN, zH, zT]) ?_
 refine al_end rfl ?_
 refine then_normal ?_
 refine aw_ret ?_
 refine retC2 rfl (.cells Try.underlying77 (by rfl) Sz77 (by rfl) (setB_at push_at) (Nat.le_of_ble_eq_true rfl) (by rfl)) (.tmp (by rfl)) ?_
 exact ⟨_, rfl, Weak.aggD (.cons (Weak.refl _) (.cons (Weak.refl _) .nil)) (by simp [DV.one, S]), ((Ext.refl Hs).push _ _).setB (Nat.le_refl _)⟩
end Go.Proofs.Ytjbpfnoibeogbaa
namespace Go.AV
open Go.RowKit
def FW (r : Option Nat) : Fence := { Fence.wide with round := r }
theorem calls_in {r : Option Nat} {n : Nat} {P : Program} {f : FuncId} {args : Array Value} {w : World} {R : Ending → World → Prop} (h : Calls P f args w R) : CallsIn (FW r) n P f args w R := callsIn_wide (n := n).2 h
theorem oper_in {r : Option Nat} {n : Nat} {P : Program} {o : Oper} {a : Act} {w : World} {next : Act → World → Prop} {Q : Exit → Act → World → Prop} (hd : ∀ c, o.op ≠ .defer c) (h : o.wp P a w next Q) : o.wpIn (FW r) n P a w next Q := by
  refine ⟨fun _ _ => trivial, ?_⟩
  show o.uponIn (FW r) n P a next Q ((o.semAt r a.eval).run P w)
  rw [Oper.semAt_eq _ _ _ hd]
  unfold Oper.wp at h
  generalize (execOp a.eval o).run P w = res at h
  cases res with
  | ok nx w' =>
    cases nx with
    | value v => exact h
    | skip => exact h
    | defer d => exact h
    | enter f args => exact ⟨fun h => by simp [FW, Fence.wide] at h, (calls_in h).mono fun e w he => by cases e <;> exact he⟩
    | row row args => exact ⟨fun h => by simp [FW, Fence.wide] at h, fun c cs _ => by obtain ⟨v, w2, q, s⟩ := h c cs; exact ⟨v, w2, q, stepsIn_wide.2 s⟩⟩
    | _ => exact h.elim
  | halt x w' => 
    cases x with
    | panic v => exact h
    | _ => exact h.elim
section
variable {P : Program} {Q : Post} {T : List AV} {H : HS} {r : Option Nat} {ops : Array Oper} {l : List Oper} {o : Oper}
def OpRI (r : Option Nat) (P : Program) (o : Oper) (E : Operand → AV) (H : HS) (R : AV → HS → Prop) : Prop :=
  ∀ (B : Nat) (w0 : World) (c : Ctx) (w : World) (a : Act) (next : Act → World → Prop) (Q : Exit → Act → World → Prop), Inv B w0 c H w → (∀ x ∈ o.op.operands, Rep c (a.eval x) (E x)) →
    (∀ v' w' c' av H', Le c c' → Rep c' v' av → Inv B w0 c' H' w' → R av H' → next (a.put o.dst v') w') → o.wpIn (FW r) 0 P a w next Q
theorem OpR.toI {E : Operand → AV} {R : AV → HS → Prop} (h : OpR P o E H R) (hd : ∀ c, o.op ≠ .defer c) : OpRI r P o E H R :=
  fun B w0 c w a next Q hI hops hn => oper_in hd (h B w0 c w a next Q hI hops hn)
def AWI (r : Option Nat) (P : Program) (k : Code) (Q : Post) (T : List AV) (H : HS) : Prop :=
  ∀ (B : Nat) (w0 : World) (c0 c : Ctx) (w : World) (a : Act), Le c0 c → Inv B w0 c H w → RepT c a.tmps T → a.defers = [] → k.wpIn (FW r) 0 P (Done B w0 c0 Q) a w
def ALI (r : Option Nat) (P : Program) (ops : Array Oper) (l : List Oper) (Q : Post) (T : List AV) (H : HS) : Prop :=
  ∀ (B : Nat) (w0 : World) (c0 c : Ctx) (w : World) (a : Act), Le c0 c → Inv B w0 c H w → RepT c a.tmps T → a.defers = [] → wpListIn (FW r) 0 P ops (Done B w0 c0 Q) l a w
theorem aw_of_awi {k : Code} (h : AWI none P k Q T H) : AW P k Q T H := fun B w0 c0 c w a h0 h1 h2 h3 => (wpIn_wide (n := 0)).1 (h B w0 c0 c w a h0 h1 h2 h3)
theorem awi_region {id : Nat} (h : ALI r P l.toArray l Q T H) : AWI r P (.region id l.toArray false) Q T H := fun B w0 c0 c w a h0 h1 h2 h3 => wpIn_region_lit (h B w0 c0 c w a h0 h1 h2 h3)
theorem awi_block {id : Nat} {k : Code} (h : AWI r P k (InBlock id Q) T H) : AWI r P (.block id k) Q T H := by
  intro B w0 c0 c w a h0 h1 h2 h3
  refine wpIn_block (wpIn_mono (h B w0 c0 c w a h0 h1 h2 h3) ?_)
  rintro e a' w' ⟨c', T', H', x1, x2, x3, x4, x5⟩
  cases e with
  | exit id' =>
    simp only [InBlock] at x5
    simp only [Exit.inBlock]
    split
    · rename_i hh
      rw [if_pos hh] at x5
      exact ⟨c', T', H', x1, x2, x3, x4, x5⟩
    · rename_i hh
      rw [if_neg hh] at x5
      exact ⟨c', T', H', x1, x2, x3, x4, x5⟩
  | normal => exact ⟨c', T', H', x1, x2, x3, x4, x5⟩
  | goto l => exact ⟨c', T', H', x1, x2, x3, x4, x5⟩
  | ret => exact ⟨c', T', H', x1, x2, x3, x4, x5⟩
  | panic ch => exact ⟨c', T', H', x1, x2, x3, x4, x5⟩
  | outgrown => exact ⟨c', T', H', x1, x2, x3, x4, x5⟩
theorem ali_end {T' : List AV} (hT : T = T') (h : Q .normal T' H) : ALI r P ops [] Q T H := by
  subst hT
  exact fun _ _ _ c _ _ h0 h1 h2 h3 => wpListIn_nil ⟨c, T, H, h0, h1, h2, h3, h⟩
theorem ali_cons (R : AV → HS → Prop) (ho : OpRI r P o (evalT T) H R) (hg : o.guard = none) (h : ∀ v H', R v H' → ALI r P ops l Q (putT T o.dst v) H') : ALI r P ops (o :: l) Q T H := by
  intro B w0 c0 c w a h0 h1 h2 h3
  refine wpListIn_plain hg fun K hK => ?_
  refine ho B w0 c w a K _ h1 (fun x _ => h2.eval x) fun v' w' c' av H' l1 r1 i1 rr => ?_
  exact hK _ _ (h av H' rr B w0 c0 c' w' _ (h0.trans l1) i1 ((h2.mono l1).put o.dst r1) (by rw [put_defers]; exact h3))
theorem zsti {v : AV} {H' : HS} {T' : List AV} (ho : OpR P o (evalT T) H (Ret v H')) (hd : ∀ c, o.op ≠ .defer c) (hg : o.guard = none) (hT : putT T o.dst v = T') (h : ALI r P ops l Q T' H') : ALI r P ops (o :: l) Q T H :=
  ali_cons _ (ho.toI hd) hg fun _ _ ⟨e1, e2⟩ => by subst e1; subst e2; subst hT; exact h
theorem ali_normT {T' : List AV} (hT : T = T') (h : ALI r P ops l Q T' H) : ALI r P ops l Q T H := by subst hT; exact h
end
section
variable {P : Program} {E : Operand → AV} {H : HS} {dst : Option Tmp} {ty : TypeId} {pos : String} {after : Array Edge} {gd : Option (Nat × Bool)}
theorem op_sliceAll {x y : Operand} {t e : TypeId} {sz id n cap : Nat} {k : IntKind} (ht : P.underlying t = some (.slice e)) (hn : (P.info? e).map (·.size) = some sz) (hx : E x = .arr id n cap) (hy : E y = .d (.v (.int k 0))) :
    OpR P ⟨dst, .slice t x (some y) none none, ty, pos, after, gd⟩ E H (Ret (.arr id n cap) H) :=
  opR_pure fun c w a _ hops => by
    have q1 := hops x (by simp [Op.operands])
    rw [hx] at q1
    have q2 := hops y (by simp [Op.operands])
    rw [hy] at q2
    obtain ⟨g, hg, e1⟩ := arr_val q1
    refine ⟨.slice (some ⟨g, 0, none⟩) n cap, ?_, .arr id _ _ g hg⟩
    have b2 := bound_ok (P := P) (k := k) (y := n) (code := .sliceB) w (show (0 : Int) ≤ 0 by omega) (by omega)
    have ea : ((⟨g, 0, none⟩ : Addr).add 0) = ⟨g, 0, none⟩ := by simp [addr_add]
    simp [execOp, e1, q2.v_eq, Instr.sliceAt, Instr.slice, Instr.sliceBounds, run_underlying ht, b2, run_sizeOf hn, ea]
end
theorem opI_yield {P : Program} {E : Operand → AV} {K : HS} {R : HS → Prop} {dst : Option Tmp} {fo x y : Operand} {ts : Array TypeId} {ty : TypeId} {pos : String} {after : Array Edge} {gd : Option (Nat × Bool)} {l idx D : Nat} {T : List AV} {tmps : Array Value} {fn : FuncId} {p q : Tmp} {asg bd : Code}
    (hE : E fo = .fn (.yield l) T (.iter idx :: tmps.toList.map fun v => .d (.v v))) (hK : K.maps[idx]? = some (.obj (recOf fn tmps #[p, q] asg bd D .ready)))
    (hround : ∀ r, AWI r P asg (fun e T1 H1 => e = .normal ∧ H1.maps[idx]? = some (.obj (recOf fn tmps #[p, q] asg bd D .ready)) ∧ AWI r P bd (fun e _ H2 => e = .normal ∧ H2.maps[idx]? = some (.obj (recOf fn tmps #[p, q] asg bd D .busy)) ∧ R (H2.setM idx (.obj (recOf fn tmps #[p, q] asg bd D .ready)))) T1 (H1.setM idx (.obj (recOf fn tmps #[p, q] asg bd D .busy)))) (putT (putT T (some p) (E x)) (some q) (E y)) K) :
    OpRI none P ⟨dst, .call ⟨.value fo, #[x, y], ts⟩, ty, pos, after, gd⟩ E K (fun av H' => av = .d (TF true) ∧ R H') := by
  intro B w0 c w a next Q hI hops hnext
  have hf := hops fo (by simp [Op.operands, Call.operands])
  have hx := hops x (by simp [Op.operands, Call.operands])
  have hy := hops y (by simp [Op.operands, Call.operands])
  rw [hE] at hf
  generalize ha : AV.fn (.yield l) T (.iter idx :: tmps.toList.map fun v => .d (.v v)) = av at hf
  generalize hv : a.eval fo = V at hf
  cases hf with
  | fn f fs cs fs' cs' hl h hl' h' hny => cases ha; exact absurd rfl (hny l)
  | yld l' idx' tmps' T' hm hs hT =>
    injection ha with e1 e2 e3
    injection e1 with e1
    subst e1
    subst e2
    injection e3 with e3 e4
    injection e3 with e3
    subst e3
    have e5 : tmps' = tmps := by
      apply Array.toList_inj.1
      have := congrArg (List.filterMap fun v : AV => match v with | .d (.v u) => some u | _ => none) e4
      simpa [List.filterMap_map, Function.comp_def] using this.symm
    subst e5
    obtain ⟨q0, q1⟩ := hI.maps.is idx l _ hm hK
    have hw : w.heap[l]? = some (recOf fn tmps' #[p, q] asg bd D .ready) := by
      cases q1 with
      | other _ _ hw _ _ => exact hw
    have hrun : (execOp a.eval ⟨dst, .call ⟨.value fo, #[x, y], ts⟩, ty, pos, after, gd⟩).run P w = .ok (.round l fn ((#[p, q].zip #[a.eval x, a.eval y]).foldl (fun tmps (t, a) => tmps.setIfInBounds t a) tmps') asg bd) w := by
      have h1 := run_yield (P := P) (args := #[a.eval x, a.eval y]) (show w.heap[l]? = some (.loop _) from hw) rfl
      simp [execOp, resolve, hv, Deferred.ofValue, invoke, h1]
    refine ⟨fun _ _ => trivial, ?_⟩
    rw [show (FW none).round = none from rfl, Oper.semAt_none, hrun]
    refine ⟨fun h => by simp [FW, Fence.wide] at h, ?_⟩
    refine roundIn_of_wpIn (F := FW none) trivial ?_
    have hT0 : RepT c ((#[p, q].zip #[a.eval x, a.eval y]).foldl (fun tmps (t, a) => tmps.setIfInBounds t a) tmps') (putT (putT T (some p) (E x)) (some q) (E y)) := by
      have h0 : RepT c tmps' T := ⟨hs, fun i hi => by
        rw [List.getD_eq_getElem?_getD, List.getElem?_eq_getElem hi]; exact hT i hi⟩
      have h1 := RepT.put (a := { tmps := tmps', defers := [] }) h0 (some p) hx
      have h2 := RepT.put (a := { tmps := tmps'.setIfInBounds p (a.eval x), defers := [] }) h1 (some q) hy
      simpa [Act.put] using h2
    refine wpIn_mono (hround (some l) B w0 c c w _ (Le.refl c) hI hT0 rfl) ?_
    rintro e a1 w1 ⟨c1, T1, H1, l1, i1, t1, d1, rfl, m1, hbody⟩
    have g1 := l1.maps _ _ hm
    obtain ⟨hw1, i2⟩ := i1.putO g1 m1 (recOf fn tmps' #[p, q] asg bd D .busy) (other_loop _).1 (other_loop _).2
    refine ⟨_, run_beginRound hw1 rfl, ?_⟩
    refine wpIn_mono (hbody B w0 c1 c1 _ a1 (Le.refl _) i2 t1 d1) ?_
    rintro e a2 w2 ⟨c2, T2, H2, l2, i3, t2, d2, rfl, m2, hR⟩
    obtain ⟨hw2, i4⟩ := i3.putO (l2.maps _ _ g1) m2 (recOf fn tmps' #[p, q] asg bd D .ready) (other_loop _).1 (other_loop _).2
    exact ⟨_, _, run_endRound none hw2, hnext _ _ c2 _ _ (l1.trans l2) (.d (.v _ rfl)) i4 ⟨rfl, hR⟩⟩
  | _ => cases ha
theorem acalls_rangeN {P : Program} {f gf : FuncId} {fn gn : Func} {R0 R1 R2 R3 R6 : Code} {b : Nat} {tc g : Operand} {ps : Array Tmp} {asg bd : Code} {args : List AV} {Hs H0 H1 H2 H3 : HS} {T0 T1 T2 T3 : List AV} {cs : List AV} {r : Tmp} {J : AV → List HB → Prop}
    (hf : P.funcs[f]? = some fn) (hb : fn.body = some (.seq R0 (.seq R1 (.seq (.seq R2 (.cond tc (.seq R3 (.block b (.rangeFunc g ps asg bd))) .skip)) (.seq R6 .ret))))) (hres : fn.results = #[.tmp r])
    (h0 : AW P R0 (fun e T H => e = .normal ∧ T = T0 ∧ H = H0) (args ++ List.replicate (fn.ntmps - args.length) .un) Hs) (h1 : AW P R1 (fun e T H => e = .normal ∧ T = T1 ∧ H = H1) T0 H0)
    (h2 : AW P R2 (fun e T H => e = .normal ∧ T = T2 ∧ H = H2) T1 H1) (hc : evalT T2 tc = .d (.v (.bool true))) (h3 : AW P R3 (fun e T H => e = .normal ∧ T = T3 ∧ H = H3) T2 H2)
    (hg : evalT T3 g = .fn (.func gf) [] cs) (hgf : P.funcs[gf]? = some gn) (hgb : gn.body.isNone = false) (hgn : (gn.name == "runtime.NumGoroutine") = false)
    (hcall : ∀ (l D : Nat) (fnid : FuncId) (tmps : Array Value), ACalls P gf (.fn (.yield l) T3 (.iter (H3.maps.length + 1) :: tmps.toList.map fun v => .d (.v v)) :: cs) ((H3.pushM (.obj (.deferred (some [])))).pushM (.obj (recOf fnid tmps ps asg bd D .ready)))
      (fun av K' => av = .tup [] ∧ K'.maps = H3.maps ++ [.obj (.deferred (some []))] ++ [.obj (recOf fnid tmps ps asg bd D .ready)] ∧ ∃ v, J v K'.blks))
    (h6 : ∀ v (K : HS), J v K.blks → AWD P R6 (fun e T H => e = .normal ∧ T[r]? = some v ∧ H = K) T3 K) :
    ACalls P f args Hs (fun v H' => (∃ ms : List MB, H'.maps = H3.maps ++ ms) ∧ J v H'.blks) := by
  intro B w0 c w vs hI hs ha
  refine (callsIn_wide (n := 0)).1 (callsIn_of_wp_marks hf hb trivial ?_)
  rw [wpIn_wide]
  have hT : RepT c (vs ++ Array.replicate (fn.ntmps - vs.size) undef) (args ++ List.replicate (fn.ntmps - args.length) .un) := by
    refine ⟨by simp [hs], fun i hi => ?_⟩
    by_cases hlt : i < args.length
    · have e1 : (vs ++ Array.replicate (fn.ntmps - vs.size) undef).getD i undef = vs.getD i undef := by
        have : i < vs.size := by omega
        have h2 : i < vs.size + (fn.ntmps - vs.size) := by omega
        simp [this, h2, Array.getElem_append_left this]
      have e2 : (args ++ List.replicate (fn.ntmps - args.length) AV.un).getD i .un = args[i] := by
        simp [List.getD_eq_getElem?_getD, List.getElem?_append_left hlt, hlt]
      rw [e1, e2]
      exact ha i hlt
    · have e2 : (args ++ List.replicate (fn.ntmps - args.length) AV.un).getD i .un = .un := by
        rw [List.getD_eq_getElem?_getD, List.getElem?_append_right (by omega), List.getElem?_replicate]
        split <;> rfl
      rw [e2]
      exact .un _
  refine wp_seq (wp_mono (h0 B w0 c c w _ (Le.refl c) hI hT rfl) ?_)
  rintro e a0 w1 ⟨c1, T', H', l1, i1, t1, d1, rfl, eT, eH⟩
  rw [eT] at t1; rw [eH] at i1
  refine wp_seq (wp_mono (h1 B w0 c1 c1 w1 a0 (Le.refl _) i1 t1 d1) ?_)
  rintro e a1 w2 ⟨c2, T', H', l2, i2, t2, d2, rfl, eT, eH⟩
  rw [eT] at t2; rw [eH] at i2
  refine wp_seq (wp_seq (wp_mono (h2 B w0 c2 c2 w2 a1 (Le.refl _) i2 t2 d2) ?_))
  rintro e a2 w3 ⟨c3, T', H', l3, i3, t3, d3, rfl, eT, eH⟩
  rw [eT] at t3; rw [eH] at i3
  have htc := t3.eval tc
  rw [hc] at htc
  refine wp_cond htc.v_eq ?_
  rw [if_pos rfl]
  refine wp_seq (wp_mono (h3 B w0 c3 c3 w3 a2 (Le.refl _) i3 t3 d3) ?_)
  rintro e a3 w4 ⟨c4, T', H', l4, i4, t4, d4, rfl, eT, eH⟩
  rw [eT] at t4; rw [eH] at i4
  refine wp_block ((wpIn_wide (n := 0)).1 (wpIn_rangeFunc fun fnid _ => ?_))
  have hge := t4.eval g
  rw [hg] at hge
  cases hv : a3.eval g with
  | func fn' fv cv =>
    rw [hv] at hge
    cases hge with
    | fn _ _ _ _ _ hl hfs hl' hcs =>
    have hfv : fv = #[] := by
      apply Array.eq_empty_of_size_eq_zero
      simpa using hl
    subst hfv
    obtain ⟨j1, k1⟩ := i4.allocO (.deferred (some [])) (other_def _).1 (other_def _).2
    have hsz : (w4.alloc (.deferred (some []))).heap.size = w4.heap.size + 1 := World.size_alloc _ _
    obtain ⟨j2, k2⟩ := j1.allocO (recOf fnid a3.tmps ps asg bd w4.heap.size .ready) (other_loop _).1 (other_loop _).2
    rw [hsz] at j2 k2
    obtain ⟨cM, hcM⟩ : ∃ cM, cM = ({ c4 with maps := c4.maps ++ [w4.heap.size] ++ [w4.heap.size + 1] } : Ctx) := ⟨_, rfl⟩
    have j2' : Inv B w0 cM ((H3.pushM (.obj (.deferred (some [])))).pushM (.obj (recOf fnid a3.tmps ps asg bd w4.heap.size .ready))) ((w4.alloc (.deferred (some []))).alloc (recOf fnid a3.tmps ps asg bd w4.heap.size .ready)) := by rw [hcM]; exact j2
    have k2' : Le c4 cM := by rw [hcM]; exact k1.trans k2
    have hml : c4.maps.length = H3.maps.length := i4.maps.len
    have m1 : cM.maps[H3.maps.length]? = some w4.heap.size := by rw [hcM, ← hml]; simp
    have m2 : cM.maps[H3.maps.length + 1]? = some (w4.heap.size + 1) := by rw [hcM, ← hml]; simp
    obtain ⟨W1, hW1⟩ : ∃ W1, W1 = ((w4.alloc (.deferred (some []))).alloc (recOf fnid a3.tmps ps asg bd w4.heap.size .ready)) := ⟨_, rfl⟩
    rw [← hW1] at j2'
    refine ⟨w4.heap.size + 1, [{ target := .collected w4.heap.size, args := #[] }], W1, { target := .fn (.func gf) cv, args := #[.func (.yield (w4.heap.size + 1)) #[] #[]] }, W1, gf, #[.func (.yield (w4.heap.size + 1)) #[] #[]] ++ cv, W1, ?_, ?_, ?_, ?_, fun h => by simp [Fence.wide] at h, ?_⟩
    · rw [hW1]; exact run_enterLoop_outer _ _ _ _ _
    · simp only [resolve, hv]
      simp [go_sem, Deferred.ofValue]
    · intro f' hf'; trivial
    · have hn : gn.name ≠ "runtime.NumGoroutine" := by simpa using hgn
      have hb' : ¬ gn.body = none := by intro hh; rw [hh] at hgb; cases hgb
      simp [invoke, callFunc, program, Sem.run, hgf, hn, hb']
    · refine callsIn_wide.2 ((hcall (w4.heap.size + 1) w4.heap.size fnid a3.tmps B w0 cM W1 _ j2' (by simp [hl', Nat.add_comm]) ?_).mono ?_)
      · intro i hi
        match i, hi with
        | 0, _ =>
          have e0 : (#[Value.func (.yield (w4.heap.size + 1)) #[] #[]] ++ cv).getD 0 undef = .func (.yield (w4.heap.size + 1)) #[] #[] := by simp [Array.getD]
          rw [e0]
          refine Rep.yld _ _ a3.tmps T3 m2 t4.size ?_
          intro i hi
          have := (t4.mono k2').at_ i hi
          rwa [List.getD_eq_getElem?_getD, List.getElem?_eq_getElem hi] at this
        | i + 1, hi =>
          have hi' : i < cs.length := by simpa using hi
          have e1 : (#[Value.func (.yield (w4.heap.size + 1)) #[] #[]] ++ cv).getD (i + 1) undef = cv.getD i undef := by
            have q1 : i < cv.size := by omega
            simp [Array.getD, q1, Nat.add_comm]
          rw [e1]
          exact (hcs i hi').mono k2'
      · rintro e w5 ⟨v, av', H5, c5, rfl, l5, r5, i5, eA, eM, vo, hJ⟩
        have p2 := l5.maps _ _ m2
        have p1 := l5.maps _ _ m1
        have q2 : H5.maps[H3.maps.length + 1]? = some (.obj (recOf fnid a3.tmps ps asg bd w4.heap.size .ready)) := by rw [eM]; simp
        obtain ⟨hw5, i6⟩ := i5.putO p2 q2 (recOf fnid a3.tmps ps asg bd w4.heap.size .exhausted) (other_loop _).1 (other_loop _).2
        refine ⟨none, _, run_endLoop hw5 (by simp), ?_⟩
        show Exit.inBlock b _ .normal _ _
        obtain ⟨K, hK⟩ : ∃ K, K = H5.setM (H3.maps.length + 1) (.obj (recOf fnid a3.tmps ps asg bd w4.heap.size .exhausted)) := ⟨_, rfl⟩
        have i7 : Inv B w0 c5 K (w5.putObj (w4.heap.size + 1) (recOf fnid a3.tmps ps asg bd w4.heap.size .exhausted)) := by rw [hK]; exact i6
        have t5 : RepT c5 a3.tmps T3 := t4.mono (k2'.trans l5)
        have hJK : J vo K.blks := by rw [hK]; exact hJ
        refine wp_seq (wp_mono (h6 vo K hJK B w0 c5 c5 _ { a3 with defers := [{ target := .collected w4.heap.size, args := #[] }] ++ a3.defers } (Le.refl _) i7 t5) ?_)
        rintro e a7 w7 ⟨c7, T', H', l7, i8, t7, d7, rfl, hr, eH⟩
        rw [eH] at i8
        refine wp_ret ?_
        show LeavesInM _ _ _ _ _ _ a7.defers .returning w7
        rw [d7, d4]
        have q1 : K.maps[H3.maps.length]? = some (.obj (.deferred (some []))) := by rw [hK]; simp [HS.setM, eM]
        obtain ⟨hw7, i9⟩ := i8.putO (l7.maps _ _ p1) q1 (.deferred none) (other_def _).1 (other_def _).2
        refine ⟨by simp, .inl ⟨w4.heap.size, _, rfl, run_takeDeferred hw7, ?_⟩⟩
        refine ⟨_, results_tmp hres _ P _, _, vo, _, c7, rfl, ?_, getD_of t7 hr, i9, ⟨[.obj (.deferred none), .obj (recOf fnid a3.tmps ps asg bd w4.heap.size .exhausted)], ?_⟩, hJK⟩
        · exact l1.trans (l2.trans (l3.trans (l4.trans (k2'.trans (l5.trans l7)))))
        · rw [hK]
          simp [HS.setM, eM]
  | _ => rw [hv] at hge; cases hge
theorem acalls_range2 {P : Program} {f gf : FuncId} {fn gn : Func} {R0 R1 R2 R3 R6 : Code} {b : Nat} {tc g : Operand} {p q : Tmp} {asg bd : Code} {args : List AV} {Hs H0 H1 H2 H3 : HS} {T0 T1 T2 T3 : List AV} {cs : List AV} {r : Tmp} {J : AV → List HB → Prop}
    (hf : P.funcs[f]? = some fn) (hb : fn.body = some (.seq R0 (.seq R1 (.seq (.seq R2 (.cond tc (.seq R3 (.block b (.rangeFunc g #[p, q] asg bd))) .skip)) (.seq R6 .ret))))) (hres : fn.results = #[.tmp r])
    (h0 : AW P R0 (fun e T H => e = .normal ∧ T = T0 ∧ H = H0) (args ++ List.replicate (fn.ntmps - args.length) .un) Hs) (h1 : AW P R1 (fun e T H => e = .normal ∧ T = T1 ∧ H = H1) T0 H0)
    (h2 : AW P R2 (fun e T H => e = .normal ∧ T = T2 ∧ H = H2) T1 H1) (hc : evalT T2 tc = .d (.v (.bool true))) (h3 : AW P R3 (fun e T H => e = .normal ∧ T = T3 ∧ H = H3) T2 H2)
    (hg : evalT T3 g = .fn (.func gf) [] cs) (hgf : P.funcs[gf]? = some gn) (hgb : gn.body.isNone = false) (hgn : (gn.name == "runtime.NumGoroutine") = false)
    (hcall : ∀ (l : Nat) (rc : LoopState → MB) (cap : List AV) (K : HS), K.blks = H3.blks → K.maps = H3.maps ++ [.obj (.deferred (some []))] ++ [rc .ready] →
      (∀ (K' : HS) (R : HS → Prop) (E : Operand → AV) (dst : Option Tmp) (fo x y : Operand) (ts : Array TypeId) (ty : TypeId) (pos : String) (after : Array Edge) (gd : Option (Nat × Bool)), E fo = .fn (.yield l) T3 cap → K'.maps[H3.maps.length + 1]? = some (rc .ready) →
        (∀ r, AWI r P asg (fun e T1 H1 => e = .normal ∧ H1.maps[H3.maps.length + 1]? = some (rc .ready) ∧ AWI r P bd (fun e _ H2 => e = .normal ∧ H2.maps[H3.maps.length + 1]? = some (rc .busy) ∧ R (H2.setM (H3.maps.length + 1) (rc .ready))) T1 (H1.setM (H3.maps.length + 1) (rc .busy))) (putT (putT T3 (some p) (E x)) (some q) (E y)) K') →
        OpRI none P ⟨dst, .call ⟨.value fo, #[x, y], ts⟩, ty, pos, after, gd⟩ E K' (fun av H' => av = .d (TF true) ∧ R H')) →
      ACalls P gf (.fn (.yield l) T3 cap :: cs) K (fun av K' => av = .tup [] ∧ K'.maps = K.maps ∧ ∃ v, J v K'.blks))
    (h6 : ∀ v (K : HS), J v K.blks → AWD P R6 (fun e T H => e = .normal ∧ T[r]? = some v ∧ H = K) T3 K) :
    ACalls P f args Hs (fun v H' => (∃ ms : List MB, H'.maps = H3.maps ++ ms) ∧ J v H'.blks) :=
  acalls_rangeN hf hb hres h0 h1 h2 hc h3 hg hgf hgb hgn (fun l D fnid tmps =>
    (hcall l (fun st => .obj (recOf fnid tmps #[p, q] asg bd D st)) (.iter (H3.maps.length + 1) :: tmps.toList.map fun v => .d (.v v)) ((H3.pushM (.obj (.deferred (some [])))).pushM (.obj (recOf fnid tmps #[p, q] asg bd D .ready))) rfl rfl
      (fun _ _ _ _ _ _ _ _ _ _ _ _ e1 e2 e3 => opI_yield e1 e2 e3)).mono fun _ _ ⟨e1, e2, e3⟩ => ⟨e1, e2, e3⟩) h6
structure WrJ (H3 : HS) (tWs tW : TypeId) (sz o : Nat) (M0 : List MB) (i : Nat) (H : HS) : Prop where
  val : ∃ v us, H.blks[o]? = some ⟨tWs, [v], false⟩ ∧ Arr H tW sz v i us ∧ ∀ id n c, v = .arr id n c → H3.nb ≤ id
  keep : ∀ (j : Nat) (b : HB), H3.blks[j]? = some b → j ≠ o → H.blks[j]? = some b
  maps : H.maps = M0
theorem WrJ.push {H3 : HS} {tWs tW : TypeId} {sz o : Nat} {M0 : List MB} {i : Nat} {H : HS} (h : WrJ H3 tWs tW sz o M0 i H) (e : TypeId) (cs : List AV) (b : HB) : WrJ H3 tWs tW sz o M0 i ((H.push e cs).setB H.nb b) := by
  obtain ⟨v, us, h1, h2, h3⟩ := h.val
  refine ⟨⟨v, us, ?_, ?_, h3⟩, fun j b' hj hne => ?_, h.maps⟩
  · have := lt_nb h1
    rw [setB_ne (by omega)]
    exact push_ne h1
  · cases h2 with
    | nil => exact .nil
    | arr id _ cap cs' _ hb hc hnc hu => exact .arr id _ cap cs' _ (by have := lt_nb hb; rw [setB_ne (by omega)]; exact push_ne hb) hc hnc hu
  · have h4 := h.keep j b' hj hne
    have := lt_nb h4
    rw [setB_ne (by omega)]
    exact push_ne h4
theorem set_last {α : Type} {l : List α} {a b : α} : (l ++ [a] ++ [b]).set (l.length + 1) b = l ++ [a] ++ [b] := by
  rw [List.set_append_right _ _ (by simp)]
  simp
end Go.AV
namespace Go.Proofs.Ytjbpfnoibeogbaa
open Go.AV Go.AV.Ord Go.AV.Oct Go.AV.Hist Go.AV.Val Go.AV.Sb
set_option linter.unusedVariables false
set_option linter.unusedSimpArgs false
set_option maxRecDepth 100000 in
theorem from2_ok (Hs : HS) (tid sid : Nat) (lv : AV) (sz : Int) (ls : List (List It)) (vs : List AV) (p yl : Nat) (TT cp : List AV) (J : Nat → HS → Prop) (hr : rises (firstsF ls) = true) (hrl : ∀ lf ∈ ls, rises (keysF lf) = true) (hl9 : ls.length ≤ 2) (hJT : ∀ i H, J i H → H.blks[p]? = some ⟨193, [.ptr tid 5], false⟩ ∧ H.blks[tid]? = some ⟨145, [.ptr sid 0, .d (I 0), .d (I 0), .d (I 0), .d (I 0), lv, .d (I sz)], false⟩ ∧ LvT H 195 197 lv ls vs) (hJp : ∀ i H cs b, J i H → J i ((H.push 197 cs).setB H.nb b)) (hJy : ∀ (i : Nat) (x : It) (H : HS), ls.flatten[i]? = some x → J i H → ∀ (dst : Option Tmp) (fo k w : Operand) (ts : Array TypeId) (ty : TypeId) (pos : String) (after : Array Edge) (gd : Option (Nat × Bool)) (E : Operand → AV), E fo = .fn (.yield yl) TT cp → E k = .d (S x.key) → E w = .d (.agg (wC x.w)) → OpRI none Try.prog ⟨dst, .call ⟨.value fo, #[k, w], ts⟩, ty, pos, after, gd⟩ E H (fun av H' => av = .d (TF true) ∧ J (i + 1) H')) (h0 : J 0 Hs) : ACalls Try.prog 99 [.fn (.yield yl) TT cp, .ptr p 0, .elt [S []]] Hs (fun av H' => av = .tup [] ∧ J ls.flatten.length H') := by
 obtain ⟨hp0, hT0, hL0⟩ := hJT _ _ h0
 refine acalls_of_aw Try.func99 rfl ?_
 refine aw_start (T' := [.fn (.yield yl) TT cp, .ptr p 0, .elt [S []], .un, .un, .un, .un, .un, .un, .un, .un, .un, .un, .un, .un, .un, .un, .un, .un, .un, .un, .un, .un, .un, .un, .un, .un, .un, .un, .un, .un, .un, .un, .un, .un, .un, .un, .un, .un, .un, .un, .un, .un, .un, .un, .un, .un, .un, .un, .un, .un]) rfl ?_
 refine aw_scope ?_
 refine aw_seq ?_
 refine aw_region ?_
 refine zst (by first | exact op_load_elt Try.underlying193 (by rfl) (by rfl) (by rfl) | exact op_load_ptr Try.underlying193 (by rfl) (by rfl) (by assumption) (by rfl)) rfl (by dsimp only [zS, zN, zH, zT]) ?_
 refine zst (op_load_elt Try.underlying9 (by rfl) (by rfl) (by rfl)) rfl (by dsimp only [zS, zN, zH, zT]) ?_
 refine zst (op_callF Try.func100 (by rfl) (by rfl) (.tmp (by rfl) (.tmp (by rfl) .nil)) (by have h := find2_ok Hs tid sid lv sz ls vs [] _ (lf_nil ls) hr (by cases ls with | nil => rfl | cons a l => exact hrl a (List.mem_cons_self ..)) (by omega) hT0 hL0; rw [leafI_nil, posF_nil] at h; exact h)) rfl (by dsimp only [zS, zN, zH, zT]) ?_
 refine zst (op_move_tmp (by rfl)) rfl (by dsimp only [zS, zN, zH, zT]) ?_
 refine zst (op_extract (by rfl) (by rfl)) rfl (by dsimp only [zS, zN, zH, zT]) ?_
 refine zst (op_extract (by rfl) (by rfl)) rfl (by dsimp only [zS, zN, zH, zT]) ?_
 refine zst (op_extract (by rfl) (by rfl)) rfl (by dsimp only [zS, zN, zH, zT]) ?_
 refine zst (op_assign_tmp (by rfl)) rfl (by dsimp only [zS, zN, zH, zT]) ?_
 refine zst (op_assign_tmp (by rfl)) rfl (by dsimp only [zS, zN, zH, zT]) ?_
 refine zst (op_assign_tmp (by rfl)) rfl (by dsimp only [zS, zN, zH, zT]) ?_
 refine al_end rfl ?_
 refine then_normal ?_
 refine aw_seq ?_
 refine aw_label ?_
 refine then_normal ?_
 refine aw_block ?_
 apply aw_loopF (fun n T H => ∃ (i : Nat), T = [.fn (.yield yl) TT cp, .ptr p 0, .un, .un, .d (I i), .d (I 0), .un, .un, .un, .un, .un, .un, .un, .un, .un, .un, .un, .un, .un, .un, .un, .un, .un, .un, .un, .un, .un, .un, .un, .un, .un, .un, .un, .un, .un, .un, .un, .un, .un, .un, .un, .un, .un, .un, .un, .un, .un, .un, .un, .un, .un] ∧ i ≤ ls.length ∧ n = ls.length - i ∧ J (ls.take i).flatten.length H) (ls.length) [true, true, false, false, true, true, false, false, false, false, false, false, false, false, false, false, false, false, false, false, false, false, false, false, false, false, false, false, false, false, false, false, false, false, false, false, false, false, false, false, false, false, false, false, false, false, false, false, false, false, false]
 · (try dsimp only [maskT]); try exact rfl
 · rfl
 · exact ⟨0, rfl, by omega, rfl, h0⟩
 rintro n T H ⟨i, rfl, hi, rfl, hJ⟩
 obtain ⟨hp, hT, hL⟩ := hJT _ _ hJ
 refine aw_seq ?_
 refine aw_seq ?_
 refine aw_region ?_
 refine zst (by first | exact op_load_elt Try.underlying193 (by rfl) (by rfl) (by rfl) | exact op_load_ptr Try.underlying193 (by rfl) (by rfl) (by assumption) (by rfl)) rfl (by dsimp only [zS, zN, zH, zT]) ?_
 refine zst (op_ptr_some Try.underlying193 (by rfl) (by rfl)) rfl (by dsimp only [zS, zN, zH, zT]) ?_
 refine zst (op_move_tmp (by rfl)) rfl (by dsimp only [zS, zN, zH, zT]) ?_
 refine zsw rfl rfl rfl (op_move_tmp (by rfl)) (by dsimp only [zS, zN, zH, zT]) ?_
 refine zsw rfl rfl rfl (by first | exact op_load_elt Try.underlying193 (by rfl) (by rfl) (by rfl) | exact op_load_ptr Try.underlying193 (by rfl) (by rfl) (by assumption) (by rfl)) (by dsimp only [zS, zN, zH, zT]) ?_
 refine zsw rfl rfl rfl (by first | exact op_nilCheck_ptr (by rfl) | exact op_nilCheck_elt (by rfl)) (by dsimp only [zS, zN, zH, zT]) ?_
 refine zsw rfl rfl rfl (by first | exact op_fieldAddr_ptr Try.underlying143 rfl Sz141 (by rfl) (by rfl) | exact op_fieldAddr_elt Try.underlying143 rfl Sz141 (by rfl) (by rfl) (by rfl)) (by dsimp only [zS, zN, zH, zT]) ?_
 refine zsw rfl rfl rfl (by first | exact op_load_elt Try.underlying141 (by rfl) (by rfl) (by rfl) | exact op_load_ptr Try.underlying141 (by rfl) (by rfl) (by assumption) (by rfl)) (by dsimp only [zS, zN, zH, zT]) ?_
 refine zsw rfl rfl rfl (op_lenA Try.underlying141 (by rfl) hL.out) (by dsimp only [zS, zN, zH, zT]) ?_
 refine zsw rfl rfl rfl (op_ltI (by rfl) (by rfl)) (by dsimp only [zS, zN, zH, zT]) ?_
 refine zst (op_pick_tt (by rfl) (val_tmp (by rfl))) rfl (by dsimp only [zS, zN, zH, zT]) ?_
 refine al_end rfl ?_
 refine then_normal ?_
 refine aw_cond rfl (fun hc1 => ?_) (fun hc1 => ?_)
 ·
  (try simp only [y1, y2, y3, y4, y5, y6, y7, y8, y9, y0, List.length_map] at hc1)
  have hlt : i < ls.length := by omega
  obtain ⟨lf, hlf⟩ : ∃ lf, ls[i]? = some lf := ⟨_, List.getElem?_eq_getElem hlt⟩
  obtain ⟨O, cap, cs, M, c, ds, rfl, hbO, hci, hbM, hdl, hlc, hdu, hne, hAr, hlm⟩ := hL.at_ hlf
  obtain ⟨hv, _, _⟩ := hL.val hbO hlt hci
  refine aw_skip ?_
  refine then_normal ?_
  refine aw_seq ?_
  refine aw_block ?_
  refine aw_seq ?_
  refine aw_region ?_
  refine zst (by first | exact op_load_elt Try.underlying193 (by rfl) (by rfl) (by rfl) | exact op_load_ptr Try.underlying193 (by rfl) (by rfl) (by assumption) (by rfl)) rfl (by dsimp only [zS, zN, zH, zT]) ?_
  refine zst (by first | exact op_nilCheck_ptr (by rfl) | exact op_nilCheck_elt (by rfl)) rfl (by dsimp only [zS, zN, zH, zT]) ?_
  refine zst (by first | exact op_fieldAddr_ptr Try.underlying143 rfl Sz141 (by rfl) (by rfl) | exact op_fieldAddr_elt Try.underlying143 rfl Sz141 (by rfl) (by rfl) (by rfl)) rfl (by dsimp only [zS, zN, zH, zT]) ?_
  refine zst (by first | exact op_load_elt Try.underlying141 (by rfl) (by rfl) (by rfl) | exact op_load_ptr Try.underlying141 (by rfl) (by rfl) (by assumption) (by rfl)) rfl (by dsimp only [zS, zN, zH, zT]) ?_
  refine zst (op_move_tmp (by rfl)) rfl (by dsimp only [zS, zN, zH, zT]) ?_
  refine zst (op_indexArr (off := i) Try.underlying141 Sz195 (by rfl) (by rfl) (by omega) (by omega) (by omega)) rfl (by dsimp only [zS, zN, zH, zT]) ?_
  refine zst (op_load_ptr Try.underlying195 (by rfl) (by rfl) hbO hci) rfl (by dsimp only [zS, zN, zH, zT]) ?_
  refine zst (op_move_tmp (by rfl)) rfl (by dsimp only [zS, zN, zH, zT]) ?_
  refine zst (op_sliceAll Try.underlying195 Sz197 (by rfl) (by rfl)) rfl (by dsimp only [zS, zN, zH, zT]) ?_
  refine zst (op_lenArr Try.underlying195 (by rfl)) rfl (by dsimp only [zS, zN, zH, zT]) ?_
  refine zst (op_move_const (by rfl)) rfl (by dsimp only [zS, zN, zH, zT]) ?_
  refine al_end rfl ?_
  refine then_normal ?_
  refine aw_block ?_
  apply aw_loopF (fun n T H => ∃ (j : Nat), T = [.fn (.yield yl) TT cp, .ptr p 0, .un, .un, .d (I i), .un, .un, .un, .un, .un, .un, .un, .un, .un, .un, .un, .un, .un, .un, .un, .un, .un, .un, .un, .un, .un, .un, .un, .un, .un, .un, .un, .un, .un, .un, .un, .un, .arr M lf.length c, .d (I lf.length), .d (I j), .un, .un, .un, .un, .un, .un, .un, .un, .un, .un, .un] ∧ j ≤ lf.length ∧ n = lf.length - j ∧ J ((ls.take i).flatten.length + j) H) (lf.length) [true, true, false, false, true, false, false, false, false, false, false, false, false, false, false, false, false, false, false, false, false, false, false, false, false, false, false, false, false, false, false, false, false, false, false, false, false, true, true, true, false, false, false, false, false, false, false, false, false, false, false]
  · (try dsimp only [maskT]); try exact rfl
  · rfl
  · exact ⟨0, rfl, by omega, rfl, hJ⟩
  rintro n T H ⟨j, rfl, hj, rfl, hJ2⟩
  obtain ⟨hp2, hT2, hL2⟩ := hJT _ _ hJ2
  refine aw_seq ?_
  refine aw_region ?_
  refine zst (op_ltI (by rfl) (by rfl)) rfl (by dsimp only [zS, zN, zH, zT]) ?_
  refine al_end rfl ?_
  refine then_normal ?_
  refine aw_seq ?_
  refine aw_cond rfl (fun hc2 => ?_) (fun hc2 => ?_)
  ·
   (try simp only [y1, y2, y3, y4, y5, y6, y7, y8, y9, y0, List.length_map] at hc2)
   have hjl : j < lf.length := by omega
   obtain ⟨x, hx⟩ : ∃ x, lf[j]? = some x := ⟨_, List.getElem?_eq_getElem hjl⟩
   have hfx := flat_item hlf hx
   obtain ⟨id2, cap2, ds2, e2, hb2, hc2, hcap2, hu2⟩ := Arr.pos (hL2.leaf hlf hv) (by omega)
   cases e2
   refine aw_skip ?_
   refine then_normal ?_
   refine aw_seq ?_
   refine aw_block ?_
   refine aw_seq ?_
   refine aw_region ?_
   refine zst (op_indexArr (off := j * 4) Try.underlying195 Sz197 (by rfl) (by rfl) (by omega) (by omega) (by omega)) rfl (by dsimp only [zS, zN, zH, zT]) ?_
   refine zst (op_loadIA x Try.underlying197 (by rfl) Sz197 (by rfl) hb2 (by show _ ≤ ds2.length; omega) (cellsI_at hu2 hx)) rfl (by dsimp only [zS, zN, zH, zT]) ?_
   refine zst (op_alloc (Zr197) (by rfl)) rfl (by dsimp only [zS, zN, zH, zT]) ?_
   refine zst (op_storeB (vs := [.d (S x.key), .d (S x.w.key), .d (S x.w.val), .d (TF x.w.gone)]) (b' := ⟨197, [.d (S x.key), .d (S x.w.key), .d (S x.w.val), .d (TF x.w.gone)], false⟩) (H' := _) Sz197 (by rfl) push_at (by intro h; cases h) (by rfl) (by rfl) (Nat.le_of_ble_eq_true rfl) (by simp [AV.one, DV.one, TF, S, I, BY]) (by rfl) (by rfl) rfl) rfl (by dsimp only [zS, zN, zH, zT]) ?_
   refine al_end rfl ?_
   refine then_normal ?_
   refine aw_seq ?_
   refine aw_of_awi (awi_region ?_)
   refine zsti (op_move_tmp (by rfl)) (fun c h => by cases h) rfl (by dsimp only [zS, zN, zH, zT]) ?_
   refine zsti (by first | exact op_fieldAddr_ptr Try.underlying197 rfl Sz9 (by rfl) (by rfl) | exact op_fieldAddr_elt Try.underlying197 rfl Sz9 (by rfl) (by rfl) (by rfl)) (fun c h => by cases h) rfl (by dsimp only [zS, zN, zH, zT]) ?_
   refine zsti (op_load_ptr Try.underlying9 (by rfl) (by rfl) (setB_at push_at) (by rfl)) (fun c h => by cases h) rfl (by dsimp only [zS, zN, zH, zT]) ?_
   refine zsti (by first | exact op_fieldAddr_ptr Try.underlying197 rfl Sz51 (by rfl) (by rfl) | exact op_fieldAddr_elt Try.underlying197 rfl Sz51 (by rfl) (by rfl) (by rfl)) (fun c h => by cases h) rfl (by dsimp only [zS, zN, zH, zT]) ?_
   refine zsti (op_load_ptrsD (wC x.w) Try.underlying51 (by rfl) Sz51 (by rfl) (setB_at push_at) (Nat.le_of_ble_eq_true rfl) (by rfl) (wC_one _)) (fun c h => by cases h) rfl (by dsimp only [zS, zN, zH, zT]) ?_
   refine ali_cons _ (hJy _ x _ hfx (hJp _ _ _ _ hJ2) _ _ _ _ _ _ _ _ _ _ (by rfl) (by rfl) (by rfl)) rfl ?_
   rintro v48 H48 ⟨rfl, hJ48⟩
   apply ali_normT
   · (try dsimp only [zS, zN, zH, zT]); try exact rfl
   refine zsti (op_not (by rfl)) (fun c h => by cases h) rfl (by dsimp only [zS, zN, zH, zT]) ?_
   refine ali_end rfl ?_
   refine then_normal ?_
   refine aw_cond rfl (fun h => by cases h) (fun _ => ?_)
   refine aw_skip ?_
   refine inBlock_normal (then_normal ?_)
   refine aw_region ?_
   refine zst (by first | exact op_add (by rfl) (by rfl) (wrap_i64 ⟨by omega, by omega⟩) | exact op_add (by rfl) (by rfl) (by rfl)) rfl (by dsimp only [zS, zN, zH, zT]) ?_
   refine zst (op_move_tmp (by rfl)) rfl (by dsimp only [zS, zN, zH, zT]) ?_
   refine al_end rfl ?_
   apply again_to (lf.length - (j + 1)) [true, true, false, false, true, false, false, false, false, false, false, false, false, false, false, false, false, false, false, false, false, false, false, false, false, false, false, false, false, false, false, false, false, false, false, false, false, true, true, true, false, false, false, false, false, false, false, false, false, false, false]
   · (try dsimp only [maskT]); try exact rfl
   · rfl
   · omega
   exact ⟨j + 1, rfl, by omega, rfl, hJ48⟩
  ·
   (try simp only [y1, y2, y3, y4, y5, y6, y7, y8, y9, y0, List.length_map] at hc2)
   have hje : j = lf.length := by omega
   subst hje
   refine aw_exit ?_
   refine then_exit (again_exit (inBlock_here (inBlock_normal (then_normal ?_))))
   refine aw_region ?_
   refine zst (op_move_tmp (by rfl)) rfl (by dsimp only [zS, zN, zH, zT]) ?_
   refine zst (by first | exact op_add (by rfl) (by rfl) (wrap_i64 ⟨by omega, by omega⟩) | exact op_add (by rfl) (by rfl) (by rfl)) rfl (by dsimp only [zS, zN, zH, zT]) ?_
   refine zst (op_assign_tmp (by rfl)) rfl (by dsimp only [zS, zN, zH, zT]) ?_
   refine zst (op_assign_const (by rfl)) rfl (by dsimp only [zS, zN, zH, zT]) ?_
   refine al_end rfl ?_
   apply again_to (ls.length - (i + 1)) [true, true, false, false, true, true, false, false, false, false, false, false, false, false, false, false, false, false, false, false, false, false, false, false, false, false, false, false, false, false, false, false, false, false, false, false, false, false, false, false, false, false, false, false, false, false, false, false, false, false, false]
   · (try dsimp only [maskT]); try exact rfl
   · rfl
   · omega
   exact ⟨i + 1, rfl, by omega, rfl, by rw [flat_step hlf]; exact hJ2⟩
 ·
  (try simp only [y1, y2, y3, y4, y5, y6, y7, y8, y9, y0, List.length_map] at hc1)
  have hie : i = ls.length := by omega
  subst hie
  rw [List.take_length] at hJ
  refine aw_exit ?_
  refine then_exit (again_exit (inBlock_here (noGo_normal ?_)))
  refine retPost0 (by first | exact .inl rfl | exact .inr rfl) rfl ?_
  exact ⟨rfl, hJ⟩
end Go.Proofs.Ytjbpfnoibeogbaa
