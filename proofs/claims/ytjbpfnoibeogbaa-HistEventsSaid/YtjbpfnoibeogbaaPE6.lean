/- Part 6 of what the law needs: WHistEvents. -/
import Derived.Test.YtjbpfnoibeogbaaPE5
import Derived.KernelRfl
namespace Go.Proofs.Ytjbpfnoibeogbaa
open Go.AV Go.AV.Ord Go.AV.Oct Go.AV.Hist
set_option linter.unusedVariables false
set_option linter.unusedSimpArgs false
theorem ptypes : PTypes Try.prog 112 3 4 39 where
  p := ⟨_, Try.underlying112, fun i hi => by
    match i, hi with
    | 0, _ => exact ⟨_, rfl, rfl, rfl⟩
    | 1, _ => exact ⟨_, rfl, rfl, rfl⟩
    | 2, _ => exact ⟨_, rfl, rfl, rfl⟩
    | 3, _ => exact ⟨_, rfl, rfl, rfl⟩
    | 4, _ => exact ⟨_, rfl, rfl, rfl⟩
    | 5, _ => exact ⟨_, rfl, rfl, rfl⟩
    | 6, _ => exact ⟨_, rfl, rfl, rfl⟩, rfl⟩
  i := Try.underlying3
  b := Try.underlying4
  q := Try.underlying39
  cP := by kernel_rfl
  cI := by kernel_rfl
  cB := by kernel_rfl
theorem op_neM {E : Operand → AV} {H : HS} {dst : Option Tmp} {ty t' : TypeId} {pos : String} {after : Array Edge} {gd : Option (Nat × Bool)} {x y : Operand} {a b : Msg} (hx : E x = .d (.agg (mC a))) (hy : E y = .d (.agg (mC b))) :
    OpR Try.prog ⟨dst, .binOp .neq 58 x y t', ty, pos, after, gd⟩ E H (Ret (.d (TF (!decide (a = b)))) H) :=
  op_bin_agg (X := mV a) (Y := mV b) hx hy (fun w => run_eqGuard_agg w .neq 58 x y _ _ (by kernel_rfl)) fun w => by
    rw [run_neq_struct, show (10000 : Nat) = 9997 + 3 from rfl, run_eqM]; simp [Result.andThen]
set_option maxHeartbeats 8000000 in
set_option maxRecDepth 100000 in
theorem histEvents_walk (Hs : HS) (l : List Pt) (hM : Hs.maps = []) : ACalls Try.prog 4 [.d (.lst 7 (l.map tD))] Hs (fun av _ => av = .d (TF true)) := by
 have hno := noIt_nil hM
 refine acalls_of_aw Try.func4 rfl ?_
 refine aw_start (T' := ((.d (.lst 7 (l.map tD))) :: .un :: .un :: .un :: .un :: .un :: .un :: .un :: .un :: .un :: .un :: .un :: .un :: .un :: .un :: .un :: .un :: .un :: .un :: .un :: .un :: .un :: .un :: .un :: .un :: .un :: .un :: .un :: .un :: .un :: .un :: .un :: .un :: .un :: .un :: .un :: .un :: .un :: .un :: .un :: .un :: .un :: .un :: .un :: .un :: .un :: .un :: .un :: .un :: .un :: .un :: .un :: .un :: .un :: .un :: .un :: .un :: .un :: .un :: .un :: .un :: .un :: .un :: .un :: .un :: .un :: .un :: .un :: .un :: .un :: .un :: .un :: .un :: .un :: .un :: .un :: .un :: .un :: .un :: .un :: .un :: .un :: .un :: .un :: .un :: .un :: .un :: .un :: .un :: .un :: .un :: .un :: .un :: .un :: .un :: .un :: .un :: .un :: .un :: .un :: .un :: .un :: .un :: .un :: .un :: .un :: .un :: .un :: .un :: .un :: .un :: .un :: .un :: .un :: .un :: .un :: .un :: .un :: .un :: .un :: .un :: .un :: .un :: .un :: .un :: .un :: .un :: .un :: .un :: .un :: .un :: .un :: .un :: .un :: .un :: .un :: .un :: .un :: .un :: .un :: .un :: .un :: .un :: .un :: .un :: .un :: .un :: .un :: .un :: .un :: .un :: .un :: .un :: .un :: .un :: .un :: .un :: .un :: .un :: .un :: .un :: .un :: .un :: .un :: .un :: .un :: .un :: .un :: .un :: .un :: .un :: .un :: .un :: .un :: .un :: .un :: .un :: .un :: .un :: .un :: .un :: .un :: .un :: .un :: .un :: .un :: .un :: .un :: .un :: .un :: [])) rfl ?_
 refine aw_seq ?_
 refine aw_region ?_
 refine zst (op_assign_const (by rfl)) rfl (by dsimp only [zS, zN, zH, zT]) ?_
 refine al_end rfl ?_
 refine then_normal ?_
 refine aw_seq ?_
 refine aw_seq ?_
 refine aw_region ?_
 refine al_cons _ (op_callF Try.func16 (by rfl) (by rfl) .nil (head_ok _ hno)) rfl ?_
 rintro v1 H1 ⟨ms1, hH1, hni1, rfl⟩
 clear hH1
 apply al_normT
 · (try dsimp only [putT, List.set_cons_zero, List.set_cons_succ]); try exact rfl
 refine zst (op_not (by rfl)) rfl (by dsimp only [zS, zN, zH, zT]) ?_
 refine al_end rfl ?_
 refine then_normal ?_
 refine aw_cond rfl (fun h => by cases h) (fun _ => ?_)
 refine aw_skip ?_
 refine then_normal ?_
 refine aw_seq ?_
 refine aw_seq ?_
 refine aw_region ?_
 refine zst (op_move_tmp (by rfl)) rfl (by dsimp only [zS, zN, zH, zT]) ?_
 refine zst (op_lenL Try.underlying39 (by first | exact LL.d _ _ | exact LL.own _ _ _ | exact LL.nil _ | assumption)) rfl (by dsimp only [zS, zN, zH, zT]) ?_
 refine zst (op_gtI (by rfl) (by rfl)) rfl (by dsimp only [zS, zN, zH, zT]) ?_
 refine al_end rfl ?_
 refine then_normal ?_
 refine aw_cond rfl (fun hc2 => ?_) (fun hc2 => ?_)
 ·
  (try simp only [y1, y2, y3, y4, y5, y6, y7, y8, y9, y0, List.length_map] at hc2)
  refine aw_seq ?_
  refine aw_region ?_
  refine zst (op_assign_const (by rfl)) rfl (by dsimp only [zS, zN, zH, zT]) ?_
  refine al_end rfl ?_
  refine then_normal ?_
  refine aw_ret ?_
  refine then_ret ?_
  refine retPost1 rfl rfl ?_
  first | exact rfl | exact congrArg (fun b => AV.d (TF b)) (decide_eq_true (by simp only [List.length_map]; omega))
 ·
  (try simp only [y1, y2, y3, y4, y5, y6, y7, y8, y9, y0, List.length_map] at hc2)
  have hl60 : l.length ≤ 60 := by (try simp only [List.length_map] at hc2); omega
  refine aw_skip ?_
  refine then_normal ?_
  refine aw_seq ?_
  refine aw_region ?_
  refine zst (op_move_tmp (by rfl)) rfl (by dsimp only [zS, zN, zH, zT]) ?_
  refine al_cons _ (op_callF Try.func17 (by rfl) (by rfl) (.tmp (by rfl) .nil) (commits_ok _ l hni1 (by omega))) rfl ?_
  rintro v2 H2 ⟨ms2, hH2, hni2, rfl⟩
  clear hH2
  apply al_normT
  · (try dsimp only [putT, List.set_cons_zero, List.set_cons_succ]); try exact rfl
  refine zst (op_assign_tmp (by rfl)) rfl (by dsimp only [zS, zN, zH, zT]) ?_
  refine al_end rfl ?_
  refine then_normal ?_
  refine aw_seq ?_
  refine aw_region ?_
  refine zst (op_move_tmp (by rfl)) rfl (by dsimp only [zS, zN, zH, zT]) ?_
  refine zst (op_callF Try.func18 (by rfl) (by rfl) (.tmp (by rfl) .nil) (events_at _ (csP l) _ (Weak.refl _) (events_all l) hni2 (by rw [csP_len]; decide) (fun c hc => by obtain ⟨k, _, rfl⟩ := csP_mem hc; exact Nat.le_trans (wsN_len k l 8) (by decide)) (fun c hc w hw => by obtain ⟨k, _, rfl⟩ := csP_mem hc; exact (wsP_good (c := k) (l := l) (n := 8) hw).key_len))) rfl (by dsimp only [zS, zN, zH, zT]) ?_
  refine zst (op_move_tmp (by rfl)) rfl (by dsimp only [zS, zN, zH, zT]) ?_
  refine zst (op_extract (by rfl) (by rfl)) rfl (by dsimp only [zS, zN, zH, zT]) ?_
  refine zst (op_extract (by rfl) (by rfl)) rfl (by dsimp only [zS, zN, zH, zT]) ?_
  refine zst (op_assign_tmp (by rfl)) rfl (by dsimp only [zS, zN, zH, zT]) ?_
  refine zst (op_assign_tmp (by rfl)) rfl (by dsimp only [zS, zN, zH, zT]) ?_
  refine al_end rfl ?_
  refine then_normal ?_
  refine aw_seq ?_
  refine aw_seq ?_
  refine aw_region ?_
  refine zst (op_move_tmp (by rfl)) rfl (by dsimp only [zS, zN, zH, zT]) ?_
  refine zst (op_neI (by rfl) (by rfl)) rfl (by dsimp only [zS, zN, zH, zT]) ?_
  refine al_end rfl ?_
  refine then_normal ?_
  refine aw_cond rfl (fun h => by cases h) (fun _ => ?_)
  refine aw_skip ?_
  refine then_normal ?_
  refine aw_seq ?_
  refine aw_region ?_
  refine zst (op_assign_const (by rfl)) rfl (by dsimp only [zS, zN, zH, zT]) ?_
  refine al_end rfl ?_
  refine then_normal ?_
  refine aw_seq ?_
  refine aw_seq ?_
  refine aw_region ?_
  refine zst (op_move_tmp (by rfl)) rfl (by dsimp only [zS, zN, zH, zT]) ?_
  refine zst (op_lenL Try.underlying40 (by first | exact LL.d _ _ | exact LL.own _ _ _ | exact LL.nil _ | assumption)) rfl (by dsimp only [zS, zN, zH, zT]) ?_
  refine zst (op_move_const (by rfl)) rfl (by dsimp only [zS, zN, zH, zT]) ?_
  refine al_end rfl ?_
  refine then_normal ?_
  refine aw_block ?_
  apply aw_loopF (fun n T H => ∃ (m : Nat) (q : Nat), T = (.un :: .un :: .un :: (.d (.lst 3 ((csP l).map cD))) :: (.d (.lst 15 ((allE l 8).map eD))) :: .un :: (.d (I q)) :: .un :: .un :: .un :: .un :: .un :: .un :: .un :: .un :: .un :: .un :: .un :: .un :: .un :: .un :: .un :: .un :: .un :: .un :: .un :: .un :: .un :: .un :: .un :: .un :: .un :: .un :: .un :: .un :: (.d (.lst 3 ((csP l).map cD))) :: (.d (I ((csP l).map cD).length)) :: (.d (I m)) :: .un :: .un :: .un :: .un :: .un :: .un :: .un :: .un :: .un :: .un :: .un :: .un :: .un :: .un :: .un :: .un :: .un :: .un :: .un :: .un :: .un :: .un :: .un :: .un :: .un :: .un :: .un :: .un :: .un :: .un :: .un :: .un :: .un :: .un :: .un :: .un :: .un :: .un :: .un :: .un :: .un :: .un :: .un :: .un :: .un :: .un :: .un :: .un :: .un :: .un :: .un :: .un :: .un :: .un :: .un :: .un :: .un :: .un :: .un :: .un :: .un :: .un :: .un :: .un :: .un :: .un :: .un :: .un :: .un :: .un :: .un :: .un :: .un :: .un :: .un :: .un :: .un :: .un :: .un :: .un :: .un :: .un :: .un :: .un :: .un :: .un :: .un :: .un :: .un :: .un :: .un :: .un :: .un :: .un :: .un :: .un :: .un :: .un :: .un :: .un :: .un :: .un :: .un :: .un :: .un :: .un :: .un :: .un :: .un :: .un :: .un :: .un :: .un :: .un :: .un :: .un :: .un :: .un :: .un :: .un :: .un :: .un :: .un :: .un :: .un :: .un :: .un :: .un :: .un :: .un :: .un :: .un :: .un :: .un :: .un :: .un :: .un :: .un :: .un :: .un :: .un :: .un :: .un :: .un :: .un :: .un :: .un :: .un :: .un :: .un :: .un :: .un :: []) ∧ m ≤ 8 ∧ n = 8 - m ∧ q = (allE l m).length) (8) (false :: false :: false :: true :: true :: false :: true :: false :: false :: false :: false :: false :: false :: false :: false :: false :: false :: false :: false :: false :: false :: false :: false :: false :: false :: false :: false :: false :: false :: false :: false :: false :: false :: false :: false :: true :: true :: true :: false :: false :: false :: false :: false :: false :: false :: false :: false :: false :: false :: false :: false :: false :: false :: false :: false :: false :: false :: false :: false :: false :: false :: false :: false :: false :: false :: false :: false :: false :: false :: false :: false :: false :: false :: false :: false :: false :: false :: false :: false :: false :: false :: false :: false :: false :: false :: false :: false :: false :: false :: false :: false :: false :: false :: false :: false :: false :: false :: false :: false :: false :: false :: false :: false :: false :: false :: false :: false :: false :: false :: false :: false :: false :: false :: false :: false :: false :: false :: false :: false :: false :: false :: false :: false :: false :: false :: false :: false :: false :: false :: false :: false :: false :: false :: false :: false :: false :: false :: false :: false :: false :: false :: false :: false :: false :: false :: false :: false :: false :: false :: false :: false :: false :: false :: false :: false :: false :: false :: false :: false :: false :: false :: false :: false :: false :: false :: false :: false :: false :: false :: false :: false :: false :: false :: false :: false :: false :: false :: false :: false :: false :: false :: false :: false :: false :: false :: false :: false :: false :: false :: false :: [])
  · (try dsimp only [maskT]); try exact rfl
  · rfl
  · exact ⟨0, 0, rfl, by omega, rfl, rfl⟩
  rintro n T H ⟨m, q, rfl, hm, rfl, hq0⟩
  refine aw_seq ?_
  refine aw_region ?_
  refine zst (op_ltI (by rfl) (by rfl)) rfl (by dsimp only [zS, zN, zH, zT]) ?_
  refine al_end rfl ?_
  refine then_normal ?_
  refine aw_seq ?_
  refine aw_cond rfl (fun hc4 => ?_) (fun hc4 => ?_)
  ·
   (try simp only [y1, y2, y3, y4, y5, y6, y7, y8, y9, y0, List.length_map] at hc4)
   (try simp only [List.length_map, csP_len] at hc4)
   have hm8 : m < 8 := by omega
   refine aw_skip ?_
   refine then_normal ?_
   refine aw_seq ?_
   refine aw_block ?_
   refine aw_seq ?_
   refine aw_region ?_
   refine zst (op_move_tmp (by rfl)) rfl (by dsimp only [zS, zN, zH, zT]) ?_
   refine zst (op_indexAddr (z := cD (cmP l m)) (cs := [I (cmP l m).seq, I (cmP l m).at_, .lst 3 ((wsP m l).map wD)]) Try.underlying40 Sz48 (LL.d _ _) (by rfl) (by omega) (by rw [List.getElem?_map, show ((m : Nat) : Int).toNat = m from rfl, csP_at hm8]; rfl) (by rfl)) rfl (by dsimp only [zS, zN, zH, zT]) ?_
   refine zst (op_load_elts (ds := cC (cmP l m)) Try.underlying48 (by rfl) Sz48 (by rfl) (Nat.le_of_ble_eq_true rfl) (by rfl)) rfl (by dsimp only [zS, zN, zH, zT]) ?_
   refine zst (op_alloc (Zr48) (by rfl)) rfl (by dsimp only [zS, zN, zH, zT]) ?_
   refine zst (op_assign_tmp (by rfl)) rfl (by dsimp only [zS, zN, zH, zT]) ?_
   refine zst (op_storeB (vs := [.d (I (cmP l m).seq), .d (I (cmP l m).at_), .d (.lst 3 ((wsP m l).map wD))]) (b' := ⟨48, [.d (I (cmP l m).seq), .d (I (cmP l m).at_), .d (.lst 3 ((wsP m l).map wD))], false⟩) (H' := _) Sz48 (by rfl) push_at (by intro h; cases h) (by rfl) (by rfl) (Nat.le_of_ble_eq_true rfl) (by simp [AV.one, DV.one, TF, S, I, BY]) (by rfl) (by rfl) rfl) rfl (by dsimp only [zS, zN, zH, zT]) ?_
   refine al_end rfl ?_
   refine then_normal ?_
   refine aw_seq ?_
   refine aw_region ?_
   refine zst (op_assign_const (by rfl)) rfl (by dsimp only [zS, zN, zH, zT]) ?_
   refine al_end rfl ?_
   refine then_normal ?_
   refine aw_block ?_
   apply aw_loopF (fun n T H => ∃ (i : Nat) (q : Nat) (pc : Nat), T = (.un :: .un :: .un :: (.d (.lst 3 ((csP l).map cD))) :: (.d (.lst 15 ((allE l 8).map eD))) :: .un :: (.d (I q)) :: (.d (I m)) :: (.ptr pc 0) :: (.d (I i)) :: .un :: .un :: .un :: .un :: .un :: .un :: .un :: .un :: .un :: .un :: .un :: .un :: .un :: .un :: .un :: .un :: .un :: .un :: .un :: .un :: .un :: .un :: .un :: .un :: .un :: (.d (.lst 3 ((csP l).map cD))) :: (.d (I ((csP l).map cD).length)) :: (.d (I m)) :: .un :: .un :: .un :: .un :: .un :: .un :: .un :: .un :: .un :: .un :: .un :: .un :: .un :: .un :: .un :: .un :: .un :: .un :: .un :: .un :: .un :: .un :: .un :: .un :: .un :: .un :: .un :: .un :: .un :: .un :: .un :: .un :: .un :: .un :: .un :: .un :: .un :: .un :: .un :: .un :: .un :: .un :: .un :: .un :: .un :: .un :: .un :: .un :: .un :: .un :: .un :: .un :: .un :: .un :: .un :: .un :: .un :: .un :: .un :: .un :: .un :: .un :: .un :: .un :: .un :: .un :: .un :: .un :: .un :: .un :: .un :: .un :: .un :: .un :: .un :: .un :: .un :: .un :: .un :: .un :: .un :: .un :: .un :: .un :: .un :: .un :: .un :: .un :: .un :: .un :: .un :: .un :: .un :: .un :: .un :: .un :: .un :: .un :: .un :: .un :: .un :: .un :: .un :: .un :: .un :: .un :: .un :: .un :: .un :: .un :: .un :: .un :: .un :: .un :: .un :: .un :: .un :: .un :: .un :: .un :: .un :: .un :: .un :: .un :: .un :: .un :: .un :: .un :: .un :: .un :: .un :: .un :: .un :: .un :: .un :: .un :: .un :: .un :: .un :: .un :: .un :: .un :: .un :: .un :: .un :: .un :: .un :: .un :: .un :: .un :: .un :: .un :: []) ∧ i ≤ 4 ∧ n = 4 - i ∧ q = (preE l m i).length ∧ H.blks[pc]? = some ⟨48, [.d (I (cmP l m).seq), .d (I (cmP l m).at_), .d (.lst 3 ((wsP m l).map wD))], false⟩) (4) (false :: false :: false :: true :: true :: false :: true :: true :: true :: true :: false :: false :: false :: false :: false :: false :: false :: false :: false :: false :: false :: false :: false :: false :: false :: false :: false :: false :: false :: false :: false :: false :: false :: false :: false :: true :: true :: true :: false :: false :: false :: false :: false :: false :: false :: false :: false :: false :: false :: false :: false :: false :: false :: false :: false :: false :: false :: false :: false :: false :: false :: false :: false :: false :: false :: false :: false :: false :: false :: false :: false :: false :: false :: false :: false :: false :: false :: false :: false :: false :: false :: false :: false :: false :: false :: false :: false :: false :: false :: false :: false :: false :: false :: false :: false :: false :: false :: false :: false :: false :: false :: false :: false :: false :: false :: false :: false :: false :: false :: false :: false :: false :: false :: false :: false :: false :: false :: false :: false :: false :: false :: false :: false :: false :: false :: false :: false :: false :: false :: false :: false :: false :: false :: false :: false :: false :: false :: false :: false :: false :: false :: false :: false :: false :: false :: false :: false :: false :: false :: false :: false :: false :: false :: false :: false :: false :: false :: false :: false :: false :: false :: false :: false :: false :: false :: false :: false :: false :: false :: false :: false :: false :: false :: false :: false :: false :: false :: false :: false :: false :: false :: false :: false :: false :: false :: false :: false :: false :: false :: false :: [])
   · (try dsimp only [maskT]); try exact rfl
   · rfl
   · exact ⟨0, _, _, rfl, by omega, rfl, by rw [preE_zero]; exact hq0, (by (try have l1 := lt_nb hb); repeat (first | assumption | exact push_at | exact setB_at push_at | (rw [setB_ne (by simp only [setB_nb, push_nb, ne_eq]; omega)]) | apply push_ne | apply setB_at))⟩
   rintro n T H ⟨i, q, pc, rfl, hi, rfl, hq, hb⟩
   refine aw_seq ?_
   refine aw_seq ?_
   refine aw_region ?_
   refine zst (op_move_tmp (by rfl)) rfl (by dsimp only [zS, zN, zH, zT]) ?_
   refine zst (op_ltI (by rfl) (by rfl)) rfl (by dsimp only [zS, zN, zH, zT]) ?_
   refine al_end rfl ?_
   refine then_normal ?_
   refine aw_cond rfl (fun hc5 => ?_) (fun hc5 => ?_)
   ·
    (try simp only [y1, y2, y3, y4, y5, y6, y7, y8, y9, y0, List.length_map] at hc5)
    have hi4 : i < 4 := by omega
    refine aw_skip ?_
    refine then_normal ?_
    refine aw_seq ?_
    refine aw_block ?_
    refine aw_seq ?_
    refine aw_region ?_
    refine zst (op_move_tmp (by rfl)) rfl (by dsimp only [zS, zN, zH, zT]) ?_
    refine zst (op_convI (r := ((i : Nat) : Int)) (by rw [Try.underlying3]; rfl) Try.underlying5 (by rfl) (wrap_u8 ⟨by omega, by omega⟩)) rfl (by dsimp only [zS, zN, zH, zT]) ?_
    refine zst (op_add (r := ((UInt8.ofNat (48 + i)).toNat : Int)) (by rfl) (by rfl) (byte_add (by omega) (by omega))) rfl (by dsimp only [zS, zN, zH, zT]) ?_
    refine zst (op_lit Try.underlying49 ZS5 (.cons (y := BY (UInt8.ofNat (48 + i))) (by rfl) (.nil _)) (by rfl) (lit_b _) (lit_b1 _) (by decide)) rfl (by dsimp only [zS, zN, zH, zT]) ?_
    refine zst (op_string (l := idB i) Try.underlying49 Try.underlying9 Try.underlying5 (LL.own _ _ _) (by rfl)) rfl (by dsimp only [zS, zN, zH, zT]) ?_
    refine zst (op_assign_tmp (by rfl)) rfl (by dsimp only [zS, zN, zH, zT]) ?_
    refine al_end rfl ?_
    refine then_normal ?_
    refine aw_seq ?_
    refine aw_region ?_
    refine zst (op_assign_const (by rfl)) rfl (by dsimp only [zS, zN, zH, zT]) ?_
    refine al_end rfl ?_
    refine then_normal ?_
    refine aw_seq ?_
    refine aw_seq ?_
    refine aw_region ?_
    refine zst (by first | exact op_fieldAddr_ptr Try.underlying48 rfl Sz46 (by rfl) (by rfl) | exact op_fieldAddr_elt Try.underlying48 rfl Sz46 (by rfl) (by rfl) (by rfl)) rfl (by dsimp only [zS, zN, zH, zT]) ?_
    refine zst (by first | exact op_load_elt Try.underlying46 (by rfl) (by rfl) (by rfl) | exact op_load_ptr Try.underlying46 (by rfl) (by rfl) (by (try have l1 := lt_nb hb); repeat (first | assumption | exact push_at | exact setB_at push_at | (rw [setB_ne (by simp only [setB_nb, push_nb, ne_eq]; omega)]) | apply push_ne | apply setB_at)) (by rfl)) rfl (by dsimp only [zS, zN, zH, zT]) ?_
    refine zst (op_lenL Try.underlying46 (by first | exact LL.d _ _ | exact LL.own _ _ _ | exact LL.nil _ | assumption)) rfl (by dsimp only [zS, zN, zH, zT]) ?_
    refine zst (op_move_const (by rfl)) rfl (by dsimp only [zS, zN, zH, zT]) ?_
    refine al_end rfl ?_
    refine then_normal ?_
    refine aw_block ?_
    apply aw_loopF (fun n T H => ∃ (j : Nat) (wr : Bool), T = (.un :: .un :: .un :: (.d (.lst 3 ((csP l).map cD))) :: (.d (.lst 15 ((allE l 8).map eD))) :: .un :: (.d (I q)) :: (.d (I m)) :: (.ptr pc 0) :: (.d (I i)) :: (.d (S (idB i))) :: (.d (TF wr)) :: .un :: .un :: .un :: .un :: .un :: .un :: .un :: .un :: .un :: .un :: .un :: .un :: .un :: .un :: .un :: .un :: .un :: .un :: .un :: .un :: .un :: .un :: .un :: (.d (.lst 3 ((csP l).map cD))) :: (.d (I ((csP l).map cD).length)) :: (.d (I m)) :: .un :: .un :: .un :: .un :: .un :: .un :: .un :: .un :: .un :: .un :: .un :: .un :: .un :: .un :: (.d (.lst 3 ((wsP m l).map wD))) :: (.d (I ((wsP m l).map wD).length)) :: (.d (I j)) :: .un :: .un :: .un :: .un :: .un :: .un :: .un :: .un :: .un :: .un :: .un :: .un :: .un :: .un :: .un :: .un :: .un :: .un :: .un :: .un :: .un :: .un :: .un :: .un :: .un :: .un :: .un :: .un :: .un :: .un :: .un :: .un :: .un :: .un :: .un :: .un :: .un :: .un :: .un :: .un :: .un :: .un :: .un :: .un :: .un :: .un :: .un :: .un :: .un :: .un :: .un :: .un :: .un :: .un :: .un :: .un :: .un :: .un :: .un :: .un :: .un :: .un :: .un :: .un :: .un :: .un :: .un :: .un :: .un :: .un :: .un :: .un :: .un :: .un :: .un :: .un :: .un :: .un :: .un :: .un :: .un :: .un :: .un :: .un :: .un :: .un :: .un :: .un :: .un :: .un :: .un :: .un :: .un :: .un :: .un :: .un :: .un :: .un :: .un :: .un :: .un :: .un :: .un :: .un :: .un :: .un :: .un :: .un :: .un :: .un :: .un :: .un :: .un :: .un :: .un :: .un :: .un :: .un :: .un :: .un :: .un :: .un :: .un :: .un :: .un :: .un :: .un :: .un :: .un :: .un :: .un :: .un :: .un :: .un :: .un :: []) ∧ j ≤ (wsP m l).length ∧ n = (wsP m l).length - j ∧ wr = wroteT ((wsP m l).take j) (idB i) ∧ H.blks[pc]? = some ⟨48, [.d (I (cmP l m).seq), .d (I (cmP l m).at_), .d (.lst 3 ((wsP m l).map wD))], false⟩) ((wsP m l).length) (false :: false :: false :: true :: true :: false :: true :: true :: true :: true :: true :: true :: false :: false :: false :: false :: false :: false :: false :: false :: false :: false :: false :: false :: false :: false :: false :: false :: false :: false :: false :: false :: false :: false :: false :: true :: true :: true :: false :: false :: false :: false :: false :: false :: false :: false :: false :: false :: false :: false :: false :: false :: true :: true :: true :: false :: false :: false :: false :: false :: false :: false :: false :: false :: false :: false :: false :: false :: false :: false :: false :: false :: false :: false :: false :: false :: false :: false :: false :: false :: false :: false :: false :: false :: false :: false :: false :: false :: false :: false :: false :: false :: false :: false :: false :: false :: false :: false :: false :: false :: false :: false :: false :: false :: false :: false :: false :: false :: false :: false :: false :: false :: false :: false :: false :: false :: false :: false :: false :: false :: false :: false :: false :: false :: false :: false :: false :: false :: false :: false :: false :: false :: false :: false :: false :: false :: false :: false :: false :: false :: false :: false :: false :: false :: false :: false :: false :: false :: false :: false :: false :: false :: false :: false :: false :: false :: false :: false :: false :: false :: false :: false :: false :: false :: false :: false :: false :: false :: false :: false :: false :: false :: false :: false :: false :: false :: false :: false :: false :: false :: false :: false :: false :: false :: false :: false :: false :: false :: false :: false :: [])
    · (try dsimp only [maskT]); try exact rfl
    · rfl
    · exact ⟨0, _, rfl, by omega, rfl, rfl, (by (try have l1 := lt_nb hb); repeat (first | assumption | exact push_at | exact setB_at push_at | (rw [setB_ne (by simp only [setB_nb, push_nb, ne_eq]; omega)]) | apply push_ne | apply setB_at))⟩
    rintro n T H ⟨j, wr, rfl, hj, rfl, hwr, hb⟩
    refine aw_seq ?_
    refine aw_region ?_
    refine zst (op_ltI (by rfl) (by rfl)) rfl (by dsimp only [zS, zN, zH, zT]) ?_
    refine al_end rfl ?_
    refine then_normal ?_
    refine aw_seq ?_
    refine aw_cond rfl (fun hc6 => ?_) (fun hc6 => ?_)
    ·
     (try simp only [y1, y2, y3, y4, y5, y6, y7, y8, y9, y0, List.length_map] at hc6)
     (try simp only [List.length_map] at hc6)
     have hlt2 : j < (wsP m l).length := by omega
     obtain ⟨w, hw1⟩ : ∃ z0, (wsP m l)[j]? = some z0 := ⟨_, List.getElem?_eq_getElem hlt2⟩
     have hwl : (wsP m l).length ≤ 8 := wsN_len m l 8
     refine aw_skip ?_
     refine then_normal ?_
     refine aw_seq ?_
     refine aw_block ?_
     refine aw_seq ?_
     refine aw_region ?_
     refine zst (op_indexAddr (z := wD w) (cs := [S w.key, S w.val, TF w.gone]) Try.underlying46 Sz51 (LL.d _ _) (by rfl) (by omega) (by rw [List.getElem?_map, show ((j : Nat) : Int).toNat = j from rfl, hw1]; rfl) (by rfl)) rfl (by dsimp only [zS, zN, zH, zT]) ?_
     refine zst (op_load_elts (ds := wC w) Try.underlying51 (by rfl) Sz51 (by rfl) (Nat.le_of_ble_eq_true rfl) (by rfl)) rfl (by dsimp only [zS, zN, zH, zT]) ?_
     refine zst (op_alloc (Zr51) (by rfl)) rfl (by dsimp only [zS, zN, zH, zT]) ?_
     refine zst (op_storeB (vs := [.d (S w.key), .d (S w.val), .d (TF w.gone)]) (b' := ⟨51, [.d (S w.key), .d (S w.val), .d (TF w.gone)], false⟩) (H' := _) Sz51 (by rfl) push_at (by intro h; cases h) (by rfl) (by rfl) (Nat.le_of_ble_eq_true rfl) (by simp [AV.one, DV.one, TF, S, I, BY]) (by rfl) (by rfl) rfl) rfl (by dsimp only [zS, zN, zH, zT]) ?_
     refine al_end rfl ?_
     refine then_normal ?_
     refine aw_seq ?_
     refine aw_region ?_
     refine zst (by first | exact op_fieldAddr_ptr Try.underlying51 rfl Sz9 (by rfl) (by rfl) | exact op_fieldAddr_elt Try.underlying51 rfl Sz9 (by rfl) (by rfl) (by rfl)) rfl (by dsimp only [zS, zN, zH, zT]) ?_
     refine zst (by first | exact op_load_elt Try.underlying9 (by rfl) (by rfl) (by rfl) | exact op_load_ptr Try.underlying9 (by rfl) (by rfl) (by (try have l1 := lt_nb hb); repeat (first | assumption | exact push_at | exact setB_at push_at | (rw [setB_ne (by simp only [setB_nb, push_nb, ne_eq]; omega)]) | apply push_ne | apply setB_at)) (by rfl)) rfl (by dsimp only [zS, zN, zH, zT]) ?_
     refine zst (op_callF Try.func19 (by rfl) (by rfl) (.tmp (by rfl) .nil) (parts_ok _ w.key (wsP_ok m l w (List.mem_of_getElem? hw1)).key_len)) rfl (by dsimp only [zS, zN, zH, zT]) ?_
     refine zst (op_move_tmp (by rfl)) rfl (by dsimp only [zS, zN, zH, zT]) ?_
     refine zst (op_extract (by rfl) (by rfl)) rfl (by dsimp only [zS, zN, zH, zT]) ?_
     refine zst (op_extract (by rfl) (by rfl)) rfl (by dsimp only [zS, zN, zH, zT]) ?_
     refine zst (op_assign_tmp (by rfl)) rfl (by dsimp only [zS, zN, zH, zT]) ?_
     refine zst (op_assign_tmp (by rfl)) rfl (by dsimp only [zS, zN, zH, zT]) ?_
     refine al_end rfl ?_
     refine then_normal ?_
     refine aw_region ?_
     refine zst (op_move_tmp (by rfl)) rfl (by dsimp only [zS, zN, zH, zT]) ?_
     refine zst (op_move_tmp (by rfl)) rfl (by dsimp only [zS, zN, zH, zT]) ?_
     refine al_split 65 rfl (fun hg7 => ?_) (fun hg7 => ?_)
     ·
      (try simp only [y1, y2, y3, y4, y5, y6, y7, y8, y9, y0, List.length_map] at hg7)
      have hwt : wr = true := by simpa using hg7
      apply al_normT
      · (try dsimp only [zS, zN, zH, zT]); try exact rfl
      refine zuw rfl rfl rfl rfl (by dsimp only [zS, zN, zH, zT]) ?_
      refine zuw rfl rfl rfl rfl (by dsimp only [zS, zN, zH, zT]) ?_
      refine zuw rfl rfl rfl rfl (by dsimp only [zS, zN, zH, zT]) ?_
      refine zuw rfl rfl rfl rfl (by dsimp only [zS, zN, zH, zT]) ?_
      refine zun rfl rfl rfl (by dsimp only [zS, zN, zH, zT]) ?_
      refine zun rfl rfl rfl (by dsimp only [zS, zN, zH, zT]) ?_
      refine zun rfl rfl rfl (by dsimp only [zS, zN, zH, zT]) ?_
      refine zun rfl rfl rfl (by dsimp only [zS, zN, zH, zT]) ?_
      refine zun rfl rfl rfl (by dsimp only [zS, zN, zH, zT]) ?_
      refine zuw rfl rfl rfl rfl (by dsimp only [zS, zN, zH, zT]) ?_
      refine zst (op_pick_tt (by rfl) (val_const (by rfl))) rfl (by dsimp only [zS, zN, zH, zT]) ?_
      refine zst (op_assign_tmp (by rfl)) rfl (by dsimp only [zS, zN, zH, zT]) ?_
      refine al_end rfl ?_
      refine inBlock_normal (then_normal ?_)
      refine aw_region ?_
      refine zst (by first | exact op_add (by rfl) (by rfl) (wrap_i64 ⟨by omega, by omega⟩) | exact op_add (by rfl) (by rfl) (by rfl)) rfl (by dsimp only [zS, zN, zH, zT]) ?_
      refine zst (op_move_tmp (by rfl)) rfl (by dsimp only [zS, zN, zH, zT]) ?_
      refine al_end rfl ?_
      apply again_to ((wsP m l).length - (j + 1)) (false :: false :: false :: true :: true :: false :: true :: true :: true :: true :: true :: true :: false :: false :: false :: false :: false :: false :: false :: false :: false :: false :: false :: false :: false :: false :: false :: false :: false :: false :: false :: false :: false :: false :: false :: true :: true :: true :: false :: false :: false :: false :: false :: false :: false :: false :: false :: false :: false :: false :: false :: false :: true :: true :: true :: false :: false :: false :: false :: false :: false :: false :: false :: false :: false :: false :: false :: false :: false :: false :: false :: false :: false :: false :: false :: false :: false :: false :: false :: false :: false :: false :: false :: false :: false :: false :: false :: false :: false :: false :: false :: false :: false :: false :: false :: false :: false :: false :: false :: false :: false :: false :: false :: false :: false :: false :: false :: false :: false :: false :: false :: false :: false :: false :: false :: false :: false :: false :: false :: false :: false :: false :: false :: false :: false :: false :: false :: false :: false :: false :: false :: false :: false :: false :: false :: false :: false :: false :: false :: false :: false :: false :: false :: false :: false :: false :: false :: false :: false :: false :: false :: false :: false :: false :: false :: false :: false :: false :: false :: false :: false :: false :: false :: false :: false :: false :: false :: false :: false :: false :: false :: false :: false :: false :: false :: false :: false :: false :: false :: false :: false :: false :: false :: false :: false :: false :: false :: false :: false :: false :: [])
      · (try dsimp only [maskT]); try exact rfl
      · rfl
      · omega
      exact ⟨j + 1, true, rfl, by omega, rfl, by rw [take_snoc hw1, wroteT_snoc, ← hwr]; rw [hwt]; rfl, (by (try have l1 := lt_nb hb); repeat (first | assumption | exact push_at | exact setB_at push_at | (rw [setB_ne (by simp only [setB_nb, push_nb, ne_eq]; omega)]) | apply push_ne | apply setB_at))⟩
     ·
      (try simp only [y1, y2, y3, y4, y5, y6, y7, y8, y9, y0, List.length_map] at hg7)
      have hwt : wr = false := by simpa using hg7
      apply al_normT
      · (try dsimp only [zS, zN, zH, zT]); try exact rfl
      refine zsw rfl rfl rfl (op_move_tmp (by rfl)) (by dsimp only [zS, zN, zH, zT]) ?_
      refine zsw rfl rfl rfl (op_lenL Try.underlying52 (by first | exact LL.d _ _ | exact LL.own _ _ _ | exact LL.nil _ | assumption)) (by dsimp only [zS, zN, zH, zT]) ?_
      refine zsw rfl rfl rfl (op_eqI (by rfl) (by rfl)) (by dsimp only [zS, zN, zH, zT]) ?_
      refine zsw rfl rfl rfl (op_move_tmp (by rfl)) (by dsimp only [zS, zN, zH, zT]) ?_
      refine al_split 69 rfl (fun hg8 => ?_) (fun hg8 => ?_)
      ·
       (try simp only [y1, y2, y3, y4, y5, y6, y7, y8, y9, y0, List.length_map] at hg8)
       have hl3 : (partsA w.key).length = 3 := by (try simp only [List.length_map] at hg8); omega
       obtain ⟨x0, x1, x2, hp⟩ := len3 hl3
       apply al_normT
       · (try dsimp only [zS, zN, zH, zT]); try exact rfl
       refine zsw rfl rfl rfl (op_move_tmp (by rfl)) (by dsimp only [zS, zN, zH, zT]) ?_
       refine zsw rfl rfl rfl (op_indexAddr (z := S x2) (cs := [S x2]) Try.underlying52 Sz9 (LL.d _ _) (by rfl) (by omega) (by rw [hp]; rfl) (by rfl)) (by dsimp only [zS, zN, zH, zT]) ?_
       refine zsw rfl rfl rfl (op_load_elt Try.underlying9 (by rfl) (by rfl) (by rfl)) (by dsimp only [zS, zN, zH, zT]) ?_
       refine zsw rfl rfl rfl (op_move_tmp (by rfl)) (by dsimp only [zS, zN, zH, zT]) ?_
       refine zsw rfl rfl rfl (op_eqS (by rfl) (by rfl)) (by dsimp only [zS, zN, zH, zT]) ?_
       refine zsw rfl rfl rfl (op_pick_tt (by rfl) (val_tmp (by rfl))) (by dsimp only [zS, zN, zH, zT]) ?_
       refine zst (op_pick_ff (by rfl) (val_tmp (by rfl))) rfl (by dsimp only [zS, zN, zH, zT]) ?_
       refine zst (op_assign_tmp (by rfl)) rfl (by dsimp only [zS, zN, zH, zT]) ?_
       refine al_end rfl ?_
       refine inBlock_normal (then_normal ?_)
       refine aw_region ?_
       refine zst (by first | exact op_add (by rfl) (by rfl) (wrap_i64 ⟨by omega, by omega⟩) | exact op_add (by rfl) (by rfl) (by rfl)) rfl (by dsimp only [zS, zN, zH, zT]) ?_
       refine zst (op_move_tmp (by rfl)) rfl (by dsimp only [zS, zN, zH, zT]) ?_
       refine al_end rfl ?_
       apply again_to ((wsP m l).length - (j + 1)) (false :: false :: false :: true :: true :: false :: true :: true :: true :: true :: true :: true :: false :: false :: false :: false :: false :: false :: false :: false :: false :: false :: false :: false :: false :: false :: false :: false :: false :: false :: false :: false :: false :: false :: false :: true :: true :: true :: false :: false :: false :: false :: false :: false :: false :: false :: false :: false :: false :: false :: false :: false :: true :: true :: true :: false :: false :: false :: false :: false :: false :: false :: false :: false :: false :: false :: false :: false :: false :: false :: false :: false :: false :: false :: false :: false :: false :: false :: false :: false :: false :: false :: false :: false :: false :: false :: false :: false :: false :: false :: false :: false :: false :: false :: false :: false :: false :: false :: false :: false :: false :: false :: false :: false :: false :: false :: false :: false :: false :: false :: false :: false :: false :: false :: false :: false :: false :: false :: false :: false :: false :: false :: false :: false :: false :: false :: false :: false :: false :: false :: false :: false :: false :: false :: false :: false :: false :: false :: false :: false :: false :: false :: false :: false :: false :: false :: false :: false :: false :: false :: false :: false :: false :: false :: false :: false :: false :: false :: false :: false :: false :: false :: false :: false :: false :: false :: false :: false :: false :: false :: false :: false :: false :: false :: false :: false :: false :: false :: false :: false :: false :: false :: false :: false :: false :: false :: false :: false :: false :: false :: [])
       · (try dsimp only [maskT]); try exact rfl
       · rfl
       · omega
       exact ⟨j + 1, (x2 == idB i), rfl, by omega, rfl, by rw [take_snoc hw1, wroteT_snoc, ← hwr]; rw [hwt, wK_at hp]; by_cases h : x2 = idB i <;> simp [h], (by (try have l1 := lt_nb hb); repeat (first | assumption | exact push_at | exact setB_at push_at | (rw [setB_ne (by simp only [setB_nb, push_nb, ne_eq]; omega)]) | apply push_ne | apply setB_at))⟩
      ·
       (try simp only [y1, y2, y3, y4, y5, y6, y7, y8, y9, y0, List.length_map] at hg8)
       have hl3 : ¬ (partsA w.key).length = 3 := by (try simp only [List.length_map] at hg8); omega
       apply al_normT
       · (try dsimp only [zS, zN, zH, zT]); try exact rfl
       refine zuw rfl rfl rfl rfl (by dsimp only [zS, zN, zH, zT]) ?_
       refine zuw rfl rfl rfl rfl (by dsimp only [zS, zN, zH, zT]) ?_
       refine zuw rfl rfl rfl rfl (by dsimp only [zS, zN, zH, zT]) ?_
       refine zuw rfl rfl rfl rfl (by dsimp only [zS, zN, zH, zT]) ?_
       refine zuw rfl rfl rfl rfl (by dsimp only [zS, zN, zH, zT]) ?_
       refine zsw rfl rfl rfl (op_pick_ff (by rfl) (val_const (by rfl))) (by dsimp only [zS, zN, zH, zT]) ?_
       refine zst (op_pick_ff (by rfl) (val_tmp (by rfl))) rfl (by dsimp only [zS, zN, zH, zT]) ?_
       refine zst (op_assign_tmp (by rfl)) rfl (by dsimp only [zS, zN, zH, zT]) ?_
       refine al_end rfl ?_
       refine inBlock_normal (then_normal ?_)
       refine aw_region ?_
       refine zst (by first | exact op_add (by rfl) (by rfl) (wrap_i64 ⟨by omega, by omega⟩) | exact op_add (by rfl) (by rfl) (by rfl)) rfl (by dsimp only [zS, zN, zH, zT]) ?_
       refine zst (op_move_tmp (by rfl)) rfl (by dsimp only [zS, zN, zH, zT]) ?_
       refine al_end rfl ?_
       apply again_to ((wsP m l).length - (j + 1)) (false :: false :: false :: true :: true :: false :: true :: true :: true :: true :: true :: true :: false :: false :: false :: false :: false :: false :: false :: false :: false :: false :: false :: false :: false :: false :: false :: false :: false :: false :: false :: false :: false :: false :: false :: true :: true :: true :: false :: false :: false :: false :: false :: false :: false :: false :: false :: false :: false :: false :: false :: false :: true :: true :: true :: false :: false :: false :: false :: false :: false :: false :: false :: false :: false :: false :: false :: false :: false :: false :: false :: false :: false :: false :: false :: false :: false :: false :: false :: false :: false :: false :: false :: false :: false :: false :: false :: false :: false :: false :: false :: false :: false :: false :: false :: false :: false :: false :: false :: false :: false :: false :: false :: false :: false :: false :: false :: false :: false :: false :: false :: false :: false :: false :: false :: false :: false :: false :: false :: false :: false :: false :: false :: false :: false :: false :: false :: false :: false :: false :: false :: false :: false :: false :: false :: false :: false :: false :: false :: false :: false :: false :: false :: false :: false :: false :: false :: false :: false :: false :: false :: false :: false :: false :: false :: false :: false :: false :: false :: false :: false :: false :: false :: false :: false :: false :: false :: false :: false :: false :: false :: false :: false :: false :: false :: false :: false :: false :: false :: false :: false :: false :: false :: false :: false :: false :: false :: false :: false :: false :: [])
       · (try dsimp only [maskT]); try exact rfl
       · rfl
       · omega
       exact ⟨j + 1, false, rfl, by omega, rfl, by rw [take_snoc hw1, wroteT_snoc, ← hwr]; rw [hwt, wK_len hl3]; rfl, (by (try have l1 := lt_nb hb); repeat (first | assumption | exact push_at | exact setB_at push_at | (rw [setB_ne (by simp only [setB_nb, push_nb, ne_eq]; omega)]) | apply push_ne | apply setB_at))⟩
    ·
     (try simp only [y1, y2, y3, y4, y5, y6, y7, y8, y9, y0, List.length_map] at hc6)
     (try simp only [List.length_map] at hc6)
     have hje : j = (wsP m l).length := by omega
     subst hje
     rw [List.take_length] at hwr
     refine aw_exit ?_
     refine then_exit (again_exit (inBlock_here (then_normal ?_)))
     refine aw_seq ?_
     refine aw_region ?_
     refine zst (op_move_tmp (by rfl)) rfl (by dsimp only [zS, zN, zH, zT]) ?_
     refine zst (op_move_tmp (by rfl)) rfl (by dsimp only [zS, zN, zH, zT]) ?_
     refine zst (op_move_tmp (by rfl)) rfl (by dsimp only [zS, zN, zH, zT]) ?_
     refine zst (op_callF Try.func20 (by rfl) (by rfl) (.tmp (by rfl) (.tmp (by rfl) (.tmp (by rfl) .nil))) (where_ok _ (csP l) m (idB i) (by rw [csP_len]; omega) (by rw [csP_len]; decide) (fun c hc => by obtain ⟨k, _, rfl⟩ := csP_mem hc; exact Nat.le_trans (wsN_len k l 8) (by decide)) (fun c hc w hw => by obtain ⟨k, _, rfl⟩ := csP_mem hc; exact (wsP_good (c := k) (l := l) (n := 8) hw).key_len))) rfl (by dsimp only [zS, zN, zH, zT]) ?_
     refine zst (op_move_tmp (by rfl)) rfl (by dsimp only [zS, zN, zH, zT]) ?_
     refine zst (op_extract (by rfl) (by rfl)) rfl (by dsimp only [zS, zN, zH, zT]) ?_
     refine zst (op_extract (by rfl) (by rfl)) rfl (by dsimp only [zS, zN, zH, zT]) ?_
     refine zst (op_assign_tmp (by rfl)) rfl (by dsimp only [zS, zN, zH, zT]) ?_
     refine zst (op_assign_tmp (by rfl)) rfl (by dsimp only [zS, zN, zH, zT]) ?_
     refine al_end rfl ?_
     refine then_normal ?_
     refine aw_seq ?_
     refine aw_region ?_
     refine zst (op_move_tmp (by rfl)) rfl (by dsimp only [zS, zN, zH, zT]) ?_
     refine zst (op_move_tmp (by rfl)) rfl (by dsimp only [zS, zN, zH, zT]) ?_
     refine zst (op_add (r := ((m + 1 : Nat) : Int)) (by rfl) (by rfl) (wrap_i64 (n := ((m + 1 : Nat) : Int)) ⟨by omega, by omega⟩)) rfl (by dsimp only [zS, zN, zH, zT]) ?_
     refine zst (op_move_tmp (by rfl)) rfl (by dsimp only [zS, zN, zH, zT]) ?_
     refine zst (op_callF Try.func20 (by rfl) (by rfl) (.tmp (by rfl) (.tmp (by rfl) (.tmp (by rfl) .nil))) (where_ok _ (csP l) (m + 1) (idB i) (by rw [csP_len]; omega) (by rw [csP_len]; decide) (fun c hc => by obtain ⟨k, _, rfl⟩ := csP_mem hc; exact Nat.le_trans (wsN_len k l 8) (by decide)) (fun c hc w hw => by obtain ⟨k, _, rfl⟩ := csP_mem hc; exact (wsP_good (c := k) (l := l) (n := 8) hw).key_len))) rfl (by dsimp only [zS, zN, zH, zT]) ?_
     refine zst (op_move_tmp (by rfl)) rfl (by dsimp only [zS, zN, zH, zT]) ?_
     refine zst (op_extract (by rfl) (by rfl)) rfl (by dsimp only [zS, zN, zH, zT]) ?_
     refine zst (op_extract (by rfl) (by rfl)) rfl (by dsimp only [zS, zN, zH, zT]) ?_
     refine zst (op_assign_tmp (by rfl)) rfl (by dsimp only [zS, zN, zH, zT]) ?_
     refine zst (op_assign_tmp (by rfl)) rfl (by dsimp only [zS, zN, zH, zT]) ?_
     refine al_end rfl ?_
     refine then_normal ?_
     apply aw_cutF (fun T H => ∃ (e : Ev), T = (.un :: .un :: .un :: (.d (.lst 3 ((csP l).map cD))) :: (.d (.lst 15 ((allE l 8).map eD))) :: .un :: (.d (I q)) :: (.d (I m)) :: (.ptr pc 0) :: (.d (I i)) :: (.d (S (idB i))) :: .un :: .un :: .un :: .un :: .un :: (.d (S (whereT (csP l) m (idB i)).1)) :: (.d (S (whereT (csP l) m (idB i)).2)) :: (.d (S (whereT (csP l) (m + 1) (idB i)).1)) :: (.d (S (whereT (csP l) (m + 1) (idB i)).2)) :: .un :: .un :: .un :: .un :: .un :: .un :: .un :: .un :: .un :: .un :: .un :: .un :: .un :: .un :: .un :: (.d (.lst 3 ((csP l).map cD))) :: (.d (I ((csP l).map cD).length)) :: (.d (I m)) :: .un :: .un :: .un :: .un :: .un :: .un :: .un :: .un :: .un :: .un :: .un :: .un :: .un :: .un :: .un :: .un :: .un :: .un :: .un :: .un :: .un :: .un :: .un :: .un :: .un :: .un :: .un :: .un :: .un :: .un :: .un :: .un :: .un :: .un :: .un :: .un :: .un :: .un :: .un :: .un :: .un :: .un :: .un :: .un :: .un :: .un :: .un :: .un :: .un :: .un :: .un :: .un :: .un :: .un :: .un :: .un :: .un :: .un :: .un :: .un :: .un :: .un :: .un :: .un :: .un :: .un :: .un :: .un :: .un :: .un :: .un :: .un :: .un :: .un :: .un :: .un :: .un :: .un :: .un :: .un :: .un :: .un :: .un :: .un :: .un :: .un :: .un :: .un :: .un :: .un :: .un :: .un :: .un :: .un :: .un :: .un :: .un :: .un :: .un :: .un :: .un :: .un :: .un :: .un :: .un :: .un :: .un :: .un :: .un :: .un :: .un :: .un :: .un :: .un :: .un :: .un :: .un :: .un :: .un :: .un :: .un :: .un :: .un :: .un :: .un :: .un :: .un :: .un :: .un :: .un :: .un :: .un :: .un :: .un :: .un :: .un :: .un :: .un :: .un :: .un :: .un :: .un :: .un :: .un :: .un :: .un :: .un :: .un :: .un :: .un :: .un :: .un :: []) ∧ ToldE l m i e ∧ H.blks[pc]? = some ⟨48, [.d (I (cmP l m).seq), .d (I (cmP l m).at_), .d (.lst 3 ((wsP m l).map wD))], false⟩)
     ·
      refine aw_seq ?_
      refine aw_region ?_
      refine zst (op_move_tmp (by rfl)) rfl (by dsimp only [zS, zN, zH, zT]) ?_
      refine zst (op_not (by rfl)) rfl (by dsimp only [zS, zN, zH, zT]) ?_
      refine zst (op_move_tmp (by rfl)) rfl (by dsimp only [zS, zN, zH, zT]) ?_
      refine al_split 95 rfl (fun hg9 => ?_) (fun hg9 => ?_)
      ·
       (try simp only [y1, y2, y3, y4, y5, y6, y7, y8, y9, y0, List.length_map] at hg9)
       have hwf : wr = false := by simpa using hg9
       apply al_normT
       · (try dsimp only [zS, zN, zH, zT]); try exact rfl
       refine zuw rfl rfl rfl rfl (by dsimp only [zS, zN, zH, zT]) ?_
       refine zuw rfl rfl rfl rfl (by dsimp only [zS, zN, zH, zT]) ?_
       refine zuw rfl rfl rfl rfl (by dsimp only [zS, zN, zH, zT]) ?_
       refine zuw rfl rfl rfl rfl (by dsimp only [zS, zN, zH, zT]) ?_
       refine zun rfl rfl rfl (by dsimp only [zS, zN, zH, zT]) ?_
       refine zun rfl rfl rfl (by dsimp only [zS, zN, zH, zT]) ?_
       refine zun rfl rfl rfl (by dsimp only [zS, zN, zH, zT]) ?_
       refine zuw rfl rfl rfl rfl (by dsimp only [zS, zN, zH, zT]) ?_
       refine zst (op_pick_tt (by rfl) (val_const (by rfl))) rfl (by dsimp only [zS, zN, zH, zT]) ?_
       refine al_end rfl ?_
       refine then_normal ?_
       refine aw_cond rfl (fun _ => ?_) (fun h => by cases h)
       refine aw_exit ?_
       refine cut_exit (inBlock_here (then_normal ?_))
       refine aw_region ?_
       refine zst (op_move_tmp (by rfl)) rfl (by dsimp only [zS, zN, zH, zT]) ?_
       refine zst (by first | exact op_add (by rfl) (by rfl) (wrap_i64 ⟨by omega, by omega⟩) | exact op_add (by rfl) (by rfl) (by rfl)) rfl (by dsimp only [zS, zN, zH, zT]) ?_
       refine zst (op_assign_tmp (by rfl)) rfl (by dsimp only [zS, zN, zH, zT]) ?_
       refine al_end rfl ?_
       apply again_to (4 - (i + 1)) (false :: false :: false :: true :: true :: false :: true :: true :: true :: true :: false :: false :: false :: false :: false :: false :: false :: false :: false :: false :: false :: false :: false :: false :: false :: false :: false :: false :: false :: false :: false :: false :: false :: false :: false :: true :: true :: true :: false :: false :: false :: false :: false :: false :: false :: false :: false :: false :: false :: false :: false :: false :: false :: false :: false :: false :: false :: false :: false :: false :: false :: false :: false :: false :: false :: false :: false :: false :: false :: false :: false :: false :: false :: false :: false :: false :: false :: false :: false :: false :: false :: false :: false :: false :: false :: false :: false :: false :: false :: false :: false :: false :: false :: false :: false :: false :: false :: false :: false :: false :: false :: false :: false :: false :: false :: false :: false :: false :: false :: false :: false :: false :: false :: false :: false :: false :: false :: false :: false :: false :: false :: false :: false :: false :: false :: false :: false :: false :: false :: false :: false :: false :: false :: false :: false :: false :: false :: false :: false :: false :: false :: false :: false :: false :: false :: false :: false :: false :: false :: false :: false :: false :: false :: false :: false :: false :: false :: false :: false :: false :: false :: false :: false :: false :: false :: false :: false :: false :: false :: false :: false :: false :: false :: false :: false :: false :: false :: false :: false :: false :: false :: false :: false :: false :: false :: false :: false :: false :: false :: false :: [])
       · (try dsimp only [maskT]); try exact rfl
       · rfl
       · omega
       exact ⟨i + 1, _, _, rfl, by omega, rfl, by rw [preE_none hi4 (untold hm8 (.inl (hwr.symm.trans hwf)))]; exact hq, (by (try have l1 := lt_nb hb); repeat (first | assumption | exact push_at | exact setB_at push_at | (rw [setB_ne (by simp only [setB_nb, push_nb, ne_eq]; omega)]) | apply push_ne | apply setB_at))⟩
      ·
       (try simp only [y1, y2, y3, y4, y5, y6, y7, y8, y9, y0, List.length_map] at hg9)
       have hwt : wr = true := by simpa using hg9
       apply al_normT
       · (try dsimp only [zS, zN, zH, zT]); try exact rfl
       refine zsw rfl rfl rfl (op_move_tmp (by rfl)) (by dsimp only [zS, zN, zH, zT]) ?_
       refine zsw rfl rfl rfl (op_move_tmp (by rfl)) (by dsimp only [zS, zN, zH, zT]) ?_
       refine zsw rfl rfl rfl (op_eqS (by rfl) (by rfl)) (by dsimp only [zS, zN, zH, zT]) ?_
       refine zsw rfl rfl rfl (op_move_tmp (by rfl)) (by dsimp only [zS, zN, zH, zT]) ?_
       refine al_split 99 rfl (fun hg11 => ?_) (fun hg11 => ?_)
       ·
        (try simp only [y1, y2, y3, y4, y5, y6, y7, y8, y9, y0, List.length_map] at hg11)
        have hq1 : (whereT (csP l) m (idB i)).1 = (whereT (csP l) (m + 1) (idB i)).1 := by simpa using hg11
        apply al_normT
        · (try dsimp only [zS, zN, zH, zT]); try exact rfl
        refine zsw rfl rfl rfl (op_move_tmp (by rfl)) (by dsimp only [zS, zN, zH, zT]) ?_
        refine zsw rfl rfl rfl (op_move_tmp (by rfl)) (by dsimp only [zS, zN, zH, zT]) ?_
        refine zsw rfl rfl rfl (op_eqS (by rfl) (by rfl)) (by dsimp only [zS, zN, zH, zT]) ?_
        refine zsw rfl rfl rfl (op_pick_tt (by rfl) (val_tmp (by rfl))) (by dsimp only [zS, zN, zH, zT]) ?_
        refine zst (op_pick_ff (by rfl) (val_tmp (by rfl))) rfl (by dsimp only [zS, zN, zH, zT]) ?_
        refine al_end rfl ?_
        refine then_normal ?_
        refine aw_cond rfl (fun hc12 => ?_) (fun hc12 => ?_)
        ·
         (try simp only [y1, y2, y3, y4, y5, y6, y7, y8, y9, y0, List.length_map] at hc12)
         have hq2 : (whereT (csP l) m (idB i)).2 = (whereT (csP l) (m + 1) (idB i)).2 := by simpa using hc12
         refine aw_exit ?_
         refine cut_exit (inBlock_here (then_normal ?_))
         refine aw_region ?_
         refine zst (op_move_tmp (by rfl)) rfl (by dsimp only [zS, zN, zH, zT]) ?_
         refine zst (by first | exact op_add (by rfl) (by rfl) (wrap_i64 ⟨by omega, by omega⟩) | exact op_add (by rfl) (by rfl) (by rfl)) rfl (by dsimp only [zS, zN, zH, zT]) ?_
         refine zst (op_assign_tmp (by rfl)) rfl (by dsimp only [zS, zN, zH, zT]) ?_
         refine al_end rfl ?_
         apply again_to (4 - (i + 1)) (false :: false :: false :: true :: true :: false :: true :: true :: true :: true :: false :: false :: false :: false :: false :: false :: false :: false :: false :: false :: false :: false :: false :: false :: false :: false :: false :: false :: false :: false :: false :: false :: false :: false :: false :: true :: true :: true :: false :: false :: false :: false :: false :: false :: false :: false :: false :: false :: false :: false :: false :: false :: false :: false :: false :: false :: false :: false :: false :: false :: false :: false :: false :: false :: false :: false :: false :: false :: false :: false :: false :: false :: false :: false :: false :: false :: false :: false :: false :: false :: false :: false :: false :: false :: false :: false :: false :: false :: false :: false :: false :: false :: false :: false :: false :: false :: false :: false :: false :: false :: false :: false :: false :: false :: false :: false :: false :: false :: false :: false :: false :: false :: false :: false :: false :: false :: false :: false :: false :: false :: false :: false :: false :: false :: false :: false :: false :: false :: false :: false :: false :: false :: false :: false :: false :: false :: false :: false :: false :: false :: false :: false :: false :: false :: false :: false :: false :: false :: false :: false :: false :: false :: false :: false :: false :: false :: false :: false :: false :: false :: false :: false :: false :: false :: false :: false :: false :: false :: false :: false :: false :: false :: false :: false :: false :: false :: false :: false :: false :: false :: false :: false :: false :: false :: false :: false :: false :: false :: false :: false :: [])
         · (try dsimp only [maskT]); try exact rfl
         · rfl
         · omega
         exact ⟨i + 1, _, _, rfl, by omega, rfl, by rw [preE_none hi4 (untold hm8 (.inr (Prod.ext hq1 hq2)))]; exact hq, (by (try have l1 := lt_nb hb); repeat (first | assumption | exact push_at | exact setB_at push_at | (rw [setB_ne (by simp only [setB_nb, push_nb, ne_eq]; omega)]) | apply push_ne | apply setB_at))⟩
        ·
         (try simp only [y1, y2, y3, y4, y5, y6, y7, y8, y9, y0, List.length_map] at hc12)
         have hq2 : ¬ (whereT (csP l) m (idB i)).2 = (whereT (csP l) (m + 1) (idB i)).2 := by simpa using hc12
         refine aw_skip ?_
         obtain ⟨e, ht⟩ := told hm8 (hwr.symm.trans hwt) (fun h => hq2 (by rw [h]))
         apply cut_to (false :: false :: false :: true :: true :: false :: true :: true :: true :: true :: true :: false :: false :: false :: false :: false :: true :: true :: true :: true :: false :: false :: false :: false :: false :: false :: false :: false :: false :: false :: false :: false :: false :: false :: false :: true :: true :: true :: false :: false :: false :: false :: false :: false :: false :: false :: false :: false :: false :: false :: false :: false :: false :: false :: false :: false :: false :: false :: false :: false :: false :: false :: false :: false :: false :: false :: false :: false :: false :: false :: false :: false :: false :: false :: false :: false :: false :: false :: false :: false :: false :: false :: false :: false :: false :: false :: false :: false :: false :: false :: false :: false :: false :: false :: false :: false :: false :: false :: false :: false :: false :: false :: false :: false :: false :: false :: false :: false :: false :: false :: false :: false :: false :: false :: false :: false :: false :: false :: false :: false :: false :: false :: false :: false :: false :: false :: false :: false :: false :: false :: false :: false :: false :: false :: false :: false :: false :: false :: false :: false :: false :: false :: false :: false :: false :: false :: false :: false :: false :: false :: false :: false :: false :: false :: false :: false :: false :: false :: false :: false :: false :: false :: false :: false :: false :: false :: false :: false :: false :: false :: false :: false :: false :: false :: false :: false :: false :: false :: false :: false :: false :: false :: false :: false :: false :: false :: false :: false :: false :: false :: [])
         · (try dsimp only [maskT]); try exact rfl
         · rfl
         exact ⟨e, rfl, ht, (by (try have l1 := lt_nb hb); repeat (first | assumption | exact push_at | exact setB_at push_at | (rw [setB_ne (by simp only [setB_nb, push_nb, ne_eq]; omega)]) | apply push_ne | apply setB_at))⟩
       ·
        (try simp only [y1, y2, y3, y4, y5, y6, y7, y8, y9, y0, List.length_map] at hg11)
        have hq1 : ¬ (whereT (csP l) m (idB i)).1 = (whereT (csP l) (m + 1) (idB i)).1 := by simpa using hg11
        apply al_normT
        · (try dsimp only [zS, zN, zH, zT]); try exact rfl
        refine zuw rfl rfl rfl rfl (by dsimp only [zS, zN, zH, zT]) ?_
        refine zuw rfl rfl rfl rfl (by dsimp only [zS, zN, zH, zT]) ?_
        refine zuw rfl rfl rfl rfl (by dsimp only [zS, zN, zH, zT]) ?_
        refine zsw rfl rfl rfl (op_pick_ff (by rfl) (val_const (by rfl))) (by dsimp only [zS, zN, zH, zT]) ?_
        refine zst (op_pick_ff (by rfl) (val_tmp (by rfl))) rfl (by dsimp only [zS, zN, zH, zT]) ?_
        refine al_end rfl ?_
        refine then_normal ?_
        refine aw_cond rfl (fun h => by cases h) (fun _ => ?_)
        refine aw_skip ?_
        obtain ⟨e, ht⟩ := told hm8 (hwr.symm.trans hwt) (fun h => hq1 (by rw [h]))
        apply cut_to (false :: false :: false :: true :: true :: false :: true :: true :: true :: true :: true :: false :: false :: false :: false :: false :: true :: true :: true :: true :: false :: false :: false :: false :: false :: false :: false :: false :: false :: false :: false :: false :: false :: false :: false :: true :: true :: true :: false :: false :: false :: false :: false :: false :: false :: false :: false :: false :: false :: false :: false :: false :: false :: false :: false :: false :: false :: false :: false :: false :: false :: false :: false :: false :: false :: false :: false :: false :: false :: false :: false :: false :: false :: false :: false :: false :: false :: false :: false :: false :: false :: false :: false :: false :: false :: false :: false :: false :: false :: false :: false :: false :: false :: false :: false :: false :: false :: false :: false :: false :: false :: false :: false :: false :: false :: false :: false :: false :: false :: false :: false :: false :: false :: false :: false :: false :: false :: false :: false :: false :: false :: false :: false :: false :: false :: false :: false :: false :: false :: false :: false :: false :: false :: false :: false :: false :: false :: false :: false :: false :: false :: false :: false :: false :: false :: false :: false :: false :: false :: false :: false :: false :: false :: false :: false :: false :: false :: false :: false :: false :: false :: false :: false :: false :: false :: false :: false :: false :: false :: false :: false :: false :: false :: false :: false :: false :: false :: false :: false :: false :: false :: false :: false :: false :: false :: false :: false :: false :: false :: false :: [])
        · (try dsimp only [maskT]); try exact rfl
        · rfl
        exact ⟨e, rfl, ht, (by (try have l1 := lt_nb hb); repeat (first | assumption | exact push_at | exact setB_at push_at | (rw [setB_ne (by simp only [setB_nb, push_nb, ne_eq]; omega)]) | apply push_ne | apply setB_at))⟩
     rintro T H ⟨e, rfl, ht, hb⟩
     have he1 := slot_at hm8 hi4 ht.slot
     rw [← hq] at he1
     have hql := (List.getElem?_eq_some_iff.1 he1).1
     have hal := allE_len l 8
     refine aw_seq ?_
     refine aw_seq ?_
     refine aw_region ?_
     refine zst (op_move_tmp (by rfl)) rfl (by dsimp only [zS, zN, zH, zT]) ?_
     refine zst (op_move_tmp (by rfl)) rfl (by dsimp only [zS, zN, zH, zT]) ?_
     refine zst (op_lenL Try.underlying42 (by first | exact LL.d _ _ | exact LL.own _ _ _ | exact LL.nil _ | assumption)) rfl (by dsimp only [zS, zN, zH, zT]) ?_
     refine zst (op_geI (by rfl) (by rfl)) rfl (by dsimp only [zS, zN, zH, zT]) ?_
     refine al_end rfl ?_
     refine then_normal ?_
     refine aw_cond rfl (fun hc14 => ?_) (fun hc14 => ?_)
     ·
      (try simp only [y1, y2, y3, y4, y5, y6, y7, y8, y9, y0, List.length_map] at hc14)
      exact absurd hc14 (by (try simp only [List.length_map]); omega)
     ·
      (try simp only [y1, y2, y3, y4, y5, y6, y7, y8, y9, y0, List.length_map] at hc14)
      refine aw_skip ?_
      refine then_normal ?_
      refine aw_seq ?_
      refine aw_region ?_
      refine zst (op_move_tmp (by rfl)) rfl (by dsimp only [zS, zN, zH, zT]) ?_
      refine zst (op_move_tmp (by rfl)) rfl (by dsimp only [zS, zN, zH, zT]) ?_
      refine zst (op_indexAddr (z := eD e) (cs := [I e.seq, I e.at_, S e.id, S e.fr, S e.to, S e.old.id, S e.old.body, I e.old.ready, I e.old.count, S e.old.token, S e.new.id, S e.new.body, I e.new.ready, I e.new.count, S e.new.token]) Try.underlying42 Sz60 (LL.d _ _) (by rfl) (by omega) (by rw [List.getElem?_map, show ((q : Nat) : Int).toNat = q from rfl, he1]; rfl) (by rfl)) rfl (by dsimp only [zS, zN, zH, zT]) ?_
      refine zst (op_load_elts (ds := eC e) Try.underlying60 (by rfl) Sz60 (by rfl) (Nat.le_of_ble_eq_true rfl) (by rfl)) rfl (by dsimp only [zS, zN, zH, zT]) ?_
      refine zst (op_alloc (Zr60) (by rfl)) rfl (by dsimp only [zS, zN, zH, zT]) ?_
      refine zst (op_storeB (vs := [.d (I e.seq), .d (I e.at_), .d (S e.id), .d (S e.fr), .d (S e.to), .d (S e.old.id), .d (S e.old.body), .d (I e.old.ready), .d (I e.old.count), .d (S e.old.token), .d (S e.new.id), .d (S e.new.body), .d (I e.new.ready), .d (I e.new.count), .d (S e.new.token)]) (b' := ⟨60, [.d (I e.seq), .d (I e.at_), .d (S e.id), .d (S e.fr), .d (S e.to), .d (S e.old.id), .d (S e.old.body), .d (I e.old.ready), .d (I e.old.count), .d (S e.old.token), .d (S e.new.id), .d (S e.new.body), .d (I e.new.ready), .d (I e.new.count), .d (S e.new.token)], false⟩) (H' := _) Sz60 (by rfl) push_at (by intro h; cases h) (by rfl) (by rfl) (Nat.le_of_ble_eq_true rfl) (by simp [AV.one, DV.one, TF, S, I, BY]) (by rfl) (by rfl) rfl) rfl (by dsimp only [zS, zN, zH, zT]) ?_
      refine al_end rfl ?_
      refine then_normal ?_
      refine aw_seq ?_
      refine aw_region ?_
      refine zst (op_move_tmp (by rfl)) rfl (by dsimp only [zS, zN, zH, zT]) ?_
      refine zst (op_add (r := ((q + 1 : Nat) : Int)) (by rfl) (by rfl) (wrap_i64 (n := ((q + 1 : Nat) : Int)) ⟨by omega, by omega⟩)) rfl (by dsimp only [zS, zN, zH, zT]) ?_
      refine zst (op_assign_tmp (by rfl)) rfl (by dsimp only [zS, zN, zH, zT]) ?_
      refine al_end rfl ?_
      refine then_normal ?_
      refine aw_seq ?_
      refine aw_seq ?_
      refine aw_region ?_
      refine zst (by first | exact op_fieldAddr_ptr Try.underlying60 rfl Sz3 (by rfl) (by rfl) | exact op_fieldAddr_elt Try.underlying60 rfl Sz3 (by rfl) (by rfl) (by rfl)) rfl (by dsimp only [zS, zN, zH, zT]) ?_
      refine zst (by first | exact op_load_elt Try.underlying3 (by rfl) (by rfl) (by rfl) | exact op_load_ptr Try.underlying3 (by rfl) (by rfl) (by (try have l1 := lt_nb hb); repeat (first | assumption | exact push_at | exact setB_at push_at | (rw [setB_ne (by simp only [setB_nb, push_nb, ne_eq]; omega)]) | apply push_ne | apply setB_at)) (by rfl)) rfl (by dsimp only [zS, zN, zH, zT]) ?_
      refine zst (by first | exact op_fieldAddr_ptr Try.underlying48 rfl Sz3 (by rfl) (by rfl) | exact op_fieldAddr_elt Try.underlying48 rfl Sz3 (by rfl) (by rfl) (by rfl)) rfl (by dsimp only [zS, zN, zH, zT]) ?_
      refine zst (by first | exact op_load_elt Try.underlying3 (by rfl) (by rfl) (by rfl) | exact op_load_ptr Try.underlying3 (by rfl) (by rfl) (by (try have l1 := lt_nb hb); repeat (first | assumption | exact push_at | exact setB_at push_at | (rw [setB_ne (by simp only [setB_nb, push_nb, ne_eq]; omega)]) | apply push_ne | apply setB_at)) (by rfl)) rfl (by dsimp only [zS, zN, zH, zT]) ?_
      refine zst (op_neI (by rfl) (by rfl)) rfl (by dsimp only [zS, zN, zH, zT]) ?_
      refine zst (op_move_tmp (by rfl)) rfl (by dsimp only [zS, zN, zH, zT]) ?_
      refine al_split 120 rfl (fun hg15 => ?_) (fun hg15 => ?_)
      ·
       (try simp only [y1, y2, y3, y4, y5, y6, y7, y8, y9, y0, List.length_map] at hg15)
       apply al_normT
       · (try dsimp only [zS, zN, zH, zT]); try exact rfl
       exact absurd ht.seq hg15
      ·
       (try simp only [y1, y2, y3, y4, y5, y6, y7, y8, y9, y0, List.length_map] at hg15)
       apply al_normT
       · (try dsimp only [zS, zN, zH, zT]); try exact rfl
       refine zsw rfl rfl rfl (by first | exact op_fieldAddr_ptr Try.underlying60 rfl Sz3 (by rfl) (by rfl) | exact op_fieldAddr_elt Try.underlying60 rfl Sz3 (by rfl) (by rfl) (by rfl)) (by dsimp only [zS, zN, zH, zT]) ?_
       refine zsw rfl rfl rfl (by first | exact op_load_elt Try.underlying3 (by rfl) (by rfl) (by rfl) | exact op_load_ptr Try.underlying3 (by rfl) (by rfl) (by (try have l1 := lt_nb hb); repeat (first | assumption | exact push_at | exact setB_at push_at | (rw [setB_ne (by simp only [setB_nb, push_nb, ne_eq]; omega)]) | apply push_ne | apply setB_at)) (by rfl)) (by dsimp only [zS, zN, zH, zT]) ?_
       refine zsw rfl rfl rfl (by first | exact op_fieldAddr_ptr Try.underlying48 rfl Sz3 (by rfl) (by rfl) | exact op_fieldAddr_elt Try.underlying48 rfl Sz3 (by rfl) (by rfl) (by rfl)) (by dsimp only [zS, zN, zH, zT]) ?_
       refine zsw rfl rfl rfl (by first | exact op_load_elt Try.underlying3 (by rfl) (by rfl) (by rfl) | exact op_load_ptr Try.underlying3 (by rfl) (by rfl) (by (try have l1 := lt_nb hb); repeat (first | assumption | exact push_at | exact setB_at push_at | (rw [setB_ne (by simp only [setB_nb, push_nb, ne_eq]; omega)]) | apply push_ne | apply setB_at)) (by rfl)) (by dsimp only [zS, zN, zH, zT]) ?_
       refine zsw rfl rfl rfl (op_neI (by rfl) (by rfl)) (by dsimp only [zS, zN, zH, zT]) ?_
       refine zst (op_pick_ff (by rfl) (val_tmp (by rfl))) rfl (by dsimp only [zS, zN, zH, zT]) ?_
       refine zst (op_move_tmp (by rfl)) rfl (by dsimp only [zS, zN, zH, zT]) ?_
       refine al_split 127 rfl (fun hg16 => ?_) (fun hg16 => ?_)
       ·
        (try simp only [y1, y2, y3, y4, y5, y6, y7, y8, y9, y0, List.length_map] at hg16)
        apply al_normT
        · (try dsimp only [zS, zN, zH, zT]); try exact rfl
        exact absurd ht.at_ hg16
       ·
        (try simp only [y1, y2, y3, y4, y5, y6, y7, y8, y9, y0, List.length_map] at hg16)
        apply al_normT
        · (try dsimp only [zS, zN, zH, zT]); try exact rfl
        refine zsw rfl rfl rfl (by first | exact op_fieldAddr_ptr Try.underlying60 rfl Sz9 (by rfl) (by rfl) | exact op_fieldAddr_elt Try.underlying60 rfl Sz9 (by rfl) (by rfl) (by rfl)) (by dsimp only [zS, zN, zH, zT]) ?_
        refine zsw rfl rfl rfl (by first | exact op_load_elt Try.underlying9 (by rfl) (by rfl) (by rfl) | exact op_load_ptr Try.underlying9 (by rfl) (by rfl) (by (try have l1 := lt_nb hb); repeat (first | assumption | exact push_at | exact setB_at push_at | (rw [setB_ne (by simp only [setB_nb, push_nb, ne_eq]; omega)]) | apply push_ne | apply setB_at)) (by rfl)) (by dsimp only [zS, zN, zH, zT]) ?_
        refine zsw rfl rfl rfl (op_move_tmp (by rfl)) (by dsimp only [zS, zN, zH, zT]) ?_
        refine zsw rfl rfl rfl (op_neS (by rfl) (by rfl)) (by dsimp only [zS, zN, zH, zT]) ?_
        refine zst (op_pick_ff (by rfl) (val_tmp (by rfl))) rfl (by dsimp only [zS, zN, zH, zT]) ?_
        refine zst (op_move_tmp (by rfl)) rfl (by dsimp only [zS, zN, zH, zT]) ?_
        refine al_split 133 rfl (fun hg17 => ?_) (fun hg17 => ?_)
        ·
         (try simp only [y1, y2, y3, y4, y5, y6, y7, y8, y9, y0, List.length_map] at hg17)
         apply al_normT
         · (try dsimp only [zS, zN, zH, zT]); try exact rfl
         exact absurd ht.id hg17
        ·
         (try simp only [y1, y2, y3, y4, y5, y6, y7, y8, y9, y0, List.length_map] at hg17)
         apply al_normT
         · (try dsimp only [zS, zN, zH, zT]); try exact rfl
         refine zsw rfl rfl rfl (by first | exact op_fieldAddr_ptr Try.underlying60 rfl Sz9 (by rfl) (by rfl) | exact op_fieldAddr_elt Try.underlying60 rfl Sz9 (by rfl) (by rfl) (by rfl)) (by dsimp only [zS, zN, zH, zT]) ?_
         refine zsw rfl rfl rfl (by first | exact op_load_elt Try.underlying9 (by rfl) (by rfl) (by rfl) | exact op_load_ptr Try.underlying9 (by rfl) (by rfl) (by (try have l1 := lt_nb hb); repeat (first | assumption | exact push_at | exact setB_at push_at | (rw [setB_ne (by simp only [setB_nb, push_nb, ne_eq]; omega)]) | apply push_ne | apply setB_at)) (by rfl)) (by dsimp only [zS, zN, zH, zT]) ?_
         refine zsw rfl rfl rfl (op_move_tmp (by rfl)) (by dsimp only [zS, zN, zH, zT]) ?_
         refine zsw rfl rfl rfl (op_neS (by rfl) (by rfl)) (by dsimp only [zS, zN, zH, zT]) ?_
         refine zst (op_pick_ff (by rfl) (val_tmp (by rfl))) rfl (by dsimp only [zS, zN, zH, zT]) ?_
         refine zst (op_move_tmp (by rfl)) rfl (by dsimp only [zS, zN, zH, zT]) ?_
         refine al_split 139 rfl (fun hg18 => ?_) (fun hg18 => ?_)
         ·
          (try simp only [y1, y2, y3, y4, y5, y6, y7, y8, y9, y0, List.length_map] at hg18)
          apply al_normT
          · (try dsimp only [zS, zN, zH, zT]); try exact rfl
          exact absurd ht.fr hg18
         ·
          (try simp only [y1, y2, y3, y4, y5, y6, y7, y8, y9, y0, List.length_map] at hg18)
          apply al_normT
          · (try dsimp only [zS, zN, zH, zT]); try exact rfl
          refine zsw rfl rfl rfl (by first | exact op_fieldAddr_ptr Try.underlying60 rfl Sz9 (by rfl) (by rfl) | exact op_fieldAddr_elt Try.underlying60 rfl Sz9 (by rfl) (by rfl) (by rfl)) (by dsimp only [zS, zN, zH, zT]) ?_
          refine zsw rfl rfl rfl (by first | exact op_load_elt Try.underlying9 (by rfl) (by rfl) (by rfl) | exact op_load_ptr Try.underlying9 (by rfl) (by rfl) (by (try have l1 := lt_nb hb); repeat (first | assumption | exact push_at | exact setB_at push_at | (rw [setB_ne (by simp only [setB_nb, push_nb, ne_eq]; omega)]) | apply push_ne | apply setB_at)) (by rfl)) (by dsimp only [zS, zN, zH, zT]) ?_
          refine zsw rfl rfl rfl (op_move_tmp (by rfl)) (by dsimp only [zS, zN, zH, zT]) ?_
          refine zsw rfl rfl rfl (op_neS (by rfl) (by rfl)) (by dsimp only [zS, zN, zH, zT]) ?_
          refine zst (op_pick_ff (by rfl) (val_tmp (by rfl))) rfl (by dsimp only [zS, zN, zH, zT]) ?_
          refine al_end rfl ?_
          refine then_normal ?_
          refine aw_cond rfl (fun hc19 => ?_) (fun hc19 => ?_)
          ·
           (try simp only [y1, y2, y3, y4, y5, y6, y7, y8, y9, y0, List.length_map] at hc19)
           exact absurd ht.to hc19
          ·
           (try simp only [y1, y2, y3, y4, y5, y6, y7, y8, y9, y0, List.length_map] at hc19)
           refine aw_skip ?_
           refine then_normal ?_
           refine aw_seq ?_
           refine aw_region ?_
           refine zst (op_move_tmp (by rfl)) rfl (by dsimp only [zS, zN, zH, zT]) ?_
           refine zst (op_neS (by rfl) (by rfl)) rfl (by dsimp only [zS, zN, zH, zT]) ?_
           refine zst (op_move_tmp (by rfl)) rfl (by dsimp only [zS, zN, zH, zT]) ?_
           refine al_split 147 rfl (fun hg20 => ?_) (fun hg20 => ?_)
           ·
            (try simp only [y1, y2, y3, y4, y5, y6, y7, y8, y9, y0, List.length_map] at hg20)
            have h2 : (whereT (csP l) m (idB i)).1 ≠ [] := by simpa using hg20
            apply al_normT
            · (try dsimp only [zS, zN, zH, zT]); try exact rfl
            refine zsw rfl rfl rfl (by first | exact op_fieldAddr_ptr Try.underlying60 rfl Sz58 (by rfl) (by rfl) | exact op_fieldAddr_elt Try.underlying60 rfl Sz58 (by rfl) (by rfl) (by rfl)) (by dsimp only [zS, zN, zH, zT]) ?_
            refine zsw rfl rfl rfl (op_load_ptrsD (mC e.old) Try.underlying58 (by rfl) Sz58 (by rfl) (by (try have l1 := lt_nb hb); repeat (first | assumption | exact push_at | exact setB_at push_at | (rw [setB_ne (by simp only [setB_nb, push_nb, ne_eq]; omega)]) | apply push_ne | apply setB_at)) (Nat.le_of_ble_eq_true rfl) (by rfl) (mC_one _)) (by dsimp only [zS, zN, zH, zT]) ?_
            refine zsw rfl rfl rfl (op_callF Try.func21 (by rfl) (by rfl) (.tmp (by rfl) .nil) (menc_ok _ e.old ht.bo.1 ht.bo.2.1 ht.bo.2.2)) (by dsimp only [zS, zN, zH, zT]) ?_
            refine zsw rfl rfl rfl (op_move_tmp (by rfl)) (by dsimp only [zS, zN, zH, zT]) ?_
            refine zsw rfl rfl rfl (op_neS (by rfl) (by rfl)) (by dsimp only [zS, zN, zH, zT]) ?_
            refine zst (op_pick_tt (by rfl) (val_tmp (by rfl))) rfl (by dsimp only [zS, zN, zH, zT]) ?_
            refine zst (op_move_tmp (by rfl)) rfl (by dsimp only [zS, zN, zH, zT]) ?_
            refine al_split 154 rfl (fun hg21 => ?_) (fun hg21 => ?_)
            ·
             (try simp only [y1, y2, y3, y4, y5, y6, y7, y8, y9, y0, List.length_map] at hg21)
             apply al_normT
             · (try dsimp only [zS, zN, zH, zT]); try exact rfl
             exact absurd (ht.old h2) (by simpa using hg21)
            ·
             (try simp only [y1, y2, y3, y4, y5, y6, y7, y8, y9, y0, List.length_map] at hg21)
             apply al_normT
             · (try dsimp only [zS, zN, zH, zT]); try exact rfl
             refine zsw rfl rfl rfl (op_move_tmp (by rfl)) (by dsimp only [zS, zN, zH, zT]) ?_
             refine zsw rfl rfl rfl (op_neS (by rfl) (by rfl)) (by dsimp only [zS, zN, zH, zT]) ?_
             refine zsw rfl rfl rfl (op_move_tmp (by rfl)) (by dsimp only [zS, zN, zH, zT]) ?_
             refine al_split 157 rfl (fun hg22 => ?_) (fun hg22 => ?_)
             ·
              (try simp only [y1, y2, y3, y4, y5, y6, y7, y8, y9, y0, List.length_map] at hg22)
              have h12 : (whereT (csP l) (m + 1) (idB i)).1 ≠ [] := by simpa using hg22
              apply al_normT
              · (try dsimp only [zS, zN, zH, zT]); try exact rfl
              refine zsw rfl rfl rfl (by first | exact op_fieldAddr_ptr Try.underlying60 rfl Sz58 (by rfl) (by rfl) | exact op_fieldAddr_elt Try.underlying60 rfl Sz58 (by rfl) (by rfl) (by rfl)) (by dsimp only [zS, zN, zH, zT]) ?_
              refine zsw rfl rfl rfl (op_load_ptrsD (mC e.new) Try.underlying58 (by rfl) Sz58 (by rfl) (by (try have l1 := lt_nb hb); repeat (first | assumption | exact push_at | exact setB_at push_at | (rw [setB_ne (by simp only [setB_nb, push_nb, ne_eq]; omega)]) | apply push_ne | apply setB_at)) (Nat.le_of_ble_eq_true rfl) (by rfl) (mC_one _)) (by dsimp only [zS, zN, zH, zT]) ?_
              refine zsw rfl rfl rfl (op_callF Try.func21 (by rfl) (by rfl) (.tmp (by rfl) .nil) (menc_ok _ e.new ht.bn.1 ht.bn.2.1 ht.bn.2.2)) (by dsimp only [zS, zN, zH, zT]) ?_
              refine zsw rfl rfl rfl (op_move_tmp (by rfl)) (by dsimp only [zS, zN, zH, zT]) ?_
              refine zsw rfl rfl rfl (op_neS (by rfl) (by rfl)) (by dsimp only [zS, zN, zH, zT]) ?_
              refine zsw rfl rfl rfl (op_pick_tt (by rfl) (val_tmp (by rfl))) (by dsimp only [zS, zN, zH, zT]) ?_
              refine zst (op_pick_ff (by rfl) (val_tmp (by rfl))) rfl (by dsimp only [zS, zN, zH, zT]) ?_
              refine zst (op_move_tmp (by rfl)) rfl (by dsimp only [zS, zN, zH, zT]) ?_
              refine al_split 165 rfl (fun hg23 => ?_) (fun hg23 => ?_)
              ·
               (try simp only [y1, y2, y3, y4, y5, y6, y7, y8, y9, y0, List.length_map] at hg23)
               apply al_normT
               · (try dsimp only [zS, zN, zH, zT]); try exact rfl
               exact absurd (ht.new h12) (by simpa using hg23)
              ·
               (try simp only [y1, y2, y3, y4, y5, y6, y7, y8, y9, y0, List.length_map] at hg23)
               apply al_normT
               · (try dsimp only [zS, zN, zH, zT]); try exact rfl
               refine zsw rfl rfl rfl (op_move_tmp (by rfl)) (by dsimp only [zS, zN, zH, zT]) ?_
               refine zsw rfl rfl rfl (op_eqS (by rfl) (by rfl)) (by dsimp only [zS, zN, zH, zT]) ?_
               refine zsw rfl rfl rfl (op_move_tmp (by rfl)) (by dsimp only [zS, zN, zH, zT]) ?_
               refine al_split 168 rfl (fun hg24 => ?_) (fun hg24 => ?_)
               ·
                (try simp only [y1, y2, y3, y4, y5, y6, y7, y8, y9, y0, List.length_map] at hg24)
                have h23 : (whereT (csP l) m (idB i)).1 = [] := by simpa using hg24
                apply al_normT
                · (try dsimp only [zS, zN, zH, zT]); try exact rfl
                refine zsw rfl rfl rfl (by first | exact op_fieldAddr_ptr Try.underlying60 rfl Sz58 (by rfl) (by rfl) | exact op_fieldAddr_elt Try.underlying60 rfl Sz58 (by rfl) (by rfl) (by rfl)) (by dsimp only [zS, zN, zH, zT]) ?_
                refine zsw rfl rfl rfl (op_load_ptrsD (mC e.old) Try.underlying58 (by rfl) Sz58 (by rfl) (by (try have l1 := lt_nb hb); repeat (first | assumption | exact push_at | exact setB_at push_at | (rw [setB_ne (by simp only [setB_nb, push_nb, ne_eq]; omega)]) | apply push_ne | apply setB_at)) (Nat.le_of_ble_eq_true rfl) (by rfl) (mC_one _)) (by dsimp only [zS, zN, zH, zT]) ?_
                refine zsw rfl rfl rfl (op_buildD (pl := [(0, 1), (1, 1), (2, 1), (3, 1), (4, 1)]) (mC M0) Try.underlying58 Zr58 (by kernel_rfl) (by rfl) (by rfl) (by rfl) (mC_one _)) (by dsimp only [zS, zN, zH, zT]) ?_
                refine zsw rfl rfl rfl (op_neM (by rfl) (by rfl)) (by dsimp only [zS, zN, zH, zT]) ?_
                refine zsw rfl rfl rfl (op_pick_tt (by rfl) (val_tmp (by rfl))) (by dsimp only [zS, zN, zH, zT]) ?_
                refine zst (op_pick_ff (by rfl) (val_tmp (by rfl))) rfl (by dsimp only [zS, zN, zH, zT]) ?_
                refine zst (op_move_tmp (by rfl)) rfl (by dsimp only [zS, zN, zH, zT]) ?_
                refine al_split 175 rfl (fun hg25 => ?_) (fun hg25 => ?_)
                ·
                 (try simp only [y1, y2, y3, y4, y5, y6, y7, y8, y9, y0, List.length_map] at hg25)
                 apply al_normT
                 · (try dsimp only [zS, zN, zH, zT]); try exact rfl
                 exact absurd (ht.old0 h23) (by simpa using hg25)
                ·
                 (try simp only [y1, y2, y3, y4, y5, y6, y7, y8, y9, y0, List.length_map] at hg25)
                 apply al_normT
                 · (try dsimp only [zS, zN, zH, zT]); try exact rfl
                 refine zsw rfl rfl rfl (op_move_tmp (by rfl)) (by dsimp only [zS, zN, zH, zT]) ?_
                 refine zsw rfl rfl rfl (op_eqS (by rfl) (by rfl)) (by dsimp only [zS, zN, zH, zT]) ?_
                 refine zsw rfl rfl rfl (op_move_tmp (by rfl)) (by dsimp only [zS, zN, zH, zT]) ?_
                 refine al_split 178 rfl (fun hg26 => ?_) (fun hg26 => ?_)
                 ·
                  (try simp only [y1, y2, y3, y4, y5, y6, y7, y8, y9, y0, List.length_map] at hg26)
                  have h33 : (whereT (csP l) (m + 1) (idB i)).1 = [] := by simpa using hg26
                  apply al_normT
                  · (try dsimp only [zS, zN, zH, zT]); try exact rfl
                  refine zsw rfl rfl rfl (by first | exact op_fieldAddr_ptr Try.underlying60 rfl Sz58 (by rfl) (by rfl) | exact op_fieldAddr_elt Try.underlying60 rfl Sz58 (by rfl) (by rfl) (by rfl)) (by dsimp only [zS, zN, zH, zT]) ?_
                  refine zsw rfl rfl rfl (op_load_ptrsD (mC e.new) Try.underlying58 (by rfl) Sz58 (by rfl) (by (try have l1 := lt_nb hb); repeat (first | assumption | exact push_at | exact setB_at push_at | (rw [setB_ne (by simp only [setB_nb, push_nb, ne_eq]; omega)]) | apply push_ne | apply setB_at)) (Nat.le_of_ble_eq_true rfl) (by rfl) (mC_one _)) (by dsimp only [zS, zN, zH, zT]) ?_
                  refine zsw rfl rfl rfl (op_buildD (pl := [(0, 1), (1, 1), (2, 1), (3, 1), (4, 1)]) (mC M0) Try.underlying58 Zr58 (by kernel_rfl) (by rfl) (by rfl) (by rfl) (mC_one _)) (by dsimp only [zS, zN, zH, zT]) ?_
                  refine zsw rfl rfl rfl (op_neM (by rfl) (by rfl)) (by dsimp only [zS, zN, zH, zT]) ?_
                  refine zsw rfl rfl rfl (op_pick_tt (by rfl) (val_tmp (by rfl))) (by dsimp only [zS, zN, zH, zT]) ?_
                  refine zst (op_pick_ff (by rfl) (val_tmp (by rfl))) rfl (by dsimp only [zS, zN, zH, zT]) ?_
                  refine al_end rfl ?_
                  refine then_normal ?_
                  refine aw_cond rfl (fun hc27 => ?_) (fun hc27 => ?_)
                  ·
                   (try simp only [y1, y2, y3, y4, y5, y6, y7, y8, y9, y0, List.length_map] at hc27)
                   exact absurd (ht.new0 h33) (by simpa using hc27)
                  ·
                   (try simp only [y1, y2, y3, y4, y5, y6, y7, y8, y9, y0, List.length_map] at hc27)
                   refine aw_skip ?_
                   refine inBlock_normal (then_normal ?_)
                   refine aw_region ?_
                   refine zst (op_move_tmp (by rfl)) rfl (by dsimp only [zS, zN, zH, zT]) ?_
                   refine zst (by first | exact op_add (by rfl) (by rfl) (wrap_i64 ⟨by omega, by omega⟩) | exact op_add (by rfl) (by rfl) (by rfl)) rfl (by dsimp only [zS, zN, zH, zT]) ?_
                   refine zst (op_assign_tmp (by rfl)) rfl (by dsimp only [zS, zN, zH, zT]) ?_
                   refine al_end rfl ?_
                   apply again_to (4 - (i + 1)) (false :: false :: false :: true :: true :: false :: true :: true :: true :: true :: false :: false :: false :: false :: false :: false :: false :: false :: false :: false :: false :: false :: false :: false :: false :: false :: false :: false :: false :: false :: false :: false :: false :: false :: false :: true :: true :: true :: false :: false :: false :: false :: false :: false :: false :: false :: false :: false :: false :: false :: false :: false :: false :: false :: false :: false :: false :: false :: false :: false :: false :: false :: false :: false :: false :: false :: false :: false :: false :: false :: false :: false :: false :: false :: false :: false :: false :: false :: false :: false :: false :: false :: false :: false :: false :: false :: false :: false :: false :: false :: false :: false :: false :: false :: false :: false :: false :: false :: false :: false :: false :: false :: false :: false :: false :: false :: false :: false :: false :: false :: false :: false :: false :: false :: false :: false :: false :: false :: false :: false :: false :: false :: false :: false :: false :: false :: false :: false :: false :: false :: false :: false :: false :: false :: false :: false :: false :: false :: false :: false :: false :: false :: false :: false :: false :: false :: false :: false :: false :: false :: false :: false :: false :: false :: false :: false :: false :: false :: false :: false :: false :: false :: false :: false :: false :: false :: false :: false :: false :: false :: false :: false :: false :: false :: false :: false :: false :: false :: false :: false :: false :: false :: false :: false :: false :: false :: false :: false :: false :: false :: [])
                   · (try dsimp only [maskT]); try exact rfl
                   · rfl
                   · omega
                   exact ⟨i + 1, _, _, rfl, by omega, rfl, by rw [preE_some hi4 ht.slot, List.length_append, hq]; rfl, (by (try have l1 := lt_nb hb); repeat (first | assumption | exact push_at | exact setB_at push_at | (rw [setB_ne (by simp only [setB_nb, push_nb, ne_eq]; omega)]) | apply push_ne | apply setB_at))⟩
                 ·
                  (try simp only [y1, y2, y3, y4, y5, y6, y7, y8, y9, y0, List.length_map] at hg26)
                  apply al_normT
                  · (try dsimp only [zS, zN, zH, zT]); try exact rfl
                  refine zuw rfl rfl rfl rfl (by dsimp only [zS, zN, zH, zT]) ?_
                  refine zuw rfl rfl rfl rfl (by dsimp only [zS, zN, zH, zT]) ?_
                  refine zuw rfl rfl rfl rfl (by dsimp only [zS, zN, zH, zT]) ?_
                  refine zuw rfl rfl rfl rfl (by dsimp only [zS, zN, zH, zT]) ?_
                  refine zsw rfl rfl rfl (op_pick_ff (by rfl) (val_const (by rfl))) (by dsimp only [zS, zN, zH, zT]) ?_
                  refine zst (op_pick_ff (by rfl) (val_tmp (by rfl))) rfl (by dsimp only [zS, zN, zH, zT]) ?_
                  refine al_end rfl ?_
                  refine then_normal ?_
                  refine aw_cond rfl (fun h => by cases h) (fun _ => ?_)
                  refine aw_skip ?_
                  refine inBlock_normal (then_normal ?_)
                  refine aw_region ?_
                  refine zst (op_move_tmp (by rfl)) rfl (by dsimp only [zS, zN, zH, zT]) ?_
                  refine zst (by first | exact op_add (by rfl) (by rfl) (wrap_i64 ⟨by omega, by omega⟩) | exact op_add (by rfl) (by rfl) (by rfl)) rfl (by dsimp only [zS, zN, zH, zT]) ?_
                  refine zst (op_assign_tmp (by rfl)) rfl (by dsimp only [zS, zN, zH, zT]) ?_
                  refine al_end rfl ?_
                  apply again_to (4 - (i + 1)) (false :: false :: false :: true :: true :: false :: true :: true :: true :: true :: false :: false :: false :: false :: false :: false :: false :: false :: false :: false :: false :: false :: false :: false :: false :: false :: false :: false :: false :: false :: false :: false :: false :: false :: false :: true :: true :: true :: false :: false :: false :: false :: false :: false :: false :: false :: false :: false :: false :: false :: false :: false :: false :: false :: false :: false :: false :: false :: false :: false :: false :: false :: false :: false :: false :: false :: false :: false :: false :: false :: false :: false :: false :: false :: false :: false :: false :: false :: false :: false :: false :: false :: false :: false :: false :: false :: false :: false :: false :: false :: false :: false :: false :: false :: false :: false :: false :: false :: false :: false :: false :: false :: false :: false :: false :: false :: false :: false :: false :: false :: false :: false :: false :: false :: false :: false :: false :: false :: false :: false :: false :: false :: false :: false :: false :: false :: false :: false :: false :: false :: false :: false :: false :: false :: false :: false :: false :: false :: false :: false :: false :: false :: false :: false :: false :: false :: false :: false :: false :: false :: false :: false :: false :: false :: false :: false :: false :: false :: false :: false :: false :: false :: false :: false :: false :: false :: false :: false :: false :: false :: false :: false :: false :: false :: false :: false :: false :: false :: false :: false :: false :: false :: false :: false :: false :: false :: false :: false :: false :: false :: [])
                  · (try dsimp only [maskT]); try exact rfl
                  · rfl
                  · omega
                  exact ⟨i + 1, _, _, rfl, by omega, rfl, by rw [preE_some hi4 ht.slot, List.length_append, hq]; rfl, (by (try have l1 := lt_nb hb); repeat (first | assumption | exact push_at | exact setB_at push_at | (rw [setB_ne (by simp only [setB_nb, push_nb, ne_eq]; omega)]) | apply push_ne | apply setB_at))⟩
               ·
                (try simp only [y1, y2, y3, y4, y5, y6, y7, y8, y9, y0, List.length_map] at hg24)
                apply al_normT
                · (try dsimp only [zS, zN, zH, zT]); try exact rfl
                refine zuw rfl rfl rfl rfl (by dsimp only [zS, zN, zH, zT]) ?_
                refine zuw rfl rfl rfl rfl (by dsimp only [zS, zN, zH, zT]) ?_
                refine zuw rfl rfl rfl rfl (by dsimp only [zS, zN, zH, zT]) ?_
                refine zuw rfl rfl rfl rfl (by dsimp only [zS, zN, zH, zT]) ?_
                refine zsw rfl rfl rfl (op_pick_ff (by rfl) (val_const (by rfl))) (by dsimp only [zS, zN, zH, zT]) ?_
                refine zst (op_pick_ff (by rfl) (val_tmp (by rfl))) rfl (by dsimp only [zS, zN, zH, zT]) ?_
                refine zst (op_move_tmp (by rfl)) rfl (by dsimp only [zS, zN, zH, zT]) ?_
                refine zsw rfl rfl rfl (op_move_tmp (by rfl)) (by dsimp only [zS, zN, zH, zT]) ?_
                refine zsw rfl rfl rfl (op_eqS (by rfl) (by rfl)) (by dsimp only [zS, zN, zH, zT]) ?_
                refine zsw rfl rfl rfl (op_move_tmp (by rfl)) (by dsimp only [zS, zN, zH, zT]) ?_
                refine al_split 178 rfl (fun hg29 => ?_) (fun hg29 => ?_)
                ·
                 (try simp only [y1, y2, y3, y4, y5, y6, y7, y8, y9, y0, List.length_map] at hg29)
                 have h33 : (whereT (csP l) (m + 1) (idB i)).1 = [] := by simpa using hg29
                 apply al_normT
                 · (try dsimp only [zS, zN, zH, zT]); try exact rfl
                 refine zsw rfl rfl rfl (by first | exact op_fieldAddr_ptr Try.underlying60 rfl Sz58 (by rfl) (by rfl) | exact op_fieldAddr_elt Try.underlying60 rfl Sz58 (by rfl) (by rfl) (by rfl)) (by dsimp only [zS, zN, zH, zT]) ?_
                 refine zsw rfl rfl rfl (op_load_ptrsD (mC e.new) Try.underlying58 (by rfl) Sz58 (by rfl) (by (try have l1 := lt_nb hb); repeat (first | assumption | exact push_at | exact setB_at push_at | (rw [setB_ne (by simp only [setB_nb, push_nb, ne_eq]; omega)]) | apply push_ne | apply setB_at)) (Nat.le_of_ble_eq_true rfl) (by rfl) (mC_one _)) (by dsimp only [zS, zN, zH, zT]) ?_
                 refine zsw rfl rfl rfl (op_buildD (pl := [(0, 1), (1, 1), (2, 1), (3, 1), (4, 1)]) (mC M0) Try.underlying58 Zr58 (by kernel_rfl) (by rfl) (by rfl) (by rfl) (mC_one _)) (by dsimp only [zS, zN, zH, zT]) ?_
                 refine zsw rfl rfl rfl (op_neM (by rfl) (by rfl)) (by dsimp only [zS, zN, zH, zT]) ?_
                 refine zsw rfl rfl rfl (op_pick_tt (by rfl) (val_tmp (by rfl))) (by dsimp only [zS, zN, zH, zT]) ?_
                 refine zst (op_pick_ff (by rfl) (val_tmp (by rfl))) rfl (by dsimp only [zS, zN, zH, zT]) ?_
                 refine al_end rfl ?_
                 refine then_normal ?_
                 refine aw_cond rfl (fun hc30 => ?_) (fun hc30 => ?_)
                 ·
                  (try simp only [y1, y2, y3, y4, y5, y6, y7, y8, y9, y0, List.length_map] at hc30)
                  exact absurd (ht.new0 h33) (by simpa using hc30)
                 ·
                  (try simp only [y1, y2, y3, y4, y5, y6, y7, y8, y9, y0, List.length_map] at hc30)
                  refine aw_skip ?_
                  refine inBlock_normal (then_normal ?_)
                  refine aw_region ?_
                  refine zst (op_move_tmp (by rfl)) rfl (by dsimp only [zS, zN, zH, zT]) ?_
                  refine zst (by first | exact op_add (by rfl) (by rfl) (wrap_i64 ⟨by omega, by omega⟩) | exact op_add (by rfl) (by rfl) (by rfl)) rfl (by dsimp only [zS, zN, zH, zT]) ?_
                  refine zst (op_assign_tmp (by rfl)) rfl (by dsimp only [zS, zN, zH, zT]) ?_
                  refine al_end rfl ?_
                  apply again_to (4 - (i + 1)) (false :: false :: false :: true :: true :: false :: true :: true :: true :: true :: false :: false :: false :: false :: false :: false :: false :: false :: false :: false :: false :: false :: false :: false :: false :: false :: false :: false :: false :: false :: false :: false :: false :: false :: false :: true :: true :: true :: false :: false :: false :: false :: false :: false :: false :: false :: false :: false :: false :: false :: false :: false :: false :: false :: false :: false :: false :: false :: false :: false :: false :: false :: false :: false :: false :: false :: false :: false :: false :: false :: false :: false :: false :: false :: false :: false :: false :: false :: false :: false :: false :: false :: false :: false :: false :: false :: false :: false :: false :: false :: false :: false :: false :: false :: false :: false :: false :: false :: false :: false :: false :: false :: false :: false :: false :: false :: false :: false :: false :: false :: false :: false :: false :: false :: false :: false :: false :: false :: false :: false :: false :: false :: false :: false :: false :: false :: false :: false :: false :: false :: false :: false :: false :: false :: false :: false :: false :: false :: false :: false :: false :: false :: false :: false :: false :: false :: false :: false :: false :: false :: false :: false :: false :: false :: false :: false :: false :: false :: false :: false :: false :: false :: false :: false :: false :: false :: false :: false :: false :: false :: false :: false :: false :: false :: false :: false :: false :: false :: false :: false :: false :: false :: false :: false :: false :: false :: false :: false :: false :: false :: [])
                  · (try dsimp only [maskT]); try exact rfl
                  · rfl
                  · omega
                  exact ⟨i + 1, _, _, rfl, by omega, rfl, by rw [preE_some hi4 ht.slot, List.length_append, hq]; rfl, (by (try have l1 := lt_nb hb); repeat (first | assumption | exact push_at | exact setB_at push_at | (rw [setB_ne (by simp only [setB_nb, push_nb, ne_eq]; omega)]) | apply push_ne | apply setB_at))⟩
                ·
                 (try simp only [y1, y2, y3, y4, y5, y6, y7, y8, y9, y0, List.length_map] at hg29)
                 apply al_normT
                 · (try dsimp only [zS, zN, zH, zT]); try exact rfl
                 refine zuw rfl rfl rfl rfl (by dsimp only [zS, zN, zH, zT]) ?_
                 refine zuw rfl rfl rfl rfl (by dsimp only [zS, zN, zH, zT]) ?_
                 refine zuw rfl rfl rfl rfl (by dsimp only [zS, zN, zH, zT]) ?_
                 refine zuw rfl rfl rfl rfl (by dsimp only [zS, zN, zH, zT]) ?_
                 refine zsw rfl rfl rfl (op_pick_ff (by rfl) (val_const (by rfl))) (by dsimp only [zS, zN, zH, zT]) ?_
                 refine zst (op_pick_ff (by rfl) (val_tmp (by rfl))) rfl (by dsimp only [zS, zN, zH, zT]) ?_
                 refine al_end rfl ?_
                 refine then_normal ?_
                 refine aw_cond rfl (fun h => by cases h) (fun _ => ?_)
                 refine aw_skip ?_
                 refine inBlock_normal (then_normal ?_)
                 refine aw_region ?_
                 refine zst (op_move_tmp (by rfl)) rfl (by dsimp only [zS, zN, zH, zT]) ?_
                 refine zst (by first | exact op_add (by rfl) (by rfl) (wrap_i64 ⟨by omega, by omega⟩) | exact op_add (by rfl) (by rfl) (by rfl)) rfl (by dsimp only [zS, zN, zH, zT]) ?_
                 refine zst (op_assign_tmp (by rfl)) rfl (by dsimp only [zS, zN, zH, zT]) ?_
                 refine al_end rfl ?_
                 apply again_to (4 - (i + 1)) (false :: false :: false :: true :: true :: false :: true :: true :: true :: true :: false :: false :: false :: false :: false :: false :: false :: false :: false :: false :: false :: false :: false :: false :: false :: false :: false :: false :: false :: false :: false :: false :: false :: false :: false :: true :: true :: true :: false :: false :: false :: false :: false :: false :: false :: false :: false :: false :: false :: false :: false :: false :: false :: false :: false :: false :: false :: false :: false :: false :: false :: false :: false :: false :: false :: false :: false :: false :: false :: false :: false :: false :: false :: false :: false :: false :: false :: false :: false :: false :: false :: false :: false :: false :: false :: false :: false :: false :: false :: false :: false :: false :: false :: false :: false :: false :: false :: false :: false :: false :: false :: false :: false :: false :: false :: false :: false :: false :: false :: false :: false :: false :: false :: false :: false :: false :: false :: false :: false :: false :: false :: false :: false :: false :: false :: false :: false :: false :: false :: false :: false :: false :: false :: false :: false :: false :: false :: false :: false :: false :: false :: false :: false :: false :: false :: false :: false :: false :: false :: false :: false :: false :: false :: false :: false :: false :: false :: false :: false :: false :: false :: false :: false :: false :: false :: false :: false :: false :: false :: false :: false :: false :: false :: false :: false :: false :: false :: false :: false :: false :: false :: false :: false :: false :: false :: false :: false :: false :: false :: false :: [])
                 · (try dsimp only [maskT]); try exact rfl
                 · rfl
                 · omega
                 exact ⟨i + 1, _, _, rfl, by omega, rfl, by rw [preE_some hi4 ht.slot, List.length_append, hq]; rfl, (by (try have l1 := lt_nb hb); repeat (first | assumption | exact push_at | exact setB_at push_at | (rw [setB_ne (by simp only [setB_nb, push_nb, ne_eq]; omega)]) | apply push_ne | apply setB_at))⟩
             ·
              (try simp only [y1, y2, y3, y4, y5, y6, y7, y8, y9, y0, List.length_map] at hg22)
              have h12 : ¬ (whereT (csP l) (m + 1) (idB i)).1 ≠ [] := by simpa using hg22
              apply al_normT
              · (try dsimp only [zS, zN, zH, zT]); try exact rfl
              refine zuw rfl rfl rfl rfl (by dsimp only [zS, zN, zH, zT]) ?_
              refine zuw rfl rfl rfl rfl (by dsimp only [zS, zN, zH, zT]) ?_
              refine zuw rfl rfl rfl rfl (by dsimp only [zS, zN, zH, zT]) ?_
              refine zuw rfl rfl rfl rfl (by dsimp only [zS, zN, zH, zT]) ?_
              refine zuw rfl rfl rfl rfl (by dsimp only [zS, zN, zH, zT]) ?_
              refine zsw rfl rfl rfl (op_pick_ff (by rfl) (val_const (by rfl))) (by dsimp only [zS, zN, zH, zT]) ?_
              refine zst (op_pick_ff (by rfl) (val_tmp (by rfl))) rfl (by dsimp only [zS, zN, zH, zT]) ?_
              refine zst (op_move_tmp (by rfl)) rfl (by dsimp only [zS, zN, zH, zT]) ?_
              refine zsw rfl rfl rfl (op_move_tmp (by rfl)) (by dsimp only [zS, zN, zH, zT]) ?_
              refine zsw rfl rfl rfl (op_eqS (by rfl) (by rfl)) (by dsimp only [zS, zN, zH, zT]) ?_
              refine zsw rfl rfl rfl (op_move_tmp (by rfl)) (by dsimp only [zS, zN, zH, zT]) ?_
              refine al_split 168 rfl (fun hg32 => ?_) (fun hg32 => ?_)
              ·
               (try simp only [y1, y2, y3, y4, y5, y6, y7, y8, y9, y0, List.length_map] at hg32)
               have h23 : (whereT (csP l) m (idB i)).1 = [] := by simpa using hg32
               apply al_normT
               · (try dsimp only [zS, zN, zH, zT]); try exact rfl
               refine zsw rfl rfl rfl (by first | exact op_fieldAddr_ptr Try.underlying60 rfl Sz58 (by rfl) (by rfl) | exact op_fieldAddr_elt Try.underlying60 rfl Sz58 (by rfl) (by rfl) (by rfl)) (by dsimp only [zS, zN, zH, zT]) ?_
               refine zsw rfl rfl rfl (op_load_ptrsD (mC e.old) Try.underlying58 (by rfl) Sz58 (by rfl) (by (try have l1 := lt_nb hb); repeat (first | assumption | exact push_at | exact setB_at push_at | (rw [setB_ne (by simp only [setB_nb, push_nb, ne_eq]; omega)]) | apply push_ne | apply setB_at)) (Nat.le_of_ble_eq_true rfl) (by rfl) (mC_one _)) (by dsimp only [zS, zN, zH, zT]) ?_
               refine zsw rfl rfl rfl (op_buildD (pl := [(0, 1), (1, 1), (2, 1), (3, 1), (4, 1)]) (mC M0) Try.underlying58 Zr58 (by kernel_rfl) (by rfl) (by rfl) (by rfl) (mC_one _)) (by dsimp only [zS, zN, zH, zT]) ?_
               refine zsw rfl rfl rfl (op_neM (by rfl) (by rfl)) (by dsimp only [zS, zN, zH, zT]) ?_
               refine zsw rfl rfl rfl (op_pick_tt (by rfl) (val_tmp (by rfl))) (by dsimp only [zS, zN, zH, zT]) ?_
               refine zst (op_pick_ff (by rfl) (val_tmp (by rfl))) rfl (by dsimp only [zS, zN, zH, zT]) ?_
               refine zst (op_move_tmp (by rfl)) rfl (by dsimp only [zS, zN, zH, zT]) ?_
               refine al_split 175 rfl (fun hg33 => ?_) (fun hg33 => ?_)
               ·
                (try simp only [y1, y2, y3, y4, y5, y6, y7, y8, y9, y0, List.length_map] at hg33)
                apply al_normT
                · (try dsimp only [zS, zN, zH, zT]); try exact rfl
                exact absurd (ht.old0 h23) (by simpa using hg33)
               ·
                (try simp only [y1, y2, y3, y4, y5, y6, y7, y8, y9, y0, List.length_map] at hg33)
                apply al_normT
                · (try dsimp only [zS, zN, zH, zT]); try exact rfl
                refine zsw rfl rfl rfl (op_move_tmp (by rfl)) (by dsimp only [zS, zN, zH, zT]) ?_
                refine zsw rfl rfl rfl (op_eqS (by rfl) (by rfl)) (by dsimp only [zS, zN, zH, zT]) ?_
                refine zsw rfl rfl rfl (op_move_tmp (by rfl)) (by dsimp only [zS, zN, zH, zT]) ?_
                refine al_split 178 rfl (fun hg34 => ?_) (fun hg34 => ?_)
                ·
                 (try simp only [y1, y2, y3, y4, y5, y6, y7, y8, y9, y0, List.length_map] at hg34)
                 have h33 : (whereT (csP l) (m + 1) (idB i)).1 = [] := by simpa using hg34
                 apply al_normT
                 · (try dsimp only [zS, zN, zH, zT]); try exact rfl
                 refine zsw rfl rfl rfl (by first | exact op_fieldAddr_ptr Try.underlying60 rfl Sz58 (by rfl) (by rfl) | exact op_fieldAddr_elt Try.underlying60 rfl Sz58 (by rfl) (by rfl) (by rfl)) (by dsimp only [zS, zN, zH, zT]) ?_
                 refine zsw rfl rfl rfl (op_load_ptrsD (mC e.new) Try.underlying58 (by rfl) Sz58 (by rfl) (by (try have l1 := lt_nb hb); repeat (first | assumption | exact push_at | exact setB_at push_at | (rw [setB_ne (by simp only [setB_nb, push_nb, ne_eq]; omega)]) | apply push_ne | apply setB_at)) (Nat.le_of_ble_eq_true rfl) (by rfl) (mC_one _)) (by dsimp only [zS, zN, zH, zT]) ?_
                 refine zsw rfl rfl rfl (op_buildD (pl := [(0, 1), (1, 1), (2, 1), (3, 1), (4, 1)]) (mC M0) Try.underlying58 Zr58 (by kernel_rfl) (by rfl) (by rfl) (by rfl) (mC_one _)) (by dsimp only [zS, zN, zH, zT]) ?_
                 refine zsw rfl rfl rfl (op_neM (by rfl) (by rfl)) (by dsimp only [zS, zN, zH, zT]) ?_
                 refine zsw rfl rfl rfl (op_pick_tt (by rfl) (val_tmp (by rfl))) (by dsimp only [zS, zN, zH, zT]) ?_
                 refine zst (op_pick_ff (by rfl) (val_tmp (by rfl))) rfl (by dsimp only [zS, zN, zH, zT]) ?_
                 refine al_end rfl ?_
                 refine then_normal ?_
                 refine aw_cond rfl (fun hc35 => ?_) (fun hc35 => ?_)
                 ·
                  (try simp only [y1, y2, y3, y4, y5, y6, y7, y8, y9, y0, List.length_map] at hc35)
                  exact absurd (ht.new0 h33) (by simpa using hc35)
                 ·
                  (try simp only [y1, y2, y3, y4, y5, y6, y7, y8, y9, y0, List.length_map] at hc35)
                  refine aw_skip ?_
                  refine inBlock_normal (then_normal ?_)
                  refine aw_region ?_
                  refine zst (op_move_tmp (by rfl)) rfl (by dsimp only [zS, zN, zH, zT]) ?_
                  refine zst (by first | exact op_add (by rfl) (by rfl) (wrap_i64 ⟨by omega, by omega⟩) | exact op_add (by rfl) (by rfl) (by rfl)) rfl (by dsimp only [zS, zN, zH, zT]) ?_
                  refine zst (op_assign_tmp (by rfl)) rfl (by dsimp only [zS, zN, zH, zT]) ?_
                  refine al_end rfl ?_
                  apply again_to (4 - (i + 1)) (false :: false :: false :: true :: true :: false :: true :: true :: true :: true :: false :: false :: false :: false :: false :: false :: false :: false :: false :: false :: false :: false :: false :: false :: false :: false :: false :: false :: false :: false :: false :: false :: false :: false :: false :: true :: true :: true :: false :: false :: false :: false :: false :: false :: false :: false :: false :: false :: false :: false :: false :: false :: false :: false :: false :: false :: false :: false :: false :: false :: false :: false :: false :: false :: false :: false :: false :: false :: false :: false :: false :: false :: false :: false :: false :: false :: false :: false :: false :: false :: false :: false :: false :: false :: false :: false :: false :: false :: false :: false :: false :: false :: false :: false :: false :: false :: false :: false :: false :: false :: false :: false :: false :: false :: false :: false :: false :: false :: false :: false :: false :: false :: false :: false :: false :: false :: false :: false :: false :: false :: false :: false :: false :: false :: false :: false :: false :: false :: false :: false :: false :: false :: false :: false :: false :: false :: false :: false :: false :: false :: false :: false :: false :: false :: false :: false :: false :: false :: false :: false :: false :: false :: false :: false :: false :: false :: false :: false :: false :: false :: false :: false :: false :: false :: false :: false :: false :: false :: false :: false :: false :: false :: false :: false :: false :: false :: false :: false :: false :: false :: false :: false :: false :: false :: false :: false :: false :: false :: false :: false :: [])
                  · (try dsimp only [maskT]); try exact rfl
                  · rfl
                  · omega
                  exact ⟨i + 1, _, _, rfl, by omega, rfl, by rw [preE_some hi4 ht.slot, List.length_append, hq]; rfl, (by (try have l1 := lt_nb hb); repeat (first | assumption | exact push_at | exact setB_at push_at | (rw [setB_ne (by simp only [setB_nb, push_nb, ne_eq]; omega)]) | apply push_ne | apply setB_at))⟩
                ·
                 (try simp only [y1, y2, y3, y4, y5, y6, y7, y8, y9, y0, List.length_map] at hg34)
                 apply al_normT
                 · (try dsimp only [zS, zN, zH, zT]); try exact rfl
                 refine zuw rfl rfl rfl rfl (by dsimp only [zS, zN, zH, zT]) ?_
                 refine zuw rfl rfl rfl rfl (by dsimp only [zS, zN, zH, zT]) ?_
                 refine zuw rfl rfl rfl rfl (by dsimp only [zS, zN, zH, zT]) ?_
                 refine zuw rfl rfl rfl rfl (by dsimp only [zS, zN, zH, zT]) ?_
                 refine zsw rfl rfl rfl (op_pick_ff (by rfl) (val_const (by rfl))) (by dsimp only [zS, zN, zH, zT]) ?_
                 refine zst (op_pick_ff (by rfl) (val_tmp (by rfl))) rfl (by dsimp only [zS, zN, zH, zT]) ?_
                 refine al_end rfl ?_
                 refine then_normal ?_
                 refine aw_cond rfl (fun h => by cases h) (fun _ => ?_)
                 refine aw_skip ?_
                 refine inBlock_normal (then_normal ?_)
                 refine aw_region ?_
                 refine zst (op_move_tmp (by rfl)) rfl (by dsimp only [zS, zN, zH, zT]) ?_
                 refine zst (by first | exact op_add (by rfl) (by rfl) (wrap_i64 ⟨by omega, by omega⟩) | exact op_add (by rfl) (by rfl) (by rfl)) rfl (by dsimp only [zS, zN, zH, zT]) ?_
                 refine zst (op_assign_tmp (by rfl)) rfl (by dsimp only [zS, zN, zH, zT]) ?_
                 refine al_end rfl ?_
                 apply again_to (4 - (i + 1)) (false :: false :: false :: true :: true :: false :: true :: true :: true :: true :: false :: false :: false :: false :: false :: false :: false :: false :: false :: false :: false :: false :: false :: false :: false :: false :: false :: false :: false :: false :: false :: false :: false :: false :: false :: true :: true :: true :: false :: false :: false :: false :: false :: false :: false :: false :: false :: false :: false :: false :: false :: false :: false :: false :: false :: false :: false :: false :: false :: false :: false :: false :: false :: false :: false :: false :: false :: false :: false :: false :: false :: false :: false :: false :: false :: false :: false :: false :: false :: false :: false :: false :: false :: false :: false :: false :: false :: false :: false :: false :: false :: false :: false :: false :: false :: false :: false :: false :: false :: false :: false :: false :: false :: false :: false :: false :: false :: false :: false :: false :: false :: false :: false :: false :: false :: false :: false :: false :: false :: false :: false :: false :: false :: false :: false :: false :: false :: false :: false :: false :: false :: false :: false :: false :: false :: false :: false :: false :: false :: false :: false :: false :: false :: false :: false :: false :: false :: false :: false :: false :: false :: false :: false :: false :: false :: false :: false :: false :: false :: false :: false :: false :: false :: false :: false :: false :: false :: false :: false :: false :: false :: false :: false :: false :: false :: false :: false :: false :: false :: false :: false :: false :: false :: false :: false :: false :: false :: false :: false :: false :: [])
                 · (try dsimp only [maskT]); try exact rfl
                 · rfl
                 · omega
                 exact ⟨i + 1, _, _, rfl, by omega, rfl, by rw [preE_some hi4 ht.slot, List.length_append, hq]; rfl, (by (try have l1 := lt_nb hb); repeat (first | assumption | exact push_at | exact setB_at push_at | (rw [setB_ne (by simp only [setB_nb, push_nb, ne_eq]; omega)]) | apply push_ne | apply setB_at))⟩
              ·
               (try simp only [y1, y2, y3, y4, y5, y6, y7, y8, y9, y0, List.length_map] at hg32)
               apply al_normT
               · (try dsimp only [zS, zN, zH, zT]); try exact rfl
               refine zuw rfl rfl rfl rfl (by dsimp only [zS, zN, zH, zT]) ?_
               refine zuw rfl rfl rfl rfl (by dsimp only [zS, zN, zH, zT]) ?_
               refine zuw rfl rfl rfl rfl (by dsimp only [zS, zN, zH, zT]) ?_
               refine zuw rfl rfl rfl rfl (by dsimp only [zS, zN, zH, zT]) ?_
               refine zsw rfl rfl rfl (op_pick_ff (by rfl) (val_const (by rfl))) (by dsimp only [zS, zN, zH, zT]) ?_
               refine zst (op_pick_ff (by rfl) (val_tmp (by rfl))) rfl (by dsimp only [zS, zN, zH, zT]) ?_
               refine zst (op_move_tmp (by rfl)) rfl (by dsimp only [zS, zN, zH, zT]) ?_
               refine zsw rfl rfl rfl (op_move_tmp (by rfl)) (by dsimp only [zS, zN, zH, zT]) ?_
               refine zsw rfl rfl rfl (op_eqS (by rfl) (by rfl)) (by dsimp only [zS, zN, zH, zT]) ?_
               refine zsw rfl rfl rfl (op_move_tmp (by rfl)) (by dsimp only [zS, zN, zH, zT]) ?_
               refine al_split 178 rfl (fun hg37 => ?_) (fun hg37 => ?_)
               ·
                (try simp only [y1, y2, y3, y4, y5, y6, y7, y8, y9, y0, List.length_map] at hg37)
                have h33 : (whereT (csP l) (m + 1) (idB i)).1 = [] := by simpa using hg37
                apply al_normT
                · (try dsimp only [zS, zN, zH, zT]); try exact rfl
                refine zsw rfl rfl rfl (by first | exact op_fieldAddr_ptr Try.underlying60 rfl Sz58 (by rfl) (by rfl) | exact op_fieldAddr_elt Try.underlying60 rfl Sz58 (by rfl) (by rfl) (by rfl)) (by dsimp only [zS, zN, zH, zT]) ?_
                refine zsw rfl rfl rfl (op_load_ptrsD (mC e.new) Try.underlying58 (by rfl) Sz58 (by rfl) (by (try have l1 := lt_nb hb); repeat (first | assumption | exact push_at | exact setB_at push_at | (rw [setB_ne (by simp only [setB_nb, push_nb, ne_eq]; omega)]) | apply push_ne | apply setB_at)) (Nat.le_of_ble_eq_true rfl) (by rfl) (mC_one _)) (by dsimp only [zS, zN, zH, zT]) ?_
                refine zsw rfl rfl rfl (op_buildD (pl := [(0, 1), (1, 1), (2, 1), (3, 1), (4, 1)]) (mC M0) Try.underlying58 Zr58 (by kernel_rfl) (by rfl) (by rfl) (by rfl) (mC_one _)) (by dsimp only [zS, zN, zH, zT]) ?_
                refine zsw rfl rfl rfl (op_neM (by rfl) (by rfl)) (by dsimp only [zS, zN, zH, zT]) ?_
                refine zsw rfl rfl rfl (op_pick_tt (by rfl) (val_tmp (by rfl))) (by dsimp only [zS, zN, zH, zT]) ?_
                refine zst (op_pick_ff (by rfl) (val_tmp (by rfl))) rfl (by dsimp only [zS, zN, zH, zT]) ?_
                refine al_end rfl ?_
                refine then_normal ?_
                refine aw_cond rfl (fun hc38 => ?_) (fun hc38 => ?_)
                ·
                 (try simp only [y1, y2, y3, y4, y5, y6, y7, y8, y9, y0, List.length_map] at hc38)
                 exact absurd (ht.new0 h33) (by simpa using hc38)
                ·
                 (try simp only [y1, y2, y3, y4, y5, y6, y7, y8, y9, y0, List.length_map] at hc38)
                 refine aw_skip ?_
                 refine inBlock_normal (then_normal ?_)
                 refine aw_region ?_
                 refine zst (op_move_tmp (by rfl)) rfl (by dsimp only [zS, zN, zH, zT]) ?_
                 refine zst (by first | exact op_add (by rfl) (by rfl) (wrap_i64 ⟨by omega, by omega⟩) | exact op_add (by rfl) (by rfl) (by rfl)) rfl (by dsimp only [zS, zN, zH, zT]) ?_
                 refine zst (op_assign_tmp (by rfl)) rfl (by dsimp only [zS, zN, zH, zT]) ?_
                 refine al_end rfl ?_
                 apply again_to (4 - (i + 1)) (false :: false :: false :: true :: true :: false :: true :: true :: true :: true :: false :: false :: false :: false :: false :: false :: false :: false :: false :: false :: false :: false :: false :: false :: false :: false :: false :: false :: false :: false :: false :: false :: false :: false :: false :: true :: true :: true :: false :: false :: false :: false :: false :: false :: false :: false :: false :: false :: false :: false :: false :: false :: false :: false :: false :: false :: false :: false :: false :: false :: false :: false :: false :: false :: false :: false :: false :: false :: false :: false :: false :: false :: false :: false :: false :: false :: false :: false :: false :: false :: false :: false :: false :: false :: false :: false :: false :: false :: false :: false :: false :: false :: false :: false :: false :: false :: false :: false :: false :: false :: false :: false :: false :: false :: false :: false :: false :: false :: false :: false :: false :: false :: false :: false :: false :: false :: false :: false :: false :: false :: false :: false :: false :: false :: false :: false :: false :: false :: false :: false :: false :: false :: false :: false :: false :: false :: false :: false :: false :: false :: false :: false :: false :: false :: false :: false :: false :: false :: false :: false :: false :: false :: false :: false :: false :: false :: false :: false :: false :: false :: false :: false :: false :: false :: false :: false :: false :: false :: false :: false :: false :: false :: false :: false :: false :: false :: false :: false :: false :: false :: false :: false :: false :: false :: false :: false :: false :: false :: false :: false :: [])
                 · (try dsimp only [maskT]); try exact rfl
                 · rfl
                 · omega
                 exact ⟨i + 1, _, _, rfl, by omega, rfl, by rw [preE_some hi4 ht.slot, List.length_append, hq]; rfl, (by (try have l1 := lt_nb hb); repeat (first | assumption | exact push_at | exact setB_at push_at | (rw [setB_ne (by simp only [setB_nb, push_nb, ne_eq]; omega)]) | apply push_ne | apply setB_at))⟩
               ·
                (try simp only [y1, y2, y3, y4, y5, y6, y7, y8, y9, y0, List.length_map] at hg37)
                apply al_normT
                · (try dsimp only [zS, zN, zH, zT]); try exact rfl
                refine zuw rfl rfl rfl rfl (by dsimp only [zS, zN, zH, zT]) ?_
                refine zuw rfl rfl rfl rfl (by dsimp only [zS, zN, zH, zT]) ?_
                refine zuw rfl rfl rfl rfl (by dsimp only [zS, zN, zH, zT]) ?_
                refine zuw rfl rfl rfl rfl (by dsimp only [zS, zN, zH, zT]) ?_
                refine zsw rfl rfl rfl (op_pick_ff (by rfl) (val_const (by rfl))) (by dsimp only [zS, zN, zH, zT]) ?_
                refine zst (op_pick_ff (by rfl) (val_tmp (by rfl))) rfl (by dsimp only [zS, zN, zH, zT]) ?_
                refine al_end rfl ?_
                refine then_normal ?_
                refine aw_cond rfl (fun h => by cases h) (fun _ => ?_)
                refine aw_skip ?_
                refine inBlock_normal (then_normal ?_)
                refine aw_region ?_
                refine zst (op_move_tmp (by rfl)) rfl (by dsimp only [zS, zN, zH, zT]) ?_
                refine zst (by first | exact op_add (by rfl) (by rfl) (wrap_i64 ⟨by omega, by omega⟩) | exact op_add (by rfl) (by rfl) (by rfl)) rfl (by dsimp only [zS, zN, zH, zT]) ?_
                refine zst (op_assign_tmp (by rfl)) rfl (by dsimp only [zS, zN, zH, zT]) ?_
                refine al_end rfl ?_
                apply again_to (4 - (i + 1)) (false :: false :: false :: true :: true :: false :: true :: true :: true :: true :: false :: false :: false :: false :: false :: false :: false :: false :: false :: false :: false :: false :: false :: false :: false :: false :: false :: false :: false :: false :: false :: false :: false :: false :: false :: true :: true :: true :: false :: false :: false :: false :: false :: false :: false :: false :: false :: false :: false :: false :: false :: false :: false :: false :: false :: false :: false :: false :: false :: false :: false :: false :: false :: false :: false :: false :: false :: false :: false :: false :: false :: false :: false :: false :: false :: false :: false :: false :: false :: false :: false :: false :: false :: false :: false :: false :: false :: false :: false :: false :: false :: false :: false :: false :: false :: false :: false :: false :: false :: false :: false :: false :: false :: false :: false :: false :: false :: false :: false :: false :: false :: false :: false :: false :: false :: false :: false :: false :: false :: false :: false :: false :: false :: false :: false :: false :: false :: false :: false :: false :: false :: false :: false :: false :: false :: false :: false :: false :: false :: false :: false :: false :: false :: false :: false :: false :: false :: false :: false :: false :: false :: false :: false :: false :: false :: false :: false :: false :: false :: false :: false :: false :: false :: false :: false :: false :: false :: false :: false :: false :: false :: false :: false :: false :: false :: false :: false :: false :: false :: false :: false :: false :: false :: false :: false :: false :: false :: false :: false :: false :: [])
                · (try dsimp only [maskT]); try exact rfl
                · rfl
                · omega
                exact ⟨i + 1, _, _, rfl, by omega, rfl, by rw [preE_some hi4 ht.slot, List.length_append, hq]; rfl, (by (try have l1 := lt_nb hb); repeat (first | assumption | exact push_at | exact setB_at push_at | (rw [setB_ne (by simp only [setB_nb, push_nb, ne_eq]; omega)]) | apply push_ne | apply setB_at))⟩
           ·
            (try simp only [y1, y2, y3, y4, y5, y6, y7, y8, y9, y0, List.length_map] at hg20)
            have h2 : ¬ (whereT (csP l) m (idB i)).1 ≠ [] := by simpa using hg20
            apply al_normT
            · (try dsimp only [zS, zN, zH, zT]); try exact rfl
            refine zuw rfl rfl rfl rfl (by dsimp only [zS, zN, zH, zT]) ?_
            refine zuw rfl rfl rfl rfl (by dsimp only [zS, zN, zH, zT]) ?_
            refine zuw rfl rfl rfl rfl (by dsimp only [zS, zN, zH, zT]) ?_
            refine zuw rfl rfl rfl rfl (by dsimp only [zS, zN, zH, zT]) ?_
            refine zuw rfl rfl rfl rfl (by dsimp only [zS, zN, zH, zT]) ?_
            refine zst (op_pick_ff (by rfl) (val_const (by rfl))) rfl (by dsimp only [zS, zN, zH, zT]) ?_
            refine zst (op_move_tmp (by rfl)) rfl (by dsimp only [zS, zN, zH, zT]) ?_
            refine zsw rfl rfl rfl (op_move_tmp (by rfl)) (by dsimp only [zS, zN, zH, zT]) ?_
            refine zsw rfl rfl rfl (op_neS (by rfl) (by rfl)) (by dsimp only [zS, zN, zH, zT]) ?_
            refine zsw rfl rfl rfl (op_move_tmp (by rfl)) (by dsimp only [zS, zN, zH, zT]) ?_
            refine al_split 157 rfl (fun hg40 => ?_) (fun hg40 => ?_)
            ·
             (try simp only [y1, y2, y3, y4, y5, y6, y7, y8, y9, y0, List.length_map] at hg40)
             have h12 : (whereT (csP l) (m + 1) (idB i)).1 ≠ [] := by simpa using hg40
             apply al_normT
             · (try dsimp only [zS, zN, zH, zT]); try exact rfl
             refine zsw rfl rfl rfl (by first | exact op_fieldAddr_ptr Try.underlying60 rfl Sz58 (by rfl) (by rfl) | exact op_fieldAddr_elt Try.underlying60 rfl Sz58 (by rfl) (by rfl) (by rfl)) (by dsimp only [zS, zN, zH, zT]) ?_
             refine zsw rfl rfl rfl (op_load_ptrsD (mC e.new) Try.underlying58 (by rfl) Sz58 (by rfl) (by (try have l1 := lt_nb hb); repeat (first | assumption | exact push_at | exact setB_at push_at | (rw [setB_ne (by simp only [setB_nb, push_nb, ne_eq]; omega)]) | apply push_ne | apply setB_at)) (Nat.le_of_ble_eq_true rfl) (by rfl) (mC_one _)) (by dsimp only [zS, zN, zH, zT]) ?_
             refine zsw rfl rfl rfl (op_callF Try.func21 (by rfl) (by rfl) (.tmp (by rfl) .nil) (menc_ok _ e.new ht.bn.1 ht.bn.2.1 ht.bn.2.2)) (by dsimp only [zS, zN, zH, zT]) ?_
             refine zsw rfl rfl rfl (op_move_tmp (by rfl)) (by dsimp only [zS, zN, zH, zT]) ?_
             refine zsw rfl rfl rfl (op_neS (by rfl) (by rfl)) (by dsimp only [zS, zN, zH, zT]) ?_
             refine zsw rfl rfl rfl (op_pick_tt (by rfl) (val_tmp (by rfl))) (by dsimp only [zS, zN, zH, zT]) ?_
             refine zst (op_pick_ff (by rfl) (val_tmp (by rfl))) rfl (by dsimp only [zS, zN, zH, zT]) ?_
             refine zst (op_move_tmp (by rfl)) rfl (by dsimp only [zS, zN, zH, zT]) ?_
             refine al_split 165 rfl (fun hg41 => ?_) (fun hg41 => ?_)
             ·
              (try simp only [y1, y2, y3, y4, y5, y6, y7, y8, y9, y0, List.length_map] at hg41)
              apply al_normT
              · (try dsimp only [zS, zN, zH, zT]); try exact rfl
              exact absurd (ht.new h12) (by simpa using hg41)
             ·
              (try simp only [y1, y2, y3, y4, y5, y6, y7, y8, y9, y0, List.length_map] at hg41)
              apply al_normT
              · (try dsimp only [zS, zN, zH, zT]); try exact rfl
              refine zsw rfl rfl rfl (op_move_tmp (by rfl)) (by dsimp only [zS, zN, zH, zT]) ?_
              refine zsw rfl rfl rfl (op_eqS (by rfl) (by rfl)) (by dsimp only [zS, zN, zH, zT]) ?_
              refine zsw rfl rfl rfl (op_move_tmp (by rfl)) (by dsimp only [zS, zN, zH, zT]) ?_
              refine al_split 168 rfl (fun hg42 => ?_) (fun hg42 => ?_)
              ·
               (try simp only [y1, y2, y3, y4, y5, y6, y7, y8, y9, y0, List.length_map] at hg42)
               have h23 : (whereT (csP l) m (idB i)).1 = [] := by simpa using hg42
               apply al_normT
               · (try dsimp only [zS, zN, zH, zT]); try exact rfl
               refine zsw rfl rfl rfl (by first | exact op_fieldAddr_ptr Try.underlying60 rfl Sz58 (by rfl) (by rfl) | exact op_fieldAddr_elt Try.underlying60 rfl Sz58 (by rfl) (by rfl) (by rfl)) (by dsimp only [zS, zN, zH, zT]) ?_
               refine zsw rfl rfl rfl (op_load_ptrsD (mC e.old) Try.underlying58 (by rfl) Sz58 (by rfl) (by (try have l1 := lt_nb hb); repeat (first | assumption | exact push_at | exact setB_at push_at | (rw [setB_ne (by simp only [setB_nb, push_nb, ne_eq]; omega)]) | apply push_ne | apply setB_at)) (Nat.le_of_ble_eq_true rfl) (by rfl) (mC_one _)) (by dsimp only [zS, zN, zH, zT]) ?_
               refine zsw rfl rfl rfl (op_buildD (pl := [(0, 1), (1, 1), (2, 1), (3, 1), (4, 1)]) (mC M0) Try.underlying58 Zr58 (by kernel_rfl) (by rfl) (by rfl) (by rfl) (mC_one _)) (by dsimp only [zS, zN, zH, zT]) ?_
               refine zsw rfl rfl rfl (op_neM (by rfl) (by rfl)) (by dsimp only [zS, zN, zH, zT]) ?_
               refine zsw rfl rfl rfl (op_pick_tt (by rfl) (val_tmp (by rfl))) (by dsimp only [zS, zN, zH, zT]) ?_
               refine zst (op_pick_ff (by rfl) (val_tmp (by rfl))) rfl (by dsimp only [zS, zN, zH, zT]) ?_
               refine zst (op_move_tmp (by rfl)) rfl (by dsimp only [zS, zN, zH, zT]) ?_
               refine al_split 175 rfl (fun hg43 => ?_) (fun hg43 => ?_)
               ·
                (try simp only [y1, y2, y3, y4, y5, y6, y7, y8, y9, y0, List.length_map] at hg43)
                apply al_normT
                · (try dsimp only [zS, zN, zH, zT]); try exact rfl
                exact absurd (ht.old0 h23) (by simpa using hg43)
               ·
                (try simp only [y1, y2, y3, y4, y5, y6, y7, y8, y9, y0, List.length_map] at hg43)
                apply al_normT
                · (try dsimp only [zS, zN, zH, zT]); try exact rfl
                refine zsw rfl rfl rfl (op_move_tmp (by rfl)) (by dsimp only [zS, zN, zH, zT]) ?_
                refine zsw rfl rfl rfl (op_eqS (by rfl) (by rfl)) (by dsimp only [zS, zN, zH, zT]) ?_
                refine zsw rfl rfl rfl (op_move_tmp (by rfl)) (by dsimp only [zS, zN, zH, zT]) ?_
                refine al_split 178 rfl (fun hg44 => ?_) (fun hg44 => ?_)
                ·
                 (try simp only [y1, y2, y3, y4, y5, y6, y7, y8, y9, y0, List.length_map] at hg44)
                 have h33 : (whereT (csP l) (m + 1) (idB i)).1 = [] := by simpa using hg44
                 apply al_normT
                 · (try dsimp only [zS, zN, zH, zT]); try exact rfl
                 refine zsw rfl rfl rfl (by first | exact op_fieldAddr_ptr Try.underlying60 rfl Sz58 (by rfl) (by rfl) | exact op_fieldAddr_elt Try.underlying60 rfl Sz58 (by rfl) (by rfl) (by rfl)) (by dsimp only [zS, zN, zH, zT]) ?_
                 refine zsw rfl rfl rfl (op_load_ptrsD (mC e.new) Try.underlying58 (by rfl) Sz58 (by rfl) (by (try have l1 := lt_nb hb); repeat (first | assumption | exact push_at | exact setB_at push_at | (rw [setB_ne (by simp only [setB_nb, push_nb, ne_eq]; omega)]) | apply push_ne | apply setB_at)) (Nat.le_of_ble_eq_true rfl) (by rfl) (mC_one _)) (by dsimp only [zS, zN, zH, zT]) ?_
                 refine zsw rfl rfl rfl (op_buildD (pl := [(0, 1), (1, 1), (2, 1), (3, 1), (4, 1)]) (mC M0) Try.underlying58 Zr58 (by kernel_rfl) (by rfl) (by rfl) (by rfl) (mC_one _)) (by dsimp only [zS, zN, zH, zT]) ?_
                 refine zsw rfl rfl rfl (op_neM (by rfl) (by rfl)) (by dsimp only [zS, zN, zH, zT]) ?_
                 refine zsw rfl rfl rfl (op_pick_tt (by rfl) (val_tmp (by rfl))) (by dsimp only [zS, zN, zH, zT]) ?_
                 refine zst (op_pick_ff (by rfl) (val_tmp (by rfl))) rfl (by dsimp only [zS, zN, zH, zT]) ?_
                 refine al_end rfl ?_
                 refine then_normal ?_
                 refine aw_cond rfl (fun hc45 => ?_) (fun hc45 => ?_)
                 ·
                  (try simp only [y1, y2, y3, y4, y5, y6, y7, y8, y9, y0, List.length_map] at hc45)
                  exact absurd (ht.new0 h33) (by simpa using hc45)
                 ·
                  (try simp only [y1, y2, y3, y4, y5, y6, y7, y8, y9, y0, List.length_map] at hc45)
                  refine aw_skip ?_
                  refine inBlock_normal (then_normal ?_)
                  refine aw_region ?_
                  refine zst (op_move_tmp (by rfl)) rfl (by dsimp only [zS, zN, zH, zT]) ?_
                  refine zst (by first | exact op_add (by rfl) (by rfl) (wrap_i64 ⟨by omega, by omega⟩) | exact op_add (by rfl) (by rfl) (by rfl)) rfl (by dsimp only [zS, zN, zH, zT]) ?_
                  refine zst (op_assign_tmp (by rfl)) rfl (by dsimp only [zS, zN, zH, zT]) ?_
                  refine al_end rfl ?_
                  apply again_to (4 - (i + 1)) (false :: false :: false :: true :: true :: false :: true :: true :: true :: true :: false :: false :: false :: false :: false :: false :: false :: false :: false :: false :: false :: false :: false :: false :: false :: false :: false :: false :: false :: false :: false :: false :: false :: false :: false :: true :: true :: true :: false :: false :: false :: false :: false :: false :: false :: false :: false :: false :: false :: false :: false :: false :: false :: false :: false :: false :: false :: false :: false :: false :: false :: false :: false :: false :: false :: false :: false :: false :: false :: false :: false :: false :: false :: false :: false :: false :: false :: false :: false :: false :: false :: false :: false :: false :: false :: false :: false :: false :: false :: false :: false :: false :: false :: false :: false :: false :: false :: false :: false :: false :: false :: false :: false :: false :: false :: false :: false :: false :: false :: false :: false :: false :: false :: false :: false :: false :: false :: false :: false :: false :: false :: false :: false :: false :: false :: false :: false :: false :: false :: false :: false :: false :: false :: false :: false :: false :: false :: false :: false :: false :: false :: false :: false :: false :: false :: false :: false :: false :: false :: false :: false :: false :: false :: false :: false :: false :: false :: false :: false :: false :: false :: false :: false :: false :: false :: false :: false :: false :: false :: false :: false :: false :: false :: false :: false :: false :: false :: false :: false :: false :: false :: false :: false :: false :: false :: false :: false :: false :: false :: false :: [])
                  · (try dsimp only [maskT]); try exact rfl
                  · rfl
                  · omega
                  exact ⟨i + 1, _, _, rfl, by omega, rfl, by rw [preE_some hi4 ht.slot, List.length_append, hq]; rfl, (by (try have l1 := lt_nb hb); repeat (first | assumption | exact push_at | exact setB_at push_at | (rw [setB_ne (by simp only [setB_nb, push_nb, ne_eq]; omega)]) | apply push_ne | apply setB_at))⟩
                ·
                 (try simp only [y1, y2, y3, y4, y5, y6, y7, y8, y9, y0, List.length_map] at hg44)
                 apply al_normT
                 · (try dsimp only [zS, zN, zH, zT]); try exact rfl
                 refine zuw rfl rfl rfl rfl (by dsimp only [zS, zN, zH, zT]) ?_
                 refine zuw rfl rfl rfl rfl (by dsimp only [zS, zN, zH, zT]) ?_
                 refine zuw rfl rfl rfl rfl (by dsimp only [zS, zN, zH, zT]) ?_
                 refine zuw rfl rfl rfl rfl (by dsimp only [zS, zN, zH, zT]) ?_
                 refine zsw rfl rfl rfl (op_pick_ff (by rfl) (val_const (by rfl))) (by dsimp only [zS, zN, zH, zT]) ?_
                 refine zst (op_pick_ff (by rfl) (val_tmp (by rfl))) rfl (by dsimp only [zS, zN, zH, zT]) ?_
                 refine al_end rfl ?_
                 refine then_normal ?_
                 refine aw_cond rfl (fun h => by cases h) (fun _ => ?_)
                 refine aw_skip ?_
                 refine inBlock_normal (then_normal ?_)
                 refine aw_region ?_
                 refine zst (op_move_tmp (by rfl)) rfl (by dsimp only [zS, zN, zH, zT]) ?_
                 refine zst (by first | exact op_add (by rfl) (by rfl) (wrap_i64 ⟨by omega, by omega⟩) | exact op_add (by rfl) (by rfl) (by rfl)) rfl (by dsimp only [zS, zN, zH, zT]) ?_
                 refine zst (op_assign_tmp (by rfl)) rfl (by dsimp only [zS, zN, zH, zT]) ?_
                 refine al_end rfl ?_
                 apply again_to (4 - (i + 1)) (false :: false :: false :: true :: true :: false :: true :: true :: true :: true :: false :: false :: false :: false :: false :: false :: false :: false :: false :: false :: false :: false :: false :: false :: false :: false :: false :: false :: false :: false :: false :: false :: false :: false :: false :: true :: true :: true :: false :: false :: false :: false :: false :: false :: false :: false :: false :: false :: false :: false :: false :: false :: false :: false :: false :: false :: false :: false :: false :: false :: false :: false :: false :: false :: false :: false :: false :: false :: false :: false :: false :: false :: false :: false :: false :: false :: false :: false :: false :: false :: false :: false :: false :: false :: false :: false :: false :: false :: false :: false :: false :: false :: false :: false :: false :: false :: false :: false :: false :: false :: false :: false :: false :: false :: false :: false :: false :: false :: false :: false :: false :: false :: false :: false :: false :: false :: false :: false :: false :: false :: false :: false :: false :: false :: false :: false :: false :: false :: false :: false :: false :: false :: false :: false :: false :: false :: false :: false :: false :: false :: false :: false :: false :: false :: false :: false :: false :: false :: false :: false :: false :: false :: false :: false :: false :: false :: false :: false :: false :: false :: false :: false :: false :: false :: false :: false :: false :: false :: false :: false :: false :: false :: false :: false :: false :: false :: false :: false :: false :: false :: false :: false :: false :: false :: false :: false :: false :: false :: false :: false :: [])
                 · (try dsimp only [maskT]); try exact rfl
                 · rfl
                 · omega
                 exact ⟨i + 1, _, _, rfl, by omega, rfl, by rw [preE_some hi4 ht.slot, List.length_append, hq]; rfl, (by (try have l1 := lt_nb hb); repeat (first | assumption | exact push_at | exact setB_at push_at | (rw [setB_ne (by simp only [setB_nb, push_nb, ne_eq]; omega)]) | apply push_ne | apply setB_at))⟩
              ·
               (try simp only [y1, y2, y3, y4, y5, y6, y7, y8, y9, y0, List.length_map] at hg42)
               apply al_normT
               · (try dsimp only [zS, zN, zH, zT]); try exact rfl
               refine zuw rfl rfl rfl rfl (by dsimp only [zS, zN, zH, zT]) ?_
               refine zuw rfl rfl rfl rfl (by dsimp only [zS, zN, zH, zT]) ?_
               refine zuw rfl rfl rfl rfl (by dsimp only [zS, zN, zH, zT]) ?_
               refine zuw rfl rfl rfl rfl (by dsimp only [zS, zN, zH, zT]) ?_
               refine zsw rfl rfl rfl (op_pick_ff (by rfl) (val_const (by rfl))) (by dsimp only [zS, zN, zH, zT]) ?_
               refine zst (op_pick_ff (by rfl) (val_tmp (by rfl))) rfl (by dsimp only [zS, zN, zH, zT]) ?_
               refine zst (op_move_tmp (by rfl)) rfl (by dsimp only [zS, zN, zH, zT]) ?_
               refine zsw rfl rfl rfl (op_move_tmp (by rfl)) (by dsimp only [zS, zN, zH, zT]) ?_
               refine zsw rfl rfl rfl (op_eqS (by rfl) (by rfl)) (by dsimp only [zS, zN, zH, zT]) ?_
               refine zsw rfl rfl rfl (op_move_tmp (by rfl)) (by dsimp only [zS, zN, zH, zT]) ?_
               refine al_split 178 rfl (fun hg47 => ?_) (fun hg47 => ?_)
               ·
                (try simp only [y1, y2, y3, y4, y5, y6, y7, y8, y9, y0, List.length_map] at hg47)
                have h33 : (whereT (csP l) (m + 1) (idB i)).1 = [] := by simpa using hg47
                apply al_normT
                · (try dsimp only [zS, zN, zH, zT]); try exact rfl
                refine zsw rfl rfl rfl (by first | exact op_fieldAddr_ptr Try.underlying60 rfl Sz58 (by rfl) (by rfl) | exact op_fieldAddr_elt Try.underlying60 rfl Sz58 (by rfl) (by rfl) (by rfl)) (by dsimp only [zS, zN, zH, zT]) ?_
                refine zsw rfl rfl rfl (op_load_ptrsD (mC e.new) Try.underlying58 (by rfl) Sz58 (by rfl) (by (try have l1 := lt_nb hb); repeat (first | assumption | exact push_at | exact setB_at push_at | (rw [setB_ne (by simp only [setB_nb, push_nb, ne_eq]; omega)]) | apply push_ne | apply setB_at)) (Nat.le_of_ble_eq_true rfl) (by rfl) (mC_one _)) (by dsimp only [zS, zN, zH, zT]) ?_
                refine zsw rfl rfl rfl (op_buildD (pl := [(0, 1), (1, 1), (2, 1), (3, 1), (4, 1)]) (mC M0) Try.underlying58 Zr58 (by kernel_rfl) (by rfl) (by rfl) (by rfl) (mC_one _)) (by dsimp only [zS, zN, zH, zT]) ?_
                refine zsw rfl rfl rfl (op_neM (by rfl) (by rfl)) (by dsimp only [zS, zN, zH, zT]) ?_
                refine zsw rfl rfl rfl (op_pick_tt (by rfl) (val_tmp (by rfl))) (by dsimp only [zS, zN, zH, zT]) ?_
                refine zst (op_pick_ff (by rfl) (val_tmp (by rfl))) rfl (by dsimp only [zS, zN, zH, zT]) ?_
                refine al_end rfl ?_
                refine then_normal ?_
                refine aw_cond rfl (fun hc48 => ?_) (fun hc48 => ?_)
                ·
                 (try simp only [y1, y2, y3, y4, y5, y6, y7, y8, y9, y0, List.length_map] at hc48)
                 exact absurd (ht.new0 h33) (by simpa using hc48)
                ·
                 (try simp only [y1, y2, y3, y4, y5, y6, y7, y8, y9, y0, List.length_map] at hc48)
                 refine aw_skip ?_
                 refine inBlock_normal (then_normal ?_)
                 refine aw_region ?_
                 refine zst (op_move_tmp (by rfl)) rfl (by dsimp only [zS, zN, zH, zT]) ?_
                 refine zst (by first | exact op_add (by rfl) (by rfl) (wrap_i64 ⟨by omega, by omega⟩) | exact op_add (by rfl) (by rfl) (by rfl)) rfl (by dsimp only [zS, zN, zH, zT]) ?_
                 refine zst (op_assign_tmp (by rfl)) rfl (by dsimp only [zS, zN, zH, zT]) ?_
                 refine al_end rfl ?_
                 apply again_to (4 - (i + 1)) (false :: false :: false :: true :: true :: false :: true :: true :: true :: true :: false :: false :: false :: false :: false :: false :: false :: false :: false :: false :: false :: false :: false :: false :: false :: false :: false :: false :: false :: false :: false :: false :: false :: false :: false :: true :: true :: true :: false :: false :: false :: false :: false :: false :: false :: false :: false :: false :: false :: false :: false :: false :: false :: false :: false :: false :: false :: false :: false :: false :: false :: false :: false :: false :: false :: false :: false :: false :: false :: false :: false :: false :: false :: false :: false :: false :: false :: false :: false :: false :: false :: false :: false :: false :: false :: false :: false :: false :: false :: false :: false :: false :: false :: false :: false :: false :: false :: false :: false :: false :: false :: false :: false :: false :: false :: false :: false :: false :: false :: false :: false :: false :: false :: false :: false :: false :: false :: false :: false :: false :: false :: false :: false :: false :: false :: false :: false :: false :: false :: false :: false :: false :: false :: false :: false :: false :: false :: false :: false :: false :: false :: false :: false :: false :: false :: false :: false :: false :: false :: false :: false :: false :: false :: false :: false :: false :: false :: false :: false :: false :: false :: false :: false :: false :: false :: false :: false :: false :: false :: false :: false :: false :: false :: false :: false :: false :: false :: false :: false :: false :: false :: false :: false :: false :: false :: false :: false :: false :: false :: false :: [])
                 · (try dsimp only [maskT]); try exact rfl
                 · rfl
                 · omega
                 exact ⟨i + 1, _, _, rfl, by omega, rfl, by rw [preE_some hi4 ht.slot, List.length_append, hq]; rfl, (by (try have l1 := lt_nb hb); repeat (first | assumption | exact push_at | exact setB_at push_at | (rw [setB_ne (by simp only [setB_nb, push_nb, ne_eq]; omega)]) | apply push_ne | apply setB_at))⟩
               ·
                (try simp only [y1, y2, y3, y4, y5, y6, y7, y8, y9, y0, List.length_map] at hg47)
                apply al_normT
                · (try dsimp only [zS, zN, zH, zT]); try exact rfl
                refine zuw rfl rfl rfl rfl (by dsimp only [zS, zN, zH, zT]) ?_
                refine zuw rfl rfl rfl rfl (by dsimp only [zS, zN, zH, zT]) ?_
                refine zuw rfl rfl rfl rfl (by dsimp only [zS, zN, zH, zT]) ?_
                refine zuw rfl rfl rfl rfl (by dsimp only [zS, zN, zH, zT]) ?_
                refine zsw rfl rfl rfl (op_pick_ff (by rfl) (val_const (by rfl))) (by dsimp only [zS, zN, zH, zT]) ?_
                refine zst (op_pick_ff (by rfl) (val_tmp (by rfl))) rfl (by dsimp only [zS, zN, zH, zT]) ?_
                refine al_end rfl ?_
                refine then_normal ?_
                refine aw_cond rfl (fun h => by cases h) (fun _ => ?_)
                refine aw_skip ?_
                refine inBlock_normal (then_normal ?_)
                refine aw_region ?_
                refine zst (op_move_tmp (by rfl)) rfl (by dsimp only [zS, zN, zH, zT]) ?_
                refine zst (by first | exact op_add (by rfl) (by rfl) (wrap_i64 ⟨by omega, by omega⟩) | exact op_add (by rfl) (by rfl) (by rfl)) rfl (by dsimp only [zS, zN, zH, zT]) ?_
                refine zst (op_assign_tmp (by rfl)) rfl (by dsimp only [zS, zN, zH, zT]) ?_
                refine al_end rfl ?_
                apply again_to (4 - (i + 1)) (false :: false :: false :: true :: true :: false :: true :: true :: true :: true :: false :: false :: false :: false :: false :: false :: false :: false :: false :: false :: false :: false :: false :: false :: false :: false :: false :: false :: false :: false :: false :: false :: false :: false :: false :: true :: true :: true :: false :: false :: false :: false :: false :: false :: false :: false :: false :: false :: false :: false :: false :: false :: false :: false :: false :: false :: false :: false :: false :: false :: false :: false :: false :: false :: false :: false :: false :: false :: false :: false :: false :: false :: false :: false :: false :: false :: false :: false :: false :: false :: false :: false :: false :: false :: false :: false :: false :: false :: false :: false :: false :: false :: false :: false :: false :: false :: false :: false :: false :: false :: false :: false :: false :: false :: false :: false :: false :: false :: false :: false :: false :: false :: false :: false :: false :: false :: false :: false :: false :: false :: false :: false :: false :: false :: false :: false :: false :: false :: false :: false :: false :: false :: false :: false :: false :: false :: false :: false :: false :: false :: false :: false :: false :: false :: false :: false :: false :: false :: false :: false :: false :: false :: false :: false :: false :: false :: false :: false :: false :: false :: false :: false :: false :: false :: false :: false :: false :: false :: false :: false :: false :: false :: false :: false :: false :: false :: false :: false :: false :: false :: false :: false :: false :: false :: false :: false :: false :: false :: false :: false :: [])
                · (try dsimp only [maskT]); try exact rfl
                · rfl
                · omega
                exact ⟨i + 1, _, _, rfl, by omega, rfl, by rw [preE_some hi4 ht.slot, List.length_append, hq]; rfl, (by (try have l1 := lt_nb hb); repeat (first | assumption | exact push_at | exact setB_at push_at | (rw [setB_ne (by simp only [setB_nb, push_nb, ne_eq]; omega)]) | apply push_ne | apply setB_at))⟩
            ·
             (try simp only [y1, y2, y3, y4, y5, y6, y7, y8, y9, y0, List.length_map] at hg40)
             have h12 : ¬ (whereT (csP l) (m + 1) (idB i)).1 ≠ [] := by simpa using hg40
             apply al_normT
             · (try dsimp only [zS, zN, zH, zT]); try exact rfl
             refine zuw rfl rfl rfl rfl (by dsimp only [zS, zN, zH, zT]) ?_
             refine zuw rfl rfl rfl rfl (by dsimp only [zS, zN, zH, zT]) ?_
             refine zuw rfl rfl rfl rfl (by dsimp only [zS, zN, zH, zT]) ?_
             refine zuw rfl rfl rfl rfl (by dsimp only [zS, zN, zH, zT]) ?_
             refine zuw rfl rfl rfl rfl (by dsimp only [zS, zN, zH, zT]) ?_
             refine zsw rfl rfl rfl (op_pick_ff (by rfl) (val_const (by rfl))) (by dsimp only [zS, zN, zH, zT]) ?_
             refine zst (op_pick_ff (by rfl) (val_tmp (by rfl))) rfl (by dsimp only [zS, zN, zH, zT]) ?_
             refine zst (op_move_tmp (by rfl)) rfl (by dsimp only [zS, zN, zH, zT]) ?_
             refine zsw rfl rfl rfl (op_move_tmp (by rfl)) (by dsimp only [zS, zN, zH, zT]) ?_
             refine zsw rfl rfl rfl (op_eqS (by rfl) (by rfl)) (by dsimp only [zS, zN, zH, zT]) ?_
             refine zsw rfl rfl rfl (op_move_tmp (by rfl)) (by dsimp only [zS, zN, zH, zT]) ?_
             refine al_split 168 rfl (fun hg50 => ?_) (fun hg50 => ?_)
             ·
              (try simp only [y1, y2, y3, y4, y5, y6, y7, y8, y9, y0, List.length_map] at hg50)
              have h23 : (whereT (csP l) m (idB i)).1 = [] := by simpa using hg50
              apply al_normT
              · (try dsimp only [zS, zN, zH, zT]); try exact rfl
              refine zsw rfl rfl rfl (by first | exact op_fieldAddr_ptr Try.underlying60 rfl Sz58 (by rfl) (by rfl) | exact op_fieldAddr_elt Try.underlying60 rfl Sz58 (by rfl) (by rfl) (by rfl)) (by dsimp only [zS, zN, zH, zT]) ?_
              refine zsw rfl rfl rfl (op_load_ptrsD (mC e.old) Try.underlying58 (by rfl) Sz58 (by rfl) (by (try have l1 := lt_nb hb); repeat (first | assumption | exact push_at | exact setB_at push_at | (rw [setB_ne (by simp only [setB_nb, push_nb, ne_eq]; omega)]) | apply push_ne | apply setB_at)) (Nat.le_of_ble_eq_true rfl) (by rfl) (mC_one _)) (by dsimp only [zS, zN, zH, zT]) ?_
              refine zsw rfl rfl rfl (op_buildD (pl := [(0, 1), (1, 1), (2, 1), (3, 1), (4, 1)]) (mC M0) Try.underlying58 Zr58 (by kernel_rfl) (by rfl) (by rfl) (by rfl) (mC_one _)) (by dsimp only [zS, zN, zH, zT]) ?_
              refine zsw rfl rfl rfl (op_neM (by rfl) (by rfl)) (by dsimp only [zS, zN, zH, zT]) ?_
              refine zsw rfl rfl rfl (op_pick_tt (by rfl) (val_tmp (by rfl))) (by dsimp only [zS, zN, zH, zT]) ?_
              refine zst (op_pick_ff (by rfl) (val_tmp (by rfl))) rfl (by dsimp only [zS, zN, zH, zT]) ?_
              refine zst (op_move_tmp (by rfl)) rfl (by dsimp only [zS, zN, zH, zT]) ?_
              refine al_split 175 rfl (fun hg51 => ?_) (fun hg51 => ?_)
              ·
               (try simp only [y1, y2, y3, y4, y5, y6, y7, y8, y9, y0, List.length_map] at hg51)
               apply al_normT
               · (try dsimp only [zS, zN, zH, zT]); try exact rfl
               exact absurd (ht.old0 h23) (by simpa using hg51)
              ·
               (try simp only [y1, y2, y3, y4, y5, y6, y7, y8, y9, y0, List.length_map] at hg51)
               apply al_normT
               · (try dsimp only [zS, zN, zH, zT]); try exact rfl
               refine zsw rfl rfl rfl (op_move_tmp (by rfl)) (by dsimp only [zS, zN, zH, zT]) ?_
               refine zsw rfl rfl rfl (op_eqS (by rfl) (by rfl)) (by dsimp only [zS, zN, zH, zT]) ?_
               refine zsw rfl rfl rfl (op_move_tmp (by rfl)) (by dsimp only [zS, zN, zH, zT]) ?_
               refine al_split 178 rfl (fun hg52 => ?_) (fun hg52 => ?_)
               ·
                (try simp only [y1, y2, y3, y4, y5, y6, y7, y8, y9, y0, List.length_map] at hg52)
                have h33 : (whereT (csP l) (m + 1) (idB i)).1 = [] := by simpa using hg52
                apply al_normT
                · (try dsimp only [zS, zN, zH, zT]); try exact rfl
                refine zsw rfl rfl rfl (by first | exact op_fieldAddr_ptr Try.underlying60 rfl Sz58 (by rfl) (by rfl) | exact op_fieldAddr_elt Try.underlying60 rfl Sz58 (by rfl) (by rfl) (by rfl)) (by dsimp only [zS, zN, zH, zT]) ?_
                refine zsw rfl rfl rfl (op_load_ptrsD (mC e.new) Try.underlying58 (by rfl) Sz58 (by rfl) (by (try have l1 := lt_nb hb); repeat (first | assumption | exact push_at | exact setB_at push_at | (rw [setB_ne (by simp only [setB_nb, push_nb, ne_eq]; omega)]) | apply push_ne | apply setB_at)) (Nat.le_of_ble_eq_true rfl) (by rfl) (mC_one _)) (by dsimp only [zS, zN, zH, zT]) ?_
                refine zsw rfl rfl rfl (op_buildD (pl := [(0, 1), (1, 1), (2, 1), (3, 1), (4, 1)]) (mC M0) Try.underlying58 Zr58 (by kernel_rfl) (by rfl) (by rfl) (by rfl) (mC_one _)) (by dsimp only [zS, zN, zH, zT]) ?_
                refine zsw rfl rfl rfl (op_neM (by rfl) (by rfl)) (by dsimp only [zS, zN, zH, zT]) ?_
                refine zsw rfl rfl rfl (op_pick_tt (by rfl) (val_tmp (by rfl))) (by dsimp only [zS, zN, zH, zT]) ?_
                refine zst (op_pick_ff (by rfl) (val_tmp (by rfl))) rfl (by dsimp only [zS, zN, zH, zT]) ?_
                refine al_end rfl ?_
                refine then_normal ?_
                refine aw_cond rfl (fun hc53 => ?_) (fun hc53 => ?_)
                ·
                 (try simp only [y1, y2, y3, y4, y5, y6, y7, y8, y9, y0, List.length_map] at hc53)
                 exact absurd (ht.new0 h33) (by simpa using hc53)
                ·
                 (try simp only [y1, y2, y3, y4, y5, y6, y7, y8, y9, y0, List.length_map] at hc53)
                 refine aw_skip ?_
                 refine inBlock_normal (then_normal ?_)
                 refine aw_region ?_
                 refine zst (op_move_tmp (by rfl)) rfl (by dsimp only [zS, zN, zH, zT]) ?_
                 refine zst (by first | exact op_add (by rfl) (by rfl) (wrap_i64 ⟨by omega, by omega⟩) | exact op_add (by rfl) (by rfl) (by rfl)) rfl (by dsimp only [zS, zN, zH, zT]) ?_
                 refine zst (op_assign_tmp (by rfl)) rfl (by dsimp only [zS, zN, zH, zT]) ?_
                 refine al_end rfl ?_
                 apply again_to (4 - (i + 1)) (false :: false :: false :: true :: true :: false :: true :: true :: true :: true :: false :: false :: false :: false :: false :: false :: false :: false :: false :: false :: false :: false :: false :: false :: false :: false :: false :: false :: false :: false :: false :: false :: false :: false :: false :: true :: true :: true :: false :: false :: false :: false :: false :: false :: false :: false :: false :: false :: false :: false :: false :: false :: false :: false :: false :: false :: false :: false :: false :: false :: false :: false :: false :: false :: false :: false :: false :: false :: false :: false :: false :: false :: false :: false :: false :: false :: false :: false :: false :: false :: false :: false :: false :: false :: false :: false :: false :: false :: false :: false :: false :: false :: false :: false :: false :: false :: false :: false :: false :: false :: false :: false :: false :: false :: false :: false :: false :: false :: false :: false :: false :: false :: false :: false :: false :: false :: false :: false :: false :: false :: false :: false :: false :: false :: false :: false :: false :: false :: false :: false :: false :: false :: false :: false :: false :: false :: false :: false :: false :: false :: false :: false :: false :: false :: false :: false :: false :: false :: false :: false :: false :: false :: false :: false :: false :: false :: false :: false :: false :: false :: false :: false :: false :: false :: false :: false :: false :: false :: false :: false :: false :: false :: false :: false :: false :: false :: false :: false :: false :: false :: false :: false :: false :: false :: false :: false :: false :: false :: false :: false :: [])
                 · (try dsimp only [maskT]); try exact rfl
                 · rfl
                 · omega
                 exact ⟨i + 1, _, _, rfl, by omega, rfl, by rw [preE_some hi4 ht.slot, List.length_append, hq]; rfl, (by (try have l1 := lt_nb hb); repeat (first | assumption | exact push_at | exact setB_at push_at | (rw [setB_ne (by simp only [setB_nb, push_nb, ne_eq]; omega)]) | apply push_ne | apply setB_at))⟩
               ·
                (try simp only [y1, y2, y3, y4, y5, y6, y7, y8, y9, y0, List.length_map] at hg52)
                apply al_normT
                · (try dsimp only [zS, zN, zH, zT]); try exact rfl
                refine zuw rfl rfl rfl rfl (by dsimp only [zS, zN, zH, zT]) ?_
                refine zuw rfl rfl rfl rfl (by dsimp only [zS, zN, zH, zT]) ?_
                refine zuw rfl rfl rfl rfl (by dsimp only [zS, zN, zH, zT]) ?_
                refine zuw rfl rfl rfl rfl (by dsimp only [zS, zN, zH, zT]) ?_
                refine zsw rfl rfl rfl (op_pick_ff (by rfl) (val_const (by rfl))) (by dsimp only [zS, zN, zH, zT]) ?_
                refine zst (op_pick_ff (by rfl) (val_tmp (by rfl))) rfl (by dsimp only [zS, zN, zH, zT]) ?_
                refine al_end rfl ?_
                refine then_normal ?_
                refine aw_cond rfl (fun h => by cases h) (fun _ => ?_)
                refine aw_skip ?_
                refine inBlock_normal (then_normal ?_)
                refine aw_region ?_
                refine zst (op_move_tmp (by rfl)) rfl (by dsimp only [zS, zN, zH, zT]) ?_
                refine zst (by first | exact op_add (by rfl) (by rfl) (wrap_i64 ⟨by omega, by omega⟩) | exact op_add (by rfl) (by rfl) (by rfl)) rfl (by dsimp only [zS, zN, zH, zT]) ?_
                refine zst (op_assign_tmp (by rfl)) rfl (by dsimp only [zS, zN, zH, zT]) ?_
                refine al_end rfl ?_
                apply again_to (4 - (i + 1)) (false :: false :: false :: true :: true :: false :: true :: true :: true :: true :: false :: false :: false :: false :: false :: false :: false :: false :: false :: false :: false :: false :: false :: false :: false :: false :: false :: false :: false :: false :: false :: false :: false :: false :: false :: true :: true :: true :: false :: false :: false :: false :: false :: false :: false :: false :: false :: false :: false :: false :: false :: false :: false :: false :: false :: false :: false :: false :: false :: false :: false :: false :: false :: false :: false :: false :: false :: false :: false :: false :: false :: false :: false :: false :: false :: false :: false :: false :: false :: false :: false :: false :: false :: false :: false :: false :: false :: false :: false :: false :: false :: false :: false :: false :: false :: false :: false :: false :: false :: false :: false :: false :: false :: false :: false :: false :: false :: false :: false :: false :: false :: false :: false :: false :: false :: false :: false :: false :: false :: false :: false :: false :: false :: false :: false :: false :: false :: false :: false :: false :: false :: false :: false :: false :: false :: false :: false :: false :: false :: false :: false :: false :: false :: false :: false :: false :: false :: false :: false :: false :: false :: false :: false :: false :: false :: false :: false :: false :: false :: false :: false :: false :: false :: false :: false :: false :: false :: false :: false :: false :: false :: false :: false :: false :: false :: false :: false :: false :: false :: false :: false :: false :: false :: false :: false :: false :: false :: false :: false :: false :: [])
                · (try dsimp only [maskT]); try exact rfl
                · rfl
                · omega
                exact ⟨i + 1, _, _, rfl, by omega, rfl, by rw [preE_some hi4 ht.slot, List.length_append, hq]; rfl, (by (try have l1 := lt_nb hb); repeat (first | assumption | exact push_at | exact setB_at push_at | (rw [setB_ne (by simp only [setB_nb, push_nb, ne_eq]; omega)]) | apply push_ne | apply setB_at))⟩
             ·
              (try simp only [y1, y2, y3, y4, y5, y6, y7, y8, y9, y0, List.length_map] at hg50)
              apply al_normT
              · (try dsimp only [zS, zN, zH, zT]); try exact rfl
              refine zuw rfl rfl rfl rfl (by dsimp only [zS, zN, zH, zT]) ?_
              refine zuw rfl rfl rfl rfl (by dsimp only [zS, zN, zH, zT]) ?_
              refine zuw rfl rfl rfl rfl (by dsimp only [zS, zN, zH, zT]) ?_
              refine zuw rfl rfl rfl rfl (by dsimp only [zS, zN, zH, zT]) ?_
              refine zsw rfl rfl rfl (op_pick_ff (by rfl) (val_const (by rfl))) (by dsimp only [zS, zN, zH, zT]) ?_
              refine zst (op_pick_ff (by rfl) (val_tmp (by rfl))) rfl (by dsimp only [zS, zN, zH, zT]) ?_
              refine zst (op_move_tmp (by rfl)) rfl (by dsimp only [zS, zN, zH, zT]) ?_
              refine zsw rfl rfl rfl (op_move_tmp (by rfl)) (by dsimp only [zS, zN, zH, zT]) ?_
              refine zsw rfl rfl rfl (op_eqS (by rfl) (by rfl)) (by dsimp only [zS, zN, zH, zT]) ?_
              refine zsw rfl rfl rfl (op_move_tmp (by rfl)) (by dsimp only [zS, zN, zH, zT]) ?_
              refine al_split 178 rfl (fun hg55 => ?_) (fun hg55 => ?_)
              ·
               (try simp only [y1, y2, y3, y4, y5, y6, y7, y8, y9, y0, List.length_map] at hg55)
               have h33 : (whereT (csP l) (m + 1) (idB i)).1 = [] := by simpa using hg55
               apply al_normT
               · (try dsimp only [zS, zN, zH, zT]); try exact rfl
               refine zsw rfl rfl rfl (by first | exact op_fieldAddr_ptr Try.underlying60 rfl Sz58 (by rfl) (by rfl) | exact op_fieldAddr_elt Try.underlying60 rfl Sz58 (by rfl) (by rfl) (by rfl)) (by dsimp only [zS, zN, zH, zT]) ?_
               refine zsw rfl rfl rfl (op_load_ptrsD (mC e.new) Try.underlying58 (by rfl) Sz58 (by rfl) (by (try have l1 := lt_nb hb); repeat (first | assumption | exact push_at | exact setB_at push_at | (rw [setB_ne (by simp only [setB_nb, push_nb, ne_eq]; omega)]) | apply push_ne | apply setB_at)) (Nat.le_of_ble_eq_true rfl) (by rfl) (mC_one _)) (by dsimp only [zS, zN, zH, zT]) ?_
               refine zsw rfl rfl rfl (op_buildD (pl := [(0, 1), (1, 1), (2, 1), (3, 1), (4, 1)]) (mC M0) Try.underlying58 Zr58 (by kernel_rfl) (by rfl) (by rfl) (by rfl) (mC_one _)) (by dsimp only [zS, zN, zH, zT]) ?_
               refine zsw rfl rfl rfl (op_neM (by rfl) (by rfl)) (by dsimp only [zS, zN, zH, zT]) ?_
               refine zsw rfl rfl rfl (op_pick_tt (by rfl) (val_tmp (by rfl))) (by dsimp only [zS, zN, zH, zT]) ?_
               refine zst (op_pick_ff (by rfl) (val_tmp (by rfl))) rfl (by dsimp only [zS, zN, zH, zT]) ?_
               refine al_end rfl ?_
               refine then_normal ?_
               refine aw_cond rfl (fun hc56 => ?_) (fun hc56 => ?_)
               ·
                (try simp only [y1, y2, y3, y4, y5, y6, y7, y8, y9, y0, List.length_map] at hc56)
                exact absurd (ht.new0 h33) (by simpa using hc56)
               ·
                (try simp only [y1, y2, y3, y4, y5, y6, y7, y8, y9, y0, List.length_map] at hc56)
                refine aw_skip ?_
                refine inBlock_normal (then_normal ?_)
                refine aw_region ?_
                refine zst (op_move_tmp (by rfl)) rfl (by dsimp only [zS, zN, zH, zT]) ?_
                refine zst (by first | exact op_add (by rfl) (by rfl) (wrap_i64 ⟨by omega, by omega⟩) | exact op_add (by rfl) (by rfl) (by rfl)) rfl (by dsimp only [zS, zN, zH, zT]) ?_
                refine zst (op_assign_tmp (by rfl)) rfl (by dsimp only [zS, zN, zH, zT]) ?_
                refine al_end rfl ?_
                apply again_to (4 - (i + 1)) (false :: false :: false :: true :: true :: false :: true :: true :: true :: true :: false :: false :: false :: false :: false :: false :: false :: false :: false :: false :: false :: false :: false :: false :: false :: false :: false :: false :: false :: false :: false :: false :: false :: false :: false :: true :: true :: true :: false :: false :: false :: false :: false :: false :: false :: false :: false :: false :: false :: false :: false :: false :: false :: false :: false :: false :: false :: false :: false :: false :: false :: false :: false :: false :: false :: false :: false :: false :: false :: false :: false :: false :: false :: false :: false :: false :: false :: false :: false :: false :: false :: false :: false :: false :: false :: false :: false :: false :: false :: false :: false :: false :: false :: false :: false :: false :: false :: false :: false :: false :: false :: false :: false :: false :: false :: false :: false :: false :: false :: false :: false :: false :: false :: false :: false :: false :: false :: false :: false :: false :: false :: false :: false :: false :: false :: false :: false :: false :: false :: false :: false :: false :: false :: false :: false :: false :: false :: false :: false :: false :: false :: false :: false :: false :: false :: false :: false :: false :: false :: false :: false :: false :: false :: false :: false :: false :: false :: false :: false :: false :: false :: false :: false :: false :: false :: false :: false :: false :: false :: false :: false :: false :: false :: false :: false :: false :: false :: false :: false :: false :: false :: false :: false :: false :: false :: false :: false :: false :: false :: false :: [])
                · (try dsimp only [maskT]); try exact rfl
                · rfl
                · omega
                exact ⟨i + 1, _, _, rfl, by omega, rfl, by rw [preE_some hi4 ht.slot, List.length_append, hq]; rfl, (by (try have l1 := lt_nb hb); repeat (first | assumption | exact push_at | exact setB_at push_at | (rw [setB_ne (by simp only [setB_nb, push_nb, ne_eq]; omega)]) | apply push_ne | apply setB_at))⟩
              ·
               (try simp only [y1, y2, y3, y4, y5, y6, y7, y8, y9, y0, List.length_map] at hg55)
               apply al_normT
               · (try dsimp only [zS, zN, zH, zT]); try exact rfl
               refine zuw rfl rfl rfl rfl (by dsimp only [zS, zN, zH, zT]) ?_
               refine zuw rfl rfl rfl rfl (by dsimp only [zS, zN, zH, zT]) ?_
               refine zuw rfl rfl rfl rfl (by dsimp only [zS, zN, zH, zT]) ?_
               refine zuw rfl rfl rfl rfl (by dsimp only [zS, zN, zH, zT]) ?_
               refine zsw rfl rfl rfl (op_pick_ff (by rfl) (val_const (by rfl))) (by dsimp only [zS, zN, zH, zT]) ?_
               refine zst (op_pick_ff (by rfl) (val_tmp (by rfl))) rfl (by dsimp only [zS, zN, zH, zT]) ?_
               refine al_end rfl ?_
               refine then_normal ?_
               refine aw_cond rfl (fun h => by cases h) (fun _ => ?_)
               refine aw_skip ?_
               refine inBlock_normal (then_normal ?_)
               refine aw_region ?_
               refine zst (op_move_tmp (by rfl)) rfl (by dsimp only [zS, zN, zH, zT]) ?_
               refine zst (by first | exact op_add (by rfl) (by rfl) (wrap_i64 ⟨by omega, by omega⟩) | exact op_add (by rfl) (by rfl) (by rfl)) rfl (by dsimp only [zS, zN, zH, zT]) ?_
               refine zst (op_assign_tmp (by rfl)) rfl (by dsimp only [zS, zN, zH, zT]) ?_
               refine al_end rfl ?_
               apply again_to (4 - (i + 1)) (false :: false :: false :: true :: true :: false :: true :: true :: true :: true :: false :: false :: false :: false :: false :: false :: false :: false :: false :: false :: false :: false :: false :: false :: false :: false :: false :: false :: false :: false :: false :: false :: false :: false :: false :: true :: true :: true :: false :: false :: false :: false :: false :: false :: false :: false :: false :: false :: false :: false :: false :: false :: false :: false :: false :: false :: false :: false :: false :: false :: false :: false :: false :: false :: false :: false :: false :: false :: false :: false :: false :: false :: false :: false :: false :: false :: false :: false :: false :: false :: false :: false :: false :: false :: false :: false :: false :: false :: false :: false :: false :: false :: false :: false :: false :: false :: false :: false :: false :: false :: false :: false :: false :: false :: false :: false :: false :: false :: false :: false :: false :: false :: false :: false :: false :: false :: false :: false :: false :: false :: false :: false :: false :: false :: false :: false :: false :: false :: false :: false :: false :: false :: false :: false :: false :: false :: false :: false :: false :: false :: false :: false :: false :: false :: false :: false :: false :: false :: false :: false :: false :: false :: false :: false :: false :: false :: false :: false :: false :: false :: false :: false :: false :: false :: false :: false :: false :: false :: false :: false :: false :: false :: false :: false :: false :: false :: false :: false :: false :: false :: false :: false :: false :: false :: false :: false :: false :: false :: false :: false :: [])
               · (try dsimp only [maskT]); try exact rfl
               · rfl
               · omega
               exact ⟨i + 1, _, _, rfl, by omega, rfl, by rw [preE_some hi4 ht.slot, List.length_append, hq]; rfl, (by (try have l1 := lt_nb hb); repeat (first | assumption | exact push_at | exact setB_at push_at | (rw [setB_ne (by simp only [setB_nb, push_nb, ne_eq]; omega)]) | apply push_ne | apply setB_at))⟩
   ·
    (try simp only [y1, y2, y3, y4, y5, y6, y7, y8, y9, y0, List.length_map] at hc5)
    have hie : i = 4 := by omega
    subst hie
    rw [preE_full] at hq
    refine aw_exit ?_
    refine then_exit (again_exit (inBlock_here (inBlock_normal (then_normal ?_))))
    refine aw_region ?_
    refine zst (by first | exact op_add (by rfl) (by rfl) (wrap_i64 ⟨by omega, by omega⟩) | exact op_add (by rfl) (by rfl) (by rfl)) rfl (by dsimp only [zS, zN, zH, zT]) ?_
    refine zst (op_move_tmp (by rfl)) rfl (by dsimp only [zS, zN, zH, zT]) ?_
    refine al_end rfl ?_
    apply again_to (8 - (m + 1)) (false :: false :: false :: true :: true :: false :: true :: false :: false :: false :: false :: false :: false :: false :: false :: false :: false :: false :: false :: false :: false :: false :: false :: false :: false :: false :: false :: false :: false :: false :: false :: false :: false :: false :: false :: true :: true :: true :: false :: false :: false :: false :: false :: false :: false :: false :: false :: false :: false :: false :: false :: false :: false :: false :: false :: false :: false :: false :: false :: false :: false :: false :: false :: false :: false :: false :: false :: false :: false :: false :: false :: false :: false :: false :: false :: false :: false :: false :: false :: false :: false :: false :: false :: false :: false :: false :: false :: false :: false :: false :: false :: false :: false :: false :: false :: false :: false :: false :: false :: false :: false :: false :: false :: false :: false :: false :: false :: false :: false :: false :: false :: false :: false :: false :: false :: false :: false :: false :: false :: false :: false :: false :: false :: false :: false :: false :: false :: false :: false :: false :: false :: false :: false :: false :: false :: false :: false :: false :: false :: false :: false :: false :: false :: false :: false :: false :: false :: false :: false :: false :: false :: false :: false :: false :: false :: false :: false :: false :: false :: false :: false :: false :: false :: false :: false :: false :: false :: false :: false :: false :: false :: false :: false :: false :: false :: false :: false :: false :: false :: false :: false :: false :: false :: false :: false :: false :: false :: false :: false :: false :: [])
    · (try dsimp only [maskT]); try exact rfl
    · rfl
    · omega
    exact ⟨m + 1, _, rfl, by omega, rfl, hq⟩
  ·
   (try simp only [y1, y2, y3, y4, y5, y6, y7, y8, y9, y0, List.length_map] at hc4)
   (try simp only [List.length_map, csP_len] at hc4)
   have hme : m = 8 := by omega
   subst hme
   refine aw_exit ?_
   refine then_exit (again_exit (inBlock_here (then_normal ?_)))
   refine aw_seq ?_
   refine aw_region ?_
   refine zst (op_move_tmp (by rfl)) rfl (by dsimp only [zS, zN, zH, zT]) ?_
   refine zst (op_move_tmp (by rfl)) rfl (by dsimp only [zS, zN, zH, zT]) ?_
   refine zst (op_lenL Try.underlying42 (by first | exact LL.d _ _ | exact LL.own _ _ _ | exact LL.nil _ | assumption)) rfl (by dsimp only [zS, zN, zH, zT]) ?_
   refine zst (op_eqI (by rfl) (by rfl)) rfl (by dsimp only [zS, zN, zH, zT]) ?_
   refine zst (op_assign_tmp (by rfl)) rfl (by dsimp only [zS, zN, zH, zT]) ?_
   refine al_end rfl ?_
   refine then_normal ?_
   refine aw_ret ?_
   refine retPost1 rfl rfl ?_
   first | exact rfl | exact congrArg (fun b => AV.d (TF b)) (decide_eq_true (by simp only [List.length_map]; omega))
end Go.Proofs.Ytjbpfnoibeogbaa
