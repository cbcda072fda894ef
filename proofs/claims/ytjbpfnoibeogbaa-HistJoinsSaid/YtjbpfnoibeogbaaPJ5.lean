/- Part 5 of what the law needs: HistC, HistOth, WHistJoins. -/
import Derived.Test.YtjbpfnoibeogbaaPJ4
import Derived.KernelRfl
namespace Go.Proofs.Ytjbpfnoibeogbaa
open Go.AV Go.AV.Ord Go.AV.Oct Go.AV.Hist
set_option linter.unusedVariables false
set_option linter.unusedSimpArgs false
theorem repW0 (m : Mem) : RepD m (.agg #[.string ByteArray.empty, .string ByteArray.empty, .bool false]) (.agg (wC W0)) := by
  refine .agg _ _ rfl (wC_one W0) fun i hi => ?_
  match i, hi with
  | 0, _ => exact .v _ rfl
  | 1, _ => exact .v _ rfl
  | 2, _ => exact .v _ rfl
set_option maxHeartbeats 4000000 in
set_option maxRecDepth 100000 in
theorem commits_ok (Hs : HS) (l : List Pt) (hno : NoIt Hs) (hl : l.length ≤ 1000000) : ACalls Try.prog 17 [.d (.lst 7 (l.map tD))] Hs (fun av H' => ∃ ms, H' = Hs.addM ms ∧ NoIt H' ∧ av = .d (.lst 3 ((csP l).map cD))) := by
 refine ACalls.tidyA ?_
 suffices h : ACalls Try.prog 17 [.d (.lst 7 (l.map tD))] Hs (fun av H' => ∃ ms, NoIt (Hs.addM ms) ∧ Ext (Hs.addM ms) H' ∧ Weak av (.d (.lst 3 ((csP l).map cD)))) from h.weak fun v H' ⟨ms, h2, h3, h4⟩ => ⟨_, h4, ms, .d _, h3, ms, rfl, h2, rfl⟩
 refine acalls_of_aw Try.func17 rfl ?_
 refine aw_start (T' := ((.d (.lst 7 (l.map tD))) :: .un :: .un :: .un :: .un :: .un :: .un :: .un :: .un :: .un :: .un :: .un :: .un :: .un :: .un :: .un :: .un :: .un :: .un :: .un :: .un :: .un :: .un :: .un :: .un :: .un :: .un :: .un :: .un :: .un :: .un :: .un :: .un :: .un :: .un :: .un :: .un :: .un :: .un :: .un :: .un :: .un :: .un :: .un :: .un :: .un :: .un :: .un :: .un :: .un :: .un :: .un :: .un :: .un :: .un :: .un :: .un :: .un :: .un :: .un :: .un :: .un :: .un :: .un :: .un :: .un :: .un :: .un :: .un :: .un :: .un :: .un :: .un :: .un :: .un :: .un :: .un :: .un :: .un :: .un :: .un :: .un :: .un :: .un :: .un :: .un :: .un :: .un :: .un :: .un :: .un :: .un :: .un :: .un :: .un :: .un :: .un :: .un :: .un :: .un :: .un :: .un :: .un :: .un :: .un :: .un :: .un :: .un :: .un :: .un :: .un :: .un :: .un :: .un :: .un :: .un :: .un :: .un :: .un :: .un :: .un :: .un :: .un :: .un :: [])) rfl ?_
 refine aw_seq ?_
 refine aw_region ?_
 refine zst (op_assign_const (by rfl)) rfl (by dsimp only [zS, zN, zH, zT]) ?_
 refine al_end rfl ?_
 refine then_normal ?_
 refine aw_seq ?_
 refine aw_region ?_
 refine zst (op_lit Try.underlying40 ZS48 (.nil _) (by rfl) (by simp) (by simp [flat]) (by decide)) rfl (by dsimp only [zS, zN, zH, zT]) ?_
 refine zst (op_assign_tmp (by rfl)) rfl (by dsimp only [zS, zN, zH, zT]) ?_
 refine al_end rfl ?_
 refine then_normal ?_
 refine aw_seq ?_
 refine aw_seq ?_
 refine aw_region ?_
 refine zst (op_assign_const (by rfl)) rfl (by dsimp only [zS, zN, zH, zT]) ?_
 refine al_end rfl ?_
 refine then_normal ?_
 refine aw_block ?_
 apply aw_loopF (fun n T H => ∃ (k : Nat) (ms : List MB) (w : AV) (t : Option Nat), T = ((.d (.lst 7 (l.map tD))) :: .un :: .un :: w :: (.d (I k)) :: .un :: .un :: .un :: .un :: .un :: .un :: .un :: .un :: .un :: .un :: .un :: .un :: .un :: .un :: .un :: .un :: .un :: .un :: .un :: .un :: .un :: .un :: .un :: .un :: .un :: .un :: .un :: .un :: .un :: .un :: .un :: .un :: .un :: .un :: .un :: .un :: .un :: .un :: .un :: .un :: .un :: .un :: .un :: .un :: .un :: .un :: .un :: .un :: .un :: .un :: .un :: .un :: .un :: .un :: .un :: .un :: .un :: .un :: .un :: .un :: .un :: .un :: .un :: .un :: .un :: .un :: .un :: .un :: .un :: .un :: .un :: .un :: .un :: .un :: .un :: .un :: .un :: .un :: .un :: .un :: .un :: .un :: .un :: .un :: .un :: .un :: .un :: .un :: .un :: .un :: .un :: .un :: .un :: .un :: .un :: .un :: .un :: .un :: .un :: .un :: .un :: .un :: .un :: .un :: .un :: .un :: .un :: .un :: .un :: .un :: .un :: .un :: .un :: .un :: .un :: .un :: .un :: .un :: .un :: []) ∧ k ≤ 8 ∧ n = 8 - k ∧ App w t 3 (((csP l).take k).map cD) ∧ H.ok t k ∧ NewTok Hs t ∧ Ext (Hs.addM ms) H ∧ NoIt H) (8) (true :: false :: false :: true :: true :: false :: false :: false :: false :: false :: false :: false :: false :: false :: false :: false :: false :: false :: false :: false :: false :: false :: false :: false :: false :: false :: false :: false :: false :: false :: false :: false :: false :: false :: false :: false :: false :: false :: false :: false :: false :: false :: false :: false :: false :: false :: false :: false :: false :: false :: false :: false :: false :: false :: false :: false :: false :: false :: false :: false :: false :: false :: false :: false :: false :: false :: false :: false :: false :: false :: false :: false :: false :: false :: false :: false :: false :: false :: false :: false :: false :: false :: false :: false :: false :: false :: false :: false :: false :: false :: false :: false :: false :: false :: false :: false :: false :: false :: false :: false :: false :: false :: false :: false :: false :: false :: false :: false :: false :: false :: false :: false :: false :: false :: false :: false :: false :: false :: false :: false :: false :: false :: false :: false :: [])
 · (try dsimp only [maskT]); try exact rfl
 · rfl
 · exact ⟨0, [], _, none, rfl, by omega, rfl, App.own _ _ _, HS.ok_none _ _, NewTok.none _, by rw [addM_nil]; exact Ext.refl _, hno⟩
 rintro n T H ⟨k, ms, w, t, rfl, hk0, rfl, hv, hok, hnt, hx, hni⟩
 refine aw_seq ?_
 refine aw_seq ?_
 refine aw_region ?_
 refine zst (op_move_tmp (by rfl)) rfl (by dsimp only [zS, zN, zH, zT]) ?_
 refine zst (op_ltI (by rfl) (by rfl)) rfl (by dsimp only [zS, zN, zH, zT]) ?_
 refine al_end rfl ?_
 refine then_normal ?_
 refine aw_cond rfl (fun hc1 => ?_) (fun hc1 => ?_)
 ·
  (try simp only [y1, y2, y3, y4, y5, y6, y7, y8, y9, y0, List.length_map] at hc1)
  have hk8 : k < 8 := by omega
  refine aw_skip ?_
  refine then_normal ?_
  refine aw_seq ?_
  refine aw_block ?_
  refine aw_seq ?_
  refine aw_region ?_
  refine zst (op_makeMap) rfl (by dsimp only [zS, zN, zH, zT]) ?_
  refine zst (op_assign_tmp (by rfl)) rfl (by dsimp only [zS, zN, zH, zT]) ?_
  refine al_end rfl ?_
  refine then_normal ?_
  refine aw_seq ?_
  refine aw_seq ?_
  refine aw_region ?_
  refine zst (op_move_tmp (by rfl)) rfl (by dsimp only [zS, zN, zH, zT]) ?_
  refine zst (op_lenL Try.underlying39 (by first | exact LL.d _ _ | exact LL.own _ _ _ | exact LL.nil _ | assumption)) rfl (by dsimp only [zS, zN, zH, zT]) ?_
  refine zst (op_move_const (by rfl)) rfl (by dsimp only [zS, zN, zH, zT]) ?_
  refine al_end rfl ?_
  refine then_normal ?_
  refine aw_block ?_
  apply aw_loopF (fun n T H => ∃ (j : Nat) (a : Nat) (es : List (List UInt8 × DV)), T = ((.d (.lst 7 (l.map tD))) :: .un :: .un :: w :: (.d (I k)) :: (.map a) :: .un :: .un :: .un :: .un :: .un :: .un :: .un :: .un :: .un :: .un :: .un :: .un :: .un :: .un :: .un :: .un :: .un :: (.d (.lst 7 (l.map tD))) :: (.d (I (l.map tD).length)) :: (.d (I j)) :: .un :: .un :: .un :: .un :: .un :: .un :: .un :: .un :: .un :: .un :: .un :: .un :: .un :: .un :: .un :: .un :: .un :: .un :: .un :: .un :: .un :: .un :: .un :: .un :: .un :: .un :: .un :: .un :: .un :: .un :: .un :: .un :: .un :: .un :: .un :: .un :: .un :: .un :: .un :: .un :: .un :: .un :: .un :: .un :: .un :: .un :: .un :: .un :: .un :: .un :: .un :: .un :: .un :: .un :: .un :: .un :: .un :: .un :: .un :: .un :: .un :: .un :: .un :: .un :: .un :: .un :: .un :: .un :: .un :: .un :: .un :: .un :: .un :: .un :: .un :: .un :: .un :: .un :: .un :: .un :: .un :: .un :: .un :: .un :: .un :: .un :: .un :: .un :: .un :: .un :: .un :: .un :: .un :: .un :: .un :: .un :: .un :: .un :: []) ∧ j ≤ l.length ∧ n = l.length - j ∧ a = (Hs.addM ms).nm ∧ Holds k (l.take j) es ∧ Ext ((Hs.addM ms).pushM (.map es)) H ∧ NoIt H ∧ H.ok t k) (l.length) (true :: false :: false :: true :: true :: true :: false :: false :: false :: false :: false :: false :: false :: false :: false :: false :: false :: false :: false :: false :: false :: false :: false :: true :: true :: true :: false :: false :: false :: false :: false :: false :: false :: false :: false :: false :: false :: false :: false :: false :: false :: false :: false :: false :: false :: false :: false :: false :: false :: false :: false :: false :: false :: false :: false :: false :: false :: false :: false :: false :: false :: false :: false :: false :: false :: false :: false :: false :: false :: false :: false :: false :: false :: false :: false :: false :: false :: false :: false :: false :: false :: false :: false :: false :: false :: false :: false :: false :: false :: false :: false :: false :: false :: false :: false :: false :: false :: false :: false :: false :: false :: false :: false :: false :: false :: false :: false :: false :: false :: false :: false :: false :: false :: false :: false :: false :: false :: false :: false :: false :: false :: false :: false :: false :: [])
  · (try dsimp only [maskT]); try exact rfl
  · rfl
  · exact ⟨0, _, [], rfl, by omega, rfl, by unfold HS.nm; rw [hx.maps], Holds.nil _, Ext.pushM1 hx, hni.push _, hok⟩
  rintro n T H ⟨j, a, es, rfl, hj, rfl, han, hh, hx, hni, hok⟩
  refine aw_seq ?_
  refine aw_region ?_
  refine zst (op_ltI (by rfl) (by rfl)) rfl (by dsimp only [zS, zN, zH, zT]) ?_
  refine al_end rfl ?_
  refine then_normal ?_
  refine aw_seq ?_
  refine aw_cond rfl (fun hc2 => ?_) (fun hc2 => ?_)
  ·
   (try simp only [y1, y2, y3, y4, y5, y6, y7, y8, y9, y0, List.length_map] at hc2)
   (try simp only [List.length_map] at hc2)
   have hlt : j < l.length := by omega
   obtain ⟨p, hp1⟩ : ∃ z0, l[j]? = some z0 := ⟨_, List.getElem?_eq_getElem hlt⟩
   have b1 := low_le p.id (k := 4) (by decide)
   have b2 := low_le p.token (k := 4) (by decide)
   have b3 := low_le p.q (k := 2) (by decide)
   refine aw_skip ?_
   refine then_normal ?_
   refine aw_seq ?_
   refine aw_block ?_
   refine aw_seq ?_
   refine aw_region ?_
   refine zst (op_indexAddr (z := tD p) (cs := [I p.c, I p.q, I p.id, TF p.gone, I p.ready, I p.count, I p.token]) Try.underlying39 Sz112 (LL.d _ _) (by rfl) (by omega) (by rw [List.getElem?_map, show ((j : Nat) : Int).toNat = j from rfl, hp1]; rfl) (by rfl)) rfl (by dsimp only [zS, zN, zH, zT]) ?_
   refine zst (op_load_elts (ds := tC p) Try.underlying112 (by rfl) Sz112 (by rfl) (Nat.le_of_ble_eq_true rfl) (by rfl)) rfl (by dsimp only [zS, zN, zH, zT]) ?_
   refine zst (op_alloc (Zr112) (by rfl)) rfl (by dsimp only [zS, zN, zH, zT]) ?_
   refine zst (op_storeB (vs := [.d (I p.c), .d (I p.q), .d (I p.id), .d (TF p.gone), .d (I p.ready), .d (I p.count), .d (I p.token)]) (b' := ⟨112, [.d (I p.c), .d (I p.q), .d (I p.id), .d (TF p.gone), .d (I p.ready), .d (I p.count), .d (I p.token)], false⟩) (H' := _) Sz112 (by rfl) push_at (by intro h; cases h) (by rfl) (by rfl) (Nat.le_of_ble_eq_true rfl) (by simp [AV.one, DV.one, TF, S, I, BY]) (by rfl) (by rfl) rfl) rfl (by dsimp only [zS, zN, zH, zT]) ?_
   refine al_end rfl ?_
   refine then_normal ?_
   refine aw_seq ?_
   refine aw_seq ?_
   refine aw_region ?_
   refine zst (by first | exact op_fieldAddr_ptr Try.underlying112 rfl Sz3 (by rfl) (by rfl) | exact op_fieldAddr_elt Try.underlying112 rfl Sz3 (by rfl) (by rfl) (by rfl)) rfl (by dsimp only [zS, zN, zH, zT]) ?_
   refine zst (by first | exact op_load_elt Try.underlying3 (by rfl) (by rfl) (by rfl) | exact op_load_ptr Try.underlying3 (by rfl) (by rfl) (by (try have l1 := lt_nb hb1); (try have l2 := lt_nb hb2); repeat (first | assumption | exact push_at | exact setB_at push_at | (rw [HS.up_blks]) | (rw [pushM_blks]) | (rw [setM_blks]) | (rw [setB_ne (by simp only [setB_nb, push_nb, pushM_nb, setM_nb, ne_eq]; omega)]) | apply push_ne | apply setB_at)) (by rfl)) rfl (by dsimp only [zS, zN, zH, zT]) ?_
   refine zst (op_and (by rfl) (by rfl) (and_7 _)) rfl (by dsimp only [zS, zN, zH, zT]) ?_
   refine zst (op_move_tmp (by rfl)) rfl (by dsimp only [zS, zN, zH, zT]) ?_
   refine zst (op_neI (by rfl) (by rfl)) rfl (by dsimp only [zS, zN, zH, zT]) ?_
   refine al_end rfl ?_
   refine then_normal ?_
   refine aw_cond rfl (fun hc3 => ?_) (fun hc3 => ?_)
   ·
    (try simp only [y1, y2, y3, y4, y5, y6, y7, y8, y9, y0, List.length_map] at hc3)
    have hc0 : ¬ low p.c 8 = k := by omega
    refine aw_exit ?_
    refine then_exit (inBlock_here (then_normal ?_))
    refine aw_region ?_
    refine zst (by first | exact op_add (by rfl) (by rfl) (wrap_i64 ⟨by omega, by omega⟩) | exact op_add (by rfl) (by rfl) (by rfl)) rfl (by dsimp only [zS, zN, zH, zT]) ?_
    refine zst (op_move_tmp (by rfl)) rfl (by dsimp only [zS, zN, zH, zT]) ?_
    refine al_end rfl ?_
    apply again_to (l.length - (j + 1)) (true :: false :: false :: true :: true :: true :: false :: false :: false :: false :: false :: false :: false :: false :: false :: false :: false :: false :: false :: false :: false :: false :: false :: true :: true :: true :: false :: false :: false :: false :: false :: false :: false :: false :: false :: false :: false :: false :: false :: false :: false :: false :: false :: false :: false :: false :: false :: false :: false :: false :: false :: false :: false :: false :: false :: false :: false :: false :: false :: false :: false :: false :: false :: false :: false :: false :: false :: false :: false :: false :: false :: false :: false :: false :: false :: false :: false :: false :: false :: false :: false :: false :: false :: false :: false :: false :: false :: false :: false :: false :: false :: false :: false :: false :: false :: false :: false :: false :: false :: false :: false :: false :: false :: false :: false :: false :: false :: false :: false :: false :: false :: false :: false :: false :: false :: false :: false :: false :: false :: false :: false :: false :: false :: false :: [])
    · (try dsimp only [maskT]); try exact rfl
    · rfl
    · omega
    exact ⟨j + 1, _, _, rfl, by omega, rfl, han, by rw [take_snoc hp1]; exact hh.pass hc0, (by repeat (first | assumption | apply Ext.push | (refine Ext.setB ?_ (by have := nb_le hx; (try simp only [setB_nb, push_nb, pushM_nb]); (try simp only [pushM_nb] at this); omega)))), hni.of rfl, hok⟩
   ·
    (try simp only [y1, y2, y3, y4, y5, y6, y7, y8, y9, y0, List.length_map] at hc3)
    have hc0 : low p.c 8 = k := by omega
    refine aw_skip ?_
    refine then_normal ?_
    refine aw_seq ?_
    refine aw_region ?_
    refine zst (by first | exact op_fieldAddr_ptr Try.underlying112 rfl Sz3 (by rfl) (by rfl) | exact op_fieldAddr_elt Try.underlying112 rfl Sz3 (by rfl) (by rfl) (by rfl)) rfl (by dsimp only [zS, zN, zH, zT]) ?_
    refine zst (by first | exact op_load_elt Try.underlying3 (by rfl) (by rfl) (by rfl) | exact op_load_ptr Try.underlying3 (by rfl) (by rfl) (by (try have l1 := lt_nb hb1); (try have l2 := lt_nb hb2); repeat (first | assumption | exact push_at | exact setB_at push_at | (rw [HS.up_blks]) | (rw [pushM_blks]) | (rw [setM_blks]) | (rw [setB_ne (by simp only [setB_nb, push_nb, pushM_nb, setM_nb, ne_eq]; omega)]) | apply push_ne | apply setB_at)) (by rfl)) rfl (by dsimp only [zS, zN, zH, zT]) ?_
    refine zst (op_and (by rfl) (by rfl) (and_3 _)) rfl (by dsimp only [zS, zN, zH, zT]) ?_
    refine zst (op_convI (r := (((low p.id 4) : Nat) : Int)) (by rw [Try.underlying3]; rfl) Try.underlying5 (by rfl) (wrap_u8 ⟨by omega, by omega⟩)) rfl (by dsimp only [zS, zN, zH, zT]) ?_
    refine zst (op_add (r := ((UInt8.ofNat (48 + (low p.id 4))).toNat : Int)) (by rfl) (by rfl) (byte_add (by omega) (by omega))) rfl (by dsimp only [zS, zN, zH, zT]) ?_
    refine zst (op_lit Try.underlying49 ZS5 (.cons (y := BY (UInt8.ofNat (48 + (low p.id 4)))) (by rfl) (.nil _)) (by rfl) (lit_b _) (lit_b1 _) (by decide)) rfl (by dsimp only [zS, zN, zH, zT]) ?_
    refine zst (op_string (l := idB (low p.id 4)) Try.underlying49 Try.underlying9 Try.underlying5 (LL.own _ _ _) (by rfl)) rfl (by dsimp only [zS, zN, zH, zT]) ?_
    refine zst (op_assign_tmp (by rfl)) rfl (by dsimp only [zS, zN, zH, zT]) ?_
    refine al_end rfl ?_
    refine then_normal ?_
    refine aw_seq ?_
    refine aw_region ?_
    refine zst (op_move_tmp (by rfl)) rfl (by dsimp only [zS, zN, zH, zT]) ?_
    refine zst (by first | exact op_fieldAddr_ptr Try.underlying112 rfl Sz3 (by rfl) (by rfl) | exact op_fieldAddr_elt Try.underlying112 rfl Sz3 (by rfl) (by rfl) (by rfl)) rfl (by dsimp only [zS, zN, zH, zT]) ?_
    refine zst (by first | exact op_load_elt Try.underlying3 (by rfl) (by rfl) (by rfl) | exact op_load_ptr Try.underlying3 (by rfl) (by rfl) (by (try have l1 := lt_nb hb1); (try have l2 := lt_nb hb2); repeat (first | assumption | exact push_at | exact setB_at push_at | (rw [HS.up_blks]) | (rw [pushM_blks]) | (rw [setM_blks]) | (rw [setB_ne (by simp only [setB_nb, push_nb, pushM_nb, setM_nb, ne_eq]; omega)]) | apply push_ne | apply setB_at)) (by rfl)) rfl (by dsimp only [zS, zN, zH, zT]) ?_
    refine zst (op_and (by rfl) (by rfl) (and_63 _)) rfl (by dsimp only [zS, zN, zH, zT]) ?_
    refine zst (by first | exact op_fieldAddr_ptr Try.underlying112 rfl Sz3 (by rfl) (by rfl) | exact op_fieldAddr_elt Try.underlying112 rfl Sz3 (by rfl) (by rfl) (by rfl)) rfl (by dsimp only [zS, zN, zH, zT]) ?_
    refine zst (by first | exact op_load_elt Try.underlying3 (by rfl) (by rfl) (by rfl) | exact op_load_ptr Try.underlying3 (by rfl) (by rfl) (by (try have l1 := lt_nb hb1); (try have l2 := lt_nb hb2); repeat (first | assumption | exact push_at | exact setB_at push_at | (rw [HS.up_blks]) | (rw [pushM_blks]) | (rw [setM_blks]) | (rw [setB_ne (by simp only [setB_nb, push_nb, pushM_nb, setM_nb, ne_eq]; omega)]) | apply push_ne | apply setB_at)) (by rfl)) rfl (by dsimp only [zS, zN, zH, zT]) ?_
    refine zst (op_and (by rfl) (by rfl) (and_7 _)) rfl (by dsimp only [zS, zN, zH, zT]) ?_
    refine zst (op_buildD (pl := [(0, 1), (1, 1), (2, 1), (3, 1), (4, 1)]) (mC ⟨idB (low p.id 4), [], ((low p.ready 64) : Nat), ((low p.count 8) : Nat), []⟩) Try.underlying58 Zr58 (by kernel_rfl) (by rfl) (by rfl) (by rfl) (mC_one _)) rfl (by dsimp only [zS, zN, zH, zT]) ?_
    refine zst (op_alloc (Zr58) (by rfl)) rfl (by dsimp only [zS, zN, zH, zT]) ?_
    refine zst (op_storeB (vs := [.d (S (idB (low p.id 4))), .d (S []), .d (I ((low p.ready 64) : Nat)), .d (I ((low p.count 8) : Nat)), .d (S [])]) (b' := ⟨58, [.d (S (idB (low p.id 4))), .d (S []), .d (I ((low p.ready 64) : Nat)), .d (I ((low p.count 8) : Nat)), .d (S [])], false⟩) (H' := _) Sz58 (by rfl) push_at (by intro h; cases h) (by rfl) (by rfl) (Nat.le_of_ble_eq_true rfl) (by simp [AV.one, DV.one, TF, S, I, BY]) (by rfl) (by rfl) rfl) rfl (by dsimp only [zS, zN, zH, zT]) ?_
    refine al_end rfl ?_
    refine then_normal ?_
    apply aw_cutF (fun T H => ∃ (x : Nat) (y : Nat), T = ((.d (.lst 7 (l.map tD))) :: .un :: .un :: w :: (.d (I k)) :: (.map a) :: .un :: (.ptr x 0) :: (.d (S (idB (low p.id 4)))) :: (.ptr y 0) :: .un :: .un :: .un :: .un :: .un :: .un :: .un :: .un :: .un :: .un :: .un :: .un :: .un :: (.d (.lst 7 (l.map tD))) :: (.d (I (l.map tD).length)) :: (.d (I j)) :: .un :: .un :: .un :: .un :: .un :: .un :: .un :: .un :: .un :: .un :: .un :: .un :: .un :: .un :: .un :: .un :: .un :: .un :: .un :: .un :: .un :: .un :: .un :: .un :: .un :: .un :: .un :: .un :: .un :: .un :: .un :: .un :: .un :: .un :: .un :: .un :: .un :: .un :: .un :: .un :: .un :: .un :: .un :: .un :: .un :: .un :: .un :: .un :: .un :: .un :: .un :: .un :: .un :: .un :: .un :: .un :: .un :: .un :: .un :: .un :: .un :: .un :: .un :: .un :: .un :: .un :: .un :: .un :: .un :: .un :: .un :: .un :: .un :: .un :: .un :: .un :: .un :: .un :: .un :: .un :: .un :: .un :: .un :: .un :: .un :: .un :: .un :: .un :: .un :: .un :: .un :: .un :: .un :: .un :: .un :: .un :: .un :: .un :: []) ∧ H.blks[x]? = some ⟨112, [.d (I p.c), .d (I p.q), .d (I p.id), .d (TF p.gone), .d (I p.ready), .d (I p.count), .d (I p.token)], false⟩ ∧ H.blks[y]? = some ⟨58, [.d (S (idB (low p.id 4))), .d (S []), .d (I ((low p.ready 64) : Nat)), .d (I ((low p.count 8) : Nat)), .d (S (tkB (low p.token 4)))], false⟩ ∧ Ext ((Hs.addM ms).pushM (.map es)) H ∧ NoIt H ∧ H.ok t k)
    ·
     refine aw_seq ?_
     refine aw_region ?_
     refine zst (by first | exact op_fieldAddr_ptr Try.underlying112 rfl Sz3 (by rfl) (by rfl) | exact op_fieldAddr_elt Try.underlying112 rfl Sz3 (by rfl) (by rfl) (by rfl)) rfl (by dsimp only [zS, zN, zH, zT]) ?_
     refine zst (by first | exact op_load_elt Try.underlying3 (by rfl) (by rfl) (by rfl) | exact op_load_ptr Try.underlying3 (by rfl) (by rfl) (by (try have l1 := lt_nb hb1); (try have l2 := lt_nb hb2); repeat (first | assumption | exact push_at | exact setB_at push_at | (rw [HS.up_blks]) | (rw [pushM_blks]) | (rw [setM_blks]) | (rw [setB_ne (by simp only [setB_nb, push_nb, pushM_nb, setM_nb, ne_eq]; omega)]) | apply push_ne | apply setB_at)) (by rfl)) rfl (by dsimp only [zS, zN, zH, zT]) ?_
     refine zst (op_and (by rfl) (by rfl) (and_3 _)) rfl (by dsimp only [zS, zN, zH, zT]) ?_
     refine zst (op_gtI (by rfl) (by rfl)) rfl (by dsimp only [zS, zN, zH, zT]) ?_
     refine al_end rfl ?_
     refine then_normal ?_
     refine aw_cond rfl (fun hc4 => ?_) (fun hc4 => ?_)
     ·
      (try simp only [y1, y2, y3, y4, y5, y6, y7, y8, y9, y0, List.length_map] at hc4)
      have htk : 0 < (low p.token 4) := by omega
      refine aw_region ?_
      refine zst (by first | exact op_fieldAddr_ptr Try.underlying112 rfl Sz3 (by rfl) (by rfl) | exact op_fieldAddr_elt Try.underlying112 rfl Sz3 (by rfl) (by rfl) (by rfl)) rfl (by dsimp only [zS, zN, zH, zT]) ?_
      refine zst (by first | exact op_load_elt Try.underlying3 (by rfl) (by rfl) (by rfl) | exact op_load_ptr Try.underlying3 (by rfl) (by rfl) (by (try have l1 := lt_nb hb1); (try have l2 := lt_nb hb2); repeat (first | assumption | exact push_at | exact setB_at push_at | (rw [HS.up_blks]) | (rw [pushM_blks]) | (rw [setM_blks]) | (rw [setB_ne (by simp only [setB_nb, push_nb, pushM_nb, setM_nb, ne_eq]; omega)]) | apply push_ne | apply setB_at)) (by rfl)) rfl (by dsimp only [zS, zN, zH, zT]) ?_
      refine zst (op_and (by rfl) (by rfl) (and_3 _)) rfl (by dsimp only [zS, zN, zH, zT]) ?_
      refine zst (op_convI (r := (((low p.token 4) : Nat) : Int)) (by rw [Try.underlying3]; rfl) Try.underlying5 (by rfl) (wrap_u8 ⟨by omega, by omega⟩)) rfl (by dsimp only [zS, zN, zH, zT]) ?_
      refine zst (op_add (r := ((UInt8.ofNat (116 + (low p.token 4))).toNat : Int)) (by rfl) (by rfl) (byte_add (by omega) (by omega))) rfl (by dsimp only [zS, zN, zH, zT]) ?_
      refine zst (op_lit Try.underlying49 ZS5 (.cons (y := BY (UInt8.ofNat (116 + (low p.token 4)))) (by rfl) (.nil _)) (by rfl) (lit_b _) (lit_b1 _) (by decide)) rfl (by dsimp only [zS, zN, zH, zT]) ?_
      refine zst (op_string (l := [UInt8.ofNat (116 + (low p.token 4))]) Try.underlying49 Try.underlying9 Try.underlying5 (LL.own _ _ _) (by rfl)) rfl (by dsimp only [zS, zN, zH, zT]) ?_
      refine zst (by first | exact op_fieldAddr_ptr Try.underlying58 rfl Sz9 (by rfl) (by rfl) | exact op_fieldAddr_elt Try.underlying58 rfl Sz9 (by rfl) (by rfl) (by rfl)) rfl (by dsimp only [zS, zN, zH, zT]) ?_
      refine zst (op_storeB (vs := [.d (S [UInt8.ofNat (116 + (low p.token 4))])]) (b' := ⟨58, [.d (S (idB (low p.id 4))), .d (S []), .d (I ((low p.ready 64) : Nat)), .d (I ((low p.count 8) : Nat)), .d (S [UInt8.ofNat (116 + (low p.token 4))])], false⟩) (H' := _) Sz9 (by rfl) (by (try have l1 := lt_nb hb1); (try have l2 := lt_nb hb2); repeat (first | assumption | exact push_at | exact setB_at push_at | (rw [HS.up_blks]) | (rw [pushM_blks]) | (rw [setM_blks]) | (rw [setB_ne (by simp only [setB_nb, push_nb, pushM_nb, setM_nb, ne_eq]; omega)]) | apply push_ne | apply setB_at)) (by intro h; cases h) (by rfl) (by rfl) (Nat.le_of_ble_eq_true rfl) (by simp [AV.one, DV.one, TF, S, I, BY]) (by rfl) (by rfl) rfl) rfl (by dsimp only [zS, zN, zH, zT]) ?_
      refine al_end rfl ?_
      apply cut_to (true :: false :: false :: true :: true :: true :: false :: true :: true :: true :: false :: false :: false :: false :: false :: false :: false :: false :: false :: false :: false :: false :: false :: true :: true :: true :: false :: false :: false :: false :: false :: false :: false :: false :: false :: false :: false :: false :: false :: false :: false :: false :: false :: false :: false :: false :: false :: false :: false :: false :: false :: false :: false :: false :: false :: false :: false :: false :: false :: false :: false :: false :: false :: false :: false :: false :: false :: false :: false :: false :: false :: false :: false :: false :: false :: false :: false :: false :: false :: false :: false :: false :: false :: false :: false :: false :: false :: false :: false :: false :: false :: false :: false :: false :: false :: false :: false :: false :: false :: false :: false :: false :: false :: false :: false :: false :: false :: false :: false :: false :: false :: false :: false :: false :: false :: false :: false :: false :: false :: false :: false :: false :: false :: false :: [])
      · (try dsimp only [maskT]); try exact rfl
      · rfl
      exact ⟨_, _, rfl, (by (try have l1 := lt_nb hb1); (try have l2 := lt_nb hb2); repeat (first | assumption | exact push_at | exact setB_at push_at | (rw [HS.up_blks]) | (rw [pushM_blks]) | (rw [setM_blks]) | (rw [setB_ne (by simp only [setB_nb, push_nb, pushM_nb, setM_nb, ne_eq]; omega)]) | apply push_ne | apply setB_at)), by rw [tkB_pos htk]; exact (by (try have l1 := lt_nb hb1); (try have l2 := lt_nb hb2); repeat (first | assumption | exact push_at | exact setB_at push_at | (rw [HS.up_blks]) | (rw [pushM_blks]) | (rw [setM_blks]) | (rw [setB_ne (by simp only [setB_nb, push_nb, pushM_nb, setM_nb, ne_eq]; omega)]) | apply push_ne | apply setB_at)), (by repeat (first | assumption | apply Ext.push | (refine Ext.setB ?_ (by have := nb_le hx; (try simp only [setB_nb, push_nb, pushM_nb]); (try simp only [pushM_nb] at this); omega)))), hni.of rfl, hok⟩
     ·
      (try simp only [y1, y2, y3, y4, y5, y6, y7, y8, y9, y0, List.length_map] at hc4)
      have htk : ¬ 0 < (low p.token 4) := by omega
      refine aw_skip ?_
      apply cut_to (true :: false :: false :: true :: true :: true :: false :: true :: true :: true :: false :: false :: false :: false :: false :: false :: false :: false :: false :: false :: false :: false :: false :: true :: true :: true :: false :: false :: false :: false :: false :: false :: false :: false :: false :: false :: false :: false :: false :: false :: false :: false :: false :: false :: false :: false :: false :: false :: false :: false :: false :: false :: false :: false :: false :: false :: false :: false :: false :: false :: false :: false :: false :: false :: false :: false :: false :: false :: false :: false :: false :: false :: false :: false :: false :: false :: false :: false :: false :: false :: false :: false :: false :: false :: false :: false :: false :: false :: false :: false :: false :: false :: false :: false :: false :: false :: false :: false :: false :: false :: false :: false :: false :: false :: false :: false :: false :: false :: false :: false :: false :: false :: false :: false :: false :: false :: false :: false :: false :: false :: false :: false :: false :: false :: [])
      · (try dsimp only [maskT]); try exact rfl
      · rfl
      exact ⟨_, _, rfl, (by (try have l1 := lt_nb hb1); (try have l2 := lt_nb hb2); repeat (first | assumption | exact push_at | exact setB_at push_at | (rw [HS.up_blks]) | (rw [pushM_blks]) | (rw [setM_blks]) | (rw [setB_ne (by simp only [setB_nb, push_nb, pushM_nb, setM_nb, ne_eq]; omega)]) | apply push_ne | apply setB_at)), by rw [tkB_zero htk]; exact (by (try have l1 := lt_nb hb1); (try have l2 := lt_nb hb2); repeat (first | assumption | exact push_at | exact setB_at push_at | (rw [HS.up_blks]) | (rw [pushM_blks]) | (rw [setM_blks]) | (rw [setB_ne (by simp only [setB_nb, push_nb, pushM_nb, setM_nb, ne_eq]; omega)]) | apply push_ne | apply setB_at)), (by repeat (first | assumption | apply Ext.push | (refine Ext.setB ?_ (by have := nb_le hx; (try simp only [setB_nb, push_nb, pushM_nb]); (try simp only [pushM_nb] at this); omega)))), hni.of rfl, hok⟩
    rintro T H ⟨x, y, rfl, hb1, hb2, hx, hni, hok⟩
    refine aw_seq ?_
    refine aw_region ?_
    refine zst (by first | exact op_fieldAddr_ptr Try.underlying112 rfl Sz3 (by rfl) (by rfl) | exact op_fieldAddr_elt Try.underlying112 rfl Sz3 (by rfl) (by rfl) (by rfl)) rfl (by dsimp only [zS, zN, zH, zT]) ?_
    refine zst (by first | exact op_load_elt Try.underlying3 (by rfl) (by rfl) (by rfl) | exact op_load_ptr Try.underlying3 (by rfl) (by rfl) (by (try have l1 := lt_nb hb1); (try have l2 := lt_nb hb2); repeat (first | assumption | exact push_at | exact setB_at push_at | (rw [HS.up_blks]) | (rw [pushM_blks]) | (rw [setM_blks]) | (rw [setB_ne (by simp only [setB_nb, push_nb, pushM_nb, setM_nb, ne_eq]; omega)]) | apply push_ne | apply setB_at)) (by rfl)) rfl (by dsimp only [zS, zN, zH, zT]) ?_
    refine zst (op_and (by rfl) (by rfl) (and_1 _)) rfl (by dsimp only [zS, zN, zH, zT]) ?_
    refine zst (op_convI (r := (((low p.q 2) : Nat) : Int)) (by rw [Try.underlying3]; rfl) Try.underlying5 (by rfl) (wrap_u8 ⟨by omega, by omega⟩)) rfl (by dsimp only [zS, zN, zH, zT]) ?_
    refine zst (op_add (r := ((UInt8.ofNat (97 + (low p.q 2))).toNat : Int)) (by rfl) (by rfl) (byte_add (by omega) (by omega))) rfl (by dsimp only [zS, zN, zH, zT]) ?_
    refine zst (op_lit Try.underlying49 ZS5 (.cons (y := BY (UInt8.ofNat (97 + (low p.q 2)))) (by rfl) (.nil _)) (by rfl) (lit_b _) (lit_b1 _) (by decide)) rfl (by dsimp only [zS, zN, zH, zT]) ?_
    refine zst (op_string (l := qB (low p.q 2)) Try.underlying49 Try.underlying9 Try.underlying5 (LL.own _ _ _) (by rfl)) rfl (by dsimp only [zS, zN, zH, zT]) ?_
    refine zst (op_move_tmp (by rfl)) rfl (by dsimp only [zS, zN, zH, zT]) ?_
    refine zst (op_lit Try.underlying52 ZS9 (.cons (by rfl) (.cons (by rfl) (.cons (by rfl) (.nil _)))) (by rfl) (by simp [BY, S, I, TF, DV.cells]) (by simp [flat, BY, S, I, TF, DV.cells, DV.one]) (by decide)) rfl (by dsimp only [zS, zN, zH, zT]) ?_
    refine zst (op_callF Try.func51 (by rfl) (by rfl) (.tmp (by rfl) .nil) (key_ok _ _ [[109], qB (low p.q 2), idB (low p.id 4)] (LL.own _ _ _) (by simp [qB, idB]))) rfl (by dsimp only [zS, zN, zH, zT]) ?_
    refine zst (op_assign_tmp (by rfl)) rfl (by dsimp only [zS, zN, zH, zT]) ?_
    refine al_end rfl ?_
    refine then_normal ?_
    refine aw_seq ?_
    refine aw_region ?_
    refine zst (op_move_tmp (by rfl)) rfl (by dsimp only [zS, zN, zH, zT]) ?_
    refine zst (op_move_tmp (by rfl)) rfl (by dsimp only [zS, zN, zH, zT]) ?_
    refine zst (op_move_tmp (by rfl)) rfl (by dsimp only [zS, zN, zH, zT]) ?_
    refine zst (op_load_ptrsD (mC (msgP p)) Try.underlying58 (by rfl) Sz58 (by rfl) (by (try have l1 := lt_nb hb1); (try have l2 := lt_nb hb2); repeat (first | assumption | exact push_at | exact setB_at push_at | (rw [HS.up_blks]) | (rw [pushM_blks]) | (rw [setM_blks]) | (rw [setB_ne (by simp only [setB_nb, push_nb, pushM_nb, setM_nb, ne_eq]; omega)]) | apply push_ne | apply setB_at)) (Nat.le_of_ble_eq_true rfl) (by rfl) (mC_one _)) rfl (by dsimp only [zS, zN, zH, zT]) ?_
    refine zst (op_callF Try.func21 (by rfl) (by rfl) (.tmp (by rfl) .nil) (menc_ok _ (msgP p) (msgP_rd p) (msgP_ct p) (msgP_ln p))) rfl (by dsimp only [zS, zN, zH, zT]) ?_
    refine zst (op_buildD (pl := [(0, 1), (1, 1), (2, 1)]) (wC (putW p)) Try.underlying51 Zr51 (by kernel_rfl) (by rfl) (by rfl) (by rfl) (wC_one _)) rfl (by dsimp only [zS, zN, zH, zT]) ?_
    refine zst (op_mapUpdate (d := wD (putW p)) Try.underlying110 Try.underlying9 (by rfl) (by rfl) (Weak.refl _) (by rw [han]; exact pushM_at hx) (fun j n q => (hni) j _ n q)) rfl (by dsimp only [zS, zN, zH, zT]) ?_
    refine al_end rfl ?_
    refine then_normal ?_
    refine aw_seq ?_
    have hx2 := Ext.setM hx (m' := .map (putE es (keyP p) (wD (putW p))))
    have hni2 := NoIt.setM hni a (putE es (keyP p) (wD (putW p)))
    refine aw_region ?_
    refine zst (by first | exact op_fieldAddr_ptr Try.underlying112 rfl Sz4 (by rfl) (by rfl) | exact op_fieldAddr_elt Try.underlying112 rfl Sz4 (by rfl) (by rfl) (by rfl)) rfl (by dsimp only [zS, zN, zH, zT]) ?_
    refine zst (by first | exact op_load_elt Try.underlying4 (by rfl) (by rfl) (by rfl) | exact op_load_ptr Try.underlying4 (by rfl) (by rfl) (by (try have l1 := lt_nb hb1); (try have l2 := lt_nb hb2); repeat (first | assumption | exact push_at | exact setB_at push_at | (rw [HS.up_blks]) | (rw [pushM_blks]) | (rw [setM_blks]) | (rw [setB_ne (by simp only [setB_nb, push_nb, pushM_nb, setM_nb, ne_eq]; omega)]) | apply push_ne | apply setB_at)) (by rfl)) rfl (by dsimp only [zS, zN, zH, zT]) ?_
    refine al_end rfl ?_
    refine then_normal ?_
    refine aw_cond rfl (fun hc5 => ?_) (fun hc5 => ?_)
    ·
     (try simp only [y1, y2, y3, y4, y5, y6, y7, y8, y9, y0, List.length_map] at hc5)
     have hgo : p.gone = true := hc5
     refine aw_region ?_
     refine zst (op_move_tmp (by rfl)) rfl (by dsimp only [zS, zN, zH, zT]) ?_
     refine zst (op_move_tmp (by rfl)) rfl (by dsimp only [zS, zN, zH, zT]) ?_
     refine zst (op_move_tmp (by rfl)) rfl (by dsimp only [zS, zN, zH, zT]) ?_
     refine zst (op_buildD (pl := [(0, 1), (1, 1), (2, 1)]) (wC (goneW p)) Try.underlying51 Zr51 (by kernel_rfl) (by rfl) (by rfl) (by rfl) (wC_one _)) rfl (by dsimp only [zS, zN, zH, zT]) ?_
     refine zst (op_mapUpdate (d := wD (goneW p)) Try.underlying110 Try.underlying9 (by rfl) (by rfl) (Weak.refl _) (by rw [han]; exact pushM_at hx2) (fun j n q => (hni2) j _ n q)) rfl (by dsimp only [zS, zN, zH, zT]) ?_
     refine al_end rfl ?_
     refine inBlock_normal (then_normal ?_)
     refine aw_region ?_
     refine zst (by first | exact op_add (by rfl) (by rfl) (wrap_i64 ⟨by omega, by omega⟩) | exact op_add (by rfl) (by rfl) (by rfl)) rfl (by dsimp only [zS, zN, zH, zT]) ?_
     refine zst (op_move_tmp (by rfl)) rfl (by dsimp only [zS, zN, zH, zT]) ?_
     refine al_end rfl ?_
     apply again_to (l.length - (j + 1)) (true :: false :: false :: true :: true :: true :: false :: false :: false :: false :: false :: false :: false :: false :: false :: false :: false :: false :: false :: false :: false :: false :: false :: true :: true :: true :: false :: false :: false :: false :: false :: false :: false :: false :: false :: false :: false :: false :: false :: false :: false :: false :: false :: false :: false :: false :: false :: false :: false :: false :: false :: false :: false :: false :: false :: false :: false :: false :: false :: false :: false :: false :: false :: false :: false :: false :: false :: false :: false :: false :: false :: false :: false :: false :: false :: false :: false :: false :: false :: false :: false :: false :: false :: false :: false :: false :: false :: false :: false :: false :: false :: false :: false :: false :: false :: false :: false :: false :: false :: false :: false :: false :: false :: false :: false :: false :: false :: false :: false :: false :: false :: false :: false :: false :: false :: false :: false :: false :: false :: false :: false :: false :: false :: false :: [])
     · (try dsimp only [maskT]); try exact rfl
     · rfl
     · omega
     exact ⟨j + 1, _, _, rfl, by omega, rfl, han, by rw [take_snoc hp1]; exact hh.gone hc0 hgo, by rw [han]; exact Ext.setM hx2, NoIt.setM hni2 _ _, hok⟩
    ·
     (try simp only [y1, y2, y3, y4, y5, y6, y7, y8, y9, y0, List.length_map] at hc5)
     have hgo : p.gone = false := hc5
     refine aw_skip ?_
     refine inBlock_normal (then_normal ?_)
     refine aw_region ?_
     refine zst (by first | exact op_add (by rfl) (by rfl) (wrap_i64 ⟨by omega, by omega⟩) | exact op_add (by rfl) (by rfl) (by rfl)) rfl (by dsimp only [zS, zN, zH, zT]) ?_
     refine zst (op_move_tmp (by rfl)) rfl (by dsimp only [zS, zN, zH, zT]) ?_
     refine al_end rfl ?_
     apply again_to (l.length - (j + 1)) (true :: false :: false :: true :: true :: true :: false :: false :: false :: false :: false :: false :: false :: false :: false :: false :: false :: false :: false :: false :: false :: false :: false :: true :: true :: true :: false :: false :: false :: false :: false :: false :: false :: false :: false :: false :: false :: false :: false :: false :: false :: false :: false :: false :: false :: false :: false :: false :: false :: false :: false :: false :: false :: false :: false :: false :: false :: false :: false :: false :: false :: false :: false :: false :: false :: false :: false :: false :: false :: false :: false :: false :: false :: false :: false :: false :: false :: false :: false :: false :: false :: false :: false :: false :: false :: false :: false :: false :: false :: false :: false :: false :: false :: false :: false :: false :: false :: false :: false :: false :: false :: false :: false :: false :: false :: false :: false :: false :: false :: false :: false :: false :: false :: false :: false :: false :: false :: false :: false :: false :: false :: false :: false :: false :: [])
     · (try dsimp only [maskT]); try exact rfl
     · rfl
     · omega
     exact ⟨j + 1, _, _, rfl, by omega, rfl, han, by rw [take_snoc hp1]; exact hh.put hc0 hgo, by rw [han]; exact Ext.setM hx, NoIt.setM hni _ _, hok⟩
  ·
   (try simp only [y1, y2, y3, y4, y5, y6, y7, y8, y9, y0, List.length_map] at hc2)
   (try simp only [List.length_map] at hc2)
   have hje : j = l.length := by omega
   subst hje
   rw [List.take_length] at hh
   refine aw_exit ?_
   refine then_exit (again_exit (inBlock_here (then_normal ?_)))
   refine aw_seq ?_
   refine aw_region ?_
   refine zst (op_lit Try.underlying46 ZS51 (.nil _) (by rfl) (by simp) (by simp [flat]) (by decide)) rfl (by dsimp only [zS, zN, zH, zT]) ?_
   refine zst (op_assign_tmp (by rfl)) rfl (by dsimp only [zS, zN, zH, zT]) ?_
   refine al_end rfl ?_
   refine then_normal ?_
   refine aw_seq ?_
   refine aw_seq ?_
   refine aw_region ?_
   refine zst (op_lit Try.underlying52 ZS9 (.cons (by rfl) (.cons (by rfl) (.nil _))) (by rfl) (by simp [BY, S, I, TF, DV.cells]) (by simp [flat, BY, S, I, TF, DV.cells, DV.one]) (by decide)) rfl (by dsimp only [zS, zN, zH, zT]) ?_
   refine zst (op_lenL Try.underlying52 (by first | exact LL.d _ _ | exact LL.own _ _ _ | exact LL.nil _ | assumption)) rfl (by dsimp only [zS, zN, zH, zT]) ?_
   refine zst (op_move_const (by rfl)) rfl (by dsimp only [zS, zN, zH, zT]) ?_
   refine al_end rfl ?_
   refine then_normal ?_
   refine aw_block ?_
   apply aw_loopF (fun n T H => ∃ (q : Nat) (w3 : AV) (t3 : Option Nat), T = ((.d (.lst 7 (l.map tD))) :: .un :: .un :: w :: (.d (I k)) :: (.map a) :: .un :: .un :: .un :: .un :: .un :: w3 :: .un :: .un :: .un :: .un :: .un :: .un :: .un :: .un :: .un :: .un :: .un :: .un :: .un :: .un :: .un :: .un :: .un :: .un :: .un :: .un :: .un :: .un :: .un :: .un :: .un :: .un :: .un :: .un :: .un :: .un :: .un :: .un :: .un :: .un :: .un :: .un :: .un :: .un :: .un :: .un :: .un :: .un :: .un :: .un :: .un :: .un :: .un :: .un :: .un :: .un :: .un :: .un :: .un :: .un :: .un :: .un :: .un :: .un :: .un :: .un :: .un :: .un :: .un :: .un :: .un :: .un :: .un :: .un :: .un :: .un :: .un :: .un :: .un :: (.own none 1 [S [97], S [98]]) :: (.d (I 2)) :: (.d (I q)) :: .un :: .un :: .un :: .un :: .un :: .un :: .un :: .un :: .un :: .un :: .un :: .un :: .un :: .un :: .un :: .un :: .un :: .un :: .un :: .un :: .un :: .un :: .un :: .un :: .un :: .un :: .un :: .un :: .un :: .un :: .un :: .un :: .un :: .un :: .un :: .un :: []) ∧ q ≤ 2 ∧ n = 2 - q ∧ App w3 t3 3 ((wsN k l (4 * q)).map wD) ∧ H.ok t3 (wsN k l (4 * q)).length ∧ NewTok Hs t3 ∧ (∀ i, t = some i → t3 ≠ some i) ∧ Ext ((Hs.addM ms).pushM (.map es)) H ∧ NoIt H ∧ H.ok t k) (2) (true :: false :: false :: true :: true :: true :: false :: false :: false :: false :: false :: true :: false :: false :: false :: false :: false :: false :: false :: false :: false :: false :: false :: false :: false :: false :: false :: false :: false :: false :: false :: false :: false :: false :: false :: false :: false :: false :: false :: false :: false :: false :: false :: false :: false :: false :: false :: false :: false :: false :: false :: false :: false :: false :: false :: false :: false :: false :: false :: false :: false :: false :: false :: false :: false :: false :: false :: false :: false :: false :: false :: false :: false :: false :: false :: false :: false :: false :: false :: false :: false :: false :: false :: false :: false :: true :: true :: true :: false :: false :: false :: false :: false :: false :: false :: false :: false :: false :: false :: false :: false :: false :: false :: false :: false :: false :: false :: false :: false :: false :: false :: false :: false :: false :: false :: false :: false :: false :: false :: false :: false :: false :: false :: false :: [])
   · (try dsimp only [maskT]); try exact rfl
   · rfl
   · exact ⟨0, _, none, rfl, by omega, rfl, App.own _ _ _, HS.ok_none _ _, NewTok.none _, by simp, hx, hni, hok⟩
   rintro n T H ⟨q, w3, t3, rfl, hq, rfl, hv3, hok3, hnt3, hap, hx, hni, hok⟩
   refine aw_seq ?_
   refine aw_region ?_
   refine zst (op_ltI (by rfl) (by rfl)) rfl (by dsimp only [zS, zN, zH, zT]) ?_
   refine al_end rfl ?_
   refine then_normal ?_
   refine aw_seq ?_
   refine aw_cond rfl (fun hc6 => ?_) (fun hc6 => ?_)
   ·
    (try simp only [y1, y2, y3, y4, y5, y6, y7, y8, y9, y0, List.length_map] at hc6)
    have hq2 : q < 2 := by (try simp at hc6); omega
    refine aw_skip ?_
    refine then_normal ?_
    refine aw_seq ?_
    refine aw_block ?_
    refine aw_seq ?_
    refine aw_region ?_
    refine zst (op_indexAddr (z := S (qB q)) (cs := [S (qB q)]) Try.underlying52 Sz9 (LL.own _ _ _) (by rfl) (by omega) (show [S [97], S [98]][((q : Nat) : Int).toNat]? = _ from q_at hq2) (by rfl)) rfl (by dsimp only [zS, zN, zH, zT]) ?_
    refine zst (op_load_elt Try.underlying9 (by rfl) (by rfl) (by rfl)) rfl (by dsimp only [zS, zN, zH, zT]) ?_
    refine zst (op_assign_tmp (by rfl)) rfl (by dsimp only [zS, zN, zH, zT]) ?_
    refine al_end rfl ?_
    refine then_normal ?_
    refine aw_seq ?_
    refine aw_region ?_
    refine zst (op_assign_const (by rfl)) rfl (by dsimp only [zS, zN, zH, zT]) ?_
    refine al_end rfl ?_
    refine then_normal ?_
    refine aw_block ?_
    apply aw_loopF (fun n T H => ∃ (i : Nat) (w3 : AV) (t3 : Option Nat), T = ((.d (.lst 7 (l.map tD))) :: .un :: .un :: w :: (.d (I k)) :: (.map a) :: .un :: .un :: .un :: .un :: .un :: w3 :: .un :: (.d (S (qB q))) :: (.d (I i)) :: .un :: .un :: .un :: .un :: .un :: .un :: .un :: .un :: .un :: .un :: .un :: .un :: .un :: .un :: .un :: .un :: .un :: .un :: .un :: .un :: .un :: .un :: .un :: .un :: .un :: .un :: .un :: .un :: .un :: .un :: .un :: .un :: .un :: .un :: .un :: .un :: .un :: .un :: .un :: .un :: .un :: .un :: .un :: .un :: .un :: .un :: .un :: .un :: .un :: .un :: .un :: .un :: .un :: .un :: .un :: .un :: .un :: .un :: .un :: .un :: .un :: .un :: .un :: .un :: .un :: .un :: .un :: .un :: .un :: .un :: (.own none 1 [S [97], S [98]]) :: (.d (I 2)) :: (.d (I q)) :: .un :: .un :: .un :: .un :: .un :: .un :: .un :: .un :: .un :: .un :: .un :: .un :: .un :: .un :: .un :: .un :: .un :: .un :: .un :: .un :: .un :: .un :: .un :: .un :: .un :: .un :: .un :: .un :: .un :: .un :: .un :: .un :: .un :: .un :: .un :: .un :: []) ∧ i ≤ 4 ∧ n = 4 - i ∧ App w3 t3 3 ((wsN k l (4 * q + i)).map wD) ∧ H.ok t3 (wsN k l (4 * q + i)).length ∧ NewTok Hs t3 ∧ (∀ i, t = some i → t3 ≠ some i) ∧ Ext ((Hs.addM ms).pushM (.map es)) H ∧ NoIt H ∧ H.ok t k) (4) (true :: false :: false :: true :: true :: true :: false :: false :: false :: false :: false :: true :: false :: true :: true :: false :: false :: false :: false :: false :: false :: false :: false :: false :: false :: false :: false :: false :: false :: false :: false :: false :: false :: false :: false :: false :: false :: false :: false :: false :: false :: false :: false :: false :: false :: false :: false :: false :: false :: false :: false :: false :: false :: false :: false :: false :: false :: false :: false :: false :: false :: false :: false :: false :: false :: false :: false :: false :: false :: false :: false :: false :: false :: false :: false :: false :: false :: false :: false :: false :: false :: false :: false :: false :: false :: true :: true :: true :: false :: false :: false :: false :: false :: false :: false :: false :: false :: false :: false :: false :: false :: false :: false :: false :: false :: false :: false :: false :: false :: false :: false :: false :: false :: false :: false :: false :: false :: false :: false :: false :: false :: false :: false :: false :: [])
    · (try dsimp only [maskT]); try exact rfl
    · rfl
    · exact ⟨0, _, _, rfl, by omega, rfl, hv3, hok3, hnt3, hap, hx, hni, hok⟩
    rintro n T H ⟨i, w3, t3, rfl, hi, rfl, hv3, hok3, hnt3, hap, hx, hni, hok⟩
    refine aw_seq ?_
    refine aw_seq ?_
    refine aw_region ?_
    refine zst (op_move_tmp (by rfl)) rfl (by dsimp only [zS, zN, zH, zT]) ?_
    refine zst (op_ltI (by rfl) (by rfl)) rfl (by dsimp only [zS, zN, zH, zT]) ?_
    refine al_end rfl ?_
    refine then_normal ?_
    refine aw_cond rfl (fun hc7 => ?_) (fun hc7 => ?_)
    ·
     (try simp only [y1, y2, y3, y4, y5, y6, y7, y8, y9, y0, List.length_map] at hc7)
     have hi4 : i < 4 := by omega
     obtain ⟨o, ho⟩ : ∃ o, lastP k l (keyQ q i) = o := ⟨_, rfl⟩
     have hlk := looked hh ho
     have hwl := wsN_len k l (4 * q + i)
     refine aw_skip ?_
     refine then_normal ?_
     refine aw_seq ?_
     refine aw_block ?_
     refine aw_seq ?_
     refine aw_region ?_
     refine zst (op_move_tmp (by rfl)) rfl (by dsimp only [zS, zN, zH, zT]) ?_
     refine zst (op_move_tmp (by rfl)) rfl (by dsimp only [zS, zN, zH, zT]) ?_
     refine zst (op_move_tmp (by rfl)) rfl (by dsimp only [zS, zN, zH, zT]) ?_
     refine zst (op_convI (r := ((i : Nat) : Int)) (by rw [Try.underlying3]; rfl) Try.underlying5 (by rfl) (wrap_u8 ⟨by omega, by omega⟩)) rfl (by dsimp only [zS, zN, zH, zT]) ?_
     refine zst (op_add (r := ((UInt8.ofNat (48 + i)).toNat : Int)) (by rfl) (by rfl) (byte_add (by omega) (by omega))) rfl (by dsimp only [zS, zN, zH, zT]) ?_
     refine zst (op_lit Try.underlying49 ZS5 (.cons (y := BY (UInt8.ofNat (48 + i))) (by rfl) (.nil _)) (by rfl) (lit_b _) (lit_b1 _) (by decide)) rfl (by dsimp only [zS, zN, zH, zT]) ?_
     refine zst (op_string (l := idB i) Try.underlying49 Try.underlying9 Try.underlying5 (LL.own _ _ _) (by rfl)) rfl (by dsimp only [zS, zN, zH, zT]) ?_
     refine zst (op_lit Try.underlying52 ZS9 (.cons (by rfl) (.cons (by rfl) (.cons (by rfl) (.nil _)))) (by rfl) (by simp [BY, S, I, TF, DV.cells]) (by simp [flat, BY, S, I, TF, DV.cells, DV.one]) (by decide)) rfl (by dsimp only [zS, zN, zH, zT]) ?_
     refine zst (op_callF Try.func51 (by rfl) (by rfl) (.tmp (by rfl) .nil) (key_ok _ _ [[109], qB q, idB i] (LL.own _ _ _) (by simp [qB, idB]))) rfl (by dsimp only [zS, zN, zH, zT]) ?_
     refine zst (op_lookup2_at Try.underlying110 Try.underlying9 Zr51 repW0 (by rfl) (by rfl) (by rw [han]; exact pushM_at hx) hlk.1 hlk.2) rfl (by dsimp only [zS, zN, zH, zT]) ?_
     refine zst (op_move_tmp (by rfl)) rfl (by dsimp only [zS, zN, zH, zT]) ?_
     refine zst (op_extract (by rfl) (by rfl)) rfl (by dsimp only [zS, zN, zH, zT]) ?_
     refine zst (op_extract (by rfl) (by rfl)) rfl (by dsimp only [zS, zN, zH, zT]) ?_
     refine zst (op_alloc (Zr51) (by rfl)) rfl (by dsimp only [zS, zN, zH, zT]) ?_
     refine zst (op_storeB (vs := [.d (S (o.getD W0).key), .d (S (o.getD W0).val), .d (TF (o.getD W0).gone)]) (b' := ⟨51, [.d (S (o.getD W0).key), .d (S (o.getD W0).val), .d (TF (o.getD W0).gone)], false⟩) (H' := _) Sz51 (by rfl) push_at (by intro h; cases h) (by rfl) (by rfl) (Nat.le_of_ble_eq_true rfl) (by simp [AV.one, DV.one, TF, S, I, BY]) (by rfl) (by rfl) rfl) rfl (by dsimp only [zS, zN, zH, zT]) ?_
     refine zst (op_assign_tmp (by rfl)) rfl (by dsimp only [zS, zN, zH, zT]) ?_
     refine al_end rfl ?_
     refine then_normal ?_
     refine aw_seq ?_
     refine aw_region ?_
     refine zst (op_move_tmp (by rfl)) rfl (by dsimp only [zS, zN, zH, zT]) ?_
     refine al_end rfl ?_
     refine then_normal ?_
     refine aw_cond rfl (fun hc8 => ?_) (fun hc8 => ?_)
     ·
      (try simp only [y1, y2, y3, y4, y5, y6, y7, y8, y9, y0, List.length_map] at hc8)
      obtain ⟨w1, rfl⟩ : ∃ w, o = some w := Option.isSome_iff_exists.1 hc8
      refine aw_region ?_
      refine zst (op_move_tmp (by rfl)) rfl (by dsimp only [zS, zN, zH, zT]) ?_
      refine zst (op_load_ptrsD (wC w1) Try.underlying51 (by rfl) Sz51 (by rfl) (by (try have l1 := lt_nb hb1); (try have l2 := lt_nb hb2); repeat (first | assumption | exact push_at | exact setB_at push_at | (rw [HS.up_blks]) | (rw [pushM_blks]) | (rw [setM_blks]) | (rw [setB_ne (by simp only [setB_nb, push_nb, pushM_nb, setM_nb, ne_eq]; omega)]) | apply push_ne | apply setB_at)) (Nat.le_of_ble_eq_true rfl) (by rfl) (wC_one _)) rfl (by dsimp only [zS, zN, zH, zT]) ?_
      refine zst (op_lit Try.underlying46 ZS51 (.cons (y := wD w1) (by rfl) (.nil _)) (by rfl) (lit_w _) (lit_w1 _) (by decide)) rfl (by dsimp only [zS, zN, zH, zT]) ?_
      refine zst (op_append Try.underlying46 Inf51 (by rfl) hv3 (.list _ _ _ _ Try.underlying46 (LL.own _ _ _)) (by rw [List.length_map]; exact hok3) (by simp) (by simp; omega) (by simp; omega)) rfl (by dsimp only [zS, zN, zH, zT]) ?_
      refine zst (op_assign_tmp (by rfl)) rfl (by dsimp only [zS, zN, zH, zT]) ?_
      refine al_end rfl ?_
      refine inBlock_normal (then_normal ?_)
      refine aw_region ?_
      refine zst (op_move_tmp (by rfl)) rfl (by dsimp only [zS, zN, zH, zT]) ?_
      refine zst (by first | exact op_add (by rfl) (by rfl) (wrap_i64 ⟨by omega, by omega⟩) | exact op_add (by rfl) (by rfl) (by rfl)) rfl (by dsimp only [zS, zN, zH, zT]) ?_
      refine zst (op_assign_tmp (by rfl)) rfl (by dsimp only [zS, zN, zH, zT]) ?_
      refine al_end rfl ?_
      apply again_to (4 - (i + 1)) (true :: false :: false :: true :: true :: true :: false :: false :: false :: false :: false :: true :: false :: true :: true :: false :: false :: false :: false :: false :: false :: false :: false :: false :: false :: false :: false :: false :: false :: false :: false :: false :: false :: false :: false :: false :: false :: false :: false :: false :: false :: false :: false :: false :: false :: false :: false :: false :: false :: false :: false :: false :: false :: false :: false :: false :: false :: false :: false :: false :: false :: false :: false :: false :: false :: false :: false :: false :: false :: false :: false :: false :: false :: false :: false :: false :: false :: false :: false :: false :: false :: false :: false :: false :: false :: true :: true :: true :: false :: false :: false :: false :: false :: false :: false :: false :: false :: false :: false :: false :: false :: false :: false :: false :: false :: false :: false :: false :: false :: false :: false :: false :: false :: false :: false :: false :: false :: false :: false :: false :: false :: false :: false :: false :: [])
      · (try dsimp only [maskT]); try exact rfl
      · rfl
      · omega
      exact ⟨i + 1, _, _, rfl, by omega, rfl, app_w (wsN_some hq2 hi4 ho), HS.ok_up' hok3 (by rw [wsN_some hq2 hi4 ho]; simp), (Ext.upN (n := 0) hx hnt3 hok3).2, apart_up hok hap, Ext.up1 (by repeat (first | assumption | apply Ext.push | (refine Ext.setB ?_ (by have := nb_le hx; (try simp only [setB_nb, push_nb, pushM_nb]); (try simp only [pushM_nb] at this); omega)))) hnt3 hok3, hni.of (HS.up_maps _ _ _), HS.ok_apart hok hap hok3⟩
     ·
      (try simp only [y1, y2, y3, y4, y5, y6, y7, y8, y9, y0, List.length_map] at hc8)
      obtain rfl : o = none := by simpa using hc8
      refine aw_skip ?_
      refine inBlock_normal (then_normal ?_)
      refine aw_region ?_
      refine zst (op_move_tmp (by rfl)) rfl (by dsimp only [zS, zN, zH, zT]) ?_
      refine zst (by first | exact op_add (by rfl) (by rfl) (wrap_i64 ⟨by omega, by omega⟩) | exact op_add (by rfl) (by rfl) (by rfl)) rfl (by dsimp only [zS, zN, zH, zT]) ?_
      refine zst (op_assign_tmp (by rfl)) rfl (by dsimp only [zS, zN, zH, zT]) ?_
      refine al_end rfl ?_
      apply again_to (4 - (i + 1)) (true :: false :: false :: true :: true :: true :: false :: false :: false :: false :: false :: true :: false :: true :: true :: false :: false :: false :: false :: false :: false :: false :: false :: false :: false :: false :: false :: false :: false :: false :: false :: false :: false :: false :: false :: false :: false :: false :: false :: false :: false :: false :: false :: false :: false :: false :: false :: false :: false :: false :: false :: false :: false :: false :: false :: false :: false :: false :: false :: false :: false :: false :: false :: false :: false :: false :: false :: false :: false :: false :: false :: false :: false :: false :: false :: false :: false :: false :: false :: false :: false :: false :: false :: false :: false :: true :: true :: true :: false :: false :: false :: false :: false :: false :: false :: false :: false :: false :: false :: false :: false :: false :: false :: false :: false :: false :: false :: false :: false :: false :: false :: false :: false :: false :: false :: false :: false :: false :: false :: false :: false :: false :: false :: false :: [])
      · (try dsimp only [maskT]); try exact rfl
      · rfl
      · omega
      exact ⟨i + 1, _, _, rfl, by omega, rfl, by rw [wsN_none hq2 hi4 ho]; exact hv3, by rw [wsN_none hq2 hi4 ho]; exact hok3, hnt3, hap, (by repeat (first | assumption | apply Ext.push | (refine Ext.setB ?_ (by have := nb_le hx; (try simp only [setB_nb, push_nb, pushM_nb]); (try simp only [pushM_nb] at this); omega)))), hni.of rfl, hok⟩
    ·
     (try simp only [y1, y2, y3, y4, y5, y6, y7, y8, y9, y0, List.length_map] at hc7)
     have hie : i = 4 := by omega
     subst hie
     refine aw_exit ?_
     refine then_exit (again_exit (inBlock_here (inBlock_normal (then_normal ?_))))
     refine aw_region ?_
     refine zst (by first | exact op_add (by rfl) (by rfl) (wrap_i64 ⟨by omega, by omega⟩) | exact op_add (by rfl) (by rfl) (by rfl)) rfl (by dsimp only [zS, zN, zH, zT]) ?_
     refine zst (op_move_tmp (by rfl)) rfl (by dsimp only [zS, zN, zH, zT]) ?_
     refine al_end rfl ?_
     apply again_to (2 - (q + 1)) (true :: false :: false :: true :: true :: true :: false :: false :: false :: false :: false :: true :: false :: false :: false :: false :: false :: false :: false :: false :: false :: false :: false :: false :: false :: false :: false :: false :: false :: false :: false :: false :: false :: false :: false :: false :: false :: false :: false :: false :: false :: false :: false :: false :: false :: false :: false :: false :: false :: false :: false :: false :: false :: false :: false :: false :: false :: false :: false :: false :: false :: false :: false :: false :: false :: false :: false :: false :: false :: false :: false :: false :: false :: false :: false :: false :: false :: false :: false :: false :: false :: false :: false :: false :: false :: true :: true :: true :: false :: false :: false :: false :: false :: false :: false :: false :: false :: false :: false :: false :: false :: false :: false :: false :: false :: false :: false :: false :: false :: false :: false :: false :: false :: false :: false :: false :: false :: false :: false :: false :: false :: false :: false :: false :: [])
     · (try dsimp only [maskT]); try exact rfl
     · rfl
     · omega
     exact ⟨q + 1, _, _, rfl, by omega, rfl, hv3, hok3, hnt3, hap, hx, hni, hok⟩
   ·
    (try simp only [y1, y2, y3, y4, y5, y6, y7, y8, y9, y0, List.length_map] at hc6)
    have hqe : q = 2 := by (try simp at hc6); omega
    subst hqe
    refine aw_exit ?_
    refine then_exit (again_exit (inBlock_here (then_normal ?_)))
    refine aw_region ?_
    refine zst (op_move_tmp (by rfl)) rfl (by dsimp only [zS, zN, zH, zT]) ?_
    refine zst (op_move_tmp (by rfl)) rfl (by dsimp only [zS, zN, zH, zT]) ?_
    refine zst (op_add (r := ((k + 1 : Nat) : Int)) (by rfl) (by rfl) (wrap_i64 (n := ((k + 1 : Nat) : Int)) ⟨by omega, by omega⟩)) rfl (by dsimp only [zS, zN, zH, zT]) ?_
    refine zst (op_move_tmp (by rfl)) rfl (by dsimp only [zS, zN, zH, zT]) ?_
    refine zst (op_mul (r := ((10 * k : Nat) : Int)) (by rfl) (by rfl) (wrap_i64 (n := ((10 * k : Nat) : Int)) ⟨by omega, by omega⟩)) rfl (by dsimp only [zS, zN, zH, zT]) ?_
    refine zst (op_move_tmp (by rfl)) rfl (by dsimp only [zS, zN, zH, zT]) ?_
    refine zst (op_callF Try.func23 (by rfl) (by rfl) (.tmp (by rfl) (.tmp (by rfl) (.tmp (by rfl) .nil))) (commit_at _ ((k + 1 : Nat) : Int) ((10 * k : Nat) : Int) _ (wsP k l) (Weak.lst hv3))) rfl (by dsimp only [zS, zN, zH, zT]) ?_
    refine zst (op_lit Try.underlying40 ZS48 (.cons (y := cD (cmP l k)) (by rfl) (.nil _)) (by rfl) (lit_c _) (lit_c1 _) (by decide)) rfl (by dsimp only [zS, zN, zH, zT]) ?_
    refine zst (op_append Try.underlying40 Inf48 (by rfl) hv (.list _ _ _ _ Try.underlying40 (LL.own _ _ _)) (by rw [List.length_map, List.length_take, csP_len, Nat.min_eq_left (by omega)]; exact hok) (by simp) (by simp [csP_len]; omega) (by simp [csP_len]; omega)) rfl (by dsimp only [zS, zN, zH, zT]) ?_
    refine zst (op_assign_tmp (by rfl)) rfl (by dsimp only [zS, zN, zH, zT]) ?_
    refine al_end rfl ?_
    refine inBlock_normal (then_normal ?_)
    refine aw_region ?_
    refine zst (op_move_tmp (by rfl)) rfl (by dsimp only [zS, zN, zH, zT]) ?_
    refine zst (by first | exact op_add (by rfl) (by rfl) (wrap_i64 ⟨by omega, by omega⟩) | exact op_add (by rfl) (by rfl) (by rfl)) rfl (by dsimp only [zS, zN, zH, zT]) ?_
    refine zst (op_assign_tmp (by rfl)) rfl (by dsimp only [zS, zN, zH, zT]) ?_
    refine al_end rfl ?_
    apply again_to (8 - (k + 1)) (true :: false :: false :: true :: true :: false :: false :: false :: false :: false :: false :: false :: false :: false :: false :: false :: false :: false :: false :: false :: false :: false :: false :: false :: false :: false :: false :: false :: false :: false :: false :: false :: false :: false :: false :: false :: false :: false :: false :: false :: false :: false :: false :: false :: false :: false :: false :: false :: false :: false :: false :: false :: false :: false :: false :: false :: false :: false :: false :: false :: false :: false :: false :: false :: false :: false :: false :: false :: false :: false :: false :: false :: false :: false :: false :: false :: false :: false :: false :: false :: false :: false :: false :: false :: false :: false :: false :: false :: false :: false :: false :: false :: false :: false :: false :: false :: false :: false :: false :: false :: false :: false :: false :: false :: false :: false :: false :: false :: false :: false :: false :: false :: false :: false :: false :: false :: false :: false :: false :: false :: false :: false :: false :: false :: [])
    · (try dsimp only [maskT]); try exact rfl
    · rfl
    · omega
    exact ⟨k + 1, ms ++ [.map es], _, _, rfl, by omega, rfl, app_c (by rw [take_snoc (csP_at hk8)]), HS.ok_up' hok (by simp [csP_len]; omega), (Ext.upN (n := 0) hx hnt hok).2, by rw [← addM_snoc]; exact (Ext.upN hx hnt hok).1, hni.of (HS.up_maps _ _ _)⟩
 ·
  (try simp only [y1, y2, y3, y4, y5, y6, y7, y8, y9, y0, List.length_map] at hc1)
  have hke : k = 8 := by omega
  subst hke
  refine aw_exit ?_
  refine then_exit (again_exit (inBlock_here (then_normal ?_)))
  refine aw_seq ?_
  refine aw_region ?_
  refine zst (op_move_tmp (by rfl)) rfl (by dsimp only [zS, zN, zH, zT]) ?_
  refine zst (op_assign_tmp (by rfl)) rfl (by dsimp only [zS, zN, zH, zT]) ?_
  refine al_end rfl ?_
  refine then_normal ?_
  refine aw_ret ?_
  refine retPost1 rfl rfl ?_
  exact ⟨ms, NoIt.back hni hx, hx, Weak.lst (by rw [List.take_of_length_le (by rw [csP_len]; omega)] at hv; exact hv)⟩
end Go.Proofs.Ytjbpfnoibeogbaa
namespace Go.AV.Hist
open Go.AV.Ord Go.AV.Oct Go.AV.Patch
theorem noIt_nil {H : HS} (h : H.maps = []) : NoIt H := fun j o n q he => by rw [h] at he; cases he
def wO (v k : List UInt8) : Wt := ⟨k, v, false⟩
def wsO (v : List UInt8) (ks : List (List UInt8)) : List Wt := ks.map (wO v)
def badK (v k : List UInt8) : Bool := (msgT k).2.2 && !decide (decE v = 0)
def badO (v : List UInt8) (ks : List (List UInt8)) : Bool := ks.any (badK v)
theorem badK_no {v k : List UInt8} (h : (msgT k).2.2 = false) : badK v k = false := by simp [badK, h]
theorem badK_yes {v k : List UInt8} (h : (msgT k).2.2 = true) : badK v k = !decide (decE v = 0) := by simp [badK, h]
theorem turnT_other (v : List UInt8) : ∀ (ks : List (List UInt8)) (ps : List (List UInt8 × Pl)) (ids : List (List UInt8)), (turnT ps ids (wsO v ks) = none → badO v ks = true) ∧ ((∃ r, turnT ps ids (wsO v ks) = some r) → badO v ks = false)
  | [], ps, ids => ⟨fun h => (by cases h), fun _ => rfl⟩
  | k :: ks, ps, ids => by
    have e : turnT ps ids (wsO v (k :: ks)) = turnT ps ids (wO v k :: wsO v ks) := rfl
    rw [e, turnT]
    have eb : badO v (k :: ks) = (badK v k || badO v ks) := rfl
    rw [eb]
    show (_ → _) ∧ _
    have hk : (wO v k).key = k := rfl
    have hv : (wO v k).val = v := rfl
    have hg : (wO v k).gone = false := rfl
    rw [hk, hv, hg]
    by_cases hm : (msgT k).2.2 = false
    · rw [if_pos hm, badK_no hm, Bool.false_or]
      exact turnT_other v ks ps ids
    · rw [if_neg hm, badK_yes (by simpa using hm), if_neg (by decide)]
      by_cases hd : decE v = 0
      · rw [if_pos hd]
        simp only [hd, decide_true, Bool.not_true, Bool.false_or]
        exact turnT_other v ks _ _
      · rw [if_neg hd]
        refine ⟨fun _ => (by simp [hd]), fun ⟨r, h⟩ => (by cases h)⟩
theorem other_none {v : List UInt8} {ks : List (List UInt8)} {a b : Int} (h : eventsT [] [] [⟨a, b, wsO v ks⟩] = none) : badO v ks = true := by
  rw [eventsT] at h
  cases ht : turnT [] [] (wsO v ks) with
  | none => exact (turnT_other v ks [] []).1 ht
  | some r =>
    simp only [ht] at h
    cases h
theorem other_some {v : List UInt8} {ks : List (List UInt8)} {a b : Int} {es : List Ev} (h : eventsT [] [] [⟨a, b, wsO v ks⟩] = some es) : badO v ks = false ∧ es.length ≤ ks.length := by
  refine ⟨?_, ?_⟩
  · rw [eventsT] at h
    cases ht : turnT [] [] (wsO v ks) with
    | none => simp only [ht] at h; cases h
    | some r => exact (turnT_other v ks [] []).2 ⟨r, ht⟩
  · have := events_len (ps := []) (N := ks.length) _ _ _ _ h (fun c hc => by
      rw [List.mem_singleton.1 hc]; simp [wsO])
    simpa using this
end Go.AV.Hist
namespace Go.Proofs.Ytjbpfnoibeogbaa
open Go.AV Go.AV.Ord Go.AV.Oct Go.AV.Hist
set_option linter.unusedVariables false
set_option linter.unusedSimpArgs false
theorem ptypes : PTypes Try.prog 112 3 4 39 where
  p := ⟨_, Try.underlying112, fun i hi => by
    match i, hi with
    | 0, _ => exact ⟨_, rfl, rfl, rfl⟩
    | 1, _ => exact ⟨_, rfl, rfl, rfl⟩
    | 2, _ => exact ⟨_, rfl, rfl, rfl⟩
    | 3, _ => exact ⟨_, rfl, rfl, rfl⟩
    | 4, _ => exact ⟨_, rfl, rfl, rfl⟩
    | 5, _ => exact ⟨_, rfl, rfl, rfl⟩
    | 6, _ => exact ⟨_, rfl, rfl, rfl⟩, rfl⟩
  i := Try.underlying3
  b := Try.underlying4
  q := Try.underlying39
  cP := by kernel_rfl
  cI := by kernel_rfl
  cB := by kernel_rfl
theorem op_neE {E : Operand → AV} {H : HS} {dst : Option Tmp} {ty t' : TypeId} {pos : String} {after : Array Edge} {gd : Option (Nat × Bool)} {x y : Operand} {a : Ev} (hx : E x = .d (.agg (eC a))) (hy : E y = .d (.agg (eC a))) :
    OpR Try.prog ⟨dst, .binOp .neq 60 x y t', ty, pos, after, gd⟩ E H (Ret (.d (TF false)) H) :=
  op_bin_agg (X := eV a) (Y := eV a) hx hy (fun w => run_eqGuard_agg w .neq 60 x y _ _ (by kernel_rfl)) fun w => by
    rw [run_neq_struct, show (10000 : Nat) = 9996 + 4 from rfl, run_eqE]; simp [Result.andThen]
set_option maxHeartbeats 4000000 in
set_option maxRecDepth 100000 in
theorem histJoins_walk (Hs : HS) (l : List Pt) (n0 : Int) (hM : Hs.maps = []) : ACalls Try.prog 5 [.d (.lst 7 (l.map tD)), .d (I n0)] Hs (fun av _ => av = .d (TF true)) := by
 have hno := noIt_nil hM
 refine acalls_of_aw Try.func5 rfl ?_
 refine aw_start (T' := ((.d (.lst 7 (l.map tD))) :: (.d (I n0)) :: .un :: .un :: .un :: .un :: .un :: .un :: .un :: .un :: .un :: .un :: .un :: .un :: .un :: .un :: .un :: .un :: .un :: .un :: .un :: .un :: .un :: .un :: .un :: .un :: .un :: .un :: .un :: .un :: .un :: .un :: .un :: .un :: .un :: .un :: .un :: .un :: .un :: .un :: .un :: .un :: .un :: .un :: .un :: .un :: .un :: .un :: .un :: .un :: .un :: .un :: .un :: .un :: .un :: .un :: .un :: .un :: .un :: .un :: .un :: .un :: .un :: .un :: .un :: .un :: .un :: .un :: .un :: .un :: .un :: .un :: .un :: .un :: .un :: .un :: .un :: .un :: .un :: .un :: [])) rfl ?_
 refine aw_seq ?_
 refine aw_region ?_
 refine zst (op_assign_const (by rfl)) rfl (by dsimp only [zS, zN, zH, zT]) ?_
 refine al_end rfl ?_
 refine then_normal ?_
 refine aw_seq ?_
 refine aw_seq ?_
 refine aw_region ?_
 refine al_cons _ (op_callF Try.func16 (by rfl) (by rfl) .nil (head_ok _ hno)) rfl ?_
 rintro v1 H1 ⟨ms1, hH1, hni1, rfl⟩
 clear hH1
 apply al_normT
 · (try dsimp only [putT, List.set_cons_zero, List.set_cons_succ]); try exact rfl
 refine zst (op_not (by rfl)) rfl (by dsimp only [zS, zN, zH, zT]) ?_
 refine al_end rfl ?_
 refine then_normal ?_
 refine aw_cond rfl (fun h => by cases h) (fun _ => ?_)
 refine aw_skip ?_
 refine then_normal ?_
 refine aw_seq ?_
 refine aw_seq ?_
 refine aw_region ?_
 refine zst (op_move_tmp (by rfl)) rfl (by dsimp only [zS, zN, zH, zT]) ?_
 refine zst (op_lenL Try.underlying39 (by first | exact LL.d _ _ | exact LL.own _ _ _ | exact LL.nil _ | assumption)) rfl (by dsimp only [zS, zN, zH, zT]) ?_
 refine zst (op_gtI (by rfl) (by rfl)) rfl (by dsimp only [zS, zN, zH, zT]) ?_
 refine al_end rfl ?_
 refine then_normal ?_
 refine aw_cond rfl (fun hc2 => ?_) (fun hc2 => ?_)
 ·
  (try simp only [y1, y2, y3, y4, y5, y6, y7, y8, y9, y0, List.length_map] at hc2)
  refine aw_seq ?_
  refine aw_region ?_
  refine zst (op_assign_const (by rfl)) rfl (by dsimp only [zS, zN, zH, zT]) ?_
  refine al_end rfl ?_
  refine then_normal ?_
  refine aw_ret ?_
  refine then_ret ?_
  refine retPost1 rfl rfl ?_
  exact rfl
 ·
  (try simp only [y1, y2, y3, y4, y5, y6, y7, y8, y9, y0, List.length_map] at hc2)
  have hl60 : l.length ≤ 60 := by (try simp only [List.length_map] at hc2); omega
  refine aw_skip ?_
  refine then_normal ?_
  refine aw_seq ?_
  refine aw_region ?_
  refine zst (op_move_tmp (by rfl)) rfl (by dsimp only [zS, zN, zH, zT]) ?_
  refine al_cons _ (op_callF Try.func17 (by rfl) (by rfl) (.tmp (by rfl) .nil) (commits_ok _ l hni1 (by omega))) rfl ?_
  rintro v2 H2 ⟨ms2, hH2, hni2, rfl⟩
  clear hH2
  apply al_normT
  · (try dsimp only [putT, List.set_cons_zero, List.set_cons_succ]); try exact rfl
  refine zst (op_assign_tmp (by rfl)) rfl (by dsimp only [zS, zN, zH, zT]) ?_
  refine al_end rfl ?_
  refine then_normal ?_
  refine aw_seq ?_
  refine aw_region ?_
  refine zst (op_move_tmp (by rfl)) rfl (by dsimp only [zS, zN, zH, zT]) ?_
  refine zst (op_and (by rfl) (by rfl) (and_255 _)) rfl (by dsimp only [zS, zN, zH, zT]) ?_
  refine zst (op_move_tmp (by rfl)) rfl (by dsimp only [zS, zN, zH, zT]) ?_
  refine zst (op_lenL Try.underlying40 (by first | exact LL.d _ _ | exact LL.own _ _ _ | exact LL.nil _ | assumption)) rfl (by dsimp only [zS, zN, zH, zT]) ?_
  refine zst (op_add (r := 9) (by rfl) (by rfl) (by simp only [List.length_map, csP_len]; rfl)) rfl (by dsimp only [zS, zN, zH, zT]) ?_
  refine zst (op_rem (r := (((low n0 256 % 9) : Nat) : Int)) (by rfl) (by rfl) (by decide) (by rfl)) rfl (by dsimp only [zS, zN, zH, zT]) ?_
  refine zst (op_assign_tmp (by rfl)) rfl (by dsimp only [zS, zN, zH, zT]) ?_
  refine al_end rfl ?_
  refine then_normal ?_
  refine aw_seq ?_
  have hN8 : (low n0 256 % 9) ≤ 8 := by omega
  obtain ⟨a, b, hEa, hEb, hlt⟩ := joins l hN8
  have hab := events_len (ps := []) (N := 8) _ _ _ _ hEb (fun c hc => by obtain ⟨k, _, rfl⟩ := csP_mem hc; exact wsN_len k l 8)
  rw [csP_len, List.length_append, List.length_nil] at hab
  refine aw_region ?_
  refine zst (op_move_tmp (by rfl)) rfl (by dsimp only [zS, zN, zH, zT]) ?_
  refine zst (op_callF Try.func18 (by rfl) (by rfl) (.tmp (by rfl) .nil) (events_at _ (csP l) _ (Weak.refl _) hEb hni2 (by rw [csP_len]; decide) (fun c hc => by obtain ⟨k, _, rfl⟩ := csP_mem hc; exact Nat.le_trans (wsN_len k l 8) (by decide)) (fun c hc w hw => by obtain ⟨k, _, rfl⟩ := csP_mem hc; exact (wsP_good (c := k) (l := l) (n := 8) hw).key_len))) rfl (by dsimp only [zS, zN, zH, zT]) ?_
  refine zst (op_move_tmp (by rfl)) rfl (by dsimp only [zS, zN, zH, zT]) ?_
  refine zst (op_extract (by rfl) (by rfl)) rfl (by dsimp only [zS, zN, zH, zT]) ?_
  refine zst (op_extract (by rfl) (by rfl)) rfl (by dsimp only [zS, zN, zH, zT]) ?_
  refine zst (op_assign_tmp (by rfl)) rfl (by dsimp only [zS, zN, zH, zT]) ?_
  refine zst (op_assign_tmp (by rfl)) rfl (by dsimp only [zS, zN, zH, zT]) ?_
  refine al_end rfl ?_
  refine then_normal ?_
  refine aw_seq ?_
  refine aw_region ?_
  refine zst (op_move_tmp (by rfl)) rfl (by dsimp only [zS, zN, zH, zT]) ?_
  refine zst (op_move_tmp (by rfl)) rfl (by dsimp only [zS, zN, zH, zT]) ?_
  refine zst (op_sliceL0 (((csP l).take (low n0 256 % 9)).map cD) Try.underlying40 Sz48 (LL.d _ _) (by rfl) (by omega) (by rw [List.length_map, csP_len]; omega) (by rw [List.map_take]; rfl)) rfl (by dsimp only [zS, zN, zH, zT]) ?_
  refine zst (op_callF Try.func18 (by rfl) (by rfl) (.tmp (by rfl) .nil) (events_at _ ((csP l).take (low n0 256 % 9)) _ (Weak.refl _) hEa (noIt_addM hni2 (msT_maps _ _)) (by rw [List.length_take]; omega) (fun c hc => by obtain ⟨k, _, rfl⟩ := csP_mem (List.mem_of_mem_take hc); exact Nat.le_trans (wsN_len k l 8) (by decide)) (fun c hc w hw => by obtain ⟨k, _, rfl⟩ := csP_mem (List.mem_of_mem_take hc); exact (wsP_good (c := k) (l := l) (n := 8) hw).key_len))) rfl (by dsimp only [zS, zN, zH, zT]) ?_
  refine zst (op_move_tmp (by rfl)) rfl (by dsimp only [zS, zN, zH, zT]) ?_
  refine zst (op_extract (by rfl) (by rfl)) rfl (by dsimp only [zS, zN, zH, zT]) ?_
  refine zst (op_extract (by rfl) (by rfl)) rfl (by dsimp only [zS, zN, zH, zT]) ?_
  refine zst (op_assign_tmp (by rfl)) rfl (by dsimp only [zS, zN, zH, zT]) ?_
  refine zst (op_assign_tmp (by rfl)) rfl (by dsimp only [zS, zN, zH, zT]) ?_
  refine al_end rfl ?_
  refine then_normal ?_
  refine aw_seq ?_
  refine aw_seq ?_
  refine aw_region ?_
  refine zst (op_move_tmp (by rfl)) rfl (by dsimp only [zS, zN, zH, zT]) ?_
  refine zst (op_neI (by rfl) (by rfl)) rfl (by dsimp only [zS, zN, zH, zT]) ?_
  refine zst (op_move_tmp (by rfl)) rfl (by dsimp only [zS, zN, zH, zT]) ?_
  refine zsw rfl rfl rfl (op_move_tmp (by rfl)) (by dsimp only [zS, zN, zH, zT]) ?_
  refine zsw rfl rfl rfl (op_neI (by rfl) (by rfl)) (by dsimp only [zS, zN, zH, zT]) ?_
  refine zst (op_pick_ff (by rfl) (val_tmp (by rfl))) rfl (by dsimp only [zS, zN, zH, zT]) ?_
  refine zst (op_move_tmp (by rfl)) rfl (by dsimp only [zS, zN, zH, zT]) ?_
  refine zsw rfl rfl rfl (op_move_tmp (by rfl)) (by dsimp only [zS, zN, zH, zT]) ?_
  refine zsw rfl rfl rfl (op_lenL Try.underlying42 (by first | exact LL.d _ _ | exact LL.own _ _ _ | exact LL.nil _ | assumption)) (by dsimp only [zS, zN, zH, zT]) ?_
  refine zsw rfl rfl rfl (op_move_tmp (by rfl)) (by dsimp only [zS, zN, zH, zT]) ?_
  refine zsw rfl rfl rfl (op_lenL Try.underlying42 (by first | exact LL.d _ _ | exact LL.own _ _ _ | exact LL.nil _ | assumption)) (by dsimp only [zS, zN, zH, zT]) ?_
  refine zsw rfl rfl rfl (op_gtI (by rfl) (by rfl)) (by dsimp only [zS, zN, zH, zT]) ?_
  refine zst (op_pick_ff (by rfl) (val_tmp (by rfl))) rfl (by dsimp only [zS, zN, zH, zT]) ?_
  refine al_end rfl ?_
  refine then_normal ?_
  refine aw_cond rfl (fun hc3 => ?_) (fun hc3 => ?_)
  ·
   (try simp only [y1, y2, y3, y4, y5, y6, y7, y8, y9, y0, List.length_map] at hc3)
   exact absurd hc3 (by simp; omega)
  ·
   (try simp only [y1, y2, y3, y4, y5, y6, y7, y8, y9, y0, List.length_map] at hc3)
   refine aw_skip ?_
   refine then_normal ?_
   refine aw_seq ?_
   refine aw_seq ?_
   refine aw_region ?_
   refine zst (op_move_tmp (by rfl)) rfl (by dsimp only [zS, zN, zH, zT]) ?_
   refine zst (op_lenL Try.underlying42 (by first | exact LL.d _ _ | exact LL.own _ _ _ | exact LL.nil _ | assumption)) rfl (by dsimp only [zS, zN, zH, zT]) ?_
   refine zst (op_move_const (by rfl)) rfl (by dsimp only [zS, zN, zH, zT]) ?_
   refine al_end rfl ?_
   refine then_normal ?_
   refine aw_block ?_
   apply aw_loopF (fun n T H => ∃ (j : Nat), T = (.un :: (.d (I ((low n0 256 % 9) : Nat))) :: .un :: .un :: .un :: .un :: (.d (.lst 15 ((a ++ b).map eD))) :: .un :: (.d (.lst 15 (a.map eD))) :: .un :: .un :: .un :: .un :: .un :: .un :: .un :: .un :: .un :: .un :: .un :: .un :: .un :: .un :: .un :: .un :: .un :: .un :: .un :: .un :: .un :: .un :: .un :: .un :: .un :: .un :: .un :: .un :: .un :: .un :: .un :: .un :: .un :: .un :: .un :: .un :: .un :: .un :: .un :: .un :: .un :: .un :: (.d (.lst 15 (a.map eD))) :: (.d (I (a.map eD).length)) :: (.d (I j)) :: .un :: .un :: .un :: .un :: .un :: .un :: .un :: .un :: .un :: .un :: .un :: .un :: .un :: .un :: .un :: .un :: .un :: .un :: .un :: .un :: .un :: .un :: .un :: .un :: .un :: .un :: []) ∧ j ≤ a.length ∧ n = a.length - j) (a.length) (false :: true :: false :: false :: false :: false :: true :: false :: true :: false :: false :: false :: false :: false :: false :: false :: false :: false :: false :: false :: false :: false :: false :: false :: false :: false :: false :: false :: false :: false :: false :: false :: false :: false :: false :: false :: false :: false :: false :: false :: false :: false :: false :: false :: false :: false :: false :: false :: false :: false :: false :: true :: true :: true :: false :: false :: false :: false :: false :: false :: false :: false :: false :: false :: false :: false :: false :: false :: false :: false :: false :: false :: false :: false :: false :: false :: false :: false :: false :: false :: [])
   · (try dsimp only [maskT]); try exact rfl
   · rfl
   · exact ⟨0, rfl, by omega, rfl⟩
   rintro n T H ⟨j, rfl, hj, rfl⟩
   refine aw_seq ?_
   refine aw_region ?_
   refine zst (op_ltI (by rfl) (by rfl)) rfl (by dsimp only [zS, zN, zH, zT]) ?_
   refine al_end rfl ?_
   refine then_normal ?_
   refine aw_seq ?_
   refine aw_cond rfl (fun hc4 => ?_) (fun hc4 => ?_)
   ·
    (try simp only [y1, y2, y3, y4, y5, y6, y7, y8, y9, y0, List.length_map] at hc4)
    (try simp only [List.length_map] at hc4)
    have hlt2 : j < a.length := by omega
    obtain ⟨e, hj1⟩ : ∃ z0, a[j]? = some z0 := ⟨_, List.getElem?_eq_getElem hlt2⟩
    have hj2 : (a ++ b)[j]? = some e := by rw [List.getElem?_append_left hlt2]; exact hj1
    refine aw_skip ?_
    refine then_normal ?_
    refine aw_seq ?_
    refine aw_block ?_
    refine aw_seq ?_
    refine aw_region ?_
    refine zst (op_move_tmp (by rfl)) rfl (by dsimp only [zS, zN, zH, zT]) ?_
    refine zst (op_assign_tmp (by rfl)) rfl (by dsimp only [zS, zN, zH, zT]) ?_
    refine al_end rfl ?_
    refine then_normal ?_
    refine aw_seq ?_
    refine aw_draw [0, 0, 0, 1, 0, 0, 0, 1, 0] mixed (by kernel_rfl) ?_
    refine zd0 (fun H => (op_move_tmp (by rfl))) rfl (by dsimp only [zS, zN, zH, zT]) ?_
    refine zd0 (fun H => (op_move_tmp (by rfl))) rfl (by dsimp only [zS, zN, zH, zT]) ?_
    refine zd0 (fun H => (op_indexAddr (z := eD e) (cs := [I e.seq, I e.at_, S e.id, S e.fr, S e.to, S e.old.id, S e.old.body, I e.old.ready, I e.old.count, S e.old.token, S e.new.id, S e.new.body, I e.new.ready, I e.new.count, S e.new.token]) Try.underlying42 Sz60 (LL.d _ _) (by rfl) (by omega) (by rw [List.getElem?_map, show ((j : Nat) : Int).toNat = j from rfl, hj1]; rfl) (by rfl))) rfl (by dsimp only [zS, zN, zH, zT]) ?_
    refine zd1 (op_load_elts (ds := eC e) Try.underlying60 (by rfl) Sz60 (by rfl) (Nat.le_of_ble_eq_true rfl) (by rfl)) rfl (by dsimp only [zS, zN, zH, zT]) ?_
    refine zd0 (fun H => (op_move_tmp (by rfl))) rfl (by dsimp only [zS, zN, zH, zT]) ?_
    refine zd0 (fun H => (op_move_tmp (by rfl))) rfl (by dsimp only [zS, zN, zH, zT]) ?_
    refine zd0 (fun H => (op_indexAddr (z := eD e) (cs := [I e.seq, I e.at_, S e.id, S e.fr, S e.to, S e.old.id, S e.old.body, I e.old.ready, I e.old.count, S e.old.token, S e.new.id, S e.new.body, I e.new.ready, I e.new.count, S e.new.token]) Try.underlying42 Sz60 (LL.d _ _) (by rfl) (by omega) (by rw [List.getElem?_map, show ((j : Nat) : Int).toNat = j from rfl, hj2]; rfl) (by rfl))) rfl (by dsimp only [zS, zN, zH, zT]) ?_
    refine zd1 (op_load_elts (ds := eC e) Try.underlying60 (by rfl) Sz60 (by rfl) (Nat.le_of_ble_eq_true rfl) (by rfl)) rfl (by dsimp only [zS, zN, zH, zT]) ?_
    refine zd0 (fun H => (op_neE (by rfl) (by rfl))) rfl (by dsimp only [zS, zN, zH, zT]) ?_
    refine drun_end rfl ?_
    refine then_normal ?_
    refine aw_cond rfl (fun h => by cases h) (fun _ => ?_)
    refine aw_skip ?_
    refine inBlock_normal (then_normal ?_)
    refine aw_region ?_
    refine zst (by first | exact op_add (by rfl) (by rfl) (wrap_i64 ⟨by omega, by omega⟩) | exact op_add (by rfl) (by rfl) (by rfl)) rfl (by dsimp only [zS, zN, zH, zT]) ?_
    refine zst (op_move_tmp (by rfl)) rfl (by dsimp only [zS, zN, zH, zT]) ?_
    refine al_end rfl ?_
    apply again_to (a.length - (j + 1)) (false :: true :: false :: false :: false :: false :: true :: false :: true :: false :: false :: false :: false :: false :: false :: false :: false :: false :: false :: false :: false :: false :: false :: false :: false :: false :: false :: false :: false :: false :: false :: false :: false :: false :: false :: false :: false :: false :: false :: false :: false :: false :: false :: false :: false :: false :: false :: false :: false :: false :: false :: true :: true :: true :: false :: false :: false :: false :: false :: false :: false :: false :: false :: false :: false :: false :: false :: false :: false :: false :: false :: false :: false :: false :: false :: false :: false :: false :: false :: false :: [])
    · (try dsimp only [maskT]); try exact rfl
    · rfl
    · omega
    exact ⟨j + 1, rfl, by omega, rfl⟩
   ·
    (try simp only [y1, y2, y3, y4, y5, y6, y7, y8, y9, y0, List.length_map] at hc4)
    refine aw_exit ?_
    refine then_exit (again_exit (inBlock_here (then_normal ?_)))
    refine aw_seq ?_
    refine aw_seq ?_
    refine aw_region ?_
    refine zst (op_move_tmp (by rfl)) rfl (by dsimp only [zS, zN, zH, zT]) ?_
    refine zst (op_move_tmp (by rfl)) rfl (by dsimp only [zS, zN, zH, zT]) ?_
    refine zst (op_lenL Try.underlying42 (by first | exact LL.d _ _ | exact LL.own _ _ _ | exact LL.nil _ | assumption)) rfl (by dsimp only [zS, zN, zH, zT]) ?_
    refine zst (op_sliceL1 (b.map eD) Try.underlying42 Sz60 (LL.d _ _) (by rfl) (by omega) (by simp only [List.length_map, List.length_append]; omega) (by rw [List.length_map, Int.toNat_natCast, List.map_append, List.drop_left' (by rw [List.length_map])])) rfl (by dsimp only [zS, zN, zH, zT]) ?_
    refine zst (op_lenL Try.underlying42 (by first | exact LL.d _ _ | exact LL.own _ _ _ | exact LL.nil _ | assumption)) rfl (by dsimp only [zS, zN, zH, zT]) ?_
    refine zst (op_move_const (by rfl)) rfl (by dsimp only [zS, zN, zH, zT]) ?_
    refine al_end rfl ?_
    refine then_normal ?_
    refine aw_block ?_
    apply aw_loopF (fun n T H => ∃ (j : Nat), T = (.un :: (.d (I ((low n0 256 % 9) : Nat))) :: .un :: .un :: .un :: .un :: .un :: .un :: .un :: .un :: .un :: .un :: .un :: .un :: .un :: .un :: .un :: .un :: .un :: .un :: .un :: .un :: .un :: .un :: .un :: .un :: .un :: .un :: .un :: .un :: .un :: .un :: .un :: .un :: .un :: .un :: .un :: .un :: .un :: .un :: .un :: .un :: .un :: .un :: .un :: .un :: .un :: .un :: .un :: .un :: .un :: .un :: .un :: .un :: .un :: .un :: .un :: .un :: .un :: .un :: .un :: .un :: .un :: .un :: .un :: .un :: .un :: .un :: .un :: (.d (.lst 15 (b.map eD))) :: (.d (I (b.map eD).length)) :: (.d (I j)) :: .un :: .un :: .un :: .un :: .un :: .un :: .un :: .un :: []) ∧ j ≤ b.length ∧ n = b.length - j) (b.length) (false :: true :: false :: false :: false :: false :: false :: false :: false :: false :: false :: false :: false :: false :: false :: false :: false :: false :: false :: false :: false :: false :: false :: false :: false :: false :: false :: false :: false :: false :: false :: false :: false :: false :: false :: false :: false :: false :: false :: false :: false :: false :: false :: false :: false :: false :: false :: false :: false :: false :: false :: false :: false :: false :: false :: false :: false :: false :: false :: false :: false :: false :: false :: false :: false :: false :: false :: false :: false :: true :: true :: true :: false :: false :: false :: false :: false :: false :: false :: false :: [])
    · (try dsimp only [maskT]); try exact rfl
    · rfl
    · exact ⟨0, rfl, by omega, rfl⟩
    rintro n T H ⟨j, rfl, hj, rfl⟩
    refine aw_seq ?_
    refine aw_region ?_
    refine zst (op_ltI (by rfl) (by rfl)) rfl (by dsimp only [zS, zN, zH, zT]) ?_
    refine al_end rfl ?_
    refine then_normal ?_
    refine aw_seq ?_
    refine aw_cond rfl (fun hc6 => ?_) (fun hc6 => ?_)
    ·
     (try simp only [y1, y2, y3, y4, y5, y6, y7, y8, y9, y0, List.length_map] at hc6)
     (try simp only [List.length_map] at hc6)
     have hlt2 : j < b.length := by omega
     obtain ⟨e, hj1⟩ : ∃ z0, b[j]? = some z0 := ⟨_, List.getElem?_eq_getElem hlt2⟩
     refine aw_skip ?_
     refine then_normal ?_
     refine aw_seq ?_
     refine aw_block ?_
     refine aw_seq ?_
     refine aw_region ?_
     refine zst (op_indexAddr (z := eD e) (cs := [I e.seq, I e.at_, S e.id, S e.fr, S e.to, S e.old.id, S e.old.body, I e.old.ready, I e.old.count, S e.old.token, S e.new.id, S e.new.body, I e.new.ready, I e.new.count, S e.new.token]) Try.underlying42 Sz60 (LL.d _ _) (by rfl) (by omega) (by rw [List.getElem?_map, show ((j : Nat) : Int).toNat = j from rfl, hj1]; rfl) (by rfl)) rfl (by dsimp only [zS, zN, zH, zT]) ?_
     refine zst (op_load_elts (ds := eC e) Try.underlying60 (by rfl) Sz60 (by rfl) (Nat.le_of_ble_eq_true rfl) (by rfl)) rfl (by dsimp only [zS, zN, zH, zT]) ?_
     refine zst (op_alloc (Zr60) (by rfl)) rfl (by dsimp only [zS, zN, zH, zT]) ?_
     refine zst (op_storeB (vs := [.d (I e.seq), .d (I e.at_), .d (S e.id), .d (S e.fr), .d (S e.to), .d (S e.old.id), .d (S e.old.body), .d (I e.old.ready), .d (I e.old.count), .d (S e.old.token), .d (S e.new.id), .d (S e.new.body), .d (I e.new.ready), .d (I e.new.count), .d (S e.new.token)]) (b' := ⟨60, [.d (I e.seq), .d (I e.at_), .d (S e.id), .d (S e.fr), .d (S e.to), .d (S e.old.id), .d (S e.old.body), .d (I e.old.ready), .d (I e.old.count), .d (S e.old.token), .d (S e.new.id), .d (S e.new.body), .d (I e.new.ready), .d (I e.new.count), .d (S e.new.token)], false⟩) (H' := _) Sz60 (by rfl) push_at (by intro h; cases h) (by rfl) (by rfl) (Nat.le_of_ble_eq_true rfl) (by simp [AV.one, DV.one, TF, S, I, BY]) (by rfl) (by rfl) rfl) rfl (by dsimp only [zS, zN, zH, zT]) ?_
     refine al_end rfl ?_
     refine then_normal ?_
     refine aw_seq ?_
     refine aw_region ?_
     refine zst (by first | exact op_fieldAddr_ptr Try.underlying60 rfl Sz3 (by rfl) (by rfl) | exact op_fieldAddr_elt Try.underlying60 rfl Sz3 (by rfl) (by rfl) (by rfl)) rfl (by dsimp only [zS, zN, zH, zT]) ?_
     refine zst (by first | exact op_load_elt Try.underlying3 (by rfl) (by rfl) (by rfl) | exact op_load_ptr Try.underlying3 (by rfl) (by rfl) (by repeat (first | assumption | exact push_at | exact setB_at push_at | (rw [setB_ne (by simp only [setB_nb, push_nb, ne_eq]; omega)]) | apply push_ne | apply setB_at)) (by rfl)) rfl (by dsimp only [zS, zN, zH, zT]) ?_
     refine zst (op_move_tmp (by rfl)) rfl (by dsimp only [zS, zN, zH, zT]) ?_
     refine zst (op_leI (by rfl) (by rfl)) rfl (by dsimp only [zS, zN, zH, zT]) ?_
     refine al_end rfl ?_
     refine then_normal ?_
     refine aw_cond rfl (fun hc7 => ?_) (fun hc7 => ?_)
     ·
      (try simp only [y1, y2, y3, y4, y5, y6, y7, y8, y9, y0, List.length_map] at hc7)
      exact absurd hc7 (by have := hlt e (List.mem_of_getElem? hj1); omega)
     ·
      (try simp only [y1, y2, y3, y4, y5, y6, y7, y8, y9, y0, List.length_map] at hc7)
      refine aw_skip ?_
      refine inBlock_normal (then_normal ?_)
      refine aw_region ?_
      refine zst (by first | exact op_add (by rfl) (by rfl) (wrap_i64 ⟨by omega, by omega⟩) | exact op_add (by rfl) (by rfl) (by rfl)) rfl (by dsimp only [zS, zN, zH, zT]) ?_
      refine zst (op_move_tmp (by rfl)) rfl (by dsimp only [zS, zN, zH, zT]) ?_
      refine al_end rfl ?_
      apply again_to (b.length - (j + 1)) (false :: true :: false :: false :: false :: false :: false :: false :: false :: false :: false :: false :: false :: false :: false :: false :: false :: false :: false :: false :: false :: false :: false :: false :: false :: false :: false :: false :: false :: false :: false :: false :: false :: false :: false :: false :: false :: false :: false :: false :: false :: false :: false :: false :: false :: false :: false :: false :: false :: false :: false :: false :: false :: false :: false :: false :: false :: false :: false :: false :: false :: false :: false :: false :: false :: false :: false :: false :: false :: true :: true :: true :: false :: false :: false :: false :: false :: false :: false :: false :: [])
      · (try dsimp only [maskT]); try exact rfl
      · rfl
      · omega
      exact ⟨j + 1, rfl, by omega, rfl⟩
    ·
     (try simp only [y1, y2, y3, y4, y5, y6, y7, y8, y9, y0, List.length_map] at hc6)
     refine aw_exit ?_
     refine then_exit (again_exit (inBlock_here (then_normal ?_)))
     refine aw_seq ?_
     refine aw_region ?_
     refine zst (op_assign_const (by rfl)) rfl (by dsimp only [zS, zN, zH, zT]) ?_
     refine al_end rfl ?_
     refine then_normal ?_
     refine aw_ret ?_
     refine retPost1 rfl rfl ?_
     exact rfl
end Go.Proofs.Ytjbpfnoibeogbaa
