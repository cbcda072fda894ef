/- Part 5 of what the law needs: HistC, HistOth, HistP, HistTl, HistWh. -/
import Derived.Test.YtjbpfnoibeogbaaPE4
import Derived.KernelRfl
namespace Go.Proofs.Ytjbpfnoibeogbaa
open Go.AV Go.AV.Ord Go.AV.Oct Go.AV.Hist
set_option linter.unusedVariables false
set_option linter.unusedSimpArgs false
theorem repW0 (m : Mem) : RepD m (.agg #[.string ByteArray.empty, .string ByteArray.empty, .bool false]) (.agg (wC W0)) := by
  refine .agg _ _ rfl (wC_one W0) fun i hi => ?_
  match i, hi with
  | 0, _ => exact .v _ rfl
  | 1, _ => exact .v _ rfl
  | 2, _ => exact .v _ rfl
set_option maxHeartbeats 4000000 in
set_option maxRecDepth 100000 in
theorem commits_ok (Hs : HS) (l : List Pt) (hno : NoIt Hs) (hl : l.length ≤ 1000000) : ACalls Try.prog 17 [.d (.lst 7 (l.map tD))] Hs (fun av H' => ∃ ms, H' = Hs.addM ms ∧ NoIt H' ∧ av = .d (.lst 3 ((csP l).map cD))) := by
 refine ACalls.tidyA ?_
 suffices h : ACalls Try.prog 17 [.d (.lst 7 (l.map tD))] Hs (fun av H' => ∃ ms, NoIt (Hs.addM ms) ∧ Ext (Hs.addM ms) H' ∧ Weak av (.d (.lst 3 ((csP l).map cD)))) from h.weak fun v H' ⟨ms, h2, h3, h4⟩ => ⟨_, h4, ms, .d _, h3, ms, rfl, h2, rfl⟩
 refine acalls_of_aw Try.func17 rfl ?_
 refine aw_start (T' := ((.d (.lst 7 (l.map tD))) :: .un :: .un :: .un :: .un :: .un :: .un :: .un :: .un :: .un :: .un :: .un :: .un :: .un :: .un :: .un :: .un :: .un :: .un :: .un :: .un :: .un :: .un :: .un :: .un :: .un :: .un :: .un :: .un :: .un :: .un :: .un :: .un :: .un :: .un :: .un :: .un :: .un :: .un :: .un :: .un :: .un :: .un :: .un :: .un :: .un :: .un :: .un :: .un :: .un :: .un :: .un :: .un :: .un :: .un :: .un :: .un :: .un :: .un :: .un :: .un :: .un :: .un :: .un :: .un :: .un :: .un :: .un :: .un :: .un :: .un :: .un :: .un :: .un :: .un :: .un :: .un :: .un :: .un :: .un :: .un :: .un :: .un :: .un :: .un :: .un :: .un :: .un :: .un :: .un :: .un :: .un :: .un :: .un :: .un :: .un :: .un :: .un :: .un :: .un :: .un :: .un :: .un :: .un :: .un :: .un :: .un :: .un :: .un :: .un :: .un :: .un :: .un :: .un :: .un :: .un :: .un :: .un :: .un :: .un :: .un :: .un :: .un :: .un :: [])) rfl ?_
 refine aw_seq ?_
 refine aw_region ?_
 refine zst (op_assign_const (by rfl)) rfl (by dsimp only [zS, zN, zH, zT]) ?_
 refine al_end rfl ?_
 refine then_normal ?_
 refine aw_seq ?_
 refine aw_region ?_
 refine zst (op_lit Try.underlying40 ZS48 (.nil _) (by rfl) (by simp) (by simp [flat]) (by decide)) rfl (by dsimp only [zS, zN, zH, zT]) ?_
 refine zst (op_assign_tmp (by rfl)) rfl (by dsimp only [zS, zN, zH, zT]) ?_
 refine al_end rfl ?_
 refine then_normal ?_
 refine aw_seq ?_
 refine aw_seq ?_
 refine aw_region ?_
 refine zst (op_assign_const (by rfl)) rfl (by dsimp only [zS, zN, zH, zT]) ?_
 refine al_end rfl ?_
 refine then_normal ?_
 refine aw_block ?_
 apply aw_loopF (fun n T H => ∃ (k : Nat) (ms : List MB) (w : AV) (t : Option Nat), T = ((.d (.lst 7 (l.map tD))) :: .un :: .un :: w :: (.d (I k)) :: .un :: .un :: .un :: .un :: .un :: .un :: .un :: .un :: .un :: .un :: .un :: .un :: .un :: .un :: .un :: .un :: .un :: .un :: .un :: .un :: .un :: .un :: .un :: .un :: .un :: .un :: .un :: .un :: .un :: .un :: .un :: .un :: .un :: .un :: .un :: .un :: .un :: .un :: .un :: .un :: .un :: .un :: .un :: .un :: .un :: .un :: .un :: .un :: .un :: .un :: .un :: .un :: .un :: .un :: .un :: .un :: .un :: .un :: .un :: .un :: .un :: .un :: .un :: .un :: .un :: .un :: .un :: .un :: .un :: .un :: .un :: .un :: .un :: .un :: .un :: .un :: .un :: .un :: .un :: .un :: .un :: .un :: .un :: .un :: .un :: .un :: .un :: .un :: .un :: .un :: .un :: .un :: .un :: .un :: .un :: .un :: .un :: .un :: .un :: .un :: .un :: .un :: .un :: .un :: .un :: .un :: .un :: .un :: .un :: .un :: .un :: .un :: .un :: .un :: .un :: .un :: .un :: .un :: .un :: []) ∧ k ≤ 8 ∧ n = 8 - k ∧ App w t 3 (((csP l).take k).map cD) ∧ H.ok t k ∧ NewTok Hs t ∧ Ext (Hs.addM ms) H ∧ NoIt H) (8) (true :: false :: false :: true :: true :: false :: false :: false :: false :: false :: false :: false :: false :: false :: false :: false :: false :: false :: false :: false :: false :: false :: false :: false :: false :: false :: false :: false :: false :: false :: false :: false :: false :: false :: false :: false :: false :: false :: false :: false :: false :: false :: false :: false :: false :: false :: false :: false :: false :: false :: false :: false :: false :: false :: false :: false :: false :: false :: false :: false :: false :: false :: false :: false :: false :: false :: false :: false :: false :: false :: false :: false :: false :: false :: false :: false :: false :: false :: false :: false :: false :: false :: false :: false :: false :: false :: false :: false :: false :: false :: false :: false :: false :: false :: false :: false :: false :: false :: false :: false :: false :: false :: false :: false :: false :: false :: false :: false :: false :: false :: false :: false :: false :: false :: false :: false :: false :: false :: false :: false :: false :: false :: false :: false :: [])
 · (try dsimp only [maskT]); try exact rfl
 · rfl
 · exact ⟨0, [], _, none, rfl, by omega, rfl, App.own _ _ _, HS.ok_none _ _, NewTok.none _, by rw [addM_nil]; exact Ext.refl _, hno⟩
 rintro n T H ⟨k, ms, w, t, rfl, hk0, rfl, hv, hok, hnt, hx, hni⟩
 refine aw_seq ?_
 refine aw_seq ?_
 refine aw_region ?_
 refine zst (op_move_tmp (by rfl)) rfl (by dsimp only [zS, zN, zH, zT]) ?_
 refine zst (op_ltI (by rfl) (by rfl)) rfl (by dsimp only [zS, zN, zH, zT]) ?_
 refine al_end rfl ?_
 refine then_normal ?_
 refine aw_cond rfl (fun hc1 => ?_) (fun hc1 => ?_)
 ·
  (try simp only [y1, y2, y3, y4, y5, y6, y7, y8, y9, y0, List.length_map] at hc1)
  have hk8 : k < 8 := by omega
  refine aw_skip ?_
  refine then_normal ?_
  refine aw_seq ?_
  refine aw_block ?_
  refine aw_seq ?_
  refine aw_region ?_
  refine zst (op_makeMap) rfl (by dsimp only [zS, zN, zH, zT]) ?_
  refine zst (op_assign_tmp (by rfl)) rfl (by dsimp only [zS, zN, zH, zT]) ?_
  refine al_end rfl ?_
  refine then_normal ?_
  refine aw_seq ?_
  refine aw_seq ?_
  refine aw_region ?_
  refine zst (op_move_tmp (by rfl)) rfl (by dsimp only [zS, zN, zH, zT]) ?_
  refine zst (op_lenL Try.underlying39 (by first | exact LL.d _ _ | exact LL.own _ _ _ | exact LL.nil _ | assumption)) rfl (by dsimp only [zS, zN, zH, zT]) ?_
  refine zst (op_move_const (by rfl)) rfl (by dsimp only [zS, zN, zH, zT]) ?_
  refine al_end rfl ?_
  refine then_normal ?_
  refine aw_block ?_
  apply aw_loopF (fun n T H => ∃ (j : Nat) (a : Nat) (es : List (List UInt8 × DV)), T = ((.d (.lst 7 (l.map tD))) :: .un :: .un :: w :: (.d (I k)) :: (.map a) :: .un :: .un :: .un :: .un :: .un :: .un :: .un :: .un :: .un :: .un :: .un :: .un :: .un :: .un :: .un :: .un :: .un :: (.d (.lst 7 (l.map tD))) :: (.d (I (l.map tD).length)) :: (.d (I j)) :: .un :: .un :: .un :: .un :: .un :: .un :: .un :: .un :: .un :: .un :: .un :: .un :: .un :: .un :: .un :: .un :: .un :: .un :: .un :: .un :: .un :: .un :: .un :: .un :: .un :: .un :: .un :: .un :: .un :: .un :: .un :: .un :: .un :: .un :: .un :: .un :: .un :: .un :: .un :: .un :: .un :: .un :: .un :: .un :: .un :: .un :: .un :: .un :: .un :: .un :: .un :: .un :: .un :: .un :: .un :: .un :: .un :: .un :: .un :: .un :: .un :: .un :: .un :: .un :: .un :: .un :: .un :: .un :: .un :: .un :: .un :: .un :: .un :: .un :: .un :: .un :: .un :: .un :: .un :: .un :: .un :: .un :: .un :: .un :: .un :: .un :: .un :: .un :: .un :: .un :: .un :: .un :: .un :: .un :: .un :: .un :: .un :: .un :: []) ∧ j ≤ l.length ∧ n = l.length - j ∧ a = (Hs.addM ms).nm ∧ Holds k (l.take j) es ∧ Ext ((Hs.addM ms).pushM (.map es)) H ∧ NoIt H ∧ H.ok t k) (l.length) (true :: false :: false :: true :: true :: true :: false :: false :: false :: false :: false :: false :: false :: false :: false :: false :: false :: false :: false :: false :: false :: false :: false :: true :: true :: true :: false :: false :: false :: false :: false :: false :: false :: false :: false :: false :: false :: false :: false :: false :: false :: false :: false :: false :: false :: false :: false :: false :: false :: false :: false :: false :: false :: false :: false :: false :: false :: false :: false :: false :: false :: false :: false :: false :: false :: false :: false :: false :: false :: false :: false :: false :: false :: false :: false :: false :: false :: false :: false :: false :: false :: false :: false :: false :: false :: false :: false :: false :: false :: false :: false :: false :: false :: false :: false :: false :: false :: false :: false :: false :: false :: false :: false :: false :: false :: false :: false :: false :: false :: false :: false :: false :: false :: false :: false :: false :: false :: false :: false :: false :: false :: false :: false :: false :: [])
  · (try dsimp only [maskT]); try exact rfl
  · rfl
  · exact ⟨0, _, [], rfl, by omega, rfl, by unfold HS.nm; rw [hx.maps], Holds.nil _, Ext.pushM1 hx, hni.push _, hok⟩
  rintro n T H ⟨j, a, es, rfl, hj, rfl, han, hh, hx, hni, hok⟩
  refine aw_seq ?_
  refine aw_region ?_
  refine zst (op_ltI (by rfl) (by rfl)) rfl (by dsimp only [zS, zN, zH, zT]) ?_
  refine al_end rfl ?_
  refine then_normal ?_
  refine aw_seq ?_
  refine aw_cond rfl (fun hc2 => ?_) (fun hc2 => ?_)
  ·
   (try simp only [y1, y2, y3, y4, y5, y6, y7, y8, y9, y0, List.length_map] at hc2)
   (try simp only [List.length_map] at hc2)
   have hlt : j < l.length := by omega
   obtain ⟨p, hp1⟩ : ∃ z0, l[j]? = some z0 := ⟨_, List.getElem?_eq_getElem hlt⟩
   have b1 := low_le p.id (k := 4) (by decide)
   have b2 := low_le p.token (k := 4) (by decide)
   have b3 := low_le p.q (k := 2) (by decide)
   refine aw_skip ?_
   refine then_normal ?_
   refine aw_seq ?_
   refine aw_block ?_
   refine aw_seq ?_
   refine aw_region ?_
   refine zst (op_indexAddr (z := tD p) (cs := [I p.c, I p.q, I p.id, TF p.gone, I p.ready, I p.count, I p.token]) Try.underlying39 Sz112 (LL.d _ _) (by rfl) (by omega) (by rw [List.getElem?_map, show ((j : Nat) : Int).toNat = j from rfl, hp1]; rfl) (by rfl)) rfl (by dsimp only [zS, zN, zH, zT]) ?_
   refine zst (op_load_elts (ds := tC p) Try.underlying112 (by rfl) Sz112 (by rfl) (Nat.le_of_ble_eq_true rfl) (by rfl)) rfl (by dsimp only [zS, zN, zH, zT]) ?_
   refine zst (op_alloc (Zr112) (by rfl)) rfl (by dsimp only [zS, zN, zH, zT]) ?_
   refine zst (op_storeB (vs := [.d (I p.c), .d (I p.q), .d (I p.id), .d (TF p.gone), .d (I p.ready), .d (I p.count), .d (I p.token)]) (b' := ⟨112, [.d (I p.c), .d (I p.q), .d (I p.id), .d (TF p.gone), .d (I p.ready), .d (I p.count), .d (I p.token)], false⟩) (H' := _) Sz112 (by rfl) push_at (by intro h; cases h) (by rfl) (by rfl) (Nat.le_of_ble_eq_true rfl) (by simp [AV.one, DV.one, TF, S, I, BY]) (by rfl) (by rfl) rfl) rfl (by dsimp only [zS, zN, zH, zT]) ?_
   refine al_end rfl ?_
   refine then_normal ?_
   refine aw_seq ?_
   refine aw_seq ?_
   refine aw_region ?_
   refine zst (by first | exact op_fieldAddr_ptr Try.underlying112 rfl Sz3 (by rfl) (by rfl) | exact op_fieldAddr_elt Try.underlying112 rfl Sz3 (by rfl) (by rfl) (by rfl)) rfl (by dsimp only [zS, zN, zH, zT]) ?_
   refine zst (by first | exact op_load_elt Try.underlying3 (by rfl) (by rfl) (by rfl) | exact op_load_ptr Try.underlying3 (by rfl) (by rfl) (by (try have l1 := lt_nb hb1); (try have l2 := lt_nb hb2); repeat (first | assumption | exact push_at | exact setB_at push_at | (rw [HS.up_blks]) | (rw [pushM_blks]) | (rw [setM_blks]) | (rw [setB_ne (by simp only [setB_nb, push_nb, pushM_nb, setM_nb, ne_eq]; omega)]) | apply push_ne | apply setB_at)) (by rfl)) rfl (by dsimp only [zS, zN, zH, zT]) ?_
   refine zst (op_and (by rfl) (by rfl) (and_7 _)) rfl (by dsimp only [zS, zN, zH, zT]) ?_
   refine zst (op_move_tmp (by rfl)) rfl (by dsimp only [zS, zN, zH, zT]) ?_
   refine zst (op_neI (by rfl) (by rfl)) rfl (by dsimp only [zS, zN, zH, zT]) ?_
   refine al_end rfl ?_
   refine then_normal ?_
   refine aw_cond rfl (fun hc3 => ?_) (fun hc3 => ?_)
   ·
    (try simp only [y1, y2, y3, y4, y5, y6, y7, y8, y9, y0, List.length_map] at hc3)
    have hc0 : ¬ low p.c 8 = k := by omega
    refine aw_exit ?_
    refine then_exit (inBlock_here (then_normal ?_))
    refine aw_region ?_
    refine zst (by first | exact op_add (by rfl) (by rfl) (wrap_i64 ⟨by omega, by omega⟩) | exact op_add (by rfl) (by rfl) (by rfl)) rfl (by dsimp only [zS, zN, zH, zT]) ?_
    refine zst (op_move_tmp (by rfl)) rfl (by dsimp only [zS, zN, zH, zT]) ?_
    refine al_end rfl ?_
    apply again_to (l.length - (j + 1)) (true :: false :: false :: true :: true :: true :: false :: false :: false :: false :: false :: false :: false :: false :: false :: false :: false :: false :: false :: false :: false :: false :: false :: true :: true :: true :: false :: false :: false :: false :: false :: false :: false :: false :: false :: false :: false :: false :: false :: false :: false :: false :: false :: false :: false :: false :: false :: false :: false :: false :: false :: false :: false :: false :: false :: false :: false :: false :: false :: false :: false :: false :: false :: false :: false :: false :: false :: false :: false :: false :: false :: false :: false :: false :: false :: false :: false :: false :: false :: false :: false :: false :: false :: false :: false :: false :: false :: false :: false :: false :: false :: false :: false :: false :: false :: false :: false :: false :: false :: false :: false :: false :: false :: false :: false :: false :: false :: false :: false :: false :: false :: false :: false :: false :: false :: false :: false :: false :: false :: false :: false :: false :: false :: false :: [])
    · (try dsimp only [maskT]); try exact rfl
    · rfl
    · omega
    exact ⟨j + 1, _, _, rfl, by omega, rfl, han, by rw [take_snoc hp1]; exact hh.pass hc0, (by repeat (first | assumption | apply Ext.push | (refine Ext.setB ?_ (by have := nb_le hx; (try simp only [setB_nb, push_nb, pushM_nb]); (try simp only [pushM_nb] at this); omega)))), hni.of rfl, hok⟩
   ·
    (try simp only [y1, y2, y3, y4, y5, y6, y7, y8, y9, y0, List.length_map] at hc3)
    have hc0 : low p.c 8 = k := by omega
    refine aw_skip ?_
    refine then_normal ?_
    refine aw_seq ?_
    refine aw_region ?_
    refine zst (by first | exact op_fieldAddr_ptr Try.underlying112 rfl Sz3 (by rfl) (by rfl) | exact op_fieldAddr_elt Try.underlying112 rfl Sz3 (by rfl) (by rfl) (by rfl)) rfl (by dsimp only [zS, zN, zH, zT]) ?_
    refine zst (by first | exact op_load_elt Try.underlying3 (by rfl) (by rfl) (by rfl) | exact op_load_ptr Try.underlying3 (by rfl) (by rfl) (by (try have l1 := lt_nb hb1); (try have l2 := lt_nb hb2); repeat (first | assumption | exact push_at | exact setB_at push_at | (rw [HS.up_blks]) | (rw [pushM_blks]) | (rw [setM_blks]) | (rw [setB_ne (by simp only [setB_nb, push_nb, pushM_nb, setM_nb, ne_eq]; omega)]) | apply push_ne | apply setB_at)) (by rfl)) rfl (by dsimp only [zS, zN, zH, zT]) ?_
    refine zst (op_and (by rfl) (by rfl) (and_3 _)) rfl (by dsimp only [zS, zN, zH, zT]) ?_
    refine zst (op_convI (r := (((low p.id 4) : Nat) : Int)) (by rw [Try.underlying3]; rfl) Try.underlying5 (by rfl) (wrap_u8 ⟨by omega, by omega⟩)) rfl (by dsimp only [zS, zN, zH, zT]) ?_
    refine zst (op_add (r := ((UInt8.ofNat (48 + (low p.id 4))).toNat : Int)) (by rfl) (by rfl) (byte_add (by omega) (by omega))) rfl (by dsimp only [zS, zN, zH, zT]) ?_
    refine zst (op_lit Try.underlying49 ZS5 (.cons (y := BY (UInt8.ofNat (48 + (low p.id 4)))) (by rfl) (.nil _)) (by rfl) (lit_b _) (lit_b1 _) (by decide)) rfl (by dsimp only [zS, zN, zH, zT]) ?_
    refine zst (op_string (l := idB (low p.id 4)) Try.underlying49 Try.underlying9 Try.underlying5 (LL.own _ _ _) (by rfl)) rfl (by dsimp only [zS, zN, zH, zT]) ?_
    refine zst (op_assign_tmp (by rfl)) rfl (by dsimp only [zS, zN, zH, zT]) ?_
    refine al_end rfl ?_
    refine then_normal ?_
    refine aw_seq ?_
    refine aw_region ?_
    refine zst (op_move_tmp (by rfl)) rfl (by dsimp only [zS, zN, zH, zT]) ?_
    refine zst (by first | exact op_fieldAddr_ptr Try.underlying112 rfl Sz3 (by rfl) (by rfl) | exact op_fieldAddr_elt Try.underlying112 rfl Sz3 (by rfl) (by rfl) (by rfl)) rfl (by dsimp only [zS, zN, zH, zT]) ?_
    refine zst (by first | exact op_load_elt Try.underlying3 (by rfl) (by rfl) (by rfl) | exact op_load_ptr Try.underlying3 (by rfl) (by rfl) (by (try have l1 := lt_nb hb1); (try have l2 := lt_nb hb2); repeat (first | assumption | exact push_at | exact setB_at push_at | (rw [HS.up_blks]) | (rw [pushM_blks]) | (rw [setM_blks]) | (rw [setB_ne (by simp only [setB_nb, push_nb, pushM_nb, setM_nb, ne_eq]; omega)]) | apply push_ne | apply setB_at)) (by rfl)) rfl (by dsimp only [zS, zN, zH, zT]) ?_
    refine zst (op_and (by rfl) (by rfl) (and_63 _)) rfl (by dsimp only [zS, zN, zH, zT]) ?_
    refine zst (by first | exact op_fieldAddr_ptr Try.underlying112 rfl Sz3 (by rfl) (by rfl) | exact op_fieldAddr_elt Try.underlying112 rfl Sz3 (by rfl) (by rfl) (by rfl)) rfl (by dsimp only [zS, zN, zH, zT]) ?_
    refine zst (by first | exact op_load_elt Try.underlying3 (by rfl) (by rfl) (by rfl) | exact op_load_ptr Try.underlying3 (by rfl) (by rfl) (by (try have l1 := lt_nb hb1); (try have l2 := lt_nb hb2); repeat (first | assumption | exact push_at | exact setB_at push_at | (rw [HS.up_blks]) | (rw [pushM_blks]) | (rw [setM_blks]) | (rw [setB_ne (by simp only [setB_nb, push_nb, pushM_nb, setM_nb, ne_eq]; omega)]) | apply push_ne | apply setB_at)) (by rfl)) rfl (by dsimp only [zS, zN, zH, zT]) ?_
    refine zst (op_and (by rfl) (by rfl) (and_7 _)) rfl (by dsimp only [zS, zN, zH, zT]) ?_
    refine zst (op_buildD (pl := [(0, 1), (1, 1), (2, 1), (3, 1), (4, 1)]) (mC ⟨idB (low p.id 4), [], ((low p.ready 64) : Nat), ((low p.count 8) : Nat), []⟩) Try.underlying58 Zr58 (by kernel_rfl) (by rfl) (by rfl) (by rfl) (mC_one _)) rfl (by dsimp only [zS, zN, zH, zT]) ?_
    refine zst (op_alloc (Zr58) (by rfl)) rfl (by dsimp only [zS, zN, zH, zT]) ?_
    refine zst (op_storeB (vs := [.d (S (idB (low p.id 4))), .d (S []), .d (I ((low p.ready 64) : Nat)), .d (I ((low p.count 8) : Nat)), .d (S [])]) (b' := ⟨58, [.d (S (idB (low p.id 4))), .d (S []), .d (I ((low p.ready 64) : Nat)), .d (I ((low p.count 8) : Nat)), .d (S [])], false⟩) (H' := _) Sz58 (by rfl) push_at (by intro h; cases h) (by rfl) (by rfl) (Nat.le_of_ble_eq_true rfl) (by simp [AV.one, DV.one, TF, S, I, BY]) (by rfl) (by rfl) rfl) rfl (by dsimp only [zS, zN, zH, zT]) ?_
    refine al_end rfl ?_
    refine then_normal ?_
    apply aw_cutF (fun T H => ∃ (x : Nat) (y : Nat), T = ((.d (.lst 7 (l.map tD))) :: .un :: .un :: w :: (.d (I k)) :: (.map a) :: .un :: (.ptr x 0) :: (.d (S (idB (low p.id 4)))) :: (.ptr y 0) :: .un :: .un :: .un :: .un :: .un :: .un :: .un :: .un :: .un :: .un :: .un :: .un :: .un :: (.d (.lst 7 (l.map tD))) :: (.d (I (l.map tD).length)) :: (.d (I j)) :: .un :: .un :: .un :: .un :: .un :: .un :: .un :: .un :: .un :: .un :: .un :: .un :: .un :: .un :: .un :: .un :: .un :: .un :: .un :: .un :: .un :: .un :: .un :: .un :: .un :: .un :: .un :: .un :: .un :: .un :: .un :: .un :: .un :: .un :: .un :: .un :: .un :: .un :: .un :: .un :: .un :: .un :: .un :: .un :: .un :: .un :: .un :: .un :: .un :: .un :: .un :: .un :: .un :: .un :: .un :: .un :: .un :: .un :: .un :: .un :: .un :: .un :: .un :: .un :: .un :: .un :: .un :: .un :: .un :: .un :: .un :: .un :: .un :: .un :: .un :: .un :: .un :: .un :: .un :: .un :: .un :: .un :: .un :: .un :: .un :: .un :: .un :: .un :: .un :: .un :: .un :: .un :: .un :: .un :: .un :: .un :: .un :: .un :: []) ∧ H.blks[x]? = some ⟨112, [.d (I p.c), .d (I p.q), .d (I p.id), .d (TF p.gone), .d (I p.ready), .d (I p.count), .d (I p.token)], false⟩ ∧ H.blks[y]? = some ⟨58, [.d (S (idB (low p.id 4))), .d (S []), .d (I ((low p.ready 64) : Nat)), .d (I ((low p.count 8) : Nat)), .d (S (tkB (low p.token 4)))], false⟩ ∧ Ext ((Hs.addM ms).pushM (.map es)) H ∧ NoIt H ∧ H.ok t k)
    ·
     refine aw_seq ?_
     refine aw_region ?_
     refine zst (by first | exact op_fieldAddr_ptr Try.underlying112 rfl Sz3 (by rfl) (by rfl) | exact op_fieldAddr_elt Try.underlying112 rfl Sz3 (by rfl) (by rfl) (by rfl)) rfl (by dsimp only [zS, zN, zH, zT]) ?_
     refine zst (by first | exact op_load_elt Try.underlying3 (by rfl) (by rfl) (by rfl) | exact op_load_ptr Try.underlying3 (by rfl) (by rfl) (by (try have l1 := lt_nb hb1); (try have l2 := lt_nb hb2); repeat (first | assumption | exact push_at | exact setB_at push_at | (rw [HS.up_blks]) | (rw [pushM_blks]) | (rw [setM_blks]) | (rw [setB_ne (by simp only [setB_nb, push_nb, pushM_nb, setM_nb, ne_eq]; omega)]) | apply push_ne | apply setB_at)) (by rfl)) rfl (by dsimp only [zS, zN, zH, zT]) ?_
     refine zst (op_and (by rfl) (by rfl) (and_3 _)) rfl (by dsimp only [zS, zN, zH, zT]) ?_
     refine zst (op_gtI (by rfl) (by rfl)) rfl (by dsimp only [zS, zN, zH, zT]) ?_
     refine al_end rfl ?_
     refine then_normal ?_
     refine aw_cond rfl (fun hc4 => ?_) (fun hc4 => ?_)
     ·
      (try simp only [y1, y2, y3, y4, y5, y6, y7, y8, y9, y0, List.length_map] at hc4)
      have htk : 0 < (low p.token 4) := by omega
      refine aw_region ?_
      refine zst (by first | exact op_fieldAddr_ptr Try.underlying112 rfl Sz3 (by rfl) (by rfl) | exact op_fieldAddr_elt Try.underlying112 rfl Sz3 (by rfl) (by rfl) (by rfl)) rfl (by dsimp only [zS, zN, zH, zT]) ?_
      refine zst (by first | exact op_load_elt Try.underlying3 (by rfl) (by rfl) (by rfl) | exact op_load_ptr Try.underlying3 (by rfl) (by rfl) (by (try have l1 := lt_nb hb1); (try have l2 := lt_nb hb2); repeat (first | assumption | exact push_at | exact setB_at push_at | (rw [HS.up_blks]) | (rw [pushM_blks]) | (rw [setM_blks]) | (rw [setB_ne (by simp only [setB_nb, push_nb, pushM_nb, setM_nb, ne_eq]; omega)]) | apply push_ne | apply setB_at)) (by rfl)) rfl (by dsimp only [zS, zN, zH, zT]) ?_
      refine zst (op_and (by rfl) (by rfl) (and_3 _)) rfl (by dsimp only [zS, zN, zH, zT]) ?_
      refine zst (op_convI (r := (((low p.token 4) : Nat) : Int)) (by rw [Try.underlying3]; rfl) Try.underlying5 (by rfl) (wrap_u8 ⟨by omega, by omega⟩)) rfl (by dsimp only [zS, zN, zH, zT]) ?_
      refine zst (op_add (r := ((UInt8.ofNat (116 + (low p.token 4))).toNat : Int)) (by rfl) (by rfl) (byte_add (by omega) (by omega))) rfl (by dsimp only [zS, zN, zH, zT]) ?_
      refine zst (op_lit Try.underlying49 ZS5 (.cons (y := BY (UInt8.ofNat (116 + (low p.token 4)))) (by rfl) (.nil _)) (by rfl) (lit_b _) (lit_b1 _) (by decide)) rfl (by dsimp only [zS, zN, zH, zT]) ?_
      refine zst (op_string (l := [UInt8.ofNat (116 + (low p.token 4))]) Try.underlying49 Try.underlying9 Try.underlying5 (LL.own _ _ _) (by rfl)) rfl (by dsimp only [zS, zN, zH, zT]) ?_
      refine zst (by first | exact op_fieldAddr_ptr Try.underlying58 rfl Sz9 (by rfl) (by rfl) | exact op_fieldAddr_elt Try.underlying58 rfl Sz9 (by rfl) (by rfl) (by rfl)) rfl (by dsimp only [zS, zN, zH, zT]) ?_
      refine zst (op_storeB (vs := [.d (S [UInt8.ofNat (116 + (low p.token 4))])]) (b' := ⟨58, [.d (S (idB (low p.id 4))), .d (S []), .d (I ((low p.ready 64) : Nat)), .d (I ((low p.count 8) : Nat)), .d (S [UInt8.ofNat (116 + (low p.token 4))])], false⟩) (H' := _) Sz9 (by rfl) (by (try have l1 := lt_nb hb1); (try have l2 := lt_nb hb2); repeat (first | assumption | exact push_at | exact setB_at push_at | (rw [HS.up_blks]) | (rw [pushM_blks]) | (rw [setM_blks]) | (rw [setB_ne (by simp only [setB_nb, push_nb, pushM_nb, setM_nb, ne_eq]; omega)]) | apply push_ne | apply setB_at)) (by intro h; cases h) (by rfl) (by rfl) (Nat.le_of_ble_eq_true rfl) (by simp [AV.one, DV.one, TF, S, I, BY]) (by rfl) (by rfl) rfl) rfl (by dsimp only [zS, zN, zH, zT]) ?_
      refine al_end rfl ?_
      apply cut_to (true :: false :: false :: true :: true :: true :: false :: true :: true :: true :: false :: false :: false :: false :: false :: false :: false :: false :: false :: false :: false :: false :: false :: true :: true :: true :: false :: false :: false :: false :: false :: false :: false :: false :: false :: false :: false :: false :: false :: false :: false :: false :: false :: false :: false :: false :: false :: false :: false :: false :: false :: false :: false :: false :: false :: false :: false :: false :: false :: false :: false :: false :: false :: false :: false :: false :: false :: false :: false :: false :: false :: false :: false :: false :: false :: false :: false :: false :: false :: false :: false :: false :: false :: false :: false :: false :: false :: false :: false :: false :: false :: false :: false :: false :: false :: false :: false :: false :: false :: false :: false :: false :: false :: false :: false :: false :: false :: false :: false :: false :: false :: false :: false :: false :: false :: false :: false :: false :: false :: false :: false :: false :: false :: false :: [])
      · (try dsimp only [maskT]); try exact rfl
      · rfl
      exact ⟨_, _, rfl, (by (try have l1 := lt_nb hb1); (try have l2 := lt_nb hb2); repeat (first | assumption | exact push_at | exact setB_at push_at | (rw [HS.up_blks]) | (rw [pushM_blks]) | (rw [setM_blks]) | (rw [setB_ne (by simp only [setB_nb, push_nb, pushM_nb, setM_nb, ne_eq]; omega)]) | apply push_ne | apply setB_at)), by rw [tkB_pos htk]; exact (by (try have l1 := lt_nb hb1); (try have l2 := lt_nb hb2); repeat (first | assumption | exact push_at | exact setB_at push_at | (rw [HS.up_blks]) | (rw [pushM_blks]) | (rw [setM_blks]) | (rw [setB_ne (by simp only [setB_nb, push_nb, pushM_nb, setM_nb, ne_eq]; omega)]) | apply push_ne | apply setB_at)), (by repeat (first | assumption | apply Ext.push | (refine Ext.setB ?_ (by have := nb_le hx; (try simp only [setB_nb, push_nb, pushM_nb]); (try simp only [pushM_nb] at this); omega)))), hni.of rfl, hok⟩
     ·
      (try simp only [y1, y2, y3, y4, y5, y6, y7, y8, y9, y0, List.length_map] at hc4)
      have htk : ¬ 0 < (low p.token 4) := by omega
      refine aw_skip ?_
      apply cut_to (true :: false :: false :: true :: true :: true :: false :: true :: true :: true :: false :: false :: false :: false :: false :: false :: false :: false :: false :: false :: false :: false :: false :: true :: true :: true :: false :: false :: false :: false :: false :: false :: false :: false :: false :: false :: false :: false :: false :: false :: false :: false :: false :: false :: false :: false :: false :: false :: false :: false :: false :: false :: false :: false :: false :: false :: false :: false :: false :: false :: false :: false :: false :: false :: false :: false :: false :: false :: false :: false :: false :: false :: false :: false :: false :: false :: false :: false :: false :: false :: false :: false :: false :: false :: false :: false :: false :: false :: false :: false :: false :: false :: false :: false :: false :: false :: false :: false :: false :: false :: false :: false :: false :: false :: false :: false :: false :: false :: false :: false :: false :: false :: false :: false :: false :: false :: false :: false :: false :: false :: false :: false :: false :: false :: [])
      · (try dsimp only [maskT]); try exact rfl
      · rfl
      exact ⟨_, _, rfl, (by (try have l1 := lt_nb hb1); (try have l2 := lt_nb hb2); repeat (first | assumption | exact push_at | exact setB_at push_at | (rw [HS.up_blks]) | (rw [pushM_blks]) | (rw [setM_blks]) | (rw [setB_ne (by simp only [setB_nb, push_nb, pushM_nb, setM_nb, ne_eq]; omega)]) | apply push_ne | apply setB_at)), by rw [tkB_zero htk]; exact (by (try have l1 := lt_nb hb1); (try have l2 := lt_nb hb2); repeat (first | assumption | exact push_at | exact setB_at push_at | (rw [HS.up_blks]) | (rw [pushM_blks]) | (rw [setM_blks]) | (rw [setB_ne (by simp only [setB_nb, push_nb, pushM_nb, setM_nb, ne_eq]; omega)]) | apply push_ne | apply setB_at)), (by repeat (first | assumption | apply Ext.push | (refine Ext.setB ?_ (by have := nb_le hx; (try simp only [setB_nb, push_nb, pushM_nb]); (try simp only [pushM_nb] at this); omega)))), hni.of rfl, hok⟩
    rintro T H ⟨x, y, rfl, hb1, hb2, hx, hni, hok⟩
    refine aw_seq ?_
    refine aw_region ?_
    refine zst (by first | exact op_fieldAddr_ptr Try.underlying112 rfl Sz3 (by rfl) (by rfl) | exact op_fieldAddr_elt Try.underlying112 rfl Sz3 (by rfl) (by rfl) (by rfl)) rfl (by dsimp only [zS, zN, zH, zT]) ?_
    refine zst (by first | exact op_load_elt Try.underlying3 (by rfl) (by rfl) (by rfl) | exact op_load_ptr Try.underlying3 (by rfl) (by rfl) (by (try have l1 := lt_nb hb1); (try have l2 := lt_nb hb2); repeat (first | assumption | exact push_at | exact setB_at push_at | (rw [HS.up_blks]) | (rw [pushM_blks]) | (rw [setM_blks]) | (rw [setB_ne (by simp only [setB_nb, push_nb, pushM_nb, setM_nb, ne_eq]; omega)]) | apply push_ne | apply setB_at)) (by rfl)) rfl (by dsimp only [zS, zN, zH, zT]) ?_
    refine zst (op_and (by rfl) (by rfl) (and_1 _)) rfl (by dsimp only [zS, zN, zH, zT]) ?_
    refine zst (op_convI (r := (((low p.q 2) : Nat) : Int)) (by rw [Try.underlying3]; rfl) Try.underlying5 (by rfl) (wrap_u8 ⟨by omega, by omega⟩)) rfl (by dsimp only [zS, zN, zH, zT]) ?_
    refine zst (op_add (r := ((UInt8.ofNat (97 + (low p.q 2))).toNat : Int)) (by rfl) (by rfl) (byte_add (by omega) (by omega))) rfl (by dsimp only [zS, zN, zH, zT]) ?_
    refine zst (op_lit Try.underlying49 ZS5 (.cons (y := BY (UInt8.ofNat (97 + (low p.q 2)))) (by rfl) (.nil _)) (by rfl) (lit_b _) (lit_b1 _) (by decide)) rfl (by dsimp only [zS, zN, zH, zT]) ?_
    refine zst (op_string (l := qB (low p.q 2)) Try.underlying49 Try.underlying9 Try.underlying5 (LL.own _ _ _) (by rfl)) rfl (by dsimp only [zS, zN, zH, zT]) ?_
    refine zst (op_move_tmp (by rfl)) rfl (by dsimp only [zS, zN, zH, zT]) ?_
    refine zst (op_lit Try.underlying52 ZS9 (.cons (by rfl) (.cons (by rfl) (.cons (by rfl) (.nil _)))) (by rfl) (by simp [BY, S, I, TF, DV.cells]) (by simp [flat, BY, S, I, TF, DV.cells, DV.one]) (by decide)) rfl (by dsimp only [zS, zN, zH, zT]) ?_
    refine zst (op_callF Try.func51 (by rfl) (by rfl) (.tmp (by rfl) .nil) (key_ok _ _ [[109], qB (low p.q 2), idB (low p.id 4)] (LL.own _ _ _) (by simp [qB, idB]))) rfl (by dsimp only [zS, zN, zH, zT]) ?_
    refine zst (op_assign_tmp (by rfl)) rfl (by dsimp only [zS, zN, zH, zT]) ?_
    refine al_end rfl ?_
    refine then_normal ?_
    refine aw_seq ?_
    refine aw_region ?_
    refine zst (op_move_tmp (by rfl)) rfl (by dsimp only [zS, zN, zH, zT]) ?_
    refine zst (op_move_tmp (by rfl)) rfl (by dsimp only [zS, zN, zH, zT]) ?_
    refine zst (op_move_tmp (by rfl)) rfl (by dsimp only [zS, zN, zH, zT]) ?_
    refine zst (op_load_ptrsD (mC (msgP p)) Try.underlying58 (by rfl) Sz58 (by rfl) (by (try have l1 := lt_nb hb1); (try have l2 := lt_nb hb2); repeat (first | assumption | exact push_at | exact setB_at push_at | (rw [HS.up_blks]) | (rw [pushM_blks]) | (rw [setM_blks]) | (rw [setB_ne (by simp only [setB_nb, push_nb, pushM_nb, setM_nb, ne_eq]; omega)]) | apply push_ne | apply setB_at)) (Nat.le_of_ble_eq_true rfl) (by rfl) (mC_one _)) rfl (by dsimp only [zS, zN, zH, zT]) ?_
    refine zst (op_callF Try.func21 (by rfl) (by rfl) (.tmp (by rfl) .nil) (menc_ok _ (msgP p) (msgP_rd p) (msgP_ct p) (msgP_ln p))) rfl (by dsimp only [zS, zN, zH, zT]) ?_
    refine zst (op_buildD (pl := [(0, 1), (1, 1), (2, 1)]) (wC (putW p)) Try.underlying51 Zr51 (by kernel_rfl) (by rfl) (by rfl) (by rfl) (wC_one _)) rfl (by dsimp only [zS, zN, zH, zT]) ?_
    refine zst (op_mapUpdate (d := wD (putW p)) Try.underlying110 Try.underlying9 (by rfl) (by rfl) (Weak.refl _) (by rw [han]; exact pushM_at hx) (fun j n q => (hni) j _ n q)) rfl (by dsimp only [zS, zN, zH, zT]) ?_
    refine al_end rfl ?_
    refine then_normal ?_
    refine aw_seq ?_
    have hx2 := Ext.setM hx (m' := .map (putE es (keyP p) (wD (putW p))))
    have hni2 := NoIt.setM hni a (putE es (keyP p) (wD (putW p)))
    refine aw_region ?_
    refine zst (by first | exact op_fieldAddr_ptr Try.underlying112 rfl Sz4 (by rfl) (by rfl) | exact op_fieldAddr_elt Try.underlying112 rfl Sz4 (by rfl) (by rfl) (by rfl)) rfl (by dsimp only [zS, zN, zH, zT]) ?_
    refine zst (by first | exact op_load_elt Try.underlying4 (by rfl) (by rfl) (by rfl) | exact op_load_ptr Try.underlying4 (by rfl) (by rfl) (by (try have l1 := lt_nb hb1); (try have l2 := lt_nb hb2); repeat (first | assumption | exact push_at | exact setB_at push_at | (rw [HS.up_blks]) | (rw [pushM_blks]) | (rw [setM_blks]) | (rw [setB_ne (by simp only [setB_nb, push_nb, pushM_nb, setM_nb, ne_eq]; omega)]) | apply push_ne | apply setB_at)) (by rfl)) rfl (by dsimp only [zS, zN, zH, zT]) ?_
    refine al_end rfl ?_
    refine then_normal ?_
    refine aw_cond rfl (fun hc5 => ?_) (fun hc5 => ?_)
    ·
     (try simp only [y1, y2, y3, y4, y5, y6, y7, y8, y9, y0, List.length_map] at hc5)
     have hgo : p.gone = true := hc5
     refine aw_region ?_
     refine zst (op_move_tmp (by rfl)) rfl (by dsimp only [zS, zN, zH, zT]) ?_
     refine zst (op_move_tmp (by rfl)) rfl (by dsimp only [zS, zN, zH, zT]) ?_
     refine zst (op_move_tmp (by rfl)) rfl (by dsimp only [zS, zN, zH, zT]) ?_
     refine zst (op_buildD (pl := [(0, 1), (1, 1), (2, 1)]) (wC (goneW p)) Try.underlying51 Zr51 (by kernel_rfl) (by rfl) (by rfl) (by rfl) (wC_one _)) rfl (by dsimp only [zS, zN, zH, zT]) ?_
     refine zst (op_mapUpdate (d := wD (goneW p)) Try.underlying110 Try.underlying9 (by rfl) (by rfl) (Weak.refl _) (by rw [han]; exact pushM_at hx2) (fun j n q => (hni2) j _ n q)) rfl (by dsimp only [zS, zN, zH, zT]) ?_
     refine al_end rfl ?_
     refine inBlock_normal (then_normal ?_)
     refine aw_region ?_
     refine zst (by first | exact op_add (by rfl) (by rfl) (wrap_i64 ⟨by omega, by omega⟩) | exact op_add (by rfl) (by rfl) (by rfl)) rfl (by dsimp only [zS, zN, zH, zT]) ?_
     refine zst (op_move_tmp (by rfl)) rfl (by dsimp only [zS, zN, zH, zT]) ?_
     refine al_end rfl ?_
     apply again_to (l.length - (j + 1)) (true :: false :: false :: true :: true :: true :: false :: false :: false :: false :: false :: false :: false :: false :: false :: false :: false :: false :: false :: false :: false :: false :: false :: true :: true :: true :: false :: false :: false :: false :: false :: false :: false :: false :: false :: false :: false :: false :: false :: false :: false :: false :: false :: false :: false :: false :: false :: false :: false :: false :: false :: false :: false :: false :: false :: false :: false :: false :: false :: false :: false :: false :: false :: false :: false :: false :: false :: false :: false :: false :: false :: false :: false :: false :: false :: false :: false :: false :: false :: false :: false :: false :: false :: false :: false :: false :: false :: false :: false :: false :: false :: false :: false :: false :: false :: false :: false :: false :: false :: false :: false :: false :: false :: false :: false :: false :: false :: false :: false :: false :: false :: false :: false :: false :: false :: false :: false :: false :: false :: false :: false :: false :: false :: false :: [])
     · (try dsimp only [maskT]); try exact rfl
     · rfl
     · omega
     exact ⟨j + 1, _, _, rfl, by omega, rfl, han, by rw [take_snoc hp1]; exact hh.gone hc0 hgo, by rw [han]; exact Ext.setM hx2, NoIt.setM hni2 _ _, hok⟩
    ·
     (try simp only [y1, y2, y3, y4, y5, y6, y7, y8, y9, y0, List.length_map] at hc5)
     have hgo : p.gone = false := hc5
     refine aw_skip ?_
     refine inBlock_normal (then_normal ?_)
     refine aw_region ?_
     refine zst (by first | exact op_add (by rfl) (by rfl) (wrap_i64 ⟨by omega, by omega⟩) | exact op_add (by rfl) (by rfl) (by rfl)) rfl (by dsimp only [zS, zN, zH, zT]) ?_
     refine zst (op_move_tmp (by rfl)) rfl (by dsimp only [zS, zN, zH, zT]) ?_
     refine al_end rfl ?_
     apply again_to (l.length - (j + 1)) (true :: false :: false :: true :: true :: true :: false :: false :: false :: false :: false :: false :: false :: false :: false :: false :: false :: false :: false :: false :: false :: false :: false :: true :: true :: true :: false :: false :: false :: false :: false :: false :: false :: false :: false :: false :: false :: false :: false :: false :: false :: false :: false :: false :: false :: false :: false :: false :: false :: false :: false :: false :: false :: false :: false :: false :: false :: false :: false :: false :: false :: false :: false :: false :: false :: false :: false :: false :: false :: false :: false :: false :: false :: false :: false :: false :: false :: false :: false :: false :: false :: false :: false :: false :: false :: false :: false :: false :: false :: false :: false :: false :: false :: false :: false :: false :: false :: false :: false :: false :: false :: false :: false :: false :: false :: false :: false :: false :: false :: false :: false :: false :: false :: false :: false :: false :: false :: false :: false :: false :: false :: false :: false :: false :: [])
     · (try dsimp only [maskT]); try exact rfl
     · rfl
     · omega
     exact ⟨j + 1, _, _, rfl, by omega, rfl, han, by rw [take_snoc hp1]; exact hh.put hc0 hgo, by rw [han]; exact Ext.setM hx, NoIt.setM hni _ _, hok⟩
  ·
   (try simp only [y1, y2, y3, y4, y5, y6, y7, y8, y9, y0, List.length_map] at hc2)
   (try simp only [List.length_map] at hc2)
   have hje : j = l.length := by omega
   subst hje
   rw [List.take_length] at hh
   refine aw_exit ?_
   refine then_exit (again_exit (inBlock_here (then_normal ?_)))
   refine aw_seq ?_
   refine aw_region ?_
   refine zst (op_lit Try.underlying46 ZS51 (.nil _) (by rfl) (by simp) (by simp [flat]) (by decide)) rfl (by dsimp only [zS, zN, zH, zT]) ?_
   refine zst (op_assign_tmp (by rfl)) rfl (by dsimp only [zS, zN, zH, zT]) ?_
   refine al_end rfl ?_
   refine then_normal ?_
   refine aw_seq ?_
   refine aw_seq ?_
   refine aw_region ?_
   refine zst (op_lit Try.underlying52 ZS9 (.cons (by rfl) (.cons (by rfl) (.nil _))) (by rfl) (by simp [BY, S, I, TF, DV.cells]) (by simp [flat, BY, S, I, TF, DV.cells, DV.one]) (by decide)) rfl (by dsimp only [zS, zN, zH, zT]) ?_
   refine zst (op_lenL Try.underlying52 (by first | exact LL.d _ _ | exact LL.own _ _ _ | exact LL.nil _ | assumption)) rfl (by dsimp only [zS, zN, zH, zT]) ?_
   refine zst (op_move_const (by rfl)) rfl (by dsimp only [zS, zN, zH, zT]) ?_
   refine al_end rfl ?_
   refine then_normal ?_
   refine aw_block ?_
   apply aw_loopF (fun n T H => ∃ (q : Nat) (w3 : AV) (t3 : Option Nat), T = ((.d (.lst 7 (l.map tD))) :: .un :: .un :: w :: (.d (I k)) :: (.map a) :: .un :: .un :: .un :: .un :: .un :: w3 :: .un :: .un :: .un :: .un :: .un :: .un :: .un :: .un :: .un :: .un :: .un :: .un :: .un :: .un :: .un :: .un :: .un :: .un :: .un :: .un :: .un :: .un :: .un :: .un :: .un :: .un :: .un :: .un :: .un :: .un :: .un :: .un :: .un :: .un :: .un :: .un :: .un :: .un :: .un :: .un :: .un :: .un :: .un :: .un :: .un :: .un :: .un :: .un :: .un :: .un :: .un :: .un :: .un :: .un :: .un :: .un :: .un :: .un :: .un :: .un :: .un :: .un :: .un :: .un :: .un :: .un :: .un :: .un :: .un :: .un :: .un :: .un :: .un :: (.own none 1 [S [97], S [98]]) :: (.d (I 2)) :: (.d (I q)) :: .un :: .un :: .un :: .un :: .un :: .un :: .un :: .un :: .un :: .un :: .un :: .un :: .un :: .un :: .un :: .un :: .un :: .un :: .un :: .un :: .un :: .un :: .un :: .un :: .un :: .un :: .un :: .un :: .un :: .un :: .un :: .un :: .un :: .un :: .un :: .un :: []) ∧ q ≤ 2 ∧ n = 2 - q ∧ App w3 t3 3 ((wsN k l (4 * q)).map wD) ∧ H.ok t3 (wsN k l (4 * q)).length ∧ NewTok Hs t3 ∧ (∀ i, t = some i → t3 ≠ some i) ∧ Ext ((Hs.addM ms).pushM (.map es)) H ∧ NoIt H ∧ H.ok t k) (2) (true :: false :: false :: true :: true :: true :: false :: false :: false :: false :: false :: true :: false :: false :: false :: false :: false :: false :: false :: false :: false :: false :: false :: false :: false :: false :: false :: false :: false :: false :: false :: false :: false :: false :: false :: false :: false :: false :: false :: false :: false :: false :: false :: false :: false :: false :: false :: false :: false :: false :: false :: false :: false :: false :: false :: false :: false :: false :: false :: false :: false :: false :: false :: false :: false :: false :: false :: false :: false :: false :: false :: false :: false :: false :: false :: false :: false :: false :: false :: false :: false :: false :: false :: false :: false :: true :: true :: true :: false :: false :: false :: false :: false :: false :: false :: false :: false :: false :: false :: false :: false :: false :: false :: false :: false :: false :: false :: false :: false :: false :: false :: false :: false :: false :: false :: false :: false :: false :: false :: false :: false :: false :: false :: false :: [])
   · (try dsimp only [maskT]); try exact rfl
   · rfl
   · exact ⟨0, _, none, rfl, by omega, rfl, App.own _ _ _, HS.ok_none _ _, NewTok.none _, by simp, hx, hni, hok⟩
   rintro n T H ⟨q, w3, t3, rfl, hq, rfl, hv3, hok3, hnt3, hap, hx, hni, hok⟩
   refine aw_seq ?_
   refine aw_region ?_
   refine zst (op_ltI (by rfl) (by rfl)) rfl (by dsimp only [zS, zN, zH, zT]) ?_
   refine al_end rfl ?_
   refine then_normal ?_
   refine aw_seq ?_
   refine aw_cond rfl (fun hc6 => ?_) (fun hc6 => ?_)
   ·
    (try simp only [y1, y2, y3, y4, y5, y6, y7, y8, y9, y0, List.length_map] at hc6)
    have hq2 : q < 2 := by (try simp at hc6); omega
    refine aw_skip ?_
    refine then_normal ?_
    refine aw_seq ?_
    refine aw_block ?_
    refine aw_seq ?_
    refine aw_region ?_
    refine zst (op_indexAddr (z := S (qB q)) (cs := [S (qB q)]) Try.underlying52 Sz9 (LL.own _ _ _) (by rfl) (by omega) (show [S [97], S [98]][((q : Nat) : Int).toNat]? = _ from q_at hq2) (by rfl)) rfl (by dsimp only [zS, zN, zH, zT]) ?_
    refine zst (op_load_elt Try.underlying9 (by rfl) (by rfl) (by rfl)) rfl (by dsimp only [zS, zN, zH, zT]) ?_
    refine zst (op_assign_tmp (by rfl)) rfl (by dsimp only [zS, zN, zH, zT]) ?_
    refine al_end rfl ?_
    refine then_normal ?_
    refine aw_seq ?_
    refine aw_region ?_
    refine zst (op_assign_const (by rfl)) rfl (by dsimp only [zS, zN, zH, zT]) ?_
    refine al_end rfl ?_
    refine then_normal ?_
    refine aw_block ?_
    apply aw_loopF (fun n T H => ∃ (i : Nat) (w3 : AV) (t3 : Option Nat), T = ((.d (.lst 7 (l.map tD))) :: .un :: .un :: w :: (.d (I k)) :: (.map a) :: .un :: .un :: .un :: .un :: .un :: w3 :: .un :: (.d (S (qB q))) :: (.d (I i)) :: .un :: .un :: .un :: .un :: .un :: .un :: .un :: .un :: .un :: .un :: .un :: .un :: .un :: .un :: .un :: .un :: .un :: .un :: .un :: .un :: .un :: .un :: .un :: .un :: .un :: .un :: .un :: .un :: .un :: .un :: .un :: .un :: .un :: .un :: .un :: .un :: .un :: .un :: .un :: .un :: .un :: .un :: .un :: .un :: .un :: .un :: .un :: .un :: .un :: .un :: .un :: .un :: .un :: .un :: .un :: .un :: .un :: .un :: .un :: .un :: .un :: .un :: .un :: .un :: .un :: .un :: .un :: .un :: .un :: .un :: (.own none 1 [S [97], S [98]]) :: (.d (I 2)) :: (.d (I q)) :: .un :: .un :: .un :: .un :: .un :: .un :: .un :: .un :: .un :: .un :: .un :: .un :: .un :: .un :: .un :: .un :: .un :: .un :: .un :: .un :: .un :: .un :: .un :: .un :: .un :: .un :: .un :: .un :: .un :: .un :: .un :: .un :: .un :: .un :: .un :: .un :: []) ∧ i ≤ 4 ∧ n = 4 - i ∧ App w3 t3 3 ((wsN k l (4 * q + i)).map wD) ∧ H.ok t3 (wsN k l (4 * q + i)).length ∧ NewTok Hs t3 ∧ (∀ i, t = some i → t3 ≠ some i) ∧ Ext ((Hs.addM ms).pushM (.map es)) H ∧ NoIt H ∧ H.ok t k) (4) (true :: false :: false :: true :: true :: true :: false :: false :: false :: false :: false :: true :: false :: true :: true :: false :: false :: false :: false :: false :: false :: false :: false :: false :: false :: false :: false :: false :: false :: false :: false :: false :: false :: false :: false :: false :: false :: false :: false :: false :: false :: false :: false :: false :: false :: false :: false :: false :: false :: false :: false :: false :: false :: false :: false :: false :: false :: false :: false :: false :: false :: false :: false :: false :: false :: false :: false :: false :: false :: false :: false :: false :: false :: false :: false :: false :: false :: false :: false :: false :: false :: false :: false :: false :: false :: true :: true :: true :: false :: false :: false :: false :: false :: false :: false :: false :: false :: false :: false :: false :: false :: false :: false :: false :: false :: false :: false :: false :: false :: false :: false :: false :: false :: false :: false :: false :: false :: false :: false :: false :: false :: false :: false :: false :: [])
    · (try dsimp only [maskT]); try exact rfl
    · rfl
    · exact ⟨0, _, _, rfl, by omega, rfl, hv3, hok3, hnt3, hap, hx, hni, hok⟩
    rintro n T H ⟨i, w3, t3, rfl, hi, rfl, hv3, hok3, hnt3, hap, hx, hni, hok⟩
    refine aw_seq ?_
    refine aw_seq ?_
    refine aw_region ?_
    refine zst (op_move_tmp (by rfl)) rfl (by dsimp only [zS, zN, zH, zT]) ?_
    refine zst (op_ltI (by rfl) (by rfl)) rfl (by dsimp only [zS, zN, zH, zT]) ?_
    refine al_end rfl ?_
    refine then_normal ?_
    refine aw_cond rfl (fun hc7 => ?_) (fun hc7 => ?_)
    ·
     (try simp only [y1, y2, y3, y4, y5, y6, y7, y8, y9, y0, List.length_map] at hc7)
     have hi4 : i < 4 := by omega
     obtain ⟨o, ho⟩ : ∃ o, lastP k l (keyQ q i) = o := ⟨_, rfl⟩
     have hlk := looked hh ho
     have hwl := wsN_len k l (4 * q + i)
     refine aw_skip ?_
     refine then_normal ?_
     refine aw_seq ?_
     refine aw_block ?_
     refine aw_seq ?_
     refine aw_region ?_
     refine zst (op_move_tmp (by rfl)) rfl (by dsimp only [zS, zN, zH, zT]) ?_
     refine zst (op_move_tmp (by rfl)) rfl (by dsimp only [zS, zN, zH, zT]) ?_
     refine zst (op_move_tmp (by rfl)) rfl (by dsimp only [zS, zN, zH, zT]) ?_
     refine zst (op_convI (r := ((i : Nat) : Int)) (by rw [Try.underlying3]; rfl) Try.underlying5 (by rfl) (wrap_u8 ⟨by omega, by omega⟩)) rfl (by dsimp only [zS, zN, zH, zT]) ?_
     refine zst (op_add (r := ((UInt8.ofNat (48 + i)).toNat : Int)) (by rfl) (by rfl) (byte_add (by omega) (by omega))) rfl (by dsimp only [zS, zN, zH, zT]) ?_
     refine zst (op_lit Try.underlying49 ZS5 (.cons (y := BY (UInt8.ofNat (48 + i))) (by rfl) (.nil _)) (by rfl) (lit_b _) (lit_b1 _) (by decide)) rfl (by dsimp only [zS, zN, zH, zT]) ?_
     refine zst (op_string (l := idB i) Try.underlying49 Try.underlying9 Try.underlying5 (LL.own _ _ _) (by rfl)) rfl (by dsimp only [zS, zN, zH, zT]) ?_
     refine zst (op_lit Try.underlying52 ZS9 (.cons (by rfl) (.cons (by rfl) (.cons (by rfl) (.nil _)))) (by rfl) (by simp [BY, S, I, TF, DV.cells]) (by simp [flat, BY, S, I, TF, DV.cells, DV.one]) (by decide)) rfl (by dsimp only [zS, zN, zH, zT]) ?_
     refine zst (op_callF Try.func51 (by rfl) (by rfl) (.tmp (by rfl) .nil) (key_ok _ _ [[109], qB q, idB i] (LL.own _ _ _) (by simp [qB, idB]))) rfl (by dsimp only [zS, zN, zH, zT]) ?_
     refine zst (op_lookup2_at Try.underlying110 Try.underlying9 Zr51 repW0 (by rfl) (by rfl) (by rw [han]; exact pushM_at hx) hlk.1 hlk.2) rfl (by dsimp only [zS, zN, zH, zT]) ?_
     refine zst (op_move_tmp (by rfl)) rfl (by dsimp only [zS, zN, zH, zT]) ?_
     refine zst (op_extract (by rfl) (by rfl)) rfl (by dsimp only [zS, zN, zH, zT]) ?_
     refine zst (op_extract (by rfl) (by rfl)) rfl (by dsimp only [zS, zN, zH, zT]) ?_
     refine zst (op_alloc (Zr51) (by rfl)) rfl (by dsimp only [zS, zN, zH, zT]) ?_
     refine zst (op_storeB (vs := [.d (S (o.getD W0).key), .d (S (o.getD W0).val), .d (TF (o.getD W0).gone)]) (b' := ⟨51, [.d (S (o.getD W0).key), .d (S (o.getD W0).val), .d (TF (o.getD W0).gone)], false⟩) (H' := _) Sz51 (by rfl) push_at (by intro h; cases h) (by rfl) (by rfl) (Nat.le_of_ble_eq_true rfl) (by simp [AV.one, DV.one, TF, S, I, BY]) (by rfl) (by rfl) rfl) rfl (by dsimp only [zS, zN, zH, zT]) ?_
     refine zst (op_assign_tmp (by rfl)) rfl (by dsimp only [zS, zN, zH, zT]) ?_
     refine al_end rfl ?_
     refine then_normal ?_
     refine aw_seq ?_
     refine aw_region ?_
     refine zst (op_move_tmp (by rfl)) rfl (by dsimp only [zS, zN, zH, zT]) ?_
     refine al_end rfl ?_
     refine then_normal ?_
     refine aw_cond rfl (fun hc8 => ?_) (fun hc8 => ?_)
     ·
      (try simp only [y1, y2, y3, y4, y5, y6, y7, y8, y9, y0, List.length_map] at hc8)
      obtain ⟨w1, rfl⟩ : ∃ w, o = some w := Option.isSome_iff_exists.1 hc8
      refine aw_region ?_
      refine zst (op_move_tmp (by rfl)) rfl (by dsimp only [zS, zN, zH, zT]) ?_
      refine zst (op_load_ptrsD (wC w1) Try.underlying51 (by rfl) Sz51 (by rfl) (by (try have l1 := lt_nb hb1); (try have l2 := lt_nb hb2); repeat (first | assumption | exact push_at | exact setB_at push_at | (rw [HS.up_blks]) | (rw [pushM_blks]) | (rw [setM_blks]) | (rw [setB_ne (by simp only [setB_nb, push_nb, pushM_nb, setM_nb, ne_eq]; omega)]) | apply push_ne | apply setB_at)) (Nat.le_of_ble_eq_true rfl) (by rfl) (wC_one _)) rfl (by dsimp only [zS, zN, zH, zT]) ?_
      refine zst (op_lit Try.underlying46 ZS51 (.cons (y := wD w1) (by rfl) (.nil _)) (by rfl) (lit_w _) (lit_w1 _) (by decide)) rfl (by dsimp only [zS, zN, zH, zT]) ?_
      refine zst (op_append Try.underlying46 Inf51 (by rfl) hv3 (.list _ _ _ _ Try.underlying46 (LL.own _ _ _)) (by rw [List.length_map]; exact hok3) (by simp) (by simp; omega) (by simp; omega)) rfl (by dsimp only [zS, zN, zH, zT]) ?_
      refine zst (op_assign_tmp (by rfl)) rfl (by dsimp only [zS, zN, zH, zT]) ?_
      refine al_end rfl ?_
      refine inBlock_normal (then_normal ?_)
      refine aw_region ?_
      refine zst (op_move_tmp (by rfl)) rfl (by dsimp only [zS, zN, zH, zT]) ?_
      refine zst (by first | exact op_add (by rfl) (by rfl) (wrap_i64 ⟨by omega, by omega⟩) | exact op_add (by rfl) (by rfl) (by rfl)) rfl (by dsimp only [zS, zN, zH, zT]) ?_
      refine zst (op_assign_tmp (by rfl)) rfl (by dsimp only [zS, zN, zH, zT]) ?_
      refine al_end rfl ?_
      apply again_to (4 - (i + 1)) (true :: false :: false :: true :: true :: true :: false :: false :: false :: false :: false :: true :: false :: true :: true :: false :: false :: false :: false :: false :: false :: false :: false :: false :: false :: false :: false :: false :: false :: false :: false :: false :: false :: false :: false :: false :: false :: false :: false :: false :: false :: false :: false :: false :: false :: false :: false :: false :: false :: false :: false :: false :: false :: false :: false :: false :: false :: false :: false :: false :: false :: false :: false :: false :: false :: false :: false :: false :: false :: false :: false :: false :: false :: false :: false :: false :: false :: false :: false :: false :: false :: false :: false :: false :: false :: true :: true :: true :: false :: false :: false :: false :: false :: false :: false :: false :: false :: false :: false :: false :: false :: false :: false :: false :: false :: false :: false :: false :: false :: false :: false :: false :: false :: false :: false :: false :: false :: false :: false :: false :: false :: false :: false :: false :: [])
      · (try dsimp only [maskT]); try exact rfl
      · rfl
      · omega
      exact ⟨i + 1, _, _, rfl, by omega, rfl, app_w (wsN_some hq2 hi4 ho), HS.ok_up' hok3 (by rw [wsN_some hq2 hi4 ho]; simp), (Ext.upN (n := 0) hx hnt3 hok3).2, apart_up hok hap, Ext.up1 (by repeat (first | assumption | apply Ext.push | (refine Ext.setB ?_ (by have := nb_le hx; (try simp only [setB_nb, push_nb, pushM_nb]); (try simp only [pushM_nb] at this); omega)))) hnt3 hok3, hni.of (HS.up_maps _ _ _), HS.ok_apart hok hap hok3⟩
     ·
      (try simp only [y1, y2, y3, y4, y5, y6, y7, y8, y9, y0, List.length_map] at hc8)
      obtain rfl : o = none := by simpa using hc8
      refine aw_skip ?_
      refine inBlock_normal (then_normal ?_)
      refine aw_region ?_
      refine zst (op_move_tmp (by rfl)) rfl (by dsimp only [zS, zN, zH, zT]) ?_
      refine zst (by first | exact op_add (by rfl) (by rfl) (wrap_i64 ⟨by omega, by omega⟩) | exact op_add (by rfl) (by rfl) (by rfl)) rfl (by dsimp only [zS, zN, zH, zT]) ?_
      refine zst (op_assign_tmp (by rfl)) rfl (by dsimp only [zS, zN, zH, zT]) ?_
      refine al_end rfl ?_
      apply again_to (4 - (i + 1)) (true :: false :: false :: true :: true :: true :: false :: false :: false :: false :: false :: true :: false :: true :: true :: false :: false :: false :: false :: false :: false :: false :: false :: false :: false :: false :: false :: false :: false :: false :: false :: false :: false :: false :: false :: false :: false :: false :: false :: false :: false :: false :: false :: false :: false :: false :: false :: false :: false :: false :: false :: false :: false :: false :: false :: false :: false :: false :: false :: false :: false :: false :: false :: false :: false :: false :: false :: false :: false :: false :: false :: false :: false :: false :: false :: false :: false :: false :: false :: false :: false :: false :: false :: false :: false :: true :: true :: true :: false :: false :: false :: false :: false :: false :: false :: false :: false :: false :: false :: false :: false :: false :: false :: false :: false :: false :: false :: false :: false :: false :: false :: false :: false :: false :: false :: false :: false :: false :: false :: false :: false :: false :: false :: false :: [])
      · (try dsimp only [maskT]); try exact rfl
      · rfl
      · omega
      exact ⟨i + 1, _, _, rfl, by omega, rfl, by rw [wsN_none hq2 hi4 ho]; exact hv3, by rw [wsN_none hq2 hi4 ho]; exact hok3, hnt3, hap, (by repeat (first | assumption | apply Ext.push | (refine Ext.setB ?_ (by have := nb_le hx; (try simp only [setB_nb, push_nb, pushM_nb]); (try simp only [pushM_nb] at this); omega)))), hni.of rfl, hok⟩
    ·
     (try simp only [y1, y2, y3, y4, y5, y6, y7, y8, y9, y0, List.length_map] at hc7)
     have hie : i = 4 := by omega
     subst hie
     refine aw_exit ?_
     refine then_exit (again_exit (inBlock_here (inBlock_normal (then_normal ?_))))
     refine aw_region ?_
     refine zst (by first | exact op_add (by rfl) (by rfl) (wrap_i64 ⟨by omega, by omega⟩) | exact op_add (by rfl) (by rfl) (by rfl)) rfl (by dsimp only [zS, zN, zH, zT]) ?_
     refine zst (op_move_tmp (by rfl)) rfl (by dsimp only [zS, zN, zH, zT]) ?_
     refine al_end rfl ?_
     apply again_to (2 - (q + 1)) (true :: false :: false :: true :: true :: true :: false :: false :: false :: false :: false :: true :: false :: false :: false :: false :: false :: false :: false :: false :: false :: false :: false :: false :: false :: false :: false :: false :: false :: false :: false :: false :: false :: false :: false :: false :: false :: false :: false :: false :: false :: false :: false :: false :: false :: false :: false :: false :: false :: false :: false :: false :: false :: false :: false :: false :: false :: false :: false :: false :: false :: false :: false :: false :: false :: false :: false :: false :: false :: false :: false :: false :: false :: false :: false :: false :: false :: false :: false :: false :: false :: false :: false :: false :: false :: true :: true :: true :: false :: false :: false :: false :: false :: false :: false :: false :: false :: false :: false :: false :: false :: false :: false :: false :: false :: false :: false :: false :: false :: false :: false :: false :: false :: false :: false :: false :: false :: false :: false :: false :: false :: false :: false :: false :: [])
     · (try dsimp only [maskT]); try exact rfl
     · rfl
     · omega
     exact ⟨q + 1, _, _, rfl, by omega, rfl, hv3, hok3, hnt3, hap, hx, hni, hok⟩
   ·
    (try simp only [y1, y2, y3, y4, y5, y6, y7, y8, y9, y0, List.length_map] at hc6)
    have hqe : q = 2 := by (try simp at hc6); omega
    subst hqe
    refine aw_exit ?_
    refine then_exit (again_exit (inBlock_here (then_normal ?_)))
    refine aw_region ?_
    refine zst (op_move_tmp (by rfl)) rfl (by dsimp only [zS, zN, zH, zT]) ?_
    refine zst (op_move_tmp (by rfl)) rfl (by dsimp only [zS, zN, zH, zT]) ?_
    refine zst (op_add (r := ((k + 1 : Nat) : Int)) (by rfl) (by rfl) (wrap_i64 (n := ((k + 1 : Nat) : Int)) ⟨by omega, by omega⟩)) rfl (by dsimp only [zS, zN, zH, zT]) ?_
    refine zst (op_move_tmp (by rfl)) rfl (by dsimp only [zS, zN, zH, zT]) ?_
    refine zst (op_mul (r := ((10 * k : Nat) : Int)) (by rfl) (by rfl) (wrap_i64 (n := ((10 * k : Nat) : Int)) ⟨by omega, by omega⟩)) rfl (by dsimp only [zS, zN, zH, zT]) ?_
    refine zst (op_move_tmp (by rfl)) rfl (by dsimp only [zS, zN, zH, zT]) ?_
    refine zst (op_callF Try.func23 (by rfl) (by rfl) (.tmp (by rfl) (.tmp (by rfl) (.tmp (by rfl) .nil))) (commit_at _ ((k + 1 : Nat) : Int) ((10 * k : Nat) : Int) _ (wsP k l) (Weak.lst hv3))) rfl (by dsimp only [zS, zN, zH, zT]) ?_
    refine zst (op_lit Try.underlying40 ZS48 (.cons (y := cD (cmP l k)) (by rfl) (.nil _)) (by rfl) (lit_c _) (lit_c1 _) (by decide)) rfl (by dsimp only [zS, zN, zH, zT]) ?_
    refine zst (op_append Try.underlying40 Inf48 (by rfl) hv (.list _ _ _ _ Try.underlying40 (LL.own _ _ _)) (by rw [List.length_map, List.length_take, csP_len, Nat.min_eq_left (by omega)]; exact hok) (by simp) (by simp [csP_len]; omega) (by simp [csP_len]; omega)) rfl (by dsimp only [zS, zN, zH, zT]) ?_
    refine zst (op_assign_tmp (by rfl)) rfl (by dsimp only [zS, zN, zH, zT]) ?_
    refine al_end rfl ?_
    refine inBlock_normal (then_normal ?_)
    refine aw_region ?_
    refine zst (op_move_tmp (by rfl)) rfl (by dsimp only [zS, zN, zH, zT]) ?_
    refine zst (by first | exact op_add (by rfl) (by rfl) (wrap_i64 ⟨by omega, by omega⟩) | exact op_add (by rfl) (by rfl) (by rfl)) rfl (by dsimp only [zS, zN, zH, zT]) ?_
    refine zst (op_assign_tmp (by rfl)) rfl (by dsimp only [zS, zN, zH, zT]) ?_
    refine al_end rfl ?_
    apply again_to (8 - (k + 1)) (true :: false :: false :: true :: true :: false :: false :: false :: false :: false :: false :: false :: false :: false :: false :: false :: false :: false :: false :: false :: false :: false :: false :: false :: false :: false :: false :: false :: false :: false :: false :: false :: false :: false :: false :: false :: false :: false :: false :: false :: false :: false :: false :: false :: false :: false :: false :: false :: false :: false :: false :: false :: false :: false :: false :: false :: false :: false :: false :: false :: false :: false :: false :: false :: false :: false :: false :: false :: false :: false :: false :: false :: false :: false :: false :: false :: false :: false :: false :: false :: false :: false :: false :: false :: false :: false :: false :: false :: false :: false :: false :: false :: false :: false :: false :: false :: false :: false :: false :: false :: false :: false :: false :: false :: false :: false :: false :: false :: false :: false :: false :: false :: false :: false :: false :: false :: false :: false :: false :: false :: false :: false :: false :: false :: [])
    · (try dsimp only [maskT]); try exact rfl
    · rfl
    · omega
    exact ⟨k + 1, ms ++ [.map es], _, _, rfl, by omega, rfl, app_c (by rw [take_snoc (csP_at hk8)]), HS.ok_up' hok (by simp [csP_len]; omega), (Ext.upN (n := 0) hx hnt hok).2, by rw [← addM_snoc]; exact (Ext.upN hx hnt hok).1, hni.of (HS.up_maps _ _ _)⟩
 ·
  (try simp only [y1, y2, y3, y4, y5, y6, y7, y8, y9, y0, List.length_map] at hc1)
  have hke : k = 8 := by omega
  subst hke
  refine aw_exit ?_
  refine then_exit (again_exit (inBlock_here (then_normal ?_)))
  refine aw_seq ?_
  refine aw_region ?_
  refine zst (op_move_tmp (by rfl)) rfl (by dsimp only [zS, zN, zH, zT]) ?_
  refine zst (op_assign_tmp (by rfl)) rfl (by dsimp only [zS, zN, zH, zT]) ?_
  refine al_end rfl ?_
  refine then_normal ?_
  refine aw_ret ?_
  refine retPost1 rfl rfl ?_
  exact ⟨ms, NoIt.back hni hx, hx, Weak.lst (by rw [List.take_of_length_le (by rw [csP_len]; omega)] at hv; exact hv)⟩
end Go.Proofs.Ytjbpfnoibeogbaa
namespace Go.AV.Hist
open Go.AV.Ord Go.AV.Oct Go.AV.Patch
theorem noIt_nil {H : HS} (h : H.maps = []) : NoIt H := fun j o n q he => by rw [h] at he; cases he
def wO (v k : List UInt8) : Wt := ⟨k, v, false⟩
def wsO (v : List UInt8) (ks : List (List UInt8)) : List Wt := ks.map (wO v)
def badK (v k : List UInt8) : Bool := (msgT k).2.2 && !decide (decE v = 0)
def badO (v : List UInt8) (ks : List (List UInt8)) : Bool := ks.any (badK v)
theorem badK_no {v k : List UInt8} (h : (msgT k).2.2 = false) : badK v k = false := by simp [badK, h]
theorem badK_yes {v k : List UInt8} (h : (msgT k).2.2 = true) : badK v k = !decide (decE v = 0) := by simp [badK, h]
theorem turnT_other (v : List UInt8) : ∀ (ks : List (List UInt8)) (ps : List (List UInt8 × Pl)) (ids : List (List UInt8)), (turnT ps ids (wsO v ks) = none → badO v ks = true) ∧ ((∃ r, turnT ps ids (wsO v ks) = some r) → badO v ks = false)
  | [], ps, ids => ⟨fun h => (by cases h), fun _ => rfl⟩
  | k :: ks, ps, ids => by
    have e : turnT ps ids (wsO v (k :: ks)) = turnT ps ids (wO v k :: wsO v ks) := rfl
    rw [e, turnT]
    have eb : badO v (k :: ks) = (badK v k || badO v ks) := rfl
    rw [eb]
    show (_ → _) ∧ _
    have hk : (wO v k).key = k := rfl
    have hv : (wO v k).val = v := rfl
    have hg : (wO v k).gone = false := rfl
    rw [hk, hv, hg]
    by_cases hm : (msgT k).2.2 = false
    · rw [if_pos hm, badK_no hm, Bool.false_or]
      exact turnT_other v ks ps ids
    · rw [if_neg hm, badK_yes (by simpa using hm), if_neg (by decide)]
      by_cases hd : decE v = 0
      · rw [if_pos hd]
        simp only [hd, decide_true, Bool.not_true, Bool.false_or]
        exact turnT_other v ks _ _
      · rw [if_neg hd]
        refine ⟨fun _ => (by simp [hd]), fun ⟨r, h⟩ => (by cases h)⟩
theorem other_none {v : List UInt8} {ks : List (List UInt8)} {a b : Int} (h : eventsT [] [] [⟨a, b, wsO v ks⟩] = none) : badO v ks = true := by
  rw [eventsT] at h
  cases ht : turnT [] [] (wsO v ks) with
  | none => exact (turnT_other v ks [] []).1 ht
  | some r =>
    simp only [ht] at h
    cases h
theorem other_some {v : List UInt8} {ks : List (List UInt8)} {a b : Int} {es : List Ev} (h : eventsT [] [] [⟨a, b, wsO v ks⟩] = some es) : badO v ks = false ∧ es.length ≤ ks.length := by
  refine ⟨?_, ?_⟩
  · rw [eventsT] at h
    cases ht : turnT [] [] (wsO v ks) with
    | none => simp only [ht] at h; cases h
    | some r => exact (turnT_other v ks [] []).2 ⟨r, ht⟩
  · have := events_len (ps := []) (N := ks.length) _ _ _ _ h (fun c hc => by
      rw [List.mem_singleton.1 hc]; simp [wsO])
    simpa using this
end Go.AV.Hist
namespace Go.AV.Hist
open Go.AV.Ord Go.AV.Oct Go.AV.Val Go.AV.Patch
theorem compactUpTo_same {d e : Array (List UInt8)} : ∀ m, (∀ j, j < m → d[j]! = e[j]!) → Lib.compactUpTo d m = Lib.compactUpTo e m
  | 0, _ => rfl
  | m + 1, h => by
    rw [Lib.compactUpTo_succ, Lib.compactUpTo_succ, compactUpTo_same m fun j hj => h j (by omega)]
    have h1 := h m (by omega)
    have h2 : Lib.keeps d m = Lib.keeps e m := by
      unfold Lib.keeps
      by_cases hm : m = 0
      · simp [hm]
      · rw [h1, h (m - 1) (by omega)]
    rw [h1, h2]
theorem compS_snoc (zs : List (List UInt8)) (x : List UInt8) : compS (zs ++ [x]) = if zs.getLast? = some x then compS zs else compS zs ++ [x] := by
  have hx : (zs ++ [x]).toArray[zs.length]! = x := by simp
  have h1 : compS (zs ++ [x]) = Lib.compactUpTo (zs ++ [x]).toArray zs.length ++ if Lib.keeps (zs ++ [x]).toArray zs.length then [x] else [] := by
    unfold compS Lib.compact
    rw [show (zs ++ [x]).length = zs.length + 1 by simp, Lib.compactUpTo_succ, hx]
  have h2 : Lib.compactUpTo (zs ++ [x]).toArray zs.length = compS zs := by
    unfold compS Lib.compact
    refine compactUpTo_same _ fun j hj => ?_
    simp [hj, List.getElem_append_left, List.getElem?_append_left hj]
  rw [h1, h2]
  unfold Lib.keeps
  rw [hx]
  by_cases hz : zs.length = 0
  · have : zs = [] := List.length_eq_zero_iff.1 hz
    subst this
    simp
  · have hl : zs.length - 1 < zs.length := by omega
    have h3 : (zs ++ [x]).toArray[zs.length - 1]! = zs[zs.length - 1] := by
      simp [List.getElem?_append_left hl, hl]
    rw [h3, List.getLast?_eq_getElem?, List.getElem?_eq_getElem hl]
    by_cases he : zs[zs.length - 1] = x
    · simp [he, hz]
    · have he' : ¬ x = zs[zs.length - 1] := fun h => he h.symm
      simp [he, he']
def RS1 (x y : List UInt8) : Prop := x ≤ y ∧ x ≠ y
theorem compS_mem (zs : List (List UInt8)) : ∀ x, x ∈ compS zs ↔ x ∈ zs := by
  induction zs using snoc_ind with
  | h0 => intro x; exact Iff.rfl
  | h1 zs y ih =>
    intro x
    rw [compS_snoc]
    by_cases h : zs.getLast? = some y
    · rw [if_pos h, ih, List.mem_append]
      exact ⟨.inl, fun h1 => h1.elim id fun h2 => by rw [List.mem_singleton.1 h2]; exact List.mem_of_getLast? h⟩
    · rw [if_neg h, List.mem_append, List.mem_append, ih]
theorem compS_sorted (zs : List (List UInt8)) : zs.Pairwise (· ≤ ·) → (compS zs).Pairwise RS1 := by
  induction zs using snoc_ind with
  | h0 => intro _; exact .nil
  | h1 zs y ih =>
    intro hp
    obtain ⟨hp1, _, hp2⟩ := List.pairwise_append.1 hp
    rw [compS_snoc]
    by_cases h : zs.getLast? = some y
    · rw [if_pos h]; exact ih hp1
    · rw [if_neg h]
      refine List.pairwise_append.2 ⟨ih hp1, List.pairwise_singleton _ _, fun a ha b hb => ?_⟩
      rw [List.mem_singleton.1 hb]
      have ha' := (compS_mem zs a).1 ha
      refine ⟨hp2 a ha' y (by simp), fun e => h ?_⟩
      subst e
      cases hl : zs.getLast? with
      | none => rw [List.getLast?_eq_none_iff.1 hl] at ha'; cases ha'
      | some l =>
        obtain ⟨ys, hys⟩ := List.getLast?_eq_some_iff.1 hl
        have hlm : l ∈ zs := List.mem_of_getLast? hl
        have h1 : l ≤ a := hp2 l hlm a (by simp)
        rw [hys] at ha' hp1
        rcases List.mem_append.1 ha' with h2 | h2
        · have h3 : a ≤ l := (List.pairwise_append.1 hp1).2.2 a h2 l (by simp)
          rw [List.le_antisymm h1 h3]
        · rw [List.mem_singleton.1 h2]
theorem sortS_sorted (ss : List (List UInt8)) : (sortS ss).Pairwise (· ≤ ·) := by
  unfold sortS
  have h := List.pairwise_mergeSort (le := fun x y : List UInt8 => decide (x ≤ y)) (fun a b c h1 h2 => by
    simp only [decide_eq_true_eq] at *
    exact List.le_trans h1 h2) (fun a b => by
    simp only [Bool.or_eq_true, decide_eq_true_eq]
    exact List.le_total a b) ss
  exact h.imp fun h => by simpa using h
theorem sorted_once {a b : List (List UInt8)} (ha : a.Pairwise RS1) (hb : b.Pairwise RS1) (h : ∀ x, x ∈ a ↔ x ∈ b) : a = b := by
  have na : a.Nodup := ha.imp fun h => h.2
  have nb : b.Nodup := hb.imp fun h => h.2
  refine ((List.perm_ext_iff_of_nodup na nb).2 h).eq_of_pairwise (le := RS1) (fun x y _ _ h1 h2 => List.le_antisymm h1.1 h2.1) ha hb
theorem once_ids (ids : List (List UInt8)) (h : ∀ x ∈ ids, ∃ i < 4, x = idB i) : compS (sortS ids) = ([0, 1, 2, 3].map idB).filter (fun x => decide (x ∈ ids)) := by
  refine sorted_once (compS_sorted _ (sortS_sorted _)) ?_ fun x => ?_
  · refine List.Pairwise.filter _ ?_
    unfold RS1
    simp [idB]
    decide
  · rw [compS_mem, List.mem_filter, sortS, List.mem_mergeSort, decide_eq_true_iff]
    refine ⟨fun hx => ⟨?_, hx⟩, fun hx => hx.2⟩
    obtain ⟨i, hi, rfl⟩ := h x hx
    match i, hi with
    | 0, _ => simp
    | 1, _ => simp
    | 2, _ => simp
    | 3, _ => simp
def stepW (id : List UInt8) (st : List UInt8 × List UInt8) (w : Wt) : List UInt8 × List UInt8 :=
  match partsA w.key with
  | [_, q, i] => if i = id then (if w.gone then (if st.1 = q then ([], []) else st) else (q, w.val)) else st
  | _ => st
def foldW (id : List UInt8) (st : List UInt8 × List UInt8) (ws : List Wt) : List UInt8 × List UInt8 := ws.foldl (stepW id) st
def whereT (cs : List Cm) (n : Nat) (id : List UInt8) : List UInt8 × List UInt8 := (cs.take n).foldl (fun st c => foldW id st c.ws) ([], [])
theorem whereT_succ {cs : List Cm} {n : Nat} {c : Cm} (h : cs[n]? = some c) (id : List UInt8) : whereT cs (n + 1) id = foldW id (whereT cs n id) c.ws := by
  unfold whereT; rw [take_snoc h, List.foldl_append]; rfl
def OnceK (ps : List (List UInt8 × Pl)) : Prop := (ps.map Prod.fst).Nodup
theorem getK_put : ∀ (ps : List (List UInt8 × Pl)) (k n : List UInt8) (p : Pl), getK (putK ps k p) n = if k = n then some p else getK ps n
  | [], k, n, p => by simp [putK, getK]
  | e :: ps, k, n, p => by
    unfold putK
    by_cases hk : e.1 = k
    · rw [if_pos hk]
      simp only [getK]
      by_cases hn : k = n
      · simp [hn]
      · rw [if_neg hn, if_neg hn, if_neg (by rw [hk]; exact hn)]
    · rw [if_neg hk]
      simp only [getK, getK_put ps k n p]
      by_cases he : e.1 = n
      · have : ¬ k = n := fun h => hk (he.trans h.symm)
        simp [he, this]
      · simp [he]
theorem getK_none : ∀ {ps : List (List UInt8 × Pl)} {k : List UInt8}, k ∉ ps.map Prod.fst → getK ps k = none
  | [], _, _ => rfl
  | e :: ps, k, h => by
    simp only [List.map_cons, List.mem_cons, not_or] at h
    rw [getK, if_neg (fun x => h.1 x.symm), getK_none h.2]
theorem getK_del : ∀ (ps : List (List UInt8 × Pl)) (k n : List UInt8), OnceK ps → getK (delK ps k) n = if k = n then none else getK ps n
  | [], k, n, _ => by simp [delK, getK]
  | e :: ps, k, n, ho => by
    unfold OnceK at ho
    rw [List.map_cons, List.nodup_cons] at ho
    unfold delK
    by_cases hk : e.1 = k
    · rw [if_pos hk]
      by_cases hn : k = n
      · rw [if_pos hn]
        exact getK_none (by rw [← hn, ← hk]; exact ho.1)
      · rw [if_neg hn]
        simp only [getK]
        rw [if_neg (by rw [hk]; exact hn)]
    · rw [if_neg hk]
      simp only [getK, getK_del ps k n ho.2]
      by_cases he : e.1 = n
      · have : ¬ k = n := fun h => hk (he.trans h.symm)
        simp [he, this]
      · simp [he]
theorem putK_keys : ∀ (ps : List (List UInt8 × Pl)) (k : List UInt8) (p : Pl), (putK ps k p).map Prod.fst = if k ∈ ps.map Prod.fst then ps.map Prod.fst else ps.map Prod.fst ++ [k]
  | [], k, p => by simp [putK]
  | e :: ps, k, p => by
    unfold putK
    by_cases hk : e.1 = k
    · rw [if_pos hk]; simp [hk]
    · rw [if_neg hk, List.map_cons, putK_keys ps k p]
      have : ¬ k = e.1 := fun h => hk h.symm
      by_cases hm : k ∈ ps.map Prod.fst
      · rw [if_pos hm, if_pos (by simp [hm])]; rfl
      · rw [if_neg hm, if_neg (by rw [List.map_cons, List.mem_cons, not_or]; exact ⟨this, hm⟩)]; rfl
theorem OnceK.put {ps : List (List UInt8 × Pl)} (h : OnceK ps) (k : List UInt8) (p : Pl) : OnceK (putK ps k p) := by
  unfold OnceK
  rw [putK_keys]
  split
  · exact h
  · rename_i hn
    refine List.nodup_append.2 ⟨h, by simp, fun a ha b hb => ?_⟩
    rw [List.mem_singleton.1 hb]
    exact fun e => hn (e ▸ ha)
theorem delK_sub : ∀ (ps : List (List UInt8 × Pl)) (k : List UInt8), (delK ps k).Sublist ps
  | [], _ => List.Sublist.refl _
  | e :: ps, k => by
    unfold delK
    split
    · exact List.sublist_cons_self _ _
    · exact (delK_sub ps k).cons_cons _
theorem OnceK.del {ps : List (List UInt8 × Pl)} (h : OnceK ps) (k : List UInt8) : OnceK (delK ps k) := List.Nodup.sublist ((delK_sub ps k).map _) h
inductive Agree (ps : List (List UInt8 × Pl)) (st : List UInt8 × List UInt8) (id : List UInt8) : Prop
  | no (h1 : getK ps id = none) (h2 : st = ([], []))
  | yes (p : Pt) (q : List UInt8) (hq : q ≠ []) (hi : idB (low p.id 4) = id) (h1 : getK ps id = some ⟨q, msgP p⟩) (h2 : st = (q, encM (msgP p)))
theorem qB_ne (q : Nat) : qB q ≠ [] := by simp [qB]
theorem step_key {w : Wt} {q i : Nat} (h : w.key = keyQ q i) (id : List UInt8) (st : List UInt8 × List UInt8) : stepW id st w = if idB i = id then (if w.gone then (if st.1 = qB q then ([], []) else st) else (qB q, w.val)) else st := by
  unfold stepW; rw [h]; unfold keyQ; rw [partsA_key]
theorem Agree.q {ps : List (List UInt8 × Pl)} {st : List UInt8 × List UInt8} {id : List UInt8} (h : Agree ps st id) : st.1 = (atK ps id).q := by
  cases h with
  | no h1 h2 => rw [h2, atK, h1]; rfl
  | yes p q _ _ h1 h2 => rw [h2, atK, h1]; rfl
theorem turn_agree : ∀ (ws : List Wt) (ps ps' : List (List UInt8 × Pl)) (ids ids' : List (List UInt8)) (f : List UInt8 → List UInt8 × List UInt8), (∀ w ∈ ws, GoodW w) → OnceK ps → (∀ id, Agree ps (f id) id) → turnT ps ids ws = some (ps', ids') →
    OnceK ps' ∧ (∀ id, Agree ps' (foldW id (f id) ws) id) ∧ ids' = ids ++ ws.map fun w => (msgT w.key).2.1
  | [], ps, ps', ids, ids', f, _, ho, ha, h => by
    simp [turnT] at h
    obtain ⟨rfl, rfl⟩ := h
    exact ⟨ho, ha, by simp⟩
  | w :: ws, ps, ps', ids, ids', f, hg, ho, ha, h => by
    obtain ⟨p, hp⟩ := hg w (by simp)
    have hk : w.key = keyQ (low p.q 2) (low p.id 4) := by rw [hp, wt_key]; rfl
    have hm : msgT w.key = (qB (low p.q 2), idB (low p.id 4), true) := by rw [hk, msgT_key]
    have hws := fun w hw => hg w (List.mem_cons_of_mem _ hw)
    rw [turnT, hm] at h
    simp only [Bool.true_eq_false, if_false] at h
    rw [List.map_cons, hm]
    have hst := fun id => step_key hk id (f id)
    have fin : ∀ (ps1 : List (List UInt8 × Pl)), OnceK ps1 → (∀ id, Agree ps1 (stepW id (f id) w) id) → turnT ps1 (ids ++ [idB (low p.id 4)]) ws = some (ps', ids') →
        OnceK ps' ∧ (∀ id, Agree ps' (foldW id (f id) (w :: ws)) id) ∧ ids' = ids ++ (idB (low p.id 4) :: ws.map fun w => (msgT w.key).2.1) := fun ps1 ho1 ha1 h1 => by
      obtain ⟨h2, h3, h4⟩ := turn_agree ws ps1 ps' _ ids' (fun id => stepW id (f id) w) hws ho1 ha1 h1
      exact ⟨h2, h3, by rw [h4]; simp⟩
    by_cases hgo : w.gone = true
    · rw [if_pos hgo] at h
      have hqa : (f (idB (low p.id 4))).1 = (atK ps (idB (low p.id 4))).q := (ha _).q
      by_cases hq : (atK ps (idB (low p.id 4))).q = qB (low p.q 2)
      · rw [if_pos hq] at h
        refine fin _ (ho.del _) (fun id => ?_) h
        rw [hst]
        by_cases hid : idB (low p.id 4) = id
        · rw [if_pos hid, if_pos hgo]
          subst hid
          rw [if_pos (by rw [hqa, hq])]
          exact .no (by rw [getK_del _ _ _ ho, if_pos rfl]) rfl
        · rw [if_neg hid]
          have hgk : getK (delK ps (idB (low p.id 4))) id = getK ps id := by rw [getK_del _ _ _ ho, if_neg hid]
          cases ha id with
          | no h1 h2 => exact .no (by rw [hgk]; exact h1) h2
          | yes p q hq hi h1 h2 => exact .yes p q hq hi (by rw [hgk]; exact h1) h2
      · rw [if_neg hq] at h
        refine fin _ ho (fun id => ?_) h
        rw [hst]
        by_cases hid : idB (low p.id 4) = id
        · rw [if_pos hid, if_pos hgo]
          subst hid
          rw [if_neg (by rw [hqa]; exact hq)]
          exact ha _
        · rw [if_neg hid]; exact ha id
    · rw [if_neg hgo] at h
      have hgf : p.gone = false := by
        rw [hp] at hgo
        unfold wtP at hgo
        split at hgo
        · exact absurd rfl hgo
        · rename_i x; simpa using x
      have hv : w.val = encM (msgP p) := by rw [hp]; simp [wtP, hgf, putW]
      rw [hv, if_pos (decE_msgP p), decM_msgP] at h
      refine fin _ (ho.put _ _) (fun id => ?_) h
      rw [hst]
      by_cases hid : idB (low p.id 4) = id
      · rw [if_pos hid, if_neg hgo]
        exact .yes p _ (qB_ne _) hid (by rw [getK_put, if_pos hid]) (by rw [hv])
      · rw [if_neg hid]
        have hgk : getK (putK ps (idB (low p.id 4)) ⟨qB (low p.q 2), msgP p⟩) id = getK ps id := by rw [getK_put, if_neg hid]
        cases ha id with
        | no h1 h2 => exact .no (by rw [hgk]; exact h1) h2
        | yes p q hq hi h1 h2 => exact .yes p q hq hi (by rw [hgk]; exact h1) h2
theorem encM_inj {p p' : Pt} (h : idB (low p.id 4) = idB (low p'.id 4)) (he : encM (msgP p) = encM (msgP p')) : msgP p = msgP p' := by
  rw [← decM_msgP p, ← decM_msgP p', h, he]
theorem agree_same {ps ps' : List (List UInt8 × Pl)} {st st' : List UInt8 × List UInt8} {id : List UInt8} (h : Agree ps st id) (h' : Agree ps' st' id) : atK ps id = atK ps' id ↔ st = st' := by
  cases h with
  | no h1 h2 =>
    cases h' with
    | no h3 h4 => simp [atK, h1, h2, h3, h4]
    | yes p q hq _ h3 h4 =>
      have hq' : ¬ [] = q := fun e => hq e.symm
      simp [atK, h1, h2, h3, h4, P0, hq']
  | yes p q hq hi h1 h2 =>
    cases h' with
    | no h3 h4 => simp [atK, h1, h2, h3, h4, P0, hq]
    | yes p' q' _ hi' h3 h4 =>
      simp only [atK, h1, h2, h3, h4, Option.getD_some, Pl.mk.injEq, Prod.mk.injEq]
      refine ⟨fun ⟨a, b⟩ => ⟨a, by rw [b]⟩, fun ⟨a, b⟩ => ⟨a, encM_inj (hi.trans hi'.symm) b⟩⟩
theorem agree_at {ps : List (List UInt8 × Pl)} {st : List UInt8 × List UInt8} {id : List UInt8} (h : Agree ps st id) : (st.1 ≠ [] → encM (atK ps id).m = st.2) ∧ (st.1 = [] → (atK ps id).m = M0) ∧ (atK ps id).q = st.1 ∧ (atK ps id).m.ready ≤ 9223372036854775807 ∧ (atK ps id).m.count ≤ 9223372036854775807 ∧ (atK ps id).m.token.length + (atK ps id).m.body.length ≤ 1000000000 := by
  cases h with
  | no h1 h2 => rw [h2, atK, h1]; exact ⟨fun h => absurd rfl h, fun _ => rfl, rfl, by decide, by decide, by decide⟩
  | yes p q hq _ h1 h2 =>
    rw [h2, atK, h1]
    have l1 := low_le p.ready (k := 64) (by decide)
    have l2 := low_le p.count (k := 8) (by decide)
    have l3 := tkB_len (low p.token 4)
    refine ⟨fun _ => rfl, fun h => absurd h hq, rfl, ?_, ?_, ?_⟩
    · show ((low p.ready 64 : Nat) : Int) ≤ _; omega
    · show ((low p.count 8 : Nat) : Int) ≤ _; omega
    · show (tkB (low p.token 4)).length + 0 ≤ _; omega
end Go.AV.Hist
namespace Go.AV.Hist
open Go.AV.Ord Go.AV.Oct Go.AV.Val Go.AV.Patch
theorem stepW_len {w : Wt} {id : List UInt8} {st : List UInt8 × List UInt8} (h : ¬ (partsA w.key).length = 3) : stepW id st w = st := by
  unfold stepW
  split
  · rename_i e; rw [e] at h; exact absurd rfl h
  · rfl
theorem stepW_at {w : Wt} {id x0 x1 x2 : List UInt8} {st : List UInt8 × List UInt8} (h : partsA w.key = [x0, x1, x2]) : stepW id st w = if x2 = id then (if w.gone then (if st.1 = x1 then ([], []) else st) else (x1, w.val)) else st := by
  unfold stepW; rw [h]
theorem foldW_snoc (id : List UInt8) (st : List UInt8 × List UInt8) (ws : List Wt) (w : Wt) : foldW id st (ws ++ [w]) = stepW id (foldW id st ws) w := by simp [foldW]
def wK (w : Wt) (id : List UInt8) : Bool := match partsA w.key with
  | [_, _, x] => decide (x = id)
  | _ => false
theorem wK_len {w : Wt} {id : List UInt8} (h : ¬ (partsA w.key).length = 3) : wK w id = false := by
  unfold wK
  split
  · rename_i e; rw [e] at h; exact absurd rfl h
  · rfl
theorem wK_at {w : Wt} {id x0 x1 x2 : List UInt8} (h : partsA w.key = [x0, x1, x2]) : wK w id = decide (x2 = id) := by unfold wK; rw [h]
def wroteT (ws : List Wt) (id : List UInt8) : Bool := ws.any fun w => wK w id
theorem wroteT_snoc (ws : List Wt) (w : Wt) (id : List UInt8) : wroteT (ws ++ [w]) id = (wroteT ws id || wK w id) := by simp [wroteT]
def idsP (ws : List Wt) : List (List UInt8) := ws.map fun w => (msgT w.key).2.1
theorem wrote_mem {ws : List Wt} (hg : ∀ w ∈ ws, GoodW w) (id : List UInt8) : wroteT ws id = decide (id ∈ idsP ws) := by
  rw [Bool.eq_iff_iff, decide_eq_true_iff]
  unfold wroteT idsP
  rw [List.any_eq_true, List.mem_map]
  have e : ∀ w ∈ ws, (wK w id = true ↔ (msgT w.key).2.1 = id) := fun w hw => by
    obtain ⟨p, rfl⟩ := hg w hw
    rw [wt_key]
    unfold keyP
    rw [msgT_key]
    have : partsA (wtP p).key = [[109], qB (low p.q 2), idB (low p.id 4)] := by rw [wt_key]; exact partsA_key _
    rw [wK_at this, decide_eq_true_iff]
  exact ⟨fun ⟨w, hw, h⟩ => ⟨w, hw, (e w hw).1 h⟩, fun ⟨w, hw, h⟩ => ⟨w, hw, (e w hw).2 h⟩⟩
theorem ids_four {ws : List Wt} (hg : ∀ w ∈ ws, GoodW w) : ∀ x ∈ idsP ws, ∃ i < 4, x = idB i := fun x hx => by
  obtain ⟨w, hw, rfl⟩ := List.mem_map.1 hx
  obtain ⟨p, rfl⟩ := hg w hw
  rw [wt_key]
  unfold keyP
  rw [msgT_key]
  have := low_le p.id (k := 4) (by decide)
  exact ⟨_, by omega, rfl⟩
def psN (l : List Pt) : Nat → List (List UInt8 × Pl)
  | 0 => []
  | n + 1 => ((turnT (psN l n) [] (wsP n l)).getD ([], [])).1
theorem wsP_ok (n : Nat) (l : List Pt) : ∀ w ∈ wsP n l, GoodW w := fun _ hw => wsP_good hw
theorem agree_all (l : List Pt) : ∀ n, n ≤ 8 → OnceK (psN l n) ∧ ∀ id, Agree (psN l n) (whereT (csP l) n id) id
  | 0, _ => ⟨List.nodup_nil, fun _ => .no rfl rfl⟩
  | n + 1, hn => by
    obtain ⟨h1, h2⟩ := agree_all l n (by omega)
    obtain ⟨⟨ps', ids⟩, ht⟩ := turnT_some (wsP n l) (psN l n) [] fun w hw => (wsP_ok n l w hw).reads
    obtain ⟨h3, h4, _⟩ := turn_agree _ _ _ _ _ (fun id => whereT (csP l) n id) (wsP_ok n l) h1 h2 ht
    have e : psN l (n + 1) = ps' := by rw [psN, ht]; rfl
    rw [e]
    refine ⟨h3, fun id => ?_⟩
    rw [whereT_succ (csP_at (by omega))]
    exact h4 id
theorem turn_at (l : List Pt) {n : Nat} (hn : n < 8) : turnT (psN l n) [] (cmP l n).ws = some (psN l (n + 1), idsP (wsP n l)) := by
  show turnT (psN l n) [] (wsP n l) = _
  obtain ⟨h1, h2⟩ := agree_all l n (by omega)
  obtain ⟨⟨ps', ids⟩, ht⟩ := turnT_some (wsP n l) (psN l n) [] fun w hw => (wsP_ok n l w hw).reads
  obtain ⟨_, _, h5⟩ := turn_agree _ _ _ _ _ (fun id => whereT (csP l) n id) (wsP_ok n l) h1 h2 ht
  have e : psN l (n + 1) = ps' := by rw [psN, ht]; rfl
  rw [ht, e, h5]; rfl
def slotE (l : List Pt) (n i : Nat) : Option Ev :=
  if wroteT (wsP n l) (idB i) = true ∧ ¬ atK (psN l n) (idB i) = atK (psN l (n + 1)) (idB i) then some (evOf (cmP l n) (psN l n) (psN l (n + 1)) (idB i)) else none
theorem evs_slots (l : List Pt) (n : Nat) : evs (cmP l n) (psN l n) (psN l (n + 1)) (compS (sortS (idsP (wsP n l)))) = [0, 1, 2, 3].filterMap (slotE l n) := by
  rw [once_ids _ (ids_four (wsP_ok n l))]
  unfold evs
  rw [List.filter_filter]
  have key : ∀ L : List Nat, (((L.map idB).filter fun id => (!decide (atK (psN l n) id = atK (psN l (n + 1)) id)) && decide (id ∈ idsP (wsP n l)))).map (evOf (cmP l n) (psN l n) (psN l (n + 1))) = L.filterMap (slotE l n) := by
    intro L
    induction L with
    | nil => rfl
    | cons i L ih =>
      rw [List.map_cons, List.filterMap_cons]
      unfold slotE
      rw [wrote_mem (wsP_ok n l)]
      by_cases h1 : idB i ∈ idsP (wsP n l)
      · by_cases h2 : atK (psN l n) (idB i) = atK (psN l (n + 1)) (idB i)
        · rw [List.filter_cons_of_neg (by simp [h2]), if_neg (by simp [h2])]; exact ih
        · rw [List.filter_cons_of_pos (by simp [h1, h2]), if_pos (by simp [h1, h2]), List.map_cons, ih]; rfl
      · rw [List.filter_cons_of_neg (by simp [h1]), if_neg (by simp [h1])]; exact ih
  exact key _
def allE (l : List Pt) (n : Nat) : List Ev := (List.range n).flatMap fun m => [0, 1, 2, 3].filterMap (slotE l m)
theorem allE_succ (l : List Pt) (n : Nat) : allE l (n + 1) = allE l n ++ [0, 1, 2, 3].filterMap (slotE l n) := by simp [allE, List.range_succ]
theorem events_all (l : List Pt) : eventsT [] [] (csP l) = some (allE l 8) := by
  have h : ∀ n, n ≤ 8 → eventsT [] [] (csP l) = eventsT (psN l n) (allE l n) ((csP l).drop n) := by
    intro n
    induction n with
    | zero => intro _; rfl
    | succ n ih =>
      intro hn
      rw [ih (by omega), drop_one (csP_at (by omega)), eventsT_some (turn_at l (by omega)), evs_slots, ← allE_succ]
  rw [h 8 (by omega), List.drop_of_length_le (by rw [csP_len]; omega)]
  rfl
def preE (l : List Pt) (n i : Nat) : List Ev := allE l n ++ ([0, 1, 2, 3].take i).filterMap (slotE l n)
theorem preE_zero (l : List Pt) (n : Nat) : preE l n 0 = allE l n := by simp [preE]
theorem preE_full (l : List Pt) (n : Nat) : preE l n 4 = allE l (n + 1) := by rw [allE_succ]; rfl
theorem four_at {i : Nat} (h : i < 4) : ([0, 1, 2, 3] : List Nat)[i]? = some i := by
  match i, h with
  | 0, _ => rfl
  | 1, _ => rfl
  | 2, _ => rfl
  | 3, _ => rfl
theorem preE_none {l : List Pt} {n i : Nat} (hi : i < 4) (h : slotE l n i = none) : preE l n (i + 1) = preE l n i := by
  unfold preE; rw [take_snoc (four_at hi)]; simp [h]
theorem preE_some {l : List Pt} {n i : Nat} {e : Ev} (hi : i < 4) (h : slotE l n i = some e) : preE l n (i + 1) = preE l n i ++ [e] := by
  unfold preE; rw [take_snoc (four_at hi)]; simp [h]
theorem allE_pre (l : List Pt) (n : Nat) : ∀ k, allE l n <+: allE l (n + k)
  | 0 => List.prefix_refl _
  | k + 1 => (allE_pre l n k).trans (by rw [← Nat.add_assoc, allE_succ]; exact List.prefix_append _ _)
theorem preE_pre (l : List Pt) {n i : Nat} (hn : n < 8) : preE l n i <+: allE l 8 := by
  have h1 : preE l n i <+: preE l n 4 := by
    unfold preE
    refine List.prefix_append_right_inj _ |>.2 ?_
    refine List.IsPrefix.filterMap _ ?_
    exact List.take_prefix _ _
  refine h1.trans ?_
  rw [preE_full]
  have := allE_pre l (n + 1) (8 - (n + 1))
  rwa [show n + 1 + (8 - (n + 1)) = 8 by omega] at this
theorem slot_at {l : List Pt} {n i : Nat} {e : Ev} (hn : n < 8) (hi : i < 4) (h : slotE l n i = some e) : (allE l 8)[(preE l n i).length]? = some e := by
  obtain ⟨r, hr⟩ := preE_pre l (i := i + 1) hn
  rw [preE_some hi h] at hr
  rw [← hr, List.append_assoc, List.getElem?_append_right (Nat.le_refl _), Nat.sub_self]; rfl
structure ToldE (l : List Pt) (n i : Nat) (e : Ev) : Prop where
  slot : slotE l n i = some e
  seq : e.seq = (cmP l n).seq
  at_ : e.at_ = (cmP l n).at_
  id : e.id = idB i
  fr : e.fr = (whereT (csP l) n (idB i)).1
  to : e.to = (whereT (csP l) (n + 1) (idB i)).1
  old : (whereT (csP l) n (idB i)).1 ≠ [] → encM e.old = (whereT (csP l) n (idB i)).2
  old0 : (whereT (csP l) n (idB i)).1 = [] → e.old = M0
  new : (whereT (csP l) (n + 1) (idB i)).1 ≠ [] → encM e.new = (whereT (csP l) (n + 1) (idB i)).2
  new0 : (whereT (csP l) (n + 1) (idB i)).1 = [] → e.new = M0
  bo : e.old.ready ≤ 9223372036854775807 ∧ e.old.count ≤ 9223372036854775807 ∧ e.old.token.length + e.old.body.length ≤ 1000000000
  bn : e.new.ready ≤ 9223372036854775807 ∧ e.new.count ≤ 9223372036854775807 ∧ e.new.token.length + e.new.body.length ≤ 1000000000
theorem told {l : List Pt} {n i : Nat} (hn : n < 8) (hw : wroteT (wsP n l) (idB i) = true) (hne : ¬ whereT (csP l) n (idB i) = whereT (csP l) (n + 1) (idB i)) : ∃ e, ToldE l n i e := by
  have a1 := (agree_all l n (by omega)).2 (idB i)
  have a2 := (agree_all l (n + 1) (by omega)).2 (idB i)
  have hd : ¬ atK (psN l n) (idB i) = atK (psN l (n + 1)) (idB i) := fun h => hne ((agree_same a1 a2).1 h)
  obtain ⟨o1, o2, o3, o4⟩ := agree_at a1
  obtain ⟨p1, p2, p3, p4⟩ := agree_at a2
  exact ⟨evOf (cmP l n) (psN l n) (psN l (n + 1)) (idB i), by unfold slotE; rw [if_pos ⟨hw, hd⟩], rfl, rfl, rfl, o3, p3, o1, o2, p1, p2, o4, p4⟩
theorem untold {l : List Pt} {n i : Nat} (hn : n < 8) (h : wroteT (wsP n l) (idB i) = false ∨ whereT (csP l) n (idB i) = whereT (csP l) (n + 1) (idB i)) : slotE l n i = none := by
  have a1 := (agree_all l n (by omega)).2 (idB i)
  have a2 := (agree_all l (n + 1) (by omega)).2 (idB i)
  unfold slotE
  rw [if_neg]
  rintro ⟨h1, h2⟩
  rcases h with h | h
  · rw [h1] at h; cases h
  · exact h2 ((agree_same a1 a2).2 h)
theorem allE_len (l : List Pt) (n : Nat) : (allE l n).length ≤ 4 * n := by
  induction n with
  | zero => simp [allE]
  | succ n ih =>
    rw [allE_succ, List.length_append]
    have : ([0, 1, 2, 3].filterMap (slotE l n)).length ≤ 4 := List.length_filterMap_le _ _
    omega
end Go.AV.Hist
namespace Go.Proofs.Ytjbpfnoibeogbaa
open Go.AV Go.AV.Ord Go.AV.Oct Go.AV.Hist
set_option linter.unusedVariables false
set_option linter.unusedSimpArgs false
set_option maxHeartbeats 4000000 in
set_option maxRecDepth 100000 in
theorem where_ok (Hs : HS) (cs : List Cm) (m : Nat) (id : List UInt8) (hm : m ≤ cs.length) (hl : cs.length ≤ 1000) (hw : ∀ c ∈ cs, c.ws.length ≤ 1000000) (hk : ∀ c ∈ cs, ∀ w ∈ c.ws, w.key.length ≤ 1099511627776) : ACalls Try.prog 20 [.d (.lst 3 (cs.map cD)), .d (I (m : Nat)), .d (S id)] Hs (Ret (.tup [.d (S (whereT cs m id).1), .d (S (whereT cs m id).2)]) Hs) := by
 refine ACalls.tidyT (xs := [S (whereT cs m id).1, S (whereT cs m id).2]) ?_
 refine acalls_of_aw Try.func20 rfl ?_
 refine aw_start (T' := ((.d (.lst 3 (cs.map cD))) :: (.d (I (m : Nat))) :: (.d (S id)) :: .un :: .un :: .un :: .un :: .un :: .un :: .un :: .un :: .un :: .un :: .un :: .un :: .un :: .un :: .un :: .un :: .un :: .un :: .un :: .un :: .un :: .un :: .un :: .un :: .un :: .un :: .un :: .un :: .un :: .un :: .un :: .un :: .un :: .un :: .un :: .un :: .un :: .un :: .un :: .un :: .un :: .un :: .un :: .un :: .un :: .un :: .un :: .un :: .un :: .un :: .un :: .un :: .un :: .un :: .un :: .un :: .un :: .un :: .un :: .un :: .un :: [])) rfl ?_
 refine aw_seq ?_
 refine aw_region ?_
 refine zst (op_assign_const (by rfl)) rfl (by dsimp only [zS, zN, zH, zT]) ?_
 refine zst (op_assign_const (by rfl)) rfl (by dsimp only [zS, zN, zH, zT]) ?_
 refine al_end rfl ?_
 refine then_normal ?_
 refine aw_seq ?_
 refine aw_region ?_
 refine zst (op_assign_const (by rfl)) rfl (by dsimp only [zS, zN, zH, zT]) ?_
 refine al_end rfl ?_
 refine then_normal ?_
 refine aw_seq ?_
 refine aw_region ?_
 refine zst (op_assign_const (by rfl)) rfl (by dsimp only [zS, zN, zH, zT]) ?_
 refine al_end rfl ?_
 refine then_normal ?_
 refine aw_seq ?_
 refine aw_seq ?_
 refine aw_region ?_
 refine zst (op_move_tmp (by rfl)) rfl (by dsimp only [zS, zN, zH, zT]) ?_
 refine zst (op_move_tmp (by rfl)) rfl (by dsimp only [zS, zN, zH, zT]) ?_
 refine zst (op_sliceL0 ((cs.take m).map cD) Try.underlying40 Sz48 (LL.d _ _) (by rfl) (by omega) (by rw [List.length_map]; omega) (by rw [List.map_take]; rfl)) rfl (by dsimp only [zS, zN, zH, zT]) ?_
 refine zst (op_lenL Try.underlying40 (by first | exact LL.d _ _ | exact LL.own _ _ _ | exact LL.nil _ | assumption)) rfl (by dsimp only [zS, zN, zH, zT]) ?_
 refine zst (op_move_const (by rfl)) rfl (by dsimp only [zS, zN, zH, zT]) ?_
 refine al_end rfl ?_
 refine then_normal ?_
 refine aw_block ?_
 apply aw_loopF (fun n T H => ∃ (k : Nat) (st : List UInt8 × List UInt8), T = (.un :: .un :: (.d (S id)) :: .un :: .un :: .un :: .un :: .un :: (.d (S st.1)) :: (.d (S st.2)) :: .un :: .un :: .un :: .un :: .un :: .un :: .un :: .un :: (.d (.lst 3 ((cs.take m).map cD))) :: (.d (I ((cs.take m).map cD).length)) :: (.d (I k)) :: .un :: .un :: .un :: .un :: .un :: .un :: .un :: .un :: .un :: .un :: .un :: .un :: .un :: .un :: .un :: .un :: .un :: .un :: .un :: .un :: .un :: .un :: .un :: .un :: .un :: .un :: .un :: .un :: .un :: .un :: .un :: .un :: .un :: .un :: .un :: .un :: .un :: .un :: .un :: .un :: .un :: .un :: .un :: []) ∧ k ≤ m ∧ n = m - k ∧ st = whereT cs k id ∧ Ext Hs H) (m) (false :: false :: true :: false :: false :: false :: false :: false :: true :: true :: false :: false :: false :: false :: false :: false :: false :: false :: true :: true :: true :: false :: false :: false :: false :: false :: false :: false :: false :: false :: false :: false :: false :: false :: false :: false :: false :: false :: false :: false :: false :: false :: false :: false :: false :: false :: false :: false :: false :: false :: false :: false :: false :: false :: false :: false :: false :: false :: false :: false :: false :: false :: false :: false :: [])
 · (try dsimp only [maskT]); try exact rfl
 · rfl
 · exact ⟨0, ([], []), rfl, by omega, rfl, rfl, Ext.refl _⟩
 rintro n T H ⟨k, st, rfl, hk0, rfl, hst0, hx⟩
 refine aw_seq ?_
 refine aw_region ?_
 refine zst (op_ltI (by rfl) (by rfl)) rfl (by dsimp only [zS, zN, zH, zT]) ?_
 refine al_end rfl ?_
 refine then_normal ?_
 refine aw_seq ?_
 refine aw_cond rfl (fun hc1 => ?_) (fun hc1 => ?_)
 ·
  (try simp only [y1, y2, y3, y4, y5, y6, y7, y8, y9, y0, List.length_map] at hc1)
  (try simp only [List.length_map, List.length_take] at hc1)
  have hlt : k < m := by omega
  obtain ⟨c, hc1⟩ : ∃ z0, cs[k]? = some z0 := ⟨_, List.getElem?_eq_getElem (by omega)⟩
  have hc2 : (cs.take m)[k]? = some c := by rw [List.getElem?_take_of_lt hlt]; exact hc1
  have hwl := hw c (List.mem_of_getElem? hc1)
  refine aw_skip ?_
  refine then_normal ?_
  refine aw_seq ?_
  refine aw_block ?_
  refine aw_seq ?_
  refine aw_region ?_
  refine zst (op_indexAddr (z := cD c) (cs := [I c.seq, I c.at_, .lst 3 (c.ws.map wD)]) Try.underlying40 Sz48 (LL.d _ _) (by rfl) (by omega) (by rw [List.getElem?_map, show ((k : Nat) : Int).toNat = k from rfl, hc2]; rfl) (by rfl)) rfl (by dsimp only [zS, zN, zH, zT]) ?_
  refine zst (op_load_elts (ds := cC c) Try.underlying48 (by rfl) Sz48 (by rfl) (Nat.le_of_ble_eq_true rfl) (by rfl)) rfl (by dsimp only [zS, zN, zH, zT]) ?_
  refine zst (op_alloc (Zr48) (by rfl)) rfl (by dsimp only [zS, zN, zH, zT]) ?_
  refine zst (op_storeB (vs := [.d (I c.seq), .d (I c.at_), .d (.lst 3 (c.ws.map wD))]) (b' := ⟨48, [.d (I c.seq), .d (I c.at_), .d (.lst 3 (c.ws.map wD))], false⟩) (H' := _) Sz48 (by rfl) push_at (by intro h; cases h) (by rfl) (by rfl) (Nat.le_of_ble_eq_true rfl) (by simp [AV.one, DV.one, TF, S, I, BY]) (by rfl) (by rfl) rfl) rfl (by dsimp only [zS, zN, zH, zT]) ?_
  refine al_end rfl ?_
  refine then_normal ?_
  refine aw_seq ?_
  refine aw_region ?_
  refine zst (by first | exact op_fieldAddr_ptr Try.underlying48 rfl Sz46 (by rfl) (by rfl) | exact op_fieldAddr_elt Try.underlying48 rfl Sz46 (by rfl) (by rfl) (by rfl)) rfl (by dsimp only [zS, zN, zH, zT]) ?_
  refine zst (by first | exact op_load_elt Try.underlying46 (by rfl) (by rfl) (by rfl) | exact op_load_ptr Try.underlying46 (by rfl) (by rfl) (by repeat (first | assumption | exact push_at | exact setB_at push_at | (rw [setB_ne (by simp only [setB_nb, push_nb, ne_eq]; omega)]) | apply push_ne | apply setB_at)) (by rfl)) rfl (by dsimp only [zS, zN, zH, zT]) ?_
  refine zst (op_lenL Try.underlying46 (by first | exact LL.d _ _ | exact LL.own _ _ _ | exact LL.nil _ | assumption)) rfl (by dsimp only [zS, zN, zH, zT]) ?_
  refine zst (op_move_const (by rfl)) rfl (by dsimp only [zS, zN, zH, zT]) ?_
  refine al_end rfl ?_
  refine then_normal ?_
  refine aw_block ?_
  apply aw_loopF (fun n T H => ∃ (j : Nat) (st : List UInt8 × List UInt8), T = (.un :: .un :: (.d (S id)) :: .un :: .un :: .un :: .un :: .un :: (.d (S st.1)) :: (.d (S st.2)) :: .un :: .un :: .un :: .un :: .un :: .un :: .un :: .un :: (.d (.lst 3 ((cs.take m).map cD))) :: (.d (I ((cs.take m).map cD).length)) :: (.d (I k)) :: .un :: .un :: .un :: .un :: (.d (.lst 3 (c.ws.map wD))) :: (.d (I (c.ws.map wD).length)) :: (.d (I j)) :: .un :: .un :: .un :: .un :: .un :: .un :: .un :: .un :: .un :: .un :: .un :: .un :: .un :: .un :: .un :: .un :: .un :: .un :: .un :: .un :: .un :: .un :: .un :: .un :: .un :: .un :: .un :: .un :: .un :: .un :: .un :: .un :: .un :: .un :: .un :: .un :: []) ∧ j ≤ c.ws.length ∧ n = c.ws.length - j ∧ st = foldW id (whereT cs k id) (c.ws.take j) ∧ Ext Hs H) (c.ws.length) (false :: false :: true :: false :: false :: false :: false :: false :: true :: true :: false :: false :: false :: false :: false :: false :: false :: false :: true :: true :: true :: false :: false :: false :: false :: true :: true :: true :: false :: false :: false :: false :: false :: false :: false :: false :: false :: false :: false :: false :: false :: false :: false :: false :: false :: false :: false :: false :: false :: false :: false :: false :: false :: false :: false :: false :: false :: false :: false :: false :: false :: false :: false :: false :: [])
  · (try dsimp only [maskT]); try exact rfl
  · rfl
  · exact ⟨0, _, rfl, by omega, rfl, hst0, ((hx.push _ _).setB (nb_le hx))⟩
  rintro n T H ⟨j, st, rfl, hj, rfl, hst, hx⟩
  refine aw_seq ?_
  refine aw_region ?_
  refine zst (op_ltI (by rfl) (by rfl)) rfl (by dsimp only [zS, zN, zH, zT]) ?_
  refine al_end rfl ?_
  refine then_normal ?_
  refine aw_seq ?_
  refine aw_cond rfl (fun hc2 => ?_) (fun hc2 => ?_)
  ·
   (try simp only [y1, y2, y3, y4, y5, y6, y7, y8, y9, y0, List.length_map] at hc2)
   (try simp only [List.length_map] at hc2)
   have hlt2 : j < c.ws.length := by omega
   obtain ⟨w, hw1⟩ : ∃ z0, c.ws[j]? = some z0 := ⟨_, List.getElem?_eq_getElem hlt2⟩
   refine aw_skip ?_
   refine then_normal ?_
   refine aw_seq ?_
   refine aw_block ?_
   refine aw_seq ?_
   refine aw_region ?_
   refine zst (op_indexAddr (z := wD w) (cs := [S w.key, S w.val, TF w.gone]) Try.underlying46 Sz51 (LL.d _ _) (by rfl) (by omega) (by rw [List.getElem?_map, show ((j : Nat) : Int).toNat = j from rfl, hw1]; rfl) (by rfl)) rfl (by dsimp only [zS, zN, zH, zT]) ?_
   refine zst (op_load_elts (ds := wC w) Try.underlying51 (by rfl) Sz51 (by rfl) (Nat.le_of_ble_eq_true rfl) (by rfl)) rfl (by dsimp only [zS, zN, zH, zT]) ?_
   refine zst (op_alloc (Zr51) (by rfl)) rfl (by dsimp only [zS, zN, zH, zT]) ?_
   refine zst (op_storeB (vs := [.d (S w.key), .d (S w.val), .d (TF w.gone)]) (b' := ⟨51, [.d (S w.key), .d (S w.val), .d (TF w.gone)], false⟩) (H' := _) Sz51 (by rfl) push_at (by intro h; cases h) (by rfl) (by rfl) (Nat.le_of_ble_eq_true rfl) (by simp [AV.one, DV.one, TF, S, I, BY]) (by rfl) (by rfl) rfl) rfl (by dsimp only [zS, zN, zH, zT]) ?_
   refine al_end rfl ?_
   refine then_normal ?_
   refine aw_seq ?_
   refine aw_region ?_
   refine zst (by first | exact op_fieldAddr_ptr Try.underlying51 rfl Sz9 (by rfl) (by rfl) | exact op_fieldAddr_elt Try.underlying51 rfl Sz9 (by rfl) (by rfl) (by rfl)) rfl (by dsimp only [zS, zN, zH, zT]) ?_
   refine zst (by first | exact op_load_elt Try.underlying9 (by rfl) (by rfl) (by rfl) | exact op_load_ptr Try.underlying9 (by rfl) (by rfl) (by repeat (first | assumption | exact push_at | exact setB_at push_at | (rw [setB_ne (by simp only [setB_nb, push_nb, ne_eq]; omega)]) | apply push_ne | apply setB_at)) (by rfl)) rfl (by dsimp only [zS, zN, zH, zT]) ?_
   refine zst (op_callF Try.func19 (by rfl) (by rfl) (.tmp (by rfl) .nil) (parts_ok _ w.key (hk c (List.mem_of_getElem? hc1) w (List.mem_of_getElem? hw1)))) rfl (by dsimp only [zS, zN, zH, zT]) ?_
   refine zst (op_move_tmp (by rfl)) rfl (by dsimp only [zS, zN, zH, zT]) ?_
   refine zst (op_extract (by rfl) (by rfl)) rfl (by dsimp only [zS, zN, zH, zT]) ?_
   refine zst (op_extract (by rfl) (by rfl)) rfl (by dsimp only [zS, zN, zH, zT]) ?_
   refine zst (op_assign_tmp (by rfl)) rfl (by dsimp only [zS, zN, zH, zT]) ?_
   refine zst (op_assign_tmp (by rfl)) rfl (by dsimp only [zS, zN, zH, zT]) ?_
   refine al_end rfl ?_
   refine then_normal ?_
   refine aw_seq ?_
   refine aw_seq ?_
   refine aw_region ?_
   refine zst (op_move_tmp (by rfl)) rfl (by dsimp only [zS, zN, zH, zT]) ?_
   refine zst (op_lenL Try.underlying52 (by first | exact LL.d _ _ | exact LL.own _ _ _ | exact LL.nil _ | assumption)) rfl (by dsimp only [zS, zN, zH, zT]) ?_
   refine zst (op_neI (by rfl) (by rfl)) rfl (by dsimp only [zS, zN, zH, zT]) ?_
   refine zst (op_move_tmp (by rfl)) rfl (by dsimp only [zS, zN, zH, zT]) ?_
   refine al_split 40 rfl (fun hg3 => ?_) (fun hg3 => ?_)
   ·
    (try simp only [y1, y2, y3, y4, y5, y6, y7, y8, y9, y0, List.length_map] at hg3)
    have hl3 : ¬ (partsA w.key).length = 3 := by (try simp only [List.length_map] at hg3); omega
    apply al_normT
    · (try dsimp only [zS, zN, zH, zT]); try exact rfl
    refine zuw rfl rfl rfl rfl (by dsimp only [zS, zN, zH, zT]) ?_
    refine zuw rfl rfl rfl rfl (by dsimp only [zS, zN, zH, zT]) ?_
    refine zuw rfl rfl rfl rfl (by dsimp only [zS, zN, zH, zT]) ?_
    refine zuw rfl rfl rfl rfl (by dsimp only [zS, zN, zH, zT]) ?_
    refine zuw rfl rfl rfl rfl (by dsimp only [zS, zN, zH, zT]) ?_
    refine zst (op_pick_tt (by rfl) (val_const (by rfl))) rfl (by dsimp only [zS, zN, zH, zT]) ?_
    refine al_end rfl ?_
    refine then_normal ?_
    refine aw_cond rfl (fun _ => ?_) (fun h => by cases h)
    refine aw_exit ?_
    refine then_exit (inBlock_here (then_normal ?_))
    refine aw_region ?_
    refine zst (by first | exact op_add (by rfl) (by rfl) (wrap_i64 ⟨by omega, by omega⟩) | exact op_add (by rfl) (by rfl) (by rfl)) rfl (by dsimp only [zS, zN, zH, zT]) ?_
    refine zst (op_move_tmp (by rfl)) rfl (by dsimp only [zS, zN, zH, zT]) ?_
    refine al_end rfl ?_
    apply again_to (c.ws.length - (j + 1)) (false :: false :: true :: false :: false :: false :: false :: false :: true :: true :: false :: false :: false :: false :: false :: false :: false :: false :: true :: true :: true :: false :: false :: false :: false :: true :: true :: true :: false :: false :: false :: false :: false :: false :: false :: false :: false :: false :: false :: false :: false :: false :: false :: false :: false :: false :: false :: false :: false :: false :: false :: false :: false :: false :: false :: false :: false :: false :: false :: false :: false :: false :: false :: false :: [])
    · (try dsimp only [maskT]); try exact rfl
    · rfl
    · omega
    exact ⟨j + 1, _, rfl, by omega, rfl, by rw [take_snoc hw1, foldW_snoc, ← hst]; exact (stepW_len hl3).symm, ((hx.push _ _).setB (nb_le hx))⟩
   ·
    (try simp only [y1, y2, y3, y4, y5, y6, y7, y8, y9, y0, List.length_map] at hg3)
    have hl3 : (partsA w.key).length = 3 := by (try simp only [List.length_map] at hg3); omega
    obtain ⟨x0, x1, x2, hp⟩ := len3 hl3
    apply al_normT
    · (try dsimp only [zS, zN, zH, zT]); try exact rfl
    refine zsw rfl rfl rfl (op_move_tmp (by rfl)) (by dsimp only [zS, zN, zH, zT]) ?_
    refine zsw rfl rfl rfl (op_indexAddr (z := S x2) (cs := [S x2]) Try.underlying52 Sz9 (LL.d _ _) (by rfl) (by omega) (by rw [hp]; rfl) (by rfl)) (by dsimp only [zS, zN, zH, zT]) ?_
    refine zsw rfl rfl rfl (op_load_elt Try.underlying9 (by rfl) (by rfl) (by rfl)) (by dsimp only [zS, zN, zH, zT]) ?_
    refine zsw rfl rfl rfl (op_move_tmp (by rfl)) (by dsimp only [zS, zN, zH, zT]) ?_
    refine zsw rfl rfl rfl (op_neS (by rfl) (by rfl)) (by dsimp only [zS, zN, zH, zT]) ?_
    refine zst (op_pick_ff (by rfl) (val_tmp (by rfl))) rfl (by dsimp only [zS, zN, zH, zT]) ?_
    refine al_end rfl ?_
    refine then_normal ?_
    refine aw_cond rfl (fun hc5 => ?_) (fun hc5 => ?_)
    ·
     (try simp only [y1, y2, y3, y4, y5, y6, y7, y8, y9, y0, List.length_map] at hc5)
     have hxe : ¬ x2 = id := hc5
     refine aw_exit ?_
     refine then_exit (inBlock_here (then_normal ?_))
     refine aw_region ?_
     refine zst (by first | exact op_add (by rfl) (by rfl) (wrap_i64 ⟨by omega, by omega⟩) | exact op_add (by rfl) (by rfl) (by rfl)) rfl (by dsimp only [zS, zN, zH, zT]) ?_
     refine zst (op_move_tmp (by rfl)) rfl (by dsimp only [zS, zN, zH, zT]) ?_
     refine al_end rfl ?_
     apply again_to (c.ws.length - (j + 1)) (false :: false :: true :: false :: false :: false :: false :: false :: true :: true :: false :: false :: false :: false :: false :: false :: false :: false :: true :: true :: true :: false :: false :: false :: false :: true :: true :: true :: false :: false :: false :: false :: false :: false :: false :: false :: false :: false :: false :: false :: false :: false :: false :: false :: false :: false :: false :: false :: false :: false :: false :: false :: false :: false :: false :: false :: false :: false :: false :: false :: false :: false :: false :: false :: [])
     · (try dsimp only [maskT]); try exact rfl
     · rfl
     · omega
     exact ⟨j + 1, _, rfl, by omega, rfl, by rw [take_snoc hw1, foldW_snoc, ← hst]; exact ((stepW_at hp).trans (if_neg hxe)).symm, ((hx.push _ _).setB (nb_le hx))⟩
    ·
     (try simp only [y1, y2, y3, y4, y5, y6, y7, y8, y9, y0, List.length_map] at hc5)
     have hxe : x2 = id := by simpa using hc5
     refine aw_skip ?_
     refine then_normal ?_
     refine aw_seq ?_
     refine aw_region ?_
     refine zst (by first | exact op_fieldAddr_ptr Try.underlying51 rfl Sz4 (by rfl) (by rfl) | exact op_fieldAddr_elt Try.underlying51 rfl Sz4 (by rfl) (by rfl) (by rfl)) rfl (by dsimp only [zS, zN, zH, zT]) ?_
     refine zst (by first | exact op_load_elt Try.underlying4 (by rfl) (by rfl) (by rfl) | exact op_load_ptr Try.underlying4 (by rfl) (by rfl) (by repeat (first | assumption | exact push_at | exact setB_at push_at | (rw [setB_ne (by simp only [setB_nb, push_nb, ne_eq]; omega)]) | apply push_ne | apply setB_at)) (by rfl)) rfl (by dsimp only [zS, zN, zH, zT]) ?_
     refine zst (op_not (by rfl)) rfl (by dsimp only [zS, zN, zH, zT]) ?_
     refine al_end rfl ?_
     refine then_normal ?_
     refine aw_cond rfl (fun hc6 => ?_) (fun hc6 => ?_)
     ·
      (try simp only [y1, y2, y3, y4, y5, y6, y7, y8, y9, y0, List.length_map] at hc6)
      have hg : w.gone = false := by simpa using hc6
      refine aw_seq ?_
      refine aw_region ?_
      refine zst (op_move_tmp (by rfl)) rfl (by dsimp only [zS, zN, zH, zT]) ?_
      refine zst (op_indexAddr (z := S x1) (cs := [S x1]) Try.underlying52 Sz9 (LL.d _ _) (by rfl) (by omega) (by rw [hp]; rfl) (by rfl)) rfl (by dsimp only [zS, zN, zH, zT]) ?_
      refine zst (op_load_elt Try.underlying9 (by rfl) (by rfl) (by rfl)) rfl (by dsimp only [zS, zN, zH, zT]) ?_
      refine zst (op_assign_tmp (by rfl)) rfl (by dsimp only [zS, zN, zH, zT]) ?_
      refine al_end rfl ?_
      refine then_normal ?_
      refine aw_region ?_
      refine zst (by first | exact op_fieldAddr_ptr Try.underlying51 rfl Sz9 (by rfl) (by rfl) | exact op_fieldAddr_elt Try.underlying51 rfl Sz9 (by rfl) (by rfl) (by rfl)) rfl (by dsimp only [zS, zN, zH, zT]) ?_
      refine zst (by first | exact op_load_elt Try.underlying9 (by rfl) (by rfl) (by rfl) | exact op_load_ptr Try.underlying9 (by rfl) (by rfl) (by repeat (first | assumption | exact push_at | exact setB_at push_at | (rw [setB_ne (by simp only [setB_nb, push_nb, ne_eq]; omega)]) | apply push_ne | apply setB_at)) (by rfl)) rfl (by dsimp only [zS, zN, zH, zT]) ?_
      refine zst (op_assign_tmp (by rfl)) rfl (by dsimp only [zS, zN, zH, zT]) ?_
      refine al_end rfl ?_
      refine inBlock_normal (then_normal ?_)
      refine aw_region ?_
      refine zst (by first | exact op_add (by rfl) (by rfl) (wrap_i64 ⟨by omega, by omega⟩) | exact op_add (by rfl) (by rfl) (by rfl)) rfl (by dsimp only [zS, zN, zH, zT]) ?_
      refine zst (op_move_tmp (by rfl)) rfl (by dsimp only [zS, zN, zH, zT]) ?_
      refine al_end rfl ?_
      apply again_to (c.ws.length - (j + 1)) (false :: false :: true :: false :: false :: false :: false :: false :: true :: true :: false :: false :: false :: false :: false :: false :: false :: false :: true :: true :: true :: false :: false :: false :: false :: true :: true :: true :: false :: false :: false :: false :: false :: false :: false :: false :: false :: false :: false :: false :: false :: false :: false :: false :: false :: false :: false :: false :: false :: false :: false :: false :: false :: false :: false :: false :: false :: false :: false :: false :: false :: false :: false :: false :: [])
      · (try dsimp only [maskT]); try exact rfl
      · rfl
      · omega
      exact ⟨j + 1, (x1, w.val), rfl, by omega, rfl, by rw [take_snoc hw1, foldW_snoc, ← hst]; exact ((stepW_at hp).trans (by rw [if_pos hxe, if_neg (by rw [hg]; decide)])).symm, ((hx.push _ _).setB (nb_le hx))⟩
     ·
      (try simp only [y1, y2, y3, y4, y5, y6, y7, y8, y9, y0, List.length_map] at hc6)
      have hg : w.gone = true := by simpa using hc6
      refine aw_seq ?_
      refine aw_region ?_
      refine zst (op_move_tmp (by rfl)) rfl (by dsimp only [zS, zN, zH, zT]) ?_
      refine zst (op_move_tmp (by rfl)) rfl (by dsimp only [zS, zN, zH, zT]) ?_
      refine zst (op_indexAddr (z := S x1) (cs := [S x1]) Try.underlying52 Sz9 (LL.d _ _) (by rfl) (by omega) (by rw [hp]; rfl) (by rfl)) rfl (by dsimp only [zS, zN, zH, zT]) ?_
      refine zst (op_load_elt Try.underlying9 (by rfl) (by rfl) (by rfl)) rfl (by dsimp only [zS, zN, zH, zT]) ?_
      refine zst (op_eqS (by rfl) (by rfl)) rfl (by dsimp only [zS, zN, zH, zT]) ?_
      refine al_end rfl ?_
      refine then_normal ?_
      refine aw_cond rfl (fun hc7 => ?_) (fun hc7 => ?_)
      ·
       (try simp only [y1, y2, y3, y4, y5, y6, y7, y8, y9, y0, List.length_map] at hc7)
       have hq : st.1 = x1 := by simpa using hc7
       refine aw_seq ?_
       refine aw_region ?_
       refine zst (op_assign_const (by rfl)) rfl (by dsimp only [zS, zN, zH, zT]) ?_
       refine al_end rfl ?_
       refine then_normal ?_
       refine aw_region ?_
       refine zst (op_assign_const (by rfl)) rfl (by dsimp only [zS, zN, zH, zT]) ?_
       refine al_end rfl ?_
       refine inBlock_normal (then_normal ?_)
       refine aw_region ?_
       refine zst (by first | exact op_add (by rfl) (by rfl) (wrap_i64 ⟨by omega, by omega⟩) | exact op_add (by rfl) (by rfl) (by rfl)) rfl (by dsimp only [zS, zN, zH, zT]) ?_
       refine zst (op_move_tmp (by rfl)) rfl (by dsimp only [zS, zN, zH, zT]) ?_
       refine al_end rfl ?_
       apply again_to (c.ws.length - (j + 1)) (false :: false :: true :: false :: false :: false :: false :: false :: true :: true :: false :: false :: false :: false :: false :: false :: false :: false :: true :: true :: true :: false :: false :: false :: false :: true :: true :: true :: false :: false :: false :: false :: false :: false :: false :: false :: false :: false :: false :: false :: false :: false :: false :: false :: false :: false :: false :: false :: false :: false :: false :: false :: false :: false :: false :: false :: false :: false :: false :: false :: false :: false :: false :: false :: [])
       · (try dsimp only [maskT]); try exact rfl
       · rfl
       · omega
       exact ⟨j + 1, ([], []), rfl, by omega, rfl, by rw [take_snoc hw1, foldW_snoc, ← hst]; exact ((stepW_at hp).trans (by rw [if_pos hxe, if_pos hg, if_pos hq])).symm, ((hx.push _ _).setB (nb_le hx))⟩
      ·
       (try simp only [y1, y2, y3, y4, y5, y6, y7, y8, y9, y0, List.length_map] at hc7)
       have hq : ¬ st.1 = x1 := by simpa using hc7
       refine aw_skip ?_
       refine inBlock_normal (then_normal ?_)
       refine aw_region ?_
       refine zst (by first | exact op_add (by rfl) (by rfl) (wrap_i64 ⟨by omega, by omega⟩) | exact op_add (by rfl) (by rfl) (by rfl)) rfl (by dsimp only [zS, zN, zH, zT]) ?_
       refine zst (op_move_tmp (by rfl)) rfl (by dsimp only [zS, zN, zH, zT]) ?_
       refine al_end rfl ?_
       apply again_to (c.ws.length - (j + 1)) (false :: false :: true :: false :: false :: false :: false :: false :: true :: true :: false :: false :: false :: false :: false :: false :: false :: false :: true :: true :: true :: false :: false :: false :: false :: true :: true :: true :: false :: false :: false :: false :: false :: false :: false :: false :: false :: false :: false :: false :: false :: false :: false :: false :: false :: false :: false :: false :: false :: false :: false :: false :: false :: false :: false :: false :: false :: false :: false :: false :: false :: false :: false :: false :: [])
       · (try dsimp only [maskT]); try exact rfl
       · rfl
       · omega
       exact ⟨j + 1, _, rfl, by omega, rfl, by rw [take_snoc hw1, foldW_snoc, ← hst]; exact ((stepW_at hp).trans (by rw [if_pos hxe, if_pos hg, if_neg hq])).symm, ((hx.push _ _).setB (nb_le hx))⟩
  ·
   (try simp only [y1, y2, y3, y4, y5, y6, y7, y8, y9, y0, List.length_map] at hc2)
   (try simp only [List.length_map] at hc2)
   have hje : j = c.ws.length := by omega
   subst hje
   rw [List.take_length, ← whereT_succ hc1] at hst
   refine aw_exit ?_
   refine then_exit (again_exit (inBlock_here (inBlock_normal (then_normal ?_))))
   refine aw_region ?_
   refine zst (by first | exact op_add (by rfl) (by rfl) (wrap_i64 ⟨by omega, by omega⟩) | exact op_add (by rfl) (by rfl) (by rfl)) rfl (by dsimp only [zS, zN, zH, zT]) ?_
   refine zst (op_move_tmp (by rfl)) rfl (by dsimp only [zS, zN, zH, zT]) ?_
   refine al_end rfl ?_
   apply again_to (m - (k + 1)) (false :: false :: true :: false :: false :: false :: false :: false :: true :: true :: false :: false :: false :: false :: false :: false :: false :: false :: true :: true :: true :: false :: false :: false :: false :: false :: false :: false :: false :: false :: false :: false :: false :: false :: false :: false :: false :: false :: false :: false :: false :: false :: false :: false :: false :: false :: false :: false :: false :: false :: false :: false :: false :: false :: false :: false :: false :: false :: false :: false :: false :: false :: false :: false :: [])
   · (try dsimp only [maskT]); try exact rfl
   · rfl
   · omega
   exact ⟨k + 1, _, rfl, by omega, rfl, hst, hx⟩
 ·
  (try simp only [y1, y2, y3, y4, y5, y6, y7, y8, y9, y0, List.length_map] at hc1)
  (try simp only [List.length_map, List.length_take] at hc1)
  have hke : k = m := by omega
  subst hke
  refine aw_exit ?_
  refine then_exit (again_exit (inBlock_here (then_normal ?_)))
  refine aw_seq ?_
  refine aw_region ?_
  refine zst (op_move_tmp (by rfl)) rfl (by dsimp only [zS, zN, zH, zT]) ?_
  refine zst (op_move_tmp (by rfl)) rfl (by dsimp only [zS, zN, zH, zT]) ?_
  refine zst (op_assign_tmp (by rfl)) rfl (by dsimp only [zS, zN, zH, zT]) ?_
  refine zst (op_assign_tmp (by rfl)) rfl (by dsimp only [zS, zN, zH, zT]) ?_
  refine al_end rfl ?_
  refine then_normal ?_
  refine aw_ret ?_
  refine retPost2 rfl rfl rfl ?_
  exact ⟨by subst hst0; rfl, hx⟩
end Go.Proofs.Ytjbpfnoibeogbaa
