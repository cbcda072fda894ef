/- Part 4 of what the law needs: HistE, ValOrd, ValOrd2, ValOrd3, PatchPlain, PatchBnd, PatchLaw, FieldsLaw, HistSnd, HistS, ArgVal, ArgPut, HistJ, HistHd, HistD, HistCm. -/
import Derived.Test.YtjbpfnoibeogbaaPE3
import Derived.KernelRfl
import Derived.ChangeArms
namespace Go.Proofs.Ytjbpfnoibeogbaa
open Go.AV Go.AV.Ord Go.AV.Oct Go.AV.Hist
set_option linter.unusedVariables false
set_option linter.unusedSimpArgs false
theorem op_eqP {E : Operand → AV} {H : HS} {dst : Option Tmp} {ty t' : TypeId} {pos : String} {after : Array Edge} {gd : Option (Nat × Bool)} {x y : Operand} {a b : Pl} (hx : E x = .d (.agg (pC a))) (hy : E y = .d (.agg (pC b))) :
    OpR Try.prog ⟨dst, .binOp .eql 119 x y t', ty, pos, after, gd⟩ E H (Ret (.d (TF (decide (a = b)))) H) :=
  op_bin_agg (X := pV a) (Y := pV b) hx hy (fun w => run_eqGuard_agg w .eql 119 x y _ _ (by kernel_rfl)) fun w => by
    rw [run_eql_struct, show (10000 : Nat) = 9996 + 4 from rfl, run_eqP]; rfl
set_option maxHeartbeats 4000000 in
set_option maxRecDepth 100000 in
theorem events_ok (Hs : HS) (cs : List Cm) (hno : NoIt Hs) (hl : cs.length ≤ 1000) (hw : ∀ c ∈ cs, c.ws.length ≤ 1000000) (hk : ∀ c ∈ cs, ∀ w ∈ c.ws, w.key.length ≤ 1099511627776) : ACalls Try.prog 18 [.d (.lst 3 (cs.map cD))] Hs (fun av H' => ∃ ms, H' = Hs.addM ms ∧ NoIt H' ∧ ((eventsT [] [] cs = none ∧ av = .tup [.d (.lst 15 []), .d (I 14)]) ∨ ∃ es, eventsT [] [] cs = some es ∧ ms = .map [] :: msT [] cs ∧ av = .tup [.d (.lst 15 (es.map eD)), .d (I 0)])) := by
 refine ACalls.tidyA ?_
 suffices h : ACalls Try.prog 18 [.d (.lst 3 (cs.map cD))] Hs (fun av H' => ∃ ms v x, av = .tup [v, .d x] ∧ NoIt (Hs.addM ms) ∧ Ext (Hs.addM ms) H' ∧ ((eventsT [] [] cs = none ∧ Weak v (.d (.lst 15 [])) ∧ x = I 14) ∨ ∃ es, eventsT [] [] cs = some es ∧ ms = .map [] :: msT [] cs ∧ Weak v (.d (.lst 15 (es.map eD))) ∧ x = I 0)) from ?_
 · refine h.weak fun v H' ⟨ms, v', x, h1, h2, h3, h4⟩ => ?_
   subst h1
   rcases h4 with ⟨h5, h6, rfl⟩ | ⟨es, h5, h7, h6, rfl⟩
   · exact ⟨_, Weak.tup (.cons h6 (.cons (Weak.refl _) .nil)), ms, .tup _ (fun i hi => by match i, hi with | 0, _ => exact .d _ | 1, _ => exact .d _), h3, ms, rfl, h2, .inl ⟨h5, rfl⟩⟩
   · exact ⟨_, Weak.tup (.cons h6 (.cons (Weak.refl _) .nil)), ms, .tup _ (fun i hi => by match i, hi with | 0, _ => exact .d _ | 1, _ => exact .d _), h3, ms, rfl, h2, .inr ⟨es, h5, h7, rfl⟩⟩
 refine acalls_of_aw Try.func18 rfl ?_
 refine aw_start (T' := ((.d (.lst 3 (cs.map cD))) :: .un :: .un :: .un :: .un :: .un :: .un :: .un :: .un :: .un :: .un :: .un :: .un :: .un :: .un :: .un :: .un :: .un :: .un :: .un :: .un :: .un :: .un :: .un :: .un :: .un :: .un :: .un :: .un :: .un :: .un :: .un :: .un :: .un :: .un :: .un :: .un :: .un :: .un :: .un :: .un :: .un :: .un :: .un :: .un :: .un :: .un :: .un :: .un :: .un :: .un :: .un :: .un :: .un :: .un :: .un :: .un :: .un :: .un :: .un :: .un :: .un :: .un :: .un :: .un :: .un :: .un :: .un :: [])) rfl ?_
 refine aw_seq ?_
 refine aw_region ?_
 refine zst (op_assign_const (by rfl)) rfl (by dsimp only [zS, zN, zH, zT]) ?_
 refine zst (op_assign_const (by rfl)) rfl (by dsimp only [zS, zN, zH, zT]) ?_
 refine al_end rfl ?_
 refine then_normal ?_
 refine aw_seq ?_
 refine aw_region ?_
 refine zst (op_makeMap) rfl (by dsimp only [zS, zN, zH, zT]) ?_
 refine zst (op_assign_tmp (by rfl)) rfl (by dsimp only [zS, zN, zH, zT]) ?_
 refine al_end rfl ?_
 refine then_normal ?_
 refine aw_seq ?_
 refine aw_region ?_
 refine zst (op_assign_const (by rfl)) rfl (by dsimp only [zS, zN, zH, zT]) ?_
 refine al_end rfl ?_
 refine then_normal ?_
 refine aw_seq ?_
 refine aw_seq ?_
 refine aw_region ?_
 refine zst (op_move_tmp (by rfl)) rfl (by dsimp only [zS, zN, zH, zT]) ?_
 refine zst (op_lenL Try.underlying40 (by first | exact LL.d _ _ | exact LL.own _ _ _ | exact LL.nil _ | assumption)) rfl (by dsimp only [zS, zN, zH, zT]) ?_
 refine zst (op_move_const (by rfl)) rfl (by dsimp only [zS, zN, zH, zT]) ?_
 refine al_end rfl ?_
 refine then_normal ?_
 refine aw_block ?_
 apply aw_loopF (fun n T H => ∃ (k : Nat) (a : Nat) (ps : List (List UInt8 × Pl)) (es : List Ev) (ms : List MB) (w : AV) (t : Option Nat), T = (.un :: .un :: .un :: .un :: (.map a) :: w :: .un :: .un :: .un :: .un :: .un :: .un :: .un :: .un :: .un :: .un :: (.d (.lst 3 (cs.map cD))) :: (.d (I (cs.map cD).length)) :: (.d (I k)) :: .un :: .un :: .un :: .un :: .un :: .un :: .un :: .un :: .un :: .un :: .un :: .un :: .un :: .un :: .un :: .un :: .un :: .un :: .un :: .un :: .un :: .un :: .un :: .un :: .un :: .un :: .un :: .un :: .un :: .un :: .un :: .un :: .un :: .un :: .un :: .un :: .un :: .un :: .un :: .un :: .un :: .un :: .un :: .un :: .un :: .un :: .un :: .un :: .un :: []) ∧ k ≤ cs.length ∧ n = cs.length - k ∧ eventsT ps es (cs.drop k) = eventsT [] [] cs ∧ H.maps[a]? = some (.map (mE ps)) ∧ App w t 15 (es.map eD) ∧ H.ok t es.length ∧ NewTok Hs t ∧ Ext (Hs.addM ms) H ∧ NoIt H ∧ es.length ≤ k * 1000000 ∧ ms ++ msT ps (cs.drop k) = .map [] :: msT [] cs) (cs.length) (false :: false :: false :: false :: true :: true :: false :: false :: false :: false :: false :: false :: false :: false :: false :: false :: true :: true :: true :: false :: false :: false :: false :: false :: false :: false :: false :: false :: false :: false :: false :: false :: false :: false :: false :: false :: false :: false :: false :: false :: false :: false :: false :: false :: false :: false :: false :: false :: false :: false :: false :: false :: false :: false :: false :: false :: false :: false :: false :: false :: false :: false :: false :: false :: false :: false :: false :: false :: [])
 · (try dsimp only [maskT]); try exact rfl
 · rfl
 · exact ⟨0, _, [], [], _, _, none, rfl, by omega, rfl, rfl, pushM_new, App.nil _, HS.ok_none _ _, NewTok.none _, (Ext.pushAdd (ms := []) (by rw [addM_nil]; exact Ext.refl _)), hno.push _, by simp, rfl⟩
 rintro n T H ⟨k, a, ps, es, ms, w, t, rfl, hk0, rfl, hev, hma, hv, hok, hnt, hx, hni, hel, hms⟩
 refine aw_seq ?_
 refine aw_region ?_
 refine zst (op_ltI (by rfl) (by rfl)) rfl (by dsimp only [zS, zN, zH, zT]) ?_
 refine al_end rfl ?_
 refine then_normal ?_
 refine aw_seq ?_
 refine aw_cond rfl (fun hc1 => ?_) (fun hc1 => ?_)
 ·
  (try simp only [y1, y2, y3, y4, y5, y6, y7, y8, y9, y0, List.length_map] at hc1)
  (try simp only [List.length_map] at hc1)
  have hlt : k < cs.length := by omega
  obtain ⟨c, hc1⟩ : ∃ z0, cs[k]? = some z0 := ⟨_, List.getElem?_eq_getElem hlt⟩
  refine aw_skip ?_
  refine then_normal ?_
  refine aw_seq ?_
  refine aw_block ?_
  refine aw_seq ?_
  refine aw_region ?_
  refine zst (op_indexAddr (z := cD c) (cs := [I c.seq, I c.at_, .lst 3 (c.ws.map wD)]) Try.underlying40 Sz48 (LL.d _ _) (by rfl) (by omega) (by rw [List.getElem?_map, show ((k : Nat) : Int).toNat = k from rfl, hc1]; rfl) (by rfl)) rfl (by dsimp only [zS, zN, zH, zT]) ?_
  refine zst (op_load_elts (ds := cC c) Try.underlying48 (by rfl) Sz48 (by rfl) (Nat.le_of_ble_eq_true rfl) (by rfl)) rfl (by dsimp only [zS, zN, zH, zT]) ?_
  refine zst (op_alloc (Zr48) (by rfl)) rfl (by dsimp only [zS, zN, zH, zT]) ?_
  refine zst (op_storeB (vs := [.d (I c.seq), .d (I c.at_), .d (.lst 3 (c.ws.map wD))]) (b' := ⟨48, [.d (I c.seq), .d (I c.at_), .d (.lst 3 (c.ws.map wD))], false⟩) (H' := _) Sz48 (by rfl) push_at (by intro h; cases h) (by rfl) (by rfl) (Nat.le_of_ble_eq_true rfl) (by simp [AV.one, DV.one, TF, S, I, BY]) (by rfl) (by rfl) rfl) rfl (by dsimp only [zS, zN, zH, zT]) ?_
  refine al_end rfl ?_
  refine then_normal ?_
  refine aw_seq ?_
  refine aw_region ?_
  refine zst (op_move_tmp (by rfl)) rfl (by dsimp only [zS, zN, zH, zT]) ?_
  refine zst (op_load_ptrsD (cC c) Try.underlying48 (by rfl) Sz48 (by rfl) (by (try have l1 := lt_nb hpc); repeat (first | assumption | exact push_at | exact setB_at push_at | (rw [HS.up_blks]) | (rw [pushM_blks]) | (rw [setB_ne (by simp only [setB_nb, push_nb, pushM_nb, setM_nb, ne_eq]; omega)]) | apply push_ne | apply setB_at)) (Nat.le_of_ble_eq_true rfl) (by rfl) (cC_one _)) rfl (by dsimp only [zS, zN, zH, zT]) ?_
  refine al_cons _ (op_callF Try.func52 (by rfl) (by rfl) (.tmp (by rfl) (.tmp (by rfl) .nil)) (turn_ok _ a ps c hma (hni.of rfl) (hw c (List.mem_of_getElem? hc1)) (hk c (List.mem_of_getElem? hc1)))) rfl ?_
  rintro v3 H3 ⟨m, rfl, (⟨ht0, ⟨q0, rfl⟩, rfl⟩ | ⟨ps', ids0, ht0, rfl, rfl⟩)⟩
  ·
   apply al_normT
   · (try dsimp only [putT, List.set_cons_zero, List.set_cons_succ]); try exact rfl
   rw [drop_one hc1, eventsT_none ht0] at hev
   refine zst (op_move_tmp (by rfl)) rfl (by dsimp only [zS, zN, zH, zT]) ?_
   refine zst (op_extract (by rfl) (by rfl)) rfl (by dsimp only [zS, zN, zH, zT]) ?_
   refine zst (op_extract (by rfl) (by rfl)) rfl (by dsimp only [zS, zN, zH, zT]) ?_
   refine zst (op_extract (by rfl) (by rfl)) rfl (by dsimp only [zS, zN, zH, zT]) ?_
   refine zst (op_assign_tmp (by rfl)) rfl (by dsimp only [zS, zN, zH, zT]) ?_
   refine zst (op_assign_tmp (by rfl)) rfl (by dsimp only [zS, zN, zH, zT]) ?_
   refine zst (op_assign_tmp (by rfl)) rfl (by dsimp only [zS, zN, zH, zT]) ?_
   refine al_end rfl ?_
   refine then_normal ?_
   refine aw_seq ?_
   refine aw_seq ?_
   refine aw_region ?_
   refine zst (op_move_tmp (by rfl)) rfl (by dsimp only [zS, zN, zH, zT]) ?_
   refine zst (op_neI (by rfl) (by rfl)) rfl (by dsimp only [zS, zN, zH, zT]) ?_
   refine al_end rfl ?_
   refine then_normal ?_
   refine aw_cond rfl (fun _ => ?_) (fun h => by exact absurd h (by decide))
   refine aw_seq ?_
   refine aw_region ?_
   refine zst (op_move_tmp (by rfl)) rfl (by dsimp only [zS, zN, zH, zT]) ?_
   refine zst (op_assign_const (by rfl)) rfl (by dsimp only [zS, zN, zH, zT]) ?_
   refine zst (op_assign_tmp (by rfl)) rfl (by dsimp only [zS, zN, zH, zT]) ?_
   refine al_end rfl ?_
   refine then_normal ?_
   refine aw_ret ?_
   refine then_ret (inBlock_ret (then_ret (again_ret (inBlock_ret (then_ret ?_)))))
   refine retPost2 rfl rfl rfl ?_
   exact ⟨_, _, _, rfl, ((hni.of hx.maps.symm).push q0).of (by show Hs.maps ++ (ms ++ [_]) = (Hs.maps ++ ms) ++ [_]; rw [List.append_assoc]), Ext.pushAdd ((hx.push _ _).setB (nb_le hx)), .inl ⟨hev.symm, Weak.nil 15, rfl⟩⟩
  ·
   apply al_normT
   · (try dsimp only [putT, List.set_cons_zero, List.set_cons_succ]); try exact rfl
   rw [drop_one hc1, eventsT_some ht0] at hev
   rw [drop_one hc1, msT_some ht0] at hms
   have hid0 := turnT_len _ ht0
   have hid1 := compS_len (sortS ids0)
   rw [sortS_len] at hid1
   have hwl := hw c (List.mem_of_getElem? hc1)
   simp only [List.length_nil, Nat.zero_add] at hid0
   refine zst (op_move_tmp (by rfl)) rfl (by dsimp only [zS, zN, zH, zT]) ?_
   refine zst (op_extract (by rfl) (by rfl)) rfl (by dsimp only [zS, zN, zH, zT]) ?_
   refine zst (op_extract (by rfl) (by rfl)) rfl (by dsimp only [zS, zN, zH, zT]) ?_
   refine zst (op_extract (by rfl) (by rfl)) rfl (by dsimp only [zS, zN, zH, zT]) ?_
   refine zst (op_assign_tmp (by rfl)) rfl (by dsimp only [zS, zN, zH, zT]) ?_
   refine zst (op_assign_tmp (by rfl)) rfl (by dsimp only [zS, zN, zH, zT]) ?_
   refine zst (op_assign_tmp (by rfl)) rfl (by dsimp only [zS, zN, zH, zT]) ?_
   refine al_end rfl ?_
   refine then_normal ?_
   refine aw_seq ?_
   refine aw_seq ?_
   refine aw_region ?_
   refine zst (op_move_tmp (by rfl)) rfl (by dsimp only [zS, zN, zH, zT]) ?_
   refine zst (op_neI (by rfl) (by rfl)) rfl (by dsimp only [zS, zN, zH, zT]) ?_
   refine al_end rfl ?_
   refine then_normal ?_
   refine aw_cond rfl (fun h => by cases h) (fun _ => ?_)
   refine aw_skip ?_
   refine then_normal ?_
   refine aw_seq ?_
   refine aw_seq ?_
   refine aw_region ?_
   refine zst (op_move_tmp (by rfl)) rfl (by dsimp only [zS, zN, zH, zT]) ?_
   refine zst (op_lenL Try.underlying52 (by first | exact LL.d _ _ | exact LL.own _ _ _ | exact LL.nil _ | assumption)) rfl (by dsimp only [zS, zN, zH, zT]) ?_
   refine zst (op_move_const (by rfl)) rfl (by dsimp only [zS, zN, zH, zT]) ?_
   refine al_end rfl ?_
   refine then_normal ?_
   refine aw_block ?_
   apply aw_loopF (fun n T H => ∃ (i : Nat) (b : Nat) (pc : Nat) (w2 : AV) (t2 : Option Nat), T = (.un :: .un :: .un :: .un :: (.map a) :: w2 :: .un :: (.ptr pc 0) :: (.map b) :: .un :: .un :: .un :: .un :: .un :: .un :: .un :: (.d (.lst 3 (cs.map cD))) :: (.d (I (cs.map cD).length)) :: (.d (I k)) :: .un :: .un :: .un :: .un :: .un :: .un :: .un :: .un :: .un :: .un :: .un :: .un :: .un :: (.d (.lst 1 ((compS (sortS ids0)).map S))) :: (.d (I ((compS (sortS ids0)).map S).length)) :: (.d (I i)) :: .un :: .un :: .un :: .un :: .un :: .un :: .un :: .un :: .un :: .un :: .un :: .un :: .un :: .un :: .un :: .un :: .un :: .un :: .un :: .un :: .un :: .un :: .un :: .un :: .un :: .un :: .un :: .un :: .un :: .un :: .un :: .un :: .un :: []) ∧ i ≤ (compS (sortS ids0)).length ∧ n = (compS (sortS ids0)).length - i ∧ H.maps[a]? = some (.map (mE ps)) ∧ H.maps[b]? = some (.map (mE ps')) ∧ H.blks[pc]? = some ⟨48, [.d (I c.seq), .d (I c.at_), .d (.lst 3 (c.ws.map wD))], false⟩ ∧ App w2 t2 15 ((es ++ evs c ps ps' ((compS (sortS ids0)).take i)).map eD) ∧ H.ok t2 (es ++ evs c ps ps' ((compS (sortS ids0)).take i)).length ∧ NewTok Hs t2 ∧ Ext (Hs.addM (ms ++ [.map (mE ps')])) H ∧ NoIt H) ((compS (sortS ids0)).length) (false :: false :: false :: false :: true :: true :: false :: true :: true :: false :: false :: false :: false :: false :: false :: false :: true :: true :: true :: false :: false :: false :: false :: false :: false :: false :: false :: false :: false :: false :: false :: false :: true :: true :: true :: false :: false :: false :: false :: false :: false :: false :: false :: false :: false :: false :: false :: false :: false :: false :: false :: false :: false :: false :: false :: false :: false :: false :: false :: false :: false :: false :: false :: false :: false :: false :: false :: false :: [])
   · (try dsimp only [maskT]); try exact rfl
   · rfl
   · exact ⟨0, _, _, _, t, rfl, by omega, rfl, pushM_old hma, pushM_new, (by (try have l1 := lt_nb hpc); repeat (first | assumption | exact push_at | exact setB_at push_at | (rw [HS.up_blks]) | (rw [pushM_blks]) | (rw [setB_ne (by simp only [setB_nb, push_nb, pushM_nb, setM_nb, ne_eq]; omega)]) | apply push_ne | apply setB_at)), (by rw [List.take_zero, evs_nil, List.append_nil]; exact hv), (by rw [List.take_zero, evs_nil, List.append_nil]; exact hok), hnt, Ext.pushAdd ((hx.push _ _).setB (nb_le hx)), (hni.of rfl).push _⟩
   rintro n T H ⟨i, b, pc, w2, t2, rfl, hi0, rfl, hma, hmb, hpc, hv2, hok2, hnt2, hx2, hni2⟩
   refine aw_seq ?_
   refine aw_region ?_
   refine zst (op_ltI (by rfl) (by rfl)) rfl (by dsimp only [zS, zN, zH, zT]) ?_
   refine al_end rfl ?_
   refine then_normal ?_
   refine aw_seq ?_
   refine aw_cond rfl (fun hc4 => ?_) (fun hc4 => ?_)
   ·
    (try simp only [y1, y2, y3, y4, y5, y6, y7, y8, y9, y0, List.length_map] at hc4)
    (try simp only [List.length_map] at hc4)
    have hlt2 : i < (compS (sortS ids0)).length := by omega
    obtain ⟨id, hi1⟩ : ∃ z0, (compS (sortS ids0))[i]? = some z0 := ⟨_, List.getElem?_eq_getElem hlt2⟩
    have hlv := evs_len c ps ps' ((compS (sortS ids0)).take i)
    rw [List.length_take] at hlv
    obtain ⟨p1, hp1⟩ : ∃ p, atK ps id = p := ⟨_, rfl⟩
    obtain ⟨p2, hp2⟩ : ∃ p, atK ps' id = p := ⟨_, rfl⟩
    refine aw_skip ?_
    refine then_normal ?_
    refine aw_seq ?_
    refine aw_block ?_
    refine aw_seq ?_
    refine aw_region ?_
    refine zst (op_indexAddr (z := S id) (cs := [S id]) Try.underlying52 Sz9 (LL.d _ _) (by rfl) (by omega) (by rw [List.getElem?_map, show ((i : Nat) : Int).toNat = i from rfl, hi1]; rfl) (by rfl)) rfl (by dsimp only [zS, zN, zH, zT]) ?_
    refine zst (op_load_elt Try.underlying9 (by rfl) (by rfl) (by rfl)) rfl (by dsimp only [zS, zN, zH, zT]) ?_
    refine zst (op_assign_tmp (by rfl)) rfl (by dsimp only [zS, zN, zH, zT]) ?_
    refine al_end rfl ?_
    refine then_normal ?_
    apply aw_cutF (fun T H => ∃ (x : Nat) (y : Nat), T = (.un :: .un :: .un :: .un :: (.map a) :: w2 :: .un :: (.ptr pc 0) :: (.map b) :: .un :: .un :: .un :: (.d (S id)) :: (.ptr x 0) :: (.ptr y 0) :: .un :: (.d (.lst 3 (cs.map cD))) :: (.d (I (cs.map cD).length)) :: (.d (I k)) :: .un :: .un :: .un :: .un :: .un :: .un :: .un :: .un :: .un :: .un :: .un :: .un :: .un :: (.d (.lst 1 ((compS (sortS ids0)).map S))) :: (.d (I ((compS (sortS ids0)).map S).length)) :: (.d (I i)) :: .un :: .un :: .un :: .un :: .un :: .un :: .un :: .un :: .un :: .un :: .un :: .un :: .un :: .un :: .un :: .un :: .un :: .un :: .un :: .un :: .un :: .un :: .un :: .un :: .un :: .un :: .un :: .un :: .un :: .un :: .un :: .un :: .un :: []) ∧ H.maps[a]? = some (.map (mE ps)) ∧ H.maps[b]? = some (.map (mE ps')) ∧ H.blks[pc]? = some ⟨48, [.d (I c.seq), .d (I c.at_), .d (.lst 3 (c.ws.map wD))], false⟩ ∧ H.blks[x]? = some ⟨119, [.d (S p1.q), .d (S p1.m.id), .d (S p1.m.body), .d (I p1.m.ready), .d (I p1.m.count), .d (S p1.m.token)], false⟩ ∧ H.blks[y]? = some ⟨119, [.d (S p2.q), .d (S p2.m.id), .d (S p2.m.body), .d (I p2.m.ready), .d (I p2.m.count), .d (S p2.m.token)], false⟩ ∧ H.ok t2 (es ++ evs c ps ps' ((compS (sortS ids0)).take i)).length ∧ Ext (Hs.addM (ms ++ [.map (mE ps')])) H ∧ NoIt H)
    ·
     refine aw_drawTwo (fun K => K.maps[a]? = some (.map (mE ps)) ∧ K.maps[b]? = some (.map (mE ps'))) 6 7 [0, 0, 0, 0, 0, 0, 2, 2, 2, 2] [0, 0, 0, 0, 0, 0, 2, 2, 2, 2] (by decide) (by decide) (by decide) (by rfl) mixed (by kernel_rfl) (by kernel_rfl) (⟨hma, hmb⟩) (.inr (by kernel_rfl)) (.inr (by kernel_rfl)) ?_ ?_
     ·
      apply drun0X
      · intro H hPhi; exact op_move_tmp (by rfl)
      · rfl
      apply drun_normT
      · (try dsimp only [zS, zN, zH, zT]); try exact rfl
      apply drun0X
      · intro H hPhi; exact op_move_tmp (by rfl)
      · rfl
      apply drun_normT
      · (try dsimp only [zS, zN, zH, zT]); try exact rfl
      apply drun0X
      · intro H hPhi; exact op_lookup_at hp1 Try.underlying115 Try.underlying9 Zr119 repP0 (by rfl) (by rfl) hPhi.1
      · rfl
      apply drun_normT
      · (try dsimp only [zS, zN, zH, zT]); try exact rfl
      apply drun0X
      · intro H hPhi; exact op_move_tmp (by rfl)
      · rfl
      apply drun_normT
      · (try dsimp only [zS, zN, zH, zT]); try exact rfl
      apply drun0X
      · intro H hPhi; exact op_move_tmp (by rfl)
      · rfl
      apply drun_normT
      · (try dsimp only [zS, zN, zH, zT]); try exact rfl
      apply drun0X
      · intro H hPhi; exact op_lookup_at hp2 Try.underlying115 Try.underlying9 Zr119 repP0 (by rfl) (by rfl) hPhi.2
      · rfl
      apply drun_normT
      · (try dsimp only [zS, zN, zH, zT]); try exact rfl
      apply drun2X
      · exact op_alloc (Zr119) (by rfl)
      · rfl
      · refine .inr ?_; exact ⟨hma, hmb⟩
      apply drun_normT
      · (try dsimp only [zS, zN, zH, zT]); try exact rfl
      apply drun2X
      · exact op_alloc (Zr119) (by rfl)
      · rfl
      · refine .inr ?_; exact ⟨hma, hmb⟩
      apply drun_normT
      · (try dsimp only [zS, zN, zH, zT]); try exact rfl
      apply drun2X
      · exact op_storeB (vs := [.d (S p1.q), .d (S p1.m.id), .d (S p1.m.body), .d (I p1.m.ready), .d (I p1.m.count), .d (S p1.m.token)]) (b' := ⟨119, [.d (S p1.q), .d (S p1.m.id), .d (S p1.m.body), .d (I p1.m.ready), .d (I p1.m.count), .d (S p1.m.token)], false⟩) (H' := _) Sz119 (by rfl) (by (try have l1 := lt_nb hpc); repeat (first | assumption | exact push_at | exact setB_at push_at | (rw [HS.up_blks]) | (rw [pushM_blks]) | (rw [setB_ne (by simp only [setB_nb, push_nb, pushM_nb, setM_nb, ne_eq]; omega)]) | apply push_ne | apply setB_at)) (by intro h; cases h) (by rfl) (by rfl) (Nat.le_of_ble_eq_true rfl) (by simp [AV.one, DV.one, TF, S, I, BY]) (by rfl) (by rfl) rfl
      · rfl
      · refine .inr ?_; exact ⟨hma, hmb⟩
      apply drun_normT
      · (try dsimp only [zS, zN, zH, zT]); try exact rfl
      apply drun2X
      · exact op_storeB (vs := [.d (S p2.q), .d (S p2.m.id), .d (S p2.m.body), .d (I p2.m.ready), .d (I p2.m.count), .d (S p2.m.token)]) (b' := ⟨119, [.d (S p2.q), .d (S p2.m.id), .d (S p2.m.body), .d (I p2.m.ready), .d (I p2.m.count), .d (S p2.m.token)], false⟩) (H' := _) Sz119 (by rfl) (by (try have l1 := lt_nb hpc); repeat (first | assumption | exact push_at | exact setB_at push_at | (rw [HS.up_blks]) | (rw [pushM_blks]) | (rw [setB_ne (by simp only [setB_nb, push_nb, pushM_nb, setM_nb, ne_eq]; omega)]) | apply push_ne | apply setB_at)) (by intro h; cases h) (by rfl) (by rfl) (Nat.le_of_ble_eq_true rfl) (by simp [AV.one, DV.one, TF, S, I, BY]) (by rfl) (by rfl) rfl
      · rfl
      · exact .inl rfl
      apply drun_normT
      · (try dsimp only [zS, zN, zH, zT]); try exact rfl
      refine drun_end rfl ?_
      apply cut_to (false :: false :: false :: false :: true :: true :: false :: true :: true :: false :: false :: false :: true :: true :: true :: false :: true :: true :: true :: false :: false :: false :: false :: false :: false :: false :: false :: false :: false :: false :: false :: false :: true :: true :: true :: false :: false :: false :: false :: false :: false :: false :: false :: false :: false :: false :: false :: false :: false :: false :: false :: false :: false :: false :: false :: false :: false :: false :: false :: false :: false :: false :: false :: false :: false :: false :: false :: false :: [])
      · (try dsimp only [maskT]); try exact rfl
      · rfl
      exact ⟨_, _, rfl, hma, hmb, (by (try have l1 := lt_nb hpc); repeat (first | assumption | exact push_at | exact setB_at push_at | (rw [HS.up_blks]) | (rw [pushM_blks]) | (rw [setB_ne (by simp only [setB_nb, push_nb, pushM_nb, setM_nb, ne_eq]; omega)]) | apply push_ne | apply setB_at)), (by (try have l1 := lt_nb hpc); repeat (first | assumption | exact push_at | exact setB_at push_at | (rw [HS.up_blks]) | (rw [pushM_blks]) | (rw [setB_ne (by simp only [setB_nb, push_nb, pushM_nb, setM_nb, ne_eq]; omega)]) | apply push_ne | apply setB_at)), (by (try have l1 := lt_nb hpc); repeat (first | assumption | exact push_at | exact setB_at push_at | (rw [HS.up_blks]) | (rw [pushM_blks]) | (rw [setB_ne (by simp only [setB_nb, push_nb, pushM_nb, setM_nb, ne_eq]; omega)]) | apply push_ne | apply setB_at)), hok2, (by repeat (first | assumption | apply Ext.push | (refine Ext.setB ?_ (by have := nb_le hx2; (try simp only [setB_nb, push_nb]); omega)))), hni2.of rfl⟩
     ·
      change DRunX _ _ _ [_, _, _, _, _, _, _, _, _, _] _ _ _ _
      apply drun0X
      · intro H hPhi; exact op_move_tmp (by rfl)
      · rfl
      apply drun_normT
      · (try dsimp only [zS, zN, zH, zT]); try exact rfl
      apply drun0X
      · intro H hPhi; exact op_move_tmp (by rfl)
      · rfl
      apply drun_normT
      · (try dsimp only [zS, zN, zH, zT]); try exact rfl
      apply drun0X
      · intro H hPhi; exact op_lookup_at hp1 Try.underlying115 Try.underlying9 Zr119 repP0 (by rfl) (by rfl) hPhi.1
      · rfl
      apply drun_normT
      · (try dsimp only [zS, zN, zH, zT]); try exact rfl
      apply drun0X
      · intro H hPhi; exact op_move_tmp (by rfl)
      · rfl
      apply drun_normT
      · (try dsimp only [zS, zN, zH, zT]); try exact rfl
      apply drun0X
      · intro H hPhi; exact op_move_tmp (by rfl)
      · rfl
      apply drun_normT
      · (try dsimp only [zS, zN, zH, zT]); try exact rfl
      apply drun0X
      · intro H hPhi; exact op_lookup_at hp2 Try.underlying115 Try.underlying9 Zr119 repP0 (by rfl) (by rfl) hPhi.2
      · rfl
      apply drun_normT
      · (try dsimp only [zS, zN, zH, zT]); try exact rfl
      apply drun2X
      · exact op_alloc (Zr119) (by rfl)
      · rfl
      · refine .inr ?_; exact ⟨hma, hmb⟩
      apply drun_normT
      · (try dsimp only [zS, zN, zH, zT]); try exact rfl
      apply drun2X
      · exact op_alloc (Zr119) (by rfl)
      · rfl
      · refine .inr ?_; exact ⟨hma, hmb⟩
      apply drun_normT
      · (try dsimp only [zS, zN, zH, zT]); try exact rfl
      apply drun2X
      · exact op_storeB (vs := [.d (S p1.q), .d (S p1.m.id), .d (S p1.m.body), .d (I p1.m.ready), .d (I p1.m.count), .d (S p1.m.token)]) (b' := ⟨119, [.d (S p1.q), .d (S p1.m.id), .d (S p1.m.body), .d (I p1.m.ready), .d (I p1.m.count), .d (S p1.m.token)], false⟩) (H' := _) Sz119 (by rfl) (by (try have l1 := lt_nb hpc); repeat (first | assumption | exact push_at | exact setB_at push_at | (rw [HS.up_blks]) | (rw [pushM_blks]) | (rw [setB_ne (by simp only [setB_nb, push_nb, pushM_nb, setM_nb, ne_eq]; omega)]) | apply push_ne | apply setB_at)) (by intro h; cases h) (by rfl) (by rfl) (Nat.le_of_ble_eq_true rfl) (by simp [AV.one, DV.one, TF, S, I, BY]) (by rfl) (by rfl) rfl
      · rfl
      · refine .inr ?_; exact ⟨hma, hmb⟩
      apply drun_normT
      · (try dsimp only [zS, zN, zH, zT]); try exact rfl
      apply drun2X
      · exact op_storeB (vs := [.d (S p2.q), .d (S p2.m.id), .d (S p2.m.body), .d (I p2.m.ready), .d (I p2.m.count), .d (S p2.m.token)]) (b' := ⟨119, [.d (S p2.q), .d (S p2.m.id), .d (S p2.m.body), .d (I p2.m.ready), .d (I p2.m.count), .d (S p2.m.token)], false⟩) (H' := _) Sz119 (by rfl) (by (try have l1 := lt_nb hpc); repeat (first | assumption | exact push_at | exact setB_at push_at | (rw [HS.up_blks]) | (rw [pushM_blks]) | (rw [setB_ne (by simp only [setB_nb, push_nb, pushM_nb, setM_nb, ne_eq]; omega)]) | apply push_ne | apply setB_at)) (by intro h; cases h) (by rfl) (by rfl) (Nat.le_of_ble_eq_true rfl) (by simp [AV.one, DV.one, TF, S, I, BY]) (by rfl) (by rfl) rfl
      · rfl
      · exact .inl rfl
      apply drun_normT
      · (try dsimp only [zS, zN, zH, zT]); try exact rfl
      refine drun_end rfl ?_
      apply cut_to (false :: false :: false :: false :: true :: true :: false :: true :: true :: false :: false :: false :: true :: true :: true :: false :: true :: true :: true :: false :: false :: false :: false :: false :: false :: false :: false :: false :: false :: false :: false :: false :: true :: true :: true :: false :: false :: false :: false :: false :: false :: false :: false :: false :: false :: false :: false :: false :: false :: false :: false :: false :: false :: false :: false :: false :: false :: false :: false :: false :: false :: false :: false :: false :: false :: false :: false :: false :: [])
      · (try dsimp only [maskT]); try exact rfl
      · rfl
      exact ⟨_, _, rfl, hma, hmb, (by (try have l1 := lt_nb hpc); repeat (first | assumption | exact push_at | exact setB_at push_at | (rw [HS.up_blks]) | (rw [pushM_blks]) | (rw [setB_ne (by simp only [setB_nb, push_nb, pushM_nb, setM_nb, ne_eq]; omega)]) | apply push_ne | apply setB_at)), (by (try have l1 := lt_nb hpc); repeat (first | assumption | exact push_at | exact setB_at push_at | (rw [HS.up_blks]) | (rw [pushM_blks]) | (rw [setB_ne (by simp only [setB_nb, push_nb, pushM_nb, setM_nb, ne_eq]; omega)]) | apply push_ne | apply setB_at)), (by (try have l1 := lt_nb hpc); repeat (first | assumption | exact push_at | exact setB_at push_at | (rw [HS.up_blks]) | (rw [pushM_blks]) | (rw [setB_ne (by simp only [setB_nb, push_nb, pushM_nb, setM_nb, ne_eq]; omega)]) | apply push_ne | apply setB_at)), hok2, (by repeat (first | assumption | apply Ext.push | (refine Ext.setB ?_ (by have := nb_le hx2; (try simp only [setB_nb, push_nb]); omega)))), hni2.of rfl⟩
    rintro T H ⟨x, y, rfl, hma, hmb, hpc, hb13, hb14, hok2, hx2, hni2⟩
    refine aw_seq ?_
    refine aw_seq ?_
    refine aw_region ?_
    refine zst (op_load_ptrsD (pC p1) Try.underlying119 (by rfl) Sz119 (by rfl) (by (try have l1 := lt_nb hpc); repeat (first | assumption | exact push_at | exact setB_at push_at | (rw [HS.up_blks]) | (rw [pushM_blks]) | (rw [setB_ne (by simp only [setB_nb, push_nb, pushM_nb, setM_nb, ne_eq]; omega)]) | apply push_ne | apply setB_at)) (Nat.le_of_ble_eq_true rfl) (by rfl) (pC_one _)) rfl (by dsimp only [zS, zN, zH, zT]) ?_
    refine zst (op_load_ptrsD (pC p2) Try.underlying119 (by rfl) Sz119 (by rfl) (by (try have l1 := lt_nb hpc); repeat (first | assumption | exact push_at | exact setB_at push_at | (rw [HS.up_blks]) | (rw [pushM_blks]) | (rw [setB_ne (by simp only [setB_nb, push_nb, pushM_nb, setM_nb, ne_eq]; omega)]) | apply push_ne | apply setB_at)) (Nat.le_of_ble_eq_true rfl) (by rfl) (pC_one _)) rfl (by dsimp only [zS, zN, zH, zT]) ?_
    refine zst (op_eqP (by rfl) (by rfl)) rfl (by dsimp only [zS, zN, zH, zT]) ?_
    refine al_end rfl ?_
    refine then_normal ?_
    refine aw_cond rfl (fun hc5 => ?_) (fun hc5 => ?_)
    ·
     (try simp only [y1, y2, y3, y4, y5, y6, y7, y8, y9, y0, List.length_map] at hc5)
     have heq : atK ps id = atK ps' id := by rw [hp1, hp2]; simpa using hc5
     refine aw_exit ?_
     refine then_exit (inBlock_here (then_normal ?_))
     refine aw_region ?_
     refine zst (by first | exact op_add (by rfl) (by rfl) (wrap_i64 ⟨by omega, by omega⟩) | exact op_add (by rfl) (by rfl) (by rfl)) rfl (by dsimp only [zS, zN, zH, zT]) ?_
     refine zst (op_move_tmp (by rfl)) rfl (by dsimp only [zS, zN, zH, zT]) ?_
     refine al_end rfl ?_
     apply again_to ((compS (sortS ids0)).length - (i + 1)) (false :: false :: false :: false :: true :: true :: false :: true :: true :: false :: false :: false :: false :: false :: false :: false :: true :: true :: true :: false :: false :: false :: false :: false :: false :: false :: false :: false :: false :: false :: false :: false :: true :: true :: true :: false :: false :: false :: false :: false :: false :: false :: false :: false :: false :: false :: false :: false :: false :: false :: false :: false :: false :: false :: false :: false :: false :: false :: false :: false :: false :: false :: false :: false :: false :: false :: false :: false :: [])
     · (try dsimp only [maskT]); try exact rfl
     · rfl
     · omega
     exact ⟨i + 1, _, _, _, _, rfl, by omega, rfl, hma, hmb, (by have l1 := lt_nb hpc; repeat (first | assumption | exact push_at | exact setB_at push_at | (rw [HS.up_blks]) | (rw [setB_ne (by simp only [setB_nb, push_nb, pushM_nb, setM_nb, ne_eq]; omega)]) | apply push_ne | apply setB_at)), by rw [take_snoc hi1, evs_same heq]; exact hv2, by rw [take_snoc hi1, evs_same heq]; exact hok2, hnt2, (by repeat (first | assumption | apply Ext.push | (refine Ext.setB ?_ (by have := nb_le hx2; (try simp only [setB_nb, push_nb]); omega)))), hni2.of rfl⟩
    ·
     (try simp only [y1, y2, y3, y4, y5, y6, y7, y8, y9, y0, List.length_map] at hc5)
     have hne : ¬ atK ps id = atK ps' id := by rw [hp1, hp2]; simpa using hc5
     have hevo : evOf c ps ps' id = ⟨c.seq, c.at_, id, p1.q, p2.q, p1.m, p2.m⟩ := by simp only [evOf, hp1, hp2]
     refine aw_skip ?_
     refine then_normal ?_
     refine aw_region ?_
     refine zst (op_move_tmp (by rfl)) rfl (by dsimp only [zS, zN, zH, zT]) ?_
     refine zst (by first | exact op_fieldAddr_ptr Try.underlying48 rfl Sz3 (by rfl) (by rfl) | exact op_fieldAddr_elt Try.underlying48 rfl Sz3 (by rfl) (by rfl) (by rfl)) rfl (by dsimp only [zS, zN, zH, zT]) ?_
     refine zst (op_load_ptr Try.underlying3 (by rfl) (by rfl) (by (try have l1 := lt_nb hpc); repeat (first | assumption | exact push_at | exact setB_at push_at | (rw [HS.up_blks]) | (rw [pushM_blks]) | (rw [setB_ne (by simp only [setB_nb, push_nb, pushM_nb, setM_nb, ne_eq]; omega)]) | apply push_ne | apply setB_at)) (by rfl)) rfl (by dsimp only [zS, zN, zH, zT]) ?_
     refine zst (by first | exact op_fieldAddr_ptr Try.underlying48 rfl Sz3 (by rfl) (by rfl) | exact op_fieldAddr_elt Try.underlying48 rfl Sz3 (by rfl) (by rfl) (by rfl)) rfl (by dsimp only [zS, zN, zH, zT]) ?_
     refine zst (op_load_ptr Try.underlying3 (by rfl) (by rfl) (by (try have l1 := lt_nb hpc); repeat (first | assumption | exact push_at | exact setB_at push_at | (rw [HS.up_blks]) | (rw [pushM_blks]) | (rw [setB_ne (by simp only [setB_nb, push_nb, pushM_nb, setM_nb, ne_eq]; omega)]) | apply push_ne | apply setB_at)) (by rfl)) rfl (by dsimp only [zS, zN, zH, zT]) ?_
     refine zst (op_move_tmp (by rfl)) rfl (by dsimp only [zS, zN, zH, zT]) ?_
     refine zst (by first | exact op_fieldAddr_ptr Try.underlying119 rfl Sz9 (by rfl) (by rfl) | exact op_fieldAddr_elt Try.underlying119 rfl Sz9 (by rfl) (by rfl) (by rfl)) rfl (by dsimp only [zS, zN, zH, zT]) ?_
     refine zst (op_load_ptr Try.underlying9 (by rfl) (by rfl) (by (try have l1 := lt_nb hpc); repeat (first | assumption | exact push_at | exact setB_at push_at | (rw [HS.up_blks]) | (rw [pushM_blks]) | (rw [setB_ne (by simp only [setB_nb, push_nb, pushM_nb, setM_nb, ne_eq]; omega)]) | apply push_ne | apply setB_at)) (by rfl)) rfl (by dsimp only [zS, zN, zH, zT]) ?_
     refine zst (by first | exact op_fieldAddr_ptr Try.underlying119 rfl Sz9 (by rfl) (by rfl) | exact op_fieldAddr_elt Try.underlying119 rfl Sz9 (by rfl) (by rfl) (by rfl)) rfl (by dsimp only [zS, zN, zH, zT]) ?_
     refine zst (op_load_ptr Try.underlying9 (by rfl) (by rfl) (by (try have l1 := lt_nb hpc); repeat (first | assumption | exact push_at | exact setB_at push_at | (rw [HS.up_blks]) | (rw [pushM_blks]) | (rw [setB_ne (by simp only [setB_nb, push_nb, pushM_nb, setM_nb, ne_eq]; omega)]) | apply push_ne | apply setB_at)) (by rfl)) rfl (by dsimp only [zS, zN, zH, zT]) ?_
     refine zst (by first | exact op_fieldAddr_ptr Try.underlying119 rfl Sz58 (by rfl) (by rfl) | exact op_fieldAddr_elt Try.underlying119 rfl Sz58 (by rfl) (by rfl) (by rfl)) rfl (by dsimp only [zS, zN, zH, zT]) ?_
     refine zst (op_load_ptrsD (mC p1.m) Try.underlying58 (by rfl) Sz58 (by rfl) (by (try have l1 := lt_nb hpc); repeat (first | assumption | exact push_at | exact setB_at push_at | (rw [HS.up_blks]) | (rw [pushM_blks]) | (rw [setB_ne (by simp only [setB_nb, push_nb, pushM_nb, setM_nb, ne_eq]; omega)]) | apply push_ne | apply setB_at)) (Nat.le_of_ble_eq_true rfl) (by rfl) (mC_one _)) rfl (by dsimp only [zS, zN, zH, zT]) ?_
     refine zst (by first | exact op_fieldAddr_ptr Try.underlying119 rfl Sz58 (by rfl) (by rfl) | exact op_fieldAddr_elt Try.underlying119 rfl Sz58 (by rfl) (by rfl) (by rfl)) rfl (by dsimp only [zS, zN, zH, zT]) ?_
     refine zst (op_load_ptrsD (mC p2.m) Try.underlying58 (by rfl) Sz58 (by rfl) (by (try have l1 := lt_nb hpc); repeat (first | assumption | exact push_at | exact setB_at push_at | (rw [HS.up_blks]) | (rw [pushM_blks]) | (rw [setB_ne (by simp only [setB_nb, push_nb, pushM_nb, setM_nb, ne_eq]; omega)]) | apply push_ne | apply setB_at)) (Nat.le_of_ble_eq_true rfl) (by rfl) (mC_one _)) rfl (by dsimp only [zS, zN, zH, zT]) ?_
     refine zst (op_buildEv ⟨c.seq, c.at_, id, p1.q, p2.q, p1.m, p2.m⟩ Try.underlying60 Zr60 (by kernel_rfl) (by rfl) (by rfl) (by rfl) (by rfl)) rfl (by dsimp only [zS, zN, zH, zT]) ?_
     refine zst (op_lit Try.underlying42 ZS60 (.cons (y := eD ⟨c.seq, c.at_, id, p1.q, p2.q, p1.m, p2.m⟩) (by rfl) (.nil _)) (by rfl) (lit_e _) (lit_e1 _) (by decide)) rfl (by dsimp only [zS, zN, zH, zT]) ?_
     refine zst (op_append Try.underlying42 Inf60 (by rfl) hv2 (.list _ _ _ _ Try.underlying42 (LL.own _ _ _)) (by rw [List.length_map]; exact hok2) (by simp) (by simp; omega) (by simp; omega)) rfl (by dsimp only [zS, zN, zH, zT]) ?_
     refine zst (op_assign_tmp (by rfl)) rfl (by dsimp only [zS, zN, zH, zT]) ?_
     refine al_end rfl ?_
     refine inBlock_normal (then_normal ?_)
     refine aw_region ?_
     refine zst (by first | exact op_add (by rfl) (by rfl) (wrap_i64 ⟨by omega, by omega⟩) | exact op_add (by rfl) (by rfl) (by rfl)) rfl (by dsimp only [zS, zN, zH, zT]) ?_
     refine zst (op_move_tmp (by rfl)) rfl (by dsimp only [zS, zN, zH, zT]) ?_
     refine al_end rfl ?_
     apply again_to ((compS (sortS ids0)).length - (i + 1)) (false :: false :: false :: false :: true :: true :: false :: true :: true :: false :: false :: false :: false :: false :: false :: false :: true :: true :: true :: false :: false :: false :: false :: false :: false :: false :: false :: false :: false :: false :: false :: false :: true :: true :: true :: false :: false :: false :: false :: false :: false :: false :: false :: false :: false :: false :: false :: false :: false :: false :: false :: false :: false :: false :: false :: false :: false :: false :: false :: false :: false :: false :: false :: false :: false :: false :: false :: false :: [])
     · (try dsimp only [maskT]); try exact rfl
     · rfl
     · omega
     exact ⟨i + 1, _, _, _, _, rfl, by omega, rfl, by rw [HS.up_maps]; exact hma, by rw [HS.up_maps]; exact hmb, (by have l1 := lt_nb hpc; repeat (first | assumption | exact push_at | exact setB_at push_at | (rw [HS.up_blks]) | (rw [setB_ne (by simp only [setB_nb, push_nb, pushM_nb, setM_nb, ne_eq]; omega)]) | apply push_ne | apply setB_at)), app_more (by rw [take_snoc hi1, evs_more hne, hevo, List.append_assoc]), by rw [take_snoc hi1, evs_more hne]; exact HS.ok_up' hok2 (by simp only [List.length_append, List.length_map, List.length_cons, List.length_nil]; omega), (Ext.upM (n := 0) (by repeat (first | assumption | apply Ext.push | (refine Ext.setB ?_ (by have := nb_le hx2; (try simp only [setB_nb, push_nb]); omega)))) hnt2 hok2).2, (Ext.upM (by repeat (first | assumption | apply Ext.push | (refine Ext.setB ?_ (by have := nb_le hx2; (try simp only [setB_nb, push_nb]); omega)))) hnt2 hok2).1, hni2.of (HS.up_maps _ _ _)⟩
   ·
    (try simp only [y1, y2, y3, y4, y5, y6, y7, y8, y9, y0, List.length_map] at hc4)
    (try simp only [List.length_map] at hc4)
    have hie : i = (compS (sortS ids0)).length := by omega
    subst hie
    rw [List.take_length] at hv2 hok2
    refine aw_exit ?_
    refine then_exit (again_exit (inBlock_here (then_normal ?_)))
    refine aw_region ?_
    refine zst (op_move_tmp (by rfl)) rfl (by dsimp only [zS, zN, zH, zT]) ?_
    refine zst (op_assign_tmp (by rfl)) rfl (by dsimp only [zS, zN, zH, zT]) ?_
    refine al_end rfl ?_
    refine inBlock_normal (then_normal ?_)
    refine aw_region ?_
    refine zst (by first | exact op_add (by rfl) (by rfl) (wrap_i64 ⟨by omega, by omega⟩) | exact op_add (by rfl) (by rfl) (by rfl)) rfl (by dsimp only [zS, zN, zH, zT]) ?_
    refine zst (op_move_tmp (by rfl)) rfl (by dsimp only [zS, zN, zH, zT]) ?_
    refine al_end rfl ?_
    apply again_to (cs.length - (k + 1)) (false :: false :: false :: false :: true :: true :: false :: false :: false :: false :: false :: false :: false :: false :: false :: false :: true :: true :: true :: false :: false :: false :: false :: false :: false :: false :: false :: false :: false :: false :: false :: false :: false :: false :: false :: false :: false :: false :: false :: false :: false :: false :: false :: false :: false :: false :: false :: false :: false :: false :: false :: false :: false :: false :: false :: false :: false :: false :: false :: false :: false :: false :: false :: false :: false :: false :: false :: false :: [])
    · (try dsimp only [maskT]); try exact rfl
    · rfl
    · omega
    exact ⟨k + 1, _, _, _, _, _, _, rfl, by omega, rfl, hev, hmb, hv2, hok2, hnt2, hx2, hni2, by have := evs_len c ps ps' (compS (sortS ids0)); simp only [List.length_append]; omega, by rw [List.append_assoc]; exact hms⟩
 ·
  (try simp only [y1, y2, y3, y4, y5, y6, y7, y8, y9, y0, List.length_map] at hc1)
  (try simp only [List.length_map] at hc1)
  have hke : k = cs.length := by omega
  subst hke
  rw [List.drop_length, eventsT] at hev
  rw [List.drop_length, msT, List.append_nil] at hms
  refine aw_exit ?_
  refine then_exit (again_exit (inBlock_here (then_normal ?_)))
  refine aw_seq ?_
  refine aw_region ?_
  refine zst (op_move_tmp (by rfl)) rfl (by dsimp only [zS, zN, zH, zT]) ?_
  refine zst (op_assign_tmp (by rfl)) rfl (by dsimp only [zS, zN, zH, zT]) ?_
  refine zst (op_assign_const (by rfl)) rfl (by dsimp only [zS, zN, zH, zT]) ?_
  refine al_end rfl ?_
  refine then_normal ?_
  refine aw_ret ?_
  refine retPost2 rfl rfl rfl ?_
  exact ⟨ms, _, _, rfl, hni.of (hx.maps.symm), hx, .inr ⟨_, hev.symm, hms, Weak.lst hv, rfl⟩⟩
theorem events_at (Hs : HS) (cs : List Cm) (w : AV) {es : List Ev} (hw0 : Weak w (.d (.lst 3 (cs.map cD)))) (he : eventsT [] [] cs = some es) (hno : NoIt Hs) (hl : cs.length ≤ 1000) (hw : ∀ c ∈ cs, c.ws.length ≤ 1000000) (hk : ∀ c ∈ cs, ∀ w ∈ c.ws, w.key.length ≤ 1099511627776) :
    ACalls Try.prog 18 [w] Hs (Ret (.tup [.d (.lst 15 (es.map eD)), .d (I 0)]) (Hs.addM (.map [] :: msT [] cs))) :=
  ((events_ok Hs cs hno hl hw hk).args (.cons hw0 .nil)).mono fun av H' ⟨ms, h1, h2, h3⟩ => by
    rcases h3 with ⟨h4, _⟩ | ⟨es', h4, h5, h6⟩
    · rw [he] at h4; cases h4
    · rw [he] at h4; cases h4
      exact ⟨h6, by rw [h1, h5]⟩
end Go.Proofs.Ytjbpfnoibeogbaa
namespace Go.AV.Val
open Go.AV.Ord Go.AV.Oct
def kind6 (k : Int) : Int := (IntKind.u64.wrap k) % 6
mutual
def lawR : V → V
  | .mk k y i t l fs => if kind6 k = 1 then .mk 1 y 0 [] [] [] else if kind6 k = 2 then .mk 2 false i [] [] [] else if kind6 k = 3 then .mk 3 false 0 t [] [] else if kind6 k = 4 then .mk 4 false 0 [] (lawRs l) [] else if kind6 k = 5 then ofMapV (lawRf fs) else .mk 0 false 0 [] [] []
def lawRs : List V → List V
  | [] => []
  | v :: l => lawR v :: lawRs l
def lawRf : List F → List F
  | [] => []
  | .mk n v :: l => .mk n (lawR v) :: lawRf l
end
def lawF (f : F) : F := .mk f.name (lawR f.val)
theorem lawRs_map : ∀ l : List V, lawRs l = l.map lawR
  | [] => by simp [lawRs]
  | v :: l => by rw [lawRs, lawRs_map l]; rfl
theorem lawRf_map : ∀ l : List F, lawRf l = l.map lawF
  | [] => by simp [lawRf]
  | .mk n v :: l => by rw [lawRf, lawRf_map l]; rfl
theorem lawR_mk (k : Int) (y : Bool) (i : Int) (t : List UInt8) (l : List V) (fs : List F) : lawR (.mk k y i t l fs) = if kind6 k = 1 then .mk 1 y 0 [] [] [] else if kind6 k = 2 then .mk 2 false i [] [] [] else if kind6 k = 3 then .mk 3 false 0 t [] [] else if kind6 k = 4 then .mk 4 false 0 [] (l.map lawR) [] else if kind6 k = 5 then ofMapV (fs.map lawF) else .mk 0 false 0 [] [] [] := by
  rw [lawR, lawRs_map, lawRf_map]
theorem lawR_few : ∀ (n : Nat) (v : V), fewV n v = true → WfV v → rightV n (lawR v) = true ∧ fewV n (lawR v) = true ∧ WfV (lawR v)
  | 0, _, h, _ => by simp [fewV] at h
  | n + 1, .mk k y i t l fs, h, hw => by
    obtain ⟨h1, h2, h3, h4, h5⟩ := few_parts h
    simp only [V.list, V.fields, V.text] at h1 h2 h3 h4 h5
    have hl : ∀ x ∈ l.map lawR, rightV n x = true ∧ fewV n x = true ∧ WfV x := fun x hx => by
      obtain ⟨z, hz, rfl⟩ := List.mem_map.1 hx
      exact lawR_few n z (h4 z hz) (hw.l z hz)
    have hf : ∀ f ∈ ofF (fs.map lawF), f.name.length ≤ 40 ∧ rightV n f.val = true ∧ fewV n f.val = true ∧ WfV f.val := fun f hf => by
      obtain ⟨z, hz, rfl⟩ := List.mem_map.1 (ofF_mem hf)
      have := lawR_few n z.val (h5 z hz).2 (hw.f z hz)
      exact ⟨(h5 z hz).1, this⟩
    have hlen := ofF_len (fs.map lawF)
    rw [List.length_map] at hlen
    rw [lawR_mk]
    split
    · exact ⟨by simp [rightV, onlyV, rises, V.kind, V.yes, V.num, V.text, V.list, V.fields], by simp [fewV, fewTop, V.text, V.list, V.fields], wf_0 _ (by unfold i64; decide) _ _⟩
    · split
      · exact ⟨by simp [rightV, onlyV, rises, V.kind, V.yes, V.num, V.text, V.list, V.fields], by simp [fewV, fewTop, V.text, V.list, V.fields], wf_int hw.n⟩
      · split
        · exact ⟨by simp [rightV, onlyV, rises, V.kind, V.yes, V.num, V.text, V.list, V.fields], by simp [fewV, fewTop, V.text, V.list, V.fields, h3], wf_0 _ (by unfold i64; decide) _ _⟩
        · split
          · refine ⟨?_, ?_, .mk _ _ _ _ _ _ (by unfold i64; decide) i64_0 (fun x hx => (hl x hx).2.2) (fun _ h => by cases h)⟩
            · have : (l.map lawR).all (rightV n) = true := by rw [List.all_eq_true]; exact fun x hx => (hl x hx).1
              rw [rightV]
              simp only [V.fields, V.list, this, rises, Bool.and_true, List.all_nil]; rfl
            · have : (l.map lawR).all (fewV n) = true := by rw [List.all_eq_true]; exact fun x hx => (hl x hx).2.1
              rw [fewV]
              simp only [fewTop, V.fields, V.list, V.text, this, List.all_nil, Bool.and_true, List.length_map, List.length_nil]
              simp [h1]
          · split
            · refine ⟨?_, ?_, .mk _ _ _ _ _ _ (by unfold i64; decide) i64_0 (fun _ h => by cases h) (fun f hf' => (hf f hf').2.2.2)⟩
              · have : (ofF (fs.map lawF)).all (fun f => rightV n f.val) = true := by rw [List.all_eq_true]; exact fun x hx => (hf x hx).2.1
                rw [rightV]
                simp only [ofMapV, V.fields, V.list, this, ofF_rises, Bool.and_true, List.all_nil]; rfl
              · have : ((ofF (fs.map lawF)).all fun f => decide (f.name.length ≤ 40) && fewV n f.val) = true := by
                  rw [List.all_eq_true]; intro x hx
                  have := hf x hx
                  simp [this.1, this.2.2.1]
                rw [fewV]
                simp only [ofMapV, fewTop, V.fields, V.list, V.text, this, List.all_nil, Bool.and_true, List.length_nil]
                have e : (ofF (fs.map lawF)).length ≤ 8 := by omega
                simp [e]
            · exact ⟨by simp [rightV, onlyV, rises, V.kind, V.yes, V.num, V.text, V.list, V.fields], by simp [fewV, fewTop, V.text, V.list, V.fields], wf_0 _ i64_0 _ _⟩
theorem right_mono : ∀ (n m : Nat) (v : V), n ≤ m → rightV n v = true → rightV m v = true
  | 0, _, _, _, h => by simp [rightV] at h
  | n + 1, m, v, hm, h => by
    obtain ⟨k, rfl⟩ : ∃ k, m = k + 1 := ⟨m - 1, by omega⟩
    simp only [rightV, Bool.and_eq_true, List.all_eq_true] at h ⊢
    exact ⟨⟨h.1.1, fun f hf => right_mono n k _ (by omega) (h.1.2 f hf)⟩, fun x hx => right_mono n k _ (by omega) (h.2 x hx)⟩
mutual
def ordV : V → List UInt8
  | .mk k y i t l fs => UInt8.ofNat (k.toNat + 2) :: (if k = 1 then [if y then 3 else 2] else if k = 2 then encI i else if k = 3 then encT t else if k = 4 then ordL l ++ [1] else if k = 5 then ordFs fs ++ [1] else [])
def ordL : List V → List UInt8
  | [] => []
  | v :: l => ordV v ++ ordL l
def ordFs : List F → List UInt8
  | [] => []
  | .mk n v :: l => 2 :: encT n ++ ordV v ++ ordFs l
end
def ordF1 (f : F) : List UInt8 := 2 :: (encT f.name ++ ordV f.val)
theorem ordL_flat : ∀ l : List V, ordL l = l.flatMap ordV
  | [] => by simp [ordL]
  | v :: l => by rw [ordL, ordL_flat l]; rfl
theorem ordFs_flat : ∀ l : List F, ordFs l = l.flatMap ordF1
  | [] => by simp [ordFs]
  | .mk n v :: l => by rw [ordFs, ordFs_flat l]; simp [ordF1, F.name, F.val]
theorem ordV_mk (k : Int) (y : Bool) (i : Int) (t : List UInt8) (l : List V) (fs : List F) : ordV (.mk k y i t l fs) = UInt8.ofNat (k.toNat + 2) :: (if k = 1 then [if y then 3 else 2] else if k = 2 then encI i else if k = 3 then encT t else if k = 4 then l.flatMap ordV ++ [1] else if k = 5 then fs.flatMap ordF1 ++ [1] else []) := by
  rw [ordV, ordL_flat, ordFs_flat]
end Go.AV.Val
namespace Go.AV.Val
open Go.AV.Ord Go.AV.Oct
structure TwoB (Hs : HS) (tV : TypeId) (H : HS) (b : HB) : Prop where
  e0 : H.blks[Hs.nb]? = some (vBlk tV 0 false 0 [] nilS nilS)
  e1 : H.blks[Hs.nb + 1]? = some b
  ext : Ext Hs H
section
variable {Hs H : HS} {tV : TypeId} {b : HB}
theorem TwoB.start (Hs : HS) (tV : TypeId) {z : List AV} (b : HB) : TwoB Hs tV (((Hs.push tV (vs6 0 false 0 [] nilS nilS)).push tV z).setB (Hs.nb + 1) b) b := by
  have n1 : (Hs.push tV (vs6 0 false 0 [] nilS nilS)).nb = Hs.nb + 1 := push_nb
  refine ⟨by rw [setB_ne (by omega)]; exact push_ne push_at, ?_, ((((Ext.refl Hs).push _ _).push _ _).setB (by omega))⟩
  exact setB_at (b := ⟨tV, z, false⟩) (by rw [← n1]; exact push_at)
theorem TwoB.lt (h : TwoB Hs tV H b) : Hs.nb + 1 < H.nb := lt_nb h.e1
theorem TwoB.up {t : Option Nat} {n m : Nat} (h : TwoB Hs tV H b) (hn : NewTok Hs t) (hok : H.ok t m) : TwoB Hs tV (H.up t n) b := ⟨by rw [HS.up_blks]; exact h.e0, by rw [HS.up_blks]; exact h.e1, (h.ext.upN hn hok).1⟩
end
end Go.AV.Val
namespace Go.AV.Val
open Go.AV.Ord Go.AV.Oct
theorem byL_head {c d : UInt8} {x y : List UInt8} (h : c.toNat < d.toNat) : byL (c :: x) (d :: y) = -1 := by
  have : c < d := UInt8.lt_iff_toNat_lt.2 h
  exact byL_lt (by simp [Op.bytesLess, this])
theorem byL_head' {c d : UInt8} {x y : List UInt8} (h : d.toNat < c.toNat) : byL (c :: x) (d :: y) = 1 := by
  have : d < c := UInt8.lt_iff_toNat_lt.2 h
  exact byL_gt (by simp [Op.bytesLess, this])
theorem byL_cons (c : UInt8) (x y : List UInt8) : byL (c :: x) (c :: y) = byL x y := byL_append [c] x y
theorem ordV_head {d : Nat} {v : V} (h : rightV d v = true) : ∃ c r, ordV v = c :: r ∧ c.toNat = v.kind.toNat + 2 ∧ 0 ≤ v.kind ∧ v.kind ≤ 5 := by
  cases d with
  | zero => simp [rightV] at h
  | succ d =>
    obtain ⟨h1, _⟩ := right_only h
    obtain ⟨h0, h5, _⟩ := only_list h1
    cases v with
    | mk k y i t l fs =>
      simp only [V.kind] at h0 h5 ⊢
      exact ⟨_, _, ordV_mk .., ofNat_toNat (by omega), h0, h5⟩
def Agree {α : Type} (a b : α) (c : Int) (x y : List UInt8) : Prop := (a = b ∧ c = 0) ∨ (a ≠ b ∧ c ≠ 0 ∧ ∀ m o, byL (x ++ m) (y ++ o) = c)
theorem ordL_cmp {d : Nat} : ∀ (l l' : List V), (∀ x ∈ l, rightV d x = true) → (∀ x ∈ l', rightV d x = true) → (∀ x ∈ l, ∀ y ∈ l', Agree x y (cmpV x y) (ordV x) (ordV y)) → Agree l l' (cmpL l l') (l.flatMap ordV ++ [1]) (l'.flatMap ordV ++ [1])
  | [], [], _, _, _ => .inl ⟨rfl, cmpL_nn⟩
  | [], y :: l', _, h2, _ => by
    refine .inr ⟨by simp, by rw [cmpL_nc]; decide, fun m o => ?_⟩
    obtain ⟨c, r, e, hc, _⟩ := ordV_head (h2 y (by simp))
    rw [cmpL_nc, List.flatMap_cons, e]
    exact byL_head (by rw [hc]; show 1 < _; omega)
  | x :: l, [], h1, _, _ => by
    refine .inr ⟨by simp, by rw [cmpL_cn]; decide, fun m o => ?_⟩
    obtain ⟨c, r, e, hc, _⟩ := ordV_head (h1 x (by simp))
    rw [cmpL_cn, List.flatMap_cons, e]
    exact byL_head' (by rw [hc]; show 1 < _; omega)
  | x :: l, y :: l', h1, h2, h => by
    have ih := ordL_cmp l l' (fun z hz => h1 z (by simp [hz])) (fun z hz => h2 z (by simp [hz])) (fun a ha b hb => h a (by simp [ha]) b (by simp [hb]))
    rw [cmpL_cons]
    rcases h x (by simp) y (by simp) with ⟨rfl, h0⟩ | ⟨hne, h0, hb⟩
    · rw [h0]
      rcases ih with ⟨rfl, h3⟩ | ⟨hne, h3, hb⟩
      · exact .inl ⟨rfl, h3⟩
      · refine .inr ⟨by simpa using hne, h3, fun m o => ?_⟩
        rw [List.flatMap_cons, List.flatMap_cons, List.append_assoc, List.append_assoc, List.append_assoc, List.append_assoc, byL_append]
        have := hb m o
        rw [List.append_assoc, List.append_assoc] at this
        exact this
    · rw [if_pos h0]
      refine .inr ⟨fun e => hne (by injection e), h0, fun m o => ?_⟩
      rw [List.flatMap_cons, List.flatMap_cons, List.append_assoc, List.append_assoc, List.append_assoc, List.append_assoc]
      exact hb _ _
theorem ordF_cmp : ∀ (l l' : List F), (∀ x ∈ l, ∀ y ∈ l', Agree x.val y.val (cmpV x.val y.val) (ordV x.val) (ordV y.val)) → Agree l l' (cmpF l l') (l.flatMap ordF1 ++ [1]) (l'.flatMap ordF1 ++ [1])
  | [], [], _ => .inl ⟨rfl, cmpF_nn⟩
  | [], y :: l', _ => by
    refine .inr ⟨by simp, by rw [cmpF_nc]; decide, fun m o => ?_⟩
    rw [cmpF_nc, List.flatMap_cons]
    exact byL_head (by decide)
  | x :: l, [], _ => by
    refine .inr ⟨by simp, by rw [cmpF_cn]; decide, fun m o => ?_⟩
    rw [cmpF_cn, List.flatMap_cons]
    exact byL_head' (by decide)
  | x :: l, y :: l', h => by
    have ih := ordF_cmp l l' (fun a ha b hb => h a (by simp [ha]) b (by simp [hb]))
    rw [cmpF_cons]
    have e1 : ∀ m, (x :: l).flatMap ordF1 ++ [1] ++ m = 2 :: (encT x.name ++ (ordV x.val ++ (l.flatMap ordF1 ++ [1] ++ m))) := fun m => by simp [ordF1]
    have e2 : ∀ m, (y :: l').flatMap ordF1 ++ [1] ++ m = 2 :: (encT y.name ++ (ordV y.val ++ (l'.flatMap ordF1 ++ [1] ++ m))) := fun m => by simp [ordF1]
    by_cases hn : x.name = y.name
    · have hc : Lib.compareBytes x.name y.name = 0 := cb_eq.2 hn
      have hcf : cmpF1 x y = cmpV x.val y.val := by unfold cmpF1 orI; rw [hc]; simp
      rw [hcf]
      rcases h x (by simp) y (by simp) with ⟨hv, h0⟩ | ⟨hne, h0, hb⟩
      · have hxy : x = y := by
          rw [x.eta, y.eta, hn, hv]
        rw [h0]
        rcases ih with ⟨rfl, h3⟩ | ⟨hne, h3, hb⟩
        · exact .inl ⟨by rw [hxy], h3⟩
        · refine .inr ⟨by simpa [hxy] using hne, h3, fun m o => ?_⟩
          rw [e1, e2, byL_cons, hn, byL_append, hv, byL_append]
          exact hb m o
      · rw [if_pos h0]
        refine .inr ⟨fun e => hne (by injection e with e _; rw [e]), h0, fun m o => ?_⟩
        rw [e1, e2, byL_cons, hn, byL_append]
        exact hb _ _
    · have hc : ¬ Lib.compareBytes x.name y.name = 0 := fun e => hn (cb_eq.1 e)
      have hcf : cmpF1 x y = Lib.compareBytes x.name y.name := by unfold cmpF1 orI; rw [if_pos hc]
      rw [hcf, if_pos hc]
      refine .inr ⟨fun e => hn (by injection e with e _; rw [e]), hc, fun m o => ?_⟩
      rw [e1, e2, byL_cons, byL_encT hn, cb_byL]
theorem cmpI_ne {a b : Int} (h : a ≠ b) : cmpI a b ≠ 0 := by unfold cmpI; (repeat' split) <;> omega
theorem cmpI_self (a : Int) : cmpI a a = 0 := by simp [cmpI]
theorem encI_by {a b : Int} (ha : i64 a) (hb : i64 b) (h : a ≠ b) (m o : List UInt8) : byL (encI a ++ m) (encI b ++ o) = cmpI a b := by
  unfold cmpI
  by_cases h1 : a < b
  · rw [if_pos h1]
    exact byL_lt (less_ext (by rw [encI_len, encI_len]) (encI_less ha hb h1) m o)
  · rw [if_neg h1, if_pos (by omega)]
    exact byL_gt (less_ext (by rw [encI_len, encI_len]) (encI_less hb ha (by omega)) o m)
theorem cmpV_mm (k k' : Int) (y y' : Bool) (i i' : Int) (t t' : List UInt8) (l l' : List V) (fs fs' : List F) : cmpV (.mk k y i t l fs) (.mk k' y' i' t' l' fs') = if cmpI k k' ≠ 0 then cmpI k k' else if k = 1 then cmpI (yesI y) (yesI y') else if k = 2 then cmpI i i' else if k = 3 then Lib.compareBytes t t' else if k = 4 then cmpL l l' else if k = 5 then cmpF fs fs' else 0 := by rw [cmpV_mk]; rfl
theorem ordV_cmp : ∀ (d : Nat) (a b : V), rightV d a = true → rightV d b = true → WfV a → WfV b → Agree a b (cmpV a b) (ordV a) (ordV b)
  | 0, _, _, h, _, _, _ => by simp [rightV] at h
  | d + 1, a, b, ha, hb, wa, wb => by
    obtain ⟨a1, a2, a3, _⟩ := right_only ha
    obtain ⟨b1, b2, b3, _⟩ := right_only hb
    have iL := fun x hx y hy => ordV_cmp d x y (a3 x hx) (b3 y hy) (wa.l x hx) (wb.l y hy)
    have iF := fun x hx y hy => ordV_cmp d (F.val x) (F.val y) (a2 x hx) (b2 y hy) (wa.f x hx) (wb.f y hy)
    have wn := wa.n
    have wn' := wb.n
    obtain ⟨k, y, i, t, l, fs, rfl⟩ : ∃ k y n t l fs, a = .mk k y n t l fs := ⟨_, _, _, _, _, _, a.eta⟩
    obtain ⟨k', y', i', t', l', fs', rfl⟩ : ∃ k y n t l fs, b = .mk k y n t l fs := ⟨_, _, _, _, _, _, b.eta⟩
    rw [only_vals] at a1 b1
    simp only [V.list, V.fields, V.num] at a2 a3 b2 b3 iL iF wn wn'
    simp only [valsV, Bool.and_eq_true, Bool.or_eq_true, beq_iff_eq, List.isEmpty_iff] at a1 b1
    obtain ⟨⟨k0, k5⟩, ⟨⟨⟨⟨py, pi⟩, pt⟩, pl⟩, pf⟩⟩ := a1
    obtain ⟨⟨j0, j5⟩, ⟨⟨⟨⟨qy, qi⟩, qt⟩, ql⟩, qf⟩⟩ := b1
    replace k0 : 0 ≤ k := of_decide_eq_true k0
    replace k5 : k ≤ 5 := of_decide_eq_true k5
    replace j0 : 0 ≤ k' := of_decide_eq_true j0
    replace j5 : k' ≤ 5 := of_decide_eq_true j5
    rw [cmpV_mm, ordV_mk, ordV_mk]
    by_cases hk : k = k'
    · subst hk
      rw [cmpI_self, if_neg (fun h => h rfl)]
      have hcc : ∀ X Y m o, byL ((UInt8.ofNat (k.toNat + 2) :: X) ++ m) ((UInt8.ofNat (k.toNat + 2) :: Y) ++ o) = byL (X ++ m) (Y ++ o) := fun X Y m o => byL_cons ..
      by_cases h1 : k = 1
      · subst h1
        obtain rfl := pi.resolve_left (by decide)
        obtain rfl := pt.resolve_left (by decide)
        obtain rfl := pl.resolve_left (by decide)
        obtain rfl := pf.resolve_left (by decide)
        obtain rfl := qi.resolve_left (by decide)
        obtain rfl := qt.resolve_left (by decide)
        obtain rfl := ql.resolve_left (by decide)
        obtain rfl := qf.resolve_left (by decide)
        rw [if_pos rfl, if_pos rfl, if_pos rfl]
        by_cases h : y = y'
        · subst h; exact .inl ⟨rfl, cmpI_self _⟩
        · refine .inr ⟨fun e => h (by injection e), ?_, fun m o => ?_⟩
          · cases y <;> cases y' <;> first | exact absurd rfl h | decide
          · rw [hcc]
            cases y <;> cases y' <;> first | exact absurd rfl h | exact byL_head (by decide) | exact byL_head' (by decide)
      · obtain rfl := py.resolve_left h1
        obtain rfl := qy.resolve_left h1
        rw [if_neg h1, if_neg h1, if_neg h1]
        by_cases h2 : k = 2
        · subst h2
          obtain rfl := pt.resolve_left (by decide)
          obtain rfl := pl.resolve_left (by decide)
          obtain rfl := pf.resolve_left (by decide)
          obtain rfl := qt.resolve_left (by decide)
          obtain rfl := ql.resolve_left (by decide)
          obtain rfl := qf.resolve_left (by decide)
          rw [if_pos rfl, if_pos rfl, if_pos rfl]
          by_cases h : i = i'
          · subst h; exact .inl ⟨rfl, cmpI_self _⟩
          · exact .inr ⟨fun e => h (by injection e), cmpI_ne h, fun m o => by rw [hcc]; exact encI_by wn wn' h m o⟩
        · obtain rfl := pi.resolve_left h2
          obtain rfl := qi.resolve_left h2
          rw [if_neg h2, if_neg h2, if_neg h2]
          by_cases h3 : k = 3
          · subst h3
            obtain rfl := pl.resolve_left (by decide)
            obtain rfl := pf.resolve_left (by decide)
            obtain rfl := ql.resolve_left (by decide)
            obtain rfl := qf.resolve_left (by decide)
            rw [if_pos rfl, if_pos rfl, if_pos rfl]
            by_cases h : t = t'
            · subst h; exact .inl ⟨rfl, cb_eq.2 rfl⟩
            · exact .inr ⟨fun e => h (by injection e), fun e => h (cb_eq.1 e), fun m o => by rw [hcc, byL_encT h, cb_byL]⟩
          · obtain rfl := pt.resolve_left h3
            obtain rfl := qt.resolve_left h3
            rw [if_neg h3, if_neg h3, if_neg h3]
            by_cases h4 : k = 4
            · subst h4
              obtain rfl := pf.resolve_left (by decide)
              obtain rfl := qf.resolve_left (by decide)
              rw [if_pos rfl, if_pos rfl, if_pos rfl]
              rcases ordL_cmp l l' a3 b3 iL with ⟨rfl, h⟩ | ⟨hne, h, hh⟩
              · exact .inl ⟨rfl, h⟩
              · exact .inr ⟨fun e => hne (by injection e), h, fun m o => by rw [hcc]; exact hh m o⟩
            · obtain rfl := pl.resolve_left h4
              obtain rfl := ql.resolve_left h4
              rw [if_neg h4, if_neg h4, if_neg h4]
              by_cases h5 : k = 5
              · subst h5
                rw [if_pos rfl, if_pos rfl, if_pos rfl]
                rcases ordF_cmp fs fs' iF with ⟨rfl, h⟩ | ⟨hne, h, hh⟩
                · exact .inl ⟨rfl, h⟩
                · exact .inr ⟨fun e => hne (by injection e), h, fun m o => by rw [hcc]; exact hh m o⟩
              · obtain rfl := pf.resolve_left h5
                obtain rfl := qf.resolve_left h5
                rw [if_neg h5]
                exact .inl ⟨rfl, rfl⟩
    · rw [if_pos (cmpI_ne hk)]
      refine .inr ⟨fun e => hk (by injection e), cmpI_ne hk, fun m o => ?_⟩
      have e1 : (UInt8.ofNat (k.toNat + 2)).toNat = k.toNat + 2 := ofNat_toNat (by omega)
      have e2 : (UInt8.ofNat (k'.toNat + 2)).toNat = k'.toNat + 2 := ofNat_toNat (by omega)
      unfold cmpI
      by_cases h : k < k'
      · rw [if_pos h]; exact byL_head (by rw [e1, e2]; omega)
      · rw [if_neg h, if_pos (show k' < k by omega)]; exact byL_head' (by rw [e1, e2]; omega)
section
variable {d : Nat} {a b c : V}
theorem byL_vals (x y : List UInt8) : byL x y = -1 ∨ byL x y = 0 ∨ byL x y = 1 := by
  unfold byL
  split
  · exact .inl rfl
  · split
    · exact .inr (.inr rfl)
    · exact .inr (.inl rfl)
theorem byL_neg (x y : List UInt8) : byL y x = - byL x y := by
  by_cases h : x = y
  · subst h; rw [byL_self]; rfl
  · by_cases h1 : Op.bytesLess x y = true
    · rw [byL_lt h1, byL_gt h1]; rfl
    · have h2 : Op.bytesLess y x = true := by rw [less_total h]; simpa using h1
      rw [byL_lt h2, byL_gt h2]
theorem byL_trans {x y z : List UInt8} (h : byL x y = byL y z) : byL x z = byL x y := by
  rcases byL_vals x y with h1 | h1 | h1
  · have h2 := h.symm.trans h1
    have l1 : Op.bytesLess x y = true := by
      cases hc : Op.bytesLess x y with
      | true => rfl
      | false => unfold byL at h1; rw [hc] at h1; simp at h1; split at h1 <;> cases h1
    have l2 : Op.bytesLess y z = true := by
      cases hc : Op.bytesLess y z with
      | true => rfl
      | false => unfold byL at h2; rw [hc] at h2; simp at h2; split at h2 <;> cases h2
    rw [byL_lt (less_trans l1 l2), h1]
  · have := byL_zero h1
    subst this
    rw [h]
  · have h2 := h.symm.trans h1
    have n1 := byL_neg x y
    have n2 := byL_neg y z
    rw [h1] at n1
    rw [h2] at n2
    have l1 : Op.bytesLess y x = true := by
      cases hc : Op.bytesLess y x with
      | true => rfl
      | false => unfold byL at n1; rw [hc] at n1; simp at n1; split at n1 <;> cases n1
    have l2 : Op.bytesLess z y = true := by
      cases hc : Op.bytesLess z y with
      | true => rfl
      | false => unfold byL at n2; rw [hc] at n2; simp at n2; split at n2 <;> cases n2
    rw [byL_gt (less_trans l2 l1), h1]
theorem ord_apart (ha : rightV d a = true) (hb : rightV d b = true) (wa : WfV a) (wb : WfV b) (h : ¬ cmpV a b = 0) (p : List UInt8) : begins (p ++ ordV a) (p ++ ordV b) = false := by
  cases hc : begins (p ++ ordV a) (p ++ ordV b) with
  | false => rfl
  | true =>
    obtain ⟨r, hr⟩ := begins_iff.1 hc
    rw [List.append_assoc] at hr
    have hr := List.append_cancel_left hr
    rcases ordV_cmp d a b ha hb wa wb with ⟨_, h0⟩ | ⟨_, h0, h2⟩
    · exact absurd h0 h
    · have := h2 [] r
      rw [List.append_nil, hr, byL_self] at this
      exact absurd this.symm h0
end
end Go.AV.Val
namespace Go.AV.Val
open Go.AV.Ord Go.AV.Oct
section
variable {P : Program} {E : Operand → AV} {H : HS} {dst : Option Tmp} {ty : TypeId} {pos : String} {after : Array Edge} {gd : Option (Nat × Bool)}
end
end Go.AV.Val
namespace Go.AV
end Go.AV
namespace Go.AV.Val
open Go.AV.Ord Go.AV.Oct
theorem only_parts {k : Int} {y : Bool} {i : Int} {tx : List UInt8} {ls : List V} {fs : List F} (h : onlyV (.mk k y i tx ls fs) = true) : (k ≠ 1 → y = false) ∧ (k ≠ 2 → i = 0) ∧ (k ≠ 3 → tx = []) ∧ (k ≠ 4 → ls = []) ∧ (k ≠ 5 → fs = []) := by
  simp only [onlyV, V.kind, V.yes, V.num, V.text, V.list, V.fields, Bool.and_eq_true, Bool.or_eq_true, beq_iff_eq, List.isEmpty_iff] at h
  obtain ⟨⟨⟨⟨⟨⟨_, _⟩, h1⟩, h2⟩, h3⟩, h4⟩, h5⟩ := h
  exact ⟨fun e => h1.resolve_left e, fun e => h2.resolve_left e, fun e => h3.resolve_left e, fun e => h4.resolve_left e, fun e => h5.resolve_left e⟩
section
variable {k : Int} {y : Bool} {i : Int} {tx : List UInt8} {ls : List V} {fs : List F} {o : V}
end
end Go.AV.Val
namespace Go.AV.Patch
open Go.AV.Ord Go.AV.Oct Go.AV.Val
def getF (fs : List F) (n : List UInt8) : Option V := (fs.find? fun f => f.name == n).map F.val
def getV (v : V) (n : List UInt8) : V × Bool := match getF v.fields n with
  | some x => (x, decide (v.kind = 5))
  | none => (V0, false)
def withV (v : V) (n : List UInt8) (x : V) : V := if v.kind = 5 then ofMapV (v.fields ++ [⟨n, x⟩]) else v
def withoutV (v : V) (n : List UInt8) : V := .mk v.kind v.yes v.num v.text v.list (v.fields.filter fun f => !(f.name == n))
structure Opn where
  kind : Int
  path : List (List UInt8)
  val : V
def rightO (o : Opn) : Bool := decide (1 ≤ o.kind) && decide (o.kind ≤ 3) && decide (0 < o.path.length) && decide (o.path.length ≤ 16) && rightV 32 o.val && (decide (o.kind ≠ 3) || decide (o.val.kind = 2)) && (decide (o.kind ≠ 2) || decide (o.val.kind = 0))
def addI (a b : Int) : Int × Bool := (IntKind.i64.wrap (a + b), decide (IntKind.i64.wrap (a + b) > a) == decide (b > 0))
def lastV (o : Opn) (v : V) (n : List UInt8) : V × Int :=
  if o.kind = 1 then (withV v n o.val, 0)
  else if (getV v n).2 = false then (V0, 5)
  else if o.kind = 2 then (withoutV v n, 0)
  else if (getV v n).1.kind ≠ 2 then (V0, 1)
  else if (addI (getV v n).1.num o.val.num).2 = false then (V0, 1)
  else (withV v n (ofInt (addI (getV v n).1.num o.val.num).1), 0)
def atV (o : Opn) : V → List (List UInt8) → V × Int
  | v, [] => if v.kind ≠ 5 then (V0, 5) else (V0, 5)
  | v, [n] => if v.kind ≠ 5 then (V0, 5) else lastV o v n
  | v, n :: m :: p => if v.kind ≠ 5 then (V0, 5) else if (getV v n).2 = false then (V0, 5) else
      if (atV o (getV v n).1 (m :: p)).2 ≠ 0 then (V0, (atV o (getV v n).1 (m :: p)).2) else (withV v n (atV o (getV v n).1 (m :: p)).1, 0)
def allV : V → List Opn → V × Int
  | v, [] => if rightV 32 v then (v, 0) else (V0, 3)
  | v, o :: l => if (atV o v o.path).2 ≠ 0 then (V0, (atV o v o.path).2) else allV (atV o v o.path).1 l
def applyV (v : V) (l : List Opn) : V × Int := if 50 < l.length then (V0, 4) else if l.all rightO then allV v l else (V0, 1)
theorem putF_snoc : ∀ (l : List F) (f : F), (∀ x ∈ l, Go.Op.bytesLess x.name f.name = true) → putF l f = l ++ [f]
  | [], f, _ => rfl
  | g :: l, f, h => by
    rw [putF, if_pos (h g (by simp)), putF_snoc l f fun x hx => h x (by simp [hx])]
    rfl
theorem rises_mid : ∀ {l : List F} {f : F} {m : List F}, rises (l ++ f :: m) = true → ∀ x ∈ l, Go.Op.bytesLess x.name f.name = true
  | [], _, _, _, x, hx => by cases hx
  | g :: l, f, m, h, x, hx => by
    rcases List.mem_cons.1 hx with rfl | hx
    · exact rises_all h f (by simp)
    · exact rises_mid (rises_tail h) x hx
theorem foldl_self : ∀ (fs l : List F), rises (l ++ fs) = true → fs.foldl putF l = l ++ fs
  | [], l, _ => by simp
  | f :: fs, l, h => by
    rw [List.foldl_cons, putF_snoc l f (rises_mid h), foldl_self fs (l ++ [f]) (by simpa using h)]
    simp
theorem ofF_self {fs : List F} (h : rises fs = true) : ofF fs = fs := foldl_self fs [] h
theorem ofF_snoc (fs : List F) (f : F) : ofF (fs ++ [f]) = putF (ofF fs) f := by simp [ofF, List.foldl_append]
theorem getF_cons (g : F) (l : List F) (n : List UInt8) : getF (g :: l) n = if g.name = n then some g.val else getF l n := by
  unfold getF
  by_cases h : g.name = n
  · rw [if_pos h, List.find?_cons_of_pos (by simpa using h)]; rfl
  · rw [if_neg h, List.find?_cons_of_neg (by simpa using h)]
theorem getF_put : ∀ (l : List F) (f : F), getF (putF l f) f.name = some f.val
  | [], f => by rw [putF, getF_cons, if_pos rfl]
  | g :: l, f => by
    rw [putF]
    split
    · rename_i h
      rw [getF_cons, if_neg fun e => by rw [e, less_irrefl] at h; cases h]
      exact getF_put l f
    · split
      · rw [getF_cons, if_pos rfl]
      · rw [getF_cons, if_pos rfl]
theorem getF_other : ∀ (l : List F) (f : F) (n : List UInt8), ¬ f.name = n → getF (putF l f) n = getF l n
  | [], f, n, h => by rw [putF, getF_cons, if_neg h]
  | g :: l, f, n, h => by
    rw [putF]
    split
    · rw [getF_cons, getF_cons, getF_other l f n h]
    · split
      · rename_i h2
        have e : g.name = f.name := by simpa using h2
        rw [getF_cons, getF_cons, if_neg h, if_neg (by rw [e]; exact h)]
      · rw [getF_cons f, if_neg h]
theorem getF_none : ∀ {l : List F} {n : List UInt8}, (∀ x ∈ l, ¬ x.name = n) → getF l n = none
  | [], _, _ => rfl
  | g :: l, n, h => by rw [getF_cons, if_neg (h g (by simp)), getF_none fun x hx => h x (by simp [hx])]
theorem getF_below {g : F} {l : List F} {n : List UInt8} (h : rises (g :: l) = true) (hn : n = g.name ∨ Go.Op.bytesLess n g.name = true) : getF l n = none := by
  refine getF_none fun x hx e => ?_
  have h1 := rises_all h x hx
  rcases hn with rfl | hn
  · exact less_ne h1 e.symm
  · exact less_ne (less_trans hn h1) e.symm
theorem fields_ext : ∀ {l m : List F}, rises l = true → rises m = true → (∀ n, getF l n = getF m n) → l = m
  | [], [], _, _, _ => rfl
  | [], g :: m, _, _, h => by have h1 := h g.name; rw [getF_cons, if_pos rfl] at h1; cases h1
  | f :: l, [], _, _, h => by have h1 := h f.name; rw [getF_cons, if_pos rfl] at h1; cases h1
  | f :: l, g :: m, hl, hm, h => by
    have hn : f.name = g.name := by
      by_cases e : f.name = g.name
      · exact e
      · exfalso
        by_cases hlt : Go.Op.bytesLess f.name g.name = true
        · have h1 := h f.name
          rw [getF_cons, if_pos rfl, getF_cons, if_neg fun e2 => e e2.symm, getF_below hm (.inr hlt)] at h1
          cases h1
        · have hgt : Go.Op.bytesLess g.name f.name = true := by rw [less_total e]; simpa using hlt
          have h1 := h g.name
          rw [getF_cons f, if_neg e, getF_cons g, if_pos rfl, getF_below hl (.inr hgt)] at h1
          cases h1
    have hv : f.val = g.val := by
      have h1 := h f.name
      rw [getF_cons, if_pos rfl, getF_cons, if_pos hn.symm] at h1
      exact Option.some.inj h1
    have hfg : f = g := by
      cases f; cases g
      simp only [F.name, F.val] at hn hv
      rw [hn, hv]
    have ht : l = m := fields_ext (rises_tail hl) (rises_tail hm) fun n => by
      by_cases e : f.name = n
      · rw [getF_below hl (.inl e.symm), getF_below hm (.inl (e.symm.trans hn))]
      · have h1 := h n
        rwa [getF_cons, if_neg e, getF_cons, if_neg (by rw [← hn]; exact e)] at h1
    rw [hfg, ht]
def delF (l : List F) (n : List UInt8) : List F := l.filter fun f => !(f.name == n)
theorem delF_cons (g : F) (l : List F) (n : List UInt8) : delF (g :: l) n = if g.name = n then delF l n else g :: delF l n := by
  unfold delF
  by_cases h : g.name = n
  · rw [if_pos h, List.filter_cons_of_neg (by simpa using h)]
  · rw [if_neg h, List.filter_cons_of_pos (by simpa using h)]
theorem getF_del : ∀ (l : List F) (n m : List UInt8), getF (delF l n) m = if m = n then none else getF l m
  | [], n, m => by split <;> rfl
  | g :: l, n, m => by
    rw [delF_cons]
    by_cases h : g.name = n
    · rw [if_pos h, getF_del l n m]
      by_cases e : m = n
      · rw [if_pos e, if_pos e]
      · rw [if_neg e, if_neg e, getF_cons, if_neg (by rw [h]; exact fun x => e x.symm)]
    · rw [if_neg h, getF_cons, getF_del l n m, getF_cons]
      by_cases e : m = n
      · rw [if_pos e, if_pos e, if_neg (by rw [e]; exact h)]
      · rw [if_neg e, if_neg e]
theorem rises_del : ∀ {l : List F} (n : List UInt8), rises l = true → rises (delF l n) = true
  | [], _, _ => rfl
  | g :: l, n, h => by
    rw [delF_cons]
    split
    · exact rises_del n (rises_tail h)
    · exact rises_cons (fun x hx => rises_all h x (List.mem_filter.1 hx).1) (rises_del n (rises_tail h))
theorem del_put {l : List F} {f : F} (hl : rises l = true) (h : getF l f.name = none) : delF (putF l f) f.name = l := by
  refine fields_ext (rises_del _ (putF_rises _ hl)) hl fun m => ?_
  rw [getF_del]
  by_cases e : m = f.name
  · rw [if_pos e, e, h]
  · rw [if_neg e, getF_other _ _ _ fun x => e x.symm]
end Go.AV.Patch
namespace Go.AV.Patch
open Go.AV.Ord Go.AV.Oct Go.AV.Val
theorem atV_one (o : Opn) (v : V) (n : List UInt8) : atV o v [n] = if v.kind ≠ 5 then (V0, 5) else lastV o v n := by rw [atV]
theorem atV_more (o : Opn) (v : V) (n m : List UInt8) (p : List (List UInt8)) : atV o v (n :: m :: p) = if v.kind ≠ 5 then (V0, 5) else if (getV v n).2 = false then (V0, 5) else
      if (atV o (getV v n).1 (m :: p)).2 ≠ 0 then (V0, (atV o (getV v n).1 (m :: p)).2) else (withV v n (atV o (getV v n).1 (m :: p)).1, 0) := by rw [atV]
theorem rightO_eq (o : Opn) : rightO o = (decide (1 ≤ o.kind) && decide (o.kind ≤ 3) && decide (0 < o.path.length) && decide (o.path.length ≤ 16) && rightV 32 o.val && (decide (o.kind ≠ 3) || decide (o.val.kind = 2)) && (decide (o.kind ≠ 2) || decide (o.val.kind = 0))) := rfl
theorem allV_cons (v : V) (o : Opn) (l : List Opn) : allV v (o :: l) = if (atV o v o.path).2 ≠ 0 then (V0, (atV o v o.path).2) else allV (atV o v o.path).1 l := by rw [allV]
end Go.AV.Patch
namespace Go.AV.Patch
open Go.AV.Ord Go.AV.Oct Go.AV.Val
inductive BndV (m : Nat) : V → Prop
  | mk (v : V) (hl : v.list.length ≤ m) (hf : v.fields.length ≤ m) (h1 : ∀ x ∈ v.list, BndV m x) (h2 : ∀ f ∈ v.fields, BndV m f.val) : BndV m v
theorem BndV.ll {m : Nat} {v : V} (h : BndV m v) : v.list.length ≤ m := by cases h; assumption
theorem BndV.fl {m : Nat} {v : V} (h : BndV m v) : v.fields.length ≤ m := by cases h; assumption
theorem BndV.l {m : Nat} {v : V} (h : BndV m v) : ∀ x ∈ v.list, BndV m x := by cases h; assumption
theorem BndV.f {m : Nat} {v : V} (h : BndV m v) : ∀ f ∈ v.fields, BndV m f.val := by cases h; assumption
theorem BndV.small {m : Nat} {v : V} (h : BndV m v) (hm : m ≤ 1000000) : SmallV v := by
  induction h with
  | mk v hl hf _ _ ih1 ih2 =>
    rw [v.eta]
    exact .mk _ _ _ _ _ _ (by omega) (by omega) ih1 ih2
theorem BndV.mono {m m' : Nat} {v : V} (h : BndV m v) (hm : m ≤ m') : BndV m' v := by
  induction h with
  | mk v hl hf _ _ ih1 ih2 => exact .mk v (by omega) (by omega) ih1 ih2
theorem few_bnd : ∀ (n : Nat) (v : V), fewV n v = true → BndV 8 v
  | 0, _, h => by simp [fewV] at h
  | n + 1, v, h => by
    obtain ⟨h1, h2, _, h4, h5⟩ := few_parts h
    exact .mk v h1 h2 (fun x hx => few_bnd n x (h4 x hx)) (fun f hf => few_bnd n f.val (h5 f hf).2)
theorem BndV.leaf {m : Nat} {v : V} (h1 : v.list = []) (h2 : v.fields = []) : BndV m v := .mk v (by rw [h1]; exact Nat.zero_le _) (by rw [h2]; exact Nat.zero_le _) (by rw [h1]; intro x hx; cases hx) (by rw [h2]; intro x hx; cases hx)
theorem BndV.v0 {m : Nat} : BndV m V0 := .leaf rfl rfl
theorem BndV.int {m : Nat} (n : Int) : BndV m (ofInt n) := .leaf rfl rfl
theorem getF_mem : ∀ {l : List F} {n : List UInt8} {x : V}, getF l n = some x → ∃ f ∈ l, f.val = x
  | g :: l, n, x, h => by
    rw [getF_cons] at h
    split at h
    · exact ⟨g, by simp, Option.some.inj h⟩
    · obtain ⟨f, hf, e⟩ := getF_mem h
      exact ⟨f, by simp [hf], e⟩
theorem BndV.get {m : Nat} {v : V} (h : BndV m v) (n : List UInt8) : BndV m (getV v n).1 := by
  unfold getV
  split
  · rename_i x hx
    obtain ⟨f, hf, rfl⟩ := getF_mem hx
    exact h.f f hf
  · exact .v0
theorem BndV.with_ {m : Nat} {v x : V} (h : BndV m v) (hx : BndV (m + 1) x) (n : List UInt8) : BndV (m + 1) (withV v n x) := by
  unfold withV
  split
  · have h1 := ofF_len (v.fields ++ [F.mk n x])
    have h2 := h.fl
    refine .mk _ (Nat.zero_le _) ?_ (fun y hy => by cases hy) (fun f hf => ?_)
    · show (ofF (v.fields ++ [F.mk n x])).length ≤ m + 1
      simp at h1; omega
    · have hf' : f ∈ v.fields ++ [F.mk n x] := ofF_mem hf
      rcases List.mem_append.1 hf' with hf' | hf'
      · exact (h.f f hf').mono (by omega)
      · simp at hf'; subst hf'; exact hx
  · exact h.mono (by omega)
theorem BndV.without {m : Nat} {v : V} (h : BndV m v) (n : List UInt8) : BndV m (withoutV v n) :=
  .mk _ h.ll (Nat.le_trans (List.length_filter_le _ _) h.fl) h.l (fun f hf => h.f f (List.mem_filter.1 hf).1)
theorem BndV.last {m : Nat} {v : V} {o : Opn} (h : BndV m v) (ho : BndV m o.val) (n : List UInt8) : BndV (m + 1) (lastV o v n).1 := by
  unfold lastV
  split
  · exact h.with_ (ho.mono (by omega)) n
  split
  · exact .v0
  split
  · exact (h.without n).mono (by omega)
  split
  · exact .v0
  split
  · exact .v0
  · exact h.with_ (.int _) n
theorem BndV.at_ {m : Nat} {o : Opn} (ho : BndV m o.val) : ∀ (p : List (List UInt8)) {v : V}, BndV m v → BndV (m + 1) (atV o v p).1
  | [], v, h => by unfold atV; split <;> exact .v0
  | [n], v, h => by
    unfold atV
    split
    · exact .v0
    · exact h.last ho n
  | n :: k :: p, v, h => by
    unfold atV
    split
    · exact .v0
    split
    · exact .v0
    split
    · exact .v0
    · exact h.with_ (BndV.at_ ho (k :: p) (h.get n)) n
theorem BndV.all : ∀ (l : List Opn) {m : Nat} {v : V}, BndV m v → (∀ o ∈ l, BndV m o.val) → BndV (m + l.length) (allV v l).1
  | [], m, v, h, _ => by
    rw [allV]
    split
    · exact h
    · exact .v0
  | o :: l, m, v, h, ho => by
    rw [allV_cons]
    split
    · exact .v0
    · have := BndV.all l (BndV.at_ (ho o (by simp)) o.path h) fun x hx => (ho x (by simp [hx])).mono (by omega)
      rwa [List.length_cons, show m + (l.length + 1) = m + 1 + l.length by omega]
theorem BndV.apply {m : Nat} {v : V} {l : List Opn} (h : BndV m v) (ho : ∀ o ∈ l, BndV m o.val) : BndV (m + l.length) (applyV v l).1 := by
  unfold applyV
  split
  · exact .v0
  split
  · exact h.all l ho
  · exact .v0
end Go.AV.Patch
namespace Go.AV.Patch
open Go.AV.Ord Go.AV.Oct Go.AV.Val
theorem cmpI_refl (a : Int) : cmpI a a = 0 := by simp [cmpI]
theorem cmpL_refl : ∀ (l : List V), (∀ x ∈ l, cmpV x x = 0) → cmpL l l = 0
  | [], _ => by rw [cmpL]
  | x :: l, h => by rw [cmpL_cons, if_neg (by rw [h x (by simp)]; simp), cmpL_refl l fun y hy => h y (by simp [hy])]
theorem cmpF_refl : ∀ (l : List F), (∀ x ∈ l, cmpV x.val x.val = 0) → cmpF l l = 0
  | [], _ => by rw [cmpF]
  | .mk n v :: l, h => by
    have h1 : cmpV v v = 0 := h (.mk n v) (by simp)
    have h2 : cmpF1 (.mk n v) (.mk n v) = 0 := by simp [cmpF1, F.name, F.val, cb_eq.2 (rfl : n = n), h1, orI]
    rw [cmpF_cons, h2, cmpF_refl l fun y hy => h y (by simp [hy])]
    rfl
theorem cmp_refl' : ∀ (m : Nat) (v : V), SizeOf.sizeOf v ≤ m → cmpV v v = 0
  | 0, v, hm => by cases v; simp at hm
  | m + 1, v, hm => by
    have hL : cmpL v.list v.list = 0 := cmpL_refl _ fun x hx => cmp_refl' m x (by have := list_lt hx; omega)
    have hF : cmpF v.fields v.fields = 0 := cmpF_refl _ fun x hx => cmp_refl' m x.val (by have := field_lt hx; omega)
    have hT : Lib.compareBytes v.text v.text = 0 := cb_eq.2 rfl
    cases v
    simp only [V.list, V.fields, V.text] at hL hF hT
    rw [cmpV_mk]
    simp [V.kind, V.yes, V.num, V.text, V.list, V.fields, cmpI_refl, hL, hF, hT]
def M (fs : List F) : V := .mk 5 false 0 [] [] fs
theorem map_of {d : Nat} {v : V} (h : rightV (d + 1) v = true) (hk : v.kind = 5) : v = M v.fields ∧ rises v.fields = true := by
  obtain ⟨h1, _, _, h4⟩ := right_only h
  cases v
  simp only [V.kind] at hk
  subst hk
  obtain ⟨a1, a2, a3, a4, _⟩ := only_parts h1
  rw [a1 (by decide), a2 (by decide), a3 (by decide), a4 (by decide)]
  exact ⟨rfl, h4⟩
theorem map_right {d : Nat} {fs : List F} : rightV (d + 1) (M fs) = (rises fs && fs.all fun f => rightV d f.val) := by
  show (onlyV (M fs) && rises fs && fs.all (fun f => rightV d f.val) && ([] : List V).all (rightV d)) = _
  have : onlyV (M fs) = true := by simp [onlyV, M, V.kind, V.yes, V.num, V.text, V.list, V.fields]
  rw [this]; simp
theorem ofMap_rise {fs : List F} (h : rises fs = true) (n : List UInt8) (x : V) : withV (M fs) n x = M (putF fs (.mk n x)) := by
  show (if (5 : Int) = 5 then ofMapV (fs ++ [F.mk n x]) else M fs) = _
  rw [if_pos rfl, ofMapV, ofF_snoc, ofF_self h]; rfl
theorem without_M (fs : List F) (n : List UInt8) : withoutV (M fs) n = M (delF fs n) := rfl
theorem getV_M (fs : List F) (n : List UInt8) : getV (M fs) n = match getF fs n with
  | some x => (x, true)
  | none => (V0, false) := by
  unfold getV
  show (match getF fs n with | some x => (x, decide ((5 : Int) = 5)) | none => (V0, false)) = _
  cases getF fs n <;> rfl
def stepO (o : Opn) : List (List UInt8) → Option V → Int × Option V
  | [], x => if o.kind = 1 then (0, some o.val) else match x with
    | none => (5, none)
    | some y => if o.kind = 2 then (0, none) else if y.kind ≠ 2 then (1, none) else if (addI y.num o.val.num).2 = false then (1, none) else (0, some (ofInt (addI y.num o.val.num).1))
  | m :: p, x => match x with
    | none => (5, none)
    | some y => if (atV o y (m :: p)).2 ≠ 0 then ((atV o y (m :: p)).2, none) else (0, some (atV o y (m :: p)).1)
def updF (fs : List F) (n : List UInt8) : Option V → List F
  | some x => putF fs (.mk n x)
  | none => delF fs n
theorem at_step (o : Opn) {fs : List F} (h : rises fs = true) (n : List UInt8) (p : List (List UInt8)) : atV o (M fs) (n :: p) = if (stepO o p (getF fs n)).1 ≠ 0 then (V0, (stepO o p (getF fs n)).1) else (M (updF fs n (stepO o p (getF fs n)).2), 0) := by
  have hk : ¬ (M fs).kind ≠ 5 := fun e => e rfl
  have hg := getV_M fs n
  cases p with
  | nil =>
    rw [atV_one, if_neg hk, lastV, hg, ofMap_rise h, without_M]
    cases hx : getF fs n with
    | none =>
      simp only [stepO]
      by_cases h1 : o.kind = 1
      · simp [h1, updF]
      · simp [h1]
    | some y =>
      simp only [stepO]
      by_cases h1 : o.kind = 1
      · simp [h1, updF]
      · by_cases h2 : o.kind = 2
        · simp [h2, updF]
        · by_cases h3 : y.kind = 2
          · by_cases h4 : (addI y.num o.val.num).2 = false
            · simp [h1, h2, h3, h4]
            · simp [h1, h2, h3, h4, updF, ofMap_rise h]
          · simp [h1, h2, h3]
  | cons m p =>
    rw [atV_more, if_neg hk, hg]
    cases hx : getF fs n with
    | none => simp [stepO]
    | some y =>
      simp only [stepO]
      by_cases h3 : (atV o y (m :: p)).2 = 0
      · simp [h3, updF, ofMap_rise h]
      · simp [h3]
theorem getF_upd (fs : List F) (n m : List UInt8) (x : Option V) : getF (updF fs n x) m = if m = n then x else getF fs m := by
  cases x with
  | some x =>
    show getF (putF fs (.mk n x)) m = _
    by_cases e : m = n
    · rw [if_pos e, e]; exact getF_put fs (.mk n x)
    · rw [if_neg e, getF_other _ _ _ (by show ¬ n = m; exact fun h => e h.symm)]
  | none => exact getF_del fs n m
theorem getF_upd_ne (fs : List F) {n m : List UInt8} (h : ¬ m = n) (x : Option V) : getF (updF fs n x) m = getF fs m := by rw [getF_upd, if_neg h]
theorem rises_upd {fs : List F} (h : rises fs = true) (n : List UInt8) (x : Option V) : rises (updF fs n x) = true := by
  cases x with
  | some x => exact putF_rises _ h
  | none => exact rises_del n h
theorem upd_comm {fs : List F} (h : rises fs = true) {n m : List UInt8} (hn : ¬ n = m) (a b : Option V) : updF (updF fs n a) m b = updF (updF fs m b) n a := by
  refine fields_ext (rises_upd (rises_upd h _ _) _ _) (rises_upd (rises_upd h _ _) _ _) fun k => ?_
  rw [getF_upd, getF_upd, getF_upd, getF_upd]
  by_cases e1 : k = m
  · rw [if_pos e1, if_neg (fun e => hn (e.symm.trans e1)), if_pos e1]
  · rw [if_neg e1]
    by_cases e2 : k = n
    · rw [if_pos e2, if_pos e2]
    · rw [if_neg e2, if_neg e2, if_neg e1]
theorem right_put {fs : List F} {d : Nat} (h : rightV (d + 1) (M fs) = true) (n : List UInt8) {x : V} (hx : rightV d x = true) : rightV (d + 1) (M (putF fs (.mk n x))) = true := by
  rw [map_right, Bool.and_eq_true] at h ⊢
  refine ⟨putF_rises _ h.1, ?_⟩
  rw [List.all_eq_true] at h ⊢
  intro f hf
  rcases putF_name hf with rfl | hf
  · exact hx
  · exact h.2 f hf
theorem right_del {fs : List F} {d : Nat} (h : rightV (d + 1) (M fs) = true) (n : List UInt8) : rightV (d + 1) (M (delF fs n)) = true := by
  rw [map_right, Bool.and_eq_true] at h ⊢
  refine ⟨rises_del n h.1, ?_⟩
  rw [List.all_eq_true] at h ⊢
  exact fun f hf => h.2 f (List.mem_filter.1 hf).1
theorem add_zero_i64 {k : Int} (hk : i64 k) : addI 0 k = (k, true) := by
  unfold addI
  rw [Int.zero_add, wrap_i64 (by unfold i64 at hk; omega)]
  simp
theorem right_set (n : List UInt8) (k : Int) : rightO ⟨1, [n], ofInt k⟩ = true := by rw [rightO_eq]; simp [right_int]
theorem right_add (n : List UInt8) (k : Int) : rightO ⟨3, [n], ofInt k⟩ = true := by
  rw [rightO_eq]
  have h1 : rightV 32 (ofInt k) = true := right_int 31 k
  have h2 : (ofInt k).kind = 2 := rfl
  simp [h1, h2]
theorem right_V0 : rightV 32 V0 = true := rfl
theorem right_drop (n : List UInt8) : rightO ⟨2, [n], V0⟩ = true := by
  rw [rightO_eq]
  have h2 : V0.kind = 0 := rfl
  simp [right_V0, h2]
def twice (fs : List F) (n : List UInt8) (k : Int) : List F := putF (putF fs (.mk n (ofInt 0))) (.mk n (ofInt k))
theorem twice_law {v : V} (hv : rightV 32 v = true) (hk : v.kind = 5) (n : List UInt8) {k : Int} (h64 : i64 k) :
    applyV v [⟨1, [n], ofInt 0⟩, ⟨3, [n], ofInt k⟩] = (M (twice v.fields n k), 0) ∧ getV (M (twice v.fields n k)) n = (ofInt k, true) ∧ applyV (M (twice v.fields n k)) [⟨2, [n], V0⟩] = (M (delF (twice v.fields n k) n), 0) ∧
      ((getV v n).2 = false → M (delF (twice v.fields n k) n) = v) := by
  obtain ⟨hM, hr⟩ := map_of hv hk
  generalize v.fields = fs at hM hr
  subst hM
  have h1 : rises (putF fs (.mk n (ofInt 0))) = true := putF_rises _ hr
  have h2 : rises (twice fs n k) = true := putF_rises _ h1
  have g1 : getF (putF fs (.mk n (ofInt 0))) n = some (ofInt 0) := getF_put fs (.mk n (ofInt 0))
  have g2 : getF (twice fs n k) n = some (ofInt k) := getF_put _ (.mk n (ofInt k))
  have s1 : atV ⟨1, [n], ofInt 0⟩ (M fs) [n] = (M (putF fs (.mk n (ofInt 0))), 0) := by
    rw [at_step _ hr n []]
    cases getF fs n <;> simp [stepO, updF]
  have s2 : atV ⟨3, [n], ofInt k⟩ (M (putF fs (.mk n (ofInt 0)))) [n] = (M (twice fs n k), 0) := by
    rw [at_step _ h1 n [], g1]
    simp [stepO, updF, twice, ofInt, V.kind, V.num, add_zero_i64 h64]
  have s3 : atV ⟨2, [n], V0⟩ (M (twice fs n k)) [n] = (M (delF (twice fs n k) n), 0) := by
    rw [at_step _ h2 n [], g2]
    simp [stepO, updF]
  have r1 : rightV 32 (M (twice fs n k)) = true := right_put (right_put hv n (right_int 30 0)) n (right_int 30 k)
  refine ⟨?_, ?_, ?_, fun h => ?_⟩
  · have e : applyV (M fs) [⟨1, [n], ofInt 0⟩, ⟨3, [n], ofInt k⟩] = allV (M fs) [⟨1, [n], ofInt 0⟩, ⟨3, [n], ofInt k⟩] := by simp [applyV, right_set, right_add]
    rw [e, allV_cons]
    simp only [s1, ne_eq, not_true_eq_false, if_false]
    rw [allV_cons]
    simp only [s2, ne_eq, not_true_eq_false, if_false]
    rw [allV, r1]; rfl
  · rw [getV_M, g2]
  · have e : applyV (M (twice fs n k)) [⟨2, [n], V0⟩] = allV (M (twice fs n k)) [⟨2, [n], V0⟩] := by simp [applyV, right_drop]
    rw [e, allV_cons]
    simp only [s3, ne_eq, not_true_eq_false, if_false]
    rw [allV, right_del r1 n]; rfl
  · have h0 : getF fs n = none := by
      rw [getV_M] at h
      cases hg : getF fs n with
      | none => rfl
      | some x => rw [hg] at h; cases h
    have e1 : twice fs n k = putF fs (.mk n (ofInt k)) := by
      refine fields_ext (putF_rises _ h1) (putF_rises _ hr) fun m => ?_
      by_cases hm : m = n
      · subst hm; rw [g2]; exact (getF_put fs (.mk m (ofInt k))).symm
      · unfold twice
        rw [getF_other _ _ _ (fun e => hm e.symm), getF_other _ _ _ (fun e => hm e.symm), getF_other _ _ _ (fun e => hm e.symm)]
    rw [e1]
    exact congrArg M (del_put hr h0)
theorem orders_law {v : V} {a b : Opn} (hv : rightV 32 v = true) (ha : rightO a = true) (hb : rightO b = true) {n m : List UInt8} {p q : List (List UInt8)} (hp : a.path = n :: p) (hq : b.path = m :: q) (hne : ¬ n = m) :
    ((applyV v [a, b]).2 = 0 ↔ (applyV v [b, a]).2 = 0) ∧ ((applyV v [a, b]).2 = 0 → (applyV v [a, b]).1 = (applyV v [b, a]).1) := by
  have e1 : applyV v [a, b] = allV v [a, b] := by simp [applyV, ha, hb]
  have e2 : applyV v [b, a] = allV v [b, a] := by simp [applyV, ha, hb]
  rw [e1, e2]
  by_cases hk : v.kind = 5
  · obtain ⟨hM, hr⟩ := map_of hv hk
    generalize v.fields = fs at hM hr
    subst hM
    have sa := at_step a hr n p
    have sb := at_step b hr m q
    rw [allV_cons, allV_cons (M fs) b, hp, hq, sa, sb]
    by_cases ea : (stepO a p (getF fs n)).1 = 0
    · rw [if_neg (show ¬ (stepO a p (getF fs n)).1 ≠ 0 from fun h => h ea)]
      have tb := at_step b (rises_upd hr n (stepO a p (getF fs n)).2) m q
      rw [getF_upd_ne _ (fun e => hne e.symm)] at tb
      simp only [ne_eq, not_true_eq_false, if_false]
      rw [allV_cons, hq, tb]
      by_cases eb : (stepO b q (getF fs m)).1 = 0
      · have ta := at_step a (rises_upd hr m (stepO b q (getF fs m)).2) n p
        rw [getF_upd_ne _ hne] at ta
        simp only [eb, ne_eq, not_true_eq_false, if_false]
        rw [allV_cons, hp, ta]
        simp only [ea, ne_eq, not_true_eq_false, if_false]
        rw [upd_comm hr hne]
        exact ⟨Iff.rfl, fun _ => rfl⟩
      · simp [eb]
    · rw [if_pos ea]
      have hA : ¬ (V0, (stepO a p (getF fs n)).1).2 = 0 := ea
      rw [if_pos hA]
      refine ⟨⟨fun h => absurd h ea, fun h => ?_⟩, fun h => absurd h ea⟩
      exfalso
      by_cases eb : (stepO b q (getF fs m)).1 = 0
      · have ta := at_step a (rises_upd hr m (stepO b q (getF fs m)).2) n p
        rw [getF_upd_ne _ hne] at ta
        simp only [eb, ne_eq, not_true_eq_false, if_false] at h
        rw [allV_cons, hp, ta] at h
        simp [ea] at h
      · simp [eb] at h
  · have hx : ∀ (o : Opn) (p : List (List UInt8)), atV o v p = (V0, 5) := by
      intro o p
      match p with
      | [] => simp [atV, hk]
      | [_] => simp [atV, hk]
      | _ :: _ :: _ => rw [atV_more, if_pos hk]
    have h5 : ∀ o o' : Opn, (allV v [o, o']).2 = 5 := by intro o o'; rw [allV_cons, hx]; simp
    rw [h5, h5]
    exact ⟨Iff.rfl, fun h => absurd h (by decide)⟩
end Go.AV.Patch
namespace Go.AV.Patch
open Go.AV.Ord Go.AV.Oct Go.AV.Val
def eL (fs : List F) : List (List UInt8 × DV) := fs.foldl (fun es f => putE es f.name (.agg (vC f.val))) []
theorem eL_snoc (fs : List F) (f : F) : eL (fs ++ [f]) = putE (eL fs) f.name (.agg (vC f.val)) := by simp [eL, List.foldl_append]
theorem getE_put : ∀ (es : List (List UInt8 × DV)) (k n : List UInt8) (v : DV), getE (putE es k v) n = if k = n then some v else getE es n
  | [], k, n, v => by simp [putE, getE]
  | e :: es, k, n, v => by
    unfold putE
    by_cases hk : e.1 = k
    · rw [if_pos hk]
      simp only [getE]
      by_cases hn : k = n
      · simp [hn]
      · have : ¬ e.1 = n := fun h => hn (hk.symm.trans h)
        simp [hn, this]
    · rw [if_neg hk]
      simp only [getE, getE_put es k n v]
      by_cases he : e.1 = n
      · have : ¬ k = n := fun h => hk (he.trans h.symm)
        simp [he, this]
      · simp [he]
theorem putE_len : ∀ (es : List (List UInt8 × DV)) (k : List UInt8) (v : DV), (putE es k v).length = es.length + (if (getE es k).isSome then 0 else 1)
  | [], k, v => by simp [putE, getE]
  | e :: es, k, v => by
    unfold putE
    by_cases hk : e.1 = k
    · simp [hk, getE]
    · simp only [if_neg hk, getE, List.length_cons, putE_len es k v]
      split <;> omega
theorem mem_put : ∀ {es : List (List UInt8 × DV)} {k : List UInt8} {v : DV} {x : List UInt8 × DV}, x ∈ putE es k v → x = (k, v) ∨ x ∈ es
  | [], _, _, x, h => by simp [putE] at h; exact .inl h
  | e :: es, k, v, x, h => by
    unfold putE at h
    by_cases hk : e.1 = k
    · rw [if_pos hk] at h
      rcases List.mem_cons.1 h with h | h
      · exact .inl h
      · exact .inr (List.mem_cons_of_mem _ h)
    · rw [if_neg hk] at h
      rcases List.mem_cons.1 h with h | h
      · exact .inr (by rw [h]; exact List.mem_cons_self ..)
      · rcases mem_put h with h | h
        · exact .inl h
        · exact .inr (List.mem_cons_of_mem _ h)
def Once (es : List (List UInt8 × DV)) : Prop := (es.map (·.1)).Nodup
theorem Once.put : ∀ {es : List (List UInt8 × DV)} (k : List UInt8) (v : DV), Once es → Once (putE es k v)
  | [], k, v, _ => by simp [putE, Once]
  | e :: es, k, v, h => by
    have h2 := List.nodup_cons.1 (show ((e :: es).map (·.1)).Nodup from h)
    unfold putE
    by_cases hk : e.1 = k
    · rw [if_pos hk]
      exact List.nodup_cons.2 ⟨by rw [← hk]; exact h2.1, h2.2⟩
    · rw [if_neg hk]
      refine List.nodup_cons.2 ⟨fun hm => ?_, Once.put k v h2.2⟩
      obtain ⟨x, hx, hxe⟩ := List.mem_map.1 hm
      rcases mem_put hx with rfl | hx
      · exact hk hxe.symm
      · exact h2.1 (hxe ▸ List.mem_map.2 ⟨x, hx, rfl⟩)
theorem Once.get : ∀ {es : List (List UInt8 × DV)} {k : List UInt8} {d : DV}, Once es → (k, d) ∈ es → getE es k = some d
  | [], _, _, _, h => by cases h
  | e :: es, k, d, h, hm => by
    have h2 := List.nodup_cons.1 (show ((e :: es).map (·.1)).Nodup from h)
    unfold getE
    rcases List.mem_cons.1 hm with rfl | hm
    · rw [if_pos rfl]
    · have : ¬ e.1 = k := fun he => h2.1 (by show e.1 ∈ _; rw [he]; exact List.mem_map.2 ⟨(k, d), hm, rfl⟩)
      rw [if_neg this]
      exact Once.get h2.2 hm
theorem snoc_ind {α : Type} {p : List α → Prop} (h0 : p []) (h1 : ∀ l x, p l → p (l ++ [x])) (l : List α) : p l := by
  have : ∀ m : List α, p m.reverse := fun m => by
    induction m with
    | nil => exact h0
    | cons x m ih => rw [List.reverse_cons]; exact h1 _ _ ih
  simpa using this l.reverse
theorem eL_get (fs : List F) : ∀ n, getE (eL fs) n = (getF (ofF fs) n).map fun v => DV.agg (vC v) := by
  refine snoc_ind (p := fun fs => ∀ n, getE (eL fs) n = (getF (ofF fs) n).map fun v => DV.agg (vC v)) (fun n => rfl) (fun l f ih n => ?_) fs
  rw [eL_snoc, ofF_snoc, getE_put]
  by_cases hn : f.name = n
  · subst hn; rw [if_pos rfl, getF_put]; rfl
  · rw [if_neg hn, getF_other _ _ _ hn, ih]
theorem putF_lenG : ∀ (l : List F) (f : F), rises l = true → (putF l f).length = l.length + (if (getF l f.name).isSome then 0 else 1)
  | [], f, _ => by simp [putF, getF]
  | g :: l, f, h => by
    rw [getF_cons, putF]
    by_cases h1 : Op.bytesLess g.name f.name = true
    · have hne : ¬ g.name = f.name := less_ne h1
      rw [if_pos h1, if_neg hne, List.length_cons, putF_lenG l f (rises_tail h), List.length_cons]
      omega
    · rw [if_neg h1]
      by_cases h2 : g.name = f.name
      · simp [h2]
      · rw [if_neg (by simpa using h2), if_neg h2]
        have hlt : Op.bytesLess f.name g.name = true := by
          rw [less_total h2]; simpa using h1
        rw [getF_below h (.inr hlt)]
        simp
theorem getF_at : ∀ {l : List F} {i : Nat} {f : F}, rises l = true → l[i]? = some f → getF l f.name = some f.val
  | [], _, _, _, h => by simp at h
  | g :: l, 0, f, _, h => by
    simp at h
    subst h
    rw [getF_cons, if_pos rfl]
  | g :: l, i + 1, f, hr, h => by
    simp only [List.getElem?_cons_succ] at h
    have hlt := rises_all hr f (List.mem_of_getElem? h)
    rw [getF_cons, if_neg (less_ne hlt)]
    exact getF_at (rises_tail hr) h
theorem rises_at {l : List F} {i : Nat} {f g : F} (hr : rises l = true) (h1 : l[i]? = some f) (h2 : l[i + 1]? = some g) : Op.bytesLess f.name g.name = true := by
  induction l generalizing i with
  | nil => simp at h1
  | cons a l ih =>
    cases i with
    | zero =>
      simp at h1
      subst h1
      exact rises_all hr g (List.mem_of_getElem? (by simpa using h2))
    | succ i => exact ih (rises_tail hr) (by simpa using h1) (by simpa using h2)
theorem ofMapV_M (fs : List F) : ofMapV fs = M (ofF fs) := rfl
theorem fields_law (fs : List F) (n0 : List UInt8) (x : V) :
    (∃ gx gb, getV (M (ofF fs)) n0 = (gx, gb) ∧ (getE (eL fs) n0).isSome = gb ∧ (getE (eL fs) n0).getD (.agg (vC V0)) = .agg (vC gx)) ∧
    getV (withV (M (ofF fs)) n0 x) n0 = (x, true) ∧ getV (withoutV (M (ofF fs)) n0) n0 = (V0, false) ∧
    ∀ n v, ¬ n = n0 → getF (ofF fs) n = some v → getV (withV (M (ofF fs)) n0 x) n = (v, true) ∧ getV (withoutV (M (ofF fs)) n0) n = (v, true) := by
  have hw : withV (M (ofF fs)) n0 x = M (putF (ofF fs) ⟨n0, x⟩) := by
    show (if (5 : Int) = 5 then ofMapV (ofF fs ++ [⟨n0, x⟩]) else _) = _
    rw [if_pos rfl, ofMapV_M, ofF_snoc, ofF_self (ofF_rises fs)]
  refine ⟨?_, ?_, ?_, fun n v hn hv => ⟨?_, ?_⟩⟩
  · rw [getV_M, eL_get]
    cases getF (ofF fs) n0 with
    | none => exact ⟨_, _, rfl, rfl, rfl⟩
    | some v => exact ⟨_, _, rfl, rfl, rfl⟩
  · rw [hw, getV_M, show getF (putF (ofF fs) ⟨n0, x⟩) n0 = some x from getF_put _ _]
  · rw [without_M, getV_M, getF_del, if_pos rfl]
  · rw [hw, getV_M, getF_other (ofF fs) ⟨n0, x⟩ n (fun e : n0 = n => hn e.symm), hv]
  · rw [without_M, getV_M, getF_del, if_neg hn, hv]
theorem fields_small {fs : List F} (h : ∀ f ∈ fs, fewV 7 f.val = true) : (∀ f ∈ ofF fs, SmallV f.val) ∧ (∀ n v, getF (ofF fs) n = some v → SmallV v) ∧ ∀ n, SmallV (getV (M (ofF fs)) n).1 := by
  have h1 : ∀ f ∈ ofF fs, SmallV f.val := fun f hf => few_small 7 _ (h f (ofF_mem hf))
  have h2 : ∀ n v, getF (ofF fs) n = some v → SmallV v := fun n v hv => by
    obtain ⟨f, hf, rfl⟩ := getF_mem hv
    exact h1 f hf
  refine ⟨h1, h2, fun n => ?_⟩
  rw [getV_M]
  cases hq : getF (ofF fs) n with
  | none => exact (BndV.v0 (m := 8)).small (by decide)
  | some v => exact h2 n v hq
end Go.AV.Patch
namespace Go.AV
theorem Ext.at0 {Hs H : HS} {m : MB} {l : List MB} (h : Ext (Hs.addM (m :: l)) H) : H.maps[Hs.nm]? = some m := by
  rw [h.maps]
  show (Hs.maps ++ (m :: l))[Hs.maps.length]? = some m
  rw [List.getElem?_append_right (Nat.le_refl _), Nat.sub_self]; rfl
theorem Ext.at1 {Hs H : HS} {m m' : MB} {l : List MB} {b : Nat} (h : Ext (Hs.addM (m :: m' :: l)) H) (hb : b = Hs.nm + 1) : H.maps[b]? = some m' := by
  subst hb
  rw [h.maps]
  show (Hs.maps ++ (m :: m' :: l))[Hs.maps.length + 1]? = some m'
  rw [List.getElem?_append_right (by omega), Nat.add_sub_cancel_left]; rfl
theorem Ext.set0 {Hs H : HS} {m : MB} {l : List MB} (h : Ext (Hs.addM (m :: l)) H) (m' : MB) : Ext (Hs.addM (m' :: l)) (H.setM Hs.nm m') :=
  ⟨h.blks, h.toks, by
    show H.maps.set Hs.nm m' = _
    rw [h.maps]
    show (Hs.maps ++ (m :: l)).set Hs.maps.length m' = Hs.maps ++ (m' :: l)
    rw [List.set_append_right _ _ (Nat.le_refl _), Nat.sub_self]; rfl⟩
theorem Ext.set1 {Hs H : HS} {m m1 : MB} {l : List MB} {b : Nat} (h : Ext (Hs.addM (m :: m1 :: l)) H) (hb : b = Hs.nm + 1) (m' : MB) : Ext (Hs.addM (m :: m' :: l)) (H.setM b m') :=
  ⟨h.blks, h.toks, by
    subst hb
    show H.maps.set (Hs.nm + 1) m' = _
    rw [h.maps]
    show (Hs.maps ++ (m :: m1 :: l)).set (Hs.maps.length + 1) m' = Hs.maps ++ (m :: m' :: l)
    rw [List.set_append_right _ _ (by omega), Nat.add_sub_cancel_left]; rfl⟩
theorem NoIt.setM {H : HS} (h : NoIt H) (i : Nat) (es : List (List UInt8 × DV)) : NoIt (H.setM i (.map es)) := fun j o n q he => by
  have he' : (H.maps.set i (.map es))[j]? = some (.iter o n q) := he
  by_cases hj : i = j
  · subst hj
    by_cases hlt : i < H.maps.length
    · rw [List.getElem?_set_self hlt] at he'; cases he'
    · rw [List.set_eq_of_length_le (by omega)] at he'; exact h _ _ _ _ he'
  · rw [List.getElem?_set_ne hj] at he'; exact h _ _ _ _ he'
namespace Hist
open Go.AV.Ord Go.AV.Oct Go.AV.Patch
def bE (l : List (List UInt8)) : List (List UInt8 × DV) := l.map fun k => (k, TF true)
theorem getE_bE : ∀ (l : List (List UInt8)) (k : List UInt8), getE (bE l) k = if k ∈ l then some (TF true) else none
  | [], _ => rfl
  | x :: l, k => by
    show (if x = k then some (TF true) else getE (bE l) k) = _
    rw [getE_bE l k]
    by_cases h : x = k
    · subst h; simp
    · have : ¬ k = x := fun e => h e.symm
      rw [if_neg h]
      by_cases h2 : k ∈ l
      · rw [if_pos h2, if_pos (by simp [h2])]
      · rw [if_neg h2, if_neg (by simp [this, h2])]
theorem putE_bE : ∀ {l : List (List UInt8)} {k : List UInt8}, k ∉ l → putE (bE l) k (TF true) = bE (l ++ [k])
  | [], _, _ => rfl
  | x :: l, k, h => by
    simp only [List.mem_cons, not_or] at h
    show (if x = k then (k, TF true) :: bE l else (x, TF true) :: putE (bE l) k (TF true)) = _
    rw [if_neg (fun e => h.1 e.symm), putE_bE h.2]; rfl
section
variable {P : Program} {E : Operand → AV} {H : HS} {dst : Option Tmp} {ty : TypeId} {pos : String} {after : Array Edge} {gd : Option (Nat × Bool)}
theorem op_lookup_b {x k : Operand} {t kt et : TypeId} {id : Nat} {ss : List (List UInt8)} {l : List UInt8} (ht : P.underlying t = some (.map kt et)) (hkt : P.underlying kt = some .string) (hz : (P.info? et).map (·.zero) = some (some (.bool false)))
    (hx : E x = .map id) (hl : E k = .d (S l)) (hm : H.maps[id]? = some (.map (bE ss))) : OpR P ⟨dst, .lookup t x k false, ty, pos, after, gd⟩ E H (Ret (.d (TF (decide (l ∈ ss)))) H) := by
  have h := op_lookup (d0 := TF false) (dst := dst) (ty := ty) (pos := pos) (after := after) (gd := gd) ht hkt hz (fun _ => .v _ rfl) hx hl hm
  have e : (getE (bE ss) l).getD (TF false) = TF (decide (l ∈ ss)) := by
    rw [getE_bE]; by_cases h : l ∈ ss <;> simp [h]
  rwa [e] at h
def HoldsN (ss : List (List UInt8)) (es : List (List UInt8 × DV)) : Prop := ∀ k, getE es k = if ss.count k = 0 then none else some (I (ss.count k : Nat))
theorem HoldsN.nil : HoldsN [] [] := fun _ => rfl
theorem HoldsN.more {ss : List (List UInt8)} {es : List (List UInt8 × DV)} (h : HoldsN ss es) (k : List UInt8) : HoldsN (ss ++ [k]) (putE es k (I ((ss.count k : Nat) + 1 : Int))) := fun n => by
  rw [getE_put, List.count_append]
  by_cases hk : k = n
  · subst hk; simp
  · rw [if_neg hk, h n]
    have : [k].count n = 0 := by simp [hk]
    rw [this]; rfl
theorem op_lookup_n {x k : Operand} {t kt et : TypeId} {id : Nat} {ss : List (List UInt8)} {es : List (List UInt8 × DV)} {l : List UInt8} (hN : HoldsN ss es) (ht : P.underlying t = some (.map kt et)) (hkt : P.underlying kt = some .string) (hz : (P.info? et).map (·.zero) = some (some (.int .i64 0)))
    (hx : E x = .map id) (hl : E k = .d (S l)) (hm : H.maps[id]? = some (.map es)) : OpR P ⟨dst, .lookup t x k false, ty, pos, after, gd⟩ E H (Ret (.d (I (ss.count l : Nat))) H) := by
  have h := op_lookup (d0 := I 0) (dst := dst) (ty := ty) (pos := pos) (after := after) (gd := gd) ht hkt hz (fun _ => .v _ rfl) hx hl hm
  have e : (getE es l).getD (I 0) = I (ss.count l : Nat) := by
    rw [hN l]; by_cases h : ss.count l = 0 <;> simp [h]
  rwa [e] at h
end
def sound2 (came gone : List (List UInt8)) (e : Ev) : Option (List (List UInt8) × List (List UInt8)) :=
  if e.to = [] then (if e.id ∈ gone ∨ ¬ e.id ∈ came then none else some (came, gone ++ [e.id])) else
  if e.new.token ≠ [] ∧ e.new.token ≠ e.old.token ∧ e.old.token ≠ [] ∧ e.at_ < e.old.ready then none else some (came, gone)
def sound1 (came gone : List (List UInt8)) (e : Ev) : Option (List (List UInt8) × List (List UInt8)) :=
  if e.fr = [] ∧ e.id ∈ came then none else sound2 (if e.fr = [] then came ++ [e.id] else came) gone e
def soundT : List (List UInt8) → List (List UInt8) → List Ev → Bool
  | _, _, [] => true
  | c, g, e :: es => (sound1 c g e).elim false fun q => soundT q.1 q.2 es
def handed (e : Ev) : Bool := decide (e.new.token ≠ [] ∧ e.new.token ≠ e.old.token)
def leased (es : List Ev) : List (List UInt8) := (es.filter handed).map (·.id)
theorem leased_more {es : List Ev} {e : Ev} (h : e.new.token ≠ [] ∧ e.new.token ≠ e.old.token) : leased (es ++ [e]) = leased es ++ [e.id] := by
  simp [leased, List.filter_append, handed, h]
theorem leased_same {es : List Ev} {e : Ev} (h : ¬ (e.new.token ≠ [] ∧ e.new.token ≠ e.old.token)) : leased (es ++ [e]) = leased es := by
  have : handed e = false := by unfold handed; simpa using h
  simp [leased, List.filter_append, this]
theorem leased_len (es : List Ev) (k : List UInt8) : (leased es).count k ≤ es.length := by
  refine Nat.le_trans List.count_le_length ?_
  unfold leased
  rw [List.length_map]
  exact List.length_filter_le _ _
end Hist
end Go.AV
namespace Go.Proofs.Ytjbpfnoibeogbaa
open Go.AV Go.AV.Ord Go.AV.Oct Go.AV.Hist
set_option linter.unusedVariables false
set_option linter.unusedSimpArgs false
set_option maxHeartbeats 4000000 in
set_option maxRecDepth 100000 in
theorem sound_ok (Hs : HS) (es : List Ev) (hno : NoIt Hs) (hl : es.length ≤ 1000000) : ACalls Try.prog 49 [.d (.lst 15 (es.map eD))] Hs (fun av H' => ∃ ms, H' = Hs.addM ms ∧ NoIt H' ∧ av = .d (TF (soundT [] [] es))) := by
 refine ACalls.tidyA ?_
 refine acalls_of_aw Try.func49 rfl ?_
 refine aw_start (T' := ((.d (.lst 15 (es.map eD))) :: .un :: .un :: .un :: .un :: .un :: .un :: .un :: .un :: .un :: .un :: .un :: .un :: .un :: .un :: .un :: .un :: .un :: .un :: .un :: .un :: .un :: .un :: .un :: .un :: .un :: .un :: .un :: .un :: .un :: .un :: .un :: .un :: .un :: .un :: .un :: .un :: .un :: .un :: .un :: .un :: .un :: .un :: .un :: .un :: .un :: .un :: .un :: .un :: .un :: .un :: .un :: .un :: .un :: .un :: .un :: .un :: .un :: .un :: .un :: .un :: .un :: .un :: .un :: .un :: .un :: .un :: .un :: .un :: .un :: [])) rfl ?_
 refine aw_seq ?_
 refine aw_region ?_
 refine zst (op_assign_const (by rfl)) rfl (by dsimp only [zS, zN, zH, zT]) ?_
 refine al_end rfl ?_
 refine then_normal ?_
 refine aw_scope ?_
 refine aw_seq ?_
 refine aw_region ?_
 refine zst (op_makeMap) rfl (by dsimp only [zS, zN, zH, zT]) ?_
 refine zst (op_makeMap) rfl (by dsimp only [zS, zN, zH, zT]) ?_
 refine zst (op_assign_tmp (by rfl)) rfl (by dsimp only [zS, zN, zH, zT]) ?_
 refine zst (op_assign_tmp (by rfl)) rfl (by dsimp only [zS, zN, zH, zT]) ?_
 refine al_end rfl ?_
 refine then_normal ?_
 refine aw_seq ?_
 refine aw_label ?_
 refine then_normal ?_
 refine aw_seq ?_
 refine aw_seq ?_
 refine aw_region ?_
 refine zst (op_move_tmp (by rfl)) rfl (by dsimp only [zS, zN, zH, zT]) ?_
 refine zst (op_lenL Try.underlying42 (by first | exact LL.d _ _ | exact LL.own _ _ _ | exact LL.nil _ | assumption)) rfl (by dsimp only [zS, zN, zH, zT]) ?_
 refine zst (op_move_const (by rfl)) rfl (by dsimp only [zS, zN, zH, zT]) ?_
 refine al_end rfl ?_
 refine then_normal ?_
 refine aw_block ?_
 apply aw_loopF (fun n T H => ∃ (j : Nat) (b : Nat) (c0 : List (List UInt8)) (g0 : List (List UInt8)), T = (.un :: .un :: .un :: (.map Hs.nm) :: (.map b) :: .un :: .un :: .un :: .un :: (.d (.lst 15 (es.map eD))) :: (.d (I (es.map eD).length)) :: (.d (I j)) :: .un :: .un :: .un :: .un :: .un :: .un :: .un :: .un :: .un :: .un :: .un :: .un :: .un :: .un :: .un :: .un :: .un :: .un :: .un :: .un :: .un :: .un :: .un :: .un :: .un :: .un :: .un :: .un :: .un :: .un :: .un :: .un :: .un :: .un :: .un :: .un :: .un :: .un :: .un :: .un :: .un :: .un :: .un :: .un :: .un :: .un :: .un :: .un :: .un :: .un :: .un :: .un :: .un :: .un :: .un :: .un :: .un :: .un :: []) ∧ j ≤ es.length ∧ n = es.length - j ∧ b = Hs.nm + 1 ∧ soundT c0 g0 (es.drop j) = soundT [] [] es ∧ Ext (Hs.addM [.map (bE c0), .map (bE g0)]) H ∧ NoIt H) (es.length) (false :: false :: false :: true :: true :: false :: false :: false :: false :: true :: true :: true :: false :: false :: false :: false :: false :: false :: false :: false :: false :: false :: false :: false :: false :: false :: false :: false :: false :: false :: false :: false :: false :: false :: false :: false :: false :: false :: false :: false :: false :: false :: false :: false :: false :: false :: false :: false :: false :: false :: false :: false :: false :: false :: false :: false :: false :: false :: false :: false :: false :: false :: false :: false :: false :: false :: false :: false :: false :: false :: [])
 · (try dsimp only [maskT]); try exact rfl
 · rfl
 · exact ⟨0, _, [], [], rfl, by omega, rfl, by simp [HS.nm, HS.pushM], rfl, (Ext.pushAdd (ms := [.map []]) (Ext.pushAdd (ms := []) (by rw [addM_nil]; exact Ext.refl _))), (hno.push _).push _⟩
 rintro n T H ⟨j, b, c0, g0, rfl, hj, rfl, hbn, hev, hx, hni⟩
 refine aw_seq ?_
 refine aw_region ?_
 refine zst (op_ltI (by rfl) (by rfl)) rfl (by dsimp only [zS, zN, zH, zT]) ?_
 refine al_end rfl ?_
 refine then_normal ?_
 refine aw_seq ?_
 refine aw_cond rfl (fun hc1 => ?_) (fun hc1 => ?_)
 ·
  (try simp only [y1, y2, y3, y4, y5, y6, y7, y8, y9, y0, List.length_map] at hc1)
  (try simp only [List.length_map] at hc1)
  have hlt : j < es.length := by omega
  obtain ⟨e, he1⟩ : ∃ z0, es[j]? = some z0 := ⟨_, List.getElem?_eq_getElem hlt⟩
  rw [drop_one he1, soundT] at hev
  refine aw_skip ?_
  refine then_normal ?_
  refine aw_seq ?_
  refine aw_block ?_
  refine aw_seq ?_
  refine aw_region ?_
  refine zst (op_indexAddr (z := eD e) (cs := [I e.seq, I e.at_, S e.id, S e.fr, S e.to, S e.old.id, S e.old.body, I e.old.ready, I e.old.count, S e.old.token, S e.new.id, S e.new.body, I e.new.ready, I e.new.count, S e.new.token]) Try.underlying42 Sz60 (LL.d _ _) (by rfl) (by omega) (by rw [List.getElem?_map, show ((j : Nat) : Int).toNat = j from rfl, he1]; rfl) (by rfl)) rfl (by dsimp only [zS, zN, zH, zT]) ?_
  refine zst (op_load_elts (ds := eC e) Try.underlying60 (by rfl) Sz60 (by rfl) (Nat.le_of_ble_eq_true rfl) (by rfl)) rfl (by dsimp only [zS, zN, zH, zT]) ?_
  refine zst (op_alloc (Zr60) (by rfl)) rfl (by dsimp only [zS, zN, zH, zT]) ?_
  refine zst (op_storeB (vs := [.d (I e.seq), .d (I e.at_), .d (S e.id), .d (S e.fr), .d (S e.to), .d (S e.old.id), .d (S e.old.body), .d (I e.old.ready), .d (I e.old.count), .d (S e.old.token), .d (S e.new.id), .d (S e.new.body), .d (I e.new.ready), .d (I e.new.count), .d (S e.new.token)]) (b' := ⟨60, [.d (I e.seq), .d (I e.at_), .d (S e.id), .d (S e.fr), .d (S e.to), .d (S e.old.id), .d (S e.old.body), .d (I e.old.ready), .d (I e.old.count), .d (S e.old.token), .d (S e.new.id), .d (S e.new.body), .d (I e.new.ready), .d (I e.new.count), .d (S e.new.token)], false⟩) (H' := _) Sz60 (by rfl) push_at (by intro h; cases h) (by rfl) (by rfl) (Nat.le_of_ble_eq_true rfl) (by simp [AV.one, DV.one, TF, S, I, BY]) (by rfl) (by rfl) rfl) rfl (by dsimp only [zS, zN, zH, zT]) ?_
  refine al_end rfl ?_
  refine then_normal ?_
  apply aw_cutF (fun T H => ∃ (p : Nat) (c1 : List (List UInt8)), T = (.un :: .un :: .un :: (.map Hs.nm) :: (.map b) :: .un :: (.ptr p 0) :: .un :: .un :: (.d (.lst 15 (es.map eD))) :: (.d (I (es.map eD).length)) :: (.d (I j)) :: .un :: .un :: .un :: .un :: .un :: .un :: .un :: .un :: .un :: .un :: .un :: .un :: .un :: .un :: .un :: .un :: .un :: .un :: .un :: .un :: .un :: .un :: .un :: .un :: .un :: .un :: .un :: .un :: .un :: .un :: .un :: .un :: .un :: .un :: .un :: .un :: .un :: .un :: .un :: .un :: .un :: .un :: .un :: .un :: .un :: .un :: .un :: .un :: .un :: .un :: .un :: .un :: .un :: .un :: .un :: .un :: .un :: .un :: []) ∧ H.blks[p]? = some ⟨60, [.d (I e.seq), .d (I e.at_), .d (S e.id), .d (S e.fr), .d (S e.to), .d (S e.old.id), .d (S e.old.body), .d (I e.old.ready), .d (I e.old.count), .d (S e.old.token), .d (S e.new.id), .d (S e.new.body), .d (I e.new.ready), .d (I e.new.count), .d (S e.new.token)], false⟩ ∧ (sound2 c1 g0 e).elim false (fun q => soundT q.1 q.2 (es.drop (j + 1))) = soundT [] [] es ∧ Ext (Hs.addM [.map (bE c1), .map (bE g0)]) H ∧ NoIt H)
  ·
   refine aw_seq ?_
   refine aw_region ?_
   refine zst (by first | exact op_fieldAddr_ptr Try.underlying60 rfl Sz9 (by rfl) (by rfl) | exact op_fieldAddr_elt Try.underlying60 rfl Sz9 (by rfl) (by rfl) (by rfl)) rfl (by dsimp only [zS, zN, zH, zT]) ?_
   refine zst (by first | exact op_load_elt Try.underlying9 (by rfl) (by rfl) (by rfl) | exact op_load_ptr Try.underlying9 (by rfl) (by rfl) (by (try have l1 := lt_nb hb); repeat (first | assumption | exact push_at | exact setB_at push_at | (rw [pushM_blks]) | (rw [setM_blks]) | (rw [setB_ne (by simp only [setB_nb, push_nb, pushM_nb, setM_nb, ne_eq]; omega)]) | apply push_ne | apply setB_at)) (by rfl)) rfl (by dsimp only [zS, zN, zH, zT]) ?_
   refine zst (op_eqS (by rfl) (by rfl)) rfl (by dsimp only [zS, zN, zH, zT]) ?_
   refine al_end rfl ?_
   refine then_normal ?_
   refine aw_cond rfl (fun hc2 => ?_) (fun hc2 => ?_)
   ·
    (try simp only [y1, y2, y3, y4, y5, y6, y7, y8, y9, y0, List.length_map] at hc2)
    have hfr : e.fr = [] := by simpa using hc2
    refine aw_seq ?_
    refine aw_seq ?_
    refine aw_region ?_
    refine zst (op_move_tmp (by rfl)) rfl (by dsimp only [zS, zN, zH, zT]) ?_
    refine zst (by first | exact op_fieldAddr_ptr Try.underlying60 rfl Sz9 (by rfl) (by rfl) | exact op_fieldAddr_elt Try.underlying60 rfl Sz9 (by rfl) (by rfl) (by rfl)) rfl (by dsimp only [zS, zN, zH, zT]) ?_
    refine zst (by first | exact op_load_elt Try.underlying9 (by rfl) (by rfl) (by rfl) | exact op_load_ptr Try.underlying9 (by rfl) (by rfl) (by (try have l1 := lt_nb hb); repeat (first | assumption | exact push_at | exact setB_at push_at | (rw [pushM_blks]) | (rw [setM_blks]) | (rw [setB_ne (by simp only [setB_nb, push_nb, pushM_nb, setM_nb, ne_eq]; omega)]) | apply push_ne | apply setB_at)) (by rfl)) rfl (by dsimp only [zS, zN, zH, zT]) ?_
    refine zst (op_lookup_b Try.underlying149 Try.underlying9 Zr4 (by rfl) (by rfl) (Ext.at0 (by repeat (first | assumption | apply Ext.push | (refine Ext.setB ?_ (by have := nb_le hx; (try simp only [setB_nb, push_nb]); omega)))))) rfl (by dsimp only [zS, zN, zH, zT]) ?_
    refine al_end rfl ?_
    refine then_normal ?_
    refine aw_cond rfl (fun hc3 => ?_) (fun hc3 => ?_)
    ·
     (try simp only [y1, y2, y3, y4, y5, y6, y7, y8, y9, y0, List.length_map] at hc3)
     have hin : e.id ∈ c0 := by simpa using hc3
     rw [sound1, if_pos ⟨hfr, hin⟩] at hev
     refine aw_seq ?_
     refine aw_region ?_
     refine zst (op_assign_const (by rfl)) rfl (by dsimp only [zS, zN, zH, zT]) ?_
     refine al_end rfl ?_
     refine then_normal ?_
     refine aw_ret ?_
     refine then_ret (cut_ret (inBlock_ret (then_ret (again_ret (inBlock_ret (then_ret (noGo_ret ?_)))))))
     refine retPost1 rfl rfl ?_
     exact ⟨_, .d _, (by repeat (first | assumption | apply Ext.push | (refine Ext.setB ?_ (by have := nb_le hx; (try simp only [setB_nb, push_nb]); omega)))), _, rfl, NoIt.of (H := H) hni (show (Hs.addM _).maps = H.maps from (Ext.maps hx).symm), by rw [← hev]; rfl⟩
    ·
     (try simp only [y1, y2, y3, y4, y5, y6, y7, y8, y9, y0, List.length_map] at hc3)
     have hin : ¬ e.id ∈ c0 := by simpa using hc3
     rw [sound1, if_neg (fun h => hin h.2), if_pos hfr] at hev
     refine aw_skip ?_
     refine then_normal ?_
     refine aw_region ?_
     refine zst (op_move_tmp (by rfl)) rfl (by dsimp only [zS, zN, zH, zT]) ?_
     refine zst (by first | exact op_fieldAddr_ptr Try.underlying60 rfl Sz9 (by rfl) (by rfl) | exact op_fieldAddr_elt Try.underlying60 rfl Sz9 (by rfl) (by rfl) (by rfl)) rfl (by dsimp only [zS, zN, zH, zT]) ?_
     refine zst (by first | exact op_load_elt Try.underlying9 (by rfl) (by rfl) (by rfl) | exact op_load_ptr Try.underlying9 (by rfl) (by rfl) (by (try have l1 := lt_nb hb); repeat (first | assumption | exact push_at | exact setB_at push_at | (rw [pushM_blks]) | (rw [setM_blks]) | (rw [setB_ne (by simp only [setB_nb, push_nb, pushM_nb, setM_nb, ne_eq]; omega)]) | apply push_ne | apply setB_at)) (by rfl)) rfl (by dsimp only [zS, zN, zH, zT]) ?_
     refine zst (op_mapUpdate (d := TF true) Try.underlying149 Try.underlying9 (by rfl) (by rfl) (Weak.refl _) (Ext.at0 (by repeat (first | assumption | apply Ext.push | (refine Ext.setB ?_ (by have := nb_le hx; (try simp only [setB_nb, push_nb]); omega))))) (fun j n q => (hni.of rfl) j _ n q)) rfl (by dsimp only [zS, zN, zH, zT]) ?_
     refine al_end rfl ?_
     apply cut_to (false :: false :: false :: true :: true :: false :: true :: false :: false :: true :: true :: true :: false :: false :: false :: false :: false :: false :: false :: false :: false :: false :: false :: false :: false :: false :: false :: false :: false :: false :: false :: false :: false :: false :: false :: false :: false :: false :: false :: false :: false :: false :: false :: false :: false :: false :: false :: false :: false :: false :: false :: false :: false :: false :: false :: false :: false :: false :: false :: false :: false :: false :: false :: false :: false :: false :: false :: false :: false :: false :: [])
     · (try dsimp only [maskT]); try exact rfl
     · rfl
     exact ⟨_, _, rfl, (by (try have l1 := lt_nb hb); repeat (first | assumption | exact push_at | exact setB_at push_at | (rw [pushM_blks]) | (rw [setM_blks]) | (rw [setB_ne (by simp only [setB_nb, push_nb, pushM_nb, setM_nb, ne_eq]; omega)]) | apply push_ne | apply setB_at)), hev, by rw [← putE_bE hin]; exact Ext.set0 (by repeat (first | assumption | apply Ext.push | (refine Ext.setB ?_ (by have := nb_le hx; (try simp only [setB_nb, push_nb]); omega)))) _, NoIt.setM (hni.of rfl) _ _⟩
   ·
    (try simp only [y1, y2, y3, y4, y5, y6, y7, y8, y9, y0, List.length_map] at hc2)
    have hfr : ¬ e.fr = [] := by simpa using hc2
    rw [sound1, if_neg (fun h => hfr h.1), if_neg hfr] at hev
    refine aw_skip ?_
    apply cut_to (false :: false :: false :: true :: true :: false :: true :: false :: false :: true :: true :: true :: false :: false :: false :: false :: false :: false :: false :: false :: false :: false :: false :: false :: false :: false :: false :: false :: false :: false :: false :: false :: false :: false :: false :: false :: false :: false :: false :: false :: false :: false :: false :: false :: false :: false :: false :: false :: false :: false :: false :: false :: false :: false :: false :: false :: false :: false :: false :: false :: false :: false :: false :: false :: false :: false :: false :: false :: false :: false :: [])
    · (try dsimp only [maskT]); try exact rfl
    · rfl
    exact ⟨_, _, rfl, (by (try have l1 := lt_nb hb); repeat (first | assumption | exact push_at | exact setB_at push_at | (rw [pushM_blks]) | (rw [setM_blks]) | (rw [setB_ne (by simp only [setB_nb, push_nb, pushM_nb, setM_nb, ne_eq]; omega)]) | apply push_ne | apply setB_at)), hev, (by repeat (first | assumption | apply Ext.push | (refine Ext.setB ?_ (by have := nb_le hx; (try simp only [setB_nb, push_nb]); omega)))), hni.of rfl⟩
  rintro T H ⟨p, c1, rfl, hb, hev2, hx, hni⟩
  refine aw_seq ?_
  refine aw_seq ?_
  refine aw_region ?_
  refine zst (by first | exact op_fieldAddr_ptr Try.underlying60 rfl Sz9 (by rfl) (by rfl) | exact op_fieldAddr_elt Try.underlying60 rfl Sz9 (by rfl) (by rfl) (by rfl)) rfl (by dsimp only [zS, zN, zH, zT]) ?_
  refine zst (by first | exact op_load_elt Try.underlying9 (by rfl) (by rfl) (by rfl) | exact op_load_ptr Try.underlying9 (by rfl) (by rfl) (by (try have l1 := lt_nb hb); repeat (first | assumption | exact push_at | exact setB_at push_at | (rw [pushM_blks]) | (rw [setM_blks]) | (rw [setB_ne (by simp only [setB_nb, push_nb, pushM_nb, setM_nb, ne_eq]; omega)]) | apply push_ne | apply setB_at)) (by rfl)) rfl (by dsimp only [zS, zN, zH, zT]) ?_
  refine zst (op_eqS (by rfl) (by rfl)) rfl (by dsimp only [zS, zN, zH, zT]) ?_
  refine al_end rfl ?_
  refine then_normal ?_
  refine aw_cond rfl (fun hc4 => ?_) (fun hc4 => ?_)
  ·
   (try simp only [y1, y2, y3, y4, y5, y6, y7, y8, y9, y0, List.length_map] at hc4)
   have hto : e.to = [] := by simpa using hc4
   refine aw_seq ?_
   refine aw_seq ?_
   refine aw_region ?_
   refine zst (op_move_tmp (by rfl)) rfl (by dsimp only [zS, zN, zH, zT]) ?_
   refine zst (by first | exact op_fieldAddr_ptr Try.underlying60 rfl Sz9 (by rfl) (by rfl) | exact op_fieldAddr_elt Try.underlying60 rfl Sz9 (by rfl) (by rfl) (by rfl)) rfl (by dsimp only [zS, zN, zH, zT]) ?_
   refine zst (by first | exact op_load_elt Try.underlying9 (by rfl) (by rfl) (by rfl) | exact op_load_ptr Try.underlying9 (by rfl) (by rfl) (by (try have l1 := lt_nb hb); repeat (first | assumption | exact push_at | exact setB_at push_at | (rw [pushM_blks]) | (rw [setM_blks]) | (rw [setB_ne (by simp only [setB_nb, push_nb, pushM_nb, setM_nb, ne_eq]; omega)]) | apply push_ne | apply setB_at)) (by rfl)) rfl (by dsimp only [zS, zN, zH, zT]) ?_
   refine zst (op_lookup_b Try.underlying149 Try.underlying9 Zr4 (by rfl) (by rfl) (Ext.at1 (by repeat (first | assumption | apply Ext.push | (refine Ext.setB ?_ (by have := nb_le hx; (try simp only [setB_nb, push_nb]); omega)))) hbn)) rfl (by dsimp only [zS, zN, zH, zT]) ?_
   refine zst (op_move_tmp (by rfl)) rfl (by dsimp only [zS, zN, zH, zT]) ?_
   refine al_split 32 rfl (fun hg5 => ?_) (fun hg5 => ?_)
   ·
    (try simp only [y1, y2, y3, y4, y5, y6, y7, y8, y9, y0, List.length_map] at hg5)
    have hg : e.id ∈ g0 := by simpa using hg5
    rw [sound2, if_pos hto, if_pos (.inl hg)] at hev2
    apply al_normT
    · (try dsimp only [zS, zN, zH, zT]); try exact rfl
    refine zuw rfl rfl rfl rfl (by dsimp only [zS, zN, zH, zT]) ?_
    refine zuw rfl rfl rfl rfl (by dsimp only [zS, zN, zH, zT]) ?_
    refine zuw rfl rfl rfl rfl (by dsimp only [zS, zN, zH, zT]) ?_
    refine zuw rfl rfl rfl rfl (by dsimp only [zS, zN, zH, zT]) ?_
    refine zuw rfl rfl rfl rfl (by dsimp only [zS, zN, zH, zT]) ?_
    refine zst (op_pick_tt (by rfl) (val_const (by rfl))) rfl (by dsimp only [zS, zN, zH, zT]) ?_
    refine al_end rfl ?_
    refine then_normal ?_
    refine aw_cond rfl (fun _ => ?_) (fun h => by cases h)
    refine aw_seq ?_
    refine aw_region ?_
    refine zst (op_assign_const (by rfl)) rfl (by dsimp only [zS, zN, zH, zT]) ?_
    refine al_end rfl ?_
    refine then_normal ?_
    refine aw_ret ?_
    refine then_ret (then_ret (inBlock_ret (then_ret (again_ret (inBlock_ret (then_ret (noGo_ret ?_)))))))
    refine retPost1 rfl rfl ?_
    exact ⟨_, .d _, (by repeat (first | assumption | apply Ext.push | (refine Ext.setB ?_ (by have := nb_le hx; (try simp only [setB_nb, push_nb]); omega)))), _, rfl, NoIt.of (H := H) hni (show (Hs.addM _).maps = H.maps from (Ext.maps hx).symm), by rw [← hev2]; rfl⟩
   ·
    (try simp only [y1, y2, y3, y4, y5, y6, y7, y8, y9, y0, List.length_map] at hg5)
    have hg : ¬ e.id ∈ g0 := by simpa using hg5
    apply al_normT
    · (try dsimp only [zS, zN, zH, zT]); try exact rfl
    refine zsw rfl rfl rfl (op_move_tmp (by rfl)) (by dsimp only [zS, zN, zH, zT]) ?_
    refine zsw rfl rfl rfl (by first | exact op_fieldAddr_ptr Try.underlying60 rfl Sz9 (by rfl) (by rfl) | exact op_fieldAddr_elt Try.underlying60 rfl Sz9 (by rfl) (by rfl) (by rfl)) (by dsimp only [zS, zN, zH, zT]) ?_
    refine zsw rfl rfl rfl (by first | exact op_load_elt Try.underlying9 (by rfl) (by rfl) (by rfl) | exact op_load_ptr Try.underlying9 (by rfl) (by rfl) (by (try have l1 := lt_nb hb); repeat (first | assumption | exact push_at | exact setB_at push_at | (rw [pushM_blks]) | (rw [setM_blks]) | (rw [setB_ne (by simp only [setB_nb, push_nb, pushM_nb, setM_nb, ne_eq]; omega)]) | apply push_ne | apply setB_at)) (by rfl)) (by dsimp only [zS, zN, zH, zT]) ?_
    refine zsw rfl rfl rfl (op_lookup_b Try.underlying149 Try.underlying9 Zr4 (by rfl) (by rfl) (Ext.at0 (by repeat (first | assumption | apply Ext.push | (refine Ext.setB ?_ (by have := nb_le hx; (try simp only [setB_nb, push_nb]); omega)))))) (by dsimp only [zS, zN, zH, zT]) ?_
    refine zsw rfl rfl rfl (op_not (by rfl)) (by dsimp only [zS, zN, zH, zT]) ?_
    refine zst (op_pick_ff (by rfl) (val_tmp (by rfl))) rfl (by dsimp only [zS, zN, zH, zT]) ?_
    refine al_end rfl ?_
    refine then_normal ?_
    refine aw_cond rfl (fun hc7 => ?_) (fun hc7 => ?_)
    ·
     (try simp only [y1, y2, y3, y4, y5, y6, y7, y8, y9, y0, List.length_map] at hc7)
     have hn : ¬ e.id ∈ c1 := by simpa using hc7
     rw [sound2, if_pos hto, if_pos (.inr hn)] at hev2
     refine aw_seq ?_
     refine aw_region ?_
     refine zst (op_assign_const (by rfl)) rfl (by dsimp only [zS, zN, zH, zT]) ?_
     refine al_end rfl ?_
     refine then_normal ?_
     refine aw_ret ?_
     refine then_ret (then_ret (inBlock_ret (then_ret (again_ret (inBlock_ret (then_ret (noGo_ret ?_)))))))
     refine retPost1 rfl rfl ?_
     exact ⟨_, .d _, (by repeat (first | assumption | apply Ext.push | (refine Ext.setB ?_ (by have := nb_le hx; (try simp only [setB_nb, push_nb]); omega)))), _, rfl, NoIt.of (H := H) hni (show (Hs.addM _).maps = H.maps from (Ext.maps hx).symm), by rw [← hev2]; rfl⟩
    ·
     (try simp only [y1, y2, y3, y4, y5, y6, y7, y8, y9, y0, List.length_map] at hc7)
     have hn : e.id ∈ c1 := by simpa using hc7
     rw [sound2, if_pos hto, if_neg (fun h => h.elim hg (fun h => h hn))] at hev2
     refine aw_skip ?_
     refine then_normal ?_
     refine aw_seq ?_
     refine aw_region ?_
     refine zst (op_move_tmp (by rfl)) rfl (by dsimp only [zS, zN, zH, zT]) ?_
     refine zst (by first | exact op_fieldAddr_ptr Try.underlying60 rfl Sz9 (by rfl) (by rfl) | exact op_fieldAddr_elt Try.underlying60 rfl Sz9 (by rfl) (by rfl) (by rfl)) rfl (by dsimp only [zS, zN, zH, zT]) ?_
     refine zst (by first | exact op_load_elt Try.underlying9 (by rfl) (by rfl) (by rfl) | exact op_load_ptr Try.underlying9 (by rfl) (by rfl) (by (try have l1 := lt_nb hb); repeat (first | assumption | exact push_at | exact setB_at push_at | (rw [pushM_blks]) | (rw [setM_blks]) | (rw [setB_ne (by simp only [setB_nb, push_nb, pushM_nb, setM_nb, ne_eq]; omega)]) | apply push_ne | apply setB_at)) (by rfl)) rfl (by dsimp only [zS, zN, zH, zT]) ?_
     refine zst (op_mapUpdate (d := TF true) Try.underlying149 Try.underlying9 (by rfl) (by rfl) (Weak.refl _) (Ext.at1 (by repeat (first | assumption | apply Ext.push | (refine Ext.setB ?_ (by have := nb_le hx; (try simp only [setB_nb, push_nb]); omega)))) hbn) (fun j n q => (hni.of rfl) j _ n q)) rfl (by dsimp only [zS, zN, zH, zT]) ?_
     refine al_end rfl ?_
     refine then_normal ?_
     refine aw_exit ?_
     refine then_exit (inBlock_here (then_normal ?_))
     refine aw_region ?_
     refine zst (by first | exact op_add (by rfl) (by rfl) (wrap_i64 ⟨by omega, by omega⟩) | exact op_add (by rfl) (by rfl) (by rfl)) rfl (by dsimp only [zS, zN, zH, zT]) ?_
     refine zst (op_move_tmp (by rfl)) rfl (by dsimp only [zS, zN, zH, zT]) ?_
     refine al_end rfl ?_
     apply again_to (es.length - (j + 1)) (false :: false :: false :: true :: true :: false :: false :: false :: false :: true :: true :: true :: false :: false :: false :: false :: false :: false :: false :: false :: false :: false :: false :: false :: false :: false :: false :: false :: false :: false :: false :: false :: false :: false :: false :: false :: false :: false :: false :: false :: false :: false :: false :: false :: false :: false :: false :: false :: false :: false :: false :: false :: false :: false :: false :: false :: false :: false :: false :: false :: false :: false :: false :: false :: false :: false :: false :: false :: false :: false :: [])
     · (try dsimp only [maskT]); try exact rfl
     · rfl
     · omega
     exact ⟨j + 1, _, _, _, rfl, by omega, rfl, hbn, hev2, by rw [← putE_bE hg]; exact Ext.set1 (by repeat (first | assumption | apply Ext.push | (refine Ext.setB ?_ (by have := nb_le hx; (try simp only [setB_nb, push_nb]); omega)))) hbn _, NoIt.setM (hni.of rfl) _ _⟩
  ·
   (try simp only [y1, y2, y3, y4, y5, y6, y7, y8, y9, y0, List.length_map] at hc4)
   have hto : ¬ e.to = [] := by simpa using hc4
   refine aw_skip ?_
   refine then_normal ?_
   refine aw_seq ?_
   refine aw_region ?_
   refine zst (by first | exact op_fieldAddr_ptr Try.underlying60 rfl Sz58 (by rfl) (by rfl) | exact op_fieldAddr_elt Try.underlying60 rfl Sz58 (by rfl) (by rfl) (by rfl)) rfl (by dsimp only [zS, zN, zH, zT]) ?_
   refine zst (by first | exact op_fieldAddr_ptr Try.underlying58 rfl Sz9 (by rfl) (by rfl) | exact op_fieldAddr_elt Try.underlying58 rfl Sz9 (by rfl) (by rfl) (by rfl)) rfl (by dsimp only [zS, zN, zH, zT]) ?_
   refine zst (by first | exact op_load_elt Try.underlying9 (by rfl) (by rfl) (by rfl) | exact op_load_ptr Try.underlying9 (by rfl) (by rfl) (by (try have l1 := lt_nb hb); repeat (first | assumption | exact push_at | exact setB_at push_at | (rw [pushM_blks]) | (rw [setM_blks]) | (rw [setB_ne (by simp only [setB_nb, push_nb, pushM_nb, setM_nb, ne_eq]; omega)]) | apply push_ne | apply setB_at)) (by rfl)) rfl (by dsimp only [zS, zN, zH, zT]) ?_
   refine zst (op_neS (by rfl) (by rfl)) rfl (by dsimp only [zS, zN, zH, zT]) ?_
   refine zst (op_move_tmp (by rfl)) rfl (by dsimp only [zS, zN, zH, zT]) ?_
   refine al_split 46 rfl (fun hg8 => ?_) (fun hg8 => ?_)
   ·
    (try simp only [y1, y2, y3, y4, y5, y6, y7, y8, y9, y0, List.length_map] at hg8)
    have h1 : e.new.token ≠ [] := by simpa using hg8
    apply al_normT
    · (try dsimp only [zS, zN, zH, zT]); try exact rfl
    refine zsw rfl rfl rfl (by first | exact op_fieldAddr_ptr Try.underlying60 rfl Sz58 (by rfl) (by rfl) | exact op_fieldAddr_elt Try.underlying60 rfl Sz58 (by rfl) (by rfl) (by rfl)) (by dsimp only [zS, zN, zH, zT]) ?_
    refine zsw rfl rfl rfl (by first | exact op_fieldAddr_ptr Try.underlying58 rfl Sz9 (by rfl) (by rfl) | exact op_fieldAddr_elt Try.underlying58 rfl Sz9 (by rfl) (by rfl) (by rfl)) (by dsimp only [zS, zN, zH, zT]) ?_
    refine zsw rfl rfl rfl (by first | exact op_load_elt Try.underlying9 (by rfl) (by rfl) (by rfl) | exact op_load_ptr Try.underlying9 (by rfl) (by rfl) (by (try have l1 := lt_nb hb); repeat (first | assumption | exact push_at | exact setB_at push_at | (rw [pushM_blks]) | (rw [setM_blks]) | (rw [setB_ne (by simp only [setB_nb, push_nb, pushM_nb, setM_nb, ne_eq]; omega)]) | apply push_ne | apply setB_at)) (by rfl)) (by dsimp only [zS, zN, zH, zT]) ?_
    refine zsw rfl rfl rfl (by first | exact op_fieldAddr_ptr Try.underlying60 rfl Sz58 (by rfl) (by rfl) | exact op_fieldAddr_elt Try.underlying60 rfl Sz58 (by rfl) (by rfl) (by rfl)) (by dsimp only [zS, zN, zH, zT]) ?_
    refine zsw rfl rfl rfl (by first | exact op_fieldAddr_ptr Try.underlying58 rfl Sz9 (by rfl) (by rfl) | exact op_fieldAddr_elt Try.underlying58 rfl Sz9 (by rfl) (by rfl) (by rfl)) (by dsimp only [zS, zN, zH, zT]) ?_
    refine zsw rfl rfl rfl (by first | exact op_load_elt Try.underlying9 (by rfl) (by rfl) (by rfl) | exact op_load_ptr Try.underlying9 (by rfl) (by rfl) (by (try have l1 := lt_nb hb); repeat (first | assumption | exact push_at | exact setB_at push_at | (rw [pushM_blks]) | (rw [setM_blks]) | (rw [setB_ne (by simp only [setB_nb, push_nb, pushM_nb, setM_nb, ne_eq]; omega)]) | apply push_ne | apply setB_at)) (by rfl)) (by dsimp only [zS, zN, zH, zT]) ?_
    refine zsw rfl rfl rfl (op_neS (by rfl) (by rfl)) (by dsimp only [zS, zN, zH, zT]) ?_
    refine zst (op_pick_tt (by rfl) (val_tmp (by rfl))) rfl (by dsimp only [zS, zN, zH, zT]) ?_
    refine zst (op_move_tmp (by rfl)) rfl (by dsimp only [zS, zN, zH, zT]) ?_
    refine al_split 55 rfl (fun hg9 => ?_) (fun hg9 => ?_)
    ·
     (try simp only [y1, y2, y3, y4, y5, y6, y7, y8, y9, y0, List.length_map] at hg9)
     have h2 : e.new.token ≠ e.old.token := by simpa using hg9
     apply al_normT
     · (try dsimp only [zS, zN, zH, zT]); try exact rfl
     refine zsw rfl rfl rfl (by first | exact op_fieldAddr_ptr Try.underlying60 rfl Sz58 (by rfl) (by rfl) | exact op_fieldAddr_elt Try.underlying60 rfl Sz58 (by rfl) (by rfl) (by rfl)) (by dsimp only [zS, zN, zH, zT]) ?_
     refine zsw rfl rfl rfl (by first | exact op_fieldAddr_ptr Try.underlying58 rfl Sz9 (by rfl) (by rfl) | exact op_fieldAddr_elt Try.underlying58 rfl Sz9 (by rfl) (by rfl) (by rfl)) (by dsimp only [zS, zN, zH, zT]) ?_
     refine zsw rfl rfl rfl (by first | exact op_load_elt Try.underlying9 (by rfl) (by rfl) (by rfl) | exact op_load_ptr Try.underlying9 (by rfl) (by rfl) (by (try have l1 := lt_nb hb); repeat (first | assumption | exact push_at | exact setB_at push_at | (rw [pushM_blks]) | (rw [setM_blks]) | (rw [setB_ne (by simp only [setB_nb, push_nb, pushM_nb, setM_nb, ne_eq]; omega)]) | apply push_ne | apply setB_at)) (by rfl)) (by dsimp only [zS, zN, zH, zT]) ?_
     refine zsw rfl rfl rfl (op_neS (by rfl) (by rfl)) (by dsimp only [zS, zN, zH, zT]) ?_
     refine zst (op_pick_tt (by rfl) (val_tmp (by rfl))) rfl (by dsimp only [zS, zN, zH, zT]) ?_
     refine zst (op_move_tmp (by rfl)) rfl (by dsimp only [zS, zN, zH, zT]) ?_
     refine al_split 61 rfl (fun hg10 => ?_) (fun hg10 => ?_)
     ·
      (try simp only [y1, y2, y3, y4, y5, y6, y7, y8, y9, y0, List.length_map] at hg10)
      have h3 : e.old.token ≠ [] := by simpa using hg10
      apply al_normT
      · (try dsimp only [zS, zN, zH, zT]); try exact rfl
      refine zsw rfl rfl rfl (by first | exact op_fieldAddr_ptr Try.underlying60 rfl Sz58 (by rfl) (by rfl) | exact op_fieldAddr_elt Try.underlying60 rfl Sz58 (by rfl) (by rfl) (by rfl)) (by dsimp only [zS, zN, zH, zT]) ?_
      refine zsw rfl rfl rfl (by first | exact op_fieldAddr_ptr Try.underlying58 rfl Sz3 (by rfl) (by rfl) | exact op_fieldAddr_elt Try.underlying58 rfl Sz3 (by rfl) (by rfl) (by rfl)) (by dsimp only [zS, zN, zH, zT]) ?_
      refine zsw rfl rfl rfl (by first | exact op_load_elt Try.underlying3 (by rfl) (by rfl) (by rfl) | exact op_load_ptr Try.underlying3 (by rfl) (by rfl) (by (try have l1 := lt_nb hb); repeat (first | assumption | exact push_at | exact setB_at push_at | (rw [pushM_blks]) | (rw [setM_blks]) | (rw [setB_ne (by simp only [setB_nb, push_nb, pushM_nb, setM_nb, ne_eq]; omega)]) | apply push_ne | apply setB_at)) (by rfl)) (by dsimp only [zS, zN, zH, zT]) ?_
      refine zsw rfl rfl rfl (by first | exact op_fieldAddr_ptr Try.underlying60 rfl Sz3 (by rfl) (by rfl) | exact op_fieldAddr_elt Try.underlying60 rfl Sz3 (by rfl) (by rfl) (by rfl)) (by dsimp only [zS, zN, zH, zT]) ?_
      refine zsw rfl rfl rfl (by first | exact op_load_elt Try.underlying3 (by rfl) (by rfl) (by rfl) | exact op_load_ptr Try.underlying3 (by rfl) (by rfl) (by (try have l1 := lt_nb hb); repeat (first | assumption | exact push_at | exact setB_at push_at | (rw [pushM_blks]) | (rw [setM_blks]) | (rw [setB_ne (by simp only [setB_nb, push_nb, pushM_nb, setM_nb, ne_eq]; omega)]) | apply push_ne | apply setB_at)) (by rfl)) (by dsimp only [zS, zN, zH, zT]) ?_
      refine zsw rfl rfl rfl (op_gtI (by rfl) (by rfl)) (by dsimp only [zS, zN, zH, zT]) ?_
      refine zst (op_pick_tt (by rfl) (val_tmp (by rfl))) rfl (by dsimp only [zS, zN, zH, zT]) ?_
      refine al_end rfl ?_
      refine then_normal ?_
      refine aw_cond rfl (fun hc11 => ?_) (fun hc11 => ?_)
      ·
       (try simp only [y1, y2, y3, y4, y5, y6, y7, y8, y9, y0, List.length_map] at hc11)
       have hr : e.at_ < e.old.ready := by simpa using hc11
       rw [sound2, if_neg hto, if_pos ⟨h1, h2, h3, hr⟩] at hev2
       refine aw_seq ?_
       refine aw_region ?_
       refine zst (op_assign_const (by rfl)) rfl (by dsimp only [zS, zN, zH, zT]) ?_
       refine al_end rfl ?_
       refine then_normal ?_
       refine aw_ret ?_
       refine inBlock_ret (then_ret (again_ret (inBlock_ret (then_ret (noGo_ret ?_)))))
       refine retPost1 rfl rfl ?_
       exact ⟨_, .d _, (by repeat (first | assumption | apply Ext.push | (refine Ext.setB ?_ (by have := nb_le hx; (try simp only [setB_nb, push_nb]); omega)))), _, rfl, NoIt.of (H := H) hni (show (Hs.addM _).maps = H.maps from (Ext.maps hx).symm), by rw [← hev2]; rfl⟩
      ·
       (try simp only [y1, y2, y3, y4, y5, y6, y7, y8, y9, y0, List.length_map] at hc11)
       have hr : ¬ e.at_ < e.old.ready := by simpa using hc11
       rw [sound2, if_neg hto, if_neg (fun h => hr h.2.2.2)] at hev2
       refine aw_skip ?_
       refine inBlock_normal (then_normal ?_)
       refine aw_region ?_
       refine zst (by first | exact op_add (by rfl) (by rfl) (wrap_i64 ⟨by omega, by omega⟩) | exact op_add (by rfl) (by rfl) (by rfl)) rfl (by dsimp only [zS, zN, zH, zT]) ?_
       refine zst (op_move_tmp (by rfl)) rfl (by dsimp only [zS, zN, zH, zT]) ?_
       refine al_end rfl ?_
       apply again_to (es.length - (j + 1)) (false :: false :: false :: true :: true :: false :: false :: false :: false :: true :: true :: true :: false :: false :: false :: false :: false :: false :: false :: false :: false :: false :: false :: false :: false :: false :: false :: false :: false :: false :: false :: false :: false :: false :: false :: false :: false :: false :: false :: false :: false :: false :: false :: false :: false :: false :: false :: false :: false :: false :: false :: false :: false :: false :: false :: false :: false :: false :: false :: false :: false :: false :: false :: false :: false :: false :: false :: false :: false :: false :: [])
       · (try dsimp only [maskT]); try exact rfl
       · rfl
       · omega
       exact ⟨j + 1, _, _, _, rfl, by omega, rfl, hbn, hev2, (by repeat (first | assumption | apply Ext.push | (refine Ext.setB ?_ (by have := nb_le hx; (try simp only [setB_nb, push_nb]); omega)))), hni.of rfl⟩
     ·
      (try simp only [y1, y2, y3, y4, y5, y6, y7, y8, y9, y0, List.length_map] at hg10)
      have h3 : ¬ e.old.token ≠ [] := by simpa using hg10
      rw [sound2, if_neg hto, if_neg (fun h => h3 h.2.2.1)] at hev2
      apply al_normT
      · (try dsimp only [zS, zN, zH, zT]); try exact rfl
      refine zuw rfl rfl rfl rfl (by dsimp only [zS, zN, zH, zT]) ?_
      refine zuw rfl rfl rfl rfl (by dsimp only [zS, zN, zH, zT]) ?_
      refine zuw rfl rfl rfl rfl (by dsimp only [zS, zN, zH, zT]) ?_
      refine zuw rfl rfl rfl rfl (by dsimp only [zS, zN, zH, zT]) ?_
      refine zuw rfl rfl rfl rfl (by dsimp only [zS, zN, zH, zT]) ?_
      refine zuw rfl rfl rfl rfl (by dsimp only [zS, zN, zH, zT]) ?_
      refine zst (op_pick_ff (by rfl) (val_const (by rfl))) rfl (by dsimp only [zS, zN, zH, zT]) ?_
      refine al_end rfl ?_
      refine then_normal ?_
      refine aw_cond rfl (fun h => by cases h) (fun _ => ?_)
      refine aw_skip ?_
      refine inBlock_normal (then_normal ?_)
      refine aw_region ?_
      refine zst (by first | exact op_add (by rfl) (by rfl) (wrap_i64 ⟨by omega, by omega⟩) | exact op_add (by rfl) (by rfl) (by rfl)) rfl (by dsimp only [zS, zN, zH, zT]) ?_
      refine zst (op_move_tmp (by rfl)) rfl (by dsimp only [zS, zN, zH, zT]) ?_
      refine al_end rfl ?_
      apply again_to (es.length - (j + 1)) (false :: false :: false :: true :: true :: false :: false :: false :: false :: true :: true :: true :: false :: false :: false :: false :: false :: false :: false :: false :: false :: false :: false :: false :: false :: false :: false :: false :: false :: false :: false :: false :: false :: false :: false :: false :: false :: false :: false :: false :: false :: false :: false :: false :: false :: false :: false :: false :: false :: false :: false :: false :: false :: false :: false :: false :: false :: false :: false :: false :: false :: false :: false :: false :: false :: false :: false :: false :: false :: false :: [])
      · (try dsimp only [maskT]); try exact rfl
      · rfl
      · omega
      exact ⟨j + 1, _, _, _, rfl, by omega, rfl, hbn, hev2, (by repeat (first | assumption | apply Ext.push | (refine Ext.setB ?_ (by have := nb_le hx; (try simp only [setB_nb, push_nb]); omega)))), hni.of rfl⟩
    ·
     (try simp only [y1, y2, y3, y4, y5, y6, y7, y8, y9, y0, List.length_map] at hg9)
     have h2 : ¬ e.new.token ≠ e.old.token := by simpa using hg9
     rw [sound2, if_neg hto, if_neg (fun h => h2 h.2.1)] at hev2
     apply al_normT
     · (try dsimp only [zS, zN, zH, zT]); try exact rfl
     refine zuw rfl rfl rfl rfl (by dsimp only [zS, zN, zH, zT]) ?_
     refine zuw rfl rfl rfl rfl (by dsimp only [zS, zN, zH, zT]) ?_
     refine zuw rfl rfl rfl rfl (by dsimp only [zS, zN, zH, zT]) ?_
     refine zuw rfl rfl rfl rfl (by dsimp only [zS, zN, zH, zT]) ?_
     refine zst (op_pick_ff (by rfl) (val_const (by rfl))) rfl (by dsimp only [zS, zN, zH, zT]) ?_
     refine zst (op_move_tmp (by rfl)) rfl (by dsimp only [zS, zN, zH, zT]) ?_
     refine zuw rfl rfl rfl rfl (by dsimp only [zS, zN, zH, zT]) ?_
     refine zuw rfl rfl rfl rfl (by dsimp only [zS, zN, zH, zT]) ?_
     refine zuw rfl rfl rfl rfl (by dsimp only [zS, zN, zH, zT]) ?_
     refine zuw rfl rfl rfl rfl (by dsimp only [zS, zN, zH, zT]) ?_
     refine zuw rfl rfl rfl rfl (by dsimp only [zS, zN, zH, zT]) ?_
     refine zuw rfl rfl rfl rfl (by dsimp only [zS, zN, zH, zT]) ?_
     refine zst (op_pick_ff (by rfl) (val_const (by rfl))) rfl (by dsimp only [zS, zN, zH, zT]) ?_
     refine al_end rfl ?_
     refine then_normal ?_
     refine aw_cond rfl (fun h => by cases h) (fun _ => ?_)
     refine aw_skip ?_
     refine inBlock_normal (then_normal ?_)
     refine aw_region ?_
     refine zst (by first | exact op_add (by rfl) (by rfl) (wrap_i64 ⟨by omega, by omega⟩) | exact op_add (by rfl) (by rfl) (by rfl)) rfl (by dsimp only [zS, zN, zH, zT]) ?_
     refine zst (op_move_tmp (by rfl)) rfl (by dsimp only [zS, zN, zH, zT]) ?_
     refine al_end rfl ?_
     apply again_to (es.length - (j + 1)) (false :: false :: false :: true :: true :: false :: false :: false :: false :: true :: true :: true :: false :: false :: false :: false :: false :: false :: false :: false :: false :: false :: false :: false :: false :: false :: false :: false :: false :: false :: false :: false :: false :: false :: false :: false :: false :: false :: false :: false :: false :: false :: false :: false :: false :: false :: false :: false :: false :: false :: false :: false :: false :: false :: false :: false :: false :: false :: false :: false :: false :: false :: false :: false :: false :: false :: false :: false :: false :: false :: [])
     · (try dsimp only [maskT]); try exact rfl
     · rfl
     · omega
     exact ⟨j + 1, _, _, _, rfl, by omega, rfl, hbn, hev2, (by repeat (first | assumption | apply Ext.push | (refine Ext.setB ?_ (by have := nb_le hx; (try simp only [setB_nb, push_nb]); omega)))), hni.of rfl⟩
   ·
    (try simp only [y1, y2, y3, y4, y5, y6, y7, y8, y9, y0, List.length_map] at hg8)
    have h1 : ¬ e.new.token ≠ [] := by simpa using hg8
    rw [sound2, if_neg hto, if_neg (fun h => h1 h.1)] at hev2
    apply al_normT
    · (try dsimp only [zS, zN, zH, zT]); try exact rfl
    refine zuw rfl rfl rfl rfl (by dsimp only [zS, zN, zH, zT]) ?_
    refine zuw rfl rfl rfl rfl (by dsimp only [zS, zN, zH, zT]) ?_
    refine zuw rfl rfl rfl rfl (by dsimp only [zS, zN, zH, zT]) ?_
    refine zuw rfl rfl rfl rfl (by dsimp only [zS, zN, zH, zT]) ?_
    refine zuw rfl rfl rfl rfl (by dsimp only [zS, zN, zH, zT]) ?_
    refine zuw rfl rfl rfl rfl (by dsimp only [zS, zN, zH, zT]) ?_
    refine zuw rfl rfl rfl rfl (by dsimp only [zS, zN, zH, zT]) ?_
    refine zst (op_pick_ff (by rfl) (val_const (by rfl))) rfl (by dsimp only [zS, zN, zH, zT]) ?_
    refine zst (op_move_tmp (by rfl)) rfl (by dsimp only [zS, zN, zH, zT]) ?_
    refine zuw rfl rfl rfl rfl (by dsimp only [zS, zN, zH, zT]) ?_
    refine zuw rfl rfl rfl rfl (by dsimp only [zS, zN, zH, zT]) ?_
    refine zuw rfl rfl rfl rfl (by dsimp only [zS, zN, zH, zT]) ?_
    refine zuw rfl rfl rfl rfl (by dsimp only [zS, zN, zH, zT]) ?_
    refine zst (op_pick_ff (by rfl) (val_const (by rfl))) rfl (by dsimp only [zS, zN, zH, zT]) ?_
    refine zst (op_move_tmp (by rfl)) rfl (by dsimp only [zS, zN, zH, zT]) ?_
    refine zuw rfl rfl rfl rfl (by dsimp only [zS, zN, zH, zT]) ?_
    refine zuw rfl rfl rfl rfl (by dsimp only [zS, zN, zH, zT]) ?_
    refine zuw rfl rfl rfl rfl (by dsimp only [zS, zN, zH, zT]) ?_
    refine zuw rfl rfl rfl rfl (by dsimp only [zS, zN, zH, zT]) ?_
    refine zuw rfl rfl rfl rfl (by dsimp only [zS, zN, zH, zT]) ?_
    refine zuw rfl rfl rfl rfl (by dsimp only [zS, zN, zH, zT]) ?_
    refine zst (op_pick_ff (by rfl) (val_const (by rfl))) rfl (by dsimp only [zS, zN, zH, zT]) ?_
    refine al_end rfl ?_
    refine then_normal ?_
    refine aw_cond rfl (fun h => by cases h) (fun _ => ?_)
    refine aw_skip ?_
    refine inBlock_normal (then_normal ?_)
    refine aw_region ?_
    refine zst (by first | exact op_add (by rfl) (by rfl) (wrap_i64 ⟨by omega, by omega⟩) | exact op_add (by rfl) (by rfl) (by rfl)) rfl (by dsimp only [zS, zN, zH, zT]) ?_
    refine zst (op_move_tmp (by rfl)) rfl (by dsimp only [zS, zN, zH, zT]) ?_
    refine al_end rfl ?_
    apply again_to (es.length - (j + 1)) (false :: false :: false :: true :: true :: false :: false :: false :: false :: true :: true :: true :: false :: false :: false :: false :: false :: false :: false :: false :: false :: false :: false :: false :: false :: false :: false :: false :: false :: false :: false :: false :: false :: false :: false :: false :: false :: false :: false :: false :: false :: false :: false :: false :: false :: false :: false :: false :: false :: false :: false :: false :: false :: false :: false :: false :: false :: false :: false :: false :: false :: false :: false :: false :: false :: false :: false :: false :: false :: false :: [])
    · (try dsimp only [maskT]); try exact rfl
    · rfl
    · omega
    exact ⟨j + 1, _, _, _, rfl, by omega, rfl, hbn, hev2, (by repeat (first | assumption | apply Ext.push | (refine Ext.setB ?_ (by have := nb_le hx; (try simp only [setB_nb, push_nb]); omega)))), hni.of rfl⟩
 ·
  (try simp only [y1, y2, y3, y4, y5, y6, y7, y8, y9, y0, List.length_map] at hc1)
  (try simp only [List.length_map] at hc1)
  have hje : j = es.length := by omega
  subst hje
  rw [List.drop_length, soundT] at hev
  refine aw_exit ?_
  refine then_exit (again_exit (inBlock_here (then_normal ?_)))
  refine aw_seq ?_
  refine aw_region ?_
  refine zst (op_assign_const (by rfl)) rfl (by dsimp only [zS, zN, zH, zT]) ?_
  refine al_end rfl ?_
  refine then_normal ?_
  refine aw_ret ?_
  refine noGo_ret ?_
  refine retPost1 rfl rfl ?_
  exact ⟨_, .d _, (by repeat (first | assumption | apply Ext.push | (refine Ext.setB ?_ (by have := nb_le hx; (try simp only [setB_nb, push_nb]); omega)))), _, rfl, NoIt.of (H := H) hni (show (Hs.addM _).maps = H.maps from (Ext.maps hx).symm), by rw [← hev]; rfl⟩
set_option maxHeartbeats 4000000 in
set_option maxRecDepth 100000 in
theorem leases_ok (Hs : HS) (es : List Ev) (hno : NoIt Hs) (hl : es.length ≤ 1000000) : ACalls Try.prog 50 [.d (.lst 15 (es.map eD))] Hs (fun av H' => ∃ q, Ext (Hs.addM [.map q]) H' ∧ NoIt H' ∧ HoldsN (leased es) q ∧ av = .map Hs.nm) := by
 refine acalls_of_aw Try.func50 rfl ?_
 refine aw_start (T' := [.d (.lst 15 (es.map eD)), .un, .un, .un, .un, .un, .un, .un, .un, .un, .un, .un, .un, .un, .un, .un, .un, .un, .un, .un, .un, .un, .un, .un, .un, .un, .un, .un, .un, .un, .un, .un, .un]) rfl ?_
 refine aw_seq ?_
 refine aw_region ?_
 refine zst (op_assign_const (by rfl)) rfl (by dsimp only [zS, zN, zH, zT]) ?_
 refine al_end rfl ?_
 refine then_normal ?_
 refine aw_seq ?_
 refine aw_region ?_
 refine zst (op_makeMap) rfl (by dsimp only [zS, zN, zH, zT]) ?_
 refine zst (op_assign_tmp (by rfl)) rfl (by dsimp only [zS, zN, zH, zT]) ?_
 refine al_end rfl ?_
 refine then_normal ?_
 refine aw_seq ?_
 refine aw_seq ?_
 refine aw_region ?_
 refine zst (op_move_tmp (by rfl)) rfl (by dsimp only [zS, zN, zH, zT]) ?_
 refine zst (op_lenL Try.underlying42 (by first | exact LL.d _ _ | exact LL.own _ _ _ | exact LL.nil _ | assumption)) rfl (by dsimp only [zS, zN, zH, zT]) ?_
 refine zst (op_move_const (by rfl)) rfl (by dsimp only [zS, zN, zH, zT]) ?_
 refine al_end rfl ?_
 refine then_normal ?_
 refine aw_block ?_
 apply aw_loopF (fun n T H => ∃ (j : Nat) (q : List (List UInt8 × DV)), T = [.un, .un, .un, .map Hs.nm, .un, .un, .un, .d (.lst 15 (es.map eD)), .d (I (es.map eD).length), .d (I j), .un, .un, .un, .un, .un, .un, .un, .un, .un, .un, .un, .un, .un, .un, .un, .un, .un, .un, .un, .un, .un, .un, .un] ∧ j ≤ es.length ∧ n = es.length - j ∧ HoldsN (leased (es.take j)) q ∧ Ext (Hs.addM [.map q]) H ∧ NoIt H) (es.length) [false, false, false, true, false, false, false, true, true, true, false, false, false, false, false, false, false, false, false, false, false, false, false, false, false, false, false, false, false, false, false, false, false]
 · (try dsimp only [maskT]); try exact rfl
 · rfl
 · exact ⟨0, [], rfl, by omega, rfl, HoldsN.nil, (Ext.pushAdd (ms := []) (by rw [addM_nil]; exact Ext.refl _)), hno.push _⟩
 rintro n T H ⟨j, q, rfl, hj, rfl, hN, hx, hni⟩
 refine aw_seq ?_
 refine aw_region ?_
 refine zst (op_ltI (by rfl) (by rfl)) rfl (by dsimp only [zS, zN, zH, zT]) ?_
 refine al_end rfl ?_
 refine then_normal ?_
 refine aw_seq ?_
 refine aw_cond rfl (fun hc1 => ?_) (fun hc1 => ?_)
 ·
  (try simp only [y1, y2, y3, y4, y5, y6, y7, y8, y9, y0, List.length_map] at hc1)
  (try simp only [List.length_map] at hc1)
  have hlt : j < es.length := by omega
  obtain ⟨e, he1⟩ : ∃ z0, es[j]? = some z0 := ⟨_, List.getElem?_eq_getElem hlt⟩
  have hcl := leased_len (es.take j) e.id
  rw [List.length_take] at hcl
  refine aw_skip ?_
  refine then_normal ?_
  refine aw_seq ?_
  refine aw_block ?_
  refine aw_seq ?_
  refine aw_region ?_
  refine zst (op_indexAddr (z := eD e) (cs := [I e.seq, I e.at_, S e.id, S e.fr, S e.to, S e.old.id, S e.old.body, I e.old.ready, I e.old.count, S e.old.token, S e.new.id, S e.new.body, I e.new.ready, I e.new.count, S e.new.token]) Try.underlying42 Sz60 (LL.d _ _) (by rfl) (by omega) (by rw [List.getElem?_map, show ((j : Nat) : Int).toNat = j from rfl, he1]; rfl) (by rfl)) rfl (by dsimp only [zS, zN, zH, zT]) ?_
  refine zst (op_load_elts (ds := eC e) Try.underlying60 (by rfl) Sz60 (by rfl) (Nat.le_of_ble_eq_true rfl) (by rfl)) rfl (by dsimp only [zS, zN, zH, zT]) ?_
  refine zst (op_alloc (Zr60) (by rfl)) rfl (by dsimp only [zS, zN, zH, zT]) ?_
  refine zst (op_storeB (vs := [.d (I e.seq), .d (I e.at_), .d (S e.id), .d (S e.fr), .d (S e.to), .d (S e.old.id), .d (S e.old.body), .d (I e.old.ready), .d (I e.old.count), .d (S e.old.token), .d (S e.new.id), .d (S e.new.body), .d (I e.new.ready), .d (I e.new.count), .d (S e.new.token)]) (b' := ⟨60, [.d (I e.seq), .d (I e.at_), .d (S e.id), .d (S e.fr), .d (S e.to), .d (S e.old.id), .d (S e.old.body), .d (I e.old.ready), .d (I e.old.count), .d (S e.old.token), .d (S e.new.id), .d (S e.new.body), .d (I e.new.ready), .d (I e.new.count), .d (S e.new.token)], false⟩) (H' := _) Sz60 (by rfl) push_at (by intro h; cases h) (by rfl) (by rfl) (Nat.le_of_ble_eq_true rfl) (by simp [AV.one, DV.one, TF, S, I, BY]) (by rfl) (by rfl) rfl) rfl (by dsimp only [zS, zN, zH, zT]) ?_
  refine al_end rfl ?_
  refine then_normal ?_
  refine aw_seq ?_
  refine aw_region ?_
  refine zst (by first | exact op_fieldAddr_ptr Try.underlying60 rfl Sz58 (by rfl) (by rfl) | exact op_fieldAddr_elt Try.underlying60 rfl Sz58 (by rfl) (by rfl) (by rfl)) rfl (by dsimp only [zS, zN, zH, zT]) ?_
  refine zst (by first | exact op_fieldAddr_ptr Try.underlying58 rfl Sz9 (by rfl) (by rfl) | exact op_fieldAddr_elt Try.underlying58 rfl Sz9 (by rfl) (by rfl) (by rfl)) rfl (by dsimp only [zS, zN, zH, zT]) ?_
  refine zst (by first | exact op_load_elt Try.underlying9 (by rfl) (by rfl) (by rfl) | exact op_load_ptr Try.underlying9 (by rfl) (by rfl) (by (try have l1 := lt_nb hb); repeat (first | assumption | exact push_at | exact setB_at push_at | (rw [pushM_blks]) | (rw [setM_blks]) | (rw [setB_ne (by simp only [setB_nb, push_nb, pushM_nb, setM_nb, ne_eq]; omega)]) | apply push_ne | apply setB_at)) (by rfl)) rfl (by dsimp only [zS, zN, zH, zT]) ?_
  refine zst (op_neS (by rfl) (by rfl)) rfl (by dsimp only [zS, zN, zH, zT]) ?_
  refine zst (op_move_tmp (by rfl)) rfl (by dsimp only [zS, zN, zH, zT]) ?_
  refine al_split 17 rfl (fun hg2 => ?_) (fun hg2 => ?_)
  ·
   (try simp only [y1, y2, y3, y4, y5, y6, y7, y8, y9, y0, List.length_map] at hg2)
   have h1 : e.new.token ≠ [] := by simpa using hg2
   apply al_normT
   · (try dsimp only [zS, zN, zH, zT]); try exact rfl
   refine zsw rfl rfl rfl (by first | exact op_fieldAddr_ptr Try.underlying60 rfl Sz58 (by rfl) (by rfl) | exact op_fieldAddr_elt Try.underlying60 rfl Sz58 (by rfl) (by rfl) (by rfl)) (by dsimp only [zS, zN, zH, zT]) ?_
   refine zsw rfl rfl rfl (by first | exact op_fieldAddr_ptr Try.underlying58 rfl Sz9 (by rfl) (by rfl) | exact op_fieldAddr_elt Try.underlying58 rfl Sz9 (by rfl) (by rfl) (by rfl)) (by dsimp only [zS, zN, zH, zT]) ?_
   refine zsw rfl rfl rfl (by first | exact op_load_elt Try.underlying9 (by rfl) (by rfl) (by rfl) | exact op_load_ptr Try.underlying9 (by rfl) (by rfl) (by (try have l1 := lt_nb hb); repeat (first | assumption | exact push_at | exact setB_at push_at | (rw [pushM_blks]) | (rw [setM_blks]) | (rw [setB_ne (by simp only [setB_nb, push_nb, pushM_nb, setM_nb, ne_eq]; omega)]) | apply push_ne | apply setB_at)) (by rfl)) (by dsimp only [zS, zN, zH, zT]) ?_
   refine zsw rfl rfl rfl (by first | exact op_fieldAddr_ptr Try.underlying60 rfl Sz58 (by rfl) (by rfl) | exact op_fieldAddr_elt Try.underlying60 rfl Sz58 (by rfl) (by rfl) (by rfl)) (by dsimp only [zS, zN, zH, zT]) ?_
   refine zsw rfl rfl rfl (by first | exact op_fieldAddr_ptr Try.underlying58 rfl Sz9 (by rfl) (by rfl) | exact op_fieldAddr_elt Try.underlying58 rfl Sz9 (by rfl) (by rfl) (by rfl)) (by dsimp only [zS, zN, zH, zT]) ?_
   refine zsw rfl rfl rfl (by first | exact op_load_elt Try.underlying9 (by rfl) (by rfl) (by rfl) | exact op_load_ptr Try.underlying9 (by rfl) (by rfl) (by (try have l1 := lt_nb hb); repeat (first | assumption | exact push_at | exact setB_at push_at | (rw [pushM_blks]) | (rw [setM_blks]) | (rw [setB_ne (by simp only [setB_nb, push_nb, pushM_nb, setM_nb, ne_eq]; omega)]) | apply push_ne | apply setB_at)) (by rfl)) (by dsimp only [zS, zN, zH, zT]) ?_
   refine zsw rfl rfl rfl (op_neS (by rfl) (by rfl)) (by dsimp only [zS, zN, zH, zT]) ?_
   refine zst (op_pick_tt (by rfl) (val_tmp (by rfl))) rfl (by dsimp only [zS, zN, zH, zT]) ?_
   refine al_end rfl ?_
   refine then_normal ?_
   refine aw_cond rfl (fun hc3 => ?_) (fun hc3 => ?_)
   ·
    (try simp only [y1, y2, y3, y4, y5, y6, y7, y8, y9, y0, List.length_map] at hc3)
    have h2 : e.new.token ≠ e.old.token := by simpa using hc3
    refine aw_region ?_
    refine zst (op_move_tmp (by rfl)) rfl (by dsimp only [zS, zN, zH, zT]) ?_
    refine zst (by first | exact op_fieldAddr_ptr Try.underlying60 rfl Sz9 (by rfl) (by rfl) | exact op_fieldAddr_elt Try.underlying60 rfl Sz9 (by rfl) (by rfl) (by rfl)) rfl (by dsimp only [zS, zN, zH, zT]) ?_
    refine zst (by first | exact op_load_elt Try.underlying9 (by rfl) (by rfl) (by rfl) | exact op_load_ptr Try.underlying9 (by rfl) (by rfl) (by (try have l1 := lt_nb hb); repeat (first | assumption | exact push_at | exact setB_at push_at | (rw [pushM_blks]) | (rw [setM_blks]) | (rw [setB_ne (by simp only [setB_nb, push_nb, pushM_nb, setM_nb, ne_eq]; omega)]) | apply push_ne | apply setB_at)) (by rfl)) rfl (by dsimp only [zS, zN, zH, zT]) ?_
    refine zst (op_lookup_n hN Try.underlying108 Try.underlying9 Zr3 (by rfl) (by rfl) (Ext.at0 (by repeat (first | assumption | apply Ext.push | (refine Ext.setB ?_ (by have := nb_le hx; (try simp only [setB_nb, push_nb]); omega)))))) rfl (by dsimp only [zS, zN, zH, zT]) ?_
    refine zst (by first | exact op_add (by rfl) (by rfl) (wrap_i64 ⟨by omega, by omega⟩) | exact op_add (by rfl) (by rfl) (by rfl)) rfl (by dsimp only [zS, zN, zH, zT]) ?_
    refine zst (op_mapUpdate (d := I (((leased (es.take j)).count e.id : Nat) + 1 : Int)) Try.underlying108 Try.underlying9 (by rfl) (by rfl) (Weak.refl _) (Ext.at0 (by repeat (first | assumption | apply Ext.push | (refine Ext.setB ?_ (by have := nb_le hx; (try simp only [setB_nb, push_nb]); omega))))) (fun j n q => (hni.of rfl) j _ n q)) rfl (by dsimp only [zS, zN, zH, zT]) ?_
    refine al_end rfl ?_
    refine inBlock_normal (then_normal ?_)
    refine aw_region ?_
    refine zst (by first | exact op_add (by rfl) (by rfl) (wrap_i64 ⟨by omega, by omega⟩) | exact op_add (by rfl) (by rfl) (by rfl)) rfl (by dsimp only [zS, zN, zH, zT]) ?_
    refine zst (op_move_tmp (by rfl)) rfl (by dsimp only [zS, zN, zH, zT]) ?_
    refine al_end rfl ?_
    apply again_to (es.length - (j + 1)) [false, false, false, true, false, false, false, true, true, true, false, false, false, false, false, false, false, false, false, false, false, false, false, false, false, false, false, false, false, false, false, false, false]
    · (try dsimp only [maskT]); try exact rfl
    · rfl
    · omega
    exact ⟨j + 1, _, rfl, by omega, rfl, by rw [take_snoc he1, leased_more ⟨h1, h2⟩]; exact hN.more _, Ext.set0 (by repeat (first | assumption | apply Ext.push | (refine Ext.setB ?_ (by have := nb_le hx; (try simp only [setB_nb, push_nb]); omega)))) _, NoIt.setM (hni.of rfl) _ _⟩
   ·
    (try simp only [y1, y2, y3, y4, y5, y6, y7, y8, y9, y0, List.length_map] at hc3)
    have h2 : ¬ e.new.token ≠ e.old.token := by simpa using hc3
    refine aw_skip ?_
    refine inBlock_normal (then_normal ?_)
    refine aw_region ?_
    refine zst (by first | exact op_add (by rfl) (by rfl) (wrap_i64 ⟨by omega, by omega⟩) | exact op_add (by rfl) (by rfl) (by rfl)) rfl (by dsimp only [zS, zN, zH, zT]) ?_
    refine zst (op_move_tmp (by rfl)) rfl (by dsimp only [zS, zN, zH, zT]) ?_
    refine al_end rfl ?_
    apply again_to (es.length - (j + 1)) [false, false, false, true, false, false, false, true, true, true, false, false, false, false, false, false, false, false, false, false, false, false, false, false, false, false, false, false, false, false, false, false, false]
    · (try dsimp only [maskT]); try exact rfl
    · rfl
    · omega
    exact ⟨j + 1, _, rfl, by omega, rfl, by rw [take_snoc he1, leased_same (fun h => h2 h.2)]; exact hN, (by repeat (first | assumption | apply Ext.push | (refine Ext.setB ?_ (by have := nb_le hx; (try simp only [setB_nb, push_nb]); omega)))), hni.of rfl⟩
  ·
   (try simp only [y1, y2, y3, y4, y5, y6, y7, y8, y9, y0, List.length_map] at hg2)
   have h1 : ¬ e.new.token ≠ [] := by simpa using hg2
   apply al_normT
   · (try dsimp only [zS, zN, zH, zT]); try exact rfl
   refine zuw rfl rfl rfl rfl (by dsimp only [zS, zN, zH, zT]) ?_
   refine zuw rfl rfl rfl rfl (by dsimp only [zS, zN, zH, zT]) ?_
   refine zuw rfl rfl rfl rfl (by dsimp only [zS, zN, zH, zT]) ?_
   refine zuw rfl rfl rfl rfl (by dsimp only [zS, zN, zH, zT]) ?_
   refine zuw rfl rfl rfl rfl (by dsimp only [zS, zN, zH, zT]) ?_
   refine zuw rfl rfl rfl rfl (by dsimp only [zS, zN, zH, zT]) ?_
   refine zuw rfl rfl rfl rfl (by dsimp only [zS, zN, zH, zT]) ?_
   refine zst (op_pick_ff (by rfl) (val_const (by rfl))) rfl (by dsimp only [zS, zN, zH, zT]) ?_
   refine al_end rfl ?_
   refine then_normal ?_
   refine aw_cond rfl (fun h => by cases h) (fun _ => ?_)
   refine aw_skip ?_
   refine inBlock_normal (then_normal ?_)
   refine aw_region ?_
   refine zst (by first | exact op_add (by rfl) (by rfl) (wrap_i64 ⟨by omega, by omega⟩) | exact op_add (by rfl) (by rfl) (by rfl)) rfl (by dsimp only [zS, zN, zH, zT]) ?_
   refine zst (op_move_tmp (by rfl)) rfl (by dsimp only [zS, zN, zH, zT]) ?_
   refine al_end rfl ?_
   apply again_to (es.length - (j + 1)) [false, false, false, true, false, false, false, true, true, true, false, false, false, false, false, false, false, false, false, false, false, false, false, false, false, false, false, false, false, false, false, false, false]
   · (try dsimp only [maskT]); try exact rfl
   · rfl
   · omega
   exact ⟨j + 1, _, rfl, by omega, rfl, by rw [take_snoc he1, leased_same (fun h => h1 h.1)]; exact hN, (by repeat (first | assumption | apply Ext.push | (refine Ext.setB ?_ (by have := nb_le hx; (try simp only [setB_nb, push_nb]); omega)))), hni.of rfl⟩
 ·
  (try simp only [y1, y2, y3, y4, y5, y6, y7, y8, y9, y0, List.length_map] at hc1)
  (try simp only [List.length_map] at hc1)
  have hje : j = es.length := by omega
  subst hje
  rw [List.take_length] at hN
  refine aw_exit ?_
  refine then_exit (again_exit (inBlock_here (then_normal ?_)))
  refine aw_seq ?_
  refine aw_region ?_
  refine zst (op_move_tmp (by rfl)) rfl (by dsimp only [zS, zN, zH, zT]) ?_
  refine zst (op_assign_tmp (by rfl)) rfl (by dsimp only [zS, zN, zH, zT]) ?_
  refine al_end rfl ?_
  refine then_normal ?_
  refine aw_ret ?_
  refine retPost1 rfl rfl ?_
  exact ⟨_, hx, hni, hN, rfl⟩
end Go.Proofs.Ytjbpfnoibeogbaa
namespace Go.AV.Val
open Go.AV.Ord Go.AV.Oct
structure VTypes (P : Program) (tV tF tK tB tI tS tL tM : TypeId) : Prop where
  v : ∃ fs, P.underlying tV = some (.struct fs) ∧ (∃ f, fs[0]? = some f ∧ f.type = tK ∧ f.offset = 0) ∧ (∃ f, fs[1]? = some f ∧ f.type = tB ∧ f.offset = 1) ∧ (∃ f, fs[2]? = some f ∧ f.type = tI ∧ f.offset = 2) ∧ (∃ f, fs[3]? = some f ∧ f.type = tS ∧ f.offset = 3) ∧ (∃ f, fs[4]? = some f ∧ f.type = tL ∧ f.offset = 4) ∧ (∃ f, fs[5]? = some f ∧ f.type = tM ∧ f.offset = 5) ∧ fs.size = 6
  f : ∃ fs, P.underlying tF = some (.struct fs) ∧ (∃ f, fs[0]? = some f ∧ f.type = tS ∧ f.offset = 0) ∧ (∃ f, fs[1]? = some f ∧ f.type = tV ∧ f.offset = 1) ∧ fs.size = 2
  k : P.underlying tK = some (.int .i64)
  b : P.underlying tB = some .bool
  i : P.underlying tI = some (.int .i64)
  s : P.underlying tS = some .string
  l : P.underlying tL = some (.slice tV)
  m : P.underlying tM = some (.slice tF)
  cV : P.cellsOf tV = 6
  cF : P.cellsOf tF = 7
  cK : P.cellsOf tK = 1
  cB : P.cellsOf tB = 1
  cI : P.cellsOf tI = 1
  cS : P.cellsOf tS = 1
  cL : P.cellsOf tL = 1
  cM : P.cellsOf tM = 1
section
variable {H : Type} {enc : TypeId × Value → H} {P : Program} {W : World} {sp : Nat → Bool} {held : Bool} {tV tF tK tB tI tS tL tM : TypeId}
theorem all_map' {α : Type} {p : α → Prop} {f : α → DV} : ∀ {ys : List DV}, (∀ y ∈ ys, ∃ x, p x ∧ y = f x) → ∃ xs : List α, (∀ x ∈ xs, p x) ∧ ys = xs.map f
  | [], _ => ⟨[], fun _ h => (by cases h), rfl⟩
  | y :: ys, h => by
    obtain ⟨x, hp, rfl⟩ := h y (by simp)
    obtain ⟨xs, hps, rfl⟩ := all_map' (ys := ys) fun z hz => h z (by simp [hz])
    exact ⟨x :: xs, fun z hz => by rcases List.mem_cons.1 hz with rfl | hz; exact hp; exact hps z hz, rfl⟩
theorem list_cell {fuel : Nat} {t e : TypeId} {sz : Nat} (hsz0 : 0 < sz) (Good : DV → Prop) (ht : P.underlying t = some (.slice e)) (hsz : P.cellsOf e = sz) {c : Value} {x : DataW H × List MemPlace} (h : DataW.trod enc P W 0 sp held fuel t [c] = some x)
    (hel : ∀ m, m < fuel → ∀ cs d p, DataW.trod enc P W 0 sp held m e cs = some (d, p) → cs.length = sz → ∃ y, Go.AV.Reads W Good sz cs y) : ∃ ys, RepD (ctx0 W).mem c (.lst sz ys) ∧ (∀ y ∈ ys, Good y) := by
  cases fuel with
  | zero => simp [DataW.trod] at h
  | succ n =>
    rcases DataW.trod_slice ht h with ⟨h1, _⟩ | ⟨a, len, cap, _, _, m, h0, h1, _⟩
    · cases h1
      exact ⟨[], .lstE _ _ _, fun _ h => (by cases h)⟩
    · cases h1
      obtain ⟨d, p⟩ := x
      exact rep_slice hsz0 Good ht hsz (hel n (by omega)) h
theorem one_cell {Good : DV → Prop} {c : Value} {y : DV} (h : Go.AV.Reads W Good 1 [c] y) (e : y.cells = [y]) : RepD (ctx0 W).mem c y := by
  have := h.at_ 0 (by simp) (by rw [e]; simp)
  simpa [e] using this
theorem reads_both (T : VTypes P tV tF tK tB tI tS tL tM) : ∀ (N fuel : Nat), fuel ≤ N →
    (∀ (cs : List Value) d p, DataW.trod enc P W 0 sp held fuel tV cs = some (d, p) → cs.length = 6 → ∃ y, Go.AV.Reads W (fun y => ∃ v, WfV v ∧ y = vD v) 6 cs y) ∧
    (∀ (cs : List Value) d p, DataW.trod enc P W 0 sp held fuel tF cs = some (d, p) → cs.length = 7 → ∃ y, Go.AV.Reads W (fun y => ∃ f : F, WfV f.val ∧ y = fD f) 7 cs y)
  | 0, fuel, hf => by
    have : fuel = 0 := by omega
    subst this
    exact ⟨fun _ _ _ h => by simp [DataW.trod] at h, fun _ _ _ h => by simp [DataW.trod] at h⟩
  | N + 1, fuel, hf => by
    refine ⟨fun cs d p h hl => ?_, fun cs d p h hl => ?_⟩
    · obtain ⟨fs, hu, ⟨f0, g0, e0, o0⟩, ⟨f1, g1, e1, o1⟩, ⟨f2, g2, e2, o2⟩, ⟨f3, g3, e3, o3⟩, ⟨f4, g4, e4, o4⟩, ⟨f5, g5, e5, o5⟩, hsz⟩ := T.v
      obtain ⟨xs, n, hn, _, _, hxl, hx⟩ := DataW.trod_struct hu h
      subst hn
      obtain ⟨c0, c1, c2, c3, c4, c5, rfl⟩ : ∃ c0 c1 c2 c3 c4 c5, cs = [c0, c1, c2, c3, c4, c5] := by
        match cs, hl with
        | [c0, c1, c2, c3, c4, c5], _ => exact ⟨_, _, _, _, _, _, rfl⟩
      have get : ∀ i, i < 6 → ∃ x, xs[i]? = some x := fun i hi => ⟨_, List.getElem?_eq_getElem (by omega)⟩
      have q0 := hx 0 f0 g0
      have q1 := hx 1 f1 g1
      have q2 := hx 2 f2 g2
      have q3 := hx 3 f3 g3
      have q4 := hx 4 f4 g4
      have q5 := hx 5 f5 g5
      rw [e0, o0, T.cK] at q0
      rw [e1, o1, T.cB] at q1
      rw [e2, o2, T.cI] at q2
      rw [e3, o3, T.cS] at q3
      rw [e4, o4, T.cL] at q4
      rw [e5, o5, T.cM] at q5
      obtain ⟨⟨_, _⟩, x0⟩ := get 0 (by decide)
      obtain ⟨⟨_, _⟩, x1⟩ := get 1 (by decide)
      obtain ⟨⟨_, _⟩, x2⟩ := get 2 (by decide)
      obtain ⟨⟨_, _⟩, x3⟩ := get 3 (by decide)
      obtain ⟨⟨_, _⟩, x4⟩ := get 4 (by decide)
      obtain ⟨⟨_, _⟩, x5⟩ := get 5 (by decide)
      rw [x0] at q0; rw [x1] at q1; rw [x2] at q2; rw [x3] at q3; rw [x4] at q4; rw [x5] at q5
      obtain ⟨y0, r0⟩ := reads_int T.k q0
      obtain ⟨y1, r1⟩ := reads_bool T.b q1
      obtain ⟨y2, r2⟩ := reads_int T.i q2
      obtain ⟨y3, r3⟩ := reads_str T.s q3
      obtain ⟨k, rfl, wk⟩ := r0.good
      obtain ⟨b, rfl⟩ := r1.good
      obtain ⟨i, rfl, wi⟩ := r2.good
      obtain ⟨s, rfl⟩ := r3.good
      obtain ⟨ls', r4, l4⟩ := list_cell (by decide) _ T.l T.cV q4 fun m hm => (reads_both T N m (by omega)).1
      obtain ⟨fs', r5, l5⟩ := list_cell (by decide) _ T.m T.cF q5 fun m hm => (reads_both T N m (by omega)).2
      obtain ⟨ls, wl, rfl⟩ := all_map' l4
      obtain ⟨ffs, wf, rfl⟩ := all_map' l5
      refine ⟨vD (.mk k b i s ls ffs), rfl, by rw [vD_cells]; rfl, fun z hz => vC_one _ z hz, ⟨_, .mk _ _ _ _ _ _ (wf_i64 wk) (wf_i64 wi) wl wf, rfl⟩, fun j hj hj' => ?_⟩
      have ec : (vD (.mk k b i s ls ffs)).cells = [.v (.int .i64 k), TF b, .v (.int .i64 i), S s, .lst 6 (ls.map vD), .lst 7 (ffs.map fD)] := vD_cells _
      have p0 := one_cell r0 rfl
      have p1 := one_cell r1 rfl
      have p2 := one_cell r2 rfl
      have p3 := one_cell r3 rfl
      simp only [ec]
      match j, hj with
      | 0, _ => exact p0
      | 1, _ => exact p1
      | 2, _ => exact p2
      | 3, _ => exact p3
      | 4, _ => exact r4
      | 5, _ => exact r5
    · obtain ⟨fs, hu, ⟨f0, g0, e0, o0⟩, ⟨f1, g1, e1, o1⟩, hsz⟩ := T.f
      obtain ⟨xs, n, hn, _, _, hxl, hx⟩ := DataW.trod_struct hu h
      subst hn
      obtain ⟨c0, cs', rfl⟩ : ∃ c0 cs', cs = c0 :: cs' := List.exists_cons_of_ne_nil (by intro e; subst e; cases hl)
      have hl' : cs'.length = 6 := by simpa using hl
      have get : ∀ i, i < 2 → ∃ x, xs[i]? = some x := fun i hi => ⟨_, List.getElem?_eq_getElem (by omega)⟩
      have q0 := hx 0 f0 g0
      have q1 := hx 1 f1 g1
      rw [e0, o0, T.cS] at q0
      rw [e1, o1, T.cV, List.drop_succ_cons, List.drop_zero, List.take_of_length_le (by omega)] at q1
      obtain ⟨⟨_, _⟩, x0⟩ := get 0 (by decide)
      obtain ⟨⟨_, _⟩, x1⟩ := get 1 (by decide)
      rw [x0] at q0; rw [x1] at q1
      obtain ⟨y0, r0⟩ := reads_str T.s q0
      obtain ⟨s, rfl⟩ := r0.good
      obtain ⟨y1, r1⟩ := (reads_both T N n (by omega)).1 _ _ _ q1 hl'
      obtain ⟨v, wv, rfl⟩ := r1.good
      have p0 := one_cell r0 rfl
      have ec : (fD (.mk s v)).cells = S s :: (vD v).cells := fD_cells _
      refine ⟨fD (.mk s v), hl, by rw [ec, List.length_cons, r1.ylen], fun z hz => fC_one _ z hz, ⟨.mk s v, wv, rfl⟩, fun j hj hj' => ?_⟩
      simp only [ec]
      match j, hj with
      | 0, _ => exact p0
      | j + 1, hj => exact r1.at_ j (by simpa using hj) (by rw [ec] at hj'; simpa using hj')
end
end Go.AV.Val
namespace Go.AV.Val
open Go.AV.Ord Go.AV.Oct
section
variable {H : Type} {enc : TypeId × Value → H} {P : Program} {W : World} {sp : Nat → Bool} {held : Bool}
end
end Go.AV.Val
namespace Go.AV.Hist
open Go.AV.Ord Go.AV.Oct Go.AV.Val
structure Pt where
  c : Int
  q : Int
  id : Int
  gone : Bool
  ready : Int
  count : Int
  token : Int
def tC (p : Pt) : List DV := [I p.c, I p.q, I p.id, TF p.gone, I p.ready, I p.count, I p.token]
def tD (p : Pt) : DV := .agg (tC p)
theorem tC_one (p : Pt) : ∀ d ∈ tC p, d.one = true := by simp [tC, DV.one, I, TF]
structure PTypes (P : Program) (tP tI tB tQ : TypeId) : Prop where
  p : ∃ fs, P.underlying tP = some (.struct fs) ∧ (∀ i < 7, ∃ f, fs[i]? = some f ∧ f.type = (if i = 3 then tB else tI) ∧ f.offset = i) ∧ fs.size = 7
  i : P.underlying tI = some (.int .i64)
  b : P.underlying tB = some .bool
  q : P.underlying tQ = some (.slice tP)
  cP : P.cellsOf tP = 7
  cI : P.cellsOf tI = 1
  cB : P.cellsOf tB = 1
section
variable {H : Type} {enc : TypeId × Value → H} {P : Program} {W : World} {sp : Nat → Bool} {held : Bool} {tP tI tB tQ : TypeId}
theorem reads_put (T : PTypes P tP tI tB tQ) {fuel : Nat} {cs : List Value} {d : DataW H} {p : List MemPlace} (h : DataW.trod enc P W 0 sp held fuel tP cs = some (d, p)) (hl : cs.length = 7) : ∃ y, Go.AV.Reads W (fun y => ∃ o : Pt, y = tD o) 7 cs y := by
  obtain ⟨fs, hu, hf, hsz⟩ := T.p
  obtain ⟨xs, n, hn, _, _, hxl, hx⟩ := DataW.trod_struct hu h
  subst hn
  obtain ⟨c0, c1, c2, c3, c4, c5, c6, rfl⟩ : ∃ c0 c1 c2 c3 c4 c5 c6, cs = [c0, c1, c2, c3, c4, c5, c6] := by
    match cs, hl with
    | [c0, c1, c2, c3, c4, c5, c6], _ => exact ⟨_, _, _, _, _, _, _, rfl⟩
  have get : ∀ i, i < 7 → ∃ x, xs[i]? = some x := fun i hi => ⟨_, List.getElem?_eq_getElem (by omega)⟩
  have int : ∀ i, i < 7 → i ≠ 3 → ∀ c, ([c0, c1, c2, c3, c4, c5, c6].drop i).take 1 = [c] → ∃ k : Int, RepD (ctx0 W).mem c (I k) := fun i hi h3 c hc => by
    obtain ⟨f, g, e, o⟩ := hf i hi
    have q := hx i f g
    rw [if_neg h3] at e
    rw [e, o, T.cI, hc] at q
    obtain ⟨⟨_, _⟩, x⟩ := get i hi
    rw [x] at q
    obtain ⟨y, r⟩ := reads_int T.i q
    obtain ⟨k, rfl, _⟩ := r.good
    exact ⟨k, one_cell r rfl⟩
  obtain ⟨k0, r0⟩ := int 0 (by decide) (by decide) c0 rfl
  obtain ⟨k1, r1⟩ := int 1 (by decide) (by decide) c1 rfl
  obtain ⟨k2, r2⟩ := int 2 (by decide) (by decide) c2 rfl
  obtain ⟨k4, r4⟩ := int 4 (by decide) (by decide) c4 rfl
  obtain ⟨k5, r5⟩ := int 5 (by decide) (by decide) c5 rfl
  obtain ⟨k6, r6⟩ := int 6 (by decide) (by decide) c6 rfl
  obtain ⟨b, r3⟩ : ∃ b : Bool, RepD (ctx0 W).mem c3 (TF b) := by
    obtain ⟨f, g, e, o⟩ := hf 3 (by decide)
    have q := hx 3 f g
    rw [if_pos rfl] at e
    rw [e, o, T.cB] at q
    obtain ⟨⟨_, _⟩, x⟩ := get 3 (by decide)
    rw [x] at q
    obtain ⟨y, r⟩ := reads_bool T.b q
    obtain ⟨k, rfl⟩ := r.good
    exact ⟨k, one_cell r rfl⟩
  refine ⟨tD ⟨k0, k1, k2, b, k4, k5, k6⟩, rfl, rfl, fun z hz => tC_one _ z hz, ⟨_, rfl⟩, fun j hj hj' => ?_⟩
  match j, hj with
  | 0, _ => exact r0
  | 1, _ => exact r1
  | 2, _ => exact r2
  | 3, _ => exact r3
  | 4, _ => exact r4
  | 5, _ => exact r5
  | 6, _ => exact r6
theorem put_len {m : Nat → Nat → Option Value} {a : Option Addr} {n cap sz : Nat} {ys : List DV} (h : RepD m (.slice a n cap) (.lst sz ys)) : ys.length = n := by
  cases h with
  | lstE => rfl
  | lst => assumption
theorem arg_puts (T : PTypes P tP tI tB tQ) {r : Reach} {b0 : Nat} {v : Value} {d : DataW H} {ps : List MemPlace} (hval : Value.okWide P W r b0 tQ v) (hd : DataW.Trod enc P W 0 sp held tQ v d ps) :
    ∃ l : List Pt, l.length ≤ 9223372036854775807 ∧ Rep (ctx0 W) v (.d (.lst 7 (l.map tD))) := by
  obtain ⟨ys, h1, h2⟩ := arg_list (by decide) (fun y => ∃ o : Pt, y = tD o) T.q T.cP hval hd fun fuel cs d p h hl => reads_put T h hl
  obtain ⟨l, rfl⟩ := all_map h1
  refine ⟨l, ?_, h2⟩
  obtain ⟨fuel, hf⟩ := hd
  cases h2 with
  | d h2 =>
    cases fuel with
    | zero => simp [DataW.trod] at hf
    | succ n =>
      have h3 := h2
      have hcl : ∀ c, v.cells.toList = [c] → v = c → l.length ≤ 9223372036854775807 := by
        intro c hc hv
        rw [hc] at hf
        rcases DataW.trod_slice T.q hf with ⟨e, _⟩ | ⟨ad, len, cap, _, _, m, h0, e, _, _, q2, q3, _⟩
        · subst hv
          obtain rfl := List.head_eq_of_cons_eq e
          have := put_len h3
          simp at this
          subst this; decide
        · subst hv
          obtain rfl := List.head_eq_of_cons_eq e
          have := put_len h3
          simp at this
          have hmax : (maxLen : Nat) = 9223372036854775807 := by decide
          omega
      generalize l.map tD = m at h2
      cases h2 with
      | lst => exact hcl _ rfl rfl
      | lstE => exact hcl _ rfl rfl
end
end Go.AV.Hist
namespace Go.AV.Hist
open Go.AV.Ord Go.AV.Oct Go.AV.Val Go.AV.Patch
def low (n : Int) (k : Nat) : Nat := (BitVec.ofInt IntKind.i64.bits n).toNat % k
theorem low_le (n : Int) {k : Nat} (h : 0 < k) : low n k ≤ k - 1 := by have := Nat.mod_lt (BitVec.ofInt IntKind.i64.bits n).toNat h; unfold low; omega
theorem and_low (n : Int) {m : Int} (j : Nat) (e : (BitVec.ofInt IntKind.i64.bits m).toNat = 2 ^ j - 1) (hj : 2 ^ j ≤ 1024) : IntKind.i64.wrap ((BitVec.ofInt IntKind.i64.bits n &&& BitVec.ofInt IntKind.i64.bits m).toNat : Int) = ((low n (2 ^ j) : Nat) : Int) := by
  have h0 : 0 < 2 ^ j := Nat.pow_pos (by decide)
  have := low_le n h0
  rw [BitVec.toNat_and, e, Nat.and_two_pow_sub_one_eq_mod]
  exact wrap_i64 ⟨by omega, by show (((BitVec.ofInt IntKind.i64.bits n).toNat % 2 ^ j : Nat) : Int) ≤ _; unfold low at this; omega⟩
theorem and_7 (n : Int) : IntKind.i64.wrap ((BitVec.ofInt IntKind.i64.bits n &&& BitVec.ofInt IntKind.i64.bits 7).toNat : Int) = ((low n 8 : Nat) : Int) := and_low n 3 (by decide) (by decide)
theorem and_3 (n : Int) : IntKind.i64.wrap ((BitVec.ofInt IntKind.i64.bits n &&& BitVec.ofInt IntKind.i64.bits 3).toNat : Int) = ((low n 4 : Nat) : Int) := and_low n 2 (by decide) (by decide)
theorem and_1 (n : Int) : IntKind.i64.wrap ((BitVec.ofInt IntKind.i64.bits n &&& BitVec.ofInt IntKind.i64.bits 1).toNat : Int) = ((low n 2 : Nat) : Int) := and_low n 1 (by decide) (by decide)
theorem and_63 (n : Int) : IntKind.i64.wrap ((BitVec.ofInt IntKind.i64.bits n &&& BitVec.ofInt IntKind.i64.bits 63).toNat : Int) = ((low n 64 : Nat) : Int) := and_low n 6 (by decide) (by decide)
def idB (i : Nat) : List UInt8 := [UInt8.ofNat (48 + i)]
def qB (i : Nat) : List UInt8 := [UInt8.ofNat (97 + i)]
def tkB (i : Nat) : List UInt8 := if 0 < i then [UInt8.ofNat (116 + i)] else []
def keyQ (q i : Nat) : List UInt8 := keyL [[109], qB q, idB i]
def msgP (p : Pt) : Msg := ⟨idB (low p.id 4), [], (low p.ready 64 : Nat), (low p.count 8 : Nat), tkB (low p.token 4)⟩
def keyP (p : Pt) : List UInt8 := keyQ (low p.q 2) (low p.id 4)
def putW (p : Pt) : Wt := ⟨keyP p, encM (msgP p), false⟩
def goneW (p : Pt) : Wt := ⟨keyP p, [], true⟩
def wtP (p : Pt) : Wt := if p.gone then goneW p else putW p
def lastP (c : Nat) (l : List Pt) (k : List UInt8) : Option Wt := l.foldl (fun o p => if low p.c 8 = c ∧ keyP p = k then some (wtP p) else o) none
theorem lastP_snoc (c : Nat) (l : List Pt) (p : Pt) (k : List UInt8) : lastP c (l ++ [p]) k = if low p.c 8 = c ∧ keyP p = k then some (wtP p) else lastP c l k := by
  simp [lastP]
theorem lastP_some (c : Nat) (l : List Pt) {k : List UInt8} {w : Wt} (h : lastP c l k = some w) : ∃ p : Pt, w = wtP p ∧ keyP p = k := by
  induction l using snoc_ind with
  | h0 => cases h
  | h1 l p ih =>
    rw [lastP_snoc] at h
    split at h
    · rename_i h1
      cases h
      exact ⟨p, rfl, h1.2⟩
    · exact ih h
def Holds (c : Nat) (l : List Pt) (es : List (List UInt8 × DV)) : Prop := ∀ k, getE es k = (lastP c l k).map wD
theorem Holds.nil (c : Nat) : Holds c [] [] := fun _ => rfl
theorem Holds.pass {c : Nat} {l : List Pt} {es : List (List UInt8 × DV)} {p : Pt} (h : Holds c l es) (hc : ¬ low p.c 8 = c) : Holds c (l ++ [p]) es := fun k => by
  rw [lastP_snoc, if_neg (fun x => hc x.1)]; exact h k
theorem Holds.put {c : Nat} {l : List Pt} {es : List (List UInt8 × DV)} {p : Pt} (h : Holds c l es) (hc : low p.c 8 = c) (hg : p.gone = false) : Holds c (l ++ [p]) (putE es (keyP p) (wD (putW p))) := fun k => by
  rw [lastP_snoc, getE_put]
  by_cases hk : keyP p = k
  · rw [if_pos hk, if_pos ⟨hc, hk⟩]; simp [wtP, hg]
  · rw [if_neg hk, if_neg (fun x => hk x.2)]; exact h k
theorem Holds.gone {c : Nat} {l : List Pt} {es : List (List UInt8 × DV)} {p : Pt} (h : Holds c l es) (hc : low p.c 8 = c) (hg : p.gone = true) : Holds c (l ++ [p]) (putE (putE es (keyP p) (wD (putW p))) (keyP p) (wD (goneW p))) := fun k => by
  rw [lastP_snoc, getE_put, getE_put]
  by_cases hk : keyP p = k
  · rw [if_pos hk, if_pos ⟨hc, hk⟩]; simp [wtP, hg]
  · rw [if_neg hk, if_neg hk, if_neg (fun x => hk x.2)]; exact h k
def slots : List (Nat × Nat) := [(0, 0), (0, 1), (0, 2), (0, 3), (1, 0), (1, 1), (1, 2), (1, 3)]
def wsN (c : Nat) (l : List Pt) (n : Nat) : List Wt := (slots.take n).filterMap fun s => lastP c l (keyQ s.1 s.2)
def wsP (c : Nat) (l : List Pt) : List Wt := wsN c l 8
def cmP (l : List Pt) (c : Nat) : Cm := ⟨((c + 1 : Nat) : Int), ((10 * c : Nat) : Int), wsP c l⟩
def csP (l : List Pt) : List Cm := (List.range 8).map (cmP l)
theorem slots_at {q i : Nat} (hq : q < 2) (hi : i < 4) : slots[4 * q + i]? = some (q, i) := by
  match q, i, hq, hi with
  | 0, 0, _, _ => rfl
  | 0, 1, _, _ => rfl
  | 0, 2, _, _ => rfl
  | 0, 3, _, _ => rfl
  | 1, 0, _, _ => rfl
  | 1, 1, _, _ => rfl
  | 1, 2, _, _ => rfl
  | 1, 3, _, _ => rfl
theorem wsN_some {c : Nat} {l : List Pt} {q i : Nat} {w : Wt} (hq : q < 2) (hi : i < 4) (h : lastP c l (keyQ q i) = some w) : wsN c l (4 * q + (i + 1)) = wsN c l (4 * q + i) ++ [w] := by
  unfold wsN
  rw [← Nat.add_assoc, take_snoc (slots_at hq hi)]
  simp [h]
theorem wsN_none {c : Nat} {l : List Pt} {q i : Nat} (hq : q < 2) (hi : i < 4) (h : lastP c l (keyQ q i) = none) : wsN c l (4 * q + (i + 1)) = wsN c l (4 * q + i) := by
  unfold wsN
  rw [← Nat.add_assoc, take_snoc (slots_at hq hi)]
  simp [h]
theorem wsN_len (c : Nat) (l : List Pt) (n : Nat) : (wsN c l n).length ≤ 8 := by
  unfold wsN
  refine Nat.le_trans (List.length_filterMap_le _ _) ?_
  rw [List.length_take]
  exact Nat.min_le_right _ _
theorem csP_len (l : List Pt) : (csP l).length = 8 := by simp [csP]
theorem csP_at {l : List Pt} {k : Nat} (h : k < 8) : (csP l)[k]? = some (cmP l k) := by simp [csP, h]
theorem csP_mem {l : List Pt} {c : Cm} (h : c ∈ csP l) : ∃ k < 8, c = cmP l k := by
  simp only [csP, List.mem_map, List.mem_range] at h
  obtain ⟨k, hk, rfl⟩ := h
  exact ⟨k, hk, rfl⟩
structure GoodW (w : Wt) : Prop where
  ex : ∃ p : Pt, w = wtP p
theorem wsP_good {c n : Nat} {l : List Pt} {w : Wt} (h : w ∈ wsN c l n) : GoodW w := by
  unfold wsN at h
  obtain ⟨s, _, hs⟩ := List.mem_filterMap.1 h
  obtain ⟨p, hp, _⟩ := lastP_some _ _ hs
  exact ⟨p, hp⟩
theorem keyQ_len (q i : Nat) : (keyQ q i).length ≤ 12 := by
  have h := keyL_le [[109], qB q, idB i]
  have e : (([[109], qB q, idB i] : List (List UInt8)).map List.length).sum = 3 := rfl
  rw [e] at h
  exact h
theorem wt_key (p : Pt) : (wtP p).key = keyP p := by unfold wtP; split <;> rfl
theorem GoodW.key_len {w : Wt} (h : GoodW w) : w.key.length ≤ 1099511627776 := by
  obtain ⟨p, rfl⟩ := h
  rw [wt_key]
  exact Nat.le_trans (keyQ_len _ _) (by decide)
theorem msgT_key (q i : Nat) : msgT (keyQ q i) = (qB q, idB i, true) := msg_yes (partsE_key _) (partsA_key _)
theorem rM_enc {m : Msg} (h1 : 0 ≤ m.ready) (h2 : m.ready ≤ 63) (h3 : 0 ≤ m.count) (h4 : m.count ≤ 7) (h5 : m.token.length ≤ 1) (h6 : m.body.length ≤ 1) : rM (encM m) = ((m.ready.toNat, m.count.toNat, m.token, m.body), ([], false)) := by
  have q1 := rNum_fwd (most := 2199023255552) (x := m.ready.toNat) (numB m.count.toNat ++ (textB m.token ++ (textB m.body ++ []))) (szN_8 (by omega)) (by omega)
  have q2 := rNum_fwd (most := 1000) (x := m.count.toNat) (textB m.token ++ (textB m.body ++ [])) (szN_8 (by omega)) (by omega)
  have q3 := rText_fwd (most := 400) (s := m.token) (textB m.body ++ []) (by decide) (by omega)
  have q4 := rText_fwd (most := 2000) (s := m.body) [] (by decide) (by omega)
  have e : encM m = numB m.ready.toNat ++ (numB m.count.toNat ++ (textB m.token ++ (textB m.body ++ []))) := by simp [encM]
  unfold rM
  simp only [e, q1, q2, q3, q4]
theorem tkB_len (i : Nat) : (tkB i).length ≤ 1 := by unfold tkB; split <;> simp
theorem rM_msgP (p : Pt) : rM (encM (msgP p)) = (((msgP p).ready.toNat, (msgP p).count.toNat, (msgP p).token, (msgP p).body), ([], false)) := by
  have l1 := low_le p.ready (k := 64) (by decide)
  have l2 := low_le p.count (k := 8) (by decide)
  refine rM_enc ?_ ?_ ?_ ?_ (tkB_len _) (by simp [msgP])
  · show (0 : Int) ≤ ((low p.ready 64 : Nat) : Int); omega
  · show ((low p.ready 64 : Nat) : Int) ≤ 63; omega
  · show (0 : Int) ≤ ((low p.count 8 : Nat) : Int); omega
  · show ((low p.count 8 : Nat) : Int) ≤ 7; omega
theorem decE_msgP (p : Pt) : decE (encM (msgP p)) = 0 := by
  unfold decE; rw [rM_msgP]; rfl
theorem decM_msgP (p : Pt) : decM (idB (low p.id 4)) (encM (msgP p)) = msgP p := by
  unfold decM; rw [rM_msgP]
  rw [if_pos (show rEnd (([] : List UInt8), false) = 0 from rfl)]
  show (⟨_, _, (((msgP p).ready.toNat : Nat) : Int), (((msgP p).count.toNat : Nat) : Int), _⟩ : Msg) = _
  have l1 : 0 ≤ (msgP p).ready := by show (0 : Int) ≤ ((low p.ready 64 : Nat) : Int); omega
  have l2 : 0 ≤ (msgP p).count := by show (0 : Int) ≤ ((low p.count 8 : Nat) : Int); omega
  rw [Int.toNat_of_nonneg l1, Int.toNat_of_nonneg l2]
  rfl
theorem GoodW.reads {w : Wt} (h : GoodW w) : w.gone = true ∨ decE w.val = 0 := by
  obtain ⟨p, rfl⟩ := h
  unfold wtP
  split
  · exact .inl rfl
  · exact .inr (decE_msgP p)
theorem turnT_some : ∀ (ws : List Wt) (ps : List (List UInt8 × Pl)) (ids : List (List UInt8)), (∀ w ∈ ws, w.gone = true ∨ decE w.val = 0) → ∃ r, turnT ps ids ws = some r
  | [], ps, ids, _ => ⟨_, rfl⟩
  | w :: ws, ps, ids, h => by
    have h1 := h w (by simp)
    have h2 := fun ps ids => turnT_some ws ps ids fun w hw => h w (by simp [hw])
    rw [turnT]
    split
    · exact h2 _ _
    · split
      · exact h2 _ _
      · rename_i hg
        rw [if_pos (h1.resolve_left (by simpa using hg))]
        exact h2 _ _
def GoodC (c : Cm) : Prop := ∀ w ∈ c.ws, w.gone = true ∨ decE w.val = 0
theorem events_some : ∀ (cs : List Cm) (ps : List (List UInt8 × Pl)) (es : List Ev), (∀ c ∈ cs, GoodC c) → ∃ r, eventsT ps es cs = some (es ++ r) ∧ ∀ e ∈ r, ∃ c ∈ cs, e.seq = c.seq
  | [], ps, es, _ => ⟨[], by simp [eventsT], by simp⟩
  | c :: cs, ps, es, h => by
    obtain ⟨⟨ps', ids⟩, h1⟩ := turnT_some c.ws ps [] (h c (by simp))
    obtain ⟨r, h2, h3⟩ := events_some cs ps' (es ++ evs c ps ps' (compS (sortS ids))) fun c hc => h c (by simp [hc])
    refine ⟨evs c ps ps' (compS (sortS ids)) ++ r, by rw [eventsT_some h1, h2, List.append_assoc], fun e he => ?_⟩
    rcases List.mem_append.1 he with he | he
    · unfold evs at he
      obtain ⟨i, _, rfl⟩ := List.mem_map.1 he
      exact ⟨c, by simp, rfl⟩
    · obtain ⟨c', hc', e'⟩ := h3 e he
      exact ⟨c', by simp [hc'], e'⟩
theorem events_app : ∀ (cs ds : List Cm) (ps : List (List UInt8 × Pl)) (es : List Ev), (∀ c ∈ cs ++ ds, GoodC c) →
    ∃ a b, eventsT ps es cs = some (es ++ a) ∧ eventsT ps es (cs ++ ds) = some (es ++ a ++ b) ∧ ∀ e ∈ b, ∃ c ∈ ds, e.seq = c.seq
  | [], ds, ps, es, h => by
    obtain ⟨r, h1, h2⟩ := events_some ds ps es (by simpa using h)
    exact ⟨[], r, by simp [eventsT], by simpa using h1, h2⟩
  | c :: cs, ds, ps, es, h => by
    obtain ⟨⟨ps', ids⟩, h1⟩ := turnT_some c.ws ps [] (h c (by simp))
    obtain ⟨a, b, h2, h3, h4⟩ := events_app cs ds ps' (es ++ evs c ps ps' (compS (sortS ids))) fun c hc => h c (by simp [hc])
    refine ⟨evs c ps ps' (compS (sortS ids)) ++ a, b, by rw [eventsT_some h1, h2, List.append_assoc], ?_, h4⟩
    rw [List.cons_append, eventsT_some h1, h3]
    simp [List.append_assoc]
theorem events_len {ps : List (List UInt8 × Pl)} {N : Nat} : ∀ (cs : List Cm) (ps : List (List UInt8 × Pl)) (es r : List Ev), eventsT ps es cs = some r → (∀ c ∈ cs, c.ws.length ≤ N) → r.length ≤ es.length + cs.length * N
  | [], ps, es, r, h, _ => by simp [eventsT] at h; subst h; omega
  | c :: cs, ps, es, r, h, hN => by
    cases ht : turnT ps [] c.ws with
    | none => rw [eventsT_none ht] at h; cases h
    | some q =>
      obtain ⟨ps', ids⟩ := q
      rw [eventsT_some ht] at h
      have h1 := events_len (ps := ps) cs ps' _ r h fun c hc => hN c (by simp [hc])
      have h2 := turnT_len _ ht
      have h3 := compS_len (sortS ids)
      rw [sortS_len] at h3
      have h4 := evs_len c ps ps' (compS (sortS ids))
      have h5 := hN c (by simp)
      simp only [List.length_append, List.length_cons, List.length_nil] at h1 h2 ⊢
      rw [Nat.add_mul]
      omega
end Go.AV.Hist
namespace Go.AV
theorem addM_addM (H : HS) (a b : List MB) : (H.addM a).addM b = H.addM (a ++ b) := by simp [HS.addM, List.append_assoc]
theorem Ext.addM {Hs X : HS} (h : Ext Hs X) (ms : List MB) : Ext (Hs.addM ms) (X.addM ms) :=
  ⟨h.blks, h.toks, by show X.maps ++ ms = Hs.maps ++ ms; rw [h.maps]⟩
theorem Ext.three {Hs X H : HS} {a b c : List MB} (hX : Ext Hs X) (h : Ext (((X.addM a).addM b).addM c) H) : Ext (Hs.addM (a ++ b ++ c)) H := by
  rw [← addM_addM, ← addM_addM]
  exact (((hX.addM a).addM b).addM c).trans h
theorem NoIt.back {Hs H : HS} (h : NoIt H) (hx : Ext Hs H) : NoIt Hs := h.of hx.maps.symm
theorem noIt_addM {H : HS} {ms : List MB} (h : NoIt H) (hm : ∀ m ∈ ms, ∃ es, m = .map es) : NoIt (H.addM ms) := fun j o n q he => by
  have he' : (H.maps ++ ms)[j]? = some (.iter o n q) := he
  by_cases hj : j < H.maps.length
  · rw [List.getElem?_append_left hj] at he'; exact h _ _ _ _ he'
  · rw [List.getElem?_append_right (by omega)] at he'
    obtain ⟨es, e⟩ := hm _ (List.mem_of_getElem? he')
    cases e
namespace Hist
theorem msT_maps : ∀ (cs : List Cm) (ps : List (List UInt8 × Pl)), ∀ m ∈ MB.map [] :: msT ps cs, ∃ es, m = .map es
  | [], ps, m, h => by simp [msT] at h; exact ⟨_, h⟩
  | c :: cs, ps, m, h => by
    rcases List.mem_cons.1 h with rfl | h
    · exact ⟨_, rfl⟩
    · rw [msT] at h
      split at h
      · cases h
      · rcases List.mem_cons.1 h with rfl | h
        · exact ⟨_, rfl⟩
        · exact msT_maps cs _ m (List.mem_cons_of_mem _ h)
open Go.AV.Ord Go.AV.Oct Go.AV.Patch
theorem dec_enc {m : Msg} (h1 : 0 ≤ m.ready) (h2 : m.ready ≤ 63) (h3 : 0 ≤ m.count) (h4 : m.count ≤ 7) (h5 : m.token.length ≤ 1) (h6 : m.body.length ≤ 1) : decE (encM m) = 0 ∧ decM m.id (encM m) = m := by
  have h := rM_enc h1 h2 h3 h4 h5 h6
  refine ⟨by unfold decE; rw [h]; rfl, ?_⟩
  unfold decM
  rw [h, if_pos (show rEnd (([] : List UInt8), false) = 0 from rfl)]
  show (⟨_, _, ((m.ready.toNat : Nat) : Int), ((m.count.toNat : Nat) : Int), _⟩ : Msg) = _
  rw [Int.toNat_of_nonneg h1, Int.toNat_of_nonneg h3]
def hM1 : Msg := ⟨[49], [120], 0, 0, []⟩
def hM2 : Msg := ⟨[49], [120], 20, 1, [116]⟩
def hK : List UInt8 := keyL [[109], [113], [49]]
def hW1 : Wt := ⟨hK, encM hM1, false⟩
def hW2 : Wt := ⟨hK, encM hM2, false⟩
def hW3 : Wt := ⟨hK, [], true⟩
def hC1 : Cm := ⟨1, 5, [hW1]⟩
def hC2 : Cm := ⟨2, 6, [hW2]⟩
def hC3 : Cm := ⟨3, 7, [hW3]⟩
def hCs : List Cm := [hC1, hC2, hC3]
def hE1 : Ev := ⟨1, 5, [49], [], [113], M0, hM1⟩
def hE2 : Ev := ⟨2, 6, [49], [113], [113], hM1, hM2⟩
def hE3 : Ev := ⟨3, 7, [49], [113], [], hM2, M0⟩
def hEs : List Ev := [hE1, hE2, hE3]
theorem msgT_hK : msgT hK = ([113], [49], true) := msg_yes (partsE_key _) (partsA_key _)
theorem hd1 : decE (encM hM1) = 0 ∧ decM [49] (encM hM1) = hM1 := dec_enc (m := hM1) (by decide) (by decide) (by decide) (by decide) (by decide) (by decide)
theorem hd2 : decE (encM hM2) = 0 ∧ decM [49] (encM hM2) = hM2 := dec_enc (m := hM2) (by decide) (by decide) (by decide) (by decide) (by decide) (by decide)
theorem ht1 : turnT [] [] hC1.ws = some ([([49], ⟨[113], hM1⟩)], [[49]]) := by
  show turnT [] [] [hW1] = _
  simp [turnT, hW1, msgT_hK, hd1, putK]
theorem ht2 : turnT [([49], ⟨[113], hM1⟩)] [] hC2.ws = some ([([49], ⟨[113], hM2⟩)], [[49]]) := by
  show turnT _ [] [hW2] = _
  simp [turnT, hW2, msgT_hK, hd2, putK]
theorem ht3 : turnT [([49], ⟨[113], hM2⟩)] [] hC3.ws = some ([], [[49]]) := by
  show turnT _ [] [hW3] = _
  simp [turnT, hW3, msgT_hK, delK, atK, getK]
theorem one_id (x : List UInt8) : compS (sortS [x]) = [x] := by
  have : sortS [x] = [x] := by simp [sortS]
  rw [this]
  simp [compS, Lib.compact, Lib.compactUpTo, Lib.keeps]
theorem head_events : eventsT [] [] hCs = some hEs := by
  unfold hCs
  rw [eventsT_some ht1, eventsT_some ht2, eventsT_some ht3, one_id, eventsT]
  decide
theorem head_sound : soundT [] [] hEs = true := by decide
theorem head_leased : (leased hEs).count [49] = 1 := by decide
theorem lit_w (w : Wt) : ∀ y ∈ [wD w], y.cells.length = 3 := by
  intro y hy; rcases List.mem_singleton.1 hy with rfl; rfl
theorem lit_w1 (w : Wt) : ∀ d ∈ flat [wD w], d.one = true := by
  intro d hd; simp only [flat, List.flatMap_cons, List.flatMap_nil, List.append_nil] at hd; exact wC_one w d hd
theorem lit_cs (l : List Cm) : ∀ y ∈ l.map cD, y.cells.length = 3 := by
  intro y hy; obtain ⟨o, _, rfl⟩ := List.mem_map.1 hy; rfl
theorem lit_cs1 (l : List Cm) : ∀ d ∈ flat (l.map cD), d.one = true := by
  intro d hd
  obtain ⟨y, hy, hd⟩ := List.mem_flatMap.1 hd
  obtain ⟨o, _, rfl⟩ := List.mem_map.1 hy
  exact cC_one o d hd
theorem hCs_len : ∀ c ∈ hCs, c.ws.length ≤ 1000000 := by simp [hCs, hC1, hC2, hC3]
theorem hCs_key : ∀ c ∈ hCs, ∀ w ∈ c.ws, w.key.length ≤ 1099511627776 := by
  have h : hK.length ≤ 1099511627776 := Nat.le_trans (keyL_le _) (by decide)
  simp [hCs, hC1, hC2, hC3, hW1, hW2, hW3, h]
section
variable {P : Program} {E : Operand → AV} {H : HS} {dst : Option Tmp} {ty : TypeId} {pos : String} {after : Array Edge} {gd : Option (Nat × Bool)}
theorem op_lookup_nr {x k : Operand} {t kt et : TypeId} {id : Nat} {ss : List (List UInt8)} {es : List (List UInt8 × DV)} {l : List UInt8} {r : Nat} (hN : HoldsN ss es) (hr : ss.count l = r) (ht : P.underlying t = some (.map kt et)) (hkt : P.underlying kt = some .string) (hz : (P.info? et).map (·.zero) = some (some (.int .i64 0)))
    (hx : E x = .map id) (hl : E k = .d (S l)) (hm : H.maps[id]? = some (.map es)) : OpR P ⟨dst, .lookup t x k false, ty, pos, after, gd⟩ E H (Ret (.d (I (r : Nat))) H) := by
  subst hr; exact op_lookup_n hN ht hkt hz hx hl hm
end
end Hist
end Go.AV
namespace Go.Proofs.Ytjbpfnoibeogbaa
open Go.AV Go.AV.Ord Go.AV.Oct Go.AV.Hist
set_option linter.unusedVariables false
set_option linter.unusedSimpArgs false
theorem sound_at (Hs : HS) (es : List Ev) (hs : soundT [] [] es = true) (hno : NoIt Hs) (hl : es.length ≤ 1000000) : ACalls Try.prog 49 [.d (.lst 15 (es.map eD))] Hs (fun av H' => ∃ ms, H' = Hs.addM ms ∧ NoIt H' ∧ av = .d (TF true)) :=
  (sound_ok Hs es hno hl).mono fun av H' ⟨ms, h1, h2, h3⟩ => ⟨ms, h1, h2, by rw [h3, hs]⟩
set_option maxHeartbeats 4000000 in
set_option maxRecDepth 100000 in
theorem head_ok (Hs : HS) (hno : NoIt Hs) : ACalls Try.prog 16 [] Hs (fun av H' => ∃ ms, H' = Hs.addM ms ∧ NoIt H' ∧ av = .d (TF true)) := by
 refine ACalls.tidyA ?_
 refine acalls_of_aw Try.func16 rfl ?_
 refine aw_start (T' := (.un :: .un :: .un :: .un :: .un :: .un :: .un :: .un :: .un :: .un :: .un :: .un :: .un :: .un :: .un :: .un :: .un :: .un :: .un :: .un :: .un :: .un :: .un :: .un :: .un :: .un :: .un :: .un :: .un :: .un :: .un :: .un :: .un :: .un :: .un :: .un :: .un :: .un :: .un :: .un :: .un :: .un :: .un :: .un :: .un :: .un :: .un :: .un :: .un :: .un :: .un :: .un :: .un :: .un :: .un :: .un :: .un :: .un :: .un :: .un :: .un :: .un :: .un :: .un :: .un :: .un :: .un :: .un :: [])) rfl ?_
 refine aw_seq ?_
 refine aw_region ?_
 refine zst (op_assign_const (by rfl)) rfl (by dsimp only [zS, zN, zH, zT]) ?_
 refine al_end rfl ?_
 refine then_normal ?_
 refine aw_seq ?_
 refine aw_region ?_
 refine zst (op_buildD (pl := [(0, 1), (1, 1), (2, 1), (3, 1), (4, 1)]) (mC hM1) Try.underlying58 Zr58 (by kernel_rfl) (by rfl) (by rfl) (by rfl) (mC_one _)) rfl (by dsimp only [zS, zN, zH, zT]) ?_
 refine zst (op_alloc (Zr58) (by rfl)) rfl (by dsimp only [zS, zN, zH, zT]) ?_
 refine zst (op_storeB (vs := [.d (S hM1.id), .d (S hM1.body), .d (I hM1.ready), .d (I hM1.count), .d (S hM1.token)]) (b' := ⟨58, [.d (S hM1.id), .d (S hM1.body), .d (I hM1.ready), .d (I hM1.count), .d (S hM1.token)], false⟩) (H' := _) Sz58 (by rfl) push_at (by intro h; cases h) (by rfl) (by rfl) (Nat.le_of_ble_eq_true rfl) (by simp [AV.one, DV.one, TF, S, I, BY]) (by rfl) (by rfl) rfl) rfl (by dsimp only [zS, zN, zH, zT]) ?_
 refine al_end rfl ?_
 refine then_normal ?_
 refine aw_seq ?_
 refine aw_region ?_
 refine zst (op_buildD (pl := [(0, 1), (1, 1), (2, 1), (3, 1), (4, 1)]) (mC hM2) Try.underlying58 Zr58 (by kernel_rfl) (by rfl) (by rfl) (by rfl) (mC_one _)) rfl (by dsimp only [zS, zN, zH, zT]) ?_
 refine zst (op_alloc (Zr58) (by rfl)) rfl (by dsimp only [zS, zN, zH, zT]) ?_
 refine zst (op_storeB (vs := [.d (S hM2.id), .d (S hM2.body), .d (I hM2.ready), .d (I hM2.count), .d (S hM2.token)]) (b' := ⟨58, [.d (S hM2.id), .d (S hM2.body), .d (I hM2.ready), .d (I hM2.count), .d (S hM2.token)], false⟩) (H' := _) Sz58 (by rfl) push_at (by intro h; cases h) (by rfl) (by rfl) (Nat.le_of_ble_eq_true rfl) (by simp [AV.one, DV.one, TF, S, I, BY]) (by rfl) (by rfl) rfl) rfl (by dsimp only [zS, zN, zH, zT]) ?_
 refine al_end rfl ?_
 refine then_normal ?_
 refine aw_seq ?_
 refine aw_region ?_
 refine zst (op_callF Try.func48 (by rfl) (by rfl) (.const (by rfl) (.const (by rfl) .nil)) (place_ok _ [113] [49] (by decide))) rfl (by dsimp only [zS, zN, zH, zT]) ?_
 refine zst (op_assign_tmp (by rfl)) rfl (by dsimp only [zS, zN, zH, zT]) ?_
 refine al_end rfl ?_
 refine then_normal ?_
 refine aw_seq ?_
 refine aw_draw [0, 1, 0, 0, 0, 0, 0, 1, 0, 0, 0, 0, 0, 0, 0, 0, 0, 2, 0, 0, 0, 0, 0] mixed (by kernel_rfl) ?_
 refine zd0 (fun H => (op_move_tmp (by rfl))) rfl (by dsimp only [zS, zN, zH, zT]) ?_
 refine zd1 (op_load_ptrsD (mC hM1) Try.underlying58 (by rfl) Sz58 (by rfl) (by repeat (first | assumption | exact push_at | exact setB_at push_at | (rw [setB_ne (by simp only [setB_nb, push_nb, ne_eq]; omega)]) | apply push_ne | apply setB_at)) (Nat.le_of_ble_eq_true rfl) (by rfl) (mC_one _)) rfl (by dsimp only [zS, zN, zH, zT]) ?_
 refine zd0 (fun H => (op_callF Try.func21 (by rfl) (by rfl) (.tmp (by rfl) .nil) (menc_ok _ hM1 (by decide) (by decide) (by decide)))) rfl (by dsimp only [zS, zN, zH, zT]) ?_
 refine zd0 (fun H => (op_buildD (pl := [(0, 1), (1, 1), (2, 1)]) (wC hW1) Try.underlying51 Zr51 (by kernel_rfl) (by rfl) (by rfl) (by rfl) (wC_one _))) rfl (by dsimp only [zS, zN, zH, zT]) ?_
 refine zd0 (fun H => (op_lit Try.underlying46 ZS51 (.cons (y := wD hW1) (by rfl) (.nil _)) (by rfl) (lit_w _) (lit_w1 _) (by decide))) rfl (by dsimp only [zS, zN, zH, zT]) ?_
 refine zd0 (fun H => (op_callF Try.func23 (by rfl) (by rfl) (.const (by rfl) (.const (by rfl) (.tmp (by rfl) .nil))) (commit_at _ 1 5 _ [hW1] (Weak.lst (.own _ _ _))))) rfl (by dsimp only [zS, zN, zH, zT]) ?_
 refine zd0 (fun H => (op_move_tmp (by rfl))) rfl (by dsimp only [zS, zN, zH, zT]) ?_
 refine zd1 (op_load_ptrsD (mC hM2) Try.underlying58 (by rfl) Sz58 (by rfl) (by repeat (first | assumption | exact push_at | exact setB_at push_at | (rw [setB_ne (by simp only [setB_nb, push_nb, ne_eq]; omega)]) | apply push_ne | apply setB_at)) (Nat.le_of_ble_eq_true rfl) (by rfl) (mC_one _)) rfl (by dsimp only [zS, zN, zH, zT]) ?_
 refine zd0 (fun H => (op_callF Try.func21 (by rfl) (by rfl) (.tmp (by rfl) .nil) (menc_ok _ hM2 (by decide) (by decide) (by decide)))) rfl (by dsimp only [zS, zN, zH, zT]) ?_
 refine zd0 (fun H => (op_buildD (pl := [(0, 1), (1, 1), (2, 1)]) (wC hW2) Try.underlying51 Zr51 (by kernel_rfl) (by rfl) (by rfl) (by rfl) (wC_one _))) rfl (by dsimp only [zS, zN, zH, zT]) ?_
 refine zd0 (fun H => (op_lit Try.underlying46 ZS51 (.cons (y := wD hW2) (by rfl) (.nil _)) (by rfl) (lit_w _) (lit_w1 _) (by decide))) rfl (by dsimp only [zS, zN, zH, zT]) ?_
 refine zd0 (fun H => (op_callF Try.func23 (by rfl) (by rfl) (.const (by rfl) (.const (by rfl) (.tmp (by rfl) .nil))) (commit_at _ 2 6 _ [hW2] (Weak.lst (.own _ _ _))))) rfl (by dsimp only [zS, zN, zH, zT]) ?_
 refine zd0 (fun H => (op_move_tmp (by rfl))) rfl (by dsimp only [zS, zN, zH, zT]) ?_
 refine zd0 (fun H => (op_buildD (pl := [(0, 1), (1, 1), (2, 1)]) (wC hW3) Try.underlying51 Zr51 (by kernel_rfl) (by rfl) (by rfl) (by rfl) (wC_one _))) rfl (by dsimp only [zS, zN, zH, zT]) ?_
 refine zd0 (fun H => (op_lit Try.underlying46 ZS51 (.cons (y := wD hW3) (by rfl) (.nil _)) (by rfl) (lit_w _) (lit_w1 _) (by decide))) rfl (by dsimp only [zS, zN, zH, zT]) ?_
 refine zd0 (fun H => (op_callF Try.func23 (by rfl) (by rfl) (.const (by rfl) (.const (by rfl) (.tmp (by rfl) .nil))) (commit_at _ 3 7 _ [hW3] (Weak.lst (.own _ _ _))))) rfl (by dsimp only [zS, zN, zH, zT]) ?_
 refine zd0 (fun H => (op_lit Try.underlying40 ZS48 (.cons (y := cD hC1) (by rfl) (.cons (y := cD hC2) (by rfl) (.cons (y := cD hC3) (by rfl) (.nil _)))) (by rfl) (lit_cs hCs) (lit_cs1 hCs) (by decide))) rfl (by dsimp only [zS, zN, zH, zT]) ?_
 refine zd2 (op_callF Try.func18 (by rfl) (by rfl) (.tmp (by rfl) .nil) (events_at _ hCs _ (Weak.lst (.own _ _ _)) head_events (hno.of rfl) (by decide) hCs_len hCs_key)) rfl (by dsimp only [zS, zN, zH, zT]) ?_
 refine zd0 (fun H => (op_move_tmp (by rfl))) rfl (by dsimp only [zS, zN, zH, zT]) ?_
 refine zd0 (fun H => (op_extract (by rfl) (by rfl))) rfl (by dsimp only [zS, zN, zH, zT]) ?_
 refine zd0 (fun H => (op_extract (by rfl) (by rfl))) rfl (by dsimp only [zS, zN, zH, zT]) ?_
 refine zd0 (fun H => (op_assign_tmp (by rfl))) rfl (by dsimp only [zS, zN, zH, zT]) ?_
 refine zd0 (fun H => (op_assign_tmp (by rfl))) rfl (by dsimp only [zS, zN, zH, zT]) ?_
 refine drun_end rfl ?_
 refine then_normal ?_
 refine aw_seq ?_
 refine aw_region ?_
 refine zst (op_move_tmp (by rfl)) rfl (by dsimp only [zS, zN, zH, zT]) ?_
 refine zst (op_eqI (by rfl) (by rfl)) rfl (by dsimp only [zS, zN, zH, zT]) ?_
 refine zst (op_move_tmp (by rfl)) rfl (by dsimp only [zS, zN, zH, zT]) ?_
 refine zsw rfl rfl rfl (op_move_tmp (by rfl)) (by dsimp only [zS, zN, zH, zT]) ?_
 refine zsw rfl rfl rfl (op_lenL Try.underlying42 (by first | exact LL.d _ _ | exact LL.own _ _ _ | exact LL.nil _ | assumption)) (by dsimp only [zS, zN, zH, zT]) ?_
 refine zsw rfl rfl rfl (op_eqI (by rfl) (by rfl)) (by dsimp only [zS, zN, zH, zT]) ?_
 refine zst (op_pick_tt (by rfl) (val_tmp (by rfl))) rfl (by dsimp only [zS, zN, zH, zT]) ?_
 refine zst (op_move_tmp (by rfl)) rfl (by dsimp only [zS, zN, zH, zT]) ?_
 refine zsw rfl rfl rfl (op_move_tmp (by rfl)) (by dsimp only [zS, zN, zH, zT]) ?_
 refine al_consw _ (op_callF Try.func49 (by rfl) (by rfl) (.tmp (by rfl) .nil) (sound_at _ hEs head_sound (noIt_addM (hno.of rfl) (msT_maps _ _)) (by decide))) rfl rfl rfl ?_
 rintro v3 H3 ⟨ms3, rfl, hni3, rfl⟩
 apply al_normT
 · (try dsimp only [putT, List.set_cons_zero, List.set_cons_succ]); try exact rfl
 refine zst (op_pick_tt (by rfl) (val_tmp (by rfl))) rfl (by dsimp only [zS, zN, zH, zT]) ?_
 refine zst (op_move_tmp (by rfl)) rfl (by dsimp only [zS, zN, zH, zT]) ?_
 refine zsw rfl rfl rfl (op_move_tmp (by rfl)) (by dsimp only [zS, zN, zH, zT]) ?_
 refine al_consw _ (op_callF Try.func50 (by rfl) (by rfl) (.tmp (by rfl) .nil) (leases_ok _ hEs hni3 (by decide))) rfl rfl rfl ?_
 rintro v4 H4 ⟨q4, hx4, hni4, hN4, rfl⟩
 apply al_normT
 · (try dsimp only [putT, List.set_cons_zero, List.set_cons_succ]); try exact rfl
 refine zsw rfl rfl rfl (op_lookup_nr hN4 head_leased Try.underlying108 Try.underlying9 Zr3 (by rfl) (by rfl) (Ext.at0 hx4)) (by dsimp only [zS, zN, zH, zT]) ?_
 refine zsw rfl rfl rfl (op_eqI (by rfl) (by rfl)) (by dsimp only [zS, zN, zH, zT]) ?_
 refine zst (op_pick_tt (by rfl) (val_tmp (by rfl))) rfl (by dsimp only [zS, zN, zH, zT]) ?_
 refine zst (op_move_tmp (by rfl)) rfl (by dsimp only [zS, zN, zH, zT]) ?_
 refine zsw rfl rfl rfl (op_move_tmp (by rfl)) (by dsimp only [zS, zN, zH, zT]) ?_
 refine zsw rfl rfl rfl (op_indexAddr (z := eD hE1) (cs := [I hE1.seq, I hE1.at_, S hE1.id, S hE1.fr, S hE1.to, S hE1.old.id, S hE1.old.body, I hE1.old.ready, I hE1.old.count, S hE1.old.token, S hE1.new.id, S hE1.new.body, I hE1.new.ready, I hE1.new.count, S hE1.new.token]) Try.underlying42 Sz60 (LL.d _ _) (by rfl) (by decide) (by rfl) (by rfl)) (by dsimp only [zS, zN, zH, zT]) ?_
 refine zsw rfl rfl rfl (by first | exact op_fieldAddr_ptr Try.underlying60 rfl Sz9 (by rfl) (by rfl) | exact op_fieldAddr_elt Try.underlying60 rfl Sz9 (by rfl) (by rfl) (by rfl)) (by dsimp only [zS, zN, zH, zT]) ?_
 refine zsw rfl rfl rfl (by first | exact op_load_elt Try.underlying9 (by rfl) (by rfl) (by rfl) | exact op_load_ptr Try.underlying9 (by rfl) (by rfl) (by repeat (first | assumption | exact push_at | exact setB_at push_at | (rw [setB_ne (by simp only [setB_nb, push_nb, ne_eq]; omega)]) | apply push_ne | apply setB_at)) (by rfl)) (by dsimp only [zS, zN, zH, zT]) ?_
 refine zsw rfl rfl rfl (op_eqS (by rfl) (by rfl)) (by dsimp only [zS, zN, zH, zT]) ?_
 refine zst (op_pick_tt (by rfl) (val_tmp (by rfl))) rfl (by dsimp only [zS, zN, zH, zT]) ?_
 refine zst (op_move_tmp (by rfl)) rfl (by dsimp only [zS, zN, zH, zT]) ?_
 refine zsw rfl rfl rfl (op_move_tmp (by rfl)) (by dsimp only [zS, zN, zH, zT]) ?_
 refine zsw rfl rfl rfl (op_indexAddr (z := eD hE1) (cs := [I hE1.seq, I hE1.at_, S hE1.id, S hE1.fr, S hE1.to, S hE1.old.id, S hE1.old.body, I hE1.old.ready, I hE1.old.count, S hE1.old.token, S hE1.new.id, S hE1.new.body, I hE1.new.ready, I hE1.new.count, S hE1.new.token]) Try.underlying42 Sz60 (LL.d _ _) (by rfl) (by decide) (by rfl) (by rfl)) (by dsimp only [zS, zN, zH, zT]) ?_
 refine zsw rfl rfl rfl (by first | exact op_fieldAddr_ptr Try.underlying60 rfl Sz9 (by rfl) (by rfl) | exact op_fieldAddr_elt Try.underlying60 rfl Sz9 (by rfl) (by rfl) (by rfl)) (by dsimp only [zS, zN, zH, zT]) ?_
 refine zsw rfl rfl rfl (by first | exact op_load_elt Try.underlying9 (by rfl) (by rfl) (by rfl) | exact op_load_ptr Try.underlying9 (by rfl) (by rfl) (by repeat (first | assumption | exact push_at | exact setB_at push_at | (rw [setB_ne (by simp only [setB_nb, push_nb, ne_eq]; omega)]) | apply push_ne | apply setB_at)) (by rfl)) (by dsimp only [zS, zN, zH, zT]) ?_
 refine zsw rfl rfl rfl (op_eqS (by rfl) (by rfl)) (by dsimp only [zS, zN, zH, zT]) ?_
 refine zst (op_pick_tt (by rfl) (val_tmp (by rfl))) rfl (by dsimp only [zS, zN, zH, zT]) ?_
 refine zst (op_move_tmp (by rfl)) rfl (by dsimp only [zS, zN, zH, zT]) ?_
 refine zsw rfl rfl rfl (op_move_tmp (by rfl)) (by dsimp only [zS, zN, zH, zT]) ?_
 refine zsw rfl rfl rfl (op_indexAddr (z := eD hE3) (cs := [I hE3.seq, I hE3.at_, S hE3.id, S hE3.fr, S hE3.to, S hE3.old.id, S hE3.old.body, I hE3.old.ready, I hE3.old.count, S hE3.old.token, S hE3.new.id, S hE3.new.body, I hE3.new.ready, I hE3.new.count, S hE3.new.token]) Try.underlying42 Sz60 (LL.d _ _) (by rfl) (by decide) (by rfl) (by rfl)) (by dsimp only [zS, zN, zH, zT]) ?_
 refine zsw rfl rfl rfl (by first | exact op_fieldAddr_ptr Try.underlying60 rfl Sz9 (by rfl) (by rfl) | exact op_fieldAddr_elt Try.underlying60 rfl Sz9 (by rfl) (by rfl) (by rfl)) (by dsimp only [zS, zN, zH, zT]) ?_
 refine zsw rfl rfl rfl (by first | exact op_load_elt Try.underlying9 (by rfl) (by rfl) (by rfl) | exact op_load_ptr Try.underlying9 (by rfl) (by rfl) (by repeat (first | assumption | exact push_at | exact setB_at push_at | (rw [setB_ne (by simp only [setB_nb, push_nb, ne_eq]; omega)]) | apply push_ne | apply setB_at)) (by rfl)) (by dsimp only [zS, zN, zH, zT]) ?_
 refine zsw rfl rfl rfl (op_eqS (by rfl) (by rfl)) (by dsimp only [zS, zN, zH, zT]) ?_
 refine zst (op_pick_tt (by rfl) (val_tmp (by rfl))) rfl (by dsimp only [zS, zN, zH, zT]) ?_
 refine zst (op_assign_tmp (by rfl)) rfl (by dsimp only [zS, zN, zH, zT]) ?_
 refine al_end rfl ?_
 refine then_normal ?_
 refine aw_ret ?_
 refine retPost1 rfl rfl ?_
 exact ⟨_, .d _, Ext.three (by repeat (first | exact Ext.refl _ | apply Ext.push | (refine Ext.setB ?_ (by (try simp only [setB_nb, push_nb]); omega)))) hx4, _, rfl, NoIt.back hni4 (Ext.three (by repeat (first | exact Ext.refl _ | apply Ext.push | (refine Ext.setB ?_ (by (try simp only [setB_nb, push_nb]); omega)))) hx4), rfl⟩
end Go.Proofs.Ytjbpfnoibeogbaa
namespace Go.AV
theorem HS.ok_apart {H : HS} {t t' : Option Nat} {n m k : Nat} (h : H.ok t n) (hne : ∀ i, t = some i → t' ≠ some i) (_ : H.ok t' k) : (H.up t' m).ok t n := by
  intro i hi
  have h1 := h i hi
  cases t' with
  | none =>
    simp only [HS.up]
    rw [List.getElem?_append_left (List.getElem?_eq_some_iff.1 h1).1]
    exact h1
  | some j =>
    have hj : j ≠ i := fun e => hne i hi (by rw [e])
    simp only [HS.up]
    rw [List.getElem?_set_ne hj]
    exact h1
theorem apart_up {H : HS} {t t' : Option Nat} {n : Nat} (h : H.ok t n) (hne : ∀ i, t = some i → t' ≠ some i) : ∀ i, t = some i → some (H.tk t') ≠ some i := by
  intro i hi
  have h1 := (List.getElem?_eq_some_iff.1 (h i hi)).1
  cases t' with
  | none =>
    intro e
    have e1 : H.toks.length = i := Option.some.inj e
    omega
  | some j => exact hne i hi
theorem addM_snoc (H : HS) (ms : List MB) (m : MB) : (H.addM ms).pushM m = H.addM (ms ++ [m]) := by simp [HS.addM, HS.pushM, List.append_assoc]
theorem Ext.pushM1 {Hs H : HS} {m : MB} (h : Ext Hs H) : Ext (Hs.pushM m) (H.pushM m) :=
  ⟨h.blks, h.toks, by show H.maps ++ [m] = Hs.maps ++ [m]; rw [h.maps]⟩
theorem Ext.up1 {Hs H : HS} {t : Option Nat} {n m : Nat} (h : Ext Hs H) (hn : NewTok Hs t) (hok : H.ok t m) : Ext Hs (H.up t n) := (h.upN hn hok).1
namespace Hist
open Go.AV.Ord Go.AV.Oct Go.AV.Patch
def W0 : Wt := ⟨[], [], false⟩
theorem byte_add {a : Int} {i n : Nat} (h : n < 256) (e : a + (i : Int) = (n : Int)) : IntKind.u8.wrap (a + (i : Int)) = ((UInt8.ofNat n).toNat : Int) := by
  rw [e, conv_byte, Nat.mod_eq_of_lt h]
theorem looked {c : Nat} {l : List Pt} {es : List (List UInt8 × DV)} {k : List UInt8} {o : Option Wt} (h : Holds c l es) (ho : lastP c l k = o) : (getE es k).isSome = o.isSome ∧ (getE es k).getD (.agg (wC W0)) = .agg (wC (o.getD W0)) := by
  subst ho
  rw [h k]
  cases lastP c l k <;> exact ⟨rfl, rfl⟩
theorem q_at {q : Nat} (h : q < 2) : [S [97], S [98]][q]? = some (S (qB q)) := by
  match q, h with
  | 0, _ => rfl
  | 1, _ => rfl
theorem tkB_pos {i : Nat} (h : 0 < i) : tkB i = [UInt8.ofNat (116 + i)] := by unfold tkB; rw [if_pos h]
theorem tkB_zero {i : Nat} (h : ¬ 0 < i) : tkB i = [] := by unfold tkB; rw [if_neg h]
theorem lit_c (c : Cm) : ∀ y ∈ [cD c], y.cells.length = 3 := by
  intro y hy; rcases List.mem_singleton.1 hy with rfl; rfl
theorem lit_c1 (c : Cm) : ∀ d ∈ flat [cD c], d.one = true := by
  intro d hd; simp only [flat, List.flatMap_cons, List.flatMap_nil, List.append_nil] at hd; exact cC_one c d hd
theorem lit_b (b : UInt8) : ∀ y ∈ [BY b], y.cells.length = 1 := by
  intro y hy; rcases List.mem_singleton.1 hy with rfl; rfl
theorem lit_b1 (b : UInt8) : ∀ d ∈ flat [BY b], d.one = true := by
  intro d hd; simp [flat, BY, DV.cells] at hd; subst hd; rfl
theorem msgP_rd (p : Pt) : (msgP p).ready ≤ 9223372036854775807 := by
  have := low_le p.ready (k := 64) (by decide)
  show ((low p.ready 64 : Nat) : Int) ≤ _; omega
theorem msgP_ct (p : Pt) : (msgP p).count ≤ 9223372036854775807 := by
  have := low_le p.count (k := 8) (by decide)
  show ((low p.count 8 : Nat) : Int) ≤ _; omega
theorem msgP_ln (p : Pt) : (msgP p).token.length + (msgP p).body.length ≤ 1000000000 := by
  have := tkB_len (low p.token 4)
  show (tkB (low p.token 4)).length + 0 ≤ _; omega
theorem app_w {t : Option Nat} {l l' : List Wt} {w : Wt} (h : l' = l ++ [w]) : App (.own t 3 (l.map wD ++ [wD w])) t 3 (l'.map wD) := by
  subst h; rw [List.map_append]; exact App.own _ _ _
theorem app_c {t : Option Nat} {l l' : List Cm} {w : Cm} (h : l' = l ++ [w]) : App (.own t 3 (l.map cD ++ [cD w])) t 3 (l'.map cD) := by
  subst h; rw [List.map_append]; exact App.own _ _ _
end Hist
end Go.AV
