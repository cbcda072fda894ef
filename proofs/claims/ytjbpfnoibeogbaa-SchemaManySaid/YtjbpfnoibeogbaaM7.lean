/- Part 7 of what the law needs: WSchemaMany. -/
import Derived.Test.YtjbpfnoibeogbaaM6
import Derived.KernelRfl
namespace Go.Proofs.Ytjbpfnoibeogbaa
open Go.AV Go.AV.Ord Go.AV.Oct Go.AV.Hist Go.AV.Sb Go.AV.Sch Go.AV.Val
set_option linter.unusedVariables false
set_option linter.unusedSimpArgs false
theorem ctypes : CTypes Try.prog 77 88 9 4 75 where
  c := ⟨_, Try.underlying77, ⟨_, rfl, rfl, rfl⟩, ⟨_, rfl, rfl, rfl⟩, rfl⟩
  x := ⟨_, Try.underlying88, ⟨_, rfl, rfl, rfl⟩, ⟨_, rfl, rfl, rfl⟩, ⟨_, rfl, rfl, rfl⟩, rfl⟩
  s := Try.underlying9
  b := Try.underlying4
  l := Try.underlying75
  cC := by kernel_rfl
  cX := by kernel_rfl
  cS := by kernel_rfl
  cB := by kernel_rfl
  cL := by kernel_rfl
set_option maxRecDepth 100000 in
theorem head_ok (Hs : HS) : ACalls Try.prog 24 [] Hs (Ret (.d (TF true)) Hs) := by
 refine acalls_of_aw Try.func24 rfl ?_
 refine aw_start (T' := [.un, .un, .un, .un]) rfl ?_
 refine aw_seq ?_
 refine aw_region ?_
 refine zst (op_assign_const (by rfl)) rfl (by dsimp only [zS, zN, zH, zT]) ?_
 refine al_end rfl ?_
 refine then_normal ?_
 refine aw_seq ?_
 refine aw_region ?_
 refine zst (op_buildD (pl := [(0, 1), (1, 1)]) [S [97], .v (.slice none 0 0)] Try.underlying77 Zr77 (by kernel_rfl) (by rfl) (by rfl) (by rfl) (by simp [DV.one, S])) rfl (by dsimp only [zS, zN, zH, zT]) ?_
 refine zst (op_callF Try.func60 (by rfl) (by rfl) (.tmp (by rfl) .nil) (ckey_ok _ [97] (.v (.slice none 0 0)) (by decide))) rfl (by dsimp only [zS, zN, zH, zT]) ?_
 refine zst (op_eqS (by rfl) (by rfl)) rfl (by dsimp only [zS, zN, zH, zT]) ?_
 refine zst (op_assign_tmp (by rfl)) rfl (by dsimp only [zS, zN, zH, zT]) ?_
 refine al_end rfl ?_
 refine then_normal ?_
 refine aw_ret ?_
 refine retPost1 rfl rfl ?_
 exact ⟨rfl, rfl⟩
theorem lright_t (Hs : HS) (name : List UInt8) (xs : List Ix) (hno : NoIt Hs) (hl : xs.length ≤ 1000000) (hr : rightC name xs = true) : ACalls Try.prog 29 [.d (.agg [S name, .lst 3 (xs.map ixD)])] Hs (Ret (.d (TF true)) (Hs.addM (rmsC name xs))) := by
  have h := lright_ok Hs name xs hno hl
  rwa [hr] at h
theorem lright_f (Hs : HS) (name : List UInt8) (xs : List Ix) (hno : NoIt Hs) (hl : xs.length ≤ 1000000) (hr : rightC name xs = false) : ACalls Try.prog 29 [.d (.agg [S name, .lst 3 (xs.map ixD)])] Hs (Ret (.d (TF false)) (Hs.addM (rmsC name xs))) := by
  have h := lright_ok Hs name xs hno hl
  rwa [hr] at h
theorem same_at (Hs : HS) (name : List UInt8) (xs : List Ix) (hl : xs.length ≤ 1000000) : ACalls Try.prog 31 [.d (.agg [S name, .lst 3 (xs.map ixD)]), .d (.agg [S name, .lst 3 (xs.map ixD)])] Hs (Ret (.d (TF true)) Hs) := by
  have h := same_ok Hs name xs name xs hl
  rwa [same_self] at h
theorem of2_at (Hs : HS) (tid sid : Nat) (lv : AV) (sz : Int) (ls : List (List It)) (vs : List AV) (ds : List Cl) (hI : TI ds ls) (hT : Hs.blks[tid]? = some ⟨145, [.ptr sid 0, .d (I 0), .d (I 0), .d (I 0), .d (I 0), lv, .d (I sz)], false⟩) (hL : LvT Hs 195 197 lv ls vs) (hS : Hs.blks[sid]? = some ⟨134, [nilS, .d (I 0), .d (I 0), nilS], false⟩) (name : List UInt8) (xs : List Ix) (hd : (name, xs) ∈ ds) : ACalls Try.prog 30 [.ptr tid 0, .d (S name)] Hs (Ret (.tup [.d (.agg [S name, .lst 3 (xs.map ixD)]), .d (I 0)]) Hs) := by
  have hr := rightC_of_mem hI hd
  obtain ⟨l, h1, h2, h3⟩ := hI.find hd
  have h := of2_some Hs tid sid lv sz ls vs name l h1 hI.firsts h2 hI.two _ h3 rfl hT hL hS (by have := right_bounds hr; omega)
  obtain ⟨q1, q2, q3⟩ := dec_right hr
  rwa [show (⟨keyL [[99], name], encC xs, false⟩ : Wt).val = encC xs from rfl, q1, q2, q3] at h
set_option maxHeartbeats 8000000 in
set_option maxRecDepth 100000 in
theorem schemaMany_walk (Hs : HS) (cs : List Cl) (hcl : ∀ d ∈ cs, d.2.length ≤ 9223372036854775807) (hM0 : Hs.maps = []) : ACalls Try.prog 7 [.d (.lst 2 (cs.map cDV))] Hs (fun av _ => av = .d (TF true)) := by
 have hno : NoIt Hs := fun j o n q he => by rw [hM0] at he; cases he
 refine acalls_of_aw Try.func7 rfl ?_
 refine aw_start (T' := ((.d (.lst 2 (cs.map cDV))) :: .un :: .un :: .un :: .un :: .un :: .un :: .un :: .un :: .un :: .un :: .un :: .un :: .un :: .un :: .un :: .un :: .un :: .un :: .un :: .un :: .un :: .un :: .un :: .un :: .un :: .un :: .un :: .un :: .un :: .un :: .un :: .un :: .un :: .un :: .un :: .un :: .un :: .un :: .un :: .un :: .un :: .un :: .un :: .un :: .un :: .un :: .un :: .un :: .un :: .un :: .un :: .un :: .un :: .un :: .un :: .un :: .un :: .un :: .un :: .un :: .un :: .un :: .un :: .un :: .un :: .un :: .un :: .un :: .un :: .un :: .un :: .un :: .un :: .un :: .un :: .un :: .un :: .un :: .un :: .un :: .un :: .un :: .un :: .un :: .un :: .un :: .un :: .un :: .un :: .un :: .un :: [])) rfl ?_
 refine aw_seq ?_
 refine aw_region ?_
 refine zst (op_assign_const (by rfl)) rfl (by dsimp only [zS, zN, zH, zT]) ?_
 refine al_end rfl ?_
 refine then_normal ?_
 refine aw_seq ?_
 refine aw_seq ?_
 refine aw_region ?_
 refine zst (op_callF Try.func24 (by rfl) (by rfl) .nil (head_ok _)) rfl (by dsimp only [zS, zN, zH, zT]) ?_
 refine zst (op_not (by rfl)) rfl (by dsimp only [zS, zN, zH, zT]) ?_
 refine al_end rfl ?_
 refine then_normal ?_
 refine aw_cond rfl (fun h => by cases h) (fun _ => ?_)
 refine aw_skip ?_
 refine then_normal ?_
 refine aw_seq ?_
 refine aw_seq ?_
 refine aw_region ?_
 refine zst (op_move_tmp (by rfl)) rfl (by dsimp only [zS, zN, zH, zT]) ?_
 refine zst (op_lenL Try.underlying68 (by first | exact LL.d _ _ | exact LL.own _ _ _ | exact LL.nil _ | assumption)) rfl (by dsimp only [zS, zN, zH, zT]) ?_
 refine zst (op_gtI (by rfl) (by rfl)) rfl (by dsimp only [zS, zN, zH, zT]) ?_
 refine al_end rfl ?_
 refine then_normal ?_
 refine aw_cond rfl (fun hc2 => ?_) (fun hc2 => ?_)
 ·
  (try simp only [y1, y2, y3, y4, y5, y6, y7, y8, y9, y0, List.length_map] at hc2)
  refine aw_seq ?_
  refine aw_region ?_
  refine zst (op_assign_const (by rfl)) rfl (by dsimp only [zS, zN, zH, zT]) ?_
  refine al_end rfl ?_
  refine then_normal ?_
  refine aw_ret ?_
  refine then_ret ?_
  refine retPost1 rfl rfl ?_
  first | exact rfl | (have hlen := hI.len; simp [cE_len, hlen, TF]; done)
 ·
  (try simp only [y1, y2, y3, y4, y5, y6, y7, y8, y9, y0, List.length_map] at hc2)
  (try simp only [List.length_map] at hc2)
  have hl12 : cs.length ≤ 12 := by omega
  refine aw_skip ?_
  refine then_normal ?_
  refine aw_seq ?_
  refine aw_region ?_
  refine zst (op_callF Try.func25 (by rfl) (by rfl) (.const (by rfl) (.const (by rfl) .nil)) (new_ok _)) rfl (by dsimp only [zS, zN, zH, zT]) ?_
  refine zst (op_move_tmp (by rfl)) rfl (by dsimp only [zS, zN, zH, zT]) ?_
  refine zst (op_extract (by rfl) (by rfl)) rfl (by dsimp only [zS, zN, zH, zT]) ?_
  refine zst (op_extract (by rfl) (by rfl)) rfl (by dsimp only [zS, zN, zH, zT]) ?_
  refine zst (op_assign_tmp (by rfl)) rfl (by dsimp only [zS, zN, zH, zT]) ?_
  refine zst (op_assign_tmp (by rfl)) rfl (by dsimp only [zS, zN, zH, zT]) ?_
  refine al_end rfl ?_
  refine then_normal ?_
  refine aw_seq ?_
  refine aw_region ?_
  refine zst (op_move_tmp (by rfl)) rfl (by dsimp only [zS, zN, zH, zT]) ?_
  refine zst (op_callF Try.func26 (by rfl) (by rfl) (.tmp (by rfl) (.const (by rfl) (.const (by rfl) .nil))) (begin_ok _ _ push_at)) rfl (by dsimp only [zS, zN, zH, zT]) ?_
  refine zst (op_assign_tmp (by rfl)) rfl (by dsimp only [zS, zN, zH, zT]) ?_
  refine al_end rfl ?_
  refine then_normal ?_
  apply aw_cutF (fun T H => ∃ (sid : Nat) (tid : Nat) (mid : Nat), T = ((.d (.lst 2 (cs.map cDV))) :: .un :: .un :: .un :: .un :: (.ptr tid 0) :: (.map mid) :: .un :: .un :: .un :: .un :: .un :: .un :: .un :: .un :: .un :: .un :: .un :: .un :: .un :: .un :: .un :: .un :: .un :: .un :: .un :: .un :: .un :: .un :: .un :: .un :: .un :: .un :: .un :: .un :: .un :: .un :: .un :: .un :: .un :: .un :: .un :: .un :: .un :: .un :: .un :: .un :: .un :: .un :: .un :: .un :: .un :: .un :: .un :: .un :: .un :: .un :: .un :: .un :: .un :: .un :: .un :: .un :: .un :: .un :: .un :: .un :: .un :: .un :: .un :: .un :: .un :: .un :: .un :: .un :: .un :: .un :: .un :: .un :: .un :: .un :: .un :: .un :: .un :: .un :: .un :: .un :: .un :: .un :: .un :: .un :: .un :: []) ∧ H.blks[sid]? = some ⟨134, [nilS, .d (I 0), .d (I 0), nilS], false⟩ ∧ H.blks[tid]? = some ⟨145, [.ptr sid 0, .d (I 0), .d (I 0), .d (I 0), .d (I 0), nilS, .d (I 0)], false⟩ ∧ H.maps[mid]? = some (.map []) ∧ NoIt H)
  ·
   refine aw_region ?_
   refine zst (op_makeMap) rfl (by dsimp only [zS, zN, zH, zT]) ?_
   refine zst (op_assign_tmp (by rfl)) rfl (by dsimp only [zS, zN, zH, zT]) ?_
   refine al_end rfl ?_
   apply cut_to (true :: false :: false :: false :: false :: true :: true :: false :: false :: false :: false :: false :: false :: false :: false :: false :: false :: false :: false :: false :: false :: false :: false :: false :: false :: false :: false :: false :: false :: false :: false :: false :: false :: false :: false :: false :: false :: false :: false :: false :: false :: false :: false :: false :: false :: false :: false :: false :: false :: false :: false :: false :: false :: false :: false :: false :: false :: false :: false :: false :: false :: false :: false :: false :: false :: false :: false :: false :: false :: false :: false :: false :: false :: false :: false :: false :: false :: false :: false :: false :: false :: false :: false :: false :: false :: false :: false :: false :: false :: false :: false :: false :: [])
   · (try dsimp only [maskT]); try exact rfl
   · rfl
   exact ⟨_, _, _, rfl, push_ne push_at, push_at, pushM_new, NoIt.push (hno.of rfl) _⟩
  rintro T H ⟨sid, tid, mid, rfl, hS, hT, hM, hni⟩
  refine aw_seq ?_
  refine aw_seq ?_
  refine aw_region ?_
  refine zst (op_move_tmp (by rfl)) rfl (by dsimp only [zS, zN, zH, zT]) ?_
  refine zst (op_lenL Try.underlying68 (by first | exact LL.d _ _ | exact LL.own _ _ _ | exact LL.nil _ | assumption)) rfl (by dsimp only [zS, zN, zH, zT]) ?_
  refine zst (op_move_const (by rfl)) rfl (by dsimp only [zS, zN, zH, zT]) ?_
  refine al_end rfl ?_
  refine then_normal ?_
  refine aw_block ?_
  apply aw_loopF (fun n T H => ∃ (k : Nat) (lv : AV) (ls : List (List It)) (vs : List AV) (made : List Cl), T = ((.d (.lst 2 (cs.map cDV))) :: .un :: .un :: .un :: .un :: (.ptr tid 0) :: (.map mid) :: .un :: .un :: .un :: .un :: .un :: .un :: .un :: .un :: .un :: .un :: .un :: .un :: .un :: .un :: .un :: .un :: .un :: .un :: .un :: .un :: .un :: (.d (.lst 2 (cs.map cDV))) :: (.d (I (cs.map cDV).length)) :: (.d (I k)) :: .un :: .un :: .un :: .un :: .un :: .un :: .un :: .un :: .un :: .un :: .un :: .un :: .un :: .un :: .un :: .un :: .un :: .un :: .un :: .un :: .un :: .un :: .un :: .un :: .un :: .un :: .un :: .un :: .un :: .un :: .un :: .un :: .un :: .un :: .un :: .un :: .un :: .un :: .un :: .un :: .un :: .un :: .un :: .un :: .un :: .un :: .un :: .un :: .un :: .un :: .un :: .un :: .un :: .un :: .un :: .un :: .un :: .un :: .un :: .un :: .un :: []) ∧ k ≤ cs.length ∧ n = cs.length - k ∧ made.length ≤ k ∧ H.blks[sid]? = some ⟨134, [nilS, .d (I 0), .d (I 0), nilS], false⟩ ∧ H.blks[tid]? = some ⟨145, [.ptr sid 0, .d (I 0), .d (I 0), .d (I 0), .d (I 0), lv, .d (I (made.length : Int))], false⟩ ∧ LvT H 195 197 lv ls vs ∧ TI made ls ∧ H.maps[mid]? = some (.map (cE made)) ∧ NoIt H) (cs.length) (true :: false :: false :: false :: false :: true :: true :: false :: false :: false :: false :: false :: false :: false :: false :: false :: false :: false :: false :: false :: false :: false :: false :: false :: false :: false :: false :: false :: true :: true :: true :: false :: false :: false :: false :: false :: false :: false :: false :: false :: false :: false :: false :: false :: false :: false :: false :: false :: false :: false :: false :: false :: false :: false :: false :: false :: false :: false :: false :: false :: false :: false :: false :: false :: false :: false :: false :: false :: false :: false :: false :: false :: false :: false :: false :: false :: false :: false :: false :: false :: false :: false :: false :: false :: false :: false :: false :: false :: false :: false :: false :: false :: [])
  · (try dsimp only [maskT]); try exact rfl
  · rfl
  · exact ⟨0, nilS, [], [], [], rfl, by omega, rfl, Nat.le_refl _, hS, hT, LvT.nil, TI.nil, hM, hni⟩
  rintro n T H ⟨k, lv, ls, vs, made, rfl, hk, rfl, hmk, hS, hT, hL, hI, hM, hni⟩
  refine aw_seq ?_
  refine aw_region ?_
  refine zst (op_ltI (by rfl) (by rfl)) rfl (by dsimp only [zS, zN, zH, zT]) ?_
  refine al_end rfl ?_
  refine then_normal ?_
  refine aw_seq ?_
  refine aw_cond rfl (fun hc3 => ?_) (fun hc3 => ?_)
  ·
   (try simp only [y1, y2, y3, y4, y5, y6, y7, y8, y9, y0, List.length_map] at hc3)
   (try simp only [List.length_map] at hc3)
   have hlt : k < cs.length := by omega
   obtain ⟨⟨name, xs⟩, hc1⟩ : ∃ z0, cs[k]? = some z0 := ⟨_, List.getElem?_eq_getElem hlt⟩
   refine aw_skip ?_
   refine then_normal ?_
   refine aw_seq ?_
   refine aw_block ?_
   refine aw_seq ?_
   refine aw_region ?_
   refine zst (op_indexAddr (z := cDV (name, xs)) (cs := [S name, .lst 3 (xs.map ixD)]) Try.underlying68 Sz77 (LL.d _ _) (by rfl) (by omega) (by rw [List.getElem?_map, show ((k : Nat) : Int).toNat = k from rfl, hc1]; rfl) (by rfl)) rfl (by dsimp only [zS, zN, zH, zT]) ?_
   refine zst (op_load_elts (ds := [S name, .lst 3 (xs.map ixD)]) Try.underlying77 (by rfl) Sz77 (by rfl) (Nat.le_of_ble_eq_true rfl) (by rfl)) rfl (by dsimp only [zS, zN, zH, zT]) ?_
   refine zst (op_alloc (Zr77) (by rfl)) rfl (by dsimp only [zS, zN, zH, zT]) ?_
   refine zst (op_storeB (vs := [.d (S name), .d (.lst 3 (xs.map ixD))]) (b' := ⟨77, [.d (S name), .d (.lst 3 (xs.map ixD))], false⟩) (H' := _) Sz77 (by rfl) push_at (by intro h; cases h) (by rfl) (by rfl) (Nat.le_of_ble_eq_true rfl) (by simp [AV.one, DV.one, TF, S, I, BY]) (by rfl) (by rfl) rfl) rfl (by dsimp only [zS, zN, zH, zT]) ?_
   refine al_end rfl ?_
   refine then_normal ?_
   refine aw_seq ?_
   refine aw_seq ?_
   refine aw_region ?_
   refine zst (op_load_ptrsD [S name, .lst 3 (xs.map ixD)] Try.underlying77 (by rfl) Sz77 (by rfl) (by (try have l1 := lt_nb hT); (try have l2 := lt_nb hS); (try have l3 := lt_nb hP); (try have l4 := lt_nb hG); repeat (first | assumption | exact push_at | exact setB_at push_at | (rw [addM_blks]) | (rw [setM_blks]) | (rw [pushM_blks]) | (rw [setB_ne (by (try simp only [setB_nb, push_nb, addM_nb, setM_nb, pushM_nb, ne_eq]); omega)]) | apply push_ne | apply setB_at)) (Nat.le_of_ble_eq_true rfl) (by rfl) (by simp [DV.one, S])) rfl (by dsimp only [zS, zN, zH, zT]) ?_
   refine zst (op_callF Try.func27 (by rfl) (by rfl) (.tmp (by rfl) .nil) (cfew_ok _ name xs (hcl _ (List.mem_of_getElem? hc1)))) rfl (by dsimp only [zS, zN, zH, zT]) ?_
   refine zst (op_not (by rfl)) rfl (by dsimp only [zS, zN, zH, zT]) ?_
   refine al_end rfl ?_
   refine then_normal ?_
   refine aw_cond rfl (fun hc4 => ?_) (fun hc4 => ?_)
   ·
    (try simp only [y1, y2, y3, y4, y5, y6, y7, y8, y9, y0, List.length_map] at hc4)
    refine aw_seq ?_
    refine aw_region ?_
    refine zst (op_assign_const (by rfl)) rfl (by dsimp only [zS, zN, zH, zT]) ?_
    refine al_end rfl ?_
    refine then_normal ?_
    refine aw_ret ?_
    refine then_ret (inBlock_ret (then_ret (again_ret (inBlock_ret (then_ret ?_)))))
    refine retPost1 rfl rfl ?_
    first | exact rfl | (have hlen := hI.len; simp [cE_len, hlen, TF]; done)
   ·
    (try simp only [y1, y2, y3, y4, y5, y6, y7, y8, y9, y0, List.length_map] at hc4)
    have hfew : fewC name xs = true := by simpa using hc4
    have hfp := fewC_parts hfew
    have hlx : xs.length ≤ 1000000 := by omega
    refine aw_skip ?_
    refine then_normal ?_
    refine aw_seq ?_
    refine aw_region ?_
    refine zst (op_move_tmp (by rfl)) rfl (by dsimp only [zS, zN, zH, zT]) ?_
    refine zst (op_load_ptrsD [S name, .lst 3 (xs.map ixD)] Try.underlying77 (by rfl) Sz77 (by rfl) (by (try have l1 := lt_nb hT); (try have l2 := lt_nb hS); (try have l3 := lt_nb hP); (try have l4 := lt_nb hG); repeat (first | assumption | exact push_at | exact setB_at push_at | (rw [addM_blks]) | (rw [setM_blks]) | (rw [pushM_blks]) | (rw [setB_ne (by (try simp only [setB_nb, push_nb, addM_nb, setM_nb, pushM_nb, ne_eq]); omega)]) | apply push_ne | apply setB_at)) (Nat.le_of_ble_eq_true rfl) (by rfl) (by simp [DV.one, S])) rfl (by dsimp only [zS, zN, zH, zT]) ?_
    have hfk : rightC name xs = false ∨ (rightC name xs = true ∧ name ∈ made.map (·.1)) ∨ (rightC name xs = true ∧ ¬ name ∈ made.map (·.1)) := by cases rightC name xs with | false => exact .inl rfl | true => exact .inr ((Classical.em _).imp (⟨rfl, ·⟩) (⟨rfl, ·⟩))
    rcases hfk with hr | ⟨hr, hin⟩ | ⟨hr, hin⟩
    ·
     refine zst (op_callF Try.func28 (by rfl) (by rfl) (.tmp (by rfl) (.tmp (by rfl) .nil)) (make_bad _ tid sid lv name xs hr)) rfl (by dsimp only [zS, zN, zH, zT]) ?_
     obtain ⟨th, m0, ys0, hlb, hlx2, hth⟩ := cE_look made name
     refine zst (op_assign_tmp (by rfl)) rfl (by dsimp only [zS, zN, zH, zT]) ?_
     refine al_end rfl ?_
     refine then_normal ?_
     refine aw_seq ?_
     refine aw_region ?_
     refine zst (op_move_tmp (by rfl)) rfl (by dsimp only [zS, zN, zH, zT]) ?_
     refine zst (by first | exact op_fieldAddr_ptr Try.underlying77 rfl Sz9 (by rfl) (by rfl) | exact op_fieldAddr_elt Try.underlying77 rfl Sz9 (by rfl) (by rfl) (by rfl)) rfl (by dsimp only [zS, zN, zH, zT]) ?_
     refine zst (op_load_ptr Try.underlying9 (by rfl) (by rfl) (by (try have l1 := lt_nb hT); (try have l2 := lt_nb hS); (try have l3 := lt_nb hP); (try have l4 := lt_nb hG); repeat (first | assumption | exact push_at | exact setB_at push_at | (rw [addM_blks]) | (rw [setM_blks]) | (rw [pushM_blks]) | (rw [setB_ne (by (try simp only [setB_nb, push_nb, addM_nb, setM_nb, pushM_nb, ne_eq]); omega)]) | apply push_ne | apply setB_at)) (by rfl)) rfl (by dsimp only [zS, zN, zH, zT]) ?_
     refine zst (op_lookup2_at Try.underlying74 Try.underlying9 Zr77 repC0 (by rfl) (by rfl) (by first | exact hM | (show H6.maps[mid]? = _; rw [hm6]; exact hM)) hlb hlx2) rfl (by dsimp only [zS, zN, zH, zT]) ?_
     refine zst (op_move_tmp (by rfl)) rfl (by dsimp only [zS, zN, zH, zT]) ?_
     refine zst (op_extract (by rfl) (by rfl)) rfl (by dsimp only [zS, zN, zH, zT]) ?_
     refine zst (op_extract (by rfl) (by rfl)) rfl (by dsimp only [zS, zN, zH, zT]) ?_
     refine zst (op_alloc (Zr77) (by rfl)) rfl (by dsimp only [zS, zN, zH, zT]) ?_
     refine zst (op_storeB (vs := [.d (S m0), .d (.lst 3 (ys0.map ixD))]) (b' := ⟨77, [.d (S m0), .d (.lst 3 (ys0.map ixD))], false⟩) (H' := _) Sz77 (by rfl) push_at (by intro h; cases h) (by rfl) (by rfl) (Nat.le_of_ble_eq_true rfl) (by simp [AV.one, DV.one, TF, S, I, BY]) (by rfl) (by rfl) rfl) rfl (by dsimp only [zS, zN, zH, zT]) ?_
     refine zst (op_assign_tmp (by rfl)) rfl (by dsimp only [zS, zN, zH, zT]) ?_
     refine al_end rfl ?_
     refine then_normal ?_
     refine aw_block ?_
     refine aw_seq ?_
     refine aw_region ?_
     refine zst (op_load_ptrsD [S name, .lst 3 (xs.map ixD)] Try.underlying77 (by rfl) Sz77 (by rfl) (by (try have l1 := lt_nb hT); (try have l2 := lt_nb hS); (try have l3 := lt_nb hP); (try have l4 := lt_nb hG); repeat (first | assumption | exact push_at | exact setB_at push_at | (rw [addM_blks]) | (rw [setM_blks]) | (rw [pushM_blks]) | (rw [setB_ne (by (try simp only [setB_nb, push_nb, addM_nb, setM_nb, pushM_nb, ne_eq]); omega)]) | apply push_ne | apply setB_at)) (Nat.le_of_ble_eq_true rfl) (by rfl) (by simp [DV.one, S])) rfl (by dsimp only [zS, zN, zH, zT]) ?_
     refine zst (by first | exact op_callF Try.func29 (by rfl) (by rfl) (.tmp (by rfl) .nil) (lright_t _ name xs (hni.of (by first | rfl | exact hm6)) hlx hr) | exact op_callF Try.func29 (by rfl) (by rfl) (.tmp (by rfl) .nil) (lright_f _ name xs (hni.of (by first | rfl | exact hm6)) hlx hr)) rfl (by dsimp only [zS, zN, zH, zT]) ?_
     refine zst (op_not (by rfl)) rfl (by dsimp only [zS, zN, zH, zT]) ?_
     refine zst (op_assign_tmp (by rfl)) rfl (by dsimp only [zS, zN, zH, zT]) ?_
     refine al_end rfl ?_
     refine then_normal ?_
     refine aw_cond rfl (fun _ => ?_) (fun h => by cases h)
     refine aw_seq ?_
     refine aw_region ?_
     refine zst (op_move_tmp (by rfl)) rfl (by dsimp only [zS, zN, zH, zT]) ?_
     refine zst (op_neI (by rfl) (by rfl)) rfl (by dsimp only [zS, zN, zH, zT]) ?_
     refine al_end rfl ?_
     refine then_normal ?_
     refine aw_cond rfl (fun h => by cases h) (fun _ => ?_)
     refine aw_skip ?_
     refine inBlock_normal (inBlock_normal (then_normal ?_))
     refine aw_region ?_
     refine zst (by first | exact op_add (by rfl) (by rfl) (wrap_i64 ⟨by omega, by omega⟩) | exact op_add (by rfl) (by rfl) (by rfl)) rfl (by dsimp only [zS, zN, zH, zT]) ?_
     refine zst (op_move_tmp (by rfl)) rfl (by dsimp only [zS, zN, zH, zT]) ?_
     refine al_end rfl ?_
     apply again_to (cs.length - (k + 1)) (true :: false :: false :: false :: false :: true :: true :: false :: false :: false :: false :: false :: false :: false :: false :: false :: false :: false :: false :: false :: false :: false :: false :: false :: false :: false :: false :: false :: true :: true :: true :: false :: false :: false :: false :: false :: false :: false :: false :: false :: false :: false :: false :: false :: false :: false :: false :: false :: false :: false :: false :: false :: false :: false :: false :: false :: false :: false :: false :: false :: false :: false :: false :: false :: false :: false :: false :: false :: false :: false :: false :: false :: false :: false :: false :: false :: false :: false :: false :: false :: false :: false :: false :: false :: false :: false :: false :: false :: false :: false :: false :: false :: [])
     · (try dsimp only [maskT]); try exact rfl
     · rfl
     · omega
     exact ⟨k + 1, lv, ls, vs, made, rfl, by omega, rfl, by omega, (by (try have l1 := lt_nb hT); (try have l2 := lt_nb hS); (try have l3 := lt_nb hP); (try have l4 := lt_nb hG); repeat (first | assumption | exact push_at | exact setB_at push_at | (rw [addM_blks]) | (rw [setM_blks]) | (rw [pushM_blks]) | (rw [setB_ne (by (try simp only [setB_nb, push_nb, addM_nb, setM_nb, pushM_nb, ne_eq]); omega)]) | apply push_ne | apply setB_at)), (by (try have l1 := lt_nb hT); (try have l2 := lt_nb hS); (try have l3 := lt_nb hP); (try have l4 := lt_nb hG); repeat (first | assumption | exact push_at | exact setB_at push_at | (rw [addM_blks]) | (rw [setM_blks]) | (rw [pushM_blks]) | (rw [setB_ne (by (try simp only [setB_nb, push_nb, addM_nb, setM_nb, pushM_nb, ne_eq]); omega)]) | apply push_ne | apply setB_at)), (LvT.mono hL fun j b hb he => by have l1 := lt_nb hb; repeat (first | assumption | (rw [addM_blks]) | (rw [setM_blks]) | (rw [pushM_blks]) | (rw [setB_ne (by (try simp only [setB_nb, push_nb, addM_nb, setM_nb, pushM_nb, ne_eq]); omega)]) | apply push_ne)), hI, maps_add hM, noIt_addM (hni.of rfl) (rms_maps name xs)⟩
    ·
     obtain ⟨⟨n2, ys2⟩, hd2, e2, _⟩ := cE_has hin
     obtain rfl : name = n2 := e2.symm
     obtain ⟨l, h1, h2, h3⟩ := hI.find hd2
     refine zst (op_callF Try.func28 (by rfl) (by rfl) (.tmp (by rfl) (.tmp (by rfl) .nil)) (make2_twice _ tid sid lv (made.length : Int) ls vs name xs l h1 hI.firsts h2 hI.two _ h3 rfl (by (try have l1 := lt_nb hT); (try have l2 := lt_nb hS); (try have l3 := lt_nb hP); (try have l4 := lt_nb hG); repeat (first | assumption | exact push_at | exact setB_at push_at | (rw [addM_blks]) | (rw [setM_blks]) | (rw [pushM_blks]) | (rw [setB_ne (by (try simp only [setB_nb, push_nb, addM_nb, setM_nb, pushM_nb, ne_eq]); omega)]) | apply push_ne | apply setB_at)) (LvT.mono hL fun j b hb he => by have l1 := lt_nb hb; repeat (first | assumption | (rw [addM_blks]) | (rw [setM_blks]) | (rw [pushM_blks]) | (rw [setB_ne (by (try simp only [setB_nb, push_nb, addM_nb, setM_nb, pushM_nb, ne_eq]); omega)]) | apply push_ne)) (by (try have l1 := lt_nb hT); (try have l2 := lt_nb hS); (try have l3 := lt_nb hP); (try have l4 := lt_nb hG); repeat (first | assumption | exact push_at | exact setB_at push_at | (rw [addM_blks]) | (rw [setM_blks]) | (rw [pushM_blks]) | (rw [setB_ne (by (try simp only [setB_nb, push_nb, addM_nb, setM_nb, pushM_nb, ne_eq]); omega)]) | apply push_ne | apply setB_at)) hr)) rfl (by dsimp only [zS, zN, zH, zT]) ?_
     obtain ⟨th, m0, ys0, hlb, hlx2, hth⟩ := cE_look made name
     obtain rfl := hth.2 hin
     refine zst (op_assign_tmp (by rfl)) rfl (by dsimp only [zS, zN, zH, zT]) ?_
     refine al_end rfl ?_
     refine then_normal ?_
     refine aw_seq ?_
     refine aw_region ?_
     refine zst (op_move_tmp (by rfl)) rfl (by dsimp only [zS, zN, zH, zT]) ?_
     refine zst (by first | exact op_fieldAddr_ptr Try.underlying77 rfl Sz9 (by rfl) (by rfl) | exact op_fieldAddr_elt Try.underlying77 rfl Sz9 (by rfl) (by rfl) (by rfl)) rfl (by dsimp only [zS, zN, zH, zT]) ?_
     refine zst (op_load_ptr Try.underlying9 (by rfl) (by rfl) (by (try have l1 := lt_nb hT); (try have l2 := lt_nb hS); (try have l3 := lt_nb hP); (try have l4 := lt_nb hG); repeat (first | assumption | exact push_at | exact setB_at push_at | (rw [addM_blks]) | (rw [setM_blks]) | (rw [pushM_blks]) | (rw [setB_ne (by (try simp only [setB_nb, push_nb, addM_nb, setM_nb, pushM_nb, ne_eq]); omega)]) | apply push_ne | apply setB_at)) (by rfl)) rfl (by dsimp only [zS, zN, zH, zT]) ?_
     refine zst (op_lookup2_at Try.underlying74 Try.underlying9 Zr77 repC0 (by rfl) (by rfl) (by first | exact hM | (show H6.maps[mid]? = _; rw [hm6]; exact hM)) hlb hlx2) rfl (by dsimp only [zS, zN, zH, zT]) ?_
     refine zst (op_move_tmp (by rfl)) rfl (by dsimp only [zS, zN, zH, zT]) ?_
     refine zst (op_extract (by rfl) (by rfl)) rfl (by dsimp only [zS, zN, zH, zT]) ?_
     refine zst (op_extract (by rfl) (by rfl)) rfl (by dsimp only [zS, zN, zH, zT]) ?_
     refine zst (op_alloc (Zr77) (by rfl)) rfl (by dsimp only [zS, zN, zH, zT]) ?_
     refine zst (op_storeB (vs := [.d (S m0), .d (.lst 3 (ys0.map ixD))]) (b' := ⟨77, [.d (S m0), .d (.lst 3 (ys0.map ixD))], false⟩) (H' := _) Sz77 (by rfl) push_at (by intro h; cases h) (by rfl) (by rfl) (Nat.le_of_ble_eq_true rfl) (by simp [AV.one, DV.one, TF, S, I, BY]) (by rfl) (by rfl) rfl) rfl (by dsimp only [zS, zN, zH, zT]) ?_
     refine zst (op_assign_tmp (by rfl)) rfl (by dsimp only [zS, zN, zH, zT]) ?_
     refine al_end rfl ?_
     refine then_normal ?_
     refine aw_block ?_
     refine aw_seq ?_
     refine aw_region ?_
     refine zst (op_load_ptrsD [S name, .lst 3 (xs.map ixD)] Try.underlying77 (by rfl) Sz77 (by rfl) (by (try have l1 := lt_nb hT); (try have l2 := lt_nb hS); (try have l3 := lt_nb hP); (try have l4 := lt_nb hG); repeat (first | assumption | exact push_at | exact setB_at push_at | (rw [addM_blks]) | (rw [setM_blks]) | (rw [pushM_blks]) | (rw [setB_ne (by (try simp only [setB_nb, push_nb, addM_nb, setM_nb, pushM_nb, ne_eq]); omega)]) | apply push_ne | apply setB_at)) (Nat.le_of_ble_eq_true rfl) (by rfl) (by simp [DV.one, S])) rfl (by dsimp only [zS, zN, zH, zT]) ?_
     refine zst (by first | exact op_callF Try.func29 (by rfl) (by rfl) (.tmp (by rfl) .nil) (lright_t _ name xs (hni.of (by first | rfl | exact hm6)) hlx hr) | exact op_callF Try.func29 (by rfl) (by rfl) (.tmp (by rfl) .nil) (lright_f _ name xs (hni.of (by first | rfl | exact hm6)) hlx hr)) rfl (by dsimp only [zS, zN, zH, zT]) ?_
     refine zst (op_not (by rfl)) rfl (by dsimp only [zS, zN, zH, zT]) ?_
     refine zst (op_assign_tmp (by rfl)) rfl (by dsimp only [zS, zN, zH, zT]) ?_
     refine al_end rfl ?_
     refine then_normal ?_
     refine aw_cond rfl (fun h => by cases h) (fun _ => ?_)
     refine aw_seq ?_
     refine aw_region ?_
     refine zst (op_move_tmp (by rfl)) rfl (by dsimp only [zS, zN, zH, zT]) ?_
     refine zst (op_assign_tmp (by rfl)) rfl (by dsimp only [zS, zN, zH, zT]) ?_
     refine al_end rfl ?_
     refine then_normal ?_
     refine aw_cond rfl (fun _ => ?_) (fun h => by cases h)
     refine aw_seq ?_
     refine aw_region ?_
     refine zst (op_move_tmp (by rfl)) rfl (by dsimp only [zS, zN, zH, zT]) ?_
     refine zst (op_neI (by rfl) (by rfl)) rfl (by dsimp only [zS, zN, zH, zT]) ?_
     refine al_end rfl ?_
     refine then_normal ?_
     refine aw_cond rfl (fun h => by cases h) (fun _ => ?_)
     refine aw_skip ?_
     refine inBlock_normal (inBlock_normal (then_normal ?_))
     refine aw_region ?_
     refine zst (by first | exact op_add (by rfl) (by rfl) (wrap_i64 ⟨by omega, by omega⟩) | exact op_add (by rfl) (by rfl) (by rfl)) rfl (by dsimp only [zS, zN, zH, zT]) ?_
     refine zst (op_move_tmp (by rfl)) rfl (by dsimp only [zS, zN, zH, zT]) ?_
     refine al_end rfl ?_
     apply again_to (cs.length - (k + 1)) (true :: false :: false :: false :: false :: true :: true :: false :: false :: false :: false :: false :: false :: false :: false :: false :: false :: false :: false :: false :: false :: false :: false :: false :: false :: false :: false :: false :: true :: true :: true :: false :: false :: false :: false :: false :: false :: false :: false :: false :: false :: false :: false :: false :: false :: false :: false :: false :: false :: false :: false :: false :: false :: false :: false :: false :: false :: false :: false :: false :: false :: false :: false :: false :: false :: false :: false :: false :: false :: false :: false :: false :: false :: false :: false :: false :: false :: false :: false :: false :: false :: false :: false :: false :: false :: false :: false :: false :: false :: false :: false :: false :: [])
     · (try dsimp only [maskT]); try exact rfl
     · rfl
     · omega
     exact ⟨k + 1, lv, ls, vs, made, rfl, by omega, rfl, by omega, (by (try have l1 := lt_nb hT); (try have l2 := lt_nb hS); (try have l3 := lt_nb hP); (try have l4 := lt_nb hG); repeat (first | assumption | exact push_at | exact setB_at push_at | (rw [addM_blks]) | (rw [setM_blks]) | (rw [pushM_blks]) | (rw [setB_ne (by (try simp only [setB_nb, push_nb, addM_nb, setM_nb, pushM_nb, ne_eq]); omega)]) | apply push_ne | apply setB_at)), (by (try have l1 := lt_nb hT); (try have l2 := lt_nb hS); (try have l3 := lt_nb hP); (try have l4 := lt_nb hG); repeat (first | assumption | exact push_at | exact setB_at push_at | (rw [addM_blks]) | (rw [setM_blks]) | (rw [pushM_blks]) | (rw [setB_ne (by (try simp only [setB_nb, push_nb, addM_nb, setM_nb, pushM_nb, ne_eq]); omega)]) | apply push_ne | apply setB_at)), (LvT.mono hL fun j b hb he => by have l1 := lt_nb hb; repeat (first | assumption | (rw [addM_blks]) | (rw [setM_blks]) | (rw [pushM_blks]) | (rw [setB_ne (by (try simp only [setB_nb, push_nb, addM_nb, setM_nb, pushM_nb, ne_eq]); omega)]) | apply push_ne)), hI, maps_add hM, noIt_addM (hni.of rfl) (rms_maps _ xs)⟩
    ·
     obtain ⟨l, h1, h2, h3, h4, h5, hI6⟩ := hI.place (by omega) hr hin
     refine al_cons _ (op_callF Try.func28 (by rfl) (by rfl) (.tmp (by rfl) (.tmp (by rfl) .nil)) (make2_new _ tid sid lv (made.length : Int) ls vs name xs l h1 hI.firsts h2 hI.two h3 h4 h5 ⟨by omega, by omega⟩ (by (try have l1 := lt_nb hT); (try have l2 := lt_nb hS); (try have l3 := lt_nb hP); (try have l4 := lt_nb hG); repeat (first | assumption | exact push_at | exact setB_at push_at | (rw [addM_blks]) | (rw [setM_blks]) | (rw [pushM_blks]) | (rw [setB_ne (by (try simp only [setB_nb, push_nb, addM_nb, setM_nb, pushM_nb, ne_eq]); omega)]) | apply push_ne | apply setB_at)) (LvT.mono hL fun j b hb he => by have l1 := lt_nb hb; repeat (first | assumption | (rw [addM_blks]) | (rw [setM_blks]) | (rw [pushM_blks]) | (rw [setB_ne (by (try simp only [setB_nb, push_nb, addM_nb, setM_nb, pushM_nb, ne_eq]); omega)]) | apply push_ne)) (by (try have l1 := lt_nb hT); (try have l2 := lt_nb hS); (try have l3 := lt_nb hP); (try have l4 := lt_nb hG); repeat (first | assumption | exact push_at | exact setB_at push_at | (rw [addM_blks]) | (rw [setM_blks]) | (rw [pushM_blks]) | (rw [setB_ne (by (try simp only [setB_nb, push_nb, addM_nb, setM_nb, pushM_nb, ne_eq]); omega)]) | apply push_ne | apply setB_at)) hr)) rfl ?_
     rintro v6 H6 ⟨rfl, lv6, vs6, hT6, hL6, hw6⟩
     apply al_normT
     · (try dsimp only [putT, List.set_cons_zero, List.set_cons_succ]); try exact rfl
     have hm6 : H6.maps = H.maps := hw6.maps
     have hst : sid ≠ tid := fun e => by subst e; rw [hT] at hS; cases hS
     have lT := lt_nb hT
     have lS := lt_nb hS
     have hS6 : H6.blks[sid]? = some ⟨134, [nilS, .d (I 0), .d (I 0), nilS], false⟩ := hw6.blks sid _ (by (try have l1 := lt_nb hT); (try have l2 := lt_nb hS); (try have l3 := lt_nb hP); (try have l4 := lt_nb hG); repeat (first | assumption | exact push_at | exact setB_at push_at | (rw [addM_blks]) | (rw [setM_blks]) | (rw [pushM_blks]) | (rw [setB_ne (by (try simp only [setB_nb, push_nb, addM_nb, setM_nb, pushM_nb, ne_eq]); omega)]) | apply push_ne | apply setB_at)) (fun h => by cases h) (fun h => by cases h) hst
     have hP6 : H6.blks[H.nb]? = some ⟨77, [.d (S name), .d (.lst 3 (xs.map ixD))], false⟩ := hw6.blks H.nb _ (setB_at push_at) (fun h => by cases h) (fun h => by cases h) (by omega)
     have ln6 := hw6.nb
     rw [setB_nb, push_nb] at ln6
     obtain ⟨th, m0, ys0, hlb, hlx2, hth⟩ := cE_look made name
     obtain rfl : th = false := by cases th with | false => rfl | true => exact absurd (hth.1 rfl) hin
     refine zst (op_assign_tmp (by rfl)) rfl (by dsimp only [zS, zN, zH, zT]) ?_
     refine al_end rfl ?_
     refine then_normal ?_
     refine aw_seq ?_
     refine aw_region ?_
     refine zst (op_move_tmp (by rfl)) rfl (by dsimp only [zS, zN, zH, zT]) ?_
     refine zst (by first | exact op_fieldAddr_ptr Try.underlying77 rfl Sz9 (by rfl) (by rfl) | exact op_fieldAddr_elt Try.underlying77 rfl Sz9 (by rfl) (by rfl) (by rfl)) rfl (by dsimp only [zS, zN, zH, zT]) ?_
     refine zst (op_load_ptr Try.underlying9 (by rfl) (by rfl) (by (try have l1 := lt_nb hT); (try have l2 := lt_nb hS); (try have l3 := lt_nb hP); (try have l4 := lt_nb hG); repeat (first | assumption | exact push_at | exact setB_at push_at | (rw [addM_blks]) | (rw [setM_blks]) | (rw [pushM_blks]) | (rw [setB_ne (by (try simp only [setB_nb, push_nb, addM_nb, setM_nb, pushM_nb, ne_eq]); omega)]) | apply push_ne | apply setB_at)) (by rfl)) rfl (by dsimp only [zS, zN, zH, zT]) ?_
     refine zst (op_lookup2_at Try.underlying74 Try.underlying9 Zr77 repC0 (by rfl) (by rfl) (by first | exact hM | (show H6.maps[mid]? = _; rw [hm6]; exact hM)) hlb hlx2) rfl (by dsimp only [zS, zN, zH, zT]) ?_
     refine zst (op_move_tmp (by rfl)) rfl (by dsimp only [zS, zN, zH, zT]) ?_
     refine zst (op_extract (by rfl) (by rfl)) rfl (by dsimp only [zS, zN, zH, zT]) ?_
     refine zst (op_extract (by rfl) (by rfl)) rfl (by dsimp only [zS, zN, zH, zT]) ?_
     refine zst (op_alloc (Zr77) (by rfl)) rfl (by dsimp only [zS, zN, zH, zT]) ?_
     refine zst (op_storeB (vs := [.d (S m0), .d (.lst 3 (ys0.map ixD))]) (b' := ⟨77, [.d (S m0), .d (.lst 3 (ys0.map ixD))], false⟩) (H' := _) Sz77 (by rfl) push_at (by intro h; cases h) (by rfl) (by rfl) (Nat.le_of_ble_eq_true rfl) (by simp [AV.one, DV.one, TF, S, I, BY]) (by rfl) (by rfl) rfl) rfl (by dsimp only [zS, zN, zH, zT]) ?_
     refine zst (op_assign_tmp (by rfl)) rfl (by dsimp only [zS, zN, zH, zT]) ?_
     refine al_end rfl ?_
     refine then_normal ?_
     refine aw_block ?_
     refine aw_seq ?_
     refine aw_region ?_
     refine zst (op_load_ptrsD [S name, .lst 3 (xs.map ixD)] Try.underlying77 (by rfl) Sz77 (by rfl) (by (try have l1 := lt_nb hT); (try have l2 := lt_nb hS); (try have l3 := lt_nb hP); (try have l4 := lt_nb hG); repeat (first | assumption | exact push_at | exact setB_at push_at | (rw [addM_blks]) | (rw [setM_blks]) | (rw [pushM_blks]) | (rw [setB_ne (by (try simp only [setB_nb, push_nb, addM_nb, setM_nb, pushM_nb, ne_eq]); omega)]) | apply push_ne | apply setB_at)) (Nat.le_of_ble_eq_true rfl) (by rfl) (by simp [DV.one, S])) rfl (by dsimp only [zS, zN, zH, zT]) ?_
     refine zst (by first | exact op_callF Try.func29 (by rfl) (by rfl) (.tmp (by rfl) .nil) (lright_t _ name xs (hni.of (by first | rfl | exact hm6)) hlx hr) | exact op_callF Try.func29 (by rfl) (by rfl) (.tmp (by rfl) .nil) (lright_f _ name xs (hni.of (by first | rfl | exact hm6)) hlx hr)) rfl (by dsimp only [zS, zN, zH, zT]) ?_
     refine zst (op_not (by rfl)) rfl (by dsimp only [zS, zN, zH, zT]) ?_
     refine zst (op_assign_tmp (by rfl)) rfl (by dsimp only [zS, zN, zH, zT]) ?_
     refine al_end rfl ?_
     refine then_normal ?_
     refine aw_cond rfl (fun h => by cases h) (fun _ => ?_)
     refine aw_seq ?_
     refine aw_region ?_
     refine zst (op_move_tmp (by rfl)) rfl (by dsimp only [zS, zN, zH, zT]) ?_
     refine zst (op_assign_tmp (by rfl)) rfl (by dsimp only [zS, zN, zH, zT]) ?_
     refine al_end rfl ?_
     refine then_normal ?_
     refine aw_cond rfl (fun h => by cases h) (fun _ => ?_)
     refine aw_seq ?_
     refine aw_region ?_
     refine zst (op_move_tmp (by rfl)) rfl (by dsimp only [zS, zN, zH, zT]) ?_
     refine zst (op_neI (by rfl) (by rfl)) rfl (by dsimp only [zS, zN, zH, zT]) ?_
     refine zst (op_assign_tmp (by rfl)) rfl (by dsimp only [zS, zN, zH, zT]) ?_
     refine al_end rfl ?_
     refine then_normal ?_
     refine aw_cond rfl (fun h => by cases h) (fun _ => ?_)
     refine aw_region ?_
     refine zst (op_move_tmp (by rfl)) rfl (by dsimp only [zS, zN, zH, zT]) ?_
     refine zst (by first | exact op_fieldAddr_ptr Try.underlying77 rfl Sz9 (by rfl) (by rfl) | exact op_fieldAddr_elt Try.underlying77 rfl Sz9 (by rfl) (by rfl) (by rfl)) rfl (by dsimp only [zS, zN, zH, zT]) ?_
     refine zst (op_load_ptr Try.underlying9 (by rfl) (by rfl) (by (try have l1 := lt_nb hT); (try have l2 := lt_nb hS); (try have l3 := lt_nb hP); (try have l4 := lt_nb hG); repeat (first | assumption | exact push_at | exact setB_at push_at | (rw [addM_blks]) | (rw [setM_blks]) | (rw [pushM_blks]) | (rw [setB_ne (by (try simp only [setB_nb, push_nb, addM_nb, setM_nb, pushM_nb, ne_eq]); omega)]) | apply push_ne | apply setB_at)) (by rfl)) rfl (by dsimp only [zS, zN, zH, zT]) ?_
     refine zst (op_load_ptrsD [S name, .lst 3 (xs.map ixD)] Try.underlying77 (by rfl) Sz77 (by rfl) (by (try have l1 := lt_nb hT); (try have l2 := lt_nb hS); (try have l3 := lt_nb hP); (try have l4 := lt_nb hG); repeat (first | assumption | exact push_at | exact setB_at push_at | (rw [addM_blks]) | (rw [setM_blks]) | (rw [pushM_blks]) | (rw [setB_ne (by (try simp only [setB_nb, push_nb, addM_nb, setM_nb, pushM_nb, ne_eq]); omega)]) | apply push_ne | apply setB_at)) (Nat.le_of_ble_eq_true rfl) (by rfl) (by simp [DV.one, S])) rfl (by dsimp only [zS, zN, zH, zT]) ?_
     refine zst (op_mapUpdate (d := cDV (name, xs)) Try.underlying74 Try.underlying9 (by rfl) (by rfl) (Weak.refl _) (by first | exact maps_add hM | exact maps_add (show H6.maps[mid]? = _ by rw [hm6]; exact hM)) (fun j n q => (noIt_addM (hni.of (by exact hm6)) (rms_maps name xs)) j _ n q)) rfl (by dsimp only [zS, zN, zH, zT]) ?_
     refine al_end rfl ?_
     refine inBlock_normal (inBlock_normal (then_normal ?_))
     refine aw_region ?_
     refine zst (by first | exact op_add (by rfl) (by rfl) (wrap_i64 ⟨by omega, by omega⟩) | exact op_add (by rfl) (by rfl) (by rfl)) rfl (by dsimp only [zS, zN, zH, zT]) ?_
     refine zst (op_move_tmp (by rfl)) rfl (by dsimp only [zS, zN, zH, zT]) ?_
     refine al_end rfl ?_
     apply again_to (cs.length - (k + 1)) (true :: false :: false :: false :: false :: true :: true :: false :: false :: false :: false :: false :: false :: false :: false :: false :: false :: false :: false :: false :: false :: false :: false :: false :: false :: false :: false :: false :: true :: true :: true :: false :: false :: false :: false :: false :: false :: false :: false :: false :: false :: false :: false :: false :: false :: false :: false :: false :: false :: false :: false :: false :: false :: false :: false :: false :: false :: false :: false :: false :: false :: false :: false :: false :: false :: false :: false :: false :: false :: false :: false :: false :: false :: false :: false :: false :: false :: false :: false :: false :: false :: false :: false :: false :: false :: false :: false :: false :: false :: false :: false :: false :: [])
     · (try dsimp only [maskT]); try exact rfl
     · rfl
     · omega
     exact ⟨k + 1, lv6, (insL ls ⟨keyL [[99], name], ⟨keyL [[99], name], encC xs, false⟩⟩ l), vs6, made ++ [(name, xs)], rfl, by omega, rfl, by simp; omega, (by (try have l1 := lt_nb hT); (try have l2 := lt_nb hS6); (try have l3 := lt_nb hP); (try have l4 := lt_nb hG); repeat (first | assumption | exact push_at | exact setB_at push_at | (rw [addM_blks]) | (rw [setM_blks]) | (rw [pushM_blks]) | (rw [setB_ne (by (try simp only [setB_nb, push_nb, addM_nb, setM_nb, pushM_nb, ne_eq]); omega)]) | apply push_ne | apply setB_at)), by rw [show (((made ++ [(name, xs)]).length : Nat) : Int) = (made.length : Int) + 1 by simp]; exact (by (try have l1 := lt_nb hT6); (try have l2 := lt_nb hS); (try have l3 := lt_nb hP); (try have l4 := lt_nb hG); repeat (first | assumption | exact push_at | exact setB_at push_at | (rw [addM_blks]) | (rw [setM_blks]) | (rw [pushM_blks]) | (rw [setB_ne (by (try simp only [setB_nb, push_nb, addM_nb, setM_nb, pushM_nb, ne_eq]); omega)]) | apply push_ne | apply setB_at)), (LvT.mono hL6 fun j b hb he => by have l1 := lt_nb hb; repeat (first | assumption | (rw [addM_blks]) | (rw [setM_blks]) | (rw [pushM_blks]) | (rw [setB_ne (by (try simp only [setB_nb, push_nb, addM_nb, setM_nb, pushM_nb, ne_eq]); omega)]) | apply push_ne)), hI6, by rw [← cE_put hin]; exact maps_set (by first | exact maps_add hM | exact maps_add (show H6.maps[mid]? = _ by rw [hm6]; exact hM)), NoIt.setM (noIt_addM (hni.of hm6) (rms_maps name xs)) _ _⟩
  ·
   (try simp only [y1, y2, y3, y4, y5, y6, y7, y8, y9, y0, List.length_map] at hc3)
   refine aw_exit ?_
   refine then_exit (again_exit (inBlock_here (then_normal ?_)))
   refine aw_seq ?_
   refine aw_seq ?_
   refine aw_region ?_
   refine zst (op_move_tmp (by rfl)) rfl (by dsimp only [zS, zN, zH, zT]) ?_
   refine zst (op_range Try.underlying74 (by rfl) hM) rfl (by dsimp only [zS, zN, zH, zT]) ?_
   refine al_end rfl ?_
   refine then_normal ?_
   refine aw_block ?_
   apply aw_loopF (fun n T H => ∃ (k : Nat) (last : Option (List UInt8 × DV)) (it : Nat), T = (.un :: .un :: .un :: .un :: .un :: (.ptr tid 0) :: (.map mid) :: .un :: .un :: .un :: .un :: .un :: .un :: .un :: .un :: .un :: .un :: .un :: .un :: .un :: .un :: .un :: .un :: .un :: .un :: .un :: .un :: .un :: .un :: .un :: .un :: .un :: .un :: .un :: .un :: .un :: .un :: .un :: .un :: .un :: .un :: .un :: .un :: .un :: .un :: .un :: .un :: .un :: .un :: .un :: .un :: .un :: .un :: .un :: .un :: .un :: .un :: .un :: .un :: .un :: .un :: .un :: .un :: .un :: .un :: .un :: (.iter it) :: .un :: .un :: .un :: .un :: .un :: .un :: .un :: .un :: .un :: .un :: .un :: .un :: .un :: .un :: .un :: .un :: .un :: .un :: .un :: .un :: .un :: .un :: .un :: .un :: .un :: []) ∧ n = (cE made).length - k ∧ H.blks[sid]? = some ⟨134, [nilS, .d (I 0), .d (I 0), nilS], false⟩ ∧ H.blks[tid]? = some ⟨145, [.ptr sid 0, .d (I 0), .d (I 0), .d (I 0), .d (I 0), lv, .d (I (made.length : Int))], false⟩ ∧ LvT H 195 197 lv ls vs ∧ TI made ls ∧ H.maps[mid]? = some (.map (cE made)) ∧ H.maps[it]? = some (.iter (some mid) k last) ∧ it ≠ mid) ((cE made).length) (false :: false :: false :: false :: false :: true :: true :: false :: false :: false :: false :: false :: false :: false :: false :: false :: false :: false :: false :: false :: false :: false :: false :: false :: false :: false :: false :: false :: false :: false :: false :: false :: false :: false :: false :: false :: false :: false :: false :: false :: false :: false :: false :: false :: false :: false :: false :: false :: false :: false :: false :: false :: false :: false :: false :: false :: false :: false :: false :: false :: false :: false :: false :: false :: false :: false :: true :: false :: false :: false :: false :: false :: false :: false :: false :: false :: false :: false :: false :: false :: false :: false :: false :: false :: false :: false :: false :: false :: false :: false :: false :: false :: [])
   · (try dsimp only [maskT]); try exact rfl
   · rfl
   · exact ⟨0, none, _, rfl, rfl, hS, hT, (LvT.mono hL fun j b hb he => by have l1 := lt_nb hb; repeat (first | assumption | (rw [addM_blks]) | (rw [setM_blks]) | (rw [pushM_blks]) | (rw [setB_ne (by (try simp only [setB_nb, push_nb, addM_nb, setM_nb, pushM_nb, ne_eq]); omega)]) | apply push_ne)), hI, pushM_old hM, pushM_new, by have := (List.getElem?_eq_some_iff.1 hM).1; show H.maps.length ≠ mid; omega⟩
   rintro n T H ⟨k, last, it, rfl, rfl, hS, hT, hL, hI, hM, hR, hmi⟩
   refine aw_seq ?_
   refine aw_region ?_
   refine al_cons _ (op_next (by rfl) hR hM) rfl ?_
   rintro v9 H9 (⟨rfl, rfl⟩ | ⟨k2, d2, hmem, hlt, rfl, rfl⟩)
   ·
    apply al_normT
    · (try dsimp only [putT, List.set_cons_zero, List.set_cons_succ]); try exact rfl
    refine zst (op_extract (by rfl) (by rfl)) rfl (by dsimp only [zS, zN, zH, zT]) ?_
    refine al_end rfl ?_
    refine then_normal ?_
    refine aw_seq ?_
    refine aw_cond rfl (fun h => by cases h) (fun _ => ?_)
    refine aw_exit ?_
    refine then_exit (again_exit (inBlock_here (then_normal ?_)))
    refine aw_seq ?_
    refine aw_region ?_
    refine zst (op_move_tmp (by rfl)) rfl (by dsimp only [zS, zN, zH, zT]) ?_
    refine al_cons _ (op_callF Try.func32 (by rfl) (by rfl) (.tmp (by rfl) .nil) (writes2_ok _ tid sid lv (made.length : Int) ls vs hI.firsts (fun lf hlf => hI.keys hlf) hI.two (by rw [hI.len]; omega) hT hL)) rfl ?_
    rintro v8 H8 ⟨⟨ms8, hm8⟩, us8, hA8⟩
    apply al_normT
    · (try dsimp only [putT, List.set_cons_zero, List.set_cons_succ]); try exact rfl
    refine zst (op_lenA Try.underlying46 (by rfl) hA8) rfl (by dsimp only [zS, zN, zH, zT]) ?_
    refine zst (op_move_tmp (by rfl)) rfl (by dsimp only [zS, zN, zH, zT]) ?_
    refine zst (op_lenMap Try.underlying74 (by rfl) (by rw [hm8, List.getElem?_append_left (List.getElem?_eq_some_iff.1 hM).1]; exact hM)) rfl (by dsimp only [zS, zN, zH, zT]) ?_
    refine zst (op_eqI (by rfl) (by rfl)) rfl (by dsimp only [zS, zN, zH, zT]) ?_
    refine zst (op_assign_tmp (by rfl)) rfl (by dsimp only [zS, zN, zH, zT]) ?_
    refine al_end rfl ?_
    refine then_normal ?_
    refine aw_ret ?_
    refine retPost1 rfl rfl ?_
    first | exact rfl | (have hlen := hI.len; simp [cE_len, hlen, TF]; done)
   ·
    apply al_normT
    · (try dsimp only [putT, List.set_cons_zero, List.set_cons_succ]); try exact rfl
    obtain ⟨⟨n2, ys2⟩, hd2, hk2, rfl⟩ := cE_mem hmem
    obtain rfl : k2 = n2 := hk2
    have hr2 := rightC_of_mem hI hd2
    have hl2 : ys2.length ≤ 1000000 := by have := right_bounds hr2; omega
    refine zst (op_extract (by rfl) (by rfl)) rfl (by dsimp only [zS, zN, zH, zT]) ?_
    refine al_end rfl ?_
    refine then_normal ?_
    refine aw_seq ?_
    refine aw_cond rfl (fun _ => ?_) (fun h => by cases h)
    refine aw_skip ?_
    refine then_normal ?_
    refine aw_block ?_
    refine aw_seq ?_
    refine aw_region ?_
    refine zst (op_entry (by rfl) (maps_set hR) (maps_ne hM hmi)) rfl (by dsimp only [zS, zN, zH, zT]) ?_
    refine zst (op_extract (by rfl) (by rfl)) rfl (by dsimp only [zS, zN, zH, zT]) ?_
    refine zst (op_extract (by rfl) (by rfl)) rfl (by dsimp only [zS, zN, zH, zT]) ?_
    refine zst (op_alloc (Zr77) (by rfl)) rfl (by dsimp only [zS, zN, zH, zT]) ?_
    refine zst (op_assign_tmp (by rfl)) rfl (by dsimp only [zS, zN, zH, zT]) ?_
    refine zst (op_storeB (vs := [.d (S k2), .d (.lst 3 (ys2.map ixD))]) (b' := ⟨77, [.d (S k2), .d (.lst 3 (ys2.map ixD))], false⟩) (H' := _) Sz77 (by rfl) push_at (by intro h; cases h) (by rfl) (by rfl) (Nat.le_of_ble_eq_true rfl) (by simp [AV.one, DV.one, TF, S, I, BY]) (by rfl) (by rfl) rfl) rfl (by dsimp only [zS, zN, zH, zT]) ?_
    refine al_end rfl ?_
    refine then_normal ?_
    refine aw_seq ?_
    refine aw_region ?_
    refine zst (op_move_tmp (by rfl)) rfl (by dsimp only [zS, zN, zH, zT]) ?_
    refine zst (op_move_tmp (by rfl)) rfl (by dsimp only [zS, zN, zH, zT]) ?_
    refine zst (op_callF Try.func30 (by rfl) (by rfl) (.tmp (by rfl) (.tmp (by rfl) .nil)) (of2_at _ tid sid lv (made.length : Int) ls vs made hI (by (try have l1 := lt_nb hT); (try have l2 := lt_nb hS); (try have l3 := lt_nb hP); (try have l4 := lt_nb hG); repeat (first | assumption | exact push_at | exact setB_at push_at | (rw [addM_blks]) | (rw [setM_blks]) | (rw [pushM_blks]) | (rw [setB_ne (by (try simp only [setB_nb, push_nb, addM_nb, setM_nb, pushM_nb, ne_eq]); omega)]) | apply push_ne | apply setB_at)) (LvT.mono hL fun j b hb he => by have l1 := lt_nb hb; repeat (first | assumption | (rw [addM_blks]) | (rw [setM_blks]) | (rw [pushM_blks]) | (rw [setB_ne (by (try simp only [setB_nb, push_nb, addM_nb, setM_nb, pushM_nb, ne_eq]); omega)]) | apply push_ne)) (by (try have l1 := lt_nb hT); (try have l2 := lt_nb hS); (try have l3 := lt_nb hP); (try have l4 := lt_nb hG); repeat (first | assumption | exact push_at | exact setB_at push_at | (rw [addM_blks]) | (rw [setM_blks]) | (rw [pushM_blks]) | (rw [setB_ne (by (try simp only [setB_nb, push_nb, addM_nb, setM_nb, pushM_nb, ne_eq]); omega)]) | apply push_ne | apply setB_at)) k2 ys2 hd2)) rfl (by dsimp only [zS, zN, zH, zT]) ?_
    refine zst (op_move_tmp (by rfl)) rfl (by dsimp only [zS, zN, zH, zT]) ?_
    refine zst (op_extract (by rfl) (by rfl)) rfl (by dsimp only [zS, zN, zH, zT]) ?_
    refine zst (op_extract (by rfl) (by rfl)) rfl (by dsimp only [zS, zN, zH, zT]) ?_
    refine zst (op_alloc (Zr77) (by rfl)) rfl (by dsimp only [zS, zN, zH, zT]) ?_
    refine zst (op_storeB (vs := [.d (S k2), .d (.lst 3 (ys2.map ixD))]) (b' := ⟨77, [.d (S k2), .d (.lst 3 (ys2.map ixD))], false⟩) (H' := _) Sz77 (by rfl) push_at (by intro h; cases h) (by rfl) (by rfl) (Nat.le_of_ble_eq_true rfl) (by simp [AV.one, DV.one, TF, S, I, BY]) (by rfl) (by rfl) rfl) rfl (by dsimp only [zS, zN, zH, zT]) ?_
    refine zst (op_assign_tmp (by rfl)) rfl (by dsimp only [zS, zN, zH, zT]) ?_
    refine al_end rfl ?_
    refine then_normal ?_
    refine aw_seq ?_
    refine aw_region ?_
    refine zst (op_move_tmp (by rfl)) rfl (by dsimp only [zS, zN, zH, zT]) ?_
    refine zst (op_neI (by rfl) (by rfl)) rfl (by dsimp only [zS, zN, zH, zT]) ?_
    refine zst (op_move_tmp (by rfl)) rfl (by dsimp only [zS, zN, zH, zT]) ?_
    refine zsw rfl rfl rfl (op_load_ptrsD [S k2, .lst 3 (ys2.map ixD)] Try.underlying77 (by rfl) Sz77 (by rfl) (by (try have l1 := lt_nb hT); (try have l2 := lt_nb hS); (try have l3 := lt_nb hP); (try have l4 := lt_nb hG); repeat (first | assumption | exact push_at | exact setB_at push_at | (rw [addM_blks]) | (rw [setM_blks]) | (rw [pushM_blks]) | (rw [setB_ne (by (try simp only [setB_nb, push_nb, addM_nb, setM_nb, pushM_nb, ne_eq]); omega)]) | apply push_ne | apply setB_at)) (Nat.le_of_ble_eq_true rfl) (by rfl) (by simp [DV.one, S])) (by dsimp only [zS, zN, zH, zT]) ?_
    refine zsw rfl rfl rfl (op_load_ptrsD [S k2, .lst 3 (ys2.map ixD)] Try.underlying77 (by rfl) Sz77 (by rfl) (by (try have l1 := lt_nb hT); (try have l2 := lt_nb hS); (try have l3 := lt_nb hP); (try have l4 := lt_nb hG); repeat (first | assumption | exact push_at | exact setB_at push_at | (rw [addM_blks]) | (rw [setM_blks]) | (rw [pushM_blks]) | (rw [setB_ne (by (try simp only [setB_nb, push_nb, addM_nb, setM_nb, pushM_nb, ne_eq]); omega)]) | apply push_ne | apply setB_at)) (Nat.le_of_ble_eq_true rfl) (by rfl) (by simp [DV.one, S])) (by dsimp only [zS, zN, zH, zT]) ?_
    refine zsw rfl rfl rfl (op_callF Try.func31 (by rfl) (by rfl) (.tmp (by rfl) (.tmp (by rfl) .nil)) (same_at _ k2 ys2 hl2)) (by dsimp only [zS, zN, zH, zT]) ?_
    refine zsw rfl rfl rfl (op_not (by rfl)) (by dsimp only [zS, zN, zH, zT]) ?_
    refine zst (op_pick_ff (by rfl) (val_tmp (by rfl))) rfl (by dsimp only [zS, zN, zH, zT]) ?_
    refine al_end rfl ?_
    refine then_normal ?_
    refine aw_cond rfl (fun h => by cases h) (fun _ => ?_)
    refine aw_skip ?_
    refine inBlock_normal ?_
    apply again_to ((cE made).length - (k + 1)) (false :: false :: false :: false :: false :: true :: true :: false :: false :: false :: false :: false :: false :: false :: false :: false :: false :: false :: false :: false :: false :: false :: false :: false :: false :: false :: false :: false :: false :: false :: false :: false :: false :: false :: false :: false :: false :: false :: false :: false :: false :: false :: false :: false :: false :: false :: false :: false :: false :: false :: false :: false :: false :: false :: false :: false :: false :: false :: false :: false :: false :: false :: false :: false :: false :: false :: true :: false :: false :: false :: false :: false :: false :: false :: false :: false :: false :: false :: false :: false :: false :: false :: false :: false :: false :: false :: false :: false :: false :: false :: false :: false :: [])
    · (try dsimp only [maskT]); try exact rfl
    · rfl
    · omega
    exact ⟨k + 1, _, it, rfl, rfl, (by (try have l1 := lt_nb hT); (try have l2 := lt_nb hS); (try have l3 := lt_nb hP); (try have l4 := lt_nb hG); repeat (first | assumption | exact push_at | exact setB_at push_at | (rw [addM_blks]) | (rw [setM_blks]) | (rw [pushM_blks]) | (rw [setB_ne (by (try simp only [setB_nb, push_nb, addM_nb, setM_nb, pushM_nb, ne_eq]); omega)]) | apply push_ne | apply setB_at)), (by (try have l1 := lt_nb hT); (try have l2 := lt_nb hS); (try have l3 := lt_nb hP); (try have l4 := lt_nb hG); repeat (first | assumption | exact push_at | exact setB_at push_at | (rw [addM_blks]) | (rw [setM_blks]) | (rw [pushM_blks]) | (rw [setB_ne (by (try simp only [setB_nb, push_nb, addM_nb, setM_nb, pushM_nb, ne_eq]); omega)]) | apply push_ne | apply setB_at)), (LvT.mono hL fun j b hb he => by have l1 := lt_nb hb; repeat (first | assumption | (rw [addM_blks]) | (rw [setM_blks]) | (rw [pushM_blks]) | (rw [setB_ne (by (try simp only [setB_nb, push_nb, addM_nb, setM_nb, pushM_nb, ne_eq]); omega)]) | apply push_ne)), hI, maps_ne hM hmi, maps_set hR, hmi⟩
end Go.Proofs.Ytjbpfnoibeogbaa
