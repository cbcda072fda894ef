/- Part 6 of what the law needs: WSchemaBytes. -/
import Derived.Test.YtjbpfnoibeogbaaPS5
import Derived.KernelRfl
namespace Go.Proofs.Ytjbpfnoibeogbaa
open Go.AV Go.AV.Ord Go.AV.Oct Go.AV.Hist Go.AV.Sb Go.AV.Sch
set_option linter.unusedVariables false
set_option linter.unusedSimpArgs false
theorem ctypes : CTypes Try.prog 77 88 9 4 75 where
  c := ⟨_, Try.underlying77, ⟨_, rfl, rfl, rfl⟩, ⟨_, rfl, rfl, rfl⟩, rfl⟩
  x := ⟨_, Try.underlying88, ⟨_, rfl, rfl, rfl⟩, ⟨_, rfl, rfl, rfl⟩, ⟨_, rfl, rfl, rfl⟩, rfl⟩
  s := Try.underlying9
  b := Try.underlying4
  l := Try.underlying75
  cC := by kernel_rfl
  cX := by kernel_rfl
  cS := by kernel_rfl
  cB := by kernel_rfl
  cL := by kernel_rfl
set_option maxRecDepth 100000 in
theorem head_ok (Hs : HS) : ACalls Try.prog 24 [] Hs (Ret (.d (TF true)) Hs) := by
 refine acalls_of_aw Try.func24 rfl ?_
 refine aw_start (T' := [.un, .un, .un, .un]) rfl ?_
 refine aw_seq ?_
 refine aw_region ?_
 refine zst (op_assign_const (by rfl)) rfl (by dsimp only [zS, zN, zH, zT]) ?_
 refine al_end rfl ?_
 refine then_normal ?_
 refine aw_seq ?_
 refine aw_region ?_
 refine zst (op_buildD (pl := [(0, 1), (1, 1)]) [S [97], .v (.slice none 0 0)] Try.underlying77 Zr77 (by kernel_rfl) (by rfl) (by rfl) (by rfl) (by simp [DV.one, S])) rfl (by dsimp only [zS, zN, zH, zT]) ?_
 refine zst (op_callF Try.func60 (by rfl) (by rfl) (.tmp (by rfl) .nil) (ckey_ok _ [97] (.v (.slice none 0 0)) (by decide))) rfl (by dsimp only [zS, zN, zH, zT]) ?_
 refine zst (op_eqS (by rfl) (by rfl)) rfl (by dsimp only [zS, zN, zH, zT]) ?_
 refine zst (op_assign_tmp (by rfl)) rfl (by dsimp only [zS, zN, zH, zT]) ?_
 refine al_end rfl ?_
 refine then_normal ?_
 refine aw_ret ?_
 refine retPost1 rfl rfl ?_
 exact ⟨rfl, rfl⟩
theorem lright_t (Hs : HS) (name : List UInt8) (xs : List Ix) (hno : NoIt Hs) (hl : xs.length ≤ 1000000) (hr : rightC name xs = true) : ACalls Try.prog 29 [.d (.agg [S name, .lst 3 (xs.map ixD)])] Hs (Ret (.d (TF true)) (Hs.addM (rmsC name xs))) := by
  have h := lright_ok Hs name xs hno hl
  rwa [hr] at h
theorem lright_f (Hs : HS) (name : List UInt8) (xs : List Ix) (hno : NoIt Hs) (hl : xs.length ≤ 1000000) (hr : rightC name xs = false) : ACalls Try.prog 29 [.d (.agg [S name, .lst 3 (xs.map ixD)])] Hs (Ret (.d (TF false)) (Hs.addM (rmsC name xs))) := by
  have h := lright_ok Hs name xs hno hl
  rwa [hr] at h
theorem of_new (Hs : HS) (tid sid : Nat) (name : List UInt8) (xs : List Ix) (hT : Hs.blks[tid]? = some ⟨145, [.ptr sid 0, .d (I 0), .d (I 0), .d (I 0), .d (I 0), .d (.lst 1 (lsO (some ((keyL [[99], name]), ⟨(keyL [[99], name]), encC xs, false⟩)))), .d (I 1)], false⟩) (hS : Hs.blks[sid]? = some ⟨134, [nilS, .d (I 0), .d (I 0), nilS], false⟩) (hr : rightC name xs = true) : ACalls Try.prog 30 [.ptr tid 0, .d (S name)] Hs (Ret (.tup [.d (.agg [S name, .lst 3 (xs.map ixD)]), .d (I 0)]) Hs) := by
  have h := of_some Hs tid sid (.d (.lst 1 (lsO (some ((keyL [[99], name]), ⟨(keyL [[99], name]), encC xs, false⟩))))) 1 (some ((keyL [[99], name]), ⟨(keyL [[99], name]), encC xs, false⟩)) name hT hS (LL.d _ _) (fun _ _ h => by cases h; rfl) ⟨(keyL [[99], name]), encC xs, false⟩ (by simp [foundO]) (by have := right_bounds hr; omega)
  obtain ⟨h1, h2, h3⟩ := dec_right hr
  rwa [h1, h2, h3] at h
theorem of_other (Hs : HS) (tid sid : Nat) (name : List UInt8) (xs : List Ix) (hT : Hs.blks[tid]? = some ⟨145, [.ptr sid 0, .d (I 0), .d (I 0), .d (I 0), .d (I 0), .d (.lst 1 (lsO (some ((keyL [[99], name]), ⟨(keyL [[99], name]), encC xs, false⟩)))), .d (I 1)], false⟩) (hS : Hs.blks[sid]? = some ⟨134, [nilS, .d (I 0), .d (I 0), nilS], false⟩) (hr : rightC name xs = true) : ACalls Try.prog 30 [.ptr tid 0, .d (S (name ++ [120]))] Hs (Ret (.tup [.d (.agg [S [], .lst 3 []]), .d (I 5)]) Hs) :=
  of_none Hs tid sid (.d (.lst 1 (lsO (some ((keyL [[99], name]), ⟨(keyL [[99], name]), encC xs, false⟩))))) 1 (some ((keyL [[99], name]), ⟨(keyL [[99], name]), encC xs, false⟩)) (name ++ [120]) hT hS (LL.d _ _) (fun _ _ h => by cases h; rfl) (if_neg (key_other name)) (by have := right_bounds hr; simp; omega)
theorem make_again (Hs : HS) (tid sid : Nat) (name : List UInt8) (xs : List Ix) (hT : Hs.blks[tid]? = some ⟨145, [.ptr sid 0, .d (I 0), .d (I 0), .d (I 0), .d (I 0), .d (.lst 1 (lsO (some ((keyL [[99], name]), ⟨(keyL [[99], name]), encC xs, false⟩)))), .d (I 1)], false⟩) (hS : Hs.blks[sid]? = some ⟨134, [nilS, .d (I 0), .d (I 0), nilS], false⟩) (hr : rightC name xs = true) : ACalls Try.prog 28 [.ptr tid 0, .d (.agg [S name, .lst 3 []])] Hs (Ret (.d (I 6)) Hs) :=
  make_twice Hs tid sid (.d (.lst 1 (lsO (some ((keyL [[99], name]), ⟨(keyL [[99], name]), encC xs, false⟩))))) 1 (some ((keyL [[99], name]), ⟨(keyL [[99], name]), encC xs, false⟩)) name [] hT hS (LL.d _ _) (fun _ _ h => by cases h; rfl) (by simp [foundO]) (right_nil hr)
theorem cdec_right (Hs : HS) (name : List UInt8) (xs : List Ix) (hr : rightC name xs = true) : ACalls Try.prog 35 [.d (S name), .d (S (encC xs))] Hs (Ret (.tup [.d (.agg [S name, .lst 3 (xs.map ixD)]), .d (I 0)]) Hs) := by
  have h := cdec_ok Hs name (encC xs)
  obtain ⟨h1, h2, h3⟩ := dec_right hr
  rwa [h1, h2, h3] at h
theorem cdec_cut (Hs : HS) (name : List UInt8) (xs : List Ix) (m : Nat) (hm : m < (encC xs).length) (hr : rightC name xs = true) : ACalls Try.prog 35 [.d (S name), .d (S ((encC xs).take m))] Hs (Ret (.tup [.d (.agg [S [], .lst 3 []]), .d (I 2)]) Hs) := by
  have h := cdec_ok Hs name ((encC xs).take m)
  have h1 := dec_cut hr hm
  obtain ⟨h2, h3⟩ := dec_no h1
  rwa [h1, h2, h3] at h
theorem same_at (Hs : HS) (name : List UInt8) (xs : List Ix) (hl : xs.length ≤ 1000000) : ACalls Try.prog 31 [.d (.agg [S name, .lst 3 (xs.map ixD)]), .d (.agg [S name, .lst 3 (xs.map ixD)])] Hs (Ret (.d (TF true)) Hs) := by
  have h := same_ok Hs name xs name xs hl
  rwa [same_self] at h
theorem find_yes (Hs : HS) (name : List UInt8) (xs : List Ix) (x : Ix) (hl : xs.length ≤ 1000000) (hf : findX xs x.name = some x) : ACalls Try.prog 36 [.d (.agg [S name, .lst 3 (xs.map ixD)]), .d (S x.name)] Hs (Ret (.tup [.d (.agg (ixC x)), .d (TF true)]) Hs) := by
  have h := cfind2_ok Hs name xs x.name hl
  rwa [hf] at h
theorem find_no (Hs : HS) (name : List UInt8) (xs : List Ix) (hl : xs.length ≤ 1000000) (hf : findX xs [] = none) : ACalls Try.prog 36 [.d (.agg [S name, .lst 3 (xs.map ixD)]), .d (S [])] Hs (Ret (.tup [.d (.agg (ixC X0)), .d (TF false)]) Hs) := by
  have h := cfind2_ok Hs name xs [] hl
  rwa [hf] at h
theorem op_neX_self {E : Operand → AV} {H : HS} {dst : Option Tmp} {ty t' : TypeId} {pos : String} {after : Array Edge} {gd : Option (Nat × Bool)} {x y : Operand} {a : Ix} (hx : E x = .d (.agg (ixC a))) (hy : E y = .d (.agg (ixC a))) :
    OpR Try.prog ⟨dst, .binOp .neq 88 x y t', ty, pos, after, gd⟩ E H (Ret (.d (TF false)) H) := by
  have h := op_neX (dst := dst) (ty := ty) (t' := t') (pos := pos) (after := after) (gd := gd) (H := H) hx hy
  simpa using h
set_option maxHeartbeats 8000000 in
set_option maxRecDepth 100000 in
theorem schemaBytes_walk (Hs : HS) (name : List UInt8) (xs : List Ix) (cut : Int) (hl0 : xs.length ≤ 9223372036854775807) (hM : Hs.maps = []) : ACalls Try.prog 8 [.d (.agg [S name, .lst 3 (xs.map ixD)]), .d (I cut)] Hs (fun av _ => av = .d (TF true)) := by
 have hno : NoIt Hs := fun j o n q he => by rw [hM] at he; cases he
 refine acalls_of_aw Try.func8 rfl ?_
 refine aw_start (T' := ((.d (.agg [S name, .lst 3 (xs.map ixD)])) :: (.d (I cut)) :: .un :: .un :: .un :: .un :: .un :: .un :: .un :: .un :: .un :: .un :: .un :: .un :: .un :: .un :: .un :: .un :: .un :: .un :: .un :: .un :: .un :: .un :: .un :: .un :: .un :: .un :: .un :: .un :: .un :: .un :: .un :: .un :: .un :: .un :: .un :: .un :: .un :: .un :: .un :: .un :: .un :: .un :: .un :: .un :: .un :: .un :: .un :: .un :: .un :: .un :: .un :: .un :: .un :: .un :: .un :: .un :: .un :: .un :: .un :: .un :: .un :: .un :: .un :: .un :: .un :: .un :: .un :: .un :: .un :: .un :: .un :: .un :: .un :: .un :: .un :: .un :: .un :: .un :: .un :: .un :: .un :: .un :: .un :: .un :: .un :: .un :: .un :: .un :: .un :: .un :: .un :: .un :: .un :: .un :: .un :: .un :: .un :: .un :: .un :: .un :: .un :: .un :: .un :: .un :: .un :: .un :: .un :: .un :: .un :: .un :: .un :: .un :: .un :: .un :: .un :: .un :: .un :: .un :: .un :: .un :: .un :: .un :: .un :: .un :: .un :: .un :: .un :: .un :: .un :: .un :: .un :: .un :: .un :: .un :: .un :: .un :: .un :: .un :: .un :: .un :: .un :: .un :: .un :: .un :: .un :: .un :: .un :: .un :: .un :: .un :: .un :: .un :: .un :: .un :: .un :: .un :: .un :: [])) rfl ?_
 refine aw_seq ?_
 refine aw_region ?_
 refine zst (op_box_elt (cs := [S name, .lst 3 (xs.map ixD)]) (by rfl) (by rfl)) rfl (by dsimp only [zS, zN, zH, zT]) ?_
 refine zst (op_assign_const (by rfl)) rfl (by dsimp only [zS, zN, zH, zT]) ?_
 refine al_end rfl ?_
 refine then_normal ?_
 refine aw_seq ?_
 refine aw_seq ?_
 refine aw_region ?_
 refine zst (op_callF Try.func24 (by rfl) (by rfl) .nil (head_ok _)) rfl (by dsimp only [zS, zN, zH, zT]) ?_
 refine zst (op_not (by rfl)) rfl (by dsimp only [zS, zN, zH, zT]) ?_
 refine al_end rfl ?_
 refine then_normal ?_
 refine aw_cond rfl (fun h => by cases h) (fun _ => ?_)
 refine aw_skip ?_
 refine then_normal ?_
 refine aw_seq ?_
 refine aw_seq ?_
 refine aw_region ?_
 refine zst (op_load_elts (ds := [S name, .lst 3 (xs.map ixD)]) Try.underlying77 (by rfl) Sz77 (by rfl) (Nat.le_of_ble_eq_true rfl) (by rfl)) rfl (by dsimp only [zS, zN, zH, zT]) ?_
 refine zst (op_callF Try.func27 (by rfl) (by rfl) (.tmp (by rfl) .nil) (cfew_ok _ name xs hl0)) rfl (by dsimp only [zS, zN, zH, zT]) ?_
 refine zst (op_not (by rfl)) rfl (by dsimp only [zS, zN, zH, zT]) ?_
 refine al_end rfl ?_
 refine then_normal ?_
 refine aw_cond rfl (fun hc2 => ?_) (fun hc2 => ?_)
 ·
  (try simp only [y1, y2, y3, y4, y5, y6, y7, y8, y9, y0, List.length_map] at hc2)
  refine aw_seq ?_
  refine aw_region ?_
  refine zst (op_assign_const (by rfl)) rfl (by dsimp only [zS, zN, zH, zT]) ?_
  refine al_end rfl ?_
  refine then_normal ?_
  refine aw_ret ?_
  refine then_ret ?_
  refine retPost1 rfl rfl ?_
  exact rfl
 ·
  (try simp only [y1, y2, y3, y4, y5, y6, y7, y8, y9, y0, List.length_map] at hc2)
  have hfew : fewC name xs = true := by simpa using hc2
  have hfp := fewC_parts hfew
  have hlx : xs.length ≤ 1000000 := by omega
  refine aw_skip ?_
  refine then_normal ?_
  refine aw_seq ?_
  refine aw_seq ?_
  refine aw_draw [0, 0, 0, 2, 0] mixed (by kernel_rfl) ?_
  refine zd0 (fun H => (op_load_elts (ds := [S name, .lst 3 (xs.map ixD)]) Try.underlying77 (by rfl) Sz77 (by rfl) (Nat.le_of_ble_eq_true rfl) (by rfl))) rfl (by dsimp only [zS, zN, zH, zT]) ?_
  refine zd0 (fun H => (op_callF Try.func33 (by rfl) (by rfl) (.tmp (by rfl) .nil) (cright_ok _ name xs))) rfl (by dsimp only [zS, zN, zH, zT]) ?_
  refine zd0 (fun H => (op_load_elts (ds := [S name, .lst 3 (xs.map ixD)]) Try.underlying77 (by rfl) Sz77 (by rfl) (Nat.le_of_ble_eq_true rfl) (by rfl))) rfl (by dsimp only [zS, zN, zH, zT]) ?_
  refine zd2 (op_callF Try.func29 (by rfl) (by rfl) (.tmp (by rfl) .nil) (lright_ok _ name xs hno hlx)) rfl (by dsimp only [zS, zN, zH, zT]) ?_
  refine zd0 (fun H => (op_neB_same Try.underlying4 (by rfl) (by rfl))) rfl (by dsimp only [zS, zN, zH, zT]) ?_
  refine drun_end rfl ?_
  refine then_normal ?_
  refine aw_cond rfl (fun h => by cases h) (fun _ => ?_)
  refine aw_skip ?_
  refine then_normal ?_
  refine aw_seq ?_
  refine aw_region ?_
  refine zst (op_callF Try.func25 (by rfl) (by rfl) (.const (by rfl) (.const (by rfl) .nil)) (new_ok _)) rfl (by dsimp only [zS, zN, zH, zT]) ?_
  refine zst (op_move_tmp (by rfl)) rfl (by dsimp only [zS, zN, zH, zT]) ?_
  refine zst (op_extract (by rfl) (by rfl)) rfl (by dsimp only [zS, zN, zH, zT]) ?_
  refine zst (op_extract (by rfl) (by rfl)) rfl (by dsimp only [zS, zN, zH, zT]) ?_
  refine zst (op_assign_tmp (by rfl)) rfl (by dsimp only [zS, zN, zH, zT]) ?_
  refine zst (op_assign_tmp (by rfl)) rfl (by dsimp only [zS, zN, zH, zT]) ?_
  refine al_end rfl ?_
  refine then_normal ?_
  apply aw_cutF (fun T H => ∃ (sid : Nat) (tid : Nat), T = (.un :: (.d (I cut)) :: (.elt [S name, .lst 3 (xs.map ixD)]) :: .un :: .un :: .un :: .un :: (.ptr tid 0) :: .un :: .un :: .un :: .un :: .un :: .un :: .un :: .un :: .un :: .un :: .un :: .un :: .un :: .un :: .un :: .un :: .un :: .un :: .un :: .un :: .un :: .un :: .un :: .un :: .un :: .un :: .un :: .un :: .un :: .un :: .un :: .un :: .un :: .un :: .un :: .un :: .un :: .un :: .un :: .un :: .un :: .un :: .un :: .un :: .un :: .un :: .un :: .un :: .un :: .un :: .un :: .un :: .un :: .un :: .un :: .un :: .un :: .un :: .un :: .un :: .un :: .un :: .un :: .un :: .un :: .un :: .un :: .un :: .un :: .un :: .un :: .un :: .un :: .un :: .un :: .un :: .un :: .un :: .un :: .un :: .un :: .un :: .un :: .un :: .un :: .un :: .un :: .un :: .un :: .un :: .un :: .un :: .un :: .un :: .un :: .un :: .un :: .un :: .un :: .un :: .un :: .un :: .un :: .un :: .un :: .un :: .un :: .un :: .un :: .un :: .un :: .un :: .un :: .un :: .un :: .un :: .un :: .un :: .un :: .un :: .un :: .un :: .un :: .un :: .un :: .un :: .un :: .un :: .un :: .un :: .un :: .un :: .un :: .un :: .un :: .un :: .un :: .un :: .un :: .un :: .un :: .un :: .un :: .un :: .un :: .un :: .un :: .un :: .un :: .un :: .un :: []) ∧ H.blks[sid]? = some ⟨134, [nilS, .d (I 0), .d (I 0), nilS], false⟩ ∧ H.blks[tid]? = some ⟨145, [.ptr sid 0, .d (I 0), .d (I 0), .d (I 0), .d (I 0), nilS, .d (I 0)], false⟩ ∧ NoIt H)
  ·
   refine aw_region ?_
   refine zst (op_move_tmp (by rfl)) rfl (by dsimp only [zS, zN, zH, zT]) ?_
   refine zst (op_callF Try.func26 (by rfl) (by rfl) (.tmp (by rfl) (.const (by rfl) (.const (by rfl) .nil))) (begin_ok _ _ push_at)) rfl (by dsimp only [zS, zN, zH, zT]) ?_
   refine zst (op_assign_tmp (by rfl)) rfl (by dsimp only [zS, zN, zH, zT]) ?_
   refine al_end rfl ?_
   apply cut_to (false :: true :: true :: false :: false :: false :: false :: true :: false :: false :: false :: false :: false :: false :: false :: false :: false :: false :: false :: false :: false :: false :: false :: false :: false :: false :: false :: false :: false :: false :: false :: false :: false :: false :: false :: false :: false :: false :: false :: false :: false :: false :: false :: false :: false :: false :: false :: false :: false :: false :: false :: false :: false :: false :: false :: false :: false :: false :: false :: false :: false :: false :: false :: false :: false :: false :: false :: false :: false :: false :: false :: false :: false :: false :: false :: false :: false :: false :: false :: false :: false :: false :: false :: false :: false :: false :: false :: false :: false :: false :: false :: false :: false :: false :: false :: false :: false :: false :: false :: false :: false :: false :: false :: false :: false :: false :: false :: false :: false :: false :: false :: false :: false :: false :: false :: false :: false :: false :: false :: false :: false :: false :: false :: false :: false :: false :: false :: false :: false :: false :: false :: false :: false :: false :: false :: false :: false :: false :: false :: false :: false :: false :: false :: false :: false :: false :: false :: false :: false :: false :: false :: false :: false :: false :: false :: false :: false :: false :: false :: [])
   · (try dsimp only [maskT]); try exact rfl
   · rfl
   exact ⟨_, _, rfl, push_ne push_at, push_at, (noIt_addM hno (rms_maps name xs)).of rfl⟩
  rintro T H ⟨sid, tid, rfl, hS, hT, hni⟩
  have hst : ¬ tid = sid := fun e => by subst e; rw [hT] at hS; cases hS
  refine aw_seq ?_
  refine aw_region ?_
  refine zst (op_move_tmp (by rfl)) rfl (by dsimp only [zS, zN, zH, zT]) ?_
  refine zst (op_load_elts (ds := [S name, .lst 3 (xs.map ixD)]) Try.underlying77 (by rfl) Sz77 (by rfl) (Nat.le_of_ble_eq_true rfl) (by rfl)) rfl (by dsimp only [zS, zN, zH, zT]) ?_
  rcases Bool.eq_false_or_eq_true (rightC name xs) with hr | hr
  ·
   refine zst (op_callF Try.func28 (by rfl) (by rfl) (.tmp (by rfl) (.tmp (by rfl) .nil)) (make_new _ tid sid nilS name xs hT hS (LL.nil 1) hr)) rfl (by dsimp only [zS, zN, zH, zT]) ?_
   have hbd := right_bounds hr
   refine zst (op_assign_tmp (by rfl)) rfl (by dsimp only [zS, zN, zH, zT]) ?_
   refine al_end rfl ?_
   refine then_normal ?_
   apply aw_cutF (fun T H => ∃ (u : Nat), T = (.un :: (.d (I cut)) :: (.elt [S name, .lst 3 (xs.map ixD)]) :: .un :: .un :: .un :: .un :: (.ptr tid 0) :: (.d (I 0)) :: .un :: .un :: .un :: .un :: .un :: .un :: .un :: .un :: .un :: .un :: .un :: .un :: .un :: .un :: .un :: .un :: .un :: .un :: .un :: .un :: .un :: .un :: .un :: .un :: .un :: .un :: .un :: .un :: .un :: .un :: .un :: .un :: .un :: .un :: .un :: .un :: .un :: .un :: .un :: .un :: .un :: .un :: .un :: .un :: .un :: .un :: .un :: .un :: .un :: .un :: .un :: .un :: .un :: .un :: .un :: .un :: .un :: .un :: .un :: .un :: .un :: .un :: .un :: .un :: .un :: .un :: .un :: .un :: .un :: .un :: .un :: .un :: .un :: .un :: .un :: .un :: .un :: .un :: .un :: .un :: .un :: .un :: .un :: .un :: .un :: .un :: .un :: .un :: .un :: .un :: .un :: .un :: .un :: .un :: .un :: .un :: .un :: .un :: .un :: .un :: .un :: .un :: .un :: .un :: .un :: .un :: .un :: .un :: .un :: .un :: .un :: .un :: .un :: .un :: .un :: .un :: .un :: .un :: .un :: .un :: .un :: .un :: .un :: .un :: .un :: .un :: .un :: .un :: .un :: .un :: .un :: .un :: .un :: .un :: .un :: .un :: .un :: .un :: .un :: .un :: .un :: .un :: .un :: .un :: .un :: .un :: .un :: .un :: .un :: .un :: []) ∧ H.blks[sid]? = some ⟨134, [nilS, .d (I 0), .d (I 0), nilS], false⟩ ∧ H.blks[tid]? = some ⟨145, [.ptr sid 0, .d (I 0), .d (I 0), .d (I 0), .d (I 0), .d (.lst 1 (lsO (some ((keyL [[99], name]), ⟨(keyL [[99], name]), encC xs, false⟩)))), .d (I 1)], false⟩)
   ·
    refine aw_seq ?_
    refine aw_region ?_
    refine zst (op_load_elts (ds := [S name, .lst 3 (xs.map ixD)]) Try.underlying77 (by rfl) Sz77 (by rfl) (Nat.le_of_ble_eq_true rfl) (by rfl)) rfl (by dsimp only [zS, zN, zH, zT]) ?_
    refine zst (by first | exact op_callF Try.func29 (by rfl) (by rfl) (.tmp (by rfl) .nil) (lright_t _ name xs (hni.of rfl) hlx hr) | exact op_callF Try.func29 (by rfl) (by rfl) (.tmp (by rfl) .nil) (lright_f _ name xs (hni.of rfl) hlx hr)) rfl (by dsimp only [zS, zN, zH, zT]) ?_
    refine zst (op_not (by rfl)) rfl (by dsimp only [zS, zN, zH, zT]) ?_
    refine al_end rfl ?_
    refine then_normal ?_
    refine aw_cond rfl (fun h => by cases h) (fun _ => ?_)
    refine aw_skip ?_
    apply cut_to (false :: true :: true :: false :: false :: false :: false :: true :: true :: false :: false :: false :: false :: false :: false :: false :: false :: false :: false :: false :: false :: false :: false :: false :: false :: false :: false :: false :: false :: false :: false :: false :: false :: false :: false :: false :: false :: false :: false :: false :: false :: false :: false :: false :: false :: false :: false :: false :: false :: false :: false :: false :: false :: false :: false :: false :: false :: false :: false :: false :: false :: false :: false :: false :: false :: false :: false :: false :: false :: false :: false :: false :: false :: false :: false :: false :: false :: false :: false :: false :: false :: false :: false :: false :: false :: false :: false :: false :: false :: false :: false :: false :: false :: false :: false :: false :: false :: false :: false :: false :: false :: false :: false :: false :: false :: false :: false :: false :: false :: false :: false :: false :: false :: false :: false :: false :: false :: false :: false :: false :: false :: false :: false :: false :: false :: false :: false :: false :: false :: false :: false :: false :: false :: false :: false :: false :: false :: false :: false :: false :: false :: false :: false :: false :: false :: false :: false :: false :: false :: false :: false :: false :: false :: false :: false :: false :: false :: false :: false :: [])
    · (try dsimp only [maskT]); try exact rfl
    · rfl
    exact ⟨0, rfl, (by (try have l1 := lt_nb hT); (try have l2 := lt_nb hS); (try have l3 := lt_nb hP); repeat (first | assumption | exact push_at | exact setB_at push_at | exact setB_at hT | (rw [addM_blks]) | (rw [setB_ne (by (try simp only [setB_nb, push_nb, ne_eq]); omega)]) | apply push_ne | apply setB_at)), (by (try have l1 := lt_nb hT); (try have l2 := lt_nb hS); (try have l3 := lt_nb hP); repeat (first | assumption | exact push_at | exact setB_at push_at | exact setB_at hT | (rw [addM_blks]) | (rw [setB_ne (by (try simp only [setB_nb, push_nb, ne_eq]); omega)]) | apply push_ne | apply setB_at))⟩
   rintro T H ⟨u, rfl, hS, hT⟩
   refine aw_seq ?_
   refine aw_region ?_
   refine zst (op_move_tmp (by rfl)) rfl (by dsimp only [zS, zN, zH, zT]) ?_
   refine zst (by first | exact op_fieldAddr_ptr Try.underlying77 rfl Sz9 (by rfl) (by rfl) | exact op_fieldAddr_elt Try.underlying77 rfl Sz9 (by rfl) (by rfl) (by rfl)) rfl (by dsimp only [zS, zN, zH, zT]) ?_
   refine zst (by first | exact op_load_elt Try.underlying9 (by rfl) (by rfl) (by rfl) | exact op_load_ptr Try.underlying9 (by rfl) (by rfl) (by (try have l1 := lt_nb hT); (try have l2 := lt_nb hS); (try have l3 := lt_nb hP); repeat (first | assumption | exact push_at | exact setB_at push_at | exact setB_at hT | (rw [addM_blks]) | (rw [setB_ne (by (try simp only [setB_nb, push_nb, ne_eq]); omega)]) | apply push_ne | apply setB_at)) (by rfl)) rfl (by dsimp only [zS, zN, zH, zT]) ?_
   refine zst (opR_weaken (op_build (pl := [(0, 1), (1, 1)]) (cs := [.d (S name), nilS]) Try.underlying77 Zr77 (by kernel_rfl) (by rfl) (by rfl) (by rfl)) fun c x h => (show Weak (.agg [.d (S name), nilS]) (.d (.agg [S name, .lst 3 []])) from Weak.aggD (.cons (Weak.refl _) (.cons (Weak.nil 3) .nil)) (by simp [DV.one, S])) c x h) rfl (by dsimp only [zS, zN, zH, zT]) ?_
   refine zst (op_callF Try.func28 (by rfl) (by rfl) (.tmp (by rfl) (.tmp (by rfl) .nil)) (make_again _ tid sid name xs (by (try have l1 := lt_nb hT); (try have l2 := lt_nb hS); (try have l3 := lt_nb hP); repeat (first | assumption | exact push_at | exact setB_at push_at | exact setB_at hT | (rw [addM_blks]) | (rw [setB_ne (by (try simp only [setB_nb, push_nb, ne_eq]); omega)]) | apply push_ne | apply setB_at)) (by (try have l1 := lt_nb hT); (try have l2 := lt_nb hS); (try have l3 := lt_nb hP); repeat (first | assumption | exact push_at | exact setB_at push_at | exact setB_at hT | (rw [addM_blks]) | (rw [setB_ne (by (try simp only [setB_nb, push_nb, ne_eq]); omega)]) | apply push_ne | apply setB_at)) hr)) rfl (by dsimp only [zS, zN, zH, zT]) ?_
   refine zst (op_assign_tmp (by rfl)) rfl (by dsimp only [zS, zN, zH, zT]) ?_
   refine al_end rfl ?_
   refine then_normal ?_
   refine aw_seq ?_
   refine aw_region ?_
   refine zst (op_move_tmp (by rfl)) rfl (by dsimp only [zS, zN, zH, zT]) ?_
   refine zst (by first | exact op_fieldAddr_ptr Try.underlying77 rfl Sz9 (by rfl) (by rfl) | exact op_fieldAddr_elt Try.underlying77 rfl Sz9 (by rfl) (by rfl) (by rfl)) rfl (by dsimp only [zS, zN, zH, zT]) ?_
   refine zst (by first | exact op_load_elt Try.underlying9 (by rfl) (by rfl) (by rfl) | exact op_load_ptr Try.underlying9 (by rfl) (by rfl) (by (try have l1 := lt_nb hT); (try have l2 := lt_nb hS); (try have l3 := lt_nb hP); repeat (first | assumption | exact push_at | exact setB_at push_at | exact setB_at hT | (rw [addM_blks]) | (rw [setB_ne (by (try simp only [setB_nb, push_nb, ne_eq]); omega)]) | apply push_ne | apply setB_at)) (by rfl)) rfl (by dsimp only [zS, zN, zH, zT]) ?_
   refine zst (op_callF Try.func30 (by rfl) (by rfl) (.tmp (by rfl) (.tmp (by rfl) .nil)) (of_new _ tid sid name xs (by (try have l1 := lt_nb hT); (try have l2 := lt_nb hS); (try have l3 := lt_nb hP); repeat (first | assumption | exact push_at | exact setB_at push_at | exact setB_at hT | (rw [addM_blks]) | (rw [setB_ne (by (try simp only [setB_nb, push_nb, ne_eq]); omega)]) | apply push_ne | apply setB_at)) (by (try have l1 := lt_nb hT); (try have l2 := lt_nb hS); (try have l3 := lt_nb hP); repeat (first | assumption | exact push_at | exact setB_at push_at | exact setB_at hT | (rw [addM_blks]) | (rw [setB_ne (by (try simp only [setB_nb, push_nb, ne_eq]); omega)]) | apply push_ne | apply setB_at)) hr)) rfl (by dsimp only [zS, zN, zH, zT]) ?_
   refine zst (op_move_tmp (by rfl)) rfl (by dsimp only [zS, zN, zH, zT]) ?_
   refine zst (op_extract (by rfl) (by rfl)) rfl (by dsimp only [zS, zN, zH, zT]) ?_
   refine zst (op_extract (by rfl) (by rfl)) rfl (by dsimp only [zS, zN, zH, zT]) ?_
   refine zst (op_alloc (Zr77) (by rfl)) rfl (by dsimp only [zS, zN, zH, zT]) ?_
   refine zst (op_storeB (vs := [.d (S name), .d (.lst 3 (xs.map ixD))]) (b' := ⟨77, [.d (S name), .d (.lst 3 (xs.map ixD))], false⟩) (H' := _) Sz77 (by rfl) push_at (by intro h; cases h) (by rfl) (by rfl) (Nat.le_of_ble_eq_true rfl) (by simp [AV.one, DV.one, TF, S, I, BY]) (by rfl) (by rfl) rfl) rfl (by dsimp only [zS, zN, zH, zT]) ?_
   refine zst (op_assign_tmp (by rfl)) rfl (by dsimp only [zS, zN, zH, zT]) ?_
   refine al_end rfl ?_
   refine then_normal ?_
   refine aw_seq ?_
   refine aw_region ?_
   refine zst (op_move_tmp (by rfl)) rfl (by dsimp only [zS, zN, zH, zT]) ?_
   refine zst (by first | exact op_fieldAddr_ptr Try.underlying77 rfl Sz9 (by rfl) (by rfl) | exact op_fieldAddr_elt Try.underlying77 rfl Sz9 (by rfl) (by rfl) (by rfl)) rfl (by dsimp only [zS, zN, zH, zT]) ?_
   refine zst (by first | exact op_load_elt Try.underlying9 (by rfl) (by rfl) (by rfl) | exact op_load_ptr Try.underlying9 (by rfl) (by rfl) (by (try have l1 := lt_nb hT); (try have l2 := lt_nb hS); (try have l3 := lt_nb hP); repeat (first | assumption | exact push_at | exact setB_at push_at | exact setB_at hT | (rw [addM_blks]) | (rw [setB_ne (by (try simp only [setB_nb, push_nb, ne_eq]); omega)]) | apply push_ne | apply setB_at)) (by rfl)) rfl (by dsimp only [zS, zN, zH, zT]) ?_
   refine zst (op_addS (by rfl) (by rfl) (by simp; omega)) rfl (by dsimp only [zS, zN, zH, zT]) ?_
   refine zst (op_callF Try.func30 (by rfl) (by rfl) (.tmp (by rfl) (.tmp (by rfl) .nil)) (of_other _ tid sid name xs (by (try have l1 := lt_nb hT); (try have l2 := lt_nb hS); (try have l3 := lt_nb hP); repeat (first | assumption | exact push_at | exact setB_at push_at | exact setB_at hT | (rw [addM_blks]) | (rw [setB_ne (by (try simp only [setB_nb, push_nb, ne_eq]); omega)]) | apply push_ne | apply setB_at)) (by (try have l1 := lt_nb hT); (try have l2 := lt_nb hS); (try have l3 := lt_nb hP); repeat (first | assumption | exact push_at | exact setB_at push_at | exact setB_at hT | (rw [addM_blks]) | (rw [setB_ne (by (try simp only [setB_nb, push_nb, ne_eq]); omega)]) | apply push_ne | apply setB_at)) hr)) rfl (by dsimp only [zS, zN, zH, zT]) ?_
   refine zst (op_move_tmp (by rfl)) rfl (by dsimp only [zS, zN, zH, zT]) ?_
   refine zst (op_extract (by rfl) (by rfl)) rfl (by dsimp only [zS, zN, zH, zT]) ?_
   refine zst (op_extract (by rfl) (by rfl)) rfl (by dsimp only [zS, zN, zH, zT]) ?_
   refine zst (op_alloc (Zr77) (by rfl)) rfl (by dsimp only [zS, zN, zH, zT]) ?_
   refine zst (op_storeB (vs := [.d (S []), .d (.lst 3 [])]) (b' := ⟨77, [.d (S []), .d (.lst 3 [])], false⟩) (H' := _) Sz77 (by rfl) push_at (by intro h; cases h) (by rfl) (by rfl) (Nat.le_of_ble_eq_true rfl) (by simp [AV.one, DV.one, TF, S, I, BY]) (by rfl) (by rfl) rfl) rfl (by dsimp only [zS, zN, zH, zT]) ?_
   refine zst (op_assign_tmp (by rfl)) rfl (by dsimp only [zS, zN, zH, zT]) ?_
   refine al_end rfl ?_
   refine then_normal ?_
   refine aw_seq ?_
   refine aw_seq ?_
   refine aw_region ?_
   refine zst (op_move_tmp (by rfl)) rfl (by dsimp only [zS, zN, zH, zT]) ?_
   refine zst (op_neI (by rfl) (by rfl)) rfl (by dsimp only [zS, zN, zH, zT]) ?_
   refine zst (op_move_tmp (by rfl)) rfl (by dsimp only [zS, zN, zH, zT]) ?_
   refine zsw rfl rfl rfl (op_move_tmp (by rfl)) (by dsimp only [zS, zN, zH, zT]) ?_
   refine zsw rfl rfl rfl (op_neI (by rfl) (by rfl)) (by dsimp only [zS, zN, zH, zT]) ?_
   refine zst (op_pick_ff (by rfl) (val_tmp (by rfl))) rfl (by dsimp only [zS, zN, zH, zT]) ?_
   refine zst (op_move_tmp (by rfl)) rfl (by dsimp only [zS, zN, zH, zT]) ?_
   refine zsw rfl rfl rfl (op_move_tmp (by rfl)) (by dsimp only [zS, zN, zH, zT]) ?_
   refine zsw rfl rfl rfl (op_neI (by rfl) (by rfl)) (by dsimp only [zS, zN, zH, zT]) ?_
   refine zst (op_pick_ff (by rfl) (val_tmp (by rfl))) rfl (by dsimp only [zS, zN, zH, zT]) ?_
   refine zst (op_move_tmp (by rfl)) rfl (by dsimp only [zS, zN, zH, zT]) ?_
   refine zsw rfl rfl rfl (op_move_tmp (by rfl)) (by dsimp only [zS, zN, zH, zT]) ?_
   refine zsw rfl rfl rfl (op_neI (by rfl) (by rfl)) (by dsimp only [zS, zN, zH, zT]) ?_
   refine zst (op_pick_ff (by rfl) (val_tmp (by rfl))) rfl (by dsimp only [zS, zN, zH, zT]) ?_
   refine zst (op_move_tmp (by rfl)) rfl (by dsimp only [zS, zN, zH, zT]) ?_
   refine zsw rfl rfl rfl (op_load_ptrsD [S name, .lst 3 (xs.map ixD)] Try.underlying77 (by rfl) Sz77 (by rfl) (by (try have l1 := lt_nb hT); (try have l2 := lt_nb hS); (try have l3 := lt_nb hP); repeat (first | assumption | exact push_at | exact setB_at push_at | exact setB_at hT | (rw [addM_blks]) | (rw [setB_ne (by (try simp only [setB_nb, push_nb, ne_eq]); omega)]) | apply push_ne | apply setB_at)) (Nat.le_of_ble_eq_true rfl) (by rfl) (by simp [DV.one, S])) (by dsimp only [zS, zN, zH, zT]) ?_
   refine zsw rfl rfl rfl (op_load_elts (ds := [S name, .lst 3 (xs.map ixD)]) Try.underlying77 (by rfl) Sz77 (by rfl) (Nat.le_of_ble_eq_true rfl) (by rfl)) (by dsimp only [zS, zN, zH, zT]) ?_
   refine zsw rfl rfl rfl (op_callF Try.func31 (by rfl) (by rfl) (.tmp (by rfl) (.tmp (by rfl) .nil)) (same_at _ name xs hlx)) (by dsimp only [zS, zN, zH, zT]) ?_
   refine zsw rfl rfl rfl (op_not (by rfl)) (by dsimp only [zS, zN, zH, zT]) ?_
   refine zst (op_pick_ff (by rfl) (val_tmp (by rfl))) rfl (by dsimp only [zS, zN, zH, zT]) ?_
   refine al_end rfl ?_
   refine then_normal ?_
   refine aw_cond rfl (fun h => by cases h) (fun _ => ?_)
   refine aw_skip ?_
   refine then_normal ?_
   refine aw_seq ?_
   refine aw_region ?_
   refine zst (op_load_elts (ds := [S name, .lst 3 (xs.map ixD)]) Try.underlying77 (by rfl) Sz77 (by rfl) (Nat.le_of_ble_eq_true rfl) (by rfl)) rfl (by dsimp only [zS, zN, zH, zT]) ?_
   refine zst (op_callF Try.func34 (by rfl) (by rfl) (.tmp (by rfl) .nil) (cenc_ok _ name xs hlx (by omega))) rfl (by dsimp only [zS, zN, zH, zT]) ?_
   refine zst (op_assign_tmp (by rfl)) rfl (by dsimp only [zS, zN, zH, zT]) ?_
   refine al_end rfl ?_
   refine then_normal ?_
   refine aw_seq ?_
   refine aw_region ?_
   refine zst (by first | exact op_fieldAddr_ptr Try.underlying77 rfl Sz9 (by rfl) (by rfl) | exact op_fieldAddr_elt Try.underlying77 rfl Sz9 (by rfl) (by rfl) (by rfl)) rfl (by dsimp only [zS, zN, zH, zT]) ?_
   refine zst (by first | exact op_load_elt Try.underlying9 (by rfl) (by rfl) (by rfl) | exact op_load_ptr Try.underlying9 (by rfl) (by rfl) (by (try have l1 := lt_nb hT); (try have l2 := lt_nb hS); (try have l3 := lt_nb hP); repeat (first | assumption | exact push_at | exact setB_at push_at | exact setB_at hT | (rw [addM_blks]) | (rw [setB_ne (by (try simp only [setB_nb, push_nb, ne_eq]); omega)]) | apply push_ne | apply setB_at)) (by rfl)) rfl (by dsimp only [zS, zN, zH, zT]) ?_
   refine zst (op_move_tmp (by rfl)) rfl (by dsimp only [zS, zN, zH, zT]) ?_
   refine zst (op_callF Try.func35 (by rfl) (by rfl) (.tmp (by rfl) (.tmp (by rfl) .nil)) (cdec_right _ name xs hr)) rfl (by dsimp only [zS, zN, zH, zT]) ?_
   refine zst (op_move_tmp (by rfl)) rfl (by dsimp only [zS, zN, zH, zT]) ?_
   refine zst (op_extract (by rfl) (by rfl)) rfl (by dsimp only [zS, zN, zH, zT]) ?_
   refine zst (op_extract (by rfl) (by rfl)) rfl (by dsimp only [zS, zN, zH, zT]) ?_
   refine zst (op_alloc (Zr77) (by rfl)) rfl (by dsimp only [zS, zN, zH, zT]) ?_
   refine zst (op_storeB (vs := [.d (S name), .d (.lst 3 (xs.map ixD))]) (b' := ⟨77, [.d (S name), .d (.lst 3 (xs.map ixD))], false⟩) (H' := _) Sz77 (by rfl) push_at (by intro h; cases h) (by rfl) (by rfl) (Nat.le_of_ble_eq_true rfl) (by simp [AV.one, DV.one, TF, S, I, BY]) (by rfl) (by rfl) rfl) rfl (by dsimp only [zS, zN, zH, zT]) ?_
   refine zst (op_assign_tmp (by rfl)) rfl (by dsimp only [zS, zN, zH, zT]) ?_
   refine al_end rfl ?_
   refine then_normal ?_
   refine aw_seq ?_
   obtain ⟨q, hqe⟩ := and_16 cut
   have hep := encC_pos xs
   obtain ⟨m, hmq⟩ : ∃ m, q % (encC xs).length = m := ⟨_, rfl⟩
   have hml : m < (encC xs).length := by rw [← hmq]; exact Nat.mod_lt _ hep
   refine aw_draw [0, 0, 0, 0, 0, 0, 0, 0, 0, 0, 0, 0, 0, 2, 2, 0] mixed (by kernel_rfl) ?_
   refine zd0 (fun H => (by first | exact op_fieldAddr_ptr Try.underlying77 rfl Sz9 (by rfl) (by rfl) | exact op_fieldAddr_elt Try.underlying77 rfl Sz9 (by rfl) (by rfl) (by rfl))) rfl (by dsimp only [zS, zN, zH, zT]) ?_
   refine zd0 (fun H => (by first | exact op_load_elt Try.underlying9 (by rfl) (by rfl) (by rfl) | exact op_load_ptr Try.underlying9 (by rfl) (by rfl) (by (try have l1 := lt_nb hT); (try have l2 := lt_nb hS); (try have l3 := lt_nb hP); repeat (first | assumption | exact push_at | exact setB_at push_at | exact setB_at hT | (rw [addM_blks]) | (rw [setB_ne (by (try simp only [setB_nb, push_nb, ne_eq]); omega)]) | apply push_ne | apply setB_at)) (by rfl))) rfl (by dsimp only [zS, zN, zH, zT]) ?_
   refine zd0 (fun H => (op_move_tmp (by rfl))) rfl (by dsimp only [zS, zN, zH, zT]) ?_
   refine zd0 (fun H => (op_move_tmp (by rfl))) rfl (by dsimp only [zS, zN, zH, zT]) ?_
   refine zd0 (fun H => (op_and (by rfl) (by rfl) hqe)) rfl (by dsimp only [zS, zN, zH, zT]) ?_
   refine zd0 (fun H => (op_move_tmp (by rfl))) rfl (by dsimp only [zS, zN, zH, zT]) ?_
   refine zd0 (fun H => (op_lenS Try.underlying9 (by rfl))) rfl (by dsimp only [zS, zN, zH, zT]) ?_
   refine zd0 (fun H => (op_rem (r := ((m : Nat) : Int)) (by rfl) (by rfl) (by omega) (by rw [← hmq]; rfl))) rfl (by dsimp only [zS, zN, zH, zT]) ?_
   refine zd0 (fun H => (op_sliceS0 ((encC xs).take m) Try.underlying9 (by rfl) (by rfl) (by omega) (by omega) (by rfl))) rfl (by dsimp only [zS, zN, zH, zT]) ?_
   refine zd0 (fun H => (op_callF Try.func35 (by rfl) (by rfl) (.tmp (by rfl) (.tmp (by rfl) .nil)) (cdec_cut _ name xs m hml hr))) rfl (by dsimp only [zS, zN, zH, zT]) ?_
   refine zd0 (fun H => (op_move_tmp (by rfl))) rfl (by dsimp only [zS, zN, zH, zT]) ?_
   refine zd0 (fun H => (op_extract (by rfl) (by rfl))) rfl (by dsimp only [zS, zN, zH, zT]) ?_
   refine zd0 (fun H => (op_extract (by rfl) (by rfl))) rfl (by dsimp only [zS, zN, zH, zT]) ?_
   refine zd2 (op_alloc (Zr77) (by rfl)) rfl (by dsimp only [zS, zN, zH, zT]) ?_
   refine zd2 (op_storeB (vs := [.d (S []), .d (.lst 3 [])]) (b' := ⟨77, [.d (S []), .d (.lst 3 [])], false⟩) (H' := _) Sz77 (by rfl) push_at (by intro h; cases h) (by rfl) (by rfl) (Nat.le_of_ble_eq_true rfl) (by simp [AV.one, DV.one, TF, S, I, BY]) (by rfl) (by rfl) rfl) rfl (by dsimp only [zS, zN, zH, zT]) ?_
   refine zd0 (fun H => (op_assign_tmp (by rfl))) rfl (by dsimp only [zS, zN, zH, zT]) ?_
   refine drun_end rfl ?_
   refine then_normal ?_
   refine aw_seq ?_
   refine aw_seq ?_
   refine aw_region ?_
   refine zst (by first | exact op_fieldAddr_ptr Try.underlying77 rfl Sz75 (by rfl) (by rfl) | exact op_fieldAddr_elt Try.underlying77 rfl Sz75 (by rfl) (by rfl) (by rfl)) rfl (by dsimp only [zS, zN, zH, zT]) ?_
   refine zst (by first | exact op_load_elt Try.underlying75 (by rfl) (by rfl) (by rfl) | exact op_load_ptr Try.underlying75 (by rfl) (by rfl) (by (try have l1 := lt_nb hT); (try have l2 := lt_nb hS); (try have l3 := lt_nb hP); repeat (first | assumption | exact push_at | exact setB_at push_at | exact setB_at hT | (rw [addM_blks]) | (rw [setB_ne (by (try simp only [setB_nb, push_nb, ne_eq]); omega)]) | apply push_ne | apply setB_at)) (by rfl)) rfl (by dsimp only [zS, zN, zH, zT]) ?_
   refine zst (op_lenL Try.underlying75 (by first | exact LL.d _ _ | exact LL.own _ _ _ | exact LL.nil _ | assumption)) rfl (by dsimp only [zS, zN, zH, zT]) ?_
   refine zst (op_move_const (by rfl)) rfl (by dsimp only [zS, zN, zH, zT]) ?_
   refine al_end rfl ?_
   refine then_normal ?_
   refine aw_block ?_
   apply aw_loopF (fun n T H => ∃ (k : Nat) (pp : Nat), T = (.un :: .un :: (.elt [S name, .lst 3 (xs.map ixD)]) :: .un :: .un :: .un :: .un :: .un :: .un :: .un :: .un :: .un :: .un :: .un :: .un :: (.ptr pp 0) :: (.d (I 0)) :: .un :: (.d (I 2)) :: .un :: .un :: .un :: .un :: .un :: .un :: .un :: .un :: .un :: .un :: .un :: .un :: .un :: .un :: .un :: .un :: .un :: .un :: .un :: .un :: .un :: .un :: .un :: .un :: .un :: .un :: .un :: .un :: .un :: .un :: .un :: .un :: .un :: .un :: .un :: .un :: .un :: .un :: .un :: .un :: .un :: .un :: .un :: .un :: .un :: .un :: .un :: .un :: .un :: .un :: .un :: .un :: .un :: .un :: .un :: .un :: .un :: .un :: .un :: .un :: .un :: .un :: .un :: .un :: .un :: .un :: .un :: .un :: .un :: .un :: .un :: .un :: .un :: .un :: .un :: .un :: .un :: .un :: .un :: .un :: .un :: .un :: .un :: .un :: .un :: .un :: .un :: .un :: .un :: .un :: .un :: .un :: .un :: .un :: .un :: .un :: .un :: .un :: .un :: (.d (.lst 3 (xs.map ixD))) :: (.d (I (xs.map ixD).length)) :: (.d (I k)) :: .un :: .un :: .un :: .un :: .un :: .un :: .un :: .un :: .un :: .un :: .un :: .un :: .un :: .un :: .un :: .un :: .un :: .un :: .un :: .un :: .un :: .un :: .un :: .un :: .un :: .un :: .un :: .un :: .un :: .un :: .un :: .un :: .un :: .un :: .un :: .un :: .un :: .un :: []) ∧ k ≤ xs.length ∧ n = xs.length - k ∧ H.blks[pp]? = some ⟨77, [.d (S name), .d (.lst 3 (xs.map ixD))], false⟩) (xs.length) (false :: false :: true :: false :: false :: false :: false :: false :: false :: false :: false :: false :: false :: false :: false :: true :: true :: false :: true :: false :: false :: false :: false :: false :: false :: false :: false :: false :: false :: false :: false :: false :: false :: false :: false :: false :: false :: false :: false :: false :: false :: false :: false :: false :: false :: false :: false :: false :: false :: false :: false :: false :: false :: false :: false :: false :: false :: false :: false :: false :: false :: false :: false :: false :: false :: false :: false :: false :: false :: false :: false :: false :: false :: false :: false :: false :: false :: false :: false :: false :: false :: false :: false :: false :: false :: false :: false :: false :: false :: false :: false :: false :: false :: false :: false :: false :: false :: false :: false :: false :: false :: false :: false :: false :: false :: false :: false :: false :: false :: false :: false :: false :: false :: false :: false :: false :: false :: false :: true :: true :: true :: false :: false :: false :: false :: false :: false :: false :: false :: false :: false :: false :: false :: false :: false :: false :: false :: false :: false :: false :: false :: false :: false :: false :: false :: false :: false :: false :: false :: false :: false :: false :: false :: false :: false :: false :: false :: false :: false :: [])
   · (try dsimp only [maskT]); try exact rfl
   · rfl
   · exact ⟨0, _, rfl, by omega, rfl, (by (try have l1 := lt_nb hT); (try have l2 := lt_nb hS); (try have l3 := lt_nb hP); repeat (first | assumption | exact push_at | exact setB_at push_at | exact setB_at hT | (rw [addM_blks]) | (rw [setB_ne (by (try simp only [setB_nb, push_nb, ne_eq]); omega)]) | apply push_ne | apply setB_at))⟩
   rintro n T H ⟨k, pp, rfl, hk, rfl, hP⟩
   refine aw_seq ?_
   refine aw_region ?_
   refine zst (op_ltI (by rfl) (by rfl)) rfl (by dsimp only [zS, zN, zH, zT]) ?_
   refine al_end rfl ?_
   refine then_normal ?_
   refine aw_seq ?_
   refine aw_cond rfl (fun hc6 => ?_) (fun hc6 => ?_)
   ·
    (try simp only [y1, y2, y3, y4, y5, y6, y7, y8, y9, y0, List.length_map] at hc6)
    (try simp only [List.length_map] at hc6)
    have hlt : k < xs.length := by omega
    obtain ⟨x, hx1⟩ : ∃ z0, xs[k]? = some z0 := ⟨_, List.getElem?_eq_getElem hlt⟩
    refine aw_skip ?_
    refine then_normal ?_
    refine aw_seq ?_
    refine aw_block ?_
    refine aw_seq ?_
    refine aw_region ?_
    refine zst (op_indexAddr (z := ixD x) (cs := [S x.name, S x.field, TF x.uniq]) Try.underlying75 Sz88 (LL.d _ _) (by rfl) (by omega) (by rw [List.getElem?_map, show ((k : Nat) : Int).toNat = k from rfl, hx1]; rfl) (by rfl)) rfl (by dsimp only [zS, zN, zH, zT]) ?_
    refine zst (op_load_elts (ds := ixC x) Try.underlying88 (by rfl) Sz88 (by rfl) (Nat.le_of_ble_eq_true rfl) (by rfl)) rfl (by dsimp only [zS, zN, zH, zT]) ?_
    refine zst (op_alloc (Zr88) (by rfl)) rfl (by dsimp only [zS, zN, zH, zT]) ?_
    refine zst (op_storeB (vs := [.d (S x.name), .d (S x.field), .d (TF x.uniq)]) (b' := ⟨88, [.d (S x.name), .d (S x.field), .d (TF x.uniq)], false⟩) (H' := _) Sz88 (by rfl) push_at (by intro h; cases h) (by rfl) (by rfl) (Nat.le_of_ble_eq_true rfl) (by simp [AV.one, DV.one, TF, S, I, BY]) (by rfl) (by rfl) rfl) rfl (by dsimp only [zS, zN, zH, zT]) ?_
    refine al_end rfl ?_
    refine then_normal ?_
    refine aw_seq ?_
    refine aw_region ?_
    refine zst (op_load_ptrsD [S name, .lst 3 (xs.map ixD)] Try.underlying77 (by rfl) Sz77 (by rfl) (by (try have l1 := lt_nb hT); (try have l2 := lt_nb hS); (try have l3 := lt_nb hP); repeat (first | assumption | exact push_at | exact setB_at push_at | exact setB_at hT | (rw [addM_blks]) | (rw [setB_ne (by (try simp only [setB_nb, push_nb, ne_eq]); omega)]) | apply push_ne | apply setB_at)) (Nat.le_of_ble_eq_true rfl) (by rfl) (by simp [DV.one, S])) rfl (by dsimp only [zS, zN, zH, zT]) ?_
    refine zst (by first | exact op_fieldAddr_ptr Try.underlying88 rfl Sz9 (by rfl) (by rfl) | exact op_fieldAddr_elt Try.underlying88 rfl Sz9 (by rfl) (by rfl) (by rfl)) rfl (by dsimp only [zS, zN, zH, zT]) ?_
    refine zst (by first | exact op_load_elt Try.underlying9 (by rfl) (by rfl) (by rfl) | exact op_load_ptr Try.underlying9 (by rfl) (by rfl) (by (try have l1 := lt_nb hT); (try have l2 := lt_nb hS); (try have l3 := lt_nb hP); repeat (first | assumption | exact push_at | exact setB_at push_at | exact setB_at hT | (rw [addM_blks]) | (rw [setB_ne (by (try simp only [setB_nb, push_nb, ne_eq]); omega)]) | apply push_ne | apply setB_at)) (by rfl)) rfl (by dsimp only [zS, zN, zH, zT]) ?_
    refine zst (op_callF Try.func36 (by rfl) (by rfl) (.tmp (by rfl) (.tmp (by rfl) .nil)) (find_yes _ name xs x hlx (find_self hr hx1))) rfl (by dsimp only [zS, zN, zH, zT]) ?_
    refine zst (op_move_tmp (by rfl)) rfl (by dsimp only [zS, zN, zH, zT]) ?_
    refine zst (op_extract (by rfl) (by rfl)) rfl (by dsimp only [zS, zN, zH, zT]) ?_
    refine zst (op_extract (by rfl) (by rfl)) rfl (by dsimp only [zS, zN, zH, zT]) ?_
    refine zst (op_alloc (Zr88) (by rfl)) rfl (by dsimp only [zS, zN, zH, zT]) ?_
    refine zst (op_storeB (vs := [.d (S x.name), .d (S x.field), .d (TF x.uniq)]) (b' := ⟨88, [.d (S x.name), .d (S x.field), .d (TF x.uniq)], false⟩) (H' := _) Sz88 (by rfl) push_at (by intro h; cases h) (by rfl) (by rfl) (Nat.le_of_ble_eq_true rfl) (by simp [AV.one, DV.one, TF, S, I, BY]) (by rfl) (by rfl) rfl) rfl (by dsimp only [zS, zN, zH, zT]) ?_
    refine zst (op_assign_tmp (by rfl)) rfl (by dsimp only [zS, zN, zH, zT]) ?_
    refine al_end rfl ?_
    refine then_normal ?_
    refine aw_seq ?_
    refine aw_region ?_
    refine zst (op_move_tmp (by rfl)) rfl (by dsimp only [zS, zN, zH, zT]) ?_
    refine zst (op_not (by rfl)) rfl (by dsimp only [zS, zN, zH, zT]) ?_
    refine zst (op_move_tmp (by rfl)) rfl (by dsimp only [zS, zN, zH, zT]) ?_
    refine zsw rfl rfl rfl (op_load_ptrsD (ixC x) Try.underlying88 (by rfl) Sz88 (by rfl) (by (try have l1 := lt_nb hT); (try have l2 := lt_nb hS); (try have l3 := lt_nb hP); repeat (first | assumption | exact push_at | exact setB_at push_at | exact setB_at hT | (rw [addM_blks]) | (rw [setB_ne (by (try simp only [setB_nb, push_nb, ne_eq]); omega)]) | apply push_ne | apply setB_at)) (Nat.le_of_ble_eq_true rfl) (by rfl) (by simp [ixC, DV.one, S, TF])) (by dsimp only [zS, zN, zH, zT]) ?_
    refine zsw rfl rfl rfl (op_load_ptrsD (ixC x) Try.underlying88 (by rfl) Sz88 (by rfl) (by (try have l1 := lt_nb hT); (try have l2 := lt_nb hS); (try have l3 := lt_nb hP); repeat (first | assumption | exact push_at | exact setB_at push_at | exact setB_at hT | (rw [addM_blks]) | (rw [setB_ne (by (try simp only [setB_nb, push_nb, ne_eq]); omega)]) | apply push_ne | apply setB_at)) (Nat.le_of_ble_eq_true rfl) (by rfl) (by simp [ixC, DV.one, S, TF])) (by dsimp only [zS, zN, zH, zT]) ?_
    refine zsw rfl rfl rfl (op_neX_self (by rfl) (by rfl)) (by dsimp only [zS, zN, zH, zT]) ?_
    refine zst (op_pick_ff (by rfl) (val_tmp (by rfl))) rfl (by dsimp only [zS, zN, zH, zT]) ?_
    refine al_end rfl ?_
    refine then_normal ?_
    refine aw_cond rfl (fun h => by cases h) (fun _ => ?_)
    refine aw_skip ?_
    refine inBlock_normal (then_normal ?_)
    refine aw_region ?_
    refine zst (by first | exact op_add (by rfl) (by rfl) (wrap_i64 ⟨by omega, by omega⟩) | exact op_add (by rfl) (by rfl) (by rfl)) rfl (by dsimp only [zS, zN, zH, zT]) ?_
    refine zst (op_move_tmp (by rfl)) rfl (by dsimp only [zS, zN, zH, zT]) ?_
    refine al_end rfl ?_
    apply again_to (xs.length - (k + 1)) (false :: false :: true :: false :: false :: false :: false :: false :: false :: false :: false :: false :: false :: false :: false :: true :: true :: false :: true :: false :: false :: false :: false :: false :: false :: false :: false :: false :: false :: false :: false :: false :: false :: false :: false :: false :: false :: false :: false :: false :: false :: false :: false :: false :: false :: false :: false :: false :: false :: false :: false :: false :: false :: false :: false :: false :: false :: false :: false :: false :: false :: false :: false :: false :: false :: false :: false :: false :: false :: false :: false :: false :: false :: false :: false :: false :: false :: false :: false :: false :: false :: false :: false :: false :: false :: false :: false :: false :: false :: false :: false :: false :: false :: false :: false :: false :: false :: false :: false :: false :: false :: false :: false :: false :: false :: false :: false :: false :: false :: false :: false :: false :: false :: false :: false :: false :: false :: false :: true :: true :: true :: false :: false :: false :: false :: false :: false :: false :: false :: false :: false :: false :: false :: false :: false :: false :: false :: false :: false :: false :: false :: false :: false :: false :: false :: false :: false :: false :: false :: false :: false :: false :: false :: false :: false :: false :: false :: false :: false :: [])
    · (try dsimp only [maskT]); try exact rfl
    · rfl
    · omega
    exact ⟨k + 1, _, rfl, by omega, rfl, (by (try have l1 := lt_nb hT); (try have l2 := lt_nb hS); (try have l3 := lt_nb hP); repeat (first | assumption | exact push_at | exact setB_at push_at | exact setB_at hT | (rw [addM_blks]) | (rw [setB_ne (by (try simp only [setB_nb, push_nb, ne_eq]); omega)]) | apply push_ne | apply setB_at))⟩
   ·
    (try simp only [y1, y2, y3, y4, y5, y6, y7, y8, y9, y0, List.length_map] at hc6)
    refine aw_exit ?_
    refine then_exit (again_exit (inBlock_here (then_normal ?_)))
    refine aw_seq ?_
    refine aw_region ?_
    refine zst (op_load_ptrsD [S name, .lst 3 (xs.map ixD)] Try.underlying77 (by rfl) Sz77 (by rfl) (by (try have l1 := lt_nb hT); (try have l2 := lt_nb hS); (try have l3 := lt_nb hP); repeat (first | assumption | exact push_at | exact setB_at push_at | exact setB_at hT | (rw [addM_blks]) | (rw [setB_ne (by (try simp only [setB_nb, push_nb, ne_eq]); omega)]) | apply push_ne | apply setB_at)) (Nat.le_of_ble_eq_true rfl) (by rfl) (by simp [DV.one, S])) rfl (by dsimp only [zS, zN, zH, zT]) ?_
    refine zst (op_callF Try.func36 (by rfl) (by rfl) (.tmp (by rfl) (.const (by rfl) .nil)) (find_no _ name xs hlx (find_nil hr))) rfl (by dsimp only [zS, zN, zH, zT]) ?_
    refine zst (op_move_tmp (by rfl)) rfl (by dsimp only [zS, zN, zH, zT]) ?_
    refine zst (op_extract (by rfl) (by rfl)) rfl (by dsimp only [zS, zN, zH, zT]) ?_
    refine zst (op_extract (by rfl) (by rfl)) rfl (by dsimp only [zS, zN, zH, zT]) ?_
    refine zst (op_alloc (Zr88) (by rfl)) rfl (by dsimp only [zS, zN, zH, zT]) ?_
    refine zst (op_storeB (vs := [.d (S X0.name), .d (S X0.field), .d (TF X0.uniq)]) (b' := ⟨88, [.d (S X0.name), .d (S X0.field), .d (TF X0.uniq)], false⟩) (H' := _) Sz88 (by rfl) push_at (by intro h; cases h) (by rfl) (by rfl) (Nat.le_of_ble_eq_true rfl) (by simp [AV.one, DV.one, TF, S, I, BY]) (by rfl) (by rfl) rfl) rfl (by dsimp only [zS, zN, zH, zT]) ?_
    refine zst (op_assign_tmp (by rfl)) rfl (by dsimp only [zS, zN, zH, zT]) ?_
    refine al_end rfl ?_
    refine then_normal ?_
    refine aw_seq ?_
    refine aw_region ?_
    refine zst (op_move_tmp (by rfl)) rfl (by dsimp only [zS, zN, zH, zT]) ?_
    refine zst (op_eqI (by rfl) (by rfl)) rfl (by dsimp only [zS, zN, zH, zT]) ?_
    refine zst (op_move_tmp (by rfl)) rfl (by dsimp only [zS, zN, zH, zT]) ?_
    refine zsw rfl rfl rfl (op_load_ptrsD [S name, .lst 3 (xs.map ixD)] Try.underlying77 (by rfl) Sz77 (by rfl) (by (try have l1 := lt_nb hT); (try have l2 := lt_nb hS); (try have l3 := lt_nb hP); repeat (first | assumption | exact push_at | exact setB_at push_at | exact setB_at hT | (rw [addM_blks]) | (rw [setB_ne (by (try simp only [setB_nb, push_nb, ne_eq]); omega)]) | apply push_ne | apply setB_at)) (Nat.le_of_ble_eq_true rfl) (by rfl) (by simp [DV.one, S])) (by dsimp only [zS, zN, zH, zT]) ?_
    refine zsw rfl rfl rfl (op_load_elts (ds := [S name, .lst 3 (xs.map ixD)]) Try.underlying77 (by rfl) Sz77 (by rfl) (Nat.le_of_ble_eq_true rfl) (by rfl)) (by dsimp only [zS, zN, zH, zT]) ?_
    refine zsw rfl rfl rfl (op_callF Try.func31 (by rfl) (by rfl) (.tmp (by rfl) (.tmp (by rfl) .nil)) (same_at _ name xs hlx)) (by dsimp only [zS, zN, zH, zT]) ?_
    refine zst (op_pick_tt (by rfl) (val_tmp (by rfl))) rfl (by dsimp only [zS, zN, zH, zT]) ?_
    refine zst (op_move_tmp (by rfl)) rfl (by dsimp only [zS, zN, zH, zT]) ?_
    refine zsw rfl rfl rfl (op_move_tmp (by rfl)) (by dsimp only [zS, zN, zH, zT]) ?_
    refine zsw rfl rfl rfl (op_eqI (by rfl) (by rfl)) (by dsimp only [zS, zN, zH, zT]) ?_
    refine zst (op_pick_tt (by rfl) (val_tmp (by rfl))) rfl (by dsimp only [zS, zN, zH, zT]) ?_
    refine zst (op_move_tmp (by rfl)) rfl (by dsimp only [zS, zN, zH, zT]) ?_
    refine zsw rfl rfl rfl (op_move_tmp (by rfl)) (by dsimp only [zS, zN, zH, zT]) ?_
    refine zsw rfl rfl rfl (op_not (by rfl)) (by dsimp only [zS, zN, zH, zT]) ?_
    refine zst (op_pick_tt (by rfl) (val_tmp (by rfl))) rfl (by dsimp only [zS, zN, zH, zT]) ?_
    refine zst (op_assign_tmp (by rfl)) rfl (by dsimp only [zS, zN, zH, zT]) ?_
    refine al_end rfl ?_
    refine then_normal ?_
    refine aw_ret ?_
    refine retPost1 rfl rfl ?_
    exact rfl
  ·
   refine zst (op_callF Try.func28 (by rfl) (by rfl) (.tmp (by rfl) (.tmp (by rfl) .nil)) (make_bad _ tid sid nilS name xs hr)) rfl (by dsimp only [zS, zN, zH, zT]) ?_
   refine zst (op_assign_tmp (by rfl)) rfl (by dsimp only [zS, zN, zH, zT]) ?_
   refine al_end rfl ?_
   refine then_normal ?_
   refine aw_seq ?_
   refine aw_seq ?_
   refine aw_region ?_
   refine zst (op_load_elts (ds := [S name, .lst 3 (xs.map ixD)]) Try.underlying77 (by rfl) Sz77 (by rfl) (Nat.le_of_ble_eq_true rfl) (by rfl)) rfl (by dsimp only [zS, zN, zH, zT]) ?_
   refine zst (by first | exact op_callF Try.func29 (by rfl) (by rfl) (.tmp (by rfl) .nil) (lright_t _ name xs (hni.of rfl) hlx hr) | exact op_callF Try.func29 (by rfl) (by rfl) (.tmp (by rfl) .nil) (lright_f _ name xs (hni.of rfl) hlx hr)) rfl (by dsimp only [zS, zN, zH, zT]) ?_
   refine zst (op_not (by rfl)) rfl (by dsimp only [zS, zN, zH, zT]) ?_
   refine al_end rfl ?_
   refine then_normal ?_
   refine aw_cond rfl (fun _ => ?_) (fun h => by cases h)
   refine aw_seq ?_
   refine aw_region ?_
   refine zst (op_move_tmp (by rfl)) rfl (by dsimp only [zS, zN, zH, zT]) ?_
   refine zst (op_eqI (by rfl) (by rfl)) rfl (by dsimp only [zS, zN, zH, zT]) ?_
   refine zst (op_move_tmp (by rfl)) rfl (by dsimp only [zS, zN, zH, zT]) ?_
   refine zsw rfl rfl rfl (op_move_tmp (by rfl)) (by dsimp only [zS, zN, zH, zT]) ?_
   refine al_consw _ (op_callF Try.func32 (by rfl) (by rfl) (.tmp (by rfl) .nil) (writes0_ok _ tid sid nilS 0 hT (LL.nil 1))) rfl rfl rfl ?_
   rintro v8 H8 ⟨rfl, ms8, rfl⟩
   apply al_normT
   · (try dsimp only [putT, List.set_cons_zero, List.set_cons_succ]); try exact rfl
   refine zsw rfl rfl rfl (op_lenL Try.underlying46 (LL.nil 3)) (by dsimp only [zS, zN, zH, zT]) ?_
   refine zsw rfl rfl rfl (op_eqI (by rfl) (by rfl)) (by dsimp only [zS, zN, zH, zT]) ?_
   refine zst (op_pick_tt (by rfl) (val_tmp (by rfl))) rfl (by dsimp only [zS, zN, zH, zT]) ?_
   refine zst (op_assign_tmp (by rfl)) rfl (by dsimp only [zS, zN, zH, zT]) ?_
   refine al_end rfl ?_
   refine then_normal ?_
   refine aw_ret ?_
   refine then_ret ?_
   refine retPost1 rfl rfl ?_
   exact rfl
end Go.Proofs.Ytjbpfnoibeogbaa
