/- Part 3 of what the law needs: ValC, ValFew, ValLaw, MapPlain, MapAV, A19, A20, A21, A22, A23, HistPlain, SbPlain, SbTree, ItemAV, SmPlain, SmFind. -/
import Derived.Test.YtjbpfnoibeogbaaM2
import Derived.KernelRfl
import Derived.Maps.RangeRun
import Derived.MapKept
import Derived.Scope
import Derived.Laws.StructEq
namespace Go.Proofs.Ytjbpfnoibeogbaa
open Go.AV Go.AV.Ord Go.AV.Oct Go.AV.Val
set_option linter.unusedVariables false
set_option linter.unusedSimpArgs false
set_option maxRecDepth 100000 in
theorem nanK_ok (Hs : HS) (a : Int) : ACalls Try.prog 137 [.d (I a)] Hs (Ret (.d (TF false)) Hs) := by
 refine acalls_of_aw Try.func137 rfl ?_
 refine aw_start (T' := [.d (I a), .un, .un, .un, .un, .un]) rfl ?_
 refine aw_seq ?_
 refine aw_region ?_
 refine zst (op_assign_const (by rfl)) rfl (by dsimp only [zS, zN, zH, zT]) ?_
 refine al_end rfl ?_
 refine then_normal ?_
 refine aw_seq ?_
 refine aw_region ?_
 refine zst (op_move_tmp (by rfl)) rfl (by dsimp only [zS, zN, zH, zT]) ?_
 refine zst (op_move_tmp (by rfl)) rfl (by dsimp only [zS, zN, zH, zT]) ?_
 refine zst (op_neI (by rfl) (by rfl)) rfl (by dsimp only [zS, zN, zH, zT]) ?_
 refine zst (op_assign_tmp (by rfl)) rfl (by dsimp only [zS, zN, zH, zT]) ?_
 refine al_end rfl ?_
 refine then_normal ?_
 refine aw_ret ?_
 refine retPost1 rfl rfl ?_
 exact ⟨by simp [TF], rfl⟩
set_option maxRecDepth 100000 in
theorem cmpK_ok (Hs : HS) (a b : Int) : ACalls Try.prog 104 [.d (I a), .d (I b)] Hs (Ret (.d (I (cmpI a b))) Hs) := by
 refine acalls_of_aw Try.func104 rfl ?_
 refine aw_start (T' := [.d (I a), .d (I b), .un, .un, .un, .un, .un, .un, .un, .un, .un, .un, .un, .un, .un, .un, .un, .un, .un, .un]) rfl ?_
 refine aw_seq ?_
 refine aw_region ?_
 refine zst (op_assign_const (by rfl)) rfl (by dsimp only [zS, zN, zH, zT]) ?_
 refine al_end rfl ?_
 refine then_normal ?_
 refine aw_seq ?_
 refine aw_region ?_
 refine zst (op_move_tmp (by rfl)) rfl (by dsimp only [zS, zN, zH, zT]) ?_
 refine zst (op_callF Try.func137 (by rfl) (by rfl) (.tmp (by rfl) .nil) (nanK_ok _ a)) rfl (by dsimp only [zS, zN, zH, zT]) ?_
 refine zst (op_assign_tmp (by rfl)) rfl (by dsimp only [zS, zN, zH, zT]) ?_
 refine al_end rfl ?_
 refine then_normal ?_
 refine aw_seq ?_
 refine aw_region ?_
 refine zst (op_move_tmp (by rfl)) rfl (by dsimp only [zS, zN, zH, zT]) ?_
 refine zst (op_callF Try.func137 (by rfl) (by rfl) (.tmp (by rfl) .nil) (nanK_ok _ b)) rfl (by dsimp only [zS, zN, zH, zT]) ?_
 refine zst (op_assign_tmp (by rfl)) rfl (by dsimp only [zS, zN, zH, zT]) ?_
 refine al_end rfl ?_
 refine then_normal ?_
 refine aw_seq ?_
 refine aw_seq ?_
 refine aw_region ?_
 refine zst (op_move_tmp (by rfl)) rfl (by dsimp only [zS, zN, zH, zT]) ?_
 refine al_end rfl ?_
 refine then_normal ?_
 refine aw_cond rfl (fun h => by cases h) (fun _ => ?_)
 refine aw_skip ?_
 refine then_normal ?_
 refine aw_seq ?_
 refine aw_seq ?_
 refine aw_region ?_
 refine zst (op_move_tmp (by rfl)) rfl (by dsimp only [zS, zN, zH, zT]) ?_
 refine al_end rfl ?_
 refine then_normal ?_
 refine aw_cond rfl (fun h => by cases h) (fun _ => ?_)
 refine aw_skip ?_
 refine then_normal ?_
 refine aw_seq ?_
 refine aw_seq ?_
 refine aw_region ?_
 refine zst (op_move_tmp (by rfl)) rfl (by dsimp only [zS, zN, zH, zT]) ?_
 refine zst (op_move_tmp (by rfl)) rfl (by dsimp only [zS, zN, zH, zT]) ?_
 refine zst (op_ltI (by rfl) (by rfl)) rfl (by dsimp only [zS, zN, zH, zT]) ?_
 refine al_end rfl ?_
 refine then_normal ?_
 refine aw_cond rfl (fun hc3 => ?_) (fun hc3 => ?_)
 ·
  (try simp only [y1, y2, y3, y4, y5, y6, y7, y8, y9, y0, List.length_map] at hc3)
  have hlt : a < b := by omega
  refine aw_seq ?_
  refine aw_region ?_
  refine zst (op_assign_const (by rfl)) rfl (by dsimp only [zS, zN, zH, zT]) ?_
  refine al_end rfl ?_
  refine then_normal ?_
  refine aw_ret ?_
  refine then_ret ?_
  refine retPost1 rfl rfl ?_
  exact ⟨by simp [cmpI, hlt, I], rfl⟩
 ·
  (try simp only [y1, y2, y3, y4, y5, y6, y7, y8, y9, y0, List.length_map] at hc3)
  have hlt : ¬ a < b := by omega
  refine aw_skip ?_
  refine then_normal ?_
  refine aw_seq ?_
  refine aw_seq ?_
  refine aw_region ?_
  refine zst (op_move_tmp (by rfl)) rfl (by dsimp only [zS, zN, zH, zT]) ?_
  refine zst (op_move_tmp (by rfl)) rfl (by dsimp only [zS, zN, zH, zT]) ?_
  refine zst (op_gtI (by rfl) (by rfl)) rfl (by dsimp only [zS, zN, zH, zT]) ?_
  refine al_end rfl ?_
  refine then_normal ?_
  refine aw_cond rfl (fun hc4 => ?_) (fun hc4 => ?_)
  ·
   (try simp only [y1, y2, y3, y4, y5, y6, y7, y8, y9, y0, List.length_map] at hc4)
   have hgt : b < a := by omega
   refine aw_seq ?_
   refine aw_region ?_
   refine zst (op_assign_const (by rfl)) rfl (by dsimp only [zS, zN, zH, zT]) ?_
   refine al_end rfl ?_
   refine then_normal ?_
   refine aw_ret ?_
   refine then_ret ?_
   refine retPost1 rfl rfl ?_
   exact ⟨by simp [cmpI, hlt, hgt, I], rfl⟩
  ·
   (try simp only [y1, y2, y3, y4, y5, y6, y7, y8, y9, y0, List.length_map] at hc4)
   have hgt : ¬ b < a := by omega
   refine aw_skip ?_
   refine then_normal ?_
   refine aw_seq ?_
   refine aw_region ?_
   refine zst (op_assign_const (by rfl)) rfl (by dsimp only [zS, zN, zH, zT]) ?_
   refine al_end rfl ?_
   refine then_normal ?_
   refine aw_ret ?_
   refine retPost1 rfl rfl ?_
   exact ⟨by simp [cmpI, hlt, hgt, I], rfl⟩
set_option maxRecDepth 100000 in
theorem nanN_ok (Hs : HS) (a : Int) : ACalls Try.prog 138 [.d (I a)] Hs (Ret (.d (TF false)) Hs) := by
 refine acalls_of_aw Try.func138 rfl ?_
 refine aw_start (T' := [.d (I a), .un, .un, .un, .un, .un]) rfl ?_
 refine aw_seq ?_
 refine aw_region ?_
 refine zst (op_assign_const (by rfl)) rfl (by dsimp only [zS, zN, zH, zT]) ?_
 refine al_end rfl ?_
 refine then_normal ?_
 refine aw_seq ?_
 refine aw_region ?_
 refine zst (op_move_tmp (by rfl)) rfl (by dsimp only [zS, zN, zH, zT]) ?_
 refine zst (op_move_tmp (by rfl)) rfl (by dsimp only [zS, zN, zH, zT]) ?_
 refine zst (op_neI (by rfl) (by rfl)) rfl (by dsimp only [zS, zN, zH, zT]) ?_
 refine zst (op_assign_tmp (by rfl)) rfl (by dsimp only [zS, zN, zH, zT]) ?_
 refine al_end rfl ?_
 refine then_normal ?_
 refine aw_ret ?_
 refine retPost1 rfl rfl ?_
 exact ⟨by simp [TF], rfl⟩
set_option maxRecDepth 100000 in
theorem cmpN_ok (Hs : HS) (a b : Int) : ACalls Try.prog 105 [.d (I a), .d (I b)] Hs (Ret (.d (I (cmpI a b))) Hs) := by
 refine acalls_of_aw Try.func105 rfl ?_
 refine aw_start (T' := [.d (I a), .d (I b), .un, .un, .un, .un, .un, .un, .un, .un, .un, .un, .un, .un, .un, .un, .un, .un, .un, .un]) rfl ?_
 refine aw_seq ?_
 refine aw_region ?_
 refine zst (op_assign_const (by rfl)) rfl (by dsimp only [zS, zN, zH, zT]) ?_
 refine al_end rfl ?_
 refine then_normal ?_
 refine aw_seq ?_
 refine aw_region ?_
 refine zst (op_move_tmp (by rfl)) rfl (by dsimp only [zS, zN, zH, zT]) ?_
 refine zst (op_callF Try.func138 (by rfl) (by rfl) (.tmp (by rfl) .nil) (nanN_ok _ a)) rfl (by dsimp only [zS, zN, zH, zT]) ?_
 refine zst (op_assign_tmp (by rfl)) rfl (by dsimp only [zS, zN, zH, zT]) ?_
 refine al_end rfl ?_
 refine then_normal ?_
 refine aw_seq ?_
 refine aw_region ?_
 refine zst (op_move_tmp (by rfl)) rfl (by dsimp only [zS, zN, zH, zT]) ?_
 refine zst (op_callF Try.func138 (by rfl) (by rfl) (.tmp (by rfl) .nil) (nanN_ok _ b)) rfl (by dsimp only [zS, zN, zH, zT]) ?_
 refine zst (op_assign_tmp (by rfl)) rfl (by dsimp only [zS, zN, zH, zT]) ?_
 refine al_end rfl ?_
 refine then_normal ?_
 refine aw_seq ?_
 refine aw_seq ?_
 refine aw_region ?_
 refine zst (op_move_tmp (by rfl)) rfl (by dsimp only [zS, zN, zH, zT]) ?_
 refine al_end rfl ?_
 refine then_normal ?_
 refine aw_cond rfl (fun h => by cases h) (fun _ => ?_)
 refine aw_skip ?_
 refine then_normal ?_
 refine aw_seq ?_
 refine aw_seq ?_
 refine aw_region ?_
 refine zst (op_move_tmp (by rfl)) rfl (by dsimp only [zS, zN, zH, zT]) ?_
 refine al_end rfl ?_
 refine then_normal ?_
 refine aw_cond rfl (fun h => by cases h) (fun _ => ?_)
 refine aw_skip ?_
 refine then_normal ?_
 refine aw_seq ?_
 refine aw_seq ?_
 refine aw_region ?_
 refine zst (op_move_tmp (by rfl)) rfl (by dsimp only [zS, zN, zH, zT]) ?_
 refine zst (op_move_tmp (by rfl)) rfl (by dsimp only [zS, zN, zH, zT]) ?_
 refine zst (op_ltI (by rfl) (by rfl)) rfl (by dsimp only [zS, zN, zH, zT]) ?_
 refine al_end rfl ?_
 refine then_normal ?_
 refine aw_cond rfl (fun hc3 => ?_) (fun hc3 => ?_)
 ·
  (try simp only [y1, y2, y3, y4, y5, y6, y7, y8, y9, y0, List.length_map] at hc3)
  have hlt : a < b := by omega
  refine aw_seq ?_
  refine aw_region ?_
  refine zst (op_assign_const (by rfl)) rfl (by dsimp only [zS, zN, zH, zT]) ?_
  refine al_end rfl ?_
  refine then_normal ?_
  refine aw_ret ?_
  refine then_ret ?_
  refine retPost1 rfl rfl ?_
  exact ⟨by simp [cmpI, hlt, I], rfl⟩
 ·
  (try simp only [y1, y2, y3, y4, y5, y6, y7, y8, y9, y0, List.length_map] at hc3)
  have hlt : ¬ a < b := by omega
  refine aw_skip ?_
  refine then_normal ?_
  refine aw_seq ?_
  refine aw_seq ?_
  refine aw_region ?_
  refine zst (op_move_tmp (by rfl)) rfl (by dsimp only [zS, zN, zH, zT]) ?_
  refine zst (op_move_tmp (by rfl)) rfl (by dsimp only [zS, zN, zH, zT]) ?_
  refine zst (op_gtI (by rfl) (by rfl)) rfl (by dsimp only [zS, zN, zH, zT]) ?_
  refine al_end rfl ?_
  refine then_normal ?_
  refine aw_cond rfl (fun hc4 => ?_) (fun hc4 => ?_)
  ·
   (try simp only [y1, y2, y3, y4, y5, y6, y7, y8, y9, y0, List.length_map] at hc4)
   have hgt : b < a := by omega
   refine aw_seq ?_
   refine aw_region ?_
   refine zst (op_assign_const (by rfl)) rfl (by dsimp only [zS, zN, zH, zT]) ?_
   refine al_end rfl ?_
   refine then_normal ?_
   refine aw_ret ?_
   refine then_ret ?_
   refine retPost1 rfl rfl ?_
   exact ⟨by simp [cmpI, hlt, hgt, I], rfl⟩
  ·
   (try simp only [y1, y2, y3, y4, y5, y6, y7, y8, y9, y0, List.length_map] at hc4)
   have hgt : ¬ b < a := by omega
   refine aw_skip ?_
   refine then_normal ?_
   refine aw_seq ?_
   refine aw_region ?_
   refine zst (op_assign_const (by rfl)) rfl (by dsimp only [zS, zN, zH, zT]) ?_
   refine al_end rfl ?_
   refine then_normal ?_
   refine aw_ret ?_
   refine retPost1 rfl rfl ?_
   exact ⟨by simp [cmpI, hlt, hgt, I], rfl⟩
set_option maxRecDepth 100000 in
theorem nan64_ok (Hs : HS) (a : Int) : ACalls Try.prog 139 [.d (I a)] Hs (Ret (.d (TF false)) Hs) := by
 refine acalls_of_aw Try.func139 rfl ?_
 refine aw_start (T' := [.d (I a), .un, .un, .un, .un, .un]) rfl ?_
 refine aw_seq ?_
 refine aw_region ?_
 refine zst (op_assign_const (by rfl)) rfl (by dsimp only [zS, zN, zH, zT]) ?_
 refine al_end rfl ?_
 refine then_normal ?_
 refine aw_seq ?_
 refine aw_region ?_
 refine zst (op_move_tmp (by rfl)) rfl (by dsimp only [zS, zN, zH, zT]) ?_
 refine zst (op_move_tmp (by rfl)) rfl (by dsimp only [zS, zN, zH, zT]) ?_
 refine zst (op_neI (by rfl) (by rfl)) rfl (by dsimp only [zS, zN, zH, zT]) ?_
 refine zst (op_assign_tmp (by rfl)) rfl (by dsimp only [zS, zN, zH, zT]) ?_
 refine al_end rfl ?_
 refine then_normal ?_
 refine aw_ret ?_
 refine retPost1 rfl rfl ?_
 exact ⟨by simp [TF], rfl⟩
set_option maxRecDepth 100000 in
theorem cmp64_ok (Hs : HS) (a b : Int) : ACalls Try.prog 107 [.d (I a), .d (I b)] Hs (Ret (.d (I (cmpI a b))) Hs) := by
 refine acalls_of_aw Try.func107 rfl ?_
 refine aw_start (T' := [.d (I a), .d (I b), .un, .un, .un, .un, .un, .un, .un, .un, .un, .un, .un, .un, .un, .un, .un, .un, .un, .un]) rfl ?_
 refine aw_seq ?_
 refine aw_region ?_
 refine zst (op_assign_const (by rfl)) rfl (by dsimp only [zS, zN, zH, zT]) ?_
 refine al_end rfl ?_
 refine then_normal ?_
 refine aw_seq ?_
 refine aw_region ?_
 refine zst (op_move_tmp (by rfl)) rfl (by dsimp only [zS, zN, zH, zT]) ?_
 refine zst (op_callF Try.func139 (by rfl) (by rfl) (.tmp (by rfl) .nil) (nan64_ok _ a)) rfl (by dsimp only [zS, zN, zH, zT]) ?_
 refine zst (op_assign_tmp (by rfl)) rfl (by dsimp only [zS, zN, zH, zT]) ?_
 refine al_end rfl ?_
 refine then_normal ?_
 refine aw_seq ?_
 refine aw_region ?_
 refine zst (op_move_tmp (by rfl)) rfl (by dsimp only [zS, zN, zH, zT]) ?_
 refine zst (op_callF Try.func139 (by rfl) (by rfl) (.tmp (by rfl) .nil) (nan64_ok _ b)) rfl (by dsimp only [zS, zN, zH, zT]) ?_
 refine zst (op_assign_tmp (by rfl)) rfl (by dsimp only [zS, zN, zH, zT]) ?_
 refine al_end rfl ?_
 refine then_normal ?_
 refine aw_seq ?_
 refine aw_seq ?_
 refine aw_region ?_
 refine zst (op_move_tmp (by rfl)) rfl (by dsimp only [zS, zN, zH, zT]) ?_
 refine al_end rfl ?_
 refine then_normal ?_
 refine aw_cond rfl (fun h => by cases h) (fun _ => ?_)
 refine aw_skip ?_
 refine then_normal ?_
 refine aw_seq ?_
 refine aw_seq ?_
 refine aw_region ?_
 refine zst (op_move_tmp (by rfl)) rfl (by dsimp only [zS, zN, zH, zT]) ?_
 refine al_end rfl ?_
 refine then_normal ?_
 refine aw_cond rfl (fun h => by cases h) (fun _ => ?_)
 refine aw_skip ?_
 refine then_normal ?_
 refine aw_seq ?_
 refine aw_seq ?_
 refine aw_region ?_
 refine zst (op_move_tmp (by rfl)) rfl (by dsimp only [zS, zN, zH, zT]) ?_
 refine zst (op_move_tmp (by rfl)) rfl (by dsimp only [zS, zN, zH, zT]) ?_
 refine zst (op_ltI (by rfl) (by rfl)) rfl (by dsimp only [zS, zN, zH, zT]) ?_
 refine al_end rfl ?_
 refine then_normal ?_
 refine aw_cond rfl (fun hc3 => ?_) (fun hc3 => ?_)
 ·
  (try simp only [y1, y2, y3, y4, y5, y6, y7, y8, y9, y0, List.length_map] at hc3)
  have hlt : a < b := by omega
  refine aw_seq ?_
  refine aw_region ?_
  refine zst (op_assign_const (by rfl)) rfl (by dsimp only [zS, zN, zH, zT]) ?_
  refine al_end rfl ?_
  refine then_normal ?_
  refine aw_ret ?_
  refine then_ret ?_
  refine retPost1 rfl rfl ?_
  exact ⟨by simp [cmpI, hlt, I], rfl⟩
 ·
  (try simp only [y1, y2, y3, y4, y5, y6, y7, y8, y9, y0, List.length_map] at hc3)
  have hlt : ¬ a < b := by omega
  refine aw_skip ?_
  refine then_normal ?_
  refine aw_seq ?_
  refine aw_seq ?_
  refine aw_region ?_
  refine zst (op_move_tmp (by rfl)) rfl (by dsimp only [zS, zN, zH, zT]) ?_
  refine zst (op_move_tmp (by rfl)) rfl (by dsimp only [zS, zN, zH, zT]) ?_
  refine zst (op_gtI (by rfl) (by rfl)) rfl (by dsimp only [zS, zN, zH, zT]) ?_
  refine al_end rfl ?_
  refine then_normal ?_
  refine aw_cond rfl (fun hc4 => ?_) (fun hc4 => ?_)
  ·
   (try simp only [y1, y2, y3, y4, y5, y6, y7, y8, y9, y0, List.length_map] at hc4)
   have hgt : b < a := by omega
   refine aw_seq ?_
   refine aw_region ?_
   refine zst (op_assign_const (by rfl)) rfl (by dsimp only [zS, zN, zH, zT]) ?_
   refine al_end rfl ?_
   refine then_normal ?_
   refine aw_ret ?_
   refine then_ret ?_
   refine retPost1 rfl rfl ?_
   exact ⟨by simp [cmpI, hlt, hgt, I], rfl⟩
  ·
   (try simp only [y1, y2, y3, y4, y5, y6, y7, y8, y9, y0, List.length_map] at hc4)
   have hgt : ¬ b < a := by omega
   refine aw_skip ?_
   refine then_normal ?_
   refine aw_seq ?_
   refine aw_region ?_
   refine zst (op_assign_const (by rfl)) rfl (by dsimp only [zS, zN, zH, zT]) ?_
   refine al_end rfl ?_
   refine then_normal ?_
   refine aw_ret ?_
   refine retPost1 rfl rfl ?_
   exact ⟨by simp [cmpI, hlt, hgt, I], rfl⟩
set_option maxRecDepth 100000 in
theorem yes_ok (Hs : HS) (b : Bool) : ACalls Try.prog 106 [.d (TF b)] Hs (Ret (.d (I (yesI b))) Hs) := by
 refine acalls_of_aw Try.func106 rfl ?_
 refine aw_start (T' := [.d (TF b), .un, .un, .un]) rfl ?_
 refine aw_seq ?_
 refine aw_region ?_
 refine zst (op_assign_const (by rfl)) rfl (by dsimp only [zS, zN, zH, zT]) ?_
 refine al_end rfl ?_
 refine then_normal ?_
 refine aw_seq ?_
 refine aw_seq ?_
 refine aw_region ?_
 refine zst (op_move_tmp (by rfl)) rfl (by dsimp only [zS, zN, zH, zT]) ?_
 refine al_end rfl ?_
 refine then_normal ?_
 refine aw_cond rfl (fun hc1 => ?_) (fun hc1 => ?_)
 ·
  (try simp only [y1, y2, y3, y4, y5, y6, y7, y8, y9, y0, List.length_map] at hc1)
  have hb : b = true := hc1
  subst hb
  refine aw_seq ?_
  refine aw_region ?_
  refine zst (op_assign_const (by rfl)) rfl (by dsimp only [zS, zN, zH, zT]) ?_
  refine al_end rfl ?_
  refine then_normal ?_
  refine aw_ret ?_
  refine then_ret ?_
  refine retPost1 rfl rfl ?_
  exact ⟨rfl, rfl⟩
 ·
  (try simp only [y1, y2, y3, y4, y5, y6, y7, y8, y9, y0, List.length_map] at hc1)
  have hb : b = false := hc1
  subst hb
  refine aw_skip ?_
  refine then_normal ?_
  refine aw_seq ?_
  refine aw_region ?_
  refine zst (op_assign_const (by rfl)) rfl (by dsimp only [zS, zN, zH, zT]) ?_
  refine al_end rfl ?_
  refine then_normal ?_
  refine aw_ret ?_
  refine retPost1 rfl rfl ?_
  exact ⟨rfl, rfl⟩
set_option maxRecDepth 100000 in
theorem cmpStr_ok (Hs : HS) (a b : List UInt8) : ACalls Try.prog 78 [.d (S a), .d (S b)] Hs (Ret (.d (I (Lib.compareBytes a b))) Hs) := by
 refine acalls_of_aw Try.func78 rfl ?_
 refine aw_start (T' := [.d (S a), .d (S b), .un, .un, .un, .un, .un, .un]) rfl ?_
 refine aw_seq ?_
 refine aw_region ?_
 refine zst (op_assign_const (by rfl)) rfl (by dsimp only [zS, zN, zH, zT]) ?_
 refine al_end rfl ?_
 refine then_normal ?_
 refine aw_seq ?_
 refine aw_region ?_
 refine zst (op_move_tmp (by rfl)) rfl (by dsimp only [zS, zN, zH, zT]) ?_
 refine zst (op_move_tmp (by rfl)) rfl (by dsimp only [zS, zN, zH, zT]) ?_
 refine zst (op_cmpstring Try.func112 (by kernel_rfl) (by kernel_rfl) (by kernel_rfl) (by kernel_rfl) (by rfl) (by rfl)) rfl (by dsimp only [zS, zN, zH, zT]) ?_
 refine zst (op_assign_tmp (by rfl)) rfl (by dsimp only [zS, zN, zH, zT]) ?_
 refine al_end rfl ?_
 refine then_normal ?_
 refine aw_ret ?_
 refine retPost1 rfl rfl ?_
 exact ⟨rfl, rfl⟩
set_option maxRecDepth 100000 in
theorem strCmp_ok (Hs : HS) (a b : List UInt8) : ACalls Try.prog 43 [.d (S a), .d (S b)] Hs (Ret (.d (I (Lib.compareBytes a b))) Hs) := by
 refine acalls_of_aw Try.func43 rfl ?_
 refine aw_start (T' := [.d (S a), .d (S b), .un, .un, .un, .un, .un, .un]) rfl ?_
 refine aw_seq ?_
 refine aw_region ?_
 refine zst (op_assign_const (by rfl)) rfl (by dsimp only [zS, zN, zH, zT]) ?_
 refine al_end rfl ?_
 refine then_normal ?_
 refine aw_seq ?_
 refine aw_region ?_
 refine zst (op_move_tmp (by rfl)) rfl (by dsimp only [zS, zN, zH, zT]) ?_
 refine zst (op_move_tmp (by rfl)) rfl (by dsimp only [zS, zN, zH, zT]) ?_
 refine zst (op_callF Try.func78 (by rfl) (by rfl) (.tmp (by rfl) (.tmp (by rfl) .nil)) (cmpStr_ok _ a b)) rfl (by dsimp only [zS, zN, zH, zT]) ?_
 refine zst (op_assign_tmp (by rfl)) rfl (by dsimp only [zS, zN, zH, zT]) ?_
 refine al_end rfl ?_
 refine then_normal ?_
 refine aw_ret ?_
 refine retPost1 rfl rfl ?_
 exact ⟨rfl, rfl⟩
set_option maxRecDepth 100000 in
theorem or_ok (Hs : HS) (a b : Int) : ACalls Try.prog 111 [.own none 1 [I a, I b]] Hs (Ret (.d (I (orI a b))) Hs) := by
 refine acalls_of_aw Try.func111 rfl ?_
 refine aw_start (T' := [.own none 1 [I a, I b], .un, .un, .un, .un, .un, .un, .un, .un, .un, .un, .un, .un, .un, .un, .un, .un, .un]) rfl ?_
 refine aw_seq ?_
 refine aw_region ?_
 refine zst (op_assign_const (by rfl)) rfl (by dsimp only [zS, zN, zH, zT]) ?_
 refine al_end rfl ?_
 refine then_normal ?_
 refine aw_seq ?_
 refine aw_region ?_
 refine zst (op_assign_const (by rfl)) rfl (by dsimp only [zS, zN, zH, zT]) ?_
 refine al_end rfl ?_
 refine then_normal ?_
 refine aw_seq ?_
 refine aw_seq ?_
 refine aw_region ?_
 refine zst (op_move_tmp (by rfl)) rfl (by dsimp only [zS, zN, zH, zT]) ?_
 refine zst (op_lenL Try.underlying229 (by first | exact LL.d _ _ | exact LL.own _ _ _ | exact LL.nil _ | assumption)) rfl (by dsimp only [zS, zN, zH, zT]) ?_
 refine zst (op_move_const (by rfl)) rfl (by dsimp only [zS, zN, zH, zT]) ?_
 refine al_end rfl ?_
 refine then_normal ?_
 refine aw_block ?_
 apply aw_loopF (fun n T H => ∃ (k : Nat), T = [.un, .un, .un, .d (I 0), .un, .un, .own none 1 [I a, I b], .d (I 2), .d (I k), .un, .un, .un, .un, .un, .un, .un, .un, .un] ∧ k ≤ 2 ∧ n = 2 - k ∧ (0 < k → a = 0) ∧ (1 < k → b = 0) ∧ Hs = H) (2) [false, false, false, true, false, false, true, true, true, false, false, false, false, false, false, false, false, false]
 · (try dsimp only [maskT]); try exact rfl
 · rfl
 · exact ⟨0, rfl, by omega, rfl, fun h => absurd h (by decide), fun h => absurd h (by decide), rfl⟩
 rintro n T H ⟨k, rfl, hk, rfl, ha, hb, rfl⟩
 refine aw_seq ?_
 refine aw_region ?_
 refine zst (op_ltI (by rfl) (by rfl)) rfl (by dsimp only [zS, zN, zH, zT]) ?_
 refine al_end rfl ?_
 refine then_normal ?_
 refine aw_seq ?_
 refine aw_cond rfl (fun hc1 => ?_) (fun hc1 => ?_)
 ·
  (try simp only [y1, y2, y3, y4, y5, y6, y7, y8, y9, y0, List.length_map] at hc1)
  have hlt : k < 2 := by omega
  have hk2 : k = 0 ∨ k = 1 := by omega
  obtain ⟨x, hx⟩ : ∃ x, [a, b][k]? = some x := ⟨_, List.getElem?_eq_getElem (by simpa using hlt)⟩
  refine aw_skip ?_
  refine then_normal ?_
  refine aw_seq ?_
  refine aw_block ?_
  refine aw_seq ?_
  refine aw_region ?_
  refine zst (op_indexAddr (z := I x) (cs := [I x]) Try.underlying229 Sz3 (LL.own _ _ _) (by rfl) (by omega) (by rcases hk2 with rfl | rfl <;> (simp at hx; subst hx; rfl)) (by rfl)) rfl (by dsimp only [zS, zN, zH, zT]) ?_
  refine zst (by first | exact op_load_elt Try.underlying3 (by rfl) (by rfl) (by rfl) | exact op_load_ptr Try.underlying3 (by rfl) (by rfl) (by rfl) (by rfl)) rfl (by dsimp only [zS, zN, zH, zT]) ?_
  refine zst (op_assign_tmp (by rfl)) rfl (by dsimp only [zS, zN, zH, zT]) ?_
  refine al_end rfl ?_
  refine then_normal ?_
  refine aw_seq ?_
  refine aw_region ?_
  refine zst (op_move_tmp (by rfl)) rfl (by dsimp only [zS, zN, zH, zT]) ?_
  refine zst (op_move_tmp (by rfl)) rfl (by dsimp only [zS, zN, zH, zT]) ?_
  refine zst (op_neI (by rfl) (by rfl)) rfl (by dsimp only [zS, zN, zH, zT]) ?_
  refine al_end rfl ?_
  refine then_normal ?_
  refine aw_cond rfl (fun hc2 => ?_) (fun hc2 => ?_)
  ·
   (try simp only [y1, y2, y3, y4, y5, y6, y7, y8, y9, y0, List.length_map] at hc2)
   have hne : ¬ x = 0 := hc2
   refine aw_seq ?_
   refine aw_region ?_
   refine zst (op_move_tmp (by rfl)) rfl (by dsimp only [zS, zN, zH, zT]) ?_
   refine zst (op_assign_tmp (by rfl)) rfl (by dsimp only [zS, zN, zH, zT]) ?_
   refine al_end rfl ?_
   refine then_normal ?_
   refine aw_ret ?_
   refine inBlock_ret (then_ret (again_ret (inBlock_ret (then_ret ?_))))
   refine retPost1 rfl rfl ?_
   exact ⟨by rcases hk2 with rfl | rfl; (simp at hx; subst hx; simp [orI, hne]); (have h0 := ha (by decide); simp at hx; subst hx h0; simp [orI]), rfl⟩
  ·
   (try simp only [y1, y2, y3, y4, y5, y6, y7, y8, y9, y0, List.length_map] at hc2)
   have hz : [a, b][k]? = some 0 := by rw [hx]; exact congrArg some (by simpa using hc2)
   refine aw_skip ?_
   refine inBlock_normal (then_normal ?_)
   refine aw_region ?_
   refine zst (by first | exact op_add (by rfl) (by rfl) (wrap_i64 ⟨by omega, by omega⟩) | exact op_add (by rfl) (by rfl) (by rfl)) rfl (by dsimp only [zS, zN, zH, zT]) ?_
   refine zst (op_move_tmp (by rfl)) rfl (by dsimp only [zS, zN, zH, zT]) ?_
   refine al_end rfl ?_
   apply again_to (2 - (k + 1)) [false, false, false, true, false, false, true, true, true, false, false, false, false, false, false, false, false, false]
   · (try dsimp only [maskT]); try exact rfl
   · rfl
   · omega
   exact ⟨k + 1, rfl, by omega, rfl, fun _ => by rcases hk2 with rfl | rfl; (simpa using hz); exact ha (by decide), fun h => by rcases hk2 with rfl | rfl; exact absurd h (by decide); (simpa using hz), rfl⟩
 ·
  (try simp only [y1, y2, y3, y4, y5, y6, y7, y8, y9, y0, List.length_map] at hc1)
  have hk2 : k = 2 := by omega
  subst hk2
  have ha0 := ha (by decide)
  have hb0 := hb (by decide)
  refine aw_exit ?_
  refine then_exit (again_exit (inBlock_here (then_normal ?_)))
  refine aw_seq ?_
  refine aw_region ?_
  refine zst (op_move_tmp (by rfl)) rfl (by dsimp only [zS, zN, zH, zT]) ?_
  refine zst (op_assign_tmp (by rfl)) rfl (by dsimp only [zS, zN, zH, zT]) ?_
  refine al_end rfl ?_
  refine then_normal ?_
  refine aw_ret ?_
  refine retPost1 rfl rfl ?_
  exact ⟨by subst ha0 hb0; rfl, rfl⟩
set_option maxRecDepth 100000 in
theorem cmpL_ok (Hs : HS) (xs zs : List V) (hl : xs.length ≤ 1000000) (hl2 : zs.length ≤ 1000000) (ihA : ∀ x ∈ xs, ∀ z ∈ zs, ∀ Hs : HS, ACalls Try.prog 77 [.d (.agg (vC x)), .d (.agg (vC z))] Hs (Ret (.d (I (cmpV x z))) Hs)) : ACalls Try.prog 108 [.d (.lst 6 (xs.map vD)), .d (.lst 6 (zs.map vD)), .fn (.func 77) [] []] Hs (Ret (.d (I (cmpL xs zs))) Hs) := by
 refine ACalls.tidy1 ?_
 refine acalls_of_aw Try.func108 rfl ?_
 refine aw_start (T' := [.d (.lst 6 (xs.map vD)), .d (.lst 6 (zs.map vD)), .fn (.func 77) [] [], .un, .un, .un, .un, .un, .un, .un, .un, .un, .un, .un, .un, .un, .un, .un, .un, .un, .un, .un, .un, .un, .un, .un, .un, .un, .un, .un, .un, .un, .un, .un, .un, .un, .un, .un, .un]) rfl ?_
 refine aw_seq ?_
 refine aw_region ?_
 refine zst (op_assign_const (by rfl)) rfl (by dsimp only [zS, zN, zH, zT]) ?_
 refine al_end rfl ?_
 refine then_normal ?_
 refine aw_seq ?_
 refine aw_seq ?_
 refine aw_region ?_
 refine zst (op_move_tmp (by rfl)) rfl (by dsimp only [zS, zN, zH, zT]) ?_
 refine zst (op_lenL Try.underlying24 (by first | exact LL.d _ _ | exact LL.own _ _ _ | exact LL.nil _ | assumption)) rfl (by dsimp only [zS, zN, zH, zT]) ?_
 refine zst (op_move_const (by rfl)) rfl (by dsimp only [zS, zN, zH, zT]) ?_
 refine al_end rfl ?_
 refine then_normal ?_
 refine aw_block ?_
 apply aw_loopF (fun n T H => ∃ (k : Nat), T = [.d (.lst 6 (xs.map vD)), .d (.lst 6 (zs.map vD)), .fn (.func 77) [] [], .un, .un, .un, .un, .un, .un, .un, .un, .d (.lst 6 (xs.map vD)), .d (I (xs.map vD).length), .d (I k), .un, .un, .un, .un, .un, .un, .un, .un, .un, .un, .un, .un, .un, .un, .un, .un, .un, .un, .un, .un, .un, .un, .un, .un, .un] ∧ k ≤ xs.length ∧ k ≤ zs.length ∧ n = xs.length - k ∧ cmpL xs zs = cmpL (xs.drop k) (zs.drop k) ∧ Ext Hs H) (xs.length) [true, true, true, false, false, false, false, false, false, false, false, true, true, true, false, false, false, false, false, false, false, false, false, false, false, false, false, false, false, false, false, false, false, false, false, false, false, false, false]
 · (try dsimp only [maskT]); try exact rfl
 · rfl
 · exact ⟨0, rfl, by omega, by omega, rfl, rfl, Ext.refl _⟩
 rintro n T H ⟨k, rfl, hk, hk2, rfl, he, hx⟩
 refine aw_seq ?_
 refine aw_region ?_
 refine zst (op_ltI (by rfl) (by rfl)) rfl (by dsimp only [zS, zN, zH, zT]) ?_
 refine al_end rfl ?_
 refine then_normal ?_
 refine aw_seq ?_
 refine aw_cond rfl (fun hc1 => ?_) (fun hc1 => ?_)
 ·
  (try simp only [y1, y2, y3, y4, y5, y6, y7, y8, y9, y0, List.length_map] at hc1)
  (try simp only [List.length_map] at hc1)
  have hlt : k < xs.length := by omega
  obtain ⟨x, hx1⟩ : ∃ x, xs[k]? = some x := ⟨_, List.getElem?_eq_getElem hlt⟩
  refine aw_skip ?_
  refine then_normal ?_
  refine aw_seq ?_
  refine aw_block ?_
  refine aw_seq ?_
  refine aw_region ?_
  refine zst (op_move_tmp (by rfl)) rfl (by dsimp only [zS, zN, zH, zT]) ?_
  refine zst (op_indexAddr (z := vD x) (cs := [I x.kind, TF x.yes, .v (.int .i64 x.num), S x.text, .lst 6 (x.list.map vD), .lst 7 (x.fields.map fD)]) Try.underlying24 Sz26 (LL.d _ _) (by rfl) (by omega) (by rw [List.getElem?_map, show ((k : Nat) : Int).toNat = k from rfl, hx1]; rfl) (vD_cells x)) rfl (by dsimp only [zS, zN, zH, zT]) ?_
  refine zst (op_load_elts (ds := vC x) Try.underlying26 (by rfl) Sz26 (by rfl) (Nat.le_of_ble_eq_true rfl) (by rw [vC_eq]; rfl)) rfl (by dsimp only [zS, zN, zH, zT]) ?_
  refine zst (op_alloc (Zr26) (by rfl)) rfl (by dsimp only [zS, zN, zH, zT]) ?_
  refine zst (op_assign_tmp (by rfl)) rfl (by dsimp only [zS, zN, zH, zT]) ?_
  refine zst (op_storeV (b' := ⟨26, (vC x).map .d, false⟩) x Sz26 (by rfl) push_at (by rfl) (Nat.le_of_ble_eq_true rfl) (by rfl) (by rw [vC_eq]; rfl)) rfl (by dsimp only [zS, zN, zH, zT]) ?_
  refine al_end rfl ?_
  refine then_normal ?_
  refine aw_seq ?_
  refine aw_seq ?_
  refine aw_region ?_
  refine zst (op_move_tmp (by rfl)) rfl (by dsimp only [zS, zN, zH, zT]) ?_
  refine zst (op_move_tmp (by rfl)) rfl (by dsimp only [zS, zN, zH, zT]) ?_
  refine zst (op_lenL Try.underlying24 (by first | exact LL.d _ _ | exact LL.own _ _ _ | exact LL.nil _ | assumption)) rfl (by dsimp only [zS, zN, zH, zT]) ?_
  refine zst (op_geI (by rfl) (by rfl)) rfl (by dsimp only [zS, zN, zH, zT]) ?_
  refine al_end rfl ?_
  refine then_normal ?_
  refine aw_cond rfl (fun hc2 => ?_) (fun hc2 => ?_)
  ·
   (try simp only [y1, y2, y3, y4, y5, y6, y7, y8, y9, y0, List.length_map] at hc2)
   (try simp only [List.length_map] at hc2)
   have hge : zs.length ≤ k := by omega
   refine aw_seq ?_
   refine aw_region ?_
   refine zst (op_assign_const (by rfl)) rfl (by dsimp only [zS, zN, zH, zT]) ?_
   refine al_end rfl ?_
   refine then_normal ?_
   refine aw_ret ?_
   refine then_ret (inBlock_ret (then_ret (again_ret (inBlock_ret (then_ret ?_)))))
   refine retPost1 rfl rfl ?_
   exact ⟨by rw [he, cmpL_gt hx1 hge]; rfl, (hx.push _ _).setB (nb_le hx)⟩
  ·
   (try simp only [y1, y2, y3, y4, y5, y6, y7, y8, y9, y0, List.length_map] at hc2)
   (try simp only [List.length_map] at hc2)
   have hlt2 : k < zs.length := by omega
   obtain ⟨z, hz1⟩ : ∃ x, zs[k]? = some x := ⟨_, List.getElem?_eq_getElem hlt2⟩
   refine aw_skip ?_
   refine then_normal ?_
   refine aw_seq ?_
   refine aw_region ?_
   refine zst (op_move_tmp (by rfl)) rfl (by dsimp only [zS, zN, zH, zT]) ?_
   refine zst (op_move_tmp (by rfl)) rfl (by dsimp only [zS, zN, zH, zT]) ?_
   refine zst (op_indexAddr (z := vD z) (cs := [I z.kind, TF z.yes, .v (.int .i64 z.num), S z.text, .lst 6 (z.list.map vD), .lst 7 (z.fields.map fD)]) Try.underlying24 Sz26 (LL.d _ _) (by rfl) (by omega) (by rw [List.getElem?_map, show ((k : Nat) : Int).toNat = k from rfl, hz1]; rfl) (vD_cells z)) rfl (by dsimp only [zS, zN, zH, zT]) ?_
   refine zst (op_load_elts (ds := vC z) Try.underlying26 (by rfl) Sz26 (by rfl) (Nat.le_of_ble_eq_true rfl) (by rw [vC_eq]; rfl)) rfl (by dsimp only [zS, zN, zH, zT]) ?_
   refine zst (op_alloc (Zr26) (by rfl)) rfl (by dsimp only [zS, zN, zH, zT]) ?_
   refine zst (op_storeV (b' := ⟨26, (vC z).map .d, false⟩) z Sz26 (by rfl) push_at (by rfl) (Nat.le_of_ble_eq_true rfl) (by rfl) (by rw [vC_eq]; rfl)) rfl (by dsimp only [zS, zN, zH, zT]) ?_
   refine al_end rfl ?_
   refine then_normal ?_
   refine aw_seq ?_
   refine aw_region ?_
   refine zst (op_move_tmp (by rfl)) rfl (by dsimp only [zS, zN, zH, zT]) ?_
   refine zst (op_load_ptrsD (vC x) Try.underlying26 (by rfl) Sz26 (by rfl) (by rw [setB_ne (by simp only [setB_nb, push_nb]; omega)]; exact push_ne (setB_at push_at)) (by show 0 + 6 ≤ ((vC x).map AV.d).length; rw [List.length_map, vC_len]; exact Nat.le_refl _) (by show (((vC x).map AV.d).drop 0).take 6 = _; rw [List.drop_zero, List.take_of_length_le (by rw [List.length_map, vC_len]; exact Nat.le_refl _)]) (vC_one x)) rfl (by dsimp only [zS, zN, zH, zT]) ?_
   refine zst (op_load_ptrsD (vC z) Try.underlying26 (by rfl) Sz26 (by rfl) (setB_at push_at) (by show 0 + 6 ≤ ((vC z).map AV.d).length; rw [List.length_map, vC_len]; exact Nat.le_refl _) (by show (((vC z).map AV.d).drop 0).take 6 = _; rw [List.drop_zero, List.take_of_length_le (by rw [List.length_map, vC_len]; exact Nat.le_refl _)]) (vC_one z)) rfl (by dsimp only [zS, zN, zH, zT]) ?_
   refine zst (op_callV (by rfl) Try.func77 (by rfl) (by rfl) (.tmp (by rfl) (.tmp (by rfl) .nil)) (ihA x (List.mem_of_getElem? hx1) z (List.mem_of_getElem? hz1) _)) rfl (by dsimp only [zS, zN, zH, zT]) ?_
   refine zst (op_assign_tmp (by rfl)) rfl (by dsimp only [zS, zN, zH, zT]) ?_
   refine al_end rfl ?_
   refine then_normal ?_
   refine aw_seq ?_
   refine aw_region ?_
   refine zst (op_move_tmp (by rfl)) rfl (by dsimp only [zS, zN, zH, zT]) ?_
   refine zst (op_neI (by rfl) (by rfl)) rfl (by dsimp only [zS, zN, zH, zT]) ?_
   refine al_end rfl ?_
   refine then_normal ?_
   refine aw_cond rfl (fun hc3 => ?_) (fun hc3 => ?_)
   ·
    (try simp only [y1, y2, y3, y4, y5, y6, y7, y8, y9, y0, List.length_map] at hc3)
    have hc0 : ¬ cmpV x z = 0 := hc3
    refine aw_seq ?_
    refine aw_region ?_
    refine zst (op_move_tmp (by rfl)) rfl (by dsimp only [zS, zN, zH, zT]) ?_
    refine zst (op_assign_tmp (by rfl)) rfl (by dsimp only [zS, zN, zH, zT]) ?_
    refine al_end rfl ?_
    refine then_normal ?_
    refine aw_ret ?_
    refine inBlock_ret (then_ret (again_ret (inBlock_ret (then_ret ?_))))
    refine retPost1 rfl rfl ?_
    exact ⟨by rw [he, cmpL_at hx1 hz1 hc0], (((hx.push _ _).setB (nb_le hx)).push _ _).setB (Nat.le_trans (nb_le hx) (by (simp only [setB_nb, push_nb]; omega)))⟩
   ·
    (try simp only [y1, y2, y3, y4, y5, y6, y7, y8, y9, y0, List.length_map] at hc3)
    have hc0 : cmpV x z = 0 := by simpa using hc3
    refine aw_skip ?_
    refine inBlock_normal (then_normal ?_)
    refine aw_region ?_
    refine zst (by first | exact op_add (by rfl) (by rfl) (wrap_i64 ⟨by omega, by omega⟩) | exact op_add (by rfl) (by rfl) (by rfl)) rfl (by dsimp only [zS, zN, zH, zT]) ?_
    refine zst (op_move_tmp (by rfl)) rfl (by dsimp only [zS, zN, zH, zT]) ?_
    refine al_end rfl ?_
    apply again_to (xs.length - (k + 1)) [true, true, true, false, false, false, false, false, false, false, false, true, true, true, false, false, false, false, false, false, false, false, false, false, false, false, false, false, false, false, false, false, false, false, false, false, false, false, false]
    · (try dsimp only [maskT]); try exact rfl
    · rfl
    · omega
    exact ⟨k + 1, rfl, by omega, by omega, rfl, he.trans (cmpL_step hx1 hz1 hc0), (((hx.push _ _).setB (nb_le hx)).push _ _).setB (Nat.le_trans (nb_le hx) (by (simp only [setB_nb, push_nb]; omega)))⟩
 ·
  (try simp only [y1, y2, y3, y4, y5, y6, y7, y8, y9, y0, List.length_map] at hc1)
  (try simp only [List.length_map] at hc1)
  have hke : k = xs.length := by omega
  refine aw_exit ?_
  refine then_exit (again_exit (inBlock_here (then_normal ?_)))
  refine aw_seq ?_
  refine aw_seq ?_
  refine aw_region ?_
  refine zst (op_move_tmp (by rfl)) rfl (by dsimp only [zS, zN, zH, zT]) ?_
  refine zst (op_lenL Try.underlying24 (by first | exact LL.d _ _ | exact LL.own _ _ _ | exact LL.nil _ | assumption)) rfl (by dsimp only [zS, zN, zH, zT]) ?_
  refine zst (op_move_tmp (by rfl)) rfl (by dsimp only [zS, zN, zH, zT]) ?_
  refine zst (op_lenL Try.underlying24 (by first | exact LL.d _ _ | exact LL.own _ _ _ | exact LL.nil _ | assumption)) rfl (by dsimp only [zS, zN, zH, zT]) ?_
  refine zst (op_ltI (by rfl) (by rfl)) rfl (by dsimp only [zS, zN, zH, zT]) ?_
  refine al_end rfl ?_
  refine then_normal ?_
  refine aw_cond rfl (fun hc4 => ?_) (fun hc4 => ?_)
  ·
   (try simp only [y1, y2, y3, y4, y5, y6, y7, y8, y9, y0, List.length_map] at hc4)
   (try simp only [List.length_map] at hc4)
   obtain ⟨z, hz1⟩ : ∃ x, zs[k]? = some x := ⟨_, List.getElem?_eq_getElem (by omega)⟩
   refine aw_seq ?_
   refine aw_region ?_
   refine zst (op_assign_const (by rfl)) rfl (by dsimp only [zS, zN, zH, zT]) ?_
   refine al_end rfl ?_
   refine then_normal ?_
   refine aw_ret ?_
   refine then_ret ?_
   refine retPost1 rfl rfl ?_
   exact ⟨by rw [he, cmpL_lt (by omega) hz1]; rfl, hx⟩
  ·
   (try simp only [y1, y2, y3, y4, y5, y6, y7, y8, y9, y0, List.length_map] at hc4)
   (try simp only [List.length_map] at hc4)
   refine aw_skip ?_
   refine then_normal ?_
   refine aw_seq ?_
   refine aw_region ?_
   refine zst (op_assign_const (by rfl)) rfl (by dsimp only [zS, zN, zH, zT]) ?_
   refine al_end rfl ?_
   refine then_normal ?_
   refine aw_ret ?_
   refine retPost1 rfl rfl ?_
   exact ⟨by rw [he, cmpL_eq (by omega) (by omega)]; rfl, hx⟩
set_option maxRecDepth 100000 in
theorem cmpF_ok (Hs : HS) (xs zs : List F) (hl : xs.length ≤ 1000000) (hl2 : zs.length ≤ 1000000) (ihA : ∀ x ∈ xs, ∀ z ∈ zs, ∀ Hs : HS, ACalls Try.prog 110 [.d (.agg (fC x)), .d (.agg (fC z))] Hs (Ret (.d (I (cmpF1 x z))) Hs)) : ACalls Try.prog 109 [.d (.lst 7 (xs.map fD)), .d (.lst 7 (zs.map fD)), .fn (.func 110) [] []] Hs (Ret (.d (I (cmpF xs zs))) Hs) := by
 refine ACalls.tidy1 ?_
 refine acalls_of_aw Try.func109 rfl ?_
 refine aw_start (T' := [.d (.lst 7 (xs.map fD)), .d (.lst 7 (zs.map fD)), .fn (.func 110) [] [], .un, .un, .un, .un, .un, .un, .un, .un, .un, .un, .un, .un, .un, .un, .un, .un, .un, .un, .un, .un, .un, .un, .un, .un, .un, .un, .un, .un, .un, .un, .un, .un, .un, .un, .un, .un]) rfl ?_
 refine aw_seq ?_
 refine aw_region ?_
 refine zst (op_assign_const (by rfl)) rfl (by dsimp only [zS, zN, zH, zT]) ?_
 refine al_end rfl ?_
 refine then_normal ?_
 refine aw_seq ?_
 refine aw_seq ?_
 refine aw_region ?_
 refine zst (op_move_tmp (by rfl)) rfl (by dsimp only [zS, zN, zH, zT]) ?_
 refine zst (op_lenL Try.underlying22 (by first | exact LL.d _ _ | exact LL.own _ _ _ | exact LL.nil _ | assumption)) rfl (by dsimp only [zS, zN, zH, zT]) ?_
 refine zst (op_move_const (by rfl)) rfl (by dsimp only [zS, zN, zH, zT]) ?_
 refine al_end rfl ?_
 refine then_normal ?_
 refine aw_block ?_
 apply aw_loopF (fun n T H => ∃ (k : Nat), T = [.d (.lst 7 (xs.map fD)), .d (.lst 7 (zs.map fD)), .fn (.func 110) [] [], .un, .un, .un, .un, .un, .un, .un, .un, .d (.lst 7 (xs.map fD)), .d (I (xs.map fD).length), .d (I k), .un, .un, .un, .un, .un, .un, .un, .un, .un, .un, .un, .un, .un, .un, .un, .un, .un, .un, .un, .un, .un, .un, .un, .un, .un] ∧ k ≤ xs.length ∧ k ≤ zs.length ∧ n = xs.length - k ∧ cmpF xs zs = cmpF (xs.drop k) (zs.drop k) ∧ Ext Hs H) (xs.length) [true, true, true, false, false, false, false, false, false, false, false, true, true, true, false, false, false, false, false, false, false, false, false, false, false, false, false, false, false, false, false, false, false, false, false, false, false, false, false]
 · (try dsimp only [maskT]); try exact rfl
 · rfl
 · exact ⟨0, rfl, by omega, by omega, rfl, rfl, Ext.refl _⟩
 rintro n T H ⟨k, rfl, hk, hk2, rfl, he, hx⟩
 refine aw_seq ?_
 refine aw_region ?_
 refine zst (op_ltI (by rfl) (by rfl)) rfl (by dsimp only [zS, zN, zH, zT]) ?_
 refine al_end rfl ?_
 refine then_normal ?_
 refine aw_seq ?_
 refine aw_cond rfl (fun hc1 => ?_) (fun hc1 => ?_)
 ·
  (try simp only [y1, y2, y3, y4, y5, y6, y7, y8, y9, y0, List.length_map] at hc1)
  (try simp only [List.length_map] at hc1)
  have hlt : k < xs.length := by omega
  obtain ⟨x, hx1⟩ : ∃ x, xs[k]? = some x := ⟨_, List.getElem?_eq_getElem hlt⟩
  refine aw_skip ?_
  refine then_normal ?_
  refine aw_seq ?_
  refine aw_block ?_
  refine aw_seq ?_
  refine aw_region ?_
  refine zst (op_move_tmp (by rfl)) rfl (by dsimp only [zS, zN, zH, zT]) ?_
  refine zst (op_indexAddr (z := fD x) (cs := [S x.name, I x.val.kind, TF x.val.yes, .v (.int .i64 x.val.num), S x.val.text, .lst 6 (x.val.list.map vD), .lst 7 (x.val.fields.map fD)]) Try.underlying22 Sz30 (LL.d _ _) (by rfl) (by omega) (by rw [List.getElem?_map, show ((k : Nat) : Int).toNat = k from rfl, hx1]; rfl) (fD_cells7 x)) rfl (by dsimp only [zS, zN, zH, zT]) ?_
  refine zst (op_load_elts (ds := fC x) Try.underlying30 (by rfl) Sz30 (by rfl) (Nat.le_of_ble_eq_true rfl) (by rw [← fC7]; rfl)) rfl (by dsimp only [zS, zN, zH, zT]) ?_
  refine zst (op_alloc (Zr30) (by rfl)) rfl (by dsimp only [zS, zN, zH, zT]) ?_
  refine zst (op_assign_tmp (by rfl)) rfl (by dsimp only [zS, zN, zH, zT]) ?_
  refine zst (op_storeF (b' := f1 30 x) x Sz30 (by rfl) push_at (by rfl) (Nat.le_of_ble_eq_true rfl) (by rfl) (by unfold f1; rw [← fC7]; rfl)) rfl (by dsimp only [zS, zN, zH, zT]) ?_
  refine al_end rfl ?_
  refine then_normal ?_
  refine aw_seq ?_
  refine aw_seq ?_
  refine aw_region ?_
  refine zst (op_move_tmp (by rfl)) rfl (by dsimp only [zS, zN, zH, zT]) ?_
  refine zst (op_move_tmp (by rfl)) rfl (by dsimp only [zS, zN, zH, zT]) ?_
  refine zst (op_lenL Try.underlying22 (by first | exact LL.d _ _ | exact LL.own _ _ _ | exact LL.nil _ | assumption)) rfl (by dsimp only [zS, zN, zH, zT]) ?_
  refine zst (op_geI (by rfl) (by rfl)) rfl (by dsimp only [zS, zN, zH, zT]) ?_
  refine al_end rfl ?_
  refine then_normal ?_
  refine aw_cond rfl (fun hc2 => ?_) (fun hc2 => ?_)
  ·
   (try simp only [y1, y2, y3, y4, y5, y6, y7, y8, y9, y0, List.length_map] at hc2)
   (try simp only [List.length_map] at hc2)
   have hge : zs.length ≤ k := by omega
   refine aw_seq ?_
   refine aw_region ?_
   refine zst (op_assign_const (by rfl)) rfl (by dsimp only [zS, zN, zH, zT]) ?_
   refine al_end rfl ?_
   refine then_normal ?_
   refine aw_ret ?_
   refine then_ret (inBlock_ret (then_ret (again_ret (inBlock_ret (then_ret ?_)))))
   refine retPost1 rfl rfl ?_
   exact ⟨by rw [he, cmpF_gt hx1 hge]; rfl, (hx.push _ _).setB (nb_le hx)⟩
  ·
   (try simp only [y1, y2, y3, y4, y5, y6, y7, y8, y9, y0, List.length_map] at hc2)
   (try simp only [List.length_map] at hc2)
   have hlt2 : k < zs.length := by omega
   obtain ⟨z, hz1⟩ : ∃ x, zs[k]? = some x := ⟨_, List.getElem?_eq_getElem hlt2⟩
   refine aw_skip ?_
   refine then_normal ?_
   refine aw_seq ?_
   refine aw_region ?_
   refine zst (op_move_tmp (by rfl)) rfl (by dsimp only [zS, zN, zH, zT]) ?_
   refine zst (op_move_tmp (by rfl)) rfl (by dsimp only [zS, zN, zH, zT]) ?_
   refine zst (op_indexAddr (z := fD z) (cs := [S z.name, I z.val.kind, TF z.val.yes, .v (.int .i64 z.val.num), S z.val.text, .lst 6 (z.val.list.map vD), .lst 7 (z.val.fields.map fD)]) Try.underlying22 Sz30 (LL.d _ _) (by rfl) (by omega) (by rw [List.getElem?_map, show ((k : Nat) : Int).toNat = k from rfl, hz1]; rfl) (fD_cells7 z)) rfl (by dsimp only [zS, zN, zH, zT]) ?_
   refine zst (op_load_elts (ds := fC z) Try.underlying30 (by rfl) Sz30 (by rfl) (Nat.le_of_ble_eq_true rfl) (by rw [← fC7]; rfl)) rfl (by dsimp only [zS, zN, zH, zT]) ?_
   refine zst (op_alloc (Zr30) (by rfl)) rfl (by dsimp only [zS, zN, zH, zT]) ?_
   refine zst (op_storeF (b' := f1 30 z) z Sz30 (by rfl) push_at (by rfl) (Nat.le_of_ble_eq_true rfl) (by rfl) (by unfold f1; rw [← fC7]; rfl)) rfl (by dsimp only [zS, zN, zH, zT]) ?_
   refine al_end rfl ?_
   refine then_normal ?_
   refine aw_seq ?_
   refine aw_region ?_
   refine zst (op_move_tmp (by rfl)) rfl (by dsimp only [zS, zN, zH, zT]) ?_
   refine zst (op_loadF 30 x Try.underlying30 (by rfl) Sz30 (by rfl) (by rw [setB_ne (by simp only [setB_nb, push_nb]; omega)]; exact push_ne (setB_at push_at))) rfl (by dsimp only [zS, zN, zH, zT]) ?_
   refine zst (op_loadF 30 z Try.underlying30 (by rfl) Sz30 (by rfl) (setB_at push_at)) rfl (by dsimp only [zS, zN, zH, zT]) ?_
   refine zst (op_callV (by rfl) Try.func110 (by rfl) (by rfl) (.tmp (by rfl) (.tmp (by rfl) .nil)) (ihA x (List.mem_of_getElem? hx1) z (List.mem_of_getElem? hz1) _)) rfl (by dsimp only [zS, zN, zH, zT]) ?_
   refine zst (op_assign_tmp (by rfl)) rfl (by dsimp only [zS, zN, zH, zT]) ?_
   refine al_end rfl ?_
   refine then_normal ?_
   refine aw_seq ?_
   refine aw_region ?_
   refine zst (op_move_tmp (by rfl)) rfl (by dsimp only [zS, zN, zH, zT]) ?_
   refine zst (op_neI (by rfl) (by rfl)) rfl (by dsimp only [zS, zN, zH, zT]) ?_
   refine al_end rfl ?_
   refine then_normal ?_
   refine aw_cond rfl (fun hc3 => ?_) (fun hc3 => ?_)
   ·
    (try simp only [y1, y2, y3, y4, y5, y6, y7, y8, y9, y0, List.length_map] at hc3)
    have hc0 : ¬ cmpF1 x z = 0 := hc3
    refine aw_seq ?_
    refine aw_region ?_
    refine zst (op_move_tmp (by rfl)) rfl (by dsimp only [zS, zN, zH, zT]) ?_
    refine zst (op_assign_tmp (by rfl)) rfl (by dsimp only [zS, zN, zH, zT]) ?_
    refine al_end rfl ?_
    refine then_normal ?_
    refine aw_ret ?_
    refine inBlock_ret (then_ret (again_ret (inBlock_ret (then_ret ?_))))
    refine retPost1 rfl rfl ?_
    exact ⟨by rw [he, cmpF_at hx1 hz1 hc0], (((hx.push _ _).setB (nb_le hx)).push _ _).setB (Nat.le_trans (nb_le hx) (by (simp only [setB_nb, push_nb]; omega)))⟩
   ·
    (try simp only [y1, y2, y3, y4, y5, y6, y7, y8, y9, y0, List.length_map] at hc3)
    have hc0 : cmpF1 x z = 0 := by simpa using hc3
    refine aw_skip ?_
    refine inBlock_normal (then_normal ?_)
    refine aw_region ?_
    refine zst (by first | exact op_add (by rfl) (by rfl) (wrap_i64 ⟨by omega, by omega⟩) | exact op_add (by rfl) (by rfl) (by rfl)) rfl (by dsimp only [zS, zN, zH, zT]) ?_
    refine zst (op_move_tmp (by rfl)) rfl (by dsimp only [zS, zN, zH, zT]) ?_
    refine al_end rfl ?_
    apply again_to (xs.length - (k + 1)) [true, true, true, false, false, false, false, false, false, false, false, true, true, true, false, false, false, false, false, false, false, false, false, false, false, false, false, false, false, false, false, false, false, false, false, false, false, false, false]
    · (try dsimp only [maskT]); try exact rfl
    · rfl
    · omega
    exact ⟨k + 1, rfl, by omega, by omega, rfl, he.trans (cmpF_step hx1 hz1 hc0), (((hx.push _ _).setB (nb_le hx)).push _ _).setB (Nat.le_trans (nb_le hx) (by (simp only [setB_nb, push_nb]; omega)))⟩
 ·
  (try simp only [y1, y2, y3, y4, y5, y6, y7, y8, y9, y0, List.length_map] at hc1)
  (try simp only [List.length_map] at hc1)
  have hke : k = xs.length := by omega
  refine aw_exit ?_
  refine then_exit (again_exit (inBlock_here (then_normal ?_)))
  refine aw_seq ?_
  refine aw_seq ?_
  refine aw_region ?_
  refine zst (op_move_tmp (by rfl)) rfl (by dsimp only [zS, zN, zH, zT]) ?_
  refine zst (op_lenL Try.underlying22 (by first | exact LL.d _ _ | exact LL.own _ _ _ | exact LL.nil _ | assumption)) rfl (by dsimp only [zS, zN, zH, zT]) ?_
  refine zst (op_move_tmp (by rfl)) rfl (by dsimp only [zS, zN, zH, zT]) ?_
  refine zst (op_lenL Try.underlying22 (by first | exact LL.d _ _ | exact LL.own _ _ _ | exact LL.nil _ | assumption)) rfl (by dsimp only [zS, zN, zH, zT]) ?_
  refine zst (op_ltI (by rfl) (by rfl)) rfl (by dsimp only [zS, zN, zH, zT]) ?_
  refine al_end rfl ?_
  refine then_normal ?_
  refine aw_cond rfl (fun hc4 => ?_) (fun hc4 => ?_)
  ·
   (try simp only [y1, y2, y3, y4, y5, y6, y7, y8, y9, y0, List.length_map] at hc4)
   (try simp only [List.length_map] at hc4)
   obtain ⟨z, hz1⟩ : ∃ x, zs[k]? = some x := ⟨_, List.getElem?_eq_getElem (by omega)⟩
   refine aw_seq ?_
   refine aw_region ?_
   refine zst (op_assign_const (by rfl)) rfl (by dsimp only [zS, zN, zH, zT]) ?_
   refine al_end rfl ?_
   refine then_normal ?_
   refine aw_ret ?_
   refine then_ret ?_
   refine retPost1 rfl rfl ?_
   exact ⟨by rw [he, cmpF_lt (by omega) hz1]; rfl, hx⟩
  ·
   (try simp only [y1, y2, y3, y4, y5, y6, y7, y8, y9, y0, List.length_map] at hc4)
   (try simp only [List.length_map] at hc4)
   refine aw_skip ?_
   refine then_normal ?_
   refine aw_seq ?_
   refine aw_region ?_
   refine zst (op_assign_const (by rfl)) rfl (by dsimp only [zS, zN, zH, zT]) ?_
   refine al_end rfl ?_
   refine then_normal ?_
   refine aw_ret ?_
   refine retPost1 rfl rfl ?_
   exact ⟨by rw [he, cmpF_eq (by omega) (by omega)]; rfl, hx⟩
set_option maxRecDepth 100000 in
theorem cmpF1_ok (Hs : HS) (f g : F) (ihx : ∀ Hs : HS, ACalls Try.prog 77 [.d (.agg (vC f.val)), .d (.agg (vC g.val))] Hs (Ret (.d (I (cmpV f.val g.val))) Hs)) : ACalls Try.prog 110 [.d (.agg (fC f)), .d (.agg (fC g))] Hs (Ret (.d (I (cmpF1 f g))) Hs) := by
 refine acalls_of_aw Try.func110 rfl ?_
 refine aw_start (T' := [.d (.agg (fC f)), .d (.agg (fC g)), .un, .un, .un, .un, .un, .un, .un, .un, .un, .un, .un, .un, .un, .un, .un]) rfl ?_
 refine aw_seq ?_
 refine aw_region ?_
 refine zst (op_box_elt (cs := [S f.name, I f.val.kind, TF f.val.yes, .v (.int .i64 f.val.num), S f.val.text, .lst 6 (f.val.list.map vD), .lst 7 (f.val.fields.map fD)]) (by rfl) (fD_cells7 f)) rfl (by dsimp only [zS, zN, zH, zT]) ?_
 refine zst (op_box_elt (cs := [S g.name, I g.val.kind, TF g.val.yes, .v (.int .i64 g.val.num), S g.val.text, .lst 6 (g.val.list.map vD), .lst 7 (g.val.fields.map fD)]) (by rfl) (fD_cells7 g)) rfl (by dsimp only [zS, zN, zH, zT]) ?_
 refine zst (op_assign_const (by rfl)) rfl (by dsimp only [zS, zN, zH, zT]) ?_
 refine al_end rfl ?_
 refine then_normal ?_
 refine aw_seq ?_
 refine aw_draw [0, 1, 0, 1, 0, 0, 1, 0, 1, 0, 0, 0, 0] mixed (by kernel_rfl) ?_
 refine zd0 (fun H => (by first | exact op_fieldAddr_ptr Try.underlying30 rfl Sz9 (by rfl) (by rfl) | exact op_fieldAddr_elt Try.underlying30 rfl Sz9 (by rfl) (by rfl) (by rfl))) rfl (by dsimp only [zS, zN, zH, zT]) ?_
 refine zd1 (by first | exact op_load_elt Try.underlying9 (by rfl) (by rfl) (by rfl) | exact op_load_ptr Try.underlying9 (by rfl) (by rfl) (by rfl) (by rfl)) rfl (by dsimp only [zS, zN, zH, zT]) ?_
 refine zd0 (fun H => (by first | exact op_fieldAddr_ptr Try.underlying30 rfl Sz9 (by rfl) (by rfl) | exact op_fieldAddr_elt Try.underlying30 rfl Sz9 (by rfl) (by rfl) (by rfl))) rfl (by dsimp only [zS, zN, zH, zT]) ?_
 refine zd1 (by first | exact op_load_elt Try.underlying9 (by rfl) (by rfl) (by rfl) | exact op_load_ptr Try.underlying9 (by rfl) (by rfl) (by rfl) (by rfl)) rfl (by dsimp only [zS, zN, zH, zT]) ?_
 refine zd0 (fun H => (op_callF Try.func43 (by rfl) (by rfl) (.tmp (by rfl) (.tmp (by rfl) .nil)) (strCmp_ok _ f.name g.name))) rfl (by dsimp only [zS, zN, zH, zT]) ?_
 refine zd0 (fun H => (by first | exact op_fieldAddr_ptr Try.underlying30 rfl Sz26 (by rfl) (by rfl) | exact op_fieldAddr_elt Try.underlying30 rfl Sz26 (by rfl) (by rfl) (by rfl))) rfl (by dsimp only [zS, zN, zH, zT]) ?_
 refine zd1 (op_load_elts (ds := vC f.val) Try.underlying26 (by rfl) Sz26 (by rfl) (Nat.le_of_ble_eq_true rfl) (by rw [vC_eq]; rfl)) rfl (by dsimp only [zS, zN, zH, zT]) ?_
 refine zd0 (fun H => (by first | exact op_fieldAddr_ptr Try.underlying30 rfl Sz26 (by rfl) (by rfl) | exact op_fieldAddr_elt Try.underlying30 rfl Sz26 (by rfl) (by rfl) (by rfl))) rfl (by dsimp only [zS, zN, zH, zT]) ?_
 refine zd1 (op_load_elts (ds := vC g.val) Try.underlying26 (by rfl) Sz26 (by rfl) (Nat.le_of_ble_eq_true rfl) (by rw [vC_eq]; rfl)) rfl (by dsimp only [zS, zN, zH, zT]) ?_
 refine zd0 (fun H => (op_callF Try.func77 (by rfl) (by rfl) (.tmp (by rfl) (.tmp (by rfl) .nil)) (ihx _))) rfl (by dsimp only [zS, zN, zH, zT]) ?_
 refine zd0 (fun H => (op_lit Try.underlying229 ZS3 (.cons (by rfl) (.cons (by rfl) (.nil _))) (by rfl) (by simp [BY, S, I, TF, DV.cells]) (by simp [flat, BY, S, I, TF, DV.cells, DV.one]) (by decide))) rfl (by dsimp only [zS, zN, zH, zT]) ?_
 refine zd0 (fun H => (op_callF Try.func111 (by rfl) (by rfl) (.tmp (by rfl) .nil) (or_ok _ _ _))) rfl (by dsimp only [zS, zN, zH, zT]) ?_
 refine zd0 (fun H => (op_assign_tmp (by rfl))) rfl (by dsimp only [zS, zN, zH, zT]) ?_
 refine drun_end rfl ?_
 refine then_normal ?_
 refine aw_ret ?_
 refine retPost1 rfl rfl ?_
 exact ⟨rfl, rfl⟩
set_option maxRecDepth 100000 in
theorem cmp_step (Hs : HS) (k : Int) (y : Bool) (i : Int) (tx : List UInt8) (ls : List V) (fs : List F) (o : V) (hls : ls.length ≤ 1000000) (hfs : fs.length ≤ 1000000) (ho : SmallV o) (ihL : ∀ x ∈ ls, ∀ z ∈ o.list, ∀ Hs : HS, ACalls Try.prog 77 [.d (.agg (vC x)), .d (.agg (vC z))] Hs (Ret (.d (I (cmpV x z))) Hs)) (ihF : ∀ x ∈ fs, ∀ z ∈ o.fields, ∀ Hs : HS, ACalls Try.prog 77 [.d (.agg (vC x.val)), .d (.agg (vC z.val))] Hs (Ret (.d (I (cmpV x.val z.val))) Hs)) : ACalls Try.prog 77 [.d (.agg (v6D k y i tx ls fs)), .d (.agg (vC o))] Hs (Ret (.d (I (cmpV (.mk k y i tx ls fs) o))) Hs) := by
 rw [cmpV_mk]
 refine acalls_of_aw Try.func77 rfl ?_
 refine aw_start (T' := [.d (.agg (v6D k y i tx ls fs)), .d (.agg (vC o)), .un, .un, .un, .un, .un, .un, .un, .un, .un, .un, .un, .un, .un, .un, .un, .un, .un, .un, .un, .un, .un, .un, .un, .un, .un, .un, .un, .un, .un, .un, .un, .un, .un, .un, .un, .un, .un, .un, .un, .un, .un, .un, .un, .un, .un, .un, .un, .un, .un, .un, .un]) rfl ?_
 refine aw_seq ?_
 refine aw_region ?_
 refine zst (op_box_elt (cs := v6D k y i tx ls fs) (by rfl) (by rfl)) rfl (by dsimp only [zS, zN, zH, zT]) ?_
 refine zst (op_box_elt (cs := [I o.kind, TF o.yes, .v (.int .i64 o.num), S o.text, .lst 6 (o.list.map vD), .lst 7 (o.fields.map fD)]) (by rfl) (vD_cells o)) rfl (by dsimp only [zS, zN, zH, zT]) ?_
 refine zst (op_assign_const (by rfl)) rfl (by dsimp only [zS, zN, zH, zT]) ?_
 refine al_end rfl ?_
 refine then_normal ?_
 refine aw_seq ?_
 refine aw_seq ?_
 refine aw_region ?_
 refine zst (by first | exact op_fieldAddr_ptr Try.underlying26 rfl Sz23 (by rfl) (by rfl) | exact op_fieldAddr_elt Try.underlying26 rfl Sz23 (by rfl) (by rfl) (by rfl)) rfl (by dsimp only [zS, zN, zH, zT]) ?_
 refine zst (by first | exact op_load_elt Try.underlying23 (by rfl) (by rfl) (by rfl) | exact op_load_ptr Try.underlying23 (by rfl) (by rfl) (by rfl) (by rfl)) rfl (by dsimp only [zS, zN, zH, zT]) ?_
 refine zst (by first | exact op_fieldAddr_ptr Try.underlying26 rfl Sz23 (by rfl) (by rfl) | exact op_fieldAddr_elt Try.underlying26 rfl Sz23 (by rfl) (by rfl) (by rfl)) rfl (by dsimp only [zS, zN, zH, zT]) ?_
 refine zst (by first | exact op_load_elt Try.underlying23 (by rfl) (by rfl) (by rfl) | exact op_load_ptr Try.underlying23 (by rfl) (by rfl) (by rfl) (by rfl)) rfl (by dsimp only [zS, zN, zH, zT]) ?_
 refine zst (op_callF Try.func104 (by rfl) (by rfl) (.tmp (by rfl) (.tmp (by rfl) .nil)) (cmpK_ok _ k o.kind)) rfl (by dsimp only [zS, zN, zH, zT]) ?_
 refine zst (op_assign_tmp (by rfl)) rfl (by dsimp only [zS, zN, zH, zT]) ?_
 refine al_end rfl ?_
 refine then_normal ?_
 refine aw_seq ?_
 refine aw_region ?_
 refine zst (op_move_tmp (by rfl)) rfl (by dsimp only [zS, zN, zH, zT]) ?_
 refine zst (op_neI (by rfl) (by rfl)) rfl (by dsimp only [zS, zN, zH, zT]) ?_
 refine al_end rfl ?_
 refine then_normal ?_
 refine aw_cond rfl (fun hc1 => ?_) (fun hc1 => ?_)
 ·
  (try simp only [y1, y2, y3, y4, y5, y6, y7, y8, y9, y0, List.length_map] at hc1)
  have hc : ¬ cmpI k o.kind = 0 := hc1
  refine aw_seq ?_
  refine aw_region ?_
  refine zst (op_move_tmp (by rfl)) rfl (by dsimp only [zS, zN, zH, zT]) ?_
  refine zst (op_assign_tmp (by rfl)) rfl (by dsimp only [zS, zN, zH, zT]) ?_
  refine al_end rfl ?_
  refine then_normal ?_
  refine aw_ret ?_
  refine then_ret ?_
  refine retPost1 rfl rfl ?_
  exact ⟨by rw [if_pos hc], rfl⟩
 ·
  (try simp only [y1, y2, y3, y4, y5, y6, y7, y8, y9, y0, List.length_map] at hc1)
  have hc : cmpI k o.kind = 0 := by simpa using hc1
  refine aw_skip ?_
  refine then_normal ?_
  refine aw_seq ?_
  refine aw_seq ?_
  refine aw_region ?_
  refine zst (by first | exact op_fieldAddr_ptr Try.underlying26 rfl Sz23 (by rfl) (by rfl) | exact op_fieldAddr_elt Try.underlying26 rfl Sz23 (by rfl) (by rfl) (by rfl)) rfl (by dsimp only [zS, zN, zH, zT]) ?_
  refine zst (by first | exact op_load_elt Try.underlying23 (by rfl) (by rfl) (by rfl) | exact op_load_ptr Try.underlying23 (by rfl) (by rfl) (by rfl) (by rfl)) rfl (by dsimp only [zS, zN, zH, zT]) ?_
  refine al_end rfl ?_
  refine then_normal ?_
  refine aw_block ?_
  refine aw_seq ?_
  refine aw_region ?_
  refine zst (op_eqI (by rfl) (by rfl)) rfl (by dsimp only [zS, zN, zH, zT]) ?_
  refine zst (op_assign_tmp (by rfl)) rfl (by dsimp only [zS, zN, zH, zT]) ?_
  refine al_end rfl ?_
  refine then_normal ?_
  refine aw_cond rfl (fun hc2 => ?_) (fun hc2 => ?_)
  ·
   (try simp only [y1, y2, y3, y4, y5, y6, y7, y8, y9, y0, List.length_map] at hc2)
   have hk1 : k = 1 := hc2
   refine aw_seq ?_
   refine aw_draw [0, 1, 0, 0, 1, 0, 0, 0] mixed (by kernel_rfl) ?_
   refine zd0 (fun H => (by first | exact op_fieldAddr_ptr Try.underlying26 rfl Sz4 (by rfl) (by rfl) | exact op_fieldAddr_elt Try.underlying26 rfl Sz4 (by rfl) (by rfl) (by rfl))) rfl (by dsimp only [zS, zN, zH, zT]) ?_
   refine zd1 (by first | exact op_load_elt Try.underlying4 (by rfl) (by rfl) (by rfl) | exact op_load_ptr Try.underlying4 (by rfl) (by rfl) (by rfl) (by rfl)) rfl (by dsimp only [zS, zN, zH, zT]) ?_
   refine zd0 (fun H => (op_callF Try.func106 (by rfl) (by rfl) (.tmp (by rfl) .nil) (yes_ok _ y))) rfl (by dsimp only [zS, zN, zH, zT]) ?_
   refine zd0 (fun H => (by first | exact op_fieldAddr_ptr Try.underlying26 rfl Sz4 (by rfl) (by rfl) | exact op_fieldAddr_elt Try.underlying26 rfl Sz4 (by rfl) (by rfl) (by rfl))) rfl (by dsimp only [zS, zN, zH, zT]) ?_
   refine zd1 (by first | exact op_load_elt Try.underlying4 (by rfl) (by rfl) (by rfl) | exact op_load_ptr Try.underlying4 (by rfl) (by rfl) (by rfl) (by rfl)) rfl (by dsimp only [zS, zN, zH, zT]) ?_
   refine zd0 (fun H => (op_callF Try.func106 (by rfl) (by rfl) (.tmp (by rfl) .nil) (yes_ok _ o.yes))) rfl (by dsimp only [zS, zN, zH, zT]) ?_
   refine zd0 (fun H => (op_callF Try.func105 (by rfl) (by rfl) (.tmp (by rfl) (.tmp (by rfl) .nil)) (cmpN_ok _ _ _))) rfl (by dsimp only [zS, zN, zH, zT]) ?_
   refine zd0 (fun H => (op_assign_tmp (by rfl))) rfl (by dsimp only [zS, zN, zH, zT]) ?_
   refine drun_end rfl ?_
   refine then_normal ?_
   refine aw_ret ?_
   refine inBlock_ret (then_ret ?_)
   refine retPost1 rfl rfl ?_
   exact ⟨by rw [if_neg (by simp [hc]), if_pos hk1], rfl⟩
  ·
   (try simp only [y1, y2, y3, y4, y5, y6, y7, y8, y9, y0, List.length_map] at hc2)
   have hk1 : ¬ k = 1 := hc2
   refine aw_seq ?_
   refine aw_region ?_
   refine zst (op_eqI (by rfl) (by rfl)) rfl (by dsimp only [zS, zN, zH, zT]) ?_
   refine zst (op_assign_tmp (by rfl)) rfl (by dsimp only [zS, zN, zH, zT]) ?_
   refine al_end rfl ?_
   refine then_normal ?_
   refine aw_cond rfl (fun hc3 => ?_) (fun hc3 => ?_)
   ·
    (try simp only [y1, y2, y3, y4, y5, y6, y7, y8, y9, y0, List.length_map] at hc3)
    have hk2 : k = 2 := hc3
    refine aw_seq ?_
    refine aw_region ?_
    refine zst (by first | exact op_fieldAddr_ptr Try.underlying26 rfl Sz2 (by rfl) (by rfl) | exact op_fieldAddr_elt Try.underlying26 rfl Sz2 (by rfl) (by rfl) (by rfl)) rfl (by dsimp only [zS, zN, zH, zT]) ?_
    refine zst (by first | exact op_load_elt Try.underlying2 (by rfl) (by rfl) (by rfl) | exact op_load_ptr Try.underlying2 (by rfl) (by rfl) (by rfl) (by rfl)) rfl (by dsimp only [zS, zN, zH, zT]) ?_
    refine zst (by first | exact op_fieldAddr_ptr Try.underlying26 rfl Sz2 (by rfl) (by rfl) | exact op_fieldAddr_elt Try.underlying26 rfl Sz2 (by rfl) (by rfl) (by rfl)) rfl (by dsimp only [zS, zN, zH, zT]) ?_
    refine zst (by first | exact op_load_elt Try.underlying2 (by rfl) (by rfl) (by rfl) | exact op_load_ptr Try.underlying2 (by rfl) (by rfl) (by rfl) (by rfl)) rfl (by dsimp only [zS, zN, zH, zT]) ?_
    refine zst (op_callF Try.func107 (by rfl) (by rfl) (.tmp (by rfl) (.tmp (by rfl) .nil)) (cmp64_ok _ i o.num)) rfl (by dsimp only [zS, zN, zH, zT]) ?_
    refine zst (op_assign_tmp (by rfl)) rfl (by dsimp only [zS, zN, zH, zT]) ?_
    refine al_end rfl ?_
    refine then_normal ?_
    refine aw_ret ?_
    refine inBlock_ret (then_ret ?_)
    refine retPost1 rfl rfl ?_
    exact ⟨by rw [if_neg (by simp [hc]), if_neg hk1, if_pos hk2], rfl⟩
   ·
    (try simp only [y1, y2, y3, y4, y5, y6, y7, y8, y9, y0, List.length_map] at hc3)
    have hk2 : ¬ k = 2 := hc3
    refine aw_seq ?_
    refine aw_region ?_
    refine zst (op_eqI (by rfl) (by rfl)) rfl (by dsimp only [zS, zN, zH, zT]) ?_
    refine zst (op_assign_tmp (by rfl)) rfl (by dsimp only [zS, zN, zH, zT]) ?_
    refine al_end rfl ?_
    refine then_normal ?_
    refine aw_cond rfl (fun hc4 => ?_) (fun hc4 => ?_)
    ·
     (try simp only [y1, y2, y3, y4, y5, y6, y7, y8, y9, y0, List.length_map] at hc4)
     have hk3 : k = 3 := hc4
     refine aw_seq ?_
     refine aw_region ?_
     refine zst (by first | exact op_fieldAddr_ptr Try.underlying26 rfl Sz9 (by rfl) (by rfl) | exact op_fieldAddr_elt Try.underlying26 rfl Sz9 (by rfl) (by rfl) (by rfl)) rfl (by dsimp only [zS, zN, zH, zT]) ?_
     refine zst (by first | exact op_load_elt Try.underlying9 (by rfl) (by rfl) (by rfl) | exact op_load_ptr Try.underlying9 (by rfl) (by rfl) (by rfl) (by rfl)) rfl (by dsimp only [zS, zN, zH, zT]) ?_
     refine zst (by first | exact op_fieldAddr_ptr Try.underlying26 rfl Sz9 (by rfl) (by rfl) | exact op_fieldAddr_elt Try.underlying26 rfl Sz9 (by rfl) (by rfl) (by rfl)) rfl (by dsimp only [zS, zN, zH, zT]) ?_
     refine zst (by first | exact op_load_elt Try.underlying9 (by rfl) (by rfl) (by rfl) | exact op_load_ptr Try.underlying9 (by rfl) (by rfl) (by rfl) (by rfl)) rfl (by dsimp only [zS, zN, zH, zT]) ?_
     refine zst (op_callF Try.func43 (by rfl) (by rfl) (.tmp (by rfl) (.tmp (by rfl) .nil)) (strCmp_ok _ tx o.text)) rfl (by dsimp only [zS, zN, zH, zT]) ?_
     refine zst (op_assign_tmp (by rfl)) rfl (by dsimp only [zS, zN, zH, zT]) ?_
     refine al_end rfl ?_
     refine then_normal ?_
     refine aw_ret ?_
     refine inBlock_ret (then_ret ?_)
     refine retPost1 rfl rfl ?_
     exact ⟨by rw [if_neg (by simp [hc]), if_neg hk1, if_neg hk2, if_pos hk3], rfl⟩
    ·
     (try simp only [y1, y2, y3, y4, y5, y6, y7, y8, y9, y0, List.length_map] at hc4)
     have hk3 : ¬ k = 3 := hc4
     refine aw_seq ?_
     refine aw_region ?_
     refine zst (op_eqI (by rfl) (by rfl)) rfl (by dsimp only [zS, zN, zH, zT]) ?_
     refine zst (op_assign_tmp (by rfl)) rfl (by dsimp only [zS, zN, zH, zT]) ?_
     refine al_end rfl ?_
     refine then_normal ?_
     refine aw_cond rfl (fun hc5 => ?_) (fun hc5 => ?_)
     ·
      (try simp only [y1, y2, y3, y4, y5, y6, y7, y8, y9, y0, List.length_map] at hc5)
      have hk4 : k = 4 := hc5
      refine aw_seq ?_
      refine aw_region ?_
      refine zst (by first | exact op_fieldAddr_ptr Try.underlying26 rfl Sz24 (by rfl) (by rfl) | exact op_fieldAddr_elt Try.underlying26 rfl Sz24 (by rfl) (by rfl) (by rfl)) rfl (by dsimp only [zS, zN, zH, zT]) ?_
      refine zst (by first | exact op_load_elt Try.underlying24 (by rfl) (by rfl) (by rfl) | exact op_load_ptr Try.underlying24 (by rfl) (by rfl) (by rfl) (by rfl)) rfl (by dsimp only [zS, zN, zH, zT]) ?_
      refine zst (by first | exact op_fieldAddr_ptr Try.underlying26 rfl Sz24 (by rfl) (by rfl) | exact op_fieldAddr_elt Try.underlying26 rfl Sz24 (by rfl) (by rfl) (by rfl)) rfl (by dsimp only [zS, zN, zH, zT]) ?_
      refine zst (by first | exact op_load_elt Try.underlying24 (by rfl) (by rfl) (by rfl) | exact op_load_ptr Try.underlying24 (by rfl) (by rfl) (by rfl) (by rfl)) rfl (by dsimp only [zS, zN, zH, zT]) ?_
      refine zst (op_callF Try.func108 (by rfl) (by rfl) (.tmp (by rfl) (.tmp (by rfl) (.func .nil))) (cmpL_ok _ ls o.list hls ho.ll ihL)) rfl (by dsimp only [zS, zN, zH, zT]) ?_
      refine zst (op_assign_tmp (by rfl)) rfl (by dsimp only [zS, zN, zH, zT]) ?_
      refine al_end rfl ?_
      refine then_normal ?_
      refine aw_ret ?_
      refine inBlock_ret (then_ret ?_)
      refine retPost1 rfl rfl ?_
      exact ⟨by rw [if_neg (by simp [hc]), if_neg hk1, if_neg hk2, if_neg hk3, if_pos hk4], rfl⟩
     ·
      (try simp only [y1, y2, y3, y4, y5, y6, y7, y8, y9, y0, List.length_map] at hc5)
      have hk4 : ¬ k = 4 := hc5
      refine aw_seq ?_
      refine aw_region ?_
      refine zst (op_eqI (by rfl) (by rfl)) rfl (by dsimp only [zS, zN, zH, zT]) ?_
      refine zst (op_assign_tmp (by rfl)) rfl (by dsimp only [zS, zN, zH, zT]) ?_
      refine al_end rfl ?_
      refine then_normal ?_
      refine aw_cond rfl (fun hc6 => ?_) (fun hc6 => ?_)
      ·
       (try simp only [y1, y2, y3, y4, y5, y6, y7, y8, y9, y0, List.length_map] at hc6)
       have hk5 : k = 5 := hc6
       refine aw_seq ?_
       refine aw_region ?_
       refine zst (by first | exact op_fieldAddr_ptr Try.underlying26 rfl Sz22 (by rfl) (by rfl) | exact op_fieldAddr_elt Try.underlying26 rfl Sz22 (by rfl) (by rfl) (by rfl)) rfl (by dsimp only [zS, zN, zH, zT]) ?_
       refine zst (by first | exact op_load_elt Try.underlying22 (by rfl) (by rfl) (by rfl) | exact op_load_ptr Try.underlying22 (by rfl) (by rfl) (by rfl) (by rfl)) rfl (by dsimp only [zS, zN, zH, zT]) ?_
       refine zst (by first | exact op_fieldAddr_ptr Try.underlying26 rfl Sz22 (by rfl) (by rfl) | exact op_fieldAddr_elt Try.underlying26 rfl Sz22 (by rfl) (by rfl) (by rfl)) rfl (by dsimp only [zS, zN, zH, zT]) ?_
       refine zst (by first | exact op_load_elt Try.underlying22 (by rfl) (by rfl) (by rfl) | exact op_load_ptr Try.underlying22 (by rfl) (by rfl) (by rfl) (by rfl)) rfl (by dsimp only [zS, zN, zH, zT]) ?_
       refine zst (op_callF Try.func109 (by rfl) (by rfl) (.tmp (by rfl) (.tmp (by rfl) (.func .nil))) (cmpF_ok _ fs o.fields hfs ho.fl (fun x hx z hz Hs => cmpF1_ok Hs x z (ihF x hx z hz)))) rfl (by dsimp only [zS, zN, zH, zT]) ?_
       refine zst (op_assign_tmp (by rfl)) rfl (by dsimp only [zS, zN, zH, zT]) ?_
       refine al_end rfl ?_
       refine then_normal ?_
       refine aw_ret ?_
       refine inBlock_ret (then_ret ?_)
       refine retPost1 rfl rfl ?_
       exact ⟨by rw [if_neg (by simp [hc]), if_neg hk1, if_neg hk2, if_neg hk3, if_neg hk4, if_pos hk5], rfl⟩
      ·
       (try simp only [y1, y2, y3, y4, y5, y6, y7, y8, y9, y0, List.length_map] at hc6)
       have hk5 : ¬ k = 5 := hc6
       refine aw_skip ?_
       refine inBlock_normal (then_normal ?_)
       refine aw_seq ?_
       refine aw_region ?_
       refine zst (op_assign_const (by rfl)) rfl (by dsimp only [zS, zN, zH, zT]) ?_
       refine al_end rfl ?_
       refine then_normal ?_
       refine aw_ret ?_
       refine retPost1 rfl rfl ?_
       exact ⟨by (rw [if_neg (by simp [hc]), if_neg hk1, if_neg hk2, if_neg hk3, if_neg hk4, if_neg hk5]) <;> rfl, rfl⟩
theorem cmp_all : ∀ (m : Nat) (v : V), SizeOf.sizeOf v ≤ m → SmallV v → ∀ (o : V), SmallV o → ∀ Hs : HS, ACalls Try.prog 77 [.d (.agg (vC v)), .d (.agg (vC o))] Hs (Ret (.d (I (cmpV v o))) Hs)
  | 0, v, hm, _, _, _, _ => by cases v; simp at hm
  | m + 1, v, hm, hs, o, ho, Hs => by
    have hL := fun x hx => list_lt (v := v) (x := x) hx
    have hF := fun x hx => field_lt (v := v) (f := x) hx
    obtain ⟨k, y, i, tx, ls, fs, rfl⟩ : ∃ k y n t l fs, v = .mk k y n t l fs := ⟨_, _, _, _, _, _, v.eta⟩
    rw [v6D_eq]
    exact cmp_step Hs k y i tx ls fs o hs.ll hs.fl ho (fun x hx z hz Hs => cmp_all m x (by have := hL x hx; omega) (hs.l x hx) z (ho.l z hz) Hs) (fun x hx z hz Hs => cmp_all m x.val (by have := hF x hx; omega) (hs.f x hx) z.val (ho.f z hz) Hs)
end Go.Proofs.Ytjbpfnoibeogbaa
namespace Go.AV.Val
open Go.AV.Ord Go.AV.Oct
def fewTop (v : V) : Bool := decide (v.list.length ≤ 8) && decide (v.fields.length ≤ 8) && decide (v.text.length ≤ 200)
def fewV : Nat → V → Bool
  | 0, _ => false
  | n + 1, v => fewTop v && v.list.all (fewV n) && v.fields.all fun f => decide (f.name.length ≤ 40) && fewV n f.val
theorem few_parts {n : Nat} {v : V} (h : fewV (n + 1) v = true) : v.list.length ≤ 8 ∧ v.fields.length ≤ 8 ∧ v.text.length ≤ 200 ∧ (∀ x ∈ v.list, fewV n x = true) ∧ (∀ f ∈ v.fields, f.name.length ≤ 40 ∧ fewV n f.val = true) := by
  simp only [fewV, fewTop, Bool.and_eq_true, decide_eq_true_eq, List.all_eq_true] at h
  exact ⟨h.1.1.1.1, h.1.1.1.2, h.1.1.2, h.1.2, h.2⟩
theorem few_small : ∀ (n : Nat) (v : V), fewV n v = true → SmallV v
  | 0, _, h => by simp [fewV] at h
  | n + 1, v, h => by
    obtain ⟨h1, h2, _, h4, h5⟩ := few_parts h
    rw [v.eta]
    exact .mk _ _ _ _ _ _ (by omega) (by omega) (fun x hx => few_small n x (h4 x hx)) (fun f hf => few_small n f.val (h5 f hf).2)
theorem flat_bound {α : Type} (g : α → List UInt8) (b : Nat) : ∀ l : List α, (∀ x ∈ l, (g x).length ≤ b) → (l.flatMap g).length ≤ l.length * b
  | [], _ => by simp
  | x :: l, h => by
    have h1 := flat_bound g b l fun y hy => h y (by simp [hy])
    have h2 := h x (by simp)
    simp only [List.flatMap_cons, List.length_append, List.length_cons, Nat.add_mul, Nat.one_mul]
    omega
theorem numB_small {x : Nat} (h : x ≤ 4294967295) : (numB x).length ≤ 9 := by rw [numB_len]; have := szN_4 h; omega
def fewB : Nat → Nat
  | 0 => 0
  | n + 1 => 8 * fewB n + 700
theorem few_len : ∀ (n : Nat) (v : V), fewV n v = true → WfV v → (encV v).length ≤ fewB n
  | 0, _, h, _ => by simp [fewV] at h
  | n + 1, v, h, hw => by
    obtain ⟨h1, h2, h3, h4, h5⟩ := few_parts h
    have hl := flat_bound encV (fewB n) v.list fun x hx => few_len n x (h4 x hx) (hw.l x hx)
    have hf := flat_bound fieldB (fewB n + 60) v.fields fun f hf => by
      have hh := few_len n f.val (h5 f hf).2 (hw.f f hf)
      have hn := numB_small (x := f.name.length) (by have := (h5 f hf).1; omega)
      have := (h5 f hf).1
      simp only [fieldB, textB, List.length_append]
      omega
    have m1 : v.list.length * fewB n ≤ 8 * fewB n := Nat.mul_le_mul_right _ h1
    have m2 : v.fields.length * (fewB n + 60) ≤ 8 * (fewB n + 60) := Nat.mul_le_mul_right _ h2
    have n1 := numB_small (x := v.list.length) (by omega)
    have n2 := numB_small (x := v.fields.length) (by omega)
    have n3 := numB_small (x := v.text.length) (by omega)
    have hz : zigN v.num < 18446744073709551616 := zig_lt (by have := hw.n; unfold i64 at this; omega) (by have := hw.n; unfold i64 at this; omega)
    have n4 := numB_small (x := zigN v.num / 4294967296) (by omega)
    have n5 := numB_small (x := zigN v.num % 4294967296) (by omega)
    rw [encV_eq]
    simp only [fewB, List.length_cons]
    split
    · simp [flagB]
    · split
      · simp only [intB, List.length_append]; omega
      · split
        · simp only [textB, List.length_append]; omega
        · split
          · simp only [List.length_append]; omega
          · split
            · simp only [List.length_append]; omega
            · simp
def valsV (k : Int) (y : Bool) (i : Int) (tx : List UInt8) (ls : List V) (fs : List F) : Bool := (k == 1 || y == false) && (k == 2 || i == 0) && (k == 3 || tx == []) && (k == 4 || ls.isEmpty) && (k == 5 || fs.isEmpty)
theorem only_vals (k : Int) (y : Bool) (i : Int) (tx : List UInt8) (ls : List V) (fs : List F) : onlyV (.mk k y i tx ls fs) = (decide (0 ≤ k) && decide (k ≤ 5) && valsV k y i tx ls fs) := by
  simp only [onlyV, valsV, V.kind, V.yes, V.num, V.text, V.list, V.fields, Bool.and_assoc]
  rfl
theorem right_novals {D : Nat} {k : Int} {y : Bool} {i : Int} {tx : List UInt8} {ls : List V} {fs : List F} (h : valsV k y i tx ls fs = false) : rightV D (.mk k y i tx ls fs) = false := by
  cases D with
  | zero => rfl
  | succ d =>
    have h1 : onlyV (.mk k y i tx ls fs) = false := by rw [only_vals, h]; simp
    simp only [rightV, h1, Bool.false_and]
theorem few_bad1 {n : Nat} {k : Int} {y : Bool} {i : Int} {tx : List UInt8} {ls : List V} {fs : List F} (h : n = 0 ∨ 8 < ls.length ∨ 8 < fs.length ∨ 200 < tx.length) : fewV n (.mk k y i tx ls fs) = false := by
  cases n with
  | zero => rfl
  | succ n =>
    have : fewTop (.mk k y i tx ls fs) = false := by
      show (decide (ls.length ≤ 8) && decide (fs.length ≤ 8) && decide (tx.length ≤ 200)) = false
      rw [Bool.eq_false_iff]
      intro h1
      simp only [Bool.and_eq_true, decide_eq_true_eq] at h1
      omega
    simp [fewV, this]
end Go.AV.Val
namespace Go.AV.Val
open Go.AV.Ord Go.AV.Oct
theorem small_nest : ∀ n, SmallV (nestV n)
  | 0 => small_int 5
  | n + 1 => .mk _ _ _ _ _ _ (by simp) (by simp) (fun x h => by rcases List.mem_singleton.1 h with rfl; exact small_nest n) (fun _ h => by cases h)
end Go.AV.Val
namespace Go.AV.Val
open Go.AV.Ord Go.AV.Oct
def cmpNs (a b : List Int) : Int := cmpL (a.map ofInt) (b.map ofInt)
theorem cmpNs_sgn : ∀ (a b : List Int), cmpNs a b = -1 ∨ cmpNs a b = 0 ∨ cmpNs a b = 1
  | [], [] => by simp [cmpNs, cmpL_nn]
  | [], _ :: _ => by simp [cmpNs, cmpL_nc]
  | _ :: _, [] => by simp [cmpNs, cmpL_cn]
  | x :: a, y :: b => by
    have ih := cmpNs_sgn a b
    simp only [cmpNs, List.map_cons] at ih ⊢
    rw [cmpL_cons, cmp_int]
    unfold cmpI
    by_cases h1 : x < y
    · simp [h1]
    · by_cases h2 : y < x
      · simp [h1, h2]
      · simpa [h1, h2] using ih
end Go.AV.Val
namespace Go.AV.Val
end Go.AV.Val
namespace Go.AV.Val
open Go.AV.Ord Go.AV.Oct
def putF : List F → F → List F
  | [], f => [f]
  | g :: l, f => if Op.bytesLess g.name f.name then g :: putF l f else if g.name == f.name then f :: l else f :: g :: l
def ofF (fs : List F) : List F := fs.foldl putF []
def ofMapV (fs : List F) : V := .mk 5 false 0 [] [] (ofF fs)
def posF : List F → List UInt8 → Nat
  | [], _ => 0
  | g :: l, n => if Op.bytesLess g.name n then posF l n + 1 else 0
def hasF (l : List F) (n : List UInt8) : Bool := match l[posF l n]? with
  | some g => g.name == n
  | none => false
theorem posF_le : ∀ (l : List F) (n : List UInt8), posF l n ≤ l.length
  | [], _ => Nat.le_refl _
  | g :: l, n => by
    have := posF_le l n
    simp only [posF]
    split
    · simp; omega
    · simp
theorem putF_has : ∀ (l : List F) (f : F), hasF l f.name = true → putF l f = l.set (posF l f.name) f
  | [], f, h => by simp [hasF, posF] at h
  | g :: l, f, h => by
    have ih := putF_has l f
    simp only [hasF, posF, putF] at h ih ⊢
    by_cases h1 : Op.bytesLess g.name f.name = true
    · rw [if_pos h1] at h ⊢
      rw [if_pos h1, List.getElem?_cons_succ] at *
      rw [ih h]; rfl
    · rw [if_neg h1] at h ⊢
      rw [if_neg h1] at *
      simp only [List.getElem?_cons_zero] at h
      rw [if_pos h]; rfl
theorem putF_new : ∀ (l : List F) (f : F), hasF l f.name = false → putF l f = l.take (posF l f.name) ++ f :: l.drop (posF l f.name)
  | [], f, _ => rfl
  | g :: l, f, h => by
    have ih := putF_new l f
    simp only [hasF, posF, putF] at h ih ⊢
    by_cases h1 : Op.bytesLess g.name f.name = true
    · rw [if_pos h1] at h ⊢
      rw [if_pos h1, List.getElem?_cons_succ] at *
      rw [ih h]; rfl
    · rw [if_neg h1] at h ⊢
      rw [if_neg h1] at *
      simp only [List.getElem?_cons_zero] at h
      rw [if_neg (by simp [h])]; rfl
theorem rises_tail {g : F} {l : List F} (h : rises (g :: l) = true) : rises l = true := by
  cases l with
  | nil => rfl
  | cons a l => simp only [rises, Bool.and_eq_true] at h; exact h.2
theorem rises_all : ∀ {g : F} {l : List F}, rises (g :: l) = true → ∀ x ∈ l, Op.bytesLess g.name x.name = true
  | g, a :: l, h, x, hx => by
    have h1 : Op.bytesLess g.name a.name = true := by simp only [rises, Bool.and_eq_true] at h; exact h.1
    rcases List.mem_cons.1 hx with rfl | hx
    · exact h1
    · exact less_trans h1 (rises_all (rises_tail h) x hx)
theorem posF_c1 {a : F} {l : List F} {n : List UInt8} (h : Op.bytesLess a.name n = true) : posF (a :: l) n = posF l n + 1 := by simp [posF, h]
theorem posF_c0 {a : F} {l : List F} {n : List UInt8} (h : ¬ Op.bytesLess a.name n = true) : posF (a :: l) n = 0 := by simp [posF, h]
theorem posF_lt : ∀ {l : List F} {n : List UInt8} {k : Nat} {g : F}, rises l = true → l[k]? = some g → (Op.bytesLess g.name n = true ↔ k < posF l n)
  | a :: l, n, 0, g, _, hk => by
    simp only [List.getElem?_cons_zero, Option.some.injEq] at hk
    subst hk
    by_cases h1 : Op.bytesLess a.name n = true
    · rw [posF_c1 h1]; simp [h1]
    · rw [posF_c0 h1]; simp [h1]
  | a :: l, n, k + 1, g, h, hk => by
    rw [List.getElem?_cons_succ] at hk
    by_cases h1 : Op.bytesLess a.name n = true
    · rw [posF_c1 h1, posF_lt (rises_tail h) hk]; omega
    · rw [posF_c0 h1]
      have h2 := rises_all h g (List.mem_of_getElem? hk)
      exact ⟨fun h3 => absurd (less_trans h2 h3) h1, fun h3 => by omega⟩
theorem cb_byL : ∀ a b : List UInt8, Lib.compareBytes a b = byL a b
  | [], [] => by simp [Lib.compareBytes, byL_self]
  | [], b :: bs => by simp [Lib.compareBytes, byL, Op.bytesLess]
  | a :: as1, [] => by simp [Lib.compareBytes, byL, Op.bytesLess]
  | a :: as1, b :: bs => by
    have ih := cb_byL as1 bs
    simp only [Lib.compareBytes]
    by_cases h1 : a < b
    · rw [if_pos h1]
      have : Op.bytesLess (a :: as1) (b :: bs) = true := by simp [Op.bytesLess, h1]
      rw [byL_lt this]
    · rw [if_neg h1]
      by_cases h2 : b < a
      · rw [if_pos h2]
        have : Op.bytesLess (b :: bs) (a :: as1) = true := by simp [Op.bytesLess, h2]
        rw [byL_gt this]
      · rw [if_neg h2]
        have e : a = b := by
          apply UInt8.toNat_inj.1
          have h3 : ¬ a.toNat < b.toNat := fun h => h1 (UInt8.lt_iff_toNat_lt.2 h)
          have h4 : ¬ b.toNat < a.toNat := fun h => h2 (UInt8.lt_iff_toNat_lt.2 h)
          omega
        subst e
        rw [ih]
        exact (byL_append [a] as1 bs).symm
theorem cb_lt {a b : List UInt8} : (Lib.compareBytes a b < 0) ↔ Op.bytesLess a b = true := by
  rw [cb_byL]
  unfold byL
  by_cases h : Op.bytesLess a b = true
  · simp [h]
  · have h' : Op.bytesLess a b = false := by simpa using h
    rw [h']
    simp
    split <;> omega
theorem cb_eq {a b : List UInt8} : Lib.compareBytes a b = 0 ↔ a = b := by
  rw [cb_byL]
  exact ⟨byL_zero, fun h => by subst h; exact byL_self _⟩
theorem flat_take' {sz : Nat} : ∀ {ys : List DV}, (∀ y ∈ ys, y.cells.length = sz) → ∀ i, flat (ys.take i) = (flat ys).take (i * sz)
  | [], _, i => by simp [flat]
  | y :: ys, h, 0 => by simp [flat]
  | y :: ys, h, i + 1 => by
    have ih := flat_take' (ys := ys) (fun z hz => h z (by simp [hz])) i
    have hy := h y (by simp)
    have e : flat (y :: ys) = y.cells ++ flat ys := by simp [flat]
    have e2 : flat (y :: ys.take i) = y.cells ++ flat (ys.take i) := by simp [flat]
    rw [List.take_succ_cons, e2, e, ih, show (i + 1) * sz = y.cells.length + i * sz by rw [hy, Nat.add_mul]; omega, List.take_length_add_append]
theorem flat_drop' {sz : Nat} : ∀ {ys : List DV}, (∀ y ∈ ys, y.cells.length = sz) → ∀ i, flat (ys.drop i) = (flat ys).drop (i * sz)
  | [], _, i => by simp [flat]
  | y :: ys, h, 0 => by simp [flat]
  | y :: ys, h, i + 1 => by
    have ih := flat_drop' (ys := ys) (fun z hz => h z (by simp [hz])) i
    have hy := h y (by simp)
    have e : flat (y :: ys) = y.cells ++ flat ys := by simp [flat]
    rw [List.drop_succ_cons, e, ih, show (i + 1) * sz = y.cells.length + i * sz by rw [hy, Nat.add_mul]; omega, List.drop_length_add_append]
def fcells (l : List F) : List AV := (flat (l.map fD)).map .d
theorem fsz (l : List F) : ∀ y ∈ l.map fD, y.cells.length = 7 := by
  intro y hy
  obtain ⟨f, _, rfl⟩ := List.mem_map.1 hy
  exact fC_len f
theorem fone (l : List F) : ∀ d ∈ flat (l.map fD), d.one = true := by
  intro d hd
  obtain ⟨y, hy, hd⟩ := List.mem_flatMap.1 hd
  obtain ⟨f, _, rfl⟩ := List.mem_map.1 hy
  exact fC_one f d hd
theorem fcells_take (l : List F) (i : Nat) : fcells (l.take i) = (fcells l).take (i * 7) := by
  rw [fcells, fcells, List.map_take, flat_take' (fsz l), List.map_take]
theorem fcells_drop (l : List F) (i : Nat) : fcells (l.drop i) = (fcells l).drop (i * 7) := by
  rw [fcells, fcells, List.map_drop, flat_drop' (fsz l), List.map_drop]
theorem fcells_append (l m : List F) : fcells (l ++ m) = fcells l ++ fcells m := by
  simp [fcells, flat]
theorem fcells_cons (f : F) (m : List F) : fcells (f :: m) = (fC f).map .d ++ fcells m := by
  simp only [fcells, flat, List.map_cons, List.flatMap_cons, List.map_append]
  rfl
theorem rises_set {l : List F} {k : Nat} {f g : F} (hr : rises l = true) (h : l[k]? = some g) (hn : g.name = f.name) : rises (l.set k f) = true := by
  induction l generalizing k with
  | nil => rfl
  | cons a l ih =>
    cases k with
    | zero =>
      simp only [List.getElem?_cons_zero, Option.some.injEq] at h
      subst h
      cases l with
      | nil => rfl
      | cons b l => simp only [rises, List.set_cons_zero, Bool.and_eq_true] at hr ⊢; rw [← hn]; exact hr
    | succ k =>
      rw [List.getElem?_cons_succ] at h
      have h1 := ih (rises_tail hr) h
      cases l with
      | nil => simp at h
      | cons b l =>
        cases k with
        | zero =>
          simp only [List.getElem?_cons_zero, Option.some.injEq] at h
          subst h
          simp only [rises, List.set_cons_succ, List.set_cons_zero, Bool.and_eq_true] at hr h1 ⊢
          exact ⟨by rw [← hn]; exact hr.1, h1⟩
        | succ k =>
          simp only [rises, List.set_cons_succ, Bool.and_eq_true] at hr h1 ⊢
          exact ⟨hr.1, h1⟩
theorem putF_name {l : List F} {f x : F} (h : x ∈ putF l f) : x = f ∨ x ∈ l := by
  induction l with
  | nil => simp [putF] at h; exact .inl h
  | cons g l ih =>
    simp only [putF] at h
    split at h
    · rcases List.mem_cons.1 h with rfl | h
      · exact .inr (by simp)
      · rcases ih h with h | h
        · exact .inl h
        · exact .inr (by simp [h])
    · split at h
      · rcases List.mem_cons.1 h with rfl | h
        · exact .inl rfl
        · exact .inr (by simp [h])
      · rcases List.mem_cons.1 h with rfl | h
        · exact .inl rfl
        · exact .inr h
theorem rises_cons {g : F} {l : List F} (h1 : ∀ x ∈ l, Op.bytesLess g.name x.name = true) (h2 : rises l = true) : rises (g :: l) = true := by
  cases l with
  | nil => rfl
  | cons a l => simp only [rises, Bool.and_eq_true]; exact ⟨h1 a (by simp), h2⟩
theorem putF_rises {l : List F} (f : F) (h : rises l = true) : rises (putF l f) = true := by
  induction l with
  | nil => rfl
  | cons g l ih =>
    have hall := rises_all h
    simp only [putF]
    split
    · rename_i h1
      refine rises_cons (fun x hx => ?_) (ih (rises_tail h))
      rcases putF_name hx with rfl | hx
      · exact h1
      · exact hall x hx
    · rename_i h1
      split
      · rename_i h2
        have h2 : g.name = f.name := by simpa using h2
        exact rises_cons (fun x hx => by rw [← h2]; exact hall x hx) (rises_tail h)
      · rename_i h2
        have h2 : ¬ g.name = f.name := by simpa using h2
        have h3 : Op.bytesLess f.name g.name = true := by
          rw [less_total h2]; simpa using h1
        exact rises_cons (fun x hx => by
          rcases List.mem_cons.1 hx with rfl | hx
          · exact h3
          · exact less_trans h3 (hall x hx)) h
theorem foldl_rises : ∀ (fs l : List F), rises l = true → rises (fs.foldl putF l) = true
  | [], _, h => h
  | f :: fs, l, h => foldl_rises fs (putF l f) (putF_rises f h)
theorem ofF_rises (fs : List F) : rises (ofF fs) = true := foldl_rises fs [] rfl
theorem putF_len (l : List F) (f : F) : (putF l f).length ≤ l.length + 1 := by
  induction l with
  | nil => simp [putF]
  | cons g l ih =>
    simp only [putF]
    split
    · simp; exact ih
    · split <;> simp
theorem foldl_len : ∀ (fs l : List F), (fs.foldl putF l).length ≤ l.length + fs.length
  | [], _ => by simp
  | f :: fs, l => by
    have h1 := foldl_len fs (putF l f)
    have h2 := putF_len l f
    simp only [List.foldl_cons, List.length_cons]
    omega
theorem ofF_len (fs : List F) : (ofF fs).length ≤ fs.length := by
  have h := foldl_len fs []
  rw [List.length_nil, Nat.zero_add] at h
  exact h
theorem foldl_mem : ∀ (fs l : List F) (x : F), x ∈ fs.foldl putF l → x ∈ l ∨ x ∈ fs
  | [], _, _, h => .inl h
  | f :: fs, l, x, h => by
    rcases foldl_mem fs (putF l f) x h with h | h
    · rcases putF_name h with rfl | h
      · exact .inr (by simp)
      · exact .inl h
    · exact .inr (by simp [h])
theorem ofF_mem {fs : List F} {x : F} (h : x ∈ ofF fs) : x ∈ fs := by
  rcases foldl_mem fs [] x h with h | h
  · cases h
  · exact h
end Go.AV.Val
namespace Go.AV.Val
open Go.AV.Ord Go.AV.Oct
abbrev ArrF (H : HS) (tF : TypeId) (v : AV) (l : List F) : Prop := Arr H tF 7 v l.length (fcells l)
theorem Arr.pos {H : HS} {e : TypeId} {sz n : Nat} {v : AV} {us : List AV} (h : Arr H e sz v n us) (hn : 0 < n) : ∃ id cap cs, v = .arr id n cap ∧ H.blks[id]? = some ⟨e, cs, false⟩ ∧ cs.length = cap * sz ∧ n ≤ cap ∧ cs.take (n * sz) = us := by
  cases h with
  | nil => omega
  | arr id n cap cs us hb hc hnc hu => exact ⟨id, cap, cs, rfl, hb, hc, hnc, hu⟩
theorem Arr.or {H : HS} {e : TypeId} {sz n : Nat} {v : AV} {us : List AV} (h : Arr H e sz v n us) : v = nilS ∨ ∃ id cap, v = .arr id n cap := by
  cases h with
  | nil => exact .inl rfl
  | arr id n cap => exact .inr ⟨id, cap, rfl⟩
theorem Arr.mono {H H' : HS} {e : TypeId} {sz n : Nat} {v : AV} {us : List AV} (h : Arr H e sz v n us) (hk : ∀ id n cap, v = .arr id n cap → H'.blks[id]? = H.blks[id]?) : Arr H' e sz v n us := by
  cases h with
  | nil => exact .nil
  | arr id n cap cs us hb hc hnc hu => exact .arr id n cap cs us (by rw [hk _ _ _ rfl]; exact hb) hc hnc hu
section
variable {P : Program} {E : Operand → AV} {H : HS} {dst : Option Tmp} {ty : TypeId} {pos : String} {after : Array Edge} {gd : Option (Nat × Bool)}
theorem op_lenA {x : Operand} {t e e' : TypeId} {sz n : Nat} {v : AV} {us : List AV} (ht : P.underlying t = some (.slice e')) (hx : E x = v) (h : Arr H e sz v n us) {H' : HS} : OpR P ⟨dst, .call ⟨.builtin .len, #[x], #[t]⟩, ty, pos, after, gd⟩ E H' (Ret (.d (I n)) H') := by
  cases h with
  | nil =>
    refine opR_pure fun c w a hm hops => ?_
    have h1 := hops x (by simp [Op.operands, Call.operands])
    rw [hx] at h1
    exact ⟨.int .i64 0, by simp [execOp, resolve, invoke, builtin, h1.v_eq, Builtin.len_, run_underlying ht, goInt], .d (.v _ rfl)⟩
  | arr => exact op_lenArr ht hx
end
theorem putL_drop : ∀ (vs cs : List AV) (k m : Nat), k + vs.length ≤ m → (putL cs k vs).drop m = cs.drop m
  | [], cs, k, m, _ => rfl
  | v :: vs, cs, k, m, h => by
    simp only [List.length_cons] at h
    show (putL (cs.set k v) (k + 1) vs).drop m = _
    rw [putL_drop vs (cs.set k v) (k + 1) m (by omega), List.drop_set_of_lt (by omega)]
theorem putL_eq {cs vs : List AV} {k : Nat} (h : k + vs.length ≤ cs.length) : putL cs k vs = cs.take k ++ (vs ++ cs.drop (k + vs.length)) := by
  rw [← List.append_assoc, ← putL_take vs cs k h, ← putL_drop vs cs k (k + vs.length) (Nat.le_refl _), List.take_append_drop]
theorem set_cells {cs : List AV} {l : List F} {k : Nat} {f g : F} (hu : cs.take (l.length * 7) = fcells l) (h : l[k]? = some g) (hl : l.length * 7 ≤ cs.length) : (putL cs (k * 7) ((fC f).map .d)).take ((l.set k f).length * 7) = fcells (l.set k f) := by
  have hk : k < l.length := (List.getElem?_eq_some_iff.1 h).1
  have e : l.set k f = l.take k ++ f :: l.drop (k + 1) := by rw [List.set_eq_take_append_cons_drop, if_pos hk]
  have hx : ((fC f).map AV.d).length = 7 := by rw [List.length_map, fC_len]
  rw [List.length_set, e, fcells_append, fcells_cons, fcells_take, fcells_drop, ← hu]
  rw [putL_eq (by rw [hx]; omega), hx]
  rw [List.take_take, Nat.min_eq_left (by omega)]
  have hA : (cs.take (k * 7)).length = k * 7 := by rw [List.length_take]; omega
  rw [List.take_append, hA, List.take_of_length_le (show (cs.take (k * 7)).length ≤ l.length * 7 by rw [hA]; omega), List.take_append, hx, List.take_of_length_le (show ((fC f).map AV.d).length ≤ l.length * 7 - k * 7 by rw [hx]; omega), List.drop_take]
  rw [show k * 7 + 7 = (k + 1) * 7 by omega, show l.length * 7 - k * 7 - 7 = l.length * 7 - (k + 1) * 7 by omega]
structure InsR (Hs : HS) (tF : TypeId) (v : AV) (l : List F) (av : AV) (H' : HS) : Prop where
  arr : ArrF H' tF av l
  kept : Kept Hs H' v
  new : ∀ id n c, av = .arr id n c → Hs.nb ≤ id ∨ ∃ n c, v = .arr id n c
end Go.AV.Val
namespace Go.AV.Val
open Go.AV.Ord Go.AV.Oct
theorem hasF_at {l : List F} {n : List UInt8} (h : hasF l n = true) : ∃ g, l[posF l n]? = some g ∧ g.name = n := by
  unfold hasF at h
  split at h
  · rename_i g hg; exact ⟨g, hg, by simpa using h⟩
  · cases h
theorem Arr.idlt {H : HS} {e : TypeId} {sz n : Nat} {v : AV} {us : List AV} (h : Arr H e sz v n us) {id m c : Nat} (hv : v = .arr id m c) : id < H.nb := by
  cases h with
  | nil => cases hv
  | arr id n cap cs us hb hc hnc hu => cases hv; exact lt_nb hb
theorem push_lt {H : HS} {e : TypeId} {cs : List AV} {j : Nat} (h : j < H.nb) : (H.push e cs).blks[j]? = H.blks[j]? := by
  simp only [HS.push]; rw [List.getElem?_append_left h]
theorem ArrF.pushed {H : HS} {tF e : TypeId} {v : AV} {l : List F} {cs : List AV} (h : ArrF H tF v l) : ArrF (H.push e cs) tF v l :=
  Arr.mono h fun _ _ _ hv => push_lt (Arr.idlt h hv)
theorem ArrF.set {H : HS} {tF : TypeId} {id cap k : Nat} {cs : List AV} {l : List F} {x g : F} (hb : H.blks[id]? = some ⟨tF, cs, false⟩) (hc : cs.length = cap * 7) (hcap : l.length ≤ cap) (hu : cs.take (l.length * 7) = fcells l) (hg : l[k]? = some g) :
    ArrF (H.setB id ⟨tF, putL cs (k * 7) ((fC x).map .d), false⟩) tF (.arr id l.length cap) (l.set k x) := by
  have h := Arr.arr (H := H.setB id ⟨tF, putL cs (k * 7) ((fC x).map .d), false⟩) (e := tF) (sz := 7) id (l.set k x).length cap _ _ (setB_at hb) (by rw [putL_length]; exact hc) (by rw [List.length_set]; exact hcap) rfl
  rw [set_cells (f := x) hu hg (by omega)] at h
  unfold ArrF
  rw [show AV.arr id l.length cap = .arr id (l.set k x).length cap by rw [List.length_set]]
  exact h
section
variable {P : Program} {T : List AV} {H : HS} {dst : Option Tmp} {ty : TypeId} {pos : String} {after : Array Edge} {gd : Option (Nat × Bool)}
end
end Go.AV.Val
namespace Go.AV
open Go.RowKit
section
variable {P : Program} {E : Operand → AV} {H : HS} {dst : Option Tmp} {ty : TypeId} {pos : String} {after : Array Edge} {gd : Option (Nat × Bool)}
theorem equalIn_slice0 (w : World) (d : Nat) {t el : TypeId} (ht : P.underlying t = some (.slice el)) (a : Option Addr) (n c : Nat) : (Op.equalIn (d + 1) t (.slice a n c) (.slice none 0 0)).run P w = .ok a.isNone w := by
  cases a <;> simp [Op.equalIn, run_underlying ht]
theorem op_nilL {x y : Operand} {t t' el : TypeId} {sz : Nat} {xs : List DV} (ht : P.underlying t = some (.slice el)) (hx : LL (E x) sz xs) (hy : E y = nilS) :
    OpR P ⟨dst, .binOp .eql t x y t', ty, pos, after, gd⟩ E H (fun av H' => ∃ b, av = .d (TF b) ∧ (b = true → xs = []) ∧ H = H') :=
  opR_value fun B w0 c w a hI hops => by
    have h1 := hops x (by simp [Op.operands])
    have h2 := hops y (by simp [Op.operands])
    rw [hy] at h2
    obtain ⟨ad, n, cap, e, hr⟩ := hx.rep h1
    have hb : (binOp .eql t (.slice ad n cap) (.slice none 0 0)).run P w = .ok (.bool ad.isNone) w := by
      simp only [binOp]
      simp [Op.equal, Op.maxDepth, equalIn_slice0 w 9999 ht]
    refine ⟨.bool ad.isNone, w, c, .d (TF ad.isNone), H, ?_, Le.refl c, .d (.v _ rfl), hI, ad.isNone, rfl, fun h => ?_, rfl⟩
    · simp [execOp, e, h2.v_eq, eqGuard, hb]
    · cases hr with
      | lst => cases h
      | lstE => rfl
def clT (H : HS) : List DV → Option Nat
  | [] => none
  | _ :: _ => some (H.tk none)
def clH (H : HS) : List DV → HS
  | [] => H
  | x :: xs => H.up none (x :: xs).length
theorem clOk (H : HS) (xs : List DV) : (clH H xs).ok (clT H xs) xs.length := by
  cases xs with
  | nil => exact HS.ok_none _ _
  | cons x xs => exact HS.ok_up H none _ (HS.ok_none H 0)
theorem clH_blks (H : HS) (xs : List DV) : (clH H xs).blks = H.blks := by
  cases xs with
  | nil => rfl
  | cons x xs => simp [clH, HS.up_blks]
theorem clExt {B H : HS} (h : Ext B H) (xs : List DV) : Ext B (clH H xs) := by
  cases xs with
  | nil => exact h
  | cons x xs => exact h.new _
theorem clNew {B H : HS} (h : Ext B H) (xs : List DV) : NewTok B (clT H xs) := by
  obtain ⟨l, hl⟩ := h.toks
  cases xs with
  | nil => exact NewTok.none _
  | cons x xs => intro i hi; cases hi; simp [HS.tk, hl]
end
end Go.AV
namespace Go.AV
open Go.RowKit
section
variable {P : Program} {E : Operand → AV} {H : HS} {dst : Option Tmp} {ty : TypeId} {pos : String} {after : Array Edge} {gd : Option (Nat × Bool)}
end
theorem ACalls.tidyP2 {P : Program} {f : FuncId} {args : List AV} {H : HS} {m : List DV} {ed : DV} (h1 : ∀ d ∈ m, d.one = true)
    (h : ACalls P f args H fun av H' => Ext H H' ∧ ∃ l, av = .tup [.agg l, .d ed] ∧ (Weaks l (m.map .d) ∨ ∃ id n cap sz xs b, H.nb ≤ id ∧ H'.blks[id]? = some b ∧ b.cs.take (flat xs).length = (flat xs).map .d ∧ (flat xs).length ≤ b.cs.length ∧ xs.length = n ∧ n ≤ cap ∧ (∀ x ∈ xs, x.cells.length = sz) ∧ (∀ d ∈ flat xs, d.one = true) ∧ Becomes id n cap sz xs l m)) :
    ACalls P f args H (Ret (.tup [.d (.agg m), .d ed]) H) := by
  intro B w0 c w vs hI hs ha
  refine (h B w0 c w vs hI hs ha).mono ?_
  rintro e w' ⟨v, av, H', c', rfl, q1, q2, q3, ⟨⟨l1, h5⟩, ⟨l2, h6⟩, hmm⟩, l, rfl, hl⟩
  have hcut : H'.cut H.blks.length H.toks.length = H := by
    cases H
    simp only [HS.cut, h5, h6, List.take_left, hmm]
  have hfit : ∀ i b, i < H.blks.length → H'.blks[i]? = some b → ∀ j (hj : j < b.cs.length), Fits H.blks.length H.toks.length b.cs[j] := fun i b hi hb j hj => by
    have hb' : H.blks[i]? = some b := by rw [h5, List.getElem?_append_left (by omega)] at hb; exact hb
    have hlt : i < c.blk.length := by rw [hI.blkLen]; exact hi
    obtain ⟨_, _, cur, fr, _, _, _, q⟩ := hI.blk i _ b (List.getElem?_eq_getElem hlt) hb'
    have := (q j hj).fits
    rwa [hI.blkLen, hI.tokLen] at this
  have hblk : ∀ (i g : Nat), c.blk[i]? = some g → (c'.blk.take H.blks.length)[i]? = some g := fun i g hi => by
    have : i < c.blk.length := (List.getElem?_eq_some_iff.1 hi).1
    rw [List.getElem?_take, if_pos (by have := hI.blkLen; omega)]
    exact q1.blk i g hi
  have htok : ∀ (i : Nat) (e : Tok), c.tok[i]? = some e → ∃ e' : Tok, (c'.tok.take H.toks.length)[i]? = some e' ∧ (e' = e ∨ e.mark < e'.mark) := fun i e he => by
    have : i < c.tok.length := (List.getElem?_eq_some_iff.1 he).1
    obtain ⟨e', q1, q2⟩ := q1.tok i e he
    refine ⟨e', ?_, q2⟩
    rw [List.getElem?_take, if_pos (by have := hI.tokLen; omega)]
    exact q1
  have hv2 : ∃ u0 u1 : Value, v = .tuple #[u0, u1] ∧ Rep c' u0 (.agg l) ∧ Rep c' u1 (.d ed) := by
    generalize ha : AV.tup [AV.agg l, .d ed] = av at q2
    cases q2 with
    | tup us cs hl hr =>
      cases ha
      obtain ⟨ul⟩ := us
      match ul, hl with
      | [u0, u1], _ => exact ⟨u0, u1, rfl, hr 0 (by simp), hr 1 (by simp)⟩
    | _ => cases ha
  obtain ⟨u0, u1, rfl, q2a, q2b⟩ := hv2
  have hv : ∃ us : Array Value, u0 = .agg us ∧ us.size = l.length ∧ ∀ i (hi : i < l.length), Rep c' (us.getD i undef) l[i] := by
    generalize ha : AV.agg l = av at q2a
    cases q2a with
    | agg us cs hl hr => cases ha; exact ⟨us, rfl, hl, hr⟩
    | _ => cases ha
  obtain ⟨us, rfl, hul, hur⟩ := hv
  have two : ∀ {k : Ctx}, Rep k (.agg us) (.d (.agg m)) → Rep k u1 (.d ed) → Rep k (.tuple #[.agg us, u1]) (.tup [.d (.agg m), .d ed]) := fun h1 h2 => .tup _ _ rfl fun i hi => by
    match i, hi with
    | 0, _ => exact h1
    | 1, _ => exact h2
  rcases hl with hw | ⟨id, n, cap, sz, xs, b, hid, hb, hd, hlen, hxn, hnc, hsz, hone, hbec⟩
  · have i1 := q3.cut H.blks.length H.toks.length hfit
    rw [hcut] at i1
    refine ⟨.tuple #[.agg us, u1], .tup [.d (.agg m), .d ed], H, c'.cut H.blks.length H.toks.length, rfl, ⟨q1.mem, hblk, htok, q1.maps⟩, two (.d (.agg us m (by rw [hul, hw.len, List.length_map]) h1 fun i hi => ?_)) (.d (q2b.d_inv.mono (fun _ _ _ h => h))), i1, rfl, rfl⟩
    have := hw.get c' (fun i => us.getD i undef) hur i (by rw [List.length_map]; exact hi)
    rw [List.getElem_map] at this
    exact this.d_inv.mono (fun _ _ _ h => h)
  · have hidl : id < c'.blk.length := by rw [q3.blkLen]; exact (List.getElem?_eq_some_iff.1 hb).1
    obtain ⟨vals, i1, m1, m2, m3⟩ := q3.protect id _ b (List.getElem?_eq_getElem hidl) hb H.blks.length H.toks.length hid hfit (flat xs) hd hlen
    rw [hcut] at i1
    refine ⟨.tuple #[.agg us, u1], .tup [.d (.agg m), .d ed], H, _, rfl, ⟨fun g o u hm => m1 g o u (q1.mem g o u hm), hblk, htok, q1.maps⟩, two (.d (.agg us m (by rw [hul, hbec.len]) h1 ?_)) (.d (q2b.d_inv.mono m1)), i1, rfl, rfl⟩
    refine hbec.get (c := c') m1 (fun y hy => ?_) (fun i => us.getD i undef) hur
    obtain ⟨g, hg, rfl⟩ := arr_val hy
    rw [List.getElem?_eq_getElem hidl] at hg
    cases hg
    exact .lst _ 0 n cap sz xs vals hxn hnc hsz hone (fun i hi => by rw [Nat.zero_add]; exact m2 i hi) (fun i hi => (m3 i hi).mono m1)
end Go.AV
namespace Go.AV
open Go.RowKit
def getE : List (List UInt8 × DV) → List UInt8 → Option DV
  | [], _ => none
  | e :: es, k => if e.1 = k then some e.2 else getE es k
def putE : List (List UInt8 × DV) → List UInt8 → DV → List (List UInt8 × DV)
  | [], k, v => [(k, v)]
  | e :: es, k, v => if e.1 = k then (k, v) :: es else e :: putE es k v
def delE : List (List UInt8 × DV) → List UInt8 → List (List UInt8 × DV)
  | [], _ => []
  | e :: es, k => if e.1 = k then es else e :: delE es k
def atE : List (List UInt8 × DV) → List UInt8 → Option Nat
  | [], _ => none
  | e :: es, k => if e.1 = k then some 0 else (atE es k).map (· + 1)
theorem atE_none : ∀ {es : List (List UInt8 × DV)} {k : List UInt8}, atE es k = none → getE es k = none ∧ (∀ v, putE es k v = es ++ [(k, v)]) ∧ delE es k = es
  | [], _, _ => ⟨rfl, fun _ => rfl, rfl⟩
  | e :: es, k, h => by
    by_cases hk : e.1 = k
    · simp [atE, hk] at h
    · simp only [atE, if_neg hk, Option.map_eq_none_iff] at h
      obtain ⟨h1, h2, h3⟩ := atE_none h
      exact ⟨by simp [getE, hk, h1], fun v => by simp [putE, hk, h2], by simp [delE, hk, h3]⟩
theorem atE_some : ∀ {es : List (List UInt8 × DV)} {k : List UInt8} {i : Nat}, atE es k = some i → ∃ d, es[i]? = some (k, d) ∧ getE es k = some d ∧ (∀ v, putE es k v = es.set i (k, v)) ∧ delE es k = es.eraseIdx i
  | [], _, _, h => by simp [atE] at h
  | e :: es, k, i, h => by
    by_cases hk : e.1 = k
    · simp only [atE, if_pos hk, Option.some.injEq] at h
      subst h
      exact ⟨e.2, by rw [← hk]; rfl, by simp [getE, hk], fun v => by simp [putE, hk], by simp [delE, hk]⟩
    · simp only [atE, if_neg hk] at h
      cases hi : atE es k with
      | none => rw [hi] at h; cases h
      | some j =>
        rw [hi] at h
        cases h
        obtain ⟨d, h1, h2, h3, h4⟩ := atE_some hi
        exact ⟨d, by simpa using h1, by simp [getE, hk, h2], fun v => by simp [putE, hk, h3], by simp [delE, hk, h4]⟩
def HS.nm (H : HS) : Nat := H.maps.length
def HS.pushM (H : HS) (m : MB) : HS := { H with maps := H.maps ++ [m] }
def HS.setM (H : HS) (i : Nat) (m : MB) : HS := { H with maps := H.maps.set i m }
theorem MapObj.find {m : Mem} {xs : Array MapEntry} {clock : Nat} {k : List UInt8} : ∀ {l : List MapEntry} {es : List (List UInt8 × DV)} (i0 : Nat) (_ : l.length = es.length) (_ : ∀ i (h : i < es.length), ∃ e, l[i]? = some e ∧ e.key = .string ⟨(es[i]).1.toArray⟩ ∧ RepD m e.val (es[i]).2),
    Instr.findNow .string (.string ⟨k.toArray⟩) l i0 = some ((atE es k).bind fun i => (l[i]?).map fun e => (i0 + i, e.val))
  | [], [], _, _, _ => rfl
  | [], _ :: _, _, h, _ => by simp at h
  | _ :: _, [], _, h, _ => by simp at h
  | e :: l, d :: es, i0, hl, hr => by
    obtain ⟨e', h1, h2, _⟩ := hr 0 (by simp)
    simp only [List.getElem?_cons_zero, Option.some.injEq] at h1
    subst h1
    simp only [List.getElem_cons_zero] at h2
    have ih := MapObj.find (m := m) (xs := xs) (clock := clock) (k := k) (l := l) (es := es) (i0 + 1) (by simpa using hl) fun i hi => by
      have := hr (i + 1) (by simpa using hi)
      simpa using this
    by_cases hk : d.1 = k
    · have hb : ((⟨k.toArray⟩ : ByteArray) == ⟨d.1.toArray⟩) = true := by rw [hk]; exact (MapKept.bytes_beq _ _).2 rfl
      simp only [Instr.findNow, h2, Instr.sameNow, hb, atE, if_pos hk]
      rfl
    · have hb : ((⟨k.toArray⟩ : ByteArray) == ⟨d.1.toArray⟩) = false := by
        cases hh : ((⟨k.toArray⟩ : ByteArray) == ⟨d.1.toArray⟩) with
        | false => rfl
        | true =>
          have := (MapKept.bytes_beq _ _).1 hh
          injection this with this
          exact absurd (by simpa using this.symm) hk
      simp only [Instr.findNow, h2, Instr.sameNow, hb, atE, if_neg hk, ih]
      cases ha : atE es k with
      | none => rfl
      | some j => simp [Nat.add_assoc, Nat.add_comm 1 j]
section
variable {P : Program} {E : Operand → AV} {H : HS} {dst : Option Tmp} {ty : TypeId} {pos : String} {after : Array Edge} {gd : Option (Nat × Bool)}
theorem Inv.allocM {B : Nat} {w0 w : World} {c : Ctx} {H : HS} (h : Inv B w0 c H w) (o : Obj) (m : MB) (ho : MIs c (w.alloc o) m w.heap.size) :
    Inv B w0 { c with maps := c.maps ++ [w.heap.size] } (H.pushM m) (w.alloc o) ∧ Le c { c with maps := c.maps ++ [w.heap.size] } := by
  have hle : Le c { c with maps := c.maps ++ [w.heap.size] } := by
    refine ⟨fun _ _ _ h => h, fun _ _ h => h, fun _ e h => ⟨e, h, .inl rfl⟩, fun i g hi => ?_⟩
    have : i < c.maps.length := (List.getElem?_eq_some_iff.1 hi).1
    show (c.maps ++ [w.heap.size])[i]? = some g
    rw [List.getElem?_append_left this]; exact hi
  have h' := h.alloc o
  have hlt : ∀ i g, c.maps[i]? = some g → g < w.heap.size := fun i g hi => by
    have hil : i < c.maps.length := (List.getElem?_eq_some_iff.1 hi).1
    obtain ⟨_, q⟩ := h.maps.is i g _ hi (List.getElem?_eq_getElem (h.maps.len ▸ hil))
    obtain ⟨o', q1, _⟩ := q.obj
    exact (Array.getElem?_eq_some_iff.1 q1).1
  have cs : ∀ i g, (c.maps ++ [w.heap.size])[i]? = some g → (c.maps[i]? = some g ∧ i < c.maps.length) ∨ (i = c.maps.length ∧ g = w.heap.size) := by
    intro i g hi
    by_cases hlt : i < c.maps.length
    · rw [List.getElem?_append_left hlt] at hi
      exact .inl ⟨hi, hlt⟩
    · rw [List.getElem?_append_right (by omega)] at hi
      have : i - c.maps.length = 0 := by
        have := (List.getElem?_eq_some_iff.1 hi).1
        simp at this; omega
      rw [this] at hi
      simp at hi
      exact .inr ⟨by omega, hi.symm⟩
  refine ⟨⟨h'.base, h'.below, h'.mem, h'.blkLen, fun i g b hg hb => ?_, h'.blkInj, h'.tokLen, h'.tok, h'.tokInj, ?_, fun i j g hi hj => ?_, fun i g m' hg hm => ?_⟩, hle⟩
  · obtain ⟨h1, h2, cur, fr, h3, h4, h5, h6⟩ := h'.blk i g b hg hb
    exact ⟨h1, h2, cur, fr, h3, h4, h5, fun j hj => (h6 j hj).mono hle⟩
  · simp [HS.pushM, h.maps.len]
  · rcases cs i g hi with ⟨hi', _⟩ | ⟨rfl, rfl⟩
    · rcases cs j g hj with ⟨hj', _⟩ | ⟨rfl, rfl⟩
      · exact h.maps.inj i j g hi' hj'
      · have := hlt _ _ hi'; omega
    · rcases cs j _ hj with ⟨hj', _⟩ | ⟨rfl, _⟩
      · have := hlt _ _ hj'; omega
      · rfl
  · rcases cs i g hg with ⟨hi', hl⟩ | ⟨rfl, rfl⟩
    · have hm' : H.maps[i]? = some m' := by
        simp only [HS.pushM] at hm
        rwa [List.getElem?_append_left (by rw [← h.maps.len]; exact hl)] at hm
      obtain ⟨q1, q2⟩ := h.maps.is i g m' hi' hm'
      exact ⟨q1, q2.keep hle (keeps_alloc w o)⟩
    · have : m' = m := by
        simp only [HS.pushM] at hm
        rw [h.maps.len] at hm
        simpa using hm.symm
      subst this
      exact ⟨h.base, ho.keep hle (.refl _)⟩
theorem Inv.setM {B : Nat} {w0 w : World} {c : Ctx} {H : HS} (h : Inv B w0 c H w) (i g : Nat) (m m' : MB) (hg : c.maps[i]? = some g) (hm : H.maps[i]? = some m) (o : Obj) (w' : World) (hw' : w'.heap = w.heap.setIfInBounds g o) (hb : Below B w0 w')
    (ho : MIs c w' m' g) (hoc : ∀ cs e fr, o ≠ Obj.cells cs e fr) (hno : ∀ es, m = .map es → ∀ (j n : Nat) l, H.maps[j]? ≠ some (.iter (some i) n l)) : Inv B w0 c (H.setM i m') w' := by
  obtain ⟨p1, p2⟩ := h.maps.is i g m hg hm
  obtain ⟨o0, p3, p4⟩ := p2.obj
  have hset := MapKept.heap_set (o' := o) p3
  rw [← hw'] at hset
  have hcells : ∀ (k : Nat) cs e fr, w.heap[k]? = some (Obj.cells cs e fr) → w'.heap[k]? = some (Obj.cells cs e fr) := fun k cs e fr hk => by
    rw [hset.2 k (fun hh => by subst hh; rw [p3] at hk; exact p4 _ _ _ (Option.some.inj hk))]
    exact hk
  refine ⟨by rw [hw']; simpa using h.base, hb, fun g' off u hm => ?_, h.blkLen, fun k g' b hk hbk => ?_, h.blkInj, h.tokLen, fun k e he => ?_, h.tokInj, by simpa [HS.setM] using h.maps.len, h.maps.inj, fun j g' mj hj hmj => ?_⟩
  · have h1 := h.mem g' off u hm
    have hne : g' ≠ g := fun hh => by
      subst hh
      cases o0 with
      | cells cs e fr => exact p4 _ _ _ rfl
      | _ => simp [World.cell?, p3] at h1
    simp only [World.cell?] at h1 ⊢
    rw [hset.2 g' hne]
    exact h1
  · obtain ⟨h1, h2, cur, fr, h3, h4⟩ := h.blk k g' b hk hbk
    exact ⟨h1, h2, cur, fr, hcells _ _ _ _ h3, h4⟩
  · obtain ⟨h1, h2, h3, h4, h5, cur, et, fr, h6, h7⟩ := h.tok k e he
    exact ⟨h1, h2, h3, h4, h5, cur, et, fr, hcells _ _ _ _ h6, h7⟩
  · by_cases hij : i = j
    · subst hij
      have e1 : g' = g := by rw [hg] at hj; exact (Option.some.inj hj).symm
      subst e1
      have e2 : mj = m' := by
        have hlt := (List.getElem?_eq_some_iff.1 hm).1
        simp only [HS.setM] at hmj
        rw [List.getElem?_set_self hlt] at hmj
        exact (Option.some.inj hmj).symm
      subst e2
      exact ⟨p1, ho⟩
    · have e1 : H.maps[j]? = some mj := by
        simp only [HS.setM] at hmj
        rwa [List.getElem?_set_ne hij] at hmj
      obtain ⟨q1, q2⟩ := h.maps.is j g' mj hj e1
      have hne : g' ≠ g := fun hh => hij (h.maps.inj i j g hg (hh ▸ hj))
      refine ⟨q1, ?_⟩
      cases q2 with
      | map _ es xs clock hw hx => exact .map _ es xs clock (by rw [hset.2 _ hne]; exact hw) hx
      | iter _ id r n last xs clock seen hmm hr hw hn hd hs hl =>
        by_cases hrg : r = g
        · subst hrg
          have : id = i := h.maps.inj _ _ _ hmm hg
          subst this
          cases p2 with
          | map _ es _ _ _ _ => exact absurd e1 (hno es rfl j n last)
          | iter _ _ _ _ _ _ _ _ _ _ hw2 => rw [hr] at hw2; cases hw2
          | dead _ _ _ _ _ _ _ hw2 => rw [hr] at hw2; cases hw2
          | other _ o2 hw2 _ hnm2 => rw [hr] at hw2; exact absurd (Option.some.inj hw2).symm (hnm2 _ _)
        · exact .iter _ id r n last xs clock seen hmm (by rw [hset.2 _ hrg]; exact hr) (by rw [hset.2 _ hne]; exact hw) hn hd hs hl
      | dead _ n last r a b seen hw => exact .dead _ n last r a b seen (by rw [hset.2 _ hne]; exact hw)
      | other _ o2 hw hn hnm => exact .other _ o2 (by rw [hset.2 _ hne]; exact hw) hn hnm
theorem Rep.map_inv {c : Ctx} {v : Value} {id : Nat} (h : Rep c v (.map id)) : ∃ g, v = .map (some g) ∧ c.maps[id]? = some g := by
  cases h with
  | map _ g h => exact ⟨g, rfl, h⟩
theorem Rep.iter_inv {c : Ctx} {v : Value} {id : Nat} (h : Rep c v (.iter id)) : ∃ g, v = .pointer (some ⟨g, 0, none⟩) ∧ c.maps[id]? = some g := by
  cases h with
  | iter _ g h => exact ⟨g, rfl, h⟩
theorem MIs.map_inv {c : Ctx} {w : World} {es : List (List UInt8 × DV)} {g : Nat} (h : MIs c w (.map es) g) : ∃ xs clock, w.heap[g]? = some (.map xs clock) ∧ MapObj c.mem es xs clock := by
  cases h with
  | map _ _ xs clock hw h => exact ⟨xs, clock, hw, h⟩
theorem below_set {B : Nat} {w0 w : World} (h : Below B w0 w) {g : Nat} (hg : B ≤ g) (o : Obj) : Below B w0 { w with heap := w.heap.setIfInBounds g o } :=
  h.trans ⟨rfl, rfl, rfl, by simp, fun k hk => by show (w.heap.setIfInBounds g o)[k]? = _; simp [show ¬ g = k by omega]⟩
theorem op_makeMap {t : TypeId} : OpR P ⟨dst, .makeMap t none, ty, pos, after, gd⟩ E H (Ret (.map H.nm) (H.pushM (.map []))) :=
  opR_value fun B w0 c w a hI hops => by
    have hnew := heap_new w (.map #[] 0)
    obtain ⟨i1, l1⟩ := hI.allocM (.map #[] 0) (.map []) (.map _ [] #[] 0 hnew ⟨rfl, by simp, by simp, fun i h => by simp at h⟩)
    refine ⟨.map (some w.heap.size), w.alloc (.map #[] 0), _, .map H.nm, _, ?_, l1, .map _ _ ?_, i1, rfl, rfl⟩
    · simp [execOp, Instr.makeMap]
    · simp [HS.nm, ← hI.maps.len]
theorem MapObj.look {m : Mem} {es : List (List UInt8 × DV)} {xs : Array MapEntry} {clock : Nat} (h : MapObj m es xs clock) (k : List UInt8) :
    (atE es k = none ∧ Instr.findNow .string (.string ⟨k.toArray⟩) xs.toList 0 = some none) ∨
    ∃ i e d, atE es k = some i ∧ xs[i]? = some e ∧ e.key = .string ⟨k.toArray⟩ ∧ getE es k = some d ∧ RepD m e.val d ∧ Instr.findNow .string (.string ⟨k.toArray⟩) xs.toList 0 = some (some (i, e.val)) := by
  have hf := MapObj.find (m := m) (xs := xs) (clock := clock) (k := k) (l := xs.toList) (es := es) 0 (by simpa using h.len) fun i hi => by
    have := h.rep i hi
    simpa using this
  cases ha : atE es k with
  | none => exact .inl ⟨rfl, by rw [hf, ha]; rfl⟩
  | some i =>
    obtain ⟨d, h1, h2, _⟩ := atE_some ha
    have hi := (List.getElem?_eq_some_iff.1 h1).1
    obtain ⟨e, q1, q2, q3⟩ := h.rep i hi
    have he : es[i] = (k, d) := (List.getElem?_eq_some_iff.1 h1).2
    rw [he] at q2 q3
    refine .inr ⟨i, e, d, rfl, q1, q2, h2, q3, ?_⟩
    rw [hf, ha]
    simp [q1]
theorem MapObj.put {m : Mem} {es : List (List UInt8 × DV)} {xs : Array MapEntry} {clock i : Nat} {k : List UInt8} {v : Value} {d : DV} (h : MapObj m es xs clock) (hv : RepD m v d) :
    MapObj m (es.set i (k, d)) (xs.modify i fun e => { e with key := .string ⟨k.toArray⟩, val := v }) clock := by
  have hborn : (xs.modify i fun e => { e with key := .string ⟨k.toArray⟩, val := v }).toList.map (·.born) = xs.toList.map (·.born) := by
    apply List.ext_getElem?
    intro j
    simp only [List.getElem?_map, Array.getElem?_toList, Array.getElem?_modify]
    by_cases hij : i = j
    · subst hij
      cases he : xs[i]? with
      | none => simp
      | some e => simp
    · simp [hij]
  refine ⟨by simpa using h.len, by rw [hborn]; exact h.born, fun x hx => ?_, fun j hj => ?_⟩
  · have : x.born ∈ xs.toList.map (·.born) := by rw [← hborn]; exact List.mem_map.2 ⟨x, hx, rfl⟩
    obtain ⟨y, hy, e⟩ := List.mem_map.1 this
    rw [← e]; exact h.lt y hy
  · have hj' : j < es.length := by simpa using hj
    obtain ⟨e, q1, q2, q3⟩ := h.rep j hj'
    by_cases hij : i = j
    · subst hij
      exact ⟨{ e with key := .string ⟨k.toArray⟩, val := v }, by simp [Array.getElem?_modify, q1], by simp, by simpa using hv⟩
    · exact ⟨e, by simp [Array.getElem?_modify, hij, q1], by simpa [List.getElem_set_ne hij] using q2, by simpa [List.getElem_set_ne hij] using q3⟩
theorem MapObj.push {m : Mem} {es : List (List UInt8 × DV)} {xs : Array MapEntry} {clock : Nat} {k : List UInt8} {v : Value} {d : DV} (h : MapObj m es xs clock) (hv : RepD m v d) :
    MapObj m (es ++ [(k, d)]) (xs.push { key := .string ⟨k.toArray⟩, val := v, born := clock }) (clock + 1) := by
  refine ⟨by simp [h.len], ?_, fun x hx => ?_, fun j hj => ?_⟩
  · simp only [Array.toList_push, List.map_append, List.map_cons, List.map_nil]
    refine List.nodup_append.2 ⟨h.born, by simp, fun a ha b hb => ?_⟩
    simp only [List.mem_singleton] at hb
    subst hb
    obtain ⟨x, hx, rfl⟩ := List.mem_map.1 ha
    exact Nat.ne_of_lt (h.lt x hx)
  · simp only [Array.toList_push, List.mem_append, List.mem_singleton] at hx
    rcases hx with hx | rfl
    · exact Nat.lt_succ_of_lt (h.lt x hx)
    · exact Nat.lt_succ_self _
  · by_cases hlt : j < es.length
    · obtain ⟨e, q1, q2, q3⟩ := h.rep j hlt
      refine ⟨e, ?_, by rw [List.getElem_append_left hlt]; exact q2, by rw [List.getElem_append_left hlt]; exact q3⟩
      have : j < xs.size := by rw [h.len]; exact hlt
      rw [Array.getElem?_push, if_neg (by omega)]
      exact q1
    · have hje : j = es.length := by simp at hj; omega
      subst hje
      refine ⟨_, by rw [← h.len, Array.getElem?_push, if_pos rfl], by simp, by simpa using hv⟩
theorem op_lookup {x k : Operand} {t kt et : TypeId} {z : Value} {id : Nat} {es : List (List UInt8 × DV)} {l : List UInt8} {d0 : DV} (ht : P.underlying t = some (.map kt et)) (hkt : P.underlying kt = some .string) (hz : (P.info? et).map (·.zero) = some (some z))
    (hd : ∀ m, RepD m z d0) (hx : E x = .map id) (hl : E k = .d (S l)) (hm : H.maps[id]? = some (.map es)) : OpR P ⟨dst, .lookup t x k false, ty, pos, after, gd⟩ E H (Ret (.d ((getE es l).getD d0)) H) :=
  opR_value fun B w0 c w a hI hops => by
    have h1 := hops x (by simp [Op.operands])
    have h2 := hops k (by simp [Op.operands])
    rw [hx] at h1
    rw [hl] at h2
    obtain ⟨g, ev, hg⟩ := h1.map_inv
    have ek := h2.v_eq
    obtain ⟨_, q⟩ := hI.maps.is id g _ hg hm
    obtain ⟨xs, clock, hw, ho⟩ := q.map_inv
    obtain ⟨inf, hi1, hi2⟩ := Option.map_eq_some_iff.1 hz
    have hzv : ∀ w, (zeroValue et).run P w = .ok z w := fun w => by simp [zeroValue, typeInfo, hi1, hi2]
    have hck : ∀ e, (Instr.checkKey e 10000 kt (.string ⟨l.toArray⟩)).run P w = .ok () w := fun e => MapKept.run_checkKey hkt (show MapKept.IsKey .string (.string _) from trivial) e 9999
    rcases ho.look l with ⟨p1, p2⟩ | ⟨i, e, d, p1, p2, p3, p4, p5, p6⟩
    · refine ⟨z, w, c, _, H, ?_, Le.refl c, .d (hd _), hI, ?_, rfl⟩
      · simp [execOp, Instr.lookup, ev, ek, run_underlying ht, MapKept.run_getObj_map hw, hck, MapKept.run_findKey hkt p2, hzv]
      · rw [(atE_none p1).1]; rfl
    · refine ⟨e.val, w, c, _, H, ?_, Le.refl c, .d p5, hI, ?_, rfl⟩
      · simp [execOp, Instr.lookup, ev, ek, run_underlying ht, MapKept.run_getObj_map hw, hck, MapKept.run_findKey hkt p6]
      · rw [p4]; rfl
theorem op_lookup2 {x k : Operand} {t kt et : TypeId} {z : Value} {id : Nat} {es : List (List UInt8 × DV)} {l : List UInt8} {d0 : DV} (ht : P.underlying t = some (.map kt et)) (hkt : P.underlying kt = some .string) (hz : (P.info? et).map (·.zero) = some (some z))
    (hd : ∀ m, RepD m z d0) (hx : E x = .map id) (hl : E k = .d (S l)) (hm : H.maps[id]? = some (.map es)) : OpR P ⟨dst, .lookup t x k true, ty, pos, after, gd⟩ E H (Ret (.tup [.d ((getE es l).getD d0), .d (TF (getE es l).isSome)]) H) :=
  opR_value fun B w0 c w a hI hops => by
    have h1 := hops x (by simp [Op.operands])
    have h2 := hops k (by simp [Op.operands])
    rw [hx] at h1
    rw [hl] at h2
    obtain ⟨g, ev, hg⟩ := h1.map_inv
    have ek := h2.v_eq
    obtain ⟨_, q⟩ := hI.maps.is id g _ hg hm
    obtain ⟨xs, clock, hw, ho⟩ := q.map_inv
    obtain ⟨inf, hi1, hi2⟩ := Option.map_eq_some_iff.1 hz
    have hzv : ∀ w, (zeroValue et).run P w = .ok z w := fun w => by simp [zeroValue, typeInfo, hi1, hi2]
    have hck : ∀ e, (Instr.checkKey e 10000 kt (.string ⟨l.toArray⟩)).run P w = .ok () w := fun e => MapKept.run_checkKey hkt (show MapKept.IsKey .string (.string _) from trivial) e 9999
    have two : ∀ {u0 u1 : Value} {a b : AV}, Rep c u0 a → Rep c u1 b → Rep c (.tuple #[u0, u1]) (.tup [a, b]) := fun h1 h2 => .tup _ _ rfl fun i hi => by
      match i, hi with
      | 0, _ => exact h1
      | 1, _ => exact h2
    rcases ho.look l with ⟨p1, p2⟩ | ⟨i, e, d, p1, p2, p3, p4, p5, p6⟩
    · refine ⟨.tuple #[z, .bool false], w, c, _, H, ?_, Le.refl c, ?_, hI, rfl, rfl⟩
      · simp [execOp, Instr.lookup, ev, ek, run_underlying ht, MapKept.run_getObj_map hw, hck, MapKept.run_findKey hkt p2, hzv]
      · rw [(atE_none p1).1]; exact two (.d (hd _)) (.d (.v _ rfl))
    · refine ⟨.tuple #[e.val, .bool true], w, c, _, H, ?_, Le.refl c, ?_, hI, rfl, rfl⟩
      · simp [execOp, Instr.lookup, ev, ek, run_underlying ht, MapKept.run_getObj_map hw, hck, MapKept.run_findKey hkt p6]
      · rw [p4]; exact two (.d p5) (.d (.v _ rfl))
theorem op_mapUpdate {x k v : Operand} {t kt et : TypeId} {id : Nat} {es : List (List UInt8 × DV)} {l : List UInt8} {d : DV} (ht : P.underlying t = some (.map kt et)) (hkt : P.underlying kt = some .string) (hx : E x = .map id) (hl : E k = .d (S l))
    (hv : Weak (E v) (.d d)) (hm : H.maps[id]? = some (.map es)) (hno : ∀ (j n : Nat) q, H.maps[j]? ≠ some (.iter (some id) n q)) : OpR P ⟨dst, .mapUpdate t x k v, ty, pos, after, gd⟩ E H (Ret .un (H.setM id (.map (putE es l d)))) :=
  opR_skip fun B w0 c w a hI hops => by
    have h1 := hops x (by simp [Op.operands])
    have h2 := hops k (by simp [Op.operands])
    have h3 := (hv c _ (hops v (by simp [Op.operands]))).d_inv
    rw [hx] at h1
    rw [hl] at h2
    obtain ⟨g, ev, hg⟩ := h1.map_inv
    have ek := h2.v_eq
    obtain ⟨q0, q⟩ := hI.maps.is id g _ hg hm
    obtain ⟨xs, clock, hw, ho⟩ := q.map_inv
    have hck : ∀ e, (Instr.checkKey e 10000 kt (.string ⟨l.toArray⟩)).run P w = .ok () w := fun e => MapKept.run_checkKey hkt (show MapKept.IsKey .string (.string _) from trivial) e 9999
    rcases ho.look l with ⟨p1, p2⟩ | ⟨i, e, d', p1, p2, p3, p4, p5, p6⟩
    · have hset := MapKept.heap_set (o' := Obj.map (xs.push { key := .string ⟨l.toArray⟩, val := a.eval v, born := clock }) (clock + 1)) hw
      refine ⟨_, c, _, ?_, Le.refl c, hI.setM id g _ (.map (putE es l d)) hg hm (.map (xs.push { key := .string ⟨l.toArray⟩, val := a.eval v, born := clock }) (clock + 1)) _ rfl (below_set hI.below q0 _) (.map _ _ _ _ hset.1 ?_) (by intros; simp) (fun es' he j n q => hno j n q), rfl, rfl⟩
      · simp [execOp, Instr.mapUpdate, ev, ek, run_underlying ht, MapKept.run_getObj_map hw, hck, MapKept.run_findKey hkt p2, MapKept.run_setObj_map _ hw]
      · rw [(atE_none p1).2.1]; exact ho.push h3
    · have hset := MapKept.heap_set (o' := Obj.map (xs.modify i fun e => { e with key := .string ⟨l.toArray⟩, val := a.eval v }) clock) hw
      have hstay := MapKept.run_keyThatStays (P := P) (w := w) (d := .string) (k := .string ⟨l.toArray⟩) (show MapKept.IsKey .string (.string _) from trivial)
      refine ⟨_, c, _, ?_, Le.refl c, hI.setM id g _ (.map (putE es l d)) hg hm (.map (xs.modify i fun e => { e with key := .string ⟨l.toArray⟩, val := a.eval v }) clock) _ rfl (below_set hI.below q0 _) (.map _ _ _ _ hset.1 ?_) (by intros; simp) (fun es' he j n q => hno j n q), rfl, rfl⟩
      · simp [execOp, Instr.mapUpdate, ev, ek, run_underlying ht, MapKept.run_getObj_map hw, hck, MapKept.run_findKey hkt p6, MapKept.run_setObj_map _ hw, p2, p3, hstay]
      · obtain ⟨_, _, _, hp, _⟩ := atE_some p1
        rw [hp]; exact ho.put h3
theorem op_lenMap {x : Operand} {t kt et : TypeId} {id : Nat} {es : List (List UInt8 × DV)} (ht : P.underlying t = some (.map kt et)) (hx : E x = .map id) (hm : H.maps[id]? = some (.map es)) :
    OpR P ⟨dst, .call ⟨.builtin .len, #[x], #[t]⟩, ty, pos, after, gd⟩ E H (Ret (.d (I es.length)) H) :=
  opR_value fun B w0 c w a hI hops => by
    have h1 := hops x (by simp [Op.operands, Call.operands])
    rw [hx] at h1
    obtain ⟨g, ev, hg⟩ := h1.map_inv
    obtain ⟨_, q⟩ := hI.maps.is id g _ hg hm
    obtain ⟨xs, clock, hw, ho⟩ := q.map_inv
    refine ⟨.int .i64 es.length, w, c, _, H, ?_, Le.refl c, .d (.v _ rfl), hI, rfl, rfl⟩
    simp [execOp, resolve, invoke, builtin, Builtin.len_, ev, run_underlying ht, MapKept.run_getObj_map hw, goInt, ho.len]
theorem op_range {x : Operand} {t kt et : TypeId} {id : Nat} {es : List (List UInt8 × DV)} (ht : P.underlying t = some (.map kt et)) (hx : E x = .map id) (hm : H.maps[id]? = some (.map es)) :
    OpR P ⟨dst, .range t x, ty, pos, after, gd⟩ E H (Ret (.iter H.nm) (H.pushM (.iter (some id) 0 none))) :=
  opR_value fun B w0 c w a hI hops => by
    have h1 := hops x (by simp [Op.operands])
    rw [hx] at h1
    obtain ⟨g, ev, hg⟩ := h1.map_inv
    obtain ⟨_, q⟩ := hI.maps.is id g _ hg hm
    obtain ⟨xs, clock, hw, ho⟩ := q.map_inv
    have hg' : (c.maps ++ [w.heap.size])[id]? = some g := by rw [List.getElem?_append_left (List.getElem?_eq_some_iff.1 hg).1]; exact hg
    have hnew := heap_new w (.mapIter (some g) clock #[] clock)
    have i0 : Inv B w0 { c with maps := c.maps ++ [w.heap.size] } (H.pushM (.iter (some id) 0 none)) (w.alloc (.mapIter (some g) clock #[] clock)) ∧ Le c { c with maps := c.maps ++ [w.heap.size] } := by
      obtain ⟨i1, l1⟩ := hI.allocM (.mapIter (some g) clock #[] clock) (.iter none 0 none) (.dead _ 0 none (some g) clock clock #[] hnew)
      refine ⟨⟨i1.base, i1.below, i1.mem, i1.blkLen, i1.blk, i1.blkInj, i1.tokLen, i1.tok, i1.tokInj, by simpa [HS.pushM] using i1.maps.len, i1.maps.inj, fun i g' m' hi hm' => ?_⟩, l1⟩
      by_cases hlt : i < H.maps.length
      · refine i1.maps.is i g' m' hi ?_
        simp only [HS.pushM] at hm' ⊢
        rwa [List.getElem?_append_left hlt] at hm' ⊢
      · have hlen := hI.maps.len
        have hie : i = H.maps.length := by
          have := (List.getElem?_eq_some_iff.1 hm').1
          simp [HS.pushM] at this
          omega
        subst hie
        have e1 : m' = .iter (some id) 0 none := by simpa [HS.pushM] using hm'.symm
        have e2 : g' = w.heap.size := by
          have : (c.maps ++ [w.heap.size])[H.maps.length]? = some g' := hi
          rw [← hlen] at this
          simpa using this.symm
        subst e1 e2
        exact ⟨hI.base, .iter _ id g 0 none xs clock #[] hg' (by rw [heap_old w _ (Array.getElem?_eq_some_iff.1 hw).1]; exact hw) hnew rfl (by simp) (by simp) (by simp)⟩
    refine ⟨.pointer (some ⟨w.heap.size, 0, none⟩), w.alloc (.mapIter (some g) clock #[] clock), _, .iter H.nm, _, ?_, i0.2, .iter _ _ ?_, i0.1, rfl, rfl⟩
    · simp [execOp, Instr.range, ev, run_underlying ht, MapKept.run_getObj_map hw]
    · simp [HS.nm, ← hI.maps.len]
theorem nodup_len : ∀ {l m : List Nat}, l.Nodup → (∀ x ∈ l, x ∈ m) → l.length ≤ m.length
  | [], _, _, _ => Nat.zero_le _
  | x :: l, m, h, hs => by
    have hx := hs x (List.mem_cons_self ..)
    have hn := List.nodup_cons.1 h
    have := nodup_len (l := l) (m := m.erase x) hn.2 fun y hy => (List.mem_erase_of_ne (fun e => hn.1 (by rw [← e]; exact hy))).2 (hs y (List.mem_cons_of_mem _ hy))
    have e := List.length_erase_of_mem hx
    have : 0 < m.length := List.length_pos_iff.2 (fun e => by rw [e] at hx; cases hx)
    simp only [List.length_cons]
    omega
theorem op_next {x : Operand} {id j n : Nat} {last : Option (List UInt8 × DV)} {es : List (List UInt8 × DV)} (hx : E x = .iter j) (hj : H.maps[j]? = some (.iter (some id) n last)) (hm : H.maps[id]? = some (.map es)) :
    OpR P ⟨dst, .next x false, ty, pos, after, gd⟩ E H (fun v H' => (v = .tup [.d (TF false)] ∧ H' = H) ∨
      ∃ k d, (k, d) ∈ es ∧ n < es.length ∧ v = .tup [.d (TF true), .d (S k), .d d] ∧ H' = H.setM j (.iter (some id) (n + 1) (some (k, d)))) :=
  opR_value fun B w0 c w a hI hops => by
    have h1 := hops x (by simp [Op.operands])
    rw [hx] at h1
    obtain ⟨g, ev, hg⟩ := h1.iter_inv
    obtain ⟨q0, q⟩ := hI.maps.is j g _ hg hj
    cases q with
    | iter _ _ r _ _ xs clock seen hmm hr hw hn hd hs hl =>
    obtain ⟨_, q2⟩ := hI.maps.is id r _ hmm hm
    obtain ⟨xs', clock', hw', ho⟩ := q2.map_inv
    rw [hr] at hw'
    injection hw' with hw'
    injection hw' with e1 e2
    subst e1 e2
    rcases run_next_at (P := P) w ty g r clock clock seen xs clock hw hr ho.lt (Nat.le_refl _) with ⟨h0, hrun⟩ | ⟨e, he, w1, hal, hrun⟩
    · refine ⟨.tuple #[.bool false], w, c, _, H, ?_, Le.refl c, .tup _ [.d (TF false)] rfl fun i hi => ?_, hI, .inl ⟨rfl, rfl⟩⟩
      · simp [execOp, ev, hrun]
      · simp at hi
        subst hi
        exact .d (.v _ rfl)
    · obtain ⟨hem, hes⟩ := mem_left he
      obtain ⟨i, hi, hie⟩ := List.getElem_of_mem hem
      have hil : i < es.length := by rw [← ho.len]; simpa using hi
      obtain ⟨e', p1, p2, p3⟩ := ho.rep i hil
      have : e' = e := by
        have h5 : xs[i]? = some e := by
          have hi' : i < xs.size := by simpa using hi
          rw [Array.getElem?_eq_getElem hi']
          simpa using hie
        rw [h5] at p1; exact (Option.some.inj p1).symm
      subst this
      have hnd : (seen.push e'.born).toList.Nodup := by
        rw [Array.toList_push]
        refine List.nodup_append.2 ⟨hd, by simp, fun a ha b hb => ?_⟩
        simp only [List.mem_singleton] at hb
        subst hb
        intro hab
        subst hab
        simp [Array.contains_iff_mem, Array.mem_def, ha] at hes
      have hsub : ∀ b ∈ (seen.push e'.born).toList, b ∈ xs.toList.map (·.born) := fun b hb => by
        rw [Array.toList_push] at hb
        rcases List.mem_append.1 hb with hb | hb
        · exact hs b hb
        · simp only [List.mem_singleton] at hb
          subst hb
          exact List.mem_map.2 ⟨e', hem, rfl⟩
      have hlen : n < es.length := by
        have := nodup_len hnd hsub
        simp only [Array.toList_push, List.length_append, Array.length_toList, List.length_cons, List.length_nil, List.length_map] at this
        have := ho.len
        omega
      have hw1 : w1.heap = w.heap := by rcases hal with rfl | rfl <;> rfl
      have hb1 : Below B w0 w1 := by
        rcases hal with rfl | rfl
        · exact hI.below
        · exact hI.below.drew
      have hset := MapKept.heap_set (o' := Obj.mapIter (some r) clock (seen.push e'.born) clock) hw
      have hrg : r ≠ g := fun hh => by subst hh; rw [hr] at hw; cases hw
      refine ⟨.tuple #[.bool true, e'.key, e'.val], _, c, .tup [.d (TF true), .d (S (es[i]).1), .d (es[i]).2], _, by simp only [execOp, ev]; rw [Sem.run_bind, hrun]; rfl, Le.refl c, ?_,
        hI.setM j g _ (.iter (some id) (n + 1) (some ((es[i]).1, (es[i]).2))) hg hj (.mapIter (some r) clock (seen.push e'.born) clock) _ (by show w1.heap.setIfInBounds _ _ = _; rw [hw1]) (below_set hb1 q0 _) ?_ (by intros; simp) (fun es' he => by cases he),
        .inr ⟨(es[i]).1, (es[i]).2, List.getElem_mem hil, hlen, rfl, rfl⟩⟩
      · refine .tup _ _ rfl fun m hm' => ?_
        match m, hm' with
        | 0, _ => exact .d (.v _ rfl)
        | 1, _ => rw [show (#[Value.bool true, e'.key, e'.val] : Array Value).getD 1 undef = e'.key from rfl, p2]; exact .d (.v _ rfl)
        | 2, _ => exact .d p3
      · refine .iter _ id r (n + 1) _ xs clock (seen.push e'.born) hmm ?_ ?_ (by simp [hn]) hnd hsub fun k d hkd => ?_
        · show (w1.heap.setIfInBounds _ _)[r]? = _
          rw [hw1, hset.2 r hrg]; exact hr
        · show (w1.heap.setIfInBounds _ _)[g]? = _
          rw [hw1]; exact hset.1
        · simp only [Option.some.injEq, Prod.mk.injEq] at hkd
          obtain ⟨rfl, rfl⟩ := hkd
          exact ⟨e', hem, seen, rfl, p2, p3⟩
theorem op_entry {x : Operand} {id j n : Nat} {k : List UInt8} {d : DV} {es : List (List UInt8 × DV)} (hx : E x = .iter j) (hj : H.maps[j]? = some (.iter (some id) n (some (k, d)))) (hm : H.maps[id]? = some (.map es)) :
    OpR P ⟨dst, .entry x, ty, pos, after, gd⟩ E H (Ret (.tup [.d (S k), .d d]) H) :=
  opR_value fun B w0 c w a hI hops => by
    have h1 := hops x (by simp [Op.operands])
    rw [hx] at h1
    obtain ⟨g, ev, hg⟩ := h1.iter_inv
    obtain ⟨q0, q⟩ := hI.maps.is j g _ hg hj
    cases q with
    | iter _ _ r _ _ xs clock seen hmm hr hw hn hd hs hl =>
    obtain ⟨_, q2⟩ := hI.maps.is id r _ hmm hm
    obtain ⟨xs', clock', hw', ho⟩ := q2.map_inv
    rw [hr] at hw'
    injection hw' with hw'
    injection hw' with e1 e2
    subst e1 e2
    obtain ⟨e, p1, s0, rfl, p3, p4⟩ := hl k d rfl
    have hrun := run_entry_at (P := P) w g r clock s0 xs clock e hw hr p1 ho.born
    refine ⟨.tuple #[e.key, e.val], w, c, _, H, by simp [execOp, ev, hrun], Le.refl c, .tup _ _ rfl fun m hm' => ?_, hI, rfl, rfl⟩
    match m, hm' with
    | 0, _ => rw [show (#[e.key, e.val] : Array Value).getD 0 undef = e.key from rfl, p3]; exact .d (.v _ rfl)
    | 1, _ => exact .d p4
theorem op_lookup2_at {x k : Operand} {t kt et : TypeId} {z : Value} {id : Nat} {es : List (List UInt8 × DV)} {l : List UInt8} {d0 d : DV} {b : Bool} (ht : P.underlying t = some (.map kt et)) (hkt : P.underlying kt = some .string) (hz : (P.info? et).map (·.zero) = some (some z))
    (hd : ∀ m, RepD m z d0) (hx : E x = .map id) (hl : E k = .d (S l)) (hm : H.maps[id]? = some (.map es)) (hb : (getE es l).isSome = b) (hg : (getE es l).getD d0 = d) : OpR P ⟨dst, .lookup t x k true, ty, pos, after, gd⟩ E H (Ret (.tup [.d d, .d (TF b)]) H) := by
  have h := op_lookup2 (dst := dst) (ty := ty) (pos := pos) (after := after) (gd := gd) ht hkt hz hd hx hl hm
  rwa [hb, hg] at h
theorem MapObj.erase {m : Mem} {es : List (List UInt8 × DV)} {xs : Array MapEntry} {clock i : Nat} (h : MapObj m es xs clock) (hi : i < es.length) : MapObj m (es.eraseIdx i) (xs.eraseIdxIfInBounds i) clock := by
  have hix : i < xs.size := by rw [h.len]; exact hi
  have hl : (xs.eraseIdxIfInBounds i).toList = xs.toList.eraseIdx i := by
    unfold Array.eraseIdxIfInBounds
    rw [dif_pos hix, Array.toList_eraseIdx]
  have hs : (xs.eraseIdxIfInBounds i).toList.Sublist xs.toList := by rw [hl]; exact List.eraseIdx_sublist _ _
  refine ⟨?_, (hs.map _).nodup h.born, fun x hx => h.lt x (hs.subset hx), fun j hj => ?_⟩
  · rw [← Array.length_toList, hl, List.length_eraseIdx, List.length_eraseIdx, if_pos (by simpa using hix), if_pos hi]
    simp [h.len]
  · have hje : j < es.length - 1 := by rw [List.length_eraseIdx, if_pos hi] at hj; exact hj
    have hget : ∀ k, (xs.eraseIdxIfInBounds i)[k]? = if k < i then xs[k]? else xs[k + 1]? := fun k => by
      rw [← Array.getElem?_toList, hl, List.getElem?_eraseIdx]
      simp
    have hget' : (es.eraseIdx i)[j]? = if j < i then es[j]? else es[j + 1]? := List.getElem?_eraseIdx ..
    by_cases hji : j < i
    · obtain ⟨e, q1, q2, q3⟩ := h.rep j (by omega)
      have e1 : (es.eraseIdx i)[j] = es[j]'(by omega) := by
        rw [if_pos hji, List.getElem?_eq_getElem hj, List.getElem?_eq_getElem (by omega)] at hget'
        exact Option.some.inj hget'
      exact ⟨e, by rw [hget, if_pos hji]; exact q1, by rw [e1]; exact q2, by rw [e1]; exact q3⟩
    · obtain ⟨e, q1, q2, q3⟩ := h.rep (j + 1) (by omega)
      have e1 : (es.eraseIdx i)[j] = es[j + 1]'(by omega) := by
        rw [if_neg hji, List.getElem?_eq_getElem hj, List.getElem?_eq_getElem (by omega)] at hget'
        exact Option.some.inj hget'
      exact ⟨e, by rw [hget, if_neg hji]; exact q1, by rw [e1]; exact q2, by rw [e1]; exact q3⟩
theorem pushM_nb {H : HS} {m : MB} : (H.pushM m).nb = H.nb := rfl
theorem setM_nb {H : HS} {i : Nat} {m : MB} : (H.setM i m).nb = H.nb := rfl
theorem pushM_blks {H : HS} {m : MB} : (H.pushM m).blks = H.blks := rfl
theorem setM_blks {H : HS} {i : Nat} {m : MB} : (H.setM i m).blks = H.blks := rfl
theorem noIter1 {H : HS} {es : List (List UInt8 × DV)} (h : H.maps = [.map es]) (id : Nat) : ∀ (j n : Nat) q, H.maps[j]? ≠ some (.iter (some id) n q) := by
  intro j n q
  rw [h]
  cases j with
  | zero => simp
  | succ j => simp
end
end Go.AV
namespace Go.AV
open Go.RowKit
section
variable {P : Program} {Q : Post} {T : List AV} {H : HS}
def NoGo (Q : Post) : Post
  | .goto _, _, _ => False
  | e, T, H => Q e T H
theorem noGo_normal (h : Q .normal T H) : NoGo Q .normal T H := h
theorem aw_scope {k : Code} (h : AW P k (NoGo Q) T H) : AW P (.scope k) Q T H := by
  intro B w0 c0 c w a h0 h1 h2 h3
  refine wp_scope_straight (wp_mono (h B w0 c0 c w a h0 h1 h2 h3) ?_)
  rintro e a' w' ⟨c', T', H', x1, x2, x3, x4, x5⟩
  cases e with
  | normal => exact ⟨c', T', H', x1, x2, x3, x4, x5⟩
  | exit id => exact ⟨c', T', H', x1, x2, x3, x4, x5⟩
  | goto l => exact x5.elim
  | ret => exact ⟨c', T', H', x1, x2, x3, x4, x5⟩
  | panic ch => exact ⟨c', T', H', x1, x2, x3, x4, x5⟩
  | outgrown => exact ⟨c', T', H', x1, x2, x3, x4, x5⟩
theorem aw_label {l : Nat} (h : Q .normal T H) : AW P (.label l) Q T H := fun _ _ _ c _ _ h0 h1 h2 h3 => wp_label ⟨c, T, H, h0, h1, h2, h3, h⟩
end
end Go.AV
namespace Go.AV
open Go.RowKit
inductive Lin (ops : Array Oper) : Array Bool → List Nat → Prop
  | nil {listed : Array Bool} (h : Region.ready .any ops listed = []) : Lin ops listed []
  | cons {listed : Array Bool} {j : Nat} {l : List Nat} (h : j ∈ Region.ready .any ops listed) (r : Lin ops (listed.setIfInBounds j true) l) : Lin ops listed (j :: l)
theorem go_lin {ops : Array Oper} : ∀ (fuel t : Nat) (listed : Array Bool), listed.size = ops.size → ((List.range ops.size).filter fun i => !inS listed i).length ≤ fuel → Lin ops listed (Region.linearise.go .any ops fuel t listed [])
  | 0, t, listed, hsz, hc => by
    refine .nil ?_
    cases hr : Region.ready .any ops listed with
    | nil => rfl
    | cons j l =>
      have hj : j ∈ Region.ready .any ops listed := by rw [hr]; exact List.mem_cons_self ..
      obtain ⟨h1, o, ho, _⟩ := mem_ready.1 hj
      have hlt : j < ops.size := (Array.getElem?_eq_some_iff.1 ho).1
      have h2 : inS listed j = false := by
        have : j < listed.size := by omega
        simpa [inS, this] using h1
      have : j ∈ (List.range ops.size).filter fun i => !inS listed i := by simp [hlt, h2]
      have := List.length_pos_of_mem this
      omega
  | fuel + 1, t, listed, hsz, hc => by
    simp only [Region.linearise.go]
    change Lin ops listed (match (Region.ready .any ops listed)[t % (Region.ready .any ops listed).length]? with
      | some i => Region.linearise.go .any ops fuel (t / (Region.ready .any ops listed).length) (listed.setIfInBounds i true) [i]
      | none => [].reverse)
    cases hi : (Region.ready .any ops listed)[t % (Region.ready .any ops listed).length]? with
    | none =>
      refine .nil ?_
      cases hr : Region.ready .any ops listed with
      | nil => rfl
      | cons x xs =>
        rw [hr] at hi
        have hlt : t % (x :: xs).length < (x :: xs).length := Nat.mod_lt _ (by simp)
        simp at hi
        simp at hlt
        omega
    | some i =>
      simp only []
      rw [linearise_go_acc, List.reverse_singleton, List.singleton_append]
      have hm : i ∈ Region.ready .any ops listed := List.mem_of_getElem? hi
      refine .cons hm (go_lin fuel _ _ (by simpa using hsz) ?_)
      obtain ⟨h1, o, ho, _⟩ := mem_ready.1 hm
      have hlt : i < ops.size := (Array.getElem?_eq_some_iff.1 ho).1
      have h2 : inS listed i = false := by
        have : i < listed.size := by omega
        simpa [inS, this] using h1
      have h3 : ∀ k, inS (listed.setIfInBounds i true) k = if k = i then true else inS listed k := fun k => by
        unfold inS
        by_cases hk : k = i
        · subst hk
          have : k < listed.size := by omega
          simp [this]
        · rw [if_neg hk]
          exact getD_set_ne (listed := listed) (i := i) (j := k) false (fun e => hk e.symm)
      have := filter_lt (List.range ops.size) (inS listed) (inS (listed.setIfInBounds i true)) i (by simpa using hlt) h2 (by rw [h3, if_pos rfl]) (fun k hk => by rw [h3]; split; rfl; exact hk)
      omega
theorem wp_after (P : Program) (o : Oper) (A : Array Edge) (a : Act) (w : World) (K : Act → World → Prop) (Q : Exit → Act → World → Prop) : ({ o with after := A } : Oper).wp P a w K Q = o.wp P a w K Q := by
  cases o; rfl
theorem asks_after (P : Program) (o : Oper) (A : Array Edge) (a : Act) (w : World) : ({ o with after := A } : Oper).asks P a w = o.asks P a w := by
  cases o; rfl
structure Relab (ops ops' : Array Oper) (π : Nat → Nat) (a b : Nat) : Prop where
  inv : ∀ k, π (π k) = k
  size : ops'.size = ops.size
  bound : ∀ k, k < ops.size → π k < ops.size
  at_ : ∀ k o, ops[k]? = some o → o.guard = none ∧ ∃ A, ops'[π k]? = some { o with after := A } ∧ (∀ e' ∈ A, Region.binds .any e' = true → (∃ e ∈ o.after, Region.binds .any e = true ∧ e'.on = π e.on) ∨ (k = b ∧ e'.on = π a)) ∧
    (∀ e ∈ o.after, Region.binds .any e = true → ∃ e' ∈ A, Region.binds .any e' = true ∧ e'.on = π e.on)
theorem lin_run {P : Program} {Q : Exit → Act → World → Prop} {ops ops' : Array Oper} {π : Nat → Nat} {x y : Nat} (hR : Relab ops ops' π x y) : ∀ (l : List Nat) (listed listed' : Array Bool) (fuel : Nat) (a : Act) (w : World),
    Lin ops listed l → (∀ k d, listed'.getD (π k) d = listed.getD k d) → listed.size = ops.size → listed'.size = ops.size → (∀ l1 l2, l = l1 ++ y :: l2 → x ∈ l1 ∨ listed.getD x false = true) → wpAny P .any ops' Q fuel listed' a w → wpOps P ops Q l a w
  | [], listed, listed', fuel, a, w, hl, hL, hs, hs', _, h => by
    cases hl with
    | nil hr =>
      have hr' : Region.ready .any ops' listed' = [] := by
        cases hq : Region.ready .any ops' listed' with
        | nil => rfl
        | cons j l =>
          have hj : j ∈ Region.ready .any ops' listed' := by rw [hq]; exact List.mem_cons_self ..
          obtain ⟨h1, o', ho', h2⟩ := mem_ready.1 hj
          have hjl : j < ops.size := by rw [← hR.size]; exact (Array.getElem?_eq_some_iff.1 ho').1
          obtain ⟨o, ho⟩ : ∃ o, ops[π j]? = some o := ⟨_, Array.getElem?_eq_getElem (hR.bound j hjl)⟩
          obtain ⟨_, A, hA, _, hA2⟩ := hR.at_ (π j) o ho
          rw [hR.inv, ho'] at hA
          cases hA
          have : π j ∈ Region.ready .any ops listed := by
            refine mem_ready.2 ⟨?_, o, ho, fun e he hb => ?_⟩
            · rw [← hL (π j) true, hR.inv]; exact h1
            · obtain ⟨e', he', hb', e1⟩ := hA2 e he hb
              have := h2 e' he' hb'
              rw [e1, hL] at this
              exact this
          rw [hr] at this
          cases this
      cases fuel with
      | zero => exact h.2
      | succ fuel => exact h.1 hr'
  | j :: l, listed, listed', fuel, a, w, hl, hL, hs, hs', ho, h => by
    cases hl with
    | cons hj hl =>
      obtain ⟨h1, o, hoj, h2⟩ := mem_ready.1 hj
      have hjl : j < ops.size := (Array.getElem?_eq_some_iff.1 hoj).1
      obtain ⟨hg, A, hA, hA1, _⟩ := hR.at_ j o hoj
      have hr' : π j ∈ Region.ready .any ops' listed' := by
        refine mem_ready.2 ⟨by rw [hL]; exact h1, _, hA, fun e' he' hb' => ?_⟩
        rcases hA1 e' he' hb' with ⟨e, he, hb, e1⟩ | ⟨e0, e1⟩
        · rw [e1, hL]; exact h2 e he hb
        · rw [e1, hL]
          rcases ho [] l (by rw [e0]; rfl) with h3 | h3
          · cases h3
          · exact h3
      have hL' : ∀ k d, (listed'.setIfInBounds (π j) true).getD (π k) d = (listed.setIfInBounds j true).getD k d := fun k d => by
        by_cases hk : k = j
        · subst hk
          have q1 : k < listed.size := by omega
          have q2 : π k < listed'.size := by rw [hs']; exact hR.bound k hjl
          simp [q1, q2]
        · have q3 : ¬ π k = π j := fun e => hk (by rw [← hR.inv k, e, hR.inv])
          rw [getD_set_ne d (fun e => q3 e.symm), getD_set_ne d (fun e => hk e.symm)]
          exact hL k d
      cases fuel with
      | zero => rw [h.1] at hr'; cases hr'
      | succ fuel =>
        have h3 := h.2 (π j) hr'
        rw [wpOps_cons]
        have h4 : wpOp P ops' Q (π j) (wpOps P ops Q l) a w := wpOp_mono (fun a' w' hh => lin_run hR l _ _ fuel a' w' hl hL' (by simpa using hs) (by simpa using hs') (fun l1 l2 e => by
          rcases ho (j :: l1) l2 (by rw [e]; rfl) with h5 | h5
          · rcases List.mem_cons.1 h5 with h6 | h6
            · subst h6
              refine .inr ?_
              have q1 : x < listed.size := by omega
              simp [q1]
            · exact .inl h6
          · refine .inr ?_
            by_cases hx : x = j
            · subst hx
              have q1 : x < listed.size := by omega
              simp [q1]
            · rw [getD_set_ne false (fun e => hx e.symm)]; exact h5) hh) h3
        unfold wpOp at h4 ⊢
        simp only [hoj, hA] at h4 ⊢
        have hw : ∀ (f : Nat → Option Bool), Region.wanted o f = true := fun f => by simp [Region.wanted, hg]
        have hw' : ∀ (f : Nat → Option Bool), Region.wanted { o with after := A } f = true := fun f => by simp [Region.wanted, hg]
        rw [hw', if_pos rfl, wp_after, asks_after] at h4
        rw [hw, if_pos rfl]
        exact h4
theorem which_first {i j : Nat} (hij : i ≠ j) (l : List Nat) : (∀ l1 l2, l = l1 ++ j :: l2 → i ∈ l1) ∨ (∀ l1 l2, l = l1 ++ i :: l2 → j ∈ l1) := by
  by_cases h : ∀ l1 l2, l = l1 ++ j :: l2 → i ∈ l1
  · exact .inl h
  · right
    obtain ⟨l1, l2, e, hn⟩ : ∃ l1 l2, l = l1 ++ j :: l2 ∧ i ∉ l1 := by
      refine Classical.byContradiction fun hh => h fun l1 l2 e => Classical.byContradiction fun hc => hh ⟨l1, l2, e, hc⟩
    intro m1 m2 e'
    rw [e] at e'
    rcases List.append_eq_append_iff.1 e' with ⟨c, h1, h2⟩ | ⟨c, h1, h2⟩
    · cases c with
      | nil => simp at h2; exact absurd h2.1.symm hij
      | cons x c => 
        rw [List.cons_append] at h2
        injection h2 with h2 h3
        rw [h1, ← h2]; simp
    · cases c with
      | nil => simp at h2; exact absurd h2.1 hij
      | cons x c =>
        rw [List.cons_append] at h2
        injection h2 with h2 h3
        exact absurd (by rw [h1, ← h2]; simp) hn
def relabL (l : List Oper) (π : Nat → Nat) (a b : Nat) : List Oper := (List.range l.length).map fun k' => match l[π k']? with
  | some o => { o with after := (o.after.map fun e => { e with on := π e.on }) ++ (if π k' = b then #[⟨π a, .data⟩] else #[]) }
  | none => default
theorem drun_same {P : Program} {Φ : HS → Prop} {ops ops' : Array Oper} {Q : List AV → HS → Prop} : ∀ (l l' : List Oper) (fl : List Nat) (T : List AV) (H : HS), l'.length = l.length → (∀ (k : Nat) (o : Oper), l[k]? = some o → o.guard = none ∧ ∃ A, l'[k]? = some { o with after := A }) → DRunX P Φ ops l fl T H Q → DRunX P Φ ops' l' fl T H Q
  | [], [], _, _, _, _, _, h => h
  | [], _ :: _, _, _, _, h, _, _ => by simp at h
  | _ :: _, [], _, _, _, h, _, _ => by simp at h
  | o :: l, o' :: l', fl, T, H, hl, hs, h => by
    obtain ⟨hg, A, hA⟩ := hs 0 o rfl
    simp at hA
    subst hA
    obtain ⟨v, H', hst, hp, hr⟩ := h
    refine ⟨v, H', ?_, hp.imp (fun e => by subst e; simpa using hl) id, drun_same l l' _ _ _ (by simpa using hl) (fun k o hk => by have := hs (k + 1) o (by simpa using hk); simpa using this) hr⟩
    obtain ⟨b, h1, h2⟩ := hst
    simp only [hg] at h1
    have hO : ∀ K R, OpR P o (evalT T) K R → OpR P { o with after := A } (evalT T) K R := fun K R hh B w0 c w a next Q' hI ho hn => by
      rw [wp_after]
      exact hh B w0 c w a next Q' hI ho hn
    refine ⟨b, by simp only [hg]; exact h1, ?_⟩
    cases b with
    | false => cases h1
    | true =>
      rcases hf : fl.headD 2 with _ | _ | f
      · rw [hf] at h2; exact ⟨h2.1, fun K hK => hO _ _ (h2.2 K hK)⟩
      · rw [hf] at h2; exact ⟨h2.1, hO _ _ h2.2⟩
      · rw [hf] at h2; exact hO _ _ h2
section
variable {P : Program} {Q : Post}
theorem any_drawX (Φ : HS → Prop) {T : List AV} {H : HS} {l : List Oper} (fl : List Nat) (hok : drawOk l.toArray fl (Region.before l.toArray) = true)
    (hΦ : Φ H) (hlast : (∀ K, Φ K) ∨ ((List.range (l.length - 1)).all fun j => bit (Region.before l.toArray) j (l.length - 1)) = true) (hrun : DRunX P Φ l.toArray l fl T H fun T' H' => Q .normal T' H')
    {B0 : Nat} {w0 : World} {c0 c : Ctx} {w : World} {a : Act} (h0 : Le c0 c) (h1 : Inv B0 w0 c H w) (h2 : RepT c a.tmps T) (h3 : a.defers = []) :
    wpAny P .any l.toArray (Done B0 w0 c0 Q) l.toArray.size (Array.replicate l.toArray.size false) a { w with drawn := w.drawn + 1 } := by
  obtain ⟨vs, hs, e1, ep, e2, e3⟩ := drun_ref (P := P) (ops := l.toArray) (fl := fl) l 0 fl T H _ (fun i => by simp) (fun i => by simp) hrun
  have htref : ∀ k, (List.range k).foldl (fun T j => putT T (dstAt l.toArray (0 + j)) (vs (0 + j))) T = Tref l.toArray T vs k := by
    intro k
    induction k with
    | zero => rfl
    | succ k ih => rw [List.range_succ, List.foldl_append, ih]; simp [Tref]
  simp only [htref] at e2 e3
  refine draw_main (Q := Q) (vs := vs) (hs := hs) (T0 := T) hok ⟨fun k o hk => ?_, fun k hk => by have := ep hΦ k (by simpa using hk); simpa using this, hlast.imp (fun h => h _) (fun h j hj => by simp at hj ⊢; exact List.all_eq_true.1 h j (by simp; omega))⟩ ?_ B0 w0 c0 _ _ c _ a (by simp) ?_ ?_ h0 ?_ h2.size ?_ h3
  · have := e2 k o (by simpa using hk)
    simpa using this
  · simpa using e3
  · have : ((List.range l.toArray.size).filter fun i => !inS (Array.replicate l.toArray.size false) i).length ≤ (List.range l.toArray.size).length := List.length_filter_le _ _
    simpa using this
  · intro i j hj hi hS hb
    simp only [inS] at hS
    simp at hS hj
    simp [hj] at hS
  · rw [Hc_at (j := 0) (Nat.zero_le _) (fun i hi _ => by rw [inS_none]; rfl)]
    show Inv B0 w0 c (hs 0) _
    rw [e1]
    exact h1.drew
  · intro t ht
    rw [W_at (j := 0) (Nat.zero_le _) (fun i hi _ => by rw [inS_none]; rfl)]
    exact h2.at_ t ht
end
end Go.AV
namespace Go.AV.Hist
open Go.AV.Ord Go.AV.Oct
structure Msg where
  id : List UInt8
  body : List UInt8
  ready : Int
  count : Int
  token : List UInt8
  deriving DecidableEq
def M0 : Msg := ⟨[], [], 0, 0, []⟩
def mC (m : Msg) : List DV := [S m.id, S m.body, I m.ready, I m.count, S m.token]
structure Wt where
  key : List UInt8
  val : List UInt8
  gone : Bool
def wC (w : Wt) : List DV := [S w.key, S w.val, TF w.gone]
def wD (w : Wt) : DV := .agg (wC w)
structure Cm where
  seq : Int
  at_ : Int
  ws : List Wt
def cC (c : Cm) : List DV := [I c.seq, I c.at_, .lst 3 (c.ws.map wD)]
structure Pl where
  q : List UInt8
  m : Msg
  deriving DecidableEq
def P0 : Pl := ⟨[], M0⟩
def pC (p : Pl) : List DV := S p.q :: mC p.m
def pD (p : Pl) : DV := .agg (pC p)
structure Ev where
  seq : Int
  at_ : Int
  id : List UInt8
  fr : List UInt8
  to : List UInt8
  old : Msg
  new : Msg
  deriving DecidableEq
theorem wC_one (w : Wt) : ∀ d ∈ wC w, d.one = true := by simp [wC, DV.one, S, TF]
theorem _root_.Go.AV.ACalls.args {P : Program} {f : FuncId} {args args' : List AV} {H : HS} {R : AV → HS → Prop} (h : ACalls P f args' H R) (hw : Weaks args args') : ACalls P f args H R := by
  intro B w0 c w vs hI hs ha
  exact h B w0 c w vs hI (by rw [hs, hw.len]) (hw.get c (fun i => vs.getD i undef) ha)
section
variable {P : Program} {E : Operand → AV} {H : HS} {dst : Option Tmp} {ty : TypeId} {pos : String} {after : Array Edge} {gd : Option (Nat × Bool)}
theorem agg_vals {m : Mem} {v : Value} {l : List Value} (h : RepD m v (.agg (l.map .v))) : v = .agg l.toArray := by
  generalize ha : DV.agg (l.map DV.v) = d at h
  cases h with
  | agg vs cs hl h1 hr =>
    cases ha
    congr 1
    have hl' : vs.size = l.length := by simpa using hl
    apply Array.ext
    · simpa using hl'
    · intro i hi hi'
      have := (hr i (by simpa using hi'))
      simp only [List.getElem_map] at this
      have := this.v_eq
      simp [hi] at this
      simpa using this
  | _ => cases ha
theorem op_bin_agg {op : BinOp} {x y : Operand} {t t' : TypeId} {X Y : List Value} {r : Bool} (hx : E x = .d (.agg (X.map .v))) (hy : E y = .d (.agg (Y.map .v)))
    (hg : ∀ w, (eqGuard op t x y (.agg X.toArray) (.agg Y.toArray)).run P w = .ok () w) (hr : ∀ w, (binOp op t (.agg X.toArray) (.agg Y.toArray)).run P w = .ok (.bool r) w) : OpR P ⟨dst, .binOp op t x y t', ty, pos, after, gd⟩ E H (Ret (.d (TF r)) H) :=
  opR_pure fun c w a _ hops => by
    have h1 := hops x (by simp [Op.operands])
    have h2 := hops y (by simp [Op.operands])
    rw [hx] at h1
    rw [hy] at h2
    have e1 := agg_vals h1.d_inv
    have e2 := agg_vals h2.d_inv
    refine ⟨.bool r, ?_, .d (.v _ rfl)⟩
    simp [execOp, e1, e2, hg w, hr w]
end
def str (l : List UInt8) : Value := .string ⟨l.toArray⟩
def encM (m : Msg) : List UInt8 := numB m.ready.toNat ++ numB m.count.toNat ++ textB m.token ++ textB m.body
def rM (s : List UInt8) : (Nat × Nat × List UInt8 × List UInt8) × RS :=
  let a := rNum 2199023255552 (s, false)
  let b := rNum 1000 a.2
  let c := rText 400 b.2
  let d := rText 2000 c.2
  ((a.1, b.1, c.1, d.1), d.2)
def decE (s : List UInt8) : Int := if rEnd (rM s).2 = 0 then 0 else 14
def decM (id s : List UInt8) : Msg := if rEnd (rM s).2 = 0 then ⟨id, (rM s).1.2.2.2, (rM s).1.1, (rM s).1.2.1, (rM s).1.2.2.1⟩ else M0
def msgT (k : List UInt8) : List UInt8 × List UInt8 × Bool :=
  if partsE k = 0 then match partsA k with
    | [a, q, i] => if a = [109] then (q, i, true) else ([], [], false)
    | _ => ([], [], false)
  else ([], [], false)
theorem msg_yes {k q i : List UInt8} (h0 : partsE k = 0) (h : partsA k = [[109], q, i]) : msgT k = (q, i, true) := by
  unfold msgT
  rw [if_pos h0, h]
  simp
end Go.AV.Hist
namespace Go.AV
end Go.AV
namespace Go.AV.Sb
open Go.AV.Ord Go.AV.Oct Go.AV.Hist
def Wn : Wt := ⟨[], [], false⟩
def iC (k : List UInt8) (w : Wt) : List DV := [S k, S w.key, S w.val, TF w.gone]
def iD (k : List UInt8) (w : Wt) : DV := .agg (iC k w)
theorem iC_one (k : List UInt8) (w : Wt) : ∀ d ∈ iC k w, d.one = true := by simp [iC, DV.one, S, TF]
abbrev TO := Option (List UInt8 × Wt)
def lsO : TO → List DV
  | none => []
  | some (k, w) => [.lst 4 [iD k w]]
def foundO (o : TO) (key : List UInt8) : Option Wt := match o with
  | none => none
  | some (k, w) => if k = key then some w else none
def posO (o : TO) (key : List UInt8) : Nat := match o with
  | none => 0
  | some (k, _) => if Lib.compareBytes k key < 0 then 1 else 0
theorem lit_i (k : List UInt8) (w : Wt) : ∀ y ∈ [iD k w], y.cells.length = 4 := by
  intro y hy; rcases List.mem_singleton.1 hy with rfl; rfl
theorem eq_cb (a b : List UInt8) : (Lib.compareBytes a b == 0) = decide (a = b) := by
  rw [Bool.eq_iff_iff]; simp [Val.cb_eq]
theorem lit_w (w : Wt) : ∀ y ∈ [wD w], y.cells.length = 3 := by
  intro y hy; rcases List.mem_singleton.1 hy with rfl; rfl
theorem lit_w1 (w : Wt) : ∀ d ∈ flat [wD w], d.one = true := by
  intro d hd; simp only [flat, List.flatMap_cons, List.flatMap_nil, List.append_nil] at hd; exact wC_one w d hd
end Go.AV.Sb
namespace Go.Proofs.Ytjbpfnoibeogbaa
open Go.AV Go.AV.Ord Go.AV.Oct Go.AV.Hist Go.AV.Sb
set_option linter.unusedVariables false
set_option linter.unusedSimpArgs false
set_option maxRecDepth 100000 in
theorem icmp_ok (Hs : HS) (k : List UInt8) (w : Wt) (key : List UInt8) : ACalls Try.prog 133 [.d (.agg (iC k w)), .d (S key)] Hs (Ret (.d (I (Lib.compareBytes k key))) Hs) := by
 refine acalls_of_aw Try.func133 rfl ?_
 refine aw_start (T' := [.d (.agg (iC k w)), .d (S key), .un, .un, .un, .un, .un, .un, .un]) rfl ?_
 refine aw_seq ?_
 refine aw_region ?_
 refine zst (op_box_elt (cs := [S k, S w.key, S w.val, TF w.gone]) (by rfl) (by rfl)) rfl (by dsimp only [zS, zN, zH, zT]) ?_
 refine zst (op_assign_const (by rfl)) rfl (by dsimp only [zS, zN, zH, zT]) ?_
 refine al_end rfl ?_
 refine then_normal ?_
 refine aw_seq ?_
 refine aw_region ?_
 refine zst (by first | exact op_fieldAddr_ptr Try.underlying197 rfl Sz9 (by rfl) (by rfl) | exact op_fieldAddr_elt Try.underlying197 rfl Sz9 (by rfl) (by rfl) (by rfl)) rfl (by dsimp only [zS, zN, zH, zT]) ?_
 refine zst (by first | exact op_load_elt Try.underlying9 (by rfl) (by rfl) (by rfl) | exact op_load_ptr Try.underlying9 (by rfl) (by rfl) (by rfl) (by rfl)) rfl (by dsimp only [zS, zN, zH, zT]) ?_
 refine zst (op_move_tmp (by rfl)) rfl (by dsimp only [zS, zN, zH, zT]) ?_
 refine zst (op_callF Try.func43 (by rfl) (by rfl) (.tmp (by rfl) (.tmp (by rfl) .nil)) (strCmp_ok _ k key)) rfl (by dsimp only [zS, zN, zH, zT]) ?_
 refine zst (op_assign_tmp (by rfl)) rfl (by dsimp only [zS, zN, zH, zT]) ?_
 refine al_end rfl ?_
 refine then_normal ?_
 refine aw_ret ?_
 refine retPost1 rfl rfl ?_
 exact ⟨rfl, rfl⟩
set_option maxRecDepth 100000 in
theorem bsearch_ok (Hs : HS) (k : List UInt8) (w : Wt) (key : List UInt8) (r : Nat) (hr : (if Lib.compareBytes k key < 0 then 1 else 0) = r) : ACalls Try.prog 132 [.d (.lst 4 [iD k w]), .d (S key), .fn (.func 133) [] []] Hs (Ret (.tup [.d (I (r : Nat)), .d (TF (decide (k = key)))]) Hs) := by
 have hr1 : r ≤ 1 := by subst hr; split <;> omega
 refine acalls_of_aw Try.func132 rfl ?_
 refine aw_start (T' := [.d (.lst 4 [iD k w]), .d (S key), .fn (.func 133) [] [], .un, .un, .un, .un, .un, .un, .un, .un, .un, .un, .un, .un, .un, .un, .un, .un, .un, .un, .un, .un, .un, .un, .un, .un, .un, .un, .un, .un, .un, .un, .un, .un, .un, .un, .un, .un, .un, .un, .un, .un, .un, .un, .un, .un, .un, .un]) rfl ?_
 refine aw_seq ?_
 refine aw_region ?_
 refine zst (op_assign_const (by rfl)) rfl (by dsimp only [zS, zN, zH, zT]) ?_
 refine zst (op_assign_const (by rfl)) rfl (by dsimp only [zS, zN, zH, zT]) ?_
 refine al_end rfl ?_
 refine then_normal ?_
 refine aw_seq ?_
 refine aw_region ?_
 refine zst (op_move_tmp (by rfl)) rfl (by dsimp only [zS, zN, zH, zT]) ?_
 refine zst (op_lenL Try.underlying195 (by first | exact LL.d _ _ | exact LL.own _ _ _ | exact LL.nil _ | assumption)) rfl (by dsimp only [zS, zN, zH, zT]) ?_
 refine zst (op_assign_tmp (by rfl)) rfl (by dsimp only [zS, zN, zH, zT]) ?_
 refine al_end rfl ?_
 refine then_normal ?_
 refine aw_seq ?_
 refine aw_region ?_
 refine zst (op_move_tmp (by rfl)) rfl (by dsimp only [zS, zN, zH, zT]) ?_
 refine zst (op_assign_const (by rfl)) rfl (by dsimp only [zS, zN, zH, zT]) ?_
 refine zst (op_assign_tmp (by rfl)) rfl (by dsimp only [zS, zN, zH, zT]) ?_
 refine al_end rfl ?_
 refine then_normal ?_
 refine aw_seq ?_
 refine aw_block ?_
 apply aw_loopF (fun n T H => ∃ (i : Nat) (j : Nat), T = [.d (.lst 4 [iD k w]), .d (S key), .fn (.func 133) [] [], .un, .un, .un, .un, .un, .d (I 1), .d (I i), .d (I j), .un, .un, .un, .un, .un, .un, .un, .un, .un, .un, .un, .un, .un, .un, .un, .un, .un, .un, .un, .un, .un, .un, .un, .un, .un, .un, .un, .un, .un, .un, .un, .un, .un, .un, .un, .un, .un, .un] ∧ i ≤ r ∧ r ≤ j ∧ j ≤ 1 ∧ n = j - i ∧ Hs = H) (1) [true, true, true, false, false, false, false, false, true, true, true, false, false, false, false, false, false, false, false, false, false, false, false, false, false, false, false, false, false, false, false, false, false, false, false, false, false, false, false, false, false, false, false, false, false, false, false, false, false]
 · (try dsimp only [maskT]); try exact rfl
 · rfl
 · exact ⟨0, 1, rfl, by omega, hr1, by omega, rfl, rfl⟩
 rintro n T H ⟨i, j, rfl, hi, hj, hjl, rfl, rfl⟩
 refine aw_seq ?_
 refine aw_seq ?_
 refine aw_region ?_
 refine zst (op_move_tmp (by rfl)) rfl (by dsimp only [zS, zN, zH, zT]) ?_
 refine zst (op_move_tmp (by rfl)) rfl (by dsimp only [zS, zN, zH, zT]) ?_
 refine zst (op_ltI (by rfl) (by rfl)) rfl (by dsimp only [zS, zN, zH, zT]) ?_
 refine al_end rfl ?_
 refine then_normal ?_
 refine aw_cond rfl (fun hc1 => ?_) (fun hc1 => ?_)
 ·
  (try simp only [y1, y2, y3, y4, y5, y6, y7, y8, y9, y0, List.length_map] at hc1)
  have hij : i < j := by omega
  obtain ⟨h, hh⟩ : ∃ h, (i + j) / 2 = h := ⟨_, rfl⟩
  have hh1 : i ≤ h ∧ h < j := by omega
  have hh0 : 0 = h := by omega
  refine aw_skip ?_
  refine then_normal ?_
  refine aw_block ?_
  refine aw_seq ?_
  refine aw_region ?_
  refine zst (op_move_tmp (by rfl)) rfl (by dsimp only [zS, zN, zH, zT]) ?_
  refine zst (op_move_tmp (by rfl)) rfl (by dsimp only [zS, zN, zH, zT]) ?_
  refine zst (op_add (by rfl) (by rfl) (show IntKind.i64.wrap ((i : Int) + j) = ((i + j : Nat) : Int) by rw [wrap_i64 ⟨by omega, by omega⟩]; omega)) rfl (by dsimp only [zS, zN, zH, zT]) ?_
  refine zst (op_convI (by rw [Try.underlying3]; rfl) Try.underlying164 (by rfl) (wrap_u64 ⟨by omega, by omega⟩)) rfl (by dsimp only [zS, zN, zH, zT]) ?_
  refine zst (op_shr (by rfl) (by rfl) (by omega) ((Go.AV.Val.shr1 (i + j)).trans (congrArg Nat.cast hh))) rfl (by dsimp only [zS, zN, zH, zT]) ?_
  refine zst (op_convI (by rw [Try.underlying164]; rfl) Try.underlying3 (by rfl) (wrap_i64 ⟨by omega, by omega⟩)) rfl (by dsimp only [zS, zN, zH, zT]) ?_
  refine zst (op_assign_tmp (by rfl)) rfl (by dsimp only [zS, zN, zH, zT]) ?_
  refine al_end rfl ?_
  refine then_normal ?_
  refine aw_seq ?_
  refine aw_region ?_
  refine zst (op_move_tmp (by rfl)) rfl (by dsimp only [zS, zN, zH, zT]) ?_
  refine zst (op_move_tmp (by rfl)) rfl (by dsimp only [zS, zN, zH, zT]) ?_
  refine zst (op_move_tmp (by rfl)) rfl (by dsimp only [zS, zN, zH, zT]) ?_
  refine zst (op_indexAddr (z := iD k w) (cs := [S k, S w.key, S w.val, TF w.gone]) Try.underlying195 Sz197 (LL.d _ _) (by rfl) (by omega) (by subst hh0; rfl) (by rfl)) rfl (by dsimp only [zS, zN, zH, zT]) ?_
  refine zst (op_load_elts (ds := iC k w) Try.underlying197 (by rfl) Sz197 (by rfl) (Nat.le_of_ble_eq_true rfl) (by rfl)) rfl (by dsimp only [zS, zN, zH, zT]) ?_
  refine zst (op_move_tmp (by rfl)) rfl (by dsimp only [zS, zN, zH, zT]) ?_
  refine zst (op_callV (by rfl) Try.func133 (by rfl) (by rfl) (.tmp (by rfl) (.tmp (by rfl) .nil)) (icmp_ok _ k w key)) rfl (by dsimp only [zS, zN, zH, zT]) ?_
  refine zst (op_ltI (by rfl) (by rfl)) rfl (by dsimp only [zS, zN, zH, zT]) ?_
  refine al_end rfl ?_
  refine then_normal ?_
  refine aw_cond rfl (fun hc2 => ?_) (fun hc2 => ?_)
  ·
   (try simp only [y1, y2, y3, y4, y5, y6, y7, y8, y9, y0, List.length_map] at hc2)
   have hless : h + 1 ≤ r := by rw [if_pos hc2] at hr; omega
   refine aw_region ?_
   refine zst (op_move_tmp (by rfl)) rfl (by dsimp only [zS, zN, zH, zT]) ?_
   refine zst (by first | exact op_add (by rfl) (by rfl) (wrap_i64 ⟨by omega, by omega⟩) | exact op_add (by rfl) (by rfl) (by rfl)) rfl (by dsimp only [zS, zN, zH, zT]) ?_
   refine zst (op_assign_tmp (by rfl)) rfl (by dsimp only [zS, zN, zH, zT]) ?_
   refine al_end rfl ?_
   refine inBlock_normal ?_
   apply again_to (j - (h + 1)) [true, true, true, false, false, false, false, false, true, true, true, false, false, false, false, false, false, false, false, false, false, false, false, false, false, false, false, false, false, false, false, false, false, false, false, false, false, false, false, false, false, false, false, false, false, false, false, false, false]
   · (try dsimp only [maskT]); try exact rfl
   · rfl
   · omega
   exact ⟨h + 1, j, rfl, hless, hj, hjl, rfl, rfl⟩
  ·
   (try simp only [y1, y2, y3, y4, y5, y6, y7, y8, y9, y0, List.length_map] at hc2)
   have hless : r ≤ h := by rw [if_neg hc2] at hr; omega
   refine aw_region ?_
   refine zst (op_move_tmp (by rfl)) rfl (by dsimp only [zS, zN, zH, zT]) ?_
   refine zst (op_assign_tmp (by rfl)) rfl (by dsimp only [zS, zN, zH, zT]) ?_
   refine al_end rfl ?_
   refine inBlock_normal ?_
   apply again_to (h - i) [true, true, true, false, false, false, false, false, true, true, true, false, false, false, false, false, false, false, false, false, false, false, false, false, false, false, false, false, false, false, false, false, false, false, false, false, false, false, false, false, false, false, false, false, false, false, false, false, false]
   · (try dsimp only [maskT]); try exact rfl
   · rfl
   · omega
   exact ⟨i, h, rfl, hi, hless, by omega, rfl, rfl⟩
 ·
  (try simp only [y1, y2, y3, y4, y5, y6, y7, y8, y9, y0, List.length_map] at hc1)
  have hij : i = j := by omega
  subst hij
  have hpi : r = i := by omega
  subst hpi
  refine aw_exit ?_
  refine then_exit (again_exit (inBlock_here (then_normal ?_)))
  refine aw_seq ?_
  refine aw_region ?_
  refine zst (op_move_tmp (by rfl)) rfl (by dsimp only [zS, zN, zH, zT]) ?_
  refine zst (op_move_tmp (by rfl)) rfl (by dsimp only [zS, zN, zH, zT]) ?_
  refine zst (op_move_tmp (by rfl)) rfl (by dsimp only [zS, zN, zH, zT]) ?_
  refine zst (op_ltI (by rfl) (by rfl)) rfl (by dsimp only [zS, zN, zH, zT]) ?_
  refine zst (op_move_tmp (by rfl)) rfl (by dsimp only [zS, zN, zH, zT]) ?_
  refine al_split 39 rfl (fun hg3 => ?_) (fun hg3 => ?_)
  ·
   (try simp only [y1, y2, y3, y4, y5, y6, y7, y8, y9, y0, List.length_map] at hg3)
   have hil : 0 = r := by (have h : (r : Int) < 1 := hg3); omega
   apply al_normT
   · (try dsimp only [zS, zN, zH, zT]); try exact rfl
   refine zsw rfl rfl rfl (op_move_tmp (by rfl)) (by dsimp only [zS, zN, zH, zT]) ?_
   refine zsw rfl rfl rfl (op_move_tmp (by rfl)) (by dsimp only [zS, zN, zH, zT]) ?_
   refine zsw rfl rfl rfl (op_move_tmp (by rfl)) (by dsimp only [zS, zN, zH, zT]) ?_
   refine zsw rfl rfl rfl (op_indexAddr (z := iD k w) (cs := [S k, S w.key, S w.val, TF w.gone]) Try.underlying195 Sz197 (LL.d _ _) (by rfl) (by omega) (by subst hil; rfl) (by rfl)) (by dsimp only [zS, zN, zH, zT]) ?_
   refine zsw rfl rfl rfl (op_load_elts (ds := iC k w) Try.underlying197 (by rfl) Sz197 (by rfl) (Nat.le_of_ble_eq_true rfl) (by rfl)) (by dsimp only [zS, zN, zH, zT]) ?_
   refine zsw rfl rfl rfl (op_move_tmp (by rfl)) (by dsimp only [zS, zN, zH, zT]) ?_
   refine zsw rfl rfl rfl (op_callV (by rfl) Try.func133 (by rfl) (by rfl) (.tmp (by rfl) (.tmp (by rfl) .nil)) (icmp_ok _ k w key)) (by dsimp only [zS, zN, zH, zT]) ?_
   refine zsw rfl rfl rfl (op_eqI (by rfl) (by rfl)) (by dsimp only [zS, zN, zH, zT]) ?_
   refine zst (op_pick_tt (by rfl) (val_tmp (by rfl))) rfl (by dsimp only [zS, zN, zH, zT]) ?_
   refine zst (op_assign_tmp (by rfl)) rfl (by dsimp only [zS, zN, zH, zT]) ?_
   refine zst (op_assign_tmp (by rfl)) rfl (by dsimp only [zS, zN, zH, zT]) ?_
   refine al_end rfl ?_
   refine then_normal ?_
   refine aw_ret ?_
   refine retPost2 rfl rfl rfl ?_
   exact ⟨by rw [eq_cb], rfl⟩
  ·
   (try simp only [y1, y2, y3, y4, y5, y6, y7, y8, y9, y0, List.length_map] at hg3)
   have hil : ¬ r < 1 := by (have h : ¬ (r : Int) < 1 := hg3); omega
   apply al_normT
   · (try dsimp only [zS, zN, zH, zT]); try exact rfl
   refine zuw rfl rfl rfl rfl (by dsimp only [zS, zN, zH, zT]) ?_
   refine zuw rfl rfl rfl rfl (by dsimp only [zS, zN, zH, zT]) ?_
   refine zuw rfl rfl rfl rfl (by dsimp only [zS, zN, zH, zT]) ?_
   refine zuw rfl rfl rfl rfl (by dsimp only [zS, zN, zH, zT]) ?_
   refine zuw rfl rfl rfl rfl (by dsimp only [zS, zN, zH, zT]) ?_
   refine zuw rfl rfl rfl rfl (by dsimp only [zS, zN, zH, zT]) ?_
   refine zuw rfl rfl rfl rfl (by dsimp only [zS, zN, zH, zT]) ?_
   refine zuw rfl rfl rfl rfl (by dsimp only [zS, zN, zH, zT]) ?_
   refine zst (op_pick_ff (by rfl) (val_const (by rfl))) rfl (by dsimp only [zS, zN, zH, zT]) ?_
   refine zst (op_assign_tmp (by rfl)) rfl (by dsimp only [zS, zN, zH, zT]) ?_
   refine zst (op_assign_tmp (by rfl)) rfl (by dsimp only [zS, zN, zH, zT]) ?_
   refine al_end rfl ?_
   refine then_normal ?_
   refine aw_ret ?_
   refine retPost2 rfl rfl rfl ?_
   exact ⟨by (have hne : ¬ k = key := by intro e; subst e; rw [Go.AV.Val.cb_eq.2 rfl] at hr; simp at hr; omega); rw [decide_eq_false hne]; rfl, rfl⟩
set_option maxRecDepth 100000 in
theorem leafc_ok (Hs : HS) (tid sid : Nat) (lv : AV) (sz : Int) (p : Nat) (k : List UInt8) (w : Wt) (key : List UInt8) (i : Nat) (hi : 0 = i) (hp : Hs.blks[p]? = some ⟨193, [.ptr tid 5], false⟩) (hT : Hs.blks[tid]? = some ⟨145, [.ptr sid 0, .d (I 0), .d (I 0), .d (I 0), .d (I 0), lv, .d (I sz)], false⟩) (hL : LL lv 1 (lsO (some (k, w)))) : ACalls Try.prog 161 [.d (I i), .ptr p 0, .elt [S key]] Hs (Ret (.d (TF (!(Op.bytesLess k key || k == key)))) Hs) := by
 refine acalls_of_aw Try.func161 rfl ?_
 refine aw_start (T' := [.d (I i), .ptr p 0, .elt [S key], .un, .un, .un, .un, .un, .un, .un, .un, .un, .un, .un, .un, .un, .un]) rfl ?_
 refine aw_seq ?_
 refine aw_region ?_
 refine zst (op_assign_const (by rfl)) rfl (by dsimp only [zS, zN, zH, zT]) ?_
 refine al_end rfl ?_
 refine then_normal ?_
 refine aw_seq ?_
 refine aw_draw [1, 0, 0, 1, 0, 0, 1, 0, 0, 1, 1, 0, 0] mixed (by kernel_rfl) ?_
 refine zd1 (by first | exact op_load_elt Try.underlying193 (by rfl) (by rfl) (by rfl) | exact op_load_ptr Try.underlying193 (by rfl) (by rfl) (by assumption) (by rfl)) rfl (by dsimp only [zS, zN, zH, zT]) ?_
 refine zd0 (fun H => (by first | exact op_nilCheck_ptr (by rfl) | exact op_nilCheck_elt (by rfl))) rfl (by dsimp only [zS, zN, zH, zT]) ?_
 refine zd0 (fun H => (by first | exact op_fieldAddr_ptr Try.underlying143 rfl Sz141 (by rfl) (by rfl) | exact op_fieldAddr_elt Try.underlying143 rfl Sz141 (by rfl) (by rfl) (by rfl))) rfl (by dsimp only [zS, zN, zH, zT]) ?_
 refine zd1 (by first | exact op_load_elt Try.underlying141 (by rfl) (by rfl) (by rfl) | exact op_load_ptr Try.underlying141 (by rfl) (by rfl) (by assumption) (by rfl)) rfl (by dsimp only [zS, zN, zH, zT]) ?_
 refine zd0 (fun H => (op_move_tmp (by rfl))) rfl (by dsimp only [zS, zN, zH, zT]) ?_
 refine zd0 (fun H => (op_indexAddr (z := .lst 4 [iD k w]) (cs := [.lst 4 [iD k w]]) Try.underlying141 Sz195 hL (by rfl) (by omega) (by subst hi; rfl) (by rfl))) rfl (by dsimp only [zS, zN, zH, zT]) ?_
 refine zd1 (op_load_elt Try.underlying195 (by rfl) (by rfl) (by rfl)) rfl (by dsimp only [zS, zN, zH, zT]) ?_
 refine zd0 (fun H => (op_indexAddr (z := iD k w) (cs := [S k, S w.key, S w.val, TF w.gone]) Try.underlying195 Sz197 (LL.d _ _) (by rfl) (by decide) (by rfl) (by rfl))) rfl (by dsimp only [zS, zN, zH, zT]) ?_
 refine zd0 (fun H => (by first | exact op_fieldAddr_ptr Try.underlying197 rfl Sz9 (by rfl) (by rfl) | exact op_fieldAddr_elt Try.underlying197 rfl Sz9 (by rfl) (by rfl) (by rfl))) rfl (by dsimp only [zS, zN, zH, zT]) ?_
 refine zd1 (op_load_elt Try.underlying9 (by rfl) (by rfl) (by rfl)) rfl (by dsimp only [zS, zN, zH, zT]) ?_
 refine zd1 (op_load_elt Try.underlying9 (by rfl) (by rfl) (by rfl)) rfl (by dsimp only [zS, zN, zH, zT]) ?_
 refine zd0 (fun H => (op_gtS (by rfl) (by rfl))) rfl (by dsimp only [zS, zN, zH, zT]) ?_
 refine zd0 (fun H => (op_assign_tmp (by rfl))) rfl (by dsimp only [zS, zN, zH, zT]) ?_
 refine drun_end rfl ?_
 refine then_normal ?_
 refine aw_ret ?_
 refine retPost1 rfl rfl ?_
 exact ⟨rfl, rfl⟩
set_option maxRecDepth 100000 in
theorem ssearch_ok (Hs : HS) (tid sid : Nat) (lv : AV) (sz : Int) (p : Nat) (k : List UInt8) (w : Wt) (key : List UInt8) (r : Nat) (hr : (if (!(Op.bytesLess k key || k == key)) = true then 0 else 1) = r) (hp : Hs.blks[p]? = some ⟨193, [.ptr tid 5], false⟩) (hT : Hs.blks[tid]? = some ⟨145, [.ptr sid 0, .d (I 0), .d (I 0), .d (I 0), .d (I 0), lv, .d (I sz)], false⟩) (hL : LL lv 1 (lsO (some (k, w)))) : ACalls Try.prog 153 [.d (I 1), .fn (.func 161) [] [.ptr p 0, .elt [S key]]] Hs (Ret (.d (I (r : Nat))) Hs) := by
 have hr1 : r ≤ 1 := by subst hr; split <;> omega
 refine acalls_of_aw Try.func153 rfl ?_
 refine aw_start (T' := [.d (I 1), .fn (.func 161) [] [.ptr p 0, .elt [S key]], .un, .un, .un, .un, .un, .un, .un, .un, .un, .un, .un, .un, .un, .un, .un, .un, .un, .un, .un, .un, .un, .un, .un, .un]) rfl ?_
 refine aw_seq ?_
 refine aw_region ?_
 refine zst (op_assign_const (by rfl)) rfl (by dsimp only [zS, zN, zH, zT]) ?_
 refine al_end rfl ?_
 refine then_normal ?_
 refine aw_seq ?_
 refine aw_region ?_
 refine zst (op_move_tmp (by rfl)) rfl (by dsimp only [zS, zN, zH, zT]) ?_
 refine zst (op_assign_const (by rfl)) rfl (by dsimp only [zS, zN, zH, zT]) ?_
 refine zst (op_assign_tmp (by rfl)) rfl (by dsimp only [zS, zN, zH, zT]) ?_
 refine al_end rfl ?_
 refine then_normal ?_
 refine aw_seq ?_
 refine aw_block ?_
 apply aw_loopF (fun n T H => ∃ (i : Nat) (j : Nat), T = [.un, .fn (.func 161) [] [.ptr p 0, .elt [S key]], .un, .un, .un, .d (I i), .d (I j), .un, .un, .un, .un, .un, .un, .un, .un, .un, .un, .un, .un, .un, .un, .un, .un, .un, .un, .un] ∧ i ≤ r ∧ r ≤ j ∧ j ≤ 1 ∧ n = j - i ∧ Hs = H) (1) [false, true, false, false, false, true, true, false, false, false, false, false, false, false, false, false, false, false, false, false, false, false, false, false, false, false]
 · (try dsimp only [maskT]); try exact rfl
 · rfl
 · exact ⟨0, 1, rfl, by omega, hr1, by omega, rfl, rfl⟩
 rintro n T H ⟨i, j, rfl, hi, hj, hjl, rfl, rfl⟩
 refine aw_seq ?_
 refine aw_seq ?_
 refine aw_region ?_
 refine zst (op_move_tmp (by rfl)) rfl (by dsimp only [zS, zN, zH, zT]) ?_
 refine zst (op_move_tmp (by rfl)) rfl (by dsimp only [zS, zN, zH, zT]) ?_
 refine zst (op_ltI (by rfl) (by rfl)) rfl (by dsimp only [zS, zN, zH, zT]) ?_
 refine al_end rfl ?_
 refine then_normal ?_
 refine aw_cond rfl (fun hc1 => ?_) (fun hc1 => ?_)
 ·
  (try simp only [y1, y2, y3, y4, y5, y6, y7, y8, y9, y0, List.length_map] at hc1)
  have hij : i < j := by omega
  obtain ⟨h, hh⟩ : ∃ h, (i + j) / 2 = h := ⟨_, rfl⟩
  have hh1 : i ≤ h ∧ h < j := by omega
  have hh0 : 0 = h := by omega
  refine aw_skip ?_
  refine then_normal ?_
  refine aw_block ?_
  refine aw_seq ?_
  refine aw_region ?_
  refine zst (op_move_tmp (by rfl)) rfl (by dsimp only [zS, zN, zH, zT]) ?_
  refine zst (op_move_tmp (by rfl)) rfl (by dsimp only [zS, zN, zH, zT]) ?_
  refine zst (op_add (by rfl) (by rfl) (show IntKind.i64.wrap ((i : Int) + j) = ((i + j : Nat) : Int) by rw [wrap_i64 ⟨by omega, by omega⟩]; omega)) rfl (by dsimp only [zS, zN, zH, zT]) ?_
  refine zst (op_convI (by rw [Try.underlying3]; rfl) Try.underlying164 (by rfl) (wrap_u64 ⟨by omega, by omega⟩)) rfl (by dsimp only [zS, zN, zH, zT]) ?_
  refine zst (op_shr (by rfl) (by rfl) (by omega) ((Go.AV.Val.shr1 (i + j)).trans (congrArg Nat.cast hh))) rfl (by dsimp only [zS, zN, zH, zT]) ?_
  refine zst (op_convI (by rw [Try.underlying164]; rfl) Try.underlying3 (by rfl) (wrap_i64 ⟨by omega, by omega⟩)) rfl (by dsimp only [zS, zN, zH, zT]) ?_
  refine zst (op_assign_tmp (by rfl)) rfl (by dsimp only [zS, zN, zH, zT]) ?_
  refine al_end rfl ?_
  refine then_normal ?_
  refine aw_seq ?_
  refine aw_region ?_
  refine zst (op_move_tmp (by rfl)) rfl (by dsimp only [zS, zN, zH, zT]) ?_
  refine zst (op_move_tmp (by rfl)) rfl (by dsimp only [zS, zN, zH, zT]) ?_
  refine zst (op_callV (by rfl) Try.func161 (by rfl) (by rfl) (.tmp (by rfl) .nil) (leafc_ok _ tid sid lv sz p k w key h hh0 hp hT hL)) rfl (by dsimp only [zS, zN, zH, zT]) ?_
  refine zst (op_not (by rfl)) rfl (by dsimp only [zS, zN, zH, zT]) ?_
  refine al_end rfl ?_
  refine then_normal ?_
  refine aw_cond rfl (fun hc2 => ?_) (fun hc2 => ?_)
  ·
   (try simp only [y1, y2, y3, y4, y5, y6, y7, y8, y9, y0, List.length_map] at hc2)
   have hgt : ¬ (!(Op.bytesLess k key || k == key)) = true := by simp at hc2 ⊢; rcases hc2 with h | h <;> simp [h]
   have hless : h + 1 ≤ r := by rw [if_neg hgt] at hr; omega
   refine aw_region ?_
   refine zst (op_move_tmp (by rfl)) rfl (by dsimp only [zS, zN, zH, zT]) ?_
   refine zst (by first | exact op_add (by rfl) (by rfl) (wrap_i64 ⟨by omega, by omega⟩) | exact op_add (by rfl) (by rfl) (by rfl)) rfl (by dsimp only [zS, zN, zH, zT]) ?_
   refine zst (op_assign_tmp (by rfl)) rfl (by dsimp only [zS, zN, zH, zT]) ?_
   refine al_end rfl ?_
   refine inBlock_normal ?_
   apply again_to (j - (h + 1)) [false, true, false, false, false, true, true, false, false, false, false, false, false, false, false, false, false, false, false, false, false, false, false, false, false, false]
   · (try dsimp only [maskT]); try exact rfl
   · rfl
   · omega
   exact ⟨h + 1, j, rfl, hless, hj, hjl, rfl, rfl⟩
  ·
   (try simp only [y1, y2, y3, y4, y5, y6, y7, y8, y9, y0, List.length_map] at hc2)
   have hgt : (!(Op.bytesLess k key || k == key)) = true := by simpa using hc2
   have hless : r ≤ h := by rw [if_pos hgt] at hr; omega
   refine aw_region ?_
   refine zst (op_move_tmp (by rfl)) rfl (by dsimp only [zS, zN, zH, zT]) ?_
   refine zst (op_assign_tmp (by rfl)) rfl (by dsimp only [zS, zN, zH, zT]) ?_
   refine al_end rfl ?_
   refine inBlock_normal ?_
   apply again_to (h - i) [false, true, false, false, false, true, true, false, false, false, false, false, false, false, false, false, false, false, false, false, false, false, false, false, false, false]
   · (try dsimp only [maskT]); try exact rfl
   · rfl
   · omega
   exact ⟨i, h, rfl, hi, hless, by omega, rfl, rfl⟩
 ·
  (try simp only [y1, y2, y3, y4, y5, y6, y7, y8, y9, y0, List.length_map] at hc1)
  have hij : i = j := by omega
  subst hij
  have hpi : r = i := by omega
  subst hpi
  refine aw_exit ?_
  refine then_exit (again_exit (inBlock_here (then_normal ?_)))
  refine aw_seq ?_
  refine aw_region ?_
  refine zst (op_move_tmp (by rfl)) rfl (by dsimp only [zS, zN, zH, zT]) ?_
  refine zst (op_assign_tmp (by rfl)) rfl (by dsimp only [zS, zN, zH, zT]) ?_
  refine al_end rfl ?_
  refine then_normal ?_
  refine aw_ret ?_
  refine retPost1 rfl rfl ?_
  exact ⟨rfl, rfl⟩
set_option maxRecDepth 100000 in
theorem leaf_ok (Hs : HS) (tid sid : Nat) (lv : AV) (sz : Int) (k : List UInt8) (w : Wt) (key : List UInt8) (hT : Hs.blks[tid]? = some ⟨145, [.ptr sid 0, .d (I 0), .d (I 0), .d (I 0), .d (I 0), lv, .d (I sz)], false⟩) (hL : LL lv 1 (lsO (some (k, w)))) : ACalls Try.prog 131 [.ptr tid 5, .d (S key)] Hs (Ret (.d (I 0)) Hs) := by
 refine ACalls.tidy1 ?_
 obtain ⟨r, hr⟩ : ∃ r, (if (!(Op.bytesLess k key || k == key)) = true then 0 else 1) = r := ⟨_, rfl⟩
 have hr1 : r = 0 ∨ r = 1 := by subst hr; split <;> simp
 refine acalls_of_aw Try.func131 rfl ?_
 refine aw_start (T' := [.ptr tid 5, .d (S key), .un, .un, .un, .un, .un, .un, .un, .un, .un, .un, .un, .un, .un, .un]) rfl ?_
 refine aw_seq ?_
 refine aw_region ?_
 refine zst (op_box_ptr (cs := [.ptr tid 5]) (by intro h; cases h) (by rfl)) rfl (by dsimp only [zS, zN, zH, zT]) ?_
 refine zst (op_box_elt (cs := [S key]) (by rfl) (by rfl)) rfl (by dsimp only [zS, zN, zH, zT]) ?_
 refine zst (op_assign_const (by rfl)) rfl (by dsimp only [zS, zN, zH, zT]) ?_
 refine al_end rfl ?_
 refine then_normal ?_
 refine aw_seq ?_
 refine aw_region ?_
 refine zst (by first | exact op_load_elt Try.underlying193 (by rfl) (by rfl) (by rfl) | exact op_load_ptr Try.underlying193 (by rfl) (by rfl) (by first | assumption | exact push_at | exact push_ne hT) (by rfl)) rfl (by dsimp only [zS, zN, zH, zT]) ?_
 refine zst (by first | exact op_nilCheck_ptr (by rfl) | exact op_nilCheck_elt (by rfl)) rfl (by dsimp only [zS, zN, zH, zT]) ?_
 refine zst (by first | exact op_fieldAddr_ptr Try.underlying143 rfl Sz141 (by rfl) (by rfl) | exact op_fieldAddr_elt Try.underlying143 rfl Sz141 (by rfl) (by rfl) (by rfl)) rfl (by dsimp only [zS, zN, zH, zT]) ?_
 refine zst (by first | exact op_load_elt Try.underlying141 (by rfl) (by rfl) (by rfl) | exact op_load_ptr Try.underlying141 (by rfl) (by rfl) (by first | assumption | exact push_at | exact push_ne hT) (by rfl)) rfl (by dsimp only [zS, zN, zH, zT]) ?_
 refine zst (op_lenL Try.underlying141 hL) rfl (by dsimp only [zS, zN, zH, zT]) ?_
 refine zst (op_makeFn .nil (.tmp (by rfl) (.tmp (by rfl) .nil))) rfl (by dsimp only [zS, zN, zH, zT]) ?_
 refine zst (op_callF Try.func153 (by rfl) (by rfl) (.tmp (by rfl) (.tmp (by rfl) .nil)) (ssearch_ok _ tid sid lv sz _ k w key r hr push_at (push_ne hT) hL)) rfl (by dsimp only [zS, zN, zH, zT]) ?_
 refine zst (op_assign_tmp (by rfl)) rfl (by dsimp only [zS, zN, zH, zT]) ?_
 refine al_end rfl ?_
 refine then_normal ?_
 refine aw_seq ?_
 refine aw_region ?_
 refine zst (op_move_tmp (by rfl)) rfl (by dsimp only [zS, zN, zH, zT]) ?_
 refine zst (op_sub (r := (r : Int) - 1) (by rfl) (by rfl) (by rcases hr1 with h | h <;> subst h <;> rfl)) rfl (by dsimp only [zS, zN, zH, zT]) ?_
 refine zst (op_max (by rfl) (by rfl)) rfl (by dsimp only [zS, zN, zH, zT]) ?_
 refine zst (op_assign_tmp (by rfl)) rfl (by dsimp only [zS, zN, zH, zT]) ?_
 refine al_end rfl ?_
 refine then_normal ?_
 refine aw_ret ?_
 refine retPost1 rfl rfl ?_
 exact ⟨by rcases hr1 with h | h <;> subst h <;> rfl, (Ext.refl Hs).push _ _⟩
end Go.Proofs.Ytjbpfnoibeogbaa
namespace Go.AV.Sb
open Go.AV.Ord Go.AV.Oct Go.AV.Hist Go.AV.Val
structure It where
  key : List UInt8
  w : Wt
def itC (x : It) : List DV := iC x.key x.w
def itD (x : It) : DV := iD x.key x.w
theorem itC_len (x : It) : (itC x).length = 4 := rfl
theorem itC_one (x : It) : ∀ d ∈ itC x, d.one = true := iC_one _ _
theorem lit_it (x : It) : ∀ y ∈ [itD x], y.cells.length = 4 := lit_i _ _
def toF (x : It) : F := ⟨x.key, ofText []⟩
def icells (l : List It) : List AV := (flat (l.map itD)).map .d
theorem fsz (l : List It) : ∀ y ∈ l.map itD, y.cells.length = 4 := by
  intro y hy
  obtain ⟨f, _, rfl⟩ := List.mem_map.1 hy
  exact itC_len f
theorem fone (l : List It) : ∀ d ∈ flat (l.map itD), d.one = true := by
  intro d hd
  obtain ⟨y, hy, hd⟩ := List.mem_flatMap.1 hd
  obtain ⟨f, _, rfl⟩ := List.mem_map.1 hy
  exact itC_one f d hd
theorem icells_len (l : List It) : (icells l).length = l.length * 4 := by
  rw [icells, List.length_map, flat_length (fsz l), List.length_map]
theorem icells_take (l : List It) (i : Nat) : icells (l.take i) = (icells l).take (i * 4) := by
  rw [icells, icells, List.map_take, flat_take' (fsz l), List.map_take]
theorem icells_drop (l : List It) (i : Nat) : icells (l.drop i) = (icells l).drop (i * 4) := by
  rw [icells, icells, List.map_drop, flat_drop' (fsz l), List.map_drop]
theorem icells_append (l m : List It) : icells (l ++ m) = icells l ++ icells m := by
  simp [icells, flat]
theorem icells_cons (f : It) (m : List It) : icells (f :: m) = (itC f).map .d ++ icells m := by
  simp only [icells, flat, List.map_cons, List.flatMap_cons, List.map_append]
  rfl
theorem icells_at {l : List It} {k : Nat} {f : It} (h : l[k]? = some f) : ((icells l).drop (k * 4)).take 4 = (itC f).map .d := by
  rw [← icells_drop, drop_one h, icells_cons, List.take_left' (by rw [List.length_map, itC_len])]
theorem icells_one (l : List It) : ∀ v ∈ icells l, v.one = true := by
  intro v hv
  obtain ⟨d, hd, rfl⟩ := List.mem_map.1 hv
  exact fone l d hd
abbrev ArrI (H : HS) (tF : TypeId) (v : AV) (l : List It) : Prop := Arr H tF 4 v l.length (icells l)
section
variable {P : Program} {E : Operand → AV} {H : HS} {dst : Option Tmp} {ty : TypeId} {pos : String} {after : Array Edge} {gd : Option (Nat × Bool)}
theorem cellsI_at {cs : List AV} {l : List It} {k : Nat} {f : It} (hu : cs.take (l.length * 4) = icells l) (h : l[k]? = some f) : (cs.drop (k * 4)).take 4 = (itC f).map .d := by
  have hk : k < l.length := (List.getElem?_eq_some_iff.1 h).1
  rw [← icells_at h, ← hu, List.drop_take, List.take_take, Nat.min_eq_left (by omega)]
theorem op_loadIA {x : Operand} {t : TypeId} {d : TypeDesc} {id k : Nat} {b : HB} (f : It) (ht : P.underlying t = some d) (hd : notAgg d = false) (hn : (P.info? t).map (·.size) = some 4) (hx : E x = .ptr id (k * 4)) (hb : H.blks[id]? = some b) (hf : k * 4 + 4 ≤ b.cs.length) (hv : (b.cs.drop (k * 4)).take 4 = (itC f).map .d) :
    OpR P ⟨dst, .load t x, ty, pos, after, gd⟩ E H (Ret (.d (.agg (itC f))) H) :=
  op_load_ptrsD (itC f) ht hd hn hx hb hf hv (itC_one f)
end
theorem setI_cells {cs : List AV} {l : List It} {k : Nat} {f g : It} (hu : cs.take (l.length * 4) = icells l) (h : l[k]? = some g) (hl : l.length * 4 ≤ cs.length) : (putL cs (k * 4) ((itC f).map .d)).take ((l.set k f).length * 4) = icells (l.set k f) := by
  have hk : k < l.length := (List.getElem?_eq_some_iff.1 h).1
  have e : l.set k f = l.take k ++ f :: l.drop (k + 1) := by rw [List.set_eq_take_append_cons_drop, if_pos hk]
  have hx : ((itC f).map AV.d).length = 4 := by rw [List.length_map, itC_len]
  rw [List.length_set, e, icells_append, icells_cons, icells_take, icells_drop, ← hu]
  rw [putL_eq (by rw [hx]; omega), hx]
  rw [List.take_take, Nat.min_eq_left (by omega)]
  have hA : (cs.take (k * 4)).length = k * 4 := by rw [List.length_take]; omega
  rw [List.take_append, hA, List.take_of_length_le (show (cs.take (k * 4)).length ≤ l.length * 4 by rw [hA]; omega), List.take_append, hx, List.take_of_length_le (show ((itC f).map AV.d).length ≤ l.length * 4 - k * 4 by rw [hx]; omega), List.drop_take]
  rw [show k * 4 + 4 = (k + 1) * 4 by omega, show l.length * 4 - k * 4 - 4 = l.length * 4 - (k + 1) * 4 by omega]
structure InsI (Hs : HS) (tF : TypeId) (v : AV) (l : List It) (av : AV) (H' : HS) : Prop where
  arr : ArrI H' tF av l
  kept : Kept Hs H' v
  new : ∀ id n c, av = .arr id n c → Hs.nb ≤ id ∨ ∃ n c, v = .arr id n c
theorem insI_len {l : List It} {i : Nat} {x : It} (hi : i ≤ l.length) : (l.take i ++ x :: l.drop i).length = l.length + 1 := by simp; omega
theorem insI_cells {l : List It} {i : Nat} {x : It} : icells (l.take i ++ x :: l.drop i) = (icells l).take (i * 4) ++ ((itC x).map .d ++ (icells l).drop (i * 4)) := by
  rw [icells_append, icells_cons, icells_take, icells_drop]
theorem restI_cells {cs : List AV} {l : List It} {i : Nat} (hu : cs.take (l.length * 4) = icells l) : (cs.drop (i * 4)).take ((l.length - i) * 4) = (icells l).drop (i * 4) := by
  rw [← hu, List.drop_take, Nat.sub_mul]
theorem insI_grow {Hs : HS} {tF : TypeId} {v : AV} {l : List It} {i : Nat} {x : It} {cap c2 : Nat} {cs : List AV} (hc : cs.length = cap * 4) (hn : l.length ≤ cap) (hu : cs.take (l.length * 4) = icells l) (hi : i < l.length) (hc2 : i + (l.length + 1 - i) ≤ c2) :
    InsI Hs tF v (l.take i ++ x :: l.drop i) (.arr Hs.nb (i + (l.length + 1 - i)) c2) (((Hs.push tF (cs.take (i * 4) ++ List.replicate ((c2 - i) * 4) .un)).put Hs.nb (i * 4) ((itC x).map .d)).put Hs.nb ((i + 1) * 4) ((cs.drop (i * 4)).take ((l.length - i) * 4))) := by
  have hX : ((itC x).map AV.d).length = 4 := by rw [List.length_map, itC_len]
  have hP : (cs.take (i * 4)).length = i * 4 := by rw [List.length_take]; omega
  have hR : ((cs.drop (i * 4)).take ((l.length - i) * 4)).length = (l.length - i) * 4 := by rw [List.length_take, List.length_drop]; omega
  have hZ : (cs.take (i * 4) ++ List.replicate ((c2 - i) * 4) AV.un).length = c2 * 4 := by rw [List.length_append, hP, List.length_replicate]; omega
  have e0 : i + (l.length + 1 - i) = l.length + 1 := by omega
  rw [e0]
  have hb1 : ((Hs.push tF (cs.take (i * 4) ++ List.replicate ((c2 - i) * 4) .un)).put Hs.nb (i * 4) ((itC x).map .d)).blks[Hs.nb]? = some ⟨tF, putL (cs.take (i * 4) ++ List.replicate ((c2 - i) * 4) .un) (i * 4) ((itC x).map .d), false⟩ := put_blks_at push_at
  have hb2 := put_blks_at (off := (i + 1) * 4) (vs := (cs.drop (i * 4)).take ((l.length - i) * 4)) hb1
  have hl1 : (putL (cs.take (i * 4) ++ List.replicate ((c2 - i) * 4) AV.un) (i * 4) ((itC x).map .d)).length = c2 * 4 := by rw [putL_length]; exact hZ
  refine ⟨?_, ⟨rfl, by rw [put_nb, put_nb, push_nb]; omega, fun j hj _ => ?_, rfl⟩, fun id n c h => by cases h; exact .inl (Nat.le_refl _)⟩
  · have ha := Arr.arr (H := _) (e := tF) (sz := 4) Hs.nb (l.length + 1) c2 _ _ hb2 (by simp only [putL_length]; exact hZ) (by omega) rfl
    have e1 : (putL (putL (cs.take (i * 4) ++ List.replicate ((c2 - i) * 4) AV.un) (i * 4) ((itC x).map .d)) ((i + 1) * 4) ((cs.drop (i * 4)).take ((l.length - i) * 4))).take ((l.length + 1) * 4) = icells (l.take i ++ x :: l.drop i) := by
      have t1 := putL_take ((cs.drop (i * 4)).take ((l.length - i) * 4)) (putL (cs.take (i * 4) ++ List.replicate ((c2 - i) * 4) AV.un) (i * 4) ((itC x).map .d)) ((i + 1) * 4) (by rw [hl1, hR]; omega)
      rw [hR, show (i + 1) * 4 + (l.length - i) * 4 = (l.length + 1) * 4 by omega] at t1
      have t2 := putL_take ((itC x).map AV.d) (cs.take (i * 4) ++ List.replicate ((c2 - i) * 4) AV.un) (i * 4) (by rw [hZ, hX]; omega)
      rw [hX, show i * 4 + 4 = (i + 1) * 4 by omega] at t2
      rw [t1, t2, insI_cells, List.take_left' hP, restI_cells hu, List.append_assoc]
      congr 1
      rw [← hu, List.take_take, Nat.min_eq_left (by omega)]
    rw [e1] at ha
    have e2 := insI_len (x := x) (Nat.le_of_lt hi)
    unfold ArrI
    rw [e2]
    exact ha
  · rw [put_blks_ne (by omega), put_blks_ne (by omega)]
    simp only [HS.push]
    rw [List.getElem?_append_left hj]
theorem insI_shift {Hs : HS} {tF : TypeId} {v : AV} {l : List It} {i : Nat} {x : It} {id cap : Nat} {cs : List AV} (hv : v = .arr id l.length cap) (hb : Hs.blks[id]? = some ⟨tF, cs, false⟩) (hc : cs.length = cap * 4) (hn : l.length + 1 ≤ cap) (hu : cs.take (l.length * 4) = icells l) (hi : i < l.length) :
    InsI Hs tF v (l.take i ++ x :: l.drop i) (.arr id (l.length + 1) cap) ((Hs.put id ((i + 1) * 4) ((cs.drop (i * 4)).take ((l.length - i) * 4))).put id (i * 4) ((itC x).map .d)) := by
  have hX : ((itC x).map AV.d).length = 4 := by rw [List.length_map, itC_len]
  have hR : ((cs.drop (i * 4)).take ((l.length - i) * 4)).length = (l.length - i) * 4 := by rw [List.length_take, List.length_drop]; omega
  have hb1 := put_blks_at (off := (i + 1) * 4) (vs := (cs.drop (i * 4)).take ((l.length - i) * 4)) hb
  have hb2 := put_blks_at (off := i * 4) (vs := (itC x).map .d) hb1
  refine ⟨?_, ⟨rfl, by rw [put_nb, put_nb]; exact Nat.le_refl _, fun j hj hne => ?_, rfl⟩, fun id' n c h => by cases h; exact .inr ⟨_, _, hv⟩⟩
  · have ha := Arr.arr (H := _) (e := tF) (sz := 4) id (l.length + 1) cap _ _ hb2 (by simp only [putL_length]; exact hc) hn rfl
    have e1 : (putL (putL cs ((i + 1) * 4) ((cs.drop (i * 4)).take ((l.length - i) * 4))) (i * 4) ((itC x).map .d)).take ((l.length + 1) * 4) = icells (l.take i ++ x :: l.drop i) := by
      have t1 := putL_take ((cs.drop (i * 4)).take ((l.length - i) * 4)) cs ((i + 1) * 4) (by rw [hR, hc]; omega)
      rw [hR, show (i + 1) * 4 + (l.length - i) * 4 = (l.length + 1) * 4 by omega] at t1
      generalize hcs' : putL cs ((i + 1) * 4) ((cs.drop (i * 4)).take ((l.length - i) * 4)) = cs' at t1
      have hl' : cs'.length = cap * 4 := by rw [← hcs', putL_length]; exact hc
      have t2 : cs'.take (i * 4) = cs.take (i * 4) := by
        have := congrArg (List.take (i * 4)) t1
        rw [List.take_take, Nat.min_eq_left (by omega), List.take_append_of_le_length (by rw [List.length_take]; omega), List.take_take, Nat.min_eq_left (by omega)] at this
        exact this
      have t3 : (cs'.drop (i * 4 + 4)).take ((l.length - i) * 4) = (cs.drop (i * 4)).take ((l.length - i) * 4) := by
        have := congrArg (List.drop ((i + 1) * 4)) t1
        rw [List.drop_take, List.drop_left' (by rw [List.length_take]; omega)] at this
        rw [show i * 4 + 4 = (i + 1) * 4 by omega, ← this]
        congr 1
        omega
      rw [putL_eq (by rw [hX, hl']; omega), hX]
      have hA : (cs'.take (i * 4)).length = i * 4 := by rw [List.length_take]; omega
      rw [List.take_append, hA, List.take_of_length_le (show (cs'.take (i * 4)).length ≤ (l.length + 1) * 4 by rw [hA]; omega), List.take_append, hX, List.take_of_length_le (show ((itC x).map AV.d).length ≤ (l.length + 1) * 4 - i * 4 by rw [hX]; omega), show (l.length + 1) * 4 - i * 4 - 4 = (l.length - i) * 4 by omega, t3, t2, insI_cells, restI_cells hu]
      rw [← hu, List.take_take, Nat.min_eq_left (by omega)]
    rw [e1] at ha
    have e2 := insI_len (x := x) (Nat.le_of_lt hi)
    unfold ArrI
    rw [e2]
    exact ha
  · have hji : j ≠ id := fun h => hne _ _ (by rw [hv, h])
    rw [put_blks_ne hji, put_blks_ne hji]
theorem ArrI.pushed {H : HS} {tF e : TypeId} {v : AV} {l : List It} {cs : List AV} (h : ArrI H tF v l) : ArrI (H.push e cs) tF v l :=
  Arr.mono h fun _ _ _ hv => push_lt (Arr.idlt h hv)
theorem ArrI.set {H : HS} {tF : TypeId} {id cap k : Nat} {cs : List AV} {l : List It} {x g : It} (hb : H.blks[id]? = some ⟨tF, cs, false⟩) (hc : cs.length = cap * 4) (hcap : l.length ≤ cap) (hu : cs.take (l.length * 4) = icells l) (hg : l[k]? = some g) :
    ArrI (H.setB id ⟨tF, putL cs (k * 4) ((itC x).map .d), false⟩) tF (.arr id l.length cap) (l.set k x) := by
  have h := Arr.arr (H := H.setB id ⟨tF, putL cs (k * 4) ((itC x).map .d), false⟩) (e := tF) (sz := 4) id (l.set k x).length cap _ _ (setB_at hb) (by rw [putL_length]; exact hc) (by rw [List.length_set]; exact hcap) rfl
  rw [setI_cells (f := x) hu hg (by omega)] at h
  unfold ArrI
  rw [show AV.arr id l.length cap = .arr id (l.set k x).length cap by rw [List.length_set]]
  exact h
section
variable {P : Program} {T : List AV} {H : HS} {dst : Option Tmp} {ty : TypeId} {pos : String} {after : Array Edge} {gd : Option (Nat × Bool)}
theorem op_litI {t e : TypeId} {x : Operand} {z : Value} (f : It) (ht : P.underlying t = some (.slice e)) (hz : (P.info? e).map (fun i => (i.zero, i.size)) = some (some z, 4)) (hE : Els (evalT T) 0 [(0, x)] [itD f]) :
    OpR P ⟨dst, .buildSlice t 1 #[(0, x)], ty, pos, after, gd⟩ (evalT T) H (Ret (.arr H.nb 1 1) (H.push e ((itC f).map .d))) := by
  have h := op_litArr (dst := dst) (ty := ty) (pos := pos) (after := after) (gd := gd) (H := H) ht hz hE rfl (lit_it f) (by show 1 * 4 ≤ 16777216; decide)
  have e1 : flat [itD f] = itC f := by simp [flat, itD, itC, iD, DV.cells]
  rwa [e1] at h
end
end Go.AV.Sb
namespace Go.AV.Sb
open Go.AV.Ord Go.AV.Oct Go.AV.Hist Go.AV.Val
abbrev i1 (t : TypeId) (x : It) : HB := ⟨t, (itC x).map .d, false⟩
theorem rises_lt : ∀ {l : List F} {i j : Nat} {a b : F}, rises l = true → l[i]? = some a → l[j]? = some b → i < j → Op.bytesLess a.name b.name = true
  | [], _, _, _, _, _, h, _, _ => by simp at h
  | x :: l, 0, j + 1, a, b, hr, ha, hb, _ => by
    simp at ha; subst ha
    exact rises_all hr b (List.mem_of_getElem? (by simpa using hb))
  | x :: l, i + 1, j + 1, a, b, hr, ha, hb, h => rises_lt (l := l) (rises_tail hr) (by simpa using ha) (by simpa using hb) (by omega)
  | x :: l, _, 0, _, _, _, _, _, h => by omega
def posU (fs : List F) (key : List UInt8) : Nat := posF fs key + (if hasF fs key then 1 else 0)
theorem posU_lt {fs : List F} {key : List UInt8} (hr : rises fs = true) {h : Nat} {g : F} (hg : fs[h]? = some g) : (Op.bytesLess g.name key = true ∨ g.name = key) ↔ h < posU fs key := by
  have h1 := posF_lt (n := key) hr hg
  unfold posU
  by_cases hh : hasF fs key = true
  · rw [if_pos hh]
    obtain ⟨g', hg', hn'⟩ := hasF_at hh
    refine ⟨fun h2 => ?_, fun h2 => ?_⟩
    · rcases h2 with h2 | h2
      · have := h1.1 h2; omega
      · by_cases hlt : posF fs key < h
        · have := rises_lt hr hg' hg hlt
          rw [hn', h2, less_irrefl] at this
          cases this
        · omega
    · by_cases he : h = posF fs key
      · subst he; rw [hg] at hg'; cases hg'; exact .inr hn'
      · exact .inl (h1.2 (by omega))
  · rw [if_neg hh]
    refine ⟨fun h2 => ?_, fun h2 => .inl (h1.2 (by omega))⟩
    rcases h2 with h2 | h2
    · have := h1.1 h2; omega
    · exfalso
      have hle : ¬ h < posF fs key := fun h3 => by
        have := h1.2 h3
        rw [h2, less_irrefl] at this; cases this
      have hlen : h < fs.length := (List.getElem?_eq_some_iff.1 hg).1
      obtain ⟨g0, hg0⟩ : ∃ g0, fs[posF fs key]? = some g0 := ⟨_, List.getElem?_eq_getElem (by omega)⟩
      by_cases he : posF fs key = h
      · apply hh
        unfold hasF
        rw [he, hg]
        simp [h2]
      · have h3 := rises_lt hr hg0 hg (by omega)
        rw [h2] at h3
        have := (posF_lt (n := key) hr hg0).1 h3
        omega
theorem posU_le (fs : List F) (key : List UInt8) : posU fs key ≤ fs.length := by
  unfold posU
  have h1 := posF_le fs key
  by_cases hh : hasF fs key = true
  · rw [if_pos hh]
    obtain ⟨g', hg', _⟩ := hasF_at hh
    have := (List.getElem?_eq_some_iff.1 hg').1
    omega
  · rw [if_neg hh]; omega
def keysF (l : List It) : List F := l.map toF
def headI (l : List It) : It := l.headD ⟨[], Wn⟩
def firstsF (ls : List (List It)) : List F := ls.map fun l => toF (headI l)
def leafI (ls : List (List It)) (key : List UInt8) : Nat := posU (firstsF ls) key - 1
structure LvT (H : HS) (tL tI : TypeId) (lv : AV) (ls : List (List It)) (vs : List AV) : Prop where
  out : Arr H tL 1 lv ls.length vs
  len : vs.length = ls.length
  inn : ∀ (i : Nat) (l : List It), ls[i]? = some l → ∃ v, vs[i]? = some v ∧ ArrI H tI v l ∧ l ≠ [] ∧ l.length ≤ 100000
  inj : ∀ (i j M n c n' c' : Nat), vs[i]? = some (.arr M n c) → vs[j]? = some (.arr M n' c') → i = j
theorem LvT.at_ {H : HS} {tL tI : TypeId} {lv : AV} {ls : List (List It)} {vs : List AV} (h : LvT H tL tI lv ls vs) {i : Nat} {l : List It} (hl : ls[i]? = some l) :
    ∃ O cap cs M c ds, lv = .arr O ls.length cap ∧ H.blks[O]? = some ⟨tL, cs, false⟩ ∧ cs[i]? = some (.arr M l.length c) ∧ H.blks[M]? = some ⟨tI, ds, false⟩ ∧ ds.length = c * 4 ∧ l.length ≤ c ∧ ds.take (l.length * 4) = icells l ∧ l ≠ [] ∧ ArrI H tI (.arr M l.length c) l ∧ l.length ≤ 100000 := by
  have hi : i < ls.length := (List.getElem?_eq_some_iff.1 hl).1
  obtain ⟨O, cap, cs, e1, b1, c1, n1, u1⟩ := Arr.pos h.out (by omega)
  obtain ⟨v, hv, ha, hne, h5⟩ := h.inn i l hl
  have hpos : 0 < l.length := List.length_pos_iff.2 hne
  obtain ⟨M, c, ds, e2, b2, c2, n2, u2⟩ := Arr.pos ha hpos
  subst e2
  refine ⟨O, cap, cs, M, c, ds, e1, b1, ?_, b2, c2, n2, u2, hne, ha, h5⟩
  have : (cs.take (ls.length * 1))[i]? = some (.arr M l.length c) := by rw [u1]; exact hv
  rwa [List.getElem?_take_of_lt (by omega)] at this
theorem Arr.elem {H : HS} {e : TypeId} {sz n : Nat} {v : AV} {us : List AV} (h : Arr H e sz v n us) {id m c : Nat} (hv : v = .arr id m c) : ∃ b, H.blks[id]? = some b ∧ b.elem = e := by
  cases h with
  | nil => cases hv
  | arr id n cap cs us hb hc hnc hu => cases hv; exact ⟨_, hb, rfl⟩
theorem LvT.mono {H H' : HS} {tL tI : TypeId} {lv : AV} {ls : List (List It)} {vs : List AV} (h : LvT H tL tI lv ls vs) (hk : ∀ (j : Nat) (b : HB), H.blks[j]? = some b → (b.elem = tL ∨ b.elem = tI) → H'.blks[j]? = some b) : LvT H' tL tI lv ls vs :=
  ⟨Arr.mono h.out fun id n cap hv => by obtain ⟨b, h1, h2⟩ := Arr.elem h.out hv; rw [hk id b h1 (.inl h2), h1], h.len, fun i l hl => by
    obtain ⟨v, h1, h2, h3, h4⟩ := h.inn i l hl
    exact ⟨v, h1, Arr.mono h2 fun id n cap hv => by obtain ⟨b, q1, q2⟩ := Arr.elem h2 hv; rw [hk id b q1 (.inr q2), q1], h3, h4⟩, h.inj⟩
theorem LvT.push {H : HS} {tL tI : TypeId} {lv : AV} {ls : List (List It)} {vs : List AV} (h : LvT H tL tI lv ls vs) (e : TypeId) (cs : List AV) : LvT (H.push e cs) tL tI lv ls vs := h.mono fun _ _ hb _ => push_ne hb
theorem LvT.setB {H : HS} {tL tI : TypeId} {lv : AV} {ls : List (List It)} {vs : List AV} (h : LvT H tL tI lv ls vs) {i : Nat} {b0 b : HB} (hi : H.blks[i]? = some b0) (h1 : b0.elem ≠ tL) (h2 : b0.elem ≠ tI) : LvT (H.setB i b) tL tI lv ls vs :=
  h.mono fun j c hc he => by
    have : j ≠ i := fun e => by subst e; rw [hi] at hc; cases hc; rcases he with he | he; exact h1 he; exact h2 he
    rw [setB_ne this]; exact hc
theorem LvT.nil {H : HS} {tL tI : TypeId} : LvT H tL tI nilS [] [] := ⟨.nil, rfl, fun i l hl => by simp at hl, fun i j M n c n' c' h => by simp at h⟩
theorem first_cell {ds : List AV} {l : List It} (hu : ds.take (l.length * 4) = icells l) (hne : l ≠ []) : ds[0]? = some (.d (S (headI l).key)) := by
  cases l with
  | nil => exact absurd rfl hne
  | cons x l =>
    have h1 : (ds.take ((x :: l).length * 4))[0]? = (icells (x :: l))[0]? := by rw [hu]
    rw [List.getElem?_take_of_lt (by simp)] at h1
    rw [h1]; rfl
def LfAt (ls : List (List It)) (key : List UInt8) (l : List It) : Prop := (ls = [] ∧ l = []) ∨ ls[leafI ls key]? = some l
def fndL (l : List It) (key : List UInt8) : Option Wt := if hasF (keysF l) key then (l[posF (keysF l) key]?).map (·.w) else none
theorem fnd_yes {l : List It} {key : List UInt8} (h : hasF (keysF l) key = true) : ∃ x, l[posF (keysF l) key]? = some x ∧ x.key = key ∧ fndL l key = some x.w := by
  obtain ⟨g, hg, hn⟩ := hasF_at h
  unfold keysF at hg
  rw [List.getElem?_map] at hg
  cases hx : l[posF (l.map toF) key]? with
  | none => rw [hx] at hg; cases hg
  | some x =>
    rw [hx] at hg; cases hg
    exact ⟨x, hx, hn, by unfold fndL; rw [if_pos h]; unfold keysF; rw [hx]; rfl⟩
theorem fnd_no {l : List It} {key : List UInt8} (h : hasF (keysF l) key = false) : fndL l key = none := by unfold fndL; rw [h]; rfl
theorem ext_kept2 {Hs H H' : HS} {v : AV} (h : Ext Hs H) (k : Kept H H' v) (hv : ∀ id n c, v = .arr id n c → Hs.nb ≤ id) : Ext Hs H' :=
  h.of k.toks (fun j hj => k.blks j (by have := nb_le h; omega) fun n c e => by have := hv _ _ _ e; omega) k.maps
section
variable {P : Program} {E : Operand → AV} {H : HS} {dst : Option Tmp} {ty : TypeId} {pos : String} {after : Array Edge} {gd : Option (Nat × Bool)}
theorem op_eqI_same {x y : Operand} {t t' : TypeId} {i : Int} (hx : E x = .d (I i)) (hy : E y = .d (I i)) : OpR P ⟨dst, .binOp .eql t x y t', ty, pos, after, gd⟩ E H (Ret (.d (TF true)) H) := by
  have h := op_eqI (P := P) (dst := dst) (ty := ty) (pos := pos) (after := after) (gd := gd) (H := H) (t := t) (t' := t') hx hy
  simpa using h
end
structure Was (tL tI : TypeId) (tid : Nat) (H H' : HS) : Prop where
  maps : H'.maps = H.maps
  nb : H.nb ≤ H'.nb
  blks : ∀ (j : Nat) (b : HB), H.blks[j]? = some b → b.elem ≠ tL → b.elem ≠ tI → j ≠ tid → H'.blks[j]? = some b
theorem Was.refl {tL tI : TypeId} {tid : Nat} (H : HS) : Was tL tI tid H H := ⟨rfl, Nat.le_refl _, fun _ _ h _ _ _ => h⟩
theorem Was.trans {tL tI : TypeId} {tid : Nat} {A B C : HS} (h : Was tL tI tid A B) (k : Was tL tI tid B C) : Was tL tI tid A C :=
  ⟨k.maps.trans h.maps, Nat.le_trans h.nb k.nb, fun j b hb h1 h2 h3 => k.blks j b (h.blks j b hb h1 h2 h3) h1 h2 h3⟩
theorem Was.ext {tL tI : TypeId} {tid : Nat} {A B : HS} (h : Ext A B) : Was tL tI tid A B := by
  refine ⟨h.maps, nb_le h, fun j b hb _ _ _ => h.at hb⟩
theorem Was.push {tL tI : TypeId} {tid : Nat} {A B : HS} (h : Was tL tI tid A B) (e : TypeId) (cs : List AV) : Was tL tI tid A (B.push e cs) :=
  ⟨h.maps, Nat.le_trans h.nb (by rw [push_nb]; omega), fun j b hb h1 h2 h3 => push_ne (h.blks j b hb h1 h2 h3)⟩
theorem Was.setT {tL tI : TypeId} {tid : Nat} {A B : HS} (h : Was tL tI tid A B) (b : HB) : Was tL tI tid A (B.setB tid b) :=
  ⟨h.maps, by rw [setB_nb]; exact h.nb, fun j c hc h1 h2 h3 => by rw [setB_ne h3]; exact h.blks j c hc h1 h2 h3⟩
theorem Was.setX {tL tI : TypeId} {tid i : Nat} {A B : HS} {b0 b : HB} (h : Was tL tI tid A B) (hi : B.blks[i]? = some b0) (he : b0.elem = tL ∨ b0.elem = tI) : Was tL tI tid A (B.setB i b) :=
  ⟨h.maps, by rw [setB_nb]; exact h.nb, fun j c hc h1 h2 h3 => by
    have hc' := h.blks j c hc h1 h2 h3
    have : j ≠ i := fun e => by subst e; rw [hi] at hc'; cases hc'; rcases he with he | he; exact h1 he; exact h2 he
    rw [setB_ne this]; exact hc'⟩
theorem Was.setN {tL tI : TypeId} {tid i : Nat} {A B : HS} {b : HB} (h : Was tL tI tid A B) (hi : A.nb ≤ i) : Was tL tI tid A (B.setB i b) :=
  ⟨h.maps, by rw [setB_nb]; exact h.nb, fun j c hc h1 h2 h3 => by
    have : j ≠ i := fun e => by have := lt_nb hc; omega
    rw [setB_ne this]; exact h.blks j c hc h1 h2 h3⟩
theorem Was.kept {tL tI : TypeId} {tid : Nat} {A B C : HS} {v : AV} (h : Was tL tI tid A B) (k : Kept B C v) (hv : ∀ id n c, v = .arr id n c → ∃ b : HB, B.blks[id]? = some b ∧ (b.elem = tL ∨ b.elem = tI)) : Was tL tI tid A C :=
  ⟨k.maps.trans h.maps, Nat.le_trans h.nb k.nb, fun j b hb h1 h2 h3 => by
    have hb' := h.blks j b hb h1 h2 h3
    rw [k.blks j (lt_nb hb') fun n c e => ?_]
    · exact hb'
    · obtain ⟨b2, q1, q2⟩ := hv j n c e
      rw [hb'] at q1; cases q1
      rcases q2 with q2 | q2
      · exact h1 q2
      · exact h2 q2⟩
theorem LvT.first {H : HS} {tL tI : TypeId} {x : It} {M O : Nat} (hM : H.blks[M]? = some (i1 tI x)) (hO : H.blks[O]? = some ⟨tL, [.arr M 1 1], false⟩) : LvT H tL tI (.arr O 1 1) [[x]] [.arr M 1 1] where
  out := .arr O 1 1 [.arr M 1 1] [.arr M 1 1] hO rfl (Nat.le_refl _) rfl
  len := rfl
  inn := fun i l hl => by
    match i, hl with
    | 0, hl =>
      cases hl
      exact ⟨_, rfl, .arr M 1 1 ((itC x).map .d) _ hM rfl (Nat.le_refl _) (by rw [icells_cons]; rfl), by simp, by simp⟩
    | i + 1, hl => simp at hl
  inj := fun i j M n c n' c' h1 h2 => by
    match i, j, h1, h2 with
    | 0, 0, _, _ => rfl
    | 0, j + 1, _, h2 => simp at h2
    | i + 1, _, h1, _ => simp at h1
theorem LvT.two {H : HS} {tL tI : TypeId} {lv a b : AV} {la lb : List It} (hO : Arr H tL 1 lv 2 [a, b]) (ha : ArrI H tI a la) (hb : ArrI H tI b lb) (hna : la ≠ []) (hnb : lb ≠ []) (hla : la.length ≤ 100000) (hlb : lb.length ≤ 100000)
    (hne : ∀ M n c n' c', a = .arr M n c → b = .arr M n' c' → False) : LvT H tL tI lv [la, lb] [a, b] where
  out := hO
  len := rfl
  inn := fun i l hl => by
    match i, hl with
    | 0, hl => cases hl; exact ⟨_, rfl, ha, hna, hla⟩
    | 1, hl => cases hl; exact ⟨_, rfl, hb, hnb, hlb⟩
    | i + 2, hl => simp at hl
  inj := fun i j M n c n' c' h1 h2 => by
    match i, j, h1, h2 with
    | 0, 0, _, _ => rfl
    | 1, 1, _, _ => rfl
    | 0, 1, h1, h2 => exact (hne M n c n' c' (by simpa using h1) (by simpa using h2)).elim
    | 1, 0, h1, h2 => exact (hne M n' c' n c (by simpa using h2) (by simpa using h1)).elim
    | 0, j + 2, _, h2 => simp at h2
    | 1, j + 2, _, h2 => simp at h2
    | i + 2, _, h1, _ => simp at h1
theorem LvT.put1 {H H' : HS} {tL tI : TypeId} {O cap : Nat} {ls : List (List It)} {vs cs : List AV} (h : LvT H tL tI (.arr O ls.length cap) ls vs) {i : Nat} {l l' : List It} {v v' : AV} (hl : ls[i]? = some l) (hv : vs[i]? = some v) (hcs : H.blks[O]? = some ⟨tL, cs, false⟩)
    (hO : H'.blks[O]? = some ⟨tL, cs.set i v', false⟩) (hA : ArrI H' tI v' l') (hne' : l' ≠ []) (hl9 : l'.length ≤ 100000) (hk : ∀ (j : Nat) (b : HB), H.blks[j]? = some b → b.elem = tI → (∀ n c, v ≠ .arr j n c) → H'.blks[j]? = some b)
    (hnew : ∀ M n c, v' = .arr M n c → (∃ n c, v = .arr M n c) ∨ H.nb ≤ M) : LvT H' tL tI (.arr O ls.length cap) (ls.set i l') (vs.set i v') := by
  have hi : i < ls.length := (List.getElem?_eq_some_iff.1 hl).1
  have hvl := h.len
  refine ⟨?_, by rw [List.length_set, List.length_set]; exact hvl, fun j lj hj => ?_, fun j k M n c n' c' hj hk' => ?_⟩
  · obtain ⟨O', cap', cs', e1, b1, c1, n1, u1⟩ := Arr.pos h.out (by omega)
    cases e1
    rw [hcs] at b1
    cases b1
    rw [List.length_set]
    exact .arr O ls.length cap (cs.set i v') _ hO (by rw [List.length_set]; exact c1) n1 (by rw [List.take_set, u1])
  · by_cases hij : i = j
    · subst hij
      rw [List.getElem?_set_self hi] at hj
      cases hj
      exact ⟨v', List.getElem?_set_self (by omega), hA, hne', hl9⟩
    · rw [List.getElem?_set_ne hij] at hj
      obtain ⟨w, h1, h2, h3, h4⟩ := h.inn j lj hj
      refine ⟨w, by rw [List.getElem?_set_ne hij]; exact h1, Arr.mono h2 fun id n c hw => ?_, h3, h4⟩
      obtain ⟨b, q1, q2⟩ := Arr.elem h2 hw
      rw [q1]
      refine hk id b q1 q2 fun n' c' e => hij ?_
      exact h.inj i j id n' c' n c (by rw [hv, e]) (by rw [h1, hw])
  · have other : ∀ (k M n c n' c' : Nat), i ≠ k → v' = .arr M n c → vs[k]? = some (.arr M n' c') → False := fun k M n c n' c' hik e1 e2 => by
      rcases hnew M n c e1 with ⟨n2, c2, q⟩ | q
      · exact hik (h.inj i k M n2 c2 n' c' (by rw [hv, q]) e2)
      · have hkl : k < ls.length := by rw [← hvl]; exact (List.getElem?_eq_some_iff.1 e2).1
        obtain ⟨w, h1, h2, _⟩ := h.inn k ls[k] (List.getElem?_eq_getElem hkl)
        rw [e2] at h1; cases h1
        have := Arr.idlt h2 rfl
        omega
    by_cases hij : i = j
    · subst hij
      rw [List.getElem?_set_self (by omega)] at hj
      by_cases hik : i = k
      · exact hik
      · rw [List.getElem?_set_ne hik] at hk'
        exact (other k M n c n' c' hik (Option.some.inj hj) hk').elim
    · rw [List.getElem?_set_ne hij] at hj
      by_cases hik : i = k
      · subst hik
        rw [List.getElem?_set_self (by omega)] at hk'
        exact (other j M n' c' n c hij (Option.some.inj hk') hj).elim
      · rw [List.getElem?_set_ne hik] at hk'
        exact h.inj j k M n c n' c' hj hk'
def insI (l : List It) (x : It) : List It := l.take (posF (keysF l) x.key) ++ x :: l.drop (posF (keysF l) x.key)
theorem insI_length (l : List It) (x : It) : (insI l x).length = l.length + 1 := by
  have h1 := posF_le (keysF l) x.key
  have h2 : (keysF l).length = l.length := List.length_map _
  exact insI_len (by omega)
def insL (ls : List (List It)) (x : It) (l : List It) : List (List It) :=
  if ls = [] then [[x]] else if (insI l x).length ≤ 8 then ls.set (leafI ls x.key) (insI l x) else [(insI l x).take ((insI l x).length / 2), (insI l x).drop ((insI l x).length / 2)]
theorem LvT.val {H : HS} {tL tI : TypeId} {O cap : Nat} {ls : List (List It)} {vs cs : List AV} (h : LvT H tL tI (.arr O ls.length cap) ls vs) (hcs : H.blks[O]? = some ⟨tL, cs, false⟩) {i : Nat} {v : AV} (hi : i < ls.length) (hv : cs[i]? = some v) : vs[i]? = some v ∧ cs.length = cap ∧ ls.length ≤ cap := by
  obtain ⟨O', cap', cs', e1, b1, c1, n1, u1⟩ := Arr.pos h.out (by omega)
  cases e1
  rw [hcs] at b1
  cases b1
  exact ⟨by rw [← u1, List.getElem?_take_of_lt (by omega)]; exact hv, by omega, n1⟩
theorem take1_set {cs : List AV} {a b : AV} (h : 0 < cs.length) : ((cs.set 0 a).set 0 b).take 1 = [b] := by
  cases cs with
  | nil => simp at h
  | cons x cs => rfl
theorem half_ne {l : List It} (h : 2 ≤ l.length) : l.take (l.length / 2) ≠ [] ∧ l.drop (l.length / 2) ≠ [] ∧ (l.take (l.length / 2)).length ≤ l.length ∧ (l.drop (l.length / 2)).length ≤ l.length := by
  refine ⟨fun e => ?_, fun e => ?_, by rw [List.length_take]; omega, by rw [List.length_drop]; omega⟩
  · have := congrArg List.length e
    rw [List.length_take, List.length_nil] at this
    omega
  · have := congrArg List.length e
    rw [List.length_drop, List.length_nil] at this
    omega
theorem cellsW_at {cs : List AV} {l : List It} {k : Nat} {f : It} (hu : cs.take (l.length * 4) = icells l) (h : l[k]? = some f) : (cs.drop (k * 4 + 1)).take 3 = (wC f.w).map .d := by
  have h1 := congrArg (List.drop 1) (cellsI_at hu h)
  rw [List.drop_take, List.drop_drop] at h1
  exact h1
theorem LvT.leaf {H : HS} {tL tI : TypeId} {lv : AV} {ls : List (List It)} {vs : List AV} (h : LvT H tL tI lv ls vs) {i : Nat} {l : List It} {v : AV} (hl : ls[i]? = some l) (hv : vs[i]? = some v) : ArrI H tI v l := by
  obtain ⟨w, h1, h2, _⟩ := h.inn i l hl
  rw [hv] at h1; cases h1
  exact h2
theorem less_nil (a : List UInt8) : Op.bytesLess a [] = false := by cases a <;> rfl
theorem posF_nil (fs : List F) : posF fs [] = 0 := by
  cases fs with
  | nil => rfl
  | cons a fs => exact posF_c0 (by rw [less_nil]; decide)
theorem leafI_nil (ls : List (List It)) : leafI ls [] = 0 := by
  unfold leafI posU
  rw [posF_nil]
  split <;> rfl
theorem flat_step {ls : List (List It)} {i : Nat} {lf : List It} (h : ls[i]? = some lf) : (ls.take (i + 1)).flatten.length = (ls.take i).flatten.length + lf.length := by
  rw [take_snoc h, List.flatten_append, List.length_append]
  simp
theorem flat_item : ∀ {ls : List (List It)} {i j : Nat} {lf : List It} {x : It}, ls[i]? = some lf → lf[j]? = some x → ls.flatten[(ls.take i).flatten.length + j]? = some x
  | [], i, j, lf, x, h, _ => by simp at h
  | l :: ls, 0, j, lf, x, h, hx => by
    simp only [List.getElem?_cons_zero, Option.some.injEq] at h
    subst h
    simp only [List.take_zero, List.flatten_nil, List.length_nil, Nat.zero_add, List.flatten_cons]
    rw [List.getElem?_append_left (List.getElem?_eq_some_iff.1 hx).1]
    exact hx
  | l :: ls, i + 1, j, lf, x, h, hx => by
    have ih := flat_item (ls := ls) (i := i) (by simpa using h) hx
    simp only [List.take_succ_cons, List.flatten_cons, List.length_append]
    rw [List.getElem?_append_right (by omega), show l.length + (ls.take i).flatten.length + j - l.length = (ls.take i).flatten.length + j by omega]
    exact ih
theorem lf_nil (ls : List (List It)) : LfAt ls [] (ls.headD []) := by
  cases ls with
  | nil => exact .inl ⟨rfl, rfl⟩
  | cons l ls => exact .inr (by rw [leafI_nil]; rfl)
end Go.AV.Sb
namespace Go.Proofs.Ytjbpfnoibeogbaa
open Go.AV Go.AV.Ord Go.AV.Oct Go.AV.Hist Go.AV.Val Go.AV.Sb
set_option linter.unusedVariables false
set_option linter.unusedSimpArgs false
set_option maxRecDepth 100000 in
theorem bsearch2_ok (Hs : HS) (v : AV) (l : List It) (key : List UInt8) (hA : ArrI Hs 197 v l) (hr : rises (keysF l) = true) (hl : l.length ≤ 100000) : ACalls Try.prog 132 [v, .d (S key), .fn (.func 133) [] []] Hs (Ret (.tup [.d (I (posF (keysF l) key)), .d (TF (hasF (keysF l) key))]) Hs) := by
 have hple := posF_le (keysF l) key
 have hkl : (keysF l).length = l.length := List.length_map _
 refine acalls_of_aw Try.func132 rfl ?_
 refine aw_start (T' := [v, .d (S key), .fn (.func 133) [] [], .un, .un, .un, .un, .un, .un, .un, .un, .un, .un, .un, .un, .un, .un, .un, .un, .un, .un, .un, .un, .un, .un, .un, .un, .un, .un, .un, .un, .un, .un, .un, .un, .un, .un, .un, .un, .un, .un, .un, .un, .un, .un, .un, .un, .un, .un]) rfl ?_
 refine aw_seq ?_
 refine aw_region ?_
 refine zst (op_assign_const (by rfl)) rfl (by dsimp only [zS, zN, zH, zT]) ?_
 refine zst (op_assign_const (by rfl)) rfl (by dsimp only [zS, zN, zH, zT]) ?_
 refine al_end rfl ?_
 refine then_normal ?_
 refine aw_seq ?_
 refine aw_region ?_
 refine zst (op_move_tmp (by rfl)) rfl (by dsimp only [zS, zN, zH, zT]) ?_
 refine zst (op_lenA Try.underlying195 (by rfl) hA) rfl (by dsimp only [zS, zN, zH, zT]) ?_
 refine zst (op_assign_tmp (by rfl)) rfl (by dsimp only [zS, zN, zH, zT]) ?_
 refine al_end rfl ?_
 refine then_normal ?_
 refine aw_seq ?_
 refine aw_region ?_
 refine zst (op_move_tmp (by rfl)) rfl (by dsimp only [zS, zN, zH, zT]) ?_
 refine zst (op_assign_const (by rfl)) rfl (by dsimp only [zS, zN, zH, zT]) ?_
 refine zst (op_assign_tmp (by rfl)) rfl (by dsimp only [zS, zN, zH, zT]) ?_
 refine al_end rfl ?_
 refine then_normal ?_
 refine aw_seq ?_
 refine aw_block ?_
 apply aw_loopF (fun n T H => ∃ (i : Nat) (j : Nat), T = [v, .d (S key), .fn (.func 133) [] [], .un, .un, .un, .un, .un, .d (I l.length), .d (I i), .d (I j), .un, .un, .un, .un, .un, .un, .un, .un, .un, .un, .un, .un, .un, .un, .un, .un, .un, .un, .un, .un, .un, .un, .un, .un, .un, .un, .un, .un, .un, .un, .un, .un, .un, .un, .un, .un, .un, .un] ∧ i ≤ (posF (keysF l) key) ∧ (posF (keysF l) key) ≤ j ∧ j ≤ l.length ∧ n = j - i ∧ Hs = H) (l.length) [true, true, true, false, false, false, false, false, true, true, true, false, false, false, false, false, false, false, false, false, false, false, false, false, false, false, false, false, false, false, false, false, false, false, false, false, false, false, false, false, false, false, false, false, false, false, false, false, false]
 · (try dsimp only [maskT]); try exact rfl
 · rfl
 · exact ⟨0, l.length, rfl, by omega, by omega, by omega, rfl, rfl⟩
 rintro n T H ⟨i, j, rfl, hi, hj, hjl, rfl, rfl⟩
 refine aw_seq ?_
 refine aw_seq ?_
 refine aw_region ?_
 refine zst (op_move_tmp (by rfl)) rfl (by dsimp only [zS, zN, zH, zT]) ?_
 refine zst (op_move_tmp (by rfl)) rfl (by dsimp only [zS, zN, zH, zT]) ?_
 refine zst (op_ltI (by rfl) (by rfl)) rfl (by dsimp only [zS, zN, zH, zT]) ?_
 refine al_end rfl ?_
 refine then_normal ?_
 refine aw_cond rfl (fun hc1 => ?_) (fun hc1 => ?_)
 ·
  (try simp only [y1, y2, y3, y4, y5, y6, y7, y8, y9, y0, List.length_map] at hc1)
  have hij : i < j := by omega
  obtain ⟨h, hh⟩ : ∃ h, (i + j) / 2 = h := ⟨_, rfl⟩
  have hh1 : i ≤ h ∧ h < j := by omega
  obtain ⟨id, cap, cs, rfl, hb, hc, hcap, hu⟩ := Arr.pos hA (by omega)
  obtain ⟨g, hg⟩ : ∃ g, l[h]? = some g := ⟨_, List.getElem?_eq_getElem (by omega)⟩
  have hpl := posF_lt (n := key) hr (show (keysF l)[h]? = some (toF g) by unfold keysF; rw [List.getElem?_map, hg]; rfl)
  refine aw_skip ?_
  refine then_normal ?_
  refine aw_block ?_
  refine aw_seq ?_
  refine aw_region ?_
  refine zst (op_move_tmp (by rfl)) rfl (by dsimp only [zS, zN, zH, zT]) ?_
  refine zst (op_move_tmp (by rfl)) rfl (by dsimp only [zS, zN, zH, zT]) ?_
  refine zst (op_add (by rfl) (by rfl) (show IntKind.i64.wrap ((i : Int) + j) = ((i + j : Nat) : Int) by rw [wrap_i64 ⟨by omega, by omega⟩]; omega)) rfl (by dsimp only [zS, zN, zH, zT]) ?_
  refine zst (op_convI (by rw [Try.underlying3]; rfl) Try.underlying164 (by rfl) (wrap_u64 ⟨by omega, by omega⟩)) rfl (by dsimp only [zS, zN, zH, zT]) ?_
  refine zst (op_shr (by rfl) (by rfl) (by omega) ((Go.AV.Val.shr1 (i + j)).trans (congrArg Nat.cast hh))) rfl (by dsimp only [zS, zN, zH, zT]) ?_
  refine zst (op_convI (by rw [Try.underlying164]; rfl) Try.underlying3 (by rfl) (wrap_i64 ⟨by omega, by omega⟩)) rfl (by dsimp only [zS, zN, zH, zT]) ?_
  refine zst (op_assign_tmp (by rfl)) rfl (by dsimp only [zS, zN, zH, zT]) ?_
  refine al_end rfl ?_
  refine then_normal ?_
  refine aw_seq ?_
  refine aw_region ?_
  refine zst (op_move_tmp (by rfl)) rfl (by dsimp only [zS, zN, zH, zT]) ?_
  refine zst (op_move_tmp (by rfl)) rfl (by dsimp only [zS, zN, zH, zT]) ?_
  refine zst (op_move_tmp (by rfl)) rfl (by dsimp only [zS, zN, zH, zT]) ?_
  refine zst (op_indexArr Try.underlying195 Sz197 (by rfl) (by rfl) (by omega) (by omega) (by rfl)) rfl (by dsimp only [zS, zN, zH, zT]) ?_
  refine zst (op_loadIA g Try.underlying197 (by rfl) Sz197 (by rfl) hb (by show _ ≤ cs.length; omega) (cellsI_at hu hg)) rfl (by dsimp only [zS, zN, zH, zT]) ?_
  refine zst (op_move_tmp (by rfl)) rfl (by dsimp only [zS, zN, zH, zT]) ?_
  refine zst (op_callV (by rfl) Try.func133 (by rfl) (by rfl) (.tmp (by rfl) (.tmp (by rfl) .nil)) (icmp_ok _ g.key g.w key)) rfl (by dsimp only [zS, zN, zH, zT]) ?_
  refine zst (op_ltI (by rfl) (by rfl)) rfl (by dsimp only [zS, zN, zH, zT]) ?_
  refine al_end rfl ?_
  refine then_normal ?_
  refine aw_cond rfl (fun hc2 => ?_) (fun hc2 => ?_)
  ·
   (try simp only [y1, y2, y3, y4, y5, y6, y7, y8, y9, y0, List.length_map] at hc2)
   have hless : h + 1 ≤ (posF (keysF l) key) := hpl.1 (cb_lt.1 hc2)
   refine aw_region ?_
   refine zst (op_move_tmp (by rfl)) rfl (by dsimp only [zS, zN, zH, zT]) ?_
   refine zst (by first | exact op_add (by rfl) (by rfl) (wrap_i64 ⟨by omega, by omega⟩) | exact op_add (by rfl) (by rfl) (by rfl)) rfl (by dsimp only [zS, zN, zH, zT]) ?_
   refine zst (op_assign_tmp (by rfl)) rfl (by dsimp only [zS, zN, zH, zT]) ?_
   refine al_end rfl ?_
   refine inBlock_normal ?_
   apply again_to (j - (h + 1)) [true, true, true, false, false, false, false, false, true, true, true, false, false, false, false, false, false, false, false, false, false, false, false, false, false, false, false, false, false, false, false, false, false, false, false, false, false, false, false, false, false, false, false, false, false, false, false, false, false]
   · (try dsimp only [maskT]); try exact rfl
   · rfl
   · omega
   exact ⟨h + 1, j, rfl, hless, hj, hjl, rfl, rfl⟩
  ·
   (try simp only [y1, y2, y3, y4, y5, y6, y7, y8, y9, y0, List.length_map] at hc2)
   have hless : (posF (keysF l) key) ≤ h := by have h1 : ¬ h < (posF (keysF l) key) := fun h2 => hc2 (cb_lt.2 (hpl.2 h2)); omega
   refine aw_region ?_
   refine zst (op_move_tmp (by rfl)) rfl (by dsimp only [zS, zN, zH, zT]) ?_
   refine zst (op_assign_tmp (by rfl)) rfl (by dsimp only [zS, zN, zH, zT]) ?_
   refine al_end rfl ?_
   refine inBlock_normal ?_
   apply again_to (h - i) [true, true, true, false, false, false, false, false, true, true, true, false, false, false, false, false, false, false, false, false, false, false, false, false, false, false, false, false, false, false, false, false, false, false, false, false, false, false, false, false, false, false, false, false, false, false, false, false, false]
   · (try dsimp only [maskT]); try exact rfl
   · rfl
   · omega
   exact ⟨i, h, rfl, hi, hless, by omega, rfl, rfl⟩
 ·
  (try simp only [y1, y2, y3, y4, y5, y6, y7, y8, y9, y0, List.length_map] at hc1)
  have hij : i = j := by omega
  subst hij
  have hpi : (posF (keysF l) key) = i := by omega
  refine aw_exit ?_
  refine then_exit (again_exit (inBlock_here (then_normal ?_)))
  refine aw_seq ?_
  refine aw_region ?_
  refine zst (op_move_tmp (by rfl)) rfl (by dsimp only [zS, zN, zH, zT]) ?_
  refine zst (op_move_tmp (by rfl)) rfl (by dsimp only [zS, zN, zH, zT]) ?_
  refine zst (op_move_tmp (by rfl)) rfl (by dsimp only [zS, zN, zH, zT]) ?_
  refine zst (op_ltI (by rfl) (by rfl)) rfl (by dsimp only [zS, zN, zH, zT]) ?_
  refine zst (op_move_tmp (by rfl)) rfl (by dsimp only [zS, zN, zH, zT]) ?_
  refine al_split 39 rfl (fun hg3 => ?_) (fun hg3 => ?_)
  ·
   (try simp only [y1, y2, y3, y4, y5, y6, y7, y8, y9, y0, List.length_map] at hg3)
   have hil : i < l.length := by (have h : (i : Int) < (l.length : Int) := hg3); omega
   obtain ⟨id, cap, cs, rfl, hb, hc, hcap, hu⟩ := Arr.pos hA (by omega)
   obtain ⟨g, hg⟩ : ∃ g, l[i]? = some g := ⟨_, List.getElem?_eq_getElem (by omega)⟩
   have hgk : (keysF l)[i]? = some (toF g) := by unfold keysF; rw [List.getElem?_map, hg]; rfl
   apply al_normT
   · (try dsimp only [zS, zN, zH, zT]); try exact rfl
   refine zsw rfl rfl rfl (op_move_tmp (by rfl)) (by dsimp only [zS, zN, zH, zT]) ?_
   refine zsw rfl rfl rfl (op_move_tmp (by rfl)) (by dsimp only [zS, zN, zH, zT]) ?_
   refine zsw rfl rfl rfl (op_move_tmp (by rfl)) (by dsimp only [zS, zN, zH, zT]) ?_
   refine zsw rfl rfl rfl (op_indexArr Try.underlying195 Sz197 (by rfl) (by rfl) (by omega) (by omega) (by rfl)) (by dsimp only [zS, zN, zH, zT]) ?_
   refine zsw rfl rfl rfl (op_loadIA g Try.underlying197 (by rfl) Sz197 (by rfl) hb (by show _ ≤ cs.length; omega) (cellsI_at hu hg)) (by dsimp only [zS, zN, zH, zT]) ?_
   refine zsw rfl rfl rfl (op_move_tmp (by rfl)) (by dsimp only [zS, zN, zH, zT]) ?_
   refine zsw rfl rfl rfl (op_callV (by rfl) Try.func133 (by rfl) (by rfl) (.tmp (by rfl) (.tmp (by rfl) .nil)) (icmp_ok _ g.key g.w key)) (by dsimp only [zS, zN, zH, zT]) ?_
   refine zsw rfl rfl rfl (op_eqI (by rfl) (by rfl)) (by dsimp only [zS, zN, zH, zT]) ?_
   refine zst (op_pick_tt (by rfl) (val_tmp (by rfl))) rfl (by dsimp only [zS, zN, zH, zT]) ?_
   refine zst (op_assign_tmp (by rfl)) rfl (by dsimp only [zS, zN, zH, zT]) ?_
   refine zst (op_assign_tmp (by rfl)) rfl (by dsimp only [zS, zN, zH, zT]) ?_
   refine al_end rfl ?_
   refine then_normal ?_
   refine aw_ret ?_
   refine retPost2 rfl rfl rfl ?_
   exact ⟨by (rw [hpi, show (hasF (keysF l) key) = (g.key == key) by simp [hasF, hpi, hgk, toF, F.name]]; rw [show (Lib.compareBytes g.key key == 0) = (g.key == key) by rw [Bool.eq_iff_iff]; simp [cb_eq]]), rfl⟩
  ·
   (try simp only [y1, y2, y3, y4, y5, y6, y7, y8, y9, y0, List.length_map] at hg3)
   have hil : ¬ i < l.length := by (have h : ¬ (i : Int) < (l.length : Int) := hg3); omega
   apply al_normT
   · (try dsimp only [zS, zN, zH, zT]); try exact rfl
   refine zuw rfl rfl rfl rfl (by dsimp only [zS, zN, zH, zT]) ?_
   refine zuw rfl rfl rfl rfl (by dsimp only [zS, zN, zH, zT]) ?_
   refine zuw rfl rfl rfl rfl (by dsimp only [zS, zN, zH, zT]) ?_
   refine zuw rfl rfl rfl rfl (by dsimp only [zS, zN, zH, zT]) ?_
   refine zuw rfl rfl rfl rfl (by dsimp only [zS, zN, zH, zT]) ?_
   refine zuw rfl rfl rfl rfl (by dsimp only [zS, zN, zH, zT]) ?_
   refine zuw rfl rfl rfl rfl (by dsimp only [zS, zN, zH, zT]) ?_
   refine zuw rfl rfl rfl rfl (by dsimp only [zS, zN, zH, zT]) ?_
   refine zst (op_pick_ff (by rfl) (val_const (by rfl))) rfl (by dsimp only [zS, zN, zH, zT]) ?_
   refine zst (op_assign_tmp (by rfl)) rfl (by dsimp only [zS, zN, zH, zT]) ?_
   refine zst (op_assign_tmp (by rfl)) rfl (by dsimp only [zS, zN, zH, zT]) ?_
   refine al_end rfl ?_
   refine then_normal ?_
   refine aw_ret ?_
   refine retPost2 rfl rfl rfl ?_
   exact ⟨by (rw [hpi, show (hasF (keysF l) key) = false by simp [hasF, hpi, List.getElem?_eq_none (show (keysF l).length ≤ i by omega)]]) <;> rfl, rfl⟩
set_option maxRecDepth 100000 in
theorem leafc2_ok (Hs : HS) (tid sid : Nat) (lv : AV) (sz : Int) (ls : List (List It)) (vs : List AV) (p : Nat) (l : List It) (key : List UInt8) (i : Nat) (hl : ls[i]? = some l) (hp : Hs.blks[p]? = some ⟨193, [.ptr tid 5], false⟩) (hT : Hs.blks[tid]? = some ⟨145, [.ptr sid 0, .d (I 0), .d (I 0), .d (I 0), .d (I 0), lv, .d (I sz)], false⟩) (hL : LvT Hs 195 197 lv ls vs)  : ACalls Try.prog 161 [.d (I i), .ptr p 0, .elt [S key]] Hs (Ret (.d (TF (!(Op.bytesLess (headI l).key key || (headI l).key == key)))) Hs) := by
 obtain ⟨O, cap, cs, M, c, ds, rfl, hbO, hci, hbM, hdl, hlc, hdu, hne, hAr, hlm⟩ := hL.at_ hl
 have hil : i < ls.length := (List.getElem?_eq_some_iff.1 hl).1
 have hpos : 0 < l.length := List.length_pos_iff.2 hne
 refine acalls_of_aw Try.func161 rfl ?_
 refine aw_start (T' := [.d (I i), .ptr p 0, .elt [S key], .un, .un, .un, .un, .un, .un, .un, .un, .un, .un, .un, .un, .un, .un]) rfl ?_
 refine aw_seq ?_
 refine aw_region ?_
 refine zst (op_assign_const (by rfl)) rfl (by dsimp only [zS, zN, zH, zT]) ?_
 refine al_end rfl ?_
 refine then_normal ?_
 refine aw_seq ?_
 refine aw_draw [1, 0, 0, 1, 0, 0, 1, 0, 0, 1, 1, 0, 0] mixed (by kernel_rfl) ?_
 refine zd1 (by first | exact op_load_elt Try.underlying193 (by rfl) (by rfl) (by rfl) | exact op_load_ptr Try.underlying193 (by rfl) (by rfl) (by assumption) (by rfl)) rfl (by dsimp only [zS, zN, zH, zT]) ?_
 refine zd0 (fun H => (by first | exact op_nilCheck_ptr (by rfl) | exact op_nilCheck_elt (by rfl))) rfl (by dsimp only [zS, zN, zH, zT]) ?_
 refine zd0 (fun H => (by first | exact op_fieldAddr_ptr Try.underlying143 rfl Sz141 (by rfl) (by rfl) | exact op_fieldAddr_elt Try.underlying143 rfl Sz141 (by rfl) (by rfl) (by rfl))) rfl (by dsimp only [zS, zN, zH, zT]) ?_
 refine zd1 (by first | exact op_load_elt Try.underlying141 (by rfl) (by rfl) (by rfl) | exact op_load_ptr Try.underlying141 (by rfl) (by rfl) (by assumption) (by rfl)) rfl (by dsimp only [zS, zN, zH, zT]) ?_
 refine zd0 (fun H => (op_move_tmp (by rfl))) rfl (by dsimp only [zS, zN, zH, zT]) ?_
 refine zd0 (fun H => (op_indexArr (off := i) Try.underlying141 Sz195 (by rfl) (by rfl) (by omega) (by omega) (by omega))) rfl (by dsimp only [zS, zN, zH, zT]) ?_
 refine zd1 (op_load_ptr Try.underlying195 (by rfl) (by rfl) hbO hci) rfl (by dsimp only [zS, zN, zH, zT]) ?_
 refine zd0 (fun H => (op_indexArr (off := 0) Try.underlying195 Sz197 (by rfl) (by rfl) (by decide) (by omega) (by rfl))) rfl (by dsimp only [zS, zN, zH, zT]) ?_
 refine zd0 (fun H => (by first | exact op_fieldAddr_ptr Try.underlying197 rfl Sz9 (by rfl) (by rfl) | exact op_fieldAddr_elt Try.underlying197 rfl Sz9 (by rfl) (by rfl) (by rfl))) rfl (by dsimp only [zS, zN, zH, zT]) ?_
 refine zd1 (op_load_ptr Try.underlying9 (by rfl) (by rfl) hbM (first_cell hdu hne)) rfl (by dsimp only [zS, zN, zH, zT]) ?_
 refine zd1 (op_load_elt Try.underlying9 (by rfl) (by rfl) (by rfl)) rfl (by dsimp only [zS, zN, zH, zT]) ?_
 refine zd0 (fun H => (op_gtS (by rfl) (by rfl))) rfl (by dsimp only [zS, zN, zH, zT]) ?_
 refine zd0 (fun H => (op_assign_tmp (by rfl))) rfl (by dsimp only [zS, zN, zH, zT]) ?_
 refine drun_end rfl ?_
 refine then_normal ?_
 refine aw_ret ?_
 refine retPost1 rfl rfl ?_
 exact ⟨rfl, rfl⟩
set_option maxRecDepth 100000 in
theorem ssearch2_ok (Hs : HS) (tid sid : Nat) (lv : AV) (sz : Int) (ls : List (List It)) (vs : List AV) (p : Nat) (key : List UInt8) (hr : rises (firstsF ls) = true) (hl9 : ls.length ≤ 100000) (hp : Hs.blks[p]? = some ⟨193, [.ptr tid 5], false⟩) (hT : Hs.blks[tid]? = some ⟨145, [.ptr sid 0, .d (I 0), .d (I 0), .d (I 0), .d (I 0), lv, .d (I sz)], false⟩) (hL : LvT Hs 195 197 lv ls vs)  : ACalls Try.prog 153 [.d (I ls.length), .fn (.func 161) [] [.ptr p 0, .elt [S key]]] Hs (Ret (.d (I (posU (firstsF ls) key))) Hs) := by
 have hple := posU_le (firstsF ls) key
 have hfl : (firstsF ls).length = ls.length := List.length_map _
 refine acalls_of_aw Try.func153 rfl ?_
 refine aw_start (T' := [.d (I ls.length), .fn (.func 161) [] [.ptr p 0, .elt [S key]], .un, .un, .un, .un, .un, .un, .un, .un, .un, .un, .un, .un, .un, .un, .un, .un, .un, .un, .un, .un, .un, .un, .un, .un]) rfl ?_
 refine aw_seq ?_
 refine aw_region ?_
 refine zst (op_assign_const (by rfl)) rfl (by dsimp only [zS, zN, zH, zT]) ?_
 refine al_end rfl ?_
 refine then_normal ?_
 refine aw_seq ?_
 refine aw_region ?_
 refine zst (op_move_tmp (by rfl)) rfl (by dsimp only [zS, zN, zH, zT]) ?_
 refine zst (op_assign_const (by rfl)) rfl (by dsimp only [zS, zN, zH, zT]) ?_
 refine zst (op_assign_tmp (by rfl)) rfl (by dsimp only [zS, zN, zH, zT]) ?_
 refine al_end rfl ?_
 refine then_normal ?_
 refine aw_seq ?_
 refine aw_block ?_
 apply aw_loopF (fun n T H => ∃ (i : Nat) (j : Nat), T = [.un, .fn (.func 161) [] [.ptr p 0, .elt [S key]], .un, .un, .un, .d (I i), .d (I j), .un, .un, .un, .un, .un, .un, .un, .un, .un, .un, .un, .un, .un, .un, .un, .un, .un, .un, .un] ∧ i ≤ (posU (firstsF ls) key) ∧ (posU (firstsF ls) key) ≤ j ∧ j ≤ ls.length ∧ n = j - i ∧ Hs = H) (ls.length) [false, true, false, false, false, true, true, false, false, false, false, false, false, false, false, false, false, false, false, false, false, false, false, false, false, false]
 · (try dsimp only [maskT]); try exact rfl
 · rfl
 · exact ⟨0, ls.length, rfl, by omega, by omega, by omega, rfl, rfl⟩
 rintro n T H ⟨i, j, rfl, hi, hj, hjl, rfl, rfl⟩
 refine aw_seq ?_
 refine aw_seq ?_
 refine aw_region ?_
 refine zst (op_move_tmp (by rfl)) rfl (by dsimp only [zS, zN, zH, zT]) ?_
 refine zst (op_move_tmp (by rfl)) rfl (by dsimp only [zS, zN, zH, zT]) ?_
 refine zst (op_ltI (by rfl) (by rfl)) rfl (by dsimp only [zS, zN, zH, zT]) ?_
 refine al_end rfl ?_
 refine then_normal ?_
 refine aw_cond rfl (fun hc1 => ?_) (fun hc1 => ?_)
 ·
  (try simp only [y1, y2, y3, y4, y5, y6, y7, y8, y9, y0, List.length_map] at hc1)
  have hij : i < j := by omega
  obtain ⟨h, hh⟩ : ∃ h, (i + j) / 2 = h := ⟨_, rfl⟩
  have hh1 : i ≤ h ∧ h < j := by omega
  obtain ⟨l, hl⟩ : ∃ l, ls[h]? = some l := ⟨_, List.getElem?_eq_getElem (by omega)⟩
  have hpl := posU_lt (key := key) hr (show (firstsF ls)[h]? = some (toF (headI l)) by unfold firstsF; rw [List.getElem?_map, hl]; rfl)
  refine aw_skip ?_
  refine then_normal ?_
  refine aw_block ?_
  refine aw_seq ?_
  refine aw_region ?_
  refine zst (op_move_tmp (by rfl)) rfl (by dsimp only [zS, zN, zH, zT]) ?_
  refine zst (op_move_tmp (by rfl)) rfl (by dsimp only [zS, zN, zH, zT]) ?_
  refine zst (op_add (by rfl) (by rfl) (show IntKind.i64.wrap ((i : Int) + j) = ((i + j : Nat) : Int) by rw [wrap_i64 ⟨by omega, by omega⟩]; omega)) rfl (by dsimp only [zS, zN, zH, zT]) ?_
  refine zst (op_convI (by rw [Try.underlying3]; rfl) Try.underlying164 (by rfl) (wrap_u64 ⟨by omega, by omega⟩)) rfl (by dsimp only [zS, zN, zH, zT]) ?_
  refine zst (op_shr (by rfl) (by rfl) (by omega) ((Go.AV.Val.shr1 (i + j)).trans (congrArg Nat.cast hh))) rfl (by dsimp only [zS, zN, zH, zT]) ?_
  refine zst (op_convI (by rw [Try.underlying164]; rfl) Try.underlying3 (by rfl) (wrap_i64 ⟨by omega, by omega⟩)) rfl (by dsimp only [zS, zN, zH, zT]) ?_
  refine zst (op_assign_tmp (by rfl)) rfl (by dsimp only [zS, zN, zH, zT]) ?_
  refine al_end rfl ?_
  refine then_normal ?_
  refine aw_seq ?_
  refine aw_region ?_
  refine zst (op_move_tmp (by rfl)) rfl (by dsimp only [zS, zN, zH, zT]) ?_
  refine zst (op_move_tmp (by rfl)) rfl (by dsimp only [zS, zN, zH, zT]) ?_
  refine zst (op_callV (by rfl) Try.func161 (by rfl) (by rfl) (.tmp (by rfl) .nil) (leafc2_ok _ tid sid lv sz ls vs p l key h hl hp hT hL)) rfl (by dsimp only [zS, zN, zH, zT]) ?_
  refine zst (op_not (by rfl)) rfl (by dsimp only [zS, zN, zH, zT]) ?_
  refine al_end rfl ?_
  refine then_normal ?_
  refine aw_cond rfl (fun hc2 => ?_) (fun hc2 => ?_)
  ·
   (try simp only [y1, y2, y3, y4, y5, y6, y7, y8, y9, y0, List.length_map] at hc2)
   have hless : h + 1 ≤ (posU (firstsF ls) key) := hpl.1 (by simpa [toF, F.name] using hc2)
   refine aw_region ?_
   refine zst (op_move_tmp (by rfl)) rfl (by dsimp only [zS, zN, zH, zT]) ?_
   refine zst (by first | exact op_add (by rfl) (by rfl) (wrap_i64 ⟨by omega, by omega⟩) | exact op_add (by rfl) (by rfl) (by rfl)) rfl (by dsimp only [zS, zN, zH, zT]) ?_
   refine zst (op_assign_tmp (by rfl)) rfl (by dsimp only [zS, zN, zH, zT]) ?_
   refine al_end rfl ?_
   refine inBlock_normal ?_
   apply again_to (j - (h + 1)) [false, true, false, false, false, true, true, false, false, false, false, false, false, false, false, false, false, false, false, false, false, false, false, false, false, false]
   · (try dsimp only [maskT]); try exact rfl
   · rfl
   · omega
   exact ⟨h + 1, j, rfl, hless, hj, hjl, rfl, rfl⟩
  ·
   (try simp only [y1, y2, y3, y4, y5, y6, y7, y8, y9, y0, List.length_map] at hc2)
   have hless : (posU (firstsF ls) key) ≤ h := by have h1 : ¬ h < (posU (firstsF ls) key) := (fun h2 => by have h3 := hpl.2 h2; simp [toF, F.name] at h3 hc2; rcases h3 with h3 | h3 <;> simp [hc2] at h3); omega
   refine aw_region ?_
   refine zst (op_move_tmp (by rfl)) rfl (by dsimp only [zS, zN, zH, zT]) ?_
   refine zst (op_assign_tmp (by rfl)) rfl (by dsimp only [zS, zN, zH, zT]) ?_
   refine al_end rfl ?_
   refine inBlock_normal ?_
   apply again_to (h - i) [false, true, false, false, false, true, true, false, false, false, false, false, false, false, false, false, false, false, false, false, false, false, false, false, false, false]
   · (try dsimp only [maskT]); try exact rfl
   · rfl
   · omega
   exact ⟨i, h, rfl, hi, hless, by omega, rfl, rfl⟩
 ·
  (try simp only [y1, y2, y3, y4, y5, y6, y7, y8, y9, y0, List.length_map] at hc1)
  have hij : i = j := by omega
  subst hij
  have hpi : (posU (firstsF ls) key) = i := by omega
  refine aw_exit ?_
  refine then_exit (again_exit (inBlock_here (then_normal ?_)))
  refine aw_seq ?_
  refine aw_region ?_
  refine zst (op_move_tmp (by rfl)) rfl (by dsimp only [zS, zN, zH, zT]) ?_
  refine zst (op_assign_tmp (by rfl)) rfl (by dsimp only [zS, zN, zH, zT]) ?_
  refine al_end rfl ?_
  refine then_normal ?_
  refine aw_ret ?_
  refine retPost1 rfl rfl ?_
  exact ⟨by rw [hpi], rfl⟩
set_option maxRecDepth 100000 in
theorem leaf2_ok (Hs : HS) (tid sid : Nat) (lv : AV) (sz : Int) (ls : List (List It)) (vs : List AV) (key : List UInt8) (hr : rises (firstsF ls) = true) (hl9 : ls.length ≤ 100000) (hT : Hs.blks[tid]? = some ⟨145, [.ptr sid 0, .d (I 0), .d (I 0), .d (I 0), .d (I 0), lv, .d (I sz)], false⟩) (hL : LvT Hs 195 197 lv ls vs)  : ACalls Try.prog 131 [.ptr tid 5, .d (S key)] Hs (Ret (.d (I (leafI ls key : Nat))) Hs) := by
 refine ACalls.tidy1 ?_
 have hple := posU_le (firstsF ls) key
 have hfl : (firstsF ls).length = ls.length := List.length_map _
 refine acalls_of_aw Try.func131 rfl ?_
 refine aw_start (T' := [.ptr tid 5, .d (S key), .un, .un, .un, .un, .un, .un, .un, .un, .un, .un, .un, .un, .un, .un]) rfl ?_
 refine aw_seq ?_
 refine aw_region ?_
 refine zst (op_box_ptr (cs := [.ptr tid 5]) (by intro h; cases h) (by rfl)) rfl (by dsimp only [zS, zN, zH, zT]) ?_
 refine zst (op_box_elt (cs := [S key]) (by rfl) (by rfl)) rfl (by dsimp only [zS, zN, zH, zT]) ?_
 refine zst (op_assign_const (by rfl)) rfl (by dsimp only [zS, zN, zH, zT]) ?_
 refine al_end rfl ?_
 refine then_normal ?_
 refine aw_seq ?_
 refine aw_region ?_
 refine zst (by first | exact op_load_elt Try.underlying193 (by rfl) (by rfl) (by rfl) | exact op_load_ptr Try.underlying193 (by rfl) (by rfl) (by first | assumption | exact push_at | exact push_ne hT) (by rfl)) rfl (by dsimp only [zS, zN, zH, zT]) ?_
 refine zst (by first | exact op_nilCheck_ptr (by rfl) | exact op_nilCheck_elt (by rfl)) rfl (by dsimp only [zS, zN, zH, zT]) ?_
 refine zst (by first | exact op_fieldAddr_ptr Try.underlying143 rfl Sz141 (by rfl) (by rfl) | exact op_fieldAddr_elt Try.underlying143 rfl Sz141 (by rfl) (by rfl) (by rfl)) rfl (by dsimp only [zS, zN, zH, zT]) ?_
 refine zst (by first | exact op_load_elt Try.underlying141 (by rfl) (by rfl) (by rfl) | exact op_load_ptr Try.underlying141 (by rfl) (by rfl) (by first | assumption | exact push_at | exact push_ne hT) (by rfl)) rfl (by dsimp only [zS, zN, zH, zT]) ?_
 refine zst (op_lenA Try.underlying141 (by rfl) hL.out) rfl (by dsimp only [zS, zN, zH, zT]) ?_
 refine zst (op_makeFn .nil (.tmp (by rfl) (.tmp (by rfl) .nil))) rfl (by dsimp only [zS, zN, zH, zT]) ?_
 refine zst (op_callF Try.func153 (by rfl) (by rfl) (.tmp (by rfl) (.tmp (by rfl) .nil)) (ssearch2_ok _ tid sid lv sz ls vs _ key hr hl9 push_at (push_ne hT) (hL.push _ _))) rfl (by dsimp only [zS, zN, zH, zT]) ?_
 refine zst (op_assign_tmp (by rfl)) rfl (by dsimp only [zS, zN, zH, zT]) ?_
 refine al_end rfl ?_
 refine then_normal ?_
 refine aw_seq ?_
 refine aw_region ?_
 refine zst (op_move_tmp (by rfl)) rfl (by dsimp only [zS, zN, zH, zT]) ?_
 refine zst (op_sub (r := ((posU (firstsF ls) key) : Int) - 1) (by rfl) (by rfl) (wrap_i64 ⟨by omega, by omega⟩)) rfl (by dsimp only [zS, zN, zH, zT]) ?_
 refine zst (op_max (by rfl) (by rfl)) rfl (by dsimp only [zS, zN, zH, zT]) ?_
 refine zst (op_assign_tmp (by rfl)) rfl (by dsimp only [zS, zN, zH, zT]) ?_
 refine al_end rfl ?_
 refine then_normal ?_
 refine aw_ret ?_
 refine retPost1 rfl rfl ?_
 exact ⟨by unfold leafI; congr 3; split <;> omega, (Ext.refl Hs).push _ _⟩
set_option maxRecDepth 100000 in
theorem find2_ok (Hs : HS) (tid sid : Nat) (lv : AV) (sz : Int) (ls : List (List It)) (vs : List AV) (key : List UInt8) (l : List It) (hl : LfAt ls key l) (hr : rises (firstsF ls) = true) (hrl : rises (keysF l) = true) (hl9 : ls.length ≤ 100000) (hT : Hs.blks[tid]? = some ⟨145, [.ptr sid 0, .d (I 0), .d (I 0), .d (I 0), .d (I 0), lv, .d (I sz)], false⟩) (hL : LvT Hs 195 197 lv ls vs)  : ACalls Try.prog 100 [.ptr tid 5, .d (S key)] Hs (Ret (.tup [.d (I (leafI ls key : Nat)), .d (I (posF (keysF l) key)), .d (TF (hasF (keysF l) key))]) Hs) := by
 refine acalls_of_aw Try.func100 rfl ?_
 refine aw_start (T' := [.ptr tid 5, .d (S key), .un, .un, .un, .un, .un, .un, .un, .un, .un, .un, .un, .un, .un, .un, .un, .un, .un, .un, .un, .un, .un, .un, .un, .un, .un, .un, .un, .un, .un, .un, .un, .un, .un, .un, .un, .un]) rfl ?_
 refine aw_seq ?_
 refine aw_region ?_
 refine zst (op_assign_const (by rfl)) rfl (by dsimp only [zS, zN, zH, zT]) ?_
 refine zst (op_assign_const (by rfl)) rfl (by dsimp only [zS, zN, zH, zT]) ?_
 refine zst (op_assign_const (by rfl)) rfl (by dsimp only [zS, zN, zH, zT]) ?_
 refine al_end rfl ?_
 refine then_normal ?_
 refine aw_seq ?_
 refine aw_seq ?_
 refine aw_region ?_
 refine zst (op_move_tmp (by rfl)) rfl (by dsimp only [zS, zN, zH, zT]) ?_
 refine zst (op_ptr_nil Try.underlying193 (by rfl) (by rfl)) rfl (by dsimp only [zS, zN, zH, zT]) ?_
 refine zst (op_move_tmp (by rfl)) rfl (by dsimp only [zS, zN, zH, zT]) ?_
 refine zsw rfl rfl rfl (op_move_tmp (by rfl)) (by dsimp only [zS, zN, zH, zT]) ?_
 refine zsw rfl rfl rfl (by first | exact op_nilCheck_ptr (by rfl) | exact op_nilCheck_elt (by rfl)) (by dsimp only [zS, zN, zH, zT]) ?_
 refine zsw rfl rfl rfl (by first | exact op_fieldAddr_ptr Try.underlying143 rfl Sz141 (by rfl) (by rfl) | exact op_fieldAddr_elt Try.underlying143 rfl Sz141 (by rfl) (by rfl) (by rfl)) (by dsimp only [zS, zN, zH, zT]) ?_
 refine zsw rfl rfl rfl (by first | exact op_load_elt Try.underlying141 (by rfl) (by rfl) (by rfl) | exact op_load_ptr Try.underlying141 (by rfl) (by rfl) (by assumption) (by rfl)) (by dsimp only [zS, zN, zH, zT]) ?_
 refine zsw rfl rfl rfl (op_lenA Try.underlying141 (by rfl) hL.out) (by dsimp only [zS, zN, zH, zT]) ?_
 refine zsw rfl rfl rfl (op_eqI (by rfl) (by rfl)) (by dsimp only [zS, zN, zH, zT]) ?_
 refine zst (op_pick_ff (by rfl) (val_tmp (by rfl))) rfl (by dsimp only [zS, zN, zH, zT]) ?_
 refine al_end rfl ?_
 refine then_normal ?_
 refine aw_cond rfl (fun hc1 => ?_) (fun hc1 => ?_)
 ·
  (try simp only [y1, y2, y3, y4, y5, y6, y7, y8, y9, y0, List.length_map] at hc1)
  obtain rfl : ls = [] := List.eq_nil_of_length_eq_zero (by omega)
  obtain rfl : l = [] := by rcases hl with h | h; exact h.2; simp at h
  refine aw_seq ?_
  refine aw_region ?_
  refine zst (op_assign_const (by rfl)) rfl (by dsimp only [zS, zN, zH, zT]) ?_
  refine zst (op_assign_const (by rfl)) rfl (by dsimp only [zS, zN, zH, zT]) ?_
  refine zst (op_assign_const (by rfl)) rfl (by dsimp only [zS, zN, zH, zT]) ?_
  refine al_end rfl ?_
  refine then_normal ?_
  refine aw_ret ?_
  refine then_ret ?_
  refine retPost3 rfl rfl rfl rfl ?_
  exact ⟨rfl, rfl⟩
 ·
  (try simp only [y1, y2, y3, y4, y5, y6, y7, y8, y9, y0, List.length_map] at hc1)
  have hl : ls[leafI ls key]? = some l := by rcases hl with h | h; (rw [h.1] at hc1; exact absurd rfl hc1); exact h
  have hil : leafI ls key < ls.length := (List.getElem?_eq_some_iff.1 hl).1
  have hL0 := hL
  obtain ⟨O, cap, cs, M, c, ds, rfl, hbO, hci, hbM, hdl, hlc, hdu, hne, hAr, hlm⟩ := hL.at_ hl
  refine aw_skip ?_
  refine then_normal ?_
  refine aw_seq ?_
  refine aw_region ?_
  refine zst (op_move_tmp (by rfl)) rfl (by dsimp only [zS, zN, zH, zT]) ?_
  refine zst (op_move_tmp (by rfl)) rfl (by dsimp only [zS, zN, zH, zT]) ?_
  refine zst (op_callF Try.func131 (by rfl) (by rfl) (.tmp (by rfl) (.tmp (by rfl) .nil)) (leaf2_ok _ tid sid _ sz ls vs key hr hl9 hT hL0)) rfl (by dsimp only [zS, zN, zH, zT]) ?_
  refine zst (op_assign_tmp (by rfl)) rfl (by dsimp only [zS, zN, zH, zT]) ?_
  refine al_end rfl ?_
  refine then_normal ?_
  refine aw_seq ?_
  refine aw_region ?_
  refine zst (op_move_tmp (by rfl)) rfl (by dsimp only [zS, zN, zH, zT]) ?_
  refine zst (by first | exact op_nilCheck_ptr (by rfl) | exact op_nilCheck_elt (by rfl)) rfl (by dsimp only [zS, zN, zH, zT]) ?_
  refine zst (by first | exact op_fieldAddr_ptr Try.underlying143 rfl Sz141 (by rfl) (by rfl) | exact op_fieldAddr_elt Try.underlying143 rfl Sz141 (by rfl) (by rfl) (by rfl)) rfl (by dsimp only [zS, zN, zH, zT]) ?_
  refine zst (by first | exact op_load_elt Try.underlying141 (by rfl) (by rfl) (by rfl) | exact op_load_ptr Try.underlying141 (by rfl) (by rfl) (by assumption) (by rfl)) rfl (by dsimp only [zS, zN, zH, zT]) ?_
  refine zst (op_move_tmp (by rfl)) rfl (by dsimp only [zS, zN, zH, zT]) ?_
  refine zst (op_indexArr (off := leafI ls key) Try.underlying141 Sz195 (by rfl) (by rfl) (by omega) (by omega) (by omega)) rfl (by dsimp only [zS, zN, zH, zT]) ?_
  refine zst (op_load_ptr Try.underlying195 (by rfl) (by rfl) hbO hci) rfl (by dsimp only [zS, zN, zH, zT]) ?_
  refine zst (op_move_tmp (by rfl)) rfl (by dsimp only [zS, zN, zH, zT]) ?_
  refine zst (op_callF Try.func132 (by rfl) (by rfl) (.tmp (by rfl) (.tmp (by rfl) (.func .nil))) (bsearch2_ok _ _ l key hAr hrl hlm)) rfl (by dsimp only [zS, zN, zH, zT]) ?_
  refine zst (op_move_tmp (by rfl)) rfl (by dsimp only [zS, zN, zH, zT]) ?_
  refine zst (op_extract (by rfl) (by rfl)) rfl (by dsimp only [zS, zN, zH, zT]) ?_
  refine zst (op_extract (by rfl) (by rfl)) rfl (by dsimp only [zS, zN, zH, zT]) ?_
  refine zst (op_assign_tmp (by rfl)) rfl (by dsimp only [zS, zN, zH, zT]) ?_
  refine zst (op_assign_tmp (by rfl)) rfl (by dsimp only [zS, zN, zH, zT]) ?_
  refine al_end rfl ?_
  refine then_normal ?_
  refine aw_seq ?_
  refine aw_region ?_
  refine zst (op_move_tmp (by rfl)) rfl (by dsimp only [zS, zN, zH, zT]) ?_
  refine zst (op_move_tmp (by rfl)) rfl (by dsimp only [zS, zN, zH, zT]) ?_
  refine zst (op_move_tmp (by rfl)) rfl (by dsimp only [zS, zN, zH, zT]) ?_
  refine zst (op_assign_tmp (by rfl)) rfl (by dsimp only [zS, zN, zH, zT]) ?_
  refine zst (op_assign_tmp (by rfl)) rfl (by dsimp only [zS, zN, zH, zT]) ?_
  refine zst (op_assign_tmp (by rfl)) rfl (by dsimp only [zS, zN, zH, zT]) ?_
  refine al_end rfl ?_
  refine then_normal ?_
  refine aw_ret ?_
  refine retPost3 rfl rfl rfl rfl ?_
  exact ⟨rfl, rfl⟩
theorem find2_at (Hs : HS) (tid sid : Nat) (lv : AV) (sz : Int) (ls : List (List It)) (vs : List AV) (key : List UInt8) (l : List It) (b : Bool) (hb : hasF (keysF l) key = b) (hl : LfAt ls key l) (hr : rises (firstsF ls) = true) (hrl : rises (keysF l) = true) (hl9 : ls.length ≤ 100000) (hT : Hs.blks[tid]? = some ⟨145, [.ptr sid 0, .d (I 0), .d (I 0), .d (I 0), .d (I 0), lv, .d (I sz)], false⟩) (hL : LvT Hs 195 197 lv ls vs) : ACalls Try.prog 100 [.ptr tid 5, .d (S key)] Hs (Ret (.tup [.d (I (leafI ls key : Nat)), .d (I (posF (keysF l) key)), .d (TF b)]) Hs) := by
  subst hb
  exact find2_ok Hs tid sid lv sz ls vs key l hl hr hrl hl9 hT hL
end Go.Proofs.Ytjbpfnoibeogbaa
