/- What the functions of layer 2 that compare come to. -/
import Derived.Test.YtjamnhofbkgblaaFacts
import Derived.Test.YtjamnhofbkgblaaValCmp
import Derived.KernelRfl
namespace Go.Proofs.Ytjamnhofbkgblaa
open Go.AV Go.AV.Ord Go.AV.Oct Go.AV.Val
set_option linter.unusedVariables false
set_option linter.unusedSimpArgs false
/- Is a number no number? -/
set_option maxRecDepth 100000 in
theorem nanK_ok (Hs : HS) (a : Int) : ACalls Try.prog 64 [.d (I a)] Hs (Ret (.d (TF false)) Hs) := by
 refine acalls_of_aw Try.func64 rfl ?_
 refine aw_start (T' := [.d (I a), .un, .un, .un, .un, .un]) rfl ?_
 refine aw_seq ?_
 refine aw_region ?_
 refine zst (op_assign_const (by rfl)) rfl (by dsimp only [zS, zN, zH, zT]) ?_
 refine al_end rfl ?_
 refine then_normal ?_
 refine aw_seq ?_
 refine aw_region ?_
 refine zst (op_move_tmp (by rfl)) rfl (by dsimp only [zS, zN, zH, zT]) ?_
 refine zst (op_move_tmp (by rfl)) rfl (by dsimp only [zS, zN, zH, zT]) ?_
 refine zst (op_neI (by rfl) (by rfl)) rfl (by dsimp only [zS, zN, zH, zT]) ?_
 refine zst (op_assign_tmp (by rfl)) rfl (by dsimp only [zS, zN, zH, zT]) ?_
 refine al_end rfl ?_
 refine then_normal ?_
 refine aw_ret ?_
 refine retPost1 rfl rfl ?_
 exact ⟨by simp [TF], rfl⟩
/- The order of two numbers. -/
set_option maxRecDepth 100000 in
theorem cmpK_ok (Hs : HS) (a b : Int) : ACalls Try.prog 44 [.d (I a), .d (I b)] Hs (Ret (.d (I (cmpI a b))) Hs) := by
 refine acalls_of_aw Try.func44 rfl ?_
 refine aw_start (T' := [.d (I a), .d (I b), .un, .un, .un, .un, .un, .un, .un, .un, .un, .un, .un, .un, .un, .un, .un, .un, .un, .un]) rfl ?_
 refine aw_seq ?_
 refine aw_region ?_
 refine zst (op_assign_const (by rfl)) rfl (by dsimp only [zS, zN, zH, zT]) ?_
 refine al_end rfl ?_
 refine then_normal ?_
 refine aw_seq ?_
 refine aw_region ?_
 refine zst (op_move_tmp (by rfl)) rfl (by dsimp only [zS, zN, zH, zT]) ?_
 refine zst (op_callF Try.func64 (by rfl) (by rfl) (.tmp (by rfl) .nil) (nanK_ok _ a)) rfl (by dsimp only [zS, zN, zH, zT]) ?_
 refine zst (op_assign_tmp (by rfl)) rfl (by dsimp only [zS, zN, zH, zT]) ?_
 refine al_end rfl ?_
 refine then_normal ?_
 refine aw_seq ?_
 refine aw_region ?_
 refine zst (op_move_tmp (by rfl)) rfl (by dsimp only [zS, zN, zH, zT]) ?_
 refine zst (op_callF Try.func64 (by rfl) (by rfl) (.tmp (by rfl) .nil) (nanK_ok _ b)) rfl (by dsimp only [zS, zN, zH, zT]) ?_
 refine zst (op_assign_tmp (by rfl)) rfl (by dsimp only [zS, zN, zH, zT]) ?_
 refine al_end rfl ?_
 refine then_normal ?_
 refine aw_seq ?_
 refine aw_seq ?_
 refine aw_region ?_
 refine zst (op_move_tmp (by rfl)) rfl (by dsimp only [zS, zN, zH, zT]) ?_
 refine al_end rfl ?_
 refine then_normal ?_
 refine aw_cond rfl (fun h => by cases h) (fun _ => ?_)
 refine aw_skip ?_
 refine then_normal ?_
 refine aw_seq ?_
 refine aw_seq ?_
 refine aw_region ?_
 refine zst (op_move_tmp (by rfl)) rfl (by dsimp only [zS, zN, zH, zT]) ?_
 refine al_end rfl ?_
 refine then_normal ?_
 refine aw_cond rfl (fun h => by cases h) (fun _ => ?_)
 refine aw_skip ?_
 refine then_normal ?_
 refine aw_seq ?_
 refine aw_seq ?_
 refine aw_region ?_
 refine zst (op_move_tmp (by rfl)) rfl (by dsimp only [zS, zN, zH, zT]) ?_
 refine zst (op_move_tmp (by rfl)) rfl (by dsimp only [zS, zN, zH, zT]) ?_
 refine zst (op_ltI (by rfl) (by rfl)) rfl (by dsimp only [zS, zN, zH, zT]) ?_
 refine al_end rfl ?_
 refine then_normal ?_
 refine aw_cond rfl (fun hc3 => ?_) (fun hc3 => ?_)
 ·
  (try simp only [y1, y2, y3, y4, y5, y6, y7, y8, y9, y0, List.length_map] at hc3)
  have hlt : a < b := by omega
  refine aw_seq ?_
  refine aw_region ?_
  refine zst (op_assign_const (by rfl)) rfl (by dsimp only [zS, zN, zH, zT]) ?_
  refine al_end rfl ?_
  refine then_normal ?_
  refine aw_ret ?_
  refine then_ret ?_
  refine retPost1 rfl rfl ?_
  exact ⟨by simp [cmpI, hlt, I], rfl⟩
 ·
  (try simp only [y1, y2, y3, y4, y5, y6, y7, y8, y9, y0, List.length_map] at hc3)
  have hlt : ¬ a < b := by omega
  refine aw_skip ?_
  refine then_normal ?_
  refine aw_seq ?_
  refine aw_seq ?_
  refine aw_region ?_
  refine zst (op_move_tmp (by rfl)) rfl (by dsimp only [zS, zN, zH, zT]) ?_
  refine zst (op_move_tmp (by rfl)) rfl (by dsimp only [zS, zN, zH, zT]) ?_
  refine zst (op_gtI (by rfl) (by rfl)) rfl (by dsimp only [zS, zN, zH, zT]) ?_
  refine al_end rfl ?_
  refine then_normal ?_
  refine aw_cond rfl (fun hc4 => ?_) (fun hc4 => ?_)
  ·
   (try simp only [y1, y2, y3, y4, y5, y6, y7, y8, y9, y0, List.length_map] at hc4)
   have hgt : b < a := by omega
   refine aw_seq ?_
   refine aw_region ?_
   refine zst (op_assign_const (by rfl)) rfl (by dsimp only [zS, zN, zH, zT]) ?_
   refine al_end rfl ?_
   refine then_normal ?_
   refine aw_ret ?_
   refine then_ret ?_
   refine retPost1 rfl rfl ?_
   exact ⟨by simp [cmpI, hlt, hgt, I], rfl⟩
  ·
   (try simp only [y1, y2, y3, y4, y5, y6, y7, y8, y9, y0, List.length_map] at hc4)
   have hgt : ¬ b < a := by omega
   refine aw_skip ?_
   refine then_normal ?_
   refine aw_seq ?_
   refine aw_region ?_
   refine zst (op_assign_const (by rfl)) rfl (by dsimp only [zS, zN, zH, zT]) ?_
   refine al_end rfl ?_
   refine then_normal ?_
   refine aw_ret ?_
   refine retPost1 rfl rfl ?_
   exact ⟨by simp [cmpI, hlt, hgt, I], rfl⟩
/- Is a number no number? -/
set_option maxRecDepth 100000 in
theorem nanN_ok (Hs : HS) (a : Int) : ACalls Try.prog 65 [.d (I a)] Hs (Ret (.d (TF false)) Hs) := by
 refine acalls_of_aw Try.func65 rfl ?_
 refine aw_start (T' := [.d (I a), .un, .un, .un, .un, .un]) rfl ?_
 refine aw_seq ?_
 refine aw_region ?_
 refine zst (op_assign_const (by rfl)) rfl (by dsimp only [zS, zN, zH, zT]) ?_
 refine al_end rfl ?_
 refine then_normal ?_
 refine aw_seq ?_
 refine aw_region ?_
 refine zst (op_move_tmp (by rfl)) rfl (by dsimp only [zS, zN, zH, zT]) ?_
 refine zst (op_move_tmp (by rfl)) rfl (by dsimp only [zS, zN, zH, zT]) ?_
 refine zst (op_neI (by rfl) (by rfl)) rfl (by dsimp only [zS, zN, zH, zT]) ?_
 refine zst (op_assign_tmp (by rfl)) rfl (by dsimp only [zS, zN, zH, zT]) ?_
 refine al_end rfl ?_
 refine then_normal ?_
 refine aw_ret ?_
 refine retPost1 rfl rfl ?_
 exact ⟨by simp [TF], rfl⟩
/- The order of two numbers. -/
set_option maxRecDepth 100000 in
theorem cmpN_ok (Hs : HS) (a b : Int) : ACalls Try.prog 45 [.d (I a), .d (I b)] Hs (Ret (.d (I (cmpI a b))) Hs) := by
 refine acalls_of_aw Try.func45 rfl ?_
 refine aw_start (T' := [.d (I a), .d (I b), .un, .un, .un, .un, .un, .un, .un, .un, .un, .un, .un, .un, .un, .un, .un, .un, .un, .un]) rfl ?_
 refine aw_seq ?_
 refine aw_region ?_
 refine zst (op_assign_const (by rfl)) rfl (by dsimp only [zS, zN, zH, zT]) ?_
 refine al_end rfl ?_
 refine then_normal ?_
 refine aw_seq ?_
 refine aw_region ?_
 refine zst (op_move_tmp (by rfl)) rfl (by dsimp only [zS, zN, zH, zT]) ?_
 refine zst (op_callF Try.func65 (by rfl) (by rfl) (.tmp (by rfl) .nil) (nanN_ok _ a)) rfl (by dsimp only [zS, zN, zH, zT]) ?_
 refine zst (op_assign_tmp (by rfl)) rfl (by dsimp only [zS, zN, zH, zT]) ?_
 refine al_end rfl ?_
 refine then_normal ?_
 refine aw_seq ?_
 refine aw_region ?_
 refine zst (op_move_tmp (by rfl)) rfl (by dsimp only [zS, zN, zH, zT]) ?_
 refine zst (op_callF Try.func65 (by rfl) (by rfl) (.tmp (by rfl) .nil) (nanN_ok _ b)) rfl (by dsimp only [zS, zN, zH, zT]) ?_
 refine zst (op_assign_tmp (by rfl)) rfl (by dsimp only [zS, zN, zH, zT]) ?_
 refine al_end rfl ?_
 refine then_normal ?_
 refine aw_seq ?_
 refine aw_seq ?_
 refine aw_region ?_
 refine zst (op_move_tmp (by rfl)) rfl (by dsimp only [zS, zN, zH, zT]) ?_
 refine al_end rfl ?_
 refine then_normal ?_
 refine aw_cond rfl (fun h => by cases h) (fun _ => ?_)
 refine aw_skip ?_
 refine then_normal ?_
 refine aw_seq ?_
 refine aw_seq ?_
 refine aw_region ?_
 refine zst (op_move_tmp (by rfl)) rfl (by dsimp only [zS, zN, zH, zT]) ?_
 refine al_end rfl ?_
 refine then_normal ?_
 refine aw_cond rfl (fun h => by cases h) (fun _ => ?_)
 refine aw_skip ?_
 refine then_normal ?_
 refine aw_seq ?_
 refine aw_seq ?_
 refine aw_region ?_
 refine zst (op_move_tmp (by rfl)) rfl (by dsimp only [zS, zN, zH, zT]) ?_
 refine zst (op_move_tmp (by rfl)) rfl (by dsimp only [zS, zN, zH, zT]) ?_
 refine zst (op_ltI (by rfl) (by rfl)) rfl (by dsimp only [zS, zN, zH, zT]) ?_
 refine al_end rfl ?_
 refine then_normal ?_
 refine aw_cond rfl (fun hc3 => ?_) (fun hc3 => ?_)
 ·
  (try simp only [y1, y2, y3, y4, y5, y6, y7, y8, y9, y0, List.length_map] at hc3)
  have hlt : a < b := by omega
  refine aw_seq ?_
  refine aw_region ?_
  refine zst (op_assign_const (by rfl)) rfl (by dsimp only [zS, zN, zH, zT]) ?_
  refine al_end rfl ?_
  refine then_normal ?_
  refine aw_ret ?_
  refine then_ret ?_
  refine retPost1 rfl rfl ?_
  exact ⟨by simp [cmpI, hlt, I], rfl⟩
 ·
  (try simp only [y1, y2, y3, y4, y5, y6, y7, y8, y9, y0, List.length_map] at hc3)
  have hlt : ¬ a < b := by omega
  refine aw_skip ?_
  refine then_normal ?_
  refine aw_seq ?_
  refine aw_seq ?_
  refine aw_region ?_
  refine zst (op_move_tmp (by rfl)) rfl (by dsimp only [zS, zN, zH, zT]) ?_
  refine zst (op_move_tmp (by rfl)) rfl (by dsimp only [zS, zN, zH, zT]) ?_
  refine zst (op_gtI (by rfl) (by rfl)) rfl (by dsimp only [zS, zN, zH, zT]) ?_
  refine al_end rfl ?_
  refine then_normal ?_
  refine aw_cond rfl (fun hc4 => ?_) (fun hc4 => ?_)
  ·
   (try simp only [y1, y2, y3, y4, y5, y6, y7, y8, y9, y0, List.length_map] at hc4)
   have hgt : b < a := by omega
   refine aw_seq ?_
   refine aw_region ?_
   refine zst (op_assign_const (by rfl)) rfl (by dsimp only [zS, zN, zH, zT]) ?_
   refine al_end rfl ?_
   refine then_normal ?_
   refine aw_ret ?_
   refine then_ret ?_
   refine retPost1 rfl rfl ?_
   exact ⟨by simp [cmpI, hlt, hgt, I], rfl⟩
  ·
   (try simp only [y1, y2, y3, y4, y5, y6, y7, y8, y9, y0, List.length_map] at hc4)
   have hgt : ¬ b < a := by omega
   refine aw_skip ?_
   refine then_normal ?_
   refine aw_seq ?_
   refine aw_region ?_
   refine zst (op_assign_const (by rfl)) rfl (by dsimp only [zS, zN, zH, zT]) ?_
   refine al_end rfl ?_
   refine then_normal ?_
   refine aw_ret ?_
   refine retPost1 rfl rfl ?_
   exact ⟨by simp [cmpI, hlt, hgt, I], rfl⟩
/- Is a number no number? -/
set_option maxRecDepth 100000 in
theorem nan64_ok (Hs : HS) (a : Int) : ACalls Try.prog 66 [.d (I a)] Hs (Ret (.d (TF false)) Hs) := by
 refine acalls_of_aw Try.func66 rfl ?_
 refine aw_start (T' := [.d (I a), .un, .un, .un, .un, .un]) rfl ?_
 refine aw_seq ?_
 refine aw_region ?_
 refine zst (op_assign_const (by rfl)) rfl (by dsimp only [zS, zN, zH, zT]) ?_
 refine al_end rfl ?_
 refine then_normal ?_
 refine aw_seq ?_
 refine aw_region ?_
 refine zst (op_move_tmp (by rfl)) rfl (by dsimp only [zS, zN, zH, zT]) ?_
 refine zst (op_move_tmp (by rfl)) rfl (by dsimp only [zS, zN, zH, zT]) ?_
 refine zst (op_neI (by rfl) (by rfl)) rfl (by dsimp only [zS, zN, zH, zT]) ?_
 refine zst (op_assign_tmp (by rfl)) rfl (by dsimp only [zS, zN, zH, zT]) ?_
 refine al_end rfl ?_
 refine then_normal ?_
 refine aw_ret ?_
 refine retPost1 rfl rfl ?_
 exact ⟨by simp [TF], rfl⟩
/- The order of two numbers. -/
set_option maxRecDepth 100000 in
theorem cmp64_ok (Hs : HS) (a b : Int) : ACalls Try.prog 47 [.d (I a), .d (I b)] Hs (Ret (.d (I (cmpI a b))) Hs) := by
 refine acalls_of_aw Try.func47 rfl ?_
 refine aw_start (T' := [.d (I a), .d (I b), .un, .un, .un, .un, .un, .un, .un, .un, .un, .un, .un, .un, .un, .un, .un, .un, .un, .un]) rfl ?_
 refine aw_seq ?_
 refine aw_region ?_
 refine zst (op_assign_const (by rfl)) rfl (by dsimp only [zS, zN, zH, zT]) ?_
 refine al_end rfl ?_
 refine then_normal ?_
 refine aw_seq ?_
 refine aw_region ?_
 refine zst (op_move_tmp (by rfl)) rfl (by dsimp only [zS, zN, zH, zT]) ?_
 refine zst (op_callF Try.func66 (by rfl) (by rfl) (.tmp (by rfl) .nil) (nan64_ok _ a)) rfl (by dsimp only [zS, zN, zH, zT]) ?_
 refine zst (op_assign_tmp (by rfl)) rfl (by dsimp only [zS, zN, zH, zT]) ?_
 refine al_end rfl ?_
 refine then_normal ?_
 refine aw_seq ?_
 refine aw_region ?_
 refine zst (op_move_tmp (by rfl)) rfl (by dsimp only [zS, zN, zH, zT]) ?_
 refine zst (op_callF Try.func66 (by rfl) (by rfl) (.tmp (by rfl) .nil) (nan64_ok _ b)) rfl (by dsimp only [zS, zN, zH, zT]) ?_
 refine zst (op_assign_tmp (by rfl)) rfl (by dsimp only [zS, zN, zH, zT]) ?_
 refine al_end rfl ?_
 refine then_normal ?_
 refine aw_seq ?_
 refine aw_seq ?_
 refine aw_region ?_
 refine zst (op_move_tmp (by rfl)) rfl (by dsimp only [zS, zN, zH, zT]) ?_
 refine al_end rfl ?_
 refine then_normal ?_
 refine aw_cond rfl (fun h => by cases h) (fun _ => ?_)
 refine aw_skip ?_
 refine then_normal ?_
 refine aw_seq ?_
 refine aw_seq ?_
 refine aw_region ?_
 refine zst (op_move_tmp (by rfl)) rfl (by dsimp only [zS, zN, zH, zT]) ?_
 refine al_end rfl ?_
 refine then_normal ?_
 refine aw_cond rfl (fun h => by cases h) (fun _ => ?_)
 refine aw_skip ?_
 refine then_normal ?_
 refine aw_seq ?_
 refine aw_seq ?_
 refine aw_region ?_
 refine zst (op_move_tmp (by rfl)) rfl (by dsimp only [zS, zN, zH, zT]) ?_
 refine zst (op_move_tmp (by rfl)) rfl (by dsimp only [zS, zN, zH, zT]) ?_
 refine zst (op_ltI (by rfl) (by rfl)) rfl (by dsimp only [zS, zN, zH, zT]) ?_
 refine al_end rfl ?_
 refine then_normal ?_
 refine aw_cond rfl (fun hc3 => ?_) (fun hc3 => ?_)
 ·
  (try simp only [y1, y2, y3, y4, y5, y6, y7, y8, y9, y0, List.length_map] at hc3)
  have hlt : a < b := by omega
  refine aw_seq ?_
  refine aw_region ?_
  refine zst (op_assign_const (by rfl)) rfl (by dsimp only [zS, zN, zH, zT]) ?_
  refine al_end rfl ?_
  refine then_normal ?_
  refine aw_ret ?_
  refine then_ret ?_
  refine retPost1 rfl rfl ?_
  exact ⟨by simp [cmpI, hlt, I], rfl⟩
 ·
  (try simp only [y1, y2, y3, y4, y5, y6, y7, y8, y9, y0, List.length_map] at hc3)
  have hlt : ¬ a < b := by omega
  refine aw_skip ?_
  refine then_normal ?_
  refine aw_seq ?_
  refine aw_seq ?_
  refine aw_region ?_
  refine zst (op_move_tmp (by rfl)) rfl (by dsimp only [zS, zN, zH, zT]) ?_
  refine zst (op_move_tmp (by rfl)) rfl (by dsimp only [zS, zN, zH, zT]) ?_
  refine zst (op_gtI (by rfl) (by rfl)) rfl (by dsimp only [zS, zN, zH, zT]) ?_
  refine al_end rfl ?_
  refine then_normal ?_
  refine aw_cond rfl (fun hc4 => ?_) (fun hc4 => ?_)
  ·
   (try simp only [y1, y2, y3, y4, y5, y6, y7, y8, y9, y0, List.length_map] at hc4)
   have hgt : b < a := by omega
   refine aw_seq ?_
   refine aw_region ?_
   refine zst (op_assign_const (by rfl)) rfl (by dsimp only [zS, zN, zH, zT]) ?_
   refine al_end rfl ?_
   refine then_normal ?_
   refine aw_ret ?_
   refine then_ret ?_
   refine retPost1 rfl rfl ?_
   exact ⟨by simp [cmpI, hlt, hgt, I], rfl⟩
  ·
   (try simp only [y1, y2, y3, y4, y5, y6, y7, y8, y9, y0, List.length_map] at hc4)
   have hgt : ¬ b < a := by omega
   refine aw_skip ?_
   refine then_normal ?_
   refine aw_seq ?_
   refine aw_region ?_
   refine zst (op_assign_const (by rfl)) rfl (by dsimp only [zS, zN, zH, zT]) ?_
   refine al_end rfl ?_
   refine then_normal ?_
   refine aw_ret ?_
   refine retPost1 rfl rfl ?_
   exact ⟨by simp [cmpI, hlt, hgt, I], rfl⟩
/- Yes is one. -/
set_option maxRecDepth 100000 in
theorem yes_ok (Hs : HS) (b : Bool) : ACalls Try.prog 46 [.d (TF b)] Hs (Ret (.d (I (yesI b))) Hs) := by
 refine acalls_of_aw Try.func46 rfl ?_
 refine aw_start (T' := [.d (TF b), .un, .un, .un]) rfl ?_
 refine aw_seq ?_
 refine aw_region ?_
 refine zst (op_assign_const (by rfl)) rfl (by dsimp only [zS, zN, zH, zT]) ?_
 refine al_end rfl ?_
 refine then_normal ?_
 refine aw_seq ?_
 refine aw_seq ?_
 refine aw_region ?_
 refine zst (op_move_tmp (by rfl)) rfl (by dsimp only [zS, zN, zH, zT]) ?_
 refine al_end rfl ?_
 refine then_normal ?_
 refine aw_cond rfl (fun hc1 => ?_) (fun hc1 => ?_)
 ·
  (try simp only [y1, y2, y3, y4, y5, y6, y7, y8, y9, y0, List.length_map] at hc1)
  have hb : b = true := hc1
  subst hb
  refine aw_seq ?_
  refine aw_region ?_
  refine zst (op_assign_const (by rfl)) rfl (by dsimp only [zS, zN, zH, zT]) ?_
  refine al_end rfl ?_
  refine then_normal ?_
  refine aw_ret ?_
  refine then_ret ?_
  refine retPost1 rfl rfl ?_
  exact ⟨rfl, rfl⟩
 ·
  (try simp only [y1, y2, y3, y4, y5, y6, y7, y8, y9, y0, List.length_map] at hc1)
  have hb : b = false := hc1
  subst hb
  refine aw_skip ?_
  refine then_normal ?_
  refine aw_seq ?_
  refine aw_region ?_
  refine zst (op_assign_const (by rfl)) rfl (by dsimp only [zS, zN, zH, zT]) ?_
  refine al_end rfl ?_
  refine then_normal ?_
  refine aw_ret ?_
  refine retPost1 rfl rfl ?_
  exact ⟨rfl, rfl⟩
/- The order of two texts. -/
set_option maxRecDepth 100000 in
theorem cmpStr_ok (Hs : HS) (a b : List UInt8) : ACalls Try.prog 52 [.d (S a), .d (S b)] Hs (Ret (.d (I (Lib.compareBytes a b))) Hs) := by
 refine acalls_of_aw Try.func52 rfl ?_
 refine aw_start (T' := [.d (S a), .d (S b), .un, .un, .un, .un, .un, .un]) rfl ?_
 refine aw_seq ?_
 refine aw_region ?_
 refine zst (op_assign_const (by rfl)) rfl (by dsimp only [zS, zN, zH, zT]) ?_
 refine al_end rfl ?_
 refine then_normal ?_
 refine aw_seq ?_
 refine aw_region ?_
 refine zst (op_move_tmp (by rfl)) rfl (by dsimp only [zS, zN, zH, zT]) ?_
 refine zst (op_move_tmp (by rfl)) rfl (by dsimp only [zS, zN, zH, zT]) ?_
 refine zst (op_cmpstring Try.func67 (by kernel_rfl) (by kernel_rfl) (by kernel_rfl) (by kernel_rfl) (by rfl) (by rfl)) rfl (by dsimp only [zS, zN, zH, zT]) ?_
 refine zst (op_assign_tmp (by rfl)) rfl (by dsimp only [zS, zN, zH, zT]) ?_
 refine al_end rfl ?_
 refine then_normal ?_
 refine aw_ret ?_
 refine retPost1 rfl rfl ?_
 exact ⟨rfl, rfl⟩
set_option maxRecDepth 100000 in
theorem strCmp_ok (Hs : HS) (a b : List UInt8) : ACalls Try.prog 31 [.d (S a), .d (S b)] Hs (Ret (.d (I (Lib.compareBytes a b))) Hs) := by
 refine acalls_of_aw Try.func31 rfl ?_
 refine aw_start (T' := [.d (S a), .d (S b), .un, .un, .un, .un, .un, .un]) rfl ?_
 refine aw_seq ?_
 refine aw_region ?_
 refine zst (op_assign_const (by rfl)) rfl (by dsimp only [zS, zN, zH, zT]) ?_
 refine al_end rfl ?_
 refine then_normal ?_
 refine aw_seq ?_
 refine aw_region ?_
 refine zst (op_move_tmp (by rfl)) rfl (by dsimp only [zS, zN, zH, zT]) ?_
 refine zst (op_move_tmp (by rfl)) rfl (by dsimp only [zS, zN, zH, zT]) ?_
 refine zst (op_callF Try.func52 (by rfl) (by rfl) (.tmp (by rfl) (.tmp (by rfl) .nil)) (cmpStr_ok _ a b)) rfl (by dsimp only [zS, zN, zH, zT]) ?_
 refine zst (op_assign_tmp (by rfl)) rfl (by dsimp only [zS, zN, zH, zT]) ?_
 refine al_end rfl ?_
 refine then_normal ?_
 refine aw_ret ?_
 refine retPost1 rfl rfl ?_
 exact ⟨rfl, rfl⟩
/- The first number that is not nought. -/
set_option maxRecDepth 100000 in
theorem or_ok (Hs : HS) (a b : Int) : ACalls Try.prog 51 [.own none 1 [I a, I b]] Hs (Ret (.d (I (orI a b))) Hs) := by
 refine acalls_of_aw Try.func51 rfl ?_
 refine aw_start (T' := [.own none 1 [I a, I b], .un, .un, .un, .un, .un, .un, .un, .un, .un, .un, .un, .un, .un, .un, .un, .un, .un]) rfl ?_
 refine aw_seq ?_
 refine aw_region ?_
 refine zst (op_assign_const (by rfl)) rfl (by dsimp only [zS, zN, zH, zT]) ?_
 refine al_end rfl ?_
 refine then_normal ?_
 refine aw_seq ?_
 refine aw_region ?_
 refine zst (op_assign_const (by rfl)) rfl (by dsimp only [zS, zN, zH, zT]) ?_
 refine al_end rfl ?_
 refine then_normal ?_
 refine aw_seq ?_
 refine aw_seq ?_
 refine aw_region ?_
 refine zst (op_move_tmp (by rfl)) rfl (by dsimp only [zS, zN, zH, zT]) ?_
 refine zst (op_lenL Try.underlying107 (by first | exact LL.d _ _ | exact LL.own _ _ _ | exact LL.nil _ | assumption)) rfl (by dsimp only [zS, zN, zH, zT]) ?_
 refine zst (op_move_const (by rfl)) rfl (by dsimp only [zS, zN, zH, zT]) ?_
 refine al_end rfl ?_
 refine then_normal ?_
 refine aw_block ?_
 apply aw_loopF (fun n T H => ∃ (k : Nat), T = [.un, .un, .un, .d (I 0), .un, .un, .own none 1 [I a, I b], .d (I 2), .d (I k), .un, .un, .un, .un, .un, .un, .un, .un, .un] ∧ k ≤ 2 ∧ n = 2 - k ∧ (0 < k → a = 0) ∧ (1 < k → b = 0) ∧ Hs = H) (2) [false, false, false, true, false, false, true, true, true, false, false, false, false, false, false, false, false, false]
 · (try dsimp only [maskT]); try exact rfl
 · rfl
 · exact ⟨0, rfl, by omega, rfl, fun h => absurd h (by decide), fun h => absurd h (by decide), rfl⟩
 rintro n T H ⟨k, rfl, hk, rfl, ha, hb, rfl⟩
 refine aw_seq ?_
 refine aw_region ?_
 refine zst (op_ltI (by rfl) (by rfl)) rfl (by dsimp only [zS, zN, zH, zT]) ?_
 refine al_end rfl ?_
 refine then_normal ?_
 refine aw_seq ?_
 refine aw_cond rfl (fun hc1 => ?_) (fun hc1 => ?_)
 ·
  (try simp only [y1, y2, y3, y4, y5, y6, y7, y8, y9, y0, List.length_map] at hc1)
  have hlt : k < 2 := by omega
  have hk2 : k = 0 ∨ k = 1 := by omega
  obtain ⟨x, hx⟩ : ∃ x, [a, b][k]? = some x := ⟨_, List.getElem?_eq_getElem (by simpa using hlt)⟩
  refine aw_skip ?_
  refine then_normal ?_
  refine aw_seq ?_
  refine aw_block ?_
  refine aw_seq ?_
  refine aw_region ?_
  refine zst (op_indexAddr (z := I x) (cs := [I x]) Try.underlying107 Sz3 (LL.own _ _ _) (by rfl) (by omega) (by rcases hk2 with rfl | rfl <;> (simp at hx; subst hx; rfl)) (by rfl)) rfl (by dsimp only [zS, zN, zH, zT]) ?_
  refine zst (by first | exact op_load_elt Try.underlying3 (by rfl) (by rfl) (by rfl) | exact op_load_ptr Try.underlying3 (by rfl) (by rfl) (by rfl) (by rfl)) rfl (by dsimp only [zS, zN, zH, zT]) ?_
  refine zst (op_assign_tmp (by rfl)) rfl (by dsimp only [zS, zN, zH, zT]) ?_
  refine al_end rfl ?_
  refine then_normal ?_
  refine aw_seq ?_
  refine aw_region ?_
  refine zst (op_move_tmp (by rfl)) rfl (by dsimp only [zS, zN, zH, zT]) ?_
  refine zst (op_move_tmp (by rfl)) rfl (by dsimp only [zS, zN, zH, zT]) ?_
  refine zst (op_neI (by rfl) (by rfl)) rfl (by dsimp only [zS, zN, zH, zT]) ?_
  refine al_end rfl ?_
  refine then_normal ?_
  refine aw_cond rfl (fun hc2 => ?_) (fun hc2 => ?_)
  ·
   (try simp only [y1, y2, y3, y4, y5, y6, y7, y8, y9, y0, List.length_map] at hc2)
   have hne : ¬ x = 0 := hc2
   refine aw_seq ?_
   refine aw_region ?_
   refine zst (op_move_tmp (by rfl)) rfl (by dsimp only [zS, zN, zH, zT]) ?_
   refine zst (op_assign_tmp (by rfl)) rfl (by dsimp only [zS, zN, zH, zT]) ?_
   refine al_end rfl ?_
   refine then_normal ?_
   refine aw_ret ?_
   refine inBlock_ret (then_ret (again_ret (inBlock_ret (then_ret ?_))))
   refine retPost1 rfl rfl ?_
   exact ⟨by rcases hk2 with rfl | rfl; (simp at hx; subst hx; simp [orI, hne]); (have h0 := ha (by decide); simp at hx; subst hx h0; simp [orI]), rfl⟩
  ·
   (try simp only [y1, y2, y3, y4, y5, y6, y7, y8, y9, y0, List.length_map] at hc2)
   have hz : [a, b][k]? = some 0 := by rw [hx]; exact congrArg some (by simpa using hc2)
   refine aw_skip ?_
   refine inBlock_normal (then_normal ?_)
   refine aw_region ?_
   refine zst (by first | exact op_add (by rfl) (by rfl) (wrap_i64 ⟨by omega, by omega⟩) | exact op_add (by rfl) (by rfl) (by rfl)) rfl (by dsimp only [zS, zN, zH, zT]) ?_
   refine zst (op_move_tmp (by rfl)) rfl (by dsimp only [zS, zN, zH, zT]) ?_
   refine al_end rfl ?_
   apply again_to (2 - (k + 1)) [false, false, false, true, false, false, true, true, true, false, false, false, false, false, false, false, false, false]
   · (try dsimp only [maskT]); try exact rfl
   · rfl
   · omega
   exact ⟨k + 1, rfl, by omega, rfl, fun _ => by rcases hk2 with rfl | rfl; (simpa using hz); exact ha (by decide), fun h => by rcases hk2 with rfl | rfl; exact absurd h (by decide); (simpa using hz), rfl⟩
 ·
  (try simp only [y1, y2, y3, y4, y5, y6, y7, y8, y9, y0, List.length_map] at hc1)
  have hk2 : k = 2 := by omega
  subst hk2
  have ha0 := ha (by decide)
  have hb0 := hb (by decide)
  refine aw_exit ?_
  refine then_exit (again_exit (inBlock_here (then_normal ?_)))
  refine aw_seq ?_
  refine aw_region ?_
  refine zst (op_move_tmp (by rfl)) rfl (by dsimp only [zS, zN, zH, zT]) ?_
  refine zst (op_assign_tmp (by rfl)) rfl (by dsimp only [zS, zN, zH, zT]) ?_
  refine al_end rfl ?_
  refine then_normal ?_
  refine aw_ret ?_
  refine retPost1 rfl rfl ?_
  exact ⟨by subst ha0 hb0; rfl, rfl⟩
/- The order of two lists. -/
set_option maxRecDepth 100000 in
theorem cmpL_ok (Hs : HS) (xs zs : List V) (hl : xs.length ≤ 1000000) (hl2 : zs.length ≤ 1000000) (ihA : ∀ x ∈ xs, ∀ z ∈ zs, ∀ Hs : HS, ACalls Try.prog 28 [.d (.agg (vC x)), .d (.agg (vC z))] Hs (Ret (.d (I (cmpV x z))) Hs)) : ACalls Try.prog 48 [.d (.lst 6 (xs.map vD)), .d (.lst 6 (zs.map vD)), .fn (.func 28) [] []] Hs (Ret (.d (I (cmpL xs zs))) Hs) := by
 refine ACalls.tidy1 ?_
 refine acalls_of_aw Try.func48 rfl ?_
 refine aw_start (T' := [.d (.lst 6 (xs.map vD)), .d (.lst 6 (zs.map vD)), .fn (.func 28) [] [], .un, .un, .un, .un, .un, .un, .un, .un, .un, .un, .un, .un, .un, .un, .un, .un, .un, .un, .un, .un, .un, .un, .un, .un, .un, .un, .un, .un, .un, .un, .un, .un, .un, .un, .un, .un]) rfl ?_
 refine aw_seq ?_
 refine aw_region ?_
 refine zst (op_assign_const (by rfl)) rfl (by dsimp only [zS, zN, zH, zT]) ?_
 refine al_end rfl ?_
 refine then_normal ?_
 refine aw_seq ?_
 refine aw_seq ?_
 refine aw_region ?_
 refine zst (op_move_tmp (by rfl)) rfl (by dsimp only [zS, zN, zH, zT]) ?_
 refine zst (op_lenL Try.underlying23 (by first | exact LL.d _ _ | exact LL.own _ _ _ | exact LL.nil _ | assumption)) rfl (by dsimp only [zS, zN, zH, zT]) ?_
 refine zst (op_move_const (by rfl)) rfl (by dsimp only [zS, zN, zH, zT]) ?_
 refine al_end rfl ?_
 refine then_normal ?_
 refine aw_block ?_
 apply aw_loopF (fun n T H => ∃ (k : Nat), T = [.d (.lst 6 (xs.map vD)), .d (.lst 6 (zs.map vD)), .fn (.func 28) [] [], .un, .un, .un, .un, .un, .un, .un, .un, .d (.lst 6 (xs.map vD)), .d (I (xs.map vD).length), .d (I k), .un, .un, .un, .un, .un, .un, .un, .un, .un, .un, .un, .un, .un, .un, .un, .un, .un, .un, .un, .un, .un, .un, .un, .un, .un] ∧ k ≤ xs.length ∧ k ≤ zs.length ∧ n = xs.length - k ∧ cmpL xs zs = cmpL (xs.drop k) (zs.drop k) ∧ Ext Hs H) (xs.length) [true, true, true, false, false, false, false, false, false, false, false, true, true, true, false, false, false, false, false, false, false, false, false, false, false, false, false, false, false, false, false, false, false, false, false, false, false, false, false]
 · (try dsimp only [maskT]); try exact rfl
 · rfl
 · exact ⟨0, rfl, by omega, by omega, rfl, rfl, Ext.refl _⟩
 rintro n T H ⟨k, rfl, hk, hk2, rfl, he, hx⟩
 refine aw_seq ?_
 refine aw_region ?_
 refine zst (op_ltI (by rfl) (by rfl)) rfl (by dsimp only [zS, zN, zH, zT]) ?_
 refine al_end rfl ?_
 refine then_normal ?_
 refine aw_seq ?_
 refine aw_cond rfl (fun hc1 => ?_) (fun hc1 => ?_)
 ·
  (try simp only [y1, y2, y3, y4, y5, y6, y7, y8, y9, y0, List.length_map] at hc1)
  (try simp only [List.length_map] at hc1)
  have hlt : k < xs.length := by omega
  obtain ⟨x, hx1⟩ : ∃ x, xs[k]? = some x := ⟨_, List.getElem?_eq_getElem hlt⟩
  refine aw_skip ?_
  refine then_normal ?_
  refine aw_seq ?_
  refine aw_block ?_
  refine aw_seq ?_
  refine aw_region ?_
  refine zst (op_move_tmp (by rfl)) rfl (by dsimp only [zS, zN, zH, zT]) ?_
  refine zst (op_indexAddr (z := vD x) (cs := [I x.kind, TF x.yes, .v (.int .i64 x.num), S x.text, .lst 6 (x.list.map vD), .lst 7 (x.fields.map fD)]) Try.underlying23 Sz26 (LL.d _ _) (by rfl) (by omega) (by rw [List.getElem?_map, show ((k : Nat) : Int).toNat = k from rfl, hx1]; rfl) (vD_cells x)) rfl (by dsimp only [zS, zN, zH, zT]) ?_
  refine zst (op_load_elts (ds := vC x) Try.underlying26 (by rfl) Sz26 (by rfl) (Nat.le_of_ble_eq_true rfl) (by rw [vC_eq]; rfl)) rfl (by dsimp only [zS, zN, zH, zT]) ?_
  refine zst (op_alloc (Zr26) (by rfl)) rfl (by dsimp only [zS, zN, zH, zT]) ?_
  refine zst (op_assign_tmp (by rfl)) rfl (by dsimp only [zS, zN, zH, zT]) ?_
  refine zst (op_storeV (b' := ⟨26, (vC x).map .d, false⟩) x Sz26 (by rfl) push_at (by rfl) (Nat.le_of_ble_eq_true rfl) (by rfl) (by rw [vC_eq]; rfl)) rfl (by dsimp only [zS, zN, zH, zT]) ?_
  refine al_end rfl ?_
  refine then_normal ?_
  refine aw_seq ?_
  refine aw_seq ?_
  refine aw_region ?_
  refine zst (op_move_tmp (by rfl)) rfl (by dsimp only [zS, zN, zH, zT]) ?_
  refine zst (op_move_tmp (by rfl)) rfl (by dsimp only [zS, zN, zH, zT]) ?_
  refine zst (op_lenL Try.underlying23 (by first | exact LL.d _ _ | exact LL.own _ _ _ | exact LL.nil _ | assumption)) rfl (by dsimp only [zS, zN, zH, zT]) ?_
  refine zst (op_geI (by rfl) (by rfl)) rfl (by dsimp only [zS, zN, zH, zT]) ?_
  refine al_end rfl ?_
  refine then_normal ?_
  refine aw_cond rfl (fun hc2 => ?_) (fun hc2 => ?_)
  ·
   (try simp only [y1, y2, y3, y4, y5, y6, y7, y8, y9, y0, List.length_map] at hc2)
   (try simp only [List.length_map] at hc2)
   have hge : zs.length ≤ k := by omega
   refine aw_seq ?_
   refine aw_region ?_
   refine zst (op_assign_const (by rfl)) rfl (by dsimp only [zS, zN, zH, zT]) ?_
   refine al_end rfl ?_
   refine then_normal ?_
   refine aw_ret ?_
   refine then_ret (inBlock_ret (then_ret (again_ret (inBlock_ret (then_ret ?_)))))
   refine retPost1 rfl rfl ?_
   exact ⟨by rw [he, cmpL_gt hx1 hge]; rfl, (hx.push _ _).setB (nb_le hx)⟩
  ·
   (try simp only [y1, y2, y3, y4, y5, y6, y7, y8, y9, y0, List.length_map] at hc2)
   (try simp only [List.length_map] at hc2)
   have hlt2 : k < zs.length := by omega
   obtain ⟨z, hz1⟩ : ∃ x, zs[k]? = some x := ⟨_, List.getElem?_eq_getElem hlt2⟩
   refine aw_skip ?_
   refine then_normal ?_
   refine aw_seq ?_
   refine aw_region ?_
   refine zst (op_move_tmp (by rfl)) rfl (by dsimp only [zS, zN, zH, zT]) ?_
   refine zst (op_move_tmp (by rfl)) rfl (by dsimp only [zS, zN, zH, zT]) ?_
   refine zst (op_indexAddr (z := vD z) (cs := [I z.kind, TF z.yes, .v (.int .i64 z.num), S z.text, .lst 6 (z.list.map vD), .lst 7 (z.fields.map fD)]) Try.underlying23 Sz26 (LL.d _ _) (by rfl) (by omega) (by rw [List.getElem?_map, show ((k : Nat) : Int).toNat = k from rfl, hz1]; rfl) (vD_cells z)) rfl (by dsimp only [zS, zN, zH, zT]) ?_
   refine zst (op_load_elts (ds := vC z) Try.underlying26 (by rfl) Sz26 (by rfl) (Nat.le_of_ble_eq_true rfl) (by rw [vC_eq]; rfl)) rfl (by dsimp only [zS, zN, zH, zT]) ?_
   refine zst (op_alloc (Zr26) (by rfl)) rfl (by dsimp only [zS, zN, zH, zT]) ?_
   refine zst (op_storeV (b' := ⟨26, (vC z).map .d, false⟩) z Sz26 (by rfl) push_at (by rfl) (Nat.le_of_ble_eq_true rfl) (by rfl) (by rw [vC_eq]; rfl)) rfl (by dsimp only [zS, zN, zH, zT]) ?_
   refine al_end rfl ?_
   refine then_normal ?_
   refine aw_seq ?_
   refine aw_region ?_
   refine zst (op_move_tmp (by rfl)) rfl (by dsimp only [zS, zN, zH, zT]) ?_
   refine zst (op_load_ptrsD (vC x) Try.underlying26 (by rfl) Sz26 (by rfl) (by rw [setB_ne (by simp only [setB_nb, push_nb]; omega)]; exact push_ne (setB_at push_at)) (by show 0 + 6 ≤ ((vC x).map AV.d).length; rw [List.length_map, vC_len]; exact Nat.le_refl _) (by show (((vC x).map AV.d).drop 0).take 6 = _; rw [List.drop_zero, List.take_of_length_le (by rw [List.length_map, vC_len]; exact Nat.le_refl _)]) (vC_one x)) rfl (by dsimp only [zS, zN, zH, zT]) ?_
   refine zst (op_load_ptrsD (vC z) Try.underlying26 (by rfl) Sz26 (by rfl) (setB_at push_at) (by show 0 + 6 ≤ ((vC z).map AV.d).length; rw [List.length_map, vC_len]; exact Nat.le_refl _) (by show (((vC z).map AV.d).drop 0).take 6 = _; rw [List.drop_zero, List.take_of_length_le (by rw [List.length_map, vC_len]; exact Nat.le_refl _)]) (vC_one z)) rfl (by dsimp only [zS, zN, zH, zT]) ?_
   refine zst (op_callV (by rfl) Try.func28 (by rfl) (by rfl) (.tmp (by rfl) (.tmp (by rfl) .nil)) (ihA x (List.mem_of_getElem? hx1) z (List.mem_of_getElem? hz1) _)) rfl (by dsimp only [zS, zN, zH, zT]) ?_
   refine zst (op_assign_tmp (by rfl)) rfl (by dsimp only [zS, zN, zH, zT]) ?_
   refine al_end rfl ?_
   refine then_normal ?_
   refine aw_seq ?_
   refine aw_region ?_
   refine zst (op_move_tmp (by rfl)) rfl (by dsimp only [zS, zN, zH, zT]) ?_
   refine zst (op_neI (by rfl) (by rfl)) rfl (by dsimp only [zS, zN, zH, zT]) ?_
   refine al_end rfl ?_
   refine then_normal ?_
   refine aw_cond rfl (fun hc3 => ?_) (fun hc3 => ?_)
   ·
    (try simp only [y1, y2, y3, y4, y5, y6, y7, y8, y9, y0, List.length_map] at hc3)
    have hc0 : ¬ cmpV x z = 0 := hc3
    refine aw_seq ?_
    refine aw_region ?_
    refine zst (op_move_tmp (by rfl)) rfl (by dsimp only [zS, zN, zH, zT]) ?_
    refine zst (op_assign_tmp (by rfl)) rfl (by dsimp only [zS, zN, zH, zT]) ?_
    refine al_end rfl ?_
    refine then_normal ?_
    refine aw_ret ?_
    refine inBlock_ret (then_ret (again_ret (inBlock_ret (then_ret ?_))))
    refine retPost1 rfl rfl ?_
    exact ⟨by rw [he, cmpL_at hx1 hz1 hc0], (((hx.push _ _).setB (nb_le hx)).push _ _).setB (Nat.le_trans (nb_le hx) (by (simp only [setB_nb, push_nb]; omega)))⟩
   ·
    (try simp only [y1, y2, y3, y4, y5, y6, y7, y8, y9, y0, List.length_map] at hc3)
    have hc0 : cmpV x z = 0 := by simpa using hc3
    refine aw_skip ?_
    refine inBlock_normal (then_normal ?_)
    refine aw_region ?_
    refine zst (by first | exact op_add (by rfl) (by rfl) (wrap_i64 ⟨by omega, by omega⟩) | exact op_add (by rfl) (by rfl) (by rfl)) rfl (by dsimp only [zS, zN, zH, zT]) ?_
    refine zst (op_move_tmp (by rfl)) rfl (by dsimp only [zS, zN, zH, zT]) ?_
    refine al_end rfl ?_
    apply again_to (xs.length - (k + 1)) [true, true, true, false, false, false, false, false, false, false, false, true, true, true, false, false, false, false, false, false, false, false, false, false, false, false, false, false, false, false, false, false, false, false, false, false, false, false, false]
    · (try dsimp only [maskT]); try exact rfl
    · rfl
    · omega
    exact ⟨k + 1, rfl, by omega, by omega, rfl, he.trans (cmpL_step hx1 hz1 hc0), (((hx.push _ _).setB (nb_le hx)).push _ _).setB (Nat.le_trans (nb_le hx) (by (simp only [setB_nb, push_nb]; omega)))⟩
 ·
  (try simp only [y1, y2, y3, y4, y5, y6, y7, y8, y9, y0, List.length_map] at hc1)
  (try simp only [List.length_map] at hc1)
  have hke : k = xs.length := by omega
  refine aw_exit ?_
  refine then_exit (again_exit (inBlock_here (then_normal ?_)))
  refine aw_seq ?_
  refine aw_seq ?_
  refine aw_region ?_
  refine zst (op_move_tmp (by rfl)) rfl (by dsimp only [zS, zN, zH, zT]) ?_
  refine zst (op_lenL Try.underlying23 (by first | exact LL.d _ _ | exact LL.own _ _ _ | exact LL.nil _ | assumption)) rfl (by dsimp only [zS, zN, zH, zT]) ?_
  refine zst (op_move_tmp (by rfl)) rfl (by dsimp only [zS, zN, zH, zT]) ?_
  refine zst (op_lenL Try.underlying23 (by first | exact LL.d _ _ | exact LL.own _ _ _ | exact LL.nil _ | assumption)) rfl (by dsimp only [zS, zN, zH, zT]) ?_
  refine zst (op_ltI (by rfl) (by rfl)) rfl (by dsimp only [zS, zN, zH, zT]) ?_
  refine al_end rfl ?_
  refine then_normal ?_
  refine aw_cond rfl (fun hc4 => ?_) (fun hc4 => ?_)
  ·
   (try simp only [y1, y2, y3, y4, y5, y6, y7, y8, y9, y0, List.length_map] at hc4)
   (try simp only [List.length_map] at hc4)
   obtain ⟨z, hz1⟩ : ∃ x, zs[k]? = some x := ⟨_, List.getElem?_eq_getElem (by omega)⟩
   refine aw_seq ?_
   refine aw_region ?_
   refine zst (op_assign_const (by rfl)) rfl (by dsimp only [zS, zN, zH, zT]) ?_
   refine al_end rfl ?_
   refine then_normal ?_
   refine aw_ret ?_
   refine then_ret ?_
   refine retPost1 rfl rfl ?_
   exact ⟨by rw [he, cmpL_lt (by omega) hz1]; rfl, hx⟩
  ·
   (try simp only [y1, y2, y3, y4, y5, y6, y7, y8, y9, y0, List.length_map] at hc4)
   (try simp only [List.length_map] at hc4)
   refine aw_skip ?_
   refine then_normal ?_
   refine aw_seq ?_
   refine aw_region ?_
   refine zst (op_assign_const (by rfl)) rfl (by dsimp only [zS, zN, zH, zT]) ?_
   refine al_end rfl ?_
   refine then_normal ?_
   refine aw_ret ?_
   refine retPost1 rfl rfl ?_
   exact ⟨by rw [he, cmpL_eq (by omega) (by omega)]; rfl, hx⟩
set_option maxRecDepth 100000 in
theorem cmpF_ok (Hs : HS) (xs zs : List F) (hl : xs.length ≤ 1000000) (hl2 : zs.length ≤ 1000000) (ihA : ∀ x ∈ xs, ∀ z ∈ zs, ∀ Hs : HS, ACalls Try.prog 50 [.d (.agg (fC x)), .d (.agg (fC z))] Hs (Ret (.d (I (cmpF1 x z))) Hs)) : ACalls Try.prog 49 [.d (.lst 7 (xs.map fD)), .d (.lst 7 (zs.map fD)), .fn (.func 50) [] []] Hs (Ret (.d (I (cmpF xs zs))) Hs) := by
 refine ACalls.tidy1 ?_
 refine acalls_of_aw Try.func49 rfl ?_
 refine aw_start (T' := [.d (.lst 7 (xs.map fD)), .d (.lst 7 (zs.map fD)), .fn (.func 50) [] [], .un, .un, .un, .un, .un, .un, .un, .un, .un, .un, .un, .un, .un, .un, .un, .un, .un, .un, .un, .un, .un, .un, .un, .un, .un, .un, .un, .un, .un, .un, .un, .un, .un, .un, .un, .un]) rfl ?_
 refine aw_seq ?_
 refine aw_region ?_
 refine zst (op_assign_const (by rfl)) rfl (by dsimp only [zS, zN, zH, zT]) ?_
 refine al_end rfl ?_
 refine then_normal ?_
 refine aw_seq ?_
 refine aw_seq ?_
 refine aw_region ?_
 refine zst (op_move_tmp (by rfl)) rfl (by dsimp only [zS, zN, zH, zT]) ?_
 refine zst (op_lenL Try.underlying24 (by first | exact LL.d _ _ | exact LL.own _ _ _ | exact LL.nil _ | assumption)) rfl (by dsimp only [zS, zN, zH, zT]) ?_
 refine zst (op_move_const (by rfl)) rfl (by dsimp only [zS, zN, zH, zT]) ?_
 refine al_end rfl ?_
 refine then_normal ?_
 refine aw_block ?_
 apply aw_loopF (fun n T H => ∃ (k : Nat), T = [.d (.lst 7 (xs.map fD)), .d (.lst 7 (zs.map fD)), .fn (.func 50) [] [], .un, .un, .un, .un, .un, .un, .un, .un, .d (.lst 7 (xs.map fD)), .d (I (xs.map fD).length), .d (I k), .un, .un, .un, .un, .un, .un, .un, .un, .un, .un, .un, .un, .un, .un, .un, .un, .un, .un, .un, .un, .un, .un, .un, .un, .un] ∧ k ≤ xs.length ∧ k ≤ zs.length ∧ n = xs.length - k ∧ cmpF xs zs = cmpF (xs.drop k) (zs.drop k) ∧ Ext Hs H) (xs.length) [true, true, true, false, false, false, false, false, false, false, false, true, true, true, false, false, false, false, false, false, false, false, false, false, false, false, false, false, false, false, false, false, false, false, false, false, false, false, false]
 · (try dsimp only [maskT]); try exact rfl
 · rfl
 · exact ⟨0, rfl, by omega, by omega, rfl, rfl, Ext.refl _⟩
 rintro n T H ⟨k, rfl, hk, hk2, rfl, he, hx⟩
 refine aw_seq ?_
 refine aw_region ?_
 refine zst (op_ltI (by rfl) (by rfl)) rfl (by dsimp only [zS, zN, zH, zT]) ?_
 refine al_end rfl ?_
 refine then_normal ?_
 refine aw_seq ?_
 refine aw_cond rfl (fun hc1 => ?_) (fun hc1 => ?_)
 ·
  (try simp only [y1, y2, y3, y4, y5, y6, y7, y8, y9, y0, List.length_map] at hc1)
  (try simp only [List.length_map] at hc1)
  have hlt : k < xs.length := by omega
  obtain ⟨x, hx1⟩ : ∃ x, xs[k]? = some x := ⟨_, List.getElem?_eq_getElem hlt⟩
  refine aw_skip ?_
  refine then_normal ?_
  refine aw_seq ?_
  refine aw_block ?_
  refine aw_seq ?_
  refine aw_region ?_
  refine zst (op_move_tmp (by rfl)) rfl (by dsimp only [zS, zN, zH, zT]) ?_
  refine zst (op_indexAddr (z := fD x) (cs := [S x.name, I x.val.kind, TF x.val.yes, .v (.int .i64 x.val.num), S x.val.text, .lst 6 (x.val.list.map vD), .lst 7 (x.val.fields.map fD)]) Try.underlying24 Sz48 (LL.d _ _) (by rfl) (by omega) (by rw [List.getElem?_map, show ((k : Nat) : Int).toNat = k from rfl, hx1]; rfl) (fD_cells7 x)) rfl (by dsimp only [zS, zN, zH, zT]) ?_
  refine zst (op_load_elts (ds := fC x) Try.underlying48 (by rfl) Sz48 (by rfl) (Nat.le_of_ble_eq_true rfl) (by rw [← fC7]; rfl)) rfl (by dsimp only [zS, zN, zH, zT]) ?_
  refine zst (op_alloc (Zr48) (by rfl)) rfl (by dsimp only [zS, zN, zH, zT]) ?_
  refine zst (op_assign_tmp (by rfl)) rfl (by dsimp only [zS, zN, zH, zT]) ?_
  refine zst (op_storeF (b' := f1 48 x) x Sz48 (by rfl) push_at (by rfl) (Nat.le_of_ble_eq_true rfl) (by rfl) (by unfold f1; rw [← fC7]; rfl)) rfl (by dsimp only [zS, zN, zH, zT]) ?_
  refine al_end rfl ?_
  refine then_normal ?_
  refine aw_seq ?_
  refine aw_seq ?_
  refine aw_region ?_
  refine zst (op_move_tmp (by rfl)) rfl (by dsimp only [zS, zN, zH, zT]) ?_
  refine zst (op_move_tmp (by rfl)) rfl (by dsimp only [zS, zN, zH, zT]) ?_
  refine zst (op_lenL Try.underlying24 (by first | exact LL.d _ _ | exact LL.own _ _ _ | exact LL.nil _ | assumption)) rfl (by dsimp only [zS, zN, zH, zT]) ?_
  refine zst (op_geI (by rfl) (by rfl)) rfl (by dsimp only [zS, zN, zH, zT]) ?_
  refine al_end rfl ?_
  refine then_normal ?_
  refine aw_cond rfl (fun hc2 => ?_) (fun hc2 => ?_)
  ·
   (try simp only [y1, y2, y3, y4, y5, y6, y7, y8, y9, y0, List.length_map] at hc2)
   (try simp only [List.length_map] at hc2)
   have hge : zs.length ≤ k := by omega
   refine aw_seq ?_
   refine aw_region ?_
   refine zst (op_assign_const (by rfl)) rfl (by dsimp only [zS, zN, zH, zT]) ?_
   refine al_end rfl ?_
   refine then_normal ?_
   refine aw_ret ?_
   refine then_ret (inBlock_ret (then_ret (again_ret (inBlock_ret (then_ret ?_)))))
   refine retPost1 rfl rfl ?_
   exact ⟨by rw [he, cmpF_gt hx1 hge]; rfl, (hx.push _ _).setB (nb_le hx)⟩
  ·
   (try simp only [y1, y2, y3, y4, y5, y6, y7, y8, y9, y0, List.length_map] at hc2)
   (try simp only [List.length_map] at hc2)
   have hlt2 : k < zs.length := by omega
   obtain ⟨z, hz1⟩ : ∃ x, zs[k]? = some x := ⟨_, List.getElem?_eq_getElem hlt2⟩
   refine aw_skip ?_
   refine then_normal ?_
   refine aw_seq ?_
   refine aw_region ?_
   refine zst (op_move_tmp (by rfl)) rfl (by dsimp only [zS, zN, zH, zT]) ?_
   refine zst (op_move_tmp (by rfl)) rfl (by dsimp only [zS, zN, zH, zT]) ?_
   refine zst (op_indexAddr (z := fD z) (cs := [S z.name, I z.val.kind, TF z.val.yes, .v (.int .i64 z.val.num), S z.val.text, .lst 6 (z.val.list.map vD), .lst 7 (z.val.fields.map fD)]) Try.underlying24 Sz48 (LL.d _ _) (by rfl) (by omega) (by rw [List.getElem?_map, show ((k : Nat) : Int).toNat = k from rfl, hz1]; rfl) (fD_cells7 z)) rfl (by dsimp only [zS, zN, zH, zT]) ?_
   refine zst (op_load_elts (ds := fC z) Try.underlying48 (by rfl) Sz48 (by rfl) (Nat.le_of_ble_eq_true rfl) (by rw [← fC7]; rfl)) rfl (by dsimp only [zS, zN, zH, zT]) ?_
   refine zst (op_alloc (Zr48) (by rfl)) rfl (by dsimp only [zS, zN, zH, zT]) ?_
   refine zst (op_storeF (b' := f1 48 z) z Sz48 (by rfl) push_at (by rfl) (Nat.le_of_ble_eq_true rfl) (by rfl) (by unfold f1; rw [← fC7]; rfl)) rfl (by dsimp only [zS, zN, zH, zT]) ?_
   refine al_end rfl ?_
   refine then_normal ?_
   refine aw_seq ?_
   refine aw_region ?_
   refine zst (op_move_tmp (by rfl)) rfl (by dsimp only [zS, zN, zH, zT]) ?_
   refine zst (op_loadF 48 x Try.underlying48 (by rfl) Sz48 (by rfl) (by rw [setB_ne (by simp only [setB_nb, push_nb]; omega)]; exact push_ne (setB_at push_at))) rfl (by dsimp only [zS, zN, zH, zT]) ?_
   refine zst (op_loadF 48 z Try.underlying48 (by rfl) Sz48 (by rfl) (setB_at push_at)) rfl (by dsimp only [zS, zN, zH, zT]) ?_
   refine zst (op_callV (by rfl) Try.func50 (by rfl) (by rfl) (.tmp (by rfl) (.tmp (by rfl) .nil)) (ihA x (List.mem_of_getElem? hx1) z (List.mem_of_getElem? hz1) _)) rfl (by dsimp only [zS, zN, zH, zT]) ?_
   refine zst (op_assign_tmp (by rfl)) rfl (by dsimp only [zS, zN, zH, zT]) ?_
   refine al_end rfl ?_
   refine then_normal ?_
   refine aw_seq ?_
   refine aw_region ?_
   refine zst (op_move_tmp (by rfl)) rfl (by dsimp only [zS, zN, zH, zT]) ?_
   refine zst (op_neI (by rfl) (by rfl)) rfl (by dsimp only [zS, zN, zH, zT]) ?_
   refine al_end rfl ?_
   refine then_normal ?_
   refine aw_cond rfl (fun hc3 => ?_) (fun hc3 => ?_)
   ·
    (try simp only [y1, y2, y3, y4, y5, y6, y7, y8, y9, y0, List.length_map] at hc3)
    have hc0 : ¬ cmpF1 x z = 0 := hc3
    refine aw_seq ?_
    refine aw_region ?_
    refine zst (op_move_tmp (by rfl)) rfl (by dsimp only [zS, zN, zH, zT]) ?_
    refine zst (op_assign_tmp (by rfl)) rfl (by dsimp only [zS, zN, zH, zT]) ?_
    refine al_end rfl ?_
    refine then_normal ?_
    refine aw_ret ?_
    refine inBlock_ret (then_ret (again_ret (inBlock_ret (then_ret ?_))))
    refine retPost1 rfl rfl ?_
    exact ⟨by rw [he, cmpF_at hx1 hz1 hc0], (((hx.push _ _).setB (nb_le hx)).push _ _).setB (Nat.le_trans (nb_le hx) (by (simp only [setB_nb, push_nb]; omega)))⟩
   ·
    (try simp only [y1, y2, y3, y4, y5, y6, y7, y8, y9, y0, List.length_map] at hc3)
    have hc0 : cmpF1 x z = 0 := by simpa using hc3
    refine aw_skip ?_
    refine inBlock_normal (then_normal ?_)
    refine aw_region ?_
    refine zst (by first | exact op_add (by rfl) (by rfl) (wrap_i64 ⟨by omega, by omega⟩) | exact op_add (by rfl) (by rfl) (by rfl)) rfl (by dsimp only [zS, zN, zH, zT]) ?_
    refine zst (op_move_tmp (by rfl)) rfl (by dsimp only [zS, zN, zH, zT]) ?_
    refine al_end rfl ?_
    apply again_to (xs.length - (k + 1)) [true, true, true, false, false, false, false, false, false, false, false, true, true, true, false, false, false, false, false, false, false, false, false, false, false, false, false, false, false, false, false, false, false, false, false, false, false, false, false]
    · (try dsimp only [maskT]); try exact rfl
    · rfl
    · omega
    exact ⟨k + 1, rfl, by omega, by omega, rfl, he.trans (cmpF_step hx1 hz1 hc0), (((hx.push _ _).setB (nb_le hx)).push _ _).setB (Nat.le_trans (nb_le hx) (by (simp only [setB_nb, push_nb]; omega)))⟩
 ·
  (try simp only [y1, y2, y3, y4, y5, y6, y7, y8, y9, y0, List.length_map] at hc1)
  (try simp only [List.length_map] at hc1)
  have hke : k = xs.length := by omega
  refine aw_exit ?_
  refine then_exit (again_exit (inBlock_here (then_normal ?_)))
  refine aw_seq ?_
  refine aw_seq ?_
  refine aw_region ?_
  refine zst (op_move_tmp (by rfl)) rfl (by dsimp only [zS, zN, zH, zT]) ?_
  refine zst (op_lenL Try.underlying24 (by first | exact LL.d _ _ | exact LL.own _ _ _ | exact LL.nil _ | assumption)) rfl (by dsimp only [zS, zN, zH, zT]) ?_
  refine zst (op_move_tmp (by rfl)) rfl (by dsimp only [zS, zN, zH, zT]) ?_
  refine zst (op_lenL Try.underlying24 (by first | exact LL.d _ _ | exact LL.own _ _ _ | exact LL.nil _ | assumption)) rfl (by dsimp only [zS, zN, zH, zT]) ?_
  refine zst (op_ltI (by rfl) (by rfl)) rfl (by dsimp only [zS, zN, zH, zT]) ?_
  refine al_end rfl ?_
  refine then_normal ?_
  refine aw_cond rfl (fun hc4 => ?_) (fun hc4 => ?_)
  ·
   (try simp only [y1, y2, y3, y4, y5, y6, y7, y8, y9, y0, List.length_map] at hc4)
   (try simp only [List.length_map] at hc4)
   obtain ⟨z, hz1⟩ : ∃ x, zs[k]? = some x := ⟨_, List.getElem?_eq_getElem (by omega)⟩
   refine aw_seq ?_
   refine aw_region ?_
   refine zst (op_assign_const (by rfl)) rfl (by dsimp only [zS, zN, zH, zT]) ?_
   refine al_end rfl ?_
   refine then_normal ?_
   refine aw_ret ?_
   refine then_ret ?_
   refine retPost1 rfl rfl ?_
   exact ⟨by rw [he, cmpF_lt (by omega) hz1]; rfl, hx⟩
  ·
   (try simp only [y1, y2, y3, y4, y5, y6, y7, y8, y9, y0, List.length_map] at hc4)
   (try simp only [List.length_map] at hc4)
   refine aw_skip ?_
   refine then_normal ?_
   refine aw_seq ?_
   refine aw_region ?_
   refine zst (op_assign_const (by rfl)) rfl (by dsimp only [zS, zN, zH, zT]) ?_
   refine al_end rfl ?_
   refine then_normal ?_
   refine aw_ret ?_
   refine retPost1 rfl rfl ?_
   exact ⟨by rw [he, cmpF_eq (by omega) (by omega)]; rfl, hx⟩
/- The order of two fields. -/
set_option maxRecDepth 100000 in
theorem cmpF1_ok (Hs : HS) (f g : F) (ihx : ∀ Hs : HS, ACalls Try.prog 28 [.d (.agg (vC f.val)), .d (.agg (vC g.val))] Hs (Ret (.d (I (cmpV f.val g.val))) Hs)) : ACalls Try.prog 50 [.d (.agg (fC f)), .d (.agg (fC g))] Hs (Ret (.d (I (cmpF1 f g))) Hs) := by
 refine acalls_of_aw Try.func50 rfl ?_
 refine aw_start (T' := [.d (.agg (fC f)), .d (.agg (fC g)), .un, .un, .un, .un, .un, .un, .un, .un, .un, .un, .un, .un, .un, .un, .un]) rfl ?_
 refine aw_seq ?_
 refine aw_region ?_
 refine zst (op_box_elt (cs := [S f.name, I f.val.kind, TF f.val.yes, .v (.int .i64 f.val.num), S f.val.text, .lst 6 (f.val.list.map vD), .lst 7 (f.val.fields.map fD)]) (by rfl) (fD_cells7 f)) rfl (by dsimp only [zS, zN, zH, zT]) ?_
 refine zst (op_box_elt (cs := [S g.name, I g.val.kind, TF g.val.yes, .v (.int .i64 g.val.num), S g.val.text, .lst 6 (g.val.list.map vD), .lst 7 (g.val.fields.map fD)]) (by rfl) (fD_cells7 g)) rfl (by dsimp only [zS, zN, zH, zT]) ?_
 refine zst (op_assign_const (by rfl)) rfl (by dsimp only [zS, zN, zH, zT]) ?_
 refine al_end rfl ?_
 refine then_normal ?_
 refine aw_seq ?_
 refine aw_draw [0, 1, 0, 1, 0, 0, 1, 0, 1, 0, 0, 0, 0] mixed (by kernel_rfl) ?_
 refine zd0 (fun H => (by first | exact op_fieldAddr_ptr Try.underlying48 rfl Sz9 (by rfl) (by rfl) | exact op_fieldAddr_elt Try.underlying48 rfl Sz9 (by rfl) (by rfl) (by rfl))) rfl (by dsimp only [zS, zN, zH, zT]) ?_
 refine zd1 (by first | exact op_load_elt Try.underlying9 (by rfl) (by rfl) (by rfl) | exact op_load_ptr Try.underlying9 (by rfl) (by rfl) (by rfl) (by rfl)) rfl (by dsimp only [zS, zN, zH, zT]) ?_
 refine zd0 (fun H => (by first | exact op_fieldAddr_ptr Try.underlying48 rfl Sz9 (by rfl) (by rfl) | exact op_fieldAddr_elt Try.underlying48 rfl Sz9 (by rfl) (by rfl) (by rfl))) rfl (by dsimp only [zS, zN, zH, zT]) ?_
 refine zd1 (by first | exact op_load_elt Try.underlying9 (by rfl) (by rfl) (by rfl) | exact op_load_ptr Try.underlying9 (by rfl) (by rfl) (by rfl) (by rfl)) rfl (by dsimp only [zS, zN, zH, zT]) ?_
 refine zd0 (fun H => (op_callF Try.func31 (by rfl) (by rfl) (.tmp (by rfl) (.tmp (by rfl) .nil)) (strCmp_ok _ f.name g.name))) rfl (by dsimp only [zS, zN, zH, zT]) ?_
 refine zd0 (fun H => (by first | exact op_fieldAddr_ptr Try.underlying48 rfl Sz26 (by rfl) (by rfl) | exact op_fieldAddr_elt Try.underlying48 rfl Sz26 (by rfl) (by rfl) (by rfl))) rfl (by dsimp only [zS, zN, zH, zT]) ?_
 refine zd1 (op_load_elts (ds := vC f.val) Try.underlying26 (by rfl) Sz26 (by rfl) (Nat.le_of_ble_eq_true rfl) (by rw [vC_eq]; rfl)) rfl (by dsimp only [zS, zN, zH, zT]) ?_
 refine zd0 (fun H => (by first | exact op_fieldAddr_ptr Try.underlying48 rfl Sz26 (by rfl) (by rfl) | exact op_fieldAddr_elt Try.underlying48 rfl Sz26 (by rfl) (by rfl) (by rfl))) rfl (by dsimp only [zS, zN, zH, zT]) ?_
 refine zd1 (op_load_elts (ds := vC g.val) Try.underlying26 (by rfl) Sz26 (by rfl) (Nat.le_of_ble_eq_true rfl) (by rw [vC_eq]; rfl)) rfl (by dsimp only [zS, zN, zH, zT]) ?_
 refine zd0 (fun H => (op_callF Try.func28 (by rfl) (by rfl) (.tmp (by rfl) (.tmp (by rfl) .nil)) (ihx _))) rfl (by dsimp only [zS, zN, zH, zT]) ?_
 refine zd0 (fun H => (op_lit Try.underlying107 ZS3 (.cons (by rfl) (.cons (by rfl) (.nil _))) (by rfl) (by simp [BY, S, I, TF, DV.cells]) (by simp [flat, BY, S, I, TF, DV.cells, DV.one]) (by decide))) rfl (by dsimp only [zS, zN, zH, zT]) ?_
 refine zd0 (fun H => (op_callF Try.func51 (by rfl) (by rfl) (.tmp (by rfl) .nil) (or_ok _ _ _))) rfl (by dsimp only [zS, zN, zH, zT]) ?_
 refine zd0 (fun H => (op_assign_tmp (by rfl))) rfl (by dsimp only [zS, zN, zH, zT]) ?_
 refine drun_end rfl ?_
 refine then_normal ?_
 refine aw_ret ?_
 refine retPost1 rfl rfl ?_
 exact ⟨rfl, rfl⟩
/- The order of two values. -/
set_option maxRecDepth 100000 in
theorem cmp_step (Hs : HS) (k : Int) (y : Bool) (i : Int) (tx : List UInt8) (ls : List V) (fs : List F) (o : V) (hls : ls.length ≤ 1000000) (hfs : fs.length ≤ 1000000) (ho : SmallV o) (ihL : ∀ x ∈ ls, ∀ z ∈ o.list, ∀ Hs : HS, ACalls Try.prog 28 [.d (.agg (vC x)), .d (.agg (vC z))] Hs (Ret (.d (I (cmpV x z))) Hs)) (ihF : ∀ x ∈ fs, ∀ z ∈ o.fields, ∀ Hs : HS, ACalls Try.prog 28 [.d (.agg (vC x.val)), .d (.agg (vC z.val))] Hs (Ret (.d (I (cmpV x.val z.val))) Hs)) : ACalls Try.prog 28 [.d (.agg (v6D k y i tx ls fs)), .d (.agg (vC o))] Hs (Ret (.d (I (cmpV (.mk k y i tx ls fs) o))) Hs) := by
 rw [cmpV_mk]
 refine acalls_of_aw Try.func28 rfl ?_
 refine aw_start (T' := [.d (.agg (v6D k y i tx ls fs)), .d (.agg (vC o)), .un, .un, .un, .un, .un, .un, .un, .un, .un, .un, .un, .un, .un, .un, .un, .un, .un, .un, .un, .un, .un, .un, .un, .un, .un, .un, .un, .un, .un, .un, .un, .un, .un, .un, .un, .un, .un, .un, .un, .un, .un, .un, .un, .un, .un, .un, .un, .un, .un, .un, .un]) rfl ?_
 refine aw_seq ?_
 refine aw_region ?_
 refine zst (op_box_elt (cs := v6D k y i tx ls fs) (by rfl) (by rfl)) rfl (by dsimp only [zS, zN, zH, zT]) ?_
 refine zst (op_box_elt (cs := [I o.kind, TF o.yes, .v (.int .i64 o.num), S o.text, .lst 6 (o.list.map vD), .lst 7 (o.fields.map fD)]) (by rfl) (vD_cells o)) rfl (by dsimp only [zS, zN, zH, zT]) ?_
 refine zst (op_assign_const (by rfl)) rfl (by dsimp only [zS, zN, zH, zT]) ?_
 refine al_end rfl ?_
 refine then_normal ?_
 refine aw_seq ?_
 refine aw_seq ?_
 refine aw_region ?_
 refine zst (by first | exact op_fieldAddr_ptr Try.underlying26 rfl Sz22 (by rfl) (by rfl) | exact op_fieldAddr_elt Try.underlying26 rfl Sz22 (by rfl) (by rfl) (by rfl)) rfl (by dsimp only [zS, zN, zH, zT]) ?_
 refine zst (by first | exact op_load_elt Try.underlying22 (by rfl) (by rfl) (by rfl) | exact op_load_ptr Try.underlying22 (by rfl) (by rfl) (by rfl) (by rfl)) rfl (by dsimp only [zS, zN, zH, zT]) ?_
 refine zst (by first | exact op_fieldAddr_ptr Try.underlying26 rfl Sz22 (by rfl) (by rfl) | exact op_fieldAddr_elt Try.underlying26 rfl Sz22 (by rfl) (by rfl) (by rfl)) rfl (by dsimp only [zS, zN, zH, zT]) ?_
 refine zst (by first | exact op_load_elt Try.underlying22 (by rfl) (by rfl) (by rfl) | exact op_load_ptr Try.underlying22 (by rfl) (by rfl) (by rfl) (by rfl)) rfl (by dsimp only [zS, zN, zH, zT]) ?_
 refine zst (op_callF Try.func44 (by rfl) (by rfl) (.tmp (by rfl) (.tmp (by rfl) .nil)) (cmpK_ok _ k o.kind)) rfl (by dsimp only [zS, zN, zH, zT]) ?_
 refine zst (op_assign_tmp (by rfl)) rfl (by dsimp only [zS, zN, zH, zT]) ?_
 refine al_end rfl ?_
 refine then_normal ?_
 refine aw_seq ?_
 refine aw_region ?_
 refine zst (op_move_tmp (by rfl)) rfl (by dsimp only [zS, zN, zH, zT]) ?_
 refine zst (op_neI (by rfl) (by rfl)) rfl (by dsimp only [zS, zN, zH, zT]) ?_
 refine al_end rfl ?_
 refine then_normal ?_
 refine aw_cond rfl (fun hc1 => ?_) (fun hc1 => ?_)
 ·
  (try simp only [y1, y2, y3, y4, y5, y6, y7, y8, y9, y0, List.length_map] at hc1)
  have hc : ¬ cmpI k o.kind = 0 := hc1
  refine aw_seq ?_
  refine aw_region ?_
  refine zst (op_move_tmp (by rfl)) rfl (by dsimp only [zS, zN, zH, zT]) ?_
  refine zst (op_assign_tmp (by rfl)) rfl (by dsimp only [zS, zN, zH, zT]) ?_
  refine al_end rfl ?_
  refine then_normal ?_
  refine aw_ret ?_
  refine then_ret ?_
  refine retPost1 rfl rfl ?_
  exact ⟨by rw [if_pos hc], rfl⟩
 ·
  (try simp only [y1, y2, y3, y4, y5, y6, y7, y8, y9, y0, List.length_map] at hc1)
  have hc : cmpI k o.kind = 0 := by simpa using hc1
  refine aw_skip ?_
  refine then_normal ?_
  refine aw_seq ?_
  refine aw_seq ?_
  refine aw_region ?_
  refine zst (by first | exact op_fieldAddr_ptr Try.underlying26 rfl Sz22 (by rfl) (by rfl) | exact op_fieldAddr_elt Try.underlying26 rfl Sz22 (by rfl) (by rfl) (by rfl)) rfl (by dsimp only [zS, zN, zH, zT]) ?_
  refine zst (by first | exact op_load_elt Try.underlying22 (by rfl) (by rfl) (by rfl) | exact op_load_ptr Try.underlying22 (by rfl) (by rfl) (by rfl) (by rfl)) rfl (by dsimp only [zS, zN, zH, zT]) ?_
  refine al_end rfl ?_
  refine then_normal ?_
  refine aw_block ?_
  refine aw_seq ?_
  refine aw_region ?_
  refine zst (op_eqI (by rfl) (by rfl)) rfl (by dsimp only [zS, zN, zH, zT]) ?_
  refine zst (op_assign_tmp (by rfl)) rfl (by dsimp only [zS, zN, zH, zT]) ?_
  refine al_end rfl ?_
  refine then_normal ?_
  refine aw_cond rfl (fun hc2 => ?_) (fun hc2 => ?_)
  ·
   (try simp only [y1, y2, y3, y4, y5, y6, y7, y8, y9, y0, List.length_map] at hc2)
   have hk1 : k = 1 := hc2
   refine aw_seq ?_
   refine aw_draw [0, 1, 0, 0, 1, 0, 0, 0] mixed (by kernel_rfl) ?_
   refine zd0 (fun H => (by first | exact op_fieldAddr_ptr Try.underlying26 rfl Sz4 (by rfl) (by rfl) | exact op_fieldAddr_elt Try.underlying26 rfl Sz4 (by rfl) (by rfl) (by rfl))) rfl (by dsimp only [zS, zN, zH, zT]) ?_
   refine zd1 (by first | exact op_load_elt Try.underlying4 (by rfl) (by rfl) (by rfl) | exact op_load_ptr Try.underlying4 (by rfl) (by rfl) (by rfl) (by rfl)) rfl (by dsimp only [zS, zN, zH, zT]) ?_
   refine zd0 (fun H => (op_callF Try.func46 (by rfl) (by rfl) (.tmp (by rfl) .nil) (yes_ok _ y))) rfl (by dsimp only [zS, zN, zH, zT]) ?_
   refine zd0 (fun H => (by first | exact op_fieldAddr_ptr Try.underlying26 rfl Sz4 (by rfl) (by rfl) | exact op_fieldAddr_elt Try.underlying26 rfl Sz4 (by rfl) (by rfl) (by rfl))) rfl (by dsimp only [zS, zN, zH, zT]) ?_
   refine zd1 (by first | exact op_load_elt Try.underlying4 (by rfl) (by rfl) (by rfl) | exact op_load_ptr Try.underlying4 (by rfl) (by rfl) (by rfl) (by rfl)) rfl (by dsimp only [zS, zN, zH, zT]) ?_
   refine zd0 (fun H => (op_callF Try.func46 (by rfl) (by rfl) (.tmp (by rfl) .nil) (yes_ok _ o.yes))) rfl (by dsimp only [zS, zN, zH, zT]) ?_
   refine zd0 (fun H => (op_callF Try.func45 (by rfl) (by rfl) (.tmp (by rfl) (.tmp (by rfl) .nil)) (cmpN_ok _ _ _))) rfl (by dsimp only [zS, zN, zH, zT]) ?_
   refine zd0 (fun H => (op_assign_tmp (by rfl))) rfl (by dsimp only [zS, zN, zH, zT]) ?_
   refine drun_end rfl ?_
   refine then_normal ?_
   refine aw_ret ?_
   refine inBlock_ret (then_ret ?_)
   refine retPost1 rfl rfl ?_
   exact ⟨by rw [if_neg (by simp [hc]), if_pos hk1], rfl⟩
  ·
   (try simp only [y1, y2, y3, y4, y5, y6, y7, y8, y9, y0, List.length_map] at hc2)
   have hk1 : ¬ k = 1 := hc2
   refine aw_seq ?_
   refine aw_region ?_
   refine zst (op_eqI (by rfl) (by rfl)) rfl (by dsimp only [zS, zN, zH, zT]) ?_
   refine zst (op_assign_tmp (by rfl)) rfl (by dsimp only [zS, zN, zH, zT]) ?_
   refine al_end rfl ?_
   refine then_normal ?_
   refine aw_cond rfl (fun hc3 => ?_) (fun hc3 => ?_)
   ·
    (try simp only [y1, y2, y3, y4, y5, y6, y7, y8, y9, y0, List.length_map] at hc3)
    have hk2 : k = 2 := hc3
    refine aw_seq ?_
    refine aw_region ?_
    refine zst (by first | exact op_fieldAddr_ptr Try.underlying26 rfl Sz2 (by rfl) (by rfl) | exact op_fieldAddr_elt Try.underlying26 rfl Sz2 (by rfl) (by rfl) (by rfl)) rfl (by dsimp only [zS, zN, zH, zT]) ?_
    refine zst (by first | exact op_load_elt Try.underlying2 (by rfl) (by rfl) (by rfl) | exact op_load_ptr Try.underlying2 (by rfl) (by rfl) (by rfl) (by rfl)) rfl (by dsimp only [zS, zN, zH, zT]) ?_
    refine zst (by first | exact op_fieldAddr_ptr Try.underlying26 rfl Sz2 (by rfl) (by rfl) | exact op_fieldAddr_elt Try.underlying26 rfl Sz2 (by rfl) (by rfl) (by rfl)) rfl (by dsimp only [zS, zN, zH, zT]) ?_
    refine zst (by first | exact op_load_elt Try.underlying2 (by rfl) (by rfl) (by rfl) | exact op_load_ptr Try.underlying2 (by rfl) (by rfl) (by rfl) (by rfl)) rfl (by dsimp only [zS, zN, zH, zT]) ?_
    refine zst (op_callF Try.func47 (by rfl) (by rfl) (.tmp (by rfl) (.tmp (by rfl) .nil)) (cmp64_ok _ i o.num)) rfl (by dsimp only [zS, zN, zH, zT]) ?_
    refine zst (op_assign_tmp (by rfl)) rfl (by dsimp only [zS, zN, zH, zT]) ?_
    refine al_end rfl ?_
    refine then_normal ?_
    refine aw_ret ?_
    refine inBlock_ret (then_ret ?_)
    refine retPost1 rfl rfl ?_
    exact ⟨by rw [if_neg (by simp [hc]), if_neg hk1, if_pos hk2], rfl⟩
   ·
    (try simp only [y1, y2, y3, y4, y5, y6, y7, y8, y9, y0, List.length_map] at hc3)
    have hk2 : ¬ k = 2 := hc3
    refine aw_seq ?_
    refine aw_region ?_
    refine zst (op_eqI (by rfl) (by rfl)) rfl (by dsimp only [zS, zN, zH, zT]) ?_
    refine zst (op_assign_tmp (by rfl)) rfl (by dsimp only [zS, zN, zH, zT]) ?_
    refine al_end rfl ?_
    refine then_normal ?_
    refine aw_cond rfl (fun hc4 => ?_) (fun hc4 => ?_)
    ·
     (try simp only [y1, y2, y3, y4, y5, y6, y7, y8, y9, y0, List.length_map] at hc4)
     have hk3 : k = 3 := hc4
     refine aw_seq ?_
     refine aw_region ?_
     refine zst (by first | exact op_fieldAddr_ptr Try.underlying26 rfl Sz9 (by rfl) (by rfl) | exact op_fieldAddr_elt Try.underlying26 rfl Sz9 (by rfl) (by rfl) (by rfl)) rfl (by dsimp only [zS, zN, zH, zT]) ?_
     refine zst (by first | exact op_load_elt Try.underlying9 (by rfl) (by rfl) (by rfl) | exact op_load_ptr Try.underlying9 (by rfl) (by rfl) (by rfl) (by rfl)) rfl (by dsimp only [zS, zN, zH, zT]) ?_
     refine zst (by first | exact op_fieldAddr_ptr Try.underlying26 rfl Sz9 (by rfl) (by rfl) | exact op_fieldAddr_elt Try.underlying26 rfl Sz9 (by rfl) (by rfl) (by rfl)) rfl (by dsimp only [zS, zN, zH, zT]) ?_
     refine zst (by first | exact op_load_elt Try.underlying9 (by rfl) (by rfl) (by rfl) | exact op_load_ptr Try.underlying9 (by rfl) (by rfl) (by rfl) (by rfl)) rfl (by dsimp only [zS, zN, zH, zT]) ?_
     refine zst (op_callF Try.func31 (by rfl) (by rfl) (.tmp (by rfl) (.tmp (by rfl) .nil)) (strCmp_ok _ tx o.text)) rfl (by dsimp only [zS, zN, zH, zT]) ?_
     refine zst (op_assign_tmp (by rfl)) rfl (by dsimp only [zS, zN, zH, zT]) ?_
     refine al_end rfl ?_
     refine then_normal ?_
     refine aw_ret ?_
     refine inBlock_ret (then_ret ?_)
     refine retPost1 rfl rfl ?_
     exact ⟨by rw [if_neg (by simp [hc]), if_neg hk1, if_neg hk2, if_pos hk3], rfl⟩
    ·
     (try simp only [y1, y2, y3, y4, y5, y6, y7, y8, y9, y0, List.length_map] at hc4)
     have hk3 : ¬ k = 3 := hc4
     refine aw_seq ?_
     refine aw_region ?_
     refine zst (op_eqI (by rfl) (by rfl)) rfl (by dsimp only [zS, zN, zH, zT]) ?_
     refine zst (op_assign_tmp (by rfl)) rfl (by dsimp only [zS, zN, zH, zT]) ?_
     refine al_end rfl ?_
     refine then_normal ?_
     refine aw_cond rfl (fun hc5 => ?_) (fun hc5 => ?_)
     ·
      (try simp only [y1, y2, y3, y4, y5, y6, y7, y8, y9, y0, List.length_map] at hc5)
      have hk4 : k = 4 := hc5
      refine aw_seq ?_
      refine aw_region ?_
      refine zst (by first | exact op_fieldAddr_ptr Try.underlying26 rfl Sz23 (by rfl) (by rfl) | exact op_fieldAddr_elt Try.underlying26 rfl Sz23 (by rfl) (by rfl) (by rfl)) rfl (by dsimp only [zS, zN, zH, zT]) ?_
      refine zst (by first | exact op_load_elt Try.underlying23 (by rfl) (by rfl) (by rfl) | exact op_load_ptr Try.underlying23 (by rfl) (by rfl) (by rfl) (by rfl)) rfl (by dsimp only [zS, zN, zH, zT]) ?_
      refine zst (by first | exact op_fieldAddr_ptr Try.underlying26 rfl Sz23 (by rfl) (by rfl) | exact op_fieldAddr_elt Try.underlying26 rfl Sz23 (by rfl) (by rfl) (by rfl)) rfl (by dsimp only [zS, zN, zH, zT]) ?_
      refine zst (by first | exact op_load_elt Try.underlying23 (by rfl) (by rfl) (by rfl) | exact op_load_ptr Try.underlying23 (by rfl) (by rfl) (by rfl) (by rfl)) rfl (by dsimp only [zS, zN, zH, zT]) ?_
      refine zst (op_callF Try.func48 (by rfl) (by rfl) (.tmp (by rfl) (.tmp (by rfl) (.func .nil))) (cmpL_ok _ ls o.list hls ho.ll ihL)) rfl (by dsimp only [zS, zN, zH, zT]) ?_
      refine zst (op_assign_tmp (by rfl)) rfl (by dsimp only [zS, zN, zH, zT]) ?_
      refine al_end rfl ?_
      refine then_normal ?_
      refine aw_ret ?_
      refine inBlock_ret (then_ret ?_)
      refine retPost1 rfl rfl ?_
      exact ⟨by rw [if_neg (by simp [hc]), if_neg hk1, if_neg hk2, if_neg hk3, if_pos hk4], rfl⟩
     ·
      (try simp only [y1, y2, y3, y4, y5, y6, y7, y8, y9, y0, List.length_map] at hc5)
      have hk4 : ¬ k = 4 := hc5
      refine aw_seq ?_
      refine aw_region ?_
      refine zst (op_eqI (by rfl) (by rfl)) rfl (by dsimp only [zS, zN, zH, zT]) ?_
      refine zst (op_assign_tmp (by rfl)) rfl (by dsimp only [zS, zN, zH, zT]) ?_
      refine al_end rfl ?_
      refine then_normal ?_
      refine aw_cond rfl (fun hc6 => ?_) (fun hc6 => ?_)
      ·
       (try simp only [y1, y2, y3, y4, y5, y6, y7, y8, y9, y0, List.length_map] at hc6)
       have hk5 : k = 5 := hc6
       refine aw_seq ?_
       refine aw_region ?_
       refine zst (by first | exact op_fieldAddr_ptr Try.underlying26 rfl Sz24 (by rfl) (by rfl) | exact op_fieldAddr_elt Try.underlying26 rfl Sz24 (by rfl) (by rfl) (by rfl)) rfl (by dsimp only [zS, zN, zH, zT]) ?_
       refine zst (by first | exact op_load_elt Try.underlying24 (by rfl) (by rfl) (by rfl) | exact op_load_ptr Try.underlying24 (by rfl) (by rfl) (by rfl) (by rfl)) rfl (by dsimp only [zS, zN, zH, zT]) ?_
       refine zst (by first | exact op_fieldAddr_ptr Try.underlying26 rfl Sz24 (by rfl) (by rfl) | exact op_fieldAddr_elt Try.underlying26 rfl Sz24 (by rfl) (by rfl) (by rfl)) rfl (by dsimp only [zS, zN, zH, zT]) ?_
       refine zst (by first | exact op_load_elt Try.underlying24 (by rfl) (by rfl) (by rfl) | exact op_load_ptr Try.underlying24 (by rfl) (by rfl) (by rfl) (by rfl)) rfl (by dsimp only [zS, zN, zH, zT]) ?_
       refine zst (op_callF Try.func49 (by rfl) (by rfl) (.tmp (by rfl) (.tmp (by rfl) (.func .nil))) (cmpF_ok _ fs o.fields hfs ho.fl (fun x hx z hz Hs => cmpF1_ok Hs x z (ihF x hx z hz)))) rfl (by dsimp only [zS, zN, zH, zT]) ?_
       refine zst (op_assign_tmp (by rfl)) rfl (by dsimp only [zS, zN, zH, zT]) ?_
       refine al_end rfl ?_
       refine then_normal ?_
       refine aw_ret ?_
       refine inBlock_ret (then_ret ?_)
       refine retPost1 rfl rfl ?_
       exact ⟨by rw [if_neg (by simp [hc]), if_neg hk1, if_neg hk2, if_neg hk3, if_neg hk4, if_pos hk5], rfl⟩
      ·
       (try simp only [y1, y2, y3, y4, y5, y6, y7, y8, y9, y0, List.length_map] at hc6)
       have hk5 : ¬ k = 5 := hc6
       refine aw_skip ?_
       refine inBlock_normal (then_normal ?_)
       refine aw_seq ?_
       refine aw_region ?_
       refine zst (op_assign_const (by rfl)) rfl (by dsimp only [zS, zN, zH, zT]) ?_
       refine al_end rfl ?_
       refine then_normal ?_
       refine aw_ret ?_
       refine retPost1 rfl rfl ?_
       exact ⟨by (rw [if_neg (by simp [hc]), if_neg hk1, if_neg hk2, if_neg hk3, if_neg hk4, if_neg hk5]) <;> rfl, rfl⟩
/-- The order of two values: that is what the program finds. -/
theorem cmp_all : ∀ (m : Nat) (v : V), SizeOf.sizeOf v ≤ m → SmallV v → ∀ (o : V), SmallV o → ∀ Hs : HS, ACalls Try.prog 28 [.d (.agg (vC v)), .d (.agg (vC o))] Hs (Ret (.d (I (cmpV v o))) Hs)
  | 0, v, hm, _, _, _, _ => by cases v; simp at hm
  | m + 1, v, hm, hs, o, ho, Hs => by
    have hL := fun x hx => list_lt (v := v) (x := x) hx
    have hF := fun x hx => field_lt (v := v) (f := x) hx
    obtain ⟨k, y, i, tx, ls, fs, rfl⟩ : ∃ k y n t l fs, v = .mk k y n t l fs := ⟨_, _, _, _, _, _, v.eta⟩
    rw [v6D_eq]
    exact cmp_step Hs k y i tx ls fs o hs.ll hs.fl ho (fun x hx z hz Hs => cmp_all m x (by have := hL x hx; omega) (hs.l x hx) z (ho.l z hz) Hs) (fun x hx z hz Hs => cmp_all m x.val (by have := hF x hx; omega) (hs.f x hx) z.val (ho.f z hz) Hs)
theorem cmp_ok (Hs : HS) (v o : V) (hv : SmallV v) (ho : SmallV o) : ACalls Try.prog 28 [.d (.agg (vC v)), .d (.agg (vC o))] Hs (Ret (.d (I (cmpV v o))) Hs) := cmp_all _ v (Nat.le_refl _) hv o ho Hs
end Go.Proofs.Ytjamnhofbkgblaa
