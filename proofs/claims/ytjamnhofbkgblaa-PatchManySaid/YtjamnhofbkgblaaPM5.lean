/- Part 5 of what the law needs: ValL2, ValE, PatchEnc, PatE, PatchMany, WPatchMany. -/
import Derived.Test.YtjamnhofbkgblaaPM4
import Derived.KernelRfl
namespace Go.Proofs.Ytjamnhofbkgblaa
open Go.AV Go.AV.Ord Go.AV.Oct Go.AV.Val
set_option linter.unusedVariables false
set_option linter.unusedSimpArgs false
set_option maxRecDepth 100000 in
theorem zig_ok (Hs : HS) (n : Int) (hi : i64 n) : ACalls Try.prog 56 [.d (.v (.int .i64 n))] Hs (Ret (.d (.v (.int .u64 (zigN n)))) Hs) := by
 refine acalls_of_aw Try.func56 rfl ?_
 refine aw_start (T' := [.d (.v (.int .i64 n)), .un, .un, .un, .un, .un, .un, .un, .un, .un]) rfl ?_
 refine aw_seq ?_
 refine aw_region ?_
 refine zst (op_assign_const (by rfl)) rfl (by dsimp only [zS, zN, zH, zT]) ?_
 refine al_end rfl ?_
 refine then_normal ?_
 refine aw_seq ?_
 refine aw_region ?_
 refine zst (op_move_tmp (by rfl)) rfl (by dsimp only [zS, zN, zH, zT]) ?_
 refine zst (op_convI (by rw [Try.underlying2]; rfl) Try.underlying94 (by rfl) (by rfl)) rfl (by dsimp only [zS, zN, zH, zT]) ?_
 refine zst (op_shl (by rfl) (by rfl) (by omega) (by rfl)) rfl (by dsimp only [zS, zN, zH, zT]) ?_
 refine zst (op_move_tmp (by rfl)) rfl (by dsimp only [zS, zN, zH, zT]) ?_
 refine zst (op_shr (by rfl) (by rfl) (by omega) (by rfl)) rfl (by dsimp only [zS, zN, zH, zT]) ?_
 refine zst (op_convI (by rw [Try.underlying2]; rfl) Try.underlying94 (by rfl) (by rfl)) rfl (by dsimp only [zS, zN, zH, zT]) ?_
 refine zst (op_xor (by rfl) (by rfl) (zig_bits hi)) rfl (by dsimp only [zS, zN, zH, zT]) ?_
 refine zst (op_assign_tmp (by rfl)) rfl (by dsimp only [zS, zN, zH, zT]) ?_
 refine al_end rfl ?_
 refine then_normal ?_
 refine aw_ret ?_
 refine retPost1 rfl rfl ?_
 exact ⟨rfl, rfl⟩
set_option maxHeartbeats 1000000 in
set_option maxRecDepth 100000 in
theorem lay_step (Hs : HS) (t : Option Nat) (w : AV) (bs : List UInt8) (k : Int) (y : Bool) (i : Int) (tx : List UInt8) (ls : List V) (fs : List F) (h0 : 0 ≤ k) (h5 : k ≤ 5) (hi : i64 i) (hw : App w t 1 (bs.map BY)) (hok : Hs.ok t bs.length) (hB : bs.length + (encV (.mk k y i tx ls fs)).length ≤ 1000000000) (ihL : ∀ x ∈ ls, ∀ (Hs : HS) (t : Option Nat) (w : AV) (bs : List UInt8), App w t 1 (bs.map BY) → Hs.ok t bs.length → bs.length + (encV x).length ≤ 1000000000 → ACalls Try.prog 33 [.d (.agg (vC x)), w] Hs (Ret (ownB Hs t (bs ++ encV x)) (upB Hs t (bs ++ encV x)))) (ihF : ∀ x ∈ fs, ∀ (Hs : HS) (t : Option Nat) (w : AV) (bs : List UInt8), App w t 1 (bs.map BY) → Hs.ok t bs.length → bs.length + (encV x.val).length ≤ 1000000000 → ACalls Try.prog 33 [.d (.agg (vC x.val)), w] Hs (Ret (ownB Hs t (bs ++ encV x.val)) (upB Hs t (bs ++ encV x.val)))) : ACalls Try.prog 33 [.d (.agg (v6D k y i tx ls fs)), w] Hs (Ret (ownB Hs t (bs ++ encV (.mk k y i tx ls fs))) (upB Hs t (bs ++ encV (.mk k y i tx ls fs)))) := by
 refine ACalls.tidyW ?_
 have hE := encV_mk k y i tx ls fs
 refine acalls_of_aw Try.func33 rfl ?_
 refine aw_start (T' := ((.d (.agg (v6D k y i tx ls fs))) :: w :: .un :: .un :: .un :: .un :: .un :: .un :: .un :: .un :: .un :: .un :: .un :: .un :: .un :: .un :: .un :: .un :: .un :: .un :: .un :: .un :: .un :: .un :: .un :: .un :: .un :: .un :: .un :: .un :: .un :: .un :: .un :: .un :: .un :: .un :: .un :: .un :: .un :: .un :: .un :: .un :: .un :: .un :: .un :: .un :: .un :: .un :: .un :: .un :: .un :: .un :: .un :: .un :: .un :: .un :: .un :: .un :: .un :: .un :: .un :: .un :: .un :: .un :: .un :: .un :: .un :: .un :: .un :: .un :: .un :: .un :: .un :: .un :: .un :: .un :: .un :: .un :: .un :: .un :: .un :: .un :: .un :: .un :: .un :: [])) rfl ?_
 refine aw_seq ?_
 refine aw_region ?_
 refine zst (op_box_elt (by rfl) (by rfl)) rfl (by dsimp only [zS, zN, zH, zT]) ?_
 refine zst (op_assign_const (by rfl)) rfl (by dsimp only [zS, zN, zH, zT]) ?_
 refine al_end rfl ?_
 refine then_normal ?_
 apply aw_cutF (fun T H => ∃ (u : Unit), T = (.un :: (ownB Hs t (bs ++ [UInt8.ofNat k.toNat])) :: (.elt (v6D k y i tx ls fs)) :: .un :: .un :: .un :: .un :: .un :: .un :: .un :: .un :: .un :: .un :: .un :: .un :: .un :: .un :: .un :: .un :: .un :: .un :: .un :: .un :: .un :: .un :: .un :: .un :: .un :: .un :: .un :: .un :: .un :: .un :: .un :: .un :: .un :: .un :: .un :: .un :: .un :: .un :: .un :: .un :: .un :: .un :: .un :: .un :: .un :: .un :: .un :: .un :: .un :: .un :: .un :: .un :: .un :: .un :: .un :: .un :: .un :: .un :: .un :: .un :: .un :: .un :: .un :: .un :: .un :: .un :: .un :: .un :: .un :: .un :: .un :: .un :: .un :: .un :: .un :: .un :: .un :: .un :: .un :: .un :: .un :: .un :: []) ∧ Wr Hs t H (bs ++ [UInt8.ofNat k.toNat]))
 ·
  refine aw_region ?_
  refine zst (op_move_tmp (by rfl)) rfl (by dsimp only [zS, zN, zH, zT]) ?_
  refine zst (by first | exact op_fieldAddr_ptr Try.underlying26 rfl Sz22 (by rfl) (by rfl) | exact op_fieldAddr_elt Try.underlying26 rfl Sz22 (by rfl) (by rfl) (by rfl)) rfl (by dsimp only [zS, zN, zH, zT]) ?_
  refine zst (by first | exact op_load_elt Try.underlying22 (by rfl) (by rfl) (by rfl) | exact op_load_ptr Try.underlying22 (by rfl) (by rfl) (by first | exact hPhi | exact setB_at push_at) (by rfl)) rfl (by dsimp only [zS, zN, zH, zT]) ?_
  refine zst (op_convI (by rw [Try.underlying22]; rfl) Try.underlying5 (by rfl) (conv_kind h0 h5)) rfl (by dsimp only [zS, zN, zH, zT]) ?_
  refine zst (op_lit Try.underlying70 ZS5 (.cons (by rfl) (.nil _)) (by rfl) (by simp [BY, S, I, TF, DV.cells]) (by simp [flat, BY, S, I, TF, DV.cells, DV.one]) (by decide)) rfl (by dsimp only [zS, zN, zH, zT]) ?_
  refine zst (op_append Try.underlying70 Inf5 (by rfl) hw (.list _ _ _ _ Try.underlying70 (LL.own _ _ _)) (by simpa using hok) (by simp) (by simp; omega) (by simp; omega)) rfl (by dsimp only [zS, zN, zH, zT]) ?_
  refine zst (op_assign_tmp (by rfl)) rfl (by dsimp only [zS, zN, zH, zT]) ?_
  refine al_end rfl ?_
  apply cut_to (false :: true :: true :: false :: false :: false :: false :: false :: false :: false :: false :: false :: false :: false :: false :: false :: false :: false :: false :: false :: false :: false :: false :: false :: false :: false :: false :: false :: false :: false :: false :: false :: false :: false :: false :: false :: false :: false :: false :: false :: false :: false :: false :: false :: false :: false :: false :: false :: false :: false :: false :: false :: false :: false :: false :: false :: false :: false :: false :: false :: false :: false :: false :: false :: false :: false :: false :: false :: false :: false :: false :: false :: false :: false :: false :: false :: false :: false :: false :: false :: false :: false :: false :: false :: false :: [])
  · (try dsimp only [maskT]); try exact rfl
  · rfl
  exact ⟨(), by (simp [ownB, BY, DV.cells]), (by have h := Wr.start hok (bs ++ [UInt8.ofNat k.toNat]); simpa [upB] using h)⟩
 rintro T H ⟨u, rfl, hr⟩
 apply aw_cutF (fun T H => ∃ (l : List UInt8), T = (.un :: (ownB Hs t l) :: .un :: .un :: .un :: .un :: .un :: .un :: .un :: .un :: .un :: .un :: .un :: .un :: .un :: .un :: .un :: .un :: .un :: .un :: .un :: .un :: .un :: .un :: .un :: .un :: .un :: .un :: .un :: .un :: .un :: .un :: .un :: .un :: .un :: .un :: .un :: .un :: .un :: .un :: .un :: .un :: .un :: .un :: .un :: .un :: .un :: .un :: .un :: .un :: .un :: .un :: .un :: .un :: .un :: .un :: .un :: .un :: .un :: .un :: .un :: .un :: .un :: .un :: .un :: .un :: .un :: .un :: .un :: .un :: .un :: .un :: .un :: .un :: .un :: .un :: .un :: .un :: .un :: .un :: .un :: .un :: .un :: .un :: .un :: []) ∧ Wr Hs t H l ∧ l = bs ++ encV (.mk k y i tx ls fs))
 ·
  refine aw_seq ?_
  refine aw_region ?_
  refine zst (by first | exact op_fieldAddr_ptr Try.underlying26 rfl Sz22 (by rfl) (by rfl) | exact op_fieldAddr_elt Try.underlying26 rfl Sz22 (by rfl) (by rfl) (by rfl)) rfl (by dsimp only [zS, zN, zH, zT]) ?_
  refine zst (by first | exact op_load_elt Try.underlying22 (by rfl) (by rfl) (by rfl) | exact op_load_ptr Try.underlying22 (by rfl) (by rfl) (by first | exact hPhi | exact setB_at push_at) (by rfl)) rfl (by dsimp only [zS, zN, zH, zT]) ?_
  refine al_end rfl ?_
  refine then_normal ?_
  refine aw_block ?_
  refine aw_seq ?_
  refine aw_region ?_
  refine zst (op_eqI (by rfl) (by rfl)) rfl (by dsimp only [zS, zN, zH, zT]) ?_
  refine zst (op_assign_tmp (by rfl)) rfl (by dsimp only [zS, zN, zH, zT]) ?_
  refine al_end rfl ?_
  refine then_normal ?_
  refine aw_cond rfl (fun hc1 => ?_) (fun hc1 => ?_)
  ·
   (try simp only [y1, y2, y3, y4, y5, y6, y7, y8, y9, y0, List.length_map] at hc1)
   have hk1 : k = 1 := hc1
   rw [if_pos hk1] at hE
   have hl2 := congrArg List.length hE
   simp [flagB] at hl2
   refine aw_region ?_
   refine zst (op_move_tmp (by rfl)) rfl (by dsimp only [zS, zN, zH, zT]) ?_
   refine zst (by first | exact op_fieldAddr_ptr Try.underlying26 rfl Sz4 (by rfl) (by rfl) | exact op_fieldAddr_elt Try.underlying26 rfl Sz4 (by rfl) (by rfl) (by rfl)) rfl (by dsimp only [zS, zN, zH, zT]) ?_
   refine zst (by first | exact op_load_elt Try.underlying4 (by rfl) (by rfl) (by rfl) | exact op_load_ptr Try.underlying4 (by rfl) (by rfl) (by first | exact hPhi | exact setB_at push_at) (by rfl)) rfl (by dsimp only [zS, zN, zH, zT]) ?_
   refine zst (op_callF Try.func55 (by rfl) (by rfl) (.tmp (by rfl) (.tmp (by rfl) .nil)) (oflag_ok H (some (Hs.tk t)) _ (bs ++ [UInt8.ofNat k.toNat]) y (App.own _ _ _) hr.ok (by simp; omega))) rfl (by dsimp only [zS, zN, zH, zT]) ?_
   refine zst (op_assign_tmp (by rfl)) rfl (by dsimp only [zS, zN, zH, zT]) ?_
   refine al_end rfl ?_
   refine inBlock_normal ?_
   apply cut_to (false :: true :: false :: false :: false :: false :: false :: false :: false :: false :: false :: false :: false :: false :: false :: false :: false :: false :: false :: false :: false :: false :: false :: false :: false :: false :: false :: false :: false :: false :: false :: false :: false :: false :: false :: false :: false :: false :: false :: false :: false :: false :: false :: false :: false :: false :: false :: false :: false :: false :: false :: false :: false :: false :: false :: false :: false :: false :: false :: false :: false :: false :: false :: false :: false :: false :: false :: false :: false :: false :: false :: false :: false :: false :: false :: false :: false :: false :: false :: false :: false :: false :: false :: false :: false :: [])
   · (try dsimp only [maskT]); try exact rfl
   · rfl
   exact ⟨_, rfl, hr.step _, by rw [hE]; simp⟩
  ·
   (try simp only [y1, y2, y3, y4, y5, y6, y7, y8, y9, y0, List.length_map] at hc1)
   have hk1 : ¬ k = 1 := hc1
   refine aw_seq ?_
   refine aw_region ?_
   refine zst (op_eqI (by rfl) (by rfl)) rfl (by dsimp only [zS, zN, zH, zT]) ?_
   refine zst (op_assign_tmp (by rfl)) rfl (by dsimp only [zS, zN, zH, zT]) ?_
   refine al_end rfl ?_
   refine then_normal ?_
   refine aw_cond rfl (fun hc2 => ?_) (fun hc2 => ?_)
   ·
    (try simp only [y1, y2, y3, y4, y5, y6, y7, y8, y9, y0, List.length_map] at hc2)
    have hk2 : k = 2 := hc2
    rw [if_neg hk1, if_pos hk2, intB] at hE
    have hl2 := congrArg List.length hE
    simp [numB_len] at hl2
    have hz := zig_lt (n := i) (by unfold i64 at hi; omega) (by unfold i64 at hi; omega)
    refine aw_seq ?_
    refine aw_region ?_
    refine zst (by first | exact op_fieldAddr_ptr Try.underlying26 rfl Sz2 (by rfl) (by rfl) | exact op_fieldAddr_elt Try.underlying26 rfl Sz2 (by rfl) (by rfl) (by rfl)) rfl (by dsimp only [zS, zN, zH, zT]) ?_
    refine zst (by first | exact op_load_elt Try.underlying2 (by rfl) (by rfl) (by rfl) | exact op_load_ptr Try.underlying2 (by rfl) (by rfl) (by first | exact hPhi | exact setB_at push_at) (by rfl)) rfl (by dsimp only [zS, zN, zH, zT]) ?_
    refine zst (op_callF Try.func56 (by rfl) (by rfl) (.tmp (by rfl) .nil) (zig_ok _ i hi)) rfl (by dsimp only [zS, zN, zH, zT]) ?_
    refine zst (op_assign_tmp (by rfl)) rfl (by dsimp only [zS, zN, zH, zT]) ?_
    refine al_end rfl ?_
    refine then_normal ?_
    refine aw_region ?_
    refine zst (op_move_tmp (by rfl)) rfl (by dsimp only [zS, zN, zH, zT]) ?_
    refine zst (op_move_tmp (by rfl)) rfl (by dsimp only [zS, zN, zH, zT]) ?_
    refine zst (op_shr (by rfl) (by rfl) (by omega) (shr32 _)) rfl (by dsimp only [zS, zN, zH, zT]) ?_
    refine zst (op_convI (by rw [Try.underlying94]; rfl) Try.underlying3 (by rfl) (wrap_i64 ⟨by omega, by omega⟩)) rfl (by dsimp only [zS, zN, zH, zT]) ?_
    refine zst (op_callF Try.func35 (by rfl) (by rfl) (.tmp (by rfl) (.tmp (by rfl) .nil)) (onum_ok H (some (Hs.tk t)) _ (bs ++ [UInt8.ofNat k.toNat]) ((zigN i / 4294967296 : Nat) : Int) (App.own _ _ _) hr.ok (by omega) (by simp; omega))) rfl (by dsimp only [zS, zN, zH, zT]) ?_
    refine zst (op_move_tmp (by rfl)) rfl (by dsimp only [zS, zN, zH, zT]) ?_
    refine zst (op_and (by rfl) (by rfl) (and32 hz)) rfl (by dsimp only [zS, zN, zH, zT]) ?_
    refine zst (op_convI (by rw [Try.underlying94]; rfl) Try.underlying3 (by rfl) (wrap_i64 ⟨by omega, by omega⟩)) rfl (by dsimp only [zS, zN, zH, zT]) ?_
    refine zst (op_callF Try.func35 (by rfl) (by rfl) (.tmp (by rfl) (.tmp (by rfl) .nil)) (onum_ok _ (some (Hs.tk t)) _ ((bs ++ [UInt8.ofNat k.toNat]) ++ numB (zigN i / 4294967296)) ((zigN i % 4294967296 : Nat) : Int) (App.own _ _ _) (hr.step _).ok (by omega) (by simp [numB_len]; omega))) rfl (by dsimp only [zS, zN, zH, zT]) ?_
    refine zst (op_assign_tmp (by rfl)) rfl (by dsimp only [zS, zN, zH, zT]) ?_
    refine al_end rfl ?_
    refine inBlock_normal ?_
    apply cut_to (false :: true :: false :: false :: false :: false :: false :: false :: false :: false :: false :: false :: false :: false :: false :: false :: false :: false :: false :: false :: false :: false :: false :: false :: false :: false :: false :: false :: false :: false :: false :: false :: false :: false :: false :: false :: false :: false :: false :: false :: false :: false :: false :: false :: false :: false :: false :: false :: false :: false :: false :: false :: false :: false :: false :: false :: false :: false :: false :: false :: false :: false :: false :: false :: false :: false :: false :: false :: false :: false :: false :: false :: false :: false :: false :: false :: false :: false :: false :: false :: false :: false :: false :: false :: false :: [])
    · (try dsimp only [maskT]); try exact rfl
    · rfl
    exact ⟨(bs ++ [UInt8.ofNat k.toNat] ++ numB (zigN i / 4294967296) ++ numB (zigN i % 4294967296)), rfl, (hr.step _).step _, by rw [hE]; simp⟩
   ·
    (try simp only [y1, y2, y3, y4, y5, y6, y7, y8, y9, y0, List.length_map] at hc2)
    have hk2 : ¬ k = 2 := hc2
    refine aw_seq ?_
    refine aw_region ?_
    refine zst (op_eqI (by rfl) (by rfl)) rfl (by dsimp only [zS, zN, zH, zT]) ?_
    refine zst (op_assign_tmp (by rfl)) rfl (by dsimp only [zS, zN, zH, zT]) ?_
    refine al_end rfl ?_
    refine then_normal ?_
    refine aw_cond rfl (fun hc3 => ?_) (fun hc3 => ?_)
    ·
     (try simp only [y1, y2, y3, y4, y5, y6, y7, y8, y9, y0, List.length_map] at hc3)
     have hk3 : k = 3 := hc3
     rw [if_neg hk1, if_neg hk2, if_pos hk3] at hE
     have hl2 := congrArg List.length hE
     simp [textB, numB_len] at hl2
     refine aw_region ?_
     refine zst (op_move_tmp (by rfl)) rfl (by dsimp only [zS, zN, zH, zT]) ?_
     refine zst (by first | exact op_fieldAddr_ptr Try.underlying26 rfl Sz9 (by rfl) (by rfl) | exact op_fieldAddr_elt Try.underlying26 rfl Sz9 (by rfl) (by rfl) (by rfl)) rfl (by dsimp only [zS, zN, zH, zT]) ?_
     refine zst (by first | exact op_load_elt Try.underlying9 (by rfl) (by rfl) (by rfl) | exact op_load_ptr Try.underlying9 (by rfl) (by rfl) (by first | exact hPhi | exact setB_at push_at) (by rfl)) rfl (by dsimp only [zS, zN, zH, zT]) ?_
     refine zst (op_callF Try.func36 (by rfl) (by rfl) (.tmp (by rfl) (.tmp (by rfl) .nil)) (otext_ok H (some (Hs.tk t)) _ (bs ++ [UInt8.ofNat k.toNat]) tx (App.own _ _ _) hr.ok (by simp; omega))) rfl (by dsimp only [zS, zN, zH, zT]) ?_
     refine zst (op_assign_tmp (by rfl)) rfl (by dsimp only [zS, zN, zH, zT]) ?_
     refine al_end rfl ?_
     refine inBlock_normal ?_
     apply cut_to (false :: true :: false :: false :: false :: false :: false :: false :: false :: false :: false :: false :: false :: false :: false :: false :: false :: false :: false :: false :: false :: false :: false :: false :: false :: false :: false :: false :: false :: false :: false :: false :: false :: false :: false :: false :: false :: false :: false :: false :: false :: false :: false :: false :: false :: false :: false :: false :: false :: false :: false :: false :: false :: false :: false :: false :: false :: false :: false :: false :: false :: false :: false :: false :: false :: false :: false :: false :: false :: false :: false :: false :: false :: false :: false :: false :: false :: false :: false :: false :: false :: false :: false :: false :: false :: [])
     · (try dsimp only [maskT]); try exact rfl
     · rfl
     exact ⟨_, rfl, hr.step _, by rw [hE]; simp⟩
    ·
     (try simp only [y1, y2, y3, y4, y5, y6, y7, y8, y9, y0, List.length_map] at hc3)
     have hk3 : ¬ k = 3 := hc3
     refine aw_seq ?_
     refine aw_region ?_
     refine zst (op_eqI (by rfl) (by rfl)) rfl (by dsimp only [zS, zN, zH, zT]) ?_
     refine zst (op_assign_tmp (by rfl)) rfl (by dsimp only [zS, zN, zH, zT]) ?_
     refine al_end rfl ?_
     refine then_normal ?_
     refine aw_cond rfl (fun hc4 => ?_) (fun hc4 => ?_)
     ·
      (try simp only [y1, y2, y3, y4, y5, y6, y7, y8, y9, y0, List.length_map] at hc4)
      have hk4 : k = 4 := hc4
      subst hk4
      have hl2 := list_small (y := y) (i := i) (tx := tx) (ls := ls) (fs := fs)
      refine aw_seq ?_
      refine aw_region ?_
      refine zst (op_move_tmp (by rfl)) rfl (by dsimp only [zS, zN, zH, zT]) ?_
      refine zst (by first | exact op_fieldAddr_ptr Try.underlying26 rfl Sz23 (by rfl) (by rfl) | exact op_fieldAddr_elt Try.underlying26 rfl Sz23 (by rfl) (by rfl) (by rfl)) rfl (by dsimp only [zS, zN, zH, zT]) ?_
      refine zst (by first | exact op_load_elt Try.underlying23 (by rfl) (by rfl) (by rfl) | exact op_load_ptr Try.underlying23 (by rfl) (by rfl) (by first | exact hPhi | exact setB_at push_at) (by rfl)) rfl (by dsimp only [zS, zN, zH, zT]) ?_
      refine zst (op_lenL Try.underlying23 (by first | exact LL.d _ _ | exact LL.own _ _ _ | exact LL.nil _ | assumption)) rfl (by dsimp only [zS, zN, zH, zT]) ?_
      refine zst (op_callF Try.func35 (by rfl) (by rfl) (.tmp (by rfl) (.tmp (by rfl) .nil)) (onum_ok H (some (Hs.tk t)) _ (bs ++ [UInt8.ofNat (4 : Int).toNat]) ((ls.map vD).length : Int) (App.own _ _ _) hr.ok (by simp; omega) (by simp; omega))) rfl (by dsimp only [zS, zN, zH, zT]) ?_
      refine zst (op_assign_tmp (by rfl)) rfl (by dsimp only [zS, zN, zH, zT]) ?_
      refine al_end rfl ?_
      refine then_normal ?_
      refine aw_seq ?_
      refine aw_region ?_
      refine zst (by first | exact op_fieldAddr_ptr Try.underlying26 rfl Sz23 (by rfl) (by rfl) | exact op_fieldAddr_elt Try.underlying26 rfl Sz23 (by rfl) (by rfl) (by rfl)) rfl (by dsimp only [zS, zN, zH, zT]) ?_
      refine zst (by first | exact op_load_elt Try.underlying23 (by rfl) (by rfl) (by rfl) | exact op_load_ptr Try.underlying23 (by rfl) (by rfl) (by first | exact hPhi | exact setB_at push_at) (by rfl)) rfl (by dsimp only [zS, zN, zH, zT]) ?_
      refine zst (op_lenL Try.underlying23 (by first | exact LL.d _ _ | exact LL.own _ _ _ | exact LL.nil _ | assumption)) rfl (by dsimp only [zS, zN, zH, zT]) ?_
      refine zst (op_move_const (by rfl)) rfl (by dsimp only [zS, zN, zH, zT]) ?_
      refine al_end rfl ?_
      refine then_normal ?_
      refine aw_block ?_
      apply aw_loopF (fun n T H => ∃ (j : Nat), T = (.un :: (ownB Hs t (encLj bs ls j)) :: .un :: .un :: .un :: .un :: .un :: .un :: .un :: .un :: .un :: .un :: .un :: .un :: .un :: .un :: .un :: .un :: .un :: .un :: .un :: .un :: .un :: .un :: .un :: .un :: .un :: .un :: .un :: .un :: .un :: .un :: .un :: .un :: .un :: .un :: .un :: .un :: .un :: .un :: .un :: .un :: .un :: .un :: .un :: .un :: .un :: .un :: .un :: .un :: .un :: .un :: (.d (.lst 6 (ls.map vD))) :: (.d (I (ls.map vD).length)) :: (.d (I j)) :: .un :: .un :: .un :: .un :: .un :: .un :: .un :: .un :: .un :: .un :: .un :: .un :: .un :: .un :: .un :: .un :: .un :: .un :: .un :: .un :: .un :: .un :: .un :: .un :: .un :: .un :: .un :: .un :: .un :: .un :: []) ∧ j ≤ ls.length ∧ n = ls.length - j ∧ Wr Hs t H (encLj bs ls j)) (ls.length) (false :: true :: false :: false :: false :: false :: false :: false :: false :: false :: false :: false :: false :: false :: false :: false :: false :: false :: false :: false :: false :: false :: false :: false :: false :: false :: false :: false :: false :: false :: false :: false :: false :: false :: false :: false :: false :: false :: false :: false :: false :: false :: false :: false :: false :: false :: false :: false :: false :: false :: false :: false :: true :: true :: true :: false :: false :: false :: false :: false :: false :: false :: false :: false :: false :: false :: false :: false :: false :: false :: false :: false :: false :: false :: false :: false :: false :: false :: false :: false :: false :: false :: false :: false :: false :: [])
      · (try dsimp only [maskT]); try exact rfl
      · rfl
      · exact ⟨0, by (rw [encLj_0]; simp) <;> exact ⟨rfl, rfl⟩, by omega, rfl, by rw [encLj_0]; have h := hr.step (bs ++ [UInt8.ofNat 4] ++ numB ls.length); simpa using h⟩
      rintro n T H ⟨j, rfl, hj, rfl, hr⟩
      refine aw_seq ?_
      refine aw_region ?_
      refine zst (op_ltI (by rfl) (by rfl)) rfl (by dsimp only [zS, zN, zH, zT]) ?_
      refine al_end rfl ?_
      refine then_normal ?_
      refine aw_seq ?_
      refine aw_cond rfl (fun hc5 => ?_) (fun hc5 => ?_)
      ·
       (try simp only [y1, y2, y3, y4, y5, y6, y7, y8, y9, y0, List.length_map] at hc5)
       (try simp only [List.length_map] at hc5)
       have hlt : j < ls.length := by omega
       obtain ⟨x, hx⟩ : ∃ x, ls[j]? = some x := ⟨_, List.getElem?_eq_getElem hlt⟩
       have hle := encLj_le (bs := bs) (y := y) (i := i) (tx := tx) (fs := fs) hx
       refine aw_skip ?_
       refine then_normal ?_
       refine aw_seq ?_
       refine aw_block ?_
       refine aw_seq ?_
       refine aw_region ?_
       refine zst (op_indexAddr (z := vD x) (cs := [I x.kind, TF x.yes, .v (.int .i64 x.num), S x.text, .lst 6 (x.list.map vD), .lst 7 (x.fields.map fD)]) Try.underlying23 Sz26 (LL.d _ _) (by rfl) (by omega) (by rw [List.getElem?_map, show ((j : Nat) : Int).toNat = j from rfl, hx]; rfl) (vD_cells x)) rfl (by dsimp only [zS, zN, zH, zT]) ?_
       refine zst (op_load_elts (ds := vC x) Try.underlying26 (by rfl) Sz26 (by rfl) (Nat.le_of_ble_eq_true rfl) (by rw [vC_eq]; rfl)) rfl (by dsimp only [zS, zN, zH, zT]) ?_
       refine zst (op_alloc (Zr26) (by rfl)) rfl (by dsimp only [zS, zN, zH, zT]) ?_
       refine zst (op_storeV (b' := ⟨26, (vC x).map .d, false⟩) x Sz26 (by rfl) push_at (by rfl) (Nat.le_of_ble_eq_true rfl) (by rfl) (by rw [vC_eq]; rfl)) rfl (by dsimp only [zS, zN, zH, zT]) ?_
       refine al_end rfl ?_
       refine then_normal ?_
       refine aw_region ?_
       refine zst (op_load_ptrsD (vC x) Try.underlying26 (by rfl) Sz26 (by rfl) (setB_at push_at) (by show 0 + 6 ≤ ((vC x).map AV.d).length; rw [List.length_map, vC_len]; exact Nat.le_refl _) (by show (((vC x).map AV.d).drop 0).take 6 = _; rw [List.drop_zero, List.take_of_length_le (by rw [List.length_map, vC_len]; exact Nat.le_refl _)]) (vC_one x)) rfl (by dsimp only [zS, zN, zH, zT]) ?_
       refine zst (op_move_tmp (by rfl)) rfl (by dsimp only [zS, zN, zH, zT]) ?_
       refine zst (op_callF Try.func33 (by rfl) (by rfl) (.tmp (by rfl) (.tmp (by rfl) .nil)) (ihL x (List.mem_of_getElem? hx) _ (some (Hs.tk t)) _ (encLj bs ls j) (App.own _ _ _) hr.ok (by omega))) rfl (by dsimp only [zS, zN, zH, zT]) ?_
       refine zst (op_assign_tmp (by rfl)) rfl (by dsimp only [zS, zN, zH, zT]) ?_
       refine al_end rfl ?_
       refine inBlock_normal (then_normal ?_)
       refine aw_region ?_
       refine zst (by first | exact op_add (by rfl) (by rfl) (wrap_i64 ⟨by omega, by omega⟩) | exact op_add (by rfl) (by rfl) (by rfl)) rfl (by dsimp only [zS, zN, zH, zT]) ?_
       refine zst (op_move_tmp (by rfl)) rfl (by dsimp only [zS, zN, zH, zT]) ?_
       refine al_end rfl ?_
       apply again_to (ls.length - (j + 1)) (false :: true :: false :: false :: false :: false :: false :: false :: false :: false :: false :: false :: false :: false :: false :: false :: false :: false :: false :: false :: false :: false :: false :: false :: false :: false :: false :: false :: false :: false :: false :: false :: false :: false :: false :: false :: false :: false :: false :: false :: false :: false :: false :: false :: false :: false :: false :: false :: false :: false :: false :: false :: true :: true :: true :: false :: false :: false :: false :: false :: false :: false :: false :: false :: false :: false :: false :: false :: false :: false :: false :: false :: false :: false :: false :: false :: false :: false :: false :: false :: false :: false :: false :: false :: false :: [])
       · (try dsimp only [maskT]); try exact rfl
       · rfl
       · omega
       exact ⟨j + 1, by (rw [encLj_step hx]) <;> rfl, by omega, rfl, by rw [encLj_step hx]; exact (hr.push.setB hr.nb).step _⟩
      ·
       (try simp only [y1, y2, y3, y4, y5, y6, y7, y8, y9, y0, List.length_map] at hc5)
       (try simp only [List.length_map] at hc5)
       have hje : j = ls.length := by omega
       subst hje
       rw [encLj_full (y := y) (i := i) (tx := tx) (fs := fs)] at hr ⊢
       refine aw_exit ?_
       refine then_exit (again_exit (inBlock_here (inBlock_normal ?_)))
       apply cut_to (false :: true :: false :: false :: false :: false :: false :: false :: false :: false :: false :: false :: false :: false :: false :: false :: false :: false :: false :: false :: false :: false :: false :: false :: false :: false :: false :: false :: false :: false :: false :: false :: false :: false :: false :: false :: false :: false :: false :: false :: false :: false :: false :: false :: false :: false :: false :: false :: false :: false :: false :: false :: false :: false :: false :: false :: false :: false :: false :: false :: false :: false :: false :: false :: false :: false :: false :: false :: false :: false :: false :: false :: false :: false :: false :: false :: false :: false :: false :: false :: false :: false :: false :: false :: false :: [])
       · (try dsimp only [maskT]); try exact rfl
       · rfl
       exact ⟨_, rfl, hr, rfl⟩
     ·
      (try simp only [y1, y2, y3, y4, y5, y6, y7, y8, y9, y0, List.length_map] at hc4)
      have hk4 : ¬ k = 4 := hc4
      refine aw_seq ?_
      refine aw_region ?_
      refine zst (op_eqI (by rfl) (by rfl)) rfl (by dsimp only [zS, zN, zH, zT]) ?_
      refine zst (op_assign_tmp (by rfl)) rfl (by dsimp only [zS, zN, zH, zT]) ?_
      refine al_end rfl ?_
      refine then_normal ?_
      refine aw_cond rfl (fun hc6 => ?_) (fun hc6 => ?_)
      ·
       (try simp only [y1, y2, y3, y4, y5, y6, y7, y8, y9, y0, List.length_map] at hc6)
       have hk5 : k = 5 := hc6
       subst hk5
       have hl2 := fields_small (y := y) (i := i) (tx := tx) (ls := ls) (fs := fs)
       refine aw_seq ?_
       refine aw_region ?_
       refine zst (op_move_tmp (by rfl)) rfl (by dsimp only [zS, zN, zH, zT]) ?_
       refine zst (by first | exact op_fieldAddr_ptr Try.underlying26 rfl Sz24 (by rfl) (by rfl) | exact op_fieldAddr_elt Try.underlying26 rfl Sz24 (by rfl) (by rfl) (by rfl)) rfl (by dsimp only [zS, zN, zH, zT]) ?_
       refine zst (by first | exact op_load_elt Try.underlying24 (by rfl) (by rfl) (by rfl) | exact op_load_ptr Try.underlying24 (by rfl) (by rfl) (by first | exact hPhi | exact setB_at push_at) (by rfl)) rfl (by dsimp only [zS, zN, zH, zT]) ?_
       refine zst (op_lenL Try.underlying24 (by first | exact LL.d _ _ | exact LL.own _ _ _ | exact LL.nil _ | assumption)) rfl (by dsimp only [zS, zN, zH, zT]) ?_
       refine zst (op_callF Try.func35 (by rfl) (by rfl) (.tmp (by rfl) (.tmp (by rfl) .nil)) (onum_ok H (some (Hs.tk t)) _ (bs ++ [UInt8.ofNat (5 : Int).toNat]) ((fs.map fD).length : Int) (App.own _ _ _) hr.ok (by simp; omega) (by simp; omega))) rfl (by dsimp only [zS, zN, zH, zT]) ?_
       refine zst (op_assign_tmp (by rfl)) rfl (by dsimp only [zS, zN, zH, zT]) ?_
       refine al_end rfl ?_
       refine then_normal ?_
       refine aw_seq ?_
       refine aw_region ?_
       refine zst (by first | exact op_fieldAddr_ptr Try.underlying26 rfl Sz24 (by rfl) (by rfl) | exact op_fieldAddr_elt Try.underlying26 rfl Sz24 (by rfl) (by rfl) (by rfl)) rfl (by dsimp only [zS, zN, zH, zT]) ?_
       refine zst (by first | exact op_load_elt Try.underlying24 (by rfl) (by rfl) (by rfl) | exact op_load_ptr Try.underlying24 (by rfl) (by rfl) (by first | exact hPhi | exact setB_at push_at) (by rfl)) rfl (by dsimp only [zS, zN, zH, zT]) ?_
       refine zst (op_lenL Try.underlying24 (by first | exact LL.d _ _ | exact LL.own _ _ _ | exact LL.nil _ | assumption)) rfl (by dsimp only [zS, zN, zH, zT]) ?_
       refine zst (op_move_const (by rfl)) rfl (by dsimp only [zS, zN, zH, zT]) ?_
       refine al_end rfl ?_
       refine then_normal ?_
       refine aw_block ?_
       apply aw_loopF (fun n T H => ∃ (j : Nat), T = (.un :: (ownB Hs t (encFj bs fs j)) :: .un :: .un :: .un :: .un :: .un :: .un :: .un :: .un :: .un :: .un :: .un :: .un :: .un :: .un :: .un :: .un :: .un :: .un :: .un :: .un :: .un :: .un :: .un :: .un :: .un :: .un :: .un :: .un :: .un :: .un :: .un :: .un :: .un :: .un :: .un :: .un :: .un :: .un :: .un :: .un :: .un :: .un :: .un :: .un :: .un :: .un :: .un :: .un :: .un :: .un :: .un :: .un :: .un :: .un :: .un :: .un :: .un :: .un :: .un :: .un :: .un :: .un :: .un :: .un :: .un :: .un :: .un :: .un :: (.d (.lst 7 (fs.map fD))) :: (.d (I (fs.map fD).length)) :: (.d (I j)) :: .un :: .un :: .un :: .un :: .un :: .un :: .un :: .un :: .un :: .un :: .un :: .un :: []) ∧ j ≤ fs.length ∧ n = fs.length - j ∧ Wr Hs t H (encFj bs fs j)) (fs.length) (false :: true :: false :: false :: false :: false :: false :: false :: false :: false :: false :: false :: false :: false :: false :: false :: false :: false :: false :: false :: false :: false :: false :: false :: false :: false :: false :: false :: false :: false :: false :: false :: false :: false :: false :: false :: false :: false :: false :: false :: false :: false :: false :: false :: false :: false :: false :: false :: false :: false :: false :: false :: false :: false :: false :: false :: false :: false :: false :: false :: false :: false :: false :: false :: false :: false :: false :: false :: false :: false :: true :: true :: true :: false :: false :: false :: false :: false :: false :: false :: false :: false :: false :: false :: false :: [])
       · (try dsimp only [maskT]); try exact rfl
       · rfl
       · exact ⟨0, by (rw [encFj_0]; simp) <;> exact ⟨rfl, rfl⟩, by omega, rfl, by rw [encFj_0]; have h := hr.step (bs ++ [UInt8.ofNat 5] ++ numB fs.length); simpa using h⟩
       rintro n T H ⟨j, rfl, hj, rfl, hr⟩
       refine aw_seq ?_
       refine aw_region ?_
       refine zst (op_ltI (by rfl) (by rfl)) rfl (by dsimp only [zS, zN, zH, zT]) ?_
       refine al_end rfl ?_
       refine then_normal ?_
       refine aw_seq ?_
       refine aw_cond rfl (fun hc7 => ?_) (fun hc7 => ?_)
       ·
        (try simp only [y1, y2, y3, y4, y5, y6, y7, y8, y9, y0, List.length_map] at hc7)
        (try simp only [List.length_map] at hc7)
        have hlt : j < fs.length := by omega
        obtain ⟨x, hx⟩ : ∃ x, fs[j]? = some x := ⟨_, List.getElem?_eq_getElem hlt⟩
        have hle := encFj_le (bs := bs) (y := y) (i := i) (tx := tx) (ls := ls) hx
        refine aw_skip ?_
        refine then_normal ?_
        refine aw_seq ?_
        refine aw_block ?_
        refine aw_seq ?_
        refine aw_region ?_
        refine zst (op_indexAddr (z := fD x) (cs := [S x.name, I x.val.kind, TF x.val.yes, .v (.int .i64 x.val.num), S x.val.text, .lst 6 (x.val.list.map vD), .lst 7 (x.val.fields.map fD)]) Try.underlying24 Sz48 (LL.d _ _) (by rfl) (by omega) (by rw [List.getElem?_map, show ((j : Nat) : Int).toNat = j from rfl, hx]; rfl) (fD_cells7 x)) rfl (by dsimp only [zS, zN, zH, zT]) ?_
        refine zst (op_load_elts (ds := fC x) Try.underlying48 (by rfl) Sz48 (by rfl) (Nat.le_of_ble_eq_true rfl) (by rw [← fC7]; rfl)) rfl (by dsimp only [zS, zN, zH, zT]) ?_
        refine zst (op_alloc (Zr48) (by rfl)) rfl (by dsimp only [zS, zN, zH, zT]) ?_
        refine zst (op_storeF (b' := f1 48 x) x Sz48 (by rfl) push_at (by rfl) (Nat.le_of_ble_eq_true rfl) (by rfl) (by unfold f1; rw [← fC7]; rfl)) rfl (by dsimp only [zS, zN, zH, zT]) ?_
        refine al_end rfl ?_
        refine then_normal ?_
        refine aw_drawX (fun K => K.blks[H.nb]? = some (f1 48 x)) [0, 0, 0, 0, 0, 2, 2, 0] mixed (by kernel_rfl) (setB_at push_at) (.inr (by kernel_rfl)) ?_
        apply drun0X
        · intro H hPhi; first | exact op_fieldAddr_ptr Try.underlying48 rfl Sz26 (by rfl) (by rfl) | exact op_fieldAddr_elt Try.underlying48 rfl Sz26 (by rfl) (by rfl) (by rfl)
        · rfl
        apply drun_normT
        · (try dsimp only [zS, zN, zH, zT]); try exact rfl
        apply drun0X
        · intro H hPhi; exact op_load_ptrsD (vC x.val) Try.underlying26 (by rfl) Sz26 (by rfl) hPhi (by show 1 + 6 ≤ ((fC x).map AV.d).length; rw [List.length_map, fC_len]; exact Nat.le_refl _) (f1_val x) (vC_one _)
        · rfl
        apply drun_normT
        · (try dsimp only [zS, zN, zH, zT]); try exact rfl
        apply drun0X
        · intro H hPhi; exact op_move_tmp (by rfl)
        · rfl
        apply drun_normT
        · (try dsimp only [zS, zN, zH, zT]); try exact rfl
        apply drun0X
        · intro H hPhi; first | exact op_fieldAddr_ptr Try.underlying48 rfl Sz9 (by rfl) (by rfl) | exact op_fieldAddr_elt Try.underlying48 rfl Sz9 (by rfl) (by rfl) (by rfl)
        · rfl
        apply drun_normT
        · (try dsimp only [zS, zN, zH, zT]); try exact rfl
        apply drun0X
        · intro H hPhi; exact op_load_ptr Try.underlying9 (by rfl) (by rfl) hPhi (f1_name x)
        · rfl
        apply drun_normT
        · (try dsimp only [zS, zN, zH, zT]); try exact rfl
        apply drun2X
        · exact op_callF Try.func36 (by rfl) (by rfl) (.tmp (by rfl) (.tmp (by rfl) .nil)) (otext_ok _ (some (Hs.tk t)) _ (encFj bs fs j) x.name (App.own _ _ _) hr.ok (by have := Sch.textB_ge x.name; omega))
        · rfl
        · refine .inr ?_; first | (rw [HS.up_blks]; exact setB_at push_at) | (rw [HS.up_blks, HS.up_blks]; exact setB_at push_at)
        apply drun_normT
        · (try dsimp only [zS, zN, zH, zT]); try exact rfl
        apply drun2X
        · exact op_callF Try.func33 (by rfl) (by rfl) (.tmp (by rfl) (.tmp (by rfl) .nil)) (ihF x (List.mem_of_getElem? hx) _ (some (Hs.tk t)) _ (encFj bs fs j ++ textB x.name) (App.own _ _ _) (okB _ (some (Hs.tk t)) _ (show HS.ok ((H.push _ _).setB _ _) _ _ from hr.ok)) (by rw [List.length_append]; omega))
        · rfl
        · refine .inr ?_; first | (rw [HS.up_blks]; exact setB_at push_at) | (rw [HS.up_blks, HS.up_blks]; exact setB_at push_at)
        apply drun_normT
        · (try dsimp only [zS, zN, zH, zT]); try exact rfl
        apply drun0X
        · intro H hPhi; exact op_assign_tmp (by rfl)
        · rfl
        apply drun_normT
        · (try dsimp only [zS, zN, zH, zT]); try exact rfl
        refine drun_end rfl ?_
        refine inBlock_normal (then_normal ?_)
        refine aw_region ?_
        refine zst (by first | exact op_add (by rfl) (by rfl) (wrap_i64 ⟨by omega, by omega⟩) | exact op_add (by rfl) (by rfl) (by rfl)) rfl (by dsimp only [zS, zN, zH, zT]) ?_
        refine zst (op_move_tmp (by rfl)) rfl (by dsimp only [zS, zN, zH, zT]) ?_
        refine al_end rfl ?_
        apply again_to (fs.length - (j + 1)) (false :: true :: false :: false :: false :: false :: false :: false :: false :: false :: false :: false :: false :: false :: false :: false :: false :: false :: false :: false :: false :: false :: false :: false :: false :: false :: false :: false :: false :: false :: false :: false :: false :: false :: false :: false :: false :: false :: false :: false :: false :: false :: false :: false :: false :: false :: false :: false :: false :: false :: false :: false :: false :: false :: false :: false :: false :: false :: false :: false :: false :: false :: false :: false :: false :: false :: false :: false :: false :: false :: true :: true :: true :: false :: false :: false :: false :: false :: false :: false :: false :: false :: false :: false :: false :: [])
        · (try dsimp only [maskT]); try exact rfl
        · rfl
        · omega
        exact ⟨j + 1, by (rw [encFj_step hx]) <;> rfl, by omega, rfl, by rw [encFj_step hx]; exact ((hr.push.setB hr.nb).step _).step _⟩
       ·
        (try simp only [y1, y2, y3, y4, y5, y6, y7, y8, y9, y0, List.length_map] at hc7)
        (try simp only [List.length_map] at hc7)
        have hje : j = fs.length := by omega
        subst hje
        rw [encFj_full (y := y) (i := i) (tx := tx) (ls := ls)] at hr ⊢
        refine aw_exit ?_
        refine then_exit (again_exit (inBlock_here (inBlock_normal ?_)))
        apply cut_to (false :: true :: false :: false :: false :: false :: false :: false :: false :: false :: false :: false :: false :: false :: false :: false :: false :: false :: false :: false :: false :: false :: false :: false :: false :: false :: false :: false :: false :: false :: false :: false :: false :: false :: false :: false :: false :: false :: false :: false :: false :: false :: false :: false :: false :: false :: false :: false :: false :: false :: false :: false :: false :: false :: false :: false :: false :: false :: false :: false :: false :: false :: false :: false :: false :: false :: false :: false :: false :: false :: false :: false :: false :: false :: false :: false :: false :: false :: false :: false :: false :: false :: false :: false :: false :: [])
        · (try dsimp only [maskT]); try exact rfl
        · rfl
        exact ⟨_, rfl, hr, rfl⟩
      ·
       (try simp only [y1, y2, y3, y4, y5, y6, y7, y8, y9, y0, List.length_map] at hc6)
       have hk5 : ¬ k = 5 := hc6
       refine aw_skip ?_
       refine inBlock_normal ?_
       apply cut_to (false :: true :: false :: false :: false :: false :: false :: false :: false :: false :: false :: false :: false :: false :: false :: false :: false :: false :: false :: false :: false :: false :: false :: false :: false :: false :: false :: false :: false :: false :: false :: false :: false :: false :: false :: false :: false :: false :: false :: false :: false :: false :: false :: false :: false :: false :: false :: false :: false :: false :: false :: false :: false :: false :: false :: false :: false :: false :: false :: false :: false :: false :: false :: false :: false :: false :: false :: false :: false :: false :: false :: false :: false :: false :: false :: false :: false :: false :: false :: false :: false :: false :: false :: false :: false :: [])
       · (try dsimp only [maskT]); try exact rfl
       · rfl
       exact ⟨_, rfl, hr, by rw [hE]; simp [hk1, hk2, hk3, hk4, hk5]⟩
 rintro T H ⟨l, rfl, hr, rfl⟩
 refine aw_seq ?_
 refine aw_region ?_
 refine zst (op_move_tmp (by rfl)) rfl (by dsimp only [zS, zN, zH, zT]) ?_
 refine zst (op_assign_tmp (by rfl)) rfl (by dsimp only [zS, zN, zH, zT]) ?_
 refine al_end rfl ?_
 refine then_normal ?_
 refine aw_ret ?_
 refine retPost1 rfl rfl ?_
 exact ⟨rfl, hr⟩
theorem lay_ok : ∀ (d : Nat) (v : V), rightV d v = true → WfV v → ∀ (Hs : HS) (t : Option Nat) (w : AV) (bs : List UInt8), App w t 1 (bs.map BY) → Hs.ok t bs.length → bs.length + (encV v).length ≤ 1000000000 → ACalls Try.prog 33 [.d (.agg (vC v)), w] Hs (Ret (ownB Hs t (bs ++ encV v)) (upB Hs t (bs ++ encV v)))
  | 0, _, h, _, _, _, _, _, _, _, _ => by simp [rightV] at h
  | d + 1, .mk k y i tx ls fs, h, hw, Hs, t, w, bs, ha, hok, hB => by
    obtain ⟨h1, h2, h3, _⟩ := right_only h
    obtain ⟨h0, h5, _, _⟩ := only_list h1
    rw [v6D_eq]
    exact lay_step Hs t w bs k y i tx ls fs h0 h5 hw.n ha hok hB (fun x hx Hs t w bs a b c => lay_ok d x (h3 x hx) (hw.l x hx) Hs t w bs a b c) (fun x hx Hs t w bs a b c => lay_ok d x.val (h2 x hx) (hw.f x hx) Hs t w bs a b c)
end Go.Proofs.Ytjamnhofbkgblaa
namespace Go.Proofs.Ytjamnhofbkgblaa
open Go.AV Go.AV.Ord Go.AV.Oct Go.AV.Val
set_option linter.unusedVariables false
set_option linter.unusedSimpArgs false
set_option maxRecDepth 100000 in
theorem venc_ok (Hs : HS) (v : V) (hv : SmallV v) (hw : WfV v) (hB : (encV v).length ≤ 1000000000) : ACalls Try.prog 19 [.d (.agg (vC v))] Hs (Ret (.tup [.d (S (encO v).1), .d (I (encO v).2)]) Hs) := by
 refine ACalls.tidyT (xs := [S (encO v).1, I (encO v).2]) ?_
 refine acalls_of_aw Try.func19 rfl ?_
 refine aw_start (T' := [.d (.agg (vC v)), .un, .un, .un, .un, .un, .un, .un, .un, .un, .un, .un, .un, .un, .un]) rfl ?_
 refine aw_seq ?_
 refine aw_region ?_
 refine zst (op_box_elt (cs := [I v.kind, TF v.yes, .v (.int .i64 v.num), S v.text, .lst 6 (v.list.map vD), .lst 7 (v.fields.map fD)]) (by rfl) (vD_cells v)) rfl (by dsimp only [zS, zN, zH, zT]) ?_
 refine zst (op_assign_const (by rfl)) rfl (by dsimp only [zS, zN, zH, zT]) ?_
 refine zst (op_assign_const (by rfl)) rfl (by dsimp only [zS, zN, zH, zT]) ?_
 refine al_end rfl ?_
 refine then_normal ?_
 refine aw_seq ?_
 refine aw_seq ?_
 refine aw_region ?_
 refine zst (op_load_elts (ds := vC v) Try.underlying26 (by rfl) Sz26 (by rfl) (Nat.le_of_ble_eq_true rfl) (by rw [vC_eq]; rfl)) rfl (by dsimp only [zS, zN, zH, zT]) ?_
 refine zst (op_callF Try.func22 (by rfl) (by rfl) (.tmp (by rfl) .nil) (right_ok' _ v hv)) rfl (by dsimp only [zS, zN, zH, zT]) ?_
 refine zst (op_not (by rfl)) rfl (by dsimp only [zS, zN, zH, zT]) ?_
 refine al_end rfl ?_
 refine then_normal ?_
 refine aw_cond rfl (fun hc1 => ?_) (fun hc1 => ?_)
 ·
  (try simp only [y1, y2, y3, y4, y5, y6, y7, y8, y9, y0, List.length_map] at hc1)
  have hR : rightV 32 v = false := by simpa using hc1
  refine aw_seq ?_
  refine aw_region ?_
  refine zst (op_assign_const (by rfl)) rfl (by dsimp only [zS, zN, zH, zT]) ?_
  refine zst (op_assign_const (by rfl)) rfl (by dsimp only [zS, zN, zH, zT]) ?_
  refine al_end rfl ?_
  refine then_normal ?_
  refine aw_ret ?_
  refine then_ret ?_
  refine retPost2 rfl rfl rfl ?_
  have e : encO v = ([], 1) := by simp [encO, hR]
  exact ⟨by (rw [e]) <;> rfl, Ext.refl _⟩
 ·
  (try simp only [y1, y2, y3, y4, y5, y6, y7, y8, y9, y0, List.length_map] at hc1)
  have hR : rightV 32 v = true := by simpa using hc1
  refine aw_skip ?_
  refine then_normal ?_
  refine aw_seq ?_
  refine aw_region ?_
  refine zst (op_load_elts (ds := vC v) Try.underlying26 (by rfl) Sz26 (by rfl) (Nat.le_of_ble_eq_true rfl) (by rw [vC_eq]; rfl)) rfl (by dsimp only [zS, zN, zH, zT]) ?_
  refine zst (op_callF Try.func33 (by rfl) (by rfl) (.tmp (by rfl) (.const (by rfl) .nil)) ((by have h := lay_ok 32 v hR hw Hs none _ [] (App.nil _) (HS.ok_none _ _) (by simpa using hB); simpa using h))) rfl (by dsimp only [zS, zN, zH, zT]) ?_
  refine zst (op_assign_tmp (by rfl)) rfl (by dsimp only [zS, zN, zH, zT]) ?_
  refine al_end rfl ?_
  refine then_normal ?_
  refine aw_seq ?_
  refine aw_seq ?_
  refine aw_region ?_
  refine zst (op_move_tmp (by rfl)) rfl (by dsimp only [zS, zN, zH, zT]) ?_
  refine zst (op_lenL Try.underlying70 (by first | exact LL.d _ _ | exact LL.own _ _ _ | exact LL.nil _ | assumption)) rfl (by dsimp only [zS, zN, zH, zT]) ?_
  refine zst (op_gtI (by rfl) (by rfl)) rfl (by dsimp only [zS, zN, zH, zT]) ?_
  refine al_end rfl ?_
  refine then_normal ?_
  refine aw_cond rfl (fun hc2 => ?_) (fun hc2 => ?_)
  ·
   (try simp only [y1, y2, y3, y4, y5, y6, y7, y8, y9, y0, List.length_map] at hc2)
   (try simp only [List.length_map] at hc2)
   have hL : 4096 < (encV v).length := by omega
   refine aw_seq ?_
   refine aw_region ?_
   refine zst (op_assign_const (by rfl)) rfl (by dsimp only [zS, zN, zH, zT]) ?_
   refine zst (op_assign_const (by rfl)) rfl (by dsimp only [zS, zN, zH, zT]) ?_
   refine al_end rfl ?_
   refine then_normal ?_
   refine aw_ret ?_
   refine then_ret ?_
   refine retPost2 rfl rfl rfl ?_
   have e : encO v = ([], 4) := by simp [encO, hR, hL]
   exact ⟨by (rw [e]) <;> rfl, ((Ext.refl Hs).upN (NewTok.none Hs) (HS.ok_none _ 0)).1⟩
  ·
   (try simp only [y1, y2, y3, y4, y5, y6, y7, y8, y9, y0, List.length_map] at hc2)
   (try simp only [List.length_map] at hc2)
   have hL : ¬ 4096 < (encV v).length := by omega
   refine aw_skip ?_
   refine then_normal ?_
   refine aw_seq ?_
   refine aw_region ?_
   refine zst (op_move_tmp (by rfl)) rfl (by dsimp only [zS, zN, zH, zT]) ?_
   refine zst (op_string Try.underlying70 Try.underlying9 Try.underlying5 (by first | exact LL.d _ _ | exact LL.own _ _ _ | exact LL.nil _ | assumption) (by rfl)) rfl (by dsimp only [zS, zN, zH, zT]) ?_
   refine zst (op_assign_tmp (by rfl)) rfl (by dsimp only [zS, zN, zH, zT]) ?_
   refine zst (op_assign_const (by rfl)) rfl (by dsimp only [zS, zN, zH, zT]) ?_
   refine al_end rfl ?_
   refine then_normal ?_
   refine aw_ret ?_
   refine retPost2 rfl rfl rfl ?_
   have e : encO v = (encV v, 0) := by simp [encO, hR, hL]
   exact ⟨by (rw [e]) <;> rfl, ((Ext.refl Hs).upN (NewTok.none Hs) (HS.ok_none _ 0)).1⟩
theorem venc_at {Hs : HS} {v : V} {s : List UInt8} {e : Int} (hO : encO v = (s, e)) (hv : SmallV v) (hw : WfV v) (hB : (encV v).length ≤ 1000000000) : ACalls Try.prog 19 [.d (.agg (vC v))] Hs (Ret (.tup [.d (S s), .d (I e)]) Hs) := by
  have h := venc_ok Hs v hv hw hB
  rwa [hO] at h
end Go.Proofs.Ytjamnhofbkgblaa
namespace Go.AV
open Go.AV.Ord Go.AV.Oct
structure BW (Hs H : HS) (v : AV) (t : Option Nat) (l : List UInt8) : Prop where
  app : App v t 1 (l.map BY)
  ok : H.ok t l.length
  new : NewTok Hs t
  x : Ext Hs H
theorem BW.nil {Hs H : HS} (h : Ext Hs H) : BW Hs H nilS none [] := ⟨App.nil _, HS.ok_none _ _, NewTok.none _, h⟩
theorem BW.step {Hs H : HS} {v : AV} {t : Option Nat} {l : List UInt8} (h : BW Hs H v t l) (m : List UInt8) : BW Hs (upB H t m) (ownB H t m) (some (H.tk t)) m := by
  have h1 := h.x.upN (n := m.length) h.new h.ok
  exact ⟨App.own _ _ _, okB _ _ _ h.ok, h1.2, h1.1⟩
theorem BW.push {Hs H : HS} {v : AV} {t : Option Nat} {l : List UInt8} {e : TypeId} {cs : List AV} {b : HB} (h : BW Hs H v t l) : BW Hs ((H.push e cs).setB H.nb b) v t l := ⟨h.app, h.ok, h.new, (h.x.push _ _).setB (nb_le h.x)⟩
end Go.AV
namespace Go.AV.Patch
open Go.AV.Ord Go.AV.Oct Go.AV.Val
def opB (o : Opn) : List UInt8 := numB o.kind.toNat ++ numB o.path.length ++ o.path.flatMap textB ++ textB (encV o.val)
def encJ (l : List Opn) (j : Nat) : List UInt8 := numB l.length ++ (l.take j).flatMap opB
def okP (o : Opn) : Bool := rightO o && (encO o.val).2 == 0
def encP (l : List Opn) : List UInt8 × Int := if 50 < l.length then ([], 4) else if l.all okP then (encJ l l.length, 0) else ([], 1)
theorem encJ_0 (l : List Opn) : encJ l 0 = numB l.length := by simp [encJ]
theorem encJ_step {l : List Opn} {j : Nat} {o : Opn} (h : l[j]? = some o) : encJ l (j + 1) = encJ l j ++ opB o := by simp [encJ, take_snoc h]
theorem okP_parts {o : Opn} (h : okP o = true) : rightO o = true ∧ rightV 32 o.val = true ∧ (encV o.val).length ≤ 4096 ∧ encO o.val = (encV o.val, 0) := by
  simp only [okP, Bool.and_eq_true, beq_iff_eq] at h
  have h1 := h.1
  rw [rightO_eq] at h1
  simp only [Bool.and_eq_true, decide_eq_true_eq] at h1
  have hr := h1.1.1.2
  have h2 := h.2
  unfold encO at h2 ⊢
  simp only [hr] at h2 ⊢
  by_cases hl : 4096 < (encV o.val).length
  · simp [hl] at h2
  · exact ⟨h.1, trivial, by omega, by simp [hl]⟩
theorem texts_len : ∀ (ps : List (List UInt8)), (∀ p ∈ ps, p.length ≤ 40) → (ps.flatMap textB).length ≤ ps.length * 49
  | [], _ => by simp
  | p :: ps, h => by
    have h1 := texts_len ps fun x hx => h x (by simp [hx])
    have h2 := h p (by simp)
    have h3 := numB_small (x := p.length) (by omega)
    simp only [List.flatMap_cons, List.length_append, textB, List.length_cons, Nat.add_mul, Nat.one_mul]
    omega
theorem opB_len {o : Opn} (h : fewP o = true) (hk : okP o = true) : (opB o).length ≤ 6000 := by
  obtain ⟨h1, _, h3⟩ := fewP_parts h
  obtain ⟨hr, _, h4, _⟩ := okP_parts hk
  rw [rightO_eq] at hr
  simp only [Bool.and_eq_true, decide_eq_true_eq] at hr
  have n1 := numB_small (x := o.kind.toNat) (by omega)
  have n2 := numB_small (x := o.path.length) (by omega)
  have n3 := numB_small (x := (encV o.val).length) (by omega)
  have n4 := texts_len o.path h3
  have n5 : o.path.length * 49 ≤ 20 * 49 := Nat.mul_le_mul_right _ h1
  simp only [opB, textB, List.length_append]
  omega
theorem encJ_len : ∀ (j : Nat) (l : List Opn), l.length ≤ 100 → (∀ o ∈ l, fewP o = true) → ((l.take j).all okP) = true → (encJ l j).length ≤ 9 + j * 6000
  | 0, l, h, _, _ => by
    rw [encJ_0]
    have h1 := numB_small (x := l.length) (by omega)
    exact Nat.le_trans h1 (Nat.le_add_right 9 _)
  | j + 1, l, h, hf, ha => by
    by_cases hj : j < l.length
    · obtain ⟨o, ho⟩ : ∃ o, l[j]? = some o := ⟨_, List.getElem?_eq_getElem hj⟩
      rw [take_snoc ho, List.all_append, Bool.and_eq_true] at ha
      have h1 := encJ_len j l h hf ha.1
      have h2 := opB_len (hf o (List.mem_of_getElem? ho)) (by simpa using ha.2)
      rw [encJ_step ho, List.length_append]
      omega
    · have e : l.take (j + 1) = l.take j := by rw [List.take_of_length_le (by omega), List.take_of_length_le (by omega)]
      have h1 := encJ_len j l h hf (by rw [e] at ha; exact ha)
      have e2 : encJ l (j + 1) = encJ l j := by simp [encJ, e]
      have e3 : (encJ l (j + 1)).length = (encJ l j).length := congrArg List.length e2
      omega
theorem encP_bad {l : List Opn} {j : Nat} {o : Opn} (h50 : ¬ 50 < l.length) (hx : l[j]? = some o) (h : okP o = false) : encP l = ([], 1) := by
  rw [encP, if_neg h50, if_neg (by rw [all_bad hx h]; decide)]
theorem encP_ok {l : List Opn} (h50 : ¬ 50 < l.length) (h : l.all okP = true) : encP l = (encJ l l.length, 0) := by
  rw [encP, if_neg h50, if_pos h]
end Go.AV.Patch
namespace Go.Proofs.Ytjamnhofbkgblaa
open Go.AV Go.AV.Ord Go.AV.Oct Go.AV.Val Go.AV.Patch
set_option linter.unusedVariables false
set_option linter.unusedSimpArgs false
theorem onum_len (Hs : HS) (t : Option Nat) (v : AV) (bs : List UInt8) (xs : List DV) (hv : App v t 1 (bs.map BY)) (hok : Hs.ok t bs.length) (hn : xs.length ≤ 9223372036854775807) (hb : bs.length + 9 ≤ 140737488355328) : ACalls Try.prog 35 [v, .d (I xs.length)] Hs (Ret (ownB Hs t (bs ++ numB xs.length)) (upB Hs t (bs ++ numB xs.length))) := onum_ok Hs t v bs xs.length hv hok (by omega) hb
set_option maxHeartbeats 1000000 in
set_option maxRecDepth 100000 in
theorem penc_ok (Hs : HS) (w : AV) (l : List Opn) (hw : LL w 8 (l.map oD)) (hf : ∀ o ∈ l, fewP o = true) (hwf : ∀ o ∈ l, WfV o.val) (hl : l.length ≤ 100) : ACalls Try.prog 23 [w] Hs (Ret (.tup [.d (S (encP l).1), .d (I (encP l).2)]) Hs) := by
 refine ACalls.tidyT (xs := [S (encP l).1, I (encP l).2]) ?_
 refine acalls_of_aw Try.func23 rfl ?_
 refine aw_start (T' := (w :: .un :: .un :: .un :: .un :: .un :: .un :: .un :: .un :: .un :: .un :: .un :: .un :: .un :: .un :: .un :: .un :: .un :: .un :: .un :: .un :: .un :: .un :: .un :: .un :: .un :: .un :: .un :: .un :: .un :: .un :: .un :: .un :: .un :: .un :: .un :: .un :: .un :: .un :: .un :: .un :: .un :: .un :: .un :: .un :: .un :: .un :: .un :: .un :: .un :: .un :: .un :: .un :: .un :: .un :: .un :: .un :: .un :: .un :: .un :: .un :: [])) rfl ?_
 refine aw_seq ?_
 refine aw_region ?_
 refine zst (op_assign_const (by rfl)) rfl (by dsimp only [zS, zN, zH, zT]) ?_
 refine zst (op_assign_const (by rfl)) rfl (by dsimp only [zS, zN, zH, zT]) ?_
 refine al_end rfl ?_
 refine then_normal ?_
 refine aw_seq ?_
 refine aw_seq ?_
 refine aw_region ?_
 refine zst (op_move_tmp (by rfl)) rfl (by dsimp only [zS, zN, zH, zT]) ?_
 refine zst (op_lenL Try.underlying37 hw) rfl (by dsimp only [zS, zN, zH, zT]) ?_
 refine zst (op_gtI (by rfl) (by rfl)) rfl (by dsimp only [zS, zN, zH, zT]) ?_
 refine al_end rfl ?_
 refine then_normal ?_
 refine aw_cond rfl (fun hc1 => ?_) (fun hc1 => ?_)
 ·
  (try simp only [y1, y2, y3, y4, y5, y6, y7, y8, y9, y0, List.length_map] at hc1)
  (try simp only [List.length_map] at hc1)
  have h50 : 50 < l.length := by omega
  refine aw_seq ?_
  refine aw_region ?_
  refine zst (op_assign_const (by rfl)) rfl (by dsimp only [zS, zN, zH, zT]) ?_
  refine zst (op_assign_const (by rfl)) rfl (by dsimp only [zS, zN, zH, zT]) ?_
  refine al_end rfl ?_
  refine then_normal ?_
  refine aw_ret ?_
  refine then_ret ?_
  refine retPost2 rfl rfl rfl ?_
  exact ⟨by rw [encP, if_pos h50]; rfl, Ext.refl _⟩
 ·
  (try simp only [y1, y2, y3, y4, y5, y6, y7, y8, y9, y0, List.length_map] at hc1)
  (try simp only [List.length_map] at hc1)
  have h50 : ¬ 50 < l.length := by omega
  refine aw_skip ?_
  refine then_normal ?_
  refine aw_seq ?_
  refine aw_region ?_
  refine zst (op_move_tmp (by rfl)) rfl (by dsimp only [zS, zN, zH, zT]) ?_
  refine zst (op_lenL Try.underlying37 hw) rfl (by dsimp only [zS, zN, zH, zT]) ?_
  refine zst (op_callF Try.func35 (by rfl) (by rfl) (.const (by rfl) (.tmp (by rfl) .nil)) ((by have h := onum_ok Hs none _ [] ((l.map oD).length : Int) (App.nil _) (HS.ok_none _ _) (by rw [List.length_map]; omega) (by simp); simpa using h))) rfl (by dsimp only [zS, zN, zH, zT]) ?_
  refine zst (op_assign_tmp (by rfl)) rfl (by dsimp only [zS, zN, zH, zT]) ?_
  refine al_end rfl ?_
  refine then_normal ?_
  refine aw_seq ?_
  refine aw_seq ?_
  refine aw_region ?_
  refine zst (op_move_tmp (by rfl)) rfl (by dsimp only [zS, zN, zH, zT]) ?_
  refine zst (op_lenL Try.underlying37 hw) rfl (by dsimp only [zS, zN, zH, zT]) ?_
  refine zst (op_move_const (by rfl)) rfl (by dsimp only [zS, zN, zH, zT]) ?_
  refine al_end rfl ?_
  refine then_normal ?_
  refine aw_block ?_
  apply aw_loopF (fun n T H => ∃ (j : Nat) (v : AV) (t : Option Nat), T = (w :: .un :: .un :: .un :: v :: .un :: .un :: .un :: .un :: .un :: .un :: .un :: .un :: .un :: .un :: .un :: .un :: w :: (.d (I (l.map oD).length)) :: (.d (I j)) :: .un :: .un :: .un :: .un :: .un :: .un :: .un :: .un :: .un :: .un :: .un :: .un :: .un :: .un :: .un :: .un :: .un :: .un :: .un :: .un :: .un :: .un :: .un :: .un :: .un :: .un :: .un :: .un :: .un :: .un :: .un :: .un :: .un :: .un :: .un :: .un :: .un :: .un :: .un :: .un :: .un :: []) ∧ j ≤ l.length ∧ n = l.length - j ∧ (l.take j).all okP = true ∧ BW Hs H v t (encJ l j)) (l.length) (true :: false :: false :: false :: true :: false :: false :: false :: false :: false :: false :: false :: false :: false :: false :: false :: false :: true :: true :: true :: false :: false :: false :: false :: false :: false :: false :: false :: false :: false :: false :: false :: false :: false :: false :: false :: false :: false :: false :: false :: false :: false :: false :: false :: false :: false :: false :: false :: false :: false :: false :: false :: false :: false :: false :: false :: false :: false :: false :: false :: false :: [])
  · (try dsimp only [maskT]); try exact rfl
  · rfl
  · exact ⟨0, _, _, rfl, by omega, rfl, rfl, by rw [encJ_0]; exact (BW.nil (Ext.refl Hs)).step _⟩
  rintro n T H ⟨j, v, t, rfl, hj, rfl, hall, hb⟩
  refine aw_seq ?_
  refine aw_region ?_
  refine zst (op_ltI (by rfl) (by rfl)) rfl (by dsimp only [zS, zN, zH, zT]) ?_
  refine al_end rfl ?_
  refine then_normal ?_
  refine aw_seq ?_
  refine aw_cond rfl (fun hc2 => ?_) (fun hc2 => ?_)
  ·
   (try simp only [y1, y2, y3, y4, y5, y6, y7, y8, y9, y0, List.length_map] at hc2)
   (try simp only [List.length_map] at hc2)
   have hlt : j < l.length := by omega
   obtain ⟨o, hx1⟩ : ∃ z0, l[j]? = some z0 := ⟨_, List.getElem?_eq_getElem hlt⟩
   have ho := List.mem_of_getElem? hx1
   have hjl := encJ_len j l hl hf hall
   obtain ⟨s, e, hO⟩ : ∃ s e, encO o.val = (s, e) := ⟨_, _, rfl⟩
   refine aw_skip ?_
   refine then_normal ?_
   refine aw_seq ?_
   refine aw_block ?_
   refine aw_seq ?_
   refine aw_region ?_
   refine zst (op_indexAddr (z := oD o) (cs := oC o) Try.underlying37 Sz36 hw (by rfl) (by omega) (by rw [List.getElem?_map, show ((j : Nat) : Int).toNat = j from rfl, hx1]; rfl) (by rfl)) rfl (by dsimp only [zS, zN, zH, zT]) ?_
   refine zst (op_load_elts (ds := oC o) Try.underlying36 (by rfl) Sz36 (by rfl) (Nat.le_of_ble_eq_true rfl) (by rfl)) rfl (by dsimp only [zS, zN, zH, zT]) ?_
   refine zst (op_alloc (Zr36) (by rfl)) rfl (by dsimp only [zS, zN, zH, zT]) ?_
   refine zst (op_storeB (vs := (oC o).map .d) (b' := ⟨36, (oC o).map .d, false⟩) (H' := _) Sz36 (by rfl) push_at (by intro h; cases h) (by rfl) (by rfl) (Nat.le_of_ble_eq_true rfl) (by intro w hw; obtain ⟨d, hd, rfl⟩ := List.mem_map.1 hw; exact oC_one o d hd) (by rfl) (by rfl) rfl) rfl (by dsimp only [zS, zN, zH, zT]) ?_
   refine al_end rfl ?_
   refine then_normal ?_
   refine aw_seq ?_
   refine aw_region ?_
   refine zst (by first | exact op_fieldAddr_ptr Try.underlying36 rfl Sz26 (by rfl) (by rfl) | exact op_fieldAddr_elt Try.underlying36 rfl Sz26 (by rfl) (by rfl) (by rfl)) rfl (by dsimp only [zS, zN, zH, zT]) ?_
   refine zst (op_load_ptrsD (vC o.val) Try.underlying26 (by rfl) Sz26 (by rfl) (setB_at push_at) (Nat.le_of_ble_eq_true rfl) (by rw [vC_eq]; rfl) (vC_one _)) rfl (by dsimp only [zS, zN, zH, zT]) ?_
   refine zst (op_callF Try.func19 (by rfl) (by rfl) (.tmp (by rfl) .nil) (venc_at hO (few_small 7 _ (fewP_parts (hf o ho)).2.1) (hwf o ho) (few_max (fewP_parts (hf o ho)).2.1 (hwf o ho)))) rfl (by dsimp only [zS, zN, zH, zT]) ?_
   refine zst (op_move_tmp (by rfl)) rfl (by dsimp only [zS, zN, zH, zT]) ?_
   refine zst (op_extract (by rfl) (by rfl)) rfl (by dsimp only [zS, zN, zH, zT]) ?_
   refine zst (op_extract (by rfl) (by rfl)) rfl (by dsimp only [zS, zN, zH, zT]) ?_
   refine zst (op_assign_tmp (by rfl)) rfl (by dsimp only [zS, zN, zH, zT]) ?_
   refine zst (op_assign_tmp (by rfl)) rfl (by dsimp only [zS, zN, zH, zT]) ?_
   refine al_end rfl ?_
   refine then_normal ?_
   refine aw_seq ?_
   refine aw_seq ?_
   refine aw_region ?_
   refine zst (op_load_ptrsD (oC o) Try.underlying36 (by rfl) Sz36 (by rfl) (setB_at push_at) (Nat.le_of_ble_eq_true rfl) (by rfl) (oC_one o)) rfl (by dsimp only [zS, zN, zH, zT]) ?_
   refine zst (op_callF Try.func20 (by rfl) (by rfl) (.tmp (by rfl) .nil) (oright_ok _ o (few_small 7 _ (fewP_parts (hf o ho)).2.1))) rfl (by dsimp only [zS, zN, zH, zT]) ?_
   refine zst (op_not (by rfl)) rfl (by dsimp only [zS, zN, zH, zT]) ?_
   refine zst (op_move_tmp (by rfl)) rfl (by dsimp only [zS, zN, zH, zT]) ?_
   refine al_split 32 rfl (fun hg3 => ?_) (fun hg3 => ?_)
   ·
    (try simp only [y1, y2, y3, y4, y5, y6, y7, y8, y9, y0, List.length_map] at hg3)
    have hbad : okP o = false := by (have h : rightO o = false := by simpa using hg3); simp [okP, h]
    apply al_normT
    · (try dsimp only [zS, zN, zH, zT]); try exact rfl
    refine zuw rfl rfl rfl rfl (by dsimp only [zS, zN, zH, zT]) ?_
    refine zuw rfl rfl rfl rfl (by dsimp only [zS, zN, zH, zT]) ?_
    refine zst (op_pick_tt (by rfl) (val_const (by rfl))) rfl (by dsimp only [zS, zN, zH, zT]) ?_
    refine al_end rfl ?_
    refine then_normal ?_
    refine aw_cond rfl (fun _ => ?_) (fun h => by cases h)
    refine aw_seq ?_
    refine aw_region ?_
    refine zst (op_assign_const (by rfl)) rfl (by dsimp only [zS, zN, zH, zT]) ?_
    refine zst (op_assign_const (by rfl)) rfl (by dsimp only [zS, zN, zH, zT]) ?_
    refine al_end rfl ?_
    refine then_normal ?_
    refine aw_ret ?_
    refine then_ret (inBlock_ret (then_ret (again_ret (inBlock_ret (then_ret ?_)))))
    refine retPost2 rfl rfl rfl ?_
    exact ⟨by rw [encP_bad h50 hx1 hbad]; rfl, hb.push.x⟩
   ·
    (try simp only [y1, y2, y3, y4, y5, y6, y7, y8, y9, y0, List.length_map] at hg3)
    have hr : rightO o = true := by simpa using hg3
    apply al_normT
    · (try dsimp only [zS, zN, zH, zT]); try exact rfl
    refine zsw rfl rfl rfl (op_move_tmp (by rfl)) (by dsimp only [zS, zN, zH, zT]) ?_
    refine zsw rfl rfl rfl (op_neI (by rfl) (by rfl)) (by dsimp only [zS, zN, zH, zT]) ?_
    refine zst (op_pick_ff (by rfl) (val_tmp (by rfl))) rfl (by dsimp only [zS, zN, zH, zT]) ?_
    refine al_end rfl ?_
    refine then_normal ?_
    refine aw_cond rfl (fun hc5 => ?_) (fun hc5 => ?_)
    ·
     (try simp only [y1, y2, y3, y4, y5, y6, y7, y8, y9, y0, List.length_map] at hc5)
     first | (have hbad : okP o = false := (by have h : ¬ e = 0 := hc5; simp [okP, hO, h])) | skip
     refine aw_seq ?_
     refine aw_region ?_
     refine zst (op_assign_const (by rfl)) rfl (by dsimp only [zS, zN, zH, zT]) ?_
     refine zst (op_assign_const (by rfl)) rfl (by dsimp only [zS, zN, zH, zT]) ?_
     refine al_end rfl ?_
     refine then_normal ?_
     refine aw_ret ?_
     refine then_ret (inBlock_ret (then_ret (again_ret (inBlock_ret (then_ret ?_)))))
     refine retPost2 rfl rfl rfl ?_
     exact ⟨by rw [encP_bad h50 hx1 hbad]; rfl, hb.push.x⟩
    ·
     (try simp only [y1, y2, y3, y4, y5, y6, y7, y8, y9, y0, List.length_map] at hc5)
     have he0 : e = 0 := by simpa using hc5
     have hok : okP o = true := by simp [okP, hr, hO, he0]
     obtain ⟨_, _, h40, hO2⟩ := okP_parts hok
     rw [hO] at hO2
     obtain ⟨rfl, rfl⟩ := Prod.mk.inj hO2
     have hopl := opB_len (hf o ho) hok
     have hr2 := hr
     rw [rightO_eq] at hr2
     simp only [Bool.and_eq_true, decide_eq_true_eq] at hr2
     obtain ⟨⟨⟨⟨⟨⟨k1, k3⟩, p0⟩, p16⟩, _⟩, _⟩, _⟩ := hr2
     have nk := numB_small (x := o.kind.toNat) (by omega)
     have np := numB_small (x := o.path.length) (by omega)
     have hp40 := (fewP_parts (hf o ho)).2.2
     have hok1 : ∀ e cs b, ((H.push e cs).setB H.nb b).ok t (encJ l j).length := fun _ _ _ => hb.ok
     rw [← List.length_map (f := S)] at np
     refine aw_skip ?_
     refine then_normal ?_
     refine aw_seq ?_
     refine aw_drawX (fun K => K.blks[H.nb]? = some ⟨36, (oC o).map .d, false⟩) [0, 0, 0, 2, 0, 0, 0, 2, 0] mixed (by kernel_rfl) (setB_at push_at) (.inr (by kernel_rfl)) ?_
     apply drun0X
     · intro H hPhi; exact op_move_tmp (by rfl)
     · rfl
     apply drun_normT
     · (try dsimp only [zS, zN, zH, zT]); try exact rfl
     apply drun0X
     · intro H hPhi; first | exact op_fieldAddr_ptr Try.underlying36 rfl Sz33 (by rfl) (by rfl) | exact op_fieldAddr_elt Try.underlying36 rfl Sz33 (by rfl) (by rfl) (by rfl)
     · rfl
     apply drun_normT
     · (try dsimp only [zS, zN, zH, zT]); try exact rfl
     apply drun0X
     · intro H hPhi; first | exact op_load_elt Try.underlying33 (by rfl) (by rfl) (by rfl) | exact op_load_ptr Try.underlying33 (by rfl) (by rfl) (by first | exact hPhi | exact setB_at push_at | (rw [HS.up_blks, HS.up_blks]; exact setB_at push_at)) (by rfl)
     · rfl
     apply drun_normT
     · (try dsimp only [zS, zN, zH, zT]); try exact rfl
     apply drun2X
     · exact op_callF Try.func35 (by rfl) (by rfl) (.tmp (by rfl) (.tmp (by rfl) .nil)) (onum_ok _ t _ (encJ l j) o.kind hb.app (hok1 _ _ _) (by omega) (by omega))
     · rfl
     · refine .inr ?_; first | (rw [HS.up_blks]; exact setB_at push_at) | (rw [HS.up_blks, HS.up_blks]; exact setB_at push_at)
     apply drun_normT
     · (try dsimp only [zS, zN, zH, zT]); try exact rfl
     apply drun0X
     · intro H hPhi; first | exact op_fieldAddr_ptr Try.underlying36 rfl Sz34 (by rfl) (by rfl) | exact op_fieldAddr_elt Try.underlying36 rfl Sz34 (by rfl) (by rfl) (by rfl)
     · rfl
     apply drun_normT
     · (try dsimp only [zS, zN, zH, zT]); try exact rfl
     apply drun0X
     · intro H hPhi; first | exact op_load_elt Try.underlying34 (by rfl) (by rfl) (by rfl) | exact op_load_ptr Try.underlying34 (by rfl) (by rfl) (by first | exact hPhi | exact setB_at push_at | (rw [HS.up_blks, HS.up_blks]; exact setB_at push_at)) (by rfl)
     · rfl
     apply drun_normT
     · (try dsimp only [zS, zN, zH, zT]); try exact rfl
     apply drun0X
     · intro H hPhi; exact op_lenL Try.underlying34 (by first | exact LL.d _ _ | exact LL.own _ _ _ | exact LL.nil _ | assumption)
     · rfl
     apply drun_normT
     · (try dsimp only [zS, zN, zH, zT]); try exact rfl
     apply drun2X
     · exact op_callF Try.func35 (by rfl) (by rfl) (.tmp (by rfl) (.tmp (by rfl) .nil)) (onum_len _ _ _ (encJ l j ++ numB o.kind.toNat) (o.path.map S) (App.own _ _ _) (okB _ _ _ (hok1 _ _ _)) (by rw [List.length_map]; omega) (by rw [List.length_append]; omega))
     · rfl
     · refine .inr ?_; first | (rw [HS.up_blks]; exact setB_at push_at) | (rw [HS.up_blks, HS.up_blks]; exact setB_at push_at)
     apply drun_normT
     · (try dsimp only [zS, zN, zH, zT]); try exact rfl
     apply drun0X
     · intro H hPhi; exact op_assign_tmp (by rfl)
     · rfl
     apply drun_normT
     · (try dsimp only [zS, zN, zH, zT]); try exact rfl
     refine drun_end rfl ?_
     refine then_normal ?_
     refine aw_seq ?_
     refine aw_seq ?_
     refine aw_region ?_
     refine zst (by first | exact op_fieldAddr_ptr Try.underlying36 rfl Sz34 (by rfl) (by rfl) | exact op_fieldAddr_elt Try.underlying36 rfl Sz34 (by rfl) (by rfl) (by rfl)) rfl (by dsimp only [zS, zN, zH, zT]) ?_
     refine zst (by first | exact op_load_elt Try.underlying34 (by rfl) (by rfl) (by rfl) | exact op_load_ptr Try.underlying34 (by rfl) (by rfl) (by first | exact hPhi | exact setB_at push_at | (rw [HS.up_blks, HS.up_blks]; exact setB_at push_at)) (by rfl)) rfl (by dsimp only [zS, zN, zH, zT]) ?_
     refine zst (op_lenL Try.underlying34 (by first | exact LL.d _ _ | exact LL.own _ _ _ | exact LL.nil _ | assumption)) rfl (by dsimp only [zS, zN, zH, zT]) ?_
     refine zst (op_move_const (by rfl)) rfl (by dsimp only [zS, zN, zH, zT]) ?_
     refine al_end rfl ?_
     refine then_normal ?_
     refine aw_block ?_
     apply aw_loopF (fun n T H => ∃ (i : Nat) (v2 : AV) (t2 : Option Nat), T = (w :: .un :: .un :: .un :: v2 :: .un :: .un :: (.d (S (encV o.val))) :: .un :: .un :: .un :: .un :: .un :: .un :: .un :: .un :: .un :: w :: (.d (I (l.map oD).length)) :: (.d (I j)) :: .un :: .un :: .un :: .un :: .un :: .un :: .un :: .un :: .un :: .un :: .un :: .un :: .un :: .un :: .un :: .un :: .un :: .un :: .un :: .un :: .un :: .un :: .un :: .un :: .un :: (.d (.lst 1 (o.path.map S))) :: (.d (I (o.path.map S).length)) :: (.d (I i)) :: .un :: .un :: .un :: .un :: .un :: .un :: .un :: .un :: .un :: .un :: .un :: .un :: .un :: []) ∧ i ≤ o.path.length ∧ n = o.path.length - i ∧ BW Hs H v2 t2 (encJ l j ++ numB o.kind.toNat ++ numB (o.path.map S).length ++ (o.path.take i).flatMap textB)) (o.path.length) (true :: false :: false :: false :: true :: false :: false :: true :: false :: false :: false :: false :: false :: false :: false :: false :: false :: true :: true :: true :: false :: false :: false :: false :: false :: false :: false :: false :: false :: false :: false :: false :: false :: false :: false :: false :: false :: false :: false :: false :: false :: false :: false :: false :: false :: true :: true :: true :: false :: false :: false :: false :: false :: false :: false :: false :: false :: false :: false :: false :: false :: [])
     · (try dsimp only [maskT]); try exact rfl
     · rfl
     · exact ⟨0, _, _, rfl, by omega, rfl, by rw [List.take_zero, List.flatMap_nil, List.append_nil]; exact (hb.push.step _).step _⟩
     rintro n T H ⟨i, v2, t2, rfl, hi, rfl, hb2⟩
     refine aw_seq ?_
     refine aw_region ?_
     refine zst (op_ltI (by rfl) (by rfl)) rfl (by dsimp only [zS, zN, zH, zT]) ?_
     refine al_end rfl ?_
     refine then_normal ?_
     refine aw_seq ?_
     refine aw_cond rfl (fun hc6 => ?_) (fun hc6 => ?_)
     ·
      (try simp only [y1, y2, y3, y4, y5, y6, y7, y8, y9, y0, List.length_map] at hc6)
      (try simp only [List.length_map] at hc6)
      have hlt2 : i < o.path.length := by omega
      obtain ⟨y, hy1⟩ : ∃ z0, o.path[i]? = some z0 := ⟨_, List.getElem?_eq_getElem hlt2⟩
      have hyl := hp40 y (List.mem_of_getElem? hy1)
      have htl := texts_len (o.path.take i) (fun p hp => hp40 p (List.mem_of_mem_take hp))
      have hti : (o.path.take i).length = i := by rw [List.length_take]; omega
      refine aw_skip ?_
      refine then_normal ?_
      refine aw_seq ?_
      refine aw_block ?_
      refine aw_seq ?_
      refine aw_region ?_
      refine zst (op_indexAddr Try.underlying34 Sz9 (LL.d _ _) (by rfl) (by omega) (show (o.path.map S)[((i : Nat) : Int).toNat]? = some (S y) by simp [hy1]) (by rfl)) rfl (by dsimp only [zS, zN, zH, zT]) ?_
      refine zst (by first | exact op_load_elt Try.underlying9 (by rfl) (by rfl) (by rfl) | exact op_load_ptr Try.underlying9 (by rfl) (by rfl) (by first | exact hPhi | exact setB_at push_at | (rw [HS.up_blks, HS.up_blks]; exact setB_at push_at)) (by rfl)) rfl (by dsimp only [zS, zN, zH, zT]) ?_
      refine zst (op_assign_tmp (by rfl)) rfl (by dsimp only [zS, zN, zH, zT]) ?_
      refine al_end rfl ?_
      refine then_normal ?_
      refine aw_region ?_
      refine zst (op_move_tmp (by rfl)) rfl (by dsimp only [zS, zN, zH, zT]) ?_
      refine zst (op_move_tmp (by rfl)) rfl (by dsimp only [zS, zN, zH, zT]) ?_
      refine zst (op_callF Try.func36 (by rfl) (by rfl) (.tmp (by rfl) (.tmp (by rfl) .nil)) (otext_ok _ t2 _ (encJ l j ++ numB o.kind.toNat ++ numB (o.path.map S).length ++ (o.path.take i).flatMap textB) y hb2.app hb2.ok (by simp only [List.length_append]; omega))) rfl (by dsimp only [zS, zN, zH, zT]) ?_
      refine zst (op_assign_tmp (by rfl)) rfl (by dsimp only [zS, zN, zH, zT]) ?_
      refine al_end rfl ?_
      refine inBlock_normal (then_normal ?_)
      refine aw_region ?_
      refine zst (by first | exact op_add (by rfl) (by rfl) (wrap_i64 ⟨by omega, by omega⟩) | exact op_add (by rfl) (by rfl) (by rfl)) rfl (by dsimp only [zS, zN, zH, zT]) ?_
      refine zst (op_move_tmp (by rfl)) rfl (by dsimp only [zS, zN, zH, zT]) ?_
      refine al_end rfl ?_
      apply again_to (o.path.length - (i + 1)) (true :: false :: false :: false :: true :: false :: false :: true :: false :: false :: false :: false :: false :: false :: false :: false :: false :: true :: true :: true :: false :: false :: false :: false :: false :: false :: false :: false :: false :: false :: false :: false :: false :: false :: false :: false :: false :: false :: false :: false :: false :: false :: false :: false :: false :: true :: true :: true :: false :: false :: false :: false :: false :: false :: false :: false :: false :: false :: false :: false :: false :: [])
      · (try dsimp only [maskT]); try exact rfl
      · rfl
      · omega
      exact ⟨i + 1, _, _, rfl, by omega, rfl, by rw [take_snoc hy1, List.flatMap_append, List.flatMap_cons, List.flatMap_nil, List.append_nil, ← List.append_assoc]; exact hb2.step _⟩
     ·
      (try simp only [y1, y2, y3, y4, y5, y6, y7, y8, y9, y0, List.length_map] at hc6)
      (try simp only [List.length_map] at hc6)
      have hie : i = o.path.length := by omega
      subst hie
      rw [List.take_length] at hb2
      have htl := texts_len o.path hp40
      refine aw_exit ?_
      refine then_exit (again_exit (inBlock_here (then_normal ?_)))
      refine aw_region ?_
      refine zst (op_move_tmp (by rfl)) rfl (by dsimp only [zS, zN, zH, zT]) ?_
      refine zst (op_move_tmp (by rfl)) rfl (by dsimp only [zS, zN, zH, zT]) ?_
      refine zst (op_callF Try.func36 (by rfl) (by rfl) (.tmp (by rfl) (.tmp (by rfl) .nil)) (otext_ok _ t2 _ (encJ l j ++ numB o.kind.toNat ++ numB (o.path.map S).length ++ o.path.flatMap textB) (encV o.val) hb2.app hb2.ok (by simp only [List.length_append]; omega))) rfl (by dsimp only [zS, zN, zH, zT]) ?_
      refine zst (op_assign_tmp (by rfl)) rfl (by dsimp only [zS, zN, zH, zT]) ?_
      refine al_end rfl ?_
      refine inBlock_normal (then_normal ?_)
      refine aw_region ?_
      refine zst (by first | exact op_add (by rfl) (by rfl) (wrap_i64 ⟨by omega, by omega⟩) | exact op_add (by rfl) (by rfl) (by rfl)) rfl (by dsimp only [zS, zN, zH, zT]) ?_
      refine zst (op_move_tmp (by rfl)) rfl (by dsimp only [zS, zN, zH, zT]) ?_
      refine al_end rfl ?_
      apply again_to (l.length - (j + 1)) (true :: false :: false :: false :: true :: false :: false :: false :: false :: false :: false :: false :: false :: false :: false :: false :: false :: true :: true :: true :: false :: false :: false :: false :: false :: false :: false :: false :: false :: false :: false :: false :: false :: false :: false :: false :: false :: false :: false :: false :: false :: false :: false :: false :: false :: false :: false :: false :: false :: false :: false :: false :: false :: false :: false :: false :: false :: false :: false :: false :: false :: [])
      · (try dsimp only [maskT]); try exact rfl
      · rfl
      · omega
      exact ⟨j + 1, _, _, rfl, by omega, rfl, by rw [take_snoc hx1, List.all_append, hall]; simp [hok], by rw [encJ_step hx1, show encJ l j ++ opB o = (encJ l j ++ numB o.kind.toNat ++ numB (o.path.map S).length ++ o.path.flatMap textB) ++ textB (encV o.val) by simp [opB]]; exact hb2.step _⟩
  ·
   (try simp only [y1, y2, y3, y4, y5, y6, y7, y8, y9, y0, List.length_map] at hc2)
   (try simp only [List.length_map] at hc2)
   have hje : j = l.length := by omega
   subst hje
   rw [List.take_length] at hall
   refine aw_exit ?_
   refine then_exit (again_exit (inBlock_here (then_normal ?_)))
   refine aw_seq ?_
   refine aw_region ?_
   refine zst (op_move_tmp (by rfl)) rfl (by dsimp only [zS, zN, zH, zT]) ?_
   refine zst (op_string Try.underlying70 Try.underlying9 Try.underlying5 hb.app.ll (by rfl)) rfl (by dsimp only [zS, zN, zH, zT]) ?_
   refine zst (op_assign_tmp (by rfl)) rfl (by dsimp only [zS, zN, zH, zT]) ?_
   refine zst (op_assign_const (by rfl)) rfl (by dsimp only [zS, zN, zH, zT]) ?_
   refine al_end rfl ?_
   refine then_normal ?_
   refine aw_ret ?_
   refine retPost2 rfl rfl rfl ?_
   exact ⟨by rw [encP_ok h50 hall]; rfl, hb.x⟩
theorem penc_at {Hs : HS} {w : AV} {l : List Opn} {s : List UInt8} {e : Int} (hE : encP l = (s, e)) (hw : LL w 8 (l.map oD)) (hf : ∀ o ∈ l, fewP o = true) (hwf : ∀ o ∈ l, WfV o.val) (hl : l.length ≤ 100) : ACalls Try.prog 23 [w] Hs (Ret (.tup [.d (S s), .d (I e)]) Hs) := by
  have h := penc_ok Hs w l hw hf hwf hl
  rwa [hE] at h
end Go.Proofs.Ytjamnhofbkgblaa
namespace Go.AV.Patch
open Go.AV.Ord Go.AV.Oct Go.AV.Val
theorem and24 (n : Int) : ∃ m : Nat, m ≤ 16777215 ∧ IntKind.i64.wrap ((BitVec.ofInt IntKind.i64.bits n &&& BitVec.ofInt IntKind.i64.bits 16777215).toNat : Int) = (m : Int) := by
  refine ⟨(BitVec.ofInt IntKind.i64.bits n).toNat % 16777216, by omega, ?_⟩
  have e : (BitVec.ofInt IntKind.i64.bits 16777215).toNat = 2 ^ 24 - 1 := by decide
  rw [BitVec.toNat_and, e, Nat.and_two_pow_sub_one_eq_mod, wrap_i64 ⟨by omega, by omega⟩]
def addN (s : Nat) : Opn := ⟨3, [[110]], ofInt s⟩
def cntM (k : Int) : V := M [.mk [110] (ofInt k)]
theorem addN_right (s : Nat) : rightO (addN s) = true := right_add [110] s
theorem right_cnt (k : Int) : rightV 32 (cntM k) = true := by
  unfold cntM
  rw [map_right]
  simp [rises, F.val, show rightV 31 (ofInt k) = true from right_int 30 k]
theorem at_cnt (s : Nat) {k : Int} (hk : 0 ≤ k) (hb : k + s ≤ 9223372036854775807) : atV (addN s) (cntM k) (addN s).path = (cntM (k + s), 0) := by
  show atV (addN s) (M [.mk [110] (ofInt k)]) [[110]] = _
  rw [at_step (addN s) (fs := [.mk [110] (ofInt k)]) rfl [110] []]
  have hg : getF [F.mk [110] (ofInt k)] [110] = some (ofInt k) := by rw [getF_cons, if_pos (show (F.mk [110] (ofInt k)).name = [110] from rfl)]; rfl
  have ha : addI k s = (k + s, true) := by
    unfold addI
    rw [wrap_i64 (by omega)]
    by_cases h : (s : Int) = 0
    · simp [h]
    · simp; omega
  have hp : putF [F.mk [110] (ofInt k)] (.mk [110] (ofInt (k + s))) = [.mk [110] (ofInt (k + s))] := by
    rw [putF, if_neg (by show ¬ Go.Op.bytesLess [110] [110] = true; decide), if_pos (by show ([110] == [110]) = true; decide)]
  have hst : stepO (addN s) [] (some (ofInt k)) = (0, some (ofInt (k + s))) := by
    show (if (3 : Int) = 1 then (0, some (ofInt s)) else if (3 : Int) = 2 then (0, none) else if (2 : Int) ≠ 2 then (1, none) else if (addI k s).2 = false then (1, none) else (0, some (ofInt (addI k s).1))) = _
    rw [if_neg (by decide), if_neg (by decide), if_neg (by decide), ha]
    rfl
  rw [hg, hst]
  show (M (putF [F.mk [110] (ofInt k)] (.mk [110] (ofInt (k + s)))), (0 : Int)) = _
  rw [hp]; rfl
theorem all_cnt (s : Nat) (hs : s ≤ 16777215) : ∀ (j : Nat) (k : Nat), k + j ≤ 63 → allV (cntM (k * s : Nat)) (List.replicate j (addN s)) = (cntM ((k + j) * s : Nat), 0)
  | 0, k, _ => by
    rw [List.replicate_zero, allV, right_cnt]; rfl
  | j + 1, k, h => by
    have h1 : k * s ≤ 63 * 16777215 := Nat.mul_le_mul (by omega) hs
    rw [List.replicate_succ, allV_cons, at_cnt s (Int.natCast_nonneg _) (by omega)]
    have ih := all_cnt s hs j (k + 1) (by omega)
    have e1 : ((k * s : Nat) : Int) + s = (((k + 1) * s : Nat) : Int) := by rw [Nat.add_mul]; omega
    rw [if_neg (by simp)]
    show allV (cntM (((k * s : Nat) : Int) + s)) _ = _
    rw [e1, ih, show k + 1 + j = k + (j + 1) by omega]
theorem many_apply {n s : Nat} (hn : n ≤ 63) (hs : s ≤ 16777215) : applyV (ofMapV [.mk [110] (ofInt 0)]) (List.replicate n (addN s)) = if 50 < n then (V0, 4) else (cntM (n * s : Nat), 0) := by
  have e : ofMapV [.mk [110] (ofInt 0)] = cntM ((0 * s : Nat) : Int) := by rw [Nat.zero_mul]; rfl
  rw [e]
  unfold applyV
  rw [List.length_replicate]
  split
  · rfl
  · rw [if_pos (by rw [List.all_replicate]; simp [addN_right]), all_cnt s hs n 0 (by omega), Nat.zero_add]
theorem addN_few (s : Nat) : fewP (addN s) = true := by
  have h : fewV 7 (ofInt (s : Int)) = true := rfl
  simp [fewP, addN, h]
theorem addN_ok {s : Nat} (hs : s ≤ 16777215) : okP (addN s) = true := by
  have hw : WfV (ofInt (s : Int)) := wf_int (by unfold i64; omega)
  have h := few_len 1 (ofInt s) rfl hw
  have h2 : fewB 1 = 700 := rfl
  have hr : rightV 32 (ofInt (s : Int)) = true := right_int 31 s
  unfold okP
  rw [addN_right]
  have : (encO (addN s).val).2 = 0 := by
    show (encO (ofInt (s : Int))).2 = 0
    unfold encO
    rw [if_pos hr, if_neg (by omega)]
  rw [this]; rfl
theorem many_enc {n s : Nat} (hs : s ≤ 16777215) : encP (List.replicate n (addN s)) = if 50 < n then ([], 4) else (encJ (List.replicate n (addN s)) n, 0) := by
  unfold encP
  rw [List.length_replicate]
  split
  · rfl
  · rw [if_pos (by rw [List.all_replicate]; simp [addN_ok hs])]
theorem get_cnt (k : Int) : getV (cntM k) [110] = (ofInt k, true) := by
  unfold cntM
  rw [getV_M, getF_cons, if_pos (show (F.mk [110] (ofInt k)).name = [110] from rfl)]; rfl
end Go.AV.Patch
namespace Go.Proofs.Ytjamnhofbkgblaa
open Go.AV Go.AV.Ord Go.AV.Oct Go.AV.Val Go.AV.Patch
set_option linter.unusedVariables false
set_option linter.unusedSimpArgs false
set_option maxRecDepth 100000 in
theorem patchMany_walk (Hs : HS) (a b : Int) : ACalls Try.prog 7 [.d (I a), .d (I b)] Hs (fun av _ => av = .d (TF true)) := by
 obtain ⟨n, hn, hnd⟩ := and63 a
 obtain ⟨s, hs, hsd⟩ := and24 b
 have hss : n * s ≤ 63 * 16777215 := Nat.mul_le_mul hn hs
 refine acalls_of_aw Try.func7 rfl ?_
 refine aw_start (T' := ((.d (I a)) :: (.d (I b)) :: .un :: .un :: .un :: .un :: .un :: .un :: .un :: .un :: .un :: .un :: .un :: .un :: .un :: .un :: .un :: .un :: .un :: .un :: .un :: .un :: .un :: .un :: .un :: .un :: .un :: .un :: .un :: .un :: .un :: .un :: .un :: .un :: .un :: .un :: .un :: .un :: .un :: .un :: .un :: .un :: .un :: .un :: .un :: .un :: .un :: .un :: .un :: .un :: .un :: .un :: .un :: .un :: .un :: .un :: .un :: .un :: .un :: .un :: .un :: .un :: .un :: .un :: .un :: .un :: .un :: .un :: .un :: .un :: .un :: .un :: .un :: .un :: .un :: .un :: .un :: .un :: .un :: .un :: [])) rfl ?_
 refine aw_seq ?_
 refine aw_region ?_
 refine zst (op_assign_const (by rfl)) rfl (by dsimp only [zS, zN, zH, zT]) ?_
 refine al_end rfl ?_
 refine then_normal ?_
 refine aw_seq ?_
 refine aw_seq ?_
 refine aw_region ?_
 refine zst (op_callF Try.func9 (by rfl) (by rfl) .nil (phead_ok _)) rfl (by dsimp only [zS, zN, zH, zT]) ?_
 refine zst (op_not (by rfl)) rfl (by dsimp only [zS, zN, zH, zT]) ?_
 refine al_end rfl ?_
 refine then_normal ?_
 refine aw_cond rfl (fun hc1 => ?_) (fun hc1 => ?_)
 ·
  (try simp only [y1, y2, y3, y4, y5, y6, y7, y8, y9, y0, List.length_map] at hc1)
  exact absurd hc1 (by decide)
 ·
  (try simp only [y1, y2, y3, y4, y5, y6, y7, y8, y9, y0, List.length_map] at hc1)
  refine aw_skip ?_
  refine then_normal ?_
  refine aw_seq ?_
  refine aw_region ?_
  refine zst (op_move_tmp (by rfl)) rfl (by dsimp only [zS, zN, zH, zT]) ?_
  refine zst (op_and (by rfl) (by rfl) hnd) rfl (by dsimp only [zS, zN, zH, zT]) ?_
  refine zst (op_assign_tmp (by rfl)) rfl (by dsimp only [zS, zN, zH, zT]) ?_
  refine al_end rfl ?_
  refine then_normal ?_
  refine aw_seq ?_
  refine aw_region ?_
  refine zst (op_move_tmp (by rfl)) rfl (by dsimp only [zS, zN, zH, zT]) ?_
  refine zst (op_and (by rfl) (by rfl) hsd) rfl (by dsimp only [zS, zN, zH, zT]) ?_
  refine zst (op_assign_tmp (by rfl)) rfl (by dsimp only [zS, zN, zH, zT]) ?_
  refine al_end rfl ?_
  refine then_normal ?_
  refine aw_seq ?_
  refine aw_region ?_
  refine zst (op_lit Try.underlying37 ZS36 (.nil _) (by rfl) (by simp) (by simp [flat]) (by decide)) rfl (by dsimp only [zS, zN, zH, zT]) ?_
  refine zst (op_assign_tmp (by rfl)) rfl (by dsimp only [zS, zN, zH, zT]) ?_
  refine al_end rfl ?_
  refine then_normal ?_
  refine aw_seq ?_
  refine aw_seq ?_
  refine aw_region ?_
  refine zst (op_assign_const (by rfl)) rfl (by dsimp only [zS, zN, zH, zT]) ?_
  refine al_end rfl ?_
  refine then_normal ?_
  refine aw_block ?_
  apply aw_loopF (fun m T H => ∃ (i : Nat) (w : AV) (t : Option Nat), T = ((.d (I (n : Nat))) :: (.d (I (s : Nat))) :: .un :: .un :: .un :: w :: (.d (I i)) :: .un :: .un :: .un :: .un :: .un :: .un :: .un :: .un :: .un :: .un :: .un :: .un :: .un :: .un :: .un :: .un :: .un :: .un :: .un :: .un :: .un :: .un :: .un :: .un :: .un :: .un :: .un :: .un :: .un :: .un :: .un :: .un :: .un :: .un :: .un :: .un :: .un :: .un :: .un :: .un :: .un :: .un :: .un :: .un :: .un :: .un :: .un :: .un :: .un :: .un :: .un :: .un :: .un :: .un :: .un :: .un :: .un :: .un :: .un :: .un :: .un :: .un :: .un :: .un :: .un :: .un :: .un :: .un :: .un :: .un :: .un :: .un :: .un :: []) ∧ i ≤ n ∧ m = n - i ∧ GL Hs H w t 8 ((List.replicate i (addN s)).map oD) ∧ Ext Hs H) (n) (true :: true :: false :: false :: false :: true :: true :: false :: false :: false :: false :: false :: false :: false :: false :: false :: false :: false :: false :: false :: false :: false :: false :: false :: false :: false :: false :: false :: false :: false :: false :: false :: false :: false :: false :: false :: false :: false :: false :: false :: false :: false :: false :: false :: false :: false :: false :: false :: false :: false :: false :: false :: false :: false :: false :: false :: false :: false :: false :: false :: false :: false :: false :: false :: false :: false :: false :: false :: false :: false :: false :: false :: false :: false :: false :: false :: false :: false :: false :: false :: [])
  · (try dsimp only [maskT]); try exact rfl
  · rfl
  · exact ⟨0, _, none, rfl, by omega, rfl, ⟨App.own none 8 [], HS.ok_none _ _, NewTok.none _⟩, Ext.refl _⟩
  rintro m T H ⟨i, w, t, rfl, hi, rfl, hg, hx⟩
  refine aw_seq ?_
  refine aw_seq ?_
  refine aw_region ?_
  refine zst (op_move_tmp (by rfl)) rfl (by dsimp only [zS, zN, zH, zT]) ?_
  refine zst (op_move_tmp (by rfl)) rfl (by dsimp only [zS, zN, zH, zT]) ?_
  refine zst (op_ltI (by rfl) (by rfl)) rfl (by dsimp only [zS, zN, zH, zT]) ?_
  refine al_end rfl ?_
  refine then_normal ?_
  refine aw_cond rfl (fun hc2 => ?_) (fun hc2 => ?_)
  ·
   (try simp only [y1, y2, y3, y4, y5, y6, y7, y8, y9, y0, List.length_map] at hc2)
   have hin : i < n := by omega
   refine aw_skip ?_
   refine then_normal ?_
   refine aw_seq ?_
   refine aw_block ?_
   refine aw_region ?_
   refine zst (op_move_tmp (by rfl)) rfl (by dsimp only [zS, zN, zH, zT]) ?_
   refine zst (op_lit Try.underlying34 ZS9 (.cons (by rfl) (.nil _)) (by rfl) (by simp [BY, S, I, TF, DV.cells]) (by simp [flat, BY, S, I, TF, DV.cells, DV.one]) (by decide)) rfl (by dsimp only [zS, zN, zH, zT]) ?_
   refine zst (op_move_tmp (by rfl)) rfl (by dsimp only [zS, zN, zH, zT]) ?_
   refine zst (op_callF Try.func14 (by rfl) (by rfl) (.tmp (by rfl) .nil) (ofInt_ok _ _)) rfl (by dsimp only [zS, zN, zH, zT]) ?_
   refine zst (op_buildO (Opn.mk 3 [[110]] (ofInt s)) (.own none 1 [S [110]]) Try.underlying36 Zr36 (by kernel_rfl) (by rfl) (by rfl) (by rfl) (by rfl) (LL.own _ _ _)) rfl (by dsimp only [zS, zN, zH, zT]) ?_
   refine zst (op_lit Try.underlying37 ZS36 (.cons (y := oD (Opn.mk 3 [[110]] (ofInt s))) (by rfl) (.nil _)) (by rfl) (lit_o [(Opn.mk 3 [[110]] (ofInt s))]) (lit_o1 [(Opn.mk 3 [[110]] (ofInt s))]) (by decide)) rfl (by dsimp only [zS, zN, zH, zT]) ?_
   refine zst (op_append Try.underlying37 Inf36 (by rfl) hg.app (.list _ _ _ _ Try.underlying37 (LL.own _ _ _)) hg.ok (by simp) (by simp; omega) (by simp; omega)) rfl (by dsimp only [zS, zN, zH, zT]) ?_
   refine zst (op_assign_tmp (by rfl)) rfl (by dsimp only [zS, zN, zH, zT]) ?_
   refine al_end rfl ?_
   refine inBlock_normal (then_normal ?_)
   refine aw_region ?_
   refine zst (op_move_tmp (by rfl)) rfl (by dsimp only [zS, zN, zH, zT]) ?_
   refine zst (by first | exact op_add (by rfl) (by rfl) (wrap_i64 ⟨by omega, by omega⟩) | exact op_add (by rfl) (by rfl) (by rfl)) rfl (by dsimp only [zS, zN, zH, zT]) ?_
   refine zst (op_assign_tmp (by rfl)) rfl (by dsimp only [zS, zN, zH, zT]) ?_
   refine al_end rfl ?_
   apply again_to (n - (i + 1)) (true :: true :: false :: false :: false :: true :: true :: false :: false :: false :: false :: false :: false :: false :: false :: false :: false :: false :: false :: false :: false :: false :: false :: false :: false :: false :: false :: false :: false :: false :: false :: false :: false :: false :: false :: false :: false :: false :: false :: false :: false :: false :: false :: false :: false :: false :: false :: false :: false :: false :: false :: false :: false :: false :: false :: false :: false :: false :: false :: false :: false :: false :: false :: false :: false :: false :: false :: false :: false :: false :: false :: false :: false :: false :: false :: false :: false :: false :: false :: false :: [])
   · (try dsimp only [maskT]); try exact rfl
   · rfl
   · omega
   exact ⟨i + 1, _, _, rfl, by omega, rfl, hg.step (.inl hx) (by simp) (by rw [List.replicate_succ', List.map_append]; rfl), (hx.upN hg.new hg.ok).1⟩
  ·
   (try simp only [y1, y2, y3, y4, y5, y6, y7, y8, y9, y0, List.length_map] at hc2)
   have hin : n = i := by omega
   subst hin
   have hA := many_apply hn hs
   have hE := many_enc (n := n) hs
   obtain ⟨x, e, hA⟩ : ∃ x e, applyV (ofMapV [.mk [110] (ofInt 0)]) (List.replicate n (addN s)) = (x, e) := ⟨_, _, rfl⟩
   obtain ⟨t0, f, hE⟩ : ∃ x e, encP (List.replicate n (addN s)) = (x, e) := ⟨_, _, rfl⟩
   have hA2 := many_apply hn hs
   rw [hA] at hA2
   have hE2 := many_enc (n := n) hs
   rw [hE] at hE2
   refine aw_exit ?_
   refine then_exit (again_exit (inBlock_here (then_normal ?_)))
   refine aw_seq ?_
   refine aw_region ?_
   refine zst (op_callF Try.func14 (by rfl) (by rfl) (.const (by rfl) .nil) (ofInt_ok _ 0)) rfl (by dsimp only [zS, zN, zH, zT]) ?_
   refine zst (op_buildD (pl := [(0, 1), (1, 6)]) (fC (F.mk [110] (ofInt 0))) Try.underlying48 Zr48 (by kernel_rfl) (by rfl) (by rfl) (fill_field [110] (ofInt 0)) (fC_one _)) rfl (by dsimp only [zS, zN, zH, zT]) ?_
   refine zst (op_lit Try.underlying24 ZS48 (.cons (y := fD (F.mk [110] (ofInt 0))) (by rfl) (.nil _)) (by rfl) (lit_f _) (lit_f1 _) (by decide)) rfl (by dsimp only [zS, zN, zH, zT]) ?_
   refine zst (op_callF Try.func18 (by rfl) (by rfl) (.tmp (by rfl) .nil) (ofMap_ok _ _ [F.mk [110] (ofInt 0)] (LL.own _ _ _) (by decide))) rfl (by dsimp only [zS, zN, zH, zT]) ?_
   refine zst (op_move_tmp (by rfl)) rfl (by dsimp only [zS, zN, zH, zT]) ?_
   refine zst (op_callF Try.func12 (by rfl) (by rfl) (.tmp (by rfl) (.tmp (by rfl) .nil)) (papply_at (l := (List.replicate n (addN s))) (m := 8) hA (by decide) hg.app.ll (by rw [List.length_replicate]; omega) head_few0 (by intro o ho; rw [(List.mem_replicate.1 ho).2]; exact BndV.int _))) rfl (by dsimp only [zS, zN, zH, zT]) ?_
   refine zst (op_move_tmp (by rfl)) rfl (by dsimp only [zS, zN, zH, zT]) ?_
   refine zst (op_extract (by rfl) (by rfl)) rfl (by dsimp only [zS, zN, zH, zT]) ?_
   refine zst (op_extract (by rfl) (by rfl)) rfl (by dsimp only [zS, zN, zH, zT]) ?_
   refine zst (op_alloc (Zr26) (by rfl)) rfl (by dsimp only [zS, zN, zH, zT]) ?_
   refine zst (op_stV x Sz26 (by rfl) push_at (by first | exact VBl.z _ | exact VBl.v _ _) (by rfl)) rfl (by dsimp only [zS, zN, zH, zT]) ?_
   refine zst (op_assign_tmp (by rfl)) rfl (by dsimp only [zS, zN, zH, zT]) ?_
   refine al_end rfl ?_
   refine then_normal ?_
   refine aw_seq ?_
   refine aw_region ?_
   refine zst (op_move_tmp (by rfl)) rfl (by dsimp only [zS, zN, zH, zT]) ?_
   refine zst (op_callF Try.func23 (by rfl) (by rfl) (.tmp (by rfl) .nil) (penc_at (l := (List.replicate n (addN s))) hE hg.app.ll (fun o ho => by rw [(List.mem_replicate.1 ho).2]; exact addN_few s) (fun o ho => by rw [(List.mem_replicate.1 ho).2]; exact wf_int (by unfold i64; omega)) (by rw [List.length_replicate]; omega))) rfl (by dsimp only [zS, zN, zH, zT]) ?_
   refine zst (op_move_tmp (by rfl)) rfl (by dsimp only [zS, zN, zH, zT]) ?_
   refine zst (op_extract (by rfl) (by rfl)) rfl (by dsimp only [zS, zN, zH, zT]) ?_
   refine zst (op_extract (by rfl) (by rfl)) rfl (by dsimp only [zS, zN, zH, zT]) ?_
   refine zst (op_assign_tmp (by rfl)) rfl (by dsimp only [zS, zN, zH, zT]) ?_
   refine zst (op_assign_tmp (by rfl)) rfl (by dsimp only [zS, zN, zH, zT]) ?_
   refine al_end rfl ?_
   refine then_normal ?_
   refine aw_seq ?_
   refine aw_seq ?_
   refine aw_region ?_
   refine zst (op_move_tmp (by rfl)) rfl (by dsimp only [zS, zN, zH, zT]) ?_
   refine zst (op_gtI (by rfl) (by rfl)) rfl (by dsimp only [zS, zN, zH, zT]) ?_
   refine al_end rfl ?_
   refine then_normal ?_
   refine aw_cond rfl (fun hc3 => ?_) (fun hc3 => ?_)
   ·
    (try simp only [y1, y2, y3, y4, y5, y6, y7, y8, y9, y0, List.length_map] at hc3)
    have h50 : 50 < n := by omega
    rw [if_pos h50] at hA2 hE2
    obtain ⟨rfl, rfl⟩ := Prod.mk.inj hA2
    obtain ⟨rfl, rfl⟩ := Prod.mk.inj hE2
    refine aw_seq ?_
    refine aw_region ?_
    refine zst (op_move_tmp (by rfl)) rfl (by dsimp only [zS, zN, zH, zT]) ?_
    refine zst (op_eqI (by rfl) (by rfl)) rfl (by dsimp only [zS, zN, zH, zT]) ?_
    refine zst (op_move_tmp (by rfl)) rfl (by dsimp only [zS, zN, zH, zT]) ?_
    refine zsw rfl rfl rfl (op_move_tmp (by rfl)) (by dsimp only [zS, zN, zH, zT]) ?_
    refine zsw rfl rfl rfl (op_eqI (by rfl) (by rfl)) (by dsimp only [zS, zN, zH, zT]) ?_
    refine zst (op_pick_tt (by rfl) (val_tmp (by rfl))) rfl (by dsimp only [zS, zN, zH, zT]) ?_
    refine zst (op_move_tmp (by rfl)) rfl (by dsimp only [zS, zN, zH, zT]) ?_
    refine zsw rfl rfl rfl (op_move_tmp (by rfl)) (by dsimp only [zS, zN, zH, zT]) ?_
    refine zsw rfl rfl rfl (op_eqS (by rfl) (by rfl)) (by dsimp only [zS, zN, zH, zT]) ?_
    refine zst (op_pick_tt (by rfl) (val_tmp (by rfl))) rfl (by dsimp only [zS, zN, zH, zT]) ?_
    refine zst (op_assign_tmp (by rfl)) rfl (by dsimp only [zS, zN, zH, zT]) ?_
    refine al_end rfl ?_
    refine then_normal ?_
    refine aw_ret ?_
    refine then_ret ?_
    refine retPost1 rfl rfl ?_
    first | exact rfl | (simp [TF, ofInt, V.num]; done)
   ·
    (try simp only [y1, y2, y3, y4, y5, y6, y7, y8, y9, y0, List.length_map] at hc3)
    have h50 : ¬ 50 < n := by omega
    rw [if_neg h50] at hA2 hE2
    obtain ⟨rfl, rfl⟩ := Prod.mk.inj hA2
    obtain ⟨rfl, rfl⟩ := Prod.mk.inj hE2
    refine aw_skip ?_
    refine then_normal ?_
    refine aw_seq ?_
    refine aw_region ?_
    refine zst (op_ldV (cntM (n * s : Nat)) Try.underlying26 (by rfl) Sz26 (by rfl) (setB_at push_at) (by first | exact VBl.v _ _ | exact VBl.z _)) rfl (by dsimp only [zS, zN, zH, zT]) ?_
    refine zst (op_callF Try.func13 (by rfl) (by rfl) (.tmp (by rfl) (.const (by rfl) .nil)) (get_at (get_cnt _) (by show 1 ≤ 1000000; decide))) rfl (by dsimp only [zS, zN, zH, zT]) ?_
    refine zst (op_move_tmp (by rfl)) rfl (by dsimp only [zS, zN, zH, zT]) ?_
    refine zst (op_extract (by rfl) (by rfl)) rfl (by dsimp only [zS, zN, zH, zT]) ?_
    refine zst (op_extract (by rfl) (by rfl)) rfl (by dsimp only [zS, zN, zH, zT]) ?_
    refine zst (op_alloc (Zr26) (by rfl)) rfl (by dsimp only [zS, zN, zH, zT]) ?_
    refine zst (op_stV (ofInt (n * s : Nat)) Sz26 (by rfl) push_at (by first | exact VBl.z _ | exact VBl.v _ _) (by rfl)) rfl (by dsimp only [zS, zN, zH, zT]) ?_
    refine zst (op_assign_tmp (by rfl)) rfl (by dsimp only [zS, zN, zH, zT]) ?_
    refine al_end rfl ?_
    refine then_normal ?_
    refine aw_seq ?_
    refine aw_region ?_
    refine zst (op_move_tmp (by rfl)) rfl (by dsimp only [zS, zN, zH, zT]) ?_
    refine zst (op_eqI (by rfl) (by rfl)) rfl (by dsimp only [zS, zN, zH, zT]) ?_
    refine zst (op_move_tmp (by rfl)) rfl (by dsimp only [zS, zN, zH, zT]) ?_
    refine zsw rfl rfl rfl (op_move_tmp (by rfl)) (by dsimp only [zS, zN, zH, zT]) ?_
    refine zsw rfl rfl rfl (op_eqI (by rfl) (by rfl)) (by dsimp only [zS, zN, zH, zT]) ?_
    refine zst (op_pick_tt (by rfl) (val_tmp (by rfl))) rfl (by dsimp only [zS, zN, zH, zT]) ?_
    refine zst (op_move_tmp (by rfl)) rfl (by dsimp only [zS, zN, zH, zT]) ?_
    refine zsw rfl rfl rfl (op_move_tmp (by rfl)) (by dsimp only [zS, zN, zH, zT]) ?_
    refine zst (op_pick_tt (by rfl) (val_tmp (by rfl))) rfl (by dsimp only [zS, zN, zH, zT]) ?_
    refine zst (op_move_tmp (by rfl)) rfl (by dsimp only [zS, zN, zH, zT]) ?_
    refine zsw rfl rfl rfl (by first | exact op_fieldAddr_ptr Try.underlying26 rfl Sz2 (by rfl) (by rfl) | exact op_fieldAddr_elt Try.underlying26 rfl Sz2 (by rfl) (by rfl) (by rfl)) (by dsimp only [zS, zN, zH, zT]) ?_
    refine zsw rfl rfl rfl (op_ldV1 Try.underlying2 (by rfl) (by rfl) (setB_at push_at) (VBl.v _ _) (by rfl)) (by dsimp only [zS, zN, zH, zT]) ?_
    refine zsw rfl rfl rfl (op_move_tmp (by rfl)) (by dsimp only [zS, zN, zH, zT]) ?_
    refine zsw rfl rfl rfl (op_move_tmp (by rfl)) (by dsimp only [zS, zN, zH, zT]) ?_
    refine zsw rfl rfl rfl (op_mul (by rfl) (by rfl) (show IntKind.i64.wrap ((n : Int) * (s : Int)) = ((n * s : Nat) : Int) by rw [← Int.natCast_mul, wrap_i64 ⟨by omega, by omega⟩])) (by dsimp only [zS, zN, zH, zT]) ?_
    refine zsw rfl rfl rfl (op_eqI (by rfl) (by rfl)) (by dsimp only [zS, zN, zH, zT]) ?_
    refine zst (op_pick_tt (by rfl) (val_tmp (by rfl))) rfl (by dsimp only [zS, zN, zH, zT]) ?_
    refine zst (op_assign_tmp (by rfl)) rfl (by dsimp only [zS, zN, zH, zT]) ?_
    refine al_end rfl ?_
    refine then_normal ?_
    refine aw_ret ?_
    refine retPost1 rfl rfl ?_
    first | exact rfl | (simp [TF, ofInt, V.num]; done)
end Go.Proofs.Ytjamnhofbkgblaa
