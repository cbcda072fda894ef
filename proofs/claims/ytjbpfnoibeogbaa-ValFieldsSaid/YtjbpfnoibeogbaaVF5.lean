/- Part 5 of what the law needs: ValL, ValR, ValU, ValLf, ValLs, PatchBnd, PatchLaw, A20. -/
import Derived.Test.YtjbpfnoibeogbaaVF4
import Derived.KernelRfl
namespace Go.Proofs.Ytjbpfnoibeogbaa
open Go.AV Go.AV.Ord Go.AV.Oct Go.AV.Val
set_option linter.unusedVariables false
set_option linter.unusedSimpArgs false
set_option maxRecDepth 100000 in
theorem zig_ok (Hs : HS) (n : Int) (hi : i64 n) : ACalls Try.prog 102 [.d (.v (.int .i64 n))] Hs (Ret (.d (.v (.int .u64 (zigN n)))) Hs) := by
 refine acalls_of_aw Try.func102 rfl ?_
 refine aw_start (T' := [.d (.v (.int .i64 n)), .un, .un, .un, .un, .un, .un, .un, .un, .un]) rfl ?_
 refine aw_seq ?_
 refine aw_region ?_
 refine zst (op_assign_const (by rfl)) rfl (by dsimp only [zS, zN, zH, zT]) ?_
 refine al_end rfl ?_
 refine then_normal ?_
 refine aw_seq ?_
 refine aw_region ?_
 refine zst (op_move_tmp (by rfl)) rfl (by dsimp only [zS, zN, zH, zT]) ?_
 refine zst (op_convI (by rw [Try.underlying2]; rfl) Try.underlying177 (by rfl) (by rfl)) rfl (by dsimp only [zS, zN, zH, zT]) ?_
 refine zst (op_shl (by rfl) (by rfl) (by omega) (by rfl)) rfl (by dsimp only [zS, zN, zH, zT]) ?_
 refine zst (op_move_tmp (by rfl)) rfl (by dsimp only [zS, zN, zH, zT]) ?_
 refine zst (op_shr (by rfl) (by rfl) (by omega) (by rfl)) rfl (by dsimp only [zS, zN, zH, zT]) ?_
 refine zst (op_convI (by rw [Try.underlying2]; rfl) Try.underlying177 (by rfl) (by rfl)) rfl (by dsimp only [zS, zN, zH, zT]) ?_
 refine zst (op_xor (by rfl) (by rfl) (zig_bits hi)) rfl (by dsimp only [zS, zN, zH, zT]) ?_
 refine zst (op_assign_tmp (by rfl)) rfl (by dsimp only [zS, zN, zH, zT]) ?_
 refine al_end rfl ?_
 refine then_normal ?_
 refine aw_ret ?_
 refine retPost1 rfl rfl ?_
 exact ⟨rfl, rfl⟩
set_option maxHeartbeats 1000000 in
set_option maxRecDepth 100000 in
theorem lay_step (Hs : HS) (t : Option Nat) (w : AV) (bs : List UInt8) (k : Int) (y : Bool) (i : Int) (tx : List UInt8) (ls : List V) (fs : List F) (h0 : 0 ≤ k) (h5 : k ≤ 5) (hi : i64 i) (hw : App w t 1 (bs.map BY)) (hok : Hs.ok t bs.length) (hB : bs.length + (encV (.mk k y i tx ls fs)).length ≤ 1000000000) (ihL : ∀ x ∈ ls, ∀ (Hs : HS) (t : Option Nat) (w : AV) (bs : List UInt8), App w t 1 (bs.map BY) → Hs.ok t bs.length → bs.length + (encV x).length ≤ 1000000000 → ACalls Try.prog 75 [.d (.agg (vC x)), w] Hs (Ret (ownB Hs t (bs ++ encV x)) (upB Hs t (bs ++ encV x)))) (ihF : ∀ x ∈ fs, ∀ (Hs : HS) (t : Option Nat) (w : AV) (bs : List UInt8), App w t 1 (bs.map BY) → Hs.ok t bs.length → bs.length + (encV x.val).length ≤ 1000000000 → ACalls Try.prog 75 [.d (.agg (vC x.val)), w] Hs (Ret (ownB Hs t (bs ++ encV x.val)) (upB Hs t (bs ++ encV x.val)))) : ACalls Try.prog 75 [.d (.agg (v6D k y i tx ls fs)), w] Hs (Ret (ownB Hs t (bs ++ encV (.mk k y i tx ls fs))) (upB Hs t (bs ++ encV (.mk k y i tx ls fs)))) := by
 refine ACalls.tidyW ?_
 have hE := encV_mk k y i tx ls fs
 refine acalls_of_aw Try.func75 rfl ?_
 refine aw_start (T' := ((.d (.agg (v6D k y i tx ls fs))) :: w :: .un :: .un :: .un :: .un :: .un :: .un :: .un :: .un :: .un :: .un :: .un :: .un :: .un :: .un :: .un :: .un :: .un :: .un :: .un :: .un :: .un :: .un :: .un :: .un :: .un :: .un :: .un :: .un :: .un :: .un :: .un :: .un :: .un :: .un :: .un :: .un :: .un :: .un :: .un :: .un :: .un :: .un :: .un :: .un :: .un :: .un :: .un :: .un :: .un :: .un :: .un :: .un :: .un :: .un :: .un :: .un :: .un :: .un :: .un :: .un :: .un :: .un :: .un :: .un :: .un :: .un :: .un :: .un :: .un :: .un :: .un :: .un :: .un :: .un :: .un :: .un :: .un :: .un :: .un :: .un :: .un :: .un :: .un :: [])) rfl ?_
 refine aw_seq ?_
 refine aw_region ?_
 refine zst (op_box_elt (by rfl) (by rfl)) rfl (by dsimp only [zS, zN, zH, zT]) ?_
 refine zst (op_assign_const (by rfl)) rfl (by dsimp only [zS, zN, zH, zT]) ?_
 refine al_end rfl ?_
 refine then_normal ?_
 apply aw_cutF (fun T H => ∃ (u : Unit), T = (.un :: (ownB Hs t (bs ++ [UInt8.ofNat k.toNat])) :: (.elt (v6D k y i tx ls fs)) :: .un :: .un :: .un :: .un :: .un :: .un :: .un :: .un :: .un :: .un :: .un :: .un :: .un :: .un :: .un :: .un :: .un :: .un :: .un :: .un :: .un :: .un :: .un :: .un :: .un :: .un :: .un :: .un :: .un :: .un :: .un :: .un :: .un :: .un :: .un :: .un :: .un :: .un :: .un :: .un :: .un :: .un :: .un :: .un :: .un :: .un :: .un :: .un :: .un :: .un :: .un :: .un :: .un :: .un :: .un :: .un :: .un :: .un :: .un :: .un :: .un :: .un :: .un :: .un :: .un :: .un :: .un :: .un :: .un :: .un :: .un :: .un :: .un :: .un :: .un :: .un :: .un :: .un :: .un :: .un :: .un :: .un :: []) ∧ Wr Hs t H (bs ++ [UInt8.ofNat k.toNat]))
 ·
  refine aw_region ?_
  refine zst (op_move_tmp (by rfl)) rfl (by dsimp only [zS, zN, zH, zT]) ?_
  refine zst (by first | exact op_fieldAddr_ptr Try.underlying26 rfl Sz23 (by rfl) (by rfl) | exact op_fieldAddr_elt Try.underlying26 rfl Sz23 (by rfl) (by rfl) (by rfl)) rfl (by dsimp only [zS, zN, zH, zT]) ?_
  refine zst (by first | exact op_load_elt Try.underlying23 (by rfl) (by rfl) (by rfl) | exact op_load_ptr Try.underlying23 (by rfl) (by rfl) (by first | exact hPhi | exact setB_at push_at) (by rfl)) rfl (by dsimp only [zS, zN, zH, zT]) ?_
  refine zst (op_convI (by rw [Try.underlying23]; rfl) Try.underlying5 (by rfl) (conv_kind h0 h5)) rfl (by dsimp only [zS, zN, zH, zT]) ?_
  refine zst (op_lit Try.underlying49 ZS5 (.cons (by rfl) (.nil _)) (by rfl) (by simp [BY, S, I, TF, DV.cells]) (by simp [flat, BY, S, I, TF, DV.cells, DV.one]) (by decide)) rfl (by dsimp only [zS, zN, zH, zT]) ?_
  refine zst (op_append Try.underlying49 Inf5 (by rfl) hw (.list _ _ _ _ Try.underlying49 (LL.own _ _ _)) (by simpa using hok) (by simp) (by simp; omega) (by simp; omega)) rfl (by dsimp only [zS, zN, zH, zT]) ?_
  refine zst (op_assign_tmp (by rfl)) rfl (by dsimp only [zS, zN, zH, zT]) ?_
  refine al_end rfl ?_
  apply cut_to (false :: true :: true :: false :: false :: false :: false :: false :: false :: false :: false :: false :: false :: false :: false :: false :: false :: false :: false :: false :: false :: false :: false :: false :: false :: false :: false :: false :: false :: false :: false :: false :: false :: false :: false :: false :: false :: false :: false :: false :: false :: false :: false :: false :: false :: false :: false :: false :: false :: false :: false :: false :: false :: false :: false :: false :: false :: false :: false :: false :: false :: false :: false :: false :: false :: false :: false :: false :: false :: false :: false :: false :: false :: false :: false :: false :: false :: false :: false :: false :: false :: false :: false :: false :: false :: [])
  · (try dsimp only [maskT]); try exact rfl
  · rfl
  exact ⟨(), by (simp [ownB, BY, DV.cells]), (by have h := Wr.start hok (bs ++ [UInt8.ofNat k.toNat]); simpa [upB] using h)⟩
 rintro T H ⟨u, rfl, hr⟩
 apply aw_cutF (fun T H => ∃ (l : List UInt8), T = (.un :: (ownB Hs t l) :: .un :: .un :: .un :: .un :: .un :: .un :: .un :: .un :: .un :: .un :: .un :: .un :: .un :: .un :: .un :: .un :: .un :: .un :: .un :: .un :: .un :: .un :: .un :: .un :: .un :: .un :: .un :: .un :: .un :: .un :: .un :: .un :: .un :: .un :: .un :: .un :: .un :: .un :: .un :: .un :: .un :: .un :: .un :: .un :: .un :: .un :: .un :: .un :: .un :: .un :: .un :: .un :: .un :: .un :: .un :: .un :: .un :: .un :: .un :: .un :: .un :: .un :: .un :: .un :: .un :: .un :: .un :: .un :: .un :: .un :: .un :: .un :: .un :: .un :: .un :: .un :: .un :: .un :: .un :: .un :: .un :: .un :: .un :: []) ∧ Wr Hs t H l ∧ l = bs ++ encV (.mk k y i tx ls fs))
 ·
  refine aw_seq ?_
  refine aw_region ?_
  refine zst (by first | exact op_fieldAddr_ptr Try.underlying26 rfl Sz23 (by rfl) (by rfl) | exact op_fieldAddr_elt Try.underlying26 rfl Sz23 (by rfl) (by rfl) (by rfl)) rfl (by dsimp only [zS, zN, zH, zT]) ?_
  refine zst (by first | exact op_load_elt Try.underlying23 (by rfl) (by rfl) (by rfl) | exact op_load_ptr Try.underlying23 (by rfl) (by rfl) (by first | exact hPhi | exact setB_at push_at) (by rfl)) rfl (by dsimp only [zS, zN, zH, zT]) ?_
  refine al_end rfl ?_
  refine then_normal ?_
  refine aw_block ?_
  refine aw_seq ?_
  refine aw_region ?_
  refine zst (op_eqI (by rfl) (by rfl)) rfl (by dsimp only [zS, zN, zH, zT]) ?_
  refine zst (op_assign_tmp (by rfl)) rfl (by dsimp only [zS, zN, zH, zT]) ?_
  refine al_end rfl ?_
  refine then_normal ?_
  refine aw_cond rfl (fun hc1 => ?_) (fun hc1 => ?_)
  ·
   (try simp only [y1, y2, y3, y4, y5, y6, y7, y8, y9, y0, List.length_map] at hc1)
   have hk1 : k = 1 := hc1
   rw [if_pos hk1] at hE
   have hl2 := congrArg List.length hE
   simp [flagB] at hl2
   refine aw_region ?_
   refine zst (op_move_tmp (by rfl)) rfl (by dsimp only [zS, zN, zH, zT]) ?_
   refine zst (by first | exact op_fieldAddr_ptr Try.underlying26 rfl Sz4 (by rfl) (by rfl) | exact op_fieldAddr_elt Try.underlying26 rfl Sz4 (by rfl) (by rfl) (by rfl)) rfl (by dsimp only [zS, zN, zH, zT]) ?_
   refine zst (by first | exact op_load_elt Try.underlying4 (by rfl) (by rfl) (by rfl) | exact op_load_ptr Try.underlying4 (by rfl) (by rfl) (by first | exact hPhi | exact setB_at push_at) (by rfl)) rfl (by dsimp only [zS, zN, zH, zT]) ?_
   refine zst (op_callF Try.func70 (by rfl) (by rfl) (.tmp (by rfl) (.tmp (by rfl) .nil)) (oflag_ok H (some (Hs.tk t)) _ (bs ++ [UInt8.ofNat k.toNat]) y (App.own _ _ _) hr.ok (by simp; omega))) rfl (by dsimp only [zS, zN, zH, zT]) ?_
   refine zst (op_assign_tmp (by rfl)) rfl (by dsimp only [zS, zN, zH, zT]) ?_
   refine al_end rfl ?_
   refine inBlock_normal ?_
   apply cut_to (false :: true :: false :: false :: false :: false :: false :: false :: false :: false :: false :: false :: false :: false :: false :: false :: false :: false :: false :: false :: false :: false :: false :: false :: false :: false :: false :: false :: false :: false :: false :: false :: false :: false :: false :: false :: false :: false :: false :: false :: false :: false :: false :: false :: false :: false :: false :: false :: false :: false :: false :: false :: false :: false :: false :: false :: false :: false :: false :: false :: false :: false :: false :: false :: false :: false :: false :: false :: false :: false :: false :: false :: false :: false :: false :: false :: false :: false :: false :: false :: false :: false :: false :: false :: false :: [])
   · (try dsimp only [maskT]); try exact rfl
   · rfl
   exact ⟨_, rfl, hr.step _, by rw [hE]; simp⟩
  ·
   (try simp only [y1, y2, y3, y4, y5, y6, y7, y8, y9, y0, List.length_map] at hc1)
   have hk1 : ¬ k = 1 := hc1
   refine aw_seq ?_
   refine aw_region ?_
   refine zst (op_eqI (by rfl) (by rfl)) rfl (by dsimp only [zS, zN, zH, zT]) ?_
   refine zst (op_assign_tmp (by rfl)) rfl (by dsimp only [zS, zN, zH, zT]) ?_
   refine al_end rfl ?_
   refine then_normal ?_
   refine aw_cond rfl (fun hc2 => ?_) (fun hc2 => ?_)
   ·
    (try simp only [y1, y2, y3, y4, y5, y6, y7, y8, y9, y0, List.length_map] at hc2)
    have hk2 : k = 2 := hc2
    rw [if_neg hk1, if_pos hk2, intB] at hE
    have hl2 := congrArg List.length hE
    simp [numB_len] at hl2
    have hz := zig_lt (n := i) (by unfold i64 at hi; omega) (by unfold i64 at hi; omega)
    refine aw_seq ?_
    refine aw_region ?_
    refine zst (by first | exact op_fieldAddr_ptr Try.underlying26 rfl Sz2 (by rfl) (by rfl) | exact op_fieldAddr_elt Try.underlying26 rfl Sz2 (by rfl) (by rfl) (by rfl)) rfl (by dsimp only [zS, zN, zH, zT]) ?_
    refine zst (by first | exact op_load_elt Try.underlying2 (by rfl) (by rfl) (by rfl) | exact op_load_ptr Try.underlying2 (by rfl) (by rfl) (by first | exact hPhi | exact setB_at push_at) (by rfl)) rfl (by dsimp only [zS, zN, zH, zT]) ?_
    refine zst (op_callF Try.func102 (by rfl) (by rfl) (.tmp (by rfl) .nil) (zig_ok _ i hi)) rfl (by dsimp only [zS, zN, zH, zT]) ?_
    refine zst (op_assign_tmp (by rfl)) rfl (by dsimp only [zS, zN, zH, zT]) ?_
    refine al_end rfl ?_
    refine then_normal ?_
    refine aw_region ?_
    refine zst (op_move_tmp (by rfl)) rfl (by dsimp only [zS, zN, zH, zT]) ?_
    refine zst (op_move_tmp (by rfl)) rfl (by dsimp only [zS, zN, zH, zT]) ?_
    refine zst (op_shr (by rfl) (by rfl) (by omega) (shr32 _)) rfl (by dsimp only [zS, zN, zH, zT]) ?_
    refine zst (op_convI (by rw [Try.underlying177]; rfl) Try.underlying3 (by rfl) (wrap_i64 ⟨by omega, by omega⟩)) rfl (by dsimp only [zS, zN, zH, zT]) ?_
    refine zst (op_callF Try.func54 (by rfl) (by rfl) (.tmp (by rfl) (.tmp (by rfl) .nil)) (onum_ok H (some (Hs.tk t)) _ (bs ++ [UInt8.ofNat k.toNat]) ((zigN i / 4294967296 : Nat) : Int) (App.own _ _ _) hr.ok (by omega) (by simp; omega))) rfl (by dsimp only [zS, zN, zH, zT]) ?_
    refine zst (op_move_tmp (by rfl)) rfl (by dsimp only [zS, zN, zH, zT]) ?_
    refine zst (op_and (by rfl) (by rfl) (and32 hz)) rfl (by dsimp only [zS, zN, zH, zT]) ?_
    refine zst (op_convI (by rw [Try.underlying177]; rfl) Try.underlying3 (by rfl) (wrap_i64 ⟨by omega, by omega⟩)) rfl (by dsimp only [zS, zN, zH, zT]) ?_
    refine zst (op_callF Try.func54 (by rfl) (by rfl) (.tmp (by rfl) (.tmp (by rfl) .nil)) (onum_ok _ (some (Hs.tk t)) _ ((bs ++ [UInt8.ofNat k.toNat]) ++ numB (zigN i / 4294967296)) ((zigN i % 4294967296 : Nat) : Int) (App.own _ _ _) (hr.step _).ok (by omega) (by simp [numB_len]; omega))) rfl (by dsimp only [zS, zN, zH, zT]) ?_
    refine zst (op_assign_tmp (by rfl)) rfl (by dsimp only [zS, zN, zH, zT]) ?_
    refine al_end rfl ?_
    refine inBlock_normal ?_
    apply cut_to (false :: true :: false :: false :: false :: false :: false :: false :: false :: false :: false :: false :: false :: false :: false :: false :: false :: false :: false :: false :: false :: false :: false :: false :: false :: false :: false :: false :: false :: false :: false :: false :: false :: false :: false :: false :: false :: false :: false :: false :: false :: false :: false :: false :: false :: false :: false :: false :: false :: false :: false :: false :: false :: false :: false :: false :: false :: false :: false :: false :: false :: false :: false :: false :: false :: false :: false :: false :: false :: false :: false :: false :: false :: false :: false :: false :: false :: false :: false :: false :: false :: false :: false :: false :: false :: [])
    · (try dsimp only [maskT]); try exact rfl
    · rfl
    exact ⟨(bs ++ [UInt8.ofNat k.toNat] ++ numB (zigN i / 4294967296) ++ numB (zigN i % 4294967296)), rfl, (hr.step _).step _, by rw [hE]; simp⟩
   ·
    (try simp only [y1, y2, y3, y4, y5, y6, y7, y8, y9, y0, List.length_map] at hc2)
    have hk2 : ¬ k = 2 := hc2
    refine aw_seq ?_
    refine aw_region ?_
    refine zst (op_eqI (by rfl) (by rfl)) rfl (by dsimp only [zS, zN, zH, zT]) ?_
    refine zst (op_assign_tmp (by rfl)) rfl (by dsimp only [zS, zN, zH, zT]) ?_
    refine al_end rfl ?_
    refine then_normal ?_
    refine aw_cond rfl (fun hc3 => ?_) (fun hc3 => ?_)
    ·
     (try simp only [y1, y2, y3, y4, y5, y6, y7, y8, y9, y0, List.length_map] at hc3)
     have hk3 : k = 3 := hc3
     rw [if_neg hk1, if_neg hk2, if_pos hk3] at hE
     have hl2 := congrArg List.length hE
     simp [textB, numB_len] at hl2
     refine aw_region ?_
     refine zst (op_move_tmp (by rfl)) rfl (by dsimp only [zS, zN, zH, zT]) ?_
     refine zst (by first | exact op_fieldAddr_ptr Try.underlying26 rfl Sz9 (by rfl) (by rfl) | exact op_fieldAddr_elt Try.underlying26 rfl Sz9 (by rfl) (by rfl) (by rfl)) rfl (by dsimp only [zS, zN, zH, zT]) ?_
     refine zst (by first | exact op_load_elt Try.underlying9 (by rfl) (by rfl) (by rfl) | exact op_load_ptr Try.underlying9 (by rfl) (by rfl) (by first | exact hPhi | exact setB_at push_at) (by rfl)) rfl (by dsimp only [zS, zN, zH, zT]) ?_
     refine zst (op_callF Try.func55 (by rfl) (by rfl) (.tmp (by rfl) (.tmp (by rfl) .nil)) (otext_ok H (some (Hs.tk t)) _ (bs ++ [UInt8.ofNat k.toNat]) tx (App.own _ _ _) hr.ok (by simp; omega))) rfl (by dsimp only [zS, zN, zH, zT]) ?_
     refine zst (op_assign_tmp (by rfl)) rfl (by dsimp only [zS, zN, zH, zT]) ?_
     refine al_end rfl ?_
     refine inBlock_normal ?_
     apply cut_to (false :: true :: false :: false :: false :: false :: false :: false :: false :: false :: false :: false :: false :: false :: false :: false :: false :: false :: false :: false :: false :: false :: false :: false :: false :: false :: false :: false :: false :: false :: false :: false :: false :: false :: false :: false :: false :: false :: false :: false :: false :: false :: false :: false :: false :: false :: false :: false :: false :: false :: false :: false :: false :: false :: false :: false :: false :: false :: false :: false :: false :: false :: false :: false :: false :: false :: false :: false :: false :: false :: false :: false :: false :: false :: false :: false :: false :: false :: false :: false :: false :: false :: false :: false :: false :: [])
     · (try dsimp only [maskT]); try exact rfl
     · rfl
     exact ⟨_, rfl, hr.step _, by rw [hE]; simp⟩
    ·
     (try simp only [y1, y2, y3, y4, y5, y6, y7, y8, y9, y0, List.length_map] at hc3)
     have hk3 : ¬ k = 3 := hc3
     refine aw_seq ?_
     refine aw_region ?_
     refine zst (op_eqI (by rfl) (by rfl)) rfl (by dsimp only [zS, zN, zH, zT]) ?_
     refine zst (op_assign_tmp (by rfl)) rfl (by dsimp only [zS, zN, zH, zT]) ?_
     refine al_end rfl ?_
     refine then_normal ?_
     refine aw_cond rfl (fun hc4 => ?_) (fun hc4 => ?_)
     ·
      (try simp only [y1, y2, y3, y4, y5, y6, y7, y8, y9, y0, List.length_map] at hc4)
      have hk4 : k = 4 := hc4
      subst hk4
      have hl2 := list_small (y := y) (i := i) (tx := tx) (ls := ls) (fs := fs)
      refine aw_seq ?_
      refine aw_region ?_
      refine zst (op_move_tmp (by rfl)) rfl (by dsimp only [zS, zN, zH, zT]) ?_
      refine zst (by first | exact op_fieldAddr_ptr Try.underlying26 rfl Sz24 (by rfl) (by rfl) | exact op_fieldAddr_elt Try.underlying26 rfl Sz24 (by rfl) (by rfl) (by rfl)) rfl (by dsimp only [zS, zN, zH, zT]) ?_
      refine zst (by first | exact op_load_elt Try.underlying24 (by rfl) (by rfl) (by rfl) | exact op_load_ptr Try.underlying24 (by rfl) (by rfl) (by first | exact hPhi | exact setB_at push_at) (by rfl)) rfl (by dsimp only [zS, zN, zH, zT]) ?_
      refine zst (op_lenL Try.underlying24 (by first | exact LL.d _ _ | exact LL.own _ _ _ | exact LL.nil _ | assumption)) rfl (by dsimp only [zS, zN, zH, zT]) ?_
      refine zst (op_callF Try.func54 (by rfl) (by rfl) (.tmp (by rfl) (.tmp (by rfl) .nil)) (onum_ok H (some (Hs.tk t)) _ (bs ++ [UInt8.ofNat (4 : Int).toNat]) ((ls.map vD).length : Int) (App.own _ _ _) hr.ok (by simp; omega) (by simp; omega))) rfl (by dsimp only [zS, zN, zH, zT]) ?_
      refine zst (op_assign_tmp (by rfl)) rfl (by dsimp only [zS, zN, zH, zT]) ?_
      refine al_end rfl ?_
      refine then_normal ?_
      refine aw_seq ?_
      refine aw_region ?_
      refine zst (by first | exact op_fieldAddr_ptr Try.underlying26 rfl Sz24 (by rfl) (by rfl) | exact op_fieldAddr_elt Try.underlying26 rfl Sz24 (by rfl) (by rfl) (by rfl)) rfl (by dsimp only [zS, zN, zH, zT]) ?_
      refine zst (by first | exact op_load_elt Try.underlying24 (by rfl) (by rfl) (by rfl) | exact op_load_ptr Try.underlying24 (by rfl) (by rfl) (by first | exact hPhi | exact setB_at push_at) (by rfl)) rfl (by dsimp only [zS, zN, zH, zT]) ?_
      refine zst (op_lenL Try.underlying24 (by first | exact LL.d _ _ | exact LL.own _ _ _ | exact LL.nil _ | assumption)) rfl (by dsimp only [zS, zN, zH, zT]) ?_
      refine zst (op_move_const (by rfl)) rfl (by dsimp only [zS, zN, zH, zT]) ?_
      refine al_end rfl ?_
      refine then_normal ?_
      refine aw_block ?_
      apply aw_loopF (fun n T H => ∃ (j : Nat), T = (.un :: (ownB Hs t (encLj bs ls j)) :: .un :: .un :: .un :: .un :: .un :: .un :: .un :: .un :: .un :: .un :: .un :: .un :: .un :: .un :: .un :: .un :: .un :: .un :: .un :: .un :: .un :: .un :: .un :: .un :: .un :: .un :: .un :: .un :: .un :: .un :: .un :: .un :: .un :: .un :: .un :: .un :: .un :: .un :: .un :: .un :: .un :: .un :: .un :: .un :: .un :: .un :: .un :: .un :: .un :: .un :: (.d (.lst 6 (ls.map vD))) :: (.d (I (ls.map vD).length)) :: (.d (I j)) :: .un :: .un :: .un :: .un :: .un :: .un :: .un :: .un :: .un :: .un :: .un :: .un :: .un :: .un :: .un :: .un :: .un :: .un :: .un :: .un :: .un :: .un :: .un :: .un :: .un :: .un :: .un :: .un :: .un :: .un :: []) ∧ j ≤ ls.length ∧ n = ls.length - j ∧ Wr Hs t H (encLj bs ls j)) (ls.length) (false :: true :: false :: false :: false :: false :: false :: false :: false :: false :: false :: false :: false :: false :: false :: false :: false :: false :: false :: false :: false :: false :: false :: false :: false :: false :: false :: false :: false :: false :: false :: false :: false :: false :: false :: false :: false :: false :: false :: false :: false :: false :: false :: false :: false :: false :: false :: false :: false :: false :: false :: false :: true :: true :: true :: false :: false :: false :: false :: false :: false :: false :: false :: false :: false :: false :: false :: false :: false :: false :: false :: false :: false :: false :: false :: false :: false :: false :: false :: false :: false :: false :: false :: false :: false :: [])
      · (try dsimp only [maskT]); try exact rfl
      · rfl
      · exact ⟨0, by (rw [encLj_0]; simp) <;> exact ⟨rfl, rfl⟩, by omega, rfl, by rw [encLj_0]; have h := hr.step (bs ++ [UInt8.ofNat 4] ++ numB ls.length); simpa using h⟩
      rintro n T H ⟨j, rfl, hj, rfl, hr⟩
      refine aw_seq ?_
      refine aw_region ?_
      refine zst (op_ltI (by rfl) (by rfl)) rfl (by dsimp only [zS, zN, zH, zT]) ?_
      refine al_end rfl ?_
      refine then_normal ?_
      refine aw_seq ?_
      refine aw_cond rfl (fun hc5 => ?_) (fun hc5 => ?_)
      ·
       (try simp only [y1, y2, y3, y4, y5, y6, y7, y8, y9, y0, List.length_map] at hc5)
       (try simp only [List.length_map] at hc5)
       have hlt : j < ls.length := by omega
       obtain ⟨x, hx⟩ : ∃ x, ls[j]? = some x := ⟨_, List.getElem?_eq_getElem hlt⟩
       have hle := encLj_le (bs := bs) (y := y) (i := i) (tx := tx) (fs := fs) hx
       refine aw_skip ?_
       refine then_normal ?_
       refine aw_seq ?_
       refine aw_block ?_
       refine aw_seq ?_
       refine aw_region ?_
       refine zst (op_indexAddr (z := vD x) (cs := [I x.kind, TF x.yes, .v (.int .i64 x.num), S x.text, .lst 6 (x.list.map vD), .lst 7 (x.fields.map fD)]) Try.underlying24 Sz26 (LL.d _ _) (by rfl) (by omega) (by rw [List.getElem?_map, show ((j : Nat) : Int).toNat = j from rfl, hx]; rfl) (vD_cells x)) rfl (by dsimp only [zS, zN, zH, zT]) ?_
       refine zst (op_load_elts (ds := vC x) Try.underlying26 (by rfl) Sz26 (by rfl) (Nat.le_of_ble_eq_true rfl) (by rw [vC_eq]; rfl)) rfl (by dsimp only [zS, zN, zH, zT]) ?_
       refine zst (op_alloc (Zr26) (by rfl)) rfl (by dsimp only [zS, zN, zH, zT]) ?_
       refine zst (op_storeV (b' := ⟨26, (vC x).map .d, false⟩) x Sz26 (by rfl) push_at (by rfl) (Nat.le_of_ble_eq_true rfl) (by rfl) (by rw [vC_eq]; rfl)) rfl (by dsimp only [zS, zN, zH, zT]) ?_
       refine al_end rfl ?_
       refine then_normal ?_
       refine aw_region ?_
       refine zst (op_load_ptrsD (vC x) Try.underlying26 (by rfl) Sz26 (by rfl) (setB_at push_at) (by show 0 + 6 ≤ ((vC x).map AV.d).length; rw [List.length_map, vC_len]; exact Nat.le_refl _) (by show (((vC x).map AV.d).drop 0).take 6 = _; rw [List.drop_zero, List.take_of_length_le (by rw [List.length_map, vC_len]; exact Nat.le_refl _)]) (vC_one x)) rfl (by dsimp only [zS, zN, zH, zT]) ?_
       refine zst (op_move_tmp (by rfl)) rfl (by dsimp only [zS, zN, zH, zT]) ?_
       refine zst (op_callF Try.func75 (by rfl) (by rfl) (.tmp (by rfl) (.tmp (by rfl) .nil)) (ihL x (List.mem_of_getElem? hx) _ (some (Hs.tk t)) _ (encLj bs ls j) (App.own _ _ _) hr.ok (by omega))) rfl (by dsimp only [zS, zN, zH, zT]) ?_
       refine zst (op_assign_tmp (by rfl)) rfl (by dsimp only [zS, zN, zH, zT]) ?_
       refine al_end rfl ?_
       refine inBlock_normal (then_normal ?_)
       refine aw_region ?_
       refine zst (by first | exact op_add (by rfl) (by rfl) (wrap_i64 ⟨by omega, by omega⟩) | exact op_add (by rfl) (by rfl) (by rfl)) rfl (by dsimp only [zS, zN, zH, zT]) ?_
       refine zst (op_move_tmp (by rfl)) rfl (by dsimp only [zS, zN, zH, zT]) ?_
       refine al_end rfl ?_
       apply again_to (ls.length - (j + 1)) (false :: true :: false :: false :: false :: false :: false :: false :: false :: false :: false :: false :: false :: false :: false :: false :: false :: false :: false :: false :: false :: false :: false :: false :: false :: false :: false :: false :: false :: false :: false :: false :: false :: false :: false :: false :: false :: false :: false :: false :: false :: false :: false :: false :: false :: false :: false :: false :: false :: false :: false :: false :: true :: true :: true :: false :: false :: false :: false :: false :: false :: false :: false :: false :: false :: false :: false :: false :: false :: false :: false :: false :: false :: false :: false :: false :: false :: false :: false :: false :: false :: false :: false :: false :: false :: [])
       · (try dsimp only [maskT]); try exact rfl
       · rfl
       · omega
       exact ⟨j + 1, by (rw [encLj_step hx]) <;> rfl, by omega, rfl, by rw [encLj_step hx]; exact (hr.push.setB hr.nb).step _⟩
      ·
       (try simp only [y1, y2, y3, y4, y5, y6, y7, y8, y9, y0, List.length_map] at hc5)
       (try simp only [List.length_map] at hc5)
       have hje : j = ls.length := by omega
       subst hje
       rw [encLj_full (y := y) (i := i) (tx := tx) (fs := fs)] at hr ⊢
       refine aw_exit ?_
       refine then_exit (again_exit (inBlock_here (inBlock_normal ?_)))
       apply cut_to (false :: true :: false :: false :: false :: false :: false :: false :: false :: false :: false :: false :: false :: false :: false :: false :: false :: false :: false :: false :: false :: false :: false :: false :: false :: false :: false :: false :: false :: false :: false :: false :: false :: false :: false :: false :: false :: false :: false :: false :: false :: false :: false :: false :: false :: false :: false :: false :: false :: false :: false :: false :: false :: false :: false :: false :: false :: false :: false :: false :: false :: false :: false :: false :: false :: false :: false :: false :: false :: false :: false :: false :: false :: false :: false :: false :: false :: false :: false :: false :: false :: false :: false :: false :: false :: [])
       · (try dsimp only [maskT]); try exact rfl
       · rfl
       exact ⟨_, rfl, hr, rfl⟩
     ·
      (try simp only [y1, y2, y3, y4, y5, y6, y7, y8, y9, y0, List.length_map] at hc4)
      have hk4 : ¬ k = 4 := hc4
      refine aw_seq ?_
      refine aw_region ?_
      refine zst (op_eqI (by rfl) (by rfl)) rfl (by dsimp only [zS, zN, zH, zT]) ?_
      refine zst (op_assign_tmp (by rfl)) rfl (by dsimp only [zS, zN, zH, zT]) ?_
      refine al_end rfl ?_
      refine then_normal ?_
      refine aw_cond rfl (fun hc6 => ?_) (fun hc6 => ?_)
      ·
       (try simp only [y1, y2, y3, y4, y5, y6, y7, y8, y9, y0, List.length_map] at hc6)
       have hk5 : k = 5 := hc6
       subst hk5
       have hl2 := fields_small (y := y) (i := i) (tx := tx) (ls := ls) (fs := fs)
       refine aw_seq ?_
       refine aw_region ?_
       refine zst (op_move_tmp (by rfl)) rfl (by dsimp only [zS, zN, zH, zT]) ?_
       refine zst (by first | exact op_fieldAddr_ptr Try.underlying26 rfl Sz22 (by rfl) (by rfl) | exact op_fieldAddr_elt Try.underlying26 rfl Sz22 (by rfl) (by rfl) (by rfl)) rfl (by dsimp only [zS, zN, zH, zT]) ?_
       refine zst (by first | exact op_load_elt Try.underlying22 (by rfl) (by rfl) (by rfl) | exact op_load_ptr Try.underlying22 (by rfl) (by rfl) (by first | exact hPhi | exact setB_at push_at) (by rfl)) rfl (by dsimp only [zS, zN, zH, zT]) ?_
       refine zst (op_lenL Try.underlying22 (by first | exact LL.d _ _ | exact LL.own _ _ _ | exact LL.nil _ | assumption)) rfl (by dsimp only [zS, zN, zH, zT]) ?_
       refine zst (op_callF Try.func54 (by rfl) (by rfl) (.tmp (by rfl) (.tmp (by rfl) .nil)) (onum_ok H (some (Hs.tk t)) _ (bs ++ [UInt8.ofNat (5 : Int).toNat]) ((fs.map fD).length : Int) (App.own _ _ _) hr.ok (by simp; omega) (by simp; omega))) rfl (by dsimp only [zS, zN, zH, zT]) ?_
       refine zst (op_assign_tmp (by rfl)) rfl (by dsimp only [zS, zN, zH, zT]) ?_
       refine al_end rfl ?_
       refine then_normal ?_
       refine aw_seq ?_
       refine aw_region ?_
       refine zst (by first | exact op_fieldAddr_ptr Try.underlying26 rfl Sz22 (by rfl) (by rfl) | exact op_fieldAddr_elt Try.underlying26 rfl Sz22 (by rfl) (by rfl) (by rfl)) rfl (by dsimp only [zS, zN, zH, zT]) ?_
       refine zst (by first | exact op_load_elt Try.underlying22 (by rfl) (by rfl) (by rfl) | exact op_load_ptr Try.underlying22 (by rfl) (by rfl) (by first | exact hPhi | exact setB_at push_at) (by rfl)) rfl (by dsimp only [zS, zN, zH, zT]) ?_
       refine zst (op_lenL Try.underlying22 (by first | exact LL.d _ _ | exact LL.own _ _ _ | exact LL.nil _ | assumption)) rfl (by dsimp only [zS, zN, zH, zT]) ?_
       refine zst (op_move_const (by rfl)) rfl (by dsimp only [zS, zN, zH, zT]) ?_
       refine al_end rfl ?_
       refine then_normal ?_
       refine aw_block ?_
       apply aw_loopF (fun n T H => ∃ (j : Nat), T = (.un :: (ownB Hs t (encFj bs fs j)) :: .un :: .un :: .un :: .un :: .un :: .un :: .un :: .un :: .un :: .un :: .un :: .un :: .un :: .un :: .un :: .un :: .un :: .un :: .un :: .un :: .un :: .un :: .un :: .un :: .un :: .un :: .un :: .un :: .un :: .un :: .un :: .un :: .un :: .un :: .un :: .un :: .un :: .un :: .un :: .un :: .un :: .un :: .un :: .un :: .un :: .un :: .un :: .un :: .un :: .un :: .un :: .un :: .un :: .un :: .un :: .un :: .un :: .un :: .un :: .un :: .un :: .un :: .un :: .un :: .un :: .un :: .un :: .un :: (.d (.lst 7 (fs.map fD))) :: (.d (I (fs.map fD).length)) :: (.d (I j)) :: .un :: .un :: .un :: .un :: .un :: .un :: .un :: .un :: .un :: .un :: .un :: .un :: []) ∧ j ≤ fs.length ∧ n = fs.length - j ∧ Wr Hs t H (encFj bs fs j)) (fs.length) (false :: true :: false :: false :: false :: false :: false :: false :: false :: false :: false :: false :: false :: false :: false :: false :: false :: false :: false :: false :: false :: false :: false :: false :: false :: false :: false :: false :: false :: false :: false :: false :: false :: false :: false :: false :: false :: false :: false :: false :: false :: false :: false :: false :: false :: false :: false :: false :: false :: false :: false :: false :: false :: false :: false :: false :: false :: false :: false :: false :: false :: false :: false :: false :: false :: false :: false :: false :: false :: false :: true :: true :: true :: false :: false :: false :: false :: false :: false :: false :: false :: false :: false :: false :: false :: [])
       · (try dsimp only [maskT]); try exact rfl
       · rfl
       · exact ⟨0, by (rw [encFj_0]; simp) <;> exact ⟨rfl, rfl⟩, by omega, rfl, by rw [encFj_0]; have h := hr.step (bs ++ [UInt8.ofNat 5] ++ numB fs.length); simpa using h⟩
       rintro n T H ⟨j, rfl, hj, rfl, hr⟩
       refine aw_seq ?_
       refine aw_region ?_
       refine zst (op_ltI (by rfl) (by rfl)) rfl (by dsimp only [zS, zN, zH, zT]) ?_
       refine al_end rfl ?_
       refine then_normal ?_
       refine aw_seq ?_
       refine aw_cond rfl (fun hc7 => ?_) (fun hc7 => ?_)
       ·
        (try simp only [y1, y2, y3, y4, y5, y6, y7, y8, y9, y0, List.length_map] at hc7)
        (try simp only [List.length_map] at hc7)
        have hlt : j < fs.length := by omega
        obtain ⟨x, hx⟩ : ∃ x, fs[j]? = some x := ⟨_, List.getElem?_eq_getElem hlt⟩
        have hle := encFj_le (bs := bs) (y := y) (i := i) (tx := tx) (ls := ls) hx
        refine aw_skip ?_
        refine then_normal ?_
        refine aw_seq ?_
        refine aw_block ?_
        refine aw_seq ?_
        refine aw_region ?_
        refine zst (op_indexAddr (z := fD x) (cs := [S x.name, I x.val.kind, TF x.val.yes, .v (.int .i64 x.val.num), S x.val.text, .lst 6 (x.val.list.map vD), .lst 7 (x.val.fields.map fD)]) Try.underlying22 Sz30 (LL.d _ _) (by rfl) (by omega) (by rw [List.getElem?_map, show ((j : Nat) : Int).toNat = j from rfl, hx]; rfl) (fD_cells7 x)) rfl (by dsimp only [zS, zN, zH, zT]) ?_
        refine zst (op_load_elts (ds := fC x) Try.underlying30 (by rfl) Sz30 (by rfl) (Nat.le_of_ble_eq_true rfl) (by rw [← fC7]; rfl)) rfl (by dsimp only [zS, zN, zH, zT]) ?_
        refine zst (op_alloc (Zr30) (by rfl)) rfl (by dsimp only [zS, zN, zH, zT]) ?_
        refine zst (op_storeF (b' := f1 30 x) x Sz30 (by rfl) push_at (by rfl) (Nat.le_of_ble_eq_true rfl) (by rfl) (by unfold f1; rw [← fC7]; rfl)) rfl (by dsimp only [zS, zN, zH, zT]) ?_
        refine al_end rfl ?_
        refine then_normal ?_
        refine aw_drawX (fun K => K.blks[H.nb]? = some (f1 30 x)) [0, 0, 0, 0, 0, 2, 2, 0] mixed (by kernel_rfl) (setB_at push_at) (.inr (by kernel_rfl)) ?_
        apply drun0X
        · intro H hPhi; first | exact op_fieldAddr_ptr Try.underlying30 rfl Sz26 (by rfl) (by rfl) | exact op_fieldAddr_elt Try.underlying30 rfl Sz26 (by rfl) (by rfl) (by rfl)
        · rfl
        apply drun_normT
        · (try dsimp only [zS, zN, zH, zT]); try exact rfl
        apply drun0X
        · intro H hPhi; exact op_load_ptrsD (vC x.val) Try.underlying26 (by rfl) Sz26 (by rfl) hPhi (by show 1 + 6 ≤ ((fC x).map AV.d).length; rw [List.length_map, fC_len]; exact Nat.le_refl _) (f1_val x) (vC_one _)
        · rfl
        apply drun_normT
        · (try dsimp only [zS, zN, zH, zT]); try exact rfl
        apply drun0X
        · intro H hPhi; exact op_move_tmp (by rfl)
        · rfl
        apply drun_normT
        · (try dsimp only [zS, zN, zH, zT]); try exact rfl
        apply drun0X
        · intro H hPhi; first | exact op_fieldAddr_ptr Try.underlying30 rfl Sz9 (by rfl) (by rfl) | exact op_fieldAddr_elt Try.underlying30 rfl Sz9 (by rfl) (by rfl) (by rfl)
        · rfl
        apply drun_normT
        · (try dsimp only [zS, zN, zH, zT]); try exact rfl
        apply drun0X
        · intro H hPhi; exact op_load_ptr Try.underlying9 (by rfl) (by rfl) hPhi (f1_name x)
        · rfl
        apply drun_normT
        · (try dsimp only [zS, zN, zH, zT]); try exact rfl
        apply drun2X
        · exact op_callF Try.func55 (by rfl) (by rfl) (.tmp (by rfl) (.tmp (by rfl) .nil)) (otext_ok _ (some (Hs.tk t)) _ (encFj bs fs j) x.name (App.own _ _ _) hr.ok (by have := Sch.textB_ge x.name; omega))
        · rfl
        · refine .inr ?_; first | (rw [HS.up_blks]; exact setB_at push_at) | (rw [HS.up_blks, HS.up_blks]; exact setB_at push_at)
        apply drun_normT
        · (try dsimp only [zS, zN, zH, zT]); try exact rfl
        apply drun2X
        · exact op_callF Try.func75 (by rfl) (by rfl) (.tmp (by rfl) (.tmp (by rfl) .nil)) (ihF x (List.mem_of_getElem? hx) _ (some (Hs.tk t)) _ (encFj bs fs j ++ textB x.name) (App.own _ _ _) (okB _ (some (Hs.tk t)) _ (show HS.ok ((H.push _ _).setB _ _) _ _ from hr.ok)) (by rw [List.length_append]; omega))
        · rfl
        · refine .inr ?_; first | (rw [HS.up_blks]; exact setB_at push_at) | (rw [HS.up_blks, HS.up_blks]; exact setB_at push_at)
        apply drun_normT
        · (try dsimp only [zS, zN, zH, zT]); try exact rfl
        apply drun0X
        · intro H hPhi; exact op_assign_tmp (by rfl)
        · rfl
        apply drun_normT
        · (try dsimp only [zS, zN, zH, zT]); try exact rfl
        refine drun_end rfl ?_
        refine inBlock_normal (then_normal ?_)
        refine aw_region ?_
        refine zst (by first | exact op_add (by rfl) (by rfl) (wrap_i64 ⟨by omega, by omega⟩) | exact op_add (by rfl) (by rfl) (by rfl)) rfl (by dsimp only [zS, zN, zH, zT]) ?_
        refine zst (op_move_tmp (by rfl)) rfl (by dsimp only [zS, zN, zH, zT]) ?_
        refine al_end rfl ?_
        apply again_to (fs.length - (j + 1)) (false :: true :: false :: false :: false :: false :: false :: false :: false :: false :: false :: false :: false :: false :: false :: false :: false :: false :: false :: false :: false :: false :: false :: false :: false :: false :: false :: false :: false :: false :: false :: false :: false :: false :: false :: false :: false :: false :: false :: false :: false :: false :: false :: false :: false :: false :: false :: false :: false :: false :: false :: false :: false :: false :: false :: false :: false :: false :: false :: false :: false :: false :: false :: false :: false :: false :: false :: false :: false :: false :: true :: true :: true :: false :: false :: false :: false :: false :: false :: false :: false :: false :: false :: false :: false :: [])
        · (try dsimp only [maskT]); try exact rfl
        · rfl
        · omega
        exact ⟨j + 1, by (rw [encFj_step hx]) <;> rfl, by omega, rfl, by rw [encFj_step hx]; exact ((hr.push.setB hr.nb).step _).step _⟩
       ·
        (try simp only [y1, y2, y3, y4, y5, y6, y7, y8, y9, y0, List.length_map] at hc7)
        (try simp only [List.length_map] at hc7)
        have hje : j = fs.length := by omega
        subst hje
        rw [encFj_full (y := y) (i := i) (tx := tx) (ls := ls)] at hr ⊢
        refine aw_exit ?_
        refine then_exit (again_exit (inBlock_here (inBlock_normal ?_)))
        apply cut_to (false :: true :: false :: false :: false :: false :: false :: false :: false :: false :: false :: false :: false :: false :: false :: false :: false :: false :: false :: false :: false :: false :: false :: false :: false :: false :: false :: false :: false :: false :: false :: false :: false :: false :: false :: false :: false :: false :: false :: false :: false :: false :: false :: false :: false :: false :: false :: false :: false :: false :: false :: false :: false :: false :: false :: false :: false :: false :: false :: false :: false :: false :: false :: false :: false :: false :: false :: false :: false :: false :: false :: false :: false :: false :: false :: false :: false :: false :: false :: false :: false :: false :: false :: false :: false :: [])
        · (try dsimp only [maskT]); try exact rfl
        · rfl
        exact ⟨_, rfl, hr, rfl⟩
      ·
       (try simp only [y1, y2, y3, y4, y5, y6, y7, y8, y9, y0, List.length_map] at hc6)
       have hk5 : ¬ k = 5 := hc6
       refine aw_skip ?_
       refine inBlock_normal ?_
       apply cut_to (false :: true :: false :: false :: false :: false :: false :: false :: false :: false :: false :: false :: false :: false :: false :: false :: false :: false :: false :: false :: false :: false :: false :: false :: false :: false :: false :: false :: false :: false :: false :: false :: false :: false :: false :: false :: false :: false :: false :: false :: false :: false :: false :: false :: false :: false :: false :: false :: false :: false :: false :: false :: false :: false :: false :: false :: false :: false :: false :: false :: false :: false :: false :: false :: false :: false :: false :: false :: false :: false :: false :: false :: false :: false :: false :: false :: false :: false :: false :: false :: false :: false :: false :: false :: false :: [])
       · (try dsimp only [maskT]); try exact rfl
       · rfl
       exact ⟨_, rfl, hr, by rw [hE]; simp [hk1, hk2, hk3, hk4, hk5]⟩
 rintro T H ⟨l, rfl, hr, rfl⟩
 refine aw_seq ?_
 refine aw_region ?_
 refine zst (op_move_tmp (by rfl)) rfl (by dsimp only [zS, zN, zH, zT]) ?_
 refine zst (op_assign_tmp (by rfl)) rfl (by dsimp only [zS, zN, zH, zT]) ?_
 refine al_end rfl ?_
 refine then_normal ?_
 refine aw_ret ?_
 refine retPost1 rfl rfl ?_
 exact ⟨rfl, hr⟩
end Go.Proofs.Ytjbpfnoibeogbaa
namespace Go.Proofs.Ytjbpfnoibeogbaa
open Go.AV Go.AV.Ord Go.AV.Oct Go.AV.Val
set_option linter.unusedVariables false
set_option linter.unusedSimpArgs false
theorem lay_ok : ∀ (d : Nat) (v : V), rightV d v = true → WfV v → ∀ (Hs : HS) (t : Option Nat) (w : AV) (bs : List UInt8), App w t 1 (bs.map BY) → Hs.ok t bs.length → bs.length + (encV v).length ≤ 1000000000 → ACalls Try.prog 75 [.d (.agg (vC v)), w] Hs (Ret (ownB Hs t (bs ++ encV v)) (upB Hs t (bs ++ encV v)))
  | 0, _, h, _, _, _, _, _, _, _, _ => by simp [rightV] at h
  | d + 1, .mk k y i tx ls fs, h, hw, Hs, t, w, bs, ha, hok, hB => by
    obtain ⟨h1, h2, h3, _⟩ := right_only h
    obtain ⟨h0, h5, _, _⟩ := only_list h1
    rw [v6D_eq]
    exact lay_step Hs t w bs k y i tx ls fs h0 h5 hw.n ha hok hB (fun x hx Hs t w bs a b c => lay_ok d x (h3 x hx) (hw.l x hx) Hs t w bs a b c) (fun x hx Hs t w bs a b c => lay_ok d x.val (h2 x hx) (hw.f x hx) Hs t w bs a b c)
set_option maxRecDepth 100000 in
theorem right1_ok (Hs : HS) (x : V) (d : Nat) (hd : d ≤ 1000) (ihx : ∀ Hs : HS, ACalls Try.prog 101 [.d (.agg (vC x)), .d (I d)] Hs (Ret (.d (TF (rightV d x))) Hs)) : ACalls Try.prog 135 [.d (.agg (vC x)), .elt [I ((d + 1 : Nat) : Int)]] Hs (Ret (.d (TF (!rightV d x))) Hs) := by
 refine acalls_of_aw Try.func135 rfl ?_
 refine aw_start (T' := [.d (.agg (vC x)), .elt [I ((d + 1 : Nat) : Int)], .un, .un, .un, .un, .un, .un, .un]) rfl ?_
 refine aw_seq ?_
 refine aw_region ?_
 refine zst (op_box_elt (cs := [I x.kind, TF x.yes, .v (.int .i64 x.num), S x.text, .lst 6 (x.list.map vD), .lst 7 (x.fields.map fD)]) (by rfl) (vD_cells x)) rfl (by dsimp only [zS, zN, zH, zT]) ?_
 refine zst (op_assign_const (by rfl)) rfl (by dsimp only [zS, zN, zH, zT]) ?_
 refine al_end rfl ?_
 refine then_normal ?_
 refine aw_seq ?_
 refine aw_region ?_
 refine zst (op_load_elts (ds := vC x) Try.underlying26 (by rfl) Sz26 (by rfl) (Nat.le_of_ble_eq_true rfl) (by rw [vC_eq]; rfl)) rfl (by dsimp only [zS, zN, zH, zT]) ?_
 refine zst (by first | exact op_load_elt Try.underlying3 (by rfl) (by rfl) (by rfl) | exact op_load_ptr Try.underlying3 (by rfl) (by rfl) (by rfl) (by rfl)) rfl (by dsimp only [zS, zN, zH, zT]) ?_
 refine zst (op_sub (by rfl) (by rfl) (show IntKind.i64.wrap (((d + 1 : Nat) : Int) - 1) = (d : Int) by rw [wrap_i64 ⟨by omega, by omega⟩]; omega)) rfl (by dsimp only [zS, zN, zH, zT]) ?_
 refine zst (op_callF Try.func101 (by rfl) (by rfl) (.tmp (by rfl) (.tmp (by rfl) .nil)) (ihx _)) rfl (by dsimp only [zS, zN, zH, zT]) ?_
 refine zst (op_not (by rfl)) rfl (by dsimp only [zS, zN, zH, zT]) ?_
 refine zst (op_assign_tmp (by rfl)) rfl (by dsimp only [zS, zN, zH, zT]) ?_
 refine al_end rfl ?_
 refine then_normal ?_
 refine aw_ret ?_
 refine retPost1 rfl rfl ?_
 exact ⟨rfl, rfl⟩
set_option maxRecDepth 100000 in
theorem indexV_ok (Hs : HS) (xs : List V) (d : Nat) (hd : d ≤ 1000) (hl : xs.length ≤ 1000000) (ihA : ∀ x ∈ xs, ∀ Hs : HS, ACalls Try.prog 101 [.d (.agg (vC x)), .d (I d)] Hs (Ret (.d (TF (rightV d x))) Hs)) : ACalls Try.prog 162 [.d (.lst 6 (xs.map vD)), .fn (.func 135) [] [.elt [I ((d + 1 : Nat) : Int)]]] Hs (fun av H' => H' = Hs ∧ ∃ r : Int, av = .d (I r) ∧ decide (0 ≤ r) = xs.any fun x => !rightV d x) := by
 refine acalls_of_aw Try.func162 rfl ?_
 refine aw_start (T' := [.d (.lst 6 (xs.map vD)), .fn (.func 135) [] [.elt [I ((d + 1 : Nat) : Int)]], .un, .un, .un, .un, .un, .un, .un, .un, .un, .un, .un, .un, .un, .un, .un, .un, .un]) rfl ?_
 refine aw_seq ?_
 refine aw_region ?_
 refine zst (op_assign_const (by rfl)) rfl (by dsimp only [zS, zN, zH, zT]) ?_
 refine al_end rfl ?_
 refine then_normal ?_
 refine aw_seq ?_
 refine aw_seq ?_
 refine aw_region ?_
 refine zst (op_move_tmp (by rfl)) rfl (by dsimp only [zS, zN, zH, zT]) ?_
 refine zst (op_lenL Try.underlying24 (by first | exact LL.d _ _ | exact LL.own _ _ _ | exact LL.nil _ | assumption)) rfl (by dsimp only [zS, zN, zH, zT]) ?_
 refine zst (op_move_const (by rfl)) rfl (by dsimp only [zS, zN, zH, zT]) ?_
 refine al_end rfl ?_
 refine then_normal ?_
 refine aw_block ?_
 apply aw_loopF (fun n T H => ∃ (k : Nat), T = [.d (.lst 6 (xs.map vD)), .fn (.func 135) [] [.elt [I ((d + 1 : Nat) : Int)]], .un, .un, .un, .un, .un, .d (I (xs.map vD).length), .d (I k), .un, .un, .un, .un, .un, .un, .un, .un, .un, .un] ∧ k ≤ xs.length ∧ n = xs.length - k ∧ ((xs.take k).any fun x => !rightV d x) = false ∧ Hs = H) (xs.length) [true, true, false, false, false, false, false, true, true, false, false, false, false, false, false, false, false, false, false]
 · (try dsimp only [maskT]); try exact rfl
 · rfl
 · exact ⟨0, rfl, by omega, rfl, by simp, rfl⟩
 rintro n T H ⟨k, rfl, hk, rfl, hn, rfl⟩
 refine aw_seq ?_
 refine aw_region ?_
 refine zst (op_ltI (by rfl) (by rfl)) rfl (by dsimp only [zS, zN, zH, zT]) ?_
 refine al_end rfl ?_
 refine then_normal ?_
 refine aw_seq ?_
 refine aw_cond rfl (fun hc1 => ?_) (fun hc1 => ?_)
 ·
  (try simp only [y1, y2, y3, y4, y5, y6, y7, y8, y9, y0, List.length_map] at hc1)
  (try simp only [List.length_map] at hc1)
  have hlt : k < xs.length := by omega
  obtain ⟨y, hy⟩ : ∃ y, xs[k]? = some y := ⟨_, List.getElem?_eq_getElem hlt⟩
  refine aw_skip ?_
  refine then_normal ?_
  refine aw_seq ?_
  refine aw_block ?_
  refine aw_seq ?_
  refine aw_region ?_
  refine zst (op_move_tmp (by rfl)) rfl (by dsimp only [zS, zN, zH, zT]) ?_
  refine zst (op_assign_tmp (by rfl)) rfl (by dsimp only [zS, zN, zH, zT]) ?_
  refine al_end rfl ?_
  refine then_normal ?_
  refine aw_seq ?_
  refine aw_region ?_
  refine zst (op_move_tmp (by rfl)) rfl (by dsimp only [zS, zN, zH, zT]) ?_
  refine zst (op_move_tmp (by rfl)) rfl (by dsimp only [zS, zN, zH, zT]) ?_
  refine zst (op_move_tmp (by rfl)) rfl (by dsimp only [zS, zN, zH, zT]) ?_
  refine zst (op_indexAddr (z := vD y) (cs := [I y.kind, TF y.yes, .v (.int .i64 y.num), S y.text, .lst 6 (y.list.map vD), .lst 7 (y.fields.map fD)]) Try.underlying24 Sz26 (LL.d _ _) (by rfl) (by omega) (by rw [List.getElem?_map, show ((k : Nat) : Int).toNat = k from rfl, hy]; rfl) (vD_cells y)) rfl (by dsimp only [zS, zN, zH, zT]) ?_
  refine zst (op_load_elts (ds := vC y) Try.underlying26 (by rfl) Sz26 (by rfl) (Nat.le_of_ble_eq_true rfl) (by rw [vC_eq]; rfl)) rfl (by dsimp only [zS, zN, zH, zT]) ?_
  refine zst (op_callV (by rfl) Try.func135 (by rfl) (by rfl) (.tmp (by rfl) .nil) (right1_ok _ y d hd (ihA y (List.mem_of_getElem? hy)))) rfl (by dsimp only [zS, zN, zH, zT]) ?_
  refine al_end rfl ?_
  refine then_normal ?_
  refine aw_cond rfl (fun hc2 => ?_) (fun hc2 => ?_)
  ·
   (try simp only [y1, y2, y3, y4, y5, y6, y7, y8, y9, y0, List.length_map] at hc2)
   have hc : rightV d y = false := by simpa using hc2
   refine aw_seq ?_
   refine aw_region ?_
   refine zst (op_move_tmp (by rfl)) rfl (by dsimp only [zS, zN, zH, zT]) ?_
   refine zst (op_assign_tmp (by rfl)) rfl (by dsimp only [zS, zN, zH, zT]) ?_
   refine al_end rfl ?_
   refine then_normal ?_
   refine aw_ret ?_
   refine inBlock_ret (then_ret (again_ret (inBlock_ret (then_ret ?_))))
   refine retPost1 rfl rfl ?_
   exact ⟨rfl, _, rfl, by rw [show decide ((0 : Int) ≤ (k : Int)) = true by simp]; symm; rw [List.any_eq_true]; exact ⟨y, List.mem_of_getElem? hy, by simp [hc]⟩⟩
  ·
   (try simp only [y1, y2, y3, y4, y5, y6, y7, y8, y9, y0, List.length_map] at hc2)
   have hc : rightV d y = true := by simpa using hc2
   refine aw_skip ?_
   refine inBlock_normal (then_normal ?_)
   refine aw_region ?_
   refine zst (by first | exact op_add (by rfl) (by rfl) (wrap_i64 ⟨by omega, by omega⟩) | exact op_add (by rfl) (by rfl) (by rfl)) rfl (by dsimp only [zS, zN, zH, zT]) ?_
   refine zst (op_move_tmp (by rfl)) rfl (by dsimp only [zS, zN, zH, zT]) ?_
   refine al_end rfl ?_
   apply again_to (xs.length - (k + 1)) [true, true, false, false, false, false, false, true, true, false, false, false, false, false, false, false, false, false, false]
   · (try dsimp only [maskT]); try exact rfl
   · rfl
   · omega
   exact ⟨k + 1, rfl, by omega, rfl, by rw [take_snoc hy, List.any_append, hn]; simp [hc], rfl⟩
 ·
  (try simp only [y1, y2, y3, y4, y5, y6, y7, y8, y9, y0, List.length_map] at hc1)
  (try simp only [List.length_map] at hc1)
  have hke : k = xs.length := by omega
  subst hke
  rw [List.take_length] at hn
  refine aw_exit ?_
  refine then_exit (again_exit (inBlock_here (then_normal ?_)))
  refine aw_seq ?_
  refine aw_region ?_
  refine zst (op_assign_const (by rfl)) rfl (by dsimp only [zS, zN, zH, zT]) ?_
  refine al_end rfl ?_
  refine then_normal ?_
  refine aw_ret ?_
  refine retPost1 rfl rfl ?_
  exact ⟨rfl, _, rfl, by rw [hn]; rfl⟩
set_option maxRecDepth 100000 in
theorem containsV_ok (Hs : HS) (xs : List V) (d : Nat) (hd : d ≤ 1000) (hl : xs.length ≤ 1000000) (ihA : ∀ x ∈ xs, ∀ Hs : HS, ACalls Try.prog 101 [.d (.agg (vC x)), .d (I d)] Hs (Ret (.d (TF (rightV d x))) Hs)) : ACalls Try.prog 134 [.d (.lst 6 (xs.map vD)), .fn (.func 135) [] [.elt [I ((d + 1 : Nat) : Int)]]] Hs (Ret (.d (TF (xs.any fun x => !rightV d x))) Hs) := by
 refine acalls_of_aw Try.func134 rfl ?_
 refine aw_start (T' := [.d (.lst 6 (xs.map vD)), .fn (.func 135) [] [.elt [I ((d + 1 : Nat) : Int)]], .un, .un, .un, .un, .un, .un, .un]) rfl ?_
 refine aw_seq ?_
 refine aw_region ?_
 refine zst (op_assign_const (by rfl)) rfl (by dsimp only [zS, zN, zH, zT]) ?_
 refine al_end rfl ?_
 refine then_normal ?_
 refine aw_seq ?_
 refine aw_region ?_
 refine zst (op_move_tmp (by rfl)) rfl (by dsimp only [zS, zN, zH, zT]) ?_
 refine zst (op_move_tmp (by rfl)) rfl (by dsimp only [zS, zN, zH, zT]) ?_
 refine al_cons _ (op_callF Try.func162 (by rfl) (by rfl) (.tmp (by rfl) (.tmp (by rfl) .nil)) (indexV_ok Hs xs d hd hl ihA)) rfl ?_
 rintro v2 H2 ⟨rfl, r, rfl, hr⟩
 apply al_normT
 · (try dsimp only [putT, List.set_cons_zero, List.set_cons_succ]); try exact rfl
 refine zst (op_geI (by rfl) (by rfl)) rfl (by dsimp only [zS, zN, zH, zT]) ?_
 refine zst (op_assign_tmp (by rfl)) rfl (by dsimp only [zS, zN, zH, zT]) ?_
 refine al_end rfl ?_
 refine then_normal ?_
 refine aw_ret ?_
 refine retPost1 rfl rfl ?_
 exact ⟨by (rw [← hr]) <;> rfl, rfl⟩
set_option maxHeartbeats 1000000 in
set_option maxRecDepth 100000 in
theorem right_step (Hs : HS) (D : Nat) (k : Int) (y : Bool) (i : Int) (tx : List UInt8) (ls : List V) (fs : List F) (hD : D ≤ 1000) (hls : ls.length ≤ 1000000) (hfs : fs.length ≤ 1000000) (ihL : ∀ d, D = d + 1 → ∀ x ∈ ls, ∀ Hs : HS, ACalls Try.prog 101 [.d (.agg (vC x)), .d (I d)] Hs (Ret (.d (TF (rightV d x))) Hs)) (ihF : ∀ d, D = d + 1 → ∀ x ∈ fs, ∀ Hs : HS, ACalls Try.prog 101 [.d (.agg (vC x.val)), .d (I d)] Hs (Ret (.d (TF (rightV d x.val))) Hs)) : ACalls Try.prog 101 [.d (.agg (v6D k y i tx ls fs)), .d (I D)] Hs (Ret (.d (TF (rightV D (.mk k y i tx ls fs)))) Hs) := by
 refine ACalls.tidy1 ?_
 refine acalls_of_aw Try.func101 rfl ?_
 refine aw_start (T' := ((.d (.agg (v6D k y i tx ls fs))) :: (.d (I D)) :: .un :: .un :: .un :: .un :: .un :: .un :: .un :: .un :: .un :: .un :: .un :: .un :: .un :: .un :: .un :: .un :: .un :: .un :: .un :: .un :: .un :: .un :: .un :: .un :: .un :: .un :: .un :: .un :: .un :: .un :: .un :: .un :: .un :: .un :: .un :: .un :: .un :: .un :: .un :: .un :: .un :: .un :: .un :: .un :: .un :: .un :: .un :: .un :: .un :: .un :: .un :: .un :: .un :: .un :: .un :: .un :: .un :: .un :: .un :: .un :: .un :: .un :: .un :: .un :: .un :: .un :: .un :: .un :: .un :: .un :: .un :: .un :: .un :: .un :: .un :: .un :: .un :: .un :: .un :: .un :: .un :: .un :: .un :: .un :: .un :: .un :: .un :: .un :: .un :: .un :: .un :: .un :: .un :: .un :: .un :: .un :: .un :: .un :: .un :: .un :: .un :: .un :: .un :: .un :: .un :: .un :: .un :: .un :: .un :: .un :: .un :: .un :: [])) rfl ?_
 refine aw_seq ?_
 refine aw_region ?_
 refine zst (op_box_elt (cs := v6D k y i tx ls fs) (by rfl) (by rfl)) rfl (by dsimp only [zS, zN, zH, zT]) ?_
 refine zst (op_box_elt (cs := [I D]) (by rfl) (by rfl)) rfl (by dsimp only [zS, zN, zH, zT]) ?_
 refine zst (op_assign_const (by rfl)) rfl (by dsimp only [zS, zN, zH, zT]) ?_
 refine al_end rfl ?_
 refine then_normal ?_
 refine aw_seq ?_
 refine aw_region ?_
 refine zst (by first | exact op_fieldAddr_ptr Try.underlying26 rfl Sz23 (by rfl) (by rfl) | exact op_fieldAddr_elt Try.underlying26 rfl Sz23 (by rfl) (by rfl) (by rfl)) rfl (by dsimp only [zS, zN, zH, zT]) ?_
 refine zst (by first | exact op_load_elt Try.underlying23 (by rfl) (by rfl) (by rfl) | exact op_load_ptr Try.underlying23 (by rfl) (by rfl) (by first | exact hb13 | exact setB_at push_at) (by rfl)) rfl (by dsimp only [zS, zN, zH, zT]) ?_
 refine zst (op_build (pl := [(0, 1), (1, 1), (2, 1), (3, 1), (4, 1), (5, 1)]) Try.underlying26 Zr26 (by kernel_rfl) (by rfl) (by rfl) (by rfl)) rfl (by dsimp only [zS, zN, zH, zT]) ?_
 refine zst (op_alloc (Zr26) (by rfl)) rfl (by dsimp only [zS, zN, zH, zT]) ?_
 refine zst (op_storeB (vs := (vs6 k false 0 [] nilS nilS)) (b' := (vBlk 26 k false 0 [] nilS nilS)) (H' := _) Sz26 (by rfl) push_at (by intro h; cases h) (by rfl) (by rfl) (Nat.le_of_ble_eq_true rfl) (by simp [AV.one, DV.one, TF, S, I, BY]) (by rfl) (by rfl) rfl) rfl (by dsimp only [zS, zN, zH, zT]) ?_
 refine al_end rfl ?_
 refine then_normal ?_
 apply aw_cutF (fun T H => ∃ (y2 : Bool) (i2 : Int) (tx2 : List UInt8), T = (.un :: .un :: (.elt (v6D k y i tx ls fs)) :: (.elt [I D]) :: .un :: (.ptr Hs.nb 0) :: .un :: .un :: .un :: .un :: .un :: .un :: .un :: .un :: .un :: .un :: .un :: .un :: .un :: .un :: .un :: .un :: .un :: .un :: .un :: .un :: .un :: .un :: .un :: .un :: .un :: .un :: .un :: .un :: .un :: .un :: .un :: .un :: .un :: .un :: .un :: .un :: .un :: .un :: .un :: .un :: .un :: .un :: .un :: .un :: .un :: .un :: .un :: .un :: .un :: .un :: .un :: .un :: .un :: .un :: .un :: .un :: .un :: .un :: .un :: .un :: .un :: .un :: .un :: .un :: .un :: .un :: .un :: .un :: .un :: .un :: .un :: .un :: .un :: .un :: .un :: .un :: .un :: .un :: .un :: .un :: .un :: .un :: .un :: .un :: .un :: .un :: .un :: .un :: .un :: .un :: .un :: .un :: .un :: .un :: .un :: .un :: .un :: .un :: .un :: .un :: .un :: .un :: .un :: .un :: .un :: .un :: .un :: .un :: []) ∧ Ext Hs H ∧ H.blks[Hs.nb]? = some (vBlk 26 k y2 i2 tx2 nilS nilS) ∧ 0 ≤ k ∧ k ≤ 5 ∧ y2 = only2 k y ∧ i2 = only3 k i ∧ tx2 = only4 k tx)
 ·
  refine aw_seq ?_
  refine aw_region ?_
  refine zst (by first | exact op_fieldAddr_ptr Try.underlying26 rfl Sz23 (by rfl) (by rfl) | exact op_fieldAddr_elt Try.underlying26 rfl Sz23 (by rfl) (by rfl) (by rfl)) rfl (by dsimp only [zS, zN, zH, zT]) ?_
  refine zst (by first | exact op_load_elt Try.underlying23 (by rfl) (by rfl) (by rfl) | exact op_load_ptr Try.underlying23 (by rfl) (by rfl) (by first | exact hb13 | exact setB_at push_at) (by rfl)) rfl (by dsimp only [zS, zN, zH, zT]) ?_
  refine al_end rfl ?_
  refine then_normal ?_
  refine aw_block ?_
  refine aw_seq ?_
  refine aw_region ?_
  refine zst (op_eqI (by rfl) (by rfl)) rfl (by dsimp only [zS, zN, zH, zT]) ?_
  refine zst (op_assign_tmp (by rfl)) rfl (by dsimp only [zS, zN, zH, zT]) ?_
  refine al_end rfl ?_
  refine then_normal ?_
  refine aw_cond rfl (fun hc1 => ?_) (fun hc1 => ?_)
  ·
   (try simp only [y1, y2, y3, y4, y5, y6, y7, y8, y9, y0, List.length_map] at hc1)
   have hk0 : k = 0 := hc1
   refine aw_skip ?_
   refine inBlock_normal ?_
   apply cut_to (false :: false :: true :: true :: false :: true :: false :: false :: false :: false :: false :: false :: false :: false :: false :: false :: false :: false :: false :: false :: false :: false :: false :: false :: false :: false :: false :: false :: false :: false :: false :: false :: false :: false :: false :: false :: false :: false :: false :: false :: false :: false :: false :: false :: false :: false :: false :: false :: false :: false :: false :: false :: false :: false :: false :: false :: false :: false :: false :: false :: false :: false :: false :: false :: false :: false :: false :: false :: false :: false :: false :: false :: false :: false :: false :: false :: false :: false :: false :: false :: false :: false :: false :: false :: false :: false :: false :: false :: false :: false :: false :: false :: false :: false :: false :: false :: false :: false :: false :: false :: false :: false :: false :: false :: false :: false :: false :: false :: false :: false :: false :: false :: false :: false :: [])
   · (try dsimp only [maskT]); try exact rfl
   · rfl
   exact ⟨false, 0, [], rfl, ((Ext.refl Hs).push _ _).setB (Nat.le_refl _), setB_at push_at, by omega, by omega, by simp [only2, *], by simp [only3, *], by simp [only4, *]⟩
  ·
   (try simp only [y1, y2, y3, y4, y5, y6, y7, y8, y9, y0, List.length_map] at hc1)
   have hk0 : ¬ k = 0 := hc1
   refine aw_seq ?_
   refine aw_region ?_
   refine zst (op_eqI (by rfl) (by rfl)) rfl (by dsimp only [zS, zN, zH, zT]) ?_
   refine zst (op_assign_tmp (by rfl)) rfl (by dsimp only [zS, zN, zH, zT]) ?_
   refine al_end rfl ?_
   refine then_normal ?_
   refine aw_cond rfl (fun hc2 => ?_) (fun hc2 => ?_)
   ·
    (try simp only [y1, y2, y3, y4, y5, y6, y7, y8, y9, y0, List.length_map] at hc2)
    have hk1 : k = 1 := hc2
    refine aw_region ?_
    refine zst (by first | exact op_fieldAddr_ptr Try.underlying26 rfl Sz4 (by rfl) (by rfl) | exact op_fieldAddr_elt Try.underlying26 rfl Sz4 (by rfl) (by rfl) (by rfl)) rfl (by dsimp only [zS, zN, zH, zT]) ?_
    refine zst (by first | exact op_load_elt Try.underlying4 (by rfl) (by rfl) (by rfl) | exact op_load_ptr Try.underlying4 (by rfl) (by rfl) (by first | exact hb13 | exact setB_at push_at) (by rfl)) rfl (by dsimp only [zS, zN, zH, zT]) ?_
    refine zst (by first | exact op_fieldAddr_ptr Try.underlying26 rfl Sz4 (by rfl) (by rfl) | exact op_fieldAddr_elt Try.underlying26 rfl Sz4 (by rfl) (by rfl) (by rfl)) rfl (by dsimp only [zS, zN, zH, zT]) ?_
    refine zst (op_storeB (vs := [.d (TF y)]) (b' := (vBlk 26 k y 0 [] nilS nilS)) (H' := _) Sz4 (by rfl) (setB_at push_at) (by intro h; cases h) (by rfl) (by rfl) (Nat.le_of_ble_eq_true rfl) (by simp [AV.one, DV.one, TF, S, I, BY]) (by rfl) (by rfl) rfl) rfl (by dsimp only [zS, zN, zH, zT]) ?_
    refine al_end rfl ?_
    refine inBlock_normal ?_
    apply cut_to (false :: false :: true :: true :: false :: true :: false :: false :: false :: false :: false :: false :: false :: false :: false :: false :: false :: false :: false :: false :: false :: false :: false :: false :: false :: false :: false :: false :: false :: false :: false :: false :: false :: false :: false :: false :: false :: false :: false :: false :: false :: false :: false :: false :: false :: false :: false :: false :: false :: false :: false :: false :: false :: false :: false :: false :: false :: false :: false :: false :: false :: false :: false :: false :: false :: false :: false :: false :: false :: false :: false :: false :: false :: false :: false :: false :: false :: false :: false :: false :: false :: false :: false :: false :: false :: false :: false :: false :: false :: false :: false :: false :: false :: false :: false :: false :: false :: false :: false :: false :: false :: false :: false :: false :: false :: false :: false :: false :: false :: false :: false :: false :: false :: false :: [])
    · (try dsimp only [maskT]); try exact rfl
    · rfl
    exact ⟨y, 0, [], rfl, (((Ext.refl Hs).push _ _).setB (Nat.le_refl _)).setB (Nat.le_refl _), setB_at (setB_at push_at), by omega, by omega, by simp [only2, *], by simp [only3, *], by simp [only4, *]⟩
   ·
    (try simp only [y1, y2, y3, y4, y5, y6, y7, y8, y9, y0, List.length_map] at hc2)
    have hk1 : ¬ k = 1 := hc2
    refine aw_seq ?_
    refine aw_region ?_
    refine zst (op_eqI (by rfl) (by rfl)) rfl (by dsimp only [zS, zN, zH, zT]) ?_
    refine zst (op_assign_tmp (by rfl)) rfl (by dsimp only [zS, zN, zH, zT]) ?_
    refine al_end rfl ?_
    refine then_normal ?_
    refine aw_cond rfl (fun hc3 => ?_) (fun hc3 => ?_)
    ·
     (try simp only [y1, y2, y3, y4, y5, y6, y7, y8, y9, y0, List.length_map] at hc3)
     have hk2 : k = 2 := hc3
     refine aw_region ?_
     refine zst (by first | exact op_fieldAddr_ptr Try.underlying26 rfl Sz2 (by rfl) (by rfl) | exact op_fieldAddr_elt Try.underlying26 rfl Sz2 (by rfl) (by rfl) (by rfl)) rfl (by dsimp only [zS, zN, zH, zT]) ?_
     refine zst (by first | exact op_load_elt Try.underlying2 (by rfl) (by rfl) (by rfl) | exact op_load_ptr Try.underlying2 (by rfl) (by rfl) (by first | exact hb13 | exact setB_at push_at) (by rfl)) rfl (by dsimp only [zS, zN, zH, zT]) ?_
     refine zst (by first | exact op_fieldAddr_ptr Try.underlying26 rfl Sz2 (by rfl) (by rfl) | exact op_fieldAddr_elt Try.underlying26 rfl Sz2 (by rfl) (by rfl) (by rfl)) rfl (by dsimp only [zS, zN, zH, zT]) ?_
     refine zst (op_storeB (vs := [.d (.v (.int .i64 i))]) (b' := (vBlk 26 k false i [] nilS nilS)) (H' := _) Sz2 (by rfl) (setB_at push_at) (by intro h; cases h) (by rfl) (by rfl) (Nat.le_of_ble_eq_true rfl) (by simp [AV.one, DV.one, TF, S, I, BY]) (by rfl) (by rfl) rfl) rfl (by dsimp only [zS, zN, zH, zT]) ?_
     refine al_end rfl ?_
     refine inBlock_normal ?_
     apply cut_to (false :: false :: true :: true :: false :: true :: false :: false :: false :: false :: false :: false :: false :: false :: false :: false :: false :: false :: false :: false :: false :: false :: false :: false :: false :: false :: false :: false :: false :: false :: false :: false :: false :: false :: false :: false :: false :: false :: false :: false :: false :: false :: false :: false :: false :: false :: false :: false :: false :: false :: false :: false :: false :: false :: false :: false :: false :: false :: false :: false :: false :: false :: false :: false :: false :: false :: false :: false :: false :: false :: false :: false :: false :: false :: false :: false :: false :: false :: false :: false :: false :: false :: false :: false :: false :: false :: false :: false :: false :: false :: false :: false :: false :: false :: false :: false :: false :: false :: false :: false :: false :: false :: false :: false :: false :: false :: false :: false :: false :: false :: false :: false :: false :: false :: [])
     · (try dsimp only [maskT]); try exact rfl
     · rfl
     exact ⟨false, i, [], rfl, (((Ext.refl Hs).push _ _).setB (Nat.le_refl _)).setB (Nat.le_refl _), setB_at (setB_at push_at), by omega, by omega, by simp [only2, *], by simp [only3, *], by simp [only4, *]⟩
    ·
     (try simp only [y1, y2, y3, y4, y5, y6, y7, y8, y9, y0, List.length_map] at hc3)
     have hk2 : ¬ k = 2 := hc3
     refine aw_seq ?_
     refine aw_region ?_
     refine zst (op_eqI (by rfl) (by rfl)) rfl (by dsimp only [zS, zN, zH, zT]) ?_
     refine zst (op_assign_tmp (by rfl)) rfl (by dsimp only [zS, zN, zH, zT]) ?_
     refine al_end rfl ?_
     refine then_normal ?_
     refine aw_cond rfl (fun hc4 => ?_) (fun hc4 => ?_)
     ·
      (try simp only [y1, y2, y3, y4, y5, y6, y7, y8, y9, y0, List.length_map] at hc4)
      have hk3 : k = 3 := hc4
      refine aw_region ?_
      refine zst (by first | exact op_fieldAddr_ptr Try.underlying26 rfl Sz9 (by rfl) (by rfl) | exact op_fieldAddr_elt Try.underlying26 rfl Sz9 (by rfl) (by rfl) (by rfl)) rfl (by dsimp only [zS, zN, zH, zT]) ?_
      refine zst (by first | exact op_load_elt Try.underlying9 (by rfl) (by rfl) (by rfl) | exact op_load_ptr Try.underlying9 (by rfl) (by rfl) (by first | exact hb13 | exact setB_at push_at) (by rfl)) rfl (by dsimp only [zS, zN, zH, zT]) ?_
      refine zst (by first | exact op_fieldAddr_ptr Try.underlying26 rfl Sz9 (by rfl) (by rfl) | exact op_fieldAddr_elt Try.underlying26 rfl Sz9 (by rfl) (by rfl) (by rfl)) rfl (by dsimp only [zS, zN, zH, zT]) ?_
      refine zst (op_storeB (vs := [.d (S tx)]) (b' := (vBlk 26 k false 0 tx nilS nilS)) (H' := _) Sz9 (by rfl) (setB_at push_at) (by intro h; cases h) (by rfl) (by rfl) (Nat.le_of_ble_eq_true rfl) (by simp [AV.one, DV.one, TF, S, I, BY]) (by rfl) (by rfl) rfl) rfl (by dsimp only [zS, zN, zH, zT]) ?_
      refine al_end rfl ?_
      refine inBlock_normal ?_
      apply cut_to (false :: false :: true :: true :: false :: true :: false :: false :: false :: false :: false :: false :: false :: false :: false :: false :: false :: false :: false :: false :: false :: false :: false :: false :: false :: false :: false :: false :: false :: false :: false :: false :: false :: false :: false :: false :: false :: false :: false :: false :: false :: false :: false :: false :: false :: false :: false :: false :: false :: false :: false :: false :: false :: false :: false :: false :: false :: false :: false :: false :: false :: false :: false :: false :: false :: false :: false :: false :: false :: false :: false :: false :: false :: false :: false :: false :: false :: false :: false :: false :: false :: false :: false :: false :: false :: false :: false :: false :: false :: false :: false :: false :: false :: false :: false :: false :: false :: false :: false :: false :: false :: false :: false :: false :: false :: false :: false :: false :: false :: false :: false :: false :: false :: false :: [])
      · (try dsimp only [maskT]); try exact rfl
      · rfl
      exact ⟨false, 0, tx, rfl, (((Ext.refl Hs).push _ _).setB (Nat.le_refl _)).setB (Nat.le_refl _), setB_at (setB_at push_at), by omega, by omega, by simp [only2, *], by simp [only3, *], by simp [only4, *]⟩
     ·
      (try simp only [y1, y2, y3, y4, y5, y6, y7, y8, y9, y0, List.length_map] at hc4)
      have hk3 : ¬ k = 3 := hc4
      refine aw_seq ?_
      refine aw_seq ?_
      refine aw_region ?_
      refine zst (op_eqI (by rfl) (by rfl)) rfl (by dsimp only [zS, zN, zH, zT]) ?_
      refine zst (op_assign_tmp (by rfl)) rfl (by dsimp only [zS, zN, zH, zT]) ?_
      refine al_end rfl ?_
      refine then_normal ?_
      refine aw_cond rfl (fun hc5 => ?_) (fun hc5 => ?_)
      ·
       (try simp only [y1, y2, y3, y4, y5, y6, y7, y8, y9, y0, List.length_map] at hc5)
       first | (have hk4 : k = 4 := hc5; subst hk4) | have hk5 : k = 5 := hc5
       refine aw_skip ?_
       refine then_normal ?_
       refine aw_cond rfl (fun _ => ?_) (fun h => by exact absurd h (by decide))
       refine aw_skip ?_
       refine inBlock_normal ?_
       apply cut_to (false :: false :: true :: true :: false :: true :: false :: false :: false :: false :: false :: false :: false :: false :: false :: false :: false :: false :: false :: false :: false :: false :: false :: false :: false :: false :: false :: false :: false :: false :: false :: false :: false :: false :: false :: false :: false :: false :: false :: false :: false :: false :: false :: false :: false :: false :: false :: false :: false :: false :: false :: false :: false :: false :: false :: false :: false :: false :: false :: false :: false :: false :: false :: false :: false :: false :: false :: false :: false :: false :: false :: false :: false :: false :: false :: false :: false :: false :: false :: false :: false :: false :: false :: false :: false :: false :: false :: false :: false :: false :: false :: false :: false :: false :: false :: false :: false :: false :: false :: false :: false :: false :: false :: false :: false :: false :: false :: false :: false :: false :: false :: false :: false :: false :: [])
       · (try dsimp only [maskT]); try exact rfl
       · rfl
       exact ⟨false, 0, [], rfl, ((Ext.refl Hs).push _ _).setB (Nat.le_refl _), setB_at push_at, by omega, by omega, by simp [only2, *], by simp [only3, *], by simp [only4, *]⟩
      ·
       (try simp only [y1, y2, y3, y4, y5, y6, y7, y8, y9, y0, List.length_map] at hc5)
       refine aw_region ?_
       refine zst (op_eqI (by rfl) (by rfl)) rfl (by dsimp only [zS, zN, zH, zT]) ?_
       refine zst (op_assign_tmp (by rfl)) rfl (by dsimp only [zS, zN, zH, zT]) ?_
       refine al_end rfl ?_
       refine then_normal ?_
       refine aw_cond rfl (fun hc7 => ?_) (fun hc7 => ?_)
       ·
        (try simp only [y1, y2, y3, y4, y5, y6, y7, y8, y9, y0, List.length_map] at hc7)
        first | (have hk4 : k = 4 := hc7; subst hk4) | have hk5 : k = 5 := hc7
        refine aw_skip ?_
        refine inBlock_normal ?_
        apply cut_to (false :: false :: true :: true :: false :: true :: false :: false :: false :: false :: false :: false :: false :: false :: false :: false :: false :: false :: false :: false :: false :: false :: false :: false :: false :: false :: false :: false :: false :: false :: false :: false :: false :: false :: false :: false :: false :: false :: false :: false :: false :: false :: false :: false :: false :: false :: false :: false :: false :: false :: false :: false :: false :: false :: false :: false :: false :: false :: false :: false :: false :: false :: false :: false :: false :: false :: false :: false :: false :: false :: false :: false :: false :: false :: false :: false :: false :: false :: false :: false :: false :: false :: false :: false :: false :: false :: false :: false :: false :: false :: false :: false :: false :: false :: false :: false :: false :: false :: false :: false :: false :: false :: false :: false :: false :: false :: false :: false :: false :: false :: false :: false :: false :: false :: [])
        · (try dsimp only [maskT]); try exact rfl
        · rfl
        exact ⟨false, 0, [], rfl, ((Ext.refl Hs).push _ _).setB (Nat.le_refl _), setB_at push_at, by omega, by omega, by simp [only2, *], by simp [only3, *], by simp [only4, *]⟩
       ·
        (try simp only [y1, y2, y3, y4, y5, y6, y7, y8, y9, y0, List.length_map] at hc7)
        refine aw_seq ?_
        refine aw_region ?_
        refine zst (op_assign_const (by rfl)) rfl (by dsimp only [zS, zN, zH, zT]) ?_
        refine al_end rfl ?_
        refine then_normal ?_
        refine aw_ret ?_
        refine inBlock_ret (cut_ret ?_)
        refine retPost1 rfl rfl ?_
        exact ⟨by rw [right_kind (by omega)]; rfl, ((Ext.refl Hs).push _ _).setB (Nat.le_refl _)⟩
 rintro T H ⟨y2, i2, tx2, rfl, hx, hb13, h0, h5, rfl, rfl, rfl⟩
 refine aw_seq ?_
 apply aw_cutF (fun T H => ∃ (c : Bool), T = (.un :: .un :: (.elt (v6D k y i tx ls fs)) :: (.elt [I D]) :: .un :: .un :: .un :: .un :: .un :: .un :: .un :: .un :: .un :: .un :: .un :: .un :: .un :: .un :: .un :: .un :: .un :: .un :: .un :: .un :: .un :: .un :: .un :: .un :: .un :: .un :: .un :: .un :: .un :: .un :: .un :: .un :: .un :: .un :: .un :: .un :: .un :: .un :: .un :: .un :: .un :: .un :: .un :: .un :: .un :: .un :: .un :: .un :: .un :: .un :: .un :: .un :: .un :: .un :: .un :: .un :: .un :: .un :: .un :: .un :: .un :: .un :: .un :: .un :: .un :: .un :: .un :: .un :: .un :: .un :: .un :: .un :: .un :: (.d (TF c)) :: .un :: .un :: .un :: .un :: .un :: .un :: .un :: .un :: .un :: .un :: .un :: .un :: .un :: .un :: .un :: .un :: .un :: .un :: .un :: .un :: .un :: .un :: .un :: .un :: .un :: .un :: .un :: .un :: .un :: .un :: .un :: .un :: .un :: .un :: .un :: .un :: []) ∧ Ext Hs H ∧ c = wrongV D k y i tx ls fs)
 ·
  refine aw_region ?_
  refine zst (by first | exact op_fieldAddr_ptr Try.underlying26 rfl Sz4 (by rfl) (by rfl) | exact op_fieldAddr_elt Try.underlying26 rfl Sz4 (by rfl) (by rfl) (by rfl)) rfl (by dsimp only [zS, zN, zH, zT]) ?_
  refine zst (by first | exact op_load_elt Try.underlying4 (by rfl) (by rfl) (by rfl) | exact op_load_ptr Try.underlying4 (by rfl) (by rfl) (by first | exact hb13 | exact setB_at push_at) (by rfl)) rfl (by dsimp only [zS, zN, zH, zT]) ?_
  refine zst (by first | exact op_fieldAddr_ptr Try.underlying26 rfl Sz4 (by rfl) (by rfl) | exact op_fieldAddr_elt Try.underlying26 rfl Sz4 (by rfl) (by rfl) (by rfl)) rfl (by dsimp only [zS, zN, zH, zT]) ?_
  refine zst (by first | exact op_load_elt Try.underlying4 (by rfl) (by rfl) (by rfl) | exact op_load_ptr Try.underlying4 (by rfl) (by rfl) (by first | exact hb13 | exact setB_at push_at) (by rfl)) rfl (by dsimp only [zS, zN, zH, zT]) ?_
  refine zst (op_neB Try.underlying4 (by rfl) (by rfl)) rfl (by dsimp only [zS, zN, zH, zT]) ?_
  refine zst (op_move_tmp (by rfl)) rfl (by dsimp only [zS, zN, zH, zT]) ?_
  refine al_split 38 rfl (fun hg8 => ?_) (fun hg8 => ?_)
  ·
   (try simp only [y1, y2, y3, y4, y5, y6, y7, y8, y9, y0, List.length_map] at hg8)
   have g1 : (y != only2 k y) = true := by simpa using hg8
   apply al_normT
   · (try dsimp only [zS, zN, zH, zT]); try exact rfl
   refine zuw rfl rfl rfl rfl (by dsimp only [zS, zN, zH, zT]) ?_
   refine zuw rfl rfl rfl rfl (by dsimp only [zS, zN, zH, zT]) ?_
   refine zuw rfl rfl rfl rfl (by dsimp only [zS, zN, zH, zT]) ?_
   refine zuw rfl rfl rfl rfl (by dsimp only [zS, zN, zH, zT]) ?_
   refine zuw rfl rfl rfl rfl (by dsimp only [zS, zN, zH, zT]) ?_
   refine zst (op_pick_tt (by rfl) (val_const (by rfl))) rfl (by dsimp only [zS, zN, zH, zT]) ?_
   refine zst (op_move_tmp (by rfl)) rfl (by dsimp only [zS, zN, zH, zT]) ?_
   refine zuw rfl rfl rfl rfl (by dsimp only [zS, zN, zH, zT]) ?_
   refine zuw rfl rfl rfl rfl (by dsimp only [zS, zN, zH, zT]) ?_
   refine zuw rfl rfl rfl rfl (by dsimp only [zS, zN, zH, zT]) ?_
   refine zuw rfl rfl rfl rfl (by dsimp only [zS, zN, zH, zT]) ?_
   refine zuw rfl rfl rfl rfl (by dsimp only [zS, zN, zH, zT]) ?_
   refine zst (op_pick_tt (by rfl) (val_const (by rfl))) rfl (by dsimp only [zS, zN, zH, zT]) ?_
   refine zst (op_move_tmp (by rfl)) rfl (by dsimp only [zS, zN, zH, zT]) ?_
   refine zuw rfl rfl rfl rfl (by dsimp only [zS, zN, zH, zT]) ?_
   refine zuw rfl rfl rfl rfl (by dsimp only [zS, zN, zH, zT]) ?_
   refine zuw rfl rfl rfl rfl (by dsimp only [zS, zN, zH, zT]) ?_
   refine zuw rfl rfl rfl rfl (by dsimp only [zS, zN, zH, zT]) ?_
   refine zun rfl rfl rfl (by dsimp only [zS, zN, zH, zT]) ?_
   refine zun rfl rfl rfl (by dsimp only [zS, zN, zH, zT]) ?_
   refine zun rfl rfl rfl (by dsimp only [zS, zN, zH, zT]) ?_
   refine zun rfl rfl rfl (by dsimp only [zS, zN, zH, zT]) ?_
   refine zuw rfl rfl rfl rfl (by dsimp only [zS, zN, zH, zT]) ?_
   refine zst (op_pick_tt (by rfl) (val_const (by rfl))) rfl (by dsimp only [zS, zN, zH, zT]) ?_
   refine zst (op_move_tmp (by rfl)) rfl (by dsimp only [zS, zN, zH, zT]) ?_
   refine zuw rfl rfl rfl rfl (by dsimp only [zS, zN, zH, zT]) ?_
   refine zuw rfl rfl rfl rfl (by dsimp only [zS, zN, zH, zT]) ?_
   refine zuw rfl rfl rfl rfl (by dsimp only [zS, zN, zH, zT]) ?_
   refine zuw rfl rfl rfl rfl (by dsimp only [zS, zN, zH, zT]) ?_
   refine zun rfl rfl rfl (by dsimp only [zS, zN, zH, zT]) ?_
   refine zun rfl rfl rfl (by dsimp only [zS, zN, zH, zT]) ?_
   refine zun rfl rfl rfl (by dsimp only [zS, zN, zH, zT]) ?_
   refine zun rfl rfl rfl (by dsimp only [zS, zN, zH, zT]) ?_
   refine zuw rfl rfl rfl rfl (by dsimp only [zS, zN, zH, zT]) ?_
   refine zst (op_pick_tt (by rfl) (val_const (by rfl))) rfl (by dsimp only [zS, zN, zH, zT]) ?_
   refine zst (op_move_tmp (by rfl)) rfl (by dsimp only [zS, zN, zH, zT]) ?_
   refine zuw rfl rfl rfl rfl (by dsimp only [zS, zN, zH, zT]) ?_
   refine zuw rfl rfl rfl rfl (by dsimp only [zS, zN, zH, zT]) ?_
   refine zst (op_pick_tt (by rfl) (val_const (by rfl))) rfl (by dsimp only [zS, zN, zH, zT]) ?_
   refine al_end rfl ?_
   apply cut_to (false :: false :: true :: true :: false :: false :: false :: false :: false :: false :: false :: false :: false :: false :: false :: false :: false :: false :: false :: false :: false :: false :: false :: false :: false :: false :: false :: false :: false :: false :: false :: false :: false :: false :: false :: false :: false :: false :: false :: false :: false :: false :: false :: false :: false :: false :: false :: false :: false :: false :: false :: false :: false :: false :: false :: false :: false :: false :: false :: false :: false :: false :: false :: false :: false :: false :: false :: false :: false :: false :: false :: false :: false :: false :: false :: false :: false :: true :: false :: false :: false :: false :: false :: false :: false :: false :: false :: false :: false :: false :: false :: false :: false :: false :: false :: false :: false :: false :: false :: false :: false :: false :: false :: false :: false :: false :: false :: false :: false :: false :: false :: false :: false :: false :: [])
   · (try dsimp only [maskT]); try exact rfl
   · rfl
   exact ⟨true, rfl, hx, by simp only [wrongV, g1, Bool.true_or, Bool.or_true, Bool.false_or, Bool.and_true, Bool.true_and, Bool.false_and, Bool.or_false]⟩
  ·
   (try simp only [y1, y2, y3, y4, y5, y6, y7, y8, y9, y0, List.length_map] at hg8)
   have g1 : (y != only2 k y) = false := by simpa using hg8
   apply al_normT
   · (try dsimp only [zS, zN, zH, zT]); try exact rfl
   refine zsw rfl rfl rfl (by first | exact op_fieldAddr_ptr Try.underlying26 rfl Sz2 (by rfl) (by rfl) | exact op_fieldAddr_elt Try.underlying26 rfl Sz2 (by rfl) (by rfl) (by rfl)) (by dsimp only [zS, zN, zH, zT]) ?_
   refine zsw rfl rfl rfl (by first | exact op_load_elt Try.underlying2 (by rfl) (by rfl) (by rfl) | exact op_load_ptr Try.underlying2 (by rfl) (by rfl) (by first | exact hb13 | exact setB_at push_at) (by rfl)) (by dsimp only [zS, zN, zH, zT]) ?_
   refine zsw rfl rfl rfl (by first | exact op_fieldAddr_ptr Try.underlying26 rfl Sz2 (by rfl) (by rfl) | exact op_fieldAddr_elt Try.underlying26 rfl Sz2 (by rfl) (by rfl) (by rfl)) (by dsimp only [zS, zN, zH, zT]) ?_
   refine zsw rfl rfl rfl (by first | exact op_load_elt Try.underlying2 (by rfl) (by rfl) (by rfl) | exact op_load_ptr Try.underlying2 (by rfl) (by rfl) (by first | exact hb13 | exact setB_at push_at) (by rfl)) (by dsimp only [zS, zN, zH, zT]) ?_
   refine zsw rfl rfl rfl (op_neI (by rfl) (by rfl)) (by dsimp only [zS, zN, zH, zT]) ?_
   refine zst (op_pick_ff (by rfl) (val_tmp (by rfl))) rfl (by dsimp only [zS, zN, zH, zT]) ?_
   refine zst (op_move_tmp (by rfl)) rfl (by dsimp only [zS, zN, zH, zT]) ?_
   refine al_split 45 rfl (fun hg9 => ?_) (fun hg9 => ?_)
   ·
    (try simp only [y1, y2, y3, y4, y5, y6, y7, y8, y9, y0, List.length_map] at hg9)
    have g2 : (i != only3 k i) = true := by simpa using hg9
    apply al_normT
    · (try dsimp only [zS, zN, zH, zT]); try exact rfl
    refine zuw rfl rfl rfl rfl (by dsimp only [zS, zN, zH, zT]) ?_
    refine zuw rfl rfl rfl rfl (by dsimp only [zS, zN, zH, zT]) ?_
    refine zuw rfl rfl rfl rfl (by dsimp only [zS, zN, zH, zT]) ?_
    refine zuw rfl rfl rfl rfl (by dsimp only [zS, zN, zH, zT]) ?_
    refine zuw rfl rfl rfl rfl (by dsimp only [zS, zN, zH, zT]) ?_
    refine zst (op_pick_tt (by rfl) (val_const (by rfl))) rfl (by dsimp only [zS, zN, zH, zT]) ?_
    refine zst (op_move_tmp (by rfl)) rfl (by dsimp only [zS, zN, zH, zT]) ?_
    refine zuw rfl rfl rfl rfl (by dsimp only [zS, zN, zH, zT]) ?_
    refine zuw rfl rfl rfl rfl (by dsimp only [zS, zN, zH, zT]) ?_
    refine zuw rfl rfl rfl rfl (by dsimp only [zS, zN, zH, zT]) ?_
    refine zuw rfl rfl rfl rfl (by dsimp only [zS, zN, zH, zT]) ?_
    refine zun rfl rfl rfl (by dsimp only [zS, zN, zH, zT]) ?_
    refine zun rfl rfl rfl (by dsimp only [zS, zN, zH, zT]) ?_
    refine zun rfl rfl rfl (by dsimp only [zS, zN, zH, zT]) ?_
    refine zun rfl rfl rfl (by dsimp only [zS, zN, zH, zT]) ?_
    refine zuw rfl rfl rfl rfl (by dsimp only [zS, zN, zH, zT]) ?_
    refine zst (op_pick_tt (by rfl) (val_const (by rfl))) rfl (by dsimp only [zS, zN, zH, zT]) ?_
    refine zst (op_move_tmp (by rfl)) rfl (by dsimp only [zS, zN, zH, zT]) ?_
    refine zuw rfl rfl rfl rfl (by dsimp only [zS, zN, zH, zT]) ?_
    refine zuw rfl rfl rfl rfl (by dsimp only [zS, zN, zH, zT]) ?_
    refine zuw rfl rfl rfl rfl (by dsimp only [zS, zN, zH, zT]) ?_
    refine zuw rfl rfl rfl rfl (by dsimp only [zS, zN, zH, zT]) ?_
    refine zun rfl rfl rfl (by dsimp only [zS, zN, zH, zT]) ?_
    refine zun rfl rfl rfl (by dsimp only [zS, zN, zH, zT]) ?_
    refine zun rfl rfl rfl (by dsimp only [zS, zN, zH, zT]) ?_
    refine zun rfl rfl rfl (by dsimp only [zS, zN, zH, zT]) ?_
    refine zuw rfl rfl rfl rfl (by dsimp only [zS, zN, zH, zT]) ?_
    refine zst (op_pick_tt (by rfl) (val_const (by rfl))) rfl (by dsimp only [zS, zN, zH, zT]) ?_
    refine zst (op_move_tmp (by rfl)) rfl (by dsimp only [zS, zN, zH, zT]) ?_
    refine zuw rfl rfl rfl rfl (by dsimp only [zS, zN, zH, zT]) ?_
    refine zuw rfl rfl rfl rfl (by dsimp only [zS, zN, zH, zT]) ?_
    refine zst (op_pick_tt (by rfl) (val_const (by rfl))) rfl (by dsimp only [zS, zN, zH, zT]) ?_
    refine al_end rfl ?_
    apply cut_to (false :: false :: true :: true :: false :: false :: false :: false :: false :: false :: false :: false :: false :: false :: false :: false :: false :: false :: false :: false :: false :: false :: false :: false :: false :: false :: false :: false :: false :: false :: false :: false :: false :: false :: false :: false :: false :: false :: false :: false :: false :: false :: false :: false :: false :: false :: false :: false :: false :: false :: false :: false :: false :: false :: false :: false :: false :: false :: false :: false :: false :: false :: false :: false :: false :: false :: false :: false :: false :: false :: false :: false :: false :: false :: false :: false :: false :: true :: false :: false :: false :: false :: false :: false :: false :: false :: false :: false :: false :: false :: false :: false :: false :: false :: false :: false :: false :: false :: false :: false :: false :: false :: false :: false :: false :: false :: false :: false :: false :: false :: false :: false :: false :: false :: [])
    · (try dsimp only [maskT]); try exact rfl
    · rfl
    exact ⟨true, rfl, hx, by simp only [wrongV, g1, g2, Bool.true_or, Bool.or_true, Bool.false_or, Bool.and_true, Bool.true_and, Bool.false_and, Bool.or_false]⟩
   ·
    (try simp only [y1, y2, y3, y4, y5, y6, y7, y8, y9, y0, List.length_map] at hg9)
    have g2 : (i != only3 k i) = false := by simpa using hg9
    apply al_normT
    · (try dsimp only [zS, zN, zH, zT]); try exact rfl
    refine zsw rfl rfl rfl (by first | exact op_fieldAddr_ptr Try.underlying26 rfl Sz9 (by rfl) (by rfl) | exact op_fieldAddr_elt Try.underlying26 rfl Sz9 (by rfl) (by rfl) (by rfl)) (by dsimp only [zS, zN, zH, zT]) ?_
    refine zsw rfl rfl rfl (by first | exact op_load_elt Try.underlying9 (by rfl) (by rfl) (by rfl) | exact op_load_ptr Try.underlying9 (by rfl) (by rfl) (by first | exact hb13 | exact setB_at push_at) (by rfl)) (by dsimp only [zS, zN, zH, zT]) ?_
    refine zsw rfl rfl rfl (by first | exact op_fieldAddr_ptr Try.underlying26 rfl Sz9 (by rfl) (by rfl) | exact op_fieldAddr_elt Try.underlying26 rfl Sz9 (by rfl) (by rfl) (by rfl)) (by dsimp only [zS, zN, zH, zT]) ?_
    refine zsw rfl rfl rfl (by first | exact op_load_elt Try.underlying9 (by rfl) (by rfl) (by rfl) | exact op_load_ptr Try.underlying9 (by rfl) (by rfl) (by first | exact hb13 | exact setB_at push_at) (by rfl)) (by dsimp only [zS, zN, zH, zT]) ?_
    refine zsw rfl rfl rfl (op_neS (by rfl) (by rfl)) (by dsimp only [zS, zN, zH, zT]) ?_
    refine zst (op_pick_ff (by rfl) (val_tmp (by rfl))) rfl (by dsimp only [zS, zN, zH, zT]) ?_
    refine zst (op_move_tmp (by rfl)) rfl (by dsimp only [zS, zN, zH, zT]) ?_
    refine al_split 52 rfl (fun hg10 => ?_) (fun hg10 => ?_)
    ·
     (try simp only [y1, y2, y3, y4, y5, y6, y7, y8, y9, y0, List.length_map] at hg10)
     have g3 : (!(tx == only4 k tx)) = true := by simpa using hg10
     apply al_normT
     · (try dsimp only [zS, zN, zH, zT]); try exact rfl
     refine zuw rfl rfl rfl rfl (by dsimp only [zS, zN, zH, zT]) ?_
     refine zuw rfl rfl rfl rfl (by dsimp only [zS, zN, zH, zT]) ?_
     refine zuw rfl rfl rfl rfl (by dsimp only [zS, zN, zH, zT]) ?_
     refine zuw rfl rfl rfl rfl (by dsimp only [zS, zN, zH, zT]) ?_
     refine zun rfl rfl rfl (by dsimp only [zS, zN, zH, zT]) ?_
     refine zun rfl rfl rfl (by dsimp only [zS, zN, zH, zT]) ?_
     refine zun rfl rfl rfl (by dsimp only [zS, zN, zH, zT]) ?_
     refine zun rfl rfl rfl (by dsimp only [zS, zN, zH, zT]) ?_
     refine zuw rfl rfl rfl rfl (by dsimp only [zS, zN, zH, zT]) ?_
     refine zst (op_pick_tt (by rfl) (val_const (by rfl))) rfl (by dsimp only [zS, zN, zH, zT]) ?_
     refine zst (op_move_tmp (by rfl)) rfl (by dsimp only [zS, zN, zH, zT]) ?_
     refine zuw rfl rfl rfl rfl (by dsimp only [zS, zN, zH, zT]) ?_
     refine zuw rfl rfl rfl rfl (by dsimp only [zS, zN, zH, zT]) ?_
     refine zuw rfl rfl rfl rfl (by dsimp only [zS, zN, zH, zT]) ?_
     refine zuw rfl rfl rfl rfl (by dsimp only [zS, zN, zH, zT]) ?_
     refine zun rfl rfl rfl (by dsimp only [zS, zN, zH, zT]) ?_
     refine zun rfl rfl rfl (by dsimp only [zS, zN, zH, zT]) ?_
     refine zun rfl rfl rfl (by dsimp only [zS, zN, zH, zT]) ?_
     refine zun rfl rfl rfl (by dsimp only [zS, zN, zH, zT]) ?_
     refine zuw rfl rfl rfl rfl (by dsimp only [zS, zN, zH, zT]) ?_
     refine zst (op_pick_tt (by rfl) (val_const (by rfl))) rfl (by dsimp only [zS, zN, zH, zT]) ?_
     refine zst (op_move_tmp (by rfl)) rfl (by dsimp only [zS, zN, zH, zT]) ?_
     refine zuw rfl rfl rfl rfl (by dsimp only [zS, zN, zH, zT]) ?_
     refine zuw rfl rfl rfl rfl (by dsimp only [zS, zN, zH, zT]) ?_
     refine zst (op_pick_tt (by rfl) (val_const (by rfl))) rfl (by dsimp only [zS, zN, zH, zT]) ?_
     refine al_end rfl ?_
     apply cut_to (false :: false :: true :: true :: false :: false :: false :: false :: false :: false :: false :: false :: false :: false :: false :: false :: false :: false :: false :: false :: false :: false :: false :: false :: false :: false :: false :: false :: false :: false :: false :: false :: false :: false :: false :: false :: false :: false :: false :: false :: false :: false :: false :: false :: false :: false :: false :: false :: false :: false :: false :: false :: false :: false :: false :: false :: false :: false :: false :: false :: false :: false :: false :: false :: false :: false :: false :: false :: false :: false :: false :: false :: false :: false :: false :: false :: false :: true :: false :: false :: false :: false :: false :: false :: false :: false :: false :: false :: false :: false :: false :: false :: false :: false :: false :: false :: false :: false :: false :: false :: false :: false :: false :: false :: false :: false :: false :: false :: false :: false :: false :: false :: false :: false :: [])
     · (try dsimp only [maskT]); try exact rfl
     · rfl
     exact ⟨true, rfl, hx, by simp only [wrongV, g1, g2, g3, Bool.true_or, Bool.or_true, Bool.false_or, Bool.and_true, Bool.true_and, Bool.false_and, Bool.or_false]⟩
    ·
     (try simp only [y1, y2, y3, y4, y5, y6, y7, y8, y9, y0, List.length_map] at hg10)
     have g3 : (!(tx == only4 k tx)) = false := by simpa using hg10
     apply al_normT
     · (try dsimp only [zS, zN, zH, zT]); try exact rfl
     refine zsw rfl rfl rfl (by first | exact op_fieldAddr_ptr Try.underlying26 rfl Sz23 (by rfl) (by rfl) | exact op_fieldAddr_elt Try.underlying26 rfl Sz23 (by rfl) (by rfl) (by rfl)) (by dsimp only [zS, zN, zH, zT]) ?_
     refine zsw rfl rfl rfl (by first | exact op_load_elt Try.underlying23 (by rfl) (by rfl) (by rfl) | exact op_load_ptr Try.underlying23 (by rfl) (by rfl) (by first | exact hb13 | exact setB_at push_at) (by rfl)) (by dsimp only [zS, zN, zH, zT]) ?_
     refine zsw rfl rfl rfl (op_neI (by rfl) (by rfl)) (by dsimp only [zS, zN, zH, zT]) ?_
     refine zsw rfl rfl rfl (op_move_tmp (by rfl)) (by dsimp only [zS, zN, zH, zT]) ?_
     refine al_split 56 rfl (fun hg11 => ?_) (fun hg11 => ?_)
     ·
      (try simp only [y1, y2, y3, y4, y5, y6, y7, y8, y9, y0, List.length_map] at hg11)
      have g4 : (k != 4) = true := by simpa using hg11
      apply al_normT
      · (try dsimp only [zS, zN, zH, zT]); try exact rfl
      refine zsw rfl rfl rfl (by first | exact op_fieldAddr_ptr Try.underlying26 rfl Sz24 (by rfl) (by rfl) | exact op_fieldAddr_elt Try.underlying26 rfl Sz24 (by rfl) (by rfl) (by rfl)) (by dsimp only [zS, zN, zH, zT]) ?_
      refine zsw rfl rfl rfl (by first | exact op_load_elt Try.underlying24 (by rfl) (by rfl) (by rfl) | exact op_load_ptr Try.underlying24 (by rfl) (by rfl) (by first | exact hb13 | exact setB_at push_at) (by rfl)) (by dsimp only [zS, zN, zH, zT]) ?_
      refine zsw rfl rfl rfl (op_lenL Try.underlying24 (by first | exact LL.d _ _ | exact LL.own _ _ _ | exact LL.nil _ | assumption)) (by dsimp only [zS, zN, zH, zT]) ?_
      refine zsw rfl rfl rfl (op_gtI (by rfl) (by rfl)) (by dsimp only [zS, zN, zH, zT]) ?_
      refine zsw rfl rfl rfl (op_pick_tt (by rfl) (val_tmp (by rfl))) (by dsimp only [zS, zN, zH, zT]) ?_
      refine zst (op_pick_ff (by rfl) (val_tmp (by rfl))) rfl (by dsimp only [zS, zN, zH, zT]) ?_
      refine zst (op_move_tmp (by rfl)) rfl (by dsimp only [zS, zN, zH, zT]) ?_
      refine al_split 63 rfl (fun hg12 => ?_) (fun hg12 => ?_)
      ·
       (try simp only [y1, y2, y3, y4, y5, y6, y7, y8, y9, y0, List.length_map] at hg12)
       have g5 : decide (0 < (ls.length : Int)) = true := by simpa using hg12
       apply al_normT
       · (try dsimp only [zS, zN, zH, zT]); try exact rfl
       refine zuw rfl rfl rfl rfl (by dsimp only [zS, zN, zH, zT]) ?_
       refine zuw rfl rfl rfl rfl (by dsimp only [zS, zN, zH, zT]) ?_
       refine zuw rfl rfl rfl rfl (by dsimp only [zS, zN, zH, zT]) ?_
       refine zuw rfl rfl rfl rfl (by dsimp only [zS, zN, zH, zT]) ?_
       refine zun rfl rfl rfl (by dsimp only [zS, zN, zH, zT]) ?_
       refine zun rfl rfl rfl (by dsimp only [zS, zN, zH, zT]) ?_
       refine zun rfl rfl rfl (by dsimp only [zS, zN, zH, zT]) ?_
       refine zun rfl rfl rfl (by dsimp only [zS, zN, zH, zT]) ?_
       refine zuw rfl rfl rfl rfl (by dsimp only [zS, zN, zH, zT]) ?_
       refine zst (op_pick_tt (by rfl) (val_const (by rfl))) rfl (by dsimp only [zS, zN, zH, zT]) ?_
       refine zst (op_move_tmp (by rfl)) rfl (by dsimp only [zS, zN, zH, zT]) ?_
       refine zuw rfl rfl rfl rfl (by dsimp only [zS, zN, zH, zT]) ?_
       refine zuw rfl rfl rfl rfl (by dsimp only [zS, zN, zH, zT]) ?_
       refine zst (op_pick_tt (by rfl) (val_const (by rfl))) rfl (by dsimp only [zS, zN, zH, zT]) ?_
       refine al_end rfl ?_
       apply cut_to (false :: false :: true :: true :: false :: false :: false :: false :: false :: false :: false :: false :: false :: false :: false :: false :: false :: false :: false :: false :: false :: false :: false :: false :: false :: false :: false :: false :: false :: false :: false :: false :: false :: false :: false :: false :: false :: false :: false :: false :: false :: false :: false :: false :: false :: false :: false :: false :: false :: false :: false :: false :: false :: false :: false :: false :: false :: false :: false :: false :: false :: false :: false :: false :: false :: false :: false :: false :: false :: false :: false :: false :: false :: false :: false :: false :: false :: true :: false :: false :: false :: false :: false :: false :: false :: false :: false :: false :: false :: false :: false :: false :: false :: false :: false :: false :: false :: false :: false :: false :: false :: false :: false :: false :: false :: false :: false :: false :: false :: false :: false :: false :: false :: false :: [])
       · (try dsimp only [maskT]); try exact rfl
       · rfl
       exact ⟨true, rfl, hx, by simp only [wrongV, g1, g2, g3, g4, g5, Bool.true_or, Bool.or_true, Bool.false_or, Bool.and_true, Bool.true_and, Bool.false_and, Bool.or_false]⟩
      ·
       (try simp only [y1, y2, y3, y4, y5, y6, y7, y8, y9, y0, List.length_map] at hg12)
       have g5 : decide (0 < (ls.length : Int)) = false := by simpa using hg12
       apply al_normT
       · (try dsimp only [zS, zN, zH, zT]); try exact rfl
       refine zsw rfl rfl rfl (by first | exact op_fieldAddr_ptr Try.underlying26 rfl Sz23 (by rfl) (by rfl) | exact op_fieldAddr_elt Try.underlying26 rfl Sz23 (by rfl) (by rfl) (by rfl)) (by dsimp only [zS, zN, zH, zT]) ?_
       refine zsw rfl rfl rfl (by first | exact op_load_elt Try.underlying23 (by rfl) (by rfl) (by rfl) | exact op_load_ptr Try.underlying23 (by rfl) (by rfl) (by first | exact hb13 | exact setB_at push_at) (by rfl)) (by dsimp only [zS, zN, zH, zT]) ?_
       refine zsw rfl rfl rfl (op_neI (by rfl) (by rfl)) (by dsimp only [zS, zN, zH, zT]) ?_
       refine zsw rfl rfl rfl (op_move_tmp (by rfl)) (by dsimp only [zS, zN, zH, zT]) ?_
       refine al_split 67 rfl (fun hg13 => ?_) (fun hg13 => ?_)
       ·
        (try simp only [y1, y2, y3, y4, y5, y6, y7, y8, y9, y0, List.length_map] at hg13)
        have g6 : (k != 5) = true := by simpa using hg13
        apply al_normT
        · (try dsimp only [zS, zN, zH, zT]); try exact rfl
        refine zsw rfl rfl rfl (by first | exact op_fieldAddr_ptr Try.underlying26 rfl Sz22 (by rfl) (by rfl) | exact op_fieldAddr_elt Try.underlying26 rfl Sz22 (by rfl) (by rfl) (by rfl)) (by dsimp only [zS, zN, zH, zT]) ?_
        refine zsw rfl rfl rfl (by first | exact op_load_elt Try.underlying22 (by rfl) (by rfl) (by rfl) | exact op_load_ptr Try.underlying22 (by rfl) (by rfl) (by first | exact hb13 | exact setB_at push_at) (by rfl)) (by dsimp only [zS, zN, zH, zT]) ?_
        refine zsw rfl rfl rfl (op_lenL Try.underlying22 (by first | exact LL.d _ _ | exact LL.own _ _ _ | exact LL.nil _ | assumption)) (by dsimp only [zS, zN, zH, zT]) ?_
        refine zsw rfl rfl rfl (op_gtI (by rfl) (by rfl)) (by dsimp only [zS, zN, zH, zT]) ?_
        refine zsw rfl rfl rfl (op_pick_tt (by rfl) (val_tmp (by rfl))) (by dsimp only [zS, zN, zH, zT]) ?_
        refine zst (op_pick_ff (by rfl) (val_tmp (by rfl))) rfl (by dsimp only [zS, zN, zH, zT]) ?_
        refine zst (op_move_tmp (by rfl)) rfl (by dsimp only [zS, zN, zH, zT]) ?_
        refine al_split 74 rfl (fun hg14 => ?_) (fun hg14 => ?_)
        ·
         (try simp only [y1, y2, y3, y4, y5, y6, y7, y8, y9, y0, List.length_map] at hg14)
         have g7 : decide (0 < (fs.length : Int)) = true := by simpa using hg14
         apply al_normT
         · (try dsimp only [zS, zN, zH, zT]); try exact rfl
         refine zuw rfl rfl rfl rfl (by dsimp only [zS, zN, zH, zT]) ?_
         refine zuw rfl rfl rfl rfl (by dsimp only [zS, zN, zH, zT]) ?_
         refine zst (op_pick_tt (by rfl) (val_const (by rfl))) rfl (by dsimp only [zS, zN, zH, zT]) ?_
         refine al_end rfl ?_
         apply cut_to (false :: false :: true :: true :: false :: false :: false :: false :: false :: false :: false :: false :: false :: false :: false :: false :: false :: false :: false :: false :: false :: false :: false :: false :: false :: false :: false :: false :: false :: false :: false :: false :: false :: false :: false :: false :: false :: false :: false :: false :: false :: false :: false :: false :: false :: false :: false :: false :: false :: false :: false :: false :: false :: false :: false :: false :: false :: false :: false :: false :: false :: false :: false :: false :: false :: false :: false :: false :: false :: false :: false :: false :: false :: false :: false :: false :: false :: true :: false :: false :: false :: false :: false :: false :: false :: false :: false :: false :: false :: false :: false :: false :: false :: false :: false :: false :: false :: false :: false :: false :: false :: false :: false :: false :: false :: false :: false :: false :: false :: false :: false :: false :: false :: false :: [])
         · (try dsimp only [maskT]); try exact rfl
         · rfl
         exact ⟨true, rfl, hx, by simp only [wrongV, g1, g2, g3, g4, g5, g6, g7, Bool.true_or, Bool.or_true, Bool.false_or, Bool.and_true, Bool.true_and, Bool.false_and, Bool.or_false]⟩
        ·
         (try simp only [y1, y2, y3, y4, y5, y6, y7, y8, y9, y0, List.length_map] at hg14)
         have g7 : decide (0 < (fs.length : Int)) = false := by simpa using hg14
         apply al_normT
         · (try dsimp only [zS, zN, zH, zT]); try exact rfl
         refine zsw rfl rfl rfl (by first | exact op_load_elt Try.underlying3 (by rfl) (by rfl) (by rfl) | exact op_load_ptr Try.underlying3 (by rfl) (by rfl) (by first | exact hb13 | exact setB_at push_at) (by rfl)) (by dsimp only [zS, zN, zH, zT]) ?_
         refine zsw rfl rfl rfl (op_ltI (by rfl) (by rfl)) (by dsimp only [zS, zN, zH, zT]) ?_
         refine zst (op_pick_ff (by rfl) (val_tmp (by rfl))) rfl (by dsimp only [zS, zN, zH, zT]) ?_
         refine al_end rfl ?_
         apply cut_to (false :: false :: true :: true :: false :: false :: false :: false :: false :: false :: false :: false :: false :: false :: false :: false :: false :: false :: false :: false :: false :: false :: false :: false :: false :: false :: false :: false :: false :: false :: false :: false :: false :: false :: false :: false :: false :: false :: false :: false :: false :: false :: false :: false :: false :: false :: false :: false :: false :: false :: false :: false :: false :: false :: false :: false :: false :: false :: false :: false :: false :: false :: false :: false :: false :: false :: false :: false :: false :: false :: false :: false :: false :: false :: false :: false :: false :: true :: false :: false :: false :: false :: false :: false :: false :: false :: false :: false :: false :: false :: false :: false :: false :: false :: false :: false :: false :: false :: false :: false :: false :: false :: false :: false :: false :: false :: false :: false :: false :: false :: false :: false :: false :: false :: [])
         · (try dsimp only [maskT]); try exact rfl
         · rfl
         exact ⟨decide ((D : Int) < 1), rfl, hx, by simp only [wrongV, g1, g2, g3, g4, g5, g6, g7, Bool.true_or, Bool.or_true, Bool.false_or, Bool.and_true, Bool.true_and, Bool.false_and, Bool.or_false]⟩
       ·
        (try simp only [y1, y2, y3, y4, y5, y6, y7, y8, y9, y0, List.length_map] at hg13)
        have g6 : (k != 5) = false := by simpa using hg13
        apply al_normT
        · (try dsimp only [zS, zN, zH, zT]); try exact rfl
        refine zuw rfl rfl rfl rfl (by dsimp only [zS, zN, zH, zT]) ?_
        refine zuw rfl rfl rfl rfl (by dsimp only [zS, zN, zH, zT]) ?_
        refine zuw rfl rfl rfl rfl (by dsimp only [zS, zN, zH, zT]) ?_
        refine zuw rfl rfl rfl rfl (by dsimp only [zS, zN, zH, zT]) ?_
        refine zsw rfl rfl rfl (op_pick_ff (by rfl) (val_const (by rfl))) (by dsimp only [zS, zN, zH, zT]) ?_
        refine zst (op_pick_ff (by rfl) (val_tmp (by rfl))) rfl (by dsimp only [zS, zN, zH, zT]) ?_
        refine zst (op_move_tmp (by rfl)) rfl (by dsimp only [zS, zN, zH, zT]) ?_
        refine zsw rfl rfl rfl (by first | exact op_load_elt Try.underlying3 (by rfl) (by rfl) (by rfl) | exact op_load_ptr Try.underlying3 (by rfl) (by rfl) (by first | exact hb13 | exact setB_at push_at) (by rfl)) (by dsimp only [zS, zN, zH, zT]) ?_
        refine zsw rfl rfl rfl (op_ltI (by rfl) (by rfl)) (by dsimp only [zS, zN, zH, zT]) ?_
        refine zst (op_pick_ff (by rfl) (val_tmp (by rfl))) rfl (by dsimp only [zS, zN, zH, zT]) ?_
        refine al_end rfl ?_
        apply cut_to (false :: false :: true :: true :: false :: false :: false :: false :: false :: false :: false :: false :: false :: false :: false :: false :: false :: false :: false :: false :: false :: false :: false :: false :: false :: false :: false :: false :: false :: false :: false :: false :: false :: false :: false :: false :: false :: false :: false :: false :: false :: false :: false :: false :: false :: false :: false :: false :: false :: false :: false :: false :: false :: false :: false :: false :: false :: false :: false :: false :: false :: false :: false :: false :: false :: false :: false :: false :: false :: false :: false :: false :: false :: false :: false :: false :: false :: true :: false :: false :: false :: false :: false :: false :: false :: false :: false :: false :: false :: false :: false :: false :: false :: false :: false :: false :: false :: false :: false :: false :: false :: false :: false :: false :: false :: false :: false :: false :: false :: false :: false :: false :: false :: false :: [])
        · (try dsimp only [maskT]); try exact rfl
        · rfl
        exact ⟨decide ((D : Int) < 1), rfl, hx, by simp only [wrongV, g1, g2, g3, g4, g5, g6, Bool.true_or, Bool.or_true, Bool.false_or, Bool.and_true, Bool.true_and, Bool.false_and, Bool.or_false]⟩
     ·
      (try simp only [y1, y2, y3, y4, y5, y6, y7, y8, y9, y0, List.length_map] at hg11)
      have g4 : (k != 4) = false := by simpa using hg11
      apply al_normT
      · (try dsimp only [zS, zN, zH, zT]); try exact rfl
      refine zuw rfl rfl rfl rfl (by dsimp only [zS, zN, zH, zT]) ?_
      refine zuw rfl rfl rfl rfl (by dsimp only [zS, zN, zH, zT]) ?_
      refine zuw rfl rfl rfl rfl (by dsimp only [zS, zN, zH, zT]) ?_
      refine zuw rfl rfl rfl rfl (by dsimp only [zS, zN, zH, zT]) ?_
      refine zsw rfl rfl rfl (op_pick_ff (by rfl) (val_const (by rfl))) (by dsimp only [zS, zN, zH, zT]) ?_
      refine zst (op_pick_ff (by rfl) (val_tmp (by rfl))) rfl (by dsimp only [zS, zN, zH, zT]) ?_
      refine zst (op_move_tmp (by rfl)) rfl (by dsimp only [zS, zN, zH, zT]) ?_
      refine zsw rfl rfl rfl (by first | exact op_fieldAddr_ptr Try.underlying26 rfl Sz23 (by rfl) (by rfl) | exact op_fieldAddr_elt Try.underlying26 rfl Sz23 (by rfl) (by rfl) (by rfl)) (by dsimp only [zS, zN, zH, zT]) ?_
      refine zsw rfl rfl rfl (by first | exact op_load_elt Try.underlying23 (by rfl) (by rfl) (by rfl) | exact op_load_ptr Try.underlying23 (by rfl) (by rfl) (by first | exact hb13 | exact setB_at push_at) (by rfl)) (by dsimp only [zS, zN, zH, zT]) ?_
      refine zsw rfl rfl rfl (op_neI (by rfl) (by rfl)) (by dsimp only [zS, zN, zH, zT]) ?_
      refine zsw rfl rfl rfl (op_move_tmp (by rfl)) (by dsimp only [zS, zN, zH, zT]) ?_
      refine al_split 67 rfl (fun hg15 => ?_) (fun hg15 => ?_)
      ·
       (try simp only [y1, y2, y3, y4, y5, y6, y7, y8, y9, y0, List.length_map] at hg15)
       have g6 : (k != 5) = true := by simpa using hg15
       apply al_normT
       · (try dsimp only [zS, zN, zH, zT]); try exact rfl
       refine zsw rfl rfl rfl (by first | exact op_fieldAddr_ptr Try.underlying26 rfl Sz22 (by rfl) (by rfl) | exact op_fieldAddr_elt Try.underlying26 rfl Sz22 (by rfl) (by rfl) (by rfl)) (by dsimp only [zS, zN, zH, zT]) ?_
       refine zsw rfl rfl rfl (by first | exact op_load_elt Try.underlying22 (by rfl) (by rfl) (by rfl) | exact op_load_ptr Try.underlying22 (by rfl) (by rfl) (by first | exact hb13 | exact setB_at push_at) (by rfl)) (by dsimp only [zS, zN, zH, zT]) ?_
       refine zsw rfl rfl rfl (op_lenL Try.underlying22 (by first | exact LL.d _ _ | exact LL.own _ _ _ | exact LL.nil _ | assumption)) (by dsimp only [zS, zN, zH, zT]) ?_
       refine zsw rfl rfl rfl (op_gtI (by rfl) (by rfl)) (by dsimp only [zS, zN, zH, zT]) ?_
       refine zsw rfl rfl rfl (op_pick_tt (by rfl) (val_tmp (by rfl))) (by dsimp only [zS, zN, zH, zT]) ?_
       refine zst (op_pick_ff (by rfl) (val_tmp (by rfl))) rfl (by dsimp only [zS, zN, zH, zT]) ?_
       refine zst (op_move_tmp (by rfl)) rfl (by dsimp only [zS, zN, zH, zT]) ?_
       refine al_split 74 rfl (fun hg16 => ?_) (fun hg16 => ?_)
       ·
        (try simp only [y1, y2, y3, y4, y5, y6, y7, y8, y9, y0, List.length_map] at hg16)
        have g7 : decide (0 < (fs.length : Int)) = true := by simpa using hg16
        apply al_normT
        · (try dsimp only [zS, zN, zH, zT]); try exact rfl
        refine zuw rfl rfl rfl rfl (by dsimp only [zS, zN, zH, zT]) ?_
        refine zuw rfl rfl rfl rfl (by dsimp only [zS, zN, zH, zT]) ?_
        refine zst (op_pick_tt (by rfl) (val_const (by rfl))) rfl (by dsimp only [zS, zN, zH, zT]) ?_
        refine al_end rfl ?_
        apply cut_to (false :: false :: true :: true :: false :: false :: false :: false :: false :: false :: false :: false :: false :: false :: false :: false :: false :: false :: false :: false :: false :: false :: false :: false :: false :: false :: false :: false :: false :: false :: false :: false :: false :: false :: false :: false :: false :: false :: false :: false :: false :: false :: false :: false :: false :: false :: false :: false :: false :: false :: false :: false :: false :: false :: false :: false :: false :: false :: false :: false :: false :: false :: false :: false :: false :: false :: false :: false :: false :: false :: false :: false :: false :: false :: false :: false :: false :: true :: false :: false :: false :: false :: false :: false :: false :: false :: false :: false :: false :: false :: false :: false :: false :: false :: false :: false :: false :: false :: false :: false :: false :: false :: false :: false :: false :: false :: false :: false :: false :: false :: false :: false :: false :: false :: [])
        · (try dsimp only [maskT]); try exact rfl
        · rfl
        exact ⟨true, rfl, hx, by simp only [wrongV, g1, g2, g3, g4, g6, g7, Bool.true_or, Bool.or_true, Bool.false_or, Bool.and_true, Bool.true_and, Bool.false_and, Bool.or_false]⟩
       ·
        (try simp only [y1, y2, y3, y4, y5, y6, y7, y8, y9, y0, List.length_map] at hg16)
        have g7 : decide (0 < (fs.length : Int)) = false := by simpa using hg16
        apply al_normT
        · (try dsimp only [zS, zN, zH, zT]); try exact rfl
        refine zsw rfl rfl rfl (by first | exact op_load_elt Try.underlying3 (by rfl) (by rfl) (by rfl) | exact op_load_ptr Try.underlying3 (by rfl) (by rfl) (by first | exact hb13 | exact setB_at push_at) (by rfl)) (by dsimp only [zS, zN, zH, zT]) ?_
        refine zsw rfl rfl rfl (op_ltI (by rfl) (by rfl)) (by dsimp only [zS, zN, zH, zT]) ?_
        refine zst (op_pick_ff (by rfl) (val_tmp (by rfl))) rfl (by dsimp only [zS, zN, zH, zT]) ?_
        refine al_end rfl ?_
        apply cut_to (false :: false :: true :: true :: false :: false :: false :: false :: false :: false :: false :: false :: false :: false :: false :: false :: false :: false :: false :: false :: false :: false :: false :: false :: false :: false :: false :: false :: false :: false :: false :: false :: false :: false :: false :: false :: false :: false :: false :: false :: false :: false :: false :: false :: false :: false :: false :: false :: false :: false :: false :: false :: false :: false :: false :: false :: false :: false :: false :: false :: false :: false :: false :: false :: false :: false :: false :: false :: false :: false :: false :: false :: false :: false :: false :: false :: false :: true :: false :: false :: false :: false :: false :: false :: false :: false :: false :: false :: false :: false :: false :: false :: false :: false :: false :: false :: false :: false :: false :: false :: false :: false :: false :: false :: false :: false :: false :: false :: false :: false :: false :: false :: false :: false :: [])
        · (try dsimp only [maskT]); try exact rfl
        · rfl
        exact ⟨decide ((D : Int) < 1), rfl, hx, by simp only [wrongV, g1, g2, g3, g4, g6, g7, Bool.true_or, Bool.or_true, Bool.false_or, Bool.and_true, Bool.true_and, Bool.false_and, Bool.or_false]⟩
      ·
       (try simp only [y1, y2, y3, y4, y5, y6, y7, y8, y9, y0, List.length_map] at hg15)
       have g6 : (k != 5) = false := by simpa using hg15
       apply al_normT
       · (try dsimp only [zS, zN, zH, zT]); try exact rfl
       refine zuw rfl rfl rfl rfl (by dsimp only [zS, zN, zH, zT]) ?_
       refine zuw rfl rfl rfl rfl (by dsimp only [zS, zN, zH, zT]) ?_
       refine zuw rfl rfl rfl rfl (by dsimp only [zS, zN, zH, zT]) ?_
       refine zuw rfl rfl rfl rfl (by dsimp only [zS, zN, zH, zT]) ?_
       refine zsw rfl rfl rfl (op_pick_ff (by rfl) (val_const (by rfl))) (by dsimp only [zS, zN, zH, zT]) ?_
       refine zst (op_pick_ff (by rfl) (val_tmp (by rfl))) rfl (by dsimp only [zS, zN, zH, zT]) ?_
       refine zst (op_move_tmp (by rfl)) rfl (by dsimp only [zS, zN, zH, zT]) ?_
       refine zsw rfl rfl rfl (by first | exact op_load_elt Try.underlying3 (by rfl) (by rfl) (by rfl) | exact op_load_ptr Try.underlying3 (by rfl) (by rfl) (by first | exact hb13 | exact setB_at push_at) (by rfl)) (by dsimp only [zS, zN, zH, zT]) ?_
       refine zsw rfl rfl rfl (op_ltI (by rfl) (by rfl)) (by dsimp only [zS, zN, zH, zT]) ?_
       refine zst (op_pick_ff (by rfl) (val_tmp (by rfl))) rfl (by dsimp only [zS, zN, zH, zT]) ?_
       refine al_end rfl ?_
       apply cut_to (false :: false :: true :: true :: false :: false :: false :: false :: false :: false :: false :: false :: false :: false :: false :: false :: false :: false :: false :: false :: false :: false :: false :: false :: false :: false :: false :: false :: false :: false :: false :: false :: false :: false :: false :: false :: false :: false :: false :: false :: false :: false :: false :: false :: false :: false :: false :: false :: false :: false :: false :: false :: false :: false :: false :: false :: false :: false :: false :: false :: false :: false :: false :: false :: false :: false :: false :: false :: false :: false :: false :: false :: false :: false :: false :: false :: false :: true :: false :: false :: false :: false :: false :: false :: false :: false :: false :: false :: false :: false :: false :: false :: false :: false :: false :: false :: false :: false :: false :: false :: false :: false :: false :: false :: false :: false :: false :: false :: false :: false :: false :: false :: false :: false :: [])
       · (try dsimp only [maskT]); try exact rfl
       · rfl
       exact ⟨decide ((D : Int) < 1), rfl, hx, by simp only [wrongV, g1, g2, g3, g4, g6, Bool.true_or, Bool.or_true, Bool.false_or, Bool.and_true, Bool.true_and, Bool.false_and, Bool.or_false]⟩
 rintro T H ⟨c, rfl, hx, hcw⟩
 refine aw_cond rfl (fun hc17 => ?_) (fun hc17 => ?_)
 ·
  (try simp only [y1, y2, y3, y4, y5, y6, y7, y8, y9, y0, List.length_map] at hc17)
  have hwr : c = true := hc17
  rw [hcw] at hwr
  refine aw_seq ?_
  refine aw_region ?_
  refine zst (op_assign_const (by rfl)) rfl (by dsimp only [zS, zN, zH, zT]) ?_
  refine al_end rfl ?_
  refine then_normal ?_
  refine aw_ret ?_
  refine then_ret ?_
  refine retPost1 rfl rfl ?_
  exact ⟨by rw [right_wrong h0 h5 hwr]; rfl, hx⟩
 ·
  (try simp only [y1, y2, y3, y4, y5, y6, y7, y8, y9, y0, List.length_map] at hc17)
  have hwr : c = false := hc17
  rw [hcw] at hwr
  obtain ⟨d, rfl, hR⟩ := right_ok h0 h5 hwr
  refine aw_skip ?_
  refine then_normal ?_
  refine aw_seq ?_
  refine aw_seq ?_
  refine aw_region ?_
  refine zst (by first | exact op_fieldAddr_ptr Try.underlying26 rfl Sz22 (by rfl) (by rfl) | exact op_fieldAddr_elt Try.underlying26 rfl Sz22 (by rfl) (by rfl) (by rfl)) rfl (by dsimp only [zS, zN, zH, zT]) ?_
  refine zst (by first | exact op_load_elt Try.underlying22 (by rfl) (by rfl) (by rfl) | exact op_load_ptr Try.underlying22 (by rfl) (by rfl) (by first | exact hb13 | exact setB_at push_at) (by rfl)) rfl (by dsimp only [zS, zN, zH, zT]) ?_
  refine zst (op_lenL Try.underlying22 (by first | exact LL.d _ _ | exact LL.own _ _ _ | exact LL.nil _ | assumption)) rfl (by dsimp only [zS, zN, zH, zT]) ?_
  refine zst (op_move_const (by rfl)) rfl (by dsimp only [zS, zN, zH, zT]) ?_
  refine al_end rfl ?_
  refine then_normal ?_
  refine aw_block ?_
  apply aw_loopF (fun n T H => ∃ (j : Nat), T = (.un :: .un :: (.elt (v6D k y i tx ls fs)) :: (.elt [I ((d + 1 : Nat) : Int)]) :: .un :: .un :: .un :: .un :: .un :: .un :: .un :: .un :: .un :: .un :: .un :: .un :: .un :: .un :: .un :: .un :: .un :: .un :: .un :: .un :: .un :: .un :: .un :: .un :: .un :: .un :: .un :: .un :: .un :: .un :: .un :: .un :: .un :: .un :: .un :: .un :: .un :: .un :: .un :: .un :: .un :: .un :: .un :: .un :: .un :: .un :: .un :: .un :: .un :: .un :: .un :: .un :: .un :: .un :: .un :: .un :: .un :: .un :: .un :: .un :: .un :: .un :: .un :: .un :: .un :: .un :: .un :: .un :: .un :: .un :: .un :: .un :: .un :: .un :: .un :: (.d (.lst 7 (fs.map fD))) :: (.d (I (fs.map fD).length)) :: (.d (I j)) :: .un :: .un :: .un :: .un :: .un :: .un :: .un :: .un :: .un :: .un :: .un :: .un :: .un :: .un :: .un :: .un :: .un :: .un :: .un :: .un :: .un :: .un :: .un :: .un :: .un :: .un :: .un :: .un :: .un :: .un :: .un :: .un :: []) ∧ j ≤ fs.length ∧ n = fs.length - j ∧ fieldsOk d (fs.take j) = true ∧ Ext Hs H) (fs.length) (false :: false :: true :: true :: false :: false :: false :: false :: false :: false :: false :: false :: false :: false :: false :: false :: false :: false :: false :: false :: false :: false :: false :: false :: false :: false :: false :: false :: false :: false :: false :: false :: false :: false :: false :: false :: false :: false :: false :: false :: false :: false :: false :: false :: false :: false :: false :: false :: false :: false :: false :: false :: false :: false :: false :: false :: false :: false :: false :: false :: false :: false :: false :: false :: false :: false :: false :: false :: false :: false :: false :: false :: false :: false :: false :: false :: false :: false :: false :: true :: true :: true :: false :: false :: false :: false :: false :: false :: false :: false :: false :: false :: false :: false :: false :: false :: false :: false :: false :: false :: false :: false :: false :: false :: false :: false :: false :: false :: false :: false :: false :: false :: false :: false :: [])
  · (try dsimp only [maskT]); try exact rfl
  · rfl
  · exact ⟨0, rfl, by omega, rfl, by simp [fieldsOk, rises], hx⟩
  rintro n T H ⟨j, rfl, hj, rfl, hfo, hx⟩
  refine aw_seq ?_
  refine aw_region ?_
  refine zst (op_ltI (by rfl) (by rfl)) rfl (by dsimp only [zS, zN, zH, zT]) ?_
  refine al_end rfl ?_
  refine then_normal ?_
  refine aw_seq ?_
  refine aw_cond rfl (fun hc18 => ?_) (fun hc18 => ?_)
  ·
   (try simp only [y1, y2, y3, y4, y5, y6, y7, y8, y9, y0, List.length_map] at hc18)
   (try simp only [List.length_map] at hc18)
   have hlt : j < fs.length := by omega
   obtain ⟨x, hx1⟩ : ∃ x, fs[j]? = some x := ⟨_, List.getElem?_eq_getElem hlt⟩
   have hst := fieldsOk_step (d := d) hx1
   refine aw_skip ?_
   refine then_normal ?_
   refine aw_seq ?_
   refine aw_block ?_
   refine aw_seq ?_
   refine aw_region ?_
   refine zst (op_move_tmp (by rfl)) rfl (by dsimp only [zS, zN, zH, zT]) ?_
   refine zst (op_indexAddr (z := fD x) (cs := [S x.name, I x.val.kind, TF x.val.yes, .v (.int .i64 x.val.num), S x.val.text, .lst 6 (x.val.list.map vD), .lst 7 (x.val.fields.map fD)]) Try.underlying22 Sz30 (LL.d _ _) (by rfl) (by omega) (by rw [List.getElem?_map, show ((j : Nat) : Int).toNat = j from rfl, hx1]; rfl) (fD_cells7 x)) rfl (by dsimp only [zS, zN, zH, zT]) ?_
   refine zst (op_load_elts (ds := fC x) Try.underlying30 (by rfl) Sz30 (by rfl) (Nat.le_of_ble_eq_true rfl) (by rw [← fC7]; rfl)) rfl (by dsimp only [zS, zN, zH, zT]) ?_
   refine zst (op_alloc (Zr30) (by rfl)) rfl (by dsimp only [zS, zN, zH, zT]) ?_
   refine zst (op_assign_tmp (by rfl)) rfl (by dsimp only [zS, zN, zH, zT]) ?_
   refine zst (op_storeF (b' := f1 30 x) x Sz30 (by rfl) push_at (by rfl) (Nat.le_of_ble_eq_true rfl) (by rfl) (by unfold f1; rw [← fC7]; rfl)) rfl (by dsimp only [zS, zN, zH, zT]) ?_
   refine al_end rfl ?_
   refine then_normal ?_
   refine aw_seq ?_
   refine aw_draw [0, 0, 0, 0, 1, 0, 0, 0, 0, 1, 0, 1, 0, 0, 0, 0, 1, 1, 0, 0, 0, 0] mixed (by kernel_rfl) ?_
   refine zd0 (fun H => (op_move_tmp (by rfl))) rfl (by dsimp only [zS, zN, zH, zT]) ?_
   refine zd0 (fun H => (op_gtI (by rfl) (by rfl))) rfl (by dsimp only [zS, zN, zH, zT]) ?_
   refine zd0 (fun H => (op_move_tmp (by rfl))) rfl (by dsimp only [zS, zN, zH, zT]) ?_
   refine drun_split 88 rfl (fun hg19 => ?_) (fun hg19 => ?_)
   ·
    (try simp only [y1, y2, y3, y4, y5, y6, y7, y8, y9, y0, List.length_map] at hg19)
    have hj0 : 0 < (j : Int) := hg19
    obtain ⟨z, hz⟩ : ∃ z, fs[j - 1]? = some z := ⟨_, List.getElem?_eq_getElem (by omega)⟩
    have hnbl := notBelow_at (x := x.name) (l := fs.take j) (j := j) (by rw [List.length_take]; omega) (take_at hz (by omega))
    apply drun_normT
    · (try dsimp only [zS, zN, zH, zT]); try exact rfl
    refine zd0w rfl rfl rfl (fun H => (by first | exact op_fieldAddr_ptr Try.underlying26 rfl Sz22 (by rfl) (by rfl) | exact op_fieldAddr_elt Try.underlying26 rfl Sz22 (by rfl) (by rfl) (by rfl))) (by dsimp only [zS, zN, zH, zT]) ?_
    refine zd1w rfl rfl rfl (by first | exact op_load_elt Try.underlying22 (by rfl) (by rfl) (by rfl) | exact op_load_ptr Try.underlying22 (by rfl) (by rfl) (by first | exact hb13 | exact setB_at push_at) (by rfl)) (by dsimp only [zS, zN, zH, zT]) ?_
    refine zd0w rfl rfl rfl (fun H => (op_move_tmp (by rfl))) (by dsimp only [zS, zN, zH, zT]) ?_
    refine zd0w rfl rfl rfl (fun H => (by first | exact op_sub (by rfl) (by rfl) (wrap_i64 ⟨by omega, by omega⟩) | exact op_sub (by rfl) (by rfl) (by rfl))) (by dsimp only [zS, zN, zH, zT]) ?_
    refine zd0w rfl rfl rfl (fun H => (op_indexAddr (z := fD z) (cs := [S z.name, I z.val.kind, TF z.val.yes, .v (.int .i64 z.val.num), S z.val.text, .lst 6 (z.val.list.map vD), .lst 7 (z.val.fields.map fD)]) Try.underlying22 Sz30 (LL.d _ _) (by rfl) (by omega) (by rw [List.getElem?_map, show ((j : Int) - 1).toNat = j - 1 by omega, hz]; rfl) (fD_cells7 z))) (by dsimp only [zS, zN, zH, zT]) ?_
    refine zd0w rfl rfl rfl (fun H => (by first | exact op_fieldAddr_ptr Try.underlying30 rfl Sz9 (by rfl) (by rfl) | exact op_fieldAddr_elt Try.underlying30 rfl Sz9 (by rfl) (by rfl) (by rfl))) (by dsimp only [zS, zN, zH, zT]) ?_
    refine zd1w rfl rfl rfl (by first | exact op_load_elt Try.underlying9 (by rfl) (by rfl) (by rfl) | exact op_load_ptr Try.underlying9 (by rfl) (by rfl) (by first | exact hb13 | exact setB_at push_at) (by rfl)) (by dsimp only [zS, zN, zH, zT]) ?_
    refine zd0w rfl rfl rfl (fun H => (by first | exact op_fieldAddr_ptr Try.underlying30 rfl Sz9 (by rfl) (by rfl) | exact op_fieldAddr_elt Try.underlying30 rfl Sz9 (by rfl) (by rfl) (by rfl))) (by dsimp only [zS, zN, zH, zT]) ?_
    refine zd1w rfl rfl rfl (op_load_ptr Try.underlying9 (by rfl) (by rfl) (setB_at push_at) (f1_name x)) (by dsimp only [zS, zN, zH, zT]) ?_
    refine zd0w rfl rfl rfl (fun H => (op_geS (by rfl) (by rfl))) (by dsimp only [zS, zN, zH, zT]) ?_
    refine zd0 (fun H => (op_pick_tt (by rfl) (val_tmp (by rfl)))) rfl (by dsimp only [zS, zN, zH, zT]) ?_
    refine zd0 (fun H => (op_move_tmp (by rfl))) rfl (by dsimp only [zS, zN, zH, zT]) ?_
    refine drun_split 100 rfl (fun hg20 => ?_) (fun hg20 => ?_)
    ·
     (try simp only [y1, y2, y3, y4, y5, y6, y7, y8, y9, y0, List.length_map] at hg20)
     have hbl : Op.bytesLess z.name x.name = false := by simpa using hg20
     apply drun_normT
     · (try dsimp only [zS, zN, zH, zT]); try exact rfl
     refine zdU rfl rfl rfl rfl (by dsimp only [zS, zN, zH, zT]) ?_
     refine zdU rfl rfl rfl rfl (by dsimp only [zS, zN, zH, zT]) ?_
     refine zdU rfl rfl rfl rfl (by dsimp only [zS, zN, zH, zT]) ?_
     refine zdU rfl rfl rfl rfl (by dsimp only [zS, zN, zH, zT]) ?_
     refine zdU rfl rfl rfl rfl (by dsimp only [zS, zN, zH, zT]) ?_
     refine zdU rfl rfl rfl rfl (by dsimp only [zS, zN, zH, zT]) ?_
     refine zd0 (fun H => (op_pick_tt (by rfl) (val_const (by rfl)))) rfl (by dsimp only [zS, zN, zH, zT]) ?_
     refine drun_end rfl ?_
     refine then_normal ?_
     refine aw_cond rfl (fun _ => ?_) (fun h => by cases h)
     refine aw_seq ?_
     refine aw_region ?_
     refine zst (op_assign_const (by rfl)) rfl (by dsimp only [zS, zN, zH, zT]) ?_
     refine al_end rfl ?_
     refine then_normal ?_
     refine aw_ret ?_
     refine inBlock_ret (then_ret (again_ret (inBlock_ret (then_ret ?_))))
     refine retPost1 rfl rfl ?_
     exact ⟨by rw [hR, fieldsOk_pre (by rw [hst, hnbl, hbl]; simp)]; rfl, (hx.push _ _).setB (nb_le hx)⟩
    ·
     (try simp only [y1, y2, y3, y4, y5, y6, y7, y8, y9, y0, List.length_map] at hg20)
     have hbl : Op.bytesLess z.name x.name = true := by simpa using hg20
     apply drun_normT
     · (try dsimp only [zS, zN, zH, zT]); try exact rfl
     refine zd0w rfl rfl rfl (fun H => (by first | exact op_fieldAddr_ptr Try.underlying30 rfl Sz26 (by rfl) (by rfl) | exact op_fieldAddr_elt Try.underlying30 rfl Sz26 (by rfl) (by rfl) (by rfl))) (by dsimp only [zS, zN, zH, zT]) ?_
     refine zd1w rfl rfl rfl (op_load_ptrsD (vC x.val) Try.underlying26 (by rfl) Sz26 (by rfl) (setB_at push_at) (by show 1 + 6 ≤ ((fC x).map AV.d).length; rw [List.length_map, fC_len]; exact Nat.le_refl _) (f1_val x) (vC_one _)) (by dsimp only [zS, zN, zH, zT]) ?_
     refine zd1w rfl rfl rfl (by first | exact op_load_elt Try.underlying3 (by rfl) (by rfl) (by rfl) | exact op_load_ptr Try.underlying3 (by rfl) (by rfl) (by first | exact hb13 | exact setB_at push_at) (by rfl)) (by dsimp only [zS, zN, zH, zT]) ?_
     refine zd0w rfl rfl rfl (fun H => (op_sub (by rfl) (by rfl) (show IntKind.i64.wrap (((d + 1 : Nat) : Int) - 1) = (d : Int) by rw [wrap_i64 ⟨by omega, by omega⟩]; omega))) (by dsimp only [zS, zN, zH, zT]) ?_
     refine zd0w rfl rfl rfl (fun H => (op_callF Try.func101 (by rfl) (by rfl) (.tmp (by rfl) (.tmp (by rfl) .nil)) (ihF d rfl x (List.mem_of_getElem? hx1) _))) (by dsimp only [zS, zN, zH, zT]) ?_
     refine zd0w rfl rfl rfl (fun H => (op_not (by rfl))) (by dsimp only [zS, zN, zH, zT]) ?_
     refine zd0 (fun H => (op_pick_ff (by rfl) (val_tmp (by rfl)))) rfl (by dsimp only [zS, zN, zH, zT]) ?_
     refine drun_end rfl ?_
     refine then_normal ?_
     refine aw_cond rfl (fun hc22 => ?_) (fun hc22 => ?_)
     ·
      (try simp only [y1, y2, y3, y4, y5, y6, y7, y8, y9, y0, List.length_map] at hc22)
      have hrx : rightV d x.val = false := by simpa using hc22
      refine aw_seq ?_
      refine aw_region ?_
      refine zst (op_assign_const (by rfl)) rfl (by dsimp only [zS, zN, zH, zT]) ?_
      refine al_end rfl ?_
      refine then_normal ?_
      refine aw_ret ?_
      refine inBlock_ret (then_ret (again_ret (inBlock_ret (then_ret ?_))))
      refine retPost1 rfl rfl ?_
      exact ⟨by rw [hR, fieldsOk_pre (by rw [hst, hrx]; simp)]; rfl, (hx.push _ _).setB (nb_le hx)⟩
     ·
      (try simp only [y1, y2, y3, y4, y5, y6, y7, y8, y9, y0, List.length_map] at hc22)
      have hrx : rightV d x.val = true := by simpa using hc22
      refine aw_skip ?_
      refine inBlock_normal (then_normal ?_)
      refine aw_region ?_
      refine zst (by first | exact op_add (by rfl) (by rfl) (wrap_i64 ⟨by omega, by omega⟩) | exact op_add (by rfl) (by rfl) (by rfl)) rfl (by dsimp only [zS, zN, zH, zT]) ?_
      refine zst (op_move_tmp (by rfl)) rfl (by dsimp only [zS, zN, zH, zT]) ?_
      refine al_end rfl ?_
      apply again_to (fs.length - (j + 1)) (false :: false :: true :: true :: false :: false :: false :: false :: false :: false :: false :: false :: false :: false :: false :: false :: false :: false :: false :: false :: false :: false :: false :: false :: false :: false :: false :: false :: false :: false :: false :: false :: false :: false :: false :: false :: false :: false :: false :: false :: false :: false :: false :: false :: false :: false :: false :: false :: false :: false :: false :: false :: false :: false :: false :: false :: false :: false :: false :: false :: false :: false :: false :: false :: false :: false :: false :: false :: false :: false :: false :: false :: false :: false :: false :: false :: false :: false :: false :: true :: true :: true :: false :: false :: false :: false :: false :: false :: false :: false :: false :: false :: false :: false :: false :: false :: false :: false :: false :: false :: false :: false :: false :: false :: false :: false :: false :: false :: false :: false :: false :: false :: false :: false :: [])
      · (try dsimp only [maskT]); try exact rfl
      · rfl
      · omega
      exact ⟨j + 1, rfl, by omega, rfl, by rw [hst, hfo, hnbl, hbl, hrx]; rfl, (hx.push _ _).setB (nb_le hx)⟩
   ·
    (try simp only [y1, y2, y3, y4, y5, y6, y7, y8, y9, y0, List.length_map] at hg19)
    have hj0 : j = 0 := by have : ¬ 0 < (j : Int) := hg19; omega
    apply drun_normT
    · (try dsimp only [zS, zN, zH, zT]); try exact rfl
    refine zdU rfl rfl rfl rfl (by dsimp only [zS, zN, zH, zT]) ?_
    refine zdU rfl rfl rfl rfl (by dsimp only [zS, zN, zH, zT]) ?_
    refine zdU rfl rfl rfl rfl (by dsimp only [zS, zN, zH, zT]) ?_
    refine zdU rfl rfl rfl rfl (by dsimp only [zS, zN, zH, zT]) ?_
    refine zdU rfl rfl rfl rfl (by dsimp only [zS, zN, zH, zT]) ?_
    refine zdU rfl rfl rfl rfl (by dsimp only [zS, zN, zH, zT]) ?_
    refine zdU rfl rfl rfl rfl (by dsimp only [zS, zN, zH, zT]) ?_
    refine zdU rfl rfl rfl rfl (by dsimp only [zS, zN, zH, zT]) ?_
    refine zdU rfl rfl rfl rfl (by dsimp only [zS, zN, zH, zT]) ?_
    refine zdU rfl rfl rfl rfl (by dsimp only [zS, zN, zH, zT]) ?_
    refine zd0 (fun H => (op_pick_ff (by rfl) (val_const (by rfl)))) rfl (by dsimp only [zS, zN, zH, zT]) ?_
    refine zd0 (fun H => (op_move_tmp (by rfl))) rfl (by dsimp only [zS, zN, zH, zT]) ?_
    refine zd0w rfl rfl rfl (fun H => (by first | exact op_fieldAddr_ptr Try.underlying30 rfl Sz26 (by rfl) (by rfl) | exact op_fieldAddr_elt Try.underlying30 rfl Sz26 (by rfl) (by rfl) (by rfl))) (by dsimp only [zS, zN, zH, zT]) ?_
    refine zd1w rfl rfl rfl (op_load_ptrsD (vC x.val) Try.underlying26 (by rfl) Sz26 (by rfl) (setB_at push_at) (by show 1 + 6 ≤ ((fC x).map AV.d).length; rw [List.length_map, fC_len]; exact Nat.le_refl _) (f1_val x) (vC_one _)) (by dsimp only [zS, zN, zH, zT]) ?_
    refine zd1w rfl rfl rfl (by first | exact op_load_elt Try.underlying3 (by rfl) (by rfl) (by rfl) | exact op_load_ptr Try.underlying3 (by rfl) (by rfl) (by first | exact hb13 | exact setB_at push_at) (by rfl)) (by dsimp only [zS, zN, zH, zT]) ?_
    refine zd0w rfl rfl rfl (fun H => (op_sub (by rfl) (by rfl) (show IntKind.i64.wrap (((d + 1 : Nat) : Int) - 1) = (d : Int) by rw [wrap_i64 ⟨by omega, by omega⟩]; omega))) (by dsimp only [zS, zN, zH, zT]) ?_
    refine zd0w rfl rfl rfl (fun H => (op_callF Try.func101 (by rfl) (by rfl) (.tmp (by rfl) (.tmp (by rfl) .nil)) (ihF d rfl x (List.mem_of_getElem? hx1) _))) (by dsimp only [zS, zN, zH, zT]) ?_
    refine zd0w rfl rfl rfl (fun H => (op_not (by rfl))) (by dsimp only [zS, zN, zH, zT]) ?_
    refine zd0 (fun H => (op_pick_ff (by rfl) (val_tmp (by rfl)))) rfl (by dsimp only [zS, zN, zH, zT]) ?_
    refine drun_end rfl ?_
    refine then_normal ?_
    refine aw_cond rfl (fun hc23 => ?_) (fun hc23 => ?_)
    ·
     (try simp only [y1, y2, y3, y4, y5, y6, y7, y8, y9, y0, List.length_map] at hc23)
     have hrx : rightV d x.val = false := by simpa using hc23
     refine aw_seq ?_
     refine aw_region ?_
     refine zst (op_assign_const (by rfl)) rfl (by dsimp only [zS, zN, zH, zT]) ?_
     refine al_end rfl ?_
     refine then_normal ?_
     refine aw_ret ?_
     refine inBlock_ret (then_ret (again_ret (inBlock_ret (then_ret ?_))))
     refine retPost1 rfl rfl ?_
     exact ⟨by rw [hR, fieldsOk_pre (by rw [hst, hrx]; simp)]; rfl, (hx.push _ _).setB (nb_le hx)⟩
    ·
     (try simp only [y1, y2, y3, y4, y5, y6, y7, y8, y9, y0, List.length_map] at hc23)
     have hrx : rightV d x.val = true := by simpa using hc23
     refine aw_skip ?_
     refine inBlock_normal (then_normal ?_)
     refine aw_region ?_
     refine zst (by first | exact op_add (by rfl) (by rfl) (wrap_i64 ⟨by omega, by omega⟩) | exact op_add (by rfl) (by rfl) (by rfl)) rfl (by dsimp only [zS, zN, zH, zT]) ?_
     refine zst (op_move_tmp (by rfl)) rfl (by dsimp only [zS, zN, zH, zT]) ?_
     refine al_end rfl ?_
     apply again_to (fs.length - (j + 1)) (false :: false :: true :: true :: false :: false :: false :: false :: false :: false :: false :: false :: false :: false :: false :: false :: false :: false :: false :: false :: false :: false :: false :: false :: false :: false :: false :: false :: false :: false :: false :: false :: false :: false :: false :: false :: false :: false :: false :: false :: false :: false :: false :: false :: false :: false :: false :: false :: false :: false :: false :: false :: false :: false :: false :: false :: false :: false :: false :: false :: false :: false :: false :: false :: false :: false :: false :: false :: false :: false :: false :: false :: false :: false :: false :: false :: false :: false :: false :: true :: true :: true :: false :: false :: false :: false :: false :: false :: false :: false :: false :: false :: false :: false :: false :: false :: false :: false :: false :: false :: false :: false :: false :: false :: false :: false :: false :: false :: false :: false :: false :: false :: false :: false :: [])
     · (try dsimp only [maskT]); try exact rfl
     · rfl
     · omega
     exact ⟨j + 1, rfl, by omega, rfl, by rw [hst, hfo, hrx]; subst hj0; rfl, (hx.push _ _).setB (nb_le hx)⟩
  ·
   (try simp only [y1, y2, y3, y4, y5, y6, y7, y8, y9, y0, List.length_map] at hc18)
   (try simp only [List.length_map] at hc18)
   have hje : j = fs.length := by omega
   subst hje
   rw [List.take_length] at hfo
   refine aw_exit ?_
   refine then_exit (again_exit (inBlock_here (then_normal ?_)))
   refine aw_seq ?_
   refine aw_region ?_
   refine zst (by first | exact op_fieldAddr_ptr Try.underlying26 rfl Sz24 (by rfl) (by rfl) | exact op_fieldAddr_elt Try.underlying26 rfl Sz24 (by rfl) (by rfl) (by rfl)) rfl (by dsimp only [zS, zN, zH, zT]) ?_
   refine zst (by first | exact op_load_elt Try.underlying24 (by rfl) (by rfl) (by rfl) | exact op_load_ptr Try.underlying24 (by rfl) (by rfl) (by first | exact hb13 | exact setB_at push_at) (by rfl)) rfl (by dsimp only [zS, zN, zH, zT]) ?_
   refine zst (op_makeFn .nil (.tmp (by rfl) .nil)) rfl (by dsimp only [zS, zN, zH, zT]) ?_
   refine zst (op_callF Try.func134 (by rfl) (by rfl) (.tmp (by rfl) (.tmp (by rfl) .nil)) (containsV_ok _ ls d (by omega) hls (ihL d rfl))) rfl (by dsimp only [zS, zN, zH, zT]) ?_
   refine zst (op_not (by rfl)) rfl (by dsimp only [zS, zN, zH, zT]) ?_
   refine zst (op_assign_tmp (by rfl)) rfl (by dsimp only [zS, zN, zH, zT]) ?_
   refine al_end rfl ?_
   refine then_normal ?_
   refine aw_ret ?_
   refine retPost1 rfl rfl ?_
   exact ⟨by rw [hR, hfo, not_any_not]; rfl, hx⟩
theorem right_all : ∀ (D : Nat) (v : V), D ≤ 1000 → SmallV v → ∀ Hs : HS, ACalls Try.prog 101 [.d (.agg (vC v)), .d (I D)] Hs (Ret (.d (TF (rightV D v))) Hs)
  | 0, .mk k y i tx ls fs, hD, hs, Hs => by
    rw [v6D_eq]
    exact right_step Hs 0 k y i tx ls fs hD hs.ll hs.fl (fun _ h => by cases h) (fun _ h => by cases h)
  | D + 1, .mk k y i tx ls fs, hD, hs, Hs => by
    rw [v6D_eq]
    exact right_step Hs (D + 1) k y i tx ls fs hD hs.ll hs.fl (fun d h x hx Hs => by cases h; exact right_all D x (by omega) (hs.l x hx) Hs) (fun d h x hx Hs => by cases h; exact right_all D x.val (by omega) (hs.f x hx) Hs)
end Go.Proofs.Ytjbpfnoibeogbaa
namespace Go.Proofs.Ytjbpfnoibeogbaa
open Go.AV Go.AV.Ord Go.AV.Oct Go.AV.Val
set_option linter.unusedVariables false
set_option linter.unusedSimpArgs false
set_option maxRecDepth 100000 in
theorem right_ok' (Hs : HS) (v : V) (hv : SmallV v) : ACalls Try.prog 74 [.d (.agg (vC v))] Hs (Ret (.d (TF (rightV 32 v))) Hs) := by
 refine acalls_of_aw Try.func74 rfl ?_
 refine aw_start (T' := [.d (.agg (vC v)), .un, .un, .un, .un]) rfl ?_
 refine aw_seq ?_
 refine aw_region ?_
 refine zst (op_box_elt (cs := [I v.kind, TF v.yes, .v (.int .i64 v.num), S v.text, .lst 6 (v.list.map vD), .lst 7 (v.fields.map fD)]) (by rfl) (vD_cells v)) rfl (by dsimp only [zS, zN, zH, zT]) ?_
 refine zst (op_assign_const (by rfl)) rfl (by dsimp only [zS, zN, zH, zT]) ?_
 refine al_end rfl ?_
 refine then_normal ?_
 refine aw_seq ?_
 refine aw_region ?_
 refine zst (op_load_elts (ds := vC v) Try.underlying26 (by rfl) Sz26 (by rfl) (Nat.le_of_ble_eq_true rfl) (by rw [vC_eq]; rfl)) rfl (by dsimp only [zS, zN, zH, zT]) ?_
 refine zst (op_callF Try.func101 (by rfl) (by rfl) (.tmp (by rfl) (.const (by rfl) .nil)) (right_all 32 v (by decide) hv _)) rfl (by dsimp only [zS, zN, zH, zT]) ?_
 refine zst (op_assign_tmp (by rfl)) rfl (by dsimp only [zS, zN, zH, zT]) ?_
 refine al_end rfl ?_
 refine then_normal ?_
 refine aw_ret ?_
 refine retPost1 rfl rfl ?_
 exact ⟨rfl, rfl⟩
set_option maxRecDepth 100000 in
theorem venc_ok (Hs : HS) (v : V) (hv : SmallV v) (hw : WfV v) (hB : (encV v).length ≤ 1000000000) : ACalls Try.prog 38 [.d (.agg (vC v))] Hs (Ret (.tup [.d (S (encO v).1), .d (I (encO v).2)]) Hs) := by
 refine ACalls.tidyT (xs := [S (encO v).1, I (encO v).2]) ?_
 refine acalls_of_aw Try.func38 rfl ?_
 refine aw_start (T' := [.d (.agg (vC v)), .un, .un, .un, .un, .un, .un, .un, .un, .un, .un, .un, .un, .un, .un]) rfl ?_
 refine aw_seq ?_
 refine aw_region ?_
 refine zst (op_box_elt (cs := [I v.kind, TF v.yes, .v (.int .i64 v.num), S v.text, .lst 6 (v.list.map vD), .lst 7 (v.fields.map fD)]) (by rfl) (vD_cells v)) rfl (by dsimp only [zS, zN, zH, zT]) ?_
 refine zst (op_assign_const (by rfl)) rfl (by dsimp only [zS, zN, zH, zT]) ?_
 refine zst (op_assign_const (by rfl)) rfl (by dsimp only [zS, zN, zH, zT]) ?_
 refine al_end rfl ?_
 refine then_normal ?_
 refine aw_seq ?_
 refine aw_seq ?_
 refine aw_region ?_
 refine zst (op_load_elts (ds := vC v) Try.underlying26 (by rfl) Sz26 (by rfl) (Nat.le_of_ble_eq_true rfl) (by rw [vC_eq]; rfl)) rfl (by dsimp only [zS, zN, zH, zT]) ?_
 refine zst (op_callF Try.func74 (by rfl) (by rfl) (.tmp (by rfl) .nil) (right_ok' _ v hv)) rfl (by dsimp only [zS, zN, zH, zT]) ?_
 refine zst (op_not (by rfl)) rfl (by dsimp only [zS, zN, zH, zT]) ?_
 refine al_end rfl ?_
 refine then_normal ?_
 refine aw_cond rfl (fun hc1 => ?_) (fun hc1 => ?_)
 ·
  (try simp only [y1, y2, y3, y4, y5, y6, y7, y8, y9, y0, List.length_map] at hc1)
  have hR : rightV 32 v = false := by simpa using hc1
  refine aw_seq ?_
  refine aw_region ?_
  refine zst (op_assign_const (by rfl)) rfl (by dsimp only [zS, zN, zH, zT]) ?_
  refine zst (op_assign_const (by rfl)) rfl (by dsimp only [zS, zN, zH, zT]) ?_
  refine al_end rfl ?_
  refine then_normal ?_
  refine aw_ret ?_
  refine then_ret ?_
  refine retPost2 rfl rfl rfl ?_
  have e : encO v = ([], 1) := by simp [encO, hR]
  exact ⟨by (rw [e]) <;> rfl, Ext.refl _⟩
 ·
  (try simp only [y1, y2, y3, y4, y5, y6, y7, y8, y9, y0, List.length_map] at hc1)
  have hR : rightV 32 v = true := by simpa using hc1
  refine aw_skip ?_
  refine then_normal ?_
  refine aw_seq ?_
  refine aw_region ?_
  refine zst (op_load_elts (ds := vC v) Try.underlying26 (by rfl) Sz26 (by rfl) (Nat.le_of_ble_eq_true rfl) (by rw [vC_eq]; rfl)) rfl (by dsimp only [zS, zN, zH, zT]) ?_
  refine zst (op_callF Try.func75 (by rfl) (by rfl) (.tmp (by rfl) (.const (by rfl) .nil)) ((by have h := lay_ok 32 v hR hw Hs none _ [] (App.nil _) (HS.ok_none _ _) (by simpa using hB); simpa using h))) rfl (by dsimp only [zS, zN, zH, zT]) ?_
  refine zst (op_assign_tmp (by rfl)) rfl (by dsimp only [zS, zN, zH, zT]) ?_
  refine al_end rfl ?_
  refine then_normal ?_
  refine aw_seq ?_
  refine aw_seq ?_
  refine aw_region ?_
  refine zst (op_move_tmp (by rfl)) rfl (by dsimp only [zS, zN, zH, zT]) ?_
  refine zst (op_lenL Try.underlying49 (by first | exact LL.d _ _ | exact LL.own _ _ _ | exact LL.nil _ | assumption)) rfl (by dsimp only [zS, zN, zH, zT]) ?_
  refine zst (op_gtI (by rfl) (by rfl)) rfl (by dsimp only [zS, zN, zH, zT]) ?_
  refine al_end rfl ?_
  refine then_normal ?_
  refine aw_cond rfl (fun hc2 => ?_) (fun hc2 => ?_)
  ·
   (try simp only [y1, y2, y3, y4, y5, y6, y7, y8, y9, y0, List.length_map] at hc2)
   (try simp only [List.length_map] at hc2)
   have hL : 4096 < (encV v).length := by omega
   refine aw_seq ?_
   refine aw_region ?_
   refine zst (op_assign_const (by rfl)) rfl (by dsimp only [zS, zN, zH, zT]) ?_
   refine zst (op_assign_const (by rfl)) rfl (by dsimp only [zS, zN, zH, zT]) ?_
   refine al_end rfl ?_
   refine then_normal ?_
   refine aw_ret ?_
   refine then_ret ?_
   refine retPost2 rfl rfl rfl ?_
   have e : encO v = ([], 4) := by simp [encO, hR, hL]
   exact ⟨by (rw [e]) <;> rfl, ((Ext.refl Hs).upN (NewTok.none Hs) (HS.ok_none _ 0)).1⟩
  ·
   (try simp only [y1, y2, y3, y4, y5, y6, y7, y8, y9, y0, List.length_map] at hc2)
   (try simp only [List.length_map] at hc2)
   have hL : ¬ 4096 < (encV v).length := by omega
   refine aw_skip ?_
   refine then_normal ?_
   refine aw_seq ?_
   refine aw_region ?_
   refine zst (op_move_tmp (by rfl)) rfl (by dsimp only [zS, zN, zH, zT]) ?_
   refine zst (op_string Try.underlying49 Try.underlying9 Try.underlying5 (by first | exact LL.d _ _ | exact LL.own _ _ _ | exact LL.nil _ | assumption) (by rfl)) rfl (by dsimp only [zS, zN, zH, zT]) ?_
   refine zst (op_assign_tmp (by rfl)) rfl (by dsimp only [zS, zN, zH, zT]) ?_
   refine zst (op_assign_const (by rfl)) rfl (by dsimp only [zS, zN, zH, zT]) ?_
   refine al_end rfl ?_
   refine then_normal ?_
   refine aw_ret ?_
   refine retPost2 rfl rfl rfl ?_
   have e : encO v = (encV v, 0) := by simp [encO, hR, hL]
   exact ⟨by (rw [e]) <;> rfl, ((Ext.refl Hs).upN (NewTok.none Hs) (HS.ok_none _ 0)).1⟩
set_option maxRecDepth 100000 in
theorem vsame_ok (Hs : HS) (v o : V) (hv : SmallV v) (ho : SmallV o) : ACalls Try.prog 40 [.d (.agg (vC v)), .d (.agg (vC o))] Hs (Ret (.d (TF (cmpV v o == 0))) Hs) := by
 refine acalls_of_aw Try.func40 rfl ?_
 refine aw_start (T' := [.d (.agg (vC v)), .d (.agg (vC o)), .un, .un, .un, .un, .un, .un, .un]) rfl ?_
 refine aw_seq ?_
 refine aw_region ?_
 refine zst (op_box_elt (cs := [I v.kind, TF v.yes, .v (.int .i64 v.num), S v.text, .lst 6 (v.list.map vD), .lst 7 (v.fields.map fD)]) (by rfl) (vD_cells v)) rfl (by dsimp only [zS, zN, zH, zT]) ?_
 refine zst (op_box_elt (cs := [I o.kind, TF o.yes, .v (.int .i64 o.num), S o.text, .lst 6 (o.list.map vD), .lst 7 (o.fields.map fD)]) (by rfl) (vD_cells o)) rfl (by dsimp only [zS, zN, zH, zT]) ?_
 refine zst (op_assign_const (by rfl)) rfl (by dsimp only [zS, zN, zH, zT]) ?_
 refine al_end rfl ?_
 refine then_normal ?_
 refine aw_seq ?_
 refine aw_region ?_
 refine zst (op_load_elts (ds := vC v) Try.underlying26 (by rfl) Sz26 (by rfl) (Nat.le_of_ble_eq_true rfl) (by rw [vC_eq]; rfl)) rfl (by dsimp only [zS, zN, zH, zT]) ?_
 refine zst (op_load_elts (ds := vC o) Try.underlying26 (by rfl) Sz26 (by rfl) (Nat.le_of_ble_eq_true rfl) (by rw [vC_eq]; rfl)) rfl (by dsimp only [zS, zN, zH, zT]) ?_
 refine zst (op_callF Try.func77 (by rfl) (by rfl) (.tmp (by rfl) (.tmp (by rfl) .nil)) (cmp_ok _ v o hv ho)) rfl (by dsimp only [zS, zN, zH, zT]) ?_
 refine zst (op_eqI (by rfl) (by rfl)) rfl (by dsimp only [zS, zN, zH, zT]) ?_
 refine zst (op_assign_tmp (by rfl)) rfl (by dsimp only [zS, zN, zH, zT]) ?_
 refine al_end rfl ?_
 refine then_normal ?_
 refine aw_ret ?_
 refine retPost1 rfl rfl ?_
 exact ⟨rfl, rfl⟩
set_option maxRecDepth 100000 in
theorem ofInt_ok (Hs : HS) (n : Int) : ACalls Try.prog 37 [.d (.v (.int .i64 n))] Hs (Ret (.d (.agg (vC (ofInt n)))) Hs) := by
 refine ACalls.tidy1 ?_
 suffices h : ACalls Try.prog 37 [.d (.v (.int .i64 n))] Hs (fun av H' => Weak av (.d (.agg (vC (ofInt n)))) ∧ Ext Hs H') from h.weak fun v H' ⟨h1, h2⟩ => ⟨_, h1, rfl, h2⟩
 refine acalls_of_awC Try.func37 rfl ?_
 refine aw_start (T' := [.d (.v (.int .i64 n)), .un, .un, .un, .un]) rfl ?_
 refine aw_seq ?_
 refine aw_region ?_
 refine zst (op_alloc (Zr26) (by rfl)) rfl (by dsimp only [zS, zN, zH, zT]) ?_
 refine al_end rfl ?_
 refine then_normal ?_
 refine aw_seq ?_
 refine aw_region ?_
 refine zst (op_move_tmp (by rfl)) rfl (by dsimp only [zS, zN, zH, zT]) ?_
 refine zst (op_build (pl := [(0, 1), (1, 1), (2, 1), (3, 1), (4, 1), (5, 1)]) Try.underlying26 Zr26 (by kernel_rfl) (by rfl) (by rfl) (by rfl)) rfl (by dsimp only [zS, zN, zH, zT]) ?_
 refine zst (op_storeB (vs := (vs6 2 false n [] nilS nilS)) (b' := (vBlk 26 2 false n [] nilS nilS)) (H' := _) Sz26 (by rfl) push_at (by intro h; cases h) (by rfl) (by rfl) (Nat.le_of_ble_eq_true rfl) (by simp [AV.one, DV.one, TF, S, I, BY]) (by rfl) (by rfl) rfl) rfl (by dsimp only [zS, zN, zH, zT]) ?_
 refine al_end rfl ?_
 refine then_normal ?_
 refine aw_ret ?_
 refine retC1 rfl (.cells Try.underlying26 (by rfl) Sz26 (by rfl) (setB_at push_at) (Nat.le_of_ble_eq_true rfl) (by rfl)) ?_
 exact ⟨Weak.aggD (weak6 weak_nilL weak_nilF) (vC_one (ofInt n)), ((Ext.refl Hs).push _ _).setB (Nat.le_refl _)⟩
set_option maxRecDepth 100000 in
theorem vhead_ok (Hs : HS) : ACalls Try.prog 9 [] Hs (Ret (.d (TF true)) Hs) := by
 refine ACalls.tidy1 ?_
 refine acalls_of_aw Try.func9 rfl ?_
 refine aw_start (T' := [.un, .un, .un, .un, .un, .un, .un, .un, .un, .un, .un, .un, .un, .un, .un, .un, .un, .un, .un, .un, .un, .un, .un, .un, .un, .un, .un, .un, .un, .un]) rfl ?_
 refine aw_seq ?_
 refine aw_region ?_
 refine zst (op_assign_const (by rfl)) rfl (by dsimp only [zS, zN, zH, zT]) ?_
 refine al_end rfl ?_
 refine then_normal ?_
 refine aw_seq ?_
 refine aw_region ?_
 refine zst (op_callF Try.func37 (by rfl) (by rfl) (.const (by rfl) .nil) (ofInt_ok _ 1)) rfl (by dsimp only [zS, zN, zH, zT]) ?_
 refine zst (op_callF Try.func38 (by rfl) (by rfl) (.tmp (by rfl) .nil) ((by have h := venc_ok Hs (ofInt 1) (small_int 1) (wf_int (by unfold i64; decide)) (by rw [enc_one]; decide); rw [encO_one] at h; exact h))) rfl (by dsimp only [zS, zN, zH, zT]) ?_
 refine zst (op_move_tmp (by rfl)) rfl (by dsimp only [zS, zN, zH, zT]) ?_
 refine zst (op_extract (by rfl) (by rfl)) rfl (by dsimp only [zS, zN, zH, zT]) ?_
 refine zst (op_extract (by rfl) (by rfl)) rfl (by dsimp only [zS, zN, zH, zT]) ?_
 refine zst (op_assign_tmp (by rfl)) rfl (by dsimp only [zS, zN, zH, zT]) ?_
 refine zst (op_assign_tmp (by rfl)) rfl (by dsimp only [zS, zN, zH, zT]) ?_
 refine al_end rfl ?_
 refine then_normal ?_
 refine aw_seq ?_
 refine aw_region ?_
 refine zst (op_move_tmp (by rfl)) rfl (by dsimp only [zS, zN, zH, zT]) ?_
 refine zst (op_callF Try.func39 (by rfl) (by rfl) (.tmp (by rfl) .nil) ((by have h := vdec_ok Hs [2, 0, 1, 2]; rw [decV_one] at h; exact h))) rfl (by dsimp only [zS, zN, zH, zT]) ?_
 refine zst (op_move_tmp (by rfl)) rfl (by dsimp only [zS, zN, zH, zT]) ?_
 refine zst (op_extract (by rfl) (by rfl)) rfl (by dsimp only [zS, zN, zH, zT]) ?_
 refine zst (op_extract (by rfl) (by rfl)) rfl (by dsimp only [zS, zN, zH, zT]) ?_
 refine zst (op_alloc (Zr26) (by rfl)) rfl (by dsimp only [zS, zN, zH, zT]) ?_
 refine zst (op_storeV (b' := ⟨26, (vC (ofInt 1)).map .d, false⟩) (ofInt 1) Sz26 (by rfl) push_at (by rfl) (Nat.le_of_ble_eq_true rfl) (by rfl) (by rw [vC_eq]; rfl)) rfl (by dsimp only [zS, zN, zH, zT]) ?_
 refine zst (op_assign_tmp (by rfl)) rfl (by dsimp only [zS, zN, zH, zT]) ?_
 refine al_end rfl ?_
 refine then_normal ?_
 refine aw_seq ?_
 refine aw_draw [0, 0, 0, 0, 0, 0, 0, 0, 0, 0, 0, 1, 0, 0, 0, 0] mixed (by kernel_rfl) ?_
 refine zd0 (fun H => (op_move_tmp (by rfl))) rfl (by dsimp only [zS, zN, zH, zT]) ?_
 refine zd0 (fun H => (op_eqI (by rfl) (by rfl))) rfl (by dsimp only [zS, zN, zH, zT]) ?_
 refine zd0 (fun H => (op_move_tmp (by rfl))) rfl (by dsimp only [zS, zN, zH, zT]) ?_
 refine zd0w rfl rfl rfl (fun H => (op_move_tmp (by rfl))) (by dsimp only [zS, zN, zH, zT]) ?_
 refine zd0w rfl rfl rfl (fun H => (op_eqS (by rfl) (by rfl))) (by dsimp only [zS, zN, zH, zT]) ?_
 refine zd0 (fun H => (op_pick_tt (by rfl) (val_tmp (by rfl)))) rfl (by dsimp only [zS, zN, zH, zT]) ?_
 refine zd0 (fun H => (op_move_tmp (by rfl))) rfl (by dsimp only [zS, zN, zH, zT]) ?_
 refine zd0w rfl rfl rfl (fun H => (op_move_tmp (by rfl))) (by dsimp only [zS, zN, zH, zT]) ?_
 refine zd0w rfl rfl rfl (fun H => (op_eqI (by rfl) (by rfl))) (by dsimp only [zS, zN, zH, zT]) ?_
 refine zd0 (fun H => (op_pick_tt (by rfl) (val_tmp (by rfl)))) rfl (by dsimp only [zS, zN, zH, zT]) ?_
 refine zd0 (fun H => (op_move_tmp (by rfl))) rfl (by dsimp only [zS, zN, zH, zT]) ?_
 refine zd1w rfl rfl rfl (op_load_ptrsD (vC (ofInt 1)) Try.underlying26 (by rfl) Sz26 (by rfl) (setB_at push_at) (by show 0 + 6 ≤ ((vC (ofInt 1)).map AV.d).length; rw [List.length_map, vC_len]; exact Nat.le_refl _) (by show (((vC (ofInt 1)).map AV.d).drop 0).take 6 = _; rw [List.drop_zero, List.take_of_length_le (by rw [List.length_map, vC_len]; exact Nat.le_refl _)]) (vC_one (ofInt 1))) (by dsimp only [zS, zN, zH, zT]) ?_
 refine zd0w rfl rfl rfl (fun H => (op_callF Try.func37 (by rfl) (by rfl) (.const (by rfl) .nil) (ofInt_ok _ 1))) (by dsimp only [zS, zN, zH, zT]) ?_
 refine zd0w rfl rfl rfl (fun H => (op_callF Try.func40 (by rfl) (by rfl) (.tmp (by rfl) (.tmp (by rfl) .nil)) ((by have h := vsame_ok H (ofInt 1) (ofInt 1) (small_int 1) (small_int 1); rw [cmp_int] at h; exact h)))) (by dsimp only [zS, zN, zH, zT]) ?_
 refine zd0 (fun H => (op_pick_tt (by rfl) (val_tmp (by rfl)))) rfl (by dsimp only [zS, zN, zH, zT]) ?_
 refine zd0 (fun H => (op_assign_tmp (by rfl))) rfl (by dsimp only [zS, zN, zH, zT]) ?_
 refine drun_end rfl ?_
 refine then_normal ?_
 refine aw_ret ?_
 refine retPost1 rfl rfl ?_
 exact ⟨rfl, ((Ext.refl Hs).push _ _).setB (Nat.le_refl _)⟩
end Go.Proofs.Ytjbpfnoibeogbaa
namespace Go.Proofs.Ytjbpfnoibeogbaa
open Go.AV Go.AV.Ord Go.AV.Oct Go.AV.Val
set_option linter.unusedVariables false
set_option linter.unusedSimpArgs false
set_option maxRecDepth 100000 in
theorem few_step (Hs : HS) (N : Nat) (k : Int) (y : Bool) (i : Int) (tx : List UInt8) (ls : List V) (fs : List F) (hN : N ≤ 7) (ihL : ∀ m, N = m + 1 → ∀ x ∈ ls, ∀ Hs : HS, ACalls Try.prog 10 [.d (.agg (vC x)), .d (I (7 - (m : Int)))] Hs (Ret (.d (TF (fewV m x))) Hs)) (ihF : ∀ m, N = m + 1 → ∀ x ∈ fs, ∀ Hs : HS, ACalls Try.prog 10 [.d (.agg (vC x.val)), .d (I (7 - (m : Int)))] Hs (Ret (.d (TF (fewV m x.val))) Hs)) : ACalls Try.prog 10 [.d (.agg (v6D k y i tx ls fs)), .d (I (7 - (N : Int)))] Hs (Ret (.d (TF (fewV N (.mk k y i tx ls fs)))) Hs) := by
 refine ACalls.tidy1 ?_
 refine acalls_of_aw Try.func10 rfl ?_
 refine aw_start (T' := ((.d (.agg (v6D k y i tx ls fs))) :: (.d (I (7 - (N : Int)))) :: .un :: .un :: .un :: .un :: .un :: .un :: .un :: .un :: .un :: .un :: .un :: .un :: .un :: .un :: .un :: .un :: .un :: .un :: .un :: .un :: .un :: .un :: .un :: .un :: .un :: .un :: .un :: .un :: .un :: .un :: .un :: .un :: .un :: .un :: .un :: .un :: .un :: .un :: .un :: .un :: .un :: .un :: .un :: .un :: .un :: .un :: .un :: .un :: .un :: .un :: .un :: .un :: .un :: .un :: .un :: .un :: .un :: .un :: .un :: .un :: [])) rfl ?_
 refine aw_seq ?_
 refine aw_region ?_
 refine zst (op_box_elt (cs := v6D k y i tx ls fs) (by rfl) (by rfl)) rfl (by dsimp only [zS, zN, zH, zT]) ?_
 refine zst (op_assign_const (by rfl)) rfl (by dsimp only [zS, zN, zH, zT]) ?_
 refine al_end rfl ?_
 refine then_normal ?_
 refine aw_seq ?_
 refine aw_seq ?_
 refine aw_region ?_
 refine zst (op_move_tmp (by rfl)) rfl (by dsimp only [zS, zN, zH, zT]) ?_
 refine zst (op_gtI (by rfl) (by rfl)) rfl (by dsimp only [zS, zN, zH, zT]) ?_
 refine zst (op_move_tmp (by rfl)) rfl (by dsimp only [zS, zN, zH, zT]) ?_
 refine al_split 11 rfl (fun hg1 => ?_) (fun hg1 => ?_)
 ·
  (try simp only [y1, y2, y3, y4, y5, y6, y7, y8, y9, y0, List.length_map] at hg1)
  have hbad : N = 0 ∨ 8 < ls.length ∨ 8 < fs.length ∨ 200 < tx.length := by have h : 6 < 7 - (N : Int) := hg1; omega
  apply al_normT
  · (try dsimp only [zS, zN, zH, zT]); try exact rfl
  refine zuw rfl rfl rfl rfl (by dsimp only [zS, zN, zH, zT]) ?_
  refine zuw rfl rfl rfl rfl (by dsimp only [zS, zN, zH, zT]) ?_
  refine zuw rfl rfl rfl rfl (by dsimp only [zS, zN, zH, zT]) ?_
  refine zuw rfl rfl rfl rfl (by dsimp only [zS, zN, zH, zT]) ?_
  refine zst (op_pick_tt (by rfl) (val_const (by rfl))) rfl (by dsimp only [zS, zN, zH, zT]) ?_
  refine zst (op_move_tmp (by rfl)) rfl (by dsimp only [zS, zN, zH, zT]) ?_
  refine zuw rfl rfl rfl rfl (by dsimp only [zS, zN, zH, zT]) ?_
  refine zuw rfl rfl rfl rfl (by dsimp only [zS, zN, zH, zT]) ?_
  refine zuw rfl rfl rfl rfl (by dsimp only [zS, zN, zH, zT]) ?_
  refine zuw rfl rfl rfl rfl (by dsimp only [zS, zN, zH, zT]) ?_
  refine zst (op_pick_tt (by rfl) (val_const (by rfl))) rfl (by dsimp only [zS, zN, zH, zT]) ?_
  refine zst (op_move_tmp (by rfl)) rfl (by dsimp only [zS, zN, zH, zT]) ?_
  refine zuw rfl rfl rfl rfl (by dsimp only [zS, zN, zH, zT]) ?_
  refine zuw rfl rfl rfl rfl (by dsimp only [zS, zN, zH, zT]) ?_
  refine zuw rfl rfl rfl rfl (by dsimp only [zS, zN, zH, zT]) ?_
  refine zuw rfl rfl rfl rfl (by dsimp only [zS, zN, zH, zT]) ?_
  refine zst (op_pick_tt (by rfl) (val_const (by rfl))) rfl (by dsimp only [zS, zN, zH, zT]) ?_
  refine al_end rfl ?_
  refine then_normal ?_
  refine aw_cond rfl (fun _ => ?_) (fun h => by cases h)
  refine aw_seq ?_
  refine aw_region ?_
  refine zst (op_assign_const (by rfl)) rfl (by dsimp only [zS, zN, zH, zT]) ?_
  refine al_end rfl ?_
  refine then_normal ?_
  refine aw_ret ?_
  refine then_ret ?_
  refine retPost1 rfl rfl ?_
  exact ⟨by rw [few_bad1 hbad]; rfl, Ext.refl _⟩
 ·
  (try simp only [y1, y2, y3, y4, y5, y6, y7, y8, y9, y0, List.length_map] at hg1)
  have hN0 : ¬ N = 0 := by have h : ¬ 6 < 7 - (N : Int) := hg1; omega
  apply al_normT
  · (try dsimp only [zS, zN, zH, zT]); try exact rfl
  refine zsw rfl rfl rfl (by first | exact op_fieldAddr_ptr Try.underlying26 rfl Sz24 (by rfl) (by rfl) | exact op_fieldAddr_elt Try.underlying26 rfl Sz24 (by rfl) (by rfl) (by rfl)) (by dsimp only [zS, zN, zH, zT]) ?_
  refine zsw rfl rfl rfl (by first | exact op_load_elt Try.underlying24 (by rfl) (by rfl) (by rfl) | exact op_load_ptr Try.underlying24 (by rfl) (by rfl) (by exact setB_at push_at) (by rfl)) (by dsimp only [zS, zN, zH, zT]) ?_
  refine zsw rfl rfl rfl (op_lenL Try.underlying24 (by first | exact LL.d _ _ | exact LL.own _ _ _ | exact LL.nil _ | assumption)) (by dsimp only [zS, zN, zH, zT]) ?_
  refine zsw rfl rfl rfl (op_gtI (by rfl) (by rfl)) (by dsimp only [zS, zN, zH, zT]) ?_
  refine zst (op_pick_ff (by rfl) (val_tmp (by rfl))) rfl (by dsimp only [zS, zN, zH, zT]) ?_
  refine zst (op_move_tmp (by rfl)) rfl (by dsimp only [zS, zN, zH, zT]) ?_
  refine al_split 17 rfl (fun hg3 => ?_) (fun hg3 => ?_)
  ·
   (try simp only [y1, y2, y3, y4, y5, y6, y7, y8, y9, y0, List.length_map] at hg3)
   have hbad : N = 0 ∨ 8 < ls.length ∨ 8 < fs.length ∨ 200 < tx.length := by (have h : 8 < (ls.length : Int) := by simpa using hg3); omega
   apply al_normT
   · (try dsimp only [zS, zN, zH, zT]); try exact rfl
   refine zuw rfl rfl rfl rfl (by dsimp only [zS, zN, zH, zT]) ?_
   refine zuw rfl rfl rfl rfl (by dsimp only [zS, zN, zH, zT]) ?_
   refine zuw rfl rfl rfl rfl (by dsimp only [zS, zN, zH, zT]) ?_
   refine zuw rfl rfl rfl rfl (by dsimp only [zS, zN, zH, zT]) ?_
   refine zst (op_pick_tt (by rfl) (val_const (by rfl))) rfl (by dsimp only [zS, zN, zH, zT]) ?_
   refine zst (op_move_tmp (by rfl)) rfl (by dsimp only [zS, zN, zH, zT]) ?_
   refine zuw rfl rfl rfl rfl (by dsimp only [zS, zN, zH, zT]) ?_
   refine zuw rfl rfl rfl rfl (by dsimp only [zS, zN, zH, zT]) ?_
   refine zuw rfl rfl rfl rfl (by dsimp only [zS, zN, zH, zT]) ?_
   refine zuw rfl rfl rfl rfl (by dsimp only [zS, zN, zH, zT]) ?_
   refine zst (op_pick_tt (by rfl) (val_const (by rfl))) rfl (by dsimp only [zS, zN, zH, zT]) ?_
   refine al_end rfl ?_
   refine then_normal ?_
   refine aw_cond rfl (fun _ => ?_) (fun h => by cases h)
   refine aw_seq ?_
   refine aw_region ?_
   refine zst (op_assign_const (by rfl)) rfl (by dsimp only [zS, zN, zH, zT]) ?_
   refine al_end rfl ?_
   refine then_normal ?_
   refine aw_ret ?_
   refine then_ret ?_
   refine retPost1 rfl rfl ?_
   exact ⟨by rw [few_bad1 hbad]; rfl, Ext.refl _⟩
  ·
   (try simp only [y1, y2, y3, y4, y5, y6, y7, y8, y9, y0, List.length_map] at hg3)
   have hl8 : ls.length ≤ 8 := by (have h : ¬ 8 < (ls.length : Int) := by simpa using hg3); omega
   apply al_normT
   · (try dsimp only [zS, zN, zH, zT]); try exact rfl
   refine zsw rfl rfl rfl (by first | exact op_fieldAddr_ptr Try.underlying26 rfl Sz22 (by rfl) (by rfl) | exact op_fieldAddr_elt Try.underlying26 rfl Sz22 (by rfl) (by rfl) (by rfl)) (by dsimp only [zS, zN, zH, zT]) ?_
   refine zsw rfl rfl rfl (by first | exact op_load_elt Try.underlying22 (by rfl) (by rfl) (by rfl) | exact op_load_ptr Try.underlying22 (by rfl) (by rfl) (by exact setB_at push_at) (by rfl)) (by dsimp only [zS, zN, zH, zT]) ?_
   refine zsw rfl rfl rfl (op_lenL Try.underlying22 (by first | exact LL.d _ _ | exact LL.own _ _ _ | exact LL.nil _ | assumption)) (by dsimp only [zS, zN, zH, zT]) ?_
   refine zsw rfl rfl rfl (op_gtI (by rfl) (by rfl)) (by dsimp only [zS, zN, zH, zT]) ?_
   refine zst (op_pick_ff (by rfl) (val_tmp (by rfl))) rfl (by dsimp only [zS, zN, zH, zT]) ?_
   refine zst (op_move_tmp (by rfl)) rfl (by dsimp only [zS, zN, zH, zT]) ?_
   refine al_split 23 rfl (fun hg5 => ?_) (fun hg5 => ?_)
   ·
    (try simp only [y1, y2, y3, y4, y5, y6, y7, y8, y9, y0, List.length_map] at hg5)
    have hbad : N = 0 ∨ 8 < ls.length ∨ 8 < fs.length ∨ 200 < tx.length := by (have h : 8 < (fs.length : Int) := by simpa using hg5); omega
    apply al_normT
    · (try dsimp only [zS, zN, zH, zT]); try exact rfl
    refine zuw rfl rfl rfl rfl (by dsimp only [zS, zN, zH, zT]) ?_
    refine zuw rfl rfl rfl rfl (by dsimp only [zS, zN, zH, zT]) ?_
    refine zuw rfl rfl rfl rfl (by dsimp only [zS, zN, zH, zT]) ?_
    refine zuw rfl rfl rfl rfl (by dsimp only [zS, zN, zH, zT]) ?_
    refine zst (op_pick_tt (by rfl) (val_const (by rfl))) rfl (by dsimp only [zS, zN, zH, zT]) ?_
    refine al_end rfl ?_
    refine then_normal ?_
    refine aw_cond rfl (fun _ => ?_) (fun h => by cases h)
    refine aw_seq ?_
    refine aw_region ?_
    refine zst (op_assign_const (by rfl)) rfl (by dsimp only [zS, zN, zH, zT]) ?_
    refine al_end rfl ?_
    refine then_normal ?_
    refine aw_ret ?_
    refine then_ret ?_
    refine retPost1 rfl rfl ?_
    exact ⟨by rw [few_bad1 hbad]; rfl, Ext.refl _⟩
   ·
    (try simp only [y1, y2, y3, y4, y5, y6, y7, y8, y9, y0, List.length_map] at hg5)
    have hf8 : fs.length ≤ 8 := by (have h : ¬ 8 < (fs.length : Int) := by simpa using hg5); omega
    apply al_normT
    · (try dsimp only [zS, zN, zH, zT]); try exact rfl
    refine zsw rfl rfl rfl (by first | exact op_fieldAddr_ptr Try.underlying26 rfl Sz9 (by rfl) (by rfl) | exact op_fieldAddr_elt Try.underlying26 rfl Sz9 (by rfl) (by rfl) (by rfl)) (by dsimp only [zS, zN, zH, zT]) ?_
    refine zsw rfl rfl rfl (by first | exact op_load_elt Try.underlying9 (by rfl) (by rfl) (by rfl) | exact op_load_ptr Try.underlying9 (by rfl) (by rfl) (by exact setB_at push_at) (by rfl)) (by dsimp only [zS, zN, zH, zT]) ?_
    refine zsw rfl rfl rfl (op_lenS Try.underlying9 (by rfl)) (by dsimp only [zS, zN, zH, zT]) ?_
    refine zsw rfl rfl rfl (op_gtI (by rfl) (by rfl)) (by dsimp only [zS, zN, zH, zT]) ?_
    refine zst (op_pick_ff (by rfl) (val_tmp (by rfl))) rfl (by dsimp only [zS, zN, zH, zT]) ?_
    refine al_end rfl ?_
    refine then_normal ?_
    refine aw_cond rfl (fun hc7 => ?_) (fun hc7 => ?_)
    ·
     (try simp only [y1, y2, y3, y4, y5, y6, y7, y8, y9, y0, List.length_map] at hc7)
     have hbad : N = 0 ∨ 8 < ls.length ∨ 8 < fs.length ∨ 200 < tx.length := by omega
     refine aw_seq ?_
     refine aw_region ?_
     refine zst (op_assign_const (by rfl)) rfl (by dsimp only [zS, zN, zH, zT]) ?_
     refine al_end rfl ?_
     refine then_normal ?_
     refine aw_ret ?_
     refine then_ret ?_
     refine retPost1 rfl rfl ?_
     exact ⟨by rw [few_bad1 hbad]; rfl, Ext.refl _⟩
    ·
     (try simp only [y1, y2, y3, y4, y5, y6, y7, y8, y9, y0, List.length_map] at hc7)
     have ht2 : tx.length ≤ 200 := by omega
     obtain ⟨m, rfl⟩ : ∃ m, N = m + 1 := ⟨N - 1, by omega⟩
     refine aw_skip ?_
     refine then_normal ?_
     refine aw_seq ?_
     refine aw_seq ?_
     refine aw_region ?_
     refine zst (by first | exact op_fieldAddr_ptr Try.underlying26 rfl Sz24 (by rfl) (by rfl) | exact op_fieldAddr_elt Try.underlying26 rfl Sz24 (by rfl) (by rfl) (by rfl)) rfl (by dsimp only [zS, zN, zH, zT]) ?_
     refine zst (by first | exact op_load_elt Try.underlying24 (by rfl) (by rfl) (by rfl) | exact op_load_ptr Try.underlying24 (by rfl) (by rfl) (by exact setB_at push_at) (by rfl)) rfl (by dsimp only [zS, zN, zH, zT]) ?_
     refine zst (op_lenL Try.underlying24 (by first | exact LL.d _ _ | exact LL.own _ _ _ | exact LL.nil _ | assumption)) rfl (by dsimp only [zS, zN, zH, zT]) ?_
     refine zst (op_move_const (by rfl)) rfl (by dsimp only [zS, zN, zH, zT]) ?_
     refine al_end rfl ?_
     refine then_normal ?_
     refine aw_block ?_
     apply aw_loopF (fun n T H => ∃ (j : Nat), T = (.un :: (.d (I (7 - ((m + 1 : Nat) : Int)))) :: (.elt (v6D k y i tx ls fs)) :: .un :: .un :: .un :: .un :: .un :: .un :: .un :: .un :: .un :: .un :: .un :: .un :: .un :: .un :: .un :: .un :: .un :: .un :: .un :: .un :: .un :: .un :: .un :: .un :: .un :: .un :: .un :: (.d (.lst 6 (ls.map vD))) :: (.d (I (ls.map vD).length)) :: (.d (I j)) :: .un :: .un :: .un :: .un :: .un :: .un :: .un :: .un :: .un :: .un :: .un :: .un :: .un :: .un :: .un :: .un :: .un :: .un :: .un :: .un :: .un :: .un :: .un :: .un :: .un :: .un :: .un :: .un :: .un :: []) ∧ j ≤ ls.length ∧ n = ls.length - j ∧ (ls.take j).all (fewV m) = true ∧ Ext Hs H) (ls.length) (false :: true :: true :: false :: false :: false :: false :: false :: false :: false :: false :: false :: false :: false :: false :: false :: false :: false :: false :: false :: false :: false :: false :: false :: false :: false :: false :: false :: false :: false :: true :: true :: true :: false :: false :: false :: false :: false :: false :: false :: false :: false :: false :: false :: false :: false :: false :: false :: false :: false :: false :: false :: false :: false :: false :: false :: false :: false :: false :: false :: false :: false :: [])
     · (try dsimp only [maskT]); try exact rfl
     · rfl
     · exact ⟨0, rfl, by omega, rfl, by simp, Ext.refl _⟩
     rintro n T H ⟨j, rfl, hj, rfl, hall, hx⟩
     refine aw_seq ?_
     refine aw_region ?_
     refine zst (op_ltI (by rfl) (by rfl)) rfl (by dsimp only [zS, zN, zH, zT]) ?_
     refine al_end rfl ?_
     refine then_normal ?_
     refine aw_seq ?_
     refine aw_cond rfl (fun hc8 => ?_) (fun hc8 => ?_)
     ·
      (try simp only [y1, y2, y3, y4, y5, y6, y7, y8, y9, y0, List.length_map] at hc8)
      (try simp only [List.length_map] at hc8)
      have hlt : j < ls.length := by omega
      obtain ⟨x, hx1⟩ : ∃ x, ls[j]? = some x := ⟨_, List.getElem?_eq_getElem hlt⟩
      refine aw_skip ?_
      refine then_normal ?_
      refine aw_seq ?_
      refine aw_block ?_
      refine aw_seq ?_
      refine aw_region ?_
      refine zst (op_indexAddr (z := vD x) (cs := [I x.kind, TF x.yes, .v (.int .i64 x.num), S x.text, .lst 6 (x.list.map vD), .lst 7 (x.fields.map fD)]) Try.underlying24 Sz26 (LL.d _ _) (by rfl) (by omega) (by rw [List.getElem?_map, show ((j : Nat) : Int).toNat = j from rfl, hx1]; rfl) (vD_cells x)) rfl (by dsimp only [zS, zN, zH, zT]) ?_
      refine zst (op_load_elts (ds := vC x) Try.underlying26 (by rfl) Sz26 (by rfl) (Nat.le_of_ble_eq_true rfl) (by rw [vC_eq]; rfl)) rfl (by dsimp only [zS, zN, zH, zT]) ?_
      refine zst (op_alloc (Zr26) (by rfl)) rfl (by dsimp only [zS, zN, zH, zT]) ?_
      refine zst (op_storeV (b' := ⟨26, (vC x).map .d, false⟩) x Sz26 (by rfl) push_at (by rfl) (Nat.le_of_ble_eq_true rfl) (by rfl) (by rw [vC_eq]; rfl)) rfl (by dsimp only [zS, zN, zH, zT]) ?_
      refine al_end rfl ?_
      refine then_normal ?_
      refine aw_seq ?_
      refine aw_region ?_
      refine zst (op_load_ptrsD (vC x) Try.underlying26 (by rfl) Sz26 (by rfl) (setB_at push_at) (by show 0 + 6 ≤ ((vC x).map AV.d).length; rw [List.length_map, vC_len]; exact Nat.le_refl _) (by show (((vC x).map AV.d).drop 0).take 6 = _; rw [List.drop_zero, List.take_of_length_le (by rw [List.length_map, vC_len]; exact Nat.le_refl _)]) (vC_one x)) rfl (by dsimp only [zS, zN, zH, zT]) ?_
      refine zst (op_move_tmp (by rfl)) rfl (by dsimp only [zS, zN, zH, zT]) ?_
      refine zst (op_add (by rfl) (by rfl) (show IntKind.i64.wrap ((7 - ((m + 1 : Nat) : Int)) + 1) = 7 - (m : Int) by rw [wrap_i64 ⟨by omega, by omega⟩]; omega)) rfl (by dsimp only [zS, zN, zH, zT]) ?_
      refine zst (op_callF Try.func10 (by rfl) (by rfl) (.tmp (by rfl) (.tmp (by rfl) .nil)) (ihL m rfl x (List.mem_of_getElem? hx1) _)) rfl (by dsimp only [zS, zN, zH, zT]) ?_
      refine zst (op_not (by rfl)) rfl (by dsimp only [zS, zN, zH, zT]) ?_
      refine al_end rfl ?_
      refine then_normal ?_
      refine aw_cond rfl (fun hc9 => ?_) (fun hc9 => ?_)
      ·
       (try simp only [y1, y2, y3, y4, y5, y6, y7, y8, y9, y0, List.length_map] at hc9)
       have hfx : fewV m x = false := by simpa using hc9
       refine aw_seq ?_
       refine aw_region ?_
       refine zst (op_assign_const (by rfl)) rfl (by dsimp only [zS, zN, zH, zT]) ?_
       refine al_end rfl ?_
       refine then_normal ?_
       refine aw_ret ?_
       refine inBlock_ret (then_ret (again_ret (inBlock_ret (then_ret ?_))))
       refine retPost1 rfl rfl ?_
       exact ⟨by rw [few_eq hl8 hf8 ht2, all_bad hx1 hfx]; rfl, (hx.push _ _).setB (nb_le hx)⟩
      ·
       (try simp only [y1, y2, y3, y4, y5, y6, y7, y8, y9, y0, List.length_map] at hc9)
       have hfx : fewV m x = true := by simpa using hc9
       refine aw_skip ?_
       refine inBlock_normal (then_normal ?_)
       refine aw_region ?_
       refine zst (by first | exact op_add (by rfl) (by rfl) (wrap_i64 ⟨by omega, by omega⟩) | exact op_add (by rfl) (by rfl) (by rfl)) rfl (by dsimp only [zS, zN, zH, zT]) ?_
       refine zst (op_move_tmp (by rfl)) rfl (by dsimp only [zS, zN, zH, zT]) ?_
       refine al_end rfl ?_
       apply again_to (ls.length - (j + 1)) (false :: true :: true :: false :: false :: false :: false :: false :: false :: false :: false :: false :: false :: false :: false :: false :: false :: false :: false :: false :: false :: false :: false :: false :: false :: false :: false :: false :: false :: false :: true :: true :: true :: false :: false :: false :: false :: false :: false :: false :: false :: false :: false :: false :: false :: false :: false :: false :: false :: false :: false :: false :: false :: false :: false :: false :: false :: false :: false :: false :: false :: false :: [])
       · (try dsimp only [maskT]); try exact rfl
       · rfl
       · omega
       exact ⟨j + 1, rfl, by omega, rfl, all_step hx1 hall hfx, (hx.push _ _).setB (nb_le hx)⟩
     ·
      (try simp only [y1, y2, y3, y4, y5, y6, y7, y8, y9, y0, List.length_map] at hc8)
      (try simp only [List.length_map] at hc8)
      have hje : j = ls.length := by omega
      subst hje
      refine aw_exit ?_
      refine then_exit (again_exit (inBlock_here (then_normal ?_)))
      refine aw_seq ?_
      refine aw_seq ?_
      refine aw_region ?_
      refine zst (by first | exact op_fieldAddr_ptr Try.underlying26 rfl Sz22 (by rfl) (by rfl) | exact op_fieldAddr_elt Try.underlying26 rfl Sz22 (by rfl) (by rfl) (by rfl)) rfl (by dsimp only [zS, zN, zH, zT]) ?_
      refine zst (by first | exact op_load_elt Try.underlying22 (by rfl) (by rfl) (by rfl) | exact op_load_ptr Try.underlying22 (by rfl) (by rfl) (by exact setB_at push_at) (by rfl)) rfl (by dsimp only [zS, zN, zH, zT]) ?_
      refine zst (op_lenL Try.underlying22 (by first | exact LL.d _ _ | exact LL.own _ _ _ | exact LL.nil _ | assumption)) rfl (by dsimp only [zS, zN, zH, zT]) ?_
      refine zst (op_move_const (by rfl)) rfl (by dsimp only [zS, zN, zH, zT]) ?_
      refine al_end rfl ?_
      refine then_normal ?_
      refine aw_block ?_
      rw [List.take_length] at hall
      apply aw_loopF (fun n T H => ∃ (j : Nat), T = (.un :: (.d (I (7 - ((m + 1 : Nat) : Int)))) :: (.elt (v6D k y i tx ls fs)) :: .un :: .un :: .un :: .un :: .un :: .un :: .un :: .un :: .un :: .un :: .un :: .un :: .un :: .un :: .un :: .un :: .un :: .un :: .un :: .un :: .un :: .un :: .un :: .un :: .un :: .un :: .un :: .un :: .un :: .un :: .un :: .un :: .un :: .un :: .un :: .un :: .un :: .un :: .un :: .un :: (.d (.lst 7 (fs.map fD))) :: (.d (I (fs.map fD).length)) :: (.d (I j)) :: .un :: .un :: .un :: .un :: .un :: .un :: .un :: .un :: .un :: .un :: .un :: .un :: .un :: .un :: .un :: .un :: []) ∧ j ≤ fs.length ∧ n = fs.length - j ∧ ((fs.take j).all fun f => decide (f.name.length ≤ 40) && fewV m f.val) = true ∧ Ext Hs H) (fs.length) (false :: true :: true :: false :: false :: false :: false :: false :: false :: false :: false :: false :: false :: false :: false :: false :: false :: false :: false :: false :: false :: false :: false :: false :: false :: false :: false :: false :: false :: false :: false :: false :: false :: false :: false :: false :: false :: false :: false :: false :: false :: false :: false :: true :: true :: true :: false :: false :: false :: false :: false :: false :: false :: false :: false :: false :: false :: false :: false :: false :: false :: false :: [])
      · (try dsimp only [maskT]); try exact rfl
      · rfl
      · exact ⟨0, rfl, by omega, rfl, by simp, hx⟩
      rintro n T H ⟨j, rfl, hj, rfl, hall2, hx⟩
      refine aw_seq ?_
      refine aw_region ?_
      refine zst (op_ltI (by rfl) (by rfl)) rfl (by dsimp only [zS, zN, zH, zT]) ?_
      refine al_end rfl ?_
      refine then_normal ?_
      refine aw_seq ?_
      refine aw_cond rfl (fun hc10 => ?_) (fun hc10 => ?_)
      ·
       (try simp only [y1, y2, y3, y4, y5, y6, y7, y8, y9, y0, List.length_map] at hc10)
       (try simp only [List.length_map] at hc10)
       have hlt : j < fs.length := by omega
       obtain ⟨x, hx1⟩ : ∃ x, fs[j]? = some x := ⟨_, List.getElem?_eq_getElem hlt⟩
       refine aw_skip ?_
       refine then_normal ?_
       refine aw_seq ?_
       refine aw_block ?_
       refine aw_seq ?_
       refine aw_region ?_
       refine zst (op_indexAddr (z := fD x) (cs := [S x.name, I x.val.kind, TF x.val.yes, .v (.int .i64 x.val.num), S x.val.text, .lst 6 (x.val.list.map vD), .lst 7 (x.val.fields.map fD)]) Try.underlying22 Sz30 (LL.d _ _) (by rfl) (by omega) (by rw [List.getElem?_map, show ((j : Nat) : Int).toNat = j from rfl, hx1]; rfl) (fD_cells7 x)) rfl (by dsimp only [zS, zN, zH, zT]) ?_
       refine zst (op_load_elts (ds := fC x) Try.underlying30 (by rfl) Sz30 (by rfl) (Nat.le_of_ble_eq_true rfl) (by rw [← fC7]; rfl)) rfl (by dsimp only [zS, zN, zH, zT]) ?_
       refine zst (op_alloc (Zr30) (by rfl)) rfl (by dsimp only [zS, zN, zH, zT]) ?_
       refine zst (op_storeF (b' := f1 30 x) x Sz30 (by rfl) push_at (by rfl) (Nat.le_of_ble_eq_true rfl) (by rfl) (by unfold f1; rw [← fC7]; rfl)) rfl (by dsimp only [zS, zN, zH, zT]) ?_
       refine al_end rfl ?_
       refine then_normal ?_
       refine aw_seq ?_
       refine aw_region ?_
       refine zst (by first | exact op_fieldAddr_ptr Try.underlying30 rfl Sz9 (by rfl) (by rfl) | exact op_fieldAddr_elt Try.underlying30 rfl Sz9 (by rfl) (by rfl) (by rfl)) rfl (by dsimp only [zS, zN, zH, zT]) ?_
       refine zst (op_load_ptr Try.underlying9 (by rfl) (by rfl) (setB_at push_at) (f1_name x)) rfl (by dsimp only [zS, zN, zH, zT]) ?_
       refine zst (op_lenS Try.underlying9 (by rfl)) rfl (by dsimp only [zS, zN, zH, zT]) ?_
       refine zst (op_gtI (by rfl) (by rfl)) rfl (by dsimp only [zS, zN, zH, zT]) ?_
       refine zst (op_move_tmp (by rfl)) rfl (by dsimp only [zS, zN, zH, zT]) ?_
       refine al_split 53 rfl (fun hg11 => ?_) (fun hg11 => ?_)
       ·
        (try simp only [y1, y2, y3, y4, y5, y6, y7, y8, y9, y0, List.length_map] at hg11)
        have hnb : (decide (x.name.length ≤ 40) && fewV m x.val) = false := by (have h : 40 < (x.name.length : Int) := hg11); simp; omega
        apply al_normT
        · (try dsimp only [zS, zN, zH, zT]); try exact rfl
        refine zuw rfl rfl rfl rfl (by dsimp only [zS, zN, zH, zT]) ?_
        refine zuw rfl rfl rfl rfl (by dsimp only [zS, zN, zH, zT]) ?_
        refine zuw rfl rfl rfl rfl (by dsimp only [zS, zN, zH, zT]) ?_
        refine zuw rfl rfl rfl rfl (by dsimp only [zS, zN, zH, zT]) ?_
        refine zuw rfl rfl rfl rfl (by dsimp only [zS, zN, zH, zT]) ?_
        refine zuw rfl rfl rfl rfl (by dsimp only [zS, zN, zH, zT]) ?_
        refine zst (op_pick_tt (by rfl) (val_const (by rfl))) rfl (by dsimp only [zS, zN, zH, zT]) ?_
        refine al_end rfl ?_
        refine then_normal ?_
        refine aw_cond rfl (fun _ => ?_) (fun h => by cases h)
        refine aw_seq ?_
        refine aw_region ?_
        refine zst (op_assign_const (by rfl)) rfl (by dsimp only [zS, zN, zH, zT]) ?_
        refine al_end rfl ?_
        refine then_normal ?_
        refine aw_ret ?_
        refine inBlock_ret (then_ret (again_ret (inBlock_ret (then_ret ?_))))
        refine retPost1 rfl rfl ?_
        exact ⟨by rw [few_eq hl8 hf8 ht2, all_bad (p := fun f => decide (f.name.length ≤ 40) && fewV m f.val) hx1 hnb, Bool.and_false]; rfl, (hx.push _ _).setB (nb_le hx)⟩
       ·
        (try simp only [y1, y2, y3, y4, y5, y6, y7, y8, y9, y0, List.length_map] at hg11)
        have hn40 : x.name.length ≤ 40 := by have h : ¬ 40 < (x.name.length : Int) := hg11; omega
        apply al_normT
        · (try dsimp only [zS, zN, zH, zT]); try exact rfl
        refine zsw rfl rfl rfl (by first | exact op_fieldAddr_ptr Try.underlying30 rfl Sz26 (by rfl) (by rfl) | exact op_fieldAddr_elt Try.underlying30 rfl Sz26 (by rfl) (by rfl) (by rfl)) (by dsimp only [zS, zN, zH, zT]) ?_
        refine zsw rfl rfl rfl (op_load_ptrsD (vC x.val) Try.underlying26 (by rfl) Sz26 (by rfl) (setB_at push_at) (by show 1 + 6 ≤ ((fC x).map AV.d).length; rw [List.length_map, fC_len]; exact Nat.le_refl _) (f1_val x) (vC_one _)) (by dsimp only [zS, zN, zH, zT]) ?_
        refine zsw rfl rfl rfl (op_move_tmp (by rfl)) (by dsimp only [zS, zN, zH, zT]) ?_
        refine zsw rfl rfl rfl (op_add (by rfl) (by rfl) (show IntKind.i64.wrap ((7 - ((m + 1 : Nat) : Int)) + 1) = 7 - (m : Int) by rw [wrap_i64 ⟨by omega, by omega⟩]; omega)) (by dsimp only [zS, zN, zH, zT]) ?_
        refine zsw rfl rfl rfl (op_callF Try.func10 (by rfl) (by rfl) (.tmp (by rfl) (.tmp (by rfl) .nil)) (ihF m rfl x (List.mem_of_getElem? hx1) _)) (by dsimp only [zS, zN, zH, zT]) ?_
        refine zsw rfl rfl rfl (op_not (by rfl)) (by dsimp only [zS, zN, zH, zT]) ?_
        refine zst (op_pick_ff (by rfl) (val_tmp (by rfl))) rfl (by dsimp only [zS, zN, zH, zT]) ?_
        refine al_end rfl ?_
        refine then_normal ?_
        refine aw_cond rfl (fun hc13 => ?_) (fun hc13 => ?_)
        ·
         (try simp only [y1, y2, y3, y4, y5, y6, y7, y8, y9, y0, List.length_map] at hc13)
         have hnb : (decide (x.name.length ≤ 40) && fewV m x.val) = false := by (have h : fewV m x.val = false := by simpa using hc13); simp [h]
         refine aw_seq ?_
         refine aw_region ?_
         refine zst (op_assign_const (by rfl)) rfl (by dsimp only [zS, zN, zH, zT]) ?_
         refine al_end rfl ?_
         refine then_normal ?_
         refine aw_ret ?_
         refine inBlock_ret (then_ret (again_ret (inBlock_ret (then_ret ?_))))
         refine retPost1 rfl rfl ?_
         exact ⟨by rw [few_eq hl8 hf8 ht2, all_bad (p := fun f => decide (f.name.length ≤ 40) && fewV m f.val) hx1 hnb, Bool.and_false]; rfl, (hx.push _ _).setB (nb_le hx)⟩
        ·
         (try simp only [y1, y2, y3, y4, y5, y6, y7, y8, y9, y0, List.length_map] at hc13)
         have hok : (decide (x.name.length ≤ 40) && fewV m x.val) = true := by (have h : fewV m x.val = true := by simpa using hc13); simp [h, hn40]
         refine aw_skip ?_
         refine inBlock_normal (then_normal ?_)
         refine aw_region ?_
         refine zst (by first | exact op_add (by rfl) (by rfl) (wrap_i64 ⟨by omega, by omega⟩) | exact op_add (by rfl) (by rfl) (by rfl)) rfl (by dsimp only [zS, zN, zH, zT]) ?_
         refine zst (op_move_tmp (by rfl)) rfl (by dsimp only [zS, zN, zH, zT]) ?_
         refine al_end rfl ?_
         apply again_to (fs.length - (j + 1)) (false :: true :: true :: false :: false :: false :: false :: false :: false :: false :: false :: false :: false :: false :: false :: false :: false :: false :: false :: false :: false :: false :: false :: false :: false :: false :: false :: false :: false :: false :: false :: false :: false :: false :: false :: false :: false :: false :: false :: false :: false :: false :: false :: true :: true :: true :: false :: false :: false :: false :: false :: false :: false :: false :: false :: false :: false :: false :: false :: false :: false :: false :: [])
         · (try dsimp only [maskT]); try exact rfl
         · rfl
         · omega
         exact ⟨j + 1, rfl, by omega, rfl, all_step hx1 hall2 hok, (hx.push _ _).setB (nb_le hx)⟩
      ·
       (try simp only [y1, y2, y3, y4, y5, y6, y7, y8, y9, y0, List.length_map] at hc10)
       (try simp only [List.length_map] at hc10)
       have hje : j = fs.length := by omega
       subst hje
       refine aw_exit ?_
       refine then_exit (again_exit (inBlock_here (then_normal ?_)))
       refine aw_seq ?_
       refine aw_region ?_
       refine zst (op_assign_const (by rfl)) rfl (by dsimp only [zS, zN, zH, zT]) ?_
       refine al_end rfl ?_
       refine then_normal ?_
       refine aw_ret ?_
       refine retPost1 rfl rfl ?_
       exact ⟨by rw [List.take_length] at hall2; rw [few_eq hl8 hf8 ht2, hall, hall2]; rfl, hx⟩
theorem few_ok : ∀ (N : Nat) (v : V), N ≤ 7 → ∀ Hs : HS, ACalls Try.prog 10 [.d (.agg (vC v)), .d (I (7 - (N : Int)))] Hs (Ret (.d (TF (fewV N v))) Hs)
  | 0, .mk k y i tx ls fs, hN, Hs => by
    rw [v6D_eq]
    exact few_step Hs 0 k y i tx ls fs hN (fun _ h => by cases h) (fun _ h => by cases h)
  | N + 1, .mk k y i tx ls fs, hN, Hs => by
    rw [v6D_eq]
    exact few_step Hs (N + 1) k y i tx ls fs hN (fun d h x _ Hs => by cases h; exact few_ok N x (by omega) Hs) (fun d h x _ Hs => by cases h; exact few_ok N x.val (by omega) Hs)
end Go.Proofs.Ytjbpfnoibeogbaa
namespace Go.Proofs.Ytjbpfnoibeogbaa
open Go.AV Go.AV.Ord Go.AV.Oct Go.AV.Val
set_option linter.unusedVariables false
set_option linter.unusedSimpArgs false
set_option maxRecDepth 100000 in
theorem same_step (Hs : HS) (k : Int) (y : Bool) (i : Int) (tx : List UInt8) (ls : List V) (fs : List F) (hls : ls.length ≤ 1000000) (hfs : fs.length ≤ 1000000) (ihL : ∀ x ∈ ls, ∀ Hs : HS, ACalls Try.prog 12 [.d (.agg (vC x)), .d (.agg (vC x))] Hs (Ret (.d (TF true)) Hs)) (ihF : ∀ x ∈ fs, ∀ Hs : HS, ACalls Try.prog 12 [.d (.agg (vC x.val)), .d (.agg (vC x.val))] Hs (Ret (.d (TF true)) Hs)) : ACalls Try.prog 12 [.d (.agg (v6D k y i tx ls fs)), .d (.agg (v6D k y i tx ls fs))] Hs (Ret (.d (TF true)) Hs) := by
 refine acalls_of_aw Try.func12 rfl ?_
 refine aw_start (T' := ((.d (.agg (v6D k y i tx ls fs))) :: (.d (.agg (v6D k y i tx ls fs))) :: .un :: .un :: .un :: .un :: .un :: .un :: .un :: .un :: .un :: .un :: .un :: .un :: .un :: .un :: .un :: .un :: .un :: .un :: .un :: .un :: .un :: .un :: .un :: .un :: .un :: .un :: .un :: .un :: .un :: .un :: .un :: .un :: .un :: .un :: .un :: .un :: .un :: .un :: .un :: .un :: .un :: .un :: .un :: .un :: .un :: .un :: .un :: .un :: .un :: .un :: .un :: .un :: .un :: .un :: .un :: .un :: .un :: .un :: .un :: .un :: .un :: .un :: .un :: .un :: .un :: .un :: .un :: .un :: .un :: .un :: .un :: .un :: .un :: .un :: .un :: .un :: .un :: .un :: .un :: .un :: .un :: .un :: .un :: .un :: .un :: .un :: .un :: .un :: .un :: .un :: .un :: .un :: .un :: .un :: .un :: .un :: .un :: .un :: .un :: .un :: .un :: .un :: .un :: .un :: [])) rfl ?_
 refine aw_seq ?_
 refine aw_region ?_
 refine zst (op_box_elt (cs := v6D k y i tx ls fs) (by rfl) (by rfl)) rfl (by dsimp only [zS, zN, zH, zT]) ?_
 refine zst (op_box_elt (cs := v6D k y i tx ls fs) (by rfl) (by rfl)) rfl (by dsimp only [zS, zN, zH, zT]) ?_
 refine zst (op_assign_const (by rfl)) rfl (by dsimp only [zS, zN, zH, zT]) ?_
 refine al_end rfl ?_
 refine then_normal ?_
 refine aw_seq ?_
 refine aw_seq ?_
 refine aw_region ?_
 refine zst (by first | exact op_fieldAddr_ptr Try.underlying26 rfl Sz23 (by rfl) (by rfl) | exact op_fieldAddr_elt Try.underlying26 rfl Sz23 (by rfl) (by rfl) (by rfl)) rfl (by dsimp only [zS, zN, zH, zT]) ?_
 refine zst (by first | exact op_load_elt Try.underlying23 (by rfl) (by rfl) (by rfl) | exact op_load_ptr Try.underlying23 (by rfl) (by rfl) (by rfl) (by rfl)) rfl (by dsimp only [zS, zN, zH, zT]) ?_
 refine zst (by first | exact op_fieldAddr_ptr Try.underlying26 rfl Sz23 (by rfl) (by rfl) | exact op_fieldAddr_elt Try.underlying26 rfl Sz23 (by rfl) (by rfl) (by rfl)) rfl (by dsimp only [zS, zN, zH, zT]) ?_
 refine zst (by first | exact op_load_elt Try.underlying23 (by rfl) (by rfl) (by rfl) | exact op_load_ptr Try.underlying23 (by rfl) (by rfl) (by rfl) (by rfl)) rfl (by dsimp only [zS, zN, zH, zT]) ?_
 refine zst (op_neI (by rfl) (by rfl)) rfl (by dsimp only [zS, zN, zH, zT]) ?_
 refine zst (op_move_tmp (by rfl)) rfl (by dsimp only [zS, zN, zH, zT]) ?_
 refine al_split 12 rfl (fun hg1 => ?_) (fun hg1 => ?_)
 ·
  (try simp only [y1, y2, y3, y4, y5, y6, y7, y8, y9, y0, List.length_map] at hg1)
  apply al_normT
  · (try dsimp only [zS, zN, zH, zT]); try exact rfl
  all_goals (first | exact absurd rfl hg1 | simp at hg1)
 ·
  (try simp only [y1, y2, y3, y4, y5, y6, y7, y8, y9, y0, List.length_map] at hg1)
  apply al_normT
  · (try dsimp only [zS, zN, zH, zT]); try exact rfl
  refine zsw rfl rfl rfl (by first | exact op_fieldAddr_ptr Try.underlying26 rfl Sz4 (by rfl) (by rfl) | exact op_fieldAddr_elt Try.underlying26 rfl Sz4 (by rfl) (by rfl) (by rfl)) (by dsimp only [zS, zN, zH, zT]) ?_
  refine zsw rfl rfl rfl (by first | exact op_load_elt Try.underlying4 (by rfl) (by rfl) (by rfl) | exact op_load_ptr Try.underlying4 (by rfl) (by rfl) (by rfl) (by rfl)) (by dsimp only [zS, zN, zH, zT]) ?_
  refine zsw rfl rfl rfl (by first | exact op_fieldAddr_ptr Try.underlying26 rfl Sz4 (by rfl) (by rfl) | exact op_fieldAddr_elt Try.underlying26 rfl Sz4 (by rfl) (by rfl) (by rfl)) (by dsimp only [zS, zN, zH, zT]) ?_
  refine zsw rfl rfl rfl (by first | exact op_load_elt Try.underlying4 (by rfl) (by rfl) (by rfl) | exact op_load_ptr Try.underlying4 (by rfl) (by rfl) (by rfl) (by rfl)) (by dsimp only [zS, zN, zH, zT]) ?_
  refine zsw rfl rfl rfl (op_neB Try.underlying4 (by rfl) (by rfl)) (by dsimp only [zS, zN, zH, zT]) ?_
  refine zst (op_pick_ff (by rfl) (val_tmp (by rfl))) rfl (by dsimp only [zS, zN, zH, zT]) ?_
  refine zst (op_move_tmp (by rfl)) rfl (by dsimp only [zS, zN, zH, zT]) ?_
  refine al_split 19 rfl (fun hg2 => ?_) (fun hg2 => ?_)
  ·
   (try simp only [y1, y2, y3, y4, y5, y6, y7, y8, y9, y0, List.length_map] at hg2)
   apply al_normT
   · (try dsimp only [zS, zN, zH, zT]); try exact rfl
   all_goals (first | exact absurd rfl hg2 | simp at hg2)
  ·
   (try simp only [y1, y2, y3, y4, y5, y6, y7, y8, y9, y0, List.length_map] at hg2)
   apply al_normT
   · (try dsimp only [zS, zN, zH, zT]); try exact rfl
   refine zsw rfl rfl rfl (by first | exact op_fieldAddr_ptr Try.underlying26 rfl Sz2 (by rfl) (by rfl) | exact op_fieldAddr_elt Try.underlying26 rfl Sz2 (by rfl) (by rfl) (by rfl)) (by dsimp only [zS, zN, zH, zT]) ?_
   refine zsw rfl rfl rfl (by first | exact op_load_elt Try.underlying2 (by rfl) (by rfl) (by rfl) | exact op_load_ptr Try.underlying2 (by rfl) (by rfl) (by rfl) (by rfl)) (by dsimp only [zS, zN, zH, zT]) ?_
   refine zsw rfl rfl rfl (by first | exact op_fieldAddr_ptr Try.underlying26 rfl Sz2 (by rfl) (by rfl) | exact op_fieldAddr_elt Try.underlying26 rfl Sz2 (by rfl) (by rfl) (by rfl)) (by dsimp only [zS, zN, zH, zT]) ?_
   refine zsw rfl rfl rfl (by first | exact op_load_elt Try.underlying2 (by rfl) (by rfl) (by rfl) | exact op_load_ptr Try.underlying2 (by rfl) (by rfl) (by rfl) (by rfl)) (by dsimp only [zS, zN, zH, zT]) ?_
   refine zsw rfl rfl rfl (op_neI (by rfl) (by rfl)) (by dsimp only [zS, zN, zH, zT]) ?_
   refine zst (op_pick_ff (by rfl) (val_tmp (by rfl))) rfl (by dsimp only [zS, zN, zH, zT]) ?_
   refine zst (op_move_tmp (by rfl)) rfl (by dsimp only [zS, zN, zH, zT]) ?_
   refine al_split 26 rfl (fun hg3 => ?_) (fun hg3 => ?_)
   ·
    (try simp only [y1, y2, y3, y4, y5, y6, y7, y8, y9, y0, List.length_map] at hg3)
    apply al_normT
    · (try dsimp only [zS, zN, zH, zT]); try exact rfl
    all_goals (first | exact absurd rfl hg3 | simp at hg3)
   ·
    (try simp only [y1, y2, y3, y4, y5, y6, y7, y8, y9, y0, List.length_map] at hg3)
    apply al_normT
    · (try dsimp only [zS, zN, zH, zT]); try exact rfl
    refine zsw rfl rfl rfl (by first | exact op_fieldAddr_ptr Try.underlying26 rfl Sz9 (by rfl) (by rfl) | exact op_fieldAddr_elt Try.underlying26 rfl Sz9 (by rfl) (by rfl) (by rfl)) (by dsimp only [zS, zN, zH, zT]) ?_
    refine zsw rfl rfl rfl (by first | exact op_load_elt Try.underlying9 (by rfl) (by rfl) (by rfl) | exact op_load_ptr Try.underlying9 (by rfl) (by rfl) (by rfl) (by rfl)) (by dsimp only [zS, zN, zH, zT]) ?_
    refine zsw rfl rfl rfl (by first | exact op_fieldAddr_ptr Try.underlying26 rfl Sz9 (by rfl) (by rfl) | exact op_fieldAddr_elt Try.underlying26 rfl Sz9 (by rfl) (by rfl) (by rfl)) (by dsimp only [zS, zN, zH, zT]) ?_
    refine zsw rfl rfl rfl (by first | exact op_load_elt Try.underlying9 (by rfl) (by rfl) (by rfl) | exact op_load_ptr Try.underlying9 (by rfl) (by rfl) (by rfl) (by rfl)) (by dsimp only [zS, zN, zH, zT]) ?_
    refine zsw rfl rfl rfl (op_neS (by rfl) (by rfl)) (by dsimp only [zS, zN, zH, zT]) ?_
    refine zst (op_pick_ff (by rfl) (val_tmp (by rfl))) rfl (by dsimp only [zS, zN, zH, zT]) ?_
    refine zst (op_move_tmp (by rfl)) rfl (by dsimp only [zS, zN, zH, zT]) ?_
    refine al_split 33 rfl (fun hg4 => ?_) (fun hg4 => ?_)
    ·
     (try simp only [y1, y2, y3, y4, y5, y6, y7, y8, y9, y0, List.length_map] at hg4)
     apply al_normT
     · (try dsimp only [zS, zN, zH, zT]); try exact rfl
     all_goals (first | exact absurd rfl hg4 | simp at hg4)
    ·
     (try simp only [y1, y2, y3, y4, y5, y6, y7, y8, y9, y0, List.length_map] at hg4)
     apply al_normT
     · (try dsimp only [zS, zN, zH, zT]); try exact rfl
     refine zsw rfl rfl rfl (by first | exact op_fieldAddr_ptr Try.underlying26 rfl Sz24 (by rfl) (by rfl) | exact op_fieldAddr_elt Try.underlying26 rfl Sz24 (by rfl) (by rfl) (by rfl)) (by dsimp only [zS, zN, zH, zT]) ?_
     refine zsw rfl rfl rfl (by first | exact op_load_elt Try.underlying24 (by rfl) (by rfl) (by rfl) | exact op_load_ptr Try.underlying24 (by rfl) (by rfl) (by rfl) (by rfl)) (by dsimp only [zS, zN, zH, zT]) ?_
     refine zsw rfl rfl rfl (op_lenL Try.underlying24 (by first | exact LL.d _ _ | exact LL.own _ _ _ | exact LL.nil _ | assumption)) (by dsimp only [zS, zN, zH, zT]) ?_
     refine zsw rfl rfl rfl (by first | exact op_fieldAddr_ptr Try.underlying26 rfl Sz24 (by rfl) (by rfl) | exact op_fieldAddr_elt Try.underlying26 rfl Sz24 (by rfl) (by rfl) (by rfl)) (by dsimp only [zS, zN, zH, zT]) ?_
     refine zsw rfl rfl rfl (by first | exact op_load_elt Try.underlying24 (by rfl) (by rfl) (by rfl) | exact op_load_ptr Try.underlying24 (by rfl) (by rfl) (by rfl) (by rfl)) (by dsimp only [zS, zN, zH, zT]) ?_
     refine zsw rfl rfl rfl (op_lenL Try.underlying24 (by first | exact LL.d _ _ | exact LL.own _ _ _ | exact LL.nil _ | assumption)) (by dsimp only [zS, zN, zH, zT]) ?_
     refine zsw rfl rfl rfl (op_neI (by rfl) (by rfl)) (by dsimp only [zS, zN, zH, zT]) ?_
     refine zst (op_pick_ff (by rfl) (val_tmp (by rfl))) rfl (by dsimp only [zS, zN, zH, zT]) ?_
     refine zst (op_move_tmp (by rfl)) rfl (by dsimp only [zS, zN, zH, zT]) ?_
     refine al_split 42 rfl (fun hg5 => ?_) (fun hg5 => ?_)
     ·
      (try simp only [y1, y2, y3, y4, y5, y6, y7, y8, y9, y0, List.length_map] at hg5)
      apply al_normT
      · (try dsimp only [zS, zN, zH, zT]); try exact rfl
      all_goals (first | exact absurd rfl hg5 | simp at hg5)
     ·
      (try simp only [y1, y2, y3, y4, y5, y6, y7, y8, y9, y0, List.length_map] at hg5)
      apply al_normT
      · (try dsimp only [zS, zN, zH, zT]); try exact rfl
      refine zsw rfl rfl rfl (by first | exact op_fieldAddr_ptr Try.underlying26 rfl Sz22 (by rfl) (by rfl) | exact op_fieldAddr_elt Try.underlying26 rfl Sz22 (by rfl) (by rfl) (by rfl)) (by dsimp only [zS, zN, zH, zT]) ?_
      refine zsw rfl rfl rfl (by first | exact op_load_elt Try.underlying22 (by rfl) (by rfl) (by rfl) | exact op_load_ptr Try.underlying22 (by rfl) (by rfl) (by rfl) (by rfl)) (by dsimp only [zS, zN, zH, zT]) ?_
      refine zsw rfl rfl rfl (op_lenL Try.underlying22 (by first | exact LL.d _ _ | exact LL.own _ _ _ | exact LL.nil _ | assumption)) (by dsimp only [zS, zN, zH, zT]) ?_
      refine zsw rfl rfl rfl (by first | exact op_fieldAddr_ptr Try.underlying26 rfl Sz22 (by rfl) (by rfl) | exact op_fieldAddr_elt Try.underlying26 rfl Sz22 (by rfl) (by rfl) (by rfl)) (by dsimp only [zS, zN, zH, zT]) ?_
      refine zsw rfl rfl rfl (by first | exact op_load_elt Try.underlying22 (by rfl) (by rfl) (by rfl) | exact op_load_ptr Try.underlying22 (by rfl) (by rfl) (by rfl) (by rfl)) (by dsimp only [zS, zN, zH, zT]) ?_
      refine zsw rfl rfl rfl (op_lenL Try.underlying22 (by first | exact LL.d _ _ | exact LL.own _ _ _ | exact LL.nil _ | assumption)) (by dsimp only [zS, zN, zH, zT]) ?_
      refine zsw rfl rfl rfl (op_neI (by rfl) (by rfl)) (by dsimp only [zS, zN, zH, zT]) ?_
      refine zst (op_pick_ff (by rfl) (val_tmp (by rfl))) rfl (by dsimp only [zS, zN, zH, zT]) ?_
      refine al_end rfl ?_
      refine then_normal ?_
      refine aw_cond rfl (fun hc6 => ?_) (fun hc6 => ?_)
      ·
       (try simp only [y1, y2, y3, y4, y5, y6, y7, y8, y9, y0, List.length_map] at hc6)
       all_goals (first | exact absurd rfl hc6 | simp at hc6)
      ·
       (try simp only [y1, y2, y3, y4, y5, y6, y7, y8, y9, y0, List.length_map] at hc6)
       refine aw_skip ?_
       refine then_normal ?_
       refine aw_seq ?_
       refine aw_seq ?_
       refine aw_region ?_
       refine zst (by first | exact op_fieldAddr_ptr Try.underlying26 rfl Sz24 (by rfl) (by rfl) | exact op_fieldAddr_elt Try.underlying26 rfl Sz24 (by rfl) (by rfl) (by rfl)) rfl (by dsimp only [zS, zN, zH, zT]) ?_
       refine zst (by first | exact op_load_elt Try.underlying24 (by rfl) (by rfl) (by rfl) | exact op_load_ptr Try.underlying24 (by rfl) (by rfl) (by rfl) (by rfl)) rfl (by dsimp only [zS, zN, zH, zT]) ?_
       refine zst (op_lenL Try.underlying24 (by first | exact LL.d _ _ | exact LL.own _ _ _ | exact LL.nil _ | assumption)) rfl (by dsimp only [zS, zN, zH, zT]) ?_
       refine zst (op_move_const (by rfl)) rfl (by dsimp only [zS, zN, zH, zT]) ?_
       refine al_end rfl ?_
       refine then_normal ?_
       refine aw_block ?_
       apply aw_loopF (fun n T H => ∃ (j : Nat), T = (.un :: .un :: (.elt (v6D k y i tx ls fs)) :: (.elt (v6D k y i tx ls fs)) :: .un :: .un :: .un :: .un :: .un :: .un :: .un :: .un :: .un :: .un :: .un :: .un :: .un :: .un :: .un :: .un :: .un :: .un :: .un :: .un :: .un :: .un :: .un :: .un :: .un :: .un :: .un :: .un :: .un :: .un :: .un :: .un :: .un :: .un :: .un :: .un :: .un :: .un :: .un :: .un :: .un :: .un :: .un :: .un :: .un :: .un :: .un :: .un :: .un :: (.d (I (ls.map vD).length)) :: (.d (I j)) :: .un :: .un :: .un :: .un :: .un :: .un :: .un :: .un :: .un :: .un :: .un :: .un :: .un :: .un :: .un :: .un :: .un :: .un :: .un :: .un :: .un :: .un :: .un :: .un :: .un :: .un :: .un :: .un :: .un :: .un :: .un :: .un :: .un :: .un :: .un :: .un :: .un :: .un :: .un :: .un :: .un :: .un :: .un :: .un :: .un :: .un :: .un :: .un :: .un :: .un :: .un :: []) ∧ j ≤ ls.length ∧ n = ls.length - j ∧ Hs = H) (ls.length) (false :: false :: true :: true :: false :: false :: false :: false :: false :: false :: false :: false :: false :: false :: false :: false :: false :: false :: false :: false :: false :: false :: false :: false :: false :: false :: false :: false :: false :: false :: false :: false :: false :: false :: false :: false :: false :: false :: false :: false :: false :: false :: false :: false :: false :: false :: false :: false :: false :: false :: false :: false :: false :: true :: true :: false :: false :: false :: false :: false :: false :: false :: false :: false :: false :: false :: false :: false :: false :: false :: false :: false :: false :: false :: false :: false :: false :: false :: false :: false :: false :: false :: false :: false :: false :: false :: false :: false :: false :: false :: false :: false :: false :: false :: false :: false :: false :: false :: false :: false :: false :: false :: false :: false :: false :: false :: [])
       · (try dsimp only [maskT]); try exact rfl
       · rfl
       · exact ⟨0, rfl, by omega, rfl, rfl⟩
       rintro n T H ⟨j, rfl, hj, rfl, rfl⟩
       refine aw_seq ?_
       refine aw_region ?_
       refine zst (op_ltI (by rfl) (by rfl)) rfl (by dsimp only [zS, zN, zH, zT]) ?_
       refine al_end rfl ?_
       refine then_normal ?_
       refine aw_seq ?_
       refine aw_cond rfl (fun hc7 => ?_) (fun hc7 => ?_)
       ·
        (try simp only [y1, y2, y3, y4, y5, y6, y7, y8, y9, y0, List.length_map] at hc7)
        (try simp only [List.length_map] at hc7)
        have hlt : j < ls.length := by omega
        obtain ⟨x, hx1⟩ : ∃ x, ls[j]? = some x := ⟨_, List.getElem?_eq_getElem hlt⟩
        refine aw_skip ?_
        refine then_normal ?_
        refine aw_seq ?_
        refine aw_block ?_
        refine aw_seq ?_
        refine aw_region ?_
        refine zst (op_move_tmp (by rfl)) rfl (by dsimp only [zS, zN, zH, zT]) ?_
        refine zst (op_assign_tmp (by rfl)) rfl (by dsimp only [zS, zN, zH, zT]) ?_
        refine al_end rfl ?_
        refine then_normal ?_
        refine aw_seq ?_
        refine aw_draw [0, 1, 0, 0, 1, 0, 1, 0, 0, 1, 0, 0] mixed (by kernel_rfl) ?_
        refine zd0 (fun H => (by first | exact op_fieldAddr_ptr Try.underlying26 rfl Sz24 (by rfl) (by rfl) | exact op_fieldAddr_elt Try.underlying26 rfl Sz24 (by rfl) (by rfl) (by rfl))) rfl (by dsimp only [zS, zN, zH, zT]) ?_
        refine zd1 (by first | exact op_load_elt Try.underlying24 (by rfl) (by rfl) (by rfl) | exact op_load_ptr Try.underlying24 (by rfl) (by rfl) (by rfl) (by rfl)) rfl (by dsimp only [zS, zN, zH, zT]) ?_
        refine zd0 (fun H => (op_move_tmp (by rfl))) rfl (by dsimp only [zS, zN, zH, zT]) ?_
        refine zd0 (fun H => (op_indexAddr (z := vD x) (cs := [I x.kind, TF x.yes, .v (.int .i64 x.num), S x.text, .lst 6 (x.list.map vD), .lst 7 (x.fields.map fD)]) Try.underlying24 Sz26 (LL.d _ _) (by rfl) (by omega) (by rw [List.getElem?_map, show ((j : Nat) : Int).toNat = j from rfl, hx1]; rfl) (vD_cells x))) rfl (by dsimp only [zS, zN, zH, zT]) ?_
        refine zd1 (op_load_elts (ds := vC x) Try.underlying26 (by rfl) Sz26 (by rfl) (Nat.le_of_ble_eq_true rfl) (by rw [vC_eq]; rfl)) rfl (by dsimp only [zS, zN, zH, zT]) ?_
        refine zd0 (fun H => (by first | exact op_fieldAddr_ptr Try.underlying26 rfl Sz24 (by rfl) (by rfl) | exact op_fieldAddr_elt Try.underlying26 rfl Sz24 (by rfl) (by rfl) (by rfl))) rfl (by dsimp only [zS, zN, zH, zT]) ?_
        refine zd1 (by first | exact op_load_elt Try.underlying24 (by rfl) (by rfl) (by rfl) | exact op_load_ptr Try.underlying24 (by rfl) (by rfl) (by rfl) (by rfl)) rfl (by dsimp only [zS, zN, zH, zT]) ?_
        refine zd0 (fun H => (op_move_tmp (by rfl))) rfl (by dsimp only [zS, zN, zH, zT]) ?_
        refine zd0 (fun H => (op_indexAddr (z := vD x) (cs := [I x.kind, TF x.yes, .v (.int .i64 x.num), S x.text, .lst 6 (x.list.map vD), .lst 7 (x.fields.map fD)]) Try.underlying24 Sz26 (LL.d _ _) (by rfl) (by omega) (by rw [List.getElem?_map, show ((j : Nat) : Int).toNat = j from rfl, hx1]; rfl) (vD_cells x))) rfl (by dsimp only [zS, zN, zH, zT]) ?_
        refine zd1 (op_load_elts (ds := vC x) Try.underlying26 (by rfl) Sz26 (by rfl) (Nat.le_of_ble_eq_true rfl) (by rw [vC_eq]; rfl)) rfl (by dsimp only [zS, zN, zH, zT]) ?_
        refine zd0 (fun H => (op_callF Try.func12 (by rfl) (by rfl) (.tmp (by rfl) (.tmp (by rfl) .nil)) (ihL x (List.mem_of_getElem? hx1) _))) rfl (by dsimp only [zS, zN, zH, zT]) ?_
        refine zd0 (fun H => (op_not (by rfl))) rfl (by dsimp only [zS, zN, zH, zT]) ?_
        refine drun_end rfl ?_
        refine then_normal ?_
        refine aw_cond rfl (fun h => by cases h) (fun _ => ?_)
        refine aw_skip ?_
        refine inBlock_normal (then_normal ?_)
        refine aw_region ?_
        refine zst (by first | exact op_add (by rfl) (by rfl) (wrap_i64 ⟨by omega, by omega⟩) | exact op_add (by rfl) (by rfl) (by rfl)) rfl (by dsimp only [zS, zN, zH, zT]) ?_
        refine zst (op_move_tmp (by rfl)) rfl (by dsimp only [zS, zN, zH, zT]) ?_
        refine al_end rfl ?_
        apply again_to (ls.length - (j + 1)) (false :: false :: true :: true :: false :: false :: false :: false :: false :: false :: false :: false :: false :: false :: false :: false :: false :: false :: false :: false :: false :: false :: false :: false :: false :: false :: false :: false :: false :: false :: false :: false :: false :: false :: false :: false :: false :: false :: false :: false :: false :: false :: false :: false :: false :: false :: false :: false :: false :: false :: false :: false :: false :: true :: true :: false :: false :: false :: false :: false :: false :: false :: false :: false :: false :: false :: false :: false :: false :: false :: false :: false :: false :: false :: false :: false :: false :: false :: false :: false :: false :: false :: false :: false :: false :: false :: false :: false :: false :: false :: false :: false :: false :: false :: false :: false :: false :: false :: false :: false :: false :: false :: false :: false :: false :: false :: [])
        · (try dsimp only [maskT]); try exact rfl
        · rfl
        · omega
        exact ⟨j + 1, rfl, by omega, rfl, rfl⟩
       ·
        (try simp only [y1, y2, y3, y4, y5, y6, y7, y8, y9, y0, List.length_map] at hc7)
        (try simp only [List.length_map] at hc7)
        have hje : j = ls.length := by omega
        subst hje
        refine aw_exit ?_
        refine then_exit (again_exit (inBlock_here (then_normal ?_)))
        refine aw_seq ?_
        refine aw_seq ?_
        refine aw_region ?_
        refine zst (by first | exact op_fieldAddr_ptr Try.underlying26 rfl Sz22 (by rfl) (by rfl) | exact op_fieldAddr_elt Try.underlying26 rfl Sz22 (by rfl) (by rfl) (by rfl)) rfl (by dsimp only [zS, zN, zH, zT]) ?_
        refine zst (by first | exact op_load_elt Try.underlying22 (by rfl) (by rfl) (by rfl) | exact op_load_ptr Try.underlying22 (by rfl) (by rfl) (by rfl) (by rfl)) rfl (by dsimp only [zS, zN, zH, zT]) ?_
        refine zst (op_lenL Try.underlying22 (by first | exact LL.d _ _ | exact LL.own _ _ _ | exact LL.nil _ | assumption)) rfl (by dsimp only [zS, zN, zH, zT]) ?_
        refine zst (op_move_const (by rfl)) rfl (by dsimp only [zS, zN, zH, zT]) ?_
        refine al_end rfl ?_
        refine then_normal ?_
        refine aw_block ?_
        apply aw_loopF (fun n T H => ∃ (j : Nat), T = (.un :: .un :: (.elt (v6D k y i tx ls fs)) :: (.elt (v6D k y i tx ls fs)) :: .un :: .un :: .un :: .un :: .un :: .un :: .un :: .un :: .un :: .un :: .un :: .un :: .un :: .un :: .un :: .un :: .un :: .un :: .un :: .un :: .un :: .un :: .un :: .un :: .un :: .un :: .un :: .un :: .un :: .un :: .un :: .un :: .un :: .un :: .un :: .un :: .un :: .un :: .un :: .un :: .un :: .un :: .un :: .un :: .un :: .un :: .un :: .un :: .un :: .un :: .un :: .un :: .un :: .un :: .un :: .un :: .un :: .un :: .un :: .un :: .un :: .un :: .un :: .un :: .un :: .un :: .un :: .un :: (.d (I (fs.map fD).length)) :: (.d (I j)) :: .un :: .un :: .un :: .un :: .un :: .un :: .un :: .un :: .un :: .un :: .un :: .un :: .un :: .un :: .un :: .un :: .un :: .un :: .un :: .un :: .un :: .un :: .un :: .un :: .un :: .un :: .un :: .un :: .un :: .un :: .un :: .un :: []) ∧ j ≤ fs.length ∧ n = fs.length - j ∧ Hs = H) (fs.length) (false :: false :: true :: true :: false :: false :: false :: false :: false :: false :: false :: false :: false :: false :: false :: false :: false :: false :: false :: false :: false :: false :: false :: false :: false :: false :: false :: false :: false :: false :: false :: false :: false :: false :: false :: false :: false :: false :: false :: false :: false :: false :: false :: false :: false :: false :: false :: false :: false :: false :: false :: false :: false :: false :: false :: false :: false :: false :: false :: false :: false :: false :: false :: false :: false :: false :: false :: false :: false :: false :: false :: false :: true :: true :: false :: false :: false :: false :: false :: false :: false :: false :: false :: false :: false :: false :: false :: false :: false :: false :: false :: false :: false :: false :: false :: false :: false :: false :: false :: false :: false :: false :: false :: false :: false :: false :: [])
        · (try dsimp only [maskT]); try exact rfl
        · rfl
        · exact ⟨0, rfl, by omega, rfl, rfl⟩
        rintro n T H ⟨j, rfl, hj, rfl, rfl⟩
        refine aw_seq ?_
        refine aw_region ?_
        refine zst (op_ltI (by rfl) (by rfl)) rfl (by dsimp only [zS, zN, zH, zT]) ?_
        refine al_end rfl ?_
        refine then_normal ?_
        refine aw_seq ?_
        refine aw_cond rfl (fun hc9 => ?_) (fun hc9 => ?_)
        ·
         (try simp only [y1, y2, y3, y4, y5, y6, y7, y8, y9, y0, List.length_map] at hc9)
         (try simp only [List.length_map] at hc9)
         have hlt : j < fs.length := by omega
         obtain ⟨x, hx1⟩ : ∃ x, fs[j]? = some x := ⟨_, List.getElem?_eq_getElem hlt⟩
         refine aw_skip ?_
         refine then_normal ?_
         refine aw_seq ?_
         refine aw_block ?_
         refine aw_seq ?_
         refine aw_region ?_
         refine zst (op_move_tmp (by rfl)) rfl (by dsimp only [zS, zN, zH, zT]) ?_
         refine zst (op_assign_tmp (by rfl)) rfl (by dsimp only [zS, zN, zH, zT]) ?_
         refine al_end rfl ?_
         refine then_normal ?_
         refine aw_seq ?_
         refine aw_draw [0, 1, 0, 0, 0, 1, 0, 1, 0, 0, 0, 1, 0, 0, 0, 1, 0, 0, 0, 1, 0, 1, 0, 0, 0, 1, 0, 0, 0] mixed (by kernel_rfl) ?_
         refine zd0 (fun H => (by first | exact op_fieldAddr_ptr Try.underlying26 rfl Sz22 (by rfl) (by rfl) | exact op_fieldAddr_elt Try.underlying26 rfl Sz22 (by rfl) (by rfl) (by rfl))) rfl (by dsimp only [zS, zN, zH, zT]) ?_
         refine zd1 (by first | exact op_load_elt Try.underlying22 (by rfl) (by rfl) (by rfl) | exact op_load_ptr Try.underlying22 (by rfl) (by rfl) (by rfl) (by rfl)) rfl (by dsimp only [zS, zN, zH, zT]) ?_
         refine zd0 (fun H => (op_move_tmp (by rfl))) rfl (by dsimp only [zS, zN, zH, zT]) ?_
         refine zd0 (fun H => (op_indexAddr (z := fD x) (cs := [S x.name, I x.val.kind, TF x.val.yes, .v (.int .i64 x.val.num), S x.val.text, .lst 6 (x.val.list.map vD), .lst 7 (x.val.fields.map fD)]) Try.underlying22 Sz30 (LL.d _ _) (by rfl) (by omega) (by rw [List.getElem?_map, show ((j : Nat) : Int).toNat = j from rfl, hx1]; rfl) (fD_cells7 x))) rfl (by dsimp only [zS, zN, zH, zT]) ?_
         refine zd0 (fun H => (by first | exact op_fieldAddr_ptr Try.underlying30 rfl Sz9 (by rfl) (by rfl) | exact op_fieldAddr_elt Try.underlying30 rfl Sz9 (by rfl) (by rfl) (by rfl))) rfl (by dsimp only [zS, zN, zH, zT]) ?_
         refine zd1 (by first | exact op_load_elt Try.underlying9 (by rfl) (by rfl) (by rfl) | exact op_load_ptr Try.underlying9 (by rfl) (by rfl) (by rfl) (by rfl)) rfl (by dsimp only [zS, zN, zH, zT]) ?_
         refine zd0 (fun H => (by first | exact op_fieldAddr_ptr Try.underlying26 rfl Sz22 (by rfl) (by rfl) | exact op_fieldAddr_elt Try.underlying26 rfl Sz22 (by rfl) (by rfl) (by rfl))) rfl (by dsimp only [zS, zN, zH, zT]) ?_
         refine zd1 (by first | exact op_load_elt Try.underlying22 (by rfl) (by rfl) (by rfl) | exact op_load_ptr Try.underlying22 (by rfl) (by rfl) (by rfl) (by rfl)) rfl (by dsimp only [zS, zN, zH, zT]) ?_
         refine zd0 (fun H => (op_move_tmp (by rfl))) rfl (by dsimp only [zS, zN, zH, zT]) ?_
         refine zd0 (fun H => (op_indexAddr (z := fD x) (cs := [S x.name, I x.val.kind, TF x.val.yes, .v (.int .i64 x.val.num), S x.val.text, .lst 6 (x.val.list.map vD), .lst 7 (x.val.fields.map fD)]) Try.underlying22 Sz30 (LL.d _ _) (by rfl) (by omega) (by rw [List.getElem?_map, show ((j : Nat) : Int).toNat = j from rfl, hx1]; rfl) (fD_cells7 x))) rfl (by dsimp only [zS, zN, zH, zT]) ?_
         refine zd0 (fun H => (by first | exact op_fieldAddr_ptr Try.underlying30 rfl Sz9 (by rfl) (by rfl) | exact op_fieldAddr_elt Try.underlying30 rfl Sz9 (by rfl) (by rfl) (by rfl))) rfl (by dsimp only [zS, zN, zH, zT]) ?_
         refine zd1 (by first | exact op_load_elt Try.underlying9 (by rfl) (by rfl) (by rfl) | exact op_load_ptr Try.underlying9 (by rfl) (by rfl) (by rfl) (by rfl)) rfl (by dsimp only [zS, zN, zH, zT]) ?_
         refine zd0 (fun H => (op_neS (by rfl) (by rfl))) rfl (by dsimp only [zS, zN, zH, zT]) ?_
         refine zd0 (fun H => (op_move_tmp (by rfl))) rfl (by dsimp only [zS, zN, zH, zT]) ?_
         refine drun_split 89 rfl (fun hg10 => ?_) (fun hg10 => ?_)
         ·
          (try simp only [y1, y2, y3, y4, y5, y6, y7, y8, y9, y0, List.length_map] at hg10)
          apply drun_normT
          · (try dsimp only [zS, zN, zH, zT]); try exact rfl
          all_goals (first | exact absurd rfl hg10 | simp at hg10)
         ·
          (try simp only [y1, y2, y3, y4, y5, y6, y7, y8, y9, y0, List.length_map] at hg10)
          apply drun_normT
          · (try dsimp only [zS, zN, zH, zT]); try exact rfl
          refine zd0w rfl rfl rfl (fun H => (by first | exact op_fieldAddr_ptr Try.underlying26 rfl Sz22 (by rfl) (by rfl) | exact op_fieldAddr_elt Try.underlying26 rfl Sz22 (by rfl) (by rfl) (by rfl))) (by dsimp only [zS, zN, zH, zT]) ?_
          refine zd1w rfl rfl rfl (by first | exact op_load_elt Try.underlying22 (by rfl) (by rfl) (by rfl) | exact op_load_ptr Try.underlying22 (by rfl) (by rfl) (by rfl) (by rfl)) (by dsimp only [zS, zN, zH, zT]) ?_
          refine zd0w rfl rfl rfl (fun H => (op_move_tmp (by rfl))) (by dsimp only [zS, zN, zH, zT]) ?_
          refine zd0w rfl rfl rfl (fun H => (op_indexAddr (z := fD x) (cs := [S x.name, I x.val.kind, TF x.val.yes, .v (.int .i64 x.val.num), S x.val.text, .lst 6 (x.val.list.map vD), .lst 7 (x.val.fields.map fD)]) Try.underlying22 Sz30 (LL.d _ _) (by rfl) (by omega) (by rw [List.getElem?_map, show ((j : Nat) : Int).toNat = j from rfl, hx1]; rfl) (fD_cells7 x))) (by dsimp only [zS, zN, zH, zT]) ?_
          refine zd0w rfl rfl rfl (fun H => (by first | exact op_fieldAddr_ptr Try.underlying30 rfl Sz26 (by rfl) (by rfl) | exact op_fieldAddr_elt Try.underlying30 rfl Sz26 (by rfl) (by rfl) (by rfl))) (by dsimp only [zS, zN, zH, zT]) ?_
          refine zd1w rfl rfl rfl (op_load_elts (ds := vC x.val) Try.underlying26 (by rfl) Sz26 (by rfl) (Nat.le_of_ble_eq_true rfl) (by rw [vC_eq]; rfl)) (by dsimp only [zS, zN, zH, zT]) ?_
          refine zd0w rfl rfl rfl (fun H => (by first | exact op_fieldAddr_ptr Try.underlying26 rfl Sz22 (by rfl) (by rfl) | exact op_fieldAddr_elt Try.underlying26 rfl Sz22 (by rfl) (by rfl) (by rfl))) (by dsimp only [zS, zN, zH, zT]) ?_
          refine zd1w rfl rfl rfl (by first | exact op_load_elt Try.underlying22 (by rfl) (by rfl) (by rfl) | exact op_load_ptr Try.underlying22 (by rfl) (by rfl) (by rfl) (by rfl)) (by dsimp only [zS, zN, zH, zT]) ?_
          refine zd0w rfl rfl rfl (fun H => (op_move_tmp (by rfl))) (by dsimp only [zS, zN, zH, zT]) ?_
          refine zd0w rfl rfl rfl (fun H => (op_indexAddr (z := fD x) (cs := [S x.name, I x.val.kind, TF x.val.yes, .v (.int .i64 x.val.num), S x.val.text, .lst 6 (x.val.list.map vD), .lst 7 (x.val.fields.map fD)]) Try.underlying22 Sz30 (LL.d _ _) (by rfl) (by omega) (by rw [List.getElem?_map, show ((j : Nat) : Int).toNat = j from rfl, hx1]; rfl) (fD_cells7 x))) (by dsimp only [zS, zN, zH, zT]) ?_
          refine zd0w rfl rfl rfl (fun H => (by first | exact op_fieldAddr_ptr Try.underlying30 rfl Sz26 (by rfl) (by rfl) | exact op_fieldAddr_elt Try.underlying30 rfl Sz26 (by rfl) (by rfl) (by rfl))) (by dsimp only [zS, zN, zH, zT]) ?_
          refine zd1w rfl rfl rfl (op_load_elts (ds := vC x.val) Try.underlying26 (by rfl) Sz26 (by rfl) (Nat.le_of_ble_eq_true rfl) (by rw [vC_eq]; rfl)) (by dsimp only [zS, zN, zH, zT]) ?_
          refine zd0w rfl rfl rfl (fun H => (op_callF Try.func12 (by rfl) (by rfl) (.tmp (by rfl) (.tmp (by rfl) .nil)) (ihF x (List.mem_of_getElem? hx1) _))) (by dsimp only [zS, zN, zH, zT]) ?_
          refine zd0w rfl rfl rfl (fun H => (op_not (by rfl))) (by dsimp only [zS, zN, zH, zT]) ?_
          refine zd0 (fun H => (op_pick_ff (by rfl) (val_tmp (by rfl)))) rfl (by dsimp only [zS, zN, zH, zT]) ?_
          refine drun_end rfl ?_
          refine then_normal ?_
          refine aw_cond rfl (fun h => by cases h) (fun _ => ?_)
          refine aw_skip ?_
          refine inBlock_normal (then_normal ?_)
          refine aw_region ?_
          refine zst (by first | exact op_add (by rfl) (by rfl) (wrap_i64 ⟨by omega, by omega⟩) | exact op_add (by rfl) (by rfl) (by rfl)) rfl (by dsimp only [zS, zN, zH, zT]) ?_
          refine zst (op_move_tmp (by rfl)) rfl (by dsimp only [zS, zN, zH, zT]) ?_
          refine al_end rfl ?_
          apply again_to (fs.length - (j + 1)) (false :: false :: true :: true :: false :: false :: false :: false :: false :: false :: false :: false :: false :: false :: false :: false :: false :: false :: false :: false :: false :: false :: false :: false :: false :: false :: false :: false :: false :: false :: false :: false :: false :: false :: false :: false :: false :: false :: false :: false :: false :: false :: false :: false :: false :: false :: false :: false :: false :: false :: false :: false :: false :: false :: false :: false :: false :: false :: false :: false :: false :: false :: false :: false :: false :: false :: false :: false :: false :: false :: false :: false :: true :: true :: false :: false :: false :: false :: false :: false :: false :: false :: false :: false :: false :: false :: false :: false :: false :: false :: false :: false :: false :: false :: false :: false :: false :: false :: false :: false :: false :: false :: false :: false :: false :: false :: [])
          · (try dsimp only [maskT]); try exact rfl
          · rfl
          · omega
          exact ⟨j + 1, rfl, by omega, rfl, rfl⟩
        ·
         (try simp only [y1, y2, y3, y4, y5, y6, y7, y8, y9, y0, List.length_map] at hc9)
         (try simp only [List.length_map] at hc9)
         have hje : j = fs.length := by omega
         subst hje
         refine aw_exit ?_
         refine then_exit (again_exit (inBlock_here (then_normal ?_)))
         refine aw_seq ?_
         refine aw_region ?_
         refine zst (op_assign_const (by rfl)) rfl (by dsimp only [zS, zN, zH, zT]) ?_
         refine al_end rfl ?_
         refine then_normal ?_
         refine aw_ret ?_
         refine retPost1 rfl rfl ?_
         exact ⟨rfl, rfl⟩
theorem same_all : ∀ (m : Nat) (v : V), SizeOf.sizeOf v ≤ m → SmallV v → ∀ Hs : HS, ACalls Try.prog 12 [.d (.agg (vC v)), .d (.agg (vC v))] Hs (Ret (.d (TF true)) Hs)
  | 0, v, hm, _, _ => by cases v; simp at hm
  | m + 1, v, hm, hs, Hs => by
    have hL := fun x hx => list_lt (v := v) (x := x) hx
    have hF := fun x hx => field_lt (v := v) (f := x) hx
    obtain ⟨k, y, i, tx, ls, fs, rfl⟩ : ∃ k y n t l fs, v = .mk k y n t l fs := ⟨_, _, _, _, _, _, v.eta⟩
    rw [v6D_eq]
    exact same_step Hs k y i tx ls fs hs.ll hs.fl (fun x hx Hs => same_all m x (by have := hL x hx; omega) (hs.l x hx) Hs) (fun x hx Hs => same_all m x.val (by have := hF x hx; omega) (hs.f x hx) Hs)
theorem same_self (Hs : HS) (v : V) (hv : SmallV v) : ACalls Try.prog 12 [.d (.agg (vC v)), .d (.agg (vC v))] Hs (Ret (.d (TF true)) Hs) := same_all _ v (Nat.le_refl _) hv Hs
end Go.Proofs.Ytjbpfnoibeogbaa
namespace Go.AV.Patch
open Go.AV.Ord Go.AV.Oct Go.AV.Val
inductive BndV (m : Nat) : V → Prop
  | mk (v : V) (hl : v.list.length ≤ m) (hf : v.fields.length ≤ m) (h1 : ∀ x ∈ v.list, BndV m x) (h2 : ∀ f ∈ v.fields, BndV m f.val) : BndV m v
theorem BndV.ll {m : Nat} {v : V} (h : BndV m v) : v.list.length ≤ m := by cases h; assumption
theorem BndV.fl {m : Nat} {v : V} (h : BndV m v) : v.fields.length ≤ m := by cases h; assumption
theorem BndV.l {m : Nat} {v : V} (h : BndV m v) : ∀ x ∈ v.list, BndV m x := by cases h; assumption
theorem BndV.f {m : Nat} {v : V} (h : BndV m v) : ∀ f ∈ v.fields, BndV m f.val := by cases h; assumption
theorem BndV.small {m : Nat} {v : V} (h : BndV m v) (hm : m ≤ 1000000) : SmallV v := by
  induction h with
  | mk v hl hf _ _ ih1 ih2 =>
    rw [v.eta]
    exact .mk _ _ _ _ _ _ (by omega) (by omega) ih1 ih2
theorem BndV.mono {m m' : Nat} {v : V} (h : BndV m v) (hm : m ≤ m') : BndV m' v := by
  induction h with
  | mk v hl hf _ _ ih1 ih2 => exact .mk v (by omega) (by omega) ih1 ih2
theorem few_bnd : ∀ (n : Nat) (v : V), fewV n v = true → BndV 8 v
  | 0, _, h => by simp [fewV] at h
  | n + 1, v, h => by
    obtain ⟨h1, h2, _, h4, h5⟩ := few_parts h
    exact .mk v h1 h2 (fun x hx => few_bnd n x (h4 x hx)) (fun f hf => few_bnd n f.val (h5 f hf).2)
theorem BndV.leaf {m : Nat} {v : V} (h1 : v.list = []) (h2 : v.fields = []) : BndV m v := .mk v (by rw [h1]; exact Nat.zero_le _) (by rw [h2]; exact Nat.zero_le _) (by rw [h1]; intro x hx; cases hx) (by rw [h2]; intro x hx; cases hx)
theorem BndV.v0 {m : Nat} : BndV m V0 := .leaf rfl rfl
theorem BndV.int {m : Nat} (n : Int) : BndV m (ofInt n) := .leaf rfl rfl
theorem getF_mem : ∀ {l : List F} {n : List UInt8} {x : V}, getF l n = some x → ∃ f ∈ l, f.val = x
  | g :: l, n, x, h => by
    rw [getF_cons] at h
    split at h
    · exact ⟨g, by simp, Option.some.inj h⟩
    · obtain ⟨f, hf, e⟩ := getF_mem h
      exact ⟨f, by simp [hf], e⟩
theorem BndV.get {m : Nat} {v : V} (h : BndV m v) (n : List UInt8) : BndV m (getV v n).1 := by
  unfold getV
  split
  · rename_i x hx
    obtain ⟨f, hf, rfl⟩ := getF_mem hx
    exact h.f f hf
  · exact .v0
theorem BndV.with_ {m : Nat} {v x : V} (h : BndV m v) (hx : BndV (m + 1) x) (n : List UInt8) : BndV (m + 1) (withV v n x) := by
  unfold withV
  split
  · have h1 := ofF_len (v.fields ++ [F.mk n x])
    have h2 := h.fl
    refine .mk _ (Nat.zero_le _) ?_ (fun y hy => by cases hy) (fun f hf => ?_)
    · show (ofF (v.fields ++ [F.mk n x])).length ≤ m + 1
      simp at h1; omega
    · have hf' : f ∈ v.fields ++ [F.mk n x] := ofF_mem hf
      rcases List.mem_append.1 hf' with hf' | hf'
      · exact (h.f f hf').mono (by omega)
      · simp at hf'; subst hf'; exact hx
  · exact h.mono (by omega)
theorem BndV.without {m : Nat} {v : V} (h : BndV m v) (n : List UInt8) : BndV m (withoutV v n) :=
  .mk _ h.ll (Nat.le_trans (List.length_filter_le _ _) h.fl) h.l (fun f hf => h.f f (List.mem_filter.1 hf).1)
theorem BndV.last {m : Nat} {v : V} {o : Opn} (h : BndV m v) (ho : BndV m o.val) (n : List UInt8) : BndV (m + 1) (lastV o v n).1 := by
  unfold lastV
  split
  · exact h.with_ (ho.mono (by omega)) n
  split
  · exact .v0
  split
  · exact (h.without n).mono (by omega)
  split
  · exact .v0
  split
  · exact .v0
  · exact h.with_ (.int _) n
theorem BndV.at_ {m : Nat} {o : Opn} (ho : BndV m o.val) : ∀ (p : List (List UInt8)) {v : V}, BndV m v → BndV (m + 1) (atV o v p).1
  | [], v, h => by unfold atV; split <;> exact .v0
  | [n], v, h => by
    unfold atV
    split
    · exact .v0
    · exact h.last ho n
  | n :: k :: p, v, h => by
    unfold atV
    split
    · exact .v0
    split
    · exact .v0
    split
    · exact .v0
    · exact h.with_ (BndV.at_ ho (k :: p) (h.get n)) n
theorem BndV.all : ∀ (l : List Opn) {m : Nat} {v : V}, BndV m v → (∀ o ∈ l, BndV m o.val) → BndV (m + l.length) (allV v l).1
  | [], m, v, h, _ => by
    rw [allV]
    split
    · exact h
    · exact .v0
  | o :: l, m, v, h, ho => by
    rw [allV_cons]
    split
    · exact .v0
    · have := BndV.all l (BndV.at_ (ho o (by simp)) o.path h) fun x hx => (ho x (by simp [hx])).mono (by omega)
      rwa [List.length_cons, show m + (l.length + 1) = m + 1 + l.length by omega]
theorem BndV.apply {m : Nat} {v : V} {l : List Opn} (h : BndV m v) (ho : ∀ o ∈ l, BndV m o.val) : BndV (m + l.length) (applyV v l).1 := by
  unfold applyV
  split
  · exact .v0
  split
  · exact h.all l ho
  · exact .v0
end Go.AV.Patch
namespace Go.AV.Patch
open Go.AV.Ord Go.AV.Oct Go.AV.Val
theorem cmpI_refl (a : Int) : cmpI a a = 0 := by simp [cmpI]
theorem cmpL_refl : ∀ (l : List V), (∀ x ∈ l, cmpV x x = 0) → cmpL l l = 0
  | [], _ => by rw [cmpL]
  | x :: l, h => by rw [cmpL_cons, if_neg (by rw [h x (by simp)]; simp), cmpL_refl l fun y hy => h y (by simp [hy])]
theorem cmpF_refl : ∀ (l : List F), (∀ x ∈ l, cmpV x.val x.val = 0) → cmpF l l = 0
  | [], _ => by rw [cmpF]
  | .mk n v :: l, h => by
    have h1 : cmpV v v = 0 := h (.mk n v) (by simp)
    have h2 : cmpF1 (.mk n v) (.mk n v) = 0 := by simp [cmpF1, F.name, F.val, cb_eq.2 (rfl : n = n), h1, orI]
    rw [cmpF_cons, h2, cmpF_refl l fun y hy => h y (by simp [hy])]
    rfl
theorem cmp_refl' : ∀ (m : Nat) (v : V), SizeOf.sizeOf v ≤ m → cmpV v v = 0
  | 0, v, hm => by cases v; simp at hm
  | m + 1, v, hm => by
    have hL : cmpL v.list v.list = 0 := cmpL_refl _ fun x hx => cmp_refl' m x (by have := list_lt hx; omega)
    have hF : cmpF v.fields v.fields = 0 := cmpF_refl _ fun x hx => cmp_refl' m x.val (by have := field_lt hx; omega)
    have hT : Lib.compareBytes v.text v.text = 0 := cb_eq.2 rfl
    cases v
    simp only [V.list, V.fields, V.text] at hL hF hT
    rw [cmpV_mk]
    simp [V.kind, V.yes, V.num, V.text, V.list, V.fields, cmpI_refl, hL, hF, hT]
def M (fs : List F) : V := .mk 5 false 0 [] [] fs
theorem map_of {d : Nat} {v : V} (h : rightV (d + 1) v = true) (hk : v.kind = 5) : v = M v.fields ∧ rises v.fields = true := by
  obtain ⟨h1, _, _, h4⟩ := right_only h
  cases v
  simp only [V.kind] at hk
  subst hk
  obtain ⟨a1, a2, a3, a4, _⟩ := only_parts h1
  rw [a1 (by decide), a2 (by decide), a3 (by decide), a4 (by decide)]
  exact ⟨rfl, h4⟩
theorem map_right {d : Nat} {fs : List F} : rightV (d + 1) (M fs) = (rises fs && fs.all fun f => rightV d f.val) := by
  show (onlyV (M fs) && rises fs && fs.all (fun f => rightV d f.val) && ([] : List V).all (rightV d)) = _
  have : onlyV (M fs) = true := by simp [onlyV, M, V.kind, V.yes, V.num, V.text, V.list, V.fields]
  rw [this]; simp
theorem ofMap_rise {fs : List F} (h : rises fs = true) (n : List UInt8) (x : V) : withV (M fs) n x = M (putF fs (.mk n x)) := by
  show (if (5 : Int) = 5 then ofMapV (fs ++ [F.mk n x]) else M fs) = _
  rw [if_pos rfl, ofMapV, ofF_snoc, ofF_self h]; rfl
theorem without_M (fs : List F) (n : List UInt8) : withoutV (M fs) n = M (delF fs n) := rfl
theorem getV_M (fs : List F) (n : List UInt8) : getV (M fs) n = match getF fs n with
  | some x => (x, true)
  | none => (V0, false) := by
  unfold getV
  show (match getF fs n with | some x => (x, decide ((5 : Int) = 5)) | none => (V0, false)) = _
  cases getF fs n <;> rfl
def stepO (o : Opn) : List (List UInt8) → Option V → Int × Option V
  | [], x => if o.kind = 1 then (0, some o.val) else match x with
    | none => (5, none)
    | some y => if o.kind = 2 then (0, none) else if y.kind ≠ 2 then (1, none) else if (addI y.num o.val.num).2 = false then (1, none) else (0, some (ofInt (addI y.num o.val.num).1))
  | m :: p, x => match x with
    | none => (5, none)
    | some y => if (atV o y (m :: p)).2 ≠ 0 then ((atV o y (m :: p)).2, none) else (0, some (atV o y (m :: p)).1)
def updF (fs : List F) (n : List UInt8) : Option V → List F
  | some x => putF fs (.mk n x)
  | none => delF fs n
theorem at_step (o : Opn) {fs : List F} (h : rises fs = true) (n : List UInt8) (p : List (List UInt8)) : atV o (M fs) (n :: p) = if (stepO o p (getF fs n)).1 ≠ 0 then (V0, (stepO o p (getF fs n)).1) else (M (updF fs n (stepO o p (getF fs n)).2), 0) := by
  have hk : ¬ (M fs).kind ≠ 5 := fun e => e rfl
  have hg := getV_M fs n
  cases p with
  | nil =>
    rw [atV_one, if_neg hk, lastV, hg, ofMap_rise h, without_M]
    cases hx : getF fs n with
    | none =>
      simp only [stepO]
      by_cases h1 : o.kind = 1
      · simp [h1, updF]
      · simp [h1]
    | some y =>
      simp only [stepO]
      by_cases h1 : o.kind = 1
      · simp [h1, updF]
      · by_cases h2 : o.kind = 2
        · simp [h2, updF]
        · by_cases h3 : y.kind = 2
          · by_cases h4 : (addI y.num o.val.num).2 = false
            · simp [h1, h2, h3, h4]
            · simp [h1, h2, h3, h4, updF, ofMap_rise h]
          · simp [h1, h2, h3]
  | cons m p =>
    rw [atV_more, if_neg hk, hg]
    cases hx : getF fs n with
    | none => simp [stepO]
    | some y =>
      simp only [stepO]
      by_cases h3 : (atV o y (m :: p)).2 = 0
      · simp [h3, updF, ofMap_rise h]
      · simp [h3]
theorem getF_upd (fs : List F) (n m : List UInt8) (x : Option V) : getF (updF fs n x) m = if m = n then x else getF fs m := by
  cases x with
  | some x =>
    show getF (putF fs (.mk n x)) m = _
    by_cases e : m = n
    · rw [if_pos e, e]; exact getF_put fs (.mk n x)
    · rw [if_neg e, getF_other _ _ _ (by show ¬ n = m; exact fun h => e h.symm)]
  | none => exact getF_del fs n m
theorem getF_upd_ne (fs : List F) {n m : List UInt8} (h : ¬ m = n) (x : Option V) : getF (updF fs n x) m = getF fs m := by rw [getF_upd, if_neg h]
theorem rises_upd {fs : List F} (h : rises fs = true) (n : List UInt8) (x : Option V) : rises (updF fs n x) = true := by
  cases x with
  | some x => exact putF_rises _ h
  | none => exact rises_del n h
theorem upd_comm {fs : List F} (h : rises fs = true) {n m : List UInt8} (hn : ¬ n = m) (a b : Option V) : updF (updF fs n a) m b = updF (updF fs m b) n a := by
  refine fields_ext (rises_upd (rises_upd h _ _) _ _) (rises_upd (rises_upd h _ _) _ _) fun k => ?_
  rw [getF_upd, getF_upd, getF_upd, getF_upd]
  by_cases e1 : k = m
  · rw [if_pos e1, if_neg (fun e => hn (e.symm.trans e1)), if_pos e1]
  · rw [if_neg e1]
    by_cases e2 : k = n
    · rw [if_pos e2, if_pos e2]
    · rw [if_neg e2, if_neg e2, if_neg e1]
theorem right_put {fs : List F} {d : Nat} (h : rightV (d + 1) (M fs) = true) (n : List UInt8) {x : V} (hx : rightV d x = true) : rightV (d + 1) (M (putF fs (.mk n x))) = true := by
  rw [map_right, Bool.and_eq_true] at h ⊢
  refine ⟨putF_rises _ h.1, ?_⟩
  rw [List.all_eq_true] at h ⊢
  intro f hf
  rcases putF_name hf with rfl | hf
  · exact hx
  · exact h.2 f hf
theorem right_del {fs : List F} {d : Nat} (h : rightV (d + 1) (M fs) = true) (n : List UInt8) : rightV (d + 1) (M (delF fs n)) = true := by
  rw [map_right, Bool.and_eq_true] at h ⊢
  refine ⟨rises_del n h.1, ?_⟩
  rw [List.all_eq_true] at h ⊢
  exact fun f hf => h.2 f (List.mem_filter.1 hf).1
theorem add_zero_i64 {k : Int} (hk : i64 k) : addI 0 k = (k, true) := by
  unfold addI
  rw [Int.zero_add, wrap_i64 (by unfold i64 at hk; omega)]
  simp
theorem right_set (n : List UInt8) (k : Int) : rightO ⟨1, [n], ofInt k⟩ = true := by rw [rightO_eq]; simp [right_int]
theorem right_add (n : List UInt8) (k : Int) : rightO ⟨3, [n], ofInt k⟩ = true := by
  rw [rightO_eq]
  have h1 : rightV 32 (ofInt k) = true := right_int 31 k
  have h2 : (ofInt k).kind = 2 := rfl
  simp [h1, h2]
theorem right_V0 : rightV 32 V0 = true := rfl
theorem right_drop (n : List UInt8) : rightO ⟨2, [n], V0⟩ = true := by
  rw [rightO_eq]
  have h2 : V0.kind = 0 := rfl
  simp [right_V0, h2]
def twice (fs : List F) (n : List UInt8) (k : Int) : List F := putF (putF fs (.mk n (ofInt 0))) (.mk n (ofInt k))
theorem twice_law {v : V} (hv : rightV 32 v = true) (hk : v.kind = 5) (n : List UInt8) {k : Int} (h64 : i64 k) :
    applyV v [⟨1, [n], ofInt 0⟩, ⟨3, [n], ofInt k⟩] = (M (twice v.fields n k), 0) ∧ getV (M (twice v.fields n k)) n = (ofInt k, true) ∧ applyV (M (twice v.fields n k)) [⟨2, [n], V0⟩] = (M (delF (twice v.fields n k) n), 0) ∧
      ((getV v n).2 = false → M (delF (twice v.fields n k) n) = v) := by
  obtain ⟨hM, hr⟩ := map_of hv hk
  generalize v.fields = fs at hM hr
  subst hM
  have h1 : rises (putF fs (.mk n (ofInt 0))) = true := putF_rises _ hr
  have h2 : rises (twice fs n k) = true := putF_rises _ h1
  have g1 : getF (putF fs (.mk n (ofInt 0))) n = some (ofInt 0) := getF_put fs (.mk n (ofInt 0))
  have g2 : getF (twice fs n k) n = some (ofInt k) := getF_put _ (.mk n (ofInt k))
  have s1 : atV ⟨1, [n], ofInt 0⟩ (M fs) [n] = (M (putF fs (.mk n (ofInt 0))), 0) := by
    rw [at_step _ hr n []]
    cases getF fs n <;> simp [stepO, updF]
  have s2 : atV ⟨3, [n], ofInt k⟩ (M (putF fs (.mk n (ofInt 0)))) [n] = (M (twice fs n k), 0) := by
    rw [at_step _ h1 n [], g1]
    simp [stepO, updF, twice, ofInt, V.kind, V.num, add_zero_i64 h64]
  have s3 : atV ⟨2, [n], V0⟩ (M (twice fs n k)) [n] = (M (delF (twice fs n k) n), 0) := by
    rw [at_step _ h2 n [], g2]
    simp [stepO, updF]
  have r1 : rightV 32 (M (twice fs n k)) = true := right_put (right_put hv n (right_int 30 0)) n (right_int 30 k)
  refine ⟨?_, ?_, ?_, fun h => ?_⟩
  · have e : applyV (M fs) [⟨1, [n], ofInt 0⟩, ⟨3, [n], ofInt k⟩] = allV (M fs) [⟨1, [n], ofInt 0⟩, ⟨3, [n], ofInt k⟩] := by simp [applyV, right_set, right_add]
    rw [e, allV_cons]
    simp only [s1, ne_eq, not_true_eq_false, if_false]
    rw [allV_cons]
    simp only [s2, ne_eq, not_true_eq_false, if_false]
    rw [allV, r1]; rfl
  · rw [getV_M, g2]
  · have e : applyV (M (twice fs n k)) [⟨2, [n], V0⟩] = allV (M (twice fs n k)) [⟨2, [n], V0⟩] := by simp [applyV, right_drop]
    rw [e, allV_cons]
    simp only [s3, ne_eq, not_true_eq_false, if_false]
    rw [allV, right_del r1 n]; rfl
  · have h0 : getF fs n = none := by
      rw [getV_M] at h
      cases hg : getF fs n with
      | none => rfl
      | some x => rw [hg] at h; cases h
    have e1 : twice fs n k = putF fs (.mk n (ofInt k)) := by
      refine fields_ext (putF_rises _ h1) (putF_rises _ hr) fun m => ?_
      by_cases hm : m = n
      · subst hm; rw [g2]; exact (getF_put fs (.mk m (ofInt k))).symm
      · unfold twice
        rw [getF_other _ _ _ (fun e => hm e.symm), getF_other _ _ _ (fun e => hm e.symm), getF_other _ _ _ (fun e => hm e.symm)]
    rw [e1]
    exact congrArg M (del_put hr h0)
theorem orders_law {v : V} {a b : Opn} (hv : rightV 32 v = true) (ha : rightO a = true) (hb : rightO b = true) {n m : List UInt8} {p q : List (List UInt8)} (hp : a.path = n :: p) (hq : b.path = m :: q) (hne : ¬ n = m) :
    ((applyV v [a, b]).2 = 0 ↔ (applyV v [b, a]).2 = 0) ∧ ((applyV v [a, b]).2 = 0 → (applyV v [a, b]).1 = (applyV v [b, a]).1) := by
  have e1 : applyV v [a, b] = allV v [a, b] := by simp [applyV, ha, hb]
  have e2 : applyV v [b, a] = allV v [b, a] := by simp [applyV, ha, hb]
  rw [e1, e2]
  by_cases hk : v.kind = 5
  · obtain ⟨hM, hr⟩ := map_of hv hk
    generalize v.fields = fs at hM hr
    subst hM
    have sa := at_step a hr n p
    have sb := at_step b hr m q
    rw [allV_cons, allV_cons (M fs) b, hp, hq, sa, sb]
    by_cases ea : (stepO a p (getF fs n)).1 = 0
    · rw [if_neg (show ¬ (stepO a p (getF fs n)).1 ≠ 0 from fun h => h ea)]
      have tb := at_step b (rises_upd hr n (stepO a p (getF fs n)).2) m q
      rw [getF_upd_ne _ (fun e => hne e.symm)] at tb
      simp only [ne_eq, not_true_eq_false, if_false]
      rw [allV_cons, hq, tb]
      by_cases eb : (stepO b q (getF fs m)).1 = 0
      · have ta := at_step a (rises_upd hr m (stepO b q (getF fs m)).2) n p
        rw [getF_upd_ne _ hne] at ta
        simp only [eb, ne_eq, not_true_eq_false, if_false]
        rw [allV_cons, hp, ta]
        simp only [ea, ne_eq, not_true_eq_false, if_false]
        rw [upd_comm hr hne]
        exact ⟨Iff.rfl, fun _ => rfl⟩
      · simp [eb]
    · rw [if_pos ea]
      have hA : ¬ (V0, (stepO a p (getF fs n)).1).2 = 0 := ea
      rw [if_pos hA]
      refine ⟨⟨fun h => absurd h ea, fun h => ?_⟩, fun h => absurd h ea⟩
      exfalso
      by_cases eb : (stepO b q (getF fs m)).1 = 0
      · have ta := at_step a (rises_upd hr m (stepO b q (getF fs m)).2) n p
        rw [getF_upd_ne _ hne] at ta
        simp only [eb, ne_eq, not_true_eq_false, if_false] at h
        rw [allV_cons, hp, ta] at h
        simp [ea] at h
      · simp [eb] at h
  · have hx : ∀ (o : Opn) (p : List (List UInt8)), atV o v p = (V0, 5) := by
      intro o p
      match p with
      | [] => simp [atV, hk]
      | [_] => simp [atV, hk]
      | _ :: _ :: _ => rw [atV_more, if_pos hk]
    have h5 : ∀ o o' : Opn, (allV v [o, o']).2 = 5 := by intro o o'; rw [allV_cons, hx]; simp
    rw [h5, h5]
    exact ⟨Iff.rfl, fun h => absurd h (by decide)⟩
end Go.AV.Patch
namespace Go.AV
open Go.RowKit
section
variable {P : Program} {E : Operand → AV} {H : HS} {dst : Option Tmp} {ty : TypeId} {pos : String} {after : Array Edge} {gd : Option (Nat × Bool)}
end
theorem ACalls.tidyP2 {P : Program} {f : FuncId} {args : List AV} {H : HS} {m : List DV} {ed : DV} (h1 : ∀ d ∈ m, d.one = true)
    (h : ACalls P f args H fun av H' => Ext H H' ∧ ∃ l, av = .tup [.agg l, .d ed] ∧ (Weaks l (m.map .d) ∨ ∃ id n cap sz xs b, H.nb ≤ id ∧ H'.blks[id]? = some b ∧ b.cs.take (flat xs).length = (flat xs).map .d ∧ (flat xs).length ≤ b.cs.length ∧ xs.length = n ∧ n ≤ cap ∧ (∀ x ∈ xs, x.cells.length = sz) ∧ (∀ d ∈ flat xs, d.one = true) ∧ Becomes id n cap sz xs l m)) :
    ACalls P f args H (Ret (.tup [.d (.agg m), .d ed]) H) := by
  intro B w0 c w vs hI hs ha
  refine (h B w0 c w vs hI hs ha).mono ?_
  rintro e w' ⟨v, av, H', c', rfl, q1, q2, q3, ⟨⟨l1, h5⟩, ⟨l2, h6⟩, hmm⟩, l, rfl, hl⟩
  have hcut : H'.cut H.blks.length H.toks.length = H := by
    cases H
    simp only [HS.cut, h5, h6, List.take_left, hmm]
  have hfit : ∀ i b, i < H.blks.length → H'.blks[i]? = some b → ∀ j (hj : j < b.cs.length), Fits H.blks.length H.toks.length b.cs[j] := fun i b hi hb j hj => by
    have hb' : H.blks[i]? = some b := by rw [h5, List.getElem?_append_left (by omega)] at hb; exact hb
    have hlt : i < c.blk.length := by rw [hI.blkLen]; exact hi
    obtain ⟨_, _, cur, fr, _, _, _, q⟩ := hI.blk i _ b (List.getElem?_eq_getElem hlt) hb'
    have := (q j hj).fits
    rwa [hI.blkLen, hI.tokLen] at this
  have hblk : ∀ (i g : Nat), c.blk[i]? = some g → (c'.blk.take H.blks.length)[i]? = some g := fun i g hi => by
    have : i < c.blk.length := (List.getElem?_eq_some_iff.1 hi).1
    rw [List.getElem?_take, if_pos (by have := hI.blkLen; omega)]
    exact q1.blk i g hi
  have htok : ∀ (i : Nat) (e : Tok), c.tok[i]? = some e → ∃ e' : Tok, (c'.tok.take H.toks.length)[i]? = some e' ∧ (e' = e ∨ e.mark < e'.mark) := fun i e he => by
    have : i < c.tok.length := (List.getElem?_eq_some_iff.1 he).1
    obtain ⟨e', q1, q2⟩ := q1.tok i e he
    refine ⟨e', ?_, q2⟩
    rw [List.getElem?_take, if_pos (by have := hI.tokLen; omega)]
    exact q1
  have hv2 : ∃ u0 u1 : Value, v = .tuple #[u0, u1] ∧ Rep c' u0 (.agg l) ∧ Rep c' u1 (.d ed) := by
    generalize ha : AV.tup [AV.agg l, .d ed] = av at q2
    cases q2 with
    | tup us cs hl hr =>
      cases ha
      obtain ⟨ul⟩ := us
      match ul, hl with
      | [u0, u1], _ => exact ⟨u0, u1, rfl, hr 0 (by simp), hr 1 (by simp)⟩
    | _ => cases ha
  obtain ⟨u0, u1, rfl, q2a, q2b⟩ := hv2
  have hv : ∃ us : Array Value, u0 = .agg us ∧ us.size = l.length ∧ ∀ i (hi : i < l.length), Rep c' (us.getD i undef) l[i] := by
    generalize ha : AV.agg l = av at q2a
    cases q2a with
    | agg us cs hl hr => cases ha; exact ⟨us, rfl, hl, hr⟩
    | _ => cases ha
  obtain ⟨us, rfl, hul, hur⟩ := hv
  have two : ∀ {k : Ctx}, Rep k (.agg us) (.d (.agg m)) → Rep k u1 (.d ed) → Rep k (.tuple #[.agg us, u1]) (.tup [.d (.agg m), .d ed]) := fun h1 h2 => .tup _ _ rfl fun i hi => by
    match i, hi with
    | 0, _ => exact h1
    | 1, _ => exact h2
  rcases hl with hw | ⟨id, n, cap, sz, xs, b, hid, hb, hd, hlen, hxn, hnc, hsz, hone, hbec⟩
  · have i1 := q3.cut H.blks.length H.toks.length hfit
    rw [hcut] at i1
    refine ⟨.tuple #[.agg us, u1], .tup [.d (.agg m), .d ed], H, c'.cut H.blks.length H.toks.length, rfl, ⟨q1.mem, hblk, htok, q1.maps⟩, two (.d (.agg us m (by rw [hul, hw.len, List.length_map]) h1 fun i hi => ?_)) (.d (q2b.d_inv.mono (fun _ _ _ h => h))), i1, rfl, rfl⟩
    have := hw.get c' (fun i => us.getD i undef) hur i (by rw [List.length_map]; exact hi)
    rw [List.getElem_map] at this
    exact this.d_inv.mono (fun _ _ _ h => h)
  · have hidl : id < c'.blk.length := by rw [q3.blkLen]; exact (List.getElem?_eq_some_iff.1 hb).1
    obtain ⟨vals, i1, m1, m2, m3⟩ := q3.protect id _ b (List.getElem?_eq_getElem hidl) hb H.blks.length H.toks.length hid hfit (flat xs) hd hlen
    rw [hcut] at i1
    refine ⟨.tuple #[.agg us, u1], .tup [.d (.agg m), .d ed], H, _, rfl, ⟨fun g o u hm => m1 g o u (q1.mem g o u hm), hblk, htok, q1.maps⟩, two (.d (.agg us m (by rw [hul, hbec.len]) h1 ?_)) (.d (q2b.d_inv.mono m1)), i1, rfl, rfl⟩
    refine hbec.get (c := c') m1 (fun y hy => ?_) (fun i => us.getD i undef) hur
    obtain ⟨g, hg, rfl⟩ := arr_val hy
    rw [List.getElem?_eq_getElem hidl] at hg
    cases hg
    exact .lst _ 0 n cap sz xs vals hxn hnc hsz hone (fun i hi => by rw [Nat.zero_add]; exact m2 i hi) (fun i hi => (m3 i hi).mono m1)
end Go.AV
