/- Part 5 of what the law needs: ValRt, ArgVal, WPatchTwice. -/
import Derived.Test.YtjamnhofbkgblaaPT4
import Derived.KernelRfl
import Derived.ChangeArms
namespace Go.Proofs.Ytjamnhofbkgblaa
open Go.AV Go.AV.Ord Go.AV.Oct Go.AV.Val
set_option linter.unusedVariables false
set_option linter.unusedSimpArgs false
set_option maxHeartbeats 1000000 in
set_option maxRecDepth 100000 in
theorem lawR_step (Hs : HS) (k : Int) (y : Bool) (i : Int) (tx : List UInt8) (ls : List V) (fs : List F) (hls : ls.length ≤ 1000) (hfs : fs.length ≤ 1000) (ihL : ∀ x ∈ ls, ∀ Hs : HS, ACalls Try.prog 11 [.d (.agg (vC x))] Hs (Ret (.d (.agg (vC (lawR x)))) Hs)) (ihF : ∀ x ∈ fs, ∀ Hs : HS, ACalls Try.prog 11 [.d (.agg (vC x.val))] Hs (Ret (.d (.agg (vC (lawR x.val)))) Hs)) : ACalls Try.prog 11 [.d (.agg (v6D k y i tx ls fs))] Hs (Ret (.d (.agg (vC (lawR (.mk k y i tx ls fs))))) Hs) := by
 refine ACalls.tidy1 ?_
 suffices h : ACalls Try.prog 11 [.d (.agg (v6D k y i tx ls fs))] Hs (fun av H' => Weak av (.d (.agg (vC (lawR (.mk k y i tx ls fs))))) ∧ Ext Hs H') from h.weak fun v H' ⟨h1, h2⟩ => ⟨_, h1, rfl, h2⟩
 obtain ⟨q0, q5⟩ := kind6_le k
 refine acalls_of_awC Try.func11 rfl ?_
 refine aw_start (T' := ((.d (.agg (v6D k y i tx ls fs))) :: .un :: .un :: .un :: .un :: .un :: .un :: .un :: .un :: .un :: .un :: .un :: .un :: .un :: .un :: .un :: .un :: .un :: .un :: .un :: .un :: .un :: .un :: .un :: .un :: .un :: .un :: .un :: .un :: .un :: .un :: .un :: .un :: .un :: .un :: .un :: .un :: .un :: .un :: .un :: .un :: .un :: .un :: .un :: .un :: .un :: .un :: .un :: .un :: .un :: .un :: .un :: .un :: .un :: .un :: .un :: .un :: .un :: .un :: .un :: .un :: .un :: .un :: .un :: .un :: .un :: .un :: .un :: .un :: .un :: .un :: .un :: [])) rfl ?_
 refine aw_seq ?_
 refine aw_region ?_
 refine zst (op_box_elt (cs := v6D k y i tx ls fs) (by rfl) (by rfl)) rfl (by dsimp only [zS, zN, zH, zT]) ?_
 refine zst (op_alloc (Zr26) (by rfl)) rfl (by dsimp only [zS, zN, zH, zT]) ?_
 refine al_end rfl ?_
 refine then_normal ?_
 apply aw_cutF (fun T H => ∃ (u : Unit), T = (.un :: (.elt (v6D k y i tx ls fs)) :: (.ptr Hs.nb 0) :: (.ptr (Hs.nb + 1) 0) :: .un :: .un :: .un :: .un :: .un :: .un :: .un :: .un :: .un :: .un :: .un :: .un :: .un :: .un :: .un :: .un :: .un :: .un :: .un :: .un :: .un :: .un :: .un :: .un :: .un :: .un :: .un :: .un :: .un :: .un :: .un :: .un :: .un :: .un :: .un :: .un :: .un :: .un :: .un :: .un :: .un :: .un :: .un :: .un :: .un :: .un :: .un :: .un :: .un :: .un :: .un :: .un :: .un :: .un :: .un :: .un :: .un :: .un :: .un :: .un :: .un :: .un :: .un :: .un :: .un :: .un :: .un :: .un :: []) ∧ TwoB Hs 26 H (vBlk 26 (kind6 k) false 0 [] nilS nilS))
 ·
  refine aw_region ?_
  refine zst (by first | exact op_fieldAddr_ptr Try.underlying26 rfl Sz22 (by rfl) (by rfl) | exact op_fieldAddr_elt Try.underlying26 rfl Sz22 (by rfl) (by rfl) (by rfl)) rfl (by dsimp only [zS, zN, zH, zT]) ?_
  refine zst (by first | exact op_load_elt Try.underlying22 (by rfl) (by rfl) (by rfl) | exact op_load_ptr Try.underlying22 (by rfl) (by rfl) (by first | exact hb.e1 | exact hb.psh.e1 | exact setB_at push_at) (by rfl)) rfl (by dsimp only [zS, zN, zH, zT]) ?_
  refine zst (op_convI (by rw [Try.underlying22]; rfl) Try.underlying62 (by rfl) (by rfl)) rfl (by dsimp only [zS, zN, zH, zT]) ?_
  refine zst (op_rem (by rfl) (by rfl) (by decide) (rem6 k)) rfl (by dsimp only [zS, zN, zH, zT]) ?_
  refine zst (op_convI (by rw [Try.underlying62]; rfl) Try.underlying22 (by rfl) (wrap_i64 ⟨by omega, by omega⟩)) rfl (by dsimp only [zS, zN, zH, zT]) ?_
  refine zst (op_build (pl := [(0, 1), (1, 1), (2, 1), (3, 1), (4, 1), (5, 1)]) Try.underlying26 Zr26 (by kernel_rfl) (by rfl) (by rfl) (by rfl)) rfl (by dsimp only [zS, zN, zH, zT]) ?_
  refine zst (op_alloc (Zr26) (by rfl)) rfl (by dsimp only [zS, zN, zH, zT]) ?_
  refine zst (op_storeB (vs := (vs6 (kind6 k) false 0 [] nilS nilS)) (b' := (vBlk 26 (kind6 k) false 0 [] nilS nilS)) (H' := _) Sz26 (by rfl) push_at (by intro h; cases h) (by rfl) (by rfl) (Nat.le_of_ble_eq_true rfl) (by simp [AV.one, DV.one, TF, S, I, BY]) (by rfl) (by rfl) rfl) rfl (by dsimp only [zS, zN, zH, zT]) ?_
  refine al_end rfl ?_
  apply cut_to (false :: true :: true :: true :: false :: false :: false :: false :: false :: false :: false :: false :: false :: false :: false :: false :: false :: false :: false :: false :: false :: false :: false :: false :: false :: false :: false :: false :: false :: false :: false :: false :: false :: false :: false :: false :: false :: false :: false :: false :: false :: false :: false :: false :: false :: false :: false :: false :: false :: false :: false :: false :: false :: false :: false :: false :: false :: false :: false :: false :: false :: false :: false :: false :: false :: false :: false :: false :: false :: false :: false :: false :: [])
  · (try dsimp only [maskT]); try exact rfl
  · rfl
  exact ⟨(), by (simp only [push_nb]) <;> rfl, by (simp only [push_nb]); exact TwoB.start Hs 26 _⟩
 rintro T H ⟨u, rfl, hb⟩
 apply aw_cutF (fun T H => ∃ (k2 : Int) (y2 : Bool) (i2 : Int) (tx2 : List UInt8) (l2 : AV) (f2 : AV) (ls2 : List V) (fs2 : List F), T = (.un :: .un :: (.ptr Hs.nb 0) :: (.ptr (Hs.nb + 1) 0) :: .un :: .un :: .un :: .un :: .un :: .un :: .un :: .un :: .un :: .un :: .un :: .un :: .un :: .un :: .un :: .un :: .un :: .un :: .un :: .un :: .un :: .un :: .un :: .un :: .un :: .un :: .un :: .un :: .un :: .un :: .un :: .un :: .un :: .un :: .un :: .un :: .un :: .un :: .un :: .un :: .un :: .un :: .un :: .un :: .un :: .un :: .un :: .un :: .un :: .un :: .un :: .un :: .un :: .un :: .un :: .un :: .un :: .un :: .un :: .un :: .un :: .un :: .un :: .un :: .un :: .un :: .un :: .un :: []) ∧ TwoB Hs 26 H (vBlk 26 k2 y2 i2 tx2 l2 f2) ∧ Weak l2 (.d (.lst 6 (ls2.map vD))) ∧ Weak f2 (.d (.lst 7 (fs2.map fD))) ∧ lawR (.mk k y i tx ls fs) = .mk k2 y2 i2 tx2 ls2 fs2)
 ·
  refine aw_seq ?_
  refine aw_region ?_
  refine zst (by first | exact op_fieldAddr_ptr Try.underlying26 rfl Sz22 (by rfl) (by rfl) | exact op_fieldAddr_elt Try.underlying26 rfl Sz22 (by rfl) (by rfl) (by rfl)) rfl (by dsimp only [zS, zN, zH, zT]) ?_
  refine zst (by first | exact op_load_elt Try.underlying22 (by rfl) (by rfl) (by rfl) | exact op_load_ptr Try.underlying22 (by rfl) (by rfl) (by first | exact hb.e1 | exact hb.psh.e1 | exact setB_at push_at) (by rfl)) rfl (by dsimp only [zS, zN, zH, zT]) ?_
  refine al_end rfl ?_
  refine then_normal ?_
  refine aw_block ?_
  refine aw_seq ?_
  refine aw_region ?_
  refine zst (op_eqI (by rfl) (by rfl)) rfl (by dsimp only [zS, zN, zH, zT]) ?_
  refine zst (op_assign_tmp (by rfl)) rfl (by dsimp only [zS, zN, zH, zT]) ?_
  refine al_end rfl ?_
  refine then_normal ?_
  refine aw_cond rfl (fun hc1 => ?_) (fun hc1 => ?_)
  ·
   (try simp only [y1, y2, y3, y4, y5, y6, y7, y8, y9, y0, List.length_map] at hc1)
   have hk1 : kind6 k = 1 := hc1
   refine aw_region ?_
   refine zst (by first | exact op_fieldAddr_ptr Try.underlying26 rfl Sz4 (by rfl) (by rfl) | exact op_fieldAddr_elt Try.underlying26 rfl Sz4 (by rfl) (by rfl) (by rfl)) rfl (by dsimp only [zS, zN, zH, zT]) ?_
   refine zst (by first | exact op_load_elt Try.underlying4 (by rfl) (by rfl) (by rfl) | exact op_load_ptr Try.underlying4 (by rfl) (by rfl) (by first | exact hb.e1 | exact hb.psh.e1 | exact setB_at push_at) (by rfl)) rfl (by dsimp only [zS, zN, zH, zT]) ?_
   refine zst (by first | exact op_fieldAddr_ptr Try.underlying26 rfl Sz4 (by rfl) (by rfl) | exact op_fieldAddr_elt Try.underlying26 rfl Sz4 (by rfl) (by rfl) (by rfl)) rfl (by dsimp only [zS, zN, zH, zT]) ?_
   refine zst (op_storeB (vs := [.d (TF y)]) (b' := (vBlk 26 (kind6 k) y 0 [] nilS nilS)) (H' := _) Sz4 (by rfl) hb.e1 (by intro h; cases h) (by rfl) (by rfl) (Nat.le_of_ble_eq_true rfl) (by simp [AV.one, DV.one, TF, S, I, BY]) (by rfl) (by rfl) rfl) rfl (by dsimp only [zS, zN, zH, zT]) ?_
   refine al_end rfl ?_
   refine inBlock_normal ?_
   apply cut_to (false :: false :: true :: true :: false :: false :: false :: false :: false :: false :: false :: false :: false :: false :: false :: false :: false :: false :: false :: false :: false :: false :: false :: false :: false :: false :: false :: false :: false :: false :: false :: false :: false :: false :: false :: false :: false :: false :: false :: false :: false :: false :: false :: false :: false :: false :: false :: false :: false :: false :: false :: false :: false :: false :: false :: false :: false :: false :: false :: false :: false :: false :: false :: false :: false :: false :: false :: false :: false :: false :: false :: false :: [])
   · (try dsimp only [maskT]); try exact rfl
   · rfl
   exact ⟨_, _, _, _, _, _, [], [], rfl, hb.setv _, weak_nilL, weak_nilF, by rw [lawR_mk, if_pos hk1, hk1]⟩
  ·
   (try simp only [y1, y2, y3, y4, y5, y6, y7, y8, y9, y0, List.length_map] at hc1)
   have hk1 : ¬ kind6 k = 1 := hc1
   refine aw_seq ?_
   refine aw_region ?_
   refine zst (op_eqI (by rfl) (by rfl)) rfl (by dsimp only [zS, zN, zH, zT]) ?_
   refine zst (op_assign_tmp (by rfl)) rfl (by dsimp only [zS, zN, zH, zT]) ?_
   refine al_end rfl ?_
   refine then_normal ?_
   refine aw_cond rfl (fun hc2 => ?_) (fun hc2 => ?_)
   ·
    (try simp only [y1, y2, y3, y4, y5, y6, y7, y8, y9, y0, List.length_map] at hc2)
    have hk2 : kind6 k = 2 := hc2
    refine aw_region ?_
    refine zst (by first | exact op_fieldAddr_ptr Try.underlying26 rfl Sz2 (by rfl) (by rfl) | exact op_fieldAddr_elt Try.underlying26 rfl Sz2 (by rfl) (by rfl) (by rfl)) rfl (by dsimp only [zS, zN, zH, zT]) ?_
    refine zst (by first | exact op_load_elt Try.underlying2 (by rfl) (by rfl) (by rfl) | exact op_load_ptr Try.underlying2 (by rfl) (by rfl) (by first | exact hb.e1 | exact hb.psh.e1 | exact setB_at push_at) (by rfl)) rfl (by dsimp only [zS, zN, zH, zT]) ?_
    refine zst (by first | exact op_fieldAddr_ptr Try.underlying26 rfl Sz2 (by rfl) (by rfl) | exact op_fieldAddr_elt Try.underlying26 rfl Sz2 (by rfl) (by rfl) (by rfl)) rfl (by dsimp only [zS, zN, zH, zT]) ?_
    refine zst (op_storeB (vs := [.d (.v (.int .i64 i))]) (b' := (vBlk 26 (kind6 k) false i [] nilS nilS)) (H' := _) Sz2 (by rfl) hb.e1 (by intro h; cases h) (by rfl) (by rfl) (Nat.le_of_ble_eq_true rfl) (by simp [AV.one, DV.one, TF, S, I, BY]) (by rfl) (by rfl) rfl) rfl (by dsimp only [zS, zN, zH, zT]) ?_
    refine al_end rfl ?_
    refine inBlock_normal ?_
    apply cut_to (false :: false :: true :: true :: false :: false :: false :: false :: false :: false :: false :: false :: false :: false :: false :: false :: false :: false :: false :: false :: false :: false :: false :: false :: false :: false :: false :: false :: false :: false :: false :: false :: false :: false :: false :: false :: false :: false :: false :: false :: false :: false :: false :: false :: false :: false :: false :: false :: false :: false :: false :: false :: false :: false :: false :: false :: false :: false :: false :: false :: false :: false :: false :: false :: false :: false :: false :: false :: false :: false :: false :: false :: [])
    · (try dsimp only [maskT]); try exact rfl
    · rfl
    exact ⟨_, _, _, _, _, _, [], [], rfl, hb.setv _, weak_nilL, weak_nilF, by rw [lawR_mk, if_neg hk1, if_pos hk2, hk2]⟩
   ·
    (try simp only [y1, y2, y3, y4, y5, y6, y7, y8, y9, y0, List.length_map] at hc2)
    have hk2 : ¬ kind6 k = 2 := hc2
    refine aw_seq ?_
    refine aw_region ?_
    refine zst (op_eqI (by rfl) (by rfl)) rfl (by dsimp only [zS, zN, zH, zT]) ?_
    refine zst (op_assign_tmp (by rfl)) rfl (by dsimp only [zS, zN, zH, zT]) ?_
    refine al_end rfl ?_
    refine then_normal ?_
    refine aw_cond rfl (fun hc3 => ?_) (fun hc3 => ?_)
    ·
     (try simp only [y1, y2, y3, y4, y5, y6, y7, y8, y9, y0, List.length_map] at hc3)
     have hk3 : kind6 k = 3 := hc3
     refine aw_region ?_
     refine zst (by first | exact op_fieldAddr_ptr Try.underlying26 rfl Sz9 (by rfl) (by rfl) | exact op_fieldAddr_elt Try.underlying26 rfl Sz9 (by rfl) (by rfl) (by rfl)) rfl (by dsimp only [zS, zN, zH, zT]) ?_
     refine zst (by first | exact op_load_elt Try.underlying9 (by rfl) (by rfl) (by rfl) | exact op_load_ptr Try.underlying9 (by rfl) (by rfl) (by first | exact hb.e1 | exact hb.psh.e1 | exact setB_at push_at) (by rfl)) rfl (by dsimp only [zS, zN, zH, zT]) ?_
     refine zst (by first | exact op_fieldAddr_ptr Try.underlying26 rfl Sz9 (by rfl) (by rfl) | exact op_fieldAddr_elt Try.underlying26 rfl Sz9 (by rfl) (by rfl) (by rfl)) rfl (by dsimp only [zS, zN, zH, zT]) ?_
     refine zst (op_storeB (vs := [.d (S tx)]) (b' := (vBlk 26 (kind6 k) false 0 tx nilS nilS)) (H' := _) Sz9 (by rfl) hb.e1 (by intro h; cases h) (by rfl) (by rfl) (Nat.le_of_ble_eq_true rfl) (by simp [AV.one, DV.one, TF, S, I, BY]) (by rfl) (by rfl) rfl) rfl (by dsimp only [zS, zN, zH, zT]) ?_
     refine al_end rfl ?_
     refine inBlock_normal ?_
     apply cut_to (false :: false :: true :: true :: false :: false :: false :: false :: false :: false :: false :: false :: false :: false :: false :: false :: false :: false :: false :: false :: false :: false :: false :: false :: false :: false :: false :: false :: false :: false :: false :: false :: false :: false :: false :: false :: false :: false :: false :: false :: false :: false :: false :: false :: false :: false :: false :: false :: false :: false :: false :: false :: false :: false :: false :: false :: false :: false :: false :: false :: false :: false :: false :: false :: false :: false :: false :: false :: false :: false :: false :: false :: [])
     · (try dsimp only [maskT]); try exact rfl
     · rfl
     exact ⟨_, _, _, _, _, _, [], [], rfl, hb.setv _, weak_nilL, weak_nilF, by rw [lawR_mk, if_neg hk1, if_neg hk2, if_pos hk3, hk3]⟩
    ·
     (try simp only [y1, y2, y3, y4, y5, y6, y7, y8, y9, y0, List.length_map] at hc3)
     have hk3 : ¬ kind6 k = 3 := hc3
     refine aw_seq ?_
     refine aw_region ?_
     refine zst (op_eqI (by rfl) (by rfl)) rfl (by dsimp only [zS, zN, zH, zT]) ?_
     refine zst (op_assign_tmp (by rfl)) rfl (by dsimp only [zS, zN, zH, zT]) ?_
     refine al_end rfl ?_
     refine then_normal ?_
     refine aw_cond rfl (fun hc4 => ?_) (fun hc4 => ?_)
     ·
      (try simp only [y1, y2, y3, y4, y5, y6, y7, y8, y9, y0, List.length_map] at hc4)
      have hk4 : kind6 k = 4 := hc4
      refine aw_seq ?_
      refine aw_region ?_
      refine zst (by first | exact op_fieldAddr_ptr Try.underlying26 rfl Sz23 (by rfl) (by rfl) | exact op_fieldAddr_elt Try.underlying26 rfl Sz23 (by rfl) (by rfl) (by rfl)) rfl (by dsimp only [zS, zN, zH, zT]) ?_
      refine zst (by first | exact op_load_elt Try.underlying23 (by rfl) (by rfl) (by rfl) | exact op_load_ptr Try.underlying23 (by rfl) (by rfl) (by first | exact hb.e1 | exact hb.psh.e1 | exact setB_at push_at) (by rfl)) rfl (by dsimp only [zS, zN, zH, zT]) ?_
      refine zst (op_lenL Try.underlying23 (by first | exact LL.d _ _ | exact LL.own _ _ _ | exact LL.nil _ | assumption)) rfl (by dsimp only [zS, zN, zH, zT]) ?_
      refine zst (op_move_const (by rfl)) rfl (by dsimp only [zS, zN, zH, zT]) ?_
      refine al_end rfl ?_
      refine then_normal ?_
      refine aw_block ?_
      apply aw_loopF (fun n T H => ∃ (j : Nat) (v : AV) (t : Option Nat), T = (.un :: (.elt (v6D k y i tx ls fs)) :: (.ptr Hs.nb 0) :: (.ptr (Hs.nb + 1) 0) :: .un :: .un :: .un :: .un :: .un :: .un :: .un :: .un :: .un :: .un :: .un :: .un :: .un :: .un :: .un :: .un :: .un :: .un :: .un :: .un :: .un :: .un :: .un :: .un :: .un :: .un :: .un :: .un :: .un :: .un :: .un :: (.d (.lst 6 (ls.map vD))) :: (.d (I (ls.map vD).length)) :: (.d (I j)) :: .un :: .un :: .un :: .un :: .un :: .un :: .un :: .un :: .un :: .un :: .un :: .un :: .un :: .un :: .un :: .un :: .un :: .un :: .un :: .un :: .un :: .un :: .un :: .un :: .un :: .un :: .un :: .un :: .un :: .un :: .un :: .un :: .un :: .un :: []) ∧ j ≤ ls.length ∧ n = ls.length - j ∧ TwoB Hs 26 H (vBlk 26 (kind6 k) false 0 [] v nilS) ∧ GL Hs H v t 6 (((ls.take j).map lawR).map vD)) (ls.length) (false :: true :: true :: true :: false :: false :: false :: false :: false :: false :: false :: false :: false :: false :: false :: false :: false :: false :: false :: false :: false :: false :: false :: false :: false :: false :: false :: false :: false :: false :: false :: false :: false :: false :: false :: true :: true :: true :: false :: false :: false :: false :: false :: false :: false :: false :: false :: false :: false :: false :: false :: false :: false :: false :: false :: false :: false :: false :: false :: false :: false :: false :: false :: false :: false :: false :: false :: false :: false :: false :: false :: false :: [])
      · (try dsimp only [maskT]); try exact rfl
      · rfl
      · exact ⟨0, _, _, rfl, by omega, rfl, hb, GL.nil _ _ _⟩
      rintro n T H ⟨j, v, t, rfl, hj, rfl, hb, hg⟩
      refine aw_seq ?_
      refine aw_region ?_
      refine zst (op_ltI (by rfl) (by rfl)) rfl (by dsimp only [zS, zN, zH, zT]) ?_
      refine al_end rfl ?_
      refine then_normal ?_
      refine aw_seq ?_
      refine aw_cond rfl (fun hc5 => ?_) (fun hc5 => ?_)
      ·
       (try simp only [y1, y2, y3, y4, y5, y6, y7, y8, y9, y0, List.length_map] at hc5)
       (try simp only [List.length_map] at hc5)
       have hlt : j < ls.length := by omega
       obtain ⟨x, hx1⟩ : ∃ x, ls[j]? = some x := ⟨_, List.getElem?_eq_getElem hlt⟩
       refine aw_skip ?_
       refine then_normal ?_
       refine aw_seq ?_
       refine aw_block ?_
       refine aw_seq ?_
       refine aw_region ?_
       refine zst (op_indexAddr (z := vD x) (cs := [I x.kind, TF x.yes, .v (.int .i64 x.num), S x.text, .lst 6 (x.list.map vD), .lst 7 (x.fields.map fD)]) Try.underlying23 Sz26 (LL.d _ _) (by rfl) (by omega) (by rw [List.getElem?_map, show ((j : Nat) : Int).toNat = j from rfl, hx1]; rfl) (vD_cells x)) rfl (by dsimp only [zS, zN, zH, zT]) ?_
       refine zst (op_load_elts (ds := vC x) Try.underlying26 (by rfl) Sz26 (by rfl) (Nat.le_of_ble_eq_true rfl) (by rw [vC_eq]; rfl)) rfl (by dsimp only [zS, zN, zH, zT]) ?_
       refine zst (op_alloc (Zr26) (by rfl)) rfl (by dsimp only [zS, zN, zH, zT]) ?_
       refine zst (op_storeV (b' := ⟨26, (vC x).map .d, false⟩) x Sz26 (by rfl) push_at (by rfl) (Nat.le_of_ble_eq_true rfl) (by rfl) (by rw [vC_eq]; rfl)) rfl (by dsimp only [zS, zN, zH, zT]) ?_
       refine al_end rfl ?_
       refine then_normal ?_
       refine aw_draw [0, 1, 1, 0, 0, 2, 0, 2] mixed (by kernel_rfl) ?_
       refine zd0 (fun H => (by first | exact op_fieldAddr_ptr Try.underlying26 rfl Sz23 (by rfl) (by rfl) | exact op_fieldAddr_elt Try.underlying26 rfl Sz23 (by rfl) (by rfl) (by rfl))) rfl (by dsimp only [zS, zN, zH, zT]) ?_
       refine zd1 (by first | exact op_load_elt Try.underlying23 (by rfl) (by rfl) (by rfl) | exact op_load_ptr Try.underlying23 (by rfl) (by rfl) (by first | exact hb.e1 | exact hb.psh.e1 | exact setB_at push_at) (by rfl)) rfl (by dsimp only [zS, zN, zH, zT]) ?_
       refine zd1 (op_load_ptrsD (vC x) Try.underlying26 (by rfl) Sz26 (by rfl) (setB_at push_at) (by show 0 + 6 ≤ ((vC x).map AV.d).length; rw [List.length_map, vC_len]; exact Nat.le_refl _) (by show (((vC x).map AV.d).drop 0).take 6 = _; rw [List.drop_zero, List.take_of_length_le (by rw [List.length_map, vC_len]; exact Nat.le_refl _)]) (vC_one x)) rfl (by dsimp only [zS, zN, zH, zT]) ?_
       refine zd0 (fun H => (op_callF Try.func11 (by rfl) (by rfl) (.tmp (by rfl) .nil) (ihL x (List.mem_of_getElem? hx1) _))) rfl (by dsimp only [zS, zN, zH, zT]) ?_
       refine zd0 (fun H => (op_lit Try.underlying23 ZS26 (.cons (y := vD (lawR x)) (by rfl) (.nil _)) (by rfl) (lit_v _) (lit_v1 _) (by decide))) rfl (by dsimp only [zS, zN, zH, zT]) ?_
       refine zd2 (op_append Try.underlying23 Inf26 (by rfl) hg.app (.list _ _ _ _ Try.underlying23 (LL.own _ _ _)) hg.ok (by simp) (by simp; omega) (by simp; omega)) rfl (by dsimp only [zS, zN, zH, zT]) ?_
       refine zd0 (fun H => (by first | exact op_fieldAddr_ptr Try.underlying26 rfl Sz23 (by rfl) (by rfl) | exact op_fieldAddr_elt Try.underlying26 rfl Sz23 (by rfl) (by rfl) (by rfl))) rfl (by dsimp only [zS, zN, zH, zT]) ?_
       refine zd2 (op_storeB (vs := [.own _ 6 _]) (b' := (vBlk 26 (kind6 k) false 0 [] (.own _ 6 _) nilS)) (H' := _) Sz23 (by rfl) (hb.psh.up hg.new hg.ok).e1 (by intro h; cases h) (by rfl) (by rfl) (Nat.le_of_ble_eq_true rfl) (by simp [AV.one, DV.one, TF, S, I, BY]) (by rfl) (by rfl) rfl) rfl (by dsimp only [zS, zN, zH, zT]) ?_
       refine drun_end rfl ?_
       refine inBlock_normal (then_normal ?_)
       refine aw_region ?_
       refine zst (by first | exact op_add (by rfl) (by rfl) (wrap_i64 ⟨by omega, by omega⟩) | exact op_add (by rfl) (by rfl) (by rfl)) rfl (by dsimp only [zS, zN, zH, zT]) ?_
       refine zst (op_move_tmp (by rfl)) rfl (by dsimp only [zS, zN, zH, zT]) ?_
       refine al_end rfl ?_
       apply again_to (ls.length - (j + 1)) (false :: true :: true :: true :: false :: false :: false :: false :: false :: false :: false :: false :: false :: false :: false :: false :: false :: false :: false :: false :: false :: false :: false :: false :: false :: false :: false :: false :: false :: false :: false :: false :: false :: false :: false :: true :: true :: true :: false :: false :: false :: false :: false :: false :: false :: false :: false :: false :: false :: false :: false :: false :: false :: false :: false :: false :: false :: false :: false :: false :: false :: false :: false :: false :: false :: false :: false :: false :: false :: false :: false :: false :: [])
       · (try dsimp only [maskT]); try exact rfl
       · rfl
       · omega
       exact ⟨j + 1, _, _, rfl, by omega, rfl, ((hb.psh.up hg.new hg.ok).setv _), (GL.step (H := (H.push 26 _).setB H.nb _) (hg.toks rfl) (.inl (hb.psh.ext)) (by simp) (by rw [take_snoc hx1]; simp)).toks rfl⟩
      ·
       (try simp only [y1, y2, y3, y4, y5, y6, y7, y8, y9, y0, List.length_map] at hc5)
       (try simp only [List.length_map] at hc5)
       have hje : j = ls.length := by omega
       subst hje
       rw [List.take_length] at hg
       refine aw_exit ?_
       refine then_exit (again_exit (inBlock_here (inBlock_normal ?_)))
       apply cut_to (false :: false :: true :: true :: false :: false :: false :: false :: false :: false :: false :: false :: false :: false :: false :: false :: false :: false :: false :: false :: false :: false :: false :: false :: false :: false :: false :: false :: false :: false :: false :: false :: false :: false :: false :: false :: false :: false :: false :: false :: false :: false :: false :: false :: false :: false :: false :: false :: false :: false :: false :: false :: false :: false :: false :: false :: false :: false :: false :: false :: false :: false :: false :: false :: false :: false :: false :: false :: false :: false :: false :: false :: [])
       · (try dsimp only [maskT]); try exact rfl
       · rfl
       exact ⟨_, _, _, _, _, _, ls.map lawR, [], rfl, hb, Weak.lst hg.app, weak_nilF, by rw [lawR_mk, if_neg hk1, if_neg hk2, if_neg hk3, if_pos hk4, hk4]⟩
     ·
      (try simp only [y1, y2, y3, y4, y5, y6, y7, y8, y9, y0, List.length_map] at hc4)
      have hk4 : ¬ kind6 k = 4 := hc4
      refine aw_seq ?_
      refine aw_region ?_
      refine zst (op_eqI (by rfl) (by rfl)) rfl (by dsimp only [zS, zN, zH, zT]) ?_
      refine zst (op_assign_tmp (by rfl)) rfl (by dsimp only [zS, zN, zH, zT]) ?_
      refine al_end rfl ?_
      refine then_normal ?_
      refine aw_cond rfl (fun hc6 => ?_) (fun hc6 => ?_)
      ·
       (try simp only [y1, y2, y3, y4, y5, y6, y7, y8, y9, y0, List.length_map] at hc6)
       have hk5 : kind6 k = 5 := hc6
       refine aw_seq ?_
       refine aw_region ?_
       refine zst (op_lit Try.underlying24 ZS48 (.nil _) (by rfl) (by simp) (by simp [flat]) (by decide)) rfl (by dsimp only [zS, zN, zH, zT]) ?_
       refine zst (op_assign_tmp (by rfl)) rfl (by dsimp only [zS, zN, zH, zT]) ?_
       refine al_end rfl ?_
       refine then_normal ?_
       refine aw_seq ?_
       refine aw_seq ?_
       refine aw_region ?_
       refine zst (by first | exact op_fieldAddr_ptr Try.underlying26 rfl Sz24 (by rfl) (by rfl) | exact op_fieldAddr_elt Try.underlying26 rfl Sz24 (by rfl) (by rfl) (by rfl)) rfl (by dsimp only [zS, zN, zH, zT]) ?_
       refine zst (by first | exact op_load_elt Try.underlying24 (by rfl) (by rfl) (by rfl) | exact op_load_ptr Try.underlying24 (by rfl) (by rfl) (by first | exact hb.e1 | exact hb.psh.e1 | exact setB_at push_at) (by rfl)) rfl (by dsimp only [zS, zN, zH, zT]) ?_
       refine zst (op_lenL Try.underlying24 (by first | exact LL.d _ _ | exact LL.own _ _ _ | exact LL.nil _ | assumption)) rfl (by dsimp only [zS, zN, zH, zT]) ?_
       refine zst (op_move_const (by rfl)) rfl (by dsimp only [zS, zN, zH, zT]) ?_
       refine al_end rfl ?_
       refine then_normal ?_
       refine aw_block ?_
       apply aw_loopF (fun n T H => ∃ (j : Nat) (t : Option Nat), T = (.un :: (.elt (v6D k y i tx ls fs)) :: (.ptr Hs.nb 0) :: (.ptr (Hs.nb + 1) 0) :: .un :: .un :: (.own t 7 (((fs.take j).map lawF).map fD)) :: .un :: .un :: .un :: .un :: .un :: .un :: .un :: .un :: .un :: .un :: .un :: .un :: .un :: .un :: .un :: .un :: .un :: .un :: .un :: .un :: .un :: .un :: .un :: .un :: .un :: .un :: .un :: .un :: .un :: .un :: .un :: .un :: .un :: .un :: .un :: .un :: .un :: .un :: .un :: .un :: .un :: .un :: .un :: .un :: .un :: .un :: (.d (.lst 7 (fs.map fD))) :: (.d (I (fs.map fD).length)) :: (.d (I j)) :: .un :: .un :: .un :: .un :: .un :: .un :: .un :: .un :: .un :: .un :: .un :: .un :: .un :: .un :: .un :: .un :: []) ∧ j ≤ fs.length ∧ n = fs.length - j ∧ TwoB Hs 26 H (vBlk 26 (kind6 k) false 0 [] nilS nilS) ∧ GL Hs H (.own t 7 (((fs.take j).map lawF).map fD)) t 7 (((fs.take j).map lawF).map fD)) (fs.length) (false :: true :: true :: true :: false :: false :: true :: false :: false :: false :: false :: false :: false :: false :: false :: false :: false :: false :: false :: false :: false :: false :: false :: false :: false :: false :: false :: false :: false :: false :: false :: false :: false :: false :: false :: false :: false :: false :: false :: false :: false :: false :: false :: false :: false :: false :: false :: false :: false :: false :: false :: false :: false :: true :: true :: true :: false :: false :: false :: false :: false :: false :: false :: false :: false :: false :: false :: false :: false :: false :: false :: false :: [])
       · (try dsimp only [maskT]); try exact rfl
       · rfl
       · exact ⟨0, none, rfl, by omega, rfl, hb, ⟨.own _ _ _, HS.ok_none _ _, NewTok.none _⟩⟩
       rintro n T H ⟨j, t, rfl, hj, rfl, hb, hg⟩
       refine aw_seq ?_
       refine aw_region ?_
       refine zst (op_ltI (by rfl) (by rfl)) rfl (by dsimp only [zS, zN, zH, zT]) ?_
       refine al_end rfl ?_
       refine then_normal ?_
       refine aw_seq ?_
       refine aw_cond rfl (fun hc7 => ?_) (fun hc7 => ?_)
       ·
        (try simp only [y1, y2, y3, y4, y5, y6, y7, y8, y9, y0, List.length_map] at hc7)
        (try simp only [List.length_map] at hc7)
        have hlt : j < fs.length := by omega
        obtain ⟨x, hx1⟩ : ∃ x, fs[j]? = some x := ⟨_, List.getElem?_eq_getElem hlt⟩
        refine aw_skip ?_
        refine then_normal ?_
        refine aw_seq ?_
        refine aw_block ?_
        refine aw_seq ?_
        refine aw_region ?_
        refine zst (op_indexAddr (z := fD x) (cs := [S x.name, I x.val.kind, TF x.val.yes, .v (.int .i64 x.val.num), S x.val.text, .lst 6 (x.val.list.map vD), .lst 7 (x.val.fields.map fD)]) Try.underlying24 Sz48 (LL.d _ _) (by rfl) (by omega) (by rw [List.getElem?_map, show ((j : Nat) : Int).toNat = j from rfl, hx1]; rfl) (fD_cells7 x)) rfl (by dsimp only [zS, zN, zH, zT]) ?_
        refine zst (op_load_elts (ds := fC x) Try.underlying48 (by rfl) Sz48 (by rfl) (Nat.le_of_ble_eq_true rfl) (by rw [← fC7]; rfl)) rfl (by dsimp only [zS, zN, zH, zT]) ?_
        refine zst (op_alloc (Zr48) (by rfl)) rfl (by dsimp only [zS, zN, zH, zT]) ?_
        refine zst (op_storeF (b' := f1 48 x) x Sz48 (by rfl) push_at (by rfl) (Nat.le_of_ble_eq_true rfl) (by rfl) (by unfold f1; rw [← fC7]; rfl)) rfl (by dsimp only [zS, zN, zH, zT]) ?_
        refine al_end rfl ?_
        refine then_normal ?_
        refine aw_draw [0, 0, 1, 0, 1, 0, 0, 0, 2, 0] mixed (by kernel_rfl) ?_
        refine zd0 (fun H => (op_move_tmp (by rfl))) rfl (by dsimp only [zS, zN, zH, zT]) ?_
        refine zd0 (fun H => (by first | exact op_fieldAddr_ptr Try.underlying48 rfl Sz9 (by rfl) (by rfl) | exact op_fieldAddr_elt Try.underlying48 rfl Sz9 (by rfl) (by rfl) (by rfl))) rfl (by dsimp only [zS, zN, zH, zT]) ?_
        refine zd1 (op_load_ptr Try.underlying9 (by rfl) (by rfl) (setB_at push_at) (f1_name x)) rfl (by dsimp only [zS, zN, zH, zT]) ?_
        refine zd0 (fun H => (by first | exact op_fieldAddr_ptr Try.underlying48 rfl Sz26 (by rfl) (by rfl) | exact op_fieldAddr_elt Try.underlying48 rfl Sz26 (by rfl) (by rfl) (by rfl))) rfl (by dsimp only [zS, zN, zH, zT]) ?_
        refine zd1 (op_load_ptrsD (vC x.val) Try.underlying26 (by rfl) Sz26 (by rfl) (setB_at push_at) (by show 1 + 6 ≤ ((fC x).map AV.d).length; rw [List.length_map, fC_len]; exact Nat.le_refl _) (f1_val x) (vC_one _)) rfl (by dsimp only [zS, zN, zH, zT]) ?_
        refine zd0 (fun H => (op_callF Try.func11 (by rfl) (by rfl) (.tmp (by rfl) .nil) (ihF x (List.mem_of_getElem? hx1) _))) rfl (by dsimp only [zS, zN, zH, zT]) ?_
        refine zd0 (fun H => (op_buildD (pl := [(0, 1), (1, 6)]) (fC (lawF x)) Try.underlying48 Zr48 (by kernel_rfl) (by rfl) (by rfl) (fill_field x.name (lawR x.val)) (fC_one _))) rfl (by dsimp only [zS, zN, zH, zT]) ?_
        refine zd0 (fun H => (op_lit Try.underlying24 ZS48 (.cons (y := fD (lawF x)) (by rfl) (.nil _)) (by rfl) (lit_f _) (lit_f1 _) (by decide))) rfl (by dsimp only [zS, zN, zH, zT]) ?_
        refine zd2 (op_append Try.underlying24 Inf48 (by rfl) hg.app (.list _ _ _ _ Try.underlying24 (LL.own _ _ _)) hg.ok (by simp) (by simp; omega) (by simp; omega)) rfl (by dsimp only [zS, zN, zH, zT]) ?_
        refine zd0 (fun H => (op_assign_tmp (by rfl))) rfl (by dsimp only [zS, zN, zH, zT]) ?_
        refine drun_end rfl ?_
        refine inBlock_normal (then_normal ?_)
        refine aw_region ?_
        refine zst (by first | exact op_add (by rfl) (by rfl) (wrap_i64 ⟨by omega, by omega⟩) | exact op_add (by rfl) (by rfl) (by rfl)) rfl (by dsimp only [zS, zN, zH, zT]) ?_
        refine zst (op_move_tmp (by rfl)) rfl (by dsimp only [zS, zN, zH, zT]) ?_
        refine al_end rfl ?_
        apply again_to (fs.length - (j + 1)) (false :: true :: true :: true :: false :: false :: true :: false :: false :: false :: false :: false :: false :: false :: false :: false :: false :: false :: false :: false :: false :: false :: false :: false :: false :: false :: false :: false :: false :: false :: false :: false :: false :: false :: false :: false :: false :: false :: false :: false :: false :: false :: false :: false :: false :: false :: false :: false :: false :: false :: false :: false :: false :: true :: true :: true :: false :: false :: false :: false :: false :: false :: false :: false :: false :: false :: false :: false :: false :: false :: false :: false :: [])
        · (try dsimp only [maskT]); try exact rfl
        · rfl
        · omega
        exact ⟨j + 1, _, by (rw [take_snoc hx1]; simp) <;> exact ⟨rfl, rfl⟩, by omega, rfl, (hb.psh.up hg.new hg.ok), by rw [take_snoc hx1, List.map_append, List.map_append]; exact GL.step (H := (H.push 48 _).setB H.nb _) (hg.toks rfl) (.inl (hb.psh.ext)) (by simp) rfl⟩
       ·
        (try simp only [y1, y2, y3, y4, y5, y6, y7, y8, y9, y0, List.length_map] at hc7)
        (try simp only [List.length_map] at hc7)
        have hje : j = fs.length := by omega
        subst hje
        rw [List.take_length] at hg ⊢
        refine aw_exit ?_
        refine then_exit (again_exit (inBlock_here (then_normal ?_)))
        refine aw_region ?_
        refine zst (op_move_tmp (by rfl)) rfl (by dsimp only [zS, zN, zH, zT]) ?_
        refine zst (op_callF Try.func18 (by rfl) (by rfl) (.tmp (by rfl) .nil) (ofMap_ok _ _ (fs.map lawF) (LL.own _ _ _) (by simp; omega))) rfl (by dsimp only [zS, zN, zH, zT]) ?_
        refine zst (op_storeV (b' := vBlk 26 5 false 0 [] (.d (.lst 6 [])) (.d (.lst 7 ((ofF (fs.map lawF)).map fD)))) (ofMapV (fs.map lawF)) Sz26 (by rfl) hb.e1 (by rfl) (Nat.le_of_ble_eq_true rfl) (by rfl) (by unfold ofMapV; rw [vC_eq]; rfl)) rfl (by dsimp only [zS, zN, zH, zT]) ?_
        refine al_end rfl ?_
        refine inBlock_normal ?_
        apply cut_to (false :: false :: true :: true :: false :: false :: false :: false :: false :: false :: false :: false :: false :: false :: false :: false :: false :: false :: false :: false :: false :: false :: false :: false :: false :: false :: false :: false :: false :: false :: false :: false :: false :: false :: false :: false :: false :: false :: false :: false :: false :: false :: false :: false :: false :: false :: false :: false :: false :: false :: false :: false :: false :: false :: false :: false :: false :: false :: false :: false :: false :: false :: false :: false :: false :: false :: false :: false :: false :: false :: false :: false :: [])
        · (try dsimp only [maskT]); try exact rfl
        · rfl
        exact ⟨_, _, _, _, _, _, [], ofF (fs.map lawF), rfl, hb.setv _, Weak.refl _, Weak.refl _, by rw [lawR_mk, if_neg hk1, if_neg hk2, if_neg hk3, if_neg hk4, if_pos hk5]; rfl⟩
      ·
       (try simp only [y1, y2, y3, y4, y5, y6, y7, y8, y9, y0, List.length_map] at hc6)
       have hk5 : ¬ kind6 k = 5 := hc6
       refine aw_skip ?_
       refine inBlock_normal ?_
       apply cut_to (false :: false :: true :: true :: false :: false :: false :: false :: false :: false :: false :: false :: false :: false :: false :: false :: false :: false :: false :: false :: false :: false :: false :: false :: false :: false :: false :: false :: false :: false :: false :: false :: false :: false :: false :: false :: false :: false :: false :: false :: false :: false :: false :: false :: false :: false :: false :: false :: false :: false :: false :: false :: false :: false :: false :: false :: false :: false :: false :: false :: false :: false :: false :: false :: false :: false :: false :: false :: false :: false :: false :: false :: [])
       · (try dsimp only [maskT]); try exact rfl
       · rfl
       exact ⟨_, _, _, _, _, _, [], [], rfl, hb, weak_nilL, weak_nilF, by rw [lawR_mk, if_neg hk1, if_neg hk2, if_neg hk3, if_neg hk4, if_neg hk5, show kind6 k = 0 by omega]⟩
 rintro T H ⟨k2, y2, i2, tx2, l2, f2, ls2, fs2, rfl, hb, hwl, hwf, hres⟩
 refine aw_seq ?_
 refine aw_region ?_
 refine zst (op_load_ptrsW (off := 0) (vC (.mk k2 y2 i2 tx2 ls2 fs2)) Try.underlying26 (by rfl) Sz26 (by rfl) hb.e1 (Nat.le_of_ble_eq_true rfl) (weak6 hwl hwf) (vC_one _)) rfl (by dsimp only [zS, zN, zH, zT]) ?_
 refine zst (op_storeV (b' := ⟨26, (vC (.mk k2 y2 i2 tx2 ls2 fs2)).map .d, false⟩) (.mk k2 y2 i2 tx2 ls2 fs2) Sz26 (by rfl) hb.e0 (by rfl) (Nat.le_of_ble_eq_true rfl) (by rfl) (by rfl)) rfl (by dsimp only [zS, zN, zH, zT]) ?_
 refine al_end rfl ?_
 refine then_normal ?_
 refine aw_ret ?_
 refine retC1 rfl (.cells Try.underlying26 (by rfl) Sz26 (by rfl) (setB_at hb.e0) (Nat.le_of_ble_eq_true rfl) (by rfl)) ?_
 rw [hres]
 exact ⟨weak_agg_d (vC_one (.mk k2 y2 i2 tx2 ls2 fs2)), hb.ext.setB (Nat.le_refl _)⟩
theorem lawR_all : ∀ (m : Nat) (v : V), fewV m v = true → ∀ Hs : HS, ACalls Try.prog 11 [.d (.agg (vC v))] Hs (Ret (.d (.agg (vC (lawR v)))) Hs)
  | 0, v, h, _ => by simp [fewV] at h
  | m + 1, .mk k y i tx ls fs, h, Hs => by
    obtain ⟨h1, h2, _, h4, h5⟩ := few_parts h
    simp only [V.list, V.fields] at h1 h2 h4 h5
    rw [v6D_eq]
    exact lawR_step Hs k y i tx ls fs (by omega) (by omega) (fun x hx Hs => lawR_all m x (h4 x hx) Hs) (fun x hx Hs => lawR_all m x.val (h5 x hx).2 Hs)
end Go.Proofs.Ytjamnhofbkgblaa
namespace Go.AV.Val
open Go.AV.Ord Go.AV.Oct
structure VTypes (P : Program) (tV tF tK tB tI tS tL tM : TypeId) : Prop where
  v : ∃ fs, P.underlying tV = some (.struct fs) ∧ (∃ f, fs[0]? = some f ∧ f.type = tK ∧ f.offset = 0) ∧ (∃ f, fs[1]? = some f ∧ f.type = tB ∧ f.offset = 1) ∧ (∃ f, fs[2]? = some f ∧ f.type = tI ∧ f.offset = 2) ∧ (∃ f, fs[3]? = some f ∧ f.type = tS ∧ f.offset = 3) ∧ (∃ f, fs[4]? = some f ∧ f.type = tL ∧ f.offset = 4) ∧ (∃ f, fs[5]? = some f ∧ f.type = tM ∧ f.offset = 5) ∧ fs.size = 6
  f : ∃ fs, P.underlying tF = some (.struct fs) ∧ (∃ f, fs[0]? = some f ∧ f.type = tS ∧ f.offset = 0) ∧ (∃ f, fs[1]? = some f ∧ f.type = tV ∧ f.offset = 1) ∧ fs.size = 2
  k : P.underlying tK = some (.int .i64)
  b : P.underlying tB = some .bool
  i : P.underlying tI = some (.int .i64)
  s : P.underlying tS = some .string
  l : P.underlying tL = some (.slice tV)
  m : P.underlying tM = some (.slice tF)
  cV : P.cellsOf tV = 6
  cF : P.cellsOf tF = 7
  cK : P.cellsOf tK = 1
  cB : P.cellsOf tB = 1
  cI : P.cellsOf tI = 1
  cS : P.cellsOf tS = 1
  cL : P.cellsOf tL = 1
  cM : P.cellsOf tM = 1
section
variable {H : Type} {enc : TypeId × Value → H} {P : Program} {W : World} {sp : Nat → Bool} {held : Bool} {tV tF tK tB tI tS tL tM : TypeId}
theorem all_map' {α : Type} {p : α → Prop} {f : α → DV} : ∀ {ys : List DV}, (∀ y ∈ ys, ∃ x, p x ∧ y = f x) → ∃ xs : List α, (∀ x ∈ xs, p x) ∧ ys = xs.map f
  | [], _ => ⟨[], fun _ h => (by cases h), rfl⟩
  | y :: ys, h => by
    obtain ⟨x, hp, rfl⟩ := h y (by simp)
    obtain ⟨xs, hps, rfl⟩ := all_map' (ys := ys) fun z hz => h z (by simp [hz])
    exact ⟨x :: xs, fun z hz => by rcases List.mem_cons.1 hz with rfl | hz; exact hp; exact hps z hz, rfl⟩
theorem list_cell {fuel : Nat} {t e : TypeId} {sz : Nat} (hsz0 : 0 < sz) (Good : DV → Prop) (ht : P.underlying t = some (.slice e)) (hsz : P.cellsOf e = sz) {c : Value} {x : DataW H × List MemPlace} (h : DataW.trod enc P W 0 sp held fuel t [c] = some x)
    (hel : ∀ m, m < fuel → ∀ cs d p, DataW.trod enc P W 0 sp held m e cs = some (d, p) → cs.length = sz → ∃ y, Go.AV.Reads W Good sz cs y) : ∃ ys, RepD (ctx0 W).mem c (.lst sz ys) ∧ (∀ y ∈ ys, Good y) := by
  cases fuel with
  | zero => simp [DataW.trod] at h
  | succ n =>
    rcases DataW.trod_slice ht h with ⟨h1, _⟩ | ⟨a, len, cap, _, _, m, h0, h1, _⟩
    · cases h1
      exact ⟨[], .lstE _ _ _, fun _ h => (by cases h)⟩
    · cases h1
      obtain ⟨d, p⟩ := x
      exact rep_slice hsz0 Good ht hsz (hel n (by omega)) h
theorem one_cell {Good : DV → Prop} {c : Value} {y : DV} (h : Go.AV.Reads W Good 1 [c] y) (e : y.cells = [y]) : RepD (ctx0 W).mem c y := by
  have := h.at_ 0 (by simp) (by rw [e]; simp)
  simpa [e] using this
theorem reads_both (T : VTypes P tV tF tK tB tI tS tL tM) : ∀ (N fuel : Nat), fuel ≤ N →
    (∀ (cs : List Value) d p, DataW.trod enc P W 0 sp held fuel tV cs = some (d, p) → cs.length = 6 → ∃ y, Go.AV.Reads W (fun y => ∃ v, WfV v ∧ y = vD v) 6 cs y) ∧
    (∀ (cs : List Value) d p, DataW.trod enc P W 0 sp held fuel tF cs = some (d, p) → cs.length = 7 → ∃ y, Go.AV.Reads W (fun y => ∃ f : F, WfV f.val ∧ y = fD f) 7 cs y)
  | 0, fuel, hf => by
    have : fuel = 0 := by omega
    subst this
    exact ⟨fun _ _ _ h => by simp [DataW.trod] at h, fun _ _ _ h => by simp [DataW.trod] at h⟩
  | N + 1, fuel, hf => by
    refine ⟨fun cs d p h hl => ?_, fun cs d p h hl => ?_⟩
    · obtain ⟨fs, hu, ⟨f0, g0, e0, o0⟩, ⟨f1, g1, e1, o1⟩, ⟨f2, g2, e2, o2⟩, ⟨f3, g3, e3, o3⟩, ⟨f4, g4, e4, o4⟩, ⟨f5, g5, e5, o5⟩, hsz⟩ := T.v
      obtain ⟨xs, n, hn, _, _, hxl, hx⟩ := DataW.trod_struct hu h
      subst hn
      obtain ⟨c0, c1, c2, c3, c4, c5, rfl⟩ : ∃ c0 c1 c2 c3 c4 c5, cs = [c0, c1, c2, c3, c4, c5] := by
        match cs, hl with
        | [c0, c1, c2, c3, c4, c5], _ => exact ⟨_, _, _, _, _, _, rfl⟩
      have get : ∀ i, i < 6 → ∃ x, xs[i]? = some x := fun i hi => ⟨_, List.getElem?_eq_getElem (by omega)⟩
      have q0 := hx 0 f0 g0
      have q1 := hx 1 f1 g1
      have q2 := hx 2 f2 g2
      have q3 := hx 3 f3 g3
      have q4 := hx 4 f4 g4
      have q5 := hx 5 f5 g5
      rw [e0, o0, T.cK] at q0
      rw [e1, o1, T.cB] at q1
      rw [e2, o2, T.cI] at q2
      rw [e3, o3, T.cS] at q3
      rw [e4, o4, T.cL] at q4
      rw [e5, o5, T.cM] at q5
      obtain ⟨⟨_, _⟩, x0⟩ := get 0 (by decide)
      obtain ⟨⟨_, _⟩, x1⟩ := get 1 (by decide)
      obtain ⟨⟨_, _⟩, x2⟩ := get 2 (by decide)
      obtain ⟨⟨_, _⟩, x3⟩ := get 3 (by decide)
      obtain ⟨⟨_, _⟩, x4⟩ := get 4 (by decide)
      obtain ⟨⟨_, _⟩, x5⟩ := get 5 (by decide)
      rw [x0] at q0; rw [x1] at q1; rw [x2] at q2; rw [x3] at q3; rw [x4] at q4; rw [x5] at q5
      obtain ⟨y0, r0⟩ := reads_int T.k q0
      obtain ⟨y1, r1⟩ := reads_bool T.b q1
      obtain ⟨y2, r2⟩ := reads_int T.i q2
      obtain ⟨y3, r3⟩ := reads_str T.s q3
      obtain ⟨k, rfl, wk⟩ := r0.good
      obtain ⟨b, rfl⟩ := r1.good
      obtain ⟨i, rfl, wi⟩ := r2.good
      obtain ⟨s, rfl⟩ := r3.good
      obtain ⟨ls', r4, l4⟩ := list_cell (by decide) _ T.l T.cV q4 fun m hm => (reads_both T N m (by omega)).1
      obtain ⟨fs', r5, l5⟩ := list_cell (by decide) _ T.m T.cF q5 fun m hm => (reads_both T N m (by omega)).2
      obtain ⟨ls, wl, rfl⟩ := all_map' l4
      obtain ⟨ffs, wf, rfl⟩ := all_map' l5
      refine ⟨vD (.mk k b i s ls ffs), rfl, by rw [vD_cells]; rfl, fun z hz => vC_one _ z hz, ⟨_, .mk _ _ _ _ _ _ (wf_i64 wk) (wf_i64 wi) wl wf, rfl⟩, fun j hj hj' => ?_⟩
      have ec : (vD (.mk k b i s ls ffs)).cells = [.v (.int .i64 k), TF b, .v (.int .i64 i), S s, .lst 6 (ls.map vD), .lst 7 (ffs.map fD)] := vD_cells _
      have p0 := one_cell r0 rfl
      have p1 := one_cell r1 rfl
      have p2 := one_cell r2 rfl
      have p3 := one_cell r3 rfl
      simp only [ec]
      match j, hj with
      | 0, _ => exact p0
      | 1, _ => exact p1
      | 2, _ => exact p2
      | 3, _ => exact p3
      | 4, _ => exact r4
      | 5, _ => exact r5
    · obtain ⟨fs, hu, ⟨f0, g0, e0, o0⟩, ⟨f1, g1, e1, o1⟩, hsz⟩ := T.f
      obtain ⟨xs, n, hn, _, _, hxl, hx⟩ := DataW.trod_struct hu h
      subst hn
      obtain ⟨c0, cs', rfl⟩ : ∃ c0 cs', cs = c0 :: cs' := List.exists_cons_of_ne_nil (by intro e; subst e; cases hl)
      have hl' : cs'.length = 6 := by simpa using hl
      have get : ∀ i, i < 2 → ∃ x, xs[i]? = some x := fun i hi => ⟨_, List.getElem?_eq_getElem (by omega)⟩
      have q0 := hx 0 f0 g0
      have q1 := hx 1 f1 g1
      rw [e0, o0, T.cS] at q0
      rw [e1, o1, T.cV, List.drop_succ_cons, List.drop_zero, List.take_of_length_le (by omega)] at q1
      obtain ⟨⟨_, _⟩, x0⟩ := get 0 (by decide)
      obtain ⟨⟨_, _⟩, x1⟩ := get 1 (by decide)
      rw [x0] at q0; rw [x1] at q1
      obtain ⟨y0, r0⟩ := reads_str T.s q0
      obtain ⟨s, rfl⟩ := r0.good
      obtain ⟨y1, r1⟩ := (reads_both T N n (by omega)).1 _ _ _ q1 hl'
      obtain ⟨v, wv, rfl⟩ := r1.good
      have p0 := one_cell r0 rfl
      have ec : (fD (.mk s v)).cells = S s :: (vD v).cells := fD_cells _
      refine ⟨fD (.mk s v), hl, by rw [ec, List.length_cons, r1.ylen], fun z hz => fC_one _ z hz, ⟨.mk s v, wv, rfl⟩, fun j hj hj' => ?_⟩
      simp only [ec]
      match j, hj with
      | 0, _ => exact p0
      | j + 1, hj => exact r1.at_ j (by simpa using hj) (by rw [ec] at hj'; simpa using hj')
theorem arg_val (T : VTypes P tV tF tK tB tI tS tL tM) {r : Reach} {b0 : Nat} {v : Value} {d : DataW H} {ps : List MemPlace} (hval : Value.okWide P W r b0 tV v) (hd : DataW.Trod enc P W 0 sp held tV v d ps) : ∃ x : V, WfV x ∧ Rep (ctx0 W) v (.d (.agg (vC x))) := by
  obtain ⟨fs, hu, _⟩ := T.v
  obtain ⟨cs, rfl, hs⟩ := WideShapes.okWide_struct hu hval
  rw [T.cV] at hs
  obtain ⟨fuel, hf⟩ := hd
  have hl : (Value.agg cs).cells.toList.length = 6 := by simpa [Value.cells] using hs
  obtain ⟨y, hy⟩ := (reads_both T fuel fuel (Nat.le_refl _)).1 _ _ _ hf hl
  obtain ⟨x, wx, rfl⟩ := hy.good
  refine ⟨x, wx, .d (.agg cs (vC x) (by rw [hs, vC_len]) (vC_one x) fun i hi => ?_)⟩
  have hi6 : i < 6 := by rw [vC_len] at hi; exact hi
  have := hy.at_ i (by rw [hl]; exact hi6) hi
  have e : cs.getD i undef = (Value.agg cs).cells.toList[i]'(by rw [hl]; exact hi6) := by
    simp [Value.cells, Array.getD, hs, hi6]
  rw [e]
  exact this
end
end Go.AV.Val
namespace Go.AV.Val
open Go.AV.Ord Go.AV.Oct
section
variable {H : Type} {enc : TypeId × Value → H} {P : Program} {W : World} {sp : Nat → Bool} {held : Bool}
end
end Go.AV.Val
namespace Go.Proofs.Ytjamnhofbkgblaa
open Go.AV Go.AV.Ord Go.AV.Oct Go.AV.Val Go.AV.Patch
set_option linter.unusedVariables false
set_option linter.unusedSimpArgs false
theorem vtypes : VTypes Try.prog 26 48 22 4 2 9 23 24 where
  v := ⟨_, Try.underlying26, ⟨_, rfl, rfl, rfl⟩, ⟨_, rfl, rfl, rfl⟩, ⟨_, rfl, rfl, rfl⟩, ⟨_, rfl, rfl, rfl⟩, ⟨_, rfl, rfl, rfl⟩, ⟨_, rfl, rfl, rfl⟩, rfl⟩
  f := ⟨_, Try.underlying48, ⟨_, rfl, rfl, rfl⟩, ⟨_, rfl, rfl, rfl⟩, rfl⟩
  k := Try.underlying22
  b := Try.underlying4
  i := Try.underlying2
  s := Try.underlying9
  l := Try.underlying23
  m := Try.underlying24
  cV := by kernel_rfl
  cF := by kernel_rfl
  cK := by kernel_rfl
  cB := by kernel_rfl
  cI := by kernel_rfl
  cS := by kernel_rfl
  cL := by kernel_rfl
  cM := by kernel_rfl
set_option maxRecDepth 100000 in
theorem patchTwice_walk (Hs : HS) (v : V) (nm : List UInt8) (k : Int) (wv : WfV v) (wk : i64 k) : ACalls Try.prog 3 [.d (.agg (vC v)), .d (S nm), .d (I k)] Hs (fun av _ => av = .d (TF true)) := by
 refine acalls_of_aw Try.func3 rfl ?_
 refine aw_start (T' := ((.d (.agg (vC v))) :: (.d (S nm)) :: (.d (I k)) :: .un :: .un :: .un :: .un :: .un :: .un :: .un :: .un :: .un :: .un :: .un :: .un :: .un :: .un :: .un :: .un :: .un :: .un :: .un :: .un :: .un :: .un :: .un :: .un :: .un :: .un :: .un :: .un :: .un :: .un :: .un :: .un :: .un :: .un :: .un :: .un :: .un :: .un :: .un :: .un :: .un :: .un :: .un :: .un :: .un :: .un :: .un :: .un :: .un :: .un :: .un :: .un :: .un :: .un :: .un :: .un :: .un :: .un :: .un :: .un :: .un :: .un :: .un :: .un :: .un :: .un :: .un :: .un :: .un :: .un :: .un :: .un :: .un :: .un :: .un :: .un :: .un :: .un :: .un :: .un :: .un :: .un :: .un :: .un :: .un :: .un :: .un :: .un :: .un :: .un :: .un :: .un :: .un :: .un :: .un :: .un :: .un :: [])) rfl ?_
 refine aw_seq ?_
 refine aw_region ?_
 refine zst (op_box_ptr (cs := (vC v).map .d) (by intro h; cases h) (by rfl)) rfl (by dsimp only [zS, zN, zH, zT]) ?_
 refine zst (op_assign_const (by rfl)) rfl (by dsimp only [zS, zN, zH, zT]) ?_
 refine al_end rfl ?_
 refine then_normal ?_
 refine aw_seq ?_
 refine aw_seq ?_
 refine aw_region ?_
 refine zst (op_callF Try.func9 (by rfl) (by rfl) .nil (phead_ok _)) rfl (by dsimp only [zS, zN, zH, zT]) ?_
 refine zst (op_not (by rfl)) rfl (by dsimp only [zS, zN, zH, zT]) ?_
 refine al_end rfl ?_
 refine then_normal ?_
 refine aw_cond rfl (fun hc1 => ?_) (fun hc1 => ?_)
 ·
  (try simp only [y1, y2, y3, y4, y5, y6, y7, y8, y9, y0, List.length_map] at hc1)
  exact absurd hc1 (by decide)
 ·
  (try simp only [y1, y2, y3, y4, y5, y6, y7, y8, y9, y0, List.length_map] at hc1)
  refine aw_skip ?_
  refine then_normal ?_
  refine aw_seq ?_
  refine aw_seq ?_
  refine aw_region ?_
  refine zst (op_ldV v Try.underlying26 (by rfl) Sz26 (by rfl) push_at (by first | exact VBl.v _ _ | exact VBl.z _)) rfl (by dsimp only [zS, zN, zH, zT]) ?_
  refine zst (op_callF Try.func10 (by rfl) (by rfl) (.tmp (by rfl) (.const (by rfl) .nil)) (few_ok 7 v (by decide) _)) rfl (by dsimp only [zS, zN, zH, zT]) ?_
  refine zst (op_not (by rfl)) rfl (by dsimp only [zS, zN, zH, zT]) ?_
  refine zst (op_move_tmp (by rfl)) rfl (by dsimp only [zS, zN, zH, zT]) ?_
  refine al_split 23 rfl (fun hg2 => ?_) (fun hg2 => ?_)
  ·
   (try simp only [y1, y2, y3, y4, y5, y6, y7, y8, y9, y0, List.length_map] at hg2)
   apply al_normT
   · (try dsimp only [zS, zN, zH, zT]); try exact rfl
   refine zuw rfl rfl rfl rfl (by dsimp only [zS, zN, zH, zT]) ?_
   refine zuw rfl rfl rfl rfl (by dsimp only [zS, zN, zH, zT]) ?_
   refine zuw rfl rfl rfl rfl (by dsimp only [zS, zN, zH, zT]) ?_
   refine zst (op_pick_tt (by rfl) (val_const (by rfl))) rfl (by dsimp only [zS, zN, zH, zT]) ?_
   refine al_end rfl ?_
   refine then_normal ?_
   refine aw_cond rfl (fun _ => ?_) (fun h => by cases h)
   refine aw_seq ?_
   refine aw_region ?_
   refine zst (op_assign_const (by rfl)) rfl (by dsimp only [zS, zN, zH, zT]) ?_
   refine al_end rfl ?_
   refine then_normal ?_
   refine aw_ret ?_
   refine then_ret ?_
   refine retPost1 rfl rfl ?_
   first | exact rfl | (rw [hl, cmp_refl]; rfl)
  ·
   (try simp only [y1, y2, y3, y4, y5, y6, y7, y8, y9, y0, List.length_map] at hg2)
   have hf : fewV 7 v = true := by simpa using hg2
   apply al_normT
   · (try dsimp only [zS, zN, zH, zT]); try exact rfl
   refine zsw rfl rfl rfl (op_move_tmp (by rfl)) (by dsimp only [zS, zN, zH, zT]) ?_
   refine zsw rfl rfl rfl (op_lenS Try.underlying9 (by rfl)) (by dsimp only [zS, zN, zH, zT]) ?_
   refine zsw rfl rfl rfl (op_gtI (by rfl) (by rfl)) (by dsimp only [zS, zN, zH, zT]) ?_
   refine zst (op_pick_ff (by rfl) (val_tmp (by rfl))) rfl (by dsimp only [zS, zN, zH, zT]) ?_
   refine al_end rfl ?_
   refine then_normal ?_
   refine aw_cond rfl (fun hc4 => ?_) (fun hc4 => ?_)
   ·
    (try simp only [y1, y2, y3, y4, y5, y6, y7, y8, y9, y0, List.length_map] at hc4)
    refine aw_seq ?_
    refine aw_region ?_
    refine zst (op_assign_const (by rfl)) rfl (by dsimp only [zS, zN, zH, zT]) ?_
    refine al_end rfl ?_
    refine then_normal ?_
    refine aw_ret ?_
    refine then_ret ?_
    refine retPost1 rfl rfl ?_
    first | exact rfl | (rw [hl, cmp_refl]; rfl)
   ·
    (try simp only [y1, y2, y3, y4, y5, y6, y7, y8, y9, y0, List.length_map] at hc4)
    have bv : BndV 8 (lawR v) := law_bnd hf wv
    obtain ⟨hr, _, _, _⟩ := law_parts hf wv
    refine aw_skip ?_
    refine then_normal ?_
    refine aw_seq ?_
    refine aw_region ?_
    refine zst (op_ldV v Try.underlying26 (by rfl) Sz26 (by rfl) push_at (by first | exact VBl.v _ _ | exact VBl.z _)) rfl (by dsimp only [zS, zN, zH, zT]) ?_
    refine zst (op_callF Try.func11 (by rfl) (by rfl) (.tmp (by rfl) .nil) (lawR_all 7 v hf _)) rfl (by dsimp only [zS, zN, zH, zT]) ?_
    refine zst (op_stV (lawR v) Sz26 (by rfl) push_at (by first | exact VBl.z _ | exact VBl.v _ _) (by rfl)) rfl (by dsimp only [zS, zN, zH, zT]) ?_
    refine al_end rfl ?_
    refine then_normal ?_
    refine aw_seq ?_
    refine aw_seq ?_
    refine aw_region ?_
    refine zst (by first | exact op_fieldAddr_ptr Try.underlying26 rfl Sz22 (by rfl) (by rfl) | exact op_fieldAddr_elt Try.underlying26 rfl Sz22 (by rfl) (by rfl) (by rfl)) rfl (by dsimp only [zS, zN, zH, zT]) ?_
    refine zst (op_ldV1 Try.underlying22 (by rfl) (by rfl) (setB_at push_at) (VBl.v _ _) (by rfl)) rfl (by dsimp only [zS, zN, zH, zT]) ?_
    refine zst (op_neI (by rfl) (by rfl)) rfl (by dsimp only [zS, zN, zH, zT]) ?_
    refine al_end rfl ?_
    refine then_normal ?_
    refine aw_cond rfl (fun hc5 => ?_) (fun hc5 => ?_)
    ·
     (try simp only [y1, y2, y3, y4, y5, y6, y7, y8, y9, y0, List.length_map] at hc5)
     have hk : ¬ (lawR v).kind = 5 := hc5
     refine aw_seq ?_
     refine aw_region ?_
     refine zst (op_ldV (lawR v) Try.underlying26 (by rfl) Sz26 (by rfl) (setB_at push_at) (by first | exact VBl.v _ _ | exact VBl.z _)) rfl (by dsimp only [zS, zN, zH, zT]) ?_
     refine zst (op_move_tmp (by rfl)) rfl (by dsimp only [zS, zN, zH, zT]) ?_
     refine zst (op_lit Try.underlying34 ZS9 (.cons (by rfl) (.nil _)) (by rfl) (by simp [BY, S, I, TF, DV.cells]) (by simp [flat, BY, S, I, TF, DV.cells, DV.one]) (by decide)) rfl (by dsimp only [zS, zN, zH, zT]) ?_
     refine zst (op_buildO0 1 [nm] (.own none 1 [S nm]) Try.underlying36 Zr36 (by kernel_rfl) (by rfl) (by rfl) (by rfl) (by rfl) (LL.own _ _ _)) rfl (by dsimp only [zS, zN, zH, zT]) ?_
     refine zst (op_lit Try.underlying37 ZS36 (.cons (y := oD (Opn.mk 1 [nm] V0)) (by rfl) (.nil _)) (by rfl) (lit_o [(Opn.mk 1 [nm] V0)]) (lit_o1 [(Opn.mk 1 [nm] V0)]) (by decide)) rfl (by dsimp only [zS, zN, zH, zT]) ?_
     refine zst (op_callF Try.func12 (by rfl) (by rfl) (.tmp (by rfl) (.tmp (by rfl) .nil)) (papply_at (l := [(Opn.mk 1 [nm] V0)]) (m := 8) (apply_nomap hk nm) (by decide) (LL.own _ _ _) (by simp) bv (by intro o ho; simp at ho; (first | (rcases ho with rfl | rfl) | subst ho) <;> first | exact BndV.int _ | exact BndV.v0))) rfl (by dsimp only [zS, zN, zH, zT]) ?_
     refine zst (op_move_tmp (by rfl)) rfl (by dsimp only [zS, zN, zH, zT]) ?_
     refine zst (op_extract (by rfl) (by rfl)) rfl (by dsimp only [zS, zN, zH, zT]) ?_
     refine zst (op_extract (by rfl) (by rfl)) rfl (by dsimp only [zS, zN, zH, zT]) ?_
     refine zst (op_alloc (Zr26) (by rfl)) rfl (by dsimp only [zS, zN, zH, zT]) ?_
     refine zst (op_stV V0 Sz26 (by rfl) push_at (by first | exact VBl.z _ | exact VBl.v _ _) (by rfl)) rfl (by dsimp only [zS, zN, zH, zT]) ?_
     refine zst (op_assign_tmp (by rfl)) rfl (by dsimp only [zS, zN, zH, zT]) ?_
     refine al_end rfl ?_
     refine then_normal ?_
     refine aw_seq ?_
     refine aw_region ?_
     refine zst (op_move_tmp (by rfl)) rfl (by dsimp only [zS, zN, zH, zT]) ?_
     refine zst (op_eqI (by rfl) (by rfl)) rfl (by dsimp only [zS, zN, zH, zT]) ?_
     refine zst (op_assign_tmp (by rfl)) rfl (by dsimp only [zS, zN, zH, zT]) ?_
     refine al_end rfl ?_
     refine then_normal ?_
     refine aw_ret ?_
     refine then_ret ?_
     refine retPost1 rfl rfl ?_
     first | exact rfl | (rw [hl, cmp_refl]; rfl)
    ·
     (try simp only [y1, y2, y3, y4, y5, y6, y7, y8, y9, y0, List.length_map] at hc5)
     have hk : (lawR v).kind = 5 := hc5
     obtain ⟨l1, l2, l3, l4⟩ := twice_law hr hk nm wk
     have hO : ∀ o ∈ [(Opn.mk 1 [nm] (ofInt 0)), (Opn.mk 3 [nm] (ofInt k))], BndV 8 o.val := by intro o ho; simp at ho; rcases ho with rfl | rfl <;> exact BndV.int _
     have ba : BndV 10 (M (twice (lawR v).fields nm k)) := by have h := BndV.apply (l := [(Opn.mk 1 [nm] (ofInt 0)), (Opn.mk 3 [nm] (ofInt k))]) bv hO; rw [l1] at h; exact h
     have bb : BndV 11 (M (delF (twice (lawR v).fields nm k) nm)) := by have h := BndV.apply (l := [(Opn.mk 2 [nm] V0)]) ba (by intro o ho; simp at ho; subst ho; exact BndV.v0); rw [l3] at h; exact h
     refine aw_skip ?_
     refine then_normal ?_
     refine aw_seq ?_
     refine aw_region ?_
     refine zst (op_ldV (lawR v) Try.underlying26 (by rfl) Sz26 (by rfl) (setB_at push_at) (by first | exact VBl.v _ _ | exact VBl.z _)) rfl (by dsimp only [zS, zN, zH, zT]) ?_
     refine zst (op_move_tmp (by rfl)) rfl (by dsimp only [zS, zN, zH, zT]) ?_
     refine zst (op_callF Try.func13 (by rfl) (by rfl) (.tmp (by rfl) (.tmp (by rfl) .nil)) (get_ok _ (lawR v) nm (by have := bv.fl; omega))) rfl (by dsimp only [zS, zN, zH, zT]) ?_
     refine zst (op_move_tmp (by rfl)) rfl (by dsimp only [zS, zN, zH, zT]) ?_
     refine zst (op_extract (by rfl) (by rfl)) rfl (by dsimp only [zS, zN, zH, zT]) ?_
     refine zst (op_extract (by rfl) (by rfl)) rfl (by dsimp only [zS, zN, zH, zT]) ?_
     refine zst (op_alloc (Zr26) (by rfl)) rfl (by dsimp only [zS, zN, zH, zT]) ?_
     refine zst (op_stV (getV (lawR v) nm).1 Sz26 (by rfl) push_at (by first | exact VBl.z _ | exact VBl.v _ _) (by rfl)) rfl (by dsimp only [zS, zN, zH, zT]) ?_
     refine zst (op_assign_tmp (by rfl)) rfl (by dsimp only [zS, zN, zH, zT]) ?_
     refine al_end rfl ?_
     refine then_normal ?_
     refine aw_seq ?_
     refine aw_region ?_
     refine zst (op_move_tmp (by rfl)) rfl (by dsimp only [zS, zN, zH, zT]) ?_
     refine zst (op_lit Try.underlying34 ZS9 (.cons (by rfl) (.nil _)) (by rfl) (by simp [BY, S, I, TF, DV.cells]) (by simp [flat, BY, S, I, TF, DV.cells, DV.one]) (by decide)) rfl (by dsimp only [zS, zN, zH, zT]) ?_
     refine zst (op_assign_tmp (by rfl)) rfl (by dsimp only [zS, zN, zH, zT]) ?_
     refine al_end rfl ?_
     refine then_normal ?_
     refine aw_seq ?_
     refine aw_drawX (fun K => K.blks[Hs.nb]? = some (vB 26 (lawR v))) [0, 0, 0, 0, 0, 0, 0, 0, 0, 0, 0, 0, 0, 2, 2, 0] mixed (by kernel_rfl) (by repeat (first | exact push_at | exact setB_at push_at | (rw [setB_ne (by simp only [setB_nb, push_nb, ne_eq]; omega)]) | apply push_ne | apply setB_at)) (.inr (by kernel_rfl)) ?_
     apply drun0X
     · intro H hPhi; exact op_ldV (lawR v) Try.underlying26 (by rfl) Sz26 (by rfl) hPhi (by first | exact VBl.v _ _ | exact VBl.z _)
     · rfl
     apply drun_normT
     · (try dsimp only [zS, zN, zH, zT]); try exact rfl
     apply drun0X
     · intro H hPhi; exact op_move_tmp (by rfl)
     · rfl
     apply drun_normT
     · (try dsimp only [zS, zN, zH, zT]); try exact rfl
     apply drun0X
     · intro H hPhi; exact op_callF Try.func14 (by rfl) (by rfl) (.const (by rfl) .nil) (ofInt_ok _ _)
     · rfl
     apply drun_normT
     · (try dsimp only [zS, zN, zH, zT]); try exact rfl
     apply drun0X
     · intro H hPhi; exact op_buildO (Opn.mk 1 [nm] (ofInt 0)) (.own none 1 [S nm]) Try.underlying36 Zr36 (by kernel_rfl) (by rfl) (by rfl) (by rfl) (by rfl) (LL.own _ _ _)
     · rfl
     apply drun_normT
     · (try dsimp only [zS, zN, zH, zT]); try exact rfl
     apply drun0X
     · intro H hPhi; exact op_move_tmp (by rfl)
     · rfl
     apply drun_normT
     · (try dsimp only [zS, zN, zH, zT]); try exact rfl
     apply drun0X
     · intro H hPhi; exact op_move_tmp (by rfl)
     · rfl
     apply drun_normT
     · (try dsimp only [zS, zN, zH, zT]); try exact rfl
     apply drun0X
     · intro H hPhi; exact op_callF Try.func14 (by rfl) (by rfl) (.tmp (by rfl) .nil) (ofInt_ok _ _)
     · rfl
     apply drun_normT
     · (try dsimp only [zS, zN, zH, zT]); try exact rfl
     apply drun0X
     · intro H hPhi; exact op_buildO (Opn.mk 3 [nm] (ofInt k)) (.own none 1 [S nm]) Try.underlying36 Zr36 (by kernel_rfl) (by rfl) (by rfl) (by rfl) (by rfl) (LL.own _ _ _)
     · rfl
     apply drun_normT
     · (try dsimp only [zS, zN, zH, zT]); try exact rfl
     apply drun0X
     · intro H hPhi; exact op_lit Try.underlying37 ZS36 (.cons (y := oD (Opn.mk 1 [nm] (ofInt 0))) (by rfl) (.cons (y := oD (Opn.mk 3 [nm] (ofInt k))) (by rfl) (.nil _))) (by rfl) (lit_o [(Opn.mk 1 [nm] (ofInt 0)), (Opn.mk 3 [nm] (ofInt k))]) (lit_o1 [(Opn.mk 1 [nm] (ofInt 0)), (Opn.mk 3 [nm] (ofInt k))]) (by decide)
     · rfl
     apply drun_normT
     · (try dsimp only [zS, zN, zH, zT]); try exact rfl
     apply drun0X
     · intro H hPhi; exact op_callF Try.func12 (by rfl) (by rfl) (.tmp (by rfl) (.tmp (by rfl) .nil)) (papply_at (l := [(Opn.mk 1 [nm] (ofInt 0)), (Opn.mk 3 [nm] (ofInt k))]) (m := 8) l1 (by decide) (LL.own _ _ _) (by simp) bv (by intro o ho; simp at ho; (first | (rcases ho with rfl | rfl) | subst ho) <;> first | exact BndV.int _ | exact BndV.v0))
     · rfl
     apply drun_normT
     · (try dsimp only [zS, zN, zH, zT]); try exact rfl
     apply drun0X
     · intro H hPhi; exact op_move_tmp (by rfl)
     · rfl
     apply drun_normT
     · (try dsimp only [zS, zN, zH, zT]); try exact rfl
     apply drun0X
     · intro H hPhi; exact op_extract (by rfl) (by rfl)
     · rfl
     apply drun_normT
     · (try dsimp only [zS, zN, zH, zT]); try exact rfl
     apply drun0X
     · intro H hPhi; exact op_extract (by rfl) (by rfl)
     · rfl
     apply drun_normT
     · (try dsimp only [zS, zN, zH, zT]); try exact rfl
     apply drun2X
     · exact op_alloc (Zr26) (by rfl)
     · rfl
     · refine .inr ?_; repeat (first | exact push_at | exact setB_at push_at | (rw [setB_ne (by simp only [setB_nb, push_nb, ne_eq]; omega)]) | apply push_ne | apply setB_at)
     apply drun_normT
     · (try dsimp only [zS, zN, zH, zT]); try exact rfl
     apply drun2X
     · exact op_stV (M (twice (lawR v).fields nm k)) Sz26 (by rfl) push_at (by first | exact VBl.z _ | exact VBl.v _ _) (by rfl)
     · rfl
     · refine .inr ?_; repeat (first | exact push_at | exact setB_at push_at | (rw [setB_ne (by simp only [setB_nb, push_nb, ne_eq]; omega)]) | apply push_ne | apply setB_at)
     apply drun_normT
     · (try dsimp only [zS, zN, zH, zT]); try exact rfl
     apply drun0X
     · intro H hPhi; exact op_assign_tmp (by rfl)
     · rfl
     apply drun_normT
     · (try dsimp only [zS, zN, zH, zT]); try exact rfl
     refine drun_end rfl ?_
     refine then_normal ?_
     refine aw_seq ?_
     refine aw_seq ?_
     refine aw_region ?_
     refine zst (op_move_tmp (by rfl)) rfl (by dsimp only [zS, zN, zH, zT]) ?_
     refine zst (op_neI (by rfl) (by rfl)) rfl (by dsimp only [zS, zN, zH, zT]) ?_
     refine al_end rfl ?_
     refine then_normal ?_
     refine aw_cond rfl (fun hc6 => ?_) (fun hc6 => ?_)
     ·
      (try simp only [y1, y2, y3, y4, y5, y6, y7, y8, y9, y0, List.length_map] at hc6)
      exact absurd trivial hc6
     ·
      (try simp only [y1, y2, y3, y4, y5, y6, y7, y8, y9, y0, List.length_map] at hc6)
      refine aw_skip ?_
      refine then_normal ?_
      refine aw_seq ?_
      refine aw_region ?_
      refine zst (op_ldV (M (twice (lawR v).fields nm k)) Try.underlying26 (by rfl) Sz26 (by rfl) (setB_at push_at) (by first | exact VBl.v _ _ | exact VBl.z _)) rfl (by dsimp only [zS, zN, zH, zT]) ?_
      refine zst (op_move_tmp (by rfl)) rfl (by dsimp only [zS, zN, zH, zT]) ?_
      refine zst (op_callF Try.func13 (by rfl) (by rfl) (.tmp (by rfl) (.tmp (by rfl) .nil)) (get_at l2 (by have := ba.fl; omega))) rfl (by dsimp only [zS, zN, zH, zT]) ?_
      refine zst (op_move_tmp (by rfl)) rfl (by dsimp only [zS, zN, zH, zT]) ?_
      refine zst (op_extract (by rfl) (by rfl)) rfl (by dsimp only [zS, zN, zH, zT]) ?_
      refine zst (op_extract (by rfl) (by rfl)) rfl (by dsimp only [zS, zN, zH, zT]) ?_
      refine zst (op_alloc (Zr26) (by rfl)) rfl (by dsimp only [zS, zN, zH, zT]) ?_
      refine zst (op_stV (ofInt k) Sz26 (by rfl) push_at (by first | exact VBl.z _ | exact VBl.v _ _) (by rfl)) rfl (by dsimp only [zS, zN, zH, zT]) ?_
      refine zst (op_assign_tmp (by rfl)) rfl (by dsimp only [zS, zN, zH, zT]) ?_
      refine al_end rfl ?_
      refine then_normal ?_
      refine aw_seq ?_
      refine aw_region ?_
      refine zst (op_ldV (M (twice (lawR v).fields nm k)) Try.underlying26 (by rfl) Sz26 (by rfl) (by repeat (first | exact push_at | exact setB_at push_at | (rw [setB_ne (by simp only [setB_nb, push_nb, ne_eq]; omega)]) | apply push_ne | apply setB_at)) (by first | exact VBl.v _ _ | exact VBl.z _)) rfl (by dsimp only [zS, zN, zH, zT]) ?_
      refine zst (op_move_tmp (by rfl)) rfl (by dsimp only [zS, zN, zH, zT]) ?_
      refine zst (op_buildO0 2 [nm] (.own none 1 [S nm]) Try.underlying36 Zr36 (by kernel_rfl) (by rfl) (by rfl) (by rfl) (by rfl) (LL.own _ _ _)) rfl (by dsimp only [zS, zN, zH, zT]) ?_
      refine zst (op_lit Try.underlying37 ZS36 (.cons (y := oD (Opn.mk 2 [nm] V0)) (by rfl) (.nil _)) (by rfl) (lit_o [(Opn.mk 2 [nm] V0)]) (lit_o1 [(Opn.mk 2 [nm] V0)]) (by decide)) rfl (by dsimp only [zS, zN, zH, zT]) ?_
      refine zst (op_callF Try.func12 (by rfl) (by rfl) (.tmp (by rfl) (.tmp (by rfl) .nil)) (papply_at (l := [(Opn.mk 2 [nm] V0)]) (m := 10) l3 (by decide) (LL.own _ _ _) (by simp) ba (by intro o ho; simp at ho; (first | (rcases ho with rfl | rfl) | subst ho) <;> first | exact BndV.int _ | exact BndV.v0))) rfl (by dsimp only [zS, zN, zH, zT]) ?_
      refine zst (op_move_tmp (by rfl)) rfl (by dsimp only [zS, zN, zH, zT]) ?_
      refine zst (op_extract (by rfl) (by rfl)) rfl (by dsimp only [zS, zN, zH, zT]) ?_
      refine zst (op_extract (by rfl) (by rfl)) rfl (by dsimp only [zS, zN, zH, zT]) ?_
      refine zst (op_alloc (Zr26) (by rfl)) rfl (by dsimp only [zS, zN, zH, zT]) ?_
      refine zst (op_stV (M (delF (twice (lawR v).fields nm k) nm)) Sz26 (by rfl) push_at (by first | exact VBl.z _ | exact VBl.v _ _) (by rfl)) rfl (by dsimp only [zS, zN, zH, zT]) ?_
      refine zst (op_assign_tmp (by rfl)) rfl (by dsimp only [zS, zN, zH, zT]) ?_
      refine al_end rfl ?_
      refine then_normal ?_
      refine aw_seq ?_
      refine aw_draw [0, 0, 1, 0, 0, 0, 0, 0, 0, 0, 0, 0, 0, 0, 1, 1, 0, 0, 0, 0] mixed (by kernel_rfl) ?_
      refine zd0 (fun H => (op_move_tmp (by rfl))) rfl (by dsimp only [zS, zN, zH, zT]) ?_
      refine zd0 (fun H => (op_move_tmp (by rfl))) rfl (by dsimp only [zS, zN, zH, zT]) ?_
      refine zd1w rfl rfl rfl (op_ldV (ofInt k) Try.underlying26 (by rfl) Sz26 (by rfl) (by repeat (first | exact push_at | exact setB_at push_at | (rw [setB_ne (by simp only [setB_nb, push_nb, ne_eq]; omega)]) | apply push_ne | apply setB_at)) (by first | exact VBl.v _ _ | exact VBl.z _)) (by dsimp only [zS, zN, zH, zT]) ?_
      refine zd0w rfl rfl rfl (fun H => (op_move_tmp (by rfl))) (by dsimp only [zS, zN, zH, zT]) ?_
      refine zd0w rfl rfl rfl (fun H => (op_callF Try.func14 (by rfl) (by rfl) (.tmp (by rfl) .nil) (ofInt_ok _ _))) (by dsimp only [zS, zN, zH, zT]) ?_
      refine zd0w rfl rfl rfl (fun H => (op_callF Try.func15 (by rfl) (by rfl) (.tmp (by rfl) (.tmp (by rfl) .nil)) (vsame_ok _ (ofInt k) (ofInt k) (small_int k) (small_int k)))) (by dsimp only [zS, zN, zH, zT]) ?_
      refine zd0 (fun H => (op_pick_tt (by rfl) (val_tmp (by rfl)))) rfl (by dsimp only [zS, zN, zH, zT]) ?_
      refine zd0 (fun H => (op_move_tmp (by rfl))) rfl (by dsimp only [zS, zN, zH, zT]) ?_
      refine drun_split 88 rfl (fun hg7 => ?_) (fun hg7 => ?_)
      ·
       (try simp only [y1, y2, y3, y4, y5, y6, y7, y8, y9, y0, List.length_map] at hg7)
       apply drun_normT
       · (try dsimp only [zS, zN, zH, zT]); try exact rfl
       refine zd0w rfl rfl rfl (fun H => (op_move_tmp (by rfl))) (by dsimp only [zS, zN, zH, zT]) ?_
       refine zd0w rfl rfl rfl (fun H => (op_eqI (by rfl) (by rfl))) (by dsimp only [zS, zN, zH, zT]) ?_
       refine zd0 (fun H => (op_pick_tt (by rfl) (val_tmp (by rfl)))) rfl (by dsimp only [zS, zN, zH, zT]) ?_
       refine zd0 (fun H => (op_move_tmp (by rfl))) rfl (by dsimp only [zS, zN, zH, zT]) ?_
       refine zd0w rfl rfl rfl (fun H => (op_move_tmp (by rfl))) (by dsimp only [zS, zN, zH, zT]) ?_
       refine zd0w rfl rfl rfl (fun H => (op_move_tmp (by rfl))) (by dsimp only [zS, zN, zH, zT]) ?_
       refine drun_split 94 rfl (fun hg8 => ?_) (fun hg8 => ?_)
       ·
        (try simp only [y1, y2, y3, y4, y5, y6, y7, y8, y9, y0, List.length_map] at hg8)
        apply drun_normT
        · (try dsimp only [zS, zN, zH, zT]); try exact rfl
        refine zdU rfl rfl rfl rfl (by dsimp only [zS, zN, zH, zT]) ?_
        refine zdU rfl rfl rfl rfl (by dsimp only [zS, zN, zH, zT]) ?_
        refine zdU rfl rfl rfl rfl (by dsimp only [zS, zN, zH, zT]) ?_
        refine zd0w rfl rfl rfl (fun H => (op_pick_tt (by rfl) (val_const (by rfl)))) (by dsimp only [zS, zN, zH, zT]) ?_
        refine zd0 (fun H => (op_pick_tt (by rfl) (val_tmp (by rfl)))) rfl (by dsimp only [zS, zN, zH, zT]) ?_
        refine zd0 (fun H => (op_assign_tmp (by rfl))) rfl (by dsimp only [zS, zN, zH, zT]) ?_
        refine drun_end rfl ?_
        refine then_normal ?_
        refine aw_ret ?_
        refine retPost1 rfl rfl ?_
        first | exact rfl | (rw [hl, cmp_refl]; rfl)
       ·
        (try simp only [y1, y2, y3, y4, y5, y6, y7, y8, y9, y0, List.length_map] at hg8)
        have ht : (getV (lawR v) nm).2 = false := by simpa using hg8
        have hl := l4 ht
        apply drun_normT
        · (try dsimp only [zS, zN, zH, zT]); try exact rfl
        refine zd1w rfl rfl rfl (op_ldV (M (delF (twice (lawR v).fields nm k) nm)) Try.underlying26 (by rfl) Sz26 (by rfl) (setB_at push_at) (by first | exact VBl.v _ _ | exact VBl.z _)) (by dsimp only [zS, zN, zH, zT]) ?_
        refine zd1w rfl rfl rfl (op_ldV (lawR v) Try.underlying26 (by rfl) Sz26 (by rfl) (by repeat (first | exact push_at | exact setB_at push_at | (rw [setB_ne (by simp only [setB_nb, push_nb, ne_eq]; omega)]) | apply push_ne | apply setB_at)) (by first | exact VBl.v _ _ | exact VBl.z _)) (by dsimp only [zS, zN, zH, zT]) ?_
        refine zd0w rfl rfl rfl (fun H => (op_callF Try.func15 (by rfl) (by rfl) (.tmp (by rfl) (.tmp (by rfl) .nil)) (vsame_ok _ (M (delF (twice (lawR v).fields nm k) nm)) (lawR v) (bb.small (by decide)) (bv.small (by decide))))) (by dsimp only [zS, zN, zH, zT]) ?_
        refine zd0w rfl rfl rfl (fun H => (op_pick_ff (by rfl) (val_tmp (by rfl)))) (by dsimp only [zS, zN, zH, zT]) ?_
        refine zd0 (fun H => (op_pick_tt (by rfl) (val_tmp (by rfl)))) rfl (by dsimp only [zS, zN, zH, zT]) ?_
        refine zd0 (fun H => (op_assign_tmp (by rfl))) rfl (by dsimp only [zS, zN, zH, zT]) ?_
        refine drun_end rfl ?_
        refine then_normal ?_
        refine aw_ret ?_
        refine retPost1 rfl rfl ?_
        first | exact rfl | (rw [hl, cmp_refl]; rfl)
      ·
       (try simp only [y1, y2, y3, y4, y5, y6, y7, y8, y9, y0, List.length_map] at hg7)
       apply drun_normT
       · (try dsimp only [zS, zN, zH, zT]); try exact rfl
       exact absurd (cmp_refl _) hg7
end Go.Proofs.Ytjamnhofbkgblaa
