/- What the function of the laws that makes values right comes to. -/
import Derived.Test.YtjamnhofbkgblaaValMO
import Derived.Test.YtjamnhofbkgblaaValOrd
import Derived.KernelRfl
namespace Go.Proofs.Ytjamnhofbkgblaa
open Go.AV Go.AV.Ord Go.AV.Oct Go.AV.Val
set_option linter.unusedVariables false
set_option linter.unusedSimpArgs false
/- A value like another one, as it may be. -/
set_option maxHeartbeats 1000000 in
set_option maxRecDepth 100000 in
theorem lawR_step (Hs : HS) (k : Int) (y : Bool) (i : Int) (tx : List UInt8) (ls : List V) (fs : List F) (hls : ls.length ≤ 1000) (hfs : fs.length ≤ 1000) (ihL : ∀ x ∈ ls, ∀ Hs : HS, ACalls Try.prog 11 [.d (.agg (vC x))] Hs (Ret (.d (.agg (vC (lawR x)))) Hs)) (ihF : ∀ x ∈ fs, ∀ Hs : HS, ACalls Try.prog 11 [.d (.agg (vC x.val))] Hs (Ret (.d (.agg (vC (lawR x.val)))) Hs)) : ACalls Try.prog 11 [.d (.agg (v6D k y i tx ls fs))] Hs (Ret (.d (.agg (vC (lawR (.mk k y i tx ls fs))))) Hs) := by
 refine ACalls.tidy1 ?_
 suffices h : ACalls Try.prog 11 [.d (.agg (v6D k y i tx ls fs))] Hs (fun av H' => Weak av (.d (.agg (vC (lawR (.mk k y i tx ls fs))))) ∧ Ext Hs H') from h.weak fun v H' ⟨h1, h2⟩ => ⟨_, h1, rfl, h2⟩
 obtain ⟨q0, q5⟩ := kind6_le k
 refine acalls_of_awC Try.func11 rfl ?_
 refine aw_start (T' := ((.d (.agg (v6D k y i tx ls fs))) :: .un :: .un :: .un :: .un :: .un :: .un :: .un :: .un :: .un :: .un :: .un :: .un :: .un :: .un :: .un :: .un :: .un :: .un :: .un :: .un :: .un :: .un :: .un :: .un :: .un :: .un :: .un :: .un :: .un :: .un :: .un :: .un :: .un :: .un :: .un :: .un :: .un :: .un :: .un :: .un :: .un :: .un :: .un :: .un :: .un :: .un :: .un :: .un :: .un :: .un :: .un :: .un :: .un :: .un :: .un :: .un :: .un :: .un :: .un :: .un :: .un :: .un :: .un :: .un :: .un :: .un :: .un :: .un :: .un :: .un :: .un :: [])) rfl ?_
 refine aw_seq ?_
 refine aw_region ?_
 refine zst (op_box_elt (cs := v6D k y i tx ls fs) (by rfl) (by rfl)) rfl (by dsimp only [zS, zN, zH, zT]) ?_
 refine zst (op_alloc (Zr26) (by rfl)) rfl (by dsimp only [zS, zN, zH, zT]) ?_
 refine al_end rfl ?_
 refine then_normal ?_
 apply aw_cutF (fun T H => ∃ (u : Unit), T = (.un :: (.elt (v6D k y i tx ls fs)) :: (.ptr Hs.nb 0) :: (.ptr (Hs.nb + 1) 0) :: .un :: .un :: .un :: .un :: .un :: .un :: .un :: .un :: .un :: .un :: .un :: .un :: .un :: .un :: .un :: .un :: .un :: .un :: .un :: .un :: .un :: .un :: .un :: .un :: .un :: .un :: .un :: .un :: .un :: .un :: .un :: .un :: .un :: .un :: .un :: .un :: .un :: .un :: .un :: .un :: .un :: .un :: .un :: .un :: .un :: .un :: .un :: .un :: .un :: .un :: .un :: .un :: .un :: .un :: .un :: .un :: .un :: .un :: .un :: .un :: .un :: .un :: .un :: .un :: .un :: .un :: .un :: .un :: []) ∧ TwoB Hs 26 H (vBlk 26 (kind6 k) false 0 [] nilS nilS))
 ·
  refine aw_region ?_
  refine zst (by first | exact op_fieldAddr_ptr Try.underlying26 rfl Sz22 (by rfl) (by rfl) | exact op_fieldAddr_elt Try.underlying26 rfl Sz22 (by rfl) (by rfl) (by rfl)) rfl (by dsimp only [zS, zN, zH, zT]) ?_
  refine zst (by first | exact op_load_elt Try.underlying22 (by rfl) (by rfl) (by rfl) | exact op_load_ptr Try.underlying22 (by rfl) (by rfl) (by first | exact hb.e1 | exact hb.psh.e1 | exact setB_at push_at) (by rfl)) rfl (by dsimp only [zS, zN, zH, zT]) ?_
  refine zst (op_convI (by rw [Try.underlying22]; rfl) Try.underlying62 (by rfl) (by rfl)) rfl (by dsimp only [zS, zN, zH, zT]) ?_
  refine zst (op_rem (by rfl) (by rfl) (by decide) (rem6 k)) rfl (by dsimp only [zS, zN, zH, zT]) ?_
  refine zst (op_convI (by rw [Try.underlying62]; rfl) Try.underlying22 (by rfl) (wrap_i64 ⟨by omega, by omega⟩)) rfl (by dsimp only [zS, zN, zH, zT]) ?_
  refine zst (op_build (pl := [(0, 1), (1, 1), (2, 1), (3, 1), (4, 1), (5, 1)]) Try.underlying26 Zr26 (by kernel_rfl) (by rfl) (by rfl) (by rfl)) rfl (by dsimp only [zS, zN, zH, zT]) ?_
  refine zst (op_alloc (Zr26) (by rfl)) rfl (by dsimp only [zS, zN, zH, zT]) ?_
  refine zst (op_storeB (vs := (vs6 (kind6 k) false 0 [] nilS nilS)) (b' := (vBlk 26 (kind6 k) false 0 [] nilS nilS)) (H' := _) Sz26 (by rfl) push_at (by intro h; cases h) (by rfl) (by rfl) (Nat.le_of_ble_eq_true rfl) (by simp [AV.one, DV.one, TF, S, I, BY]) (by rfl) (by rfl) rfl) rfl (by dsimp only [zS, zN, zH, zT]) ?_
  refine al_end rfl ?_
  apply cut_to (false :: true :: true :: true :: false :: false :: false :: false :: false :: false :: false :: false :: false :: false :: false :: false :: false :: false :: false :: false :: false :: false :: false :: false :: false :: false :: false :: false :: false :: false :: false :: false :: false :: false :: false :: false :: false :: false :: false :: false :: false :: false :: false :: false :: false :: false :: false :: false :: false :: false :: false :: false :: false :: false :: false :: false :: false :: false :: false :: false :: false :: false :: false :: false :: false :: false :: false :: false :: false :: false :: false :: false :: [])
  · (try dsimp only [maskT]); try exact rfl
  · rfl
  exact ⟨(), by (simp only [push_nb]) <;> rfl, by (simp only [push_nb]); exact TwoB.start Hs 26 _⟩
 rintro T H ⟨u, rfl, hb⟩
 apply aw_cutF (fun T H => ∃ (k2 : Int) (y2 : Bool) (i2 : Int) (tx2 : List UInt8) (l2 : AV) (f2 : AV) (ls2 : List V) (fs2 : List F), T = (.un :: .un :: (.ptr Hs.nb 0) :: (.ptr (Hs.nb + 1) 0) :: .un :: .un :: .un :: .un :: .un :: .un :: .un :: .un :: .un :: .un :: .un :: .un :: .un :: .un :: .un :: .un :: .un :: .un :: .un :: .un :: .un :: .un :: .un :: .un :: .un :: .un :: .un :: .un :: .un :: .un :: .un :: .un :: .un :: .un :: .un :: .un :: .un :: .un :: .un :: .un :: .un :: .un :: .un :: .un :: .un :: .un :: .un :: .un :: .un :: .un :: .un :: .un :: .un :: .un :: .un :: .un :: .un :: .un :: .un :: .un :: .un :: .un :: .un :: .un :: .un :: .un :: .un :: .un :: []) ∧ TwoB Hs 26 H (vBlk 26 k2 y2 i2 tx2 l2 f2) ∧ Weak l2 (.d (.lst 6 (ls2.map vD))) ∧ Weak f2 (.d (.lst 7 (fs2.map fD))) ∧ lawR (.mk k y i tx ls fs) = .mk k2 y2 i2 tx2 ls2 fs2)
 ·
  refine aw_seq ?_
  refine aw_region ?_
  refine zst (by first | exact op_fieldAddr_ptr Try.underlying26 rfl Sz22 (by rfl) (by rfl) | exact op_fieldAddr_elt Try.underlying26 rfl Sz22 (by rfl) (by rfl) (by rfl)) rfl (by dsimp only [zS, zN, zH, zT]) ?_
  refine zst (by first | exact op_load_elt Try.underlying22 (by rfl) (by rfl) (by rfl) | exact op_load_ptr Try.underlying22 (by rfl) (by rfl) (by first | exact hb.e1 | exact hb.psh.e1 | exact setB_at push_at) (by rfl)) rfl (by dsimp only [zS, zN, zH, zT]) ?_
  refine al_end rfl ?_
  refine then_normal ?_
  refine aw_block ?_
  refine aw_seq ?_
  refine aw_region ?_
  refine zst (op_eqI (by rfl) (by rfl)) rfl (by dsimp only [zS, zN, zH, zT]) ?_
  refine zst (op_assign_tmp (by rfl)) rfl (by dsimp only [zS, zN, zH, zT]) ?_
  refine al_end rfl ?_
  refine then_normal ?_
  refine aw_cond rfl (fun hc1 => ?_) (fun hc1 => ?_)
  ·
   (try simp only [y1, y2, y3, y4, y5, y6, y7, y8, y9, y0, List.length_map] at hc1)
   have hk1 : kind6 k = 1 := hc1
   refine aw_region ?_
   refine zst (by first | exact op_fieldAddr_ptr Try.underlying26 rfl Sz4 (by rfl) (by rfl) | exact op_fieldAddr_elt Try.underlying26 rfl Sz4 (by rfl) (by rfl) (by rfl)) rfl (by dsimp only [zS, zN, zH, zT]) ?_
   refine zst (by first | exact op_load_elt Try.underlying4 (by rfl) (by rfl) (by rfl) | exact op_load_ptr Try.underlying4 (by rfl) (by rfl) (by first | exact hb.e1 | exact hb.psh.e1 | exact setB_at push_at) (by rfl)) rfl (by dsimp only [zS, zN, zH, zT]) ?_
   refine zst (by first | exact op_fieldAddr_ptr Try.underlying26 rfl Sz4 (by rfl) (by rfl) | exact op_fieldAddr_elt Try.underlying26 rfl Sz4 (by rfl) (by rfl) (by rfl)) rfl (by dsimp only [zS, zN, zH, zT]) ?_
   refine zst (op_storeB (vs := [.d (TF y)]) (b' := (vBlk 26 (kind6 k) y 0 [] nilS nilS)) (H' := _) Sz4 (by rfl) hb.e1 (by intro h; cases h) (by rfl) (by rfl) (Nat.le_of_ble_eq_true rfl) (by simp [AV.one, DV.one, TF, S, I, BY]) (by rfl) (by rfl) rfl) rfl (by dsimp only [zS, zN, zH, zT]) ?_
   refine al_end rfl ?_
   refine inBlock_normal ?_
   apply cut_to (false :: false :: true :: true :: false :: false :: false :: false :: false :: false :: false :: false :: false :: false :: false :: false :: false :: false :: false :: false :: false :: false :: false :: false :: false :: false :: false :: false :: false :: false :: false :: false :: false :: false :: false :: false :: false :: false :: false :: false :: false :: false :: false :: false :: false :: false :: false :: false :: false :: false :: false :: false :: false :: false :: false :: false :: false :: false :: false :: false :: false :: false :: false :: false :: false :: false :: false :: false :: false :: false :: false :: false :: [])
   · (try dsimp only [maskT]); try exact rfl
   · rfl
   exact ⟨_, _, _, _, _, _, [], [], rfl, hb.setv _, weak_nilL, weak_nilF, by rw [lawR_mk, if_pos hk1, hk1]⟩
  ·
   (try simp only [y1, y2, y3, y4, y5, y6, y7, y8, y9, y0, List.length_map] at hc1)
   have hk1 : ¬ kind6 k = 1 := hc1
   refine aw_seq ?_
   refine aw_region ?_
   refine zst (op_eqI (by rfl) (by rfl)) rfl (by dsimp only [zS, zN, zH, zT]) ?_
   refine zst (op_assign_tmp (by rfl)) rfl (by dsimp only [zS, zN, zH, zT]) ?_
   refine al_end rfl ?_
   refine then_normal ?_
   refine aw_cond rfl (fun hc2 => ?_) (fun hc2 => ?_)
   ·
    (try simp only [y1, y2, y3, y4, y5, y6, y7, y8, y9, y0, List.length_map] at hc2)
    have hk2 : kind6 k = 2 := hc2
    refine aw_region ?_
    refine zst (by first | exact op_fieldAddr_ptr Try.underlying26 rfl Sz2 (by rfl) (by rfl) | exact op_fieldAddr_elt Try.underlying26 rfl Sz2 (by rfl) (by rfl) (by rfl)) rfl (by dsimp only [zS, zN, zH, zT]) ?_
    refine zst (by first | exact op_load_elt Try.underlying2 (by rfl) (by rfl) (by rfl) | exact op_load_ptr Try.underlying2 (by rfl) (by rfl) (by first | exact hb.e1 | exact hb.psh.e1 | exact setB_at push_at) (by rfl)) rfl (by dsimp only [zS, zN, zH, zT]) ?_
    refine zst (by first | exact op_fieldAddr_ptr Try.underlying26 rfl Sz2 (by rfl) (by rfl) | exact op_fieldAddr_elt Try.underlying26 rfl Sz2 (by rfl) (by rfl) (by rfl)) rfl (by dsimp only [zS, zN, zH, zT]) ?_
    refine zst (op_storeB (vs := [.d (.v (.int .i64 i))]) (b' := (vBlk 26 (kind6 k) false i [] nilS nilS)) (H' := _) Sz2 (by rfl) hb.e1 (by intro h; cases h) (by rfl) (by rfl) (Nat.le_of_ble_eq_true rfl) (by simp [AV.one, DV.one, TF, S, I, BY]) (by rfl) (by rfl) rfl) rfl (by dsimp only [zS, zN, zH, zT]) ?_
    refine al_end rfl ?_
    refine inBlock_normal ?_
    apply cut_to (false :: false :: true :: true :: false :: false :: false :: false :: false :: false :: false :: false :: false :: false :: false :: false :: false :: false :: false :: false :: false :: false :: false :: false :: false :: false :: false :: false :: false :: false :: false :: false :: false :: false :: false :: false :: false :: false :: false :: false :: false :: false :: false :: false :: false :: false :: false :: false :: false :: false :: false :: false :: false :: false :: false :: false :: false :: false :: false :: false :: false :: false :: false :: false :: false :: false :: false :: false :: false :: false :: false :: false :: [])
    · (try dsimp only [maskT]); try exact rfl
    · rfl
    exact ⟨_, _, _, _, _, _, [], [], rfl, hb.setv _, weak_nilL, weak_nilF, by rw [lawR_mk, if_neg hk1, if_pos hk2, hk2]⟩
   ·
    (try simp only [y1, y2, y3, y4, y5, y6, y7, y8, y9, y0, List.length_map] at hc2)
    have hk2 : ¬ kind6 k = 2 := hc2
    refine aw_seq ?_
    refine aw_region ?_
    refine zst (op_eqI (by rfl) (by rfl)) rfl (by dsimp only [zS, zN, zH, zT]) ?_
    refine zst (op_assign_tmp (by rfl)) rfl (by dsimp only [zS, zN, zH, zT]) ?_
    refine al_end rfl ?_
    refine then_normal ?_
    refine aw_cond rfl (fun hc3 => ?_) (fun hc3 => ?_)
    ·
     (try simp only [y1, y2, y3, y4, y5, y6, y7, y8, y9, y0, List.length_map] at hc3)
     have hk3 : kind6 k = 3 := hc3
     refine aw_region ?_
     refine zst (by first | exact op_fieldAddr_ptr Try.underlying26 rfl Sz9 (by rfl) (by rfl) | exact op_fieldAddr_elt Try.underlying26 rfl Sz9 (by rfl) (by rfl) (by rfl)) rfl (by dsimp only [zS, zN, zH, zT]) ?_
     refine zst (by first | exact op_load_elt Try.underlying9 (by rfl) (by rfl) (by rfl) | exact op_load_ptr Try.underlying9 (by rfl) (by rfl) (by first | exact hb.e1 | exact hb.psh.e1 | exact setB_at push_at) (by rfl)) rfl (by dsimp only [zS, zN, zH, zT]) ?_
     refine zst (by first | exact op_fieldAddr_ptr Try.underlying26 rfl Sz9 (by rfl) (by rfl) | exact op_fieldAddr_elt Try.underlying26 rfl Sz9 (by rfl) (by rfl) (by rfl)) rfl (by dsimp only [zS, zN, zH, zT]) ?_
     refine zst (op_storeB (vs := [.d (S tx)]) (b' := (vBlk 26 (kind6 k) false 0 tx nilS nilS)) (H' := _) Sz9 (by rfl) hb.e1 (by intro h; cases h) (by rfl) (by rfl) (Nat.le_of_ble_eq_true rfl) (by simp [AV.one, DV.one, TF, S, I, BY]) (by rfl) (by rfl) rfl) rfl (by dsimp only [zS, zN, zH, zT]) ?_
     refine al_end rfl ?_
     refine inBlock_normal ?_
     apply cut_to (false :: false :: true :: true :: false :: false :: false :: false :: false :: false :: false :: false :: false :: false :: false :: false :: false :: false :: false :: false :: false :: false :: false :: false :: false :: false :: false :: false :: false :: false :: false :: false :: false :: false :: false :: false :: false :: false :: false :: false :: false :: false :: false :: false :: false :: false :: false :: false :: false :: false :: false :: false :: false :: false :: false :: false :: false :: false :: false :: false :: false :: false :: false :: false :: false :: false :: false :: false :: false :: false :: false :: false :: [])
     · (try dsimp only [maskT]); try exact rfl
     · rfl
     exact ⟨_, _, _, _, _, _, [], [], rfl, hb.setv _, weak_nilL, weak_nilF, by rw [lawR_mk, if_neg hk1, if_neg hk2, if_pos hk3, hk3]⟩
    ·
     (try simp only [y1, y2, y3, y4, y5, y6, y7, y8, y9, y0, List.length_map] at hc3)
     have hk3 : ¬ kind6 k = 3 := hc3
     refine aw_seq ?_
     refine aw_region ?_
     refine zst (op_eqI (by rfl) (by rfl)) rfl (by dsimp only [zS, zN, zH, zT]) ?_
     refine zst (op_assign_tmp (by rfl)) rfl (by dsimp only [zS, zN, zH, zT]) ?_
     refine al_end rfl ?_
     refine then_normal ?_
     refine aw_cond rfl (fun hc4 => ?_) (fun hc4 => ?_)
     ·
      (try simp only [y1, y2, y3, y4, y5, y6, y7, y8, y9, y0, List.length_map] at hc4)
      have hk4 : kind6 k = 4 := hc4
      refine aw_seq ?_
      refine aw_region ?_
      refine zst (by first | exact op_fieldAddr_ptr Try.underlying26 rfl Sz23 (by rfl) (by rfl) | exact op_fieldAddr_elt Try.underlying26 rfl Sz23 (by rfl) (by rfl) (by rfl)) rfl (by dsimp only [zS, zN, zH, zT]) ?_
      refine zst (by first | exact op_load_elt Try.underlying23 (by rfl) (by rfl) (by rfl) | exact op_load_ptr Try.underlying23 (by rfl) (by rfl) (by first | exact hb.e1 | exact hb.psh.e1 | exact setB_at push_at) (by rfl)) rfl (by dsimp only [zS, zN, zH, zT]) ?_
      refine zst (op_lenL Try.underlying23 (by first | exact LL.d _ _ | exact LL.own _ _ _ | exact LL.nil _ | assumption)) rfl (by dsimp only [zS, zN, zH, zT]) ?_
      refine zst (op_move_const (by rfl)) rfl (by dsimp only [zS, zN, zH, zT]) ?_
      refine al_end rfl ?_
      refine then_normal ?_
      refine aw_block ?_
      apply aw_loopF (fun n T H => ∃ (j : Nat) (v : AV) (t : Option Nat), T = (.un :: (.elt (v6D k y i tx ls fs)) :: (.ptr Hs.nb 0) :: (.ptr (Hs.nb + 1) 0) :: .un :: .un :: .un :: .un :: .un :: .un :: .un :: .un :: .un :: .un :: .un :: .un :: .un :: .un :: .un :: .un :: .un :: .un :: .un :: .un :: .un :: .un :: .un :: .un :: .un :: .un :: .un :: .un :: .un :: .un :: .un :: (.d (.lst 6 (ls.map vD))) :: (.d (I (ls.map vD).length)) :: (.d (I j)) :: .un :: .un :: .un :: .un :: .un :: .un :: .un :: .un :: .un :: .un :: .un :: .un :: .un :: .un :: .un :: .un :: .un :: .un :: .un :: .un :: .un :: .un :: .un :: .un :: .un :: .un :: .un :: .un :: .un :: .un :: .un :: .un :: .un :: .un :: []) ∧ j ≤ ls.length ∧ n = ls.length - j ∧ TwoB Hs 26 H (vBlk 26 (kind6 k) false 0 [] v nilS) ∧ GL Hs H v t 6 (((ls.take j).map lawR).map vD)) (ls.length) (false :: true :: true :: true :: false :: false :: false :: false :: false :: false :: false :: false :: false :: false :: false :: false :: false :: false :: false :: false :: false :: false :: false :: false :: false :: false :: false :: false :: false :: false :: false :: false :: false :: false :: false :: true :: true :: true :: false :: false :: false :: false :: false :: false :: false :: false :: false :: false :: false :: false :: false :: false :: false :: false :: false :: false :: false :: false :: false :: false :: false :: false :: false :: false :: false :: false :: false :: false :: false :: false :: false :: false :: [])
      · (try dsimp only [maskT]); try exact rfl
      · rfl
      · exact ⟨0, _, _, rfl, by omega, rfl, hb, GL.nil _ _ _⟩
      rintro n T H ⟨j, v, t, rfl, hj, rfl, hb, hg⟩
      refine aw_seq ?_
      refine aw_region ?_
      refine zst (op_ltI (by rfl) (by rfl)) rfl (by dsimp only [zS, zN, zH, zT]) ?_
      refine al_end rfl ?_
      refine then_normal ?_
      refine aw_seq ?_
      refine aw_cond rfl (fun hc5 => ?_) (fun hc5 => ?_)
      ·
       (try simp only [y1, y2, y3, y4, y5, y6, y7, y8, y9, y0, List.length_map] at hc5)
       (try simp only [List.length_map] at hc5)
       have hlt : j < ls.length := by omega
       obtain ⟨x, hx1⟩ : ∃ x, ls[j]? = some x := ⟨_, List.getElem?_eq_getElem hlt⟩
       refine aw_skip ?_
       refine then_normal ?_
       refine aw_seq ?_
       refine aw_block ?_
       refine aw_seq ?_
       refine aw_region ?_
       refine zst (op_indexAddr (z := vD x) (cs := [I x.kind, TF x.yes, .v (.int .i64 x.num), S x.text, .lst 6 (x.list.map vD), .lst 7 (x.fields.map fD)]) Try.underlying23 Sz26 (LL.d _ _) (by rfl) (by omega) (by rw [List.getElem?_map, show ((j : Nat) : Int).toNat = j from rfl, hx1]; rfl) (vD_cells x)) rfl (by dsimp only [zS, zN, zH, zT]) ?_
       refine zst (op_load_elts (ds := vC x) Try.underlying26 (by rfl) Sz26 (by rfl) (Nat.le_of_ble_eq_true rfl) (by rw [vC_eq]; rfl)) rfl (by dsimp only [zS, zN, zH, zT]) ?_
       refine zst (op_alloc (Zr26) (by rfl)) rfl (by dsimp only [zS, zN, zH, zT]) ?_
       refine zst (op_storeV (b' := ⟨26, (vC x).map .d, false⟩) x Sz26 (by rfl) push_at (by rfl) (Nat.le_of_ble_eq_true rfl) (by rfl) (by rw [vC_eq]; rfl)) rfl (by dsimp only [zS, zN, zH, zT]) ?_
       refine al_end rfl ?_
       refine then_normal ?_
       refine aw_draw [0, 1, 1, 0, 0, 2, 0, 2] mixed (by kernel_rfl) ?_
       refine zd0 (fun H => (by first | exact op_fieldAddr_ptr Try.underlying26 rfl Sz23 (by rfl) (by rfl) | exact op_fieldAddr_elt Try.underlying26 rfl Sz23 (by rfl) (by rfl) (by rfl))) rfl (by dsimp only [zS, zN, zH, zT]) ?_
       refine zd1 (by first | exact op_load_elt Try.underlying23 (by rfl) (by rfl) (by rfl) | exact op_load_ptr Try.underlying23 (by rfl) (by rfl) (by first | exact hb.e1 | exact hb.psh.e1 | exact setB_at push_at) (by rfl)) rfl (by dsimp only [zS, zN, zH, zT]) ?_
       refine zd1 (op_load_ptrsD (vC x) Try.underlying26 (by rfl) Sz26 (by rfl) (setB_at push_at) (by show 0 + 6 ≤ ((vC x).map AV.d).length; rw [List.length_map, vC_len]; exact Nat.le_refl _) (by show (((vC x).map AV.d).drop 0).take 6 = _; rw [List.drop_zero, List.take_of_length_le (by rw [List.length_map, vC_len]; exact Nat.le_refl _)]) (vC_one x)) rfl (by dsimp only [zS, zN, zH, zT]) ?_
       refine zd0 (fun H => (op_callF Try.func11 (by rfl) (by rfl) (.tmp (by rfl) .nil) (ihL x (List.mem_of_getElem? hx1) _))) rfl (by dsimp only [zS, zN, zH, zT]) ?_
       refine zd0 (fun H => (op_lit Try.underlying23 ZS26 (.cons (y := vD (lawR x)) (by rfl) (.nil _)) (by rfl) (lit_v _) (lit_v1 _) (by decide))) rfl (by dsimp only [zS, zN, zH, zT]) ?_
       refine zd2 (op_append Try.underlying23 Inf26 (by rfl) hg.app (.list _ _ _ _ Try.underlying23 (LL.own _ _ _)) hg.ok (by simp) (by simp; omega) (by simp; omega)) rfl (by dsimp only [zS, zN, zH, zT]) ?_
       refine zd0 (fun H => (by first | exact op_fieldAddr_ptr Try.underlying26 rfl Sz23 (by rfl) (by rfl) | exact op_fieldAddr_elt Try.underlying26 rfl Sz23 (by rfl) (by rfl) (by rfl))) rfl (by dsimp only [zS, zN, zH, zT]) ?_
       refine zd2 (op_storeB (vs := [.own _ 6 _]) (b' := (vBlk 26 (kind6 k) false 0 [] (.own _ 6 _) nilS)) (H' := _) Sz23 (by rfl) (hb.psh.up hg.new hg.ok).e1 (by intro h; cases h) (by rfl) (by rfl) (Nat.le_of_ble_eq_true rfl) (by simp [AV.one, DV.one, TF, S, I, BY]) (by rfl) (by rfl) rfl) rfl (by dsimp only [zS, zN, zH, zT]) ?_
       refine drun_end rfl ?_
       refine inBlock_normal (then_normal ?_)
       refine aw_region ?_
       refine zst (by first | exact op_add (by rfl) (by rfl) (wrap_i64 ⟨by omega, by omega⟩) | exact op_add (by rfl) (by rfl) (by rfl)) rfl (by dsimp only [zS, zN, zH, zT]) ?_
       refine zst (op_move_tmp (by rfl)) rfl (by dsimp only [zS, zN, zH, zT]) ?_
       refine al_end rfl ?_
       apply again_to (ls.length - (j + 1)) (false :: true :: true :: true :: false :: false :: false :: false :: false :: false :: false :: false :: false :: false :: false :: false :: false :: false :: false :: false :: false :: false :: false :: false :: false :: false :: false :: false :: false :: false :: false :: false :: false :: false :: false :: true :: true :: true :: false :: false :: false :: false :: false :: false :: false :: false :: false :: false :: false :: false :: false :: false :: false :: false :: false :: false :: false :: false :: false :: false :: false :: false :: false :: false :: false :: false :: false :: false :: false :: false :: false :: false :: [])
       · (try dsimp only [maskT]); try exact rfl
       · rfl
       · omega
       exact ⟨j + 1, _, _, rfl, by omega, rfl, ((hb.psh.up hg.new hg.ok).setv _), (GL.step (H := (H.push 26 _).setB H.nb _) (hg.toks rfl) (.inl (hb.psh.ext)) (by simp) (by rw [take_snoc hx1]; simp)).toks rfl⟩
      ·
       (try simp only [y1, y2, y3, y4, y5, y6, y7, y8, y9, y0, List.length_map] at hc5)
       (try simp only [List.length_map] at hc5)
       have hje : j = ls.length := by omega
       subst hje
       rw [List.take_length] at hg
       refine aw_exit ?_
       refine then_exit (again_exit (inBlock_here (inBlock_normal ?_)))
       apply cut_to (false :: false :: true :: true :: false :: false :: false :: false :: false :: false :: false :: false :: false :: false :: false :: false :: false :: false :: false :: false :: false :: false :: false :: false :: false :: false :: false :: false :: false :: false :: false :: false :: false :: false :: false :: false :: false :: false :: false :: false :: false :: false :: false :: false :: false :: false :: false :: false :: false :: false :: false :: false :: false :: false :: false :: false :: false :: false :: false :: false :: false :: false :: false :: false :: false :: false :: false :: false :: false :: false :: false :: false :: [])
       · (try dsimp only [maskT]); try exact rfl
       · rfl
       exact ⟨_, _, _, _, _, _, ls.map lawR, [], rfl, hb, Weak.lst hg.app, weak_nilF, by rw [lawR_mk, if_neg hk1, if_neg hk2, if_neg hk3, if_pos hk4, hk4]⟩
     ·
      (try simp only [y1, y2, y3, y4, y5, y6, y7, y8, y9, y0, List.length_map] at hc4)
      have hk4 : ¬ kind6 k = 4 := hc4
      refine aw_seq ?_
      refine aw_region ?_
      refine zst (op_eqI (by rfl) (by rfl)) rfl (by dsimp only [zS, zN, zH, zT]) ?_
      refine zst (op_assign_tmp (by rfl)) rfl (by dsimp only [zS, zN, zH, zT]) ?_
      refine al_end rfl ?_
      refine then_normal ?_
      refine aw_cond rfl (fun hc6 => ?_) (fun hc6 => ?_)
      ·
       (try simp only [y1, y2, y3, y4, y5, y6, y7, y8, y9, y0, List.length_map] at hc6)
       have hk5 : kind6 k = 5 := hc6
       refine aw_seq ?_
       refine aw_region ?_
       refine zst (op_lit Try.underlying24 ZS48 (.nil _) (by rfl) (by simp) (by simp [flat]) (by decide)) rfl (by dsimp only [zS, zN, zH, zT]) ?_
       refine zst (op_assign_tmp (by rfl)) rfl (by dsimp only [zS, zN, zH, zT]) ?_
       refine al_end rfl ?_
       refine then_normal ?_
       refine aw_seq ?_
       refine aw_seq ?_
       refine aw_region ?_
       refine zst (by first | exact op_fieldAddr_ptr Try.underlying26 rfl Sz24 (by rfl) (by rfl) | exact op_fieldAddr_elt Try.underlying26 rfl Sz24 (by rfl) (by rfl) (by rfl)) rfl (by dsimp only [zS, zN, zH, zT]) ?_
       refine zst (by first | exact op_load_elt Try.underlying24 (by rfl) (by rfl) (by rfl) | exact op_load_ptr Try.underlying24 (by rfl) (by rfl) (by first | exact hb.e1 | exact hb.psh.e1 | exact setB_at push_at) (by rfl)) rfl (by dsimp only [zS, zN, zH, zT]) ?_
       refine zst (op_lenL Try.underlying24 (by first | exact LL.d _ _ | exact LL.own _ _ _ | exact LL.nil _ | assumption)) rfl (by dsimp only [zS, zN, zH, zT]) ?_
       refine zst (op_move_const (by rfl)) rfl (by dsimp only [zS, zN, zH, zT]) ?_
       refine al_end rfl ?_
       refine then_normal ?_
       refine aw_block ?_
       apply aw_loopF (fun n T H => ∃ (j : Nat) (t : Option Nat), T = (.un :: (.elt (v6D k y i tx ls fs)) :: (.ptr Hs.nb 0) :: (.ptr (Hs.nb + 1) 0) :: .un :: .un :: (.own t 7 (((fs.take j).map lawF).map fD)) :: .un :: .un :: .un :: .un :: .un :: .un :: .un :: .un :: .un :: .un :: .un :: .un :: .un :: .un :: .un :: .un :: .un :: .un :: .un :: .un :: .un :: .un :: .un :: .un :: .un :: .un :: .un :: .un :: .un :: .un :: .un :: .un :: .un :: .un :: .un :: .un :: .un :: .un :: .un :: .un :: .un :: .un :: .un :: .un :: .un :: .un :: (.d (.lst 7 (fs.map fD))) :: (.d (I (fs.map fD).length)) :: (.d (I j)) :: .un :: .un :: .un :: .un :: .un :: .un :: .un :: .un :: .un :: .un :: .un :: .un :: .un :: .un :: .un :: .un :: []) ∧ j ≤ fs.length ∧ n = fs.length - j ∧ TwoB Hs 26 H (vBlk 26 (kind6 k) false 0 [] nilS nilS) ∧ GL Hs H (.own t 7 (((fs.take j).map lawF).map fD)) t 7 (((fs.take j).map lawF).map fD)) (fs.length) (false :: true :: true :: true :: false :: false :: true :: false :: false :: false :: false :: false :: false :: false :: false :: false :: false :: false :: false :: false :: false :: false :: false :: false :: false :: false :: false :: false :: false :: false :: false :: false :: false :: false :: false :: false :: false :: false :: false :: false :: false :: false :: false :: false :: false :: false :: false :: false :: false :: false :: false :: false :: false :: true :: true :: true :: false :: false :: false :: false :: false :: false :: false :: false :: false :: false :: false :: false :: false :: false :: false :: false :: [])
       · (try dsimp only [maskT]); try exact rfl
       · rfl
       · exact ⟨0, none, rfl, by omega, rfl, hb, ⟨.own _ _ _, HS.ok_none _ _, NewTok.none _⟩⟩
       rintro n T H ⟨j, t, rfl, hj, rfl, hb, hg⟩
       refine aw_seq ?_
       refine aw_region ?_
       refine zst (op_ltI (by rfl) (by rfl)) rfl (by dsimp only [zS, zN, zH, zT]) ?_
       refine al_end rfl ?_
       refine then_normal ?_
       refine aw_seq ?_
       refine aw_cond rfl (fun hc7 => ?_) (fun hc7 => ?_)
       ·
        (try simp only [y1, y2, y3, y4, y5, y6, y7, y8, y9, y0, List.length_map] at hc7)
        (try simp only [List.length_map] at hc7)
        have hlt : j < fs.length := by omega
        obtain ⟨x, hx1⟩ : ∃ x, fs[j]? = some x := ⟨_, List.getElem?_eq_getElem hlt⟩
        refine aw_skip ?_
        refine then_normal ?_
        refine aw_seq ?_
        refine aw_block ?_
        refine aw_seq ?_
        refine aw_region ?_
        refine zst (op_indexAddr (z := fD x) (cs := [S x.name, I x.val.kind, TF x.val.yes, .v (.int .i64 x.val.num), S x.val.text, .lst 6 (x.val.list.map vD), .lst 7 (x.val.fields.map fD)]) Try.underlying24 Sz48 (LL.d _ _) (by rfl) (by omega) (by rw [List.getElem?_map, show ((j : Nat) : Int).toNat = j from rfl, hx1]; rfl) (fD_cells7 x)) rfl (by dsimp only [zS, zN, zH, zT]) ?_
        refine zst (op_load_elts (ds := fC x) Try.underlying48 (by rfl) Sz48 (by rfl) (Nat.le_of_ble_eq_true rfl) (by rw [← fC7]; rfl)) rfl (by dsimp only [zS, zN, zH, zT]) ?_
        refine zst (op_alloc (Zr48) (by rfl)) rfl (by dsimp only [zS, zN, zH, zT]) ?_
        refine zst (op_storeF (b' := f1 48 x) x Sz48 (by rfl) push_at (by rfl) (Nat.le_of_ble_eq_true rfl) (by rfl) (by unfold f1; rw [← fC7]; rfl)) rfl (by dsimp only [zS, zN, zH, zT]) ?_
        refine al_end rfl ?_
        refine then_normal ?_
        refine aw_draw [0, 0, 1, 0, 1, 0, 0, 0, 2, 0] mixed (by kernel_rfl) ?_
        refine zd0 (fun H => (op_move_tmp (by rfl))) rfl (by dsimp only [zS, zN, zH, zT]) ?_
        refine zd0 (fun H => (by first | exact op_fieldAddr_ptr Try.underlying48 rfl Sz9 (by rfl) (by rfl) | exact op_fieldAddr_elt Try.underlying48 rfl Sz9 (by rfl) (by rfl) (by rfl))) rfl (by dsimp only [zS, zN, zH, zT]) ?_
        refine zd1 (op_load_ptr Try.underlying9 (by rfl) (by rfl) (setB_at push_at) (f1_name x)) rfl (by dsimp only [zS, zN, zH, zT]) ?_
        refine zd0 (fun H => (by first | exact op_fieldAddr_ptr Try.underlying48 rfl Sz26 (by rfl) (by rfl) | exact op_fieldAddr_elt Try.underlying48 rfl Sz26 (by rfl) (by rfl) (by rfl))) rfl (by dsimp only [zS, zN, zH, zT]) ?_
        refine zd1 (op_load_ptrsD (vC x.val) Try.underlying26 (by rfl) Sz26 (by rfl) (setB_at push_at) (by show 1 + 6 ≤ ((fC x).map AV.d).length; rw [List.length_map, fC_len]; exact Nat.le_refl _) (f1_val x) (vC_one _)) rfl (by dsimp only [zS, zN, zH, zT]) ?_
        refine zd0 (fun H => (op_callF Try.func11 (by rfl) (by rfl) (.tmp (by rfl) .nil) (ihF x (List.mem_of_getElem? hx1) _))) rfl (by dsimp only [zS, zN, zH, zT]) ?_
        refine zd0 (fun H => (op_buildD (pl := [(0, 1), (1, 6)]) (fC (lawF x)) Try.underlying48 Zr48 (by kernel_rfl) (by rfl) (by rfl) (fill_field x.name (lawR x.val)) (fC_one _))) rfl (by dsimp only [zS, zN, zH, zT]) ?_
        refine zd0 (fun H => (op_lit Try.underlying24 ZS48 (.cons (y := fD (lawF x)) (by rfl) (.nil _)) (by rfl) (lit_f _) (lit_f1 _) (by decide))) rfl (by dsimp only [zS, zN, zH, zT]) ?_
        refine zd2 (op_append Try.underlying24 Inf48 (by rfl) hg.app (.list _ _ _ _ Try.underlying24 (LL.own _ _ _)) hg.ok (by simp) (by simp; omega) (by simp; omega)) rfl (by dsimp only [zS, zN, zH, zT]) ?_
        refine zd0 (fun H => (op_assign_tmp (by rfl))) rfl (by dsimp only [zS, zN, zH, zT]) ?_
        refine drun_end rfl ?_
        refine inBlock_normal (then_normal ?_)
        refine aw_region ?_
        refine zst (by first | exact op_add (by rfl) (by rfl) (wrap_i64 ⟨by omega, by omega⟩) | exact op_add (by rfl) (by rfl) (by rfl)) rfl (by dsimp only [zS, zN, zH, zT]) ?_
        refine zst (op_move_tmp (by rfl)) rfl (by dsimp only [zS, zN, zH, zT]) ?_
        refine al_end rfl ?_
        apply again_to (fs.length - (j + 1)) (false :: true :: true :: true :: false :: false :: true :: false :: false :: false :: false :: false :: false :: false :: false :: false :: false :: false :: false :: false :: false :: false :: false :: false :: false :: false :: false :: false :: false :: false :: false :: false :: false :: false :: false :: false :: false :: false :: false :: false :: false :: false :: false :: false :: false :: false :: false :: false :: false :: false :: false :: false :: false :: true :: true :: true :: false :: false :: false :: false :: false :: false :: false :: false :: false :: false :: false :: false :: false :: false :: false :: false :: [])
        · (try dsimp only [maskT]); try exact rfl
        · rfl
        · omega
        exact ⟨j + 1, _, by (rw [take_snoc hx1]; simp) <;> exact ⟨rfl, rfl⟩, by omega, rfl, (hb.psh.up hg.new hg.ok), by rw [take_snoc hx1, List.map_append, List.map_append]; exact GL.step (H := (H.push 48 _).setB H.nb _) (hg.toks rfl) (.inl (hb.psh.ext)) (by simp) rfl⟩
       ·
        (try simp only [y1, y2, y3, y4, y5, y6, y7, y8, y9, y0, List.length_map] at hc7)
        (try simp only [List.length_map] at hc7)
        have hje : j = fs.length := by omega
        subst hje
        rw [List.take_length] at hg ⊢
        refine aw_exit ?_
        refine then_exit (again_exit (inBlock_here (then_normal ?_)))
        refine aw_region ?_
        refine zst (op_move_tmp (by rfl)) rfl (by dsimp only [zS, zN, zH, zT]) ?_
        refine zst (op_callF Try.func18 (by rfl) (by rfl) (.tmp (by rfl) .nil) (ofMap_ok _ _ (fs.map lawF) (LL.own _ _ _) (by simp; omega))) rfl (by dsimp only [zS, zN, zH, zT]) ?_
        refine zst (op_storeV (b' := vBlk 26 5 false 0 [] (.d (.lst 6 [])) (.d (.lst 7 ((ofF (fs.map lawF)).map fD)))) (ofMapV (fs.map lawF)) Sz26 (by rfl) hb.e1 (by rfl) (Nat.le_of_ble_eq_true rfl) (by rfl) (by unfold ofMapV; rw [vC_eq]; rfl)) rfl (by dsimp only [zS, zN, zH, zT]) ?_
        refine al_end rfl ?_
        refine inBlock_normal ?_
        apply cut_to (false :: false :: true :: true :: false :: false :: false :: false :: false :: false :: false :: false :: false :: false :: false :: false :: false :: false :: false :: false :: false :: false :: false :: false :: false :: false :: false :: false :: false :: false :: false :: false :: false :: false :: false :: false :: false :: false :: false :: false :: false :: false :: false :: false :: false :: false :: false :: false :: false :: false :: false :: false :: false :: false :: false :: false :: false :: false :: false :: false :: false :: false :: false :: false :: false :: false :: false :: false :: false :: false :: false :: false :: [])
        · (try dsimp only [maskT]); try exact rfl
        · rfl
        exact ⟨_, _, _, _, _, _, [], ofF (fs.map lawF), rfl, hb.setv _, Weak.refl _, Weak.refl _, by rw [lawR_mk, if_neg hk1, if_neg hk2, if_neg hk3, if_neg hk4, if_pos hk5]; rfl⟩
      ·
       (try simp only [y1, y2, y3, y4, y5, y6, y7, y8, y9, y0, List.length_map] at hc6)
       have hk5 : ¬ kind6 k = 5 := hc6
       refine aw_skip ?_
       refine inBlock_normal ?_
       apply cut_to (false :: false :: true :: true :: false :: false :: false :: false :: false :: false :: false :: false :: false :: false :: false :: false :: false :: false :: false :: false :: false :: false :: false :: false :: false :: false :: false :: false :: false :: false :: false :: false :: false :: false :: false :: false :: false :: false :: false :: false :: false :: false :: false :: false :: false :: false :: false :: false :: false :: false :: false :: false :: false :: false :: false :: false :: false :: false :: false :: false :: false :: false :: false :: false :: false :: false :: false :: false :: false :: false :: false :: false :: [])
       · (try dsimp only [maskT]); try exact rfl
       · rfl
       exact ⟨_, _, _, _, _, _, [], [], rfl, hb, weak_nilL, weak_nilF, by rw [lawR_mk, if_neg hk1, if_neg hk2, if_neg hk3, if_neg hk4, if_neg hk5, show kind6 k = 0 by omega]⟩
 rintro T H ⟨k2, y2, i2, tx2, l2, f2, ls2, fs2, rfl, hb, hwl, hwf, hres⟩
 refine aw_seq ?_
 refine aw_region ?_
 refine zst (op_load_ptrsW (off := 0) (vC (.mk k2 y2 i2 tx2 ls2 fs2)) Try.underlying26 (by rfl) Sz26 (by rfl) hb.e1 (Nat.le_of_ble_eq_true rfl) (weak6 hwl hwf) (vC_one _)) rfl (by dsimp only [zS, zN, zH, zT]) ?_
 refine zst (op_storeV (b' := ⟨26, (vC (.mk k2 y2 i2 tx2 ls2 fs2)).map .d, false⟩) (.mk k2 y2 i2 tx2 ls2 fs2) Sz26 (by rfl) hb.e0 (by rfl) (Nat.le_of_ble_eq_true rfl) (by rfl) (by rfl)) rfl (by dsimp only [zS, zN, zH, zT]) ?_
 refine al_end rfl ?_
 refine then_normal ?_
 refine aw_ret ?_
 refine retC1 rfl (.cells Try.underlying26 (by rfl) Sz26 (by rfl) (setB_at hb.e0) (Nat.le_of_ble_eq_true rfl) (by rfl)) ?_
 rw [hres]
 exact ⟨weak_agg_d (vC_one (.mk k2 y2 i2 tx2 ls2 fs2)), hb.ext.setB (Nat.le_refl _)⟩
theorem lawR_all : ∀ (m : Nat) (v : V), fewV m v = true → ∀ Hs : HS, ACalls Try.prog 11 [.d (.agg (vC v))] Hs (Ret (.d (.agg (vC (lawR v)))) Hs)
  | 0, v, h, _ => by simp [fewV] at h
  | m + 1, .mk k y i tx ls fs, h, Hs => by
    obtain ⟨h1, h2, _, h4, h5⟩ := few_parts h
    simp only [V.list, V.fields] at h1 h2 h4 h5
    rw [v6D_eq]
    exact lawR_step Hs k y i tx ls fs (by omega) (by omega) (fun x hx Hs => lawR_all m x (h4 x hx) Hs) (fun x hx Hs => lawR_all m x.val (h5 x hx).2 Hs)
end Go.Proofs.Ytjamnhofbkgblaa
