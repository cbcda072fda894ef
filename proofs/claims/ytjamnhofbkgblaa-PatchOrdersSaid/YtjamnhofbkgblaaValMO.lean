/- What a map of fields comes to. -/
import Derived.Test.YtjamnhofbkgblaaValM
import Derived.KernelRfl
namespace Go.Proofs.Ytjamnhofbkgblaa
open Go.AV Go.AV.Ord Go.AV.Oct Go.AV.Val
set_option linter.unusedVariables false
set_option linter.unusedSimpArgs false
/- A map of fields. -/
set_option maxHeartbeats 1000000 in
set_option maxRecDepth 100000 in
theorem ofMap_ok (Hs : HS) (w : AV) (fs : List F) (hw : LL w 7 (fs.map fD)) (hl : fs.length ≤ 100000) : ACalls Try.prog 18 [w] Hs (Ret (.d (.agg (vC (ofMapV fs)))) Hs) := by
 refine ACalls.tidyP (vC_one (ofMapV fs)) ?_
 refine acalls_of_awC Try.func18 rfl ?_
 refine aw_start (T' := [w, .un, .un, .un, .un, .un, .un, .un, .un, .un, .un, .un, .un, .un, .un, .un, .un, .un, .un, .un, .un, .un, .un, .un, .un, .un, .un, .un, .un, .un, .un, .un, .un]) rfl ?_
 refine aw_seq ?_
 refine aw_region ?_
 refine zst (op_alloc (Zr26) (by rfl)) rfl (by dsimp only [zS, zN, zH, zT]) ?_
 refine al_end rfl ?_
 refine then_normal ?_
 refine aw_seq ?_
 refine aw_region ?_
 refine zst (op_assign_const (by rfl)) rfl (by dsimp only [zS, zN, zH, zT]) ?_
 refine al_end rfl ?_
 refine then_normal ?_
 refine aw_seq ?_
 refine aw_seq ?_
 refine aw_region ?_
 refine zst (op_move_tmp (by rfl)) rfl (by dsimp only [zS, zN, zH, zT]) ?_
 refine zst (op_lenL Try.underlying24 hw) rfl (by dsimp only [zS, zN, zH, zT]) ?_
 refine zst (op_move_const (by rfl)) rfl (by dsimp only [zS, zN, zH, zT]) ?_
 refine al_end rfl ?_
 refine then_normal ?_
 refine aw_block ?_
 apply aw_loopF (fun n T H => ∃ (k : Nat) (v : AV), T = [.un, .un, .ptr Hs.nb 0, v, .un, .un, .un, .un, w, .d (I (fs.map fD).length), .d (I k), .un, .un, .un, .un, .un, .un, .un, .un, .un, .un, .un, .un, .un, .un, .un, .un, .un, .un, .un, .un, .un, .un] ∧ k ≤ fs.length ∧ n = fs.length - k ∧ ArrF H 48 v (ofF (fs.take k)) ∧ Ext Hs H ∧ H.blks[Hs.nb]? = some (vBlk 26 0 false 0 [] nilS nilS) ∧ (∀ id m c, v = .arr id m c → Hs.nb < id)) (fs.length) [false, false, true, true, false, false, false, false, true, true, true, false, false, false, false, false, false, false, false, false, false, false, false, false, false, false, false, false, false, false, false, false, false]
 · (try dsimp only [maskT]); try exact rfl
 · rfl
 · exact ⟨0, nilS, rfl, by omega, rfl, Arr.nil, (Ext.refl Hs).push _ _, push_at, (fun _ _ _ h => by cases h)⟩
 rintro n T H ⟨k, v, rfl, hk, rfl, hA, hx, hz, hvn⟩
 refine aw_seq ?_
 refine aw_region ?_
 refine zst (op_ltI (by rfl) (by rfl)) rfl (by dsimp only [zS, zN, zH, zT]) ?_
 refine al_end rfl ?_
 refine then_normal ?_
 refine aw_seq ?_
 refine aw_cond rfl (fun hc1 => ?_) (fun hc1 => ?_)
 ·
  (try simp only [y1, y2, y3, y4, y5, y6, y7, y8, y9, y0, List.length_map] at hc1)
  (try simp only [List.length_map] at hc1)
  have hlt : k < fs.length := by omega
  obtain ⟨x, hx1⟩ : ∃ x, fs[k]? = some x := ⟨_, List.getElem?_eq_getElem hlt⟩
  have hlen := ofF_len (fs.take k)
  have hlt2 : (fs.take k).length = k := by rw [List.length_take]; omega
  have hri := ofF_rises (fs.take k)
  have hst := ofF_step hx1
  have hple := posF_le (ofF (fs.take k)) x.name
  refine aw_skip ?_
  refine then_normal ?_
  refine aw_seq ?_
  refine aw_block ?_
  refine aw_seq ?_
  refine aw_region ?_
  refine zst (op_indexAddr (z := fD x) (cs := [S x.name, I x.val.kind, TF x.val.yes, .v (.int .i64 x.val.num), S x.val.text, .lst 6 (x.val.list.map vD), .lst 7 (x.val.fields.map fD)]) Try.underlying24 Sz48 hw (by rfl) (by omega) (by rw [List.getElem?_map, show ((k : Nat) : Int).toNat = k from rfl, hx1]; rfl) (fD_cells7 x)) rfl (by dsimp only [zS, zN, zH, zT]) ?_
  refine zst (op_load_elts (ds := fC x) Try.underlying48 (by rfl) Sz48 (by rfl) (Nat.le_of_ble_eq_true rfl) (by rw [← fC7]; rfl)) rfl (by dsimp only [zS, zN, zH, zT]) ?_
  refine zst (op_alloc (Zr48) (by rfl)) rfl (by dsimp only [zS, zN, zH, zT]) ?_
  refine zst (op_storeF (b' := f1 48 x) x Sz48 (by rfl) push_at (by rfl) (Nat.le_of_ble_eq_true rfl) (by rfl) (by unfold f1; rw [← fC7]; rfl)) rfl (by dsimp only [zS, zN, zH, zT]) ?_
  refine al_end rfl ?_
  refine then_normal ?_
  refine aw_seq ?_
  have hA2 : ArrF ((H.push 48 [.d (S []), .d (I 0), .d (TF false), .d (.v (.int .i64 0)), .d (S []), nilS, nilS]).setB H.nb (f1 48 x)) 48 v (ofF (fs.take k)) := ArrF.psh hA
  refine aw_region ?_
  refine zst (op_move_tmp (by rfl)) rfl (by dsimp only [zS, zN, zH, zT]) ?_
  refine zst (op_loadF 48 x Try.underlying48 (by rfl) Sz48 (by rfl) (setB_at push_at)) rfl (by dsimp only [zS, zN, zH, zT]) ?_
  refine zst (op_callF Try.func29 (by rfl) (by rfl) (.tmp (by rfl) (.tmp (by rfl) (.func .nil))) (search_ok _ v (ofF (fs.take k)) x hA2 hri (by omega))) rfl (by dsimp only [zS, zN, zH, zT]) ?_
  refine zst (op_move_tmp (by rfl)) rfl (by dsimp only [zS, zN, zH, zT]) ?_
  refine zst (op_extract (by rfl) (by rfl)) rfl (by dsimp only [zS, zN, zH, zT]) ?_
  refine zst (op_extract (by rfl) (by rfl)) rfl (by dsimp only [zS, zN, zH, zT]) ?_
  refine zst (op_assign_tmp (by rfl)) rfl (by dsimp only [zS, zN, zH, zT]) ?_
  refine zst (op_assign_tmp (by rfl)) rfl (by dsimp only [zS, zN, zH, zT]) ?_
  refine al_end rfl ?_
  refine then_normal ?_
  refine aw_seq ?_
  refine aw_seq ?_
  refine aw_region ?_
  refine zst (op_move_tmp (by rfl)) rfl (by dsimp only [zS, zN, zH, zT]) ?_
  refine al_end rfl ?_
  refine then_normal ?_
  refine aw_cond rfl (fun hc2 => ?_) (fun hc2 => ?_)
  ·
   (try simp only [y1, y2, y3, y4, y5, y6, y7, y8, y9, y0, List.length_map] at hc2)
   have hhas : hasF (ofF (fs.take k)) x.name = true := hc2
   obtain ⟨g, hg, hgn⟩ := hasF_at hhas
   have hgl := (List.getElem?_eq_some_iff.1 hg).1
   obtain ⟨id, cap, cs, rfl, hb, hc, hcap, hu⟩ := Arr.pos hA2 (by omega)
   refine aw_seq ?_
   refine aw_region ?_
   refine zst (op_move_tmp (by rfl)) rfl (by dsimp only [zS, zN, zH, zT]) ?_
   refine zst (op_move_tmp (by rfl)) rfl (by dsimp only [zS, zN, zH, zT]) ?_
   refine zst (op_loadF 48 x Try.underlying48 (by rfl) Sz48 (by rfl) (setB_at push_at)) rfl (by dsimp only [zS, zN, zH, zT]) ?_
   refine zst (op_indexArr (off := (posF (ofF (fs.take k)) x.name) * 7) Try.underlying24 Sz48 (by rfl) (by rfl) (by omega) (by omega) (by rfl)) rfl (by dsimp only [zS, zN, zH, zT]) ?_
   refine zst (op_storeF (b' := ⟨48, putL cs ((posF (ofF (fs.take k)) x.name) * 7) ((fC x).map .d), false⟩) x Sz48 (by rfl) hb (by rfl) (by show _ ≤ cs.length; omega) (by rfl) (by rfl)) rfl (by dsimp only [zS, zN, zH, zT]) ?_
   refine al_end rfl ?_
   refine then_normal ?_
   refine aw_exit ?_
   refine then_exit (inBlock_here (then_normal ?_))
   refine aw_region ?_
   refine zst (by first | exact op_add (by rfl) (by rfl) (wrap_i64 ⟨by omega, by omega⟩) | exact op_add (by rfl) (by rfl) (by rfl)) rfl (by dsimp only [zS, zN, zH, zT]) ?_
   refine zst (op_move_tmp (by rfl)) rfl (by dsimp only [zS, zN, zH, zT]) ?_
   refine al_end rfl ?_
   apply again_to (fs.length - (k + 1)) [false, false, true, true, false, false, false, false, true, true, true, false, false, false, false, false, false, false, false, false, false, false, false, false, false, false, false, false, false, false, false, false, false]
   · (try dsimp only [maskT]); try exact rfl
   · rfl
   · omega
   exact ⟨k + 1, _, rfl, by omega, rfl, by rw [hst, putF_has _ _ hhas]; exact ArrF.set hb hc hcap hu hg, ((hx.push _ _).setB (nb_le hx)).setB (by have := hvn _ _ _ rfl; omega), by rw [setB_ne (by have := hvn _ _ _ rfl; omega), setB_ne (by have := lt_nb hz; omega)]; exact push_ne hz, (fun _ _ _ h => by cases h; exact hvn _ _ _ rfl)⟩
  ·
   (try simp only [y1, y2, y3, y4, y5, y6, y7, y8, y9, y0, List.length_map] at hc2)
   have hhas : hasF (ofF (fs.take k)) x.name = false := hc2
   refine aw_skip ?_
   refine then_normal ?_
   refine aw_region ?_
   refine zst (op_move_tmp (by rfl)) rfl (by dsimp only [zS, zN, zH, zT]) ?_
   refine zst (op_move_tmp (by rfl)) rfl (by dsimp only [zS, zN, zH, zT]) ?_
   refine zst (op_loadF 48 x Try.underlying48 (by rfl) Sz48 (by rfl) (setB_at push_at)) rfl (by dsimp only [zS, zN, zH, zT]) ?_
   refine zst (op_litF x Try.underlying24 ZS48 (.cons (by rfl) (.nil _))) rfl (by dsimp only [zS, zN, zH, zT]) ?_
   refine al_cons _ (op_callF Try.func32 (by rfl) (by rfl) (.tmp (by rfl) (.tmp (by rfl) (.tmp (by rfl) .nil))) (insert_ok _ v (ofF (fs.take k)) (posF (ofF (fs.take k)) x.name) ((H.push 48 [.d (S []), .d (I 0), .d (TF false), .d (.v (.int .i64 0)), .d (S []), nilS, nilS]).setB H.nb (f1 48 x)).nb x (ArrF.pushed hA2) hple (by omega) push_at (fun m c h => by have := Arr.idlt hA2 h; omega))) rfl ?_
   rintro v2 H2 hI
   apply al_normT
   · (try dsimp only [putT, List.set_cons_zero, List.set_cons_succ]); try exact rfl
   refine zst (op_assign_tmp (by rfl)) rfl (by dsimp only [zS, zN, zH, zT]) ?_
   refine al_end rfl ?_
   refine inBlock_normal (then_normal ?_)
   refine aw_region ?_
   refine zst (by first | exact op_add (by rfl) (by rfl) (wrap_i64 ⟨by omega, by omega⟩) | exact op_add (by rfl) (by rfl) (by rfl)) rfl (by dsimp only [zS, zN, zH, zT]) ?_
   refine zst (op_move_tmp (by rfl)) rfl (by dsimp only [zS, zN, zH, zT]) ?_
   refine al_end rfl ?_
   apply again_to (fs.length - (k + 1)) [false, false, true, true, false, false, false, false, true, true, true, false, false, false, false, false, false, false, false, false, false, false, false, false, false, false, false, false, false, false, false, false, false]
   · (try dsimp only [maskT]); try exact rfl
   · rfl
   · omega
   exact ⟨k + 1, _, rfl, by omega, rfl, by rw [hst, putF_new _ _ hhas]; exact hI.arr, ext_kept (((hx.push _ _).setB (nb_le hx)).push _ _) hI.kept hvn, by rw [hI.kept.blks Hs.nb (by rw [push_nb, setB_nb, push_nb]; have := lt_nb hz; omega) (fun m c h => by have := hvn _ _ _ h; omega), push_lt (by rw [setB_nb, push_nb]; have := lt_nb hz; omega), setB_ne (by have := lt_nb hz; omega)]; exact push_ne hz, (fun id m c h => by rcases hI.new id m c h with h | ⟨m2, c2, h⟩; (rw [push_nb, setB_nb, push_nb] at h; have := lt_nb hz; omega); exact hvn _ _ _ h)⟩
 ·
  (try simp only [y1, y2, y3, y4, y5, y6, y7, y8, y9, y0, List.length_map] at hc1)
  (try simp only [List.length_map] at hc1)
  have hke : k = fs.length := by omega
  subst hke
  rw [List.take_length] at hA
  refine aw_exit ?_
  refine then_exit (again_exit (inBlock_here (then_normal ?_)))
  refine aw_seq ?_
  rcases Arr.or hA with rfl | ⟨id, cap, rfl⟩
  ·
   refine aw_region ?_
   refine zst (op_move_tmp (by rfl)) rfl (by dsimp only [zS, zN, zH, zT]) ?_
   refine zst (op_build (pl := [(0, 1), (1, 1), (2, 1), (3, 1), (4, 1), (5, 1)]) Try.underlying26 Zr26 (by kernel_rfl) (by rfl) (by rfl) (by rfl)) rfl (by dsimp only [zS, zN, zH, zT]) ?_
   refine zst (by first | exact op_storeB (vs := vs6 5 false 0 [] nilS nilS) (b' := vBlk 26 5 false 0 [] nilS nilS) (H' := _) Sz26 (by rfl) hz (by intro h; cases h) (by rfl) (by rfl) (Nat.le_of_ble_eq_true rfl) (by simp [AV.one, DV.one, TF, S, I, BY]) (by rfl) (by rfl) rfl | exact op_storeB (vs := vs6 5 false 0 [] nilS (.arr id (ofF fs).length cap)) (b' := vBlk 26 5 false 0 [] nilS (.arr id (ofF fs).length cap)) (H' := _) Sz26 (by rfl) hz (by intro h; cases h) (by rfl) (by rfl) (Nat.le_of_ble_eq_true rfl) (by simp [AV.one, DV.one, TF, S, I, BY]) (by rfl) (by rfl) rfl) rfl (by dsimp only [zS, zN, zH, zT]) ?_
   refine al_end rfl ?_
   refine then_normal ?_
   refine aw_ret ?_
   refine retC1 rfl (.cells Try.underlying26 (by rfl) Sz26 (by rfl) (setB_at hz) (Nat.le_of_ble_eq_true rfl) (by rfl)) ?_
   have h0 : ofF fs = [] := List.eq_nil_of_length_eq_zero (Arr.len0 hA)
   refine ⟨hx.setB (Nat.le_refl _), _, rfl, .inl ?_⟩
   unfold ofMapV; rw [h0]; exact weak6 weak_nilL weak_nilF
  ·
   refine aw_region ?_
   refine zst (op_move_tmp (by rfl)) rfl (by dsimp only [zS, zN, zH, zT]) ?_
   refine zst (op_build (pl := [(0, 1), (1, 1), (2, 1), (3, 1), (4, 1), (5, 1)]) Try.underlying26 Zr26 (by kernel_rfl) (by rfl) (by rfl) (by rfl)) rfl (by dsimp only [zS, zN, zH, zT]) ?_
   refine zst (by first | exact op_storeB (vs := vs6 5 false 0 [] nilS nilS) (b' := vBlk 26 5 false 0 [] nilS nilS) (H' := _) Sz26 (by rfl) hz (by intro h; cases h) (by rfl) (by rfl) (Nat.le_of_ble_eq_true rfl) (by simp [AV.one, DV.one, TF, S, I, BY]) (by rfl) (by rfl) rfl | exact op_storeB (vs := vs6 5 false 0 [] nilS (.arr id (ofF fs).length cap)) (b' := vBlk 26 5 false 0 [] nilS (.arr id (ofF fs).length cap)) (H' := _) Sz26 (by rfl) hz (by intro h; cases h) (by rfl) (by rfl) (Nat.le_of_ble_eq_true rfl) (by simp [AV.one, DV.one, TF, S, I, BY]) (by rfl) (by rfl) rfl) rfl (by dsimp only [zS, zN, zH, zT]) ?_
   refine al_end rfl ?_
   refine then_normal ?_
   refine aw_ret ?_
   refine retC1 rfl (.cells Try.underlying26 (by rfl) Sz26 (by rfl) (setB_at hz) (Nat.le_of_ble_eq_true rfl) (by rfl)) ?_
   have hn0 : Hs.nb < id := hvn _ _ _ rfl
   refine ⟨hx.setB (Nat.le_refl _), _, rfl, .inr ?_⟩
   rcases hA with _ | ⟨_, _, _, cs, _, hb, hc, hcap, hu⟩
   exact ⟨id, _, cap, 7, (ofF fs).map fD, _, by omega, by rw [setB_ne (by omega)]; exact hb, by rw [flat_length (fsz _), List.length_map]; exact hu, by rw [flat_length (fsz _), List.length_map]; show _ ≤ cs.length; omega, List.length_map _, hcap, fsz _, fone _, becomes_map⟩
end Go.Proofs.Ytjamnhofbkgblaa
