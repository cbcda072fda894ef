/- What a strings.Builder of one's own comes to. -/
import Derived.Test.YtadkehaagkjbhaaFacts
import Derived.Test.YtadkehaagkjbhaaA13
import Derived.KernelRfl
namespace Go.Proofs.Ytadkehaagkjbhaa
open Go.AV
set_option linter.unusedVariables false
set_option linter.unusedSimpArgs false
theorem Inf156 : tInfo Try.prog 156 (Value.pointer none) 1 8 := by unfold tInfo; kernel_rfl
theorem Sz156 : (Try.prog.info? 156).map (·.size) = some 1 := Inf156.size
theorem Zr156 : (Try.prog.info? 156).map (·.zero) = some (some (Value.pointer none)) := by kernel_rfl
theorem ZS156 : (Try.prog.info? 156).map (fun i => (i.zero, i.size)) = some (some (Value.pointer none), 1) := by kernel_rfl
theorem Inf158 : tInfo Try.prog 158 (Value.agg { toList := [Value.pointer none, Value.slice none 0 0] }) 2 32 := by unfold tInfo; kernel_rfl
theorem Sz158 : (Try.prog.info? 158).map (·.size) = some 2 := Inf158.size
theorem Zr158 : (Try.prog.info? 158).map (·.zero) = some (some (Value.agg { toList := [Value.pointer none, Value.slice none 0 0] })) := by kernel_rfl
theorem ZS158 : (Try.prog.info? 158).map (fun i => (i.zero, i.size)) = some (some (Value.agg { toList := [Value.pointer none, Value.slice none 0 0] }), 2) := by kernel_rfl
/- strings.Builder: its check for copies, at a new one. -/
set_option maxRecDepth 100000 in
theorem copyCheck_new (H : HS) (id : Nat) (v : AV) (hb : H.blks[id]? = some ⟨158, [.d (.v (.pointer none)), v], false⟩) : ACalls Try.prog 119 [.ptr id 0] H (Ret (.tup []) (H.put id 0 [.ptr id 0])) := by
  obtain ⟨j, hj, hjs⟩ := Option.map_eq_some_iff.1 Sz158
  refine acalls_of_aw Try.func119 rfl ?_
  refine aw_start (T' := [.ptr id 0, .un, .un, .un, .un, .un, .un, .un, .un, .un, .un, .un, .un, .un, .un, .un, .un, .un, .un, .un]) rfl ?_
  refine aw_seq ?_
  refine aw_region ?_
  apply al_stepN
  · exact op_move_tmp (by rfl)
  · rfl
  · (try dsimp only [zS, zN, zH, zT]); try exact rfl
  apply al_stepN
  · first | exact op_nilCheck_ptr (by rfl) | exact op_nilCheck_elt (by rfl)
  · rfl
  · (try dsimp only [zS, zN, zH, zT]); try exact rfl
  apply al_stepN
  · first | exact op_fieldAddr_ptr Try.underlying158 rfl Sz156 (by rfl) (by rfl) | exact op_fieldAddr_elt Try.underlying158 rfl Sz156 (by rfl) (by rfl) (by rfl)
  · rfl
  · (try dsimp only [zS, zN, zH, zT]); try exact rfl
  apply al_stepN
  · exact op_load_ptr Try.underlying156 (by rfl) (by rfl) hb (by rfl)
  · rfl
  · (try dsimp only [zS, zN, zH, zT]); try exact rfl
  apply al_stepN
  · exact op_nil_nil Try.underlying156 (by rfl) (by rfl)
  · rfl
  · (try dsimp only [zS, zN, zH, zT]); try exact rfl
  apply al_end
  · (try dsimp only [zS, zN, zH, zT]); try exact rfl
  refine then_normal ?_
  refine aw_cond rfl (fun hc1 => ?_) (fun hc1 => ?_)
  · skip
    refine aw_region ?_
    apply al_stepN
    · exact op_move_tmp (by rfl)
    · rfl
    · (try dsimp only [zS, zN, zH, zT]); try exact rfl
    apply al_stepN
    · exact op_move_tmp (by rfl)
    · rfl
    · (try dsimp only [zS, zN, zH, zT]); try exact rfl
    apply al_stepN
    · exact op_to_unsafe Try.underlying156 Try.underlying201 hj (by rw [hjs]; decide) (by rfl) hb (Nat.le_of_ble_eq_true rfl)
    · rfl
    · (try dsimp only [zS, zN, zH, zT]); try exact rfl
    apply al_stepN
    · exact op_noEscape Try.func139 (by kernel_rfl) (by kernel_rfl) (by kernel_rfl) (by kernel_rfl) (by rfl)
    · rfl
    · (try dsimp only [zS, zN, zH, zT]); try exact rfl
    apply al_stepN
    · exact op_from_unsafe Try.underlying201 Try.underlying156 hj (by rfl) hb (by kernel_rfl)
    · rfl
    · (try dsimp only [zS, zN, zH, zT]); try exact rfl
    apply al_stepN
    · first | exact op_nilCheck_ptr (by rfl) | exact op_nilCheck_elt (by rfl)
    · rfl
    · (try dsimp only [zS, zN, zH, zT]); try exact rfl
    apply al_stepN
    · first | exact op_fieldAddr_ptr Try.underlying158 rfl Sz156 (by rfl) (by rfl) | exact op_fieldAddr_elt Try.underlying158 rfl Sz156 (by rfl) (by rfl) (by rfl)
    · rfl
    · (try dsimp only [zS, zN, zH, zT]); try exact rfl
    apply al_stepN
    · exact op_store Sz156 (by rfl) hb (by intro h; cases h) (show AV.cells _ = [AV.ptr id 0] from rfl) (by rfl) (Nat.le_of_ble_eq_true rfl) (by simp [AV.one, DV.one])
    · rfl
    · (try dsimp only [zS, zN, zH, zT]); try exact rfl
    apply al_end
    · (try dsimp only [zS, zN, zH, zT]); try exact rfl
    refine retPost0 (by first | exact .inl rfl | exact .inr rfl) rfl ?_
    exact ⟨rfl, rfl⟩
  · skip
    exact absurd hc1 (by simp)
set_option maxRecDepth 100000 in
theorem copyCheck_used (H : HS) (id : Nat) (v : AV) (hb : H.blks[id]? = some ⟨158, [.ptr id 0, v], false⟩) : ACalls Try.prog 119 [.ptr id 0] H (Ret (.tup []) (H.put id 0 [.ptr id 0])) := by
  obtain ⟨j, hj, hjs⟩ := Option.map_eq_some_iff.1 Sz158
  refine acalls_of_aw Try.func119 rfl ?_
  refine aw_start (T' := [.ptr id 0, .un, .un, .un, .un, .un, .un, .un, .un, .un, .un, .un, .un, .un, .un, .un, .un, .un, .un, .un]) rfl ?_
  refine aw_seq ?_
  refine aw_region ?_
  apply al_stepN
  · exact op_move_tmp (by rfl)
  · rfl
  · (try dsimp only [zS, zN, zH, zT]); try exact rfl
  apply al_stepN
  · first | exact op_nilCheck_ptr (by rfl) | exact op_nilCheck_elt (by rfl)
  · rfl
  · (try dsimp only [zS, zN, zH, zT]); try exact rfl
  apply al_stepN
  · first | exact op_fieldAddr_ptr Try.underlying158 rfl Sz156 (by rfl) (by rfl) | exact op_fieldAddr_elt Try.underlying158 rfl Sz156 (by rfl) (by rfl) (by rfl)
  · rfl
  · (try dsimp only [zS, zN, zH, zT]); try exact rfl
  apply al_stepN
  · exact op_load_ptr Try.underlying156 (by rfl) (by rfl) hb (by rfl)
  · rfl
  · (try dsimp only [zS, zN, zH, zT]); try exact rfl
  apply al_stepN
  · exact op_ptr_nil Try.underlying156 (by rfl) (by rfl)
  · rfl
  · (try dsimp only [zS, zN, zH, zT]); try exact rfl
  apply al_end
  · (try dsimp only [zS, zN, zH, zT]); try exact rfl
  refine then_normal ?_
  refine aw_cond rfl (fun hc1 => ?_) (fun hc1 => ?_)
  · skip
    exact absurd hc1 (by simp)
  · skip
    refine aw_seq ?_
    refine aw_region ?_
    apply al_stepN
    · exact op_move_tmp (by rfl)
    · rfl
    · (try dsimp only [zS, zN, zH, zT]); try exact rfl
    apply al_stepN
    · first | exact op_nilCheck_ptr (by rfl) | exact op_nilCheck_elt (by rfl)
    · rfl
    · (try dsimp only [zS, zN, zH, zT]); try exact rfl
    apply al_stepN
    · first | exact op_fieldAddr_ptr Try.underlying158 rfl Sz156 (by rfl) (by rfl) | exact op_fieldAddr_elt Try.underlying158 rfl Sz156 (by rfl) (by rfl) (by rfl)
    · rfl
    · (try dsimp only [zS, zN, zH, zT]); try exact rfl
    apply al_stepN
    · exact op_load_ptr Try.underlying156 (by rfl) (by rfl) hb (by rfl)
    · rfl
    · (try dsimp only [zS, zN, zH, zT]); try exact rfl
    apply al_stepN
    · exact op_move_tmp (by rfl)
    · rfl
    · (try dsimp only [zS, zN, zH, zT]); try exact rfl
    apply al_stepN
    · exact op_ne_self Try.underlying156 hj (by rfl) (by rfl)
    · rfl
    · (try dsimp only [zS, zN, zH, zT]); try exact rfl
    apply al_end
    · (try dsimp only [zS, zN, zH, zT]); try exact rfl
    refine then_normal ?_
    refine aw_cond rfl (fun hc2 => ?_) (fun hc2 => ?_)
    · skip
      exact absurd hc2 (by simp)
    · skip
      refine aw_skip ?_
      refine retPost0 (by first | exact .inl rfl | exact .inr rfl) rfl ?_
      exact ⟨rfl, (put_self hb).symm⟩
theorem copyCheck_ok (H : HS) (id : Nat) (p v : AV) (hb : H.blks[id]? = some ⟨158, [p, v], false⟩) (hp : p = .d (.v (.pointer none)) ∨ p = .ptr id 0) : ACalls Try.prog 119 [.ptr id 0] H (Ret (.tup []) (H.put id 0 [.ptr id 0])) := by
  rcases hp with rfl | rfl
  · exact copyCheck_new H id v hb
  · exact copyCheck_used H id v hb
/- WriteByte: the byte behind what is there. -/
set_option maxRecDepth 100000 in
theorem writeByte_ok (Hs H : HS) (l : List UInt8) (c : UInt8) (hB : Bld Hs 158 5 H l) (hn : l.length + 1 ≤ 140737488355328) : ACalls Try.prog 101 [.ptr Hs.nb 0, .d (BY c)] H (fun av H' => av = .d (.v .nilIface) ∧ Bld Hs 158 5 H' (l ++ [c])) := by
  obtain ⟨hx, p, v, hb, hv, hp, hlt⟩ := hB
  have hnb : Hs.nb < H.nb := (List.getElem?_eq_some_iff.1 hb).1
  have hb1 : (H.put Hs.nb 0 [.ptr Hs.nb 0]).blks[Hs.nb]? = some ⟨158, [.ptr Hs.nb 0, v], false⟩ := by rw [put_blks_at hb]; rfl
  have hv : BV (H.put Hs.nb 0 [.ptr Hs.nb 0]) 5 v l := hv.kept fun id n cap e => put_blks_ne (by have := hlt _ _ _ e; omega)
  refine acalls_of_aw Try.func101 rfl ?_
  refine aw_start (T' := [.ptr Hs.nb 0, .d (BY c), .un, .un, .un, .un, .un, .un, .un, .un, .un, .un, .un, .un, .un, .un, .un]) rfl ?_
  refine aw_seq ?_
  refine aw_region ?_
  apply al_stepN
  · exact op_assign_const (by rfl)
  · rfl
  · (try dsimp only [zS, zN, zH, zT]); try exact rfl
  apply al_end
  · (try dsimp only [zS, zN, zH, zT]); try exact rfl
  refine then_normal ?_
  refine aw_seq ?_
  refine aw_region ?_
  apply al_stepN
  · exact op_move_tmp (by rfl)
  · rfl
  · (try dsimp only [zS, zN, zH, zT]); try exact rfl
  apply al_stepN
  · exact op_callF Try.func119 (by rfl) (by rfl) (.tmp (by rfl) .nil) (copyCheck_ok H Hs.nb p v hb hp)
  · rfl
  · (try dsimp only [zS, zN, zH, zT]); try exact rfl
  apply al_end
  · (try dsimp only [zS, zN, zH, zT]); try exact rfl
  refine then_normal ?_
  refine aw_seq ?_
  refine aw_region ?_
  apply al_stepN
  · exact op_move_tmp (by rfl)
  · rfl
  · (try dsimp only [zS, zN, zH, zT]); try exact rfl
  apply al_stepN
  · exact op_move_tmp (by rfl)
  · rfl
  · (try dsimp only [zS, zN, zH, zT]); try exact rfl
  apply al_stepN
  · first | exact op_nilCheck_ptr (by rfl) | exact op_nilCheck_elt (by rfl)
  · rfl
  · (try dsimp only [zS, zN, zH, zT]); try exact rfl
  apply al_stepN
  · first | exact op_fieldAddr_ptr Try.underlying158 rfl Sz86 (by rfl) (by rfl) | exact op_fieldAddr_elt Try.underlying158 rfl Sz86 (by rfl) (by rfl) (by rfl)
  · rfl
  · (try dsimp only [zS, zN, zH, zT]); try exact rfl
  apply al_stepN
  · exact op_load_ptr Try.underlying86 (by rfl) (by rfl) hb1 (by rfl)
  · rfl
  · (try dsimp only [zS, zN, zH, zT]); try exact rfl
  apply al_stepN
  · exact op_move_tmp (by rfl)
  · rfl
  · (try dsimp only [zS, zN, zH, zT]); try exact rfl
  apply al_stepN
  · exact op_lit Try.underlying86 ZS5 (.cons (by rfl) (.nil _)) (by rfl) (by simp [BY, S, I, TF, DV.cells]) (by simp [flat, BY, S, I, TF, DV.cells, DV.one]) (by decide)
  · rfl
  · (try dsimp only [zS, zN, zH, zT]); try exact rfl
  refine al_cons _ (op_append_arr Try.underlying86 Inf5 (by rfl) hv.arrs (.list _ _ _ _ Try.underlying86 (LL.own _ _ _)) (by simp) (by simp; omega) (by simp; omega)) rfl ?_
  rintro v2 H2 ⟨hA, hK, id2, m2, cap2, rfl, he1, he2⟩
  apply al_normT
  · (try dsimp only [putT, List.set_cons_zero, List.set_cons_succ]); try exact rfl
  have hA' : Arr H2 5 1 (.arr id2 m2 cap2) (l.length + 1) (l.map (fun c => AV.d (BY c)) ++ [.d (BY c)]) := hA
  have hK' : Kept (H.put Hs.nb 0 [.ptr Hs.nb 0]) H2 v := hK
  have hid : Hs.nb < id2 := by
      cases hv with
      | nil => have h := he1 rfl; rw [put_nb] at h; omega
      | arr id cap cs l hb' hc hl h0 hn' =>
        rcases he2 _ _ _ rfl with h | h
        · rw [h]; exact hlt _ _ _ rfl
        · rw [put_nb] at h; omega
  have hb2 : H2.blks[Hs.nb]? = some ⟨158, [.ptr Hs.nb 0, v], false⟩ := by rw [hK'.blks Hs.nb (by rw [put_nb]; exact hnb) (fun n cap e => by have := hlt _ _ _ e; omega)]; exact hb1
  apply al_stepN
  · first | exact op_nilCheck_ptr (by rfl) | exact op_nilCheck_elt (by rfl)
  · rfl
  · (try dsimp only [zS, zN, zH, zT]); try exact rfl
  apply al_stepN
  · first | exact op_fieldAddr_ptr Try.underlying158 rfl Sz86 (by rfl) (by rfl) | exact op_fieldAddr_elt Try.underlying158 rfl Sz86 (by rfl) (by rfl) (by rfl)
  · rfl
  · (try dsimp only [zS, zN, zH, zT]); try exact rfl
  apply al_stepN
  · exact op_store Sz86 (by rfl) hb2 (by intro h; cases h) (show AV.cells _ = [AV.arr id2 m2 cap2] from rfl) (by rfl) (Nat.le_of_ble_eq_true rfl) (by simp [AV.one, DV.one])
  · rfl
  · (try dsimp only [zS, zN, zH, zT]); try exact rfl
  apply al_end
  · (try dsimp only [zS, zN, zH, zT]); try exact rfl
  refine then_normal ?_
  refine aw_seq ?_
  refine aw_region ?_
  apply al_stepN
  · exact op_assign_const (by rfl)
  · rfl
  · (try dsimp only [zS, zN, zH, zT]); try exact rfl
  apply al_end
  · (try dsimp only [zS, zN, zH, zT]); try exact rfl
  refine then_normal ?_
  refine aw_ret ?_
  refine retPost1 rfl rfl ?_
  exact ⟨rfl, Bld.step hx hb hlt hK' hA' ⟨_, _, _, rfl, hid⟩⟩
/- String: what was written. -/
set_option maxRecDepth 100000 in
theorem bstring_ok (H : HS) (id : Nat) (p v : AV) (l : List UInt8) (hb : H.blks[id]? = some ⟨158, [p, v], false⟩) (hv : BV H 5 v l) (hn : l.length ≤ 9223372036854775807) : ACalls Try.prog 102 [.ptr id 0] H (Ret (.d (S l)) (frzV H v)) := by
  refine acalls_of_aw Try.func102 rfl ?_
  refine aw_start (T' := [.ptr id 0, .un, .un, .un, .un, .un, .un, .un, .un, .un, .un, .un, .un, .un]) rfl ?_
  refine aw_seq ?_
  refine aw_region ?_
  apply al_stepN
  · exact op_assign_const (by rfl)
  · rfl
  · (try dsimp only [zS, zN, zH, zT]); try exact rfl
  apply al_end
  · (try dsimp only [zS, zN, zH, zT]); try exact rfl
  refine then_normal ?_
  refine aw_seq ?_
  refine aw_draw [0, 0, 0, 1, 0, 0, 0, 0, 1, 0, 2, 0] mixed (by kernel_rfl) ?_
  apply drun0
  · intro H; exact op_move_tmp (by rfl)
  · rfl
  apply drun_normT
  · (try dsimp only [zS, zN, zH, zT]); try exact rfl
  apply drun0
  · intro H; first | exact op_nilCheck_ptr (by rfl) | exact op_nilCheck_elt (by rfl)
  · rfl
  apply drun_normT
  · (try dsimp only [zS, zN, zH, zT]); try exact rfl
  apply drun0
  · intro H; first | exact op_fieldAddr_ptr Try.underlying158 rfl Sz86 (by rfl) (by rfl) | exact op_fieldAddr_elt Try.underlying158 rfl Sz86 (by rfl) (by rfl) (by rfl)
  · rfl
  apply drun_normT
  · (try dsimp only [zS, zN, zH, zT]); try exact rfl
  apply drun1
  · exact op_load_ptr Try.underlying86 (by rfl) (by rfl) hb (by rfl)
  · rfl
  apply drun_normT
  · (try dsimp only [zS, zN, zH, zT]); try exact rfl
  apply drun0
  · intro H; exact op_sliceData_bv (by rfl) hv
  · rfl
  apply drun_normT
  · (try dsimp only [zS, zN, zH, zT]); try exact rfl
  apply drun0
  · intro H; exact op_move_tmp (by rfl)
  · rfl
  apply drun_normT
  · (try dsimp only [zS, zN, zH, zT]); try exact rfl
  apply drun0
  · intro H; first | exact op_nilCheck_ptr (by rfl) | exact op_nilCheck_elt (by rfl)
  · rfl
  apply drun_normT
  · (try dsimp only [zS, zN, zH, zT]); try exact rfl
  apply drun0
  · intro H; first | exact op_fieldAddr_ptr Try.underlying158 rfl Sz86 (by rfl) (by rfl) | exact op_fieldAddr_elt Try.underlying158 rfl Sz86 (by rfl) (by rfl) (by rfl)
  · rfl
  apply drun_normT
  · (try dsimp only [zS, zN, zH, zT]); try exact rfl
  apply drun1
  · exact op_load_ptr Try.underlying86 (by rfl) (by rfl) hb (by rfl)
  · rfl
  apply drun_normT
  · (try dsimp only [zS, zN, zH, zT]); try exact rfl
  apply drun0
  · intro H; exact op_len_bv Try.underlying86 (by rfl) hv
  · rfl
  apply drun_normT
  · (try dsimp only [zS, zN, zH, zT]); try exact rfl
  apply drun2
  · exact op_unsafeString_bv (Try.underlying186) (by kernel_rfl) (by rfl) (by rfl) hv hn
  · rfl
  apply drun_normT
  · (try dsimp only [zS, zN, zH, zT]); try exact rfl
  apply drun0
  · intro H; exact op_assign_tmp (by rfl)
  · rfl
  apply drun_normT
  · (try dsimp only [zS, zN, zH, zT]); try exact rfl
  apply drun_end
  · (try dsimp only [zS, zN, zH, zT]); try exact rfl
  refine then_normal ?_
  refine aw_ret ?_
  refine retPost1 rfl rfl ?_
  exact ⟨rfl, rfl⟩
end Go.Proofs.Ytadkehaagkjbhaa
