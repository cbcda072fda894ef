/- Part 5 of what the law needs: ValOrd, ValOrd2, ValOrd3, PatchPlain, PatchBnd, PatchLaw, FieldsLaw, HistSnd, ArgVal, ArgColl, SchKeys, SbLaw, SbLawW, A24, ArgPut, HistJ, HistHd, SbWr, KeysF. -/
import Derived.Test.YtjbpfnoibeogbaaPS4
import Derived.ChangeArms
import Derived.KernelRfl
import Derived.RangeFuncLeaves
import Derived.RangeFuncRecord
import Derived.RangeFuncIn
namespace Go.AV.Val
open Go.AV.Ord Go.AV.Oct
def kind6 (k : Int) : Int := (IntKind.u64.wrap k) % 6
mutual
def lawR : V → V
  | .mk k y i t l fs => if kind6 k = 1 then .mk 1 y 0 [] [] [] else if kind6 k = 2 then .mk 2 false i [] [] [] else if kind6 k = 3 then .mk 3 false 0 t [] [] else if kind6 k = 4 then .mk 4 false 0 [] (lawRs l) [] else if kind6 k = 5 then ofMapV (lawRf fs) else .mk 0 false 0 [] [] []
def lawRs : List V → List V
  | [] => []
  | v :: l => lawR v :: lawRs l
def lawRf : List F → List F
  | [] => []
  | .mk n v :: l => .mk n (lawR v) :: lawRf l
end
def lawF (f : F) : F := .mk f.name (lawR f.val)
theorem lawRs_map : ∀ l : List V, lawRs l = l.map lawR
  | [] => by simp [lawRs]
  | v :: l => by rw [lawRs, lawRs_map l]; rfl
theorem lawRf_map : ∀ l : List F, lawRf l = l.map lawF
  | [] => by simp [lawRf]
  | .mk n v :: l => by rw [lawRf, lawRf_map l]; rfl
theorem lawR_mk (k : Int) (y : Bool) (i : Int) (t : List UInt8) (l : List V) (fs : List F) : lawR (.mk k y i t l fs) = if kind6 k = 1 then .mk 1 y 0 [] [] [] else if kind6 k = 2 then .mk 2 false i [] [] [] else if kind6 k = 3 then .mk 3 false 0 t [] [] else if kind6 k = 4 then .mk 4 false 0 [] (l.map lawR) [] else if kind6 k = 5 then ofMapV (fs.map lawF) else .mk 0 false 0 [] [] [] := by
  rw [lawR, lawRs_map, lawRf_map]
theorem lawR_few : ∀ (n : Nat) (v : V), fewV n v = true → WfV v → rightV n (lawR v) = true ∧ fewV n (lawR v) = true ∧ WfV (lawR v)
  | 0, _, h, _ => by simp [fewV] at h
  | n + 1, .mk k y i t l fs, h, hw => by
    obtain ⟨h1, h2, h3, h4, h5⟩ := few_parts h
    simp only [V.list, V.fields, V.text] at h1 h2 h3 h4 h5
    have hl : ∀ x ∈ l.map lawR, rightV n x = true ∧ fewV n x = true ∧ WfV x := fun x hx => by
      obtain ⟨z, hz, rfl⟩ := List.mem_map.1 hx
      exact lawR_few n z (h4 z hz) (hw.l z hz)
    have hf : ∀ f ∈ ofF (fs.map lawF), f.name.length ≤ 40 ∧ rightV n f.val = true ∧ fewV n f.val = true ∧ WfV f.val := fun f hf => by
      obtain ⟨z, hz, rfl⟩ := List.mem_map.1 (ofF_mem hf)
      have := lawR_few n z.val (h5 z hz).2 (hw.f z hz)
      exact ⟨(h5 z hz).1, this⟩
    have hlen := ofF_len (fs.map lawF)
    rw [List.length_map] at hlen
    rw [lawR_mk]
    split
    · exact ⟨by simp [rightV, onlyV, rises, V.kind, V.yes, V.num, V.text, V.list, V.fields], by simp [fewV, fewTop, V.text, V.list, V.fields], wf_0 _ (by unfold i64; decide) _ _⟩
    · split
      · exact ⟨by simp [rightV, onlyV, rises, V.kind, V.yes, V.num, V.text, V.list, V.fields], by simp [fewV, fewTop, V.text, V.list, V.fields], wf_int hw.n⟩
      · split
        · exact ⟨by simp [rightV, onlyV, rises, V.kind, V.yes, V.num, V.text, V.list, V.fields], by simp [fewV, fewTop, V.text, V.list, V.fields, h3], wf_0 _ (by unfold i64; decide) _ _⟩
        · split
          · refine ⟨?_, ?_, .mk _ _ _ _ _ _ (by unfold i64; decide) i64_0 (fun x hx => (hl x hx).2.2) (fun _ h => by cases h)⟩
            · have : (l.map lawR).all (rightV n) = true := by rw [List.all_eq_true]; exact fun x hx => (hl x hx).1
              rw [rightV]
              simp only [V.fields, V.list, this, rises, Bool.and_true, List.all_nil]; rfl
            · have : (l.map lawR).all (fewV n) = true := by rw [List.all_eq_true]; exact fun x hx => (hl x hx).2.1
              rw [fewV]
              simp only [fewTop, V.fields, V.list, V.text, this, List.all_nil, Bool.and_true, List.length_map, List.length_nil]
              simp [h1]
          · split
            · refine ⟨?_, ?_, .mk _ _ _ _ _ _ (by unfold i64; decide) i64_0 (fun _ h => by cases h) (fun f hf' => (hf f hf').2.2.2)⟩
              · have : (ofF (fs.map lawF)).all (fun f => rightV n f.val) = true := by rw [List.all_eq_true]; exact fun x hx => (hf x hx).2.1
                rw [rightV]
                simp only [ofMapV, V.fields, V.list, this, ofF_rises, Bool.and_true, List.all_nil]; rfl
              · have : ((ofF (fs.map lawF)).all fun f => decide (f.name.length ≤ 40) && fewV n f.val) = true := by
                  rw [List.all_eq_true]; intro x hx
                  have := hf x hx
                  simp [this.1, this.2.2.1]
                rw [fewV]
                simp only [ofMapV, fewTop, V.fields, V.list, V.text, this, List.all_nil, Bool.and_true, List.length_nil]
                have e : (ofF (fs.map lawF)).length ≤ 8 := by omega
                simp [e]
            · exact ⟨by simp [rightV, onlyV, rises, V.kind, V.yes, V.num, V.text, V.list, V.fields], by simp [fewV, fewTop, V.text, V.list, V.fields], wf_0 _ i64_0 _ _⟩
theorem right_mono : ∀ (n m : Nat) (v : V), n ≤ m → rightV n v = true → rightV m v = true
  | 0, _, _, _, h => by simp [rightV] at h
  | n + 1, m, v, hm, h => by
    obtain ⟨k, rfl⟩ : ∃ k, m = k + 1 := ⟨m - 1, by omega⟩
    simp only [rightV, Bool.and_eq_true, List.all_eq_true] at h ⊢
    exact ⟨⟨h.1.1, fun f hf => right_mono n k _ (by omega) (h.1.2 f hf)⟩, fun x hx => right_mono n k _ (by omega) (h.2 x hx)⟩
mutual
def ordV : V → List UInt8
  | .mk k y i t l fs => UInt8.ofNat (k.toNat + 2) :: (if k = 1 then [if y then 3 else 2] else if k = 2 then encI i else if k = 3 then encT t else if k = 4 then ordL l ++ [1] else if k = 5 then ordFs fs ++ [1] else [])
def ordL : List V → List UInt8
  | [] => []
  | v :: l => ordV v ++ ordL l
def ordFs : List F → List UInt8
  | [] => []
  | .mk n v :: l => 2 :: encT n ++ ordV v ++ ordFs l
end
def ordF1 (f : F) : List UInt8 := 2 :: (encT f.name ++ ordV f.val)
theorem ordL_flat : ∀ l : List V, ordL l = l.flatMap ordV
  | [] => by simp [ordL]
  | v :: l => by rw [ordL, ordL_flat l]; rfl
theorem ordFs_flat : ∀ l : List F, ordFs l = l.flatMap ordF1
  | [] => by simp [ordFs]
  | .mk n v :: l => by rw [ordFs, ordFs_flat l]; simp [ordF1, F.name, F.val]
theorem ordV_mk (k : Int) (y : Bool) (i : Int) (t : List UInt8) (l : List V) (fs : List F) : ordV (.mk k y i t l fs) = UInt8.ofNat (k.toNat + 2) :: (if k = 1 then [if y then 3 else 2] else if k = 2 then encI i else if k = 3 then encT t else if k = 4 then l.flatMap ordV ++ [1] else if k = 5 then fs.flatMap ordF1 ++ [1] else []) := by
  rw [ordV, ordL_flat, ordFs_flat]
end Go.AV.Val
namespace Go.AV.Val
open Go.AV.Ord Go.AV.Oct
structure TwoB (Hs : HS) (tV : TypeId) (H : HS) (b : HB) : Prop where
  e0 : H.blks[Hs.nb]? = some (vBlk tV 0 false 0 [] nilS nilS)
  e1 : H.blks[Hs.nb + 1]? = some b
  ext : Ext Hs H
section
variable {Hs H : HS} {tV : TypeId} {b : HB}
theorem TwoB.start (Hs : HS) (tV : TypeId) {z : List AV} (b : HB) : TwoB Hs tV (((Hs.push tV (vs6 0 false 0 [] nilS nilS)).push tV z).setB (Hs.nb + 1) b) b := by
  have n1 : (Hs.push tV (vs6 0 false 0 [] nilS nilS)).nb = Hs.nb + 1 := push_nb
  refine ⟨by rw [setB_ne (by omega)]; exact push_ne push_at, ?_, ((((Ext.refl Hs).push _ _).push _ _).setB (by omega))⟩
  exact setB_at (b := ⟨tV, z, false⟩) (by rw [← n1]; exact push_at)
theorem TwoB.lt (h : TwoB Hs tV H b) : Hs.nb + 1 < H.nb := lt_nb h.e1
theorem TwoB.up {t : Option Nat} {n m : Nat} (h : TwoB Hs tV H b) (hn : NewTok Hs t) (hok : H.ok t m) : TwoB Hs tV (H.up t n) b := ⟨by rw [HS.up_blks]; exact h.e0, by rw [HS.up_blks]; exact h.e1, (h.ext.upN hn hok).1⟩
end
end Go.AV.Val
namespace Go.AV.Val
open Go.AV.Ord Go.AV.Oct
theorem byL_head {c d : UInt8} {x y : List UInt8} (h : c.toNat < d.toNat) : byL (c :: x) (d :: y) = -1 := by
  have : c < d := UInt8.lt_iff_toNat_lt.2 h
  exact byL_lt (by simp [Op.bytesLess, this])
theorem byL_head' {c d : UInt8} {x y : List UInt8} (h : d.toNat < c.toNat) : byL (c :: x) (d :: y) = 1 := by
  have : d < c := UInt8.lt_iff_toNat_lt.2 h
  exact byL_gt (by simp [Op.bytesLess, this])
theorem byL_cons (c : UInt8) (x y : List UInt8) : byL (c :: x) (c :: y) = byL x y := byL_append [c] x y
theorem ordV_head {d : Nat} {v : V} (h : rightV d v = true) : ∃ c r, ordV v = c :: r ∧ c.toNat = v.kind.toNat + 2 ∧ 0 ≤ v.kind ∧ v.kind ≤ 5 := by
  cases d with
  | zero => simp [rightV] at h
  | succ d =>
    obtain ⟨h1, _⟩ := right_only h
    obtain ⟨h0, h5, _⟩ := only_list h1
    cases v with
    | mk k y i t l fs =>
      simp only [V.kind] at h0 h5 ⊢
      exact ⟨_, _, ordV_mk .., ofNat_toNat (by omega), h0, h5⟩
def Agree {α : Type} (a b : α) (c : Int) (x y : List UInt8) : Prop := (a = b ∧ c = 0) ∨ (a ≠ b ∧ c ≠ 0 ∧ ∀ m o, byL (x ++ m) (y ++ o) = c)
theorem ordL_cmp {d : Nat} : ∀ (l l' : List V), (∀ x ∈ l, rightV d x = true) → (∀ x ∈ l', rightV d x = true) → (∀ x ∈ l, ∀ y ∈ l', Agree x y (cmpV x y) (ordV x) (ordV y)) → Agree l l' (cmpL l l') (l.flatMap ordV ++ [1]) (l'.flatMap ordV ++ [1])
  | [], [], _, _, _ => .inl ⟨rfl, cmpL_nn⟩
  | [], y :: l', _, h2, _ => by
    refine .inr ⟨by simp, by rw [cmpL_nc]; decide, fun m o => ?_⟩
    obtain ⟨c, r, e, hc, _⟩ := ordV_head (h2 y (by simp))
    rw [cmpL_nc, List.flatMap_cons, e]
    exact byL_head (by rw [hc]; show 1 < _; omega)
  | x :: l, [], h1, _, _ => by
    refine .inr ⟨by simp, by rw [cmpL_cn]; decide, fun m o => ?_⟩
    obtain ⟨c, r, e, hc, _⟩ := ordV_head (h1 x (by simp))
    rw [cmpL_cn, List.flatMap_cons, e]
    exact byL_head' (by rw [hc]; show 1 < _; omega)
  | x :: l, y :: l', h1, h2, h => by
    have ih := ordL_cmp l l' (fun z hz => h1 z (by simp [hz])) (fun z hz => h2 z (by simp [hz])) (fun a ha b hb => h a (by simp [ha]) b (by simp [hb]))
    rw [cmpL_cons]
    rcases h x (by simp) y (by simp) with ⟨rfl, h0⟩ | ⟨hne, h0, hb⟩
    · rw [h0]
      rcases ih with ⟨rfl, h3⟩ | ⟨hne, h3, hb⟩
      · exact .inl ⟨rfl, h3⟩
      · refine .inr ⟨by simpa using hne, h3, fun m o => ?_⟩
        rw [List.flatMap_cons, List.flatMap_cons, List.append_assoc, List.append_assoc, List.append_assoc, List.append_assoc, byL_append]
        have := hb m o
        rw [List.append_assoc, List.append_assoc] at this
        exact this
    · rw [if_pos h0]
      refine .inr ⟨fun e => hne (by injection e), h0, fun m o => ?_⟩
      rw [List.flatMap_cons, List.flatMap_cons, List.append_assoc, List.append_assoc, List.append_assoc, List.append_assoc]
      exact hb _ _
theorem ordF_cmp : ∀ (l l' : List F), (∀ x ∈ l, ∀ y ∈ l', Agree x.val y.val (cmpV x.val y.val) (ordV x.val) (ordV y.val)) → Agree l l' (cmpF l l') (l.flatMap ordF1 ++ [1]) (l'.flatMap ordF1 ++ [1])
  | [], [], _ => .inl ⟨rfl, cmpF_nn⟩
  | [], y :: l', _ => by
    refine .inr ⟨by simp, by rw [cmpF_nc]; decide, fun m o => ?_⟩
    rw [cmpF_nc, List.flatMap_cons]
    exact byL_head (by decide)
  | x :: l, [], _ => by
    refine .inr ⟨by simp, by rw [cmpF_cn]; decide, fun m o => ?_⟩
    rw [cmpF_cn, List.flatMap_cons]
    exact byL_head' (by decide)
  | x :: l, y :: l', h => by
    have ih := ordF_cmp l l' (fun a ha b hb => h a (by simp [ha]) b (by simp [hb]))
    rw [cmpF_cons]
    have e1 : ∀ m, (x :: l).flatMap ordF1 ++ [1] ++ m = 2 :: (encT x.name ++ (ordV x.val ++ (l.flatMap ordF1 ++ [1] ++ m))) := fun m => by simp [ordF1]
    have e2 : ∀ m, (y :: l').flatMap ordF1 ++ [1] ++ m = 2 :: (encT y.name ++ (ordV y.val ++ (l'.flatMap ordF1 ++ [1] ++ m))) := fun m => by simp [ordF1]
    by_cases hn : x.name = y.name
    · have hc : Lib.compareBytes x.name y.name = 0 := cb_eq.2 hn
      have hcf : cmpF1 x y = cmpV x.val y.val := by unfold cmpF1 orI; rw [hc]; simp
      rw [hcf]
      rcases h x (by simp) y (by simp) with ⟨hv, h0⟩ | ⟨hne, h0, hb⟩
      · have hxy : x = y := by
          rw [x.eta, y.eta, hn, hv]
        rw [h0]
        rcases ih with ⟨rfl, h3⟩ | ⟨hne, h3, hb⟩
        · exact .inl ⟨by rw [hxy], h3⟩
        · refine .inr ⟨by simpa [hxy] using hne, h3, fun m o => ?_⟩
          rw [e1, e2, byL_cons, hn, byL_append, hv, byL_append]
          exact hb m o
      · rw [if_pos h0]
        refine .inr ⟨fun e => hne (by injection e with e _; rw [e]), h0, fun m o => ?_⟩
        rw [e1, e2, byL_cons, hn, byL_append]
        exact hb _ _
    · have hc : ¬ Lib.compareBytes x.name y.name = 0 := fun e => hn (cb_eq.1 e)
      have hcf : cmpF1 x y = Lib.compareBytes x.name y.name := by unfold cmpF1 orI; rw [if_pos hc]
      rw [hcf, if_pos hc]
      refine .inr ⟨fun e => hn (by injection e with e _; rw [e]), hc, fun m o => ?_⟩
      rw [e1, e2, byL_cons, byL_encT hn, cb_byL]
theorem cmpI_ne {a b : Int} (h : a ≠ b) : cmpI a b ≠ 0 := by unfold cmpI; (repeat' split) <;> omega
theorem cmpI_self (a : Int) : cmpI a a = 0 := by simp [cmpI]
theorem encI_by {a b : Int} (ha : i64 a) (hb : i64 b) (h : a ≠ b) (m o : List UInt8) : byL (encI a ++ m) (encI b ++ o) = cmpI a b := by
  unfold cmpI
  by_cases h1 : a < b
  · rw [if_pos h1]
    exact byL_lt (less_ext (by rw [encI_len, encI_len]) (encI_less ha hb h1) m o)
  · rw [if_neg h1, if_pos (by omega)]
    exact byL_gt (less_ext (by rw [encI_len, encI_len]) (encI_less hb ha (by omega)) o m)
theorem cmpV_mm (k k' : Int) (y y' : Bool) (i i' : Int) (t t' : List UInt8) (l l' : List V) (fs fs' : List F) : cmpV (.mk k y i t l fs) (.mk k' y' i' t' l' fs') = if cmpI k k' ≠ 0 then cmpI k k' else if k = 1 then cmpI (yesI y) (yesI y') else if k = 2 then cmpI i i' else if k = 3 then Lib.compareBytes t t' else if k = 4 then cmpL l l' else if k = 5 then cmpF fs fs' else 0 := by rw [cmpV_mk]; rfl
theorem ordV_cmp : ∀ (d : Nat) (a b : V), rightV d a = true → rightV d b = true → WfV a → WfV b → Agree a b (cmpV a b) (ordV a) (ordV b)
  | 0, _, _, h, _, _, _ => by simp [rightV] at h
  | d + 1, a, b, ha, hb, wa, wb => by
    obtain ⟨a1, a2, a3, _⟩ := right_only ha
    obtain ⟨b1, b2, b3, _⟩ := right_only hb
    have iL := fun x hx y hy => ordV_cmp d x y (a3 x hx) (b3 y hy) (wa.l x hx) (wb.l y hy)
    have iF := fun x hx y hy => ordV_cmp d (F.val x) (F.val y) (a2 x hx) (b2 y hy) (wa.f x hx) (wb.f y hy)
    have wn := wa.n
    have wn' := wb.n
    obtain ⟨k, y, i, t, l, fs, rfl⟩ : ∃ k y n t l fs, a = .mk k y n t l fs := ⟨_, _, _, _, _, _, a.eta⟩
    obtain ⟨k', y', i', t', l', fs', rfl⟩ : ∃ k y n t l fs, b = .mk k y n t l fs := ⟨_, _, _, _, _, _, b.eta⟩
    rw [only_vals] at a1 b1
    simp only [V.list, V.fields, V.num] at a2 a3 b2 b3 iL iF wn wn'
    simp only [valsV, Bool.and_eq_true, Bool.or_eq_true, beq_iff_eq, List.isEmpty_iff] at a1 b1
    obtain ⟨⟨k0, k5⟩, ⟨⟨⟨⟨py, pi⟩, pt⟩, pl⟩, pf⟩⟩ := a1
    obtain ⟨⟨j0, j5⟩, ⟨⟨⟨⟨qy, qi⟩, qt⟩, ql⟩, qf⟩⟩ := b1
    replace k0 : 0 ≤ k := of_decide_eq_true k0
    replace k5 : k ≤ 5 := of_decide_eq_true k5
    replace j0 : 0 ≤ k' := of_decide_eq_true j0
    replace j5 : k' ≤ 5 := of_decide_eq_true j5
    rw [cmpV_mm, ordV_mk, ordV_mk]
    by_cases hk : k = k'
    · subst hk
      rw [cmpI_self, if_neg (fun h => h rfl)]
      have hcc : ∀ X Y m o, byL ((UInt8.ofNat (k.toNat + 2) :: X) ++ m) ((UInt8.ofNat (k.toNat + 2) :: Y) ++ o) = byL (X ++ m) (Y ++ o) := fun X Y m o => byL_cons ..
      by_cases h1 : k = 1
      · subst h1
        obtain rfl := pi.resolve_left (by decide)
        obtain rfl := pt.resolve_left (by decide)
        obtain rfl := pl.resolve_left (by decide)
        obtain rfl := pf.resolve_left (by decide)
        obtain rfl := qi.resolve_left (by decide)
        obtain rfl := qt.resolve_left (by decide)
        obtain rfl := ql.resolve_left (by decide)
        obtain rfl := qf.resolve_left (by decide)
        rw [if_pos rfl, if_pos rfl, if_pos rfl]
        by_cases h : y = y'
        · subst h; exact .inl ⟨rfl, cmpI_self _⟩
        · refine .inr ⟨fun e => h (by injection e), ?_, fun m o => ?_⟩
          · cases y <;> cases y' <;> first | exact absurd rfl h | decide
          · rw [hcc]
            cases y <;> cases y' <;> first | exact absurd rfl h | exact byL_head (by decide) | exact byL_head' (by decide)
      · obtain rfl := py.resolve_left h1
        obtain rfl := qy.resolve_left h1
        rw [if_neg h1, if_neg h1, if_neg h1]
        by_cases h2 : k = 2
        · subst h2
          obtain rfl := pt.resolve_left (by decide)
          obtain rfl := pl.resolve_left (by decide)
          obtain rfl := pf.resolve_left (by decide)
          obtain rfl := qt.resolve_left (by decide)
          obtain rfl := ql.resolve_left (by decide)
          obtain rfl := qf.resolve_left (by decide)
          rw [if_pos rfl, if_pos rfl, if_pos rfl]
          by_cases h : i = i'
          · subst h; exact .inl ⟨rfl, cmpI_self _⟩
          · exact .inr ⟨fun e => h (by injection e), cmpI_ne h, fun m o => by rw [hcc]; exact encI_by wn wn' h m o⟩
        · obtain rfl := pi.resolve_left h2
          obtain rfl := qi.resolve_left h2
          rw [if_neg h2, if_neg h2, if_neg h2]
          by_cases h3 : k = 3
          · subst h3
            obtain rfl := pl.resolve_left (by decide)
            obtain rfl := pf.resolve_left (by decide)
            obtain rfl := ql.resolve_left (by decide)
            obtain rfl := qf.resolve_left (by decide)
            rw [if_pos rfl, if_pos rfl, if_pos rfl]
            by_cases h : t = t'
            · subst h; exact .inl ⟨rfl, cb_eq.2 rfl⟩
            · exact .inr ⟨fun e => h (by injection e), fun e => h (cb_eq.1 e), fun m o => by rw [hcc, byL_encT h, cb_byL]⟩
          · obtain rfl := pt.resolve_left h3
            obtain rfl := qt.resolve_left h3
            rw [if_neg h3, if_neg h3, if_neg h3]
            by_cases h4 : k = 4
            · subst h4
              obtain rfl := pf.resolve_left (by decide)
              obtain rfl := qf.resolve_left (by decide)
              rw [if_pos rfl, if_pos rfl, if_pos rfl]
              rcases ordL_cmp l l' a3 b3 iL with ⟨rfl, h⟩ | ⟨hne, h, hh⟩
              · exact .inl ⟨rfl, h⟩
              · exact .inr ⟨fun e => hne (by injection e), h, fun m o => by rw [hcc]; exact hh m o⟩
            · obtain rfl := pl.resolve_left h4
              obtain rfl := ql.resolve_left h4
              rw [if_neg h4, if_neg h4, if_neg h4]
              by_cases h5 : k = 5
              · subst h5
                rw [if_pos rfl, if_pos rfl, if_pos rfl]
                rcases ordF_cmp fs fs' iF with ⟨rfl, h⟩ | ⟨hne, h, hh⟩
                · exact .inl ⟨rfl, h⟩
                · exact .inr ⟨fun e => hne (by injection e), h, fun m o => by rw [hcc]; exact hh m o⟩
              · obtain rfl := pf.resolve_left h5
                obtain rfl := qf.resolve_left h5
                rw [if_neg h5]
                exact .inl ⟨rfl, rfl⟩
    · rw [if_pos (cmpI_ne hk)]
      refine .inr ⟨fun e => hk (by injection e), cmpI_ne hk, fun m o => ?_⟩
      have e1 : (UInt8.ofNat (k.toNat + 2)).toNat = k.toNat + 2 := ofNat_toNat (by omega)
      have e2 : (UInt8.ofNat (k'.toNat + 2)).toNat = k'.toNat + 2 := ofNat_toNat (by omega)
      unfold cmpI
      by_cases h : k < k'
      · rw [if_pos h]; exact byL_head (by rw [e1, e2]; omega)
      · rw [if_neg h, if_pos (show k' < k by omega)]; exact byL_head' (by rw [e1, e2]; omega)
section
variable {d : Nat} {a b c : V}
theorem byL_vals (x y : List UInt8) : byL x y = -1 ∨ byL x y = 0 ∨ byL x y = 1 := by
  unfold byL
  split
  · exact .inl rfl
  · split
    · exact .inr (.inr rfl)
    · exact .inr (.inl rfl)
theorem byL_neg (x y : List UInt8) : byL y x = - byL x y := by
  by_cases h : x = y
  · subst h; rw [byL_self]; rfl
  · by_cases h1 : Op.bytesLess x y = true
    · rw [byL_lt h1, byL_gt h1]; rfl
    · have h2 : Op.bytesLess y x = true := by rw [less_total h]; simpa using h1
      rw [byL_lt h2, byL_gt h2]
theorem byL_trans {x y z : List UInt8} (h : byL x y = byL y z) : byL x z = byL x y := by
  rcases byL_vals x y with h1 | h1 | h1
  · have h2 := h.symm.trans h1
    have l1 : Op.bytesLess x y = true := by
      cases hc : Op.bytesLess x y with
      | true => rfl
      | false => unfold byL at h1; rw [hc] at h1; simp at h1; split at h1 <;> cases h1
    have l2 : Op.bytesLess y z = true := by
      cases hc : Op.bytesLess y z with
      | true => rfl
      | false => unfold byL at h2; rw [hc] at h2; simp at h2; split at h2 <;> cases h2
    rw [byL_lt (less_trans l1 l2), h1]
  · have := byL_zero h1
    subst this
    rw [h]
  · have h2 := h.symm.trans h1
    have n1 := byL_neg x y
    have n2 := byL_neg y z
    rw [h1] at n1
    rw [h2] at n2
    have l1 : Op.bytesLess y x = true := by
      cases hc : Op.bytesLess y x with
      | true => rfl
      | false => unfold byL at n1; rw [hc] at n1; simp at n1; split at n1 <;> cases n1
    have l2 : Op.bytesLess z y = true := by
      cases hc : Op.bytesLess z y with
      | true => rfl
      | false => unfold byL at n2; rw [hc] at n2; simp at n2; split at n2 <;> cases n2
    rw [byL_gt (less_trans l2 l1), h1]
theorem ord_apart (ha : rightV d a = true) (hb : rightV d b = true) (wa : WfV a) (wb : WfV b) (h : ¬ cmpV a b = 0) (p : List UInt8) : begins (p ++ ordV a) (p ++ ordV b) = false := by
  cases hc : begins (p ++ ordV a) (p ++ ordV b) with
  | false => rfl
  | true =>
    obtain ⟨r, hr⟩ := begins_iff.1 hc
    rw [List.append_assoc] at hr
    have hr := List.append_cancel_left hr
    rcases ordV_cmp d a b ha hb wa wb with ⟨_, h0⟩ | ⟨_, h0, h2⟩
    · exact absurd h0 h
    · have := h2 [] r
      rw [List.append_nil, hr, byL_self] at this
      exact absurd this.symm h0
end
end Go.AV.Val
namespace Go.AV.Val
open Go.AV.Ord Go.AV.Oct
section
variable {P : Program} {E : Operand → AV} {H : HS} {dst : Option Tmp} {ty : TypeId} {pos : String} {after : Array Edge} {gd : Option (Nat × Bool)}
end
end Go.AV.Val
namespace Go.AV
end Go.AV
namespace Go.AV.Val
open Go.AV.Ord Go.AV.Oct
theorem only_parts {k : Int} {y : Bool} {i : Int} {tx : List UInt8} {ls : List V} {fs : List F} (h : onlyV (.mk k y i tx ls fs) = true) : (k ≠ 1 → y = false) ∧ (k ≠ 2 → i = 0) ∧ (k ≠ 3 → tx = []) ∧ (k ≠ 4 → ls = []) ∧ (k ≠ 5 → fs = []) := by
  simp only [onlyV, V.kind, V.yes, V.num, V.text, V.list, V.fields, Bool.and_eq_true, Bool.or_eq_true, beq_iff_eq, List.isEmpty_iff] at h
  obtain ⟨⟨⟨⟨⟨⟨_, _⟩, h1⟩, h2⟩, h3⟩, h4⟩, h5⟩ := h
  exact ⟨fun e => h1.resolve_left e, fun e => h2.resolve_left e, fun e => h3.resolve_left e, fun e => h4.resolve_left e, fun e => h5.resolve_left e⟩
section
variable {k : Int} {y : Bool} {i : Int} {tx : List UInt8} {ls : List V} {fs : List F} {o : V}
end
end Go.AV.Val
namespace Go.AV.Patch
open Go.AV.Ord Go.AV.Oct Go.AV.Val
def getF (fs : List F) (n : List UInt8) : Option V := (fs.find? fun f => f.name == n).map F.val
def getV (v : V) (n : List UInt8) : V × Bool := match getF v.fields n with
  | some x => (x, decide (v.kind = 5))
  | none => (V0, false)
def withV (v : V) (n : List UInt8) (x : V) : V := if v.kind = 5 then ofMapV (v.fields ++ [⟨n, x⟩]) else v
def withoutV (v : V) (n : List UInt8) : V := .mk v.kind v.yes v.num v.text v.list (v.fields.filter fun f => !(f.name == n))
structure Opn where
  kind : Int
  path : List (List UInt8)
  val : V
def rightO (o : Opn) : Bool := decide (1 ≤ o.kind) && decide (o.kind ≤ 3) && decide (0 < o.path.length) && decide (o.path.length ≤ 16) && rightV 32 o.val && (decide (o.kind ≠ 3) || decide (o.val.kind = 2)) && (decide (o.kind ≠ 2) || decide (o.val.kind = 0))
def addI (a b : Int) : Int × Bool := (IntKind.i64.wrap (a + b), decide (IntKind.i64.wrap (a + b) > a) == decide (b > 0))
def lastV (o : Opn) (v : V) (n : List UInt8) : V × Int :=
  if o.kind = 1 then (withV v n o.val, 0)
  else if (getV v n).2 = false then (V0, 5)
  else if o.kind = 2 then (withoutV v n, 0)
  else if (getV v n).1.kind ≠ 2 then (V0, 1)
  else if (addI (getV v n).1.num o.val.num).2 = false then (V0, 1)
  else (withV v n (ofInt (addI (getV v n).1.num o.val.num).1), 0)
def atV (o : Opn) : V → List (List UInt8) → V × Int
  | v, [] => if v.kind ≠ 5 then (V0, 5) else (V0, 5)
  | v, [n] => if v.kind ≠ 5 then (V0, 5) else lastV o v n
  | v, n :: m :: p => if v.kind ≠ 5 then (V0, 5) else if (getV v n).2 = false then (V0, 5) else
      if (atV o (getV v n).1 (m :: p)).2 ≠ 0 then (V0, (atV o (getV v n).1 (m :: p)).2) else (withV v n (atV o (getV v n).1 (m :: p)).1, 0)
def allV : V → List Opn → V × Int
  | v, [] => if rightV 32 v then (v, 0) else (V0, 3)
  | v, o :: l => if (atV o v o.path).2 ≠ 0 then (V0, (atV o v o.path).2) else allV (atV o v o.path).1 l
def applyV (v : V) (l : List Opn) : V × Int := if 50 < l.length then (V0, 4) else if l.all rightO then allV v l else (V0, 1)
theorem putF_snoc : ∀ (l : List F) (f : F), (∀ x ∈ l, Go.Op.bytesLess x.name f.name = true) → putF l f = l ++ [f]
  | [], f, _ => rfl
  | g :: l, f, h => by
    rw [putF, if_pos (h g (by simp)), putF_snoc l f fun x hx => h x (by simp [hx])]
    rfl
theorem rises_mid : ∀ {l : List F} {f : F} {m : List F}, rises (l ++ f :: m) = true → ∀ x ∈ l, Go.Op.bytesLess x.name f.name = true
  | [], _, _, _, x, hx => by cases hx
  | g :: l, f, m, h, x, hx => by
    rcases List.mem_cons.1 hx with rfl | hx
    · exact rises_all h f (by simp)
    · exact rises_mid (rises_tail h) x hx
theorem foldl_self : ∀ (fs l : List F), rises (l ++ fs) = true → fs.foldl putF l = l ++ fs
  | [], l, _ => by simp
  | f :: fs, l, h => by
    rw [List.foldl_cons, putF_snoc l f (rises_mid h), foldl_self fs (l ++ [f]) (by simpa using h)]
    simp
theorem ofF_self {fs : List F} (h : rises fs = true) : ofF fs = fs := foldl_self fs [] h
theorem ofF_snoc (fs : List F) (f : F) : ofF (fs ++ [f]) = putF (ofF fs) f := by simp [ofF, List.foldl_append]
theorem getF_cons (g : F) (l : List F) (n : List UInt8) : getF (g :: l) n = if g.name = n then some g.val else getF l n := by
  unfold getF
  by_cases h : g.name = n
  · rw [if_pos h, List.find?_cons_of_pos (by simpa using h)]; rfl
  · rw [if_neg h, List.find?_cons_of_neg (by simpa using h)]
theorem getF_put : ∀ (l : List F) (f : F), getF (putF l f) f.name = some f.val
  | [], f => by rw [putF, getF_cons, if_pos rfl]
  | g :: l, f => by
    rw [putF]
    split
    · rename_i h
      rw [getF_cons, if_neg fun e => by rw [e, less_irrefl] at h; cases h]
      exact getF_put l f
    · split
      · rw [getF_cons, if_pos rfl]
      · rw [getF_cons, if_pos rfl]
theorem getF_other : ∀ (l : List F) (f : F) (n : List UInt8), ¬ f.name = n → getF (putF l f) n = getF l n
  | [], f, n, h => by rw [putF, getF_cons, if_neg h]
  | g :: l, f, n, h => by
    rw [putF]
    split
    · rw [getF_cons, getF_cons, getF_other l f n h]
    · split
      · rename_i h2
        have e : g.name = f.name := by simpa using h2
        rw [getF_cons, getF_cons, if_neg h, if_neg (by rw [e]; exact h)]
      · rw [getF_cons f, if_neg h]
theorem getF_none : ∀ {l : List F} {n : List UInt8}, (∀ x ∈ l, ¬ x.name = n) → getF l n = none
  | [], _, _ => rfl
  | g :: l, n, h => by rw [getF_cons, if_neg (h g (by simp)), getF_none fun x hx => h x (by simp [hx])]
theorem getF_below {g : F} {l : List F} {n : List UInt8} (h : rises (g :: l) = true) (hn : n = g.name ∨ Go.Op.bytesLess n g.name = true) : getF l n = none := by
  refine getF_none fun x hx e => ?_
  have h1 := rises_all h x hx
  rcases hn with rfl | hn
  · exact less_ne h1 e.symm
  · exact less_ne (less_trans hn h1) e.symm
theorem fields_ext : ∀ {l m : List F}, rises l = true → rises m = true → (∀ n, getF l n = getF m n) → l = m
  | [], [], _, _, _ => rfl
  | [], g :: m, _, _, h => by have h1 := h g.name; rw [getF_cons, if_pos rfl] at h1; cases h1
  | f :: l, [], _, _, h => by have h1 := h f.name; rw [getF_cons, if_pos rfl] at h1; cases h1
  | f :: l, g :: m, hl, hm, h => by
    have hn : f.name = g.name := by
      by_cases e : f.name = g.name
      · exact e
      · exfalso
        by_cases hlt : Go.Op.bytesLess f.name g.name = true
        · have h1 := h f.name
          rw [getF_cons, if_pos rfl, getF_cons, if_neg fun e2 => e e2.symm, getF_below hm (.inr hlt)] at h1
          cases h1
        · have hgt : Go.Op.bytesLess g.name f.name = true := by rw [less_total e]; simpa using hlt
          have h1 := h g.name
          rw [getF_cons f, if_neg e, getF_cons g, if_pos rfl, getF_below hl (.inr hgt)] at h1
          cases h1
    have hv : f.val = g.val := by
      have h1 := h f.name
      rw [getF_cons, if_pos rfl, getF_cons, if_pos hn.symm] at h1
      exact Option.some.inj h1
    have hfg : f = g := by
      cases f; cases g
      simp only [F.name, F.val] at hn hv
      rw [hn, hv]
    have ht : l = m := fields_ext (rises_tail hl) (rises_tail hm) fun n => by
      by_cases e : f.name = n
      · rw [getF_below hl (.inl e.symm), getF_below hm (.inl (e.symm.trans hn))]
      · have h1 := h n
        rwa [getF_cons, if_neg e, getF_cons, if_neg (by rw [← hn]; exact e)] at h1
    rw [hfg, ht]
def delF (l : List F) (n : List UInt8) : List F := l.filter fun f => !(f.name == n)
theorem delF_cons (g : F) (l : List F) (n : List UInt8) : delF (g :: l) n = if g.name = n then delF l n else g :: delF l n := by
  unfold delF
  by_cases h : g.name = n
  · rw [if_pos h, List.filter_cons_of_neg (by simpa using h)]
  · rw [if_neg h, List.filter_cons_of_pos (by simpa using h)]
theorem getF_del : ∀ (l : List F) (n m : List UInt8), getF (delF l n) m = if m = n then none else getF l m
  | [], n, m => by split <;> rfl
  | g :: l, n, m => by
    rw [delF_cons]
    by_cases h : g.name = n
    · rw [if_pos h, getF_del l n m]
      by_cases e : m = n
      · rw [if_pos e, if_pos e]
      · rw [if_neg e, if_neg e, getF_cons, if_neg (by rw [h]; exact fun x => e x.symm)]
    · rw [if_neg h, getF_cons, getF_del l n m, getF_cons]
      by_cases e : m = n
      · rw [if_pos e, if_pos e, if_neg (by rw [e]; exact h)]
      · rw [if_neg e, if_neg e]
theorem rises_del : ∀ {l : List F} (n : List UInt8), rises l = true → rises (delF l n) = true
  | [], _, _ => rfl
  | g :: l, n, h => by
    rw [delF_cons]
    split
    · exact rises_del n (rises_tail h)
    · exact rises_cons (fun x hx => rises_all h x (List.mem_filter.1 hx).1) (rises_del n (rises_tail h))
theorem del_put {l : List F} {f : F} (hl : rises l = true) (h : getF l f.name = none) : delF (putF l f) f.name = l := by
  refine fields_ext (rises_del _ (putF_rises _ hl)) hl fun m => ?_
  rw [getF_del]
  by_cases e : m = f.name
  · rw [if_pos e, e, h]
  · rw [if_neg e, getF_other _ _ _ fun x => e x.symm]
end Go.AV.Patch
namespace Go.AV.Patch
open Go.AV.Ord Go.AV.Oct Go.AV.Val
theorem atV_one (o : Opn) (v : V) (n : List UInt8) : atV o v [n] = if v.kind ≠ 5 then (V0, 5) else lastV o v n := by rw [atV]
theorem atV_more (o : Opn) (v : V) (n m : List UInt8) (p : List (List UInt8)) : atV o v (n :: m :: p) = if v.kind ≠ 5 then (V0, 5) else if (getV v n).2 = false then (V0, 5) else
      if (atV o (getV v n).1 (m :: p)).2 ≠ 0 then (V0, (atV o (getV v n).1 (m :: p)).2) else (withV v n (atV o (getV v n).1 (m :: p)).1, 0) := by rw [atV]
theorem rightO_eq (o : Opn) : rightO o = (decide (1 ≤ o.kind) && decide (o.kind ≤ 3) && decide (0 < o.path.length) && decide (o.path.length ≤ 16) && rightV 32 o.val && (decide (o.kind ≠ 3) || decide (o.val.kind = 2)) && (decide (o.kind ≠ 2) || decide (o.val.kind = 0))) := rfl
theorem allV_cons (v : V) (o : Opn) (l : List Opn) : allV v (o :: l) = if (atV o v o.path).2 ≠ 0 then (V0, (atV o v o.path).2) else allV (atV o v o.path).1 l := by rw [allV]
end Go.AV.Patch
namespace Go.AV.Patch
open Go.AV.Ord Go.AV.Oct Go.AV.Val
inductive BndV (m : Nat) : V → Prop
  | mk (v : V) (hl : v.list.length ≤ m) (hf : v.fields.length ≤ m) (h1 : ∀ x ∈ v.list, BndV m x) (h2 : ∀ f ∈ v.fields, BndV m f.val) : BndV m v
theorem BndV.ll {m : Nat} {v : V} (h : BndV m v) : v.list.length ≤ m := by cases h; assumption
theorem BndV.fl {m : Nat} {v : V} (h : BndV m v) : v.fields.length ≤ m := by cases h; assumption
theorem BndV.l {m : Nat} {v : V} (h : BndV m v) : ∀ x ∈ v.list, BndV m x := by cases h; assumption
theorem BndV.f {m : Nat} {v : V} (h : BndV m v) : ∀ f ∈ v.fields, BndV m f.val := by cases h; assumption
theorem BndV.small {m : Nat} {v : V} (h : BndV m v) (hm : m ≤ 1000000) : SmallV v := by
  induction h with
  | mk v hl hf _ _ ih1 ih2 =>
    rw [v.eta]
    exact .mk _ _ _ _ _ _ (by omega) (by omega) ih1 ih2
theorem BndV.mono {m m' : Nat} {v : V} (h : BndV m v) (hm : m ≤ m') : BndV m' v := by
  induction h with
  | mk v hl hf _ _ ih1 ih2 => exact .mk v (by omega) (by omega) ih1 ih2
theorem few_bnd : ∀ (n : Nat) (v : V), fewV n v = true → BndV 8 v
  | 0, _, h => by simp [fewV] at h
  | n + 1, v, h => by
    obtain ⟨h1, h2, _, h4, h5⟩ := few_parts h
    exact .mk v h1 h2 (fun x hx => few_bnd n x (h4 x hx)) (fun f hf => few_bnd n f.val (h5 f hf).2)
theorem BndV.leaf {m : Nat} {v : V} (h1 : v.list = []) (h2 : v.fields = []) : BndV m v := .mk v (by rw [h1]; exact Nat.zero_le _) (by rw [h2]; exact Nat.zero_le _) (by rw [h1]; intro x hx; cases hx) (by rw [h2]; intro x hx; cases hx)
theorem BndV.v0 {m : Nat} : BndV m V0 := .leaf rfl rfl
theorem BndV.int {m : Nat} (n : Int) : BndV m (ofInt n) := .leaf rfl rfl
theorem getF_mem : ∀ {l : List F} {n : List UInt8} {x : V}, getF l n = some x → ∃ f ∈ l, f.val = x
  | g :: l, n, x, h => by
    rw [getF_cons] at h
    split at h
    · exact ⟨g, by simp, Option.some.inj h⟩
    · obtain ⟨f, hf, e⟩ := getF_mem h
      exact ⟨f, by simp [hf], e⟩
theorem BndV.get {m : Nat} {v : V} (h : BndV m v) (n : List UInt8) : BndV m (getV v n).1 := by
  unfold getV
  split
  · rename_i x hx
    obtain ⟨f, hf, rfl⟩ := getF_mem hx
    exact h.f f hf
  · exact .v0
theorem BndV.with_ {m : Nat} {v x : V} (h : BndV m v) (hx : BndV (m + 1) x) (n : List UInt8) : BndV (m + 1) (withV v n x) := by
  unfold withV
  split
  · have h1 := ofF_len (v.fields ++ [F.mk n x])
    have h2 := h.fl
    refine .mk _ (Nat.zero_le _) ?_ (fun y hy => by cases hy) (fun f hf => ?_)
    · show (ofF (v.fields ++ [F.mk n x])).length ≤ m + 1
      simp at h1; omega
    · have hf' : f ∈ v.fields ++ [F.mk n x] := ofF_mem hf
      rcases List.mem_append.1 hf' with hf' | hf'
      · exact (h.f f hf').mono (by omega)
      · simp at hf'; subst hf'; exact hx
  · exact h.mono (by omega)
theorem BndV.without {m : Nat} {v : V} (h : BndV m v) (n : List UInt8) : BndV m (withoutV v n) :=
  .mk _ h.ll (Nat.le_trans (List.length_filter_le _ _) h.fl) h.l (fun f hf => h.f f (List.mem_filter.1 hf).1)
theorem BndV.last {m : Nat} {v : V} {o : Opn} (h : BndV m v) (ho : BndV m o.val) (n : List UInt8) : BndV (m + 1) (lastV o v n).1 := by
  unfold lastV
  split
  · exact h.with_ (ho.mono (by omega)) n
  split
  · exact .v0
  split
  · exact (h.without n).mono (by omega)
  split
  · exact .v0
  split
  · exact .v0
  · exact h.with_ (.int _) n
theorem BndV.at_ {m : Nat} {o : Opn} (ho : BndV m o.val) : ∀ (p : List (List UInt8)) {v : V}, BndV m v → BndV (m + 1) (atV o v p).1
  | [], v, h => by unfold atV; split <;> exact .v0
  | [n], v, h => by
    unfold atV
    split
    · exact .v0
    · exact h.last ho n
  | n :: k :: p, v, h => by
    unfold atV
    split
    · exact .v0
    split
    · exact .v0
    split
    · exact .v0
    · exact h.with_ (BndV.at_ ho (k :: p) (h.get n)) n
theorem BndV.all : ∀ (l : List Opn) {m : Nat} {v : V}, BndV m v → (∀ o ∈ l, BndV m o.val) → BndV (m + l.length) (allV v l).1
  | [], m, v, h, _ => by
    rw [allV]
    split
    · exact h
    · exact .v0
  | o :: l, m, v, h, ho => by
    rw [allV_cons]
    split
    · exact .v0
    · have := BndV.all l (BndV.at_ (ho o (by simp)) o.path h) fun x hx => (ho x (by simp [hx])).mono (by omega)
      rwa [List.length_cons, show m + (l.length + 1) = m + 1 + l.length by omega]
theorem BndV.apply {m : Nat} {v : V} {l : List Opn} (h : BndV m v) (ho : ∀ o ∈ l, BndV m o.val) : BndV (m + l.length) (applyV v l).1 := by
  unfold applyV
  split
  · exact .v0
  split
  · exact h.all l ho
  · exact .v0
end Go.AV.Patch
namespace Go.AV.Patch
open Go.AV.Ord Go.AV.Oct Go.AV.Val
theorem cmpI_refl (a : Int) : cmpI a a = 0 := by simp [cmpI]
theorem cmpL_refl : ∀ (l : List V), (∀ x ∈ l, cmpV x x = 0) → cmpL l l = 0
  | [], _ => by rw [cmpL]
  | x :: l, h => by rw [cmpL_cons, if_neg (by rw [h x (by simp)]; simp), cmpL_refl l fun y hy => h y (by simp [hy])]
theorem cmpF_refl : ∀ (l : List F), (∀ x ∈ l, cmpV x.val x.val = 0) → cmpF l l = 0
  | [], _ => by rw [cmpF]
  | .mk n v :: l, h => by
    have h1 : cmpV v v = 0 := h (.mk n v) (by simp)
    have h2 : cmpF1 (.mk n v) (.mk n v) = 0 := by simp [cmpF1, F.name, F.val, cb_eq.2 (rfl : n = n), h1, orI]
    rw [cmpF_cons, h2, cmpF_refl l fun y hy => h y (by simp [hy])]
    rfl
theorem cmp_refl' : ∀ (m : Nat) (v : V), SizeOf.sizeOf v ≤ m → cmpV v v = 0
  | 0, v, hm => by cases v; simp at hm
  | m + 1, v, hm => by
    have hL : cmpL v.list v.list = 0 := cmpL_refl _ fun x hx => cmp_refl' m x (by have := list_lt hx; omega)
    have hF : cmpF v.fields v.fields = 0 := cmpF_refl _ fun x hx => cmp_refl' m x.val (by have := field_lt hx; omega)
    have hT : Lib.compareBytes v.text v.text = 0 := cb_eq.2 rfl
    cases v
    simp only [V.list, V.fields, V.text] at hL hF hT
    rw [cmpV_mk]
    simp [V.kind, V.yes, V.num, V.text, V.list, V.fields, cmpI_refl, hL, hF, hT]
def M (fs : List F) : V := .mk 5 false 0 [] [] fs
theorem map_of {d : Nat} {v : V} (h : rightV (d + 1) v = true) (hk : v.kind = 5) : v = M v.fields ∧ rises v.fields = true := by
  obtain ⟨h1, _, _, h4⟩ := right_only h
  cases v
  simp only [V.kind] at hk
  subst hk
  obtain ⟨a1, a2, a3, a4, _⟩ := only_parts h1
  rw [a1 (by decide), a2 (by decide), a3 (by decide), a4 (by decide)]
  exact ⟨rfl, h4⟩
theorem map_right {d : Nat} {fs : List F} : rightV (d + 1) (M fs) = (rises fs && fs.all fun f => rightV d f.val) := by
  show (onlyV (M fs) && rises fs && fs.all (fun f => rightV d f.val) && ([] : List V).all (rightV d)) = _
  have : onlyV (M fs) = true := by simp [onlyV, M, V.kind, V.yes, V.num, V.text, V.list, V.fields]
  rw [this]; simp
theorem ofMap_rise {fs : List F} (h : rises fs = true) (n : List UInt8) (x : V) : withV (M fs) n x = M (putF fs (.mk n x)) := by
  show (if (5 : Int) = 5 then ofMapV (fs ++ [F.mk n x]) else M fs) = _
  rw [if_pos rfl, ofMapV, ofF_snoc, ofF_self h]; rfl
theorem without_M (fs : List F) (n : List UInt8) : withoutV (M fs) n = M (delF fs n) := rfl
theorem getV_M (fs : List F) (n : List UInt8) : getV (M fs) n = match getF fs n with
  | some x => (x, true)
  | none => (V0, false) := by
  unfold getV
  show (match getF fs n with | some x => (x, decide ((5 : Int) = 5)) | none => (V0, false)) = _
  cases getF fs n <;> rfl
def stepO (o : Opn) : List (List UInt8) → Option V → Int × Option V
  | [], x => if o.kind = 1 then (0, some o.val) else match x with
    | none => (5, none)
    | some y => if o.kind = 2 then (0, none) else if y.kind ≠ 2 then (1, none) else if (addI y.num o.val.num).2 = false then (1, none) else (0, some (ofInt (addI y.num o.val.num).1))
  | m :: p, x => match x with
    | none => (5, none)
    | some y => if (atV o y (m :: p)).2 ≠ 0 then ((atV o y (m :: p)).2, none) else (0, some (atV o y (m :: p)).1)
def updF (fs : List F) (n : List UInt8) : Option V → List F
  | some x => putF fs (.mk n x)
  | none => delF fs n
theorem at_step (o : Opn) {fs : List F} (h : rises fs = true) (n : List UInt8) (p : List (List UInt8)) : atV o (M fs) (n :: p) = if (stepO o p (getF fs n)).1 ≠ 0 then (V0, (stepO o p (getF fs n)).1) else (M (updF fs n (stepO o p (getF fs n)).2), 0) := by
  have hk : ¬ (M fs).kind ≠ 5 := fun e => e rfl
  have hg := getV_M fs n
  cases p with
  | nil =>
    rw [atV_one, if_neg hk, lastV, hg, ofMap_rise h, without_M]
    cases hx : getF fs n with
    | none =>
      simp only [stepO]
      by_cases h1 : o.kind = 1
      · simp [h1, updF]
      · simp [h1]
    | some y =>
      simp only [stepO]
      by_cases h1 : o.kind = 1
      · simp [h1, updF]
      · by_cases h2 : o.kind = 2
        · simp [h2, updF]
        · by_cases h3 : y.kind = 2
          · by_cases h4 : (addI y.num o.val.num).2 = false
            · simp [h1, h2, h3, h4]
            · simp [h1, h2, h3, h4, updF, ofMap_rise h]
          · simp [h1, h2, h3]
  | cons m p =>
    rw [atV_more, if_neg hk, hg]
    cases hx : getF fs n with
    | none => simp [stepO]
    | some y =>
      simp only [stepO]
      by_cases h3 : (atV o y (m :: p)).2 = 0
      · simp [h3, updF, ofMap_rise h]
      · simp [h3]
theorem getF_upd (fs : List F) (n m : List UInt8) (x : Option V) : getF (updF fs n x) m = if m = n then x else getF fs m := by
  cases x with
  | some x =>
    show getF (putF fs (.mk n x)) m = _
    by_cases e : m = n
    · rw [if_pos e, e]; exact getF_put fs (.mk n x)
    · rw [if_neg e, getF_other _ _ _ (by show ¬ n = m; exact fun h => e h.symm)]
  | none => exact getF_del fs n m
theorem getF_upd_ne (fs : List F) {n m : List UInt8} (h : ¬ m = n) (x : Option V) : getF (updF fs n x) m = getF fs m := by rw [getF_upd, if_neg h]
theorem rises_upd {fs : List F} (h : rises fs = true) (n : List UInt8) (x : Option V) : rises (updF fs n x) = true := by
  cases x with
  | some x => exact putF_rises _ h
  | none => exact rises_del n h
theorem upd_comm {fs : List F} (h : rises fs = true) {n m : List UInt8} (hn : ¬ n = m) (a b : Option V) : updF (updF fs n a) m b = updF (updF fs m b) n a := by
  refine fields_ext (rises_upd (rises_upd h _ _) _ _) (rises_upd (rises_upd h _ _) _ _) fun k => ?_
  rw [getF_upd, getF_upd, getF_upd, getF_upd]
  by_cases e1 : k = m
  · rw [if_pos e1, if_neg (fun e => hn (e.symm.trans e1)), if_pos e1]
  · rw [if_neg e1]
    by_cases e2 : k = n
    · rw [if_pos e2, if_pos e2]
    · rw [if_neg e2, if_neg e2, if_neg e1]
theorem right_put {fs : List F} {d : Nat} (h : rightV (d + 1) (M fs) = true) (n : List UInt8) {x : V} (hx : rightV d x = true) : rightV (d + 1) (M (putF fs (.mk n x))) = true := by
  rw [map_right, Bool.and_eq_true] at h ⊢
  refine ⟨putF_rises _ h.1, ?_⟩
  rw [List.all_eq_true] at h ⊢
  intro f hf
  rcases putF_name hf with rfl | hf
  · exact hx
  · exact h.2 f hf
theorem right_del {fs : List F} {d : Nat} (h : rightV (d + 1) (M fs) = true) (n : List UInt8) : rightV (d + 1) (M (delF fs n)) = true := by
  rw [map_right, Bool.and_eq_true] at h ⊢
  refine ⟨rises_del n h.1, ?_⟩
  rw [List.all_eq_true] at h ⊢
  exact fun f hf => h.2 f (List.mem_filter.1 hf).1
theorem add_zero_i64 {k : Int} (hk : i64 k) : addI 0 k = (k, true) := by
  unfold addI
  rw [Int.zero_add, wrap_i64 (by unfold i64 at hk; omega)]
  simp
theorem right_set (n : List UInt8) (k : Int) : rightO ⟨1, [n], ofInt k⟩ = true := by rw [rightO_eq]; simp [right_int]
theorem right_add (n : List UInt8) (k : Int) : rightO ⟨3, [n], ofInt k⟩ = true := by
  rw [rightO_eq]
  have h1 : rightV 32 (ofInt k) = true := right_int 31 k
  have h2 : (ofInt k).kind = 2 := rfl
  simp [h1, h2]
theorem right_V0 : rightV 32 V0 = true := rfl
theorem right_drop (n : List UInt8) : rightO ⟨2, [n], V0⟩ = true := by
  rw [rightO_eq]
  have h2 : V0.kind = 0 := rfl
  simp [right_V0, h2]
def twice (fs : List F) (n : List UInt8) (k : Int) : List F := putF (putF fs (.mk n (ofInt 0))) (.mk n (ofInt k))
theorem twice_law {v : V} (hv : rightV 32 v = true) (hk : v.kind = 5) (n : List UInt8) {k : Int} (h64 : i64 k) :
    applyV v [⟨1, [n], ofInt 0⟩, ⟨3, [n], ofInt k⟩] = (M (twice v.fields n k), 0) ∧ getV (M (twice v.fields n k)) n = (ofInt k, true) ∧ applyV (M (twice v.fields n k)) [⟨2, [n], V0⟩] = (M (delF (twice v.fields n k) n), 0) ∧
      ((getV v n).2 = false → M (delF (twice v.fields n k) n) = v) := by
  obtain ⟨hM, hr⟩ := map_of hv hk
  generalize v.fields = fs at hM hr
  subst hM
  have h1 : rises (putF fs (.mk n (ofInt 0))) = true := putF_rises _ hr
  have h2 : rises (twice fs n k) = true := putF_rises _ h1
  have g1 : getF (putF fs (.mk n (ofInt 0))) n = some (ofInt 0) := getF_put fs (.mk n (ofInt 0))
  have g2 : getF (twice fs n k) n = some (ofInt k) := getF_put _ (.mk n (ofInt k))
  have s1 : atV ⟨1, [n], ofInt 0⟩ (M fs) [n] = (M (putF fs (.mk n (ofInt 0))), 0) := by
    rw [at_step _ hr n []]
    cases getF fs n <;> simp [stepO, updF]
  have s2 : atV ⟨3, [n], ofInt k⟩ (M (putF fs (.mk n (ofInt 0)))) [n] = (M (twice fs n k), 0) := by
    rw [at_step _ h1 n [], g1]
    simp [stepO, updF, twice, ofInt, V.kind, V.num, add_zero_i64 h64]
  have s3 : atV ⟨2, [n], V0⟩ (M (twice fs n k)) [n] = (M (delF (twice fs n k) n), 0) := by
    rw [at_step _ h2 n [], g2]
    simp [stepO, updF]
  have r1 : rightV 32 (M (twice fs n k)) = true := right_put (right_put hv n (right_int 30 0)) n (right_int 30 k)
  refine ⟨?_, ?_, ?_, fun h => ?_⟩
  · have e : applyV (M fs) [⟨1, [n], ofInt 0⟩, ⟨3, [n], ofInt k⟩] = allV (M fs) [⟨1, [n], ofInt 0⟩, ⟨3, [n], ofInt k⟩] := by simp [applyV, right_set, right_add]
    rw [e, allV_cons]
    simp only [s1, ne_eq, not_true_eq_false, if_false]
    rw [allV_cons]
    simp only [s2, ne_eq, not_true_eq_false, if_false]
    rw [allV, r1]; rfl
  · rw [getV_M, g2]
  · have e : applyV (M (twice fs n k)) [⟨2, [n], V0⟩] = allV (M (twice fs n k)) [⟨2, [n], V0⟩] := by simp [applyV, right_drop]
    rw [e, allV_cons]
    simp only [s3, ne_eq, not_true_eq_false, if_false]
    rw [allV, right_del r1 n]; rfl
  · have h0 : getF fs n = none := by
      rw [getV_M] at h
      cases hg : getF fs n with
      | none => rfl
      | some x => rw [hg] at h; cases h
    have e1 : twice fs n k = putF fs (.mk n (ofInt k)) := by
      refine fields_ext (putF_rises _ h1) (putF_rises _ hr) fun m => ?_
      by_cases hm : m = n
      · subst hm; rw [g2]; exact (getF_put fs (.mk m (ofInt k))).symm
      · unfold twice
        rw [getF_other _ _ _ (fun e => hm e.symm), getF_other _ _ _ (fun e => hm e.symm), getF_other _ _ _ (fun e => hm e.symm)]
    rw [e1]
    exact congrArg M (del_put hr h0)
theorem orders_law {v : V} {a b : Opn} (hv : rightV 32 v = true) (ha : rightO a = true) (hb : rightO b = true) {n m : List UInt8} {p q : List (List UInt8)} (hp : a.path = n :: p) (hq : b.path = m :: q) (hne : ¬ n = m) :
    ((applyV v [a, b]).2 = 0 ↔ (applyV v [b, a]).2 = 0) ∧ ((applyV v [a, b]).2 = 0 → (applyV v [a, b]).1 = (applyV v [b, a]).1) := by
  have e1 : applyV v [a, b] = allV v [a, b] := by simp [applyV, ha, hb]
  have e2 : applyV v [b, a] = allV v [b, a] := by simp [applyV, ha, hb]
  rw [e1, e2]
  by_cases hk : v.kind = 5
  · obtain ⟨hM, hr⟩ := map_of hv hk
    generalize v.fields = fs at hM hr
    subst hM
    have sa := at_step a hr n p
    have sb := at_step b hr m q
    rw [allV_cons, allV_cons (M fs) b, hp, hq, sa, sb]
    by_cases ea : (stepO a p (getF fs n)).1 = 0
    · rw [if_neg (show ¬ (stepO a p (getF fs n)).1 ≠ 0 from fun h => h ea)]
      have tb := at_step b (rises_upd hr n (stepO a p (getF fs n)).2) m q
      rw [getF_upd_ne _ (fun e => hne e.symm)] at tb
      simp only [ne_eq, not_true_eq_false, if_false]
      rw [allV_cons, hq, tb]
      by_cases eb : (stepO b q (getF fs m)).1 = 0
      · have ta := at_step a (rises_upd hr m (stepO b q (getF fs m)).2) n p
        rw [getF_upd_ne _ hne] at ta
        simp only [eb, ne_eq, not_true_eq_false, if_false]
        rw [allV_cons, hp, ta]
        simp only [ea, ne_eq, not_true_eq_false, if_false]
        rw [upd_comm hr hne]
        exact ⟨Iff.rfl, fun _ => rfl⟩
      · simp [eb]
    · rw [if_pos ea]
      have hA : ¬ (V0, (stepO a p (getF fs n)).1).2 = 0 := ea
      rw [if_pos hA]
      refine ⟨⟨fun h => absurd h ea, fun h => ?_⟩, fun h => absurd h ea⟩
      exfalso
      by_cases eb : (stepO b q (getF fs m)).1 = 0
      · have ta := at_step a (rises_upd hr m (stepO b q (getF fs m)).2) n p
        rw [getF_upd_ne _ hne] at ta
        simp only [eb, ne_eq, not_true_eq_false, if_false] at h
        rw [allV_cons, hp, ta] at h
        simp [ea] at h
      · simp [eb] at h
  · have hx : ∀ (o : Opn) (p : List (List UInt8)), atV o v p = (V0, 5) := by
      intro o p
      match p with
      | [] => simp [atV, hk]
      | [_] => simp [atV, hk]
      | _ :: _ :: _ => rw [atV_more, if_pos hk]
    have h5 : ∀ o o' : Opn, (allV v [o, o']).2 = 5 := by intro o o'; rw [allV_cons, hx]; simp
    rw [h5, h5]
    exact ⟨Iff.rfl, fun h => absurd h (by decide)⟩
end Go.AV.Patch
namespace Go.AV.Patch
open Go.AV.Ord Go.AV.Oct Go.AV.Val
def eL (fs : List F) : List (List UInt8 × DV) := fs.foldl (fun es f => putE es f.name (.agg (vC f.val))) []
theorem eL_snoc (fs : List F) (f : F) : eL (fs ++ [f]) = putE (eL fs) f.name (.agg (vC f.val)) := by simp [eL, List.foldl_append]
theorem getE_put : ∀ (es : List (List UInt8 × DV)) (k n : List UInt8) (v : DV), getE (putE es k v) n = if k = n then some v else getE es n
  | [], k, n, v => by simp [putE, getE]
  | e :: es, k, n, v => by
    unfold putE
    by_cases hk : e.1 = k
    · rw [if_pos hk]
      simp only [getE]
      by_cases hn : k = n
      · simp [hn]
      · have : ¬ e.1 = n := fun h => hn (hk.symm.trans h)
        simp [hn, this]
    · rw [if_neg hk]
      simp only [getE, getE_put es k n v]
      by_cases he : e.1 = n
      · have : ¬ k = n := fun h => hk (he.trans h.symm)
        simp [he, this]
      · simp [he]
theorem putE_len : ∀ (es : List (List UInt8 × DV)) (k : List UInt8) (v : DV), (putE es k v).length = es.length + (if (getE es k).isSome then 0 else 1)
  | [], k, v => by simp [putE, getE]
  | e :: es, k, v => by
    unfold putE
    by_cases hk : e.1 = k
    · simp [hk, getE]
    · simp only [if_neg hk, getE, List.length_cons, putE_len es k v]
      split <;> omega
theorem mem_put : ∀ {es : List (List UInt8 × DV)} {k : List UInt8} {v : DV} {x : List UInt8 × DV}, x ∈ putE es k v → x = (k, v) ∨ x ∈ es
  | [], _, _, x, h => by simp [putE] at h; exact .inl h
  | e :: es, k, v, x, h => by
    unfold putE at h
    by_cases hk : e.1 = k
    · rw [if_pos hk] at h
      rcases List.mem_cons.1 h with h | h
      · exact .inl h
      · exact .inr (List.mem_cons_of_mem _ h)
    · rw [if_neg hk] at h
      rcases List.mem_cons.1 h with h | h
      · exact .inr (by rw [h]; exact List.mem_cons_self ..)
      · rcases mem_put h with h | h
        · exact .inl h
        · exact .inr (List.mem_cons_of_mem _ h)
def Once (es : List (List UInt8 × DV)) : Prop := (es.map (·.1)).Nodup
theorem Once.put : ∀ {es : List (List UInt8 × DV)} (k : List UInt8) (v : DV), Once es → Once (putE es k v)
  | [], k, v, _ => by simp [putE, Once]
  | e :: es, k, v, h => by
    have h2 := List.nodup_cons.1 (show ((e :: es).map (·.1)).Nodup from h)
    unfold putE
    by_cases hk : e.1 = k
    · rw [if_pos hk]
      exact List.nodup_cons.2 ⟨by rw [← hk]; exact h2.1, h2.2⟩
    · rw [if_neg hk]
      refine List.nodup_cons.2 ⟨fun hm => ?_, Once.put k v h2.2⟩
      obtain ⟨x, hx, hxe⟩ := List.mem_map.1 hm
      rcases mem_put hx with rfl | hx
      · exact hk hxe.symm
      · exact h2.1 (hxe ▸ List.mem_map.2 ⟨x, hx, rfl⟩)
theorem Once.get : ∀ {es : List (List UInt8 × DV)} {k : List UInt8} {d : DV}, Once es → (k, d) ∈ es → getE es k = some d
  | [], _, _, _, h => by cases h
  | e :: es, k, d, h, hm => by
    have h2 := List.nodup_cons.1 (show ((e :: es).map (·.1)).Nodup from h)
    unfold getE
    rcases List.mem_cons.1 hm with rfl | hm
    · rw [if_pos rfl]
    · have : ¬ e.1 = k := fun he => h2.1 (by show e.1 ∈ _; rw [he]; exact List.mem_map.2 ⟨(k, d), hm, rfl⟩)
      rw [if_neg this]
      exact Once.get h2.2 hm
theorem snoc_ind {α : Type} {p : List α → Prop} (h0 : p []) (h1 : ∀ l x, p l → p (l ++ [x])) (l : List α) : p l := by
  have : ∀ m : List α, p m.reverse := fun m => by
    induction m with
    | nil => exact h0
    | cons x m ih => rw [List.reverse_cons]; exact h1 _ _ ih
  simpa using this l.reverse
theorem eL_get (fs : List F) : ∀ n, getE (eL fs) n = (getF (ofF fs) n).map fun v => DV.agg (vC v) := by
  refine snoc_ind (p := fun fs => ∀ n, getE (eL fs) n = (getF (ofF fs) n).map fun v => DV.agg (vC v)) (fun n => rfl) (fun l f ih n => ?_) fs
  rw [eL_snoc, ofF_snoc, getE_put]
  by_cases hn : f.name = n
  · subst hn; rw [if_pos rfl, getF_put]; rfl
  · rw [if_neg hn, getF_other _ _ _ hn, ih]
theorem putF_lenG : ∀ (l : List F) (f : F), rises l = true → (putF l f).length = l.length + (if (getF l f.name).isSome then 0 else 1)
  | [], f, _ => by simp [putF, getF]
  | g :: l, f, h => by
    rw [getF_cons, putF]
    by_cases h1 : Op.bytesLess g.name f.name = true
    · have hne : ¬ g.name = f.name := less_ne h1
      rw [if_pos h1, if_neg hne, List.length_cons, putF_lenG l f (rises_tail h), List.length_cons]
      omega
    · rw [if_neg h1]
      by_cases h2 : g.name = f.name
      · simp [h2]
      · rw [if_neg (by simpa using h2), if_neg h2]
        have hlt : Op.bytesLess f.name g.name = true := by
          rw [less_total h2]; simpa using h1
        rw [getF_below h (.inr hlt)]
        simp
theorem getF_at : ∀ {l : List F} {i : Nat} {f : F}, rises l = true → l[i]? = some f → getF l f.name = some f.val
  | [], _, _, _, h => by simp at h
  | g :: l, 0, f, _, h => by
    simp at h
    subst h
    rw [getF_cons, if_pos rfl]
  | g :: l, i + 1, f, hr, h => by
    simp only [List.getElem?_cons_succ] at h
    have hlt := rises_all hr f (List.mem_of_getElem? h)
    rw [getF_cons, if_neg (less_ne hlt)]
    exact getF_at (rises_tail hr) h
theorem rises_at {l : List F} {i : Nat} {f g : F} (hr : rises l = true) (h1 : l[i]? = some f) (h2 : l[i + 1]? = some g) : Op.bytesLess f.name g.name = true := by
  induction l generalizing i with
  | nil => simp at h1
  | cons a l ih =>
    cases i with
    | zero =>
      simp at h1
      subst h1
      exact rises_all hr g (List.mem_of_getElem? (by simpa using h2))
    | succ i => exact ih (rises_tail hr) (by simpa using h1) (by simpa using h2)
theorem ofMapV_M (fs : List F) : ofMapV fs = M (ofF fs) := rfl
theorem fields_law (fs : List F) (n0 : List UInt8) (x : V) :
    (∃ gx gb, getV (M (ofF fs)) n0 = (gx, gb) ∧ (getE (eL fs) n0).isSome = gb ∧ (getE (eL fs) n0).getD (.agg (vC V0)) = .agg (vC gx)) ∧
    getV (withV (M (ofF fs)) n0 x) n0 = (x, true) ∧ getV (withoutV (M (ofF fs)) n0) n0 = (V0, false) ∧
    ∀ n v, ¬ n = n0 → getF (ofF fs) n = some v → getV (withV (M (ofF fs)) n0 x) n = (v, true) ∧ getV (withoutV (M (ofF fs)) n0) n = (v, true) := by
  have hw : withV (M (ofF fs)) n0 x = M (putF (ofF fs) ⟨n0, x⟩) := by
    show (if (5 : Int) = 5 then ofMapV (ofF fs ++ [⟨n0, x⟩]) else _) = _
    rw [if_pos rfl, ofMapV_M, ofF_snoc, ofF_self (ofF_rises fs)]
  refine ⟨?_, ?_, ?_, fun n v hn hv => ⟨?_, ?_⟩⟩
  · rw [getV_M, eL_get]
    cases getF (ofF fs) n0 with
    | none => exact ⟨_, _, rfl, rfl, rfl⟩
    | some v => exact ⟨_, _, rfl, rfl, rfl⟩
  · rw [hw, getV_M, show getF (putF (ofF fs) ⟨n0, x⟩) n0 = some x from getF_put _ _]
  · rw [without_M, getV_M, getF_del, if_pos rfl]
  · rw [hw, getV_M, getF_other (ofF fs) ⟨n0, x⟩ n (fun e : n0 = n => hn e.symm), hv]
  · rw [without_M, getV_M, getF_del, if_neg hn, hv]
theorem fields_small {fs : List F} (h : ∀ f ∈ fs, fewV 7 f.val = true) : (∀ f ∈ ofF fs, SmallV f.val) ∧ (∀ n v, getF (ofF fs) n = some v → SmallV v) ∧ ∀ n, SmallV (getV (M (ofF fs)) n).1 := by
  have h1 : ∀ f ∈ ofF fs, SmallV f.val := fun f hf => few_small 7 _ (h f (ofF_mem hf))
  have h2 : ∀ n v, getF (ofF fs) n = some v → SmallV v := fun n v hv => by
    obtain ⟨f, hf, rfl⟩ := getF_mem hv
    exact h1 f hf
  refine ⟨h1, h2, fun n => ?_⟩
  rw [getV_M]
  cases hq : getF (ofF fs) n with
  | none => exact (BndV.v0 (m := 8)).small (by decide)
  | some v => exact h2 n v hq
end Go.AV.Patch
namespace Go.AV
theorem Ext.at0 {Hs H : HS} {m : MB} {l : List MB} (h : Ext (Hs.addM (m :: l)) H) : H.maps[Hs.nm]? = some m := by
  rw [h.maps]
  show (Hs.maps ++ (m :: l))[Hs.maps.length]? = some m
  rw [List.getElem?_append_right (Nat.le_refl _), Nat.sub_self]; rfl
theorem Ext.set0 {Hs H : HS} {m : MB} {l : List MB} (h : Ext (Hs.addM (m :: l)) H) (m' : MB) : Ext (Hs.addM (m' :: l)) (H.setM Hs.nm m') :=
  ⟨h.blks, h.toks, by
    show H.maps.set Hs.nm m' = _
    rw [h.maps]
    show (Hs.maps ++ (m :: l)).set Hs.maps.length m' = Hs.maps ++ (m' :: l)
    rw [List.set_append_right _ _ (Nat.le_refl _), Nat.sub_self]; rfl⟩
theorem NoIt.setM {H : HS} (h : NoIt H) (i : Nat) (es : List (List UInt8 × DV)) : NoIt (H.setM i (.map es)) := fun j o n q he => by
  have he' : (H.maps.set i (.map es))[j]? = some (.iter o n q) := he
  by_cases hj : i = j
  · subst hj
    by_cases hlt : i < H.maps.length
    · rw [List.getElem?_set_self hlt] at he'; cases he'
    · rw [List.set_eq_of_length_le (by omega)] at he'; exact h _ _ _ _ he'
  · rw [List.getElem?_set_ne hj] at he'; exact h _ _ _ _ he'
namespace Hist
open Go.AV.Ord Go.AV.Oct Go.AV.Patch
def bE (l : List (List UInt8)) : List (List UInt8 × DV) := l.map fun k => (k, TF true)
theorem getE_bE : ∀ (l : List (List UInt8)) (k : List UInt8), getE (bE l) k = if k ∈ l then some (TF true) else none
  | [], _ => rfl
  | x :: l, k => by
    show (if x = k then some (TF true) else getE (bE l) k) = _
    rw [getE_bE l k]
    by_cases h : x = k
    · subst h; simp
    · have : ¬ k = x := fun e => h e.symm
      rw [if_neg h]
      by_cases h2 : k ∈ l
      · rw [if_pos h2, if_pos (by simp [h2])]
      · rw [if_neg h2, if_neg (by simp [this, h2])]
theorem putE_bE : ∀ {l : List (List UInt8)} {k : List UInt8}, k ∉ l → putE (bE l) k (TF true) = bE (l ++ [k])
  | [], _, _ => rfl
  | x :: l, k, h => by
    simp only [List.mem_cons, not_or] at h
    show (if x = k then (k, TF true) :: bE l else (x, TF true) :: putE (bE l) k (TF true)) = _
    rw [if_neg (fun e => h.1 e.symm), putE_bE h.2]; rfl
section
variable {P : Program} {E : Operand → AV} {H : HS} {dst : Option Tmp} {ty : TypeId} {pos : String} {after : Array Edge} {gd : Option (Nat × Bool)}
theorem op_lookup_b {x k : Operand} {t kt et : TypeId} {id : Nat} {ss : List (List UInt8)} {l : List UInt8} (ht : P.underlying t = some (.map kt et)) (hkt : P.underlying kt = some .string) (hz : (P.info? et).map (·.zero) = some (some (.bool false)))
    (hx : E x = .map id) (hl : E k = .d (S l)) (hm : H.maps[id]? = some (.map (bE ss))) : OpR P ⟨dst, .lookup t x k false, ty, pos, after, gd⟩ E H (Ret (.d (TF (decide (l ∈ ss)))) H) := by
  have h := op_lookup (d0 := TF false) (dst := dst) (ty := ty) (pos := pos) (after := after) (gd := gd) ht hkt hz (fun _ => .v _ rfl) hx hl hm
  have e : (getE (bE ss) l).getD (TF false) = TF (decide (l ∈ ss)) := by
    rw [getE_bE]; by_cases h : l ∈ ss <;> simp [h]
  rwa [e] at h
def HoldsN (ss : List (List UInt8)) (es : List (List UInt8 × DV)) : Prop := ∀ k, getE es k = if ss.count k = 0 then none else some (I (ss.count k : Nat))
theorem HoldsN.nil : HoldsN [] [] := fun _ => rfl
end
def sound2 (came gone : List (List UInt8)) (e : Ev) : Option (List (List UInt8) × List (List UInt8)) :=
  if e.to = [] then (if e.id ∈ gone ∨ ¬ e.id ∈ came then none else some (came, gone ++ [e.id])) else
  if e.new.token ≠ [] ∧ e.new.token ≠ e.old.token ∧ e.old.token ≠ [] ∧ e.at_ < e.old.ready then none else some (came, gone)
def sound1 (came gone : List (List UInt8)) (e : Ev) : Option (List (List UInt8) × List (List UInt8)) :=
  if e.fr = [] ∧ e.id ∈ came then none else sound2 (if e.fr = [] then came ++ [e.id] else came) gone e
def soundT : List (List UInt8) → List (List UInt8) → List Ev → Bool
  | _, _, [] => true
  | c, g, e :: es => (sound1 c g e).elim false fun q => soundT q.1 q.2 es
end Hist
end Go.AV
namespace Go.AV.Val
open Go.AV.Ord Go.AV.Oct
structure VTypes (P : Program) (tV tF tK tB tI tS tL tM : TypeId) : Prop where
  v : ∃ fs, P.underlying tV = some (.struct fs) ∧ (∃ f, fs[0]? = some f ∧ f.type = tK ∧ f.offset = 0) ∧ (∃ f, fs[1]? = some f ∧ f.type = tB ∧ f.offset = 1) ∧ (∃ f, fs[2]? = some f ∧ f.type = tI ∧ f.offset = 2) ∧ (∃ f, fs[3]? = some f ∧ f.type = tS ∧ f.offset = 3) ∧ (∃ f, fs[4]? = some f ∧ f.type = tL ∧ f.offset = 4) ∧ (∃ f, fs[5]? = some f ∧ f.type = tM ∧ f.offset = 5) ∧ fs.size = 6
  f : ∃ fs, P.underlying tF = some (.struct fs) ∧ (∃ f, fs[0]? = some f ∧ f.type = tS ∧ f.offset = 0) ∧ (∃ f, fs[1]? = some f ∧ f.type = tV ∧ f.offset = 1) ∧ fs.size = 2
  k : P.underlying tK = some (.int .i64)
  b : P.underlying tB = some .bool
  i : P.underlying tI = some (.int .i64)
  s : P.underlying tS = some .string
  l : P.underlying tL = some (.slice tV)
  m : P.underlying tM = some (.slice tF)
  cV : P.cellsOf tV = 6
  cF : P.cellsOf tF = 7
  cK : P.cellsOf tK = 1
  cB : P.cellsOf tB = 1
  cI : P.cellsOf tI = 1
  cS : P.cellsOf tS = 1
  cL : P.cellsOf tL = 1
  cM : P.cellsOf tM = 1
section
variable {H : Type} {enc : TypeId × Value → H} {P : Program} {W : World} {sp : Nat → Bool} {held : Bool} {tV tF tK tB tI tS tL tM : TypeId}
theorem all_map' {α : Type} {p : α → Prop} {f : α → DV} : ∀ {ys : List DV}, (∀ y ∈ ys, ∃ x, p x ∧ y = f x) → ∃ xs : List α, (∀ x ∈ xs, p x) ∧ ys = xs.map f
  | [], _ => ⟨[], fun _ h => (by cases h), rfl⟩
  | y :: ys, h => by
    obtain ⟨x, hp, rfl⟩ := h y (by simp)
    obtain ⟨xs, hps, rfl⟩ := all_map' (ys := ys) fun z hz => h z (by simp [hz])
    exact ⟨x :: xs, fun z hz => by rcases List.mem_cons.1 hz with rfl | hz; exact hp; exact hps z hz, rfl⟩
theorem list_cell {fuel : Nat} {t e : TypeId} {sz : Nat} (hsz0 : 0 < sz) (Good : DV → Prop) (ht : P.underlying t = some (.slice e)) (hsz : P.cellsOf e = sz) {c : Value} {x : DataW H × List MemPlace} (h : DataW.trod enc P W 0 sp held fuel t [c] = some x)
    (hel : ∀ m, m < fuel → ∀ cs d p, DataW.trod enc P W 0 sp held m e cs = some (d, p) → cs.length = sz → ∃ y, Go.AV.Reads W Good sz cs y) : ∃ ys, RepD (ctx0 W).mem c (.lst sz ys) ∧ (∀ y ∈ ys, Good y) := by
  cases fuel with
  | zero => simp [DataW.trod] at h
  | succ n =>
    rcases DataW.trod_slice ht h with ⟨h1, _⟩ | ⟨a, len, cap, _, _, m, h0, h1, _⟩
    · cases h1
      exact ⟨[], .lstE _ _ _, fun _ h => (by cases h)⟩
    · cases h1
      obtain ⟨d, p⟩ := x
      exact rep_slice hsz0 Good ht hsz (hel n (by omega)) h
theorem one_cell {Good : DV → Prop} {c : Value} {y : DV} (h : Go.AV.Reads W Good 1 [c] y) (e : y.cells = [y]) : RepD (ctx0 W).mem c y := by
  have := h.at_ 0 (by simp) (by rw [e]; simp)
  simpa [e] using this
theorem reads_both (T : VTypes P tV tF tK tB tI tS tL tM) : ∀ (N fuel : Nat), fuel ≤ N →
    (∀ (cs : List Value) d p, DataW.trod enc P W 0 sp held fuel tV cs = some (d, p) → cs.length = 6 → ∃ y, Go.AV.Reads W (fun y => ∃ v, WfV v ∧ y = vD v) 6 cs y) ∧
    (∀ (cs : List Value) d p, DataW.trod enc P W 0 sp held fuel tF cs = some (d, p) → cs.length = 7 → ∃ y, Go.AV.Reads W (fun y => ∃ f : F, WfV f.val ∧ y = fD f) 7 cs y)
  | 0, fuel, hf => by
    have : fuel = 0 := by omega
    subst this
    exact ⟨fun _ _ _ h => by simp [DataW.trod] at h, fun _ _ _ h => by simp [DataW.trod] at h⟩
  | N + 1, fuel, hf => by
    refine ⟨fun cs d p h hl => ?_, fun cs d p h hl => ?_⟩
    · obtain ⟨fs, hu, ⟨f0, g0, e0, o0⟩, ⟨f1, g1, e1, o1⟩, ⟨f2, g2, e2, o2⟩, ⟨f3, g3, e3, o3⟩, ⟨f4, g4, e4, o4⟩, ⟨f5, g5, e5, o5⟩, hsz⟩ := T.v
      obtain ⟨xs, n, hn, _, _, hxl, hx⟩ := DataW.trod_struct hu h
      subst hn
      obtain ⟨c0, c1, c2, c3, c4, c5, rfl⟩ : ∃ c0 c1 c2 c3 c4 c5, cs = [c0, c1, c2, c3, c4, c5] := by
        match cs, hl with
        | [c0, c1, c2, c3, c4, c5], _ => exact ⟨_, _, _, _, _, _, rfl⟩
      have get : ∀ i, i < 6 → ∃ x, xs[i]? = some x := fun i hi => ⟨_, List.getElem?_eq_getElem (by omega)⟩
      have q0 := hx 0 f0 g0
      have q1 := hx 1 f1 g1
      have q2 := hx 2 f2 g2
      have q3 := hx 3 f3 g3
      have q4 := hx 4 f4 g4
      have q5 := hx 5 f5 g5
      rw [e0, o0, T.cK] at q0
      rw [e1, o1, T.cB] at q1
      rw [e2, o2, T.cI] at q2
      rw [e3, o3, T.cS] at q3
      rw [e4, o4, T.cL] at q4
      rw [e5, o5, T.cM] at q5
      obtain ⟨⟨_, _⟩, x0⟩ := get 0 (by decide)
      obtain ⟨⟨_, _⟩, x1⟩ := get 1 (by decide)
      obtain ⟨⟨_, _⟩, x2⟩ := get 2 (by decide)
      obtain ⟨⟨_, _⟩, x3⟩ := get 3 (by decide)
      obtain ⟨⟨_, _⟩, x4⟩ := get 4 (by decide)
      obtain ⟨⟨_, _⟩, x5⟩ := get 5 (by decide)
      rw [x0] at q0; rw [x1] at q1; rw [x2] at q2; rw [x3] at q3; rw [x4] at q4; rw [x5] at q5
      obtain ⟨y0, r0⟩ := reads_int T.k q0
      obtain ⟨y1, r1⟩ := reads_bool T.b q1
      obtain ⟨y2, r2⟩ := reads_int T.i q2
      obtain ⟨y3, r3⟩ := reads_str T.s q3
      obtain ⟨k, rfl, wk⟩ := r0.good
      obtain ⟨b, rfl⟩ := r1.good
      obtain ⟨i, rfl, wi⟩ := r2.good
      obtain ⟨s, rfl⟩ := r3.good
      obtain ⟨ls', r4, l4⟩ := list_cell (by decide) _ T.l T.cV q4 fun m hm => (reads_both T N m (by omega)).1
      obtain ⟨fs', r5, l5⟩ := list_cell (by decide) _ T.m T.cF q5 fun m hm => (reads_both T N m (by omega)).2
      obtain ⟨ls, wl, rfl⟩ := all_map' l4
      obtain ⟨ffs, wf, rfl⟩ := all_map' l5
      refine ⟨vD (.mk k b i s ls ffs), rfl, by rw [vD_cells]; rfl, fun z hz => vC_one _ z hz, ⟨_, .mk _ _ _ _ _ _ (wf_i64 wk) (wf_i64 wi) wl wf, rfl⟩, fun j hj hj' => ?_⟩
      have ec : (vD (.mk k b i s ls ffs)).cells = [.v (.int .i64 k), TF b, .v (.int .i64 i), S s, .lst 6 (ls.map vD), .lst 7 (ffs.map fD)] := vD_cells _
      have p0 := one_cell r0 rfl
      have p1 := one_cell r1 rfl
      have p2 := one_cell r2 rfl
      have p3 := one_cell r3 rfl
      simp only [ec]
      match j, hj with
      | 0, _ => exact p0
      | 1, _ => exact p1
      | 2, _ => exact p2
      | 3, _ => exact p3
      | 4, _ => exact r4
      | 5, _ => exact r5
    · obtain ⟨fs, hu, ⟨f0, g0, e0, o0⟩, ⟨f1, g1, e1, o1⟩, hsz⟩ := T.f
      obtain ⟨xs, n, hn, _, _, hxl, hx⟩ := DataW.trod_struct hu h
      subst hn
      obtain ⟨c0, cs', rfl⟩ : ∃ c0 cs', cs = c0 :: cs' := List.exists_cons_of_ne_nil (by intro e; subst e; cases hl)
      have hl' : cs'.length = 6 := by simpa using hl
      have get : ∀ i, i < 2 → ∃ x, xs[i]? = some x := fun i hi => ⟨_, List.getElem?_eq_getElem (by omega)⟩
      have q0 := hx 0 f0 g0
      have q1 := hx 1 f1 g1
      rw [e0, o0, T.cS] at q0
      rw [e1, o1, T.cV, List.drop_succ_cons, List.drop_zero, List.take_of_length_le (by omega)] at q1
      obtain ⟨⟨_, _⟩, x0⟩ := get 0 (by decide)
      obtain ⟨⟨_, _⟩, x1⟩ := get 1 (by decide)
      rw [x0] at q0; rw [x1] at q1
      obtain ⟨y0, r0⟩ := reads_str T.s q0
      obtain ⟨s, rfl⟩ := r0.good
      obtain ⟨y1, r1⟩ := (reads_both T N n (by omega)).1 _ _ _ q1 hl'
      obtain ⟨v, wv, rfl⟩ := r1.good
      have p0 := one_cell r0 rfl
      have ec : (fD (.mk s v)).cells = S s :: (vD v).cells := fD_cells _
      refine ⟨fD (.mk s v), hl, by rw [ec, List.length_cons, r1.ylen], fun z hz => fC_one _ z hz, ⟨.mk s v, wv, rfl⟩, fun j hj hj' => ?_⟩
      simp only [ec]
      match j, hj with
      | 0, _ => exact p0
      | j + 1, hj => exact r1.at_ j (by simpa using hj) (by rw [ec] at hj'; simpa using hj')
end
end Go.AV.Val
namespace Go.AV.Val
open Go.AV.Ord Go.AV.Oct
section
variable {H : Type} {enc : TypeId × Value → H} {P : Program} {W : World} {sp : Nat → Bool} {held : Bool}
end
end Go.AV.Val
namespace Go.AV.Sch
open Go.AV.Ord Go.AV.Oct
structure CTypes (P : Program) (tC tX tS tB tL : TypeId) : Prop where
  c : ∃ fs, P.underlying tC = some (.struct fs) ∧ (∃ f, fs[0]? = some f ∧ f.type = tS ∧ f.offset = 0) ∧ (∃ f, fs[1]? = some f ∧ f.type = tL ∧ f.offset = 1) ∧ fs.size = 2
  x : ∃ fs, P.underlying tX = some (.struct fs) ∧ (∃ f, fs[0]? = some f ∧ f.type = tS ∧ f.offset = 0) ∧ (∃ f, fs[1]? = some f ∧ f.type = tS ∧ f.offset = 1) ∧ (∃ f, fs[2]? = some f ∧ f.type = tB ∧ f.offset = 2) ∧ fs.size = 3
  s : P.underlying tS = some .string
  b : P.underlying tB = some .bool
  l : P.underlying tL = some (.slice tX)
  cC : P.cellsOf tC = 2
  cX : P.cellsOf tX = 3
  cS : P.cellsOf tS = 1
  cB : P.cellsOf tB = 1
  cL : P.cellsOf tL = 1
section
variable {H : Type} {enc : TypeId × Value → H} {P : Program} {W : World} {sp : Nat → Bool} {held : Bool} {tC tX tS tB tL : TypeId}
theorem lst_len {m : Nat → Nat → Option Value} {a : Option Addr} {n cap sz : Nat} {ys : List DV} (h : RepD m (.slice a n cap) (.lst sz ys)) : ys.length = n := by
  cases h with
  | lstE => rfl
  | lst => assumption
theorem reads_ix (T : CTypes P tC tX tS tB tL) {fuel : Nat} {cs : List Value} {d : DataW H} {p : List MemPlace} (h : DataW.trod enc P W 0 sp held fuel tX cs = some (d, p)) (hl : cs.length = 3) : ∃ y, Go.AV.Reads W (fun y => ∃ x : Ix, y = ixD x) 3 cs y := by
  obtain ⟨fs, hu, ⟨f0, g0, e0, o0⟩, ⟨f1, g1, e1, o1⟩, ⟨f2, g2, e2, o2⟩, hsz⟩ := T.x
  obtain ⟨xs, n, hn, _, _, hxl, hx⟩ := DataW.trod_struct hu h
  subst hn
  obtain ⟨c0, c1, c2, rfl⟩ : ∃ c0 c1 c2, cs = [c0, c1, c2] := by
    match cs, hl with
    | [c0, c1, c2], _ => exact ⟨_, _, _, rfl⟩
  have get : ∀ i, i < 3 → ∃ x, xs[i]? = some x := fun i hi => ⟨_, List.getElem?_eq_getElem (by omega)⟩
  have q0 := hx 0 f0 g0
  have q1 := hx 1 f1 g1
  have q2 := hx 2 f2 g2
  rw [e0, o0, T.cS] at q0
  rw [e1, o1, T.cS] at q1
  rw [e2, o2, T.cB] at q2
  obtain ⟨⟨_, _⟩, x0⟩ := get 0 (by decide)
  obtain ⟨⟨_, _⟩, x1⟩ := get 1 (by decide)
  obtain ⟨⟨_, _⟩, x2⟩ := get 2 (by decide)
  rw [x0] at q0; rw [x1] at q1; rw [x2] at q2
  obtain ⟨y0, r0⟩ := reads_str T.s q0
  obtain ⟨y1, r1⟩ := reads_str T.s q1
  obtain ⟨y2, r2⟩ := reads_bool T.b q2
  obtain ⟨a, rfl⟩ := r0.good
  obtain ⟨b, rfl⟩ := r1.good
  obtain ⟨u, rfl⟩ := r2.good
  have p0 := Val.one_cell r0 rfl
  have p1 := Val.one_cell r1 rfl
  have p2 := Val.one_cell r2 rfl
  have ec : (ixD ⟨a, b, u⟩).cells = [S a, S b, TF u] := rfl
  refine ⟨ixD ⟨a, b, u⟩, rfl, by rw [ec]; rfl, fun z hz => ?_, ⟨_, rfl⟩, fun j hj hj' => ?_⟩
  · rw [ec] at hz
    simp only [List.mem_cons, List.not_mem_nil, or_false] at hz
    rcases hz with rfl | rfl | rfl <;> rfl
  · simp only [ec]
    match j, hj with
    | 0, _ => exact p0
    | 1, _ => exact p1
    | 2, _ => exact p2
theorem arg_coll (T : CTypes P tC tX tS tB tL) {r : Reach} {b0 : Nat} {v : Value} {d : DataW H} {ps : List MemPlace} (hval : Value.okWide P W r b0 tC v) (hd : DataW.Trod enc P W 0 sp held tC v d ps) :
    ∃ (name : List UInt8) (xs : List Ix), xs.length ≤ 9223372036854775807 ∧ Rep (ctx0 W) v (.d (.agg [S name, .lst 3 (xs.map ixD)])) := by
  obtain ⟨fs, hu, ⟨f0, g0, e0, o0⟩, ⟨f1, g1, e1, o1⟩, hsz⟩ := T.c
  obtain ⟨cs, rfl, hs⟩ := WideShapes.okWide_struct hu hval
  rw [T.cC] at hs
  obtain ⟨fuel, hf⟩ := hd
  obtain ⟨xs, n, hn, _, _, hxl, hx⟩ := DataW.trod_struct hu hf
  subst hn
  obtain ⟨c0, c1, rfl⟩ : ∃ c0 c1, cs = #[c0, c1] := by
    obtain ⟨l⟩ := cs
    match l, hs with
    | [c0, c1], _ => exact ⟨_, _, rfl⟩
  have get : ∀ i, i < 2 → ∃ x, xs[i]? = some x := fun i hi => ⟨_, List.getElem?_eq_getElem (by omega)⟩
  have q0 := hx 0 f0 g0
  have q1 := hx 1 f1 g1
  rw [e0, o0, T.cS] at q0
  rw [e1, o1, T.cL] at q1
  obtain ⟨⟨_, _⟩, x0⟩ := get 0 (by decide)
  obtain ⟨⟨_, _⟩, x1⟩ := get 1 (by decide)
  rw [x0] at q0; rw [x1] at q1
  replace q0 : DataW.trod enc P W 0 sp held n tS [c0] = _ := q0
  replace q1 : DataW.trod enc P W 0 sp held n tL [c1] = _ := q1
  obtain ⟨y0, r0⟩ := reads_str T.s q0
  obtain ⟨a, rfl⟩ := r0.good
  obtain ⟨ys, r1, l1⟩ := Val.list_cell (by decide) (fun y => ∃ x : Ix, y = ixD x) T.l T.cX q1 fun m hm cs d p h hl => reads_ix T h hl
  have hcap : ys.length ≤ 9223372036854775807 := by
    rcases DataW.trod_slice T.l q1 with ⟨h1, _⟩ | ⟨ad, len, cap, _, _, m, h0, h1, _, _, h2, h3, _⟩
    · cases h1
      rw [lst_len r1]; decide
    · cases h1
      rw [lst_len r1]
      have : (maxLen : Nat) = 9223372036854775807 := by decide
      omega
  obtain ⟨l, _, rfl⟩ := Val.all_map' (p := fun _ : Ix => True) (f := ixD) (ys := ys) fun y hy => (l1 y hy).imp fun x e => ⟨trivial, e⟩
  have p0 := Val.one_cell r0 rfl
  refine ⟨a, l, by simpa using hcap, .d (.agg _ [S a, .lst 3 (l.map ixD)] rfl (fun z hz => ?_) fun i hi => ?_)⟩
  · simp only [List.mem_cons, List.not_mem_nil, or_false] at hz
    rcases hz with rfl | rfl <;> rfl
  · match i, hi with
    | 0, _ => exact p0
    | 1, _ => exact r1
end
end Go.AV.Sch
namespace Go.AV.Sch
open Go.AV.Ord Go.AV.Oct Go.AV.Val
def fewIx (x : Ix) : Bool := decide (x.name.length ≤ 60) && decide (x.field.length ≤ 60)
def fewC (name : List UInt8) (xs : List Ix) : Bool := xs.all fewIx && decide (xs.length ≤ 12) && decide (name.length ≤ 60)
theorem fewC_parts {name : List UInt8} {xs : List Ix} (h : fewC name xs = true) : xs.length ≤ 12 ∧ name.length ≤ 60 := by
  simp only [fewC, Bool.and_eq_true, decide_eq_true_eq] at h
  exact ⟨h.1.2, h.2⟩
theorem fewC_step {xs : List Ix} {k : Nat} {y : Ix} (hy : xs[k]? = some y) (h : (xs.take k).all fewIx = true) (h1 : y.name.length ≤ 60) (h2 : y.field.length ≤ 60) : (xs.take (k + 1)).all fewIx = true := by
  rw [take_snoc hy, List.all_append, h]
  simp [fewIx, h1, h2]
theorem fewC_bad {name : List UInt8} {xs : List Ix} {k : Nat} {y : Ix} (hy : xs[k]? = some y) (h : fewIx y = false) : fewC name xs = false := by
  have : xs.all fewIx = false := by
    rw [List.all_eq_false]
    exact ⟨y, List.mem_of_getElem? hy, by simp [h]⟩
  simp [fewC, this]
def entryL (cn xn : List UInt8) (u : Bool) (v : V) (id : List UInt8) : List UInt8 := keyL [[105], cn, xn] ++ ordV v ++ (if u then [] else encT id)
theorem keyL_most : ∀ ps : List (List UInt8), (keyL ps).length ≤ 2 * (ps.map List.length).sum + 2 * ps.length
  | [] => by simp [keyL]
  | p :: ps => by
    have h1 := keyL_most ps
    have h2 := encT_len p
    have h3 := enc0_len p
    simp only [keyL, List.flatMap_cons, List.length_append, List.map_cons, List.sum_cons, List.length_cons] at h1 ⊢
    omega
def ordB : Nat → Nat
  | 0 => 0
  | n + 1 => 8 * ordB n + 1100
theorem ordV_few : ∀ (n : Nat) (v : V), fewV n v = true → (ordV v).length ≤ ordB n
  | 0, _, h => by simp [fewV] at h
  | n + 1, .mk k y i t l fs, h => by
    obtain ⟨h1, h2, h3, h4, h5⟩ := few_parts h
    simp only [V.list, V.fields, V.text] at h1 h2 h3 h4 h5
    have hl := flat_bound ordV (ordB n) l fun x hx => ordV_few n x (h4 x hx)
    have hf := flat_bound ordF1 (ordB n + 83) fs fun f hf => by
      have hh := ordV_few n f.val (h5 f hf).2
      have hn := encT_len f.name
      have hn2 := enc0_len f.name
      have := (h5 f hf).1
      simp only [ordF1, List.length_cons, List.length_append]
      omega
    have hl2 : l.length * ordB n ≤ 8 * ordB n := Nat.mul_le_mul_right _ h1
    have hf2 : fs.length * (ordB n + 83) ≤ 8 * (ordB n + 83) := Nat.mul_le_mul_right _ h2
    have ht := encT_len t
    have ht2 := enc0_len t
    have hi := encI_len i
    rw [ordV_mk]
    show _ ≤ 8 * ordB n + 1100
    split <;> (try split) <;> (try split) <;> (try split) <;> (try split) <;> simp only [List.length_cons, List.length_append, List.length_nil] <;> omega
def ordE (uq : Bool) (c : Int) (a b : List UInt8) : Int := if c = 0 ∧ uq = false then byL a b else c
theorem ordE_zero {uq : Bool} {c : Int} {a b : List UInt8} (h : c = 0) (hu : uq = false) : ordE uq c a b = byL a b := by rw [ordE, if_pos ⟨h, hu⟩]
theorem ordE_ne {uq : Bool} {c : Int} {a b : List UInt8} (h : ¬ c = 0) : ordE uq c a b = c := by rw [ordE, if_neg fun e => h e.1]
theorem ordE_uq {uq : Bool} {c : Int} {a b : List UInt8} (hu : uq = true) : ordE uq c a b = c := by rw [ordE, if_neg fun e => by rw [hu] at e; cases e.2]
theorem entry_by {u v : V} (hu : rightV 32 u = true) (hv : rightV 32 v = true) (wu : WfV u) (wv : WfV v) (cn xn : List UInt8) (uq : Bool) (a b : List UInt8) : byL (entryL cn xn uq u a) (entryL cn xn uq v b) = ordE uq (cmpV u v) a b := by
  simp only [entryL, List.append_assoc, byL_append]
  rcases ordV_cmp 32 u v hu hv wu wv with ⟨rfl, hc⟩ | ⟨_, hc, hall⟩
  · rw [byL_append]
    cases uq with
    | true => rw [ordE_uq rfl, hc]; exact byL_self []
    | false =>
      rw [ordE_zero hc rfl]
      by_cases hab : a = b
      · subst hab
        exact (byL_self _).trans (byL_self _).symm
      · have := byL_encT hab [] []
        simpa using this
  · rw [hall, ordE_ne hc]
end Go.AV.Sch
namespace Go.AV.Sch
open Go.AV.Ord Go.AV.Oct Go.AV.Hist
instance decIx : DecidableEq Ix := fun a b => decidable_of_iff (a.name = b.name ∧ a.field = b.field ∧ a.uniq = b.uniq) (by cases a; cases b; simp)
theorem rNum_ext {most : Int} {s r : List UInt8} {x : Nat} (h0 : 0 ≤ most) (hm : most ≤ 4294967295) (h : rNum most (s, false) = (x, (r, false))) (t : List UInt8) : rNum most (s ++ t, false) = (x, (r ++ t, false)) := by
  obtain ⟨h1, h2⟩ := rNum_back h
  rw [h1, List.append_assoc]
  exact rNum_fwd _ (szN_4 (by omega)) (by omega)
theorem rText_ext {most : Int} {s r x : List UInt8} (h0 : 0 ≤ most) (hm : most ≤ 4294967295) (h : rText most (s, false) = (x, (r, false))) (t : List UInt8) : rText most (s ++ t, false) = (x, (r ++ t, false)) := by
  obtain ⟨h1, h2⟩ := rText_back h
  rw [h1, List.append_assoc]
  exact rText_fwd _ hm (by omega)
theorem rFlag_ext {s r : List UInt8} {b : Bool} (h : rFlag (s, false) = (b, (r, false))) (t : List UInt8) : rFlag (s ++ t, false) = (b, (r ++ t, false)) := by
  rw [rFlag_back h, List.append_assoc]
  exact rFlag_fwd _ _
theorem rIx_ext {s r : List UInt8} {x : Ix} (h : rIx (s, false) = (x, (r, false))) (t : List UInt8) : rIx (s ++ t, false) = (x, (r ++ t, false)) := by
  unfold rIx at h ⊢
  obtain ⟨a, ⟨s1, b1⟩, h1⟩ : ∃ n st, rText 40 (s, false) = (n, st) := ⟨_, _, rfl⟩
  obtain ⟨b, ⟨s2, b2⟩, h2⟩ : ∃ n st, rText 40 (s1, b1) = (n, st) := ⟨_, _, rfl⟩
  obtain ⟨c, ⟨s3, b3⟩, h3⟩ : ∃ n st, rFlag (s2, b2) = (n, st) := ⟨_, _, rfl⟩
  simp only [h1, h2, h3, Prod.mk.injEq] at h
  obtain ⟨rfl, rfl, rfl⟩ := h
  cases b1 with
  | true => rw [rText_bad] at h2; cases h2; rw [rFlag_bad] at h3; cases h3
  | false =>
    cases b2 with
    | true => rw [rFlag_bad] at h3; cases h3
    | false => simp only [rText_ext (by decide) (by decide) h1 t, rText_ext (by decide) (by decide) h2 t, rFlag_ext h3 t]
theorem rIxs_ext (t : List UInt8) : ∀ (n : Nat) (s : List UInt8), (rIxs n (s, false)).2.2 = false → rIxs n (s ++ t, false) = ((rIxs n (s, false)).1, ((rIxs n (s, false)).2.1 ++ t, false))
  | 0, s, _ => rfl
  | n + 1, s, h => by
    obtain ⟨a, ⟨s1, b1⟩, h1⟩ : ∃ q st, rIxs n (s, false) = (q, st) := ⟨_, _, rfl⟩
    obtain ⟨x, ⟨s2, b2⟩, h2⟩ : ∃ q st, rIx (s1, b1) = (q, st) := ⟨_, _, rfl⟩
    have e : rIxs (n + 1) (s, false) = (a ++ [x], (s2, b2)) := by simp only [rIxs, h1, h2]
    rw [e] at h ⊢
    have hb2 : b2 = false := h
    subst hb2
    cases b1 with
    | true => have := rIx_bad s1; rw [h2] at this; cases this
    | false =>
      have ih := rIxs_ext t n s (by rw [h1])
      rw [h1] at ih
      simp only [rIxs, ih, rIx_ext h2 t]
theorem rEnd_zero {st : RS} (h : rEnd st = 0) : st = ([], false) := by
  obtain ⟨s, b⟩ := st
  unfold rEnd at h
  split at h
  · cases h
  · rename_i h1
    have : s = [] := List.length_eq_zero_iff.1 (by simpa using h1)
    subst this
    cases b with
    | true => cases h
    | false => rfl
theorem decC_ext {s : List UInt8} (h : rEnd (decC s).2 = 0) (t : List UInt8) : (decC (s ++ t)).2 = (t, false) := by
  have h1 := rEnd_zero h
  unfold decC at h1 ⊢
  obtain ⟨n, ⟨s1, b1⟩, e1⟩ : ∃ q st, rNum 8 (s, false) = (q, st) := ⟨_, _, rfl⟩
  simp only [e1] at h1
  cases b1 with
  | true => rw [rIxs_bad] at h1; cases h1
  | false =>
    simp only [rNum_ext (by decide) (by decide) e1 t]
    rw [rIxs_ext t n s1 (by rw [h1]), h1]
    rfl
theorem short_of {name : List UInt8} {xs : List Ix} (h : rightC name xs = true) : ∀ x ∈ xs, x.name.length ≤ 40 ∧ x.field.length ≤ 40 := fun x hx => (right_ix h x hx).2
theorem dec_right {name : List UInt8} {xs : List Ix} (h : rightC name xs = true) : decErr name (encC xs) = 0 ∧ decName name (encC xs) = name ∧ decIxs name (encC xs) = xs := by
  have hf := decC_fwd (xs := xs) [] (right_bounds h).1 (short_of h)
  rw [List.append_nil] at hf
  have hok : decOk name (encC xs) = true := by
    unfold decOk; rw [hf]; simp [h, rEnd, rErr]
  refine ⟨by simp [decErr, hok], by simp [decName, hok], by simp [decIxs, hok, hf]⟩
theorem dec_cut {name : List UInt8} {xs : List Ix} (h : rightC name xs = true) {m : Nat} (hm : m < (encC xs).length) : decErr name ((encC xs).take m) = 2 := by
  have hok : decOk name ((encC xs).take m) = false := by
    cases hq : decOk name ((encC xs).take m) with
    | false => rfl
    | true =>
      simp only [decOk, Bool.and_eq_true, beq_iff_eq] at hq
      have h1 := decC_ext hq.1 ((encC xs).drop m)
      rw [List.take_append_drop] at h1
      have hf := decC_fwd (xs := xs) [] (right_bounds h).1 (short_of h)
      rw [List.append_nil] at hf
      rw [hf] at h1
      have h2 : (encC xs).drop m = [] := by
        have := congrArg Prod.fst h1
        exact this.symm
      have h3 := congrArg List.length h2
      rw [List.length_drop] at h3
      simp at h3
      omega
  simp [decErr, hok]
theorem encC_pos (xs : List Ix) : 0 < (encC xs).length := by simp [encC, numB]
def X0 : Ix := ⟨[], [], false⟩
def findX (xs : List Ix) (n : List UInt8) : Option Ix := xs.find? fun y => y.name == n
theorem findX_none {xs : List Ix} {n : List UInt8} (h : ∀ x ∈ xs, x.name ≠ n) : findX xs n = none := by
  unfold findX
  rw [List.find?_eq_none]
  intro x hx
  simpa using h x hx
theorem findX_at {xs : List Ix} {n : List UInt8} {k : Nat} {y : Ix} (hy : xs[k]? = some y) (hn : ∀ x ∈ xs.take k, x.name ≠ n) (h : y.name = n) : findX xs n = some y := by
  unfold findX
  have hk : k < xs.length := (List.getElem?_eq_some_iff.1 hy).1
  rw [← List.take_append_drop k xs, List.find?_append, List.find?_eq_none.2 (fun x hx => by simpa using hn x hx), drop_one hy]
  simp [h]
theorem find_self {name : List UInt8} {xs : List Ix} (h : rightC name xs = true) {k : Nat} {x : Ix} (hx : xs[k]? = some x) : findX xs x.name = some x := by
  have := right_at h hx
  simp only [rightIx, Bool.and_eq_true, Bool.not_eq_true', List.any_eq_false, beq_iff_eq] at this
  exact findX_at hx (fun y hy e => this.2 y hy e.symm) rfl
theorem find_nil {name : List UInt8} {xs : List Ix} (h : rightC name xs = true) : findX xs [] = none := findX_none fun x hx => (right_ix h x hx).1
def okIx (seen : List (List UInt8)) (x : Ix) : Bool := nameB x.name && decide (x.field.length ≤ 40) && !decide (x.name ∈ seen)
def goodL (seen : List (List UInt8)) : List Ix → List (List UInt8)
  | [] => seen
  | x :: xs => if okIx seen x then goodL (seen ++ [x.name]) xs else seen
def rmsC (name : List UInt8) (xs : List Ix) : List MB := if nameB name && decide (xs.length ≤ 8) then [.map (bE (goodL [] xs))] else []
theorem any_mem (xs : List Ix) (n : List UInt8) : (xs.any fun y => n == y.name) = decide (n ∈ xs.map (·.name)) := by
  rw [Bool.eq_iff_iff, decide_eq_true_iff, List.any_eq_true, List.mem_map]
  simp only [beq_iff_eq]
  exact ⟨fun ⟨y, hy, e⟩ => ⟨y, hy, e.symm⟩, fun ⟨y, hy, e⟩ => ⟨y, hy, e.symm⟩⟩
theorem ok_ix {xs : List Ix} {k : Nat} {x : Ix} (hx : xs[k]? = some x) : okIx ((xs.take k).map (·.name)) x = rightAt xs k := by
  rw [rightAt_some hx, rightIx, any_mem]; rfl
theorem rightC_all {name : List UInt8} {xs : List Ix} (hn : nameB name = true) (h8 : xs.length ≤ 8) (h : (List.range xs.length).all (rightAt xs) = true) : rightC name xs = true := by
  rw [rightC_eq, hn, h]; simp [h8]
theorem nameB_yes {s : List UInt8} (h : s ≠ []) (h2 : s.length ≤ 40) : nameB s = true := by
  rw [nameB_ne h]; exact decide_eq_true (by omega)
theorem nameB_no {s : List UInt8} (h : ¬ s.length ≤ 40) : nameB s = false := by
  simp only [nameB, Bool.and_eq_false_iff, decide_eq_false_iff_not]; exact .inr h
def sameC (n : List UInt8) (xs : List Ix) (m : List UInt8) (ys : List Ix) : Bool := decide (n = m ∧ xs = ys)
theorem rms_no {name : List UInt8} {xs : List Ix} (h : nameB name = false ∨ ¬ xs.length ≤ 8) : rmsC name xs = [] ∧ rightC name xs = false := by
  unfold rmsC
  rw [rightC_eq]
  rcases h with h | h <;> simp [h]
theorem rms_yes {name : List UInt8} {xs : List Ix} (hn : nameB name = true) (h8 : xs.length ≤ 8) : rmsC name xs = [.map (bE (goodL [] xs))] := by
  unfold rmsC; rw [if_pos (by simp [hn, h8])]
def ixV (x : Ix) : List Value := [str x.name, str x.field, .bool x.uniq]
theorem and_16 (n : Int) : ∃ m : Nat, IntKind.i64.wrap ((BitVec.ofInt IntKind.i64.bits n &&& BitVec.ofInt IntKind.i64.bits 65535).toNat : Int) = (m : Int) := by
  refine ⟨(BitVec.ofInt IntKind.i64.bits n).toNat % 65536, ?_⟩
  have e : (BitVec.ofInt IntKind.i64.bits 65535).toNat = 2 ^ 16 - 1 := by decide
  rw [BitVec.toNat_and, e, Nat.and_two_pow_sub_one_eq_mod, wrap_i64 ⟨by omega, by omega⟩]
theorem right_nil {name : List UInt8} {xs : List Ix} (h : rightC name xs = true) : rightC name [] = true := by
  rw [rightC_eq] at h ⊢
  simp only [Bool.and_eq_true] at h
  rw [h.1.1]; rfl
theorem rms_maps (name : List UInt8) (xs : List Ix) : ∀ m ∈ rmsC name xs, ∃ es, m = .map es := fun m hm => by
  unfold rmsC at hm
  split at hm
  · exact ⟨_, List.mem_singleton.1 hm⟩
  · cases hm
theorem key_other (name : List UInt8) : ¬ keyL [[99], name] = keyL [[99], name ++ [120]] := fun h => by
  have h1 := congrArg partsA h
  rw [partsA_key, partsA_key] at h1
  simp at h1
theorem same_self (name : List UInt8) (xs : List Ix) : sameC name xs name xs = true := by simp [sameC]
theorem dec_no {name s : List UInt8} (h : decErr name s = 2) : decName name s = [] ∧ decIxs name s = [] := by
  have := dec_err (name := name) (s := s) (by rw [h]; decide)
  exact ⟨this.2.2.1, this.2.2.2⟩
theorem addM_blks {H : HS} {ms : List MB} : (H.addM ms).blks = H.blks := rfl
end Go.AV.Sch
namespace Go.Proofs.Ytjbpfnoibeogbaa
open Go.AV Go.AV.Ord Go.AV.Oct Go.AV.Hist Go.AV.Sb Go.AV.Sch
set_option linter.unusedVariables false
set_option linter.unusedSimpArgs false
theorem run_eqX (w : World) (d : Nat) (a b : Ix) : (Op.equalIn (d + 3) 88 (.agg (ixV a).toArray) (.agg (ixV b).toArray)).run Try.prog w = .ok (decide (a = b)) w := by
  have hS : Try.prog.underlying 88 = some (.struct (Try.prog.fieldsOf 88)) := by kernel_rfl
  have hp : Try.prog.stoodInHeld 88 = false := by kernel_rfl
  have u3 := Try.underlying4
  have a3 := Try.isAgg4
  have u9 := Try.underlying9
  have a9 := Try.isAgg9
  rw [run_equalIn_agg w (d + 2) 88 _ _ hS hp]
  simp only [Program.fieldsOf, Try.underlying88]
  obtain ⟨a1, a2, a3'⟩ := a
  obtain ⟨b1, b2, b3⟩ := b
  simp only [ixV, str]
  go_simp
  by_cases h1 : a1 = b1 <;> by_cases h2 : a2 = b2 <;> by_cases h3 : a3' = b3 <;> simp [h1, h2, h3]
theorem op_neX {E : Operand → AV} {H : HS} {dst : Option Tmp} {ty t' : TypeId} {pos : String} {after : Array Edge} {gd : Option (Nat × Bool)} {x y : Operand} {a b : Ix} (hx : E x = .d (.agg (ixC a))) (hy : E y = .d (.agg (ixC b))) :
    OpR Try.prog ⟨dst, .binOp .neq 88 x y t', ty, pos, after, gd⟩ E H (Ret (.d (TF (!decide (a = b)))) H) :=
  op_bin_agg (X := ixV a) (Y := ixV b) hx hy (fun w => run_eqGuard_agg w .neq 88 x y _ _ (by kernel_rfl)) fun w => by
    rw [run_neq_struct, show (10000 : Nat) = 9997 + 3 from rfl, run_eqX]; simp [Result.andThen]
set_option maxHeartbeats 2000000 in
set_option maxRecDepth 100000 in
theorem lright_ok (Hs : HS) (name : List UInt8) (xs : List Ix) (hno : NoIt Hs) (hl : xs.length ≤ 1000000) : ACalls Try.prog 29 [.d (.agg [S name, .lst 3 (xs.map ixD)])] Hs (Ret (.d (TF (rightC name xs))) (Hs.addM (rmsC name xs))) := by
 refine ACalls.tidyA ?_
 refine acalls_of_aw Try.func29 rfl ?_
 refine aw_start (T' := [.d (.agg [S name, .lst 3 (xs.map ixD)]), .un, .un, .un, .un, .un, .un, .un, .un, .un, .un, .un, .un, .un, .un, .un, .un, .un, .un, .un, .un, .un, .un, .un, .un, .un, .un, .un, .un, .un, .un, .un, .un, .un, .un, .un, .un, .un, .un, .un, .un, .un, .un, .un, .un, .un, .un, .un, .un, .un, .un, .un, .un, .un]) rfl ?_
 refine aw_seq ?_
 refine aw_region ?_
 refine zst (op_box_elt (cs := [S name, .lst 3 (xs.map ixD)]) (by rfl) (by rfl)) rfl (by dsimp only [zS, zN, zH, zT]) ?_
 refine zst (op_assign_const (by rfl)) rfl (by dsimp only [zS, zN, zH, zT]) ?_
 refine al_end rfl ?_
 refine then_normal ?_
 refine aw_seq ?_
 refine aw_seq ?_
 refine aw_region ?_
 refine zst (by first | exact op_fieldAddr_ptr Try.underlying77 rfl Sz9 (by rfl) (by rfl) | exact op_fieldAddr_elt Try.underlying77 rfl Sz9 (by rfl) (by rfl) (by rfl)) rfl (by dsimp only [zS, zN, zH, zT]) ?_
 refine zst (by first | exact op_load_elt Try.underlying9 (by rfl) (by rfl) (by rfl) | exact op_load_ptr Try.underlying9 (by rfl) (by rfl) (by repeat (first | assumption | exact push_at | exact setB_at push_at | (rw [setM_blks]) | (rw [pushM_blks]) | apply push_ne)) (by rfl)) rfl (by dsimp only [zS, zN, zH, zT]) ?_
 refine zst (op_eqS (by rfl) (by rfl)) rfl (by dsimp only [zS, zN, zH, zT]) ?_
 refine zst (op_move_tmp (by rfl)) rfl (by dsimp only [zS, zN, zH, zT]) ?_
 refine al_split 9 rfl (fun hg1 => ?_) (fun hg1 => ?_)
 ·
  (try simp only [y1, y2, y3, y4, y5, y6, y7, y8, y9, y0, List.length_map] at hg1)
  have h0 : name = [] := by simpa using hg1
  obtain ⟨hrm, hrc⟩ := rms_no (name := name) (xs := xs) (.inl (by rw [h0]; rfl))
  apply al_normT
  · (try dsimp only [zS, zN, zH, zT]); try exact rfl
  refine zuw rfl rfl rfl rfl (by dsimp only [zS, zN, zH, zT]) ?_
  refine zuw rfl rfl rfl rfl (by dsimp only [zS, zN, zH, zT]) ?_
  refine zuw rfl rfl rfl rfl (by dsimp only [zS, zN, zH, zT]) ?_
  refine zuw rfl rfl rfl rfl (by dsimp only [zS, zN, zH, zT]) ?_
  refine zst (op_pick_tt (by rfl) (val_const (by rfl))) rfl (by dsimp only [zS, zN, zH, zT]) ?_
  refine zst (op_move_tmp (by rfl)) rfl (by dsimp only [zS, zN, zH, zT]) ?_
  refine zuw rfl rfl rfl rfl (by dsimp only [zS, zN, zH, zT]) ?_
  refine zuw rfl rfl rfl rfl (by dsimp only [zS, zN, zH, zT]) ?_
  refine zuw rfl rfl rfl rfl (by dsimp only [zS, zN, zH, zT]) ?_
  refine zuw rfl rfl rfl rfl (by dsimp only [zS, zN, zH, zT]) ?_
  refine zst (op_pick_tt (by rfl) (val_const (by rfl))) rfl (by dsimp only [zS, zN, zH, zT]) ?_
  refine al_end rfl ?_
  refine then_normal ?_
  refine aw_cond rfl (fun _ => ?_) (fun h => by cases h)
  refine aw_seq ?_
  refine aw_region ?_
  refine zst (op_assign_const (by rfl)) rfl (by dsimp only [zS, zN, zH, zT]) ?_
  refine al_end rfl ?_
  refine then_normal ?_
  refine aw_ret ?_
  refine then_ret ?_
  refine retPost1 rfl rfl ?_
  exact ⟨[], .d _, by rw [addM_nil]; exact Ext.refl _, by rw [hrc]; rfl, by rw [hrm]⟩
 ·
  (try simp only [y1, y2, y3, y4, y5, y6, y7, y8, y9, y0, List.length_map] at hg1)
  have h0 : name ≠ [] := by simpa using hg1
  apply al_normT
  · (try dsimp only [zS, zN, zH, zT]); try exact rfl
  refine zsw rfl rfl rfl (by first | exact op_fieldAddr_ptr Try.underlying77 rfl Sz9 (by rfl) (by rfl) | exact op_fieldAddr_elt Try.underlying77 rfl Sz9 (by rfl) (by rfl) (by rfl)) (by dsimp only [zS, zN, zH, zT]) ?_
  refine zsw rfl rfl rfl (by first | exact op_load_elt Try.underlying9 (by rfl) (by rfl) (by rfl) | exact op_load_ptr Try.underlying9 (by rfl) (by rfl) (by repeat (first | assumption | exact push_at | exact setB_at push_at | (rw [setM_blks]) | (rw [pushM_blks]) | apply push_ne)) (by rfl)) (by dsimp only [zS, zN, zH, zT]) ?_
  refine zsw rfl rfl rfl (op_lenS Try.underlying9 (by rfl)) (by dsimp only [zS, zN, zH, zT]) ?_
  refine zsw rfl rfl rfl (op_gtI (by rfl) (by rfl)) (by dsimp only [zS, zN, zH, zT]) ?_
  refine zst (op_pick_ff (by rfl) (val_tmp (by rfl))) rfl (by dsimp only [zS, zN, zH, zT]) ?_
  refine zst (op_move_tmp (by rfl)) rfl (by dsimp only [zS, zN, zH, zT]) ?_
  refine al_split 15 rfl (fun hg3 => ?_) (fun hg3 => ?_)
  ·
   (try simp only [y1, y2, y3, y4, y5, y6, y7, y8, y9, y0, List.length_map] at hg3)
   have h40 : ¬ name.length ≤ 40 := by omega
   obtain ⟨hrm, hrc⟩ := rms_no (name := name) (xs := xs) (.inl (nameB_no h40))
   apply al_normT
   · (try dsimp only [zS, zN, zH, zT]); try exact rfl
   refine zuw rfl rfl rfl rfl (by dsimp only [zS, zN, zH, zT]) ?_
   refine zuw rfl rfl rfl rfl (by dsimp only [zS, zN, zH, zT]) ?_
   refine zuw rfl rfl rfl rfl (by dsimp only [zS, zN, zH, zT]) ?_
   refine zuw rfl rfl rfl rfl (by dsimp only [zS, zN, zH, zT]) ?_
   refine zst (op_pick_tt (by rfl) (val_const (by rfl))) rfl (by dsimp only [zS, zN, zH, zT]) ?_
   refine al_end rfl ?_
   refine then_normal ?_
   refine aw_cond rfl (fun _ => ?_) (fun h => by cases h)
   refine aw_seq ?_
   refine aw_region ?_
   refine zst (op_assign_const (by rfl)) rfl (by dsimp only [zS, zN, zH, zT]) ?_
   refine al_end rfl ?_
   refine then_normal ?_
   refine aw_ret ?_
   refine then_ret ?_
   refine retPost1 rfl rfl ?_
   exact ⟨[], .d _, by rw [addM_nil]; exact Ext.refl _, by rw [hrc]; rfl, by rw [hrm]⟩
  ·
   (try simp only [y1, y2, y3, y4, y5, y6, y7, y8, y9, y0, List.length_map] at hg3)
   have h40 : name.length ≤ 40 := by omega
   have hnB := nameB_yes h0 h40
   apply al_normT
   · (try dsimp only [zS, zN, zH, zT]); try exact rfl
   refine zsw rfl rfl rfl (by first | exact op_fieldAddr_ptr Try.underlying77 rfl Sz75 (by rfl) (by rfl) | exact op_fieldAddr_elt Try.underlying77 rfl Sz75 (by rfl) (by rfl) (by rfl)) (by dsimp only [zS, zN, zH, zT]) ?_
   refine zsw rfl rfl rfl (by first | exact op_load_elt Try.underlying75 (by rfl) (by rfl) (by rfl) | exact op_load_ptr Try.underlying75 (by rfl) (by rfl) (by repeat (first | assumption | exact push_at | exact setB_at push_at | (rw [setM_blks]) | (rw [pushM_blks]) | apply push_ne)) (by rfl)) (by dsimp only [zS, zN, zH, zT]) ?_
   refine zsw rfl rfl rfl (op_lenL Try.underlying75 (by first | exact LL.d _ _ | exact LL.own _ _ _ | exact LL.nil _ | assumption)) (by dsimp only [zS, zN, zH, zT]) ?_
   refine zsw rfl rfl rfl (op_gtI (by rfl) (by rfl)) (by dsimp only [zS, zN, zH, zT]) ?_
   refine zst (op_pick_ff (by rfl) (val_tmp (by rfl))) rfl (by dsimp only [zS, zN, zH, zT]) ?_
   refine al_end rfl ?_
   refine then_normal ?_
   refine aw_cond rfl (fun hc5 => ?_) (fun hc5 => ?_)
   ·
    (try simp only [y1, y2, y3, y4, y5, y6, y7, y8, y9, y0, List.length_map] at hc5)
    (try simp only [List.length_map] at hc5)
    have h8 : ¬ xs.length ≤ 8 := by omega
    obtain ⟨hrm, hrc⟩ := rms_no (name := name) (xs := xs) (.inr h8)
    refine aw_seq ?_
    refine aw_region ?_
    refine zst (op_assign_const (by rfl)) rfl (by dsimp only [zS, zN, zH, zT]) ?_
    refine al_end rfl ?_
    refine then_normal ?_
    refine aw_ret ?_
    refine then_ret ?_
    refine retPost1 rfl rfl ?_
    exact ⟨[], .d _, by rw [addM_nil]; exact Ext.refl _, by rw [hrc]; rfl, by rw [hrm]⟩
   ·
    (try simp only [y1, y2, y3, y4, y5, y6, y7, y8, y9, y0, List.length_map] at hc5)
    (try simp only [List.length_map] at hc5)
    have h8 : xs.length ≤ 8 := by omega
    refine aw_skip ?_
    refine then_normal ?_
    refine aw_seq ?_
    refine aw_region ?_
    refine zst (op_makeMap) rfl (by dsimp only [zS, zN, zH, zT]) ?_
    refine zst (op_assign_tmp (by rfl)) rfl (by dsimp only [zS, zN, zH, zT]) ?_
    refine al_end rfl ?_
    refine then_normal ?_
    refine aw_seq ?_
    refine aw_seq ?_
    refine aw_region ?_
    refine zst (by first | exact op_fieldAddr_ptr Try.underlying77 rfl Sz75 (by rfl) (by rfl) | exact op_fieldAddr_elt Try.underlying77 rfl Sz75 (by rfl) (by rfl) (by rfl)) rfl (by dsimp only [zS, zN, zH, zT]) ?_
    refine zst (by first | exact op_load_elt Try.underlying75 (by rfl) (by rfl) (by rfl) | exact op_load_ptr Try.underlying75 (by rfl) (by rfl) (by repeat (first | assumption | exact push_at | exact setB_at push_at | (rw [setM_blks]) | (rw [pushM_blks]) | apply push_ne)) (by rfl)) rfl (by dsimp only [zS, zN, zH, zT]) ?_
    refine zst (op_lenL Try.underlying75 (by first | exact LL.d _ _ | exact LL.own _ _ _ | exact LL.nil _ | assumption)) rfl (by dsimp only [zS, zN, zH, zT]) ?_
    refine zst (op_move_const (by rfl)) rfl (by dsimp only [zS, zN, zH, zT]) ?_
    refine al_end rfl ?_
    refine then_normal ?_
    refine aw_block ?_
    apply aw_loopF (fun n T H => ∃ (k : Nat), T = [.un, .elt [S name, .lst 3 (xs.map ixD)], .un, .map Hs.nm, .un, .un, .un, .un, .un, .un, .un, .un, .un, .un, .un, .un, .un, .un, .un, .un, .un, .un, .un, .d (.lst 3 (xs.map ixD)), .d (I (xs.map ixD).length), .d (I k), .un, .un, .un, .un, .un, .un, .un, .un, .un, .un, .un, .un, .un, .un, .un, .un, .un, .un, .un, .un, .un, .un, .un, .un, .un, .un, .un, .un] ∧ k ≤ xs.length ∧ n = xs.length - k ∧ (List.range k).all (rightAt xs) = true ∧ goodL ((xs.take k).map (·.name)) (xs.drop k) = goodL [] xs ∧ Ext (Hs.addM [.map (bE ((xs.take k).map (·.name)))]) H ∧ NoIt H) (xs.length) [false, true, false, true, false, false, false, false, false, false, false, false, false, false, false, false, false, false, false, false, false, false, false, true, true, true, false, false, false, false, false, false, false, false, false, false, false, false, false, false, false, false, false, false, false, false, false, false, false, false, false, false, false, false]
    · (try dsimp only [maskT]); try exact rfl
    · rfl
    · exact ⟨0, rfl, by omega, rfl, rfl, rfl, (Ext.pushAdd (ms := []) (by rw [addM_nil]; exact Ext.refl _)), hno.push _⟩
    rintro n T H ⟨k, rfl, hk, rfl, hall, hgl, hx, hni⟩
    refine aw_seq ?_
    refine aw_region ?_
    refine zst (op_ltI (by rfl) (by rfl)) rfl (by dsimp only [zS, zN, zH, zT]) ?_
    refine al_end rfl ?_
    refine then_normal ?_
    refine aw_seq ?_
    refine aw_cond rfl (fun hc6 => ?_) (fun hc6 => ?_)
    ·
     (try simp only [y1, y2, y3, y4, y5, y6, y7, y8, y9, y0, List.length_map] at hc6)
     (try simp only [List.length_map] at hc6)
     have hlt : k < xs.length := by omega
     obtain ⟨x, hx1⟩ : ∃ z0, xs[k]? = some z0 := ⟨_, List.getElem?_eq_getElem hlt⟩
     refine aw_skip ?_
     refine then_normal ?_
     refine aw_seq ?_
     refine aw_block ?_
     refine aw_seq ?_
     refine aw_region ?_
     refine zst (op_indexAddr (z := ixD x) (cs := [S x.name, S x.field, TF x.uniq]) Try.underlying75 Sz88 (LL.d _ _) (by rfl) (by omega) (by rw [List.getElem?_map, show ((k : Nat) : Int).toNat = k from rfl, hx1]; rfl) (by rfl)) rfl (by dsimp only [zS, zN, zH, zT]) ?_
     refine zst (op_load_elts (ds := ixC x) Try.underlying88 (by rfl) Sz88 (by rfl) (Nat.le_of_ble_eq_true rfl) (by rfl)) rfl (by dsimp only [zS, zN, zH, zT]) ?_
     refine zst (op_alloc (Zr88) (by rfl)) rfl (by dsimp only [zS, zN, zH, zT]) ?_
     refine zst (op_storeB (vs := [.d (S x.name), .d (S x.field), .d (TF x.uniq)]) (b' := ⟨88, [.d (S x.name), .d (S x.field), .d (TF x.uniq)], false⟩) (H' := _) Sz88 (by rfl) push_at (by intro h; cases h) (by rfl) (by rfl) (Nat.le_of_ble_eq_true rfl) (by simp [AV.one, DV.one, TF, S, I, BY]) (by rfl) (by rfl) rfl) rfl (by dsimp only [zS, zN, zH, zT]) ?_
     refine al_end rfl ?_
     refine then_normal ?_
     refine aw_seq ?_
     refine aw_seq ?_
     refine aw_region ?_
     refine zst (by first | exact op_fieldAddr_ptr Try.underlying88 rfl Sz9 (by rfl) (by rfl) | exact op_fieldAddr_elt Try.underlying88 rfl Sz9 (by rfl) (by rfl) (by rfl)) rfl (by dsimp only [zS, zN, zH, zT]) ?_
     refine zst (by first | exact op_load_elt Try.underlying9 (by rfl) (by rfl) (by rfl) | exact op_load_ptr Try.underlying9 (by rfl) (by rfl) (by repeat (first | assumption | exact push_at | exact setB_at push_at | (rw [setM_blks]) | (rw [pushM_blks]) | apply push_ne)) (by rfl)) rfl (by dsimp only [zS, zN, zH, zT]) ?_
     refine zst (op_eqS (by rfl) (by rfl)) rfl (by dsimp only [zS, zN, zH, zT]) ?_
     refine zst (op_move_tmp (by rfl)) rfl (by dsimp only [zS, zN, zH, zT]) ?_
     refine al_split 32 rfl (fun hg7 => ?_) (fun hg7 => ?_)
     ·
      (try simp only [y1, y2, y3, y4, y5, y6, y7, y8, y9, y0, List.length_map] at hg7)
      have q0 : x.name = [] := by simpa using hg7
      have hbad : okIx ((xs.take k).map (·.name)) x = false := by rw [okIx, q0]; rfl
      have hrc := right_bad (name := name) hlt (by rw [← ok_ix hx1]; exact hbad)
      rw [drop_one hx1, goodL, if_neg (by rw [hbad]; decide)] at hgl
      apply al_normT
      · (try dsimp only [zS, zN, zH, zT]); try exact rfl
      refine zuw rfl rfl rfl rfl (by dsimp only [zS, zN, zH, zT]) ?_
      refine zuw rfl rfl rfl rfl (by dsimp only [zS, zN, zH, zT]) ?_
      refine zuw rfl rfl rfl rfl (by dsimp only [zS, zN, zH, zT]) ?_
      refine zuw rfl rfl rfl rfl (by dsimp only [zS, zN, zH, zT]) ?_
      refine zst (op_pick_tt (by rfl) (val_const (by rfl))) rfl (by dsimp only [zS, zN, zH, zT]) ?_
      refine zst (op_move_tmp (by rfl)) rfl (by dsimp only [zS, zN, zH, zT]) ?_
      refine zuw rfl rfl rfl rfl (by dsimp only [zS, zN, zH, zT]) ?_
      refine zuw rfl rfl rfl rfl (by dsimp only [zS, zN, zH, zT]) ?_
      refine zuw rfl rfl rfl rfl (by dsimp only [zS, zN, zH, zT]) ?_
      refine zuw rfl rfl rfl rfl (by dsimp only [zS, zN, zH, zT]) ?_
      refine zst (op_pick_tt (by rfl) (val_const (by rfl))) rfl (by dsimp only [zS, zN, zH, zT]) ?_
      refine zst (op_move_tmp (by rfl)) rfl (by dsimp only [zS, zN, zH, zT]) ?_
      refine zuw rfl rfl rfl rfl (by dsimp only [zS, zN, zH, zT]) ?_
      refine zuw rfl rfl rfl rfl (by dsimp only [zS, zN, zH, zT]) ?_
      refine zuw rfl rfl rfl rfl (by dsimp only [zS, zN, zH, zT]) ?_
      refine zuw rfl rfl rfl rfl (by dsimp only [zS, zN, zH, zT]) ?_
      refine zst (op_pick_tt (by rfl) (val_const (by rfl))) rfl (by dsimp only [zS, zN, zH, zT]) ?_
      refine al_end rfl ?_
      refine then_normal ?_
      refine aw_cond rfl (fun _ => ?_) (fun h => by cases h)
      refine aw_seq ?_
      refine aw_region ?_
      refine zst (op_assign_const (by rfl)) rfl (by dsimp only [zS, zN, zH, zT]) ?_
      refine al_end rfl ?_
      refine then_normal ?_
      refine aw_ret ?_
      refine then_ret (inBlock_ret (then_ret (again_ret (inBlock_ret (then_ret ?_)))))
      refine retPost1 rfl rfl ?_
      exact ⟨[.map (bE ((xs.take k).map (·.name)))], .d _, (by repeat (first | assumption | apply Ext.push | (refine Ext.setB ?_ (by have := nb_le hx; (try simp only [setB_nb, push_nb]); omega)))), by rw [hrc]; rfl, by rw [rms_yes hnB h8, ← hgl]⟩
     ·
      (try simp only [y1, y2, y3, y4, y5, y6, y7, y8, y9, y0, List.length_map] at hg7)
      have q0 : x.name ≠ [] := by simpa using hg7
      apply al_normT
      · (try dsimp only [zS, zN, zH, zT]); try exact rfl
      refine zsw rfl rfl rfl (by first | exact op_fieldAddr_ptr Try.underlying88 rfl Sz9 (by rfl) (by rfl) | exact op_fieldAddr_elt Try.underlying88 rfl Sz9 (by rfl) (by rfl) (by rfl)) (by dsimp only [zS, zN, zH, zT]) ?_
      refine zsw rfl rfl rfl (by first | exact op_load_elt Try.underlying9 (by rfl) (by rfl) (by rfl) | exact op_load_ptr Try.underlying9 (by rfl) (by rfl) (by repeat (first | assumption | exact push_at | exact setB_at push_at | (rw [setM_blks]) | (rw [pushM_blks]) | apply push_ne)) (by rfl)) (by dsimp only [zS, zN, zH, zT]) ?_
      refine zsw rfl rfl rfl (op_lenS Try.underlying9 (by rfl)) (by dsimp only [zS, zN, zH, zT]) ?_
      refine zsw rfl rfl rfl (op_gtI (by rfl) (by rfl)) (by dsimp only [zS, zN, zH, zT]) ?_
      refine zst (op_pick_ff (by rfl) (val_tmp (by rfl))) rfl (by dsimp only [zS, zN, zH, zT]) ?_
      refine zst (op_move_tmp (by rfl)) rfl (by dsimp only [zS, zN, zH, zT]) ?_
      refine al_split 38 rfl (fun hg9 => ?_) (fun hg9 => ?_)
      ·
       (try simp only [y1, y2, y3, y4, y5, y6, y7, y8, y9, y0, List.length_map] at hg9)
       have q40 : ¬ x.name.length ≤ 40 := by omega
       have hbad : okIx ((xs.take k).map (·.name)) x = false := by rw [okIx, nameB_no q40]; rfl
       have hrc := right_bad (name := name) hlt (by rw [← ok_ix hx1]; exact hbad)
       rw [drop_one hx1, goodL, if_neg (by rw [hbad]; decide)] at hgl
       apply al_normT
       · (try dsimp only [zS, zN, zH, zT]); try exact rfl
       refine zuw rfl rfl rfl rfl (by dsimp only [zS, zN, zH, zT]) ?_
       refine zuw rfl rfl rfl rfl (by dsimp only [zS, zN, zH, zT]) ?_
       refine zuw rfl rfl rfl rfl (by dsimp only [zS, zN, zH, zT]) ?_
       refine zuw rfl rfl rfl rfl (by dsimp only [zS, zN, zH, zT]) ?_
       refine zst (op_pick_tt (by rfl) (val_const (by rfl))) rfl (by dsimp only [zS, zN, zH, zT]) ?_
       refine zst (op_move_tmp (by rfl)) rfl (by dsimp only [zS, zN, zH, zT]) ?_
       refine zuw rfl rfl rfl rfl (by dsimp only [zS, zN, zH, zT]) ?_
       refine zuw rfl rfl rfl rfl (by dsimp only [zS, zN, zH, zT]) ?_
       refine zuw rfl rfl rfl rfl (by dsimp only [zS, zN, zH, zT]) ?_
       refine zuw rfl rfl rfl rfl (by dsimp only [zS, zN, zH, zT]) ?_
       refine zst (op_pick_tt (by rfl) (val_const (by rfl))) rfl (by dsimp only [zS, zN, zH, zT]) ?_
       refine al_end rfl ?_
       refine then_normal ?_
       refine aw_cond rfl (fun _ => ?_) (fun h => by cases h)
       refine aw_seq ?_
       refine aw_region ?_
       refine zst (op_assign_const (by rfl)) rfl (by dsimp only [zS, zN, zH, zT]) ?_
       refine al_end rfl ?_
       refine then_normal ?_
       refine aw_ret ?_
       refine then_ret (inBlock_ret (then_ret (again_ret (inBlock_ret (then_ret ?_)))))
       refine retPost1 rfl rfl ?_
       exact ⟨[.map (bE ((xs.take k).map (·.name)))], .d _, (by repeat (first | assumption | apply Ext.push | (refine Ext.setB ?_ (by have := nb_le hx; (try simp only [setB_nb, push_nb]); omega)))), by rw [hrc]; rfl, by rw [rms_yes hnB h8, ← hgl]⟩
      ·
       (try simp only [y1, y2, y3, y4, y5, y6, y7, y8, y9, y0, List.length_map] at hg9)
       have q40 : x.name.length ≤ 40 := by omega
       have qnB := nameB_yes q0 q40
       apply al_normT
       · (try dsimp only [zS, zN, zH, zT]); try exact rfl
       refine zsw rfl rfl rfl (by first | exact op_fieldAddr_ptr Try.underlying88 rfl Sz9 (by rfl) (by rfl) | exact op_fieldAddr_elt Try.underlying88 rfl Sz9 (by rfl) (by rfl) (by rfl)) (by dsimp only [zS, zN, zH, zT]) ?_
       refine zsw rfl rfl rfl (by first | exact op_load_elt Try.underlying9 (by rfl) (by rfl) (by rfl) | exact op_load_ptr Try.underlying9 (by rfl) (by rfl) (by repeat (first | assumption | exact push_at | exact setB_at push_at | (rw [setM_blks]) | (rw [pushM_blks]) | apply push_ne)) (by rfl)) (by dsimp only [zS, zN, zH, zT]) ?_
       refine zsw rfl rfl rfl (op_lenS Try.underlying9 (by rfl)) (by dsimp only [zS, zN, zH, zT]) ?_
       refine zsw rfl rfl rfl (op_gtI (by rfl) (by rfl)) (by dsimp only [zS, zN, zH, zT]) ?_
       refine zst (op_pick_ff (by rfl) (val_tmp (by rfl))) rfl (by dsimp only [zS, zN, zH, zT]) ?_
       refine zst (op_move_tmp (by rfl)) rfl (by dsimp only [zS, zN, zH, zT]) ?_
       refine al_split 44 rfl (fun hg11 => ?_) (fun hg11 => ?_)
       ·
        (try simp only [y1, y2, y3, y4, y5, y6, y7, y8, y9, y0, List.length_map] at hg11)
        have qf : ¬ x.field.length ≤ 40 := by omega
        have hbad : okIx ((xs.take k).map (·.name)) x = false := by rw [okIx, decide_eq_false qf]; simp
        have hrc := right_bad (name := name) hlt (by rw [← ok_ix hx1]; exact hbad)
        rw [drop_one hx1, goodL, if_neg (by rw [hbad]; decide)] at hgl
        apply al_normT
        · (try dsimp only [zS, zN, zH, zT]); try exact rfl
        refine zuw rfl rfl rfl rfl (by dsimp only [zS, zN, zH, zT]) ?_
        refine zuw rfl rfl rfl rfl (by dsimp only [zS, zN, zH, zT]) ?_
        refine zuw rfl rfl rfl rfl (by dsimp only [zS, zN, zH, zT]) ?_
        refine zuw rfl rfl rfl rfl (by dsimp only [zS, zN, zH, zT]) ?_
        refine zst (op_pick_tt (by rfl) (val_const (by rfl))) rfl (by dsimp only [zS, zN, zH, zT]) ?_
        refine al_end rfl ?_
        refine then_normal ?_
        refine aw_cond rfl (fun _ => ?_) (fun h => by cases h)
        refine aw_seq ?_
        refine aw_region ?_
        refine zst (op_assign_const (by rfl)) rfl (by dsimp only [zS, zN, zH, zT]) ?_
        refine al_end rfl ?_
        refine then_normal ?_
        refine aw_ret ?_
        refine then_ret (inBlock_ret (then_ret (again_ret (inBlock_ret (then_ret ?_)))))
        refine retPost1 rfl rfl ?_
        exact ⟨[.map (bE ((xs.take k).map (·.name)))], .d _, (by repeat (first | assumption | apply Ext.push | (refine Ext.setB ?_ (by have := nb_le hx; (try simp only [setB_nb, push_nb]); omega)))), by rw [hrc]; rfl, by rw [rms_yes hnB h8, ← hgl]⟩
       ·
        (try simp only [y1, y2, y3, y4, y5, y6, y7, y8, y9, y0, List.length_map] at hg11)
        have qf : x.field.length ≤ 40 := by omega
        apply al_normT
        · (try dsimp only [zS, zN, zH, zT]); try exact rfl
        refine zsw rfl rfl rfl (op_move_tmp (by rfl)) (by dsimp only [zS, zN, zH, zT]) ?_
        refine zsw rfl rfl rfl (by first | exact op_fieldAddr_ptr Try.underlying88 rfl Sz9 (by rfl) (by rfl) | exact op_fieldAddr_elt Try.underlying88 rfl Sz9 (by rfl) (by rfl) (by rfl)) (by dsimp only [zS, zN, zH, zT]) ?_
        refine zsw rfl rfl rfl (by first | exact op_load_elt Try.underlying9 (by rfl) (by rfl) (by rfl) | exact op_load_ptr Try.underlying9 (by rfl) (by rfl) (by repeat (first | assumption | exact push_at | exact setB_at push_at | (rw [setM_blks]) | (rw [pushM_blks]) | apply push_ne)) (by rfl)) (by dsimp only [zS, zN, zH, zT]) ?_
        refine zsw rfl rfl rfl (op_lookup_b Try.underlying149 Try.underlying9 Zr4 (by rfl) (by rfl) (Ext.at0 (by repeat (first | assumption | apply Ext.push | (refine Ext.setB ?_ (by have := nb_le hx; (try simp only [setB_nb, push_nb]); omega)))))) (by dsimp only [zS, zN, zH, zT]) ?_
        refine zst (op_pick_ff (by rfl) (val_tmp (by rfl))) rfl (by dsimp only [zS, zN, zH, zT]) ?_
        refine al_end rfl ?_
        refine then_normal ?_
        refine aw_cond rfl (fun hc13 => ?_) (fun hc13 => ?_)
        ·
         (try simp only [y1, y2, y3, y4, y5, y6, y7, y8, y9, y0, List.length_map] at hc13)
         have qs : x.name ∈ ((xs.take k).map (·.name)) := by simpa using hc13
         have hbad : okIx ((xs.take k).map (·.name)) x = false := by rw [okIx, decide_eq_true qs]; simp
         have hrc := right_bad (name := name) hlt (by rw [← ok_ix hx1]; exact hbad)
         rw [drop_one hx1, goodL, if_neg (by rw [hbad]; decide)] at hgl
         refine aw_seq ?_
         refine aw_region ?_
         refine zst (op_assign_const (by rfl)) rfl (by dsimp only [zS, zN, zH, zT]) ?_
         refine al_end rfl ?_
         refine then_normal ?_
         refine aw_ret ?_
         refine then_ret (inBlock_ret (then_ret (again_ret (inBlock_ret (then_ret ?_)))))
         refine retPost1 rfl rfl ?_
         exact ⟨[.map (bE ((xs.take k).map (·.name)))], .d _, (by repeat (first | assumption | apply Ext.push | (refine Ext.setB ?_ (by have := nb_le hx; (try simp only [setB_nb, push_nb]); omega)))), by rw [hrc]; rfl, by rw [rms_yes hnB h8, ← hgl]⟩
        ·
         (try simp only [y1, y2, y3, y4, y5, y6, y7, y8, y9, y0, List.length_map] at hc13)
         have qs : ¬ x.name ∈ ((xs.take k).map (·.name)) := by simpa using hc13
         have hgood : okIx ((xs.take k).map (·.name)) x = true := by rw [okIx, qnB, decide_eq_true qf, decide_eq_false qs]; rfl
         have hra : rightAt xs k = true := by rw [← ok_ix hx1]; exact hgood
         rw [drop_one hx1, goodL, if_pos hgood] at hgl
         refine aw_skip ?_
         refine then_normal ?_
         refine aw_region ?_
         refine zst (op_move_tmp (by rfl)) rfl (by dsimp only [zS, zN, zH, zT]) ?_
         refine zst (by first | exact op_fieldAddr_ptr Try.underlying88 rfl Sz9 (by rfl) (by rfl) | exact op_fieldAddr_elt Try.underlying88 rfl Sz9 (by rfl) (by rfl) (by rfl)) rfl (by dsimp only [zS, zN, zH, zT]) ?_
         refine zst (by first | exact op_load_elt Try.underlying9 (by rfl) (by rfl) (by rfl) | exact op_load_ptr Try.underlying9 (by rfl) (by rfl) (by repeat (first | assumption | exact push_at | exact setB_at push_at | (rw [setM_blks]) | (rw [pushM_blks]) | apply push_ne)) (by rfl)) rfl (by dsimp only [zS, zN, zH, zT]) ?_
         refine zst (op_mapUpdate (d := TF true) Try.underlying149 Try.underlying9 (by rfl) (by rfl) (Weak.refl _) (Ext.at0 (by repeat (first | assumption | apply Ext.push | (refine Ext.setB ?_ (by have := nb_le hx; (try simp only [setB_nb, push_nb]); omega))))) (fun j n q => (hni.of rfl) j _ n q)) rfl (by dsimp only [zS, zN, zH, zT]) ?_
         refine al_end rfl ?_
         refine inBlock_normal (then_normal ?_)
         refine aw_region ?_
         refine zst (by first | exact op_add (by rfl) (by rfl) (wrap_i64 ⟨by omega, by omega⟩) | exact op_add (by rfl) (by rfl) (by rfl)) rfl (by dsimp only [zS, zN, zH, zT]) ?_
         refine zst (op_move_tmp (by rfl)) rfl (by dsimp only [zS, zN, zH, zT]) ?_
         refine al_end rfl ?_
         apply again_to (xs.length - (k + 1)) [false, true, false, true, false, false, false, false, false, false, false, false, false, false, false, false, false, false, false, false, false, false, false, true, true, true, false, false, false, false, false, false, false, false, false, false, false, false, false, false, false, false, false, false, false, false, false, false, false, false, false, false, false, false]
         · (try dsimp only [maskT]); try exact rfl
         · rfl
         · omega
         exact ⟨k + 1, rfl, by omega, rfl, right_step hall hra, by rw [take_snoc hx1, List.map_append]; exact hgl, by rw [take_snoc hx1, List.map_append]; show Ext (Hs.addM [.map (bE (((xs.take k).map (·.name)) ++ [x.name]))]) _; rw [← putE_bE qs]; exact Ext.set0 (by repeat (first | assumption | apply Ext.push | (refine Ext.setB ?_ (by have := nb_le hx; (try simp only [setB_nb, push_nb]); omega)))) _, NoIt.setM (hni.of rfl) _ _⟩
    ·
     (try simp only [y1, y2, y3, y4, y5, y6, y7, y8, y9, y0, List.length_map] at hc6)
     (try simp only [List.length_map] at hc6)
     have hke : k = xs.length := by omega
     subst hke
     have hrc := rightC_all hnB h8 hall
     rw [List.drop_length, goodL] at hgl
     refine aw_exit ?_
     refine then_exit (again_exit (inBlock_here (then_normal ?_)))
     refine aw_seq ?_
     refine aw_region ?_
     refine zst (op_assign_const (by rfl)) rfl (by dsimp only [zS, zN, zH, zT]) ?_
     refine al_end rfl ?_
     refine then_normal ?_
     refine aw_ret ?_
     refine retPost1 rfl rfl ?_
     exact ⟨[.map (bE ((xs.take xs.length).map (·.name)))], .d _, (by repeat (first | assumption | apply Ext.push | (refine Ext.setB ?_ (by have := nb_le hx; (try simp only [setB_nb, push_nb]); omega)))), by rw [hrc]; rfl, by rw [rms_yes hnB h8, ← hgl]⟩
set_option maxRecDepth 100000 in
theorem same_ok (Hs : HS) (name : List UInt8) (xs : List Ix) (m : List UInt8) (ys : List Ix) (hl : xs.length ≤ 1000000) : ACalls Try.prog 31 [.d (.agg [S name, .lst 3 (xs.map ixD)]), .d (.agg [S m, .lst 3 (ys.map ixD)])] Hs (Ret (.d (TF (sameC name xs m ys))) Hs) := by
 refine acalls_of_aw Try.func31 rfl ?_
 refine aw_start (T' := [.d (.agg [S name, .lst 3 (xs.map ixD)]), .d (.agg [S m, .lst 3 (ys.map ixD)]), .un, .un, .un, .un, .un, .un, .un, .un, .un, .un, .un, .un, .un, .un, .un, .un, .un, .un, .un, .un, .un, .un, .un, .un, .un, .un, .un, .un, .un, .un, .un, .un, .un, .un, .un, .un]) rfl ?_
 refine aw_seq ?_
 refine aw_region ?_
 refine zst (op_box_elt (cs := [S name, .lst 3 (xs.map ixD)]) (by rfl) (by rfl)) rfl (by dsimp only [zS, zN, zH, zT]) ?_
 refine zst (op_box_elt (cs := [S m, .lst 3 (ys.map ixD)]) (by rfl) (by rfl)) rfl (by dsimp only [zS, zN, zH, zT]) ?_
 refine zst (op_assign_const (by rfl)) rfl (by dsimp only [zS, zN, zH, zT]) ?_
 refine al_end rfl ?_
 refine then_normal ?_
 refine aw_seq ?_
 refine aw_seq ?_
 refine aw_region ?_
 refine zst (by first | exact op_fieldAddr_ptr Try.underlying77 rfl Sz9 (by rfl) (by rfl) | exact op_fieldAddr_elt Try.underlying77 rfl Sz9 (by rfl) (by rfl) (by rfl)) rfl (by dsimp only [zS, zN, zH, zT]) ?_
 refine zst (by first | exact op_load_elt Try.underlying9 (by rfl) (by rfl) (by rfl) | exact op_load_ptr Try.underlying9 (by rfl) (by rfl) (by rfl) (by rfl)) rfl (by dsimp only [zS, zN, zH, zT]) ?_
 refine zst (by first | exact op_fieldAddr_ptr Try.underlying77 rfl Sz9 (by rfl) (by rfl) | exact op_fieldAddr_elt Try.underlying77 rfl Sz9 (by rfl) (by rfl) (by rfl)) rfl (by dsimp only [zS, zN, zH, zT]) ?_
 refine zst (by first | exact op_load_elt Try.underlying9 (by rfl) (by rfl) (by rfl) | exact op_load_ptr Try.underlying9 (by rfl) (by rfl) (by rfl) (by rfl)) rfl (by dsimp only [zS, zN, zH, zT]) ?_
 refine zst (op_neS (by rfl) (by rfl)) rfl (by dsimp only [zS, zN, zH, zT]) ?_
 refine zst (op_move_tmp (by rfl)) rfl (by dsimp only [zS, zN, zH, zT]) ?_
 refine al_split 11 rfl (fun hg1 => ?_) (fun hg1 => ?_)
 ·
  (try simp only [y1, y2, y3, y4, y5, y6, y7, y8, y9, y0, List.length_map] at hg1)
  have hn : ¬ name = m := by simpa using hg1
  apply al_normT
  · (try dsimp only [zS, zN, zH, zT]); try exact rfl
  refine zuw rfl rfl rfl rfl (by dsimp only [zS, zN, zH, zT]) ?_
  refine zuw rfl rfl rfl rfl (by dsimp only [zS, zN, zH, zT]) ?_
  refine zuw rfl rfl rfl rfl (by dsimp only [zS, zN, zH, zT]) ?_
  refine zuw rfl rfl rfl rfl (by dsimp only [zS, zN, zH, zT]) ?_
  refine zuw rfl rfl rfl rfl (by dsimp only [zS, zN, zH, zT]) ?_
  refine zuw rfl rfl rfl rfl (by dsimp only [zS, zN, zH, zT]) ?_
  refine zuw rfl rfl rfl rfl (by dsimp only [zS, zN, zH, zT]) ?_
  refine zst (op_pick_tt (by rfl) (val_const (by rfl))) rfl (by dsimp only [zS, zN, zH, zT]) ?_
  refine al_end rfl ?_
  refine then_normal ?_
  refine aw_cond rfl (fun _ => ?_) (fun h => by cases h)
  refine aw_seq ?_
  refine aw_region ?_
  refine zst (op_assign_const (by rfl)) rfl (by dsimp only [zS, zN, zH, zT]) ?_
  refine al_end rfl ?_
  refine then_normal ?_
  refine aw_ret ?_
  refine then_ret ?_
  refine retPost1 rfl rfl ?_
  exact ⟨by unfold sameC; rw [decide_eq_false (fun h => hn h.1)]; rfl, rfl⟩
 ·
  (try simp only [y1, y2, y3, y4, y5, y6, y7, y8, y9, y0, List.length_map] at hg1)
  have hn : name = m := by simpa using hg1
  apply al_normT
  · (try dsimp only [zS, zN, zH, zT]); try exact rfl
  refine zsw rfl rfl rfl (by first | exact op_fieldAddr_ptr Try.underlying77 rfl Sz75 (by rfl) (by rfl) | exact op_fieldAddr_elt Try.underlying77 rfl Sz75 (by rfl) (by rfl) (by rfl)) (by dsimp only [zS, zN, zH, zT]) ?_
  refine zsw rfl rfl rfl (by first | exact op_load_elt Try.underlying75 (by rfl) (by rfl) (by rfl) | exact op_load_ptr Try.underlying75 (by rfl) (by rfl) (by rfl) (by rfl)) (by dsimp only [zS, zN, zH, zT]) ?_
  refine zsw rfl rfl rfl (op_lenL Try.underlying75 (by first | exact LL.d _ _ | exact LL.own _ _ _ | exact LL.nil _ | assumption)) (by dsimp only [zS, zN, zH, zT]) ?_
  refine zsw rfl rfl rfl (by first | exact op_fieldAddr_ptr Try.underlying77 rfl Sz75 (by rfl) (by rfl) | exact op_fieldAddr_elt Try.underlying77 rfl Sz75 (by rfl) (by rfl) (by rfl)) (by dsimp only [zS, zN, zH, zT]) ?_
  refine zsw rfl rfl rfl (by first | exact op_load_elt Try.underlying75 (by rfl) (by rfl) (by rfl) | exact op_load_ptr Try.underlying75 (by rfl) (by rfl) (by rfl) (by rfl)) (by dsimp only [zS, zN, zH, zT]) ?_
  refine zsw rfl rfl rfl (op_lenL Try.underlying75 (by first | exact LL.d _ _ | exact LL.own _ _ _ | exact LL.nil _ | assumption)) (by dsimp only [zS, zN, zH, zT]) ?_
  refine zsw rfl rfl rfl (op_neI (by rfl) (by rfl)) (by dsimp only [zS, zN, zH, zT]) ?_
  refine zst (op_pick_ff (by rfl) (val_tmp (by rfl))) rfl (by dsimp only [zS, zN, zH, zT]) ?_
  refine al_end rfl ?_
  refine then_normal ?_
  refine aw_cond rfl (fun hc3 => ?_) (fun hc3 => ?_)
  ·
   (try simp only [y1, y2, y3, y4, y5, y6, y7, y8, y9, y0, List.length_map] at hc3)
   (try simp only [List.length_map] at hc3)
   have hll : ¬ xs.length = ys.length := by omega
   refine aw_seq ?_
   refine aw_region ?_
   refine zst (op_assign_const (by rfl)) rfl (by dsimp only [zS, zN, zH, zT]) ?_
   refine al_end rfl ?_
   refine then_normal ?_
   refine aw_ret ?_
   refine then_ret ?_
   refine retPost1 rfl rfl ?_
   exact ⟨by unfold sameC; rw [decide_eq_false (fun h => hll (by rw [h.2]))]; rfl, rfl⟩
  ·
   (try simp only [y1, y2, y3, y4, y5, y6, y7, y8, y9, y0, List.length_map] at hc3)
   (try simp only [List.length_map] at hc3)
   have hll : xs.length = ys.length := by omega
   refine aw_skip ?_
   refine then_normal ?_
   refine aw_seq ?_
   refine aw_seq ?_
   refine aw_region ?_
   refine zst (by first | exact op_fieldAddr_ptr Try.underlying77 rfl Sz75 (by rfl) (by rfl) | exact op_fieldAddr_elt Try.underlying77 rfl Sz75 (by rfl) (by rfl) (by rfl)) rfl (by dsimp only [zS, zN, zH, zT]) ?_
   refine zst (by first | exact op_load_elt Try.underlying75 (by rfl) (by rfl) (by rfl) | exact op_load_ptr Try.underlying75 (by rfl) (by rfl) (by rfl) (by rfl)) rfl (by dsimp only [zS, zN, zH, zT]) ?_
   refine zst (op_lenL Try.underlying75 (by first | exact LL.d _ _ | exact LL.own _ _ _ | exact LL.nil _ | assumption)) rfl (by dsimp only [zS, zN, zH, zT]) ?_
   refine zst (op_move_const (by rfl)) rfl (by dsimp only [zS, zN, zH, zT]) ?_
   refine al_end rfl ?_
   refine then_normal ?_
   refine aw_block ?_
   apply aw_loopF (fun n T H => ∃ (k : Nat), T = [.un, .un, .elt [S name, .lst 3 (xs.map ixD)], .elt [S m, .lst 3 (ys.map ixD)], .un, .un, .un, .un, .un, .un, .un, .un, .un, .un, .un, .un, .un, .un, .un, .un, .un, .d (.lst 3 (xs.map ixD)), .d (I (xs.map ixD).length), .d (I k), .un, .un, .un, .un, .un, .un, .un, .un, .un, .un, .un, .un, .un, .un] ∧ k ≤ xs.length ∧ n = xs.length - k ∧ xs.take k = ys.take k ∧ Hs = H) (xs.length) [false, false, true, true, false, false, false, false, false, false, false, false, false, false, false, false, false, false, false, false, false, true, true, true, false, false, false, false, false, false, false, false, false, false, false, false, false, false]
   · (try dsimp only [maskT]); try exact rfl
   · rfl
   · exact ⟨0, rfl, by omega, rfl, rfl, rfl⟩
   rintro n T H ⟨k, rfl, hk, rfl, htk, rfl⟩
   refine aw_seq ?_
   refine aw_region ?_
   refine zst (op_ltI (by rfl) (by rfl)) rfl (by dsimp only [zS, zN, zH, zT]) ?_
   refine al_end rfl ?_
   refine then_normal ?_
   refine aw_seq ?_
   refine aw_cond rfl (fun hc4 => ?_) (fun hc4 => ?_)
   ·
    (try simp only [y1, y2, y3, y4, y5, y6, y7, y8, y9, y0, List.length_map] at hc4)
    (try simp only [List.length_map] at hc4)
    have hlt : k < xs.length := by omega
    obtain ⟨x, hx1⟩ : ∃ z0, xs[k]? = some z0 := ⟨_, List.getElem?_eq_getElem hlt⟩
    obtain ⟨y, hy1⟩ : ∃ z0, ys[k]? = some z0 := ⟨_, List.getElem?_eq_getElem (by omega)⟩
    refine aw_skip ?_
    refine then_normal ?_
    refine aw_seq ?_
    refine aw_block ?_
    refine aw_seq ?_
    refine aw_region ?_
    refine zst (op_move_tmp (by rfl)) rfl (by dsimp only [zS, zN, zH, zT]) ?_
    refine zst (op_assign_tmp (by rfl)) rfl (by dsimp only [zS, zN, zH, zT]) ?_
    refine al_end rfl ?_
    refine then_normal ?_
    refine aw_seq ?_
    refine aw_draw [0, 1, 0, 0, 1, 0, 1, 0, 0, 1, 0] mixed (by kernel_rfl) ?_
    refine zd0 (fun H => (by first | exact op_fieldAddr_ptr Try.underlying77 rfl Sz75 (by rfl) (by rfl) | exact op_fieldAddr_elt Try.underlying77 rfl Sz75 (by rfl) (by rfl) (by rfl))) rfl (by dsimp only [zS, zN, zH, zT]) ?_
    refine zd1 (by first | exact op_load_elt Try.underlying75 (by rfl) (by rfl) (by rfl) | exact op_load_ptr Try.underlying75 (by rfl) (by rfl) (by rfl) (by rfl)) rfl (by dsimp only [zS, zN, zH, zT]) ?_
    refine zd0 (fun H => (op_move_tmp (by rfl))) rfl (by dsimp only [zS, zN, zH, zT]) ?_
    refine zd0 (fun H => (op_indexAddr (z := ixD x) (cs := [S x.name, S x.field, TF x.uniq]) Try.underlying75 Sz88 (LL.d _ _) (by rfl) (by omega) (by rw [List.getElem?_map, show ((k : Nat) : Int).toNat = k from rfl, hx1]; rfl) (by rfl))) rfl (by dsimp only [zS, zN, zH, zT]) ?_
    refine zd1 (op_load_elts (ds := ixC x) Try.underlying88 (by rfl) Sz88 (by rfl) (Nat.le_of_ble_eq_true rfl) (by rfl)) rfl (by dsimp only [zS, zN, zH, zT]) ?_
    refine zd0 (fun H => (by first | exact op_fieldAddr_ptr Try.underlying77 rfl Sz75 (by rfl) (by rfl) | exact op_fieldAddr_elt Try.underlying77 rfl Sz75 (by rfl) (by rfl) (by rfl))) rfl (by dsimp only [zS, zN, zH, zT]) ?_
    refine zd1 (by first | exact op_load_elt Try.underlying75 (by rfl) (by rfl) (by rfl) | exact op_load_ptr Try.underlying75 (by rfl) (by rfl) (by rfl) (by rfl)) rfl (by dsimp only [zS, zN, zH, zT]) ?_
    refine zd0 (fun H => (op_move_tmp (by rfl))) rfl (by dsimp only [zS, zN, zH, zT]) ?_
    refine zd0 (fun H => (op_indexAddr (z := ixD y) (cs := [S y.name, S y.field, TF y.uniq]) Try.underlying75 Sz88 (LL.d _ _) (by rfl) (by omega) (by rw [List.getElem?_map, show ((k : Nat) : Int).toNat = k from rfl, hy1]; rfl) (by rfl))) rfl (by dsimp only [zS, zN, zH, zT]) ?_
    refine zd1 (op_load_elts (ds := ixC y) Try.underlying88 (by rfl) Sz88 (by rfl) (Nat.le_of_ble_eq_true rfl) (by rfl)) rfl (by dsimp only [zS, zN, zH, zT]) ?_
    refine zd0 (fun H => (op_neX (by rfl) (by rfl))) rfl (by dsimp only [zS, zN, zH, zT]) ?_
    refine drun_end rfl ?_
    refine then_normal ?_
    refine aw_cond rfl (fun hc5 => ?_) (fun hc5 => ?_)
    ·
     (try simp only [y1, y2, y3, y4, y5, y6, y7, y8, y9, y0, List.length_map] at hc5)
     have hxy : ¬ x = y := by simpa using hc5
     refine aw_seq ?_
     refine aw_region ?_
     refine zst (op_assign_const (by rfl)) rfl (by dsimp only [zS, zN, zH, zT]) ?_
     refine al_end rfl ?_
     refine then_normal ?_
     refine aw_ret ?_
     refine inBlock_ret (then_ret (again_ret (inBlock_ret (then_ret ?_))))
     refine retPost1 rfl rfl ?_
     exact ⟨by unfold sameC; rw [decide_eq_false (fun h => hxy (by have h2 := h.2; subst h2; rw [hx1] at hy1; exact Option.some.inj hy1))]; rfl, rfl⟩
    ·
     (try simp only [y1, y2, y3, y4, y5, y6, y7, y8, y9, y0, List.length_map] at hc5)
     have hxy : x = y := by simpa using hc5
     refine aw_skip ?_
     refine inBlock_normal (then_normal ?_)
     refine aw_region ?_
     refine zst (by first | exact op_add (by rfl) (by rfl) (wrap_i64 ⟨by omega, by omega⟩) | exact op_add (by rfl) (by rfl) (by rfl)) rfl (by dsimp only [zS, zN, zH, zT]) ?_
     refine zst (op_move_tmp (by rfl)) rfl (by dsimp only [zS, zN, zH, zT]) ?_
     refine al_end rfl ?_
     apply again_to (xs.length - (k + 1)) [false, false, true, true, false, false, false, false, false, false, false, false, false, false, false, false, false, false, false, false, false, true, true, true, false, false, false, false, false, false, false, false, false, false, false, false, false, false]
     · (try dsimp only [maskT]); try exact rfl
     · rfl
     · omega
     exact ⟨k + 1, rfl, by omega, rfl, by rw [take_snoc hx1, take_snoc hy1, htk, hxy], rfl⟩
   ·
    (try simp only [y1, y2, y3, y4, y5, y6, y7, y8, y9, y0, List.length_map] at hc4)
    (try simp only [List.length_map] at hc4)
    have hke : k = xs.length := by omega
    subst hke
    rw [List.take_length, hll, List.take_length] at htk
    refine aw_exit ?_
    refine then_exit (again_exit (inBlock_here (then_normal ?_)))
    refine aw_seq ?_
    refine aw_region ?_
    refine zst (op_assign_const (by rfl)) rfl (by dsimp only [zS, zN, zH, zT]) ?_
    refine al_end rfl ?_
    refine then_normal ?_
    refine aw_ret ?_
    refine retPost1 rfl rfl ?_
    exact ⟨by unfold sameC; rw [decide_eq_true ⟨hn, htk⟩]; rfl, rfl⟩
set_option maxRecDepth 100000 in
theorem fcl_ok (Hs : HS) (x : Ix) (nm : List UInt8) : ACalls Try.prog 73 [.d (ixD x), .elt [S nm]] Hs (Ret (.d (TF (x.name == nm))) Hs) := by
 refine acalls_of_aw Try.func73 rfl ?_
 refine aw_start (T' := [.d (ixD x), .elt [S nm], .un, .un, .un, .un, .un, .un]) rfl ?_
 refine aw_seq ?_
 refine aw_region ?_
 refine zst (op_box_elt (cs := [S x.name, S x.field, TF x.uniq]) (by rfl) (by rfl)) rfl (by dsimp only [zS, zN, zH, zT]) ?_
 refine zst (op_assign_const (by rfl)) rfl (by dsimp only [zS, zN, zH, zT]) ?_
 refine al_end rfl ?_
 refine then_normal ?_
 refine aw_seq ?_
 refine aw_region ?_
 refine zst (by first | exact op_fieldAddr_ptr Try.underlying88 rfl Sz9 (by rfl) (by rfl) | exact op_fieldAddr_elt Try.underlying88 rfl Sz9 (by rfl) (by rfl) (by rfl)) rfl (by dsimp only [zS, zN, zH, zT]) ?_
 refine zst (by first | exact op_load_elt Try.underlying9 (by rfl) (by rfl) (by rfl) | exact op_load_ptr Try.underlying9 (by rfl) (by rfl) (by rfl) (by rfl)) rfl (by dsimp only [zS, zN, zH, zT]) ?_
 refine zst (by first | exact op_load_elt Try.underlying9 (by rfl) (by rfl) (by rfl) | exact op_load_ptr Try.underlying9 (by rfl) (by rfl) (by rfl) (by rfl)) rfl (by dsimp only [zS, zN, zH, zT]) ?_
 refine zst (op_eqS (by rfl) (by rfl)) rfl (by dsimp only [zS, zN, zH, zT]) ?_
 refine zst (op_assign_tmp (by rfl)) rfl (by dsimp only [zS, zN, zH, zT]) ?_
 refine al_end rfl ?_
 refine then_normal ?_
 refine aw_ret ?_
 refine retPost1 rfl rfl ?_
 exact ⟨rfl, rfl⟩
set_option maxRecDepth 100000 in
theorem findex_ok (Hs : HS) (xs : List Ix) (nm : List UInt8) (hl : xs.length ≤ 1000000) : ACalls Try.prog 72 [.d (.lst 3 (xs.map ixD)), .fn (.func 73) [] [.elt [S nm]]] Hs (fun av H' => H' = Hs ∧ ((av = .d (I (-1)) ∧ findX xs nm = none) ∨ ∃ i x, av = .d (I (i : Nat)) ∧ xs[i]? = some x ∧ findX xs nm = some x)) := by
 refine acalls_of_aw Try.func72 rfl ?_
 refine aw_start (T' := [.d (.lst 3 (xs.map ixD)), .fn (.func 73) [] [.elt [S nm]], .un, .un, .un, .un, .un, .un, .un, .un, .un, .un, .un, .un, .un, .un, .un, .un, .un]) rfl ?_
 refine aw_seq ?_
 refine aw_region ?_
 refine zst (op_assign_const (by rfl)) rfl (by dsimp only [zS, zN, zH, zT]) ?_
 refine al_end rfl ?_
 refine then_normal ?_
 refine aw_seq ?_
 refine aw_seq ?_
 refine aw_region ?_
 refine zst (op_move_tmp (by rfl)) rfl (by dsimp only [zS, zN, zH, zT]) ?_
 refine zst (op_lenL Try.underlying75 (by first | exact LL.d _ _ | exact LL.own _ _ _ | exact LL.nil _ | assumption)) rfl (by dsimp only [zS, zN, zH, zT]) ?_
 refine zst (op_move_const (by rfl)) rfl (by dsimp only [zS, zN, zH, zT]) ?_
 refine al_end rfl ?_
 refine then_normal ?_
 refine aw_block ?_
 apply aw_loopF (fun n T H => ∃ (k : Nat), T = [.d (.lst 3 (xs.map ixD)), .fn (.func 73) [] [.elt [S nm]], .un, .un, .un, .un, .un, .d (I (xs.map ixD).length), .d (I k), .un, .un, .un, .un, .un, .un, .un, .un, .un, .un] ∧ k ≤ xs.length ∧ n = xs.length - k ∧ (∀ x ∈ xs.take k, x.name ≠ nm) ∧ Hs = H) (xs.length) [true, true, false, false, false, false, false, true, true, false, false, false, false, false, false, false, false, false, false]
 · (try dsimp only [maskT]); try exact rfl
 · rfl
 · exact ⟨0, rfl, by omega, rfl, by simp, rfl⟩
 rintro n T H ⟨k, rfl, hk, rfl, hno, rfl⟩
 refine aw_seq ?_
 refine aw_region ?_
 refine zst (op_ltI (by rfl) (by rfl)) rfl (by dsimp only [zS, zN, zH, zT]) ?_
 refine al_end rfl ?_
 refine then_normal ?_
 refine aw_seq ?_
 refine aw_cond rfl (fun hc1 => ?_) (fun hc1 => ?_)
 ·
  (try simp only [y1, y2, y3, y4, y5, y6, y7, y8, y9, y0, List.length_map] at hc1)
  (try simp only [List.length_map] at hc1)
  have hlt : k < xs.length := by omega
  obtain ⟨x, hx1⟩ : ∃ z0, xs[k]? = some z0 := ⟨_, List.getElem?_eq_getElem hlt⟩
  refine aw_skip ?_
  refine then_normal ?_
  refine aw_seq ?_
  refine aw_block ?_
  refine aw_seq ?_
  refine aw_region ?_
  refine zst (op_move_tmp (by rfl)) rfl (by dsimp only [zS, zN, zH, zT]) ?_
  refine zst (op_assign_tmp (by rfl)) rfl (by dsimp only [zS, zN, zH, zT]) ?_
  refine al_end rfl ?_
  refine then_normal ?_
  refine aw_seq ?_
  refine aw_region ?_
  refine zst (op_move_tmp (by rfl)) rfl (by dsimp only [zS, zN, zH, zT]) ?_
  refine zst (op_move_tmp (by rfl)) rfl (by dsimp only [zS, zN, zH, zT]) ?_
  refine zst (op_move_tmp (by rfl)) rfl (by dsimp only [zS, zN, zH, zT]) ?_
  refine zst (op_indexAddr (z := ixD x) (cs := [S x.name, S x.field, TF x.uniq]) Try.underlying75 Sz88 (LL.d _ _) (by rfl) (by omega) (by rw [List.getElem?_map, show ((k : Nat) : Int).toNat = k from rfl, hx1]; rfl) (by rfl)) rfl (by dsimp only [zS, zN, zH, zT]) ?_
  refine zst (op_load_elts (ds := ixC x) Try.underlying88 (by rfl) Sz88 (by rfl) (Nat.le_of_ble_eq_true rfl) (by rfl)) rfl (by dsimp only [zS, zN, zH, zT]) ?_
  refine zst (op_callV (by rfl) Try.func73 (by rfl) (by rfl) (.tmp (by rfl) .nil) (fcl_ok _ x nm)) rfl (by dsimp only [zS, zN, zH, zT]) ?_
  refine al_end rfl ?_
  refine then_normal ?_
  refine aw_cond rfl (fun hc2 => ?_) (fun hc2 => ?_)
  ·
   (try simp only [y1, y2, y3, y4, y5, y6, y7, y8, y9, y0, List.length_map] at hc2)
   have hx : x.name = nm := by simpa using hc2
   refine aw_seq ?_
   refine aw_region ?_
   refine zst (op_move_tmp (by rfl)) rfl (by dsimp only [zS, zN, zH, zT]) ?_
   refine zst (op_assign_tmp (by rfl)) rfl (by dsimp only [zS, zN, zH, zT]) ?_
   refine al_end rfl ?_
   refine then_normal ?_
   refine aw_ret ?_
   refine inBlock_ret (then_ret (again_ret (inBlock_ret (then_ret ?_))))
   refine retPost1 rfl rfl ?_
   exact ⟨rfl, .inr ⟨k, x, rfl, hx1, findX_at hx1 hno hx⟩⟩
  ·
   (try simp only [y1, y2, y3, y4, y5, y6, y7, y8, y9, y0, List.length_map] at hc2)
   have hx : ¬ x.name = nm := by simpa using hc2
   refine aw_skip ?_
   refine inBlock_normal (then_normal ?_)
   refine aw_region ?_
   refine zst (by first | exact op_add (by rfl) (by rfl) (wrap_i64 ⟨by omega, by omega⟩) | exact op_add (by rfl) (by rfl) (by rfl)) rfl (by dsimp only [zS, zN, zH, zT]) ?_
   refine zst (op_move_tmp (by rfl)) rfl (by dsimp only [zS, zN, zH, zT]) ?_
   refine al_end rfl ?_
   apply again_to (xs.length - (k + 1)) [true, true, false, false, false, false, false, true, true, false, false, false, false, false, false, false, false, false, false]
   · (try dsimp only [maskT]); try exact rfl
   · rfl
   · omega
   exact ⟨k + 1, rfl, by omega, rfl, by rw [take_snoc hx1]; intro y hy; rcases List.mem_append.1 hy with h | h; exact hno y h; rw [List.mem_singleton.1 h]; exact hx, rfl⟩
 ·
  (try simp only [y1, y2, y3, y4, y5, y6, y7, y8, y9, y0, List.length_map] at hc1)
  (try simp only [List.length_map] at hc1)
  have hke : k = xs.length := by omega
  subst hke
  rw [List.take_length] at hno
  refine aw_exit ?_
  refine then_exit (again_exit (inBlock_here (then_normal ?_)))
  refine aw_seq ?_
  refine aw_region ?_
  refine zst (op_assign_const (by rfl)) rfl (by dsimp only [zS, zN, zH, zT]) ?_
  refine al_end rfl ?_
  refine then_normal ?_
  refine aw_ret ?_
  refine retPost1 rfl rfl ?_
  exact ⟨rfl, .inl ⟨rfl, findX_none hno⟩⟩
set_option maxRecDepth 100000 in
theorem cfind2_ok (Hs : HS) (name : List UInt8) (xs : List Ix) (nm : List UInt8) (hl : xs.length ≤ 1000000) : ACalls Try.prog 36 [.d (.agg [S name, .lst 3 (xs.map ixD)]), .d (S nm)] Hs (Ret (.tup [.d (.agg (ixC ((findX xs nm).getD X0))), .d (TF (findX xs nm).isSome)]) Hs) := by
 refine ACalls.tidyT (xs := [.agg (ixC ((findX xs nm).getD X0)), TF (findX xs nm).isSome]) ?_
 suffices h : ACalls Try.prog 36 [.d (.agg [S name, .lst 3 (xs.map ixD)]), .d (S nm)] Hs (fun av H' => ∃ x, av = .tup [x, .d (TF (findX xs nm).isSome)] ∧ Weak x (.d (.agg (ixC ((findX xs nm).getD X0)))) ∧ Ext Hs H') from h.weak fun v H' ⟨x, h1, h2, h3⟩ => ⟨_, by rw [h1]; exact Weak.tup (.cons h2 (.cons (Weak.refl _) .nil)), rfl, h3⟩
 refine acalls_of_awC Try.func36 rfl ?_
 refine aw_start (T' := [.d (.agg [S name, .lst 3 (xs.map ixD)]), .d (S nm), .un, .un, .un, .un, .un, .un, .un, .un, .un, .un, .un, .un, .un, .un, .un, .un, .un]) rfl ?_
 refine aw_seq ?_
 refine aw_region ?_
 refine zst (op_box_elt (cs := [S name, .lst 3 (xs.map ixD)]) (by rfl) (by rfl)) rfl (by dsimp only [zS, zN, zH, zT]) ?_
 refine zst (op_box_elt (cs := [S nm]) (by rfl) (by rfl)) rfl (by dsimp only [zS, zN, zH, zT]) ?_
 refine zst (op_alloc (Zr88) (by rfl)) rfl (by dsimp only [zS, zN, zH, zT]) ?_
 refine zst (op_assign_const (by rfl)) rfl (by dsimp only [zS, zN, zH, zT]) ?_
 refine al_end rfl ?_
 refine then_normal ?_
 refine aw_seq ?_
 refine aw_region ?_
 refine zst (by first | exact op_fieldAddr_ptr Try.underlying77 rfl Sz75 (by rfl) (by rfl) | exact op_fieldAddr_elt Try.underlying77 rfl Sz75 (by rfl) (by rfl) (by rfl)) rfl (by dsimp only [zS, zN, zH, zT]) ?_
 refine zst (by first | exact op_load_elt Try.underlying75 (by rfl) (by rfl) (by rfl) | exact op_load_ptr Try.underlying75 (by rfl) (by rfl) (by first | exact push_at | exact setB_at push_at) (by rfl)) rfl (by dsimp only [zS, zN, zH, zT]) ?_
 refine zst (op_makeFn .nil (.tmp (by rfl) .nil)) rfl (by dsimp only [zS, zN, zH, zT]) ?_
 refine al_cons _ (op_callF Try.func72 (by rfl) (by rfl) (.tmp (by rfl) (.tmp (by rfl) .nil)) (findex_ok _ xs nm hl)) rfl ?_
 rintro v9 H9 ⟨rfl, (⟨rfl, hfx⟩ | ⟨i, x, rfl, hx1, hfx⟩)⟩
 ·
  apply al_normT
  · (try dsimp only [putT, List.set_cons_zero, List.set_cons_succ]); try exact rfl
  refine zst (op_assign_tmp (by rfl)) rfl (by dsimp only [zS, zN, zH, zT]) ?_
  refine al_end rfl ?_
  refine then_normal ?_
  refine aw_seq ?_
  refine aw_seq ?_
  refine aw_region ?_
  refine zst (op_move_tmp (by rfl)) rfl (by dsimp only [zS, zN, zH, zT]) ?_
  refine zst (op_ltI (by rfl) (by rfl)) rfl (by dsimp only [zS, zN, zH, zT]) ?_
  refine al_end rfl ?_
  refine then_normal ?_
  refine aw_cond rfl (fun _ => ?_) (fun h => by cases h)
  refine aw_seq ?_
  refine aw_region ?_
  refine zst (op_buildD (pl := [(0, 1), (1, 1), (2, 1)]) (ixC X0) Try.underlying88 Zr88 (by kernel_rfl) (by rfl) (by rfl) (by rfl) (by simp [ixC, DV.one, S, TF])) rfl (by dsimp only [zS, zN, zH, zT]) ?_
  refine zst (op_storeB (vs := [.d (S X0.name), .d (S X0.field), .d (TF X0.uniq)]) (b' := ⟨88, [.d (S X0.name), .d (S X0.field), .d (TF X0.uniq)], false⟩) (H' := _) Sz88 (by rfl) push_at (by intro h; cases h) (by rfl) (by rfl) (Nat.le_of_ble_eq_true rfl) (by simp [AV.one, DV.one, TF, S, I, BY]) (by rfl) (by rfl) rfl) rfl (by dsimp only [zS, zN, zH, zT]) ?_
  refine zst (op_assign_const (by rfl)) rfl (by dsimp only [zS, zN, zH, zT]) ?_
  refine al_end rfl ?_
  refine then_normal ?_
  refine aw_ret ?_
  refine then_ret ?_
  refine retC2 rfl (.cells Try.underlying88 (by rfl) Sz88 (by rfl) (setB_at push_at) (Nat.le_of_ble_eq_true rfl) (by rfl)) (.tmp (by rfl)) ?_
  first | exact ⟨_, by rw [hfx]; rfl, by rw [hfx]; exact Weak.aggD (.cons (Weak.refl _) (.cons (Weak.refl _) (.cons (Weak.refl _) .nil))) (by simp [ixC, DV.one, S, TF]), ((Ext.refl Hs).push _ _).setB (Nat.le_refl _)⟩ | exact absurd hneg (by omega)
 ·
  apply al_normT
  · (try dsimp only [putT, List.set_cons_zero, List.set_cons_succ]); try exact rfl
  refine zst (op_assign_tmp (by rfl)) rfl (by dsimp only [zS, zN, zH, zT]) ?_
  refine al_end rfl ?_
  refine then_normal ?_
  refine aw_seq ?_
  refine aw_seq ?_
  refine aw_region ?_
  refine zst (op_move_tmp (by rfl)) rfl (by dsimp only [zS, zN, zH, zT]) ?_
  refine zst (op_ltI (by rfl) (by rfl)) rfl (by dsimp only [zS, zN, zH, zT]) ?_
  refine al_end rfl ?_
  refine then_normal ?_
  refine aw_cond rfl (fun hc2 => ?_) (fun hc2 => ?_)
  ·
   (try simp only [y1, y2, y3, y4, y5, y6, y7, y8, y9, y0, List.length_map] at hc2)
   have hneg := hc2
   refine aw_seq ?_
   refine aw_region ?_
   refine zst (op_buildD (pl := [(0, 1), (1, 1), (2, 1)]) (ixC X0) Try.underlying88 Zr88 (by kernel_rfl) (by rfl) (by rfl) (by rfl) (by simp [ixC, DV.one, S, TF])) rfl (by dsimp only [zS, zN, zH, zT]) ?_
   refine zst (op_storeB (vs := [.d (S X0.name), .d (S X0.field), .d (TF X0.uniq)]) (b' := ⟨88, [.d (S X0.name), .d (S X0.field), .d (TF X0.uniq)], false⟩) (H' := _) Sz88 (by rfl) push_at (by intro h; cases h) (by rfl) (by rfl) (Nat.le_of_ble_eq_true rfl) (by simp [AV.one, DV.one, TF, S, I, BY]) (by rfl) (by rfl) rfl) rfl (by dsimp only [zS, zN, zH, zT]) ?_
   refine zst (op_assign_const (by rfl)) rfl (by dsimp only [zS, zN, zH, zT]) ?_
   refine al_end rfl ?_
   refine then_normal ?_
   refine aw_ret ?_
   refine then_ret ?_
   refine retC2 rfl (.cells Try.underlying88 (by rfl) Sz88 (by rfl) (setB_at push_at) (Nat.le_of_ble_eq_true rfl) (by rfl)) (.tmp (by rfl)) ?_
   first | exact ⟨_, by rw [hfx]; rfl, by rw [hfx]; exact Weak.aggD (.cons (Weak.refl _) (.cons (Weak.refl _) (.cons (Weak.refl _) .nil))) (by simp [ixC, DV.one, S, TF]), ((Ext.refl Hs).push _ _).setB (Nat.le_refl _)⟩ | exact absurd hneg (by omega)
  ·
   (try simp only [y1, y2, y3, y4, y5, y6, y7, y8, y9, y0, List.length_map] at hc2)
   have hneg := hc2
   refine aw_skip ?_
   refine then_normal ?_
   refine aw_seq ?_
   refine aw_region ?_
   refine zst (by first | exact op_fieldAddr_ptr Try.underlying77 rfl Sz75 (by rfl) (by rfl) | exact op_fieldAddr_elt Try.underlying77 rfl Sz75 (by rfl) (by rfl) (by rfl)) rfl (by dsimp only [zS, zN, zH, zT]) ?_
   refine zst (by first | exact op_load_elt Try.underlying75 (by rfl) (by rfl) (by rfl) | exact op_load_ptr Try.underlying75 (by rfl) (by rfl) (by first | exact push_at | exact setB_at push_at) (by rfl)) rfl (by dsimp only [zS, zN, zH, zT]) ?_
   refine zst (op_move_tmp (by rfl)) rfl (by dsimp only [zS, zN, zH, zT]) ?_
   refine zst (op_indexAddr (z := ixD x) (cs := [S x.name, S x.field, TF x.uniq]) Try.underlying75 Sz88 (LL.d _ _) (by rfl) (by omega) (by rw [List.getElem?_map, show ((i : Nat) : Int).toNat = i from rfl, hx1]; rfl) (by rfl)) rfl (by dsimp only [zS, zN, zH, zT]) ?_
   refine zst (op_load_elts (ds := ixC x) Try.underlying88 (by rfl) Sz88 (by rfl) (Nat.le_of_ble_eq_true rfl) (by rfl)) rfl (by dsimp only [zS, zN, zH, zT]) ?_
   refine zst (op_storeB (vs := [.d (S x.name), .d (S x.field), .d (TF x.uniq)]) (b' := ⟨88, [.d (S x.name), .d (S x.field), .d (TF x.uniq)], false⟩) (H' := _) Sz88 (by rfl) push_at (by intro h; cases h) (by rfl) (by rfl) (Nat.le_of_ble_eq_true rfl) (by simp [AV.one, DV.one, TF, S, I, BY]) (by rfl) (by rfl) rfl) rfl (by dsimp only [zS, zN, zH, zT]) ?_
   refine zst (op_assign_const (by rfl)) rfl (by dsimp only [zS, zN, zH, zT]) ?_
   refine al_end rfl ?_
   refine then_normal ?_
   refine aw_ret ?_
   refine retC2 rfl (.cells Try.underlying88 (by rfl) Sz88 (by rfl) (setB_at push_at) (Nat.le_of_ble_eq_true rfl) (by rfl)) (.tmp (by rfl)) ?_
   first | exact ⟨_, by rw [hfx]; rfl, by rw [hfx]; exact Weak.aggD (.cons (Weak.refl _) (.cons (Weak.refl _) (.cons (Weak.refl _) .nil))) (by simp [ixC, DV.one, S, TF]), ((Ext.refl Hs).push _ _).setB (Nat.le_refl _)⟩ | exact absurd hneg (by omega)
end Go.Proofs.Ytjbpfnoibeogbaa
namespace Go.AV
open Go.RowKit
section
variable {P : Program} {Q : Post} {T : List AV} {H : HS}
def AWD (P : Program) (k : Code) (Q : Post) (T : List AV) (H : HS) : Prop :=
  ∀ (B : Nat) (w0 : World) (c0 c : Ctx) (w : World) (a : Act), Le c0 c → Inv B w0 c H w → RepT c a.tmps T → k.wp P (fun e a' w' => ∃ c' T' H', Le c0 c' ∧ Inv B w0 c' H' w' ∧ RepT c' a'.tmps T' ∧ a'.defers = a.defers ∧ Q e T' H') a w
def ALD (P : Program) (ops : Array Oper) (l : List Oper) (Q : Post) (T : List AV) (H : HS) : Prop :=
  ∀ (B : Nat) (w0 : World) (c0 c : Ctx) (w : World) (a : Act) (ds : List Deferred), Le c0 c → Inv B w0 c H w → RepT c a.tmps T → a.defers = ds → wpList P ops (fun e a' w' => ∃ c' T' H', Le c0 c' ∧ Inv B w0 c' H' w' ∧ RepT c' a'.tmps T' ∧ a'.defers = ds ∧ Q e T' H') l a w
theorem awd_region {id : Nat} {l : List Oper} (h : ALD P l.toArray l Q T H) : AWD P (.region id l.toArray false) Q T H :=
  fun B w0 c0 c w a h0 h1 h2 => wp_region_lit (h B w0 c0 c w a _ h0 h1 h2 rfl)
theorem ald_nil {ops : Array Oper} (h : Q .normal T H) : ALD P ops [] Q T H := fun _ _ _ c _ _ _ h0 h1 h2 h3 => wpList_nil ⟨c, T, H, h0, h1, h2, h3, h⟩
theorem ald_step {ops : Array Oper} {o : Oper} {l : List Oper} {v : AV} {H' : HS} {T' : List AV} (ho : OpR P o (evalT T) H (Ret v H')) (hg : o.guard = none) (hT : putT T o.dst v = T') (h : ALD P ops l Q T' H') : ALD P ops (o :: l) Q T H := by
  subst hT
  intro B w0 c0 c w a ds h0 h1 h2 h3
  refine wpList_plain hg fun K hK => ?_
  refine ho B w0 c w a K _ h1 (fun x _ => h2.eval x) fun v' w' c' av H'' l1 r1 i1 ⟨e1, e2⟩ => ?_
  subst e1; subst e2
  exact hK _ _ (h B w0 c0 c' w' _ ds (h0.trans l1) i1 ((h2.mono l1).put o.dst r1) (by rw [put_defers]; exact h3))
def recOf (fn : FuncId) (tmps : Array Value) (ps : Array Tmp) (assign body : Code) (D : Nat) (st : LoopState) : Obj := .loop { state := st, pending := none, fn, tmps, params := ps, assign, body, defers := D }
theorem other_def (o : Option (List Deferred)) : (∀ cs e fr, Obj.deferred o ≠ Obj.cells cs e fr) ∧ (∀ xs cl, Obj.deferred o ≠ Obj.map xs cl) := ⟨by intros; simp, by intros; simp⟩
theorem other_loop (r : Loop) : (∀ cs e fr, Obj.loop r ≠ Obj.cells cs e fr) ∧ (∀ xs cl, Obj.loop r ≠ Obj.map xs cl) := ⟨by intros; simp, by intros; simp⟩
theorem Inv.allocO {B : Nat} {w0 w : World} {c : Ctx} {H : HS} (h : Inv B w0 c H w) (o : Obj) (h1 : ∀ cs e fr, o ≠ Obj.cells cs e fr) (h2 : ∀ xs cl, o ≠ Obj.map xs cl) :
    Inv B w0 { c with maps := c.maps ++ [w.heap.size] } (H.pushM (.obj o)) (w.alloc o) ∧ Le c { c with maps := c.maps ++ [w.heap.size] } :=
  h.allocM o (.obj o) (.other _ o (World.alloc_heap_new w o) h1 h2)
theorem Inv.putO {B : Nat} {w0 w : World} {c : Ctx} {H : HS} (h : Inv B w0 c H w) {i g : Nat} {o : Obj} (hg : c.maps[i]? = some g) (hm : H.maps[i]? = some (.obj o)) (o' : Obj) (h1 : ∀ cs e fr, o' ≠ Obj.cells cs e fr) (h2 : ∀ xs cl, o' ≠ Obj.map xs cl) :
    w.heap[g]? = some o ∧ Inv B w0 c (H.setM i (.obj o')) (w.putObj g o') := by
  obtain ⟨q0, q⟩ := h.maps.is i g _ hg hm
  have hw : w.heap[g]? = some o := by
    cases q with
    | other _ _ hw _ _ => exact hw
  have hlt : g < w.heap.size := (Array.getElem?_eq_some_iff.1 hw).1
  refine ⟨hw, h.setM i g (.obj o) (.obj o') hg hm o' (w.putObj g o') rfl ?_ (.other g o' (World.putObj_heap_same hlt) h1 h2) h1 (fun es he => by cases he)⟩
  exact below_set h.below q0 o'
end
theorem acalls_range0 {P : Program} {f gf : FuncId} {fn gn : Func} {R0 R1 R2 R3 R6 : Code} {b : Nat} {tc g : Operand} {ps : Array Tmp} {asg bd : Code} {args : List AV} {Hs H0 H1 H2 H3 : HS} {T0 T1 T2 T3 T6 : List AV} {cs : List AV} {av : AV} {r : Tmp}
    (hf : P.funcs[f]? = some fn) (hb : fn.body = some (.seq R0 (.seq R1 (.seq (.seq R2 (.cond tc (.seq R3 (.block b (.rangeFunc g ps asg bd))) .skip)) (.seq R6 .ret))))) (hres : fn.results = #[.tmp r])
    (h0 : AW P R0 (fun e T H => e = .normal ∧ T = T0 ∧ H = H0) (args ++ List.replicate (fn.ntmps - args.length) .un) Hs) (h1 : AW P R1 (fun e T H => e = .normal ∧ T = T1 ∧ H = H1) T0 H0)
    (h2 : AW P R2 (fun e T H => e = .normal ∧ T = T2 ∧ H = H2) T1 H1) (hc : evalT T2 tc = .d (.v (.bool true))) (h3 : AW P R3 (fun e T H => e = .normal ∧ T = T3 ∧ H = H3) T2 H2)
    (hg : evalT T3 g = .fn (.func gf) [] cs) (hgf : P.funcs[gf]? = some gn) (hgb : gn.body.isNone = false) (hgn : (gn.name == "runtime.NumGoroutine") = false)
    (hcall : ∀ K : HS, K.blks = H3.blks → K.toks = H3.toks → ACalls P gf (.un :: cs) K (Ret (.tup []) K))
    (h6 : ∀ K : HS, K.blks = H3.blks → K.toks = H3.toks → AWD P R6 (fun e T H => e = .normal ∧ T = T6 ∧ H = K) T3 K) (hr : T6[r]? = some av) :
    ACalls P f args Hs (fun v H' => v = av ∧ ∃ ms : List MB, H' = { H3 with maps := H3.maps ++ ms }) := by
  intro B w0 c w vs hI hs ha
  refine (callsIn_wide (n := 0)).1 (callsIn_of_wp_marks hf hb trivial ?_)
  rw [wpIn_wide]
  have hT : RepT c (vs ++ Array.replicate (fn.ntmps - vs.size) undef) (args ++ List.replicate (fn.ntmps - args.length) .un) := by
    refine ⟨by simp [hs], fun i hi => ?_⟩
    by_cases hlt : i < args.length
    · have e1 : (vs ++ Array.replicate (fn.ntmps - vs.size) undef).getD i undef = vs.getD i undef := by
        have : i < vs.size := by omega
        have h2 : i < vs.size + (fn.ntmps - vs.size) := by omega
        simp [this, h2, Array.getElem_append_left this]
      have e2 : (args ++ List.replicate (fn.ntmps - args.length) AV.un).getD i .un = args[i] := by
        simp [List.getD_eq_getElem?_getD, List.getElem?_append_left hlt, hlt]
      rw [e1, e2]
      exact ha i hlt
    · have e2 : (args ++ List.replicate (fn.ntmps - args.length) AV.un).getD i .un = .un := by
        rw [List.getD_eq_getElem?_getD, List.getElem?_append_right (by omega), List.getElem?_replicate]
        split <;> rfl
      rw [e2]
      exact .un _
  refine wp_seq (wp_mono (h0 B w0 c c w _ (Le.refl c) hI hT rfl) ?_)
  rintro e a0 w1 ⟨c1, T', H', l1, i1, t1, d1, rfl, eT, eH⟩
  rw [eT] at t1; rw [eH] at i1
  refine wp_seq (wp_mono (h1 B w0 c1 c1 w1 a0 (Le.refl _) i1 t1 d1) ?_)
  rintro e a1 w2 ⟨c2, T', H', l2, i2, t2, d2, rfl, eT, eH⟩
  rw [eT] at t2; rw [eH] at i2
  refine wp_seq (wp_seq (wp_mono (h2 B w0 c2 c2 w2 a1 (Le.refl _) i2 t2 d2) ?_))
  rintro e a2 w3 ⟨c3, T', H', l3, i3, t3, d3, rfl, eT, eH⟩
  rw [eT] at t3; rw [eH] at i3
  have htc := t3.eval tc
  rw [hc] at htc
  refine wp_cond htc.v_eq ?_
  rw [if_pos rfl]
  refine wp_seq (wp_mono (h3 B w0 c3 c3 w3 a2 (Le.refl _) i3 t3 d3) ?_)
  rintro e a3 w4 ⟨c4, T', H', l4, i4, t4, d4, rfl, eT, eH⟩
  rw [eT] at t4; rw [eH] at i4
  refine wp_block ((wpIn_wide (n := 0)).1 (wpIn_rangeFunc fun fnid _ => ?_))
  have hge := t4.eval g
  rw [hg] at hge
  cases hv : a3.eval g with
  | func fn' fv cv =>
    rw [hv] at hge
    cases hge with
    | fn _ _ _ _ _ hl hfs hl' hcs =>
    have hfv : fv = #[] := by
      apply Array.eq_empty_of_size_eq_zero
      simpa using hl
    subst hfv
    obtain ⟨j1, k1⟩ := i4.allocO (.deferred (some [])) (other_def _).1 (other_def _).2
    have hsz : (w4.alloc (.deferred (some []))).heap.size = w4.heap.size + 1 := World.size_alloc _ _
    obtain ⟨j2, k2⟩ := j1.allocO (recOf fnid a3.tmps ps asg bd w4.heap.size .ready) (other_loop _).1 (other_loop _).2
    rw [hsz] at j2 k2
    obtain ⟨cM, hcM⟩ : ∃ cM, cM = ({ c4 with maps := c4.maps ++ [w4.heap.size] ++ [w4.heap.size + 1] } : Ctx) := ⟨_, rfl⟩
    have j2' : Inv B w0 cM ((H3.pushM (.obj (.deferred (some [])))).pushM (.obj (recOf fnid a3.tmps ps asg bd w4.heap.size .ready))) ((w4.alloc (.deferred (some []))).alloc (recOf fnid a3.tmps ps asg bd w4.heap.size .ready)) := by rw [hcM]; exact j2
    have k2' : Le c4 cM := by rw [hcM]; exact k1.trans k2
    have hml : c4.maps.length = H3.maps.length := i4.maps.len
    have m1 : cM.maps[H3.maps.length]? = some w4.heap.size := by rw [hcM, ← hml]; simp
    have m2 : cM.maps[H3.maps.length + 1]? = some (w4.heap.size + 1) := by rw [hcM, ← hml]; simp
    obtain ⟨W1, hW1⟩ : ∃ W1, W1 = ((w4.alloc (.deferred (some []))).alloc (recOf fnid a3.tmps ps asg bd w4.heap.size .ready)) := ⟨_, rfl⟩
    rw [← hW1] at j2'
    refine ⟨w4.heap.size + 1, [{ target := .collected w4.heap.size, args := #[] }], W1, { target := .fn (.func gf) cv, args := #[.func (.yield (w4.heap.size + 1)) #[] #[]] }, W1, gf, #[.func (.yield (w4.heap.size + 1)) #[] #[]] ++ cv, W1, ?_, ?_, ?_, ?_, fun h => by simp [Fence.wide] at h, ?_⟩
    · rw [hW1]; exact run_enterLoop_outer _ _ _ _ _
    · simp only [resolve, rangeCall, hv]
      simp [go_sem, Deferred.ofValue]
    · intro f' hf'; trivial
    · have hn : gn.name ≠ "runtime.NumGoroutine" := by simpa using hgn
      have hb' : ¬ gn.body = none := by intro hh; rw [hh] at hgb; cases hgb
      simp [invoke, callFunc, program, Sem.run, hgf, hn, hb']
    · refine callsIn_wide.2 ((hcall ((H3.pushM (.obj (.deferred (some [])))).pushM (.obj (recOf fnid a3.tmps ps asg bd w4.heap.size .ready))) rfl rfl B w0 cM W1 _ j2' (by simp [hl', Nat.add_comm]) ?_).mono ?_)
      · intro i hi
        match i, hi with
        | 0, _ => exact .un _
        | i + 1, hi =>
          have hi' : i < cs.length := by simpa using hi
          have e1 : (#[Value.func (.yield (w4.heap.size + 1)) #[] #[]] ++ cv).getD (i + 1) undef = cv.getD i undef := by
            have q1 : i < cv.size := by omega
            simp [Array.getD, q1, Array.getElem_append, Nat.add_comm]
          rw [e1]
          exact (hcs i hi').mono k2'
      · rintro e w5 ⟨v, av', H5, c5, rfl, l5, r5, i5, eA, eH⟩
        rw [eH] at i5
        have p2 := l5.maps _ _ m2
        have p1 := l5.maps _ _ m1
        have q2 : ((H3.pushM (.obj (.deferred (some [])))).pushM (.obj (recOf fnid a3.tmps ps asg bd w4.heap.size .ready))).maps[H3.maps.length + 1]? = some (.obj (recOf fnid a3.tmps ps asg bd w4.heap.size .ready)) := by simp [HS.pushM]
        obtain ⟨hw5, i6⟩ := i5.putO p2 q2 (recOf fnid a3.tmps ps asg bd w4.heap.size .exhausted) (other_loop _).1 (other_loop _).2
        refine ⟨none, _, run_endLoop hw5 (by simp), ?_⟩
        show Exit.inBlock b _ .normal _ _
        obtain ⟨K, hK⟩ : ∃ K, K = ((H3.pushM (.obj (.deferred (some [])))).pushM (.obj (recOf fnid a3.tmps ps asg bd w4.heap.size .ready))).setM (H3.maps.length + 1) (.obj (recOf fnid a3.tmps ps asg bd w4.heap.size .exhausted)) := ⟨_, rfl⟩
        have i7 : Inv B w0 c5 K (w5.putObj (w4.heap.size + 1) (recOf fnid a3.tmps ps asg bd w4.heap.size .exhausted)) := by rw [hK]; exact i6
        have t5 : RepT c5 a3.tmps T3 := t4.mono (k2'.trans l5)
        refine wp_seq (wp_mono (h6 K (by rw [hK]; rfl) (by rw [hK]; rfl) B w0 c5 c5 _ { a3 with defers := [{ target := .collected w4.heap.size, args := #[] }] ++ a3.defers } (Le.refl _) i7 t5) ?_)
        rintro e a7 w7 ⟨c7, T', H', l7, i8, t7, d7, rfl, eT, eH⟩
        rw [eT] at t7; rw [eH] at i8
        refine wp_ret ?_
        show LeavesInM _ _ _ _ _ _ a7.defers .returning w7
        rw [d7, d4]
        have q1 : K.maps[H3.maps.length]? = some (.obj (.deferred (some []))) := by rw [hK]; simp [HS.pushM, HS.setM]
        obtain ⟨hw7, i9⟩ := i8.putO (l7.maps _ _ p1) q1 (.deferred none) (other_def _).1 (other_def _).2
        refine ⟨by simp, .inl ⟨w4.heap.size, _, rfl, run_takeDeferred hw7, ?_⟩⟩
        refine ⟨_, results_tmp hres _ P _, _, av, _, c7, rfl, ?_, getD_of t7 hr, i9, rfl, [.obj (.deferred none), .obj (recOf fnid a3.tmps ps asg bd w4.heap.size .exhausted)], ?_⟩
        · exact l1.trans (l2.trans (l3.trans (l4.trans (k2'.trans (l5.trans l7)))))
        · rw [hK]
          simp [HS.pushM, HS.setM]
  | _ => rw [hv] at hge; cases hge
end Go.AV
namespace Go.AV.Hist
open Go.AV.Ord Go.AV.Oct Go.AV.Val
structure Pt where
  c : Int
  q : Int
  id : Int
  gone : Bool
  ready : Int
  count : Int
  token : Int
def tC (p : Pt) : List DV := [I p.c, I p.q, I p.id, TF p.gone, I p.ready, I p.count, I p.token]
def tD (p : Pt) : DV := .agg (tC p)
theorem tC_one (p : Pt) : ∀ d ∈ tC p, d.one = true := by simp [tC, DV.one, I, TF]
structure PTypes (P : Program) (tP tI tB tQ : TypeId) : Prop where
  p : ∃ fs, P.underlying tP = some (.struct fs) ∧ (∀ i < 7, ∃ f, fs[i]? = some f ∧ f.type = (if i = 3 then tB else tI) ∧ f.offset = i) ∧ fs.size = 7
  i : P.underlying tI = some (.int .i64)
  b : P.underlying tB = some .bool
  q : P.underlying tQ = some (.slice tP)
  cP : P.cellsOf tP = 7
  cI : P.cellsOf tI = 1
  cB : P.cellsOf tB = 1
section
variable {H : Type} {enc : TypeId × Value → H} {P : Program} {W : World} {sp : Nat → Bool} {held : Bool} {tP tI tB tQ : TypeId}
theorem reads_put (T : PTypes P tP tI tB tQ) {fuel : Nat} {cs : List Value} {d : DataW H} {p : List MemPlace} (h : DataW.trod enc P W 0 sp held fuel tP cs = some (d, p)) (hl : cs.length = 7) : ∃ y, Go.AV.Reads W (fun y => ∃ o : Pt, y = tD o) 7 cs y := by
  obtain ⟨fs, hu, hf, hsz⟩ := T.p
  obtain ⟨xs, n, hn, _, _, hxl, hx⟩ := DataW.trod_struct hu h
  subst hn
  obtain ⟨c0, c1, c2, c3, c4, c5, c6, rfl⟩ : ∃ c0 c1 c2 c3 c4 c5 c6, cs = [c0, c1, c2, c3, c4, c5, c6] := by
    match cs, hl with
    | [c0, c1, c2, c3, c4, c5, c6], _ => exact ⟨_, _, _, _, _, _, _, rfl⟩
  have get : ∀ i, i < 7 → ∃ x, xs[i]? = some x := fun i hi => ⟨_, List.getElem?_eq_getElem (by omega)⟩
  have int : ∀ i, i < 7 → i ≠ 3 → ∀ c, ([c0, c1, c2, c3, c4, c5, c6].drop i).take 1 = [c] → ∃ k : Int, RepD (ctx0 W).mem c (I k) := fun i hi h3 c hc => by
    obtain ⟨f, g, e, o⟩ := hf i hi
    have q := hx i f g
    rw [if_neg h3] at e
    rw [e, o, T.cI, hc] at q
    obtain ⟨⟨_, _⟩, x⟩ := get i hi
    rw [x] at q
    obtain ⟨y, r⟩ := reads_int T.i q
    obtain ⟨k, rfl, _⟩ := r.good
    exact ⟨k, one_cell r rfl⟩
  obtain ⟨k0, r0⟩ := int 0 (by decide) (by decide) c0 rfl
  obtain ⟨k1, r1⟩ := int 1 (by decide) (by decide) c1 rfl
  obtain ⟨k2, r2⟩ := int 2 (by decide) (by decide) c2 rfl
  obtain ⟨k4, r4⟩ := int 4 (by decide) (by decide) c4 rfl
  obtain ⟨k5, r5⟩ := int 5 (by decide) (by decide) c5 rfl
  obtain ⟨k6, r6⟩ := int 6 (by decide) (by decide) c6 rfl
  obtain ⟨b, r3⟩ : ∃ b : Bool, RepD (ctx0 W).mem c3 (TF b) := by
    obtain ⟨f, g, e, o⟩ := hf 3 (by decide)
    have q := hx 3 f g
    rw [if_pos rfl] at e
    rw [e, o, T.cB] at q
    obtain ⟨⟨_, _⟩, x⟩ := get 3 (by decide)
    rw [x] at q
    obtain ⟨y, r⟩ := reads_bool T.b q
    obtain ⟨k, rfl⟩ := r.good
    exact ⟨k, one_cell r rfl⟩
  refine ⟨tD ⟨k0, k1, k2, b, k4, k5, k6⟩, rfl, rfl, fun z hz => tC_one _ z hz, ⟨_, rfl⟩, fun j hj hj' => ?_⟩
  match j, hj with
  | 0, _ => exact r0
  | 1, _ => exact r1
  | 2, _ => exact r2
  | 3, _ => exact r3
  | 4, _ => exact r4
  | 5, _ => exact r5
  | 6, _ => exact r6
theorem put_len {m : Nat → Nat → Option Value} {a : Option Addr} {n cap sz : Nat} {ys : List DV} (h : RepD m (.slice a n cap) (.lst sz ys)) : ys.length = n := by
  cases h with
  | lstE => rfl
  | lst => assumption
theorem arg_puts (T : PTypes P tP tI tB tQ) {r : Reach} {b0 : Nat} {v : Value} {d : DataW H} {ps : List MemPlace} (hval : Value.okWide P W r b0 tQ v) (hd : DataW.Trod enc P W 0 sp held tQ v d ps) :
    ∃ l : List Pt, l.length ≤ 9223372036854775807 ∧ Rep (ctx0 W) v (.d (.lst 7 (l.map tD))) := by
  obtain ⟨ys, h1, h2⟩ := arg_list (by decide) (fun y => ∃ o : Pt, y = tD o) T.q T.cP hval hd fun fuel cs d p h hl => reads_put T h hl
  obtain ⟨l, rfl⟩ := all_map h1
  refine ⟨l, ?_, h2⟩
  obtain ⟨fuel, hf⟩ := hd
  cases h2 with
  | d h2 =>
    cases fuel with
    | zero => simp [DataW.trod] at hf
    | succ n =>
      have h3 := h2
      have hcl : ∀ c, v.cells.toList = [c] → v = c → l.length ≤ 9223372036854775807 := by
        intro c hc hv
        rw [hc] at hf
        rcases DataW.trod_slice T.q hf with ⟨e, _⟩ | ⟨ad, len, cap, _, _, m, h0, e, _, _, q2, q3, _⟩
        · subst hv
          obtain rfl := List.head_eq_of_cons_eq e
          have := put_len h3
          simp at this
          subst this; decide
        · subst hv
          obtain rfl := List.head_eq_of_cons_eq e
          have := put_len h3
          simp at this
          have hmax : (maxLen : Nat) = 9223372036854775807 := by decide
          omega
      generalize l.map tD = m at h2
      cases h2 with
      | lst => exact hcl _ rfl rfl
      | lstE => exact hcl _ rfl rfl
end
end Go.AV.Hist
namespace Go.AV.Hist
open Go.AV.Ord Go.AV.Oct Go.AV.Val Go.AV.Patch
def low (n : Int) (k : Nat) : Nat := (BitVec.ofInt IntKind.i64.bits n).toNat % k
def idB (i : Nat) : List UInt8 := [UInt8.ofNat (48 + i)]
def qB (i : Nat) : List UInt8 := [UInt8.ofNat (97 + i)]
def tkB (i : Nat) : List UInt8 := if 0 < i then [UInt8.ofNat (116 + i)] else []
def keyQ (q i : Nat) : List UInt8 := keyL [[109], qB q, idB i]
def msgP (p : Pt) : Msg := ⟨idB (low p.id 4), [], (low p.ready 64 : Nat), (low p.count 8 : Nat), tkB (low p.token 4)⟩
def keyP (p : Pt) : List UInt8 := keyQ (low p.q 2) (low p.id 4)
def putW (p : Pt) : Wt := ⟨keyP p, encM (msgP p), false⟩
def goneW (p : Pt) : Wt := ⟨keyP p, [], true⟩
def wtP (p : Pt) : Wt := if p.gone then goneW p else putW p
def lastP (c : Nat) (l : List Pt) (k : List UInt8) : Option Wt := l.foldl (fun o p => if low p.c 8 = c ∧ keyP p = k then some (wtP p) else o) none
theorem lastP_snoc (c : Nat) (l : List Pt) (p : Pt) (k : List UInt8) : lastP c (l ++ [p]) k = if low p.c 8 = c ∧ keyP p = k then some (wtP p) else lastP c l k := by
  simp [lastP]
theorem lastP_some (c : Nat) (l : List Pt) {k : List UInt8} {w : Wt} (h : lastP c l k = some w) : ∃ p : Pt, w = wtP p ∧ keyP p = k := by
  induction l using snoc_ind with
  | h0 => cases h
  | h1 l p ih =>
    rw [lastP_snoc] at h
    split at h
    · rename_i h1
      cases h
      exact ⟨p, rfl, h1.2⟩
    · exact ih h
def Holds (c : Nat) (l : List Pt) (es : List (List UInt8 × DV)) : Prop := ∀ k, getE es k = (lastP c l k).map wD
theorem Holds.nil (c : Nat) : Holds c [] [] := fun _ => rfl
theorem Holds.put {c : Nat} {l : List Pt} {es : List (List UInt8 × DV)} {p : Pt} (h : Holds c l es) (hc : low p.c 8 = c) (hg : p.gone = false) : Holds c (l ++ [p]) (putE es (keyP p) (wD (putW p))) := fun k => by
  rw [lastP_snoc, getE_put]
  by_cases hk : keyP p = k
  · rw [if_pos hk, if_pos ⟨hc, hk⟩]; simp [wtP, hg]
  · rw [if_neg hk, if_neg (fun x => hk x.2)]; exact h k
theorem Holds.gone {c : Nat} {l : List Pt} {es : List (List UInt8 × DV)} {p : Pt} (h : Holds c l es) (hc : low p.c 8 = c) (hg : p.gone = true) : Holds c (l ++ [p]) (putE (putE es (keyP p) (wD (putW p))) (keyP p) (wD (goneW p))) := fun k => by
  rw [lastP_snoc, getE_put, getE_put]
  by_cases hk : keyP p = k
  · rw [if_pos hk, if_pos ⟨hc, hk⟩]; simp [wtP, hg]
  · rw [if_neg hk, if_neg hk, if_neg (fun x => hk x.2)]; exact h k
structure GoodW (w : Wt) : Prop where
  ex : ∃ p : Pt, w = wtP p
theorem rM_enc {m : Msg} (h1 : 0 ≤ m.ready) (h2 : m.ready ≤ 63) (h3 : 0 ≤ m.count) (h4 : m.count ≤ 7) (h5 : m.token.length ≤ 1) (h6 : m.body.length ≤ 1) : rM (encM m) = ((m.ready.toNat, m.count.toNat, m.token, m.body), ([], false)) := by
  have q1 := rNum_fwd (most := 2199023255552) (x := m.ready.toNat) (numB m.count.toNat ++ (textB m.token ++ (textB m.body ++ []))) (szN_8 (by omega)) (by omega)
  have q2 := rNum_fwd (most := 1000) (x := m.count.toNat) (textB m.token ++ (textB m.body ++ [])) (szN_8 (by omega)) (by omega)
  have q3 := rText_fwd (most := 400) (s := m.token) (textB m.body ++ []) (by decide) (by omega)
  have q4 := rText_fwd (most := 2000) (s := m.body) [] (by decide) (by omega)
  have e : encM m = numB m.ready.toNat ++ (numB m.count.toNat ++ (textB m.token ++ (textB m.body ++ []))) := by simp [encM]
  unfold rM
  simp only [e, q1, q2, q3, q4]
theorem turnT_some : ∀ (ws : List Wt) (ps : List (List UInt8 × Pl)) (ids : List (List UInt8)), (∀ w ∈ ws, w.gone = true ∨ decE w.val = 0) → ∃ r, turnT ps ids ws = some r
  | [], ps, ids, _ => ⟨_, rfl⟩
  | w :: ws, ps, ids, h => by
    have h1 := h w (by simp)
    have h2 := fun ps ids => turnT_some ws ps ids fun w hw => h w (by simp [hw])
    rw [turnT]
    split
    · exact h2 _ _
    · split
      · exact h2 _ _
      · rename_i hg
        rw [if_pos (h1.resolve_left (by simpa using hg))]
        exact h2 _ _
def GoodC (c : Cm) : Prop := ∀ w ∈ c.ws, w.gone = true ∨ decE w.val = 0
theorem events_some : ∀ (cs : List Cm) (ps : List (List UInt8 × Pl)) (es : List Ev), (∀ c ∈ cs, GoodC c) → ∃ r, eventsT ps es cs = some (es ++ r) ∧ ∀ e ∈ r, ∃ c ∈ cs, e.seq = c.seq
  | [], ps, es, _ => ⟨[], by simp [eventsT], by simp⟩
  | c :: cs, ps, es, h => by
    obtain ⟨⟨ps', ids⟩, h1⟩ := turnT_some c.ws ps [] (h c (by simp))
    obtain ⟨r, h2, h3⟩ := events_some cs ps' (es ++ evs c ps ps' (compS (sortS ids))) fun c hc => h c (by simp [hc])
    refine ⟨evs c ps ps' (compS (sortS ids)) ++ r, by rw [eventsT_some h1, h2, List.append_assoc], fun e he => ?_⟩
    rcases List.mem_append.1 he with he | he
    · unfold evs at he
      obtain ⟨i, _, rfl⟩ := List.mem_map.1 he
      exact ⟨c, by simp, rfl⟩
    · obtain ⟨c', hc', e'⟩ := h3 e he
      exact ⟨c', by simp [hc'], e'⟩
theorem events_app : ∀ (cs ds : List Cm) (ps : List (List UInt8 × Pl)) (es : List Ev), (∀ c ∈ cs ++ ds, GoodC c) →
    ∃ a b, eventsT ps es cs = some (es ++ a) ∧ eventsT ps es (cs ++ ds) = some (es ++ a ++ b) ∧ ∀ e ∈ b, ∃ c ∈ ds, e.seq = c.seq
  | [], ds, ps, es, h => by
    obtain ⟨r, h1, h2⟩ := events_some ds ps es (by simpa using h)
    exact ⟨[], r, by simp [eventsT], by simpa using h1, h2⟩
  | c :: cs, ds, ps, es, h => by
    obtain ⟨⟨ps', ids⟩, h1⟩ := turnT_some c.ws ps [] (h c (by simp))
    obtain ⟨a, b, h2, h3, h4⟩ := events_app cs ds ps' (es ++ evs c ps ps' (compS (sortS ids))) fun c hc => h c (by simp [hc])
    refine ⟨evs c ps ps' (compS (sortS ids)) ++ a, b, by rw [eventsT_some h1, h2, List.append_assoc], ?_, h4⟩
    rw [List.cons_append, eventsT_some h1, h3]
    simp [List.append_assoc]
theorem events_len {ps : List (List UInt8 × Pl)} {N : Nat} : ∀ (cs : List Cm) (ps : List (List UInt8 × Pl)) (es r : List Ev), eventsT ps es cs = some r → (∀ c ∈ cs, c.ws.length ≤ N) → r.length ≤ es.length + cs.length * N
  | [], ps, es, r, h, _ => by simp [eventsT] at h; subst h; omega
  | c :: cs, ps, es, r, h, hN => by
    cases ht : turnT ps [] c.ws with
    | none => rw [eventsT_none ht] at h; cases h
    | some q =>
      obtain ⟨ps', ids⟩ := q
      rw [eventsT_some ht] at h
      have h1 := events_len (ps := ps) cs ps' _ r h fun c hc => hN c (by simp [hc])
      have h2 := turnT_len _ ht
      have h3 := compS_len (sortS ids)
      rw [sortS_len] at h3
      have h4 := evs_len c ps ps' (compS (sortS ids))
      have h5 := hN c (by simp)
      simp only [List.length_append, List.length_cons, List.length_nil] at h1 h2 ⊢
      rw [Nat.add_mul]
      omega
end Go.AV.Hist
namespace Go.AV
theorem addM_addM (H : HS) (a b : List MB) : (H.addM a).addM b = H.addM (a ++ b) := by simp [HS.addM, List.append_assoc]
theorem Ext.addM {Hs X : HS} (h : Ext Hs X) (ms : List MB) : Ext (Hs.addM ms) (X.addM ms) :=
  ⟨h.blks, h.toks, by show X.maps ++ ms = Hs.maps ++ ms; rw [h.maps]⟩
theorem Ext.three {Hs X H : HS} {a b c : List MB} (hX : Ext Hs X) (h : Ext (((X.addM a).addM b).addM c) H) : Ext (Hs.addM (a ++ b ++ c)) H := by
  rw [← addM_addM, ← addM_addM]
  exact (((hX.addM a).addM b).addM c).trans h
theorem NoIt.back {Hs H : HS} (h : NoIt H) (hx : Ext Hs H) : NoIt Hs := h.of hx.maps.symm
theorem noIt_addM {H : HS} {ms : List MB} (h : NoIt H) (hm : ∀ m ∈ ms, ∃ es, m = .map es) : NoIt (H.addM ms) := fun j o n q he => by
  have he' : (H.maps ++ ms)[j]? = some (.iter o n q) := he
  by_cases hj : j < H.maps.length
  · rw [List.getElem?_append_left hj] at he'; exact h _ _ _ _ he'
  · rw [List.getElem?_append_right (by omega)] at he'
    obtain ⟨es, e⟩ := hm _ (List.mem_of_getElem? he')
    cases e
namespace Hist
theorem msT_maps : ∀ (cs : List Cm) (ps : List (List UInt8 × Pl)), ∀ m ∈ MB.map [] :: msT ps cs, ∃ es, m = .map es
  | [], ps, m, h => by simp [msT] at h; exact ⟨_, h⟩
  | c :: cs, ps, m, h => by
    rcases List.mem_cons.1 h with rfl | h
    · exact ⟨_, rfl⟩
    · rw [msT] at h
      split at h
      · cases h
      · rcases List.mem_cons.1 h with rfl | h
        · exact ⟨_, rfl⟩
        · exact msT_maps cs _ m (List.mem_cons_of_mem _ h)
open Go.AV.Ord Go.AV.Oct Go.AV.Patch
theorem dec_enc {m : Msg} (h1 : 0 ≤ m.ready) (h2 : m.ready ≤ 63) (h3 : 0 ≤ m.count) (h4 : m.count ≤ 7) (h5 : m.token.length ≤ 1) (h6 : m.body.length ≤ 1) : decE (encM m) = 0 ∧ decM m.id (encM m) = m := by
  have h := rM_enc h1 h2 h3 h4 h5 h6
  refine ⟨by unfold decE; rw [h]; rfl, ?_⟩
  unfold decM
  rw [h, if_pos (show rEnd (([] : List UInt8), false) = 0 from rfl)]
  show (⟨_, _, ((m.ready.toNat : Nat) : Int), ((m.count.toNat : Nat) : Int), _⟩ : Msg) = _
  rw [Int.toNat_of_nonneg h1, Int.toNat_of_nonneg h3]
def hM1 : Msg := ⟨[49], [120], 0, 0, []⟩
def hM2 : Msg := ⟨[49], [120], 20, 1, [116]⟩
def hK : List UInt8 := keyL [[109], [113], [49]]
def hW1 : Wt := ⟨hK, encM hM1, false⟩
def hW2 : Wt := ⟨hK, encM hM2, false⟩
def hC2 : Cm := ⟨2, 6, [hW2]⟩
theorem msgT_hK : msgT hK = ([113], [49], true) := msg_yes (partsE_key _) (partsA_key _)
theorem hd2 : decE (encM hM2) = 0 ∧ decM [49] (encM hM2) = hM2 := dec_enc (m := hM2) (by decide) (by decide) (by decide) (by decide) (by decide) (by decide)
theorem ht2 : turnT [([49], ⟨[113], hM1⟩)] [] hC2.ws = some ([([49], ⟨[113], hM2⟩)], [[49]]) := by
  show turnT _ [] [hW2] = _
  simp [turnT, hW2, msgT_hK, hd2, putK]
theorem lit_w (w : Wt) : ∀ y ∈ [wD w], y.cells.length = 3 := by
  intro y hy; rcases List.mem_singleton.1 hy with rfl; rfl
theorem lit_w1 (w : Wt) : ∀ d ∈ flat [wD w], d.one = true := by
  intro d hd; simp only [flat, List.flatMap_cons, List.flatMap_nil, List.append_nil] at hd; exact wC_one w d hd
section
variable {P : Program} {E : Operand → AV} {H : HS} {dst : Option Tmp} {ty : TypeId} {pos : String} {after : Array Edge} {gd : Option (Nat × Bool)}
end
end Hist
end Go.AV
namespace Go.Proofs.Ytjbpfnoibeogbaa
open Go.AV Go.AV.Ord Go.AV.Oct Go.AV.Hist Go.AV.Sb Go.AV.Sch
set_option linter.unusedVariables false
set_option linter.unusedSimpArgs false
set_option maxRecDepth 100000 in
theorem from1_ok (Hs : HS) (tid sid : Nat) (lv : AV) (sz : Int) (p : Nat) (hp : Hs.blks[p]? = some ⟨193, [.ptr tid 5], false⟩) (hT : Hs.blks[tid]? = some ⟨145, [.ptr sid 0, .d (I 0), .d (I 0), .d (I 0), .d (I 0), lv, .d (I sz)], false⟩) (hL : LL lv 1 (lsO none)) : ACalls Try.prog 99 [.un, .ptr p 0, .elt [S []]] Hs (Ret (.tup []) Hs) := by
 refine acalls_of_aw Try.func99 rfl ?_
 refine aw_start (T' := [.un, .ptr p 0, .elt [S []], .un, .un, .un, .un, .un, .un, .un, .un, .un, .un, .un, .un, .un, .un, .un, .un, .un, .un, .un, .un, .un, .un, .un, .un, .un, .un, .un, .un, .un, .un, .un, .un, .un, .un, .un, .un, .un, .un, .un, .un, .un, .un, .un, .un, .un, .un, .un, .un]) rfl ?_
 refine aw_scope ?_
 refine aw_seq ?_
 refine aw_region ?_
 refine zst (by first | exact op_load_elt Try.underlying193 (by rfl) (by rfl) (by rfl) | exact op_load_ptr Try.underlying193 (by rfl) (by rfl) (by assumption) (by rfl)) rfl (by dsimp only [zS, zN, zH, zT]) ?_
 refine zst (op_load_elt Try.underlying9 (by rfl) (by rfl) (by rfl)) rfl (by dsimp only [zS, zN, zH, zT]) ?_
 refine zst (op_callF Try.func100 (by rfl) (by rfl) (.tmp (by rfl) (.tmp (by rfl) .nil)) (find0_ok _ tid sid lv sz [] hT hL)) rfl (by dsimp only [zS, zN, zH, zT]) ?_
 refine zst (op_move_tmp (by rfl)) rfl (by dsimp only [zS, zN, zH, zT]) ?_
 refine zst (op_extract (by rfl) (by rfl)) rfl (by dsimp only [zS, zN, zH, zT]) ?_
 refine zst (op_extract (by rfl) (by rfl)) rfl (by dsimp only [zS, zN, zH, zT]) ?_
 refine zst (op_extract (by rfl) (by rfl)) rfl (by dsimp only [zS, zN, zH, zT]) ?_
 refine zst (op_assign_tmp (by rfl)) rfl (by dsimp only [zS, zN, zH, zT]) ?_
 refine zst (op_assign_tmp (by rfl)) rfl (by dsimp only [zS, zN, zH, zT]) ?_
 refine zst (op_assign_tmp (by rfl)) rfl (by dsimp only [zS, zN, zH, zT]) ?_
 refine al_end rfl ?_
 refine then_normal ?_
 refine aw_seq ?_
 refine aw_label ?_
 refine then_normal ?_
 refine aw_block ?_
 apply aw_loopF (fun n T H => ∃ (j : Nat), T = [.un, .ptr p 0, .elt [S []], .un, .d (I 0), .un, .un, .un, .un, .un, .un, .un, .un, .un, .un, .un, .un, .un, .un, .un, .un, .un, .un, .un, .un, .un, .un, .un, .un, .un, .un, .un, .un, .un, .un, .un, .un, .un, .un, .un, .un, .un, .un, .un, .un, .un, .un, .un, .un, .un, .un] ∧ j = 0 ∧ n = 0 ∧ Hs = H) (0) [false, true, true, false, true, false, false, false, false, false, false, false, false, false, false, false, false, false, false, false, false, false, false, false, false, false, false, false, false, false, false, false, false, false, false, false, false, false, false, false, false, false, false, false, false, false, false, false, false, false, false]
 · (try dsimp only [maskT]); try exact rfl
 · rfl
 · exact ⟨0, rfl, rfl, rfl, rfl⟩
 rintro n T H ⟨j, rfl, hj, rfl, rfl⟩
 refine aw_seq ?_
 refine aw_seq ?_
 refine aw_region ?_
 refine zst (by first | exact op_load_elt Try.underlying193 (by rfl) (by rfl) (by rfl) | exact op_load_ptr Try.underlying193 (by rfl) (by rfl) (by assumption) (by rfl)) rfl (by dsimp only [zS, zN, zH, zT]) ?_
 refine zst (op_ptr_some Try.underlying193 (by rfl) (by rfl)) rfl (by dsimp only [zS, zN, zH, zT]) ?_
 refine zst (op_move_tmp (by rfl)) rfl (by dsimp only [zS, zN, zH, zT]) ?_
 refine zsw rfl rfl rfl (op_move_tmp (by rfl)) (by dsimp only [zS, zN, zH, zT]) ?_
 refine zsw rfl rfl rfl (by first | exact op_load_elt Try.underlying193 (by rfl) (by rfl) (by rfl) | exact op_load_ptr Try.underlying193 (by rfl) (by rfl) (by assumption) (by rfl)) (by dsimp only [zS, zN, zH, zT]) ?_
 refine zsw rfl rfl rfl (by first | exact op_nilCheck_ptr (by rfl) | exact op_nilCheck_elt (by rfl)) (by dsimp only [zS, zN, zH, zT]) ?_
 refine zsw rfl rfl rfl (by first | exact op_fieldAddr_ptr Try.underlying143 rfl Sz141 (by rfl) (by rfl) | exact op_fieldAddr_elt Try.underlying143 rfl Sz141 (by rfl) (by rfl) (by rfl)) (by dsimp only [zS, zN, zH, zT]) ?_
 refine zsw rfl rfl rfl (by first | exact op_load_elt Try.underlying141 (by rfl) (by rfl) (by rfl) | exact op_load_ptr Try.underlying141 (by rfl) (by rfl) (by assumption) (by rfl)) (by dsimp only [zS, zN, zH, zT]) ?_
 refine zsw rfl rfl rfl (op_lenL Try.underlying141 hL) (by dsimp only [zS, zN, zH, zT]) ?_
 refine zsw rfl rfl rfl (op_ltI (by rfl) (by rfl)) (by dsimp only [zS, zN, zH, zT]) ?_
 refine zst (op_pick_tt (by rfl) (val_tmp (by rfl))) rfl (by dsimp only [zS, zN, zH, zT]) ?_
 refine al_end rfl ?_
 refine then_normal ?_
 refine aw_cond rfl (fun h => by cases h) (fun _ => ?_)
 refine aw_exit ?_
 refine then_exit (again_exit (inBlock_here (noGo_normal ?_)))
 refine retPost0 (by first | exact .inl rfl | exact .inr rfl) rfl ?_
 exact ⟨rfl, rfl⟩
set_option maxRecDepth 100000 in
theorem from_ok (Hs : HS) (tid : Nat) : ACalls Try.prog 66 [.ptr tid 5, .d (S [])] Hs (Ret (.fn (.func 99) [] [.ptr Hs.nb 0, .elt [S []]]) (Hs.push 193 [.ptr tid 5])) := by
 refine acalls_of_aw Try.func66 rfl ?_
 refine aw_start (T' := [.ptr tid 5, .d (S []), .un, .un, .un, .un]) rfl ?_
 refine aw_seq ?_
 refine aw_region ?_
 refine zst (op_box_ptr (cs := [.ptr tid 5]) (by intro h; cases h) (by rfl)) rfl (by dsimp only [zS, zN, zH, zT]) ?_
 refine zst (op_box_elt (cs := [S []]) (by rfl) (by rfl)) rfl (by dsimp only [zS, zN, zH, zT]) ?_
 refine zst (op_assign_const (by rfl)) rfl (by dsimp only [zS, zN, zH, zT]) ?_
 refine al_end rfl ?_
 refine then_normal ?_
 refine aw_seq ?_
 refine aw_region ?_
 refine zst (op_makeFn .nil (.tmp (by rfl) (.tmp (by rfl) .nil))) rfl (by dsimp only [zS, zN, zH, zT]) ?_
 refine zst (op_assign_tmp (by rfl)) rfl (by dsimp only [zS, zN, zH, zT]) ?_
 refine al_end rfl ?_
 refine then_normal ?_
 refine aw_ret ?_
 refine retPost1 rfl rfl ?_
 exact ⟨rfl, rfl⟩
set_option maxRecDepth 100000 in
set_option maxHeartbeats 2000000 in
theorem writes0_ok (Hs : HS) (tid sid : Nat) (lv : AV) (sz : Int) (hT : Hs.blks[tid]? = some ⟨145, [.ptr sid 0, .d (I 0), .d (I 0), .d (I 0), .d (I 0), lv, .d (I sz)], false⟩) (hL : LL lv 1 (lsO none)) : ACalls Try.prog 32 [.ptr tid 0] Hs (fun av H' => av = nilS ∧ ∃ ms, H' = Hs.addM ms) := by
 refine ACalls.tidyA ?_
 refine ACalls.mono (acalls_range0 (H0 := Hs) (H1 := (Hs.push 46 [nilS])) (H2 := (Hs.push 46 [nilS])) (H3 := ((Hs.push 46 [nilS]).push 193 [.ptr tid 5])) (T0 := [.ptr tid 0, .un, nilS, .un, .un, .un, .un, .un, .un, .un, .un, .un, .un, .un, .un, .un, .un, .un, .un]) (T1 := [.ptr tid 0, .un, nilS, .ptr Hs.nb 0, .un, .un, .un, .un, .un, .un, .un, .un, .un, .un, .un, .un, .un, .un, .un]) (T2 := [.ptr tid 0, .un, nilS, .ptr Hs.nb 0, .un, .un, .ptr tid 0, .d (TF true), .un, .un, .un, .un, .un, .un, .un, .un, .un, .un, .un]) (T3 := [.ptr tid 0, .un, nilS, .ptr Hs.nb 0, .un, .un, .ptr tid 0, .d (TF true), .ptr tid 0, .ptr tid 0, .ptr tid 5, .fn (.func 99) [] [.ptr (Hs.push 46 [nilS]).nb 0, .elt [S []]], .un, .un, .un, .un, .un, .un, .un]) (T6 := [.ptr tid 0, .un, nilS, .ptr Hs.nb 0, .un, .un, .ptr tid 0, .d (TF true), .ptr tid 0, .ptr tid 0, .ptr tid 5, .fn (.func 99) [] [.ptr (Hs.push 46 [nilS]).nb 0, .elt [S []]], .un, .un, .un, .un, .un, .un, nilS]) (cs := [.ptr (Hs.push 46 [nilS]).nb 0, .elt [S []]]) (av := nilS) Try.func32 rfl rfl ?_ ?_ ?_ ?_ ?_ ?_ Try.func99 (by rfl) (by rfl) ?_ ?_ ?_) ?_
 ·
  refine aw_start (T' := [.ptr tid 0, .un, .un, .un, .un, .un, .un, .un, .un, .un, .un, .un, .un, .un, .un, .un, .un, .un, .un]) rfl ?_
  refine aw_region ?_
  refine zst (op_assign_const (by rfl)) rfl (by dsimp only [zS, zN, zH, zT]) ?_
  refine al_end rfl ?_
  exact ⟨rfl, rfl, rfl⟩
 ·
  refine aw_region ?_
  refine zst (op_alloc (Zr46) (by rfl)) rfl (by dsimp only [zS, zN, zH, zT]) ?_
  refine al_end rfl ?_
  exact ⟨rfl, rfl, rfl⟩
 ·
  refine aw_region ?_
  refine zst (op_move_tmp (by rfl)) rfl (by dsimp only [zS, zN, zH, zT]) ?_
  refine zst (op_ptr_some Try.underlying72 (by rfl) (by rfl)) rfl (by dsimp only [zS, zN, zH, zT]) ?_
  refine al_end rfl ?_
  exact ⟨rfl, rfl, rfl⟩
 · rfl
 ·
  refine aw_region ?_
  refine zst (op_move_tmp (by rfl)) rfl (by dsimp only [zS, zN, zH, zT]) ?_
  refine zst (by first | exact op_nilCheck_ptr (by rfl) | exact op_nilCheck_elt (by rfl)) rfl (by dsimp only [zS, zN, zH, zT]) ?_
  refine zst (by first | exact op_fieldAddr_ptr Try.underlying145 rfl Sz143 (by rfl) (by rfl) | exact op_fieldAddr_elt Try.underlying145 rfl Sz143 (by rfl) (by rfl) (by rfl)) rfl (by dsimp only [zS, zN, zH, zT]) ?_
  refine zst (op_callF Try.func66 (by rfl) (by rfl) (.tmp (by rfl) (.const (by rfl) .nil)) (from_ok _ tid)) rfl (by dsimp only [zS, zN, zH, zT]) ?_
  refine al_end rfl ?_
  exact ⟨rfl, rfl, rfl⟩
 · rfl
 ·
  intro K h1 h2
  refine from1_ok K tid sid lv sz _ (by rw [h1]; exact push_at) (by rw [h1]; exact push_ne (push_ne hT)) hL
 ·
  intro K h1 h2
  refine awd_region ?_
  refine ald_step (op_load_ptr Try.underlying46 (by rfl) (by rfl) (by rw [h1]; exact push_ne push_at) (by rfl)) rfl (by dsimp only [zS]) ?_
  refine ald_step (op_assign_tmp (by rfl)) rfl (by dsimp only [zS]) ?_
  exact ald_nil ⟨rfl, rfl, rfl⟩
 · rfl
 ·
  rintro av H' ⟨rfl, ms, rfl⟩
  exact ⟨ms, .d _, (((Ext.refl Hs).push _ _).push _ _).addM ms, rfl, ms, rfl⟩
end Go.Proofs.Ytjbpfnoibeogbaa
namespace Go.Proofs.Ytjbpfnoibeogbaa
open Go.AV Go.AV.Ord Go.AV.Oct Go.AV.Val Go.AV.Sch
set_option linter.unusedVariables false
set_option linter.unusedSimpArgs false
set_option maxRecDepth 100000 in
theorem cfew_ok (Hs : HS) (name : List UInt8) (xs : List Ix) (hl : xs.length ≤ 9223372036854775807) : ACalls Try.prog 27 [.d (.agg [S name, .lst 3 (xs.map ixD)])] Hs (Ret (.d (TF (fewC name xs))) Hs) := by
 refine ACalls.tidy1 ?_
 refine acalls_of_aw Try.func27 rfl ?_
 refine aw_start (T' := [.d (.agg [S name, .lst 3 (xs.map ixD)]), .un, .un, .un, .un, .un, .un, .un, .un, .un, .un, .un, .un, .un, .un, .un, .un, .un, .un, .un, .un, .un, .un, .un, .un, .un, .un, .un, .un, .un, .un, .un, .un]) rfl ?_
 refine aw_seq ?_
 refine aw_region ?_
 refine zst (op_box_elt (by rfl) (by rfl)) rfl (by dsimp only [zS, zN, zH, zT]) ?_
 refine zst (op_assign_const (by rfl)) rfl (by dsimp only [zS, zN, zH, zT]) ?_
 refine al_end rfl ?_
 refine then_normal ?_
 refine aw_seq ?_
 refine aw_seq ?_
 refine aw_region ?_
 refine zst (by first | exact op_fieldAddr_ptr Try.underlying77 rfl Sz75 (by rfl) (by rfl) | exact op_fieldAddr_elt Try.underlying77 rfl Sz75 (by rfl) (by rfl) (by rfl)) rfl (by dsimp only [zS, zN, zH, zT]) ?_
 refine zst (by first | exact op_load_elt Try.underlying75 (by rfl) (by rfl) (by rfl) | exact op_load_ptr Try.underlying75 (by rfl) (by rfl) (by exact setB_at push_at) (by rfl)) rfl (by dsimp only [zS, zN, zH, zT]) ?_
 refine zst (op_lenL Try.underlying75 (by first | exact LL.d _ _ | exact LL.own _ _ _ | exact LL.nil _ | assumption)) rfl (by dsimp only [zS, zN, zH, zT]) ?_
 refine zst (op_move_const (by rfl)) rfl (by dsimp only [zS, zN, zH, zT]) ?_
 refine al_end rfl ?_
 refine then_normal ?_
 refine aw_block ?_
 apply aw_loopF (fun n T H => ∃ (k : Nat), T = [.un, .elt [S name, .lst 3 (xs.map ixD)], .un, .un, .un, .un, .d (.lst 3 (xs.map ixD)), .d (I (xs.map ixD).length), .d (I k), .un, .un, .un, .un, .un, .un, .un, .un, .un, .un, .un, .un, .un, .un, .un, .un, .un, .un, .un, .un, .un, .un, .un, .un] ∧ k ≤ xs.length ∧ n = xs.length - k ∧ (xs.take k).all fewIx = true ∧ Ext Hs H) (xs.length) [false, true, false, false, false, false, true, true, true, false, false, false, false, false, false, false, false, false, false, false, false, false, false, false, false, false, false, false, false, false, false, false, false]
 · (try dsimp only [maskT]); try exact rfl
 · rfl
 · exact ⟨0, rfl, by omega, rfl, rfl, Ext.refl Hs⟩
 rintro n T H ⟨k, rfl, hk, rfl, hall, hx⟩
 refine aw_seq ?_
 refine aw_region ?_
 refine zst (op_ltI (by rfl) (by rfl)) rfl (by dsimp only [zS, zN, zH, zT]) ?_
 refine al_end rfl ?_
 refine then_normal ?_
 refine aw_seq ?_
 refine aw_cond rfl (fun hc1 => ?_) (fun hc1 => ?_)
 ·
  (try simp only [y1, y2, y3, y4, y5, y6, y7, y8, y9, y0, List.length_map] at hc1)
  (try simp only [List.length_map] at hc1)
  have hlt : k < xs.length := by omega
  obtain ⟨y, hy⟩ : ∃ y, xs[k]? = some y := ⟨_, List.getElem?_eq_getElem hlt⟩
  refine aw_skip ?_
  refine then_normal ?_
  refine aw_seq ?_
  refine aw_block ?_
  refine aw_seq ?_
  refine aw_region ?_
  refine zst (op_indexAddr Try.underlying75 Sz88 (LL.d _ _) (by rfl) (by omega) (show (xs.map ixD)[((k : Nat) : Int).toNat]? = some (ixD y) by rw [List.getElem?_map, show ((k : Nat) : Int).toNat = k from rfl, hy]; rfl) (by rfl)) rfl (by dsimp only [zS, zN, zH, zT]) ?_
  refine zst (op_load_elts (ds := ixC y) Try.underlying88 (by rfl) Sz88 (by rfl) (Nat.le_of_ble_eq_true rfl) (by rfl)) rfl (by dsimp only [zS, zN, zH, zT]) ?_
  refine zst (op_alloc (Zr88) (by rfl)) rfl (by dsimp only [zS, zN, zH, zT]) ?_
  refine zst (op_storeB (vs := [.d (S y.name), .d (S y.field), .d (TF y.uniq)]) (b' := ⟨88, [.d (S y.name), .d (S y.field), .d (TF y.uniq)], false⟩) (H' := _) Sz88 (by rfl) push_at (by intro h; cases h) (by rfl) (by rfl) (Nat.le_of_ble_eq_true rfl) (by simp [AV.one, DV.one, TF, S, I, BY]) (by rfl) (by rfl) rfl) rfl (by dsimp only [zS, zN, zH, zT]) ?_
  refine al_end rfl ?_
  refine then_normal ?_
  refine aw_seq ?_
  refine aw_region ?_
  refine zst (by first | exact op_fieldAddr_ptr Try.underlying88 rfl Sz9 (by rfl) (by rfl) | exact op_fieldAddr_elt Try.underlying88 rfl Sz9 (by rfl) (by rfl) (by rfl)) rfl (by dsimp only [zS, zN, zH, zT]) ?_
  refine zst (by first | exact op_load_elt Try.underlying9 (by rfl) (by rfl) (by rfl) | exact op_load_ptr Try.underlying9 (by rfl) (by rfl) (by exact setB_at push_at) (by rfl)) rfl (by dsimp only [zS, zN, zH, zT]) ?_
  refine zst (op_lenS Try.underlying9 (by rfl)) rfl (by dsimp only [zS, zN, zH, zT]) ?_
  refine zst (op_gtI (by rfl) (by rfl)) rfl (by dsimp only [zS, zN, zH, zT]) ?_
  refine zst (op_move_tmp (by rfl)) rfl (by dsimp only [zS, zN, zH, zT]) ?_
  refine al_split 16 rfl (fun hg2 => ?_) (fun hg2 => ?_)
  ·
   (try simp only [y1, y2, y3, y4, y5, y6, y7, y8, y9, y0, List.length_map] at hg2)
   have h60 : ¬ y.name.length ≤ 60 := by have h : 60 < (y.name.length : Int) := hg2; omega
   apply al_normT
   · (try dsimp only [zS, zN, zH, zT]); try exact rfl
   refine zuw rfl rfl rfl rfl (by dsimp only [zS, zN, zH, zT]) ?_
   refine zuw rfl rfl rfl rfl (by dsimp only [zS, zN, zH, zT]) ?_
   refine zuw rfl rfl rfl rfl (by dsimp only [zS, zN, zH, zT]) ?_
   refine zuw rfl rfl rfl rfl (by dsimp only [zS, zN, zH, zT]) ?_
   refine zst (op_pick_tt (by rfl) (val_const (by rfl))) rfl (by dsimp only [zS, zN, zH, zT]) ?_
   refine al_end rfl ?_
   refine then_normal ?_
   refine aw_cond rfl (fun _ => ?_) (fun h => by cases h)
   refine aw_seq ?_
   refine aw_region ?_
   refine zst (op_assign_const (by rfl)) rfl (by dsimp only [zS, zN, zH, zT]) ?_
   refine al_end rfl ?_
   refine then_normal ?_
   refine aw_ret ?_
   refine inBlock_ret (then_ret (again_ret (inBlock_ret (then_ret ?_))))
   refine retPost1 rfl rfl ?_
   exact ⟨by rw [fewC_bad hy (by simp [fewIx, h60])]; rfl, (hx.push _ _).setB (nb_le hx)⟩
  ·
   (try simp only [y1, y2, y3, y4, y5, y6, y7, y8, y9, y0, List.length_map] at hg2)
   have h60 : y.name.length ≤ 60 := by have h : ¬ 60 < (y.name.length : Int) := hg2; omega
   apply al_normT
   · (try dsimp only [zS, zN, zH, zT]); try exact rfl
   refine zsw rfl rfl rfl (by first | exact op_fieldAddr_ptr Try.underlying88 rfl Sz9 (by rfl) (by rfl) | exact op_fieldAddr_elt Try.underlying88 rfl Sz9 (by rfl) (by rfl) (by rfl)) (by dsimp only [zS, zN, zH, zT]) ?_
   refine zsw rfl rfl rfl (by first | exact op_load_elt Try.underlying9 (by rfl) (by rfl) (by rfl) | exact op_load_ptr Try.underlying9 (by rfl) (by rfl) (by exact setB_at push_at) (by rfl)) (by dsimp only [zS, zN, zH, zT]) ?_
   refine zsw rfl rfl rfl (op_lenS Try.underlying9 (by rfl)) (by dsimp only [zS, zN, zH, zT]) ?_
   refine zsw rfl rfl rfl (op_gtI (by rfl) (by rfl)) (by dsimp only [zS, zN, zH, zT]) ?_
   refine zst (op_pick_ff (by rfl) (val_tmp (by rfl))) rfl (by dsimp only [zS, zN, zH, zT]) ?_
   refine al_end rfl ?_
   refine then_normal ?_
   refine aw_cond rfl (fun hc4 => ?_) (fun hc4 => ?_)
   ·
    (try simp only [y1, y2, y3, y4, y5, y6, y7, y8, y9, y0, List.length_map] at hc4)
    have hf60 : ¬ y.field.length ≤ 60 := by have h : 60 < (y.field.length : Int) := hc4; omega
    refine aw_seq ?_
    refine aw_region ?_
    refine zst (op_assign_const (by rfl)) rfl (by dsimp only [zS, zN, zH, zT]) ?_
    refine al_end rfl ?_
    refine then_normal ?_
    refine aw_ret ?_
    refine inBlock_ret (then_ret (again_ret (inBlock_ret (then_ret ?_))))
    refine retPost1 rfl rfl ?_
    exact ⟨by rw [fewC_bad hy (by simp [fewIx, hf60])]; rfl, (hx.push _ _).setB (nb_le hx)⟩
   ·
    (try simp only [y1, y2, y3, y4, y5, y6, y7, y8, y9, y0, List.length_map] at hc4)
    have hf60 : y.field.length ≤ 60 := by have h : ¬ 60 < (y.field.length : Int) := hc4; omega
    refine aw_skip ?_
    refine inBlock_normal (then_normal ?_)
    refine aw_region ?_
    refine zst (by first | exact op_add (by rfl) (by rfl) (wrap_i64 ⟨by omega, by omega⟩) | exact op_add (by rfl) (by rfl) (by rfl)) rfl (by dsimp only [zS, zN, zH, zT]) ?_
    refine zst (op_move_tmp (by rfl)) rfl (by dsimp only [zS, zN, zH, zT]) ?_
    refine al_end rfl ?_
    apply again_to (xs.length - (k + 1)) [false, true, false, false, false, false, true, true, true, false, false, false, false, false, false, false, false, false, false, false, false, false, false, false, false, false, false, false, false, false, false, false, false]
    · (try dsimp only [maskT]); try exact rfl
    · rfl
    · omega
    exact ⟨k + 1, rfl, by omega, rfl, fewC_step hy hall h60 hf60, (hx.push _ _).setB (nb_le hx)⟩
 ·
  (try simp only [y1, y2, y3, y4, y5, y6, y7, y8, y9, y0, List.length_map] at hc1)
  (try simp only [List.length_map] at hc1)
  have hke : k = xs.length := by omega
  subst hke
  rw [List.take_length] at hall
  refine aw_exit ?_
  refine then_exit (again_exit (inBlock_here (then_normal ?_)))
  refine aw_seq ?_
  refine aw_region ?_
  refine zst (by first | exact op_fieldAddr_ptr Try.underlying77 rfl Sz75 (by rfl) (by rfl) | exact op_fieldAddr_elt Try.underlying77 rfl Sz75 (by rfl) (by rfl) (by rfl)) rfl (by dsimp only [zS, zN, zH, zT]) ?_
  refine zst (by first | exact op_load_elt Try.underlying75 (by rfl) (by rfl) (by rfl) | exact op_load_ptr Try.underlying75 (by rfl) (by rfl) (by exact setB_at push_at) (by rfl)) rfl (by dsimp only [zS, zN, zH, zT]) ?_
  refine zst (op_lenL Try.underlying75 (by first | exact LL.d _ _ | exact LL.own _ _ _ | exact LL.nil _ | assumption)) rfl (by dsimp only [zS, zN, zH, zT]) ?_
  refine zst (op_leI (by rfl) (by rfl)) rfl (by dsimp only [zS, zN, zH, zT]) ?_
  refine zst (op_move_tmp (by rfl)) rfl (by dsimp only [zS, zN, zH, zT]) ?_
  refine al_split 27 rfl (fun hg5 => ?_) (fun hg5 => ?_)
  ·
   (try simp only [y1, y2, y3, y4, y5, y6, y7, y8, y9, y0, List.length_map] at hg5)
   have h12 : xs.length ≤ 12 := by have h : (xs.length : Int) ≤ 12 := hg5; omega
   apply al_normT
   · (try dsimp only [zS, zN, zH, zT]); try exact rfl
   refine zsw rfl rfl rfl (by first | exact op_fieldAddr_ptr Try.underlying77 rfl Sz9 (by rfl) (by rfl) | exact op_fieldAddr_elt Try.underlying77 rfl Sz9 (by rfl) (by rfl) (by rfl)) (by dsimp only [zS, zN, zH, zT]) ?_
   refine zsw rfl rfl rfl (by first | exact op_load_elt Try.underlying9 (by rfl) (by rfl) (by rfl) | exact op_load_ptr Try.underlying9 (by rfl) (by rfl) (by exact setB_at push_at) (by rfl)) (by dsimp only [zS, zN, zH, zT]) ?_
   refine zsw rfl rfl rfl (op_lenS Try.underlying9 (by rfl)) (by dsimp only [zS, zN, zH, zT]) ?_
   refine zsw rfl rfl rfl (op_leI (by rfl) (by rfl)) (by dsimp only [zS, zN, zH, zT]) ?_
   refine zst (op_pick_tt (by rfl) (val_tmp (by rfl))) rfl (by dsimp only [zS, zN, zH, zT]) ?_
   refine zst (op_assign_tmp (by rfl)) rfl (by dsimp only [zS, zN, zH, zT]) ?_
   refine al_end rfl ?_
   refine then_normal ?_
   refine aw_ret ?_
   refine retPost1 rfl rfl ?_
   exact ⟨by simp only [fewC, hall, h12, TF, decide_true, Bool.true_and]; congr 3; exact decide_eq_decide.2 (by omega), hx⟩
  ·
   (try simp only [y1, y2, y3, y4, y5, y6, y7, y8, y9, y0, List.length_map] at hg5)
   have h12 : ¬ xs.length ≤ 12 := by have h : ¬ (xs.length : Int) ≤ 12 := hg5; omega
   apply al_normT
   · (try dsimp only [zS, zN, zH, zT]); try exact rfl
   refine zuw rfl rfl rfl rfl (by dsimp only [zS, zN, zH, zT]) ?_
   refine zuw rfl rfl rfl rfl (by dsimp only [zS, zN, zH, zT]) ?_
   refine zuw rfl rfl rfl rfl (by dsimp only [zS, zN, zH, zT]) ?_
   refine zuw rfl rfl rfl rfl (by dsimp only [zS, zN, zH, zT]) ?_
   refine zst (op_pick_ff (by rfl) (val_const (by rfl))) rfl (by dsimp only [zS, zN, zH, zT]) ?_
   refine zst (op_assign_tmp (by rfl)) rfl (by dsimp only [zS, zN, zH, zT]) ?_
   refine al_end rfl ?_
   refine then_normal ?_
   refine aw_ret ?_
   refine retPost1 rfl rfl ?_
   exact ⟨by simp [fewC, h12, TF], hx⟩
end Go.Proofs.Ytjbpfnoibeogbaa
