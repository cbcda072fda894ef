/-
  Plain theory of layers 2 and 3: the bytes of values are in the order of the values.
-/
import Derived.Test.YtjamnhofbkgblaaValOrd
import Derived.Test.YtjamnhofbkgblaaOrdPlain
namespace Go.AV.Val
open Go.AV.Ord Go.AV.Oct
theorem byL_lt' {a b : List UInt8} (h : Op.bytesLess a b = true) : byL a b = -1 := byL_lt h
theorem byL_head {c d : UInt8} {x y : List UInt8} (h : c.toNat < d.toNat) : byL (c :: x) (d :: y) = -1 := by
  have : c < d := UInt8.lt_iff_toNat_lt.2 h
  exact byL_lt (by simp [Op.bytesLess, this])
theorem byL_head' {c d : UInt8} {x y : List UInt8} (h : d.toNat < c.toNat) : byL (c :: x) (d :: y) = 1 := by
  have : d < c := UInt8.lt_iff_toNat_lt.2 h
  exact byL_gt (by simp [Op.bytesLess, this])
theorem byL_cons (c : UInt8) (x y : List UInt8) : byL (c :: x) (c :: y) = byL x y := byL_append [c] x y
theorem ordV_head {d : Nat} {v : V} (h : rightV d v = true) : ∃ c r, ordV v = c :: r ∧ c.toNat = v.kind.toNat + 2 ∧ 0 ≤ v.kind ∧ v.kind ≤ 5 := by
  cases d with
  | zero => simp [rightV] at h
  | succ d =>
    obtain ⟨h1, _⟩ := right_only h
    obtain ⟨h0, h5, _⟩ := only_list h1
    cases v with
    | mk k y i t l fs =>
      simp only [V.kind] at h0 h5 ⊢
      exact ⟨_, _, ordV_mk .., ofNat_toNat (by omega), h0, h5⟩
/-- Two things, their order, and their bytes. -/
def Agree {α : Type} (a b : α) (c : Int) (x y : List UInt8) : Prop := (a = b ∧ c = 0) ∨ (a ≠ b ∧ c ≠ 0 ∧ ∀ m o, byL (x ++ m) (y ++ o) = c)
theorem ordL_cmp {d : Nat} : ∀ (l l' : List V), (∀ x ∈ l, rightV d x = true) → (∀ x ∈ l', rightV d x = true) → (∀ x ∈ l, ∀ y ∈ l', Agree x y (cmpV x y) (ordV x) (ordV y)) → Agree l l' (cmpL l l') (l.flatMap ordV ++ [1]) (l'.flatMap ordV ++ [1])
  | [], [], _, _, _ => .inl ⟨rfl, cmpL_nn⟩
  | [], y :: l', _, h2, _ => by
    refine .inr ⟨by simp, by rw [cmpL_nc]; decide, fun m o => ?_⟩
    obtain ⟨c, r, e, hc, _⟩ := ordV_head (h2 y (by simp))
    rw [cmpL_nc, List.flatMap_cons, e]
    exact byL_head (by rw [hc]; show 1 < _; omega)
  | x :: l, [], h1, _, _ => by
    refine .inr ⟨by simp, by rw [cmpL_cn]; decide, fun m o => ?_⟩
    obtain ⟨c, r, e, hc, _⟩ := ordV_head (h1 x (by simp))
    rw [cmpL_cn, List.flatMap_cons, e]
    exact byL_head' (by rw [hc]; show 1 < _; omega)
  | x :: l, y :: l', h1, h2, h => by
    have ih := ordL_cmp l l' (fun z hz => h1 z (by simp [hz])) (fun z hz => h2 z (by simp [hz])) (fun a ha b hb => h a (by simp [ha]) b (by simp [hb]))
    rw [cmpL_cons]
    rcases h x (by simp) y (by simp) with ⟨rfl, h0⟩ | ⟨hne, h0, hb⟩
    · rw [h0]
      rcases ih with ⟨rfl, h3⟩ | ⟨hne, h3, hb⟩
      · exact .inl ⟨rfl, h3⟩
      · refine .inr ⟨by simpa using hne, h3, fun m o => ?_⟩
        rw [List.flatMap_cons, List.flatMap_cons, List.append_assoc, List.append_assoc, List.append_assoc, List.append_assoc, byL_append]
        have := hb m o
        rw [List.append_assoc, List.append_assoc] at this
        exact this
    · rw [if_pos h0]
      refine .inr ⟨fun e => hne (by injection e), h0, fun m o => ?_⟩
      rw [List.flatMap_cons, List.flatMap_cons, List.append_assoc, List.append_assoc, List.append_assoc, List.append_assoc]
      exact hb _ _
theorem ordF_cmp : ∀ (l l' : List F), (∀ x ∈ l, ∀ y ∈ l', Agree x.val y.val (cmpV x.val y.val) (ordV x.val) (ordV y.val)) → Agree l l' (cmpF l l') (l.flatMap ordF1 ++ [1]) (l'.flatMap ordF1 ++ [1])
  | [], [], _ => .inl ⟨rfl, cmpF_nn⟩
  | [], y :: l', _ => by
    refine .inr ⟨by simp, by rw [cmpF_nc]; decide, fun m o => ?_⟩
    rw [cmpF_nc, List.flatMap_cons]
    exact byL_head (by decide)
  | x :: l, [], _ => by
    refine .inr ⟨by simp, by rw [cmpF_cn]; decide, fun m o => ?_⟩
    rw [cmpF_cn, List.flatMap_cons]
    exact byL_head' (by decide)
  | x :: l, y :: l', h => by
    have ih := ordF_cmp l l' (fun a ha b hb => h a (by simp [ha]) b (by simp [hb]))
    rw [cmpF_cons]
    have e1 : ∀ m, (x :: l).flatMap ordF1 ++ [1] ++ m = 2 :: (encT x.name ++ (ordV x.val ++ (l.flatMap ordF1 ++ [1] ++ m))) := fun m => by simp [ordF1]
    have e2 : ∀ m, (y :: l').flatMap ordF1 ++ [1] ++ m = 2 :: (encT y.name ++ (ordV y.val ++ (l'.flatMap ordF1 ++ [1] ++ m))) := fun m => by simp [ordF1]
    by_cases hn : x.name = y.name
    · have hc : Lib.compareBytes x.name y.name = 0 := cb_eq.2 hn
      have hcf : cmpF1 x y = cmpV x.val y.val := by unfold cmpF1 orI; rw [hc]; simp
      rw [hcf]
      rcases h x (by simp) y (by simp) with ⟨hv, h0⟩ | ⟨hne, h0, hb⟩
      · have hxy : x = y := by
          rw [x.eta, y.eta, hn, hv]
        rw [h0]
        rcases ih with ⟨rfl, h3⟩ | ⟨hne, h3, hb⟩
        · exact .inl ⟨by rw [hxy], h3⟩
        · refine .inr ⟨by simpa [hxy] using hne, h3, fun m o => ?_⟩
          rw [e1, e2, byL_cons, hn, byL_append, hv, byL_append]
          exact hb m o
      · rw [if_pos h0]
        refine .inr ⟨fun e => hne (by injection e with e _; rw [e]), h0, fun m o => ?_⟩
        rw [e1, e2, byL_cons, hn, byL_append]
        exact hb _ _
    · have hc : ¬ Lib.compareBytes x.name y.name = 0 := fun e => hn (cb_eq.1 e)
      have hcf : cmpF1 x y = Lib.compareBytes x.name y.name := by unfold cmpF1 orI; rw [if_pos hc]
      rw [hcf, if_pos hc]
      refine .inr ⟨fun e => hn (by injection e with e _; rw [e]), hc, fun m o => ?_⟩
      rw [e1, e2, byL_cons, byL_encT hn, cb_byL]
theorem cmpI_ne {a b : Int} (h : a ≠ b) : cmpI a b ≠ 0 := by unfold cmpI; (repeat' split) <;> omega
theorem cmpI_self (a : Int) : cmpI a a = 0 := by simp [cmpI]
theorem encI_by {a b : Int} (ha : i64 a) (hb : i64 b) (h : a ≠ b) (m o : List UInt8) : byL (encI a ++ m) (encI b ++ o) = cmpI a b := by
  unfold cmpI
  by_cases h1 : a < b
  · rw [if_pos h1]
    exact byL_lt (less_ext (by rw [encI_len, encI_len]) (encI_less ha hb h1) m o)
  · rw [if_neg h1, if_pos (by omega)]
    exact byL_gt (less_ext (by rw [encI_len, encI_len]) (encI_less hb ha (by omega)) o m)
theorem cmpV_mm (k k' : Int) (y y' : Bool) (i i' : Int) (t t' : List UInt8) (l l' : List V) (fs fs' : List F) : cmpV (.mk k y i t l fs) (.mk k' y' i' t' l' fs') = if cmpI k k' ≠ 0 then cmpI k k' else if k = 1 then cmpI (yesI y) (yesI y') else if k = 2 then cmpI i i' else if k = 3 then Lib.compareBytes t t' else if k = 4 then cmpL l l' else if k = 5 then cmpF fs fs' else 0 := by rw [cmpV_mk]; rfl
theorem ordV_cmp : ∀ (d : Nat) (a b : V), rightV d a = true → rightV d b = true → WfV a → WfV b → Agree a b (cmpV a b) (ordV a) (ordV b)
  | 0, _, _, h, _, _, _ => by simp [rightV] at h
  | d + 1, a, b, ha, hb, wa, wb => by
    obtain ⟨a1, a2, a3, _⟩ := right_only ha
    obtain ⟨b1, b2, b3, _⟩ := right_only hb
    have iL := fun x hx y hy => ordV_cmp d x y (a3 x hx) (b3 y hy) (wa.l x hx) (wb.l y hy)
    have iF := fun x hx y hy => ordV_cmp d (F.val x) (F.val y) (a2 x hx) (b2 y hy) (wa.f x hx) (wb.f y hy)
    have wn := wa.n
    have wn' := wb.n
    obtain ⟨k, y, i, t, l, fs, rfl⟩ : ∃ k y n t l fs, a = .mk k y n t l fs := ⟨_, _, _, _, _, _, a.eta⟩
    obtain ⟨k', y', i', t', l', fs', rfl⟩ : ∃ k y n t l fs, b = .mk k y n t l fs := ⟨_, _, _, _, _, _, b.eta⟩
    rw [only_vals] at a1 b1
    simp only [V.list, V.fields, V.num] at a2 a3 b2 b3 iL iF wn wn'
    simp only [valsV, Bool.and_eq_true, Bool.or_eq_true, beq_iff_eq, List.isEmpty_iff] at a1 b1
    obtain ⟨⟨k0, k5⟩, ⟨⟨⟨⟨py, pi⟩, pt⟩, pl⟩, pf⟩⟩ := a1
    obtain ⟨⟨j0, j5⟩, ⟨⟨⟨⟨qy, qi⟩, qt⟩, ql⟩, qf⟩⟩ := b1
    replace k0 : 0 ≤ k := of_decide_eq_true k0
    replace k5 : k ≤ 5 := of_decide_eq_true k5
    replace j0 : 0 ≤ k' := of_decide_eq_true j0
    replace j5 : k' ≤ 5 := of_decide_eq_true j5
    rw [cmpV_mm, ordV_mk, ordV_mk]
    by_cases hk : k = k'
    · subst hk
      rw [cmpI_self, if_neg (fun h => h rfl)]
      have hcc : ∀ X Y m o, byL ((UInt8.ofNat (k.toNat + 2) :: X) ++ m) ((UInt8.ofNat (k.toNat + 2) :: Y) ++ o) = byL (X ++ m) (Y ++ o) := fun X Y m o => byL_cons ..
      by_cases h1 : k = 1
      · subst h1
        obtain rfl := pi.resolve_left (by decide)
        obtain rfl := pt.resolve_left (by decide)
        obtain rfl := pl.resolve_left (by decide)
        obtain rfl := pf.resolve_left (by decide)
        obtain rfl := qi.resolve_left (by decide)
        obtain rfl := qt.resolve_left (by decide)
        obtain rfl := ql.resolve_left (by decide)
        obtain rfl := qf.resolve_left (by decide)
        rw [if_pos rfl, if_pos rfl, if_pos rfl]
        by_cases h : y = y'
        · subst h; exact .inl ⟨rfl, cmpI_self _⟩
        · refine .inr ⟨fun e => h (by injection e), ?_, fun m o => ?_⟩
          · cases y <;> cases y' <;> first | exact absurd rfl h | decide
          · rw [hcc]
            cases y <;> cases y' <;> first | exact absurd rfl h | exact byL_head (by decide) | exact byL_head' (by decide)
      · obtain rfl := py.resolve_left h1
        obtain rfl := qy.resolve_left h1
        rw [if_neg h1, if_neg h1, if_neg h1]
        by_cases h2 : k = 2
        · subst h2
          obtain rfl := pt.resolve_left (by decide)
          obtain rfl := pl.resolve_left (by decide)
          obtain rfl := pf.resolve_left (by decide)
          obtain rfl := qt.resolve_left (by decide)
          obtain rfl := ql.resolve_left (by decide)
          obtain rfl := qf.resolve_left (by decide)
          rw [if_pos rfl, if_pos rfl, if_pos rfl]
          by_cases h : i = i'
          · subst h; exact .inl ⟨rfl, cmpI_self _⟩
          · exact .inr ⟨fun e => h (by injection e), cmpI_ne h, fun m o => by rw [hcc]; exact encI_by wn wn' h m o⟩
        · obtain rfl := pi.resolve_left h2
          obtain rfl := qi.resolve_left h2
          rw [if_neg h2, if_neg h2, if_neg h2]
          by_cases h3 : k = 3
          · subst h3
            obtain rfl := pl.resolve_left (by decide)
            obtain rfl := pf.resolve_left (by decide)
            obtain rfl := ql.resolve_left (by decide)
            obtain rfl := qf.resolve_left (by decide)
            rw [if_pos rfl, if_pos rfl, if_pos rfl]
            by_cases h : t = t'
            · subst h; exact .inl ⟨rfl, cb_eq.2 rfl⟩
            · exact .inr ⟨fun e => h (by injection e), fun e => h (cb_eq.1 e), fun m o => by rw [hcc, byL_encT h, cb_byL]⟩
          · obtain rfl := pt.resolve_left h3
            obtain rfl := qt.resolve_left h3
            rw [if_neg h3, if_neg h3, if_neg h3]
            by_cases h4 : k = 4
            · subst h4
              obtain rfl := pf.resolve_left (by decide)
              obtain rfl := qf.resolve_left (by decide)
              rw [if_pos rfl, if_pos rfl, if_pos rfl]
              rcases ordL_cmp l l' a3 b3 iL with ⟨rfl, h⟩ | ⟨hne, h, hh⟩
              · exact .inl ⟨rfl, h⟩
              · exact .inr ⟨fun e => hne (by injection e), h, fun m o => by rw [hcc]; exact hh m o⟩
            · obtain rfl := pl.resolve_left h4
              obtain rfl := ql.resolve_left h4
              rw [if_neg h4, if_neg h4, if_neg h4]
              by_cases h5 : k = 5
              · subst h5
                rw [if_pos rfl, if_pos rfl, if_pos rfl]
                rcases ordF_cmp fs fs' iF with ⟨rfl, h⟩ | ⟨hne, h, hh⟩
                · exact .inl ⟨rfl, h⟩
                · exact .inr ⟨fun e => hne (by injection e), h, fun m o => by rw [hcc]; exact hh m o⟩
              · obtain rfl := pf.resolve_left h5
                obtain rfl := qf.resolve_left h5
                rw [if_neg h5]
                exact .inl ⟨rfl, rfl⟩
    · rw [if_pos (cmpI_ne hk)]
      refine .inr ⟨fun e => hk (by injection e), cmpI_ne hk, fun m o => ?_⟩
      have e1 : (UInt8.ofNat (k.toNat + 2)).toNat = k.toNat + 2 := ofNat_toNat (by omega)
      have e2 : (UInt8.ofNat (k'.toNat + 2)).toNat = k'.toNat + 2 := ofNat_toNat (by omega)
      unfold cmpI
      by_cases h : k < k'
      · rw [if_pos h]; exact byL_head (by rw [e1, e2]; omega)
      · rw [if_neg h, if_pos (show k' < k by omega)]; exact byL_head' (by rw [e1, e2]; omega)
section
variable {d : Nat} {a b c : V}
theorem byL_vals (x y : List UInt8) : byL x y = -1 ∨ byL x y = 0 ∨ byL x y = 1 := by
  unfold byL
  split
  · exact .inl rfl
  · split
    · exact .inr (.inr rfl)
    · exact .inr (.inl rfl)
theorem byL_neg (x y : List UInt8) : byL y x = - byL x y := by
  by_cases h : x = y
  · subst h; rw [byL_self]; rfl
  · by_cases h1 : Op.bytesLess x y = true
    · rw [byL_lt h1, byL_gt h1]; rfl
    · have h2 : Op.bytesLess y x = true := by rw [less_total h]; simpa using h1
      rw [byL_lt h2, byL_gt h2]
theorem byL_trans {x y z : List UInt8} (h : byL x y = byL y z) : byL x z = byL x y := by
  rcases byL_vals x y with h1 | h1 | h1
  · have h2 := h.symm.trans h1
    have l1 : Op.bytesLess x y = true := by
      cases hc : Op.bytesLess x y with
      | true => rfl
      | false => unfold byL at h1; rw [hc] at h1; simp at h1; split at h1 <;> cases h1
    have l2 : Op.bytesLess y z = true := by
      cases hc : Op.bytesLess y z with
      | true => rfl
      | false => unfold byL at h2; rw [hc] at h2; simp at h2; split at h2 <;> cases h2
    rw [byL_lt (less_trans l1 l2), h1]
  · have := byL_zero h1
    subst this
    rw [h]
  · have h2 := h.symm.trans h1
    have n1 := byL_neg x y
    have n2 := byL_neg y z
    rw [h1] at n1
    rw [h2] at n2
    have l1 : Op.bytesLess y x = true := by
      cases hc : Op.bytesLess y x with
      | true => rfl
      | false => unfold byL at n1; rw [hc] at n1; simp at n1; split at n1 <;> cases n1
    have l2 : Op.bytesLess z y = true := by
      cases hc : Op.bytesLess z y with
      | true => rfl
      | false => unfold byL at n2; rw [hc] at n2; simp at n2; split at n2 <;> cases n2
    rw [byL_gt (less_trans l2 l1), h1]
theorem cmp_by (ha : rightV d a = true) (hb : rightV d b = true) (wa : WfV a) (wb : WfV b) (p : List UInt8) : byL (p ++ ordV a) (p ++ ordV b) = cmpV a b := by
  rw [byL_append]
  rcases ordV_cmp d a b ha hb wa wb with ⟨rfl, h⟩ | ⟨_, _, h⟩
  · rw [h, byL_self]
  · have := h [] []
    rwa [List.append_nil, List.append_nil] at this
theorem cmp_zero (ha : rightV d a = true) (hb : rightV d b = true) (wa : WfV a) (wb : WfV b) : cmpV a b = 0 ↔ a = b := by
  rcases ordV_cmp d a b ha hb wa wb with ⟨h1, h⟩ | ⟨h1, h2, _⟩
  · exact ⟨fun _ => h1, fun _ => h⟩
  · exact ⟨fun h => absurd h h2, fun h => absurd h h1⟩
theorem cmp_vals (ha : rightV d a = true) (hb : rightV d b = true) (wa : WfV a) (wb : WfV b) : cmpV a b = -1 ∨ cmpV a b = 0 ∨ cmpV a b = 1 := by
  rw [← cmp_by ha hb wa wb []]; exact byL_vals _ _
theorem cmp_neg (ha : rightV d a = true) (hb : rightV d b = true) (wa : WfV a) (wb : WfV b) : cmpV b a = - cmpV a b := by
  rw [← cmp_by ha hb wa wb [], ← cmp_by hb ha wb wa []]; exact byL_neg _ _
theorem cmp_trans (ha : rightV d a = true) (hb : rightV d b = true) (hc : rightV d c = true) (wa : WfV a) (wb : WfV b) (wc : WfV c) (h : cmpV a b = cmpV b c) : cmpV a c = cmpV a b := by
  rw [← cmp_by ha hb wa wb [], ← cmp_by hb hc wb wc []] at h
  rw [← cmp_by ha hb wa wb [], ← cmp_by ha hc wa wc []]
  exact byL_trans h
theorem ord_apart (ha : rightV d a = true) (hb : rightV d b = true) (wa : WfV a) (wb : WfV b) (h : ¬ cmpV a b = 0) (p : List UInt8) : begins (p ++ ordV a) (p ++ ordV b) = false := by
  cases hc : begins (p ++ ordV a) (p ++ ordV b) with
  | false => rfl
  | true =>
    obtain ⟨r, hr⟩ := begins_iff.1 hc
    rw [List.append_assoc] at hr
    have hr := List.append_cancel_left hr
    rcases ordV_cmp d a b ha hb wa wb with ⟨_, h0⟩ | ⟨_, h0, h2⟩
    · exact absurd h0 h
    · have := h2 [] r
      rw [List.append_nil, hr, byL_self] at this
      exact absurd this.symm h0
end
end Go.AV.Val
namespace Go.AV.Val
open Go.AV.Ord Go.AV.Oct
theorem conv_kind2 {k : Int} (h : 0 ≤ k) (h' : k ≤ 5) : IntKind.u8.wrap (((UInt8.ofNat k.toNat).toNat : Int) + 2) = ((UInt8.ofNat (k.toNat + 2)).toNat : Int) := by
  rw [ofNat_toNat (by omega), ofNat_toNat (by omega), wrap_u8 ⟨by omega, by omega⟩]
  omega
section
variable {P : Program} {E : Operand → AV} {H : HS} {dst : Option Tmp} {ty : TypeId} {pos : String} {after : Array Edge} {gd : Option (Nat × Bool)}
theorem op_minN {x y : Operand} {ts : Array TypeId} {m n : Nat} (hx : E x = .d (I m)) (hy : E y = .d (I n)) : OpR P ⟨dst, .call ⟨.builtin .min, #[x, y], ts⟩, ty, pos, after, gd⟩ E H (Ret (.d (I ((min m n : Nat) : Int))) H) := by
  have h := op_min (P := P) (ts := ts) (dst := dst) (ty := ty) (pos := pos) (after := after) (gd := gd) (H := H) hx hy
  have e : (if (n : Int) < (m : Int) then (n : Int) else (m : Int)) = ((min m n : Nat) : Int) := by split <;> omega
  rw [e] at h
  exact h
end
theorem apart_eq {a b : V} (ha : rightV 32 a = true) (hb : rightV 32 b = true) (wa : WfV a) (wb : WfV b) (la : (encV a).length ≤ 4096) (lb : (encV b).length ≤ 4096) {r s : List UInt8} (h : encV a ++ r = encV b ++ s) : a = b := by
  have h1 := rV_fwd 32 a r ha wa la
  have h2 := rV_fwd 32 b s hb wb lb
  rw [h, h2] at h1
  exact (Prod.ext_iff.1 h1).1.symm
theorem pre_split {A B : List UInt8} (h : A = B.take A.length) : A ++ B.drop A.length = B :=
  (congrArg (· ++ B.drop A.length) h).trans (List.take_append_drop _ _)
theorem apart_all {a b : V} (ha : rightV 32 a = true) (hb : rightV 32 b = true) (wa : WfV a) (wb : WfV b) (la : (encV a).length ≤ 4096) (lb : (encV b).length ≤ 4096) :
    (encV a == encV b) = (cmpV a b == 0) ∧ ((encV a).take (min (encV a).length (encV b).length) == (encV b).take (min (encV a).length (encV b).length)) = (cmpV a b == 0) := by
  have hz := cmp_zero ha hb wa wb
  by_cases h : a = b
  · subst h
    rw [hz.2 rfl]; simp
  · have h0 : (cmpV a b == 0) = false := by rw [beq_eq_false_iff_ne]; exact fun e => h (hz.1 e)
    rw [h0]
    refine ⟨?_, ?_⟩
    · rw [beq_eq_false_iff_ne]
      intro e
      exact h (apart_eq ha hb wa wb la lb (r := []) (s := []) (by rw [e]))
    · rw [beq_eq_false_iff_ne]
      intro e
      rcases Nat.le_total (encV a).length (encV b).length with hl | hl
      · rw [Nat.min_eq_left hl, List.take_of_length_le (Nat.le_refl _)] at e
        exact h (apart_eq ha hb wa wb la lb (r := (encV b).drop (encV a).length) (s := []) (by rw [List.append_nil]; exact pre_split e))
      · rw [Nat.min_eq_right hl, List.take_of_length_le (Nat.le_refl (encV b).length)] at e
        exact h (apart_eq ha hb wa wb la lb (r := []) (s := (encV a).drop (encV b).length) (by rw [List.append_nil]; exact (pre_split e.symm).symm))
theorem law_parts {v : V} (h : fewV 7 v = true) (hw : WfV v) : rightV 32 (lawR v) = true ∧ SmallV (lawR v) ∧ WfV (lawR v) ∧ (encV (lawR v)).length ≤ 1000000000 := by
  obtain ⟨h1, h2, h3⟩ := lawR_few 7 v h hw
  exact ⟨right_mono 7 32 _ (by decide) h1, few_small 7 _ h2, h3, few_max h2 h3⟩
def ordLj (bs : List UInt8) (ls : List V) (j : Nat) : List UInt8 := bs ++ UInt8.ofNat 6 :: (ls.take j).flatMap ordV
def ordFj (bs : List UInt8) (fs : List F) (j : Nat) : List UInt8 := bs ++ UInt8.ofNat 7 :: (fs.take j).flatMap ordF1
theorem ordLj_step {bs : List UInt8} {ls : List V} {j : Nat} {x : V} (h : ls[j]? = some x) : ordLj bs ls (j + 1) = ordLj bs ls j ++ ordV x := by
  simp [ordLj, take_snoc h]
theorem ordFj_step {bs : List UInt8} {fs : List F} {j : Nat} {f : F} (h : fs[j]? = some f) : ordFj bs fs (j + 1) = ordFj bs fs j ++ [2] ++ encT f.name ++ ordV f.val := by
  simp [ordFj, take_snoc h, ordF1]
theorem ordLj_le {bs : List UInt8} {y : Bool} {i : Int} {tx : List UInt8} {ls : List V} {fs : List F} {j : Nat} {x : V} (h : ls[j]? = some x) : (ordLj bs ls j).length + (ordV x).length + 1 ≤ bs.length + (ordV (.mk 4 y i tx ls fs)).length := by
  have := flat_take_le ordV h
  rw [ordV_mk]
  simp only [if_true, show ¬ (4 : Int) = 1 by decide, show ¬ (4 : Int) = 2 by decide, show ¬ (4 : Int) = 3 by decide, if_false, List.length_append, List.length_cons, ordLj, List.length_nil]
  omega
theorem ordLj_full {bs : List UInt8} {y : Bool} {i : Int} {tx : List UInt8} {ls : List V} {fs : List F} : ordLj bs ls ls.length ++ [1] = bs ++ ordV (.mk 4 y i tx ls fs) := by
  rw [ordV_mk]; simp [ordLj]
theorem ordFj_le {bs : List UInt8} {y : Bool} {i : Int} {tx : List UInt8} {ls : List V} {fs : List F} {j : Nat} {x : F} (h : fs[j]? = some x) : (ordFj bs fs j).length + (encT x.name).length + (ordV x.val).length + 2 ≤ bs.length + (ordV (.mk 5 y i tx ls fs)).length := by
  have := flat_take_le ordF1 h
  simp only [ordF1, List.length_append, List.length_cons] at this
  rw [ordV_mk]
  simp only [if_true, show ¬ (5 : Int) = 1 by decide, show ¬ (5 : Int) = 2 by decide, show ¬ (5 : Int) = 3 by decide, show ¬ (5 : Int) = 4 by decide, if_false, List.length_append, List.length_cons, ordFj, List.length_nil]
  omega
theorem ordFj_full {bs : List UInt8} {y : Bool} {i : Int} {tx : List UInt8} {ls : List V} {fs : List F} : ordFj bs fs fs.length ++ [1] = bs ++ ordV (.mk 5 y i tx ls fs) := by
  rw [ordV_mk]; simp [ordFj]
theorem ordList_len {y : Bool} {i : Int} {tx : List UInt8} {ls : List V} {fs : List F} (bs : List UInt8) : (ordLj bs ls ls.length).length + 1 = bs.length + (ordV (.mk 4 y i tx ls fs)).length := by
  have := congrArg List.length (ordLj_full (bs := bs) (y := y) (i := i) (tx := tx) (ls := ls) (fs := fs))
  simpa using this
theorem ordFields_len {y : Bool} {i : Int} {tx : List UInt8} {ls : List V} {fs : List F} (bs : List UInt8) : (ordFj bs fs fs.length).length + 1 = bs.length + (ordV (.mk 5 y i tx ls fs)).length := by
  have := congrArg List.length (ordFj_full (bs := bs) (y := y) (i := i) (tx := tx) (ls := ls) (fs := fs))
  simpa using this
end Go.AV.Val
namespace Go.AV
theorem op_appendT {P : Program} {T : List AV} {H : HS} {dst : Option Tmp} {ty : TypeId} {pos : String} {after : Array Edge} {gd : Option (Nat × Bool)} {x y : Operand} {t' tx e : TypeId} {i : Nat} {w : AV} {ys : List DV} {l : List UInt8} (m : List UInt8) (ht : P.underlying t' = some (.slice e)) (hi : tInfo P e (.int .u8 0) 1 1)
    (hx : evalT T x = .own (some i) 1 (l.map BY)) (hy : evalT T y = w) (hw : Adds P tx w 1 ys) (hys : ys = m.map BY) (hok : H.ok (some i) l.length) (h0 : m ≠ []) (hn : l.length + m.length ≤ 140737488355328) :
    OpR P ⟨dst, .call ⟨.builtin .append, #[x, y], #[t', tx]⟩, ty, pos, after, gd⟩ (evalT T) H (Ret (.own (some i) 1 ((l ++ m).map BY)) (upB H (some i) (l ++ m))) := by
  subst hys hy
  have hv : App (evalT T x) (some i) 1 (l.map BY) := by rw [hx]; exact .own _ _ _
  have h := op_append (dst := dst) (ty := ty) (pos := pos) (after := after) (gd := gd) (H := H) ht hi rfl hv hw (by rw [List.length_map]; exact hok) (by simpa using List.length_pos_iff.2 h0) (by simpa using hn) (by simpa using hn)
  have e1 : (AV.own (some (H.tk (some i))) 1 (l.map BY ++ m.map BY)) = .own (some i) 1 ((l ++ m).map BY) := by simp [HS.tk]
  have e2 : H.up (some i) ((l.map BY).length + (m.map BY).length) = upB H (some i) (l ++ m) := by simp [upB]
  rw [e1, e2] at h
  exact h
end Go.AV
