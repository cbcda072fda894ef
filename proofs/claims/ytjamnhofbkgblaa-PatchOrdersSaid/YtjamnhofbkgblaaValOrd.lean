/-
  Plain theory of layers 2 and 3: a value made right; values as bytes that have their order.
-/
import Derived.Test.YtjamnhofbkgblaaMapAV
namespace Go.AV.Val
open Go.AV.Ord Go.AV.Oct
theorem fill_field (n : List UInt8) (v : V) : fillA (fun i => [(0, 1), (1, 6)][i]?) [.d (S []), .d (I 0), .d (TF false), .d (.v (.int .i64 0)), .d (S []), nilS, nilS] [(0, [.d (S n)]), (1, (vC v).map .d)] = some ((fC (.mk n v)).map .d) := by
  rw [fC_eq, F.name, F.val, vC_eq]; rfl
def kind6 (k : Int) : Int := (IntKind.u64.wrap k) % 6
theorem kind6_le (k : Int) : 0 ≤ kind6 k ∧ kind6 k ≤ 5 := by unfold kind6; omega
mutual
def lawR : V → V
  | .mk k y i t l fs => if kind6 k = 1 then .mk 1 y 0 [] [] [] else if kind6 k = 2 then .mk 2 false i [] [] [] else if kind6 k = 3 then .mk 3 false 0 t [] [] else if kind6 k = 4 then .mk 4 false 0 [] (lawRs l) [] else if kind6 k = 5 then ofMapV (lawRf fs) else .mk 0 false 0 [] [] []
def lawRs : List V → List V
  | [] => []
  | v :: l => lawR v :: lawRs l
def lawRf : List F → List F
  | [] => []
  | .mk n v :: l => .mk n (lawR v) :: lawRf l
end
def lawF (f : F) : F := .mk f.name (lawR f.val)
theorem lawRs_map : ∀ l : List V, lawRs l = l.map lawR
  | [] => by simp [lawRs]
  | v :: l => by rw [lawRs, lawRs_map l]; rfl
theorem lawRf_map : ∀ l : List F, lawRf l = l.map lawF
  | [] => by simp [lawRf]
  | .mk n v :: l => by rw [lawRf, lawRf_map l]; rfl
theorem lawR_mk (k : Int) (y : Bool) (i : Int) (t : List UInt8) (l : List V) (fs : List F) : lawR (.mk k y i t l fs) = if kind6 k = 1 then .mk 1 y 0 [] [] [] else if kind6 k = 2 then .mk 2 false i [] [] [] else if kind6 k = 3 then .mk 3 false 0 t [] [] else if kind6 k = 4 then .mk 4 false 0 [] (l.map lawR) [] else if kind6 k = 5 then ofMapV (fs.map lawF) else .mk 0 false 0 [] [] [] := by
  rw [lawR, lawRs_map, lawRf_map]
/-- What is made right is right, is of few parts, and has numbers that there are. -/
theorem lawR_few : ∀ (n : Nat) (v : V), fewV n v = true → WfV v → rightV n (lawR v) = true ∧ fewV n (lawR v) = true ∧ WfV (lawR v)
  | 0, _, h, _ => by simp [fewV] at h
  | n + 1, .mk k y i t l fs, h, hw => by
    obtain ⟨h1, h2, h3, h4, h5⟩ := few_parts h
    simp only [V.list, V.fields, V.text] at h1 h2 h3 h4 h5
    have hl : ∀ x ∈ l.map lawR, rightV n x = true ∧ fewV n x = true ∧ WfV x := fun x hx => by
      obtain ⟨z, hz, rfl⟩ := List.mem_map.1 hx
      exact lawR_few n z (h4 z hz) (hw.l z hz)
    have hf : ∀ f ∈ ofF (fs.map lawF), f.name.length ≤ 40 ∧ rightV n f.val = true ∧ fewV n f.val = true ∧ WfV f.val := fun f hf => by
      obtain ⟨z, hz, rfl⟩ := List.mem_map.1 (ofF_mem hf)
      have := lawR_few n z.val (h5 z hz).2 (hw.f z hz)
      exact ⟨(h5 z hz).1, this⟩
    have hlen := ofF_len (fs.map lawF)
    rw [List.length_map] at hlen
    rw [lawR_mk]
    split
    · exact ⟨by simp [rightV, onlyV, rises, V.kind, V.yes, V.num, V.text, V.list, V.fields], by simp [fewV, fewTop, V.text, V.list, V.fields], wf_0 _ (by unfold i64; decide) _ _⟩
    · split
      · exact ⟨by simp [rightV, onlyV, rises, V.kind, V.yes, V.num, V.text, V.list, V.fields], by simp [fewV, fewTop, V.text, V.list, V.fields], wf_int hw.n⟩
      · split
        · exact ⟨by simp [rightV, onlyV, rises, V.kind, V.yes, V.num, V.text, V.list, V.fields], by simp [fewV, fewTop, V.text, V.list, V.fields, h3], wf_0 _ (by unfold i64; decide) _ _⟩
        · split
          · refine ⟨?_, ?_, .mk _ _ _ _ _ _ (by unfold i64; decide) i64_0 (fun x hx => (hl x hx).2.2) (fun _ h => by cases h)⟩
            · have : (l.map lawR).all (rightV n) = true := by rw [List.all_eq_true]; exact fun x hx => (hl x hx).1
              rw [rightV]
              simp only [V.fields, V.list, this, rises, Bool.and_true, List.all_nil]; rfl
            · have : (l.map lawR).all (fewV n) = true := by rw [List.all_eq_true]; exact fun x hx => (hl x hx).2.1
              rw [fewV]
              simp only [fewTop, V.fields, V.list, V.text, this, List.all_nil, Bool.and_true, List.length_map, List.length_nil]
              simp [h1]
          · split
            · refine ⟨?_, ?_, .mk _ _ _ _ _ _ (by unfold i64; decide) i64_0 (fun _ h => by cases h) (fun f hf' => (hf f hf').2.2.2)⟩
              · have : (ofF (fs.map lawF)).all (fun f => rightV n f.val) = true := by rw [List.all_eq_true]; exact fun x hx => (hf x hx).2.1
                rw [rightV]
                simp only [ofMapV, V.fields, V.list, this, ofF_rises, Bool.and_true, List.all_nil]; rfl
              · have : ((ofF (fs.map lawF)).all fun f => decide (f.name.length ≤ 40) && fewV n f.val) = true := by
                  rw [List.all_eq_true]; intro x hx
                  have := hf x hx
                  simp [this.1, this.2.2.1]
                rw [fewV]
                simp only [ofMapV, fewTop, V.fields, V.list, V.text, this, List.all_nil, Bool.and_true, List.length_nil]
                have e : (ofF (fs.map lawF)).length ≤ 8 := by omega
                simp [e]
            · exact ⟨by simp [rightV, onlyV, rises, V.kind, V.yes, V.num, V.text, V.list, V.fields], by simp [fewV, fewTop, V.text, V.list, V.fields], wf_0 _ i64_0 _ _⟩
theorem right_mono : ∀ (n m : Nat) (v : V), n ≤ m → rightV n v = true → rightV m v = true
  | 0, _, _, _, h => by simp [rightV] at h
  | n + 1, m, v, hm, h => by
    obtain ⟨k, rfl⟩ : ∃ k, m = k + 1 := ⟨m - 1, by omega⟩
    simp only [rightV, Bool.and_eq_true, List.all_eq_true] at h ⊢
    exact ⟨⟨h.1.1, fun f hf => right_mono n k _ (by omega) (h.1.2 f hf)⟩, fun x hx => right_mono n k _ (by omega) (h.2 x hx)⟩
/-! ### Bytes that have the order of the values -/
mutual
def ordV : V → List UInt8
  | .mk k y i t l fs => UInt8.ofNat (k.toNat + 2) :: (if k = 1 then [if y then 3 else 2] else if k = 2 then encI i else if k = 3 then encT t else if k = 4 then ordL l ++ [1] else if k = 5 then ordFs fs ++ [1] else [])
def ordL : List V → List UInt8
  | [] => []
  | v :: l => ordV v ++ ordL l
def ordFs : List F → List UInt8
  | [] => []
  | .mk n v :: l => 2 :: encT n ++ ordV v ++ ordFs l
end
def ordF1 (f : F) : List UInt8 := 2 :: (encT f.name ++ ordV f.val)
theorem ordL_flat : ∀ l : List V, ordL l = l.flatMap ordV
  | [] => by simp [ordL]
  | v :: l => by rw [ordL, ordL_flat l]; rfl
theorem ordFs_flat : ∀ l : List F, ordFs l = l.flatMap ordF1
  | [] => by simp [ordFs]
  | .mk n v :: l => by rw [ordFs, ordFs_flat l]; simp [ordF1, F.name, F.val]
theorem ordV_mk (k : Int) (y : Bool) (i : Int) (t : List UInt8) (l : List V) (fs : List F) : ordV (.mk k y i t l fs) = UInt8.ofNat (k.toNat + 2) :: (if k = 1 then [if y then 3 else 2] else if k = 2 then encI i else if k = 3 then encT t else if k = 4 then l.flatMap ordV ++ [1] else if k = 5 then fs.flatMap ordF1 ++ [1] else []) := by
  rw [ordV, ordL_flat, ordFs_flat]
end Go.AV.Val
namespace Go.AV.Val
open Go.AV.Ord Go.AV.Oct
theorem rem6 (k : Int) : (IntKind.u64.wrap k).tmod 6 = kind6 k := by
  unfold kind6
  rw [Int.tmod_eq_emod_of_nonneg (by rw [wrapU]; omega)]
/-- A result and a value that is being made. -/
structure TwoB (Hs : HS) (tV : TypeId) (H : HS) (b : HB) : Prop where
  e0 : H.blks[Hs.nb]? = some (vBlk tV 0 false 0 [] nilS nilS)
  e1 : H.blks[Hs.nb + 1]? = some b
  ext : Ext Hs H
section
variable {Hs H : HS} {tV : TypeId} {b : HB}
theorem TwoB.start (Hs : HS) (tV : TypeId) {z : List AV} (b : HB) : TwoB Hs tV (((Hs.push tV (vs6 0 false 0 [] nilS nilS)).push tV z).setB (Hs.nb + 1) b) b := by
  have n1 : (Hs.push tV (vs6 0 false 0 [] nilS nilS)).nb = Hs.nb + 1 := push_nb
  refine ⟨by rw [setB_ne (by omega)]; exact push_ne push_at, ?_, ((((Ext.refl Hs).push _ _).push _ _).setB (by omega))⟩
  exact setB_at (b := ⟨tV, z, false⟩) (by rw [← n1]; exact push_at)
theorem TwoB.lt (h : TwoB Hs tV H b) : Hs.nb + 1 < H.nb := lt_nb h.e1
theorem TwoB.setv (h : TwoB Hs tV H b) (b' : HB) : TwoB Hs tV (H.setB (Hs.nb + 1) b') b' := ⟨by rw [setB_ne (by omega)]; exact h.e0, setB_at h.e1, h.ext.setB (by omega)⟩
theorem TwoB.psh {e : TypeId} {cs : List AV} {c : HB} (h : TwoB Hs tV H b) : TwoB Hs tV ((H.push e cs).setB H.nb c) b := by
  have := h.lt
  exact ⟨by rw [setB_ne (by omega)]; exact push_ne h.e0, by rw [setB_ne (by omega)]; exact push_ne h.e1, (h.ext.push _ _).setB (by omega)⟩
theorem TwoB.up {t : Option Nat} {n m : Nat} (h : TwoB Hs tV H b) (hn : NewTok Hs t) (hok : H.ok t m) : TwoB Hs tV (H.up t n) b := ⟨by rw [HS.up_blks]; exact h.e0, by rw [HS.up_blks]; exact h.e1, (h.ext.upN hn hok).1⟩
end
end Go.AV.Val
