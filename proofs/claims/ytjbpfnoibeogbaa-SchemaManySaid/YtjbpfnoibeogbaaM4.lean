/- Part 4 of what the law needs: SmGet, A24, A25, A26, SmIns, SmPut, SbGet, SbStore, SbTxn, SmTxn. -/
import Derived.Test.YtjbpfnoibeogbaaM3
import Derived.KernelRfl
import Derived.RangeFuncLeaves
import Derived.RangeFuncRecord
import Derived.RangeFuncIn
namespace Go.Proofs.Ytjbpfnoibeogbaa
open Go.AV Go.AV.Ord Go.AV.Oct Go.AV.Hist Go.AV.Val Go.AV.Sb
set_option linter.unusedVariables false
set_option linter.unusedSimpArgs false
set_option maxRecDepth 100000 in
theorem get2_no (Hs : HS) (tid sid : Nat) (lv : AV) (sz : Int) (ls : List (List It)) (vs : List AV) (key : List UInt8) (l : List It) (hl : LfAt ls key l) (hr : rises (firstsF ls) = true) (hrl : rises (keysF l) = true) (hl9 : ls.length ≤ 2) (hno : hasF (keysF l) key = false) (hT : Hs.blks[tid]? = some ⟨145, [.ptr sid 0, .d (I 0), .d (I 0), .d (I 0), .d (I 0), lv, .d (I sz)], false⟩) (hL : LvT Hs 195 197 lv ls vs)  : ACalls Try.prog 96 [.ptr tid 5, .d (S key)] Hs (Ret (.tup [.d (.agg (wC Wn)), .d (TF false)]) Hs) := by
 refine ACalls.tidyT (xs := [.agg (wC Wn), TF false]) ?_
 suffices h : ACalls Try.prog 96 [.ptr tid 5, .d (S key)] Hs (fun av H' => ∃ x, av = .tup [x, .d (TF false)] ∧ Weak x (.d (.agg (wC Wn))) ∧ Ext Hs H') from h.weak fun v H' ⟨x, h1, h2, h3⟩ => ⟨_, by rw [h1]; exact Weak.tup (.cons h2 (.cons (Weak.refl _) .nil)), rfl, h3⟩
 refine acalls_of_awC Try.func96 rfl ?_
 refine aw_start (T' := [.ptr tid 5, .d (S key), .un, .un, .un, .un, .un, .un, .un, .un, .un, .un, .un, .un, .un, .un, .un, .un, .un, .un, .un, .un, .un, .un, .un, .un, .un, .un, .un, .un, .un]) rfl ?_
 refine aw_seq ?_
 refine aw_region ?_
 refine zst (op_alloc (Zr51) (by rfl)) rfl (by dsimp only [zS, zN, zH, zT]) ?_
 refine zst (op_assign_const (by rfl)) rfl (by dsimp only [zS, zN, zH, zT]) ?_
 refine al_end rfl ?_
 refine then_normal ?_
 refine aw_seq ?_
 refine aw_region ?_
 refine zst (op_move_tmp (by rfl)) rfl (by dsimp only [zS, zN, zH, zT]) ?_
 refine zst (op_move_tmp (by rfl)) rfl (by dsimp only [zS, zN, zH, zT]) ?_
 refine zst (op_callF Try.func100 (by rfl) (by rfl) (.tmp (by rfl) (.tmp (by rfl) .nil)) (find2_at _ tid sid lv sz ls vs key l false hno hl hr hrl (by omega) (push_ne hT) (hL.push _ _))) rfl (by dsimp only [zS, zN, zH, zT]) ?_
 refine zst (op_move_tmp (by rfl)) rfl (by dsimp only [zS, zN, zH, zT]) ?_
 refine zst (op_extract (by rfl) (by rfl)) rfl (by dsimp only [zS, zN, zH, zT]) ?_
 refine zst (op_extract (by rfl) (by rfl)) rfl (by dsimp only [zS, zN, zH, zT]) ?_
 refine zst (op_extract (by rfl) (by rfl)) rfl (by dsimp only [zS, zN, zH, zT]) ?_
 refine zst (op_assign_tmp (by rfl)) rfl (by dsimp only [zS, zN, zH, zT]) ?_
 refine zst (op_assign_tmp (by rfl)) rfl (by dsimp only [zS, zN, zH, zT]) ?_
 refine zst (op_assign_tmp (by rfl)) rfl (by dsimp only [zS, zN, zH, zT]) ?_
 refine al_end rfl ?_
 refine then_normal ?_
 refine aw_seq ?_
 refine aw_seq ?_
 refine aw_region ?_
 refine zst (op_move_tmp (by rfl)) rfl (by dsimp only [zS, zN, zH, zT]) ?_
 refine zst (op_not (by rfl)) rfl (by dsimp only [zS, zN, zH, zT]) ?_
 refine al_end rfl ?_
 refine then_normal ?_
 refine aw_cond rfl (fun _ => ?_) (fun h => by cases h)
 refine aw_seq ?_
 refine aw_region ?_
 refine zst (op_alloc (Zr51) (by rfl)) rfl (by dsimp only [zS, zN, zH, zT]) ?_
 refine al_end rfl ?_
 refine then_normal ?_
 refine aw_seq ?_
 refine aw_region ?_
 refine zst (op_load_ptrsD (wC Wn) Try.underlying51 (by rfl) Sz51 (by rfl) (by repeat (first | assumption | exact push_at | exact setB_at push_at | (rw [setB_ne (by simp only [setB_nb, push_nb, ne_eq]; omega)]) | apply push_ne | apply setB_at)) (Nat.le_of_ble_eq_true rfl) (by rfl) (wC_one _)) rfl (by dsimp only [zS, zN, zH, zT]) ?_
 refine zst (op_storeB (vs := [.d (S Wn.key), .d (S Wn.val), .d (TF Wn.gone)]) (b' := ⟨51, [.d (S Wn.key), .d (S Wn.val), .d (TF Wn.gone)], false⟩) (H' := _) Sz51 (by rfl) (by repeat (first | assumption | exact push_at | exact setB_at push_at | (rw [setB_ne (by simp only [setB_nb, push_nb, ne_eq]; omega)]) | apply push_ne | apply setB_at)) (by intro h; cases h) (by rfl) (by rfl) (Nat.le_of_ble_eq_true rfl) (by simp [AV.one, DV.one, TF, S, I, BY]) (by rfl) (by rfl) rfl) rfl (by dsimp only [zS, zN, zH, zT]) ?_
 refine zst (op_assign_const (by rfl)) rfl (by dsimp only [zS, zN, zH, zT]) ?_
 refine al_end rfl ?_
 refine then_normal ?_
 refine aw_ret ?_
 refine then_ret ?_
 refine retC2 rfl (.cells Try.underlying51 (by rfl) Sz51 (by rfl) (by repeat (first | assumption | exact push_at | exact setB_at push_at | (rw [setB_ne (by simp only [setB_nb, push_nb, ne_eq]; omega)]) | apply push_ne | apply setB_at)) (Nat.le_of_ble_eq_true rfl) (by rfl)) (.tmp (by rfl)) ?_
 exact ⟨_, rfl, Weak.aggD (.cons (Weak.refl _) (.cons (Weak.refl _) (.cons (Weak.refl _) .nil))) (wC_one _), (by repeat (first | exact Ext.refl _ | apply Ext.push | (refine Ext.setB ?_ (by (try simp only [setB_nb, push_nb]); omega))))⟩
set_option maxRecDepth 100000 in
theorem get2_yes (Hs : HS) (tid sid : Nat) (lv : AV) (sz : Int) (ls : List (List It)) (vs : List AV) (key : List UInt8) (l : List It) (hl : LfAt ls key l) (hr : rises (firstsF ls) = true) (hrl : rises (keysF l) = true) (hl9 : ls.length ≤ 2) (y : It) (hy : l[posF (keysF l) key]? = some y) (hyes : hasF (keysF l) key = true) (hT : Hs.blks[tid]? = some ⟨145, [.ptr sid 0, .d (I 0), .d (I 0), .d (I 0), .d (I 0), lv, .d (I sz)], false⟩) (hL : LvT Hs 195 197 lv ls vs)  : ACalls Try.prog 96 [.ptr tid 5, .d (S key)] Hs (Ret (.tup [.d (.agg (wC y.w)), .d (TF true)]) Hs) := by
 have hl2 : ls[leafI ls key]? = some l := by rcases hl with h | h; (rw [h.2] at hy; simp at hy); exact h
 have hil : leafI ls key < ls.length := (List.getElem?_eq_some_iff.1 hl2).1
 have hpl : posF (keysF l) key < l.length := (List.getElem?_eq_some_iff.1 hy).1
 have hL0 := hL
 obtain ⟨O, cap, cs, M, c, ds, rfl, hbO, hci, hbM, hdl, hlc, hdu, hne, hAr, hlm⟩ := hL.at_ hl2
 refine ACalls.tidyT (xs := [.agg (wC y.w), TF true]) ?_
 suffices h : ACalls Try.prog 96 [.ptr tid 5, .d (S key)] Hs (fun av H' => ∃ x, av = .tup [x, .d (TF true)] ∧ Weak x (.d (.agg (wC y.w))) ∧ Ext Hs H') from h.weak fun v H' ⟨x, h1, h2, h3⟩ => ⟨_, by rw [h1]; exact Weak.tup (.cons h2 (.cons (Weak.refl _) .nil)), rfl, h3⟩
 refine acalls_of_awC Try.func96 rfl ?_
 refine aw_start (T' := [.ptr tid 5, .d (S key), .un, .un, .un, .un, .un, .un, .un, .un, .un, .un, .un, .un, .un, .un, .un, .un, .un, .un, .un, .un, .un, .un, .un, .un, .un, .un, .un, .un, .un]) rfl ?_
 refine aw_seq ?_
 refine aw_region ?_
 refine zst (op_alloc (Zr51) (by rfl)) rfl (by dsimp only [zS, zN, zH, zT]) ?_
 refine zst (op_assign_const (by rfl)) rfl (by dsimp only [zS, zN, zH, zT]) ?_
 refine al_end rfl ?_
 refine then_normal ?_
 refine aw_seq ?_
 refine aw_region ?_
 refine zst (op_move_tmp (by rfl)) rfl (by dsimp only [zS, zN, zH, zT]) ?_
 refine zst (op_move_tmp (by rfl)) rfl (by dsimp only [zS, zN, zH, zT]) ?_
 refine zst (op_callF Try.func100 (by rfl) (by rfl) (.tmp (by rfl) (.tmp (by rfl) .nil)) (find2_at _ tid sid _ sz ls vs key l true hyes hl hr hrl (by omega) (push_ne hT) (hL0.push _ _))) rfl (by dsimp only [zS, zN, zH, zT]) ?_
 refine zst (op_move_tmp (by rfl)) rfl (by dsimp only [zS, zN, zH, zT]) ?_
 refine zst (op_extract (by rfl) (by rfl)) rfl (by dsimp only [zS, zN, zH, zT]) ?_
 refine zst (op_extract (by rfl) (by rfl)) rfl (by dsimp only [zS, zN, zH, zT]) ?_
 refine zst (op_extract (by rfl) (by rfl)) rfl (by dsimp only [zS, zN, zH, zT]) ?_
 refine zst (op_assign_tmp (by rfl)) rfl (by dsimp only [zS, zN, zH, zT]) ?_
 refine zst (op_assign_tmp (by rfl)) rfl (by dsimp only [zS, zN, zH, zT]) ?_
 refine zst (op_assign_tmp (by rfl)) rfl (by dsimp only [zS, zN, zH, zT]) ?_
 refine al_end rfl ?_
 refine then_normal ?_
 refine aw_seq ?_
 refine aw_seq ?_
 refine aw_region ?_
 refine zst (op_move_tmp (by rfl)) rfl (by dsimp only [zS, zN, zH, zT]) ?_
 refine zst (op_not (by rfl)) rfl (by dsimp only [zS, zN, zH, zT]) ?_
 refine al_end rfl ?_
 refine then_normal ?_
 refine aw_cond rfl (fun h => by cases h) (fun _ => ?_)
 refine aw_skip ?_
 refine then_normal ?_
 refine aw_seq ?_
 refine aw_region ?_
 refine zst (op_move_tmp (by rfl)) rfl (by dsimp only [zS, zN, zH, zT]) ?_
 refine zst (by first | exact op_nilCheck_ptr (by rfl) | exact op_nilCheck_elt (by rfl)) rfl (by dsimp only [zS, zN, zH, zT]) ?_
 refine zst (by first | exact op_fieldAddr_ptr Try.underlying143 rfl Sz141 (by rfl) (by rfl) | exact op_fieldAddr_elt Try.underlying143 rfl Sz141 (by rfl) (by rfl) (by rfl)) rfl (by dsimp only [zS, zN, zH, zT]) ?_
 refine zst (op_load_ptr Try.underlying141 (by rfl) (by rfl) (push_ne hT) (by rfl)) rfl (by dsimp only [zS, zN, zH, zT]) ?_
 refine zst (op_move_tmp (by rfl)) rfl (by dsimp only [zS, zN, zH, zT]) ?_
 refine zst (op_indexArr (off := leafI ls key) Try.underlying141 Sz195 (by rfl) (by rfl) (by omega) (by omega) (by omega)) rfl (by dsimp only [zS, zN, zH, zT]) ?_
 refine zst (op_load_ptr Try.underlying195 (by rfl) (by rfl) (push_ne hbO) hci) rfl (by dsimp only [zS, zN, zH, zT]) ?_
 refine zst (op_move_tmp (by rfl)) rfl (by dsimp only [zS, zN, zH, zT]) ?_
 refine zst (op_indexArr (off := posF (keysF l) key * 4) Try.underlying195 Sz197 (by rfl) (by rfl) (by omega) (by omega) (by omega)) rfl (by dsimp only [zS, zN, zH, zT]) ?_
 refine zst (by first | exact op_fieldAddr_ptr Try.underlying197 rfl Sz51 (by rfl) (by rfl) | exact op_fieldAddr_elt Try.underlying197 rfl Sz51 (by rfl) (by rfl) (by rfl)) rfl (by dsimp only [zS, zN, zH, zT]) ?_
 refine zst (op_load_ptrsD (wC y.w) Try.underlying51 (by rfl) Sz51 (by rfl) (push_ne hbM) (by show _ ≤ ds.length; omega) (cellsW_at hdu hy) (wC_one _)) rfl (by dsimp only [zS, zN, zH, zT]) ?_
 refine zst (op_storeB (vs := [.d (S y.w.key), .d (S y.w.val), .d (TF y.w.gone)]) (b' := ⟨51, [.d (S y.w.key), .d (S y.w.val), .d (TF y.w.gone)], false⟩) (H' := _) Sz51 (by rfl) (by repeat (first | assumption | exact push_at | exact setB_at push_at | (rw [setB_ne (by simp only [setB_nb, push_nb, ne_eq]; omega)]) | apply push_ne | apply setB_at)) (by intro h; cases h) (by rfl) (by rfl) (Nat.le_of_ble_eq_true rfl) (by simp [AV.one, DV.one, TF, S, I, BY]) (by rfl) (by rfl) rfl) rfl (by dsimp only [zS, zN, zH, zT]) ?_
 refine zst (op_assign_const (by rfl)) rfl (by dsimp only [zS, zN, zH, zT]) ?_
 refine al_end rfl ?_
 refine then_normal ?_
 refine aw_ret ?_
 refine retC2 rfl (.cells Try.underlying51 (by rfl) Sz51 (by rfl) (by repeat (first | assumption | exact push_at | exact setB_at push_at | (rw [setB_ne (by simp only [setB_nb, push_nb, ne_eq]; omega)]) | apply push_ne | apply setB_at)) (Nat.le_of_ble_eq_true rfl) (by rfl)) (.tmp (by rfl)) ?_
 exact ⟨_, rfl, Weak.aggD (.cons (Weak.refl _) (.cons (Weak.refl _) (.cons (Weak.refl _) .nil))) (wC_one _), (by repeat (first | exact Ext.refl _ | apply Ext.push | (refine Ext.setB ?_ (by (try simp only [setB_nb, push_nb]); omega))))⟩
theorem tget2_ok (Hs : HS) (tid sid : Nat) (lv : AV) (sz : Int) (ls : List (List It)) (vs : List AV) (key : List UInt8) (l : List It) (hl : LfAt ls key l) (hr : rises (firstsF ls) = true) (hrl : rises (keysF l) = true) (hl9 : ls.length ≤ 2) (r : Option Wt) (hf : fndL l key = r) (hT : Hs.blks[tid]? = some ⟨145, [.ptr sid 0, .d (I 0), .d (I 0), .d (I 0), .d (I 0), lv, .d (I sz)], false⟩) (hL : LvT Hs 195 197 lv ls vs) : ACalls Try.prog 96 [.ptr tid 5, .d (S key)] Hs (Ret (.tup [.d (.agg (wC (r.getD Wn))), .d (TF r.isSome)]) Hs) := by
  cases hh : hasF (keysF l) key with
  | false =>
    rw [fnd_no hh] at hf; subst hf
    exact get2_no Hs tid sid lv sz ls vs key l hl hr hrl hl9 hh hT hL
  | true =>
    obtain ⟨y, hy, _, h3⟩ := fnd_yes hh
    rw [h3] at hf; subst hf
    exact get2_yes Hs tid sid lv sz ls vs key l hl hr hrl hl9 y hy hh hT hL
end Go.Proofs.Ytjbpfnoibeogbaa
namespace Go.AV
open Go.RowKit
section
variable {P : Program} {Q : Post} {T : List AV} {H : HS}
def AWD (P : Program) (k : Code) (Q : Post) (T : List AV) (H : HS) : Prop :=
  ∀ (B : Nat) (w0 : World) (c0 c : Ctx) (w : World) (a : Act), Le c0 c → Inv B w0 c H w → RepT c a.tmps T → k.wp P (fun e a' w' => ∃ c' T' H', Le c0 c' ∧ Inv B w0 c' H' w' ∧ RepT c' a'.tmps T' ∧ a'.defers = a.defers ∧ Q e T' H') a w
def ALD (P : Program) (ops : Array Oper) (l : List Oper) (Q : Post) (T : List AV) (H : HS) : Prop :=
  ∀ (B : Nat) (w0 : World) (c0 c : Ctx) (w : World) (a : Act) (ds : List Deferred), Le c0 c → Inv B w0 c H w → RepT c a.tmps T → a.defers = ds → wpList P ops (fun e a' w' => ∃ c' T' H', Le c0 c' ∧ Inv B w0 c' H' w' ∧ RepT c' a'.tmps T' ∧ a'.defers = ds ∧ Q e T' H') l a w
theorem awd_region {id : Nat} {l : List Oper} (h : ALD P l.toArray l Q T H) : AWD P (.region id l.toArray false) Q T H :=
  fun B w0 c0 c w a h0 h1 h2 => wp_region_lit (h B w0 c0 c w a _ h0 h1 h2 rfl)
theorem ald_nil {ops : Array Oper} (h : Q .normal T H) : ALD P ops [] Q T H := fun _ _ _ c _ _ _ h0 h1 h2 h3 => wpList_nil ⟨c, T, H, h0, h1, h2, h3, h⟩
theorem ald_step {ops : Array Oper} {o : Oper} {l : List Oper} {v : AV} {H' : HS} {T' : List AV} (ho : OpR P o (evalT T) H (Ret v H')) (hg : o.guard = none) (hT : putT T o.dst v = T') (h : ALD P ops l Q T' H') : ALD P ops (o :: l) Q T H := by
  subst hT
  intro B w0 c0 c w a ds h0 h1 h2 h3
  refine wpList_plain hg fun K hK => ?_
  refine ho B w0 c w a K _ h1 (fun x _ => h2.eval x) fun v' w' c' av H'' l1 r1 i1 ⟨e1, e2⟩ => ?_
  subst e1; subst e2
  exact hK _ _ (h B w0 c0 c' w' _ ds (h0.trans l1) i1 ((h2.mono l1).put o.dst r1) (by rw [put_defers]; exact h3))
def recOf (fn : FuncId) (tmps : Array Value) (ps : Array Tmp) (assign body : Code) (D : Nat) (st : LoopState) : Obj := .loop { state := st, pending := none, fn, tmps, params := ps, assign, body, defers := D }
theorem other_def (o : Option (List Deferred)) : (∀ cs e fr, Obj.deferred o ≠ Obj.cells cs e fr) ∧ (∀ xs cl, Obj.deferred o ≠ Obj.map xs cl) := ⟨by intros; simp, by intros; simp⟩
theorem other_loop (r : Loop) : (∀ cs e fr, Obj.loop r ≠ Obj.cells cs e fr) ∧ (∀ xs cl, Obj.loop r ≠ Obj.map xs cl) := ⟨by intros; simp, by intros; simp⟩
theorem Inv.allocO {B : Nat} {w0 w : World} {c : Ctx} {H : HS} (h : Inv B w0 c H w) (o : Obj) (h1 : ∀ cs e fr, o ≠ Obj.cells cs e fr) (h2 : ∀ xs cl, o ≠ Obj.map xs cl) :
    Inv B w0 { c with maps := c.maps ++ [w.heap.size] } (H.pushM (.obj o)) (w.alloc o) ∧ Le c { c with maps := c.maps ++ [w.heap.size] } :=
  h.allocM o (.obj o) (.other _ o (World.alloc_heap_new w o) h1 h2)
theorem Inv.putO {B : Nat} {w0 w : World} {c : Ctx} {H : HS} (h : Inv B w0 c H w) {i g : Nat} {o : Obj} (hg : c.maps[i]? = some g) (hm : H.maps[i]? = some (.obj o)) (o' : Obj) (h1 : ∀ cs e fr, o' ≠ Obj.cells cs e fr) (h2 : ∀ xs cl, o' ≠ Obj.map xs cl) :
    w.heap[g]? = some o ∧ Inv B w0 c (H.setM i (.obj o')) (w.putObj g o') := by
  obtain ⟨q0, q⟩ := h.maps.is i g _ hg hm
  have hw : w.heap[g]? = some o := by
    cases q with
    | other _ _ hw _ _ => exact hw
  have hlt : g < w.heap.size := (Array.getElem?_eq_some_iff.1 hw).1
  refine ⟨hw, h.setM i g (.obj o) (.obj o') hg hm o' (w.putObj g o') rfl ?_ (.other g o' (World.putObj_heap_same hlt) h1 h2) h1 (fun es he => by cases he)⟩
  exact below_set h.below q0 o'
end
theorem acalls_range0 {P : Program} {f gf : FuncId} {fn gn : Func} {R0 R1 R2 R3 R6 : Code} {b : Nat} {tc g : Operand} {ps : Array Tmp} {asg bd : Code} {args : List AV} {Hs H0 H1 H2 H3 : HS} {T0 T1 T2 T3 T6 : List AV} {cs : List AV} {av : AV} {r : Tmp}
    (hf : P.funcs[f]? = some fn) (hb : fn.body = some (.seq R0 (.seq R1 (.seq (.seq R2 (.cond tc (.seq R3 (.block b (.rangeFunc g ps asg bd))) .skip)) (.seq R6 .ret))))) (hres : fn.results = #[.tmp r])
    (h0 : AW P R0 (fun e T H => e = .normal ∧ T = T0 ∧ H = H0) (args ++ List.replicate (fn.ntmps - args.length) .un) Hs) (h1 : AW P R1 (fun e T H => e = .normal ∧ T = T1 ∧ H = H1) T0 H0)
    (h2 : AW P R2 (fun e T H => e = .normal ∧ T = T2 ∧ H = H2) T1 H1) (hc : evalT T2 tc = .d (.v (.bool true))) (h3 : AW P R3 (fun e T H => e = .normal ∧ T = T3 ∧ H = H3) T2 H2)
    (hg : evalT T3 g = .fn (.func gf) [] cs) (hgf : P.funcs[gf]? = some gn) (hgb : gn.body.isNone = false) (hgn : (gn.name == "runtime.NumGoroutine") = false)
    (hcall : ∀ K : HS, K.blks = H3.blks → K.toks = H3.toks → ACalls P gf (.un :: cs) K (Ret (.tup []) K))
    (h6 : ∀ K : HS, K.blks = H3.blks → K.toks = H3.toks → AWD P R6 (fun e T H => e = .normal ∧ T = T6 ∧ H = K) T3 K) (hr : T6[r]? = some av) :
    ACalls P f args Hs (fun v H' => v = av ∧ ∃ ms : List MB, H' = { H3 with maps := H3.maps ++ ms }) := by
  intro B w0 c w vs hI hs ha
  refine (callsIn_wide (n := 0)).1 (callsIn_of_wp_marks hf hb trivial ?_)
  rw [wpIn_wide]
  have hT : RepT c (vs ++ Array.replicate (fn.ntmps - vs.size) undef) (args ++ List.replicate (fn.ntmps - args.length) .un) := by
    refine ⟨by simp [hs], fun i hi => ?_⟩
    by_cases hlt : i < args.length
    · have e1 : (vs ++ Array.replicate (fn.ntmps - vs.size) undef).getD i undef = vs.getD i undef := by
        have : i < vs.size := by omega
        have h2 : i < vs.size + (fn.ntmps - vs.size) := by omega
        simp [this, h2, Array.getElem_append_left this]
      have e2 : (args ++ List.replicate (fn.ntmps - args.length) AV.un).getD i .un = args[i] := by
        simp [List.getD_eq_getElem?_getD, List.getElem?_append_left hlt, hlt]
      rw [e1, e2]
      exact ha i hlt
    · have e2 : (args ++ List.replicate (fn.ntmps - args.length) AV.un).getD i .un = .un := by
        rw [List.getD_eq_getElem?_getD, List.getElem?_append_right (by omega), List.getElem?_replicate]
        split <;> rfl
      rw [e2]
      exact .un _
  refine wp_seq (wp_mono (h0 B w0 c c w _ (Le.refl c) hI hT rfl) ?_)
  rintro e a0 w1 ⟨c1, T', H', l1, i1, t1, d1, rfl, eT, eH⟩
  rw [eT] at t1; rw [eH] at i1
  refine wp_seq (wp_mono (h1 B w0 c1 c1 w1 a0 (Le.refl _) i1 t1 d1) ?_)
  rintro e a1 w2 ⟨c2, T', H', l2, i2, t2, d2, rfl, eT, eH⟩
  rw [eT] at t2; rw [eH] at i2
  refine wp_seq (wp_seq (wp_mono (h2 B w0 c2 c2 w2 a1 (Le.refl _) i2 t2 d2) ?_))
  rintro e a2 w3 ⟨c3, T', H', l3, i3, t3, d3, rfl, eT, eH⟩
  rw [eT] at t3; rw [eH] at i3
  have htc := t3.eval tc
  rw [hc] at htc
  refine wp_cond htc.v_eq ?_
  rw [if_pos rfl]
  refine wp_seq (wp_mono (h3 B w0 c3 c3 w3 a2 (Le.refl _) i3 t3 d3) ?_)
  rintro e a3 w4 ⟨c4, T', H', l4, i4, t4, d4, rfl, eT, eH⟩
  rw [eT] at t4; rw [eH] at i4
  refine wp_block ((wpIn_wide (n := 0)).1 (wpIn_rangeFunc fun fnid _ => ?_))
  have hge := t4.eval g
  rw [hg] at hge
  cases hv : a3.eval g with
  | func fn' fv cv =>
    rw [hv] at hge
    cases hge with
    | fn _ _ _ _ _ hl hfs hl' hcs =>
    have hfv : fv = #[] := by
      apply Array.eq_empty_of_size_eq_zero
      simpa using hl
    subst hfv
    obtain ⟨j1, k1⟩ := i4.allocO (.deferred (some [])) (other_def _).1 (other_def _).2
    have hsz : (w4.alloc (.deferred (some []))).heap.size = w4.heap.size + 1 := World.size_alloc _ _
    obtain ⟨j2, k2⟩ := j1.allocO (recOf fnid a3.tmps ps asg bd w4.heap.size .ready) (other_loop _).1 (other_loop _).2
    rw [hsz] at j2 k2
    obtain ⟨cM, hcM⟩ : ∃ cM, cM = ({ c4 with maps := c4.maps ++ [w4.heap.size] ++ [w4.heap.size + 1] } : Ctx) := ⟨_, rfl⟩
    have j2' : Inv B w0 cM ((H3.pushM (.obj (.deferred (some [])))).pushM (.obj (recOf fnid a3.tmps ps asg bd w4.heap.size .ready))) ((w4.alloc (.deferred (some []))).alloc (recOf fnid a3.tmps ps asg bd w4.heap.size .ready)) := by rw [hcM]; exact j2
    have k2' : Le c4 cM := by rw [hcM]; exact k1.trans k2
    have hml : c4.maps.length = H3.maps.length := i4.maps.len
    have m1 : cM.maps[H3.maps.length]? = some w4.heap.size := by rw [hcM, ← hml]; simp
    have m2 : cM.maps[H3.maps.length + 1]? = some (w4.heap.size + 1) := by rw [hcM, ← hml]; simp
    obtain ⟨W1, hW1⟩ : ∃ W1, W1 = ((w4.alloc (.deferred (some []))).alloc (recOf fnid a3.tmps ps asg bd w4.heap.size .ready)) := ⟨_, rfl⟩
    rw [← hW1] at j2'
    refine ⟨w4.heap.size + 1, [{ target := .collected w4.heap.size, args := #[] }], W1, { target := .fn (.func gf) cv, args := #[.func (.yield (w4.heap.size + 1)) #[] #[]] }, W1, gf, #[.func (.yield (w4.heap.size + 1)) #[] #[]] ++ cv, W1, ?_, ?_, ?_, ?_, fun h => by simp [Fence.wide] at h, ?_⟩
    · rw [hW1]; exact run_enterLoop_outer _ _ _ _ _
    · simp only [resolve, rangeCall, hv]
      simp [go_sem, Deferred.ofValue]
    · intro f' hf'; trivial
    · have hn : gn.name ≠ "runtime.NumGoroutine" := by simpa using hgn
      have hb' : ¬ gn.body = none := by intro hh; rw [hh] at hgb; cases hgb
      simp [invoke, callFunc, program, Sem.run, hgf, hn, hb']
    · refine callsIn_wide.2 ((hcall ((H3.pushM (.obj (.deferred (some [])))).pushM (.obj (recOf fnid a3.tmps ps asg bd w4.heap.size .ready))) rfl rfl B w0 cM W1 _ j2' (by simp [hl', Nat.add_comm]) ?_).mono ?_)
      · intro i hi
        match i, hi with
        | 0, _ => exact .un _
        | i + 1, hi =>
          have hi' : i < cs.length := by simpa using hi
          have e1 : (#[Value.func (.yield (w4.heap.size + 1)) #[] #[]] ++ cv).getD (i + 1) undef = cv.getD i undef := by
            have q1 : i < cv.size := by omega
            simp [Array.getD, q1, Array.getElem_append, Nat.add_comm]
          rw [e1]
          exact (hcs i hi').mono k2'
      · rintro e w5 ⟨v, av', H5, c5, rfl, l5, r5, i5, eA, eH⟩
        rw [eH] at i5
        have p2 := l5.maps _ _ m2
        have p1 := l5.maps _ _ m1
        have q2 : ((H3.pushM (.obj (.deferred (some [])))).pushM (.obj (recOf fnid a3.tmps ps asg bd w4.heap.size .ready))).maps[H3.maps.length + 1]? = some (.obj (recOf fnid a3.tmps ps asg bd w4.heap.size .ready)) := by simp [HS.pushM]
        obtain ⟨hw5, i6⟩ := i5.putO p2 q2 (recOf fnid a3.tmps ps asg bd w4.heap.size .exhausted) (other_loop _).1 (other_loop _).2
        refine ⟨none, _, run_endLoop hw5 (by simp), ?_⟩
        show Exit.inBlock b _ .normal _ _
        obtain ⟨K, hK⟩ : ∃ K, K = ((H3.pushM (.obj (.deferred (some [])))).pushM (.obj (recOf fnid a3.tmps ps asg bd w4.heap.size .ready))).setM (H3.maps.length + 1) (.obj (recOf fnid a3.tmps ps asg bd w4.heap.size .exhausted)) := ⟨_, rfl⟩
        have i7 : Inv B w0 c5 K (w5.putObj (w4.heap.size + 1) (recOf fnid a3.tmps ps asg bd w4.heap.size .exhausted)) := by rw [hK]; exact i6
        have t5 : RepT c5 a3.tmps T3 := t4.mono (k2'.trans l5)
        refine wp_seq (wp_mono (h6 K (by rw [hK]; rfl) (by rw [hK]; rfl) B w0 c5 c5 _ { a3 with defers := [{ target := .collected w4.heap.size, args := #[] }] ++ a3.defers } (Le.refl _) i7 t5) ?_)
        rintro e a7 w7 ⟨c7, T', H', l7, i8, t7, d7, rfl, eT, eH⟩
        rw [eT] at t7; rw [eH] at i8
        refine wp_ret ?_
        show LeavesInM _ _ _ _ _ _ a7.defers .returning w7
        rw [d7, d4]
        have q1 : K.maps[H3.maps.length]? = some (.obj (.deferred (some []))) := by rw [hK]; simp [HS.pushM, HS.setM]
        obtain ⟨hw7, i9⟩ := i8.putO (l7.maps _ _ p1) q1 (.deferred none) (other_def _).1 (other_def _).2
        refine ⟨by simp, .inl ⟨w4.heap.size, _, rfl, run_takeDeferred hw7, ?_⟩⟩
        refine ⟨_, results_tmp hres _ P _, _, av, _, c7, rfl, ?_, getD_of t7 hr, i9, rfl, [.obj (.deferred none), .obj (recOf fnid a3.tmps ps asg bd w4.heap.size .exhausted)], ?_⟩
        · exact l1.trans (l2.trans (l3.trans (l4.trans (k2'.trans (l5.trans l7)))))
        · rw [hK]
          simp [HS.pushM, HS.setM]
  | _ => rw [hv] at hge; cases hge
end Go.AV
namespace Go.AV
open Go.RowKit
section
variable {P : Program} {E : Operand → AV} {H : HS} {dst : Option Tmp} {ty : TypeId} {pos : String} {after : Array Edge} {gd : Option (Nat × Bool)}
theorem From.src {B : Nat} {w0 w : World} {c : Ctx} (hI : Inv B w0 c H w) {tx e' : TypeId} {v : AV} {jd off m sz : Nat} {b2 : HB} {vs : List AV} (htx : P.underlying tx = some (.slice e')) (h : From v jd off m) (hb2 : H.blks[jd]? = some b2) (hv : (b2.cs.drop off).take (m * sz) = vs) (hl : vs.length = m * sz)
    {x : Value} (hr : Rep c x v) : ∃ news : List Value, Src P tx x w sz m news ∧ news.length = m * sz ∧ ∀ i (hi : i < news.length) (hi' : i < vs.length), Rep c news[i] vs[i] := by
  obtain ⟨g2, cap2, hg2, rfl⟩ := h.val hr
  obtain ⟨r1, r2, cur2, fr2, r3, r4, r5, r6⟩ := hI.blk jd g2 b2 hg2 hb2
  have r4' : cur2.size = b2.cs.length := r4
  have hvl : off + m * sz ≤ b2.cs.length ∨ m * sz = 0 := by
    have := congrArg List.length hv
    rw [List.length_take, List.length_drop, hl] at this
    omega
  have hul : ((cur2.toList.drop off).take (m * sz)).length = m * sz := by
    rw [List.length_take, List.length_drop, Array.length_toList]
    omega
  refine ⟨(cur2.toList.drop off).take (m * sz), ⟨.inr ⟨e', htx⟩, fun w' => by simp [Builtin.lenOf], fun w' hw' => ?_⟩, hul, fun j hj hj' => ?_⟩
  · refine firstCells_of hul (fun j u hu => ?_) w' hw'
    rw [List.getElem?_take] at hu
    split at hu
    · rw [List.getElem?_drop] at hu
      simp only [World.cell?, r3]
      simpa using hu
    · cases hu
  · have hjm : j < m * sz := by omega
    have h3 : off + j < b2.cs.length := by omega
    have h4 := r6 (off + j) h3
    have h5 : vs[j] = b2.cs[off + j]'h3 := by simp [← hv]
    have h6 : ((cur2.toList.drop off).take (m * sz))[j] = cur2.getD (off + j) undef := by
      have : off + j < cur2.size := by omega
      simp [this]
    rw [h5, h6]; exact h4
theorem op_appendC {x y : Operand} {t' tx e e' : TypeId} {z : Value} {sz bytes n jd off m : Nat} {us vs : List AV} {b2 : HB} (ht : P.underlying t' = some (.slice e)) (htx : P.underlying tx = some (.slice e')) (hi : tInfo P e z sz bytes) (hzs : z.cells.size = sz) (hx : Arr H e sz (E x) n us) (hy : From (E y) jd off m)
    (hb2 : H.blks[jd]? = some b2) (hv : (b2.cs.drop off).take (m * sz) = vs) (hl : vs.length = m * sz) (hone : ∀ v ∈ vs, v.one = true) (hne : 0 < m) (hb : (n + m) * bytes ≤ 140737488355328) (hn : n + m ≤ 140737488355328) :
    OpR P ⟨dst, .call ⟨.builtin .append, #[x, y], #[t', tx]⟩, ty, pos, after, gd⟩ E H (fun av H' => Arr H' e sz av (n + m) (us ++ vs) ∧ Kept H H' (E x) ∧ ∃ id m cap, av = .arr id m cap ∧ (E x = nilS → H.nb ≤ id) ∧ ∀ j n cap, E x = .arr j n cap → id = j ∨ H.nb ≤ id) :=
  opR_value fun B w0 c w a hI hops => by
    have q1 := hops x (by simp [Op.operands, Call.operands])
    have q2 := hops y (by simp [Op.operands, Call.operands])
    obtain ⟨news, hsrc, hnl, hyr⟩ := hy.src hI htx hb2 hv hl q2
    have hvone : ∀ u ∈ news, u.oneCell' = true := fun u hu => by
      obtain ⟨j, hj, rfl⟩ := List.getElem_of_mem hu
      have hj' : j < vs.length := by omega
      exact (hyr j hj hj').one (hone _ (List.getElem_mem hj'))
    have hrun : ∀ r, (Builtin.append_ #[t', tx] ty #[a.eval x, a.eval y]).run P w = r → (execOp a.eval ⟨dst, .call ⟨.builtin .append, #[x, y], #[t', tx]⟩, ty, pos, after, gd⟩).run P w = r.andThen fun v w => .ok (.value v) w := by
      intro r hr
      simp [execOp, resolve, invoke, builtin, hr]
    have grow : ∀ (base : Option Addr) (cap : Nat) (olds : List Value), a.eval x = .slice base n cap → cap < n + m → olds.length = n * sz → us.length = n * sz →
        (∀ i (hi : i < olds.length) (hi' : i < us.length), Rep c olds[i] us[i]) → (∀ w', w'.heap = w.heap → (Builtin.firstCells sz n (.slice base n cap)).run P w' = .ok olds.toArray w') →
        ∃ v' w' c' av H', (execOp a.eval ⟨dst, .call ⟨.builtin .append, #[x, y], #[t', tx]⟩, ty, pos, after, gd⟩).run P w = .ok (.value v') w' ∧ Le c c' ∧ Rep c' v' av ∧ Inv B w0 c' H' w' ∧
          (Arr H' e sz av (n + m) (us ++ vs) ∧ Kept H H' (E x) ∧ ∃ id m cap, av = .arr id m cap ∧ (E x = nilS → H.nb ≤ id) ∧ ∀ j n cap, E x = .arr j n cap → id = j ∨ H.nb ≤ id) := by
      intro base cap olds hev hcap hol hul hxr hold
      have hr := run_app_grow w t' tx ty e z sz bytes ht hi (a.eval y) m news hsrc base n cap olds hold hcap hb hn
      rw [← hev] at hr
      have hge := grownCap_ge w (n + m) cap e
      generalize grownCap w (n + m) cap e = ncap at hr hge
      have hsize : (olds.toArray ++ (news.toArray ++ Builtin.zeroCells z.cells (ncap - (n + m)))).size = (us ++ vs ++ List.replicate ((ncap - (n + m)) * sz) AV.un).length := by
        simp only [Array.size_append, List.size_toArray, size_zeroCells, hzs, hol, hnl, List.length_append, List.length_replicate, hul, hl]
        omega
      have hlen : (us ++ vs ++ List.replicate ((ncap - (n + m)) * sz) AV.un).length = ncap * sz := by
        simp only [List.length_append, List.length_replicate, hul, hl, ← Nat.add_mul]
        congr 1
        omega
      obtain ⟨i1, l1⟩ := hI.drew.allocBlk (olds.toArray ++ (news.toArray ++ Builtin.zeroCells z.cells (ncap - (n + m)))) e (us ++ vs ++ List.replicate ((ncap - (n + m)) * sz) AV.un) hsize (fun j hj => by
        have e1 : (olds.toArray ++ (news.toArray ++ Builtin.zeroCells z.cells (ncap - (n + m)))).getD j undef = (((olds ++ news) ++ (Builtin.zeroCells z.cells (ncap - (n + m))).toList)[j]?).getD undef := by
          rw [Array.getD_eq_getD_getElem?, ← Array.getElem?_toList]
          simp
        rw [e1]
        by_cases h1 : j < (us ++ vs).length
        · rw [List.getElem_append_left h1]
          have h1' : j < (olds ++ news).length := by
            simp only [List.length_append, hol, hnl, hul, hl] at h1 ⊢
            exact h1
          rw [List.getElem?_append_left h1', List.getElem?_eq_getElem h1']
          show Rep c (olds ++ news)[j] _
          by_cases h2 : j < us.length
          · rw [List.getElem_append_left h2, List.getElem_append_left (by omega)]
            exact hxr j (by omega) h2
          · rw [List.getElem_append_right (by omega), List.getElem_append_right (by omega)]
            have h3 : j - olds.length < vs.length := by simp at h1; omega
            have h4 : vs[j - us.length]'(by omega) = vs[j - olds.length]'h3 := by
              congr 1
              omega
            rw [h4]
            exact hyr (j - olds.length) (by omega) h3
        · rw [List.getElem_append_right (by omega)]
          simp only [List.getElem_replicate]
          exact .un _)
      refine ⟨_, _, _, _, _, hrun _ hr, l1, .arr c.blk.length (n + m) ncap w.heap.size (by simp), i1, ?_, ⟨rfl, by simp [HS.push, HS.nb], fun j hj _ => ?_, rfl⟩, c.blk.length, _, _, rfl, fun _ => by rw [hI.blkLen]; exact Nat.le_refl _, fun _ _ _ _ => .inr (by rw [hI.blkLen]; exact Nat.le_refl _)⟩
      · refine .arr _ _ _ (us ++ vs ++ List.replicate ((ncap - (n + m)) * sz) AV.un) _ ?_ hlen hge ?_
        · rw [hI.blkLen]; simp [HS.push]
        · have : (n + m) * sz = (us ++ vs).length := by simp [hul, hl, Nat.add_mul]
          rw [this, List.take_left' rfl]
      · simp only [HS.push]
        rw [List.getElem?_append_left hj]
    cases hE : E x with
    | d dv =>
      rw [hE] at hx q1
      cases hx with
      | nil =>
        have hev := q1.v_eq
        rw [hE] at grow
        exact grow none 0 [] hev (by omega) (by simp) (by simp) (by simp) (fun w' _ => by simp [Builtin.firstCells])
    | arr id n1 cap =>
      rw [hE] at hx q1
      rw [hE] at grow
      generalize hev : a.eval x = X at q1
      cases q1 with
      | arr _ _ _ g hg =>
      cases hx with
      | arr _ _ _ cs _ hbk hc hnc hu =>
      obtain ⟨p1, p2, cur, fr, p3, p4, p5, p6⟩ := hI.blk id g _ hg hbk
      have hcz : n * sz ≤ cap * sz := Nat.mul_le_mul_right _ hnc
      have hul : us.length = n * sz := by rw [← hu]; simp; omega
      have p4' : cur.size = cs.length := p4
      by_cases hroom : n + m ≤ cap
      · have hfit : n * sz + news.length ≤ cur.size := by
          rw [hnl, p4', hc, ← Nat.add_mul]
          exact Nat.mul_le_mul_right _ hroom
        have hr := run_app_room w t' tx ty e z sz bytes ht hi (a.eval y) m news hsrc g n cap cur fr p3 (fun o _ => p5 rfl o) hvone hroom hfit
        rw [← hev] at hr
        have hal : news.length = vs.length := by rw [hnl, hl]
        have i1 := hI.putBlk id g (n * sz) _ hg hbk news vs hal (fun j hj hj' => hyr j hj hj') (by show n * sz + vs.length ≤ cs.length; omega) cur _ fr p3
        have hnb : (H.put id (n * sz) vs).nb = H.nb := by simp [HS.put, HS.nb]
        refine ⟨_, _, c, _, _, hrun _ hr, Le.refl c, .arr id (n + m) cap g hg, i1, ?_, ⟨rfl, by rw [hnb]; exact Nat.le_refl _, fun j hj hne => ?_, rfl⟩, id, n + m, cap, rfl, (fun h => by cases h), (fun j _ _ h => Or.inl (by cases h; rfl))⟩
        · refine .arr _ _ _ (putL cs (n * sz) vs) _ (by simp [HS.put, hbk]) (by rw [putL_length]; exact hc) hroom ?_
          have e1 : (n + m) * sz = n * sz + vs.length := by rw [hl, Nat.add_mul]
          rw [e1, putL_take _ _ _ (by omega), hu]
        · have hji : id ≠ j := fun h => hne n cap (by rw [h])
          simp [HS.put, hji]
      · have hol : (cur.toList.take (n * sz)).length = n * sz := by simp; omega
        refine grow _ cap (cur.toList.take (n * sz)) hev (by omega) hol hul ?_ ?_
        · intro i hi1 hi2
          have hi3 : i < cs.length := by omega
          have h1 := p6 i hi3
          have h2 : us[i] = cs[i]'hi3 := by simp [← hu]
          have h4 : i < cur.size := by omega
          have h3 : (cur.toList.take (n * sz))[i] = cur.getD i undef := by simp [h4]
          rw [h2, h3]
          exact h1
        · refine firstCells_of hol fun j u hu' => ?_
          rw [List.getElem?_take] at hu'
          split at hu'
          · simp only [World.cell?, p3]
            simpa using hu'
          · cases hu'
    | own => rw [hE] at hx; cases hx
    | un => rw [hE] at hx; cases hx
    | nv => rw [hE] at hx; cases hx
    | elt => rw [hE] at hx; cases hx
    | ptr => rw [hE] at hx; cases hx
    | sub => rw [hE] at hx; cases hx
    | agg => rw [hE] at hx; cases hx
    | tup => rw [hE] at hx; cases hx
    | fn => rw [hE] at hx; cases hx
    | map => rw [hE] at hx; cases hx
    | iter => rw [hE] at hx; cases hx
theorem op_litC {t e : TypeId} {len sz : Nat} {parts : Array (Nat × Operand)} {z : Value} {ps : List (Nat × List AV)} (cs : List AV) (ht : P.underlying t = some (.slice e)) (hz : (P.info? e).map (fun i => (i.zero, i.size)) = some (some z, sz))
    (hk : parts.toList.all (fun p => (E p.2).known) = true) (hps : parts.toList.map (fun p => (p.1, (E p.2).cells)) = ps) (hcs : fillA (fun i => some (i * sz, sz)) (List.replicate (len * sz) .un) ps = some cs)
    (hsm : len * sz ≤ 16777216) : OpR P ⟨dst, .buildSlice t len parts, ty, pos, after, gd⟩ E H (Ret (.arr H.nb len len) (H.push e cs)) :=
  opR_value fun B w0 c w a hI hops => by
    obtain ⟨inf, hi1, hi2⟩ := Option.map_eq_some_iff.1 hz
    simp only [Prod.mk.injEq] at hi2
    obtain ⟨hi2, hi3⟩ := hi2
    obtain ⟨q1, q2⟩ := parts_cells (c := c) (a := a) hk hps (fun x hx => hops x (by simpa [Op.operands] using hx))
    have hzv : ∀ w, (zeroValue e).run P w = .ok z w := fun w => by simp [zeroValue, typeInfo, hi1, hi2]
    have hso : ∀ w, (sizeOf e).run P w = .ok sz w := fun w => by simp [sizeOf, typeInfo, hi1, hi3]
    have run : ∀ (zero : Array Value), ((Array.range (len * sz)).map (zero[· % zero.size]!)).size = len * sz → ∃ vs', Instr.fill (fun i => some (i * sz, sz)) ((Array.range (len * sz)).map (zero[· % zero.size]!)) (parts.map fun p => (p.1, a.eval p.2)).toList = some vs' ∧ Cells c vs' cs := by
      intro zero hs
      have hc := cells_un c ((Array.range (len * sz)).map (zero[· % zero.size]!))
      rw [hs] at hc
      obtain ⟨vs', f1, f2⟩ := fill_rep (c := c) ps (evP a parts.toList) _ _ _ hc q1 q2 hcs
      exact ⟨vs', by rw [Array.toList_map]; exact f1, f2⟩
    have hbs : ∃ vs', (Instr.buildSlice t len (parts.map fun p => (p.1, a.eval p.2))).run P w = .ok (.slice (some ⟨w.heap.size, 0, none⟩) len len) (w.alloc (.cells vs' e)) ∧ Cells c vs' cs := by
      unfold Instr.buildSlice
      rw [Sem.run_bind, run_underlying ht]
      simp only [Result.andThen_ok]
      rw [Sem.run_bind, hso]
      simp only [Result.andThen_ok]
      have hsm' : ¬ (len * sz > 2 ^ 24) := by omega
      rw [if_neg hsm']
      by_cases h0 : len * sz = 0
      · rw [if_pos h0]
        obtain ⟨vs', f1, f2⟩ := run #[] (by simp)
        refine ⟨vs', ?_, f2⟩
        simp only [Sem.run_bind, Sem.run_pure, Result.andThen_ok]
        rw [f1]
        simp [newRow]
      · rw [if_neg h0]
        obtain ⟨vs', f1, f2⟩ := run z.cells (by simp)
        refine ⟨vs', ?_, f2⟩
        simp only [Sem.run_bind, Sem.run_pure, Result.andThen_ok, hzv]
        rw [f1]
        simp [newRow]
    obtain ⟨vs', hr, hc⟩ := hbs
    obtain ⟨i1, l1⟩ := hI.allocBlk vs' e cs hc.size (hc.at_)
    refine ⟨_, _, _, _, _, ?_, l1, .arr H.nb len len w.heap.size ?_, i1, rfl, rfl⟩
    · simp [execOp, hr]
    · show (c.blk ++ [w.heap.size])[H.nb]? = _
      have : c.blk.length = H.nb := hI.blkLen
      rw [List.getElem?_append_right (by omega), this]; simp
theorem op_nilArr {x y : Operand} {t t' el : TypeId} {id off n : Nat} (ht : P.underlying t = some (.slice el)) (hx : From (E x) id off n) (hy : E y = nilS) :
    OpR P ⟨dst, .binOp .eql t x y t', ty, pos, after, gd⟩ E H (Ret (.d (TF false)) H) :=
  opR_pure fun c w a _ hops => by
    have h1 := hops x (by simp [Op.operands])
    have h2 := hops y (by simp [Op.operands])
    rw [hy] at h2
    obtain ⟨g, cap, hg, e1⟩ := hx.val h1
    refine ⟨.bool false, ?_, .d (.v _ rfl)⟩
    have hb : (binOp .eql t (.slice (some ⟨g, off, none⟩) n cap) (.slice none 0 0)).run P w = .ok (.bool false) w := by
      simp only [binOp]
      simp [Op.equal, Op.maxDepth, equalIn_slice0 w 9999 ht]
    simp [execOp, e1, h2.v_eq, eqGuard, hb]
end
end Go.AV
namespace Go.AV
open Go.RowKit
def OpY (P : Program) (o : Oper) (E : Operand → AV) (v : AV) : Prop :=
  ∀ (c : Ctx) (a : Act), (∀ x ∈ o.op.operands, Rep c (a.eval x) (E x)) → ∃ v', (∀ w, (execOp a.eval o).run P w = .ok (.value v') w) ∧ Rep c v' v
section
variable {P : Program} {E : Operand → AV} {dst : Option Tmp} {ty : TypeId} {pos : String} {after : Array Edge} {gd : Option (Nat × Bool)}
theorem opY_move {x : Operand} {v : AV} (hx : E x = v) : OpY P ⟨dst, .move x, ty, pos, after, gd⟩ E v := fun c a hops => ⟨a.eval x, fun _ => rfl, hx ▸ hops x (by simp [Op.operands])⟩
theorem opY_assign {x : Operand} {v : AV} (hx : E x = v) : OpY P ⟨dst, .assign x, ty, pos, after, gd⟩ E v := fun c a hops => ⟨a.eval x, fun _ => rfl, hx ▸ hops x (by simp [Op.operands])⟩
theorem opY_nilCheck {x : Operand} {id off : Nat} (hx : E x = .ptr id off) : OpY P ⟨dst, .nilCheck x, ty, pos, after, gd⟩ E (.ptr id off) := fun c a hops => by
  have h1 := hops x (by simp [Op.operands])
  rw [hx] at h1
  obtain ⟨g, e, hg⟩ := h1.ptr_inv
  exact ⟨_, fun w => by simp [execOp, e], .ptr id _ g hg⟩
theorem opY_fieldAddr {x : Operand} {t : TypeId} {i : Nat} {fs : Array Field} {f : Field} {n id off : Nat} (ht : P.underlying t = some (.struct fs)) (hf : fs[i]? = some f) (hn : (P.info? f.type).map (·.size) = some n) (hn0 : (n == 0) = false) (hx : E x = .ptr id off) :
    OpY P ⟨dst, .fieldAddr t x i, ty, pos, after, gd⟩ E (.ptr id (off + f.offset)) := fun c a hops => by
  have h1 := hops x (by simp [Op.operands])
  rw [hx] at h1
  obtain ⟨g, e, hg⟩ := h1.ptr_inv
  have hn0' : n ≠ 0 := by simpa using hn0
  refine ⟨.pointer (some ⟨g, off + f.offset, none⟩), fun w => ?_, .ptr id _ g hg⟩
  simp [execOp, e, Instr.fieldAt, run_underlying ht, hf, Instr.sureAddr, fieldPlace, run_sizeOf hn, hn0', addr_add]
theorem opY_indexArr {x y : Operand} {t e : TypeId} {sz id n cap off : Nat} {k : IntKind} {i : Int} (ht : P.underlying t = some (.slice e)) (hn : (P.info? e).map (·.size) = some sz) (hx : E x = .arr id n cap) (hy : E y = .d (.v (.int k i))) (h0 : 0 ≤ i) (hi : i < n) (ho : i.toNat * sz = off) :
    OpY P ⟨dst, .indexAddr t x y, ty, pos, after, gd⟩ E (.ptr id off) := fun c a hops => by
  have h1 := hops x (by simp [Op.operands])
  rw [hx] at h1
  have h2 := hops y (by simp [Op.operands])
  rw [hy] at h2
  obtain ⟨g, hg, e1⟩ := arr_val h1
  subst ho
  refine ⟨.pointer (some ⟨g, i.toNat * sz, none⟩), fun w => ?_, .ptr id _ g hg⟩
  simp [execOp, e1, h2.v_eq, Instr.indexAt, asIntOf, run_underlying ht, h0, hi, run_sizeOf hn, addr_add]
theorem opY_sliceArr0 {x z : Operand} {t e : TypeId} {sz id n cap : Nat} {k' : IntKind} {j : Int} {m : Nat} (ht : P.underlying t = some (.slice e)) (hn : (P.info? e).map (·.size) = some sz) (hx : E x = .arr id n cap) (hz : E z = .d (.v (.int k' j))) (h1 : 0 ≤ j) (h2 : j ≤ cap) (hm : j.toNat = m) :
    OpY P ⟨dst, .slice t x none (some z) none, ty, pos, after, gd⟩ E (.arr id m cap) := fun c a hops => by
  have q1 := hops x (by simp [Op.operands])
  rw [hx] at q1
  have q3 := hops z (by simp [Op.operands])
  rw [hz] at q3
  obtain ⟨g, hg, e1⟩ := arr_val q1
  subst hm
  refine ⟨.slice (some ⟨g, 0, none⟩) j.toNat cap, fun w => ?_, .arr id _ cap g hg⟩
  have b1 := bound_ok (P := P) (k := k') (y := cap) (code := .sliceAcap) w h1 (by omega)
  have ea : ((⟨g, 0, none⟩ : Addr).add 0) = ⟨g, 0, none⟩ := by simp [addr_add]
  simp [execOp, e1, q3.v_eq, Instr.sliceAt, Instr.slice, Instr.sliceBounds, run_underlying ht, b1, run_sizeOf hn, ea]
theorem opY_sliceArr1 {x y : Operand} {t e : TypeId} {sz id n cap : Nat} {k : IntKind} {i : Int} {m off n' cap' : Nat} (ht : P.underlying t = some (.slice e)) (hn : (P.info? e).map (·.size) = some sz) (hx : E x = .arr id n cap) (hy : E y = .d (.v (.int k i))) (h0 : 0 ≤ i) (h2 : i ≤ n) (h3 : i < cap) (hm : i.toNat = m) (ho : m * sz = off) (hn' : n - m = n') (hc' : cap - m = cap') :
    OpY P ⟨dst, .slice t x (some y) none none, ty, pos, after, gd⟩ E (.sub id off n' cap') := fun c a hops => by
  have q1 := hops x (by simp [Op.operands])
  rw [hx] at q1
  have q2 := hops y (by simp [Op.operands])
  rw [hy] at q2
  obtain ⟨g, hg, e1⟩ := arr_val q1
  subst hm ho hn' hc'
  refine ⟨.slice (some ⟨g, i.toNat * sz, none⟩) (n - i.toNat) (cap - i.toNat), fun w => ?_, .sub id _ _ _ g hg⟩
  have b2 := bound_ok (P := P) (k := k) (y := n) (code := .sliceB) w h0 (by omega)
  have ea : ((⟨g, 0, none⟩ : Addr).add (i.toNat * sz)) = ⟨g, i.toNat * sz, none⟩ := by simp [addr_add]
  simp [execOp, e1, q2.v_eq, Instr.sliceAt, Instr.slice, Instr.sliceBounds, run_underlying ht, b2, run_sizeOf hn, ea, show ¬ cap = i.toNat by omega]
end
def DE (P : Program) (l : List Oper) (fuel : Nat) (S : Array Bool) (Q : Post) (T : List AV) (H : HS) : Prop :=
  ∀ (B : Nat) (w0 : World) (c0 c : Ctx) (w : World) (a : Act), Le c0 c → Inv B w0 c H w → RepT c a.tmps T → a.defers = [] → wpAny P .any l.toArray (Done B w0 c0 Q) fuel S a w
section
variable {P : Program} {Q : Post} {T : List AV} {H : HS} {l : List Oper} {fuel : Nat} {S S' : Array Bool}
theorem aw_explore {id : Nat} (n : Nat) (S : Array Bool) (hm : P.follows .mixedOrders = true) (hn : l.length = n) (hS : Array.replicate n false = S) (h : DE P l n S Q T H) : AW P (.region id l.toArray true) Q T H :=
  fun B w0 c0 c w a h0 h1 h2 h3 => wp_region_any hm (by
    have := h B w0 c0 c { w with drawn := w.drawn + 1 } a h0 h1.drew h2 h3
    subst hS
    subst hn
    simpa using this)
theorem at_array {i : Nat} {o : Oper} (h : l[i]? = some o) : l.toArray[i]? = some o := by simpa using h
theorem de_pure (i : Nat) {o : Oper} {v : AV} {T' : List AV} (S' : Array Bool) (hi : l[i]? = some o) (hs : Region.noSelect l.toArray = true) (hf : Region.free .any l.toArray S i = true) (hr : (Region.ready .any l.toArray S).contains i = true) (hS : S.setIfInBounds i true = S') (hg : o.guard = none)
    (hQ : ∀ ch T H, ¬ Q (.panic ch) T H) (hy : OpY P o (evalT T) v) (hT : putT T o.dst v = T') (h : DE P l fuel S' Q T' H) : DE P l (fuel + 1) S Q T H := by
  subst hT
  subst hS
  intro B w0 c0 c w a h0 h1 h2 h3
  obtain ⟨v', e1, e2⟩ := hy c a fun x _ => h2.eval x
  refine wpAny_take (at_array hi) hs hf hr (fun ch a' w' hh => ?_) (.inl ⟨by simp [Region.wanted, hg], e1⟩) (h B w0 c0 c w _ h0 h1 (h2.put o.dst e2) (by rw [put_defers]; exact h3))
  obtain ⟨_, _, _, _, _, _, _, hq⟩ := hh
  exact absurd hq (hQ _ _ _)
theorem de_op (i : Nat) {o : Oper} {R : AV → HS → Prop} (hi : l[i]? = some o) (hg : o.guard = none) (ho : OpR P o (evalT T) H R) (h : ∀ v H', R v H' → DE P l fuel (S.setIfInBounds i true) Q (putT T o.dst v) H')
    {B : Nat} {w0 : World} {c0 c : Ctx} {w : World} {a : Act} (h0 : Le c0 c) (h1 : Inv B w0 c H w) (h2 : RepT c a.tmps T) (h3 : a.defers = []) : wpOp P l.toArray (Done B w0 c0 Q) i (wpAny P .any l.toArray (Done B w0 c0 Q) fuel (S.setIfInBounds i true)) a w := by
  unfold wpOp
  have hw : Region.wanted o (yielded l.toArray a.tmps) = true := by simp [Region.wanted, hg]
  simp only [at_array hi, hw, if_true]
  refine .inl (ho B w0 c w a _ _ h1 (fun x _ => h2.eval x) fun v' w' c' av H' l1 r1 i1 rr => ?_)
  exact h av H' rr B w0 c0 c' w' _ (h0.trans l1) i1 ((h2.mono l1).put o.dst r1) (by rw [put_defers]; exact h3)
theorem de_one (i : Nat) {o : Oper} {R : AV → HS → Prop} (S' : Array Bool) (hr : Region.ready .any l.toArray S = [i]) (hS : S.setIfInBounds i true = S') (hi : l[i]? = some o) (hg : o.guard = none) (ho : OpR P o (evalT T) H R) (h : ∀ v H', R v H' → DE P l fuel S' Q (putT T o.dst v) H') : DE P l (fuel + 1) S Q T H :=
  fun _ _ _ _ _ _ h0 h1 h2 h3 => wpAny_all hr (by simp) fun j hj => by
    obtain rfl : j = i := by simpa using hj
    subst hS
    exact de_op j hi hg ho h h0 h1 h2 h3
theorem de_step (i : Nat) {o : Oper} {v : AV} {H' : HS} {T' : List AV} (S' : Array Bool) (hr : Region.ready .any l.toArray S = [i]) (hS : S.setIfInBounds i true = S') (hi : l[i]? = some o) (hg : o.guard = none) (ho : OpR P o (evalT T) H (Ret v H')) (hT : putT T o.dst v = T') (h : DE P l fuel S' Q T' H') : DE P l (fuel + 1) S Q T H :=
  de_one i S' hr hS hi hg ho fun _ _ ⟨e1, e2⟩ => by subst e1; subst e2; subst hT; exact h
def DEop (P : Program) (l : List Oper) (fuel : Nat) (S : Array Bool) (Q : Post) (T : List AV) (H : HS) (i : Nat) : Prop :=
  ∀ (B : Nat) (w0 : World) (c0 c : Ctx) (w : World) (a : Act), Le c0 c → Inv B w0 c H w → RepT c a.tmps T → a.defers = [] → wpOp P l.toArray (Done B w0 c0 Q) i (wpAny P .any l.toArray (Done B w0 c0 Q) fuel (S.setIfInBounds i true)) a w
theorem de_two (i j : Nat) (hr : Region.ready .any l.toArray S = [i, j]) (h1 : DEop P l fuel S Q T H i) (h2 : DEop P l fuel S Q T H j) : DE P l (fuel + 1) S Q T H :=
  fun _ _ _ _ _ _ q0 q1 q2 q3 => wpAny_all hr (by simp) fun k hk => by
    rcases List.mem_cons.1 hk with rfl | hk
    · exact h1 _ _ _ _ _ _ q0 q1 q2 q3
    · obtain rfl : k = j := by simpa using hk
      exact h2 _ _ _ _ _ _ q0 q1 q2 q3
theorem deop_cons {i : Nat} {o : Oper} {R : AV → HS → Prop} (S' : Array Bool) (hS : S.setIfInBounds i true = S') (hi : l[i]? = some o) (hg : o.guard = none) (ho : OpR P o (evalT T) H R) (h : ∀ v H', R v H' → DE P l fuel S' Q (putT T o.dst v) H') : DEop P l fuel S Q T H i := by
  subst hS
  exact fun _ _ _ _ _ _ q0 q1 q2 q3 => de_op i hi hg ho h q0 q1 q2 q3
theorem deop_step {i : Nat} {o : Oper} {v : AV} {H' : HS} {T' : List AV} (S' : Array Bool) (hS : S.setIfInBounds i true = S') (hi : l[i]? = some o) (hg : o.guard = none) (ho : OpR P o (evalT T) H (Ret v H')) (hT : putT T o.dst v = T') (h : DE P l fuel S' Q T' H') : DEop P l fuel S Q T H i :=
  deop_cons S' hS hi hg ho fun _ _ ⟨e1, e2⟩ => by subst e1; subst e2; subst hT; exact h
theorem de_end (hr : Region.ready .any l.toArray S = []) (h : Q .normal T H) : DE P l fuel S Q T H :=
  fun _ _ _ c _ _ h0 h1 h2 h3 => wpAny_done hr ⟨c, T, H, h0, h1, h2, h3, h⟩ fuel
theorem de_normT {T' : List AV} (hT : T = T') (h : DE P l fuel S Q T' H) : DE P l fuel S Q T H := by subst hT; exact h
end
end Go.AV
namespace Go.Proofs.Ytjbpfnoibeogbaa
open Go.AV Go.AV.Ord Go.AV.Oct Go.AV.Hist Go.AV.Val Go.AV.Sb
set_option linter.unusedVariables false
set_option linter.unusedSimpArgs false
set_option maxHeartbeats 1000000 in
set_option maxRecDepth 100000 in
theorem iins_ok (Hs : HS) (v : AV) (l : List It) (i vid : Nat) (x : It) (hA : ArrI Hs 197 v l) (hi : i ≤ l.length) (hl : l.length ≤ 100000) (hv : Hs.blks[vid]? = some (i1 197 x)) (hne : ∀ m c, v ≠ .arr vid m c) : ACalls Try.prog 158 [v, .d (I i), .arr vid 1 1] Hs (fun av H' => InsI Hs 197 v (l.take i ++ x :: l.drop i) av H') := by
 refine acalls_of_aw Try.func158 rfl ?_
 refine aw_start (T' := (v :: (.d (I i)) :: (.arr vid 1 1) :: .un :: .un :: .un :: .un :: .un :: .un :: .un :: .un :: .un :: .un :: .un :: .un :: .un :: .un :: .un :: .un :: .un :: .un :: .un :: .un :: .un :: .un :: .un :: .un :: .un :: .un :: .un :: .un :: .un :: .un :: .un :: .un :: .un :: .un :: .un :: .un :: .un :: .un :: .un :: .un :: .un :: .un :: .un :: .un :: .un :: .un :: .un :: .un :: .un :: .un :: .un :: .un :: .un :: .un :: .un :: .un :: .un :: .un :: .un :: .un :: .un :: .un :: .un :: .un :: .un :: .un :: .un :: .un :: .un :: .un :: .un :: .un :: .un :: .un :: .un :: .un :: .un :: .un :: .un :: .un :: .un :: .un :: .un :: .un :: .un :: .un :: .un :: .un :: .un :: .un :: .un :: .un :: [])) rfl ?_
 refine aw_seq ?_
 refine aw_region ?_
 refine zst (op_assign_const (by rfl)) rfl (by dsimp only [zS, zN, zH, zT]) ?_
 refine al_end rfl ?_
 refine then_normal ?_
 refine aw_seq ?_
 refine aw_region ?_
 refine zst (op_move_tmp (by rfl)) rfl (by dsimp only [zS, zN, zH, zT]) ?_
 refine zst (op_move_tmp (by rfl)) rfl (by dsimp only [zS, zN, zH, zT]) ?_
 refine zst (op_sliceUn Try.underlying195 Sz197 hA (by rfl) (by omega) (by omega)) rfl (by dsimp only [zS, zN, zH, zT]) ?_
 refine al_end rfl ?_
 refine then_normal ?_
 refine aw_seq ?_
 refine aw_region ?_
 refine zst (op_move_tmp (by rfl)) rfl (by dsimp only [zS, zN, zH, zT]) ?_
 refine zst (op_lenArr Try.underlying195 (by rfl)) rfl (by dsimp only [zS, zN, zH, zT]) ?_
 refine zst (op_assign_tmp (by rfl)) rfl (by dsimp only [zS, zN, zH, zT]) ?_
 refine al_end rfl ?_
 refine then_normal ?_
 refine aw_seq ?_
 refine aw_seq ?_
 refine aw_region ?_
 refine zst (op_move_tmp (by rfl)) rfl (by dsimp only [zS, zN, zH, zT]) ?_
 refine zst (op_eqI (by rfl) (by rfl)) rfl (by dsimp only [zS, zN, zH, zT]) ?_
 refine al_end rfl ?_
 refine then_normal ?_
 refine aw_cond rfl (fun hc1 => ?_) (fun hc1 => ?_)
 ·
  (try simp only [y1, y2, y3, y4, y5, y6, y7, y8, y9, y0, List.length_map] at hc1)
  exact absurd hc1 (by decide)
 ·
  (try simp only [y1, y2, y3, y4, y5, y6, y7, y8, y9, y0, List.length_map] at hc1)
  refine aw_skip ?_
  refine then_normal ?_
  refine aw_seq ?_
  refine aw_region ?_
  refine zst (op_move_tmp (by rfl)) rfl (by dsimp only [zS, zN, zH, zT]) ?_
  refine zst (op_lenA Try.underlying195 (by rfl) hA) rfl (by dsimp only [zS, zN, zH, zT]) ?_
  refine zst (op_assign_tmp (by rfl)) rfl (by dsimp only [zS, zN, zH, zT]) ?_
  refine al_end rfl ?_
  refine then_normal ?_
  refine aw_seq ?_
  refine aw_seq ?_
  refine aw_region ?_
  refine zst (op_move_tmp (by rfl)) rfl (by dsimp only [zS, zN, zH, zT]) ?_
  refine zst (op_move_tmp (by rfl)) rfl (by dsimp only [zS, zN, zH, zT]) ?_
  refine zst (op_eqI (by rfl) (by rfl)) rfl (by dsimp only [zS, zN, zH, zT]) ?_
  refine al_end rfl ?_
  refine then_normal ?_
  refine aw_cond rfl (fun hc2 => ?_) (fun hc2 => ?_)
  ·
   (try simp only [y1, y2, y3, y4, y5, y6, y7, y8, y9, y0, List.length_map] at hc2)
   have hil : i = l.length := by omega
   refine aw_seq ?_
   refine aw_region ?_
   refine zst (op_move_tmp (by rfl)) rfl (by dsimp only [zS, zN, zH, zT]) ?_
   refine zst (op_move_tmp (by rfl)) rfl (by dsimp only [zS, zN, zH, zT]) ?_
   refine al_cons _ (op_appendC (vs := ((itC x).map AV.d)) Try.underlying195 Try.underlying195 Inf197 (by rfl) hA (From.arr vid 1 1) hv (by show (((itC x).map AV.d).drop 0).take (1 * 4) = ((itC x).map AV.d); rw [List.drop_zero, List.take_of_length_le (by rw [List.length_map, itC_len]; omega)]) (by rw [List.length_map, itC_len]) (by intro w hw; obtain ⟨d, hd, rfl⟩ := List.mem_map.1 hw; exact itC_one x d hd) (by omega) (by omega) (by omega)) rfl ?_
   rintro v2 H2 ⟨hA2, hK2, id2, m2, cc2, rfl, hn2, ho2⟩
   apply al_normT
   · (try dsimp only [putT, List.set_cons_zero, List.set_cons_succ]); try exact rfl
   refine zst (op_assign_tmp (by rfl)) rfl (by dsimp only [zS, zN, zH, zT]) ?_
   refine al_end rfl ?_
   refine then_normal ?_
   refine aw_ret ?_
   refine then_ret ?_
   refine retPost1 rfl rfl ?_
   exact ⟨by subst hil; unfold ArrI; rw [insI_len (Nat.le_refl _), List.take_length, List.drop_length, icells_append]; simpa [icells_cons, show icells [] = [] from rfl] using hA2, hK2, fun id n c h => by cases h; rcases Arr.or hA with h0 | ⟨id3, cap3, h3⟩; exact .inl (hn2 h0); rcases ho2 _ _ _ h3 with h | h; exact .inr ⟨_, _, by rw [h]; exact h3⟩; exact .inl h⟩
  ·
   (try simp only [y1, y2, y3, y4, y5, y6, y7, y8, y9, y0, List.length_map] at hc2)
   have hil : i < l.length := by omega
   obtain ⟨id, cap, cs, rfl, hb, hc, hcap, hu⟩ := Arr.pos hA (by omega)
   have hvi : vid ≠ id := fun h => hne _ _ (by rw [h])
   have hcs : (⟨197, cs, false⟩ : HB).cs.length = cap * 4 := hc
   refine aw_skip ?_
   refine then_normal ?_
   refine aw_seq ?_
   refine aw_seq ?_
   refine aw_region ?_
   refine zst (op_move_tmp (by rfl)) rfl (by dsimp only [zS, zN, zH, zT]) ?_
   refine zst (op_move_tmp (by rfl)) rfl (by dsimp only [zS, zN, zH, zT]) ?_
   refine zst (op_add (by rfl) (by rfl) (show IntKind.i64.wrap ((l.length : Int) + 1) = ((l.length + 1 : Nat) : Int) by rw [wrap_i64 ⟨by omega, by omega⟩]; omega)) rfl (by dsimp only [zS, zN, zH, zT]) ?_
   refine zst (op_move_tmp (by rfl)) rfl (by dsimp only [zS, zN, zH, zT]) ?_
   refine zst (op_capArr Try.underlying195 (by rfl)) rfl (by dsimp only [zS, zN, zH, zT]) ?_
   refine zst (op_gtI (by rfl) (by rfl)) rfl (by dsimp only [zS, zN, zH, zT]) ?_
   refine al_end rfl ?_
   refine then_normal ?_
   refine aw_cond rfl (fun hc3 => ?_) (fun hc3 => ?_)
   ·
    (try simp only [y1, y2, y3, y4, y5, y6, y7, y8, y9, y0, List.length_map] at hc3)
    have hg : cap < l.length + 1 := by omega
    refine aw_seq ?_
    refine aw_region ?_
    refine zst (op_move_tmp (by rfl)) rfl (by dsimp only [zS, zN, zH, zT]) ?_
    refine zst (op_move_tmp (by rfl)) rfl (by dsimp only [zS, zN, zH, zT]) ?_
    refine zst (op_sliceArr0 Try.underlying195 Sz197 (by rfl) (by rfl) (by omega) (by omega) (by rfl)) rfl (by dsimp only [zS, zN, zH, zT]) ?_
    refine zst (op_move_tmp (by rfl)) rfl (by dsimp only [zS, zN, zH, zT]) ?_
    refine zst (op_move_tmp (by rfl)) rfl (by dsimp only [zS, zN, zH, zT]) ?_
    refine zst (op_add (by rfl) (by rfl) (show IntKind.i64.wrap ((l.length : Int) + 1) = ((l.length + 1 : Nat) : Int) by rw [wrap_i64 ⟨by omega, by omega⟩]; omega)) rfl (by dsimp only [zS, zN, zH, zT]) ?_
    refine zst (op_move_tmp (by rfl)) rfl (by dsimp only [zS, zN, zH, zT]) ?_
    refine zst (op_sub (by rfl) (by rfl) (show IntKind.i64.wrap (((l.length + 1 : Nat) : Int) - (i : Int)) = ((l.length + 1 - i : Nat) : Int) by rw [wrap_i64 ⟨by omega, by omega⟩]; omega)) rfl (by dsimp only [zS, zN, zH, zT]) ?_
    refine al_cons _ (op_appendZ (k := l.length + 1 - i) Try.underlying195 Try.underlying3 Inf197 (by rfl) (by decide) (by rfl) (by rfl) (by omega) (by omega) hb (by show _ ≤ cs.length; omega) (by omega) (by omega)) rfl ?_
    rintro v2 H2 ⟨c2, hc2, rfl, rfl⟩
    apply al_normT
    · (try dsimp only [putT, List.set_cons_zero, List.set_cons_succ]); try exact rfl
    refine zst (op_assign_tmp (by rfl)) rfl (by dsimp only [zS, zN, zH, zT]) ?_
    refine al_end rfl ?_
    refine then_normal ?_
    refine aw_seq ?_
    refine aw_region ?_
    refine zst (op_move_tmp (by rfl)) rfl (by dsimp only [zS, zN, zH, zT]) ?_
    refine zst (op_move_tmp (by rfl)) rfl (by dsimp only [zS, zN, zH, zT]) ?_
    refine zst (op_sliceArr1 (m := i) (off := (i) * 4) (n' := l.length + 1 - i) (cap' := c2 - i) Try.underlying195 Sz197 (by rfl) (by rfl) (by omega) (by omega) (by omega) (by omega) (by rfl) (by omega) (by rfl)) rfl (by dsimp only [zS, zN, zH, zT]) ?_
    refine zst (op_move_tmp (by rfl)) rfl (by dsimp only [zS, zN, zH, zT]) ?_
    refine zst (op_copyB (b := ⟨197, (cs.take (i * 4) ++ List.replicate ((c2 - i) * 4) AV.un), false⟩) (b2 := i1 197 x) (vs := ((itC x).map AV.d)) (m := 1) Try.underlying195 Try.underlying195 Sz197 (by rfl) (From.arr vid 1 1) (by omega) push_at (push_ne hv) (by show (((itC x).map AV.d).drop 0).take (1 * 4) = ((itC x).map AV.d); rw [List.drop_zero, List.take_of_length_le (by rw [List.length_map, itC_len]; omega)]) (by rw [List.length_map, itC_len]) (by show _ ≤ ((cs.take (i * 4) ++ List.replicate ((c2 - i) * 4) AV.un)).length; rw [List.length_append, List.length_take, List.length_replicate]; omega) (by intro w hw; obtain ⟨d, hd, rfl⟩ := List.mem_map.1 hw; exact itC_one x d hd) (by rfl)) rfl (by dsimp only [zS, zN, zH, zT]) ?_
    refine al_end rfl ?_
    refine then_normal ?_
    refine aw_seq ?_
    refine aw_draw [0, 0, 0, 0, 0, 0, 0, 0, 2] mixed (by kernel_rfl) ?_
    refine zd0 (fun H => (op_move_tmp (by rfl))) rfl (by dsimp only [zS, zN, zH, zT]) ?_
    refine zd0 (fun H => (op_move_tmp (by rfl))) rfl (by dsimp only [zS, zN, zH, zT]) ?_
    refine zd0 (fun H => (op_move_tmp (by rfl))) rfl (by dsimp only [zS, zN, zH, zT]) ?_
    refine zd0 (fun H => (op_add (by rfl) (by rfl) (show IntKind.i64.wrap ((i : Int) + 1) = ((i + 1 : Nat) : Int) by rw [wrap_i64 ⟨by omega, by omega⟩]; omega))) rfl (by dsimp only [zS, zN, zH, zT]) ?_
    refine zd0 (fun H => (op_sliceArr1 (m := i + 1) (off := (i + 1) * 4) (n' := l.length - i) (cap' := c2 - (i + 1)) Try.underlying195 Sz197 (by rfl) (by rfl) (by omega) (by omega) (by omega) (by omega) (by rfl) (by omega) (by rfl))) rfl (by dsimp only [zS, zN, zH, zT]) ?_
    refine zd0 (fun H => (op_move_tmp (by rfl))) rfl (by dsimp only [zS, zN, zH, zT]) ?_
    refine zd0 (fun H => (op_move_tmp (by rfl))) rfl (by dsimp only [zS, zN, zH, zT]) ?_
    refine zd0 (fun H => (op_sliceArr1 (m := i) (off := (i) * 4) (n' := l.length - i) (cap' := cap - i) Try.underlying195 Sz197 (by rfl) (by rfl) (by omega) (by omega) (by omega) (by omega) (by rfl) (by omega) (by rfl))) rfl (by dsimp only [zS, zN, zH, zT]) ?_
    refine zd2 (op_copyB (b2 := ⟨197, cs, false⟩) (vs := ((cs.drop (i * 4)).take ((l.length - i) * 4))) (m := l.length - i) Try.underlying195 Try.underlying195 Sz197 (by rfl) (From.sub id (i * 4) (l.length - i) (cap - i)) (by omega) (put_blks_at push_at) (by rw [put_blks_ne (by have := lt_nb hb; omega)]; exact push_ne hb) (by rfl) (by show ((cs.drop (i * 4)).take ((l.length - i) * 4)).length = _; rw [List.length_take, List.length_drop]; omega) (by show _ ≤ (putL _ _ _).length; rw [putL_length, List.length_append, List.length_take, List.length_replicate]; omega) (by intro w hw; rw [restI_cells hu] at hw; exact icells_one l w (List.mem_of_mem_drop hw)) (by rfl)) rfl (by dsimp only [zS, zN, zH, zT]) ?_
    refine drun_end rfl ?_
    refine then_normal ?_
    refine aw_seq ?_
    refine aw_region ?_
    refine zst (op_move_tmp (by rfl)) rfl (by dsimp only [zS, zN, zH, zT]) ?_
    refine zst (op_assign_tmp (by rfl)) rfl (by dsimp only [zS, zN, zH, zT]) ?_
    refine al_end rfl ?_
    refine then_normal ?_
    refine aw_ret ?_
    refine then_ret ?_
    refine retPost1 rfl rfl ?_
    exact insI_grow hc hcap hu hil hc2
   ·
    (try simp only [y1, y2, y3, y4, y5, y6, y7, y8, y9, y0, List.length_map] at hc3)
    have hg : l.length + 1 ≤ cap := by omega
    refine aw_skip ?_
    refine then_normal ?_
    refine aw_seq ?_
    refine aw_region ?_
    refine zst (op_move_tmp (by rfl)) rfl (by dsimp only [zS, zN, zH, zT]) ?_
    refine zst (op_move_tmp (by rfl)) rfl (by dsimp only [zS, zN, zH, zT]) ?_
    refine zst (op_move_tmp (by rfl)) rfl (by dsimp only [zS, zN, zH, zT]) ?_
    refine zst (op_add (by rfl) (by rfl) (show IntKind.i64.wrap ((l.length : Int) + 1) = ((l.length + 1 : Nat) : Int) by rw [wrap_i64 ⟨by omega, by omega⟩]; omega)) rfl (by dsimp only [zS, zN, zH, zT]) ?_
    refine zst (op_sliceArr0 (m := l.length + 1) Try.underlying195 Sz197 (by rfl) (by rfl) (by omega) (by omega) (by rfl)) rfl (by dsimp only [zS, zN, zH, zT]) ?_
    refine zst (op_assign_tmp (by rfl)) rfl (by dsimp only [zS, zN, zH, zT]) ?_
    refine al_end rfl ?_
    refine then_normal ?_
    refine aw_seq ?_
    refine aw_seq ?_
    refine aw_region ?_
    refine zst (op_move_tmp (by rfl)) rfl (by dsimp only [zS, zN, zH, zT]) ?_
    refine zst (op_move_tmp (by rfl)) rfl (by dsimp only [zS, zN, zH, zT]) ?_
    refine zst (op_move_tmp (by rfl)) rfl (by dsimp only [zS, zN, zH, zT]) ?_
    refine zst (op_move_tmp (by rfl)) rfl (by dsimp only [zS, zN, zH, zT]) ?_
    refine zst (op_add (by rfl) (by rfl) (show IntKind.i64.wrap ((i : Int) + 1) = ((i + 1 : Nat) : Int) by rw [wrap_i64 ⟨by omega, by omega⟩]; omega)) rfl (by dsimp only [zS, zN, zH, zT]) ?_
    refine zst (op_sliceArr1 (m := i + 1) (off := (i + 1) * 4) (n' := l.length - i) (cap' := cap - (i + 1)) Try.underlying195 Sz197 (by rfl) (by rfl) (by omega) (by omega) (by omega) (by omega) (by rfl) (by omega) (by rfl)) rfl (by dsimp only [zS, zN, zH, zT]) ?_
    refine zst (op_overlaps (rt := 4) Try.func174 (by kernel_rfl) (by kernel_rfl) (by kernel_rfl) (by kernel_rfl) Try.underlying195 Sz197 (by rfl) (by rfl) hvi hv hb (by rfl) (by show 0 < cs.length; omega)) rfl (by dsimp only [zS, zN, zH, zT]) ?_
    refine zst (op_not (by rfl)) rfl (by dsimp only [zS, zN, zH, zT]) ?_
    refine al_end rfl ?_
    refine then_normal ?_
    refine aw_cond rfl (fun _ => ?_) (fun h => by cases h)
    refine aw_seq ?_
    refine aw_draw [0, 0, 0, 0, 0, 0, 0, 0, 2] mixed (by kernel_rfl) ?_
    refine zd0 (fun H => (op_move_tmp (by rfl))) rfl (by dsimp only [zS, zN, zH, zT]) ?_
    refine zd0 (fun H => (op_move_tmp (by rfl))) rfl (by dsimp only [zS, zN, zH, zT]) ?_
    refine zd0 (fun H => (op_move_tmp (by rfl))) rfl (by dsimp only [zS, zN, zH, zT]) ?_
    refine zd0 (fun H => (op_add (by rfl) (by rfl) (show IntKind.i64.wrap ((i : Int) + 1) = ((i + 1 : Nat) : Int) by rw [wrap_i64 ⟨by omega, by omega⟩]; omega))) rfl (by dsimp only [zS, zN, zH, zT]) ?_
    refine zd0 (fun H => (op_sliceArr1 (m := i + 1) (off := (i + 1) * 4) (n' := l.length - i) (cap' := cap - (i + 1)) Try.underlying195 Sz197 (by rfl) (by rfl) (by omega) (by omega) (by omega) (by omega) (by rfl) (by omega) (by rfl))) rfl (by dsimp only [zS, zN, zH, zT]) ?_
    refine zd0 (fun H => (op_move_tmp (by rfl))) rfl (by dsimp only [zS, zN, zH, zT]) ?_
    refine zd0 (fun H => (op_move_tmp (by rfl))) rfl (by dsimp only [zS, zN, zH, zT]) ?_
    refine zd0 (fun H => (op_sliceArr1 (m := i) (off := (i) * 4) (n' := l.length + 1 - i) (cap' := cap - i) Try.underlying195 Sz197 (by rfl) (by rfl) (by omega) (by omega) (by omega) (by omega) (by rfl) (by omega) (by rfl))) rfl (by dsimp only [zS, zN, zH, zT]) ?_
    refine zd2 (op_copyB (b := ⟨197, cs, false⟩) (b2 := ⟨197, cs, false⟩) (vs := ((cs.drop (i * 4)).take ((l.length - i) * 4))) (m := l.length - i) Try.underlying195 Try.underlying195 Sz197 (by rfl) (From.sub id (i * 4) (l.length + 1 - i) (cap - i)) (by omega) hb hb (by rfl) (by show ((cs.drop (i * 4)).take ((l.length - i) * 4)).length = _; rw [List.length_take, List.length_drop]; omega) (by show _ ≤ cs.length; omega) (by intro w hw; rw [restI_cells hu] at hw; exact icells_one l w (List.mem_of_mem_drop hw)) (by rfl)) rfl (by dsimp only [zS, zN, zH, zT]) ?_
    refine drun_end rfl ?_
    refine then_normal ?_
    refine aw_seq ?_
    refine aw_region ?_
    refine zst (op_move_tmp (by rfl)) rfl (by dsimp only [zS, zN, zH, zT]) ?_
    refine zst (op_move_tmp (by rfl)) rfl (by dsimp only [zS, zN, zH, zT]) ?_
    refine zst (op_sliceArr1 (m := i) (off := (i) * 4) (n' := l.length + 1 - i) (cap' := cap - i) Try.underlying195 Sz197 (by rfl) (by rfl) (by omega) (by omega) (by omega) (by omega) (by rfl) (by omega) (by rfl)) rfl (by dsimp only [zS, zN, zH, zT]) ?_
    refine zst (op_move_tmp (by rfl)) rfl (by dsimp only [zS, zN, zH, zT]) ?_
    refine zst (op_copyB (b2 := i1 197 x) (vs := ((itC x).map AV.d)) (m := 1) Try.underlying195 Try.underlying195 Sz197 (by rfl) (From.arr vid 1 1) (by omega) (put_blks_at hb) (by rw [put_blks_ne hvi]; exact hv) (by show (((itC x).map AV.d).drop 0).take (1 * 4) = ((itC x).map AV.d); rw [List.drop_zero, List.take_of_length_le (by rw [List.length_map, itC_len]; omega)]) (by rw [List.length_map, itC_len]) (by show _ ≤ (putL _ _ _).length; rw [putL_length]; omega) (by intro w hw; obtain ⟨d, hd, rfl⟩ := List.mem_map.1 hw; exact itC_one x d hd) (by rfl)) rfl (by dsimp only [zS, zN, zH, zT]) ?_
    refine al_end rfl ?_
    refine then_normal ?_
    refine aw_seq ?_
    refine aw_region ?_
    refine zst (op_move_tmp (by rfl)) rfl (by dsimp only [zS, zN, zH, zT]) ?_
    refine zst (op_assign_tmp (by rfl)) rfl (by dsimp only [zS, zN, zH, zT]) ?_
    refine al_end rfl ?_
    refine then_normal ?_
    refine aw_ret ?_
    refine then_ret ?_
    refine retPost1 rfl rfl ?_
    exact insI_shift rfl hb hc hg hu hil
set_option maxRecDepth 100000 in
theorem iclone_ok (Hs : HS) (v : AV) (l : List It) (jd off : Nat) (b2 : HB) (hf : From v jd off l.length) (hb : Hs.blks[jd]? = some b2) (hv : (b2.cs.drop off).take (l.length * 4) = icells l) (h0 : 0 < l.length) (hl : l.length ≤ 100000) : ACalls Try.prog 176 [v] Hs (fun av H' => ArrI H' 197 av l ∧ Ext Hs H' ∧ ∃ id n c, av = .arr id n c ∧ Hs.nb ≤ id) := by
 refine acalls_of_aw Try.func176 rfl ?_
 refine aw_start (T' := [v, .un, .un, .un, .un, .un, .un, .un]) rfl ?_
 refine aw_seq ?_
 refine aw_region ?_
 refine zst (op_assign_const (by rfl)) rfl (by dsimp only [zS, zN, zH, zT]) ?_
 refine al_end rfl ?_
 refine then_normal ?_
 refine aw_seq ?_
 refine aw_seq ?_
 refine aw_region ?_
 refine zst (op_move_tmp (by rfl)) rfl (by dsimp only [zS, zN, zH, zT]) ?_
 refine zst (op_nilArr Try.underlying195 hf (by rfl)) rfl (by dsimp only [zS, zN, zH, zT]) ?_
 refine al_end rfl ?_
 refine then_normal ?_
 refine aw_cond rfl (fun h => by cases h) (fun _ => ?_)
 refine aw_skip ?_
 refine then_normal ?_
 refine aw_seq ?_
 refine aw_region ?_
 refine zst (op_litC [] Try.underlying195 ZS197 (by rfl) (by rfl) (by rfl) (by decide)) rfl (by dsimp only [zS, zN, zH, zT]) ?_
 refine zst (op_move_tmp (by rfl)) rfl (by dsimp only [zS, zN, zH, zT]) ?_
 refine al_cons _ (op_appendC (vs := icells l) (us := []) (n := 0) Try.underlying195 Try.underlying195 Inf197 (by rfl) (.arr Hs.nb 0 0 [] [] push_at (by rfl) (by omega) (by rfl)) hf (push_ne hb) hv (icells_len l) (icells_one l) h0 (by omega) (by omega)) rfl ?_
 rintro v2 H2 ⟨hA2, hK2, id2, m2, cc2, rfl, hn2, ho2⟩
 apply al_normT
 · (try dsimp only [putT, List.set_cons_zero, List.set_cons_succ]); try exact rfl
 refine zst (op_assign_tmp (by rfl)) rfl (by dsimp only [zS, zN, zH, zT]) ?_
 refine al_end rfl ?_
 refine then_normal ?_
 refine aw_ret ?_
 refine retPost1 rfl rfl ?_
 exact ⟨by unfold ArrI; simpa using hA2, ext_kept2 ((Ext.refl Hs).push _ _) hK2 (fun id n c h => by cases h; exact Nat.le_refl _), id2, m2, cc2, rfl, by rcases ho2 _ _ _ rfl with h | h; (rw [h]; exact Nat.le_refl _); (rw [push_nb] at h; omega)⟩
set_option maxRecDepth 100000 in
theorem halves_ok (Hs : HS) (id cap : Nat) (cs : List AV) (l : List It) (hb : Hs.blks[id]? = some ⟨197, cs, false⟩) (hc : cs.length = cap * 4) (hcap : l.length ≤ cap) (hu : cs.take (l.length * 4) = icells l) (h2 : 2 ≤ l.length) (hl : l.length ≤ 100000) : ACalls Try.prog 159 [.arr id l.length cap] Hs (fun av H' => ∃ ia na ca ib nb cb, av = .tup [.arr ia na ca, .arr ib nb cb] ∧ ArrI H' 197 (.arr ia na ca) (l.take (l.length / 2)) ∧ ArrI H' 197 (.arr ib nb cb) (l.drop (l.length / 2)) ∧ Ext Hs H' ∧ Hs.nb ≤ ia ∧ ia < ib) := by
 refine acalls_of_aw Try.func159 rfl ?_
 refine aw_start (T' := [.arr id l.length cap, .un, .un, .un, .un, .un, .un, .un, .un, .un, .un, .un, .un, .un, .un, .un]) rfl ?_
 refine aw_seq ?_
 refine aw_region ?_
 refine zst (op_assign_const (by rfl)) rfl (by dsimp only [zS, zN, zH, zT]) ?_
 refine zst (op_assign_const (by rfl)) rfl (by dsimp only [zS, zN, zH, zT]) ?_
 refine al_end rfl ?_
 refine then_normal ?_
 refine aw_seq ?_
 refine aw_region ?_
 refine zst (op_move_tmp (by rfl)) rfl (by dsimp only [zS, zN, zH, zT]) ?_
 refine zst (op_lenArr Try.underlying195 (by rfl)) rfl (by dsimp only [zS, zN, zH, zT]) ?_
 refine zst (op_quo (r := ((l.length / 2 : Nat) : Int)) (by rfl) (by rfl) (by decide) (show IntKind.i64.wrap (((l.length / 2 : Nat) : Int)) = ((l.length / 2 : Nat) : Int) from wrap_i64 ⟨by omega, by omega⟩)) rfl (by dsimp only [zS, zN, zH, zT]) ?_
 refine zst (op_assign_tmp (by rfl)) rfl (by dsimp only [zS, zN, zH, zT]) ?_
 refine al_end rfl ?_
 refine then_normal ?_
 refine aw_seq ?_
 refine aw_explore 10 #[false, false, false, false, false, false, false, false, false, false] mixed rfl (by rfl) ?_
 refine de_pure 0 #[true, false, false, false, false, false, false, false, false, false] rfl (by kernel_rfl) (by kernel_rfl) (by kernel_rfl) rfl rfl (by intro ch T H h; simp [Then, RetPost, InBlock, Again, CutP] at h) (opY_move (by rfl)) (by dsimp only [zS, zN, zH, zT]) ?_
 refine de_pure 1 #[true, true, false, false, false, false, false, false, false, false] rfl (by kernel_rfl) (by kernel_rfl) (by kernel_rfl) rfl rfl (by intro ch T H h; simp [Then, RetPost, InBlock, Again, CutP] at h) (opY_move (by rfl)) (by dsimp only [zS, zN, zH, zT]) ?_
 refine de_pure 2 #[true, true, true, false, false, false, false, false, false, false] rfl (by kernel_rfl) (by kernel_rfl) (by kernel_rfl) rfl rfl (by intro ch T H h; simp [Then, RetPost, InBlock, Again, CutP] at h) (opY_sliceArr0 (m := (l.length / 2)) Try.underlying195 Sz197 (by rfl) (by rfl) (by omega) (by omega) (by rfl)) (by dsimp only [zS, zN, zH, zT]) ?_
 refine de_pure 4 #[true, true, true, false, true, false, false, false, false, false] rfl (by kernel_rfl) (by kernel_rfl) (by kernel_rfl) rfl rfl (by intro ch T H h; simp [Then, RetPost, InBlock, Again, CutP] at h) (opY_move (by rfl)) (by dsimp only [zS, zN, zH, zT]) ?_
 refine de_pure 5 #[true, true, true, false, true, true, false, false, false, false] rfl (by kernel_rfl) (by kernel_rfl) (by kernel_rfl) rfl rfl (by intro ch T H h; simp [Then, RetPost, InBlock, Again, CutP] at h) (opY_move (by rfl)) (by dsimp only [zS, zN, zH, zT]) ?_
 refine de_pure 6 #[true, true, true, false, true, true, true, false, false, false] rfl (by kernel_rfl) (by kernel_rfl) (by kernel_rfl) rfl rfl (by intro ch T H h; simp [Then, RetPost, InBlock, Again, CutP] at h) (opY_sliceArr1 (m := (l.length / 2)) (off := (l.length / 2) * 4) (n' := l.length - (l.length / 2)) (cap' := cap - (l.length / 2)) Try.underlying195 Sz197 (by rfl) (by rfl) (by omega) (by omega) (by omega) (by rfl) (by rfl) (by rfl) (by rfl)) (by dsimp only [zS, zN, zH, zT]) ?_
 refine de_one 3 #[true, true, true, true, true, true, true, false, false, false] (by kernel_rfl) rfl rfl rfl (op_callF Try.func176 (by rfl) (by rfl) (.tmp (by rfl) .nil) (iclone_ok _ _ (l.take (l.length / 2)) _ _ _ (by rw [List.length_take, Nat.min_eq_left (by omega)]; exact From.arr id (l.length / 2) cap) hb (by rw [List.length_take, Nat.min_eq_left (by omega), List.drop_zero, icells_take, ← hu, List.take_take, Nat.min_eq_left (by omega)]) (by simp; omega) (by simp; omega))) ?_
 rintro v3 H3 ⟨hA3, hx3, ia, na, ca, rfl, hia⟩
 apply de_normT
 · (try dsimp only [zS, zN, zH, zT]); try exact rfl
 refine de_one 7 #[true, true, true, true, true, true, true, true, false, false] (by kernel_rfl) rfl rfl rfl (op_callF Try.func176 (by rfl) (by rfl) (.tmp (by rfl) .nil) (iclone_ok _ _ (l.drop (l.length / 2)) _ _ _ (by rw [List.length_drop]; exact From.sub id ((l.length / 2) * 4) (l.length - (l.length / 2)) (cap - (l.length / 2))) (hx3.at hb) (by rw [List.length_drop, icells_drop, ← hu, List.drop_take]; congr 1; omega) (by simp; omega) (by simp; omega))) ?_
 rintro v7 H7 ⟨hA7, hx7, ib, nb, cb, rfl, hib⟩
 apply de_normT
 · (try dsimp only [zS, zN, zH, zT]); try exact rfl
 refine de_pure 8 #[true, true, true, true, true, true, true, true, true, false] rfl (by kernel_rfl) (by kernel_rfl) (by kernel_rfl) rfl rfl (by intro ch T H h; simp [Then, RetPost, InBlock, Again, CutP] at h) (opY_assign (by rfl)) (by dsimp only [zS, zN, zH, zT]) ?_
 refine de_pure 9 #[true, true, true, true, true, true, true, true, true, true] rfl (by kernel_rfl) (by kernel_rfl) (by kernel_rfl) rfl rfl (by intro ch T H h; simp [Then, RetPost, InBlock, Again, CutP] at h) (opY_assign (by rfl)) (by dsimp only [zS, zN, zH, zT]) ?_
 refine de_end (by kernel_rfl) ?_
 refine then_normal ?_
 refine aw_ret ?_
 refine retPost2 rfl rfl rfl ?_
 exact ⟨ia, na, ca, ib, nb, cb, rfl, Arr.mono hA3 (fun j n c h => by obtain ⟨b, q1, _⟩ := Arr.elem hA3 h; rw [hx7.at q1, q1]), hA7, hx3.trans hx7, hia, by obtain ⟨b, q1, _⟩ := Arr.elem hA3 rfl; have := lt_nb q1; omega⟩
set_option maxRecDepth 100000 in
theorem lins_ok (Hs : HS) (id n cap vid : Nat) (us : List AV) (x : AV) (hA : Arr Hs 195 1 (.arr id n cap) n us) (hx1 : x.one = true) (hn : n ≤ 100000) (hv : Hs.blks[vid]? = some ⟨195, [x], false⟩) : ACalls Try.prog 160 [.arr id n cap, .d (I n), .arr vid 1 1] Hs (fun av H' => Arr H' 195 1 av (n + 1) (us ++ [x]) ∧ Kept Hs H' (.arr id n cap) ∧ ∃ id' m c, av = .arr id' m c ∧ (id' = id ∨ Hs.nb ≤ id')) := by
 refine acalls_of_aw Try.func160 rfl ?_
 refine aw_start (T' := ((.arr id n cap) :: (.d (I n)) :: (.arr vid 1 1) :: .un :: .un :: .un :: .un :: .un :: .un :: .un :: .un :: .un :: .un :: .un :: .un :: .un :: .un :: .un :: .un :: .un :: .un :: .un :: .un :: .un :: .un :: .un :: .un :: .un :: .un :: .un :: .un :: .un :: .un :: .un :: .un :: .un :: .un :: .un :: .un :: .un :: .un :: .un :: .un :: .un :: .un :: .un :: .un :: .un :: .un :: .un :: .un :: .un :: .un :: .un :: .un :: .un :: .un :: .un :: .un :: .un :: .un :: .un :: .un :: .un :: .un :: .un :: .un :: .un :: .un :: .un :: .un :: .un :: .un :: .un :: .un :: .un :: .un :: .un :: .un :: .un :: .un :: .un :: .un :: .un :: .un :: .un :: .un :: .un :: .un :: .un :: .un :: .un :: .un :: .un :: .un :: [])) rfl ?_
 refine aw_seq ?_
 refine aw_region ?_
 refine zst (op_assign_const (by rfl)) rfl (by dsimp only [zS, zN, zH, zT]) ?_
 refine al_end rfl ?_
 refine then_normal ?_
 refine aw_seq ?_
 refine aw_region ?_
 refine zst (op_move_tmp (by rfl)) rfl (by dsimp only [zS, zN, zH, zT]) ?_
 refine zst (op_move_tmp (by rfl)) rfl (by dsimp only [zS, zN, zH, zT]) ?_
 refine zst (op_sliceUn Try.underlying141 Sz195 hA (by rfl) (by omega) (by omega)) rfl (by dsimp only [zS, zN, zH, zT]) ?_
 refine al_end rfl ?_
 refine then_normal ?_
 refine aw_seq ?_
 refine aw_region ?_
 refine zst (op_move_tmp (by rfl)) rfl (by dsimp only [zS, zN, zH, zT]) ?_
 refine zst (op_lenArr Try.underlying141 (by rfl)) rfl (by dsimp only [zS, zN, zH, zT]) ?_
 refine zst (op_assign_tmp (by rfl)) rfl (by dsimp only [zS, zN, zH, zT]) ?_
 refine al_end rfl ?_
 refine then_normal ?_
 refine aw_seq ?_
 refine aw_seq ?_
 refine aw_region ?_
 refine zst (op_move_tmp (by rfl)) rfl (by dsimp only [zS, zN, zH, zT]) ?_
 refine zst (op_eqI (by rfl) (by rfl)) rfl (by dsimp only [zS, zN, zH, zT]) ?_
 refine al_end rfl ?_
 refine then_normal ?_
 refine aw_cond rfl (fun hc1 => ?_) (fun hc1 => ?_)
 ·
  (try simp only [y1, y2, y3, y4, y5, y6, y7, y8, y9, y0, List.length_map] at hc1)
  exact absurd hc1 (by decide)
 ·
  (try simp only [y1, y2, y3, y4, y5, y6, y7, y8, y9, y0, List.length_map] at hc1)
  refine aw_skip ?_
  refine then_normal ?_
  refine aw_seq ?_
  refine aw_region ?_
  refine zst (op_move_tmp (by rfl)) rfl (by dsimp only [zS, zN, zH, zT]) ?_
  refine zst (op_lenArr Try.underlying141 (by rfl)) rfl (by dsimp only [zS, zN, zH, zT]) ?_
  refine zst (op_assign_tmp (by rfl)) rfl (by dsimp only [zS, zN, zH, zT]) ?_
  refine al_end rfl ?_
  refine then_normal ?_
  refine aw_seq ?_
  refine aw_seq ?_
  refine aw_region ?_
  refine zst (op_move_tmp (by rfl)) rfl (by dsimp only [zS, zN, zH, zT]) ?_
  refine zst (op_move_tmp (by rfl)) rfl (by dsimp only [zS, zN, zH, zT]) ?_
  refine zst (op_eqI_same (by rfl) (by rfl)) rfl (by dsimp only [zS, zN, zH, zT]) ?_
  refine al_end rfl ?_
  refine then_normal ?_
  refine aw_cond rfl (fun _ => ?_) (fun h => by cases h)
  refine aw_seq ?_
  refine aw_region ?_
  refine zst (op_move_tmp (by rfl)) rfl (by dsimp only [zS, zN, zH, zT]) ?_
  refine zst (op_move_tmp (by rfl)) rfl (by dsimp only [zS, zN, zH, zT]) ?_
  refine al_cons _ (op_appendC (vs := [x]) Try.underlying141 Try.underlying141 Inf195 (by rfl) hA (From.arr vid 1 1) hv (by rfl) (by rfl) (by intro w hw; rcases List.mem_singleton.1 hw with rfl; exact hx1) (by omega) (by omega) (by omega)) rfl ?_
  rintro v2 H2 ⟨hA2, hK2, id2, m2, cc2, rfl, hn2, ho2⟩
  apply al_normT
  · (try dsimp only [putT, List.set_cons_zero, List.set_cons_succ]); try exact rfl
  refine zst (op_assign_tmp (by rfl)) rfl (by dsimp only [zS, zN, zH, zT]) ?_
  refine al_end rfl ?_
  refine then_normal ?_
  refine aw_ret ?_
  refine then_ret ?_
  refine retPost1 rfl rfl ?_
  exact ⟨hA2, hK2, id2, m2, cc2, rfl, by rcases ho2 _ _ _ rfl with h | h; exact .inl h; exact .inr h⟩
end Go.Proofs.Ytjbpfnoibeogbaa
namespace Go.Proofs.Ytjbpfnoibeogbaa
open Go.AV Go.AV.Ord Go.AV.Oct Go.AV.Hist Go.AV.Val Go.AV.Sb
set_option linter.unusedVariables false
set_option linter.unusedSimpArgs false
set_option maxHeartbeats 2000000 in
set_option maxRecDepth 100000 in
theorem tput2_ok (Hs : HS) (tid sid : Nat) (lv : AV) (sz : Int) (ls : List (List It)) (vs : List AV) (x : It) (l : List It) (hl : LfAt ls x.key l) (hno : hasF (keysF l) x.key = false) (hr : rises (firstsF ls) = true) (hrl : rises (keysF l) = true) (hl9 : ls.length ≤ 2) (hll : l.length ≤ 8) (hcase : l.length = 8 → ls = [l]) (hsz : 0 ≤ sz ∧ sz ≤ 100000) (hT : Hs.blks[tid]? = some ⟨145, [.ptr sid 0, .d (I 0), .d (I 0), .d (I 0), .d (I 0), lv, .d (I sz)], false⟩) (hL : LvT Hs 195 197 lv ls vs)  : ACalls Try.prog 130 [.ptr tid 5, .d (S x.key), .d (.agg (wC x.w))] Hs (fun av H' => av = .d (TF false) ∧ ∃ lv' vs', H'.blks[tid]? = some ⟨145, [.ptr sid 0, .d (I 0), .d (I 0), .d (I 0), .d (I 0), lv', .d (I (sz + 1))], false⟩ ∧ LvT H' 195 197 lv' (insL ls x l) vs' ∧ Was 195 197 tid Hs H') := by
 refine acalls_of_aw Try.func130 rfl ?_
 refine aw_start (T' := ((.ptr tid 5) :: (.d (S x.key)) :: (.d (.agg (wC x.w))) :: .un :: .un :: .un :: .un :: .un :: .un :: .un :: .un :: .un :: .un :: .un :: .un :: .un :: .un :: .un :: .un :: .un :: .un :: .un :: .un :: .un :: .un :: .un :: .un :: .un :: .un :: .un :: .un :: .un :: .un :: .un :: .un :: .un :: .un :: .un :: .un :: .un :: .un :: .un :: .un :: .un :: .un :: .un :: .un :: .un :: .un :: .un :: .un :: .un :: .un :: .un :: .un :: .un :: .un :: .un :: .un :: .un :: .un :: .un :: .un :: .un :: .un :: .un :: .un :: .un :: .un :: .un :: .un :: .un :: .un :: .un :: .un :: .un :: .un :: .un :: .un :: .un :: .un :: .un :: .un :: .un :: .un :: .un :: .un :: .un :: .un :: .un :: .un :: .un :: .un :: .un :: .un :: .un :: .un :: .un :: .un :: .un :: .un :: .un :: [])) rfl ?_
 refine aw_seq ?_
 refine aw_region ?_
 refine zst (op_box_elt (cs := [S x.w.key, S x.w.val, TF x.w.gone]) (by rfl) (by rfl)) rfl (by dsimp only [zS, zN, zH, zT]) ?_
 refine zst (op_assign_const (by rfl)) rfl (by dsimp only [zS, zN, zH, zT]) ?_
 refine al_end rfl ?_
 refine then_normal ?_
 refine aw_seq ?_
 refine aw_seq ?_
 refine aw_region ?_
 refine zst (op_move_tmp (by rfl)) rfl (by dsimp only [zS, zN, zH, zT]) ?_
 refine zst (op_ptr_nil Try.underlying193 (by rfl) (by rfl)) rfl (by dsimp only [zS, zN, zH, zT]) ?_
 refine al_end rfl ?_
 refine then_normal ?_
 refine aw_cond rfl (fun h => by cases h) (fun _ => ?_)
 refine aw_skip ?_
 refine then_normal ?_
 refine aw_seq ?_
 refine aw_region ?_
 refine zst (op_move_tmp (by rfl)) rfl (by dsimp only [zS, zN, zH, zT]) ?_
 refine zst (op_move_tmp (by rfl)) rfl (by dsimp only [zS, zN, zH, zT]) ?_
 refine zst (op_callF Try.func100 (by rfl) (by rfl) (.tmp (by rfl) (.tmp (by rfl) .nil)) (by have h := find2_ok Hs tid sid lv sz ls vs x.key l hl hr hrl (by omega) hT hL; rw [hno] at h; exact h)) rfl (by dsimp only [zS, zN, zH, zT]) ?_
 refine zst (op_move_tmp (by rfl)) rfl (by dsimp only [zS, zN, zH, zT]) ?_
 refine zst (op_extract (by rfl) (by rfl)) rfl (by dsimp only [zS, zN, zH, zT]) ?_
 refine zst (op_extract (by rfl) (by rfl)) rfl (by dsimp only [zS, zN, zH, zT]) ?_
 refine zst (op_extract (by rfl) (by rfl)) rfl (by dsimp only [zS, zN, zH, zT]) ?_
 refine zst (op_assign_tmp (by rfl)) rfl (by dsimp only [zS, zN, zH, zT]) ?_
 refine zst (op_assign_tmp (by rfl)) rfl (by dsimp only [zS, zN, zH, zT]) ?_
 refine zst (op_assign_tmp (by rfl)) rfl (by dsimp only [zS, zN, zH, zT]) ?_
 refine al_end rfl ?_
 refine then_normal ?_
 refine aw_seq ?_
 refine aw_seq ?_
 refine aw_region ?_
 refine zst (op_move_tmp (by rfl)) rfl (by dsimp only [zS, zN, zH, zT]) ?_
 refine al_end rfl ?_
 refine then_normal ?_
 refine aw_cond rfl (fun h => by cases h) (fun _ => ?_)
 refine aw_skip ?_
 refine then_normal ?_
 refine aw_seq ?_
 refine aw_region ?_
 refine zst (op_move_tmp (by rfl)) rfl (by dsimp only [zS, zN, zH, zT]) ?_
 refine zst (by first | exact op_nilCheck_ptr (by rfl) | exact op_nilCheck_elt (by rfl)) rfl (by dsimp only [zS, zN, zH, zT]) ?_
 refine zst (by first | exact op_fieldAddr_ptr Try.underlying143 rfl Sz3 (by rfl) (by rfl) | exact op_fieldAddr_elt Try.underlying143 rfl Sz3 (by rfl) (by rfl) (by rfl)) rfl (by dsimp only [zS, zN, zH, zT]) ?_
 refine zst (by first | exact op_load_elt Try.underlying3 (by rfl) (by rfl) (by rfl) | exact op_load_ptr Try.underlying3 (by rfl) (by rfl) (by first | assumption | exact setB_at hT) (by rfl)) rfl (by dsimp only [zS, zN, zH, zT]) ?_
 refine zst (by first | exact op_add (by rfl) (by rfl) (wrap_i64 ⟨by omega, by omega⟩) | exact op_add (by rfl) (by rfl) (by rfl)) rfl (by dsimp only [zS, zN, zH, zT]) ?_
 refine zst (by first | exact op_nilCheck_ptr (by rfl) | exact op_nilCheck_elt (by rfl)) rfl (by dsimp only [zS, zN, zH, zT]) ?_
 refine zst (by first | exact op_fieldAddr_ptr Try.underlying143 rfl Sz3 (by rfl) (by rfl) | exact op_fieldAddr_elt Try.underlying143 rfl Sz3 (by rfl) (by rfl) (by rfl)) rfl (by dsimp only [zS, zN, zH, zT]) ?_
 refine zst (op_storeB (vs := [.d (I (sz + 1))]) (b' := ⟨145, [.ptr sid 0, .d (I 0), .d (I 0), .d (I 0), .d (I 0), lv, .d (I (sz + 1))], false⟩) (H' := _) Sz3 (by rfl) hT (by intro h; cases h) (by rfl) (by rfl) (Nat.le_of_ble_eq_true rfl) (by simp [AV.one, DV.one, TF, S, I, BY]) (by rfl) (by rfl) rfl) rfl (by dsimp only [zS, zN, zH, zT]) ?_
 refine al_end rfl ?_
 refine then_normal ?_
 refine aw_seq ?_
 refine aw_seq ?_
 refine aw_region ?_
 refine zst (op_move_tmp (by rfl)) rfl (by dsimp only [zS, zN, zH, zT]) ?_
 refine zst (by first | exact op_nilCheck_ptr (by rfl) | exact op_nilCheck_elt (by rfl)) rfl (by dsimp only [zS, zN, zH, zT]) ?_
 refine zst (by first | exact op_fieldAddr_ptr Try.underlying143 rfl Sz141 (by rfl) (by rfl) | exact op_fieldAddr_elt Try.underlying143 rfl Sz141 (by rfl) (by rfl) (by rfl)) rfl (by dsimp only [zS, zN, zH, zT]) ?_
 refine zst (by first | exact op_load_elt Try.underlying141 (by rfl) (by rfl) (by rfl) | exact op_load_ptr Try.underlying141 (by rfl) (by rfl) (by first | assumption | exact setB_at hT) (by rfl)) rfl (by dsimp only [zS, zN, zH, zT]) ?_
 refine zst (op_lenA Try.underlying141 (by rfl) hL.out) rfl (by dsimp only [zS, zN, zH, zT]) ?_
 refine zst (op_eqI (by rfl) (by rfl)) rfl (by dsimp only [zS, zN, zH, zT]) ?_
 refine al_end rfl ?_
 refine then_normal ?_
 refine aw_cond rfl (fun hc3 => ?_) (fun hc3 => ?_)
 ·
  (try simp only [y1, y2, y3, y4, y5, y6, y7, y8, y9, y0, List.length_map] at hc3)
  have hz : ls.length = 0 := by omega
  obtain rfl : ls = [] := List.eq_nil_of_length_eq_zero hz
  refine aw_seq ?_
  refine aw_region ?_
  refine zst (op_move_tmp (by rfl)) rfl (by dsimp only [zS, zN, zH, zT]) ?_
  refine zst (op_move_tmp (by rfl)) rfl (by dsimp only [zS, zN, zH, zT]) ?_
  refine zst (op_load_elts (ds := wC x.w) Try.underlying51 (by rfl) Sz51 (by rfl) (Nat.le_of_ble_eq_true rfl) (by rfl)) rfl (by dsimp only [zS, zN, zH, zT]) ?_
  refine zst (op_buildD (pl := [(0, 1), (1, 3)]) (itC x) Try.underlying197 Zr197 (by kernel_rfl) (by rfl) (by rfl) (by rfl) (itC_one x)) rfl (by dsimp only [zS, zN, zH, zT]) ?_
  refine zst (op_litI x Try.underlying195 ZS197 (.cons (by rfl) (.nil _))) rfl (by dsimp only [zS, zN, zH, zT]) ?_
  refine zst (op_litC [.arr (Hs.setB tid ⟨145, [.ptr sid 0, .d (I 0), .d (I 0), .d (I 0), .d (I 0), lv, .d (I (sz + 1))], false⟩).nb 1 1] Try.underlying141 ZS195 (by rfl) (by rfl) (by rfl) (by decide)) rfl (by dsimp only [zS, zN, zH, zT]) ?_
  refine zst (by first | exact op_nilCheck_ptr (by rfl) | exact op_nilCheck_elt (by rfl)) rfl (by dsimp only [zS, zN, zH, zT]) ?_
  refine zst (by first | exact op_fieldAddr_ptr Try.underlying143 rfl Sz141 (by rfl) (by rfl) | exact op_fieldAddr_elt Try.underlying143 rfl Sz141 (by rfl) (by rfl) (by rfl)) rfl (by dsimp only [zS, zN, zH, zT]) ?_
  refine zst (op_storeB (vs := [.arr ((Hs.setB tid ⟨145, [.ptr sid 0, .d (I 0), .d (I 0), .d (I 0), .d (I 0), lv, .d (I (sz + 1))], false⟩).push 197 ((itC x).map .d)).nb 1 1]) (b' := ⟨145, [.ptr sid 0, .d (I 0), .d (I 0), .d (I 0), .d (I 0), (.arr ((Hs.setB tid ⟨145, [.ptr sid 0, .d (I 0), .d (I 0), .d (I 0), .d (I 0), lv, .d (I (sz + 1))], false⟩).push 197 ((itC x).map .d)).nb 1 1), .d (I (sz + 1))], false⟩) (H' := _) Sz141 (by rfl) (push_ne (push_ne (setB_at hT))) (by intro h; cases h) (by rfl) (by rfl) (Nat.le_of_ble_eq_true rfl) (by simp [AV.one, DV.one, TF, S, I, BY]) (by rfl) (by rfl) rfl) rfl (by dsimp only [zS, zN, zH, zT]) ?_
  refine al_end rfl ?_
  refine then_normal ?_
  refine aw_seq ?_
  refine aw_region ?_
  refine zst (op_assign_const (by rfl)) rfl (by dsimp only [zS, zN, zH, zT]) ?_
  refine al_end rfl ?_
  refine then_normal ?_
  refine aw_ret ?_
  refine then_ret ?_
  refine retPost1 rfl rfl ?_
  have lt1 := lt_nb hT
  exact ⟨rfl, _, _, setB_at (push_ne (push_ne (setB_at hT))), by unfold insL; rw [if_pos rfl]; exact LvT.first (M := (Hs.setB tid ⟨145, [.ptr sid 0, .d (I 0), .d (I 0), .d (I 0), .d (I 0), lv, .d (I (sz + 1))], false⟩).nb) (by rw [setB_ne (by rw [setB_nb]; omega)]; exact push_ne push_at) (by rw [setB_ne (by rw [push_nb, setB_nb]; omega)]; exact push_at), ((((Was.refl Hs).setT _).push _ _).push _ _).setT _⟩
 ·
  (try simp only [y1, y2, y3, y4, y5, y6, y7, y8, y9, y0, List.length_map] at hc3)
  have hz : ¬ ls.length = 0 := by omega
  have hl : ls[leafI ls x.key]? = some l := by rcases hl with h | h; (rw [h.1] at hz; exact absurd rfl hz); exact h
  have hil : leafI ls x.key < ls.length := (List.getElem?_eq_some_iff.1 hl).1
  have hL1 := hL.setB (b := ⟨145, [.ptr sid 0, .d (I 0), .d (I 0), .d (I 0), .d (I 0), lv, .d (I (sz + 1))], false⟩) hT (fun h => by cases h) (fun h => by cases h)
  obtain ⟨O, cap, cs, M, c, ds, rfl, hbO, hci, hbM, hdl, hlc, hdu, hne, hAr, hlm⟩ := hL1.at_ hl
  have hple := posF_le (keysF l) x.key
  have hkl : (keysF l).length = l.length := List.length_map _
  have hT1 : (Hs.setB tid ⟨145, [.ptr sid 0, .d (I 0), .d (I 0), .d (I 0), .d (I 0), (.arr O ls.length cap), .d (I (sz + 1))], false⟩).blks[tid]? = some ⟨145, [.ptr sid 0, .d (I 0), .d (I 0), .d (I 0), .d (I 0), (.arr O ls.length cap), .d (I (sz + 1))], false⟩ := setB_at hT
  obtain ⟨hvi, hcl, hcap⟩ := hL1.val hbO hil hci
  refine aw_skip ?_
  refine then_normal ?_
  apply aw_cutF (fun T H => ∃ (v2 : AV), T = ((.ptr tid 5) :: (.d (S x.key)) :: .un :: .un :: .un :: .un :: .un :: (.d (I (leafI ls x.key))) :: .un :: .un :: v2 :: .un :: .un :: .un :: .un :: .un :: .un :: .un :: .un :: .un :: .un :: .un :: .un :: .un :: .un :: .un :: .un :: .un :: .un :: .un :: .un :: .un :: .un :: .un :: .un :: .un :: .un :: .un :: .un :: .un :: .un :: .un :: .un :: .un :: .un :: .un :: .un :: .un :: .un :: .un :: .un :: .un :: .un :: .un :: .un :: .un :: .un :: .un :: .un :: .un :: .un :: .un :: .un :: .un :: .un :: .un :: .un :: .un :: .un :: .un :: .un :: .un :: .un :: .un :: .un :: .un :: .un :: .un :: .un :: .un :: .un :: .un :: .un :: .un :: .un :: .un :: .un :: .un :: .un :: .un :: .un :: .un :: .un :: .un :: .un :: .un :: .un :: .un :: .un :: .un :: .un :: .un :: []) ∧ InsI ((Hs.setB tid ⟨145, [.ptr sid 0, .d (I 0), .d (I 0), .d (I 0), .d (I 0), (.arr O ls.length cap), .d (I (sz + 1))], false⟩).push 197 ((itC x).map .d)) 197 (.arr M l.length c) (insI l x) v2 H)
  ·
   refine aw_explore 14 #[false, false, false, false, false, false, false, false, false, false, false, false, false, false] mixed rfl (by rfl) ?_
   refine de_pure 0 #[true, false, false, false, false, false, false, false, false, false, false, false, false, false] rfl (by kernel_rfl) (by kernel_rfl) (by kernel_rfl) rfl rfl (by intro ch T H h; simp [Then, RetPost, InBlock, Again, CutP] at h) (opY_move (by rfl)) (by dsimp only [zS, zN, zH, zT]) ?_
   refine de_pure 1 #[true, true, false, false, false, false, false, false, false, false, false, false, false, false] rfl (by kernel_rfl) (by kernel_rfl) (by kernel_rfl) rfl rfl (by intro ch T H h; simp [Then, RetPost, InBlock, Again, CutP] at h) (opY_nilCheck (by rfl)) (by dsimp only [zS, zN, zH, zT]) ?_
   refine de_pure 2 #[true, true, true, false, false, false, false, false, false, false, false, false, false, false] rfl (by kernel_rfl) (by kernel_rfl) (by kernel_rfl) rfl rfl (by intro ch T H h; simp [Then, RetPost, InBlock, Again, CutP] at h) (opY_fieldAddr Try.underlying143 rfl Sz141 (by rfl) (by rfl)) (by dsimp only [zS, zN, zH, zT]) ?_
   refine de_pure 4 #[true, true, true, false, true, false, false, false, false, false, false, false, false, false] rfl (by kernel_rfl) (by kernel_rfl) (by kernel_rfl) rfl rfl (by intro ch T H h; simp [Then, RetPost, InBlock, Again, CutP] at h) (opY_move (by rfl)) (by dsimp only [zS, zN, zH, zT]) ?_
   refine de_pure 7 #[true, true, true, false, true, false, false, true, false, false, false, false, false, false] rfl (by kernel_rfl) (by kernel_rfl) (by kernel_rfl) rfl rfl (by intro ch T H h; simp [Then, RetPost, InBlock, Again, CutP] at h) (opY_move (by rfl)) (by dsimp only [zS, zN, zH, zT]) ?_
   refine de_pure 8 #[true, true, true, false, true, false, false, true, true, false, false, false, false, false] rfl (by kernel_rfl) (by kernel_rfl) (by kernel_rfl) rfl rfl (by intro ch T H h; simp [Then, RetPost, InBlock, Again, CutP] at h) (opY_move (by rfl)) (by dsimp only [zS, zN, zH, zT]) ?_
   refine de_two 3 9 (by kernel_rfl) ?_ ?_
   ·
    refine deop_step #[true, true, true, true, true, false, false, true, true, false, false, false, false, false] rfl rfl rfl (op_load_ptr Try.underlying141 (by rfl) (by rfl) (by first | exact hT1 | exact push_ne hT1) (by rfl)) (by dsimp only [zS, zN, zH, zT]) ?_
    refine de_pure 5 #[true, true, true, true, true, true, false, true, true, false, false, false, false, false] rfl (by kernel_rfl) (by kernel_rfl) (by kernel_rfl) rfl rfl (by intro ch T H h; simp [Then, RetPost, InBlock, Again, CutP] at h) (opY_indexArr (off := leafI ls x.key) Try.underlying141 Sz195 (by rfl) (by rfl) (by omega) (by omega) (by omega)) (by dsimp only [zS, zN, zH, zT]) ?_
    refine de_two 6 9 (by kernel_rfl) ?_ ?_
    ·
     refine deop_step #[true, true, true, true, true, true, true, true, true, false, false, false, false, false] rfl rfl rfl (op_load_ptr Try.underlying195 (by rfl) (by rfl) (by first | exact hbO | exact push_ne hbO) hci) (by dsimp only [zS, zN, zH, zT]) ?_
     refine de_step 9 #[true, true, true, true, true, true, true, true, true, true, false, false, false, false] (by kernel_rfl) rfl rfl rfl (op_load_elts (ds := wC x.w) Try.underlying51 (by rfl) Sz51 (by rfl) (Nat.le_of_ble_eq_true rfl) (by rfl)) (by dsimp only [zS, zN, zH, zT]) ?_
     refine de_step 10 #[true, true, true, true, true, true, true, true, true, true, true, false, false, false] (by kernel_rfl) rfl rfl rfl (op_buildD (pl := [(0, 1), (1, 3)]) (itC x) Try.underlying197 Zr197 (by kernel_rfl) (by rfl) (by rfl) (by rfl) (itC_one x)) (by dsimp only [zS, zN, zH, zT]) ?_
     refine de_step 11 #[true, true, true, true, true, true, true, true, true, true, true, true, false, false] (by kernel_rfl) rfl rfl rfl (op_litI x Try.underlying195 ZS197 (.cons (by rfl) (.nil _))) (by dsimp only [zS, zN, zH, zT]) ?_
     refine de_one 12 #[true, true, true, true, true, true, true, true, true, true, true, true, true, false] (by kernel_rfl) rfl rfl rfl (op_callF Try.func158 (by rfl) (by rfl) (.tmp (by rfl) (.tmp (by rfl) (.tmp (by rfl) .nil))) (iins_ok _ (.arr M l.length c) l (posF (keysF l) x.key) (Hs.setB tid ⟨145, [.ptr sid 0, .d (I 0), .d (I 0), .d (I 0), .d (I 0), (.arr O ls.length cap), .d (I (sz + 1))], false⟩).nb x (ArrI.pushed hAr) (by omega) (by omega) push_at (fun m c0 h => by have := Arr.idlt hAr h; omega))) ?_
     rintro v2 H2 hI
     apply de_normT
     · (try dsimp only [zS, zN, zH, zT]); try exact rfl
     refine de_pure 13 #[true, true, true, true, true, true, true, true, true, true, true, true, true, true] rfl (by kernel_rfl) (by kernel_rfl) (by kernel_rfl) rfl rfl (by intro ch T H h; simp [Then, RetPost, InBlock, Again, CutP] at h) (opY_assign (by rfl)) (by dsimp only [zS, zN, zH, zT]) ?_
     refine de_end (by kernel_rfl) ?_
     apply cut_to (true :: true :: false :: false :: false :: false :: false :: true :: false :: false :: true :: false :: false :: false :: false :: false :: false :: false :: false :: false :: false :: false :: false :: false :: false :: false :: false :: false :: false :: false :: false :: false :: false :: false :: false :: false :: false :: false :: false :: false :: false :: false :: false :: false :: false :: false :: false :: false :: false :: false :: false :: false :: false :: false :: false :: false :: false :: false :: false :: false :: false :: false :: false :: false :: false :: false :: false :: false :: false :: false :: false :: false :: false :: false :: false :: false :: false :: false :: false :: false :: false :: false :: false :: false :: false :: false :: false :: false :: false :: false :: false :: false :: false :: false :: false :: false :: false :: false :: false :: false :: false :: false :: [])
     · (try dsimp only [maskT]); try exact rfl
     · rfl
     exact ⟨_, rfl, hI⟩
    ·
     refine deop_step #[true, true, true, true, true, true, false, true, true, true, false, false, false, false] rfl rfl rfl (op_load_elts (ds := wC x.w) Try.underlying51 (by rfl) Sz51 (by rfl) (Nat.le_of_ble_eq_true rfl) (by rfl)) (by dsimp only [zS, zN, zH, zT]) ?_
     refine de_two 6 10 (by kernel_rfl) ?_ ?_
     ·
      refine deop_step #[true, true, true, true, true, true, true, true, true, true, false, false, false, false] rfl rfl rfl (op_load_ptr Try.underlying195 (by rfl) (by rfl) (by first | exact hbO | exact push_ne hbO) hci) (by dsimp only [zS, zN, zH, zT]) ?_
      refine de_step 10 #[true, true, true, true, true, true, true, true, true, true, true, false, false, false] (by kernel_rfl) rfl rfl rfl (op_buildD (pl := [(0, 1), (1, 3)]) (itC x) Try.underlying197 Zr197 (by kernel_rfl) (by rfl) (by rfl) (by rfl) (itC_one x)) (by dsimp only [zS, zN, zH, zT]) ?_
      refine de_step 11 #[true, true, true, true, true, true, true, true, true, true, true, true, false, false] (by kernel_rfl) rfl rfl rfl (op_litI x Try.underlying195 ZS197 (.cons (by rfl) (.nil _))) (by dsimp only [zS, zN, zH, zT]) ?_
      refine de_one 12 #[true, true, true, true, true, true, true, true, true, true, true, true, true, false] (by kernel_rfl) rfl rfl rfl (op_callF Try.func158 (by rfl) (by rfl) (.tmp (by rfl) (.tmp (by rfl) (.tmp (by rfl) .nil))) (iins_ok _ (.arr M l.length c) l (posF (keysF l) x.key) (Hs.setB tid ⟨145, [.ptr sid 0, .d (I 0), .d (I 0), .d (I 0), .d (I 0), (.arr O ls.length cap), .d (I (sz + 1))], false⟩).nb x (ArrI.pushed hAr) (by omega) (by omega) push_at (fun m c0 h => by have := Arr.idlt hAr h; omega))) ?_
      rintro v2 H2 hI
      apply de_normT
      · (try dsimp only [zS, zN, zH, zT]); try exact rfl
      refine de_pure 13 #[true, true, true, true, true, true, true, true, true, true, true, true, true, true] rfl (by kernel_rfl) (by kernel_rfl) (by kernel_rfl) rfl rfl (by intro ch T H h; simp [Then, RetPost, InBlock, Again, CutP] at h) (opY_assign (by rfl)) (by dsimp only [zS, zN, zH, zT]) ?_
      refine de_end (by kernel_rfl) ?_
      apply cut_to (true :: true :: false :: false :: false :: false :: false :: true :: false :: false :: true :: false :: false :: false :: false :: false :: false :: false :: false :: false :: false :: false :: false :: false :: false :: false :: false :: false :: false :: false :: false :: false :: false :: false :: false :: false :: false :: false :: false :: false :: false :: false :: false :: false :: false :: false :: false :: false :: false :: false :: false :: false :: false :: false :: false :: false :: false :: false :: false :: false :: false :: false :: false :: false :: false :: false :: false :: false :: false :: false :: false :: false :: false :: false :: false :: false :: false :: false :: false :: false :: false :: false :: false :: false :: false :: false :: false :: false :: false :: false :: false :: false :: false :: false :: false :: false :: false :: false :: false :: false :: false :: false :: [])
      · (try dsimp only [maskT]); try exact rfl
      · rfl
      exact ⟨_, rfl, hI⟩
     ·
      refine deop_step #[true, true, true, true, true, true, false, true, true, true, true, false, false, false] rfl rfl rfl (op_buildD (pl := [(0, 1), (1, 3)]) (itC x) Try.underlying197 Zr197 (by kernel_rfl) (by rfl) (by rfl) (by rfl) (itC_one x)) (by dsimp only [zS, zN, zH, zT]) ?_
      refine de_two 6 11 (by kernel_rfl) ?_ ?_
      ·
       refine deop_step #[true, true, true, true, true, true, true, true, true, true, true, false, false, false] rfl rfl rfl (op_load_ptr Try.underlying195 (by rfl) (by rfl) (by first | exact hbO | exact push_ne hbO) hci) (by dsimp only [zS, zN, zH, zT]) ?_
       refine de_step 11 #[true, true, true, true, true, true, true, true, true, true, true, true, false, false] (by kernel_rfl) rfl rfl rfl (op_litI x Try.underlying195 ZS197 (.cons (by rfl) (.nil _))) (by dsimp only [zS, zN, zH, zT]) ?_
       refine de_one 12 #[true, true, true, true, true, true, true, true, true, true, true, true, true, false] (by kernel_rfl) rfl rfl rfl (op_callF Try.func158 (by rfl) (by rfl) (.tmp (by rfl) (.tmp (by rfl) (.tmp (by rfl) .nil))) (iins_ok _ (.arr M l.length c) l (posF (keysF l) x.key) (Hs.setB tid ⟨145, [.ptr sid 0, .d (I 0), .d (I 0), .d (I 0), .d (I 0), (.arr O ls.length cap), .d (I (sz + 1))], false⟩).nb x (ArrI.pushed hAr) (by omega) (by omega) push_at (fun m c0 h => by have := Arr.idlt hAr h; omega))) ?_
       rintro v2 H2 hI
       apply de_normT
       · (try dsimp only [zS, zN, zH, zT]); try exact rfl
       refine de_pure 13 #[true, true, true, true, true, true, true, true, true, true, true, true, true, true] rfl (by kernel_rfl) (by kernel_rfl) (by kernel_rfl) rfl rfl (by intro ch T H h; simp [Then, RetPost, InBlock, Again, CutP] at h) (opY_assign (by rfl)) (by dsimp only [zS, zN, zH, zT]) ?_
       refine de_end (by kernel_rfl) ?_
       apply cut_to (true :: true :: false :: false :: false :: false :: false :: true :: false :: false :: true :: false :: false :: false :: false :: false :: false :: false :: false :: false :: false :: false :: false :: false :: false :: false :: false :: false :: false :: false :: false :: false :: false :: false :: false :: false :: false :: false :: false :: false :: false :: false :: false :: false :: false :: false :: false :: false :: false :: false :: false :: false :: false :: false :: false :: false :: false :: false :: false :: false :: false :: false :: false :: false :: false :: false :: false :: false :: false :: false :: false :: false :: false :: false :: false :: false :: false :: false :: false :: false :: false :: false :: false :: false :: false :: false :: false :: false :: false :: false :: false :: false :: false :: false :: false :: false :: false :: false :: false :: false :: false :: false :: [])
       · (try dsimp only [maskT]); try exact rfl
       · rfl
       exact ⟨_, rfl, hI⟩
      ·
       refine deop_step #[true, true, true, true, true, true, false, true, true, true, true, true, false, false] rfl rfl rfl (op_litI x Try.underlying195 ZS197 (.cons (by rfl) (.nil _))) (by dsimp only [zS, zN, zH, zT]) ?_
       refine de_step 6 #[true, true, true, true, true, true, true, true, true, true, true, true, false, false] (by kernel_rfl) rfl rfl rfl (op_load_ptr Try.underlying195 (by rfl) (by rfl) (by first | exact hbO | exact push_ne hbO) hci) (by dsimp only [zS, zN, zH, zT]) ?_
       refine de_one 12 #[true, true, true, true, true, true, true, true, true, true, true, true, true, false] (by kernel_rfl) rfl rfl rfl (op_callF Try.func158 (by rfl) (by rfl) (.tmp (by rfl) (.tmp (by rfl) (.tmp (by rfl) .nil))) (iins_ok _ (.arr M l.length c) l (posF (keysF l) x.key) (Hs.setB tid ⟨145, [.ptr sid 0, .d (I 0), .d (I 0), .d (I 0), .d (I 0), (.arr O ls.length cap), .d (I (sz + 1))], false⟩).nb x (ArrI.pushed hAr) (by omega) (by omega) push_at (fun m c0 h => by have := Arr.idlt hAr h; omega))) ?_
       rintro v2 H2 hI
       apply de_normT
       · (try dsimp only [zS, zN, zH, zT]); try exact rfl
       refine de_pure 13 #[true, true, true, true, true, true, true, true, true, true, true, true, true, true] rfl (by kernel_rfl) (by kernel_rfl) (by kernel_rfl) rfl rfl (by intro ch T H h; simp [Then, RetPost, InBlock, Again, CutP] at h) (opY_assign (by rfl)) (by dsimp only [zS, zN, zH, zT]) ?_
       refine de_end (by kernel_rfl) ?_
       apply cut_to (true :: true :: false :: false :: false :: false :: false :: true :: false :: false :: true :: false :: false :: false :: false :: false :: false :: false :: false :: false :: false :: false :: false :: false :: false :: false :: false :: false :: false :: false :: false :: false :: false :: false :: false :: false :: false :: false :: false :: false :: false :: false :: false :: false :: false :: false :: false :: false :: false :: false :: false :: false :: false :: false :: false :: false :: false :: false :: false :: false :: false :: false :: false :: false :: false :: false :: false :: false :: false :: false :: false :: false :: false :: false :: false :: false :: false :: false :: false :: false :: false :: false :: false :: false :: false :: false :: false :: false :: false :: false :: false :: false :: false :: false :: false :: false :: false :: false :: false :: false :: false :: false :: [])
       · (try dsimp only [maskT]); try exact rfl
       · rfl
       exact ⟨_, rfl, hI⟩
   ·
    refine deop_step #[true, true, true, false, true, false, false, true, true, true, false, false, false, false] rfl rfl rfl (op_load_elts (ds := wC x.w) Try.underlying51 (by rfl) Sz51 (by rfl) (Nat.le_of_ble_eq_true rfl) (by rfl)) (by dsimp only [zS, zN, zH, zT]) ?_
    refine de_two 3 10 (by kernel_rfl) ?_ ?_
    ·
     refine deop_step #[true, true, true, true, true, false, false, true, true, true, false, false, false, false] rfl rfl rfl (op_load_ptr Try.underlying141 (by rfl) (by rfl) (by first | exact hT1 | exact push_ne hT1) (by rfl)) (by dsimp only [zS, zN, zH, zT]) ?_
     refine de_pure 5 #[true, true, true, true, true, true, false, true, true, true, false, false, false, false] rfl (by kernel_rfl) (by kernel_rfl) (by kernel_rfl) rfl rfl (by intro ch T H h; simp [Then, RetPost, InBlock, Again, CutP] at h) (opY_indexArr (off := leafI ls x.key) Try.underlying141 Sz195 (by rfl) (by rfl) (by omega) (by omega) (by omega)) (by dsimp only [zS, zN, zH, zT]) ?_
     refine de_two 6 10 (by kernel_rfl) ?_ ?_
     ·
      refine deop_step #[true, true, true, true, true, true, true, true, true, true, false, false, false, false] rfl rfl rfl (op_load_ptr Try.underlying195 (by rfl) (by rfl) (by first | exact hbO | exact push_ne hbO) hci) (by dsimp only [zS, zN, zH, zT]) ?_
      refine de_step 10 #[true, true, true, true, true, true, true, true, true, true, true, false, false, false] (by kernel_rfl) rfl rfl rfl (op_buildD (pl := [(0, 1), (1, 3)]) (itC x) Try.underlying197 Zr197 (by kernel_rfl) (by rfl) (by rfl) (by rfl) (itC_one x)) (by dsimp only [zS, zN, zH, zT]) ?_
      refine de_step 11 #[true, true, true, true, true, true, true, true, true, true, true, true, false, false] (by kernel_rfl) rfl rfl rfl (op_litI x Try.underlying195 ZS197 (.cons (by rfl) (.nil _))) (by dsimp only [zS, zN, zH, zT]) ?_
      refine de_one 12 #[true, true, true, true, true, true, true, true, true, true, true, true, true, false] (by kernel_rfl) rfl rfl rfl (op_callF Try.func158 (by rfl) (by rfl) (.tmp (by rfl) (.tmp (by rfl) (.tmp (by rfl) .nil))) (iins_ok _ (.arr M l.length c) l (posF (keysF l) x.key) (Hs.setB tid ⟨145, [.ptr sid 0, .d (I 0), .d (I 0), .d (I 0), .d (I 0), (.arr O ls.length cap), .d (I (sz + 1))], false⟩).nb x (ArrI.pushed hAr) (by omega) (by omega) push_at (fun m c0 h => by have := Arr.idlt hAr h; omega))) ?_
      rintro v2 H2 hI
      apply de_normT
      · (try dsimp only [zS, zN, zH, zT]); try exact rfl
      refine de_pure 13 #[true, true, true, true, true, true, true, true, true, true, true, true, true, true] rfl (by kernel_rfl) (by kernel_rfl) (by kernel_rfl) rfl rfl (by intro ch T H h; simp [Then, RetPost, InBlock, Again, CutP] at h) (opY_assign (by rfl)) (by dsimp only [zS, zN, zH, zT]) ?_
      refine de_end (by kernel_rfl) ?_
      apply cut_to (true :: true :: false :: false :: false :: false :: false :: true :: false :: false :: true :: false :: false :: false :: false :: false :: false :: false :: false :: false :: false :: false :: false :: false :: false :: false :: false :: false :: false :: false :: false :: false :: false :: false :: false :: false :: false :: false :: false :: false :: false :: false :: false :: false :: false :: false :: false :: false :: false :: false :: false :: false :: false :: false :: false :: false :: false :: false :: false :: false :: false :: false :: false :: false :: false :: false :: false :: false :: false :: false :: false :: false :: false :: false :: false :: false :: false :: false :: false :: false :: false :: false :: false :: false :: false :: false :: false :: false :: false :: false :: false :: false :: false :: false :: false :: false :: false :: false :: false :: false :: false :: false :: [])
      · (try dsimp only [maskT]); try exact rfl
      · rfl
      exact ⟨_, rfl, hI⟩
     ·
      refine deop_step #[true, true, true, true, true, true, false, true, true, true, true, false, false, false] rfl rfl rfl (op_buildD (pl := [(0, 1), (1, 3)]) (itC x) Try.underlying197 Zr197 (by kernel_rfl) (by rfl) (by rfl) (by rfl) (itC_one x)) (by dsimp only [zS, zN, zH, zT]) ?_
      refine de_two 6 11 (by kernel_rfl) ?_ ?_
      ·
       refine deop_step #[true, true, true, true, true, true, true, true, true, true, true, false, false, false] rfl rfl rfl (op_load_ptr Try.underlying195 (by rfl) (by rfl) (by first | exact hbO | exact push_ne hbO) hci) (by dsimp only [zS, zN, zH, zT]) ?_
       refine de_step 11 #[true, true, true, true, true, true, true, true, true, true, true, true, false, false] (by kernel_rfl) rfl rfl rfl (op_litI x Try.underlying195 ZS197 (.cons (by rfl) (.nil _))) (by dsimp only [zS, zN, zH, zT]) ?_
       refine de_one 12 #[true, true, true, true, true, true, true, true, true, true, true, true, true, false] (by kernel_rfl) rfl rfl rfl (op_callF Try.func158 (by rfl) (by rfl) (.tmp (by rfl) (.tmp (by rfl) (.tmp (by rfl) .nil))) (iins_ok _ (.arr M l.length c) l (posF (keysF l) x.key) (Hs.setB tid ⟨145, [.ptr sid 0, .d (I 0), .d (I 0), .d (I 0), .d (I 0), (.arr O ls.length cap), .d (I (sz + 1))], false⟩).nb x (ArrI.pushed hAr) (by omega) (by omega) push_at (fun m c0 h => by have := Arr.idlt hAr h; omega))) ?_
       rintro v2 H2 hI
       apply de_normT
       · (try dsimp only [zS, zN, zH, zT]); try exact rfl
       refine de_pure 13 #[true, true, true, true, true, true, true, true, true, true, true, true, true, true] rfl (by kernel_rfl) (by kernel_rfl) (by kernel_rfl) rfl rfl (by intro ch T H h; simp [Then, RetPost, InBlock, Again, CutP] at h) (opY_assign (by rfl)) (by dsimp only [zS, zN, zH, zT]) ?_
       refine de_end (by kernel_rfl) ?_
       apply cut_to (true :: true :: false :: false :: false :: false :: false :: true :: false :: false :: true :: false :: false :: false :: false :: false :: false :: false :: false :: false :: false :: false :: false :: false :: false :: false :: false :: false :: false :: false :: false :: false :: false :: false :: false :: false :: false :: false :: false :: false :: false :: false :: false :: false :: false :: false :: false :: false :: false :: false :: false :: false :: false :: false :: false :: false :: false :: false :: false :: false :: false :: false :: false :: false :: false :: false :: false :: false :: false :: false :: false :: false :: false :: false :: false :: false :: false :: false :: false :: false :: false :: false :: false :: false :: false :: false :: false :: false :: false :: false :: false :: false :: false :: false :: false :: false :: false :: false :: false :: false :: false :: false :: [])
       · (try dsimp only [maskT]); try exact rfl
       · rfl
       exact ⟨_, rfl, hI⟩
      ·
       refine deop_step #[true, true, true, true, true, true, false, true, true, true, true, true, false, false] rfl rfl rfl (op_litI x Try.underlying195 ZS197 (.cons (by rfl) (.nil _))) (by dsimp only [zS, zN, zH, zT]) ?_
       refine de_step 6 #[true, true, true, true, true, true, true, true, true, true, true, true, false, false] (by kernel_rfl) rfl rfl rfl (op_load_ptr Try.underlying195 (by rfl) (by rfl) (by first | exact hbO | exact push_ne hbO) hci) (by dsimp only [zS, zN, zH, zT]) ?_
       refine de_one 12 #[true, true, true, true, true, true, true, true, true, true, true, true, true, false] (by kernel_rfl) rfl rfl rfl (op_callF Try.func158 (by rfl) (by rfl) (.tmp (by rfl) (.tmp (by rfl) (.tmp (by rfl) .nil))) (iins_ok _ (.arr M l.length c) l (posF (keysF l) x.key) (Hs.setB tid ⟨145, [.ptr sid 0, .d (I 0), .d (I 0), .d (I 0), .d (I 0), (.arr O ls.length cap), .d (I (sz + 1))], false⟩).nb x (ArrI.pushed hAr) (by omega) (by omega) push_at (fun m c0 h => by have := Arr.idlt hAr h; omega))) ?_
       rintro v2 H2 hI
       apply de_normT
       · (try dsimp only [zS, zN, zH, zT]); try exact rfl
       refine de_pure 13 #[true, true, true, true, true, true, true, true, true, true, true, true, true, true] rfl (by kernel_rfl) (by kernel_rfl) (by kernel_rfl) rfl rfl (by intro ch T H h; simp [Then, RetPost, InBlock, Again, CutP] at h) (opY_assign (by rfl)) (by dsimp only [zS, zN, zH, zT]) ?_
       refine de_end (by kernel_rfl) ?_
       apply cut_to (true :: true :: false :: false :: false :: false :: false :: true :: false :: false :: true :: false :: false :: false :: false :: false :: false :: false :: false :: false :: false :: false :: false :: false :: false :: false :: false :: false :: false :: false :: false :: false :: false :: false :: false :: false :: false :: false :: false :: false :: false :: false :: false :: false :: false :: false :: false :: false :: false :: false :: false :: false :: false :: false :: false :: false :: false :: false :: false :: false :: false :: false :: false :: false :: false :: false :: false :: false :: false :: false :: false :: false :: false :: false :: false :: false :: false :: false :: false :: false :: false :: false :: false :: false :: false :: false :: false :: false :: false :: false :: false :: false :: false :: false :: false :: false :: false :: false :: false :: false :: false :: false :: [])
       · (try dsimp only [maskT]); try exact rfl
       · rfl
       exact ⟨_, rfl, hI⟩
    ·
     refine deop_step #[true, true, true, false, true, false, false, true, true, true, true, false, false, false] rfl rfl rfl (op_buildD (pl := [(0, 1), (1, 3)]) (itC x) Try.underlying197 Zr197 (by kernel_rfl) (by rfl) (by rfl) (by rfl) (itC_one x)) (by dsimp only [zS, zN, zH, zT]) ?_
     refine de_two 3 11 (by kernel_rfl) ?_ ?_
     ·
      refine deop_step #[true, true, true, true, true, false, false, true, true, true, true, false, false, false] rfl rfl rfl (op_load_ptr Try.underlying141 (by rfl) (by rfl) (by first | exact hT1 | exact push_ne hT1) (by rfl)) (by dsimp only [zS, zN, zH, zT]) ?_
      refine de_pure 5 #[true, true, true, true, true, true, false, true, true, true, true, false, false, false] rfl (by kernel_rfl) (by kernel_rfl) (by kernel_rfl) rfl rfl (by intro ch T H h; simp [Then, RetPost, InBlock, Again, CutP] at h) (opY_indexArr (off := leafI ls x.key) Try.underlying141 Sz195 (by rfl) (by rfl) (by omega) (by omega) (by omega)) (by dsimp only [zS, zN, zH, zT]) ?_
      refine de_two 6 11 (by kernel_rfl) ?_ ?_
      ·
       refine deop_step #[true, true, true, true, true, true, true, true, true, true, true, false, false, false] rfl rfl rfl (op_load_ptr Try.underlying195 (by rfl) (by rfl) (by first | exact hbO | exact push_ne hbO) hci) (by dsimp only [zS, zN, zH, zT]) ?_
       refine de_step 11 #[true, true, true, true, true, true, true, true, true, true, true, true, false, false] (by kernel_rfl) rfl rfl rfl (op_litI x Try.underlying195 ZS197 (.cons (by rfl) (.nil _))) (by dsimp only [zS, zN, zH, zT]) ?_
       refine de_one 12 #[true, true, true, true, true, true, true, true, true, true, true, true, true, false] (by kernel_rfl) rfl rfl rfl (op_callF Try.func158 (by rfl) (by rfl) (.tmp (by rfl) (.tmp (by rfl) (.tmp (by rfl) .nil))) (iins_ok _ (.arr M l.length c) l (posF (keysF l) x.key) (Hs.setB tid ⟨145, [.ptr sid 0, .d (I 0), .d (I 0), .d (I 0), .d (I 0), (.arr O ls.length cap), .d (I (sz + 1))], false⟩).nb x (ArrI.pushed hAr) (by omega) (by omega) push_at (fun m c0 h => by have := Arr.idlt hAr h; omega))) ?_
       rintro v2 H2 hI
       apply de_normT
       · (try dsimp only [zS, zN, zH, zT]); try exact rfl
       refine de_pure 13 #[true, true, true, true, true, true, true, true, true, true, true, true, true, true] rfl (by kernel_rfl) (by kernel_rfl) (by kernel_rfl) rfl rfl (by intro ch T H h; simp [Then, RetPost, InBlock, Again, CutP] at h) (opY_assign (by rfl)) (by dsimp only [zS, zN, zH, zT]) ?_
       refine de_end (by kernel_rfl) ?_
       apply cut_to (true :: true :: false :: false :: false :: false :: false :: true :: false :: false :: true :: false :: false :: false :: false :: false :: false :: false :: false :: false :: false :: false :: false :: false :: false :: false :: false :: false :: false :: false :: false :: false :: false :: false :: false :: false :: false :: false :: false :: false :: false :: false :: false :: false :: false :: false :: false :: false :: false :: false :: false :: false :: false :: false :: false :: false :: false :: false :: false :: false :: false :: false :: false :: false :: false :: false :: false :: false :: false :: false :: false :: false :: false :: false :: false :: false :: false :: false :: false :: false :: false :: false :: false :: false :: false :: false :: false :: false :: false :: false :: false :: false :: false :: false :: false :: false :: false :: false :: false :: false :: false :: false :: [])
       · (try dsimp only [maskT]); try exact rfl
       · rfl
       exact ⟨_, rfl, hI⟩
      ·
       refine deop_step #[true, true, true, true, true, true, false, true, true, true, true, true, false, false] rfl rfl rfl (op_litI x Try.underlying195 ZS197 (.cons (by rfl) (.nil _))) (by dsimp only [zS, zN, zH, zT]) ?_
       refine de_step 6 #[true, true, true, true, true, true, true, true, true, true, true, true, false, false] (by kernel_rfl) rfl rfl rfl (op_load_ptr Try.underlying195 (by rfl) (by rfl) (by first | exact hbO | exact push_ne hbO) hci) (by dsimp only [zS, zN, zH, zT]) ?_
       refine de_one 12 #[true, true, true, true, true, true, true, true, true, true, true, true, true, false] (by kernel_rfl) rfl rfl rfl (op_callF Try.func158 (by rfl) (by rfl) (.tmp (by rfl) (.tmp (by rfl) (.tmp (by rfl) .nil))) (iins_ok _ (.arr M l.length c) l (posF (keysF l) x.key) (Hs.setB tid ⟨145, [.ptr sid 0, .d (I 0), .d (I 0), .d (I 0), .d (I 0), (.arr O ls.length cap), .d (I (sz + 1))], false⟩).nb x (ArrI.pushed hAr) (by omega) (by omega) push_at (fun m c0 h => by have := Arr.idlt hAr h; omega))) ?_
       rintro v2 H2 hI
       apply de_normT
       · (try dsimp only [zS, zN, zH, zT]); try exact rfl
       refine de_pure 13 #[true, true, true, true, true, true, true, true, true, true, true, true, true, true] rfl (by kernel_rfl) (by kernel_rfl) (by kernel_rfl) rfl rfl (by intro ch T H h; simp [Then, RetPost, InBlock, Again, CutP] at h) (opY_assign (by rfl)) (by dsimp only [zS, zN, zH, zT]) ?_
       refine de_end (by kernel_rfl) ?_
       apply cut_to (true :: true :: false :: false :: false :: false :: false :: true :: false :: false :: true :: false :: false :: false :: false :: false :: false :: false :: false :: false :: false :: false :: false :: false :: false :: false :: false :: false :: false :: false :: false :: false :: false :: false :: false :: false :: false :: false :: false :: false :: false :: false :: false :: false :: false :: false :: false :: false :: false :: false :: false :: false :: false :: false :: false :: false :: false :: false :: false :: false :: false :: false :: false :: false :: false :: false :: false :: false :: false :: false :: false :: false :: false :: false :: false :: false :: false :: false :: false :: false :: false :: false :: false :: false :: false :: false :: false :: false :: false :: false :: false :: false :: false :: false :: false :: false :: false :: false :: false :: false :: false :: false :: [])
       · (try dsimp only [maskT]); try exact rfl
       · rfl
       exact ⟨_, rfl, hI⟩
     ·
      refine deop_step #[true, true, true, false, true, false, false, true, true, true, true, true, false, false] rfl rfl rfl (op_litI x Try.underlying195 ZS197 (.cons (by rfl) (.nil _))) (by dsimp only [zS, zN, zH, zT]) ?_
      refine de_step 3 #[true, true, true, true, true, false, false, true, true, true, true, true, false, false] (by kernel_rfl) rfl rfl rfl (op_load_ptr Try.underlying141 (by rfl) (by rfl) (by first | exact hT1 | exact push_ne hT1) (by rfl)) (by dsimp only [zS, zN, zH, zT]) ?_
      refine de_pure 5 #[true, true, true, true, true, true, false, true, true, true, true, true, false, false] rfl (by kernel_rfl) (by kernel_rfl) (by kernel_rfl) rfl rfl (by intro ch T H h; simp [Then, RetPost, InBlock, Again, CutP] at h) (opY_indexArr (off := leafI ls x.key) Try.underlying141 Sz195 (by rfl) (by rfl) (by omega) (by omega) (by omega)) (by dsimp only [zS, zN, zH, zT]) ?_
      refine de_step 6 #[true, true, true, true, true, true, true, true, true, true, true, true, false, false] (by kernel_rfl) rfl rfl rfl (op_load_ptr Try.underlying195 (by rfl) (by rfl) (by first | exact hbO | exact push_ne hbO) hci) (by dsimp only [zS, zN, zH, zT]) ?_
      refine de_one 12 #[true, true, true, true, true, true, true, true, true, true, true, true, true, false] (by kernel_rfl) rfl rfl rfl (op_callF Try.func158 (by rfl) (by rfl) (.tmp (by rfl) (.tmp (by rfl) (.tmp (by rfl) .nil))) (iins_ok _ (.arr M l.length c) l (posF (keysF l) x.key) (Hs.setB tid ⟨145, [.ptr sid 0, .d (I 0), .d (I 0), .d (I 0), .d (I 0), (.arr O ls.length cap), .d (I (sz + 1))], false⟩).nb x (ArrI.pushed hAr) (by omega) (by omega) push_at (fun m c0 h => by have := Arr.idlt hAr h; omega))) ?_
      rintro v2 H2 hI
      apply de_normT
      · (try dsimp only [zS, zN, zH, zT]); try exact rfl
      refine de_pure 13 #[true, true, true, true, true, true, true, true, true, true, true, true, true, true] rfl (by kernel_rfl) (by kernel_rfl) (by kernel_rfl) rfl rfl (by intro ch T H h; simp [Then, RetPost, InBlock, Again, CutP] at h) (opY_assign (by rfl)) (by dsimp only [zS, zN, zH, zT]) ?_
      refine de_end (by kernel_rfl) ?_
      apply cut_to (true :: true :: false :: false :: false :: false :: false :: true :: false :: false :: true :: false :: false :: false :: false :: false :: false :: false :: false :: false :: false :: false :: false :: false :: false :: false :: false :: false :: false :: false :: false :: false :: false :: false :: false :: false :: false :: false :: false :: false :: false :: false :: false :: false :: false :: false :: false :: false :: false :: false :: false :: false :: false :: false :: false :: false :: false :: false :: false :: false :: false :: false :: false :: false :: false :: false :: false :: false :: false :: false :: false :: false :: false :: false :: false :: false :: false :: false :: false :: false :: false :: false :: false :: false :: false :: false :: false :: false :: false :: false :: false :: false :: false :: false :: false :: false :: false :: false :: false :: false :: false :: false :: [])
      · (try dsimp only [maskT]); try exact rfl
      · rfl
      exact ⟨_, rfl, hI⟩
  rintro T H ⟨v2, rfl, hI⟩
  have hlI := insI_length l x
  have hA0 := hI.arr
  obtain ⟨id2, c2, cs2, e2, hb2, hc2, hcap2, hu2⟩ := Arr.pos hA0 (by omega)
  rw [hlI] at e2
  subst e2
  have neT : ∀ n c0, AV.arr M l.length c ≠ .arr tid n c0 := fun n c0 h => by cases h; rw [hT1] at hbM; cases hbM
  have neO : ∀ n c0, AV.arr M l.length c ≠ .arr O n c0 := fun n c0 h => by cases h; rw [hbO] at hbM; cases hbM
  have hT2 : H.blks[tid]? = some ⟨145, [.ptr sid 0, .d (I 0), .d (I 0), .d (I 0), .d (I 0), (.arr O ls.length cap), .d (I (sz + 1))], false⟩ := by rw [hI.kept.blks tid (by have := lt_nb hT1; rw [push_nb]; omega) neT]; exact push_ne hT1
  have hO2 : H.blks[O]? = some ⟨195, cs, false⟩ := by rw [hI.kept.blks O (by have := lt_nb hbO; rw [push_nb]; omega) neO]; exact push_ne hbO
  have hOT : O ≠ tid := fun e => by subst e; rw [hT1] at hbO; cases hbO
  have hid2O : id2 ≠ O := fun e => by subst e; rw [hO2] at hb2; cases hb2
  have hid2T : id2 ≠ tid := fun e => by subst e; rw [hT2] at hb2; cases hb2
  have hw2 : Was 195 197 tid Hs H := (((Was.refl Hs).setT _).push _ _).kept hI.kept (fun id n c0 h => by cases h; exact ⟨_, push_ne hbM, .inr rfl⟩)
  refine aw_seq ?_
  refine aw_region ?_
  refine zst (op_move_tmp (by rfl)) rfl (by dsimp only [zS, zN, zH, zT]) ?_
  refine zst (by first | exact op_nilCheck_ptr (by rfl) | exact op_nilCheck_elt (by rfl)) rfl (by dsimp only [zS, zN, zH, zT]) ?_
  refine zst (by first | exact op_fieldAddr_ptr Try.underlying143 rfl Sz141 (by rfl) (by rfl) | exact op_fieldAddr_elt Try.underlying143 rfl Sz141 (by rfl) (by rfl) (by rfl)) rfl (by dsimp only [zS, zN, zH, zT]) ?_
  refine zst (op_load_ptr Try.underlying141 (by rfl) (by rfl) hT2 (by rfl)) rfl (by dsimp only [zS, zN, zH, zT]) ?_
  refine zst (op_move_tmp (by rfl)) rfl (by dsimp only [zS, zN, zH, zT]) ?_
  refine zst (op_move_tmp (by rfl)) rfl (by dsimp only [zS, zN, zH, zT]) ?_
  refine zst (op_indexArr (off := leafI ls x.key) Try.underlying141 Sz195 (by rfl) (by rfl) (by omega) (by omega) (by omega)) rfl (by dsimp only [zS, zN, zH, zT]) ?_
  refine zst (op_storeB (vs := [(.arr id2 (l.length + 1) c2)]) (b' := ⟨195, cs.set (leafI ls x.key) (.arr id2 (l.length + 1) c2), false⟩) (H' := _) Sz195 (by rfl) hO2 (by intro h; cases h) (by rfl) (by rfl) (by show _ ≤ cs.length; omega) (by simp [AV.one]) (by rfl) (by rfl) rfl) rfl (by dsimp only [zS, zN, zH, zT]) ?_
  refine al_end rfl ?_
  refine then_normal ?_
  refine aw_seq ?_
  refine aw_seq ?_
  refine aw_region ?_
  refine zst (op_move_tmp (by rfl)) rfl (by dsimp only [zS, zN, zH, zT]) ?_
  refine zst (op_lenArr Try.underlying195 (by rfl)) rfl (by dsimp only [zS, zN, zH, zT]) ?_
  refine zst (op_gtI (by rfl) (by rfl)) rfl (by dsimp only [zS, zN, zH, zT]) ?_
  refine al_end rfl ?_
  refine then_normal ?_
  refine aw_cond rfl (fun hc4 => ?_) (fun hc4 => ?_)
  ·
   (try simp only [y1, y2, y3, y4, y5, y6, y7, y8, y9, y0, List.length_map] at hc4)
   have h9 : ¬ (insI l x).length ≤ 8 := by rw [hlI]; omega
   have hl8 : l.length = 8 := by omega
   have hls := hcase hl8
   have hls1 : ls.length = 1 := by rw [hls]; rfl
   have hi0 : leafI ls x.key = 0 := by omega
   refine aw_seq ?_
   refine aw_region ?_
   refine zst (op_move_tmp (by rfl)) rfl (by dsimp only [zS, zN, zH, zT]) ?_
   refine al_cons _ (op_callF Try.func159 (by rfl) (by rfl) (.tmp (by rfl) .nil) (by have h := halves_ok (H.setB O ⟨195, cs.set (leafI ls x.key) (.arr id2 (l.length + 1) c2), false⟩) id2 c2 cs2 (insI l x) (by rw [setB_ne hid2O]; exact hb2) hc2 (by omega) hu2 (by omega) (by omega); rw [hlI] at h; exact h)) rfl ?_
   rintro v8 H4 ⟨ia, na, ca, ib, nb, cb, rfl, hAa, hAb, hx4, hia, hib⟩
   apply al_normT
   · (try dsimp only [putT, List.set_cons_zero, List.set_cons_succ]); try exact rfl
   have hO3 : (H.setB O ⟨195, cs.set (leafI ls x.key) (.arr id2 (l.length + 1) c2), false⟩).blks[O]? = some ⟨195, cs.set (leafI ls x.key) (.arr id2 (l.length + 1) c2), false⟩ := setB_at hO2
   have hO4 := hx4.at hO3
   have hT4 := hx4.at (show (H.setB O ⟨195, cs.set (leafI ls x.key) (.arr id2 (l.length + 1) c2), false⟩).blks[tid]? = some ⟨145, [.ptr sid 0, .d (I 0), .d (I 0), .d (I 0), .d (I 0), (.arr O ls.length cap), .d (I (sz + 1))], false⟩ by rw [setB_ne (fun e => hOT e.symm)]; exact hT2)
   have hia2 : O < ia := by have := lt_nb hO3; omega
   obtain ⟨C5, hC5⟩ : ∃ C5, C5 = (cs.set (leafI ls x.key) (.arr id2 (l.length + 1) c2)).set (leafI ls x.key) (.arr ia na ca) := ⟨_, rfl⟩
   have hT5 : (H4.setB O ⟨195, (cs.set (leafI ls x.key) (.arr id2 (l.length + 1) c2)).set (leafI ls x.key) (.arr ia na ca), false⟩).blks[tid]? = some ⟨145, [.ptr sid 0, .d (I 0), .d (I 0), .d (I 0), .d (I 0), (.arr O ls.length cap), .d (I (sz + 1))], false⟩ := by rw [setB_ne (fun e => hOT e.symm)]; exact hT4
   refine zst (op_move_tmp (by rfl)) rfl (by dsimp only [zS, zN, zH, zT]) ?_
   refine zst (op_extract (by rfl) (by rfl)) rfl (by dsimp only [zS, zN, zH, zT]) ?_
   refine zst (op_extract (by rfl) (by rfl)) rfl (by dsimp only [zS, zN, zH, zT]) ?_
   refine zst (op_assign_tmp (by rfl)) rfl (by dsimp only [zS, zN, zH, zT]) ?_
   refine zst (op_assign_tmp (by rfl)) rfl (by dsimp only [zS, zN, zH, zT]) ?_
   refine al_end rfl ?_
   refine then_normal ?_
   refine aw_seq ?_
   refine aw_region ?_
   refine zst (op_move_tmp (by rfl)) rfl (by dsimp only [zS, zN, zH, zT]) ?_
   refine zst (by first | exact op_nilCheck_ptr (by rfl) | exact op_nilCheck_elt (by rfl)) rfl (by dsimp only [zS, zN, zH, zT]) ?_
   refine zst (by first | exact op_fieldAddr_ptr Try.underlying143 rfl Sz141 (by rfl) (by rfl) | exact op_fieldAddr_elt Try.underlying143 rfl Sz141 (by rfl) (by rfl) (by rfl)) rfl (by dsimp only [zS, zN, zH, zT]) ?_
   refine zst (op_load_ptr Try.underlying141 (by rfl) (by rfl) hT4 (by rfl)) rfl (by dsimp only [zS, zN, zH, zT]) ?_
   refine zst (op_move_tmp (by rfl)) rfl (by dsimp only [zS, zN, zH, zT]) ?_
   refine zst (op_move_tmp (by rfl)) rfl (by dsimp only [zS, zN, zH, zT]) ?_
   refine zst (op_indexArr (off := leafI ls x.key) Try.underlying141 Sz195 (by rfl) (by rfl) (by omega) (by omega) (by omega)) rfl (by dsimp only [zS, zN, zH, zT]) ?_
   refine zst (op_storeB (vs := [.arr ia na ca]) (b' := ⟨195, (cs.set (leafI ls x.key) (.arr id2 (l.length + 1) c2)).set (leafI ls x.key) (.arr ia na ca), false⟩) (H' := _) Sz195 (by rfl) hO4 (by intro h; cases h) (by rfl) (by rfl) (by show _ ≤ (cs.set (leafI ls x.key) _).length; rw [List.length_set]; omega) (by simp [AV.one]) (by rfl) (by rfl) rfl) rfl (by dsimp only [zS, zN, zH, zT]) ?_
   refine al_end rfl ?_
   refine then_normal ?_
   refine aw_region ?_
   refine zst (op_move_tmp (by rfl)) rfl (by dsimp only [zS, zN, zH, zT]) ?_
   refine zst (op_move_tmp (by rfl)) rfl (by dsimp only [zS, zN, zH, zT]) ?_
   refine zst (by first | exact op_nilCheck_ptr (by rfl) | exact op_nilCheck_elt (by rfl)) rfl (by dsimp only [zS, zN, zH, zT]) ?_
   refine zst (by first | exact op_fieldAddr_ptr Try.underlying143 rfl Sz141 (by rfl) (by rfl) | exact op_fieldAddr_elt Try.underlying143 rfl Sz141 (by rfl) (by rfl) (by rfl)) rfl (by dsimp only [zS, zN, zH, zT]) ?_
   refine zst (op_load_ptr Try.underlying141 (by rfl) (by rfl) hT5 (by rfl)) rfl (by dsimp only [zS, zN, zH, zT]) ?_
   refine zst (op_move_tmp (by rfl)) rfl (by dsimp only [zS, zN, zH, zT]) ?_
   refine zst (op_add (by rfl) (by rfl) (show IntKind.i64.wrap ((leafI ls x.key : Int) + 1) = ((ls.length : Nat) : Int) by rw [wrap_i64 ⟨by omega, by omega⟩]; omega)) rfl (by dsimp only [zS, zN, zH, zT]) ?_
   refine zst (op_move_tmp (by rfl)) rfl (by dsimp only [zS, zN, zH, zT]) ?_
   refine zst (op_litC [.arr ib nb cb] Try.underlying141 ZS195 (by rfl) (by rfl) (by rfl) (by decide)) rfl (by dsimp only [zS, zN, zH, zT]) ?_
   have hO6 : ((H4.setB O ⟨195, (cs.set (leafI ls x.key) (.arr id2 (l.length + 1) c2)).set (leafI ls x.key) (.arr ia na ca), false⟩).push 195 [.arr ib nb cb]).blks[O]? = some ⟨195, (cs.set (leafI ls x.key) (.arr id2 (l.length + 1) c2)).set (leafI ls x.key) (.arr ia na ca), false⟩ := push_ne (setB_at hO4)
   refine al_cons _ (op_callF Try.func160 (by rfl) (by rfl) (.tmp (by rfl) (.tmp (by rfl) (.tmp (by rfl) .nil))) (lins_ok _ O ls.length cap _ [.arr ia na ca] (.arr ib nb cb) (.arr O ls.length cap _ _ hO6 (by simp; omega) (by omega) (by rw [hi0, hls1, Nat.mul_one]; exact take1_set (by omega))) rfl (by omega) push_at)) rfl ?_
   rintro v99 H7 ⟨hA7, hK7, O2, m7, c7, rfl, hO27⟩
   apply al_normT
   · (try dsimp only [putT, List.set_cons_zero, List.set_cons_succ]); try exact rfl
   have hT7 : H7.blks[tid]? = some ⟨145, [.ptr sid 0, .d (I 0), .d (I 0), .d (I 0), .d (I 0), (.arr O ls.length cap), .d (I (sz + 1))], false⟩ := by rw [hK7.blks tid (by rw [push_nb]; have := lt_nb hT5; omega) (fun n c0 h => by cases h; exact hOT rfl)]; exact push_ne hT5
   refine zst (by first | exact op_nilCheck_ptr (by rfl) | exact op_nilCheck_elt (by rfl)) rfl (by dsimp only [zS, zN, zH, zT]) ?_
   refine zst (by first | exact op_fieldAddr_ptr Try.underlying143 rfl Sz141 (by rfl) (by rfl) | exact op_fieldAddr_elt Try.underlying143 rfl Sz141 (by rfl) (by rfl) (by rfl)) rfl (by dsimp only [zS, zN, zH, zT]) ?_
   refine zst (op_storeB (vs := [.arr O2 m7 c7]) (b' := ⟨145, [.ptr sid 0, .d (I 0), .d (I 0), .d (I 0), .d (I 0), (.arr O2 m7 c7), .d (I (sz + 1))], false⟩) (H' := _) Sz141 (by rfl) hT7 (by intro h; cases h) (by rfl) (by rfl) (Nat.le_of_ble_eq_true rfl) (by simp [AV.one]) (by rfl) (by rfl) rfl) rfl (by dsimp only [zS, zN, zH, zT]) ?_
   refine al_end rfl ?_
   refine then_normal ?_
   refine aw_seq ?_
   refine aw_region ?_
   refine zst (op_assign_const (by rfl)) rfl (by dsimp only [zS, zN, zH, zT]) ?_
   refine al_end rfl ?_
   refine then_normal ?_
   refine aw_ret ?_
   refine retPost1 rfl rfl ?_
   have hln : ¬ ls = [] := fun e => by rw [e] at hz; exact hz rfl
   have lt2 := lt_nb hT2
   have lta := Arr.idlt hAa rfl
   have ltb := Arr.idlt hAb rfl
   rw [setB_nb] at hia
   have hO7 : O2 ≠ tid := by rcases hO27 with e | e; (rw [e]; exact hOT); (rw [push_nb, setB_nb] at e; have := lt_nb hT4; omega)
   have up : ∀ k, k < H4.nb → k ≠ tid → k ≠ O → (H7.setB tid ⟨145, [.ptr sid 0, .d (I 0), .d (I 0), .d (I 0), .d (I 0), (.arr O2 m7 c7), .d (I (sz + 1))], false⟩).blks[k]? = H4.blks[k]? := fun k h1 h2 h3 => by rw [setB_ne h2, hK7.blks k (by rw [push_nb, setB_nb]; omega) (fun n c0 e => by cases e; exact h3 rfl), push_lt (by rw [setB_nb]; exact h1), setB_ne h3]
   obtain ⟨hn1, hn2, hn3, hn4⟩ := half_ne (l := insI l x) (by omega)
   rw [hls1] at hA7
   exact ⟨rfl, _, _, setB_at hT7, by unfold insL; rw [if_neg hln, if_neg h9]; exact LvT.two (Arr.mono hA7 fun id n c0 h => by cases h; exact setB_ne hO7) (by rw [hlI]; exact Arr.mono hAa fun id n c0 h => by cases h; exact up _ lta (by omega) (by omega)) (by rw [hlI]; exact Arr.mono hAb fun id n c0 h => by cases h; exact up _ ltb (by omega) (by omega)) hn1 hn2 (by omega) (by omega) (fun M1 n1 d1 n2 d2 q1 q2 => by cases q1; cases q2; omega), (((((hw2.setX hO2 (.inl rfl)).trans (Was.ext hx4)).setX hO4 (.inl rfl)).push _ _).kept hK7 (fun id n c0 h => by cases h; exact ⟨_, hO6, .inl rfl⟩)).setT _⟩
  ·
   (try simp only [y1, y2, y3, y4, y5, y6, y7, y8, y9, y0, List.length_map] at hc4)
   have h9 : (insI l x).length ≤ 8 := by rw [hlI]; omega
   refine aw_skip ?_
   refine then_normal ?_
   refine aw_seq ?_
   refine aw_region ?_
   refine zst (op_assign_const (by rfl)) rfl (by dsimp only [zS, zN, zH, zT]) ?_
   refine al_end rfl ?_
   refine then_normal ?_
   refine aw_ret ?_
   refine retPost1 rfl rfl ?_
   have hln : ¬ ls = [] := fun e => by rw [e] at hz; exact hz rfl
   exact ⟨rfl, _, _, by rw [setB_ne (fun e => hOT e.symm)]; exact hT2, by unfold insL; rw [if_neg hln, if_pos h9]; exact LvT.put1 hL1 hl hvi hbO (setB_at hO2) (Arr.mono hI.arr fun id n c0 h => by cases h; exact setB_ne hid2O) (fun e => by have := congrArg List.length e; rw [hlI] at this; simp at this) (by omega) (fun j b hb he hne2 => by rw [setB_ne (fun e => by subst e; rw [hbO] at hb; cases hb; cases he), hI.kept.blks j (by rw [push_nb]; have := lt_nb hb; omega) hne2]; exact push_ne hb) (fun M1 n1 d1 h => by cases h; rcases hI.new _ _ _ rfl with h2 | h2; exact .inr (by rw [push_nb] at h2; omega); exact .inl h2), hw2.setX hO2 (.inl rfl)⟩
end Go.Proofs.Ytjbpfnoibeogbaa
namespace Go.Proofs.Ytjbpfnoibeogbaa
open Go.AV Go.AV.Ord Go.AV.Oct Go.AV.Hist Go.AV.Sb
set_option linter.unusedVariables false
set_option linter.unusedSimpArgs false
set_option maxRecDepth 100000 in
theorem find0_ok (Hs : HS) (tid sid : Nat) (lv : AV) (sz : Int) (key : List UInt8) (hT : Hs.blks[tid]? = some ⟨145, [.ptr sid 0, .d (I 0), .d (I 0), .d (I 0), .d (I 0), lv, .d (I sz)], false⟩) (hL : LL lv 1 (lsO none)) : ACalls Try.prog 100 [.ptr tid 5, .d (S key)] Hs (Ret (.tup [.d (I 0), .d (I 0), .d (TF false)]) Hs) := by
 refine acalls_of_aw Try.func100 rfl ?_
 refine aw_start (T' := [.ptr tid 5, .d (S key), .un, .un, .un, .un, .un, .un, .un, .un, .un, .un, .un, .un, .un, .un, .un, .un, .un, .un, .un, .un, .un, .un, .un, .un, .un, .un, .un, .un, .un, .un, .un, .un, .un, .un, .un, .un]) rfl ?_
 refine aw_seq ?_
 refine aw_region ?_
 refine zst (op_assign_const (by rfl)) rfl (by dsimp only [zS, zN, zH, zT]) ?_
 refine zst (op_assign_const (by rfl)) rfl (by dsimp only [zS, zN, zH, zT]) ?_
 refine zst (op_assign_const (by rfl)) rfl (by dsimp only [zS, zN, zH, zT]) ?_
 refine al_end rfl ?_
 refine then_normal ?_
 refine aw_seq ?_
 refine aw_seq ?_
 refine aw_region ?_
 refine zst (op_move_tmp (by rfl)) rfl (by dsimp only [zS, zN, zH, zT]) ?_
 refine zst (op_ptr_nil Try.underlying193 (by rfl) (by rfl)) rfl (by dsimp only [zS, zN, zH, zT]) ?_
 refine zst (op_move_tmp (by rfl)) rfl (by dsimp only [zS, zN, zH, zT]) ?_
 refine zsw rfl rfl rfl (op_move_tmp (by rfl)) (by dsimp only [zS, zN, zH, zT]) ?_
 refine zsw rfl rfl rfl (by first | exact op_nilCheck_ptr (by rfl) | exact op_nilCheck_elt (by rfl)) (by dsimp only [zS, zN, zH, zT]) ?_
 refine zsw rfl rfl rfl (by first | exact op_fieldAddr_ptr Try.underlying143 rfl Sz141 (by rfl) (by rfl) | exact op_fieldAddr_elt Try.underlying143 rfl Sz141 (by rfl) (by rfl) (by rfl)) (by dsimp only [zS, zN, zH, zT]) ?_
 refine zsw rfl rfl rfl (by first | exact op_load_elt Try.underlying141 (by rfl) (by rfl) (by rfl) | exact op_load_ptr Try.underlying141 (by rfl) (by rfl) (by assumption) (by rfl)) (by dsimp only [zS, zN, zH, zT]) ?_
 refine zsw rfl rfl rfl (op_lenL Try.underlying141 hL) (by dsimp only [zS, zN, zH, zT]) ?_
 refine zsw rfl rfl rfl (op_eqI (by rfl) (by rfl)) (by dsimp only [zS, zN, zH, zT]) ?_
 refine zst (op_pick_ff (by rfl) (val_tmp (by rfl))) rfl (by dsimp only [zS, zN, zH, zT]) ?_
 refine al_end rfl ?_
 refine then_normal ?_
 refine aw_cond rfl (fun _ => ?_) (fun h => by cases h)
 refine aw_seq ?_
 refine aw_region ?_
 refine zst (op_assign_const (by rfl)) rfl (by dsimp only [zS, zN, zH, zT]) ?_
 refine zst (op_assign_const (by rfl)) rfl (by dsimp only [zS, zN, zH, zT]) ?_
 refine zst (op_assign_const (by rfl)) rfl (by dsimp only [zS, zN, zH, zT]) ?_
 refine al_end rfl ?_
 refine then_normal ?_
 refine aw_ret ?_
 refine then_ret ?_
 refine retPost3 rfl rfl rfl rfl ?_
 exact ⟨rfl, rfl⟩
set_option maxRecDepth 100000 in
theorem find1_ok (Hs : HS) (tid sid : Nat) (lv : AV) (sz : Int) (key : List UInt8) (hT : Hs.blks[tid]? = some ⟨145, [.ptr sid 0, .d (I 0), .d (I 0), .d (I 0), .d (I 0), lv, .d (I sz)], false⟩) (k : List UInt8) (w : Wt) (hL : LL lv 1 (lsO (some (k, w)))) : ACalls Try.prog 100 [.ptr tid 5, .d (S key)] Hs (Ret (.tup [.d (I 0), .d (I (posO (some (k, w)) key : Nat)), .d (TF (decide (k = key)))]) Hs) := by
 refine acalls_of_aw Try.func100 rfl ?_
 refine aw_start (T' := [.ptr tid 5, .d (S key), .un, .un, .un, .un, .un, .un, .un, .un, .un, .un, .un, .un, .un, .un, .un, .un, .un, .un, .un, .un, .un, .un, .un, .un, .un, .un, .un, .un, .un, .un, .un, .un, .un, .un, .un, .un]) rfl ?_
 refine aw_seq ?_
 refine aw_region ?_
 refine zst (op_assign_const (by rfl)) rfl (by dsimp only [zS, zN, zH, zT]) ?_
 refine zst (op_assign_const (by rfl)) rfl (by dsimp only [zS, zN, zH, zT]) ?_
 refine zst (op_assign_const (by rfl)) rfl (by dsimp only [zS, zN, zH, zT]) ?_
 refine al_end rfl ?_
 refine then_normal ?_
 refine aw_seq ?_
 refine aw_seq ?_
 refine aw_region ?_
 refine zst (op_move_tmp (by rfl)) rfl (by dsimp only [zS, zN, zH, zT]) ?_
 refine zst (op_ptr_nil Try.underlying193 (by rfl) (by rfl)) rfl (by dsimp only [zS, zN, zH, zT]) ?_
 refine zst (op_move_tmp (by rfl)) rfl (by dsimp only [zS, zN, zH, zT]) ?_
 refine zsw rfl rfl rfl (op_move_tmp (by rfl)) (by dsimp only [zS, zN, zH, zT]) ?_
 refine zsw rfl rfl rfl (by first | exact op_nilCheck_ptr (by rfl) | exact op_nilCheck_elt (by rfl)) (by dsimp only [zS, zN, zH, zT]) ?_
 refine zsw rfl rfl rfl (by first | exact op_fieldAddr_ptr Try.underlying143 rfl Sz141 (by rfl) (by rfl) | exact op_fieldAddr_elt Try.underlying143 rfl Sz141 (by rfl) (by rfl) (by rfl)) (by dsimp only [zS, zN, zH, zT]) ?_
 refine zsw rfl rfl rfl (by first | exact op_load_elt Try.underlying141 (by rfl) (by rfl) (by rfl) | exact op_load_ptr Try.underlying141 (by rfl) (by rfl) (by assumption) (by rfl)) (by dsimp only [zS, zN, zH, zT]) ?_
 refine zsw rfl rfl rfl (op_lenL Try.underlying141 hL) (by dsimp only [zS, zN, zH, zT]) ?_
 refine zsw rfl rfl rfl (op_eqI (by rfl) (by rfl)) (by dsimp only [zS, zN, zH, zT]) ?_
 refine zst (op_pick_ff (by rfl) (val_tmp (by rfl))) rfl (by dsimp only [zS, zN, zH, zT]) ?_
 refine al_end rfl ?_
 refine then_normal ?_
 refine aw_cond rfl (fun h => by cases h) (fun _ => ?_)
 refine aw_skip ?_
 refine then_normal ?_
 refine aw_seq ?_
 refine aw_region ?_
 refine zst (op_move_tmp (by rfl)) rfl (by dsimp only [zS, zN, zH, zT]) ?_
 refine zst (op_move_tmp (by rfl)) rfl (by dsimp only [zS, zN, zH, zT]) ?_
 refine zst (op_callF Try.func131 (by rfl) (by rfl) (.tmp (by rfl) (.tmp (by rfl) .nil)) (leaf_ok _ tid sid lv sz k w key hT hL)) rfl (by dsimp only [zS, zN, zH, zT]) ?_
 refine zst (op_assign_tmp (by rfl)) rfl (by dsimp only [zS, zN, zH, zT]) ?_
 refine al_end rfl ?_
 refine then_normal ?_
 refine aw_seq ?_
 refine aw_region ?_
 refine zst (op_move_tmp (by rfl)) rfl (by dsimp only [zS, zN, zH, zT]) ?_
 refine zst (by first | exact op_nilCheck_ptr (by rfl) | exact op_nilCheck_elt (by rfl)) rfl (by dsimp only [zS, zN, zH, zT]) ?_
 refine zst (by first | exact op_fieldAddr_ptr Try.underlying143 rfl Sz141 (by rfl) (by rfl) | exact op_fieldAddr_elt Try.underlying143 rfl Sz141 (by rfl) (by rfl) (by rfl)) rfl (by dsimp only [zS, zN, zH, zT]) ?_
 refine zst (by first | exact op_load_elt Try.underlying141 (by rfl) (by rfl) (by rfl) | exact op_load_ptr Try.underlying141 (by rfl) (by rfl) (by assumption) (by rfl)) rfl (by dsimp only [zS, zN, zH, zT]) ?_
 refine zst (op_move_tmp (by rfl)) rfl (by dsimp only [zS, zN, zH, zT]) ?_
 refine zst (op_indexAddr (z := .lst 4 [iD k w]) (cs := [.lst 4 [iD k w]]) Try.underlying141 Sz195 hL (by rfl) (by decide) (by rfl) (by rfl)) rfl (by dsimp only [zS, zN, zH, zT]) ?_
 refine zst (op_load_elt Try.underlying195 (by rfl) (by rfl) (by rfl)) rfl (by dsimp only [zS, zN, zH, zT]) ?_
 refine zst (op_move_tmp (by rfl)) rfl (by dsimp only [zS, zN, zH, zT]) ?_
 refine zst (op_callF Try.func132 (by rfl) (by rfl) (.tmp (by rfl) (.tmp (by rfl) (.func .nil))) (bsearch_ok _ k w key _ rfl)) rfl (by dsimp only [zS, zN, zH, zT]) ?_
 refine zst (op_move_tmp (by rfl)) rfl (by dsimp only [zS, zN, zH, zT]) ?_
 refine zst (op_extract (by rfl) (by rfl)) rfl (by dsimp only [zS, zN, zH, zT]) ?_
 refine zst (op_extract (by rfl) (by rfl)) rfl (by dsimp only [zS, zN, zH, zT]) ?_
 refine zst (op_assign_tmp (by rfl)) rfl (by dsimp only [zS, zN, zH, zT]) ?_
 refine zst (op_assign_tmp (by rfl)) rfl (by dsimp only [zS, zN, zH, zT]) ?_
 refine al_end rfl ?_
 refine then_normal ?_
 refine aw_seq ?_
 refine aw_region ?_
 refine zst (op_move_tmp (by rfl)) rfl (by dsimp only [zS, zN, zH, zT]) ?_
 refine zst (op_move_tmp (by rfl)) rfl (by dsimp only [zS, zN, zH, zT]) ?_
 refine zst (op_move_tmp (by rfl)) rfl (by dsimp only [zS, zN, zH, zT]) ?_
 refine zst (op_assign_tmp (by rfl)) rfl (by dsimp only [zS, zN, zH, zT]) ?_
 refine zst (op_assign_tmp (by rfl)) rfl (by dsimp only [zS, zN, zH, zT]) ?_
 refine zst (op_assign_tmp (by rfl)) rfl (by dsimp only [zS, zN, zH, zT]) ?_
 refine al_end rfl ?_
 refine then_normal ?_
 refine aw_ret ?_
 refine retPost3 rfl rfl rfl rfl ?_
 exact ⟨rfl, rfl⟩
set_option maxRecDepth 100000 in
theorem get0_ok (Hs : HS) (tid sid : Nat) (lv : AV) (sz : Int) (key : List UInt8) (hT : Hs.blks[tid]? = some ⟨145, [.ptr sid 0, .d (I 0), .d (I 0), .d (I 0), .d (I 0), lv, .d (I sz)], false⟩) (hL : LL lv 1 (lsO none)) : ACalls Try.prog 96 [.ptr tid 5, .d (S key)] Hs (Ret (.tup [.d (.agg (wC Wn)), .d (TF false)]) Hs) := by
 refine ACalls.tidyT (xs := [.agg (wC Wn), TF false]) ?_
 suffices h : ACalls Try.prog 96 [.ptr tid 5, .d (S key)] Hs (fun av H' => ∃ x, av = .tup [x, .d (TF false)] ∧ Weak x (.d (.agg (wC Wn))) ∧ Ext Hs H') from h.weak fun v H' ⟨x, h1, h2, h3⟩ => ⟨_, by rw [h1]; exact Weak.tup (.cons h2 (.cons (Weak.refl _) .nil)), rfl, h3⟩
 refine acalls_of_awC Try.func96 rfl ?_
 refine aw_start (T' := [.ptr tid 5, .d (S key), .un, .un, .un, .un, .un, .un, .un, .un, .un, .un, .un, .un, .un, .un, .un, .un, .un, .un, .un, .un, .un, .un, .un, .un, .un, .un, .un, .un, .un]) rfl ?_
 refine aw_seq ?_
 refine aw_region ?_
 refine zst (op_alloc (Zr51) (by rfl)) rfl (by dsimp only [zS, zN, zH, zT]) ?_
 refine zst (op_assign_const (by rfl)) rfl (by dsimp only [zS, zN, zH, zT]) ?_
 refine al_end rfl ?_
 refine then_normal ?_
 refine aw_seq ?_
 refine aw_region ?_
 refine zst (op_move_tmp (by rfl)) rfl (by dsimp only [zS, zN, zH, zT]) ?_
 refine zst (op_move_tmp (by rfl)) rfl (by dsimp only [zS, zN, zH, zT]) ?_
 refine zst (op_callF Try.func100 (by rfl) (by rfl) (.tmp (by rfl) (.tmp (by rfl) .nil)) (find0_ok _ tid sid lv sz key (push_ne hT) hL)) rfl (by dsimp only [zS, zN, zH, zT]) ?_
 refine zst (op_move_tmp (by rfl)) rfl (by dsimp only [zS, zN, zH, zT]) ?_
 refine zst (op_extract (by rfl) (by rfl)) rfl (by dsimp only [zS, zN, zH, zT]) ?_
 refine zst (op_extract (by rfl) (by rfl)) rfl (by dsimp only [zS, zN, zH, zT]) ?_
 refine zst (op_extract (by rfl) (by rfl)) rfl (by dsimp only [zS, zN, zH, zT]) ?_
 refine zst (op_assign_tmp (by rfl)) rfl (by dsimp only [zS, zN, zH, zT]) ?_
 refine zst (op_assign_tmp (by rfl)) rfl (by dsimp only [zS, zN, zH, zT]) ?_
 refine zst (op_assign_tmp (by rfl)) rfl (by dsimp only [zS, zN, zH, zT]) ?_
 refine al_end rfl ?_
 refine then_normal ?_
 refine aw_seq ?_
 refine aw_seq ?_
 refine aw_region ?_
 refine zst (op_move_tmp (by rfl)) rfl (by dsimp only [zS, zN, zH, zT]) ?_
 refine zst (op_not (by rfl)) rfl (by dsimp only [zS, zN, zH, zT]) ?_
 refine al_end rfl ?_
 refine then_normal ?_
 refine aw_cond rfl (fun _ => ?_) (fun h => by cases h)
 refine aw_seq ?_
 refine aw_region ?_
 refine zst (op_alloc (Zr51) (by rfl)) rfl (by dsimp only [zS, zN, zH, zT]) ?_
 refine al_end rfl ?_
 refine then_normal ?_
 refine aw_seq ?_
 refine aw_region ?_
 refine zst (op_load_ptrsD (wC Wn) Try.underlying51 (by rfl) Sz51 (by rfl) (by repeat (first | assumption | exact push_at | exact setB_at push_at | (rw [setB_ne (by simp only [setB_nb, push_nb, ne_eq]; omega)]) | apply push_ne | apply setB_at)) (Nat.le_of_ble_eq_true rfl) (by rfl) (wC_one _)) rfl (by dsimp only [zS, zN, zH, zT]) ?_
 refine zst (op_storeB (vs := [.d (S Wn.key), .d (S Wn.val), .d (TF Wn.gone)]) (b' := ⟨51, [.d (S Wn.key), .d (S Wn.val), .d (TF Wn.gone)], false⟩) (H' := _) Sz51 (by rfl) (by repeat (first | assumption | exact push_at | exact setB_at push_at | (rw [setB_ne (by simp only [setB_nb, push_nb, ne_eq]; omega)]) | apply push_ne | apply setB_at)) (by intro h; cases h) (by rfl) (by rfl) (Nat.le_of_ble_eq_true rfl) (by simp [AV.one, DV.one, TF, S, I, BY]) (by rfl) (by rfl) rfl) rfl (by dsimp only [zS, zN, zH, zT]) ?_
 refine zst (op_assign_const (by rfl)) rfl (by dsimp only [zS, zN, zH, zT]) ?_
 refine al_end rfl ?_
 refine then_normal ?_
 refine aw_ret ?_
 refine then_ret ?_
 refine retC2 rfl (.cells Try.underlying51 (by rfl) Sz51 (by rfl) (by repeat (first | assumption | exact push_at | exact setB_at push_at | (rw [setB_ne (by simp only [setB_nb, push_nb, ne_eq]; omega)]) | apply push_ne | apply setB_at)) (Nat.le_of_ble_eq_true rfl) (by rfl)) (.tmp (by rfl)) ?_
 exact ⟨_, rfl, Weak.aggD (.cons (Weak.refl _) (.cons (Weak.refl _) (.cons (Weak.refl _) .nil))) (wC_one _), (by repeat (first | exact Ext.refl _ | apply Ext.push | (refine Ext.setB ?_ (by (try simp only [setB_nb, push_nb]); omega))))⟩
set_option maxRecDepth 100000 in
theorem get1_ok (Hs : HS) (tid sid : Nat) (lv : AV) (sz : Int) (key : List UInt8) (hT : Hs.blks[tid]? = some ⟨145, [.ptr sid 0, .d (I 0), .d (I 0), .d (I 0), .d (I 0), lv, .d (I sz)], false⟩) (k : List UInt8) (w : Wt) (hL : LL lv 1 (lsO (some (k, w)))) : ACalls Try.prog 96 [.ptr tid 5, .d (S key)] Hs (Ret (.tup [.d (.agg (wC (if k = key then w else Wn))), .d (TF (decide (k = key)))]) Hs) := by
 refine ACalls.tidyT (xs := [.agg (wC (if k = key then w else Wn)), TF (decide (k = key))]) ?_
 suffices h : ACalls Try.prog 96 [.ptr tid 5, .d (S key)] Hs (fun av H' => ∃ x, av = .tup [x, .d (TF (decide (k = key)))] ∧ Weak x (.d (.agg (wC (if k = key then w else Wn)))) ∧ Ext Hs H') from h.weak fun v H' ⟨x, h1, h2, h3⟩ => ⟨_, by rw [h1]; exact Weak.tup (.cons h2 (.cons (Weak.refl _) .nil)), rfl, h3⟩
 refine acalls_of_awC Try.func96 rfl ?_
 refine aw_start (T' := [.ptr tid 5, .d (S key), .un, .un, .un, .un, .un, .un, .un, .un, .un, .un, .un, .un, .un, .un, .un, .un, .un, .un, .un, .un, .un, .un, .un, .un, .un, .un, .un, .un, .un]) rfl ?_
 refine aw_seq ?_
 refine aw_region ?_
 refine zst (op_alloc (Zr51) (by rfl)) rfl (by dsimp only [zS, zN, zH, zT]) ?_
 refine zst (op_assign_const (by rfl)) rfl (by dsimp only [zS, zN, zH, zT]) ?_
 refine al_end rfl ?_
 refine then_normal ?_
 refine aw_seq ?_
 refine aw_region ?_
 refine zst (op_move_tmp (by rfl)) rfl (by dsimp only [zS, zN, zH, zT]) ?_
 refine zst (op_move_tmp (by rfl)) rfl (by dsimp only [zS, zN, zH, zT]) ?_
 refine zst (op_callF Try.func100 (by rfl) (by rfl) (.tmp (by rfl) (.tmp (by rfl) .nil)) (find1_ok _ tid sid lv sz key (push_ne hT) k w hL)) rfl (by dsimp only [zS, zN, zH, zT]) ?_
 refine zst (op_move_tmp (by rfl)) rfl (by dsimp only [zS, zN, zH, zT]) ?_
 refine zst (op_extract (by rfl) (by rfl)) rfl (by dsimp only [zS, zN, zH, zT]) ?_
 refine zst (op_extract (by rfl) (by rfl)) rfl (by dsimp only [zS, zN, zH, zT]) ?_
 refine zst (op_extract (by rfl) (by rfl)) rfl (by dsimp only [zS, zN, zH, zT]) ?_
 refine zst (op_assign_tmp (by rfl)) rfl (by dsimp only [zS, zN, zH, zT]) ?_
 refine zst (op_assign_tmp (by rfl)) rfl (by dsimp only [zS, zN, zH, zT]) ?_
 refine zst (op_assign_tmp (by rfl)) rfl (by dsimp only [zS, zN, zH, zT]) ?_
 refine al_end rfl ?_
 refine then_normal ?_
 refine aw_seq ?_
 refine aw_seq ?_
 refine aw_region ?_
 refine zst (op_move_tmp (by rfl)) rfl (by dsimp only [zS, zN, zH, zT]) ?_
 refine zst (op_not (by rfl)) rfl (by dsimp only [zS, zN, zH, zT]) ?_
 refine al_end rfl ?_
 refine then_normal ?_
 refine aw_cond rfl (fun hc1 => ?_) (fun hc1 => ?_)
 ·
  (try simp only [y1, y2, y3, y4, y5, y6, y7, y8, y9, y0, List.length_map] at hc1)
  have hne : ¬ k = key := by simpa using hc1
  refine aw_seq ?_
  refine aw_region ?_
  refine zst (op_alloc (Zr51) (by rfl)) rfl (by dsimp only [zS, zN, zH, zT]) ?_
  refine al_end rfl ?_
  refine then_normal ?_
  refine aw_seq ?_
  refine aw_region ?_
  refine zst (op_load_ptrsD (wC Wn) Try.underlying51 (by rfl) Sz51 (by rfl) (by repeat (first | assumption | exact push_at | exact setB_at push_at | (rw [setB_ne (by simp only [setB_nb, push_nb, ne_eq]; omega)]) | apply push_ne | apply setB_at)) (Nat.le_of_ble_eq_true rfl) (by rfl) (wC_one _)) rfl (by dsimp only [zS, zN, zH, zT]) ?_
  refine zst (op_storeB (vs := [.d (S Wn.key), .d (S Wn.val), .d (TF Wn.gone)]) (b' := ⟨51, [.d (S Wn.key), .d (S Wn.val), .d (TF Wn.gone)], false⟩) (H' := _) Sz51 (by rfl) (by repeat (first | assumption | exact push_at | exact setB_at push_at | (rw [setB_ne (by simp only [setB_nb, push_nb, ne_eq]; omega)]) | apply push_ne | apply setB_at)) (by intro h; cases h) (by rfl) (by rfl) (Nat.le_of_ble_eq_true rfl) (by simp [AV.one, DV.one, TF, S, I, BY]) (by rfl) (by rfl) rfl) rfl (by dsimp only [zS, zN, zH, zT]) ?_
  refine zst (op_assign_const (by rfl)) rfl (by dsimp only [zS, zN, zH, zT]) ?_
  refine al_end rfl ?_
  refine then_normal ?_
  refine aw_ret ?_
  refine then_ret ?_
  refine retC2 rfl (.cells Try.underlying51 (by rfl) Sz51 (by rfl) (by repeat (first | assumption | exact push_at | exact setB_at push_at | (rw [setB_ne (by simp only [setB_nb, push_nb, ne_eq]; omega)]) | apply push_ne | apply setB_at)) (Nat.le_of_ble_eq_true rfl) (by rfl)) (.tmp (by rfl)) ?_
  exact ⟨_, by rw [decide_eq_false hne]; rfl, by rw [if_neg hne]; exact Weak.aggD (.cons (Weak.refl _) (.cons (Weak.refl _) (.cons (Weak.refl _) .nil))) (wC_one _), (by repeat (first | exact Ext.refl _ | apply Ext.push | (refine Ext.setB ?_ (by (try simp only [setB_nb, push_nb]); omega))))⟩
 ·
  (try simp only [y1, y2, y3, y4, y5, y6, y7, y8, y9, y0, List.length_map] at hc1)
  have hke : k = key := by simpa using hc1
  have hpz : posO (some (k, w)) key = 0 := by show (if _ then 1 else 0) = 0; rw [if_neg (by rw [Go.AV.Val.cb_eq.2 hke]; decide)]
  refine aw_skip ?_
  refine then_normal ?_
  refine aw_seq ?_
  refine aw_region ?_
  refine zst (op_move_tmp (by rfl)) rfl (by dsimp only [zS, zN, zH, zT]) ?_
  refine zst (by first | exact op_nilCheck_ptr (by rfl) | exact op_nilCheck_elt (by rfl)) rfl (by dsimp only [zS, zN, zH, zT]) ?_
  refine zst (by first | exact op_fieldAddr_ptr Try.underlying143 rfl Sz141 (by rfl) (by rfl) | exact op_fieldAddr_elt Try.underlying143 rfl Sz141 (by rfl) (by rfl) (by rfl)) rfl (by dsimp only [zS, zN, zH, zT]) ?_
  refine zst (op_load_ptr Try.underlying141 (by rfl) (by rfl) (push_ne hT) (by rfl)) rfl (by dsimp only [zS, zN, zH, zT]) ?_
  refine zst (op_move_tmp (by rfl)) rfl (by dsimp only [zS, zN, zH, zT]) ?_
  refine zst (op_indexAddr (z := .lst 4 [iD k w]) (cs := [.lst 4 [iD k w]]) Try.underlying141 Sz195 hL (by rfl) (by decide) (by rfl) (by rfl)) rfl (by dsimp only [zS, zN, zH, zT]) ?_
  refine zst (op_load_elt Try.underlying195 (by rfl) (by rfl) (by rfl)) rfl (by dsimp only [zS, zN, zH, zT]) ?_
  refine zst (op_move_tmp (by rfl)) rfl (by dsimp only [zS, zN, zH, zT]) ?_
  refine zst (op_indexAddr (z := iD k w) (cs := [S k, S w.key, S w.val, TF w.gone]) Try.underlying195 Sz197 (LL.d _ _) (by rfl) (by omega) (by rw [hpz]; rfl) (by rfl)) rfl (by dsimp only [zS, zN, zH, zT]) ?_
  refine zst (by first | exact op_fieldAddr_ptr Try.underlying197 rfl Sz51 (by rfl) (by rfl) | exact op_fieldAddr_elt Try.underlying197 rfl Sz51 (by rfl) (by rfl) (by rfl)) rfl (by dsimp only [zS, zN, zH, zT]) ?_
  refine zst (op_load_elts (ds := wC w) Try.underlying51 (by rfl) Sz51 (by rfl) (Nat.le_of_ble_eq_true rfl) (by rfl)) rfl (by dsimp only [zS, zN, zH, zT]) ?_
  refine zst (op_storeB (vs := [.d (S w.key), .d (S w.val), .d (TF w.gone)]) (b' := ⟨51, [.d (S w.key), .d (S w.val), .d (TF w.gone)], false⟩) (H' := _) Sz51 (by rfl) (by repeat (first | assumption | exact push_at | exact setB_at push_at | (rw [setB_ne (by simp only [setB_nb, push_nb, ne_eq]; omega)]) | apply push_ne | apply setB_at)) (by intro h; cases h) (by rfl) (by rfl) (Nat.le_of_ble_eq_true rfl) (by simp [AV.one, DV.one, TF, S, I, BY]) (by rfl) (by rfl) rfl) rfl (by dsimp only [zS, zN, zH, zT]) ?_
  refine zst (op_assign_const (by rfl)) rfl (by dsimp only [zS, zN, zH, zT]) ?_
  refine al_end rfl ?_
  refine then_normal ?_
  refine aw_ret ?_
  refine retC2 rfl (.cells Try.underlying51 (by rfl) Sz51 (by rfl) (by repeat (first | assumption | exact push_at | exact setB_at push_at | (rw [setB_ne (by simp only [setB_nb, push_nb, ne_eq]; omega)]) | apply push_ne | apply setB_at)) (Nat.le_of_ble_eq_true rfl) (by rfl)) (.tmp (by rfl)) ?_
  exact ⟨_, by rw [decide_eq_true hke]; rfl, by rw [if_pos hke]; exact Weak.aggD (.cons (Weak.refl _) (.cons (Weak.refl _) (.cons (Weak.refl _) .nil))) (wC_one _), (by repeat (first | exact Ext.refl _ | apply Ext.push | (refine Ext.setB ?_ (by (try simp only [setB_nb, push_nb]); omega))))⟩
theorem tget_ok (Hs : HS) (tid sid : Nat) (lv : AV) (sz : Int) (key : List UInt8) (hT : Hs.blks[tid]? = some ⟨145, [.ptr sid 0, .d (I 0), .d (I 0), .d (I 0), .d (I 0), lv, .d (I sz)], false⟩) (o : TO) (hL : LL lv 1 (lsO o)) : ACalls Try.prog 96 [.ptr tid 5, .d (S key)] Hs (Ret (.tup [.d (.agg (wC ((foundO o key).getD Wn))), .d (TF (foundO o key).isSome)]) Hs) := by
  match o with
  | none => exact get0_ok Hs tid sid lv sz key hT hL
  | some (k, w) =>
    have h := get1_ok Hs tid sid lv sz key hT k w hL
    by_cases hk : k = key
    · rw [if_pos hk, decide_eq_true hk] at h
      rw [show foundO (some (k, w)) key = some w from if_pos hk]; exact h
    · rw [if_neg hk, decide_eq_false hk] at h
      rw [show foundO (some (k, w)) key = none from if_neg hk]; exact h
end Go.Proofs.Ytjbpfnoibeogbaa
namespace Go.Proofs.Ytjbpfnoibeogbaa
open Go.AV Go.AV.Ord Go.AV.Oct Go.AV.Hist Go.AV.Sb
set_option linter.unusedVariables false
set_option linter.unusedSimpArgs false
set_option maxRecDepth 100000 in
theorem cfind_ok (Hs : HS) (sid : Nat) (key : List UInt8) (hS : Hs.blks[sid]? = some ⟨134, [nilS, .d (I 0), .d (I 0), nilS], false⟩) : ACalls Try.prog 92 [.ptr sid 0, .d (S key)] Hs (Ret (.tup [.d (I 0), .d (I 0), .d (TF false)]) Hs) := by
 refine acalls_of_aw Try.func92 rfl ?_
 refine aw_start (T' := [.ptr sid 0, .d (S key), .un, .un, .un, .un, .un, .un, .un, .un, .un, .un, .un, .un, .un, .un, .un, .un, .un, .un, .un, .un, .un, .un, .un, .un, .un, .un, .un, .un, .un, .un, .un, .un, .un, .un, .un, .un]) rfl ?_
 refine aw_seq ?_
 refine aw_region ?_
 refine zst (op_assign_const (by rfl)) rfl (by dsimp only [zS, zN, zH, zT]) ?_
 refine zst (op_assign_const (by rfl)) rfl (by dsimp only [zS, zN, zH, zT]) ?_
 refine zst (op_assign_const (by rfl)) rfl (by dsimp only [zS, zN, zH, zT]) ?_
 refine al_end rfl ?_
 refine then_normal ?_
 refine aw_seq ?_
 refine aw_seq ?_
 refine aw_region ?_
 refine zst (op_move_tmp (by rfl)) rfl (by dsimp only [zS, zN, zH, zT]) ?_
 refine zst (op_ptr_nil Try.underlying180 (by rfl) (by rfl)) rfl (by dsimp only [zS, zN, zH, zT]) ?_
 refine zst (op_move_tmp (by rfl)) rfl (by dsimp only [zS, zN, zH, zT]) ?_
 refine zsw rfl rfl rfl (op_move_tmp (by rfl)) (by dsimp only [zS, zN, zH, zT]) ?_
 refine zsw rfl rfl rfl (by first | exact op_nilCheck_ptr (by rfl) | exact op_nilCheck_elt (by rfl)) (by dsimp only [zS, zN, zH, zT]) ?_
 refine zsw rfl rfl rfl (by first | exact op_fieldAddr_ptr Try.underlying132 rfl Sz130 (by rfl) (by rfl) | exact op_fieldAddr_elt Try.underlying132 rfl Sz130 (by rfl) (by rfl) (by rfl)) (by dsimp only [zS, zN, zH, zT]) ?_
 refine zsw rfl rfl rfl (by first | exact op_load_elt Try.underlying130 (by rfl) (by rfl) (by rfl) | exact op_load_ptr Try.underlying130 (by rfl) (by rfl) (by assumption) (by rfl)) (by dsimp only [zS, zN, zH, zT]) ?_
 refine zsw rfl rfl rfl (op_lenL Try.underlying130 (LL.nil 1)) (by dsimp only [zS, zN, zH, zT]) ?_
 refine zsw rfl rfl rfl (op_eqI (by rfl) (by rfl)) (by dsimp only [zS, zN, zH, zT]) ?_
 refine zst (op_pick_ff (by rfl) (val_tmp (by rfl))) rfl (by dsimp only [zS, zN, zH, zT]) ?_
 refine al_end rfl ?_
 refine then_normal ?_
 refine aw_cond rfl (fun _ => ?_) (fun h => by cases h)
 refine aw_seq ?_
 refine aw_region ?_
 refine zst (op_assign_const (by rfl)) rfl (by dsimp only [zS, zN, zH, zT]) ?_
 refine zst (op_assign_const (by rfl)) rfl (by dsimp only [zS, zN, zH, zT]) ?_
 refine zst (op_assign_const (by rfl)) rfl (by dsimp only [zS, zN, zH, zT]) ?_
 refine al_end rfl ?_
 refine then_normal ?_
 refine aw_ret ?_
 refine then_ret ?_
 refine retPost3 rfl rfl rfl rfl ?_
 exact ⟨rfl, rfl⟩
set_option maxRecDepth 100000 in
theorem cget_ok (Hs : HS) (sid : Nat) (key : List UInt8) (hS : Hs.blks[sid]? = some ⟨134, [nilS, .d (I 0), .d (I 0), nilS], false⟩) : ACalls Try.prog 126 [.ptr sid 0, .d (S key)] Hs (Ret (.tup [nilS, .d (TF false)]) Hs) := by
 refine acalls_of_aw Try.func126 rfl ?_
 refine aw_start (T' := [.ptr sid 0, .d (S key), .un, .un, .un, .un, .un, .un, .un, .un, .un, .un, .un, .un, .un, .un, .un, .un, .un, .un, .un, .un, .un, .un, .un, .un, .un, .un, .un, .un, .un]) rfl ?_
 refine aw_seq ?_
 refine aw_region ?_
 refine zst (op_assign_const (by rfl)) rfl (by dsimp only [zS, zN, zH, zT]) ?_
 refine zst (op_assign_const (by rfl)) rfl (by dsimp only [zS, zN, zH, zT]) ?_
 refine al_end rfl ?_
 refine then_normal ?_
 refine aw_seq ?_
 refine aw_region ?_
 refine zst (op_move_tmp (by rfl)) rfl (by dsimp only [zS, zN, zH, zT]) ?_
 refine zst (op_move_tmp (by rfl)) rfl (by dsimp only [zS, zN, zH, zT]) ?_
 refine zst (op_callF Try.func92 (by rfl) (by rfl) (.tmp (by rfl) (.tmp (by rfl) .nil)) (cfind_ok _ sid key hS)) rfl (by dsimp only [zS, zN, zH, zT]) ?_
 refine zst (op_move_tmp (by rfl)) rfl (by dsimp only [zS, zN, zH, zT]) ?_
 refine zst (op_extract (by rfl) (by rfl)) rfl (by dsimp only [zS, zN, zH, zT]) ?_
 refine zst (op_extract (by rfl) (by rfl)) rfl (by dsimp only [zS, zN, zH, zT]) ?_
 refine zst (op_extract (by rfl) (by rfl)) rfl (by dsimp only [zS, zN, zH, zT]) ?_
 refine zst (op_assign_tmp (by rfl)) rfl (by dsimp only [zS, zN, zH, zT]) ?_
 refine zst (op_assign_tmp (by rfl)) rfl (by dsimp only [zS, zN, zH, zT]) ?_
 refine zst (op_assign_tmp (by rfl)) rfl (by dsimp only [zS, zN, zH, zT]) ?_
 refine al_end rfl ?_
 refine then_normal ?_
 refine aw_seq ?_
 refine aw_seq ?_
 refine aw_region ?_
 refine zst (op_move_tmp (by rfl)) rfl (by dsimp only [zS, zN, zH, zT]) ?_
 refine zst (op_not (by rfl)) rfl (by dsimp only [zS, zN, zH, zT]) ?_
 refine al_end rfl ?_
 refine then_normal ?_
 refine aw_cond rfl (fun _ => ?_) (fun h => by cases h)
 refine aw_seq ?_
 refine aw_region ?_
 refine zst (op_assign_const (by rfl)) rfl (by dsimp only [zS, zN, zH, zT]) ?_
 refine al_end rfl ?_
 refine then_normal ?_
 refine aw_seq ?_
 refine aw_region ?_
 refine zst (op_move_tmp (by rfl)) rfl (by dsimp only [zS, zN, zH, zT]) ?_
 refine zst (op_assign_tmp (by rfl)) rfl (by dsimp only [zS, zN, zH, zT]) ?_
 refine zst (op_assign_const (by rfl)) rfl (by dsimp only [zS, zN, zH, zT]) ?_
 refine al_end rfl ?_
 refine then_normal ?_
 refine aw_ret ?_
 refine then_ret ?_
 refine retPost2 rfl rfl rfl ?_
 exact ⟨rfl, rfl⟩
set_option maxRecDepth 100000 in
theorem cbs_ok (Hs : HS) (seq : Int) : ACalls Try.prog 172 [nilS, .d (I seq), .fn (.func 173) [] []] Hs (Ret (.tup [.d (I 0), .d (TF false)]) Hs) := by
 refine acalls_of_aw Try.func172 rfl ?_
 refine aw_start (T' := [nilS, .d (I seq), .fn (.func 173) [] [], .un, .un, .un, .un, .un, .un, .un, .un, .un, .un, .un, .un, .un, .un, .un, .un, .un, .un, .un, .un, .un, .un, .un, .un, .un, .un, .un, .un, .un, .un, .un, .un, .un, .un, .un, .un, .un, .un, .un, .un, .un, .un, .un, .un, .un, .un]) rfl ?_
 refine aw_seq ?_
 refine aw_region ?_
 refine zst (op_assign_const (by rfl)) rfl (by dsimp only [zS, zN, zH, zT]) ?_
 refine zst (op_assign_const (by rfl)) rfl (by dsimp only [zS, zN, zH, zT]) ?_
 refine al_end rfl ?_
 refine then_normal ?_
 refine aw_seq ?_
 refine aw_region ?_
 refine zst (op_move_tmp (by rfl)) rfl (by dsimp only [zS, zN, zH, zT]) ?_
 refine zst (op_lenL Try.underlying137 (LL.nil 3)) rfl (by dsimp only [zS, zN, zH, zT]) ?_
 refine zst (op_assign_tmp (by rfl)) rfl (by dsimp only [zS, zN, zH, zT]) ?_
 refine al_end rfl ?_
 refine then_normal ?_
 refine aw_seq ?_
 refine aw_region ?_
 refine zst (op_move_tmp (by rfl)) rfl (by dsimp only [zS, zN, zH, zT]) ?_
 refine zst (op_assign_const (by rfl)) rfl (by dsimp only [zS, zN, zH, zT]) ?_
 refine zst (op_assign_tmp (by rfl)) rfl (by dsimp only [zS, zN, zH, zT]) ?_
 refine al_end rfl ?_
 refine then_normal ?_
 refine aw_seq ?_
 refine aw_block ?_
 apply aw_loopF (fun n T H => ∃ (j : Nat), T = [nilS, .un, .un, .un, .un, .un, .un, .un, .d (I 0), .d (I 0), .d (I 0), .un, .un, .un, .un, .un, .un, .un, .un, .un, .un, .un, .un, .un, .un, .un, .un, .un, .un, .un, .un, .un, .un, .un, .un, .un, .un, .un, .un, .un, .un, .un, .un, .un, .un, .un, .un, .un, .un] ∧ j = 0 ∧ n = 0 ∧ Hs = H) (0) [true, false, false, false, false, false, false, false, true, true, true, false, false, false, false, false, false, false, false, false, false, false, false, false, false, false, false, false, false, false, false, false, false, false, false, false, false, false, false, false, false, false, false, false, false, false, false, false, false]
 · (try dsimp only [maskT]); try exact rfl
 · rfl
 · exact ⟨0, rfl, rfl, rfl, rfl⟩
 rintro n T H ⟨j, rfl, hj, rfl, rfl⟩
 refine aw_seq ?_
 refine aw_seq ?_
 refine aw_region ?_
 refine zst (op_move_tmp (by rfl)) rfl (by dsimp only [zS, zN, zH, zT]) ?_
 refine zst (op_move_tmp (by rfl)) rfl (by dsimp only [zS, zN, zH, zT]) ?_
 refine zst (op_ltI (by rfl) (by rfl)) rfl (by dsimp only [zS, zN, zH, zT]) ?_
 refine al_end rfl ?_
 refine then_normal ?_
 refine aw_cond rfl (fun hc1 => ?_) (fun hc1 => ?_)
 ·
  (try simp only [y1, y2, y3, y4, y5, y6, y7, y8, y9, y0, List.length_map] at hc1)
  exact absurd hc1 (by decide)
 ·
  (try simp only [y1, y2, y3, y4, y5, y6, y7, y8, y9, y0, List.length_map] at hc1)
  refine aw_exit ?_
  refine then_exit (again_exit (inBlock_here (then_normal ?_)))
  refine aw_seq ?_
  refine aw_region ?_
  refine zst (op_move_tmp (by rfl)) rfl (by dsimp only [zS, zN, zH, zT]) ?_
  refine zst (op_move_tmp (by rfl)) rfl (by dsimp only [zS, zN, zH, zT]) ?_
  refine zst (op_move_tmp (by rfl)) rfl (by dsimp only [zS, zN, zH, zT]) ?_
  refine zst (op_ltI (by rfl) (by rfl)) rfl (by dsimp only [zS, zN, zH, zT]) ?_
  refine zst (op_move_tmp (by rfl)) rfl (by dsimp only [zS, zN, zH, zT]) ?_
  refine zuw rfl rfl rfl rfl (by dsimp only [zS, zN, zH, zT]) ?_
  refine zuw rfl rfl rfl rfl (by dsimp only [zS, zN, zH, zT]) ?_
  refine zuw rfl rfl rfl rfl (by dsimp only [zS, zN, zH, zT]) ?_
  refine zuw rfl rfl rfl rfl (by dsimp only [zS, zN, zH, zT]) ?_
  refine zuw rfl rfl rfl rfl (by dsimp only [zS, zN, zH, zT]) ?_
  refine zuw rfl rfl rfl rfl (by dsimp only [zS, zN, zH, zT]) ?_
  refine zuw rfl rfl rfl rfl (by dsimp only [zS, zN, zH, zT]) ?_
  refine zuw rfl rfl rfl rfl (by dsimp only [zS, zN, zH, zT]) ?_
  refine zst (op_pick_ff (by rfl) (val_const (by rfl))) rfl (by dsimp only [zS, zN, zH, zT]) ?_
  refine zst (op_assign_tmp (by rfl)) rfl (by dsimp only [zS, zN, zH, zT]) ?_
  refine zst (op_assign_tmp (by rfl)) rfl (by dsimp only [zS, zN, zH, zT]) ?_
  refine al_end rfl ?_
  refine then_normal ?_
  refine aw_ret ?_
  refine retPost2 rfl rfl rfl ?_
  exact ⟨rfl, rfl⟩
set_option maxRecDepth 100000 in
theorem behind_ok (Hs : HS) (seq : Int) : ACalls Try.prog 157 [nilS, .d (I seq)] Hs (Ret (.d (I 0)) Hs) := by
 refine acalls_of_aw Try.func157 rfl ?_
 refine aw_start (T' := [nilS, .d (I seq), .un, .un, .un, .un, .un, .un, .un, .un, .un, .un, .un, .un, .un, .un, .un]) rfl ?_
 refine aw_seq ?_
 refine aw_region ?_
 refine zst (op_assign_const (by rfl)) rfl (by dsimp only [zS, zN, zH, zT]) ?_
 refine al_end rfl ?_
 refine then_normal ?_
 refine aw_seq ?_
 refine aw_region ?_
 refine zst (op_move_tmp (by rfl)) rfl (by dsimp only [zS, zN, zH, zT]) ?_
 refine zst (op_move_tmp (by rfl)) rfl (by dsimp only [zS, zN, zH, zT]) ?_
 refine zst (op_callF Try.func172 (by rfl) (by rfl) (.tmp (by rfl) (.tmp (by rfl) (.func .nil))) (cbs_ok _ seq)) rfl (by dsimp only [zS, zN, zH, zT]) ?_
 refine zst (op_move_tmp (by rfl)) rfl (by dsimp only [zS, zN, zH, zT]) ?_
 refine zst (op_extract (by rfl) (by rfl)) rfl (by dsimp only [zS, zN, zH, zT]) ?_
 refine zst (op_extract (by rfl) (by rfl)) rfl (by dsimp only [zS, zN, zH, zT]) ?_
 refine zst (op_assign_tmp (by rfl)) rfl (by dsimp only [zS, zN, zH, zT]) ?_
 refine zst (op_assign_tmp (by rfl)) rfl (by dsimp only [zS, zN, zH, zT]) ?_
 refine al_end rfl ?_
 refine then_normal ?_
 refine aw_seq ?_
 refine aw_seq ?_
 refine aw_region ?_
 refine zst (op_move_tmp (by rfl)) rfl (by dsimp only [zS, zN, zH, zT]) ?_
 refine al_end rfl ?_
 refine then_normal ?_
 refine aw_cond rfl (fun h => by cases h) (fun _ => ?_)
 refine aw_skip ?_
 refine then_normal ?_
 refine aw_seq ?_
 refine aw_region ?_
 refine zst (op_move_tmp (by rfl)) rfl (by dsimp only [zS, zN, zH, zT]) ?_
 refine zst (op_assign_tmp (by rfl)) rfl (by dsimp only [zS, zN, zH, zT]) ?_
 refine al_end rfl ?_
 refine then_normal ?_
 refine aw_ret ?_
 refine retPost1 rfl rfl ?_
 exact ⟨rfl, rfl⟩
set_option maxRecDepth 100000 in
theorem at_ok (Hs : HS) (seq : Int) : ACalls Try.prog 127 [nilS, .d (I seq)] Hs (Ret (.tup [.d (S []), .d (TF false)]) Hs) := by
 refine acalls_of_aw Try.func127 rfl ?_
 refine aw_start (T' := [nilS, .d (I seq), .un, .un, .un, .un, .un, .un, .un, .un, .un, .un, .un, .un, .un, .un, .un, .un, .un, .un, .un, .un, .un, .un, .un, .un]) rfl ?_
 refine aw_seq ?_
 refine aw_region ?_
 refine zst (op_assign_const (by rfl)) rfl (by dsimp only [zS, zN, zH, zT]) ?_
 refine zst (op_assign_const (by rfl)) rfl (by dsimp only [zS, zN, zH, zT]) ?_
 refine al_end rfl ?_
 refine then_normal ?_
 refine aw_seq ?_
 refine aw_region ?_
 refine zst (op_move_tmp (by rfl)) rfl (by dsimp only [zS, zN, zH, zT]) ?_
 refine zst (op_move_tmp (by rfl)) rfl (by dsimp only [zS, zN, zH, zT]) ?_
 refine zst (op_callF Try.func157 (by rfl) (by rfl) (.tmp (by rfl) (.tmp (by rfl) .nil)) (behind_ok _ seq)) rfl (by dsimp only [zS, zN, zH, zT]) ?_
 refine zst (op_assign_tmp (by rfl)) rfl (by dsimp only [zS, zN, zH, zT]) ?_
 refine al_end rfl ?_
 refine then_normal ?_
 refine aw_seq ?_
 refine aw_seq ?_
 refine aw_region ?_
 refine zst (op_move_tmp (by rfl)) rfl (by dsimp only [zS, zN, zH, zT]) ?_
 refine zst (op_eqI (by rfl) (by rfl)) rfl (by dsimp only [zS, zN, zH, zT]) ?_
 refine zst (op_move_tmp (by rfl)) rfl (by dsimp only [zS, zN, zH, zT]) ?_
 refine zuw rfl rfl rfl rfl (by dsimp only [zS, zN, zH, zT]) ?_
 refine zuw rfl rfl rfl rfl (by dsimp only [zS, zN, zH, zT]) ?_
 refine zuw rfl rfl rfl rfl (by dsimp only [zS, zN, zH, zT]) ?_
 refine zuw rfl rfl rfl rfl (by dsimp only [zS, zN, zH, zT]) ?_
 refine zuw rfl rfl rfl rfl (by dsimp only [zS, zN, zH, zT]) ?_
 refine zuw rfl rfl rfl rfl (by dsimp only [zS, zN, zH, zT]) ?_
 refine zst (op_pick_tt (by rfl) (val_const (by rfl))) rfl (by dsimp only [zS, zN, zH, zT]) ?_
 refine al_end rfl ?_
 refine then_normal ?_
 refine aw_cond rfl (fun _ => ?_) (fun h => by cases h)
 refine aw_seq ?_
 refine aw_region ?_
 refine zst (op_assign_const (by rfl)) rfl (by dsimp only [zS, zN, zH, zT]) ?_
 refine zst (op_assign_const (by rfl)) rfl (by dsimp only [zS, zN, zH, zT]) ?_
 refine al_end rfl ?_
 refine then_normal ?_
 refine aw_ret ?_
 refine then_ret ?_
 refine retPost2 rfl rfl rfl ?_
 exact ⟨rfl, rfl⟩
set_option maxRecDepth 100000 in
theorem sget_ok (Hs : HS) (sid : Nat) (key : List UInt8) (seq : Int) (hS : Hs.blks[sid]? = some ⟨134, [nilS, .d (I 0), .d (I 0), nilS], false⟩) : ACalls Try.prog 97 [.ptr sid 0, .d (S key), .d (I seq)] Hs (Ret (.tup [.d (S []), .d (TF false)]) Hs) := by
 refine acalls_of_aw Try.func97 rfl ?_
 refine aw_start (T' := [.ptr sid 0, .d (S key), .d (I seq), .un, .un, .un, .un, .un, .un, .un, .un, .un, .un, .un, .un, .un, .un, .un, .un, .un, .un, .un, .un, .un, .un]) rfl ?_
 refine aw_seq ?_
 refine aw_region ?_
 refine zst (op_assign_const (by rfl)) rfl (by dsimp only [zS, zN, zH, zT]) ?_
 refine zst (op_assign_const (by rfl)) rfl (by dsimp only [zS, zN, zH, zT]) ?_
 refine al_end rfl ?_
 refine then_normal ?_
 refine aw_seq ?_
 refine aw_seq ?_
 refine aw_region ?_
 refine zst (op_move_tmp (by rfl)) rfl (by dsimp only [zS, zN, zH, zT]) ?_
 refine zst (op_ptr_nil Try.underlying69 (by rfl) (by rfl)) rfl (by dsimp only [zS, zN, zH, zT]) ?_
 refine al_end rfl ?_
 refine then_normal ?_
 refine aw_cond rfl (fun h => by cases h) (fun _ => ?_)
 refine aw_skip ?_
 refine then_normal ?_
 refine aw_seq ?_
 refine aw_region ?_
 refine zst (op_move_tmp (by rfl)) rfl (by dsimp only [zS, zN, zH, zT]) ?_
 refine zst (by first | exact op_nilCheck_ptr (by rfl) | exact op_nilCheck_elt (by rfl)) rfl (by dsimp only [zS, zN, zH, zT]) ?_
 refine zst (by first | exact op_fieldAddr_ptr Try.underlying134 rfl Sz132 (by rfl) (by rfl) | exact op_fieldAddr_elt Try.underlying134 rfl Sz132 (by rfl) (by rfl) (by rfl)) rfl (by dsimp only [zS, zN, zH, zT]) ?_
 refine zst (op_move_tmp (by rfl)) rfl (by dsimp only [zS, zN, zH, zT]) ?_
 refine zst (op_callF Try.func126 (by rfl) (by rfl) (.tmp (by rfl) (.tmp (by rfl) .nil)) (cget_ok _ sid key hS)) rfl (by dsimp only [zS, zN, zH, zT]) ?_
 refine zst (op_move_tmp (by rfl)) rfl (by dsimp only [zS, zN, zH, zT]) ?_
 refine zst (op_extract (by rfl) (by rfl)) rfl (by dsimp only [zS, zN, zH, zT]) ?_
 refine zst (op_extract (by rfl) (by rfl)) rfl (by dsimp only [zS, zN, zH, zT]) ?_
 refine zst (op_assign_tmp (by rfl)) rfl (by dsimp only [zS, zN, zH, zT]) ?_
 refine zst (op_assign_tmp (by rfl)) rfl (by dsimp only [zS, zN, zH, zT]) ?_
 refine al_end rfl ?_
 refine then_normal ?_
 refine aw_seq ?_
 refine aw_region ?_
 refine zst (op_move_tmp (by rfl)) rfl (by dsimp only [zS, zN, zH, zT]) ?_
 refine zst (op_move_tmp (by rfl)) rfl (by dsimp only [zS, zN, zH, zT]) ?_
 refine zst (op_callF Try.func127 (by rfl) (by rfl) (.tmp (by rfl) (.tmp (by rfl) .nil)) (at_ok _ seq)) rfl (by dsimp only [zS, zN, zH, zT]) ?_
 refine zst (op_extract (by rfl) (by rfl)) rfl (by dsimp only [zS, zN, zH, zT]) ?_
 refine zst (op_extract (by rfl) (by rfl)) rfl (by dsimp only [zS, zN, zH, zT]) ?_
 refine zst (op_assign_tmp (by rfl)) rfl (by dsimp only [zS, zN, zH, zT]) ?_
 refine zst (op_assign_tmp (by rfl)) rfl (by dsimp only [zS, zN, zH, zT]) ?_
 refine al_end rfl ?_
 refine then_normal ?_
 refine aw_ret ?_
 refine retPost2 rfl rfl rfl ?_
 exact ⟨rfl, rfl⟩
set_option maxRecDepth 100000 in
theorem last_ok (Hs : HS) (sid : Nat) (hS : Hs.blks[sid]? = some ⟨134, [nilS, .d (I 0), .d (I 0), nilS], false⟩) : ACalls Try.prog 63 [.ptr sid 0] Hs (Ret (.d (I 0)) Hs) := by
 refine acalls_of_aw Try.func63 rfl ?_
 refine aw_start (T' := [.ptr sid 0, .un, .un, .un, .un, .un, .un, .un, .un, .un, .un, .un, .un, .un, .un]) rfl ?_
 refine aw_seq ?_
 refine aw_region ?_
 refine zst (op_assign_const (by rfl)) rfl (by dsimp only [zS, zN, zH, zT]) ?_
 refine al_end rfl ?_
 refine then_normal ?_
 refine aw_seq ?_
 refine aw_seq ?_
 refine aw_region ?_
 refine zst (op_move_tmp (by rfl)) rfl (by dsimp only [zS, zN, zH, zT]) ?_
 refine zst (op_ptr_nil Try.underlying69 (by rfl) (by rfl)) rfl (by dsimp only [zS, zN, zH, zT]) ?_
 refine al_end rfl ?_
 refine then_normal ?_
 refine aw_cond rfl (fun h => by cases h) (fun _ => ?_)
 refine aw_skip ?_
 refine then_normal ?_
 refine aw_seq ?_
 refine aw_draw [0, 0, 0, 1, 0, 0, 0, 1, 0, 0, 0] mixed (by kernel_rfl) ?_
 refine zd0 (fun H => (op_move_tmp (by rfl))) rfl (by dsimp only [zS, zN, zH, zT]) ?_
 refine zd0 (fun H => (by first | exact op_nilCheck_ptr (by rfl) | exact op_nilCheck_elt (by rfl))) rfl (by dsimp only [zS, zN, zH, zT]) ?_
 refine zd0 (fun H => (by first | exact op_fieldAddr_ptr Try.underlying134 rfl Sz3 (by rfl) (by rfl) | exact op_fieldAddr_elt Try.underlying134 rfl Sz3 (by rfl) (by rfl) (by rfl))) rfl (by dsimp only [zS, zN, zH, zT]) ?_
 refine zd1 (by first | exact op_load_elt Try.underlying3 (by rfl) (by rfl) (by rfl) | exact op_load_ptr Try.underlying3 (by rfl) (by rfl) (by assumption) (by rfl)) rfl (by dsimp only [zS, zN, zH, zT]) ?_
 refine zd0 (fun H => (op_move_tmp (by rfl))) rfl (by dsimp only [zS, zN, zH, zT]) ?_
 refine zd0 (fun H => (by first | exact op_nilCheck_ptr (by rfl) | exact op_nilCheck_elt (by rfl))) rfl (by dsimp only [zS, zN, zH, zT]) ?_
 refine zd0 (fun H => (by first | exact op_fieldAddr_ptr Try.underlying134 rfl Sz40 (by rfl) (by rfl) | exact op_fieldAddr_elt Try.underlying134 rfl Sz40 (by rfl) (by rfl) (by rfl))) rfl (by dsimp only [zS, zN, zH, zT]) ?_
 refine zd1 (by first | exact op_load_elt Try.underlying40 (by rfl) (by rfl) (by rfl) | exact op_load_ptr Try.underlying40 (by rfl) (by rfl) (by assumption) (by rfl)) rfl (by dsimp only [zS, zN, zH, zT]) ?_
 refine zd0 (fun H => (op_lenL Try.underlying40 (LL.nil 3))) rfl (by dsimp only [zS, zN, zH, zT]) ?_
 refine zd0 (fun H => (by first | exact op_add (by rfl) (by rfl) (wrap_i64 ⟨by omega, by omega⟩) | exact op_add (by rfl) (by rfl) (by rfl))) rfl (by dsimp only [zS, zN, zH, zT]) ?_
 refine zd0 (fun H => (op_assign_tmp (by rfl))) rfl (by dsimp only [zS, zN, zH, zT]) ?_
 refine drun_end rfl ?_
 refine then_normal ?_
 refine aw_ret ?_
 refine retPost1 rfl rfl ?_
 exact ⟨rfl, rfl⟩
set_option maxRecDepth 100000 in
theorem rises0_ok (Hs : HS) : ACalls Try.prog 61 [nilS] Hs (Ret (.d (TF true)) Hs) := by
 refine acalls_of_aw Try.func61 rfl ?_
 refine aw_start (T' := [nilS, .un, .un, .un, .un, .un, .un, .un, .un, .un, .un, .un, .un, .un, .un, .un, .un, .un, .un, .un, .un, .un, .un, .un, .un, .un, .un, .un, .un, .un, .un, .un, .un, .un, .un, .un, .un, .un, .un, .un, .un, .un, .un, .un, .un, .un, .un, .un, .un, .un, .un, .un]) rfl ?_
 refine aw_seq ?_
 refine aw_region ?_
 refine zst (op_assign_const (by rfl)) rfl (by dsimp only [zS, zN, zH, zT]) ?_
 refine al_end rfl ?_
 refine then_normal ?_
 refine aw_seq ?_
 refine aw_seq ?_
 refine aw_region ?_
 refine zst (op_move_tmp (by rfl)) rfl (by dsimp only [zS, zN, zH, zT]) ?_
 refine zst (op_lenL Try.underlying46 (LL.nil 3)) rfl (by dsimp only [zS, zN, zH, zT]) ?_
 refine zst (op_move_const (by rfl)) rfl (by dsimp only [zS, zN, zH, zT]) ?_
 refine al_end rfl ?_
 refine then_normal ?_
 refine aw_block ?_
 apply aw_loopF (fun n T H => ∃ (j : Nat), T = [nilS, .un, .un, .un, .un, nilS, .d (I 0), .d (I 0), .un, .un, .un, .un, .un, .un, .un, .un, .un, .un, .un, .un, .un, .un, .un, .un, .un, .un, .un, .un, .un, .un, .un, .un, .un, .un, .un, .un, .un, .un, .un, .un, .un, .un, .un, .un, .un, .un, .un, .un, .un, .un, .un, .un] ∧ j = 0 ∧ n = 0 ∧ Hs = H) (0) [true, false, false, false, false, true, true, true, false, false, false, false, false, false, false, false, false, false, false, false, false, false, false, false, false, false, false, false, false, false, false, false, false, false, false, false, false, false, false, false, false, false, false, false, false, false, false, false, false, false, false, false]
 · (try dsimp only [maskT]); try exact rfl
 · rfl
 · exact ⟨0, rfl, rfl, rfl, rfl⟩
 rintro n T H ⟨j, rfl, hj, rfl, rfl⟩
 refine aw_seq ?_
 refine aw_region ?_
 refine zst (op_ltI (by rfl) (by rfl)) rfl (by dsimp only [zS, zN, zH, zT]) ?_
 refine al_end rfl ?_
 refine then_normal ?_
 refine aw_seq ?_
 refine aw_cond rfl (fun hc1 => ?_) (fun hc1 => ?_)
 ·
  (try simp only [y1, y2, y3, y4, y5, y6, y7, y8, y9, y0, List.length_map] at hc1)
  exact absurd hc1 (by decide)
 ·
  (try simp only [y1, y2, y3, y4, y5, y6, y7, y8, y9, y0, List.length_map] at hc1)
  refine aw_exit ?_
  refine then_exit (again_exit (inBlock_here (then_normal ?_)))
  refine aw_seq ?_
  refine aw_region ?_
  refine zst (op_assign_const (by rfl)) rfl (by dsimp only [zS, zN, zH, zT]) ?_
  refine al_end rfl ?_
  refine then_normal ?_
  refine aw_ret ?_
  refine retPost1 rfl rfl ?_
  exact ⟨rfl, rfl⟩
set_option maxRecDepth 100000 in
theorem rises1_ok (Hs : HS) (v : AV) (w : Wt) (hv : LL v 3 [wD w]) (hk : w.key ≠ []) (hkl : w.key.length ≤ 400) (hvl : w.val.length ≤ 4096) (hg : w.gone = false)  : ACalls Try.prog 61 [v] Hs (Ret (.d (TF true)) Hs) := by
 refine ACalls.tidy1 ?_
 refine acalls_of_aw Try.func61 rfl ?_
 refine aw_start (T' := [v, .un, .un, .un, .un, .un, .un, .un, .un, .un, .un, .un, .un, .un, .un, .un, .un, .un, .un, .un, .un, .un, .un, .un, .un, .un, .un, .un, .un, .un, .un, .un, .un, .un, .un, .un, .un, .un, .un, .un, .un, .un, .un, .un, .un, .un, .un, .un, .un, .un, .un, .un]) rfl ?_
 refine aw_seq ?_
 refine aw_region ?_
 refine zst (op_assign_const (by rfl)) rfl (by dsimp only [zS, zN, zH, zT]) ?_
 refine al_end rfl ?_
 refine then_normal ?_
 refine aw_seq ?_
 refine aw_seq ?_
 refine aw_region ?_
 refine zst (op_move_tmp (by rfl)) rfl (by dsimp only [zS, zN, zH, zT]) ?_
 refine zst (op_lenL Try.underlying46 hv) rfl (by dsimp only [zS, zN, zH, zT]) ?_
 refine zst (op_move_const (by rfl)) rfl (by dsimp only [zS, zN, zH, zT]) ?_
 refine al_end rfl ?_
 refine then_normal ?_
 refine aw_block ?_
 apply aw_loopF (fun n T H => ∃ (j : Nat), T = [v, .un, .un, .un, .un, v, .d (I 1), .d (I j), .un, .un, .un, .un, .un, .un, .un, .un, .un, .un, .un, .un, .un, .un, .un, .un, .un, .un, .un, .un, .un, .un, .un, .un, .un, .un, .un, .un, .un, .un, .un, .un, .un, .un, .un, .un, .un, .un, .un, .un, .un, .un, .un, .un] ∧ j ≤ 1 ∧ n = 1 - j ∧ Ext Hs H) (1) [true, false, false, false, false, true, true, true, false, false, false, false, false, false, false, false, false, false, false, false, false, false, false, false, false, false, false, false, false, false, false, false, false, false, false, false, false, false, false, false, false, false, false, false, false, false, false, false, false, false, false, false]
 · (try dsimp only [maskT]); try exact rfl
 · rfl
 · exact ⟨0, rfl, by omega, rfl, Ext.refl Hs⟩
 rintro n T H ⟨j, rfl, hj, rfl, hx⟩
 refine aw_seq ?_
 refine aw_region ?_
 refine zst (op_ltI (by rfl) (by rfl)) rfl (by dsimp only [zS, zN, zH, zT]) ?_
 refine al_end rfl ?_
 refine then_normal ?_
 refine aw_seq ?_
 refine aw_cond rfl (fun hc1 => ?_) (fun hc1 => ?_)
 ·
  (try simp only [y1, y2, y3, y4, y5, y6, y7, y8, y9, y0, List.length_map] at hc1)
  have hj0 : 0 = j := by omega
  refine aw_skip ?_
  refine then_normal ?_
  refine aw_seq ?_
  refine aw_block ?_
  refine aw_seq ?_
  refine aw_region ?_
  refine zst (op_move_tmp (by rfl)) rfl (by dsimp only [zS, zN, zH, zT]) ?_
  refine zst (op_indexAddr (z := wD w) (cs := [S w.key, S w.val, TF w.gone]) Try.underlying46 Sz51 hv (by rfl) (by omega) (by subst hj0; rfl) (by rfl)) rfl (by dsimp only [zS, zN, zH, zT]) ?_
  refine zst (op_load_elts (ds := wC w) Try.underlying51 (by rfl) Sz51 (by rfl) (Nat.le_of_ble_eq_true rfl) (by rfl)) rfl (by dsimp only [zS, zN, zH, zT]) ?_
  refine zst (op_alloc (Zr51) (by rfl)) rfl (by dsimp only [zS, zN, zH, zT]) ?_
  refine zst (op_assign_tmp (by rfl)) rfl (by dsimp only [zS, zN, zH, zT]) ?_
  refine zst (op_storeB (vs := [.d (S w.key), .d (S w.val), .d (TF w.gone)]) (b' := ⟨51, [.d (S w.key), .d (S w.val), .d (TF w.gone)], false⟩) (H' := _) Sz51 (by rfl) push_at (by intro h; cases h) (by rfl) (by rfl) (Nat.le_of_ble_eq_true rfl) (by simp [AV.one, DV.one, TF, S, I, BY]) (by rfl) (by rfl) rfl) rfl (by dsimp only [zS, zN, zH, zT]) ?_
  refine al_end rfl ?_
  refine then_normal ?_
  refine aw_seq ?_
  refine aw_draw [0, 1, 0, 0, 0, 1, 0, 0, 0, 0, 0, 1, 0, 0, 0, 0, 0, 1, 0, 0, 1, 0, 0, 0, 0, 0, 0, 0, 0, 0, 0, 0, 0, 1, 0, 1, 0, 0, 0] mixed (by kernel_rfl) ?_
  refine zd0 (fun H => (by first | exact op_fieldAddr_ptr Try.underlying51 rfl Sz9 (by rfl) (by rfl) | exact op_fieldAddr_elt Try.underlying51 rfl Sz9 (by rfl) (by rfl) (by rfl))) rfl (by dsimp only [zS, zN, zH, zT]) ?_
  refine zd1 (by first | exact op_load_elt Try.underlying9 (by rfl) (by rfl) (by rfl) | exact op_load_ptr Try.underlying9 (by rfl) (by rfl) (by exact setB_at push_at) (by rfl)) rfl (by dsimp only [zS, zN, zH, zT]) ?_
  refine zd0 (fun H => (op_eqS (by rfl) (by rfl))) rfl (by dsimp only [zS, zN, zH, zT]) ?_
  refine zd0 (fun H => (op_move_tmp (by rfl))) rfl (by dsimp only [zS, zN, zH, zT]) ?_
  refine drun_split 15 rfl (fun hg2 => ?_) (fun hg2 => ?_)
  ·
   (try simp only [y1, y2, y3, y4, y5, y6, y7, y8, y9, y0, List.length_map] at hg2)
   apply drun_normT
   · (try dsimp only [zS, zN, zH, zT]); try exact rfl
   exact absurd (by simpa using hg2) hk
  ·
   (try simp only [y1, y2, y3, y4, y5, y6, y7, y8, y9, y0, List.length_map] at hg2)
   apply drun_normT
   · (try dsimp only [zS, zN, zH, zT]); try exact rfl
   refine zd0w rfl rfl rfl (fun H => (by first | exact op_fieldAddr_ptr Try.underlying51 rfl Sz9 (by rfl) (by rfl) | exact op_fieldAddr_elt Try.underlying51 rfl Sz9 (by rfl) (by rfl) (by rfl))) (by dsimp only [zS, zN, zH, zT]) ?_
   refine zd1w rfl rfl rfl (by first | exact op_load_elt Try.underlying9 (by rfl) (by rfl) (by rfl) | exact op_load_ptr Try.underlying9 (by rfl) (by rfl) (by exact setB_at push_at) (by rfl)) (by dsimp only [zS, zN, zH, zT]) ?_
   refine zd0w rfl rfl rfl (fun H => (op_lenS Try.underlying9 (by rfl))) (by dsimp only [zS, zN, zH, zT]) ?_
   refine zd0w rfl rfl rfl (fun H => (op_gtI (by rfl) (by rfl))) (by dsimp only [zS, zN, zH, zT]) ?_
   refine zd0 (fun H => (op_pick_ff (by rfl) (val_tmp (by rfl)))) rfl (by dsimp only [zS, zN, zH, zT]) ?_
   refine zd0 (fun H => (op_move_tmp (by rfl))) rfl (by dsimp only [zS, zN, zH, zT]) ?_
   refine drun_split 21 rfl (fun hg3 => ?_) (fun hg3 => ?_)
   ·
    (try simp only [y1, y2, y3, y4, y5, y6, y7, y8, y9, y0, List.length_map] at hg3)
    apply drun_normT
    · (try dsimp only [zS, zN, zH, zT]); try exact rfl
    exact absurd hg3 (by omega)
   ·
    (try simp only [y1, y2, y3, y4, y5, y6, y7, y8, y9, y0, List.length_map] at hg3)
    apply drun_normT
    · (try dsimp only [zS, zN, zH, zT]); try exact rfl
    refine zd0w rfl rfl rfl (fun H => (by first | exact op_fieldAddr_ptr Try.underlying51 rfl Sz9 (by rfl) (by rfl) | exact op_fieldAddr_elt Try.underlying51 rfl Sz9 (by rfl) (by rfl) (by rfl))) (by dsimp only [zS, zN, zH, zT]) ?_
    refine zd1w rfl rfl rfl (by first | exact op_load_elt Try.underlying9 (by rfl) (by rfl) (by rfl) | exact op_load_ptr Try.underlying9 (by rfl) (by rfl) (by exact setB_at push_at) (by rfl)) (by dsimp only [zS, zN, zH, zT]) ?_
    refine zd0w rfl rfl rfl (fun H => (op_lenS Try.underlying9 (by rfl))) (by dsimp only [zS, zN, zH, zT]) ?_
    refine zd0w rfl rfl rfl (fun H => (op_gtI (by rfl) (by rfl))) (by dsimp only [zS, zN, zH, zT]) ?_
    refine zd0 (fun H => (op_pick_ff (by rfl) (val_tmp (by rfl)))) rfl (by dsimp only [zS, zN, zH, zT]) ?_
    refine zd0 (fun H => (op_move_tmp (by rfl))) rfl (by dsimp only [zS, zN, zH, zT]) ?_
    refine drun_split 27 rfl (fun hg4 => ?_) (fun hg4 => ?_)
    ·
     (try simp only [y1, y2, y3, y4, y5, y6, y7, y8, y9, y0, List.length_map] at hg4)
     apply drun_normT
     · (try dsimp only [zS, zN, zH, zT]); try exact rfl
     exact absurd hg4 (by omega)
    ·
     (try simp only [y1, y2, y3, y4, y5, y6, y7, y8, y9, y0, List.length_map] at hg4)
     apply drun_normT
     · (try dsimp only [zS, zN, zH, zT]); try exact rfl
     refine zd0w rfl rfl rfl (fun H => (by first | exact op_fieldAddr_ptr Try.underlying51 rfl Sz4 (by rfl) (by rfl) | exact op_fieldAddr_elt Try.underlying51 rfl Sz4 (by rfl) (by rfl) (by rfl))) (by dsimp only [zS, zN, zH, zT]) ?_
     refine zd1w rfl rfl rfl (by first | exact op_load_elt Try.underlying4 (by rfl) (by rfl) (by rfl) | exact op_load_ptr Try.underlying4 (by rfl) (by rfl) (by exact setB_at push_at) (by rfl)) (by dsimp only [zS, zN, zH, zT]) ?_
     refine zd0w rfl rfl rfl (fun H => (op_move_tmp (by rfl))) (by dsimp only [zS, zN, zH, zT]) ?_
     refine drun_split 30 rfl (fun hg5 => ?_) (fun hg5 => ?_)
     ·
      (try simp only [y1, y2, y3, y4, y5, y6, y7, y8, y9, y0, List.length_map] at hg5)
      apply drun_normT
      · (try dsimp only [zS, zN, zH, zT]); try exact rfl
      exact absurd (hg.symm.trans hg5) (by decide)
     ·
      (try simp only [y1, y2, y3, y4, y5, y6, y7, y8, y9, y0, List.length_map] at hg5)
      apply drun_normT
      · (try dsimp only [zS, zN, zH, zT]); try exact rfl
      refine zdU rfl rfl rfl rfl (by dsimp only [zS, zN, zH, zT]) ?_
      refine zdU rfl rfl rfl rfl (by dsimp only [zS, zN, zH, zT]) ?_
      refine zdU rfl rfl rfl rfl (by dsimp only [zS, zN, zH, zT]) ?_
      refine zd0w rfl rfl rfl (fun H => (op_pick_ff (by rfl) (val_const (by rfl)))) (by dsimp only [zS, zN, zH, zT]) ?_
      refine zd0 (fun H => (op_pick_ff (by rfl) (val_tmp (by rfl)))) rfl (by dsimp only [zS, zN, zH, zT]) ?_
      refine zd0 (fun H => (op_move_tmp (by rfl))) rfl (by dsimp only [zS, zN, zH, zT]) ?_
      refine zd0w rfl rfl rfl (fun H => (op_move_tmp (by rfl))) (by dsimp only [zS, zN, zH, zT]) ?_
      refine zd0w rfl rfl rfl (fun H => (op_gtI (by rfl) (by rfl))) (by dsimp only [zS, zN, zH, zT]) ?_
      refine zd0w rfl rfl rfl (fun H => (op_move_tmp (by rfl))) (by dsimp only [zS, zN, zH, zT]) ?_
      refine drun_split 39 rfl (fun hg6 => ?_) (fun hg6 => ?_)
      ·
       (try simp only [y1, y2, y3, y4, y5, y6, y7, y8, y9, y0, List.length_map] at hg6)
       apply drun_normT
       · (try dsimp only [zS, zN, zH, zT]); try exact rfl
       exact absurd hg6 (by omega)
      ·
       (try simp only [y1, y2, y3, y4, y5, y6, y7, y8, y9, y0, List.length_map] at hg6)
       apply drun_normT
       · (try dsimp only [zS, zN, zH, zT]); try exact rfl
       refine zdU rfl rfl rfl rfl (by dsimp only [zS, zN, zH, zT]) ?_
       refine zdU rfl rfl rfl rfl (by dsimp only [zS, zN, zH, zT]) ?_
       refine zdU rfl rfl rfl rfl (by dsimp only [zS, zN, zH, zT]) ?_
       refine zdU rfl rfl rfl rfl (by dsimp only [zS, zN, zH, zT]) ?_
       refine zdU rfl rfl rfl rfl (by dsimp only [zS, zN, zH, zT]) ?_
       refine zdU rfl rfl rfl rfl (by dsimp only [zS, zN, zH, zT]) ?_
       refine zdU rfl rfl rfl rfl (by dsimp only [zS, zN, zH, zT]) ?_
       refine zdU rfl rfl rfl rfl (by dsimp only [zS, zN, zH, zT]) ?_
       refine zdU rfl rfl rfl rfl (by dsimp only [zS, zN, zH, zT]) ?_
       refine zd0w rfl rfl rfl (fun H => (op_pick_ff (by rfl) (val_const (by rfl)))) (by dsimp only [zS, zN, zH, zT]) ?_
       refine zd0 (fun H => (op_pick_ff (by rfl) (val_tmp (by rfl)))) rfl (by dsimp only [zS, zN, zH, zT]) ?_
       refine drun_end rfl ?_
       refine then_normal ?_
       refine aw_cond rfl (fun h => by cases h) (fun _ => ?_)
       refine aw_skip ?_
       refine inBlock_normal (then_normal ?_)
       refine aw_region ?_
       refine zst (by first | exact op_add (by rfl) (by rfl) (wrap_i64 ⟨by omega, by omega⟩) | exact op_add (by rfl) (by rfl) (by rfl)) rfl (by dsimp only [zS, zN, zH, zT]) ?_
       refine zst (op_move_tmp (by rfl)) rfl (by dsimp only [zS, zN, zH, zT]) ?_
       refine al_end rfl ?_
       apply again_to (1 - (j + 1)) [true, false, false, false, false, true, true, true, false, false, false, false, false, false, false, false, false, false, false, false, false, false, false, false, false, false, false, false, false, false, false, false, false, false, false, false, false, false, false, false, false, false, false, false, false, false, false, false, false, false, false, false]
       · (try dsimp only [maskT]); try exact rfl
       · rfl
       · omega
       exact ⟨j + 1, rfl, by omega, rfl, (hx.push _ _).setB (nb_le hx)⟩
 ·
  (try simp only [y1, y2, y3, y4, y5, y6, y7, y8, y9, y0, List.length_map] at hc1)
  have hje : j = 1 := by omega
  subst hje
  refine aw_exit ?_
  refine then_exit (again_exit (inBlock_here (then_normal ?_)))
  refine aw_seq ?_
  refine aw_region ?_
  refine zst (op_assign_const (by rfl)) rfl (by dsimp only [zS, zN, zH, zT]) ?_
  refine al_end rfl ?_
  refine then_normal ?_
  refine aw_ret ?_
  refine retPost1 rfl rfl ?_
  exact ⟨rfl, hx⟩
set_option maxRecDepth 100000 in
theorem right1_ok (Hs : HS) (v : AV) (w : Wt) (hv : LL v 3 [wD w]) (hk : w.key ≠ []) (hkl : w.key.length ≤ 400) (hvl : w.val.length ≤ 4096) (hg : w.gone = false)  : ACalls Try.prog 128 [v] Hs (Ret (.d (TF true)) Hs) := by
 refine acalls_of_aw Try.func128 rfl ?_
 refine aw_start (T' := [v, .un, .un, .un, .un, .un, .un, .un, .un, .un]) rfl ?_
 refine aw_seq ?_
 refine aw_region ?_
 refine zst (op_assign_const (by rfl)) rfl (by dsimp only [zS, zN, zH, zT]) ?_
 refine al_end rfl ?_
 refine then_normal ?_
 refine aw_seq ?_
 refine aw_region ?_
 refine zst (op_move_tmp (by rfl)) rfl (by dsimp only [zS, zN, zH, zT]) ?_
 refine zst (op_lenL Try.underlying46 hv) rfl (by dsimp only [zS, zN, zH, zT]) ?_
 refine zst (op_leI (by rfl) (by rfl)) rfl (by dsimp only [zS, zN, zH, zT]) ?_
 refine zst (op_move_tmp (by rfl)) rfl (by dsimp only [zS, zN, zH, zT]) ?_
 refine zsw rfl rfl rfl (op_move_tmp (by rfl)) (by dsimp only [zS, zN, zH, zT]) ?_
 refine zsw rfl rfl rfl (op_callF Try.func61 (by rfl) (by rfl) (.tmp (by rfl) .nil) (rises1_ok _ v w hv hk hkl hvl hg)) (by dsimp only [zS, zN, zH, zT]) ?_
 refine zst (op_pick_tt (by rfl) (val_tmp (by rfl))) rfl (by dsimp only [zS, zN, zH, zT]) ?_
 refine zst (op_assign_tmp (by rfl)) rfl (by dsimp only [zS, zN, zH, zT]) ?_
 refine al_end rfl ?_
 refine then_normal ?_
 refine aw_ret ?_
 refine retPost1 rfl rfl ?_
 exact ⟨rfl, rfl⟩
set_option maxRecDepth 100000 in
theorem new_ok (Hs : HS) : ACalls Try.prog 25 [.d (I 0), nilS] Hs (Ret (.tup [.ptr Hs.nb 0, .d (I 0)]) (Hs.push 134 [nilS, .d (I 0), .d (I 0), nilS])) := by
 refine acalls_of_aw Try.func25 rfl ?_
 refine aw_start (T' := [.d (I 0), nilS, .un, .un, .un, .un, .un, .un, .un, .un, .un, .un, .un, .un, .un, .un, .un, .un, .un, .un, .un, .un, .un, .un, .un, .un, .un, .un, .un, .un, .un, .un, .un, .un, .un, .un, .un, .un, .un, .un, .un, .un, .un, .un]) rfl ?_
 refine aw_seq ?_
 refine aw_region ?_
 refine zst (op_assign_const (by rfl)) rfl (by dsimp only [zS, zN, zH, zT]) ?_
 refine zst (op_assign_const (by rfl)) rfl (by dsimp only [zS, zN, zH, zT]) ?_
 refine al_end rfl ?_
 refine then_normal ?_
 refine aw_seq ?_
 refine aw_seq ?_
 refine aw_region ?_
 refine zst (op_move_tmp (by rfl)) rfl (by dsimp only [zS, zN, zH, zT]) ?_
 refine zst (op_ltI (by rfl) (by rfl)) rfl (by dsimp only [zS, zN, zH, zT]) ?_
 refine zst (op_move_tmp (by rfl)) rfl (by dsimp only [zS, zN, zH, zT]) ?_
 refine zsw rfl rfl rfl (op_move_tmp (by rfl)) (by dsimp only [zS, zN, zH, zT]) ?_
 refine zsw rfl rfl rfl (op_gtI (by rfl) (by rfl)) (by dsimp only [zS, zN, zH, zT]) ?_
 refine zst (op_pick_ff (by rfl) (val_tmp (by rfl))) rfl (by dsimp only [zS, zN, zH, zT]) ?_
 refine zst (op_move_tmp (by rfl)) rfl (by dsimp only [zS, zN, zH, zT]) ?_
 refine zsw rfl rfl rfl (op_move_tmp (by rfl)) (by dsimp only [zS, zN, zH, zT]) ?_
 refine zsw rfl rfl rfl (op_callF Try.func61 (by rfl) (by rfl) (.tmp (by rfl) .nil) (rises0_ok _)) (by dsimp only [zS, zN, zH, zT]) ?_
 refine zsw rfl rfl rfl (op_not (by rfl)) (by dsimp only [zS, zN, zH, zT]) ?_
 refine zst (op_pick_ff (by rfl) (val_tmp (by rfl))) rfl (by dsimp only [zS, zN, zH, zT]) ?_
 refine al_end rfl ?_
 refine then_normal ?_
 refine aw_cond rfl (fun h => by cases h) (fun _ => ?_)
 refine aw_skip ?_
 refine then_normal ?_
 refine aw_seq ?_
 refine aw_region ?_
 refine zst (op_move_tmp (by rfl)) rfl (by dsimp only [zS, zN, zH, zT]) ?_
 refine zst (op_build (pl := [(0, 2), (2, 1), (3, 1)]) (cs := [nilS, .d (I 0), .d (I 0), nilS]) Try.underlying134 Zr134 (by kernel_rfl) (by rfl) (by rfl) (by rfl)) rfl (by dsimp only [zS, zN, zH, zT]) ?_
 refine zst (op_box_ptr (cs := [nilS, .d (I 0), .d (I 0), nilS]) (by intro h; cases h) (by rfl)) rfl (by dsimp only [zS, zN, zH, zT]) ?_
 refine zst (op_assign_tmp (by rfl)) rfl (by dsimp only [zS, zN, zH, zT]) ?_
 refine al_end rfl ?_
 refine then_normal ?_
 refine aw_seq ?_
 refine aw_seq ?_
 refine aw_region ?_
 refine zst (op_move_tmp (by rfl)) rfl (by dsimp only [zS, zN, zH, zT]) ?_
 refine zst (op_lenL Try.underlying46 (LL.nil 3)) rfl (by dsimp only [zS, zN, zH, zT]) ?_
 refine zst (op_move_const (by rfl)) rfl (by dsimp only [zS, zN, zH, zT]) ?_
 refine al_end rfl ?_
 refine then_normal ?_
 refine aw_block ?_
 apply aw_loopF (fun n T H => ∃ (j : Nat), T = [.un, .un, .un, .un, .un, .un, .ptr Hs.nb 0, .un, .un, .un, .un, .un, .un, .un, .un, .un, .un, .un, .un, .un, .un, .un, .un, nilS, .d (I 0), .d (I 0), .un, .un, .un, .un, .un, .un, .un, .un, .un, .un, .un, .un, .un, .un, .un, .un, .un, .un] ∧ j = 0 ∧ n = 0 ∧ H = Hs.push 134 [nilS, .d (I 0), .d (I 0), nilS]) (0) [false, false, false, false, false, false, true, false, false, false, false, false, false, false, false, false, false, false, false, false, false, false, false, true, true, true, false, false, false, false, false, false, false, false, false, false, false, false, false, false, false, false, false, false]
 · (try dsimp only [maskT]); try exact rfl
 · rfl
 · exact ⟨0, rfl, rfl, rfl, rfl⟩
 rintro n T H ⟨j, rfl, hj, rfl, rfl⟩
 refine aw_seq ?_
 refine aw_region ?_
 refine zst (op_ltI (by rfl) (by rfl)) rfl (by dsimp only [zS, zN, zH, zT]) ?_
 refine al_end rfl ?_
 refine then_normal ?_
 refine aw_seq ?_
 refine aw_cond rfl (fun hc2 => ?_) (fun hc2 => ?_)
 ·
  (try simp only [y1, y2, y3, y4, y5, y6, y7, y8, y9, y0, List.length_map] at hc2)
  exact absurd hc2 (by decide)
 ·
  (try simp only [y1, y2, y3, y4, y5, y6, y7, y8, y9, y0, List.length_map] at hc2)
  refine aw_exit ?_
  refine then_exit (again_exit (inBlock_here (then_normal ?_)))
  refine aw_seq ?_
  refine aw_region ?_
  refine zst (op_move_tmp (by rfl)) rfl (by dsimp only [zS, zN, zH, zT]) ?_
  refine zst (op_assign_tmp (by rfl)) rfl (by dsimp only [zS, zN, zH, zT]) ?_
  refine zst (op_assign_const (by rfl)) rfl (by dsimp only [zS, zN, zH, zT]) ?_
  refine al_end rfl ?_
  refine then_normal ?_
  refine aw_ret ?_
  refine retPost2 rfl rfl rfl ?_
  exact ⟨rfl, rfl⟩
set_option maxRecDepth 100000 in
theorem begin_ok (Hs : HS) (sid : Nat) (hS : Hs.blks[sid]? = some ⟨134, [nilS, .d (I 0), .d (I 0), nilS], false⟩) : ACalls Try.prog 26 [.ptr sid 0, .d (I 0), .d (I 0)] Hs (Ret (.ptr Hs.nb 0) (Hs.push 145 [.ptr sid 0, .d (I 0), .d (I 0), .d (I 0), .d (I 0), nilS, .d (I 0)])) := by
 refine acalls_of_aw Try.func26 rfl ?_
 refine aw_start (T' := [.ptr sid 0, .d (I 0), .d (I 0), .un, .un, .un, .un, .un, .un, .un, .un, .un, .un, .un]) rfl ?_
 refine aw_seq ?_
 refine aw_region ?_
 refine zst (op_assign_const (by rfl)) rfl (by dsimp only [zS, zN, zH, zT]) ?_
 refine al_end rfl ?_
 refine then_normal ?_
 refine aw_seq ?_
 refine aw_region ?_
 refine zst (op_move_tmp (by rfl)) rfl (by dsimp only [zS, zN, zH, zT]) ?_
 refine zst (op_move_tmp (by rfl)) rfl (by dsimp only [zS, zN, zH, zT]) ?_
 refine zst (op_callF Try.func63 (by rfl) (by rfl) (.tmp (by rfl) .nil) (last_ok _ sid hS)) rfl (by dsimp only [zS, zN, zH, zT]) ?_
 refine zst (op_move_tmp (by rfl)) rfl (by dsimp only [zS, zN, zH, zT]) ?_
 refine zst (op_move_tmp (by rfl)) rfl (by dsimp only [zS, zN, zH, zT]) ?_
 refine zst (op_build (pl := [(0, 1), (1, 1), (2, 1), (3, 1), (4, 1), (5, 2)]) (cs := [.ptr sid 0, .d (I 0), .d (I 0), .d (I 0), .d (I 0), nilS, .d (I 0)]) Try.underlying145 Zr145 (by kernel_rfl) (by rfl) (by rfl) (by rfl)) rfl (by dsimp only [zS, zN, zH, zT]) ?_
 refine zst (op_box_ptr (cs := [.ptr sid 0, .d (I 0), .d (I 0), .d (I 0), .d (I 0), nilS, .d (I 0)]) (by intro h; cases h) (by rfl)) rfl (by dsimp only [zS, zN, zH, zT]) ?_
 refine zst (op_assign_tmp (by rfl)) rfl (by dsimp only [zS, zN, zH, zT]) ?_
 refine al_end rfl ?_
 refine then_normal ?_
 refine aw_ret ?_
 refine retPost1 rfl rfl ?_
 exact ⟨rfl, rfl⟩
end Go.Proofs.Ytjbpfnoibeogbaa
namespace Go.Proofs.Ytjbpfnoibeogbaa
open Go.AV Go.AV.Ord Go.AV.Oct Go.AV.Hist Go.AV.Sb
set_option linter.unusedVariables false
set_option linter.unusedSimpArgs false
set_option maxRecDepth 100000 in
theorem tlen_ok (Hs : HS) (tid sid : Nat) (lv : AV) (sz : Int) (hT : Hs.blks[tid]? = some ⟨145, [.ptr sid 0, .d (I 0), .d (I 0), .d (I 0), .d (I 0), lv, .d (I sz)], false⟩)  : ACalls Try.prog 129 [.ptr tid 5] Hs (Ret (.d (I sz)) Hs) := by
 refine acalls_of_aw Try.func129 rfl ?_
 refine aw_start (T' := [.ptr tid 5, .un, .un, .un, .un, .un, .un, .un, .un]) rfl ?_
 refine aw_seq ?_
 refine aw_region ?_
 refine zst (op_assign_const (by rfl)) rfl (by dsimp only [zS, zN, zH, zT]) ?_
 refine al_end rfl ?_
 refine then_normal ?_
 refine aw_seq ?_
 refine aw_seq ?_
 refine aw_region ?_
 refine zst (op_move_tmp (by rfl)) rfl (by dsimp only [zS, zN, zH, zT]) ?_
 refine zst (op_ptr_nil Try.underlying193 (by rfl) (by rfl)) rfl (by dsimp only [zS, zN, zH, zT]) ?_
 refine al_end rfl ?_
 refine then_normal ?_
 refine aw_cond rfl (fun h => by cases h) (fun _ => ?_)
 refine aw_skip ?_
 refine then_normal ?_
 refine aw_seq ?_
 refine aw_region ?_
 refine zst (op_move_tmp (by rfl)) rfl (by dsimp only [zS, zN, zH, zT]) ?_
 refine zst (by first | exact op_nilCheck_ptr (by rfl) | exact op_nilCheck_elt (by rfl)) rfl (by dsimp only [zS, zN, zH, zT]) ?_
 refine zst (by first | exact op_fieldAddr_ptr Try.underlying143 rfl Sz3 (by rfl) (by rfl) | exact op_fieldAddr_elt Try.underlying143 rfl Sz3 (by rfl) (by rfl) (by rfl)) rfl (by dsimp only [zS, zN, zH, zT]) ?_
 refine zst (by first | exact op_load_elt Try.underlying3 (by rfl) (by rfl) (by rfl) | exact op_load_ptr Try.underlying3 (by rfl) (by rfl) (by assumption) (by rfl)) rfl (by dsimp only [zS, zN, zH, zT]) ?_
 refine zst (op_assign_tmp (by rfl)) rfl (by dsimp only [zS, zN, zH, zT]) ?_
 refine al_end rfl ?_
 refine then_normal ?_
 refine aw_ret ?_
 refine retPost1 rfl rfl ?_
 exact ⟨rfl, rfl⟩
end Go.Proofs.Ytjbpfnoibeogbaa
namespace Go.Proofs.Ytjbpfnoibeogbaa
open Go.AV Go.AV.Ord Go.AV.Oct Go.AV.Hist Go.AV.Val Go.AV.Sb
set_option linter.unusedVariables false
set_option linter.unusedSimpArgs false
set_option maxRecDepth 100000 in
theorem txget2_ok (Hs : HS) (tid sid : Nat) (lv : AV) (sz : Int) (ls : List (List It)) (vs : List AV) (key : List UInt8) (l : List It) (hl : LfAt ls key l) (hr : rises (firstsF ls) = true) (hrl : rises (keysF l) = true) (hl9 : ls.length ≤ 2) (r : Option Wt) (hf : fndL l key = r) (hT : Hs.blks[tid]? = some ⟨145, [.ptr sid 0, .d (I 0), .d (I 0), .d (I 0), .d (I 0), lv, .d (I sz)], false⟩) (hL : LvT Hs 195 197 lv ls vs) (hS : Hs.blks[sid]? = some ⟨134, [nilS, .d (I 0), .d (I 0), nilS], false⟩) (hgo : ∀ w, r = some w → w.gone = false) : ACalls Try.prog 64 [.ptr tid 0, .d (S key)] Hs (Ret (.tup [.d (S (r.getD Wn).val), .d (TF r.isSome)]) Hs) := by
 refine ACalls.tidyT (xs := [S (r.getD Wn).val, TF r.isSome]) ?_
 have hgx : (r.getD Wn).gone = false := by cases r with | none => rfl | some w => exact hgo w rfl
 refine acalls_of_aw Try.func64 rfl ?_
 refine aw_start (T' := [.ptr tid 0, .d (S key), .un, .un, .un, .un, .un, .un, .un, .un, .un, .un, .un, .un, .un, .un, .un, .un, .un, .un, .un, .un, .un, .un, .un, .un, .un, .un, .un, .un, .un, .un, .un, .un, .un, .un]) rfl ?_
 refine aw_seq ?_
 refine aw_region ?_
 refine zst (op_assign_const (by rfl)) rfl (by dsimp only [zS, zN, zH, zT]) ?_
 refine zst (op_assign_const (by rfl)) rfl (by dsimp only [zS, zN, zH, zT]) ?_
 refine al_end rfl ?_
 refine then_normal ?_
 refine aw_seq ?_
 refine aw_seq ?_
 refine aw_region ?_
 refine zst (op_move_tmp (by rfl)) rfl (by dsimp only [zS, zN, zH, zT]) ?_
 refine zst (op_ptr_nil Try.underlying72 (by rfl) (by rfl)) rfl (by dsimp only [zS, zN, zH, zT]) ?_
 refine al_end rfl ?_
 refine then_normal ?_
 refine aw_cond rfl (fun h => by cases h) (fun _ => ?_)
 refine aw_skip ?_
 refine then_normal ?_
 refine aw_seq ?_
 refine aw_seq ?_
 refine aw_region ?_
 refine zst (op_move_tmp (by rfl)) rfl (by dsimp only [zS, zN, zH, zT]) ?_
 refine zst (by first | exact op_nilCheck_ptr (by rfl) | exact op_nilCheck_elt (by rfl)) rfl (by dsimp only [zS, zN, zH, zT]) ?_
 refine zst (by first | exact op_fieldAddr_ptr Try.underlying145 rfl Sz143 (by rfl) (by rfl) | exact op_fieldAddr_elt Try.underlying145 rfl Sz143 (by rfl) (by rfl) (by rfl)) rfl (by dsimp only [zS, zN, zH, zT]) ?_
 refine zst (op_move_tmp (by rfl)) rfl (by dsimp only [zS, zN, zH, zT]) ?_
 refine zst (op_callF Try.func96 (by rfl) (by rfl) (.tmp (by rfl) (.tmp (by rfl) .nil)) (tget2_ok _ tid sid lv sz ls vs key l hl hr hrl hl9 r hf hT hL)) rfl (by dsimp only [zS, zN, zH, zT]) ?_
 refine zst (op_move_tmp (by rfl)) rfl (by dsimp only [zS, zN, zH, zT]) ?_
 refine zst (op_extract (by rfl) (by rfl)) rfl (by dsimp only [zS, zN, zH, zT]) ?_
 refine zst (op_extract (by rfl) (by rfl)) rfl (by dsimp only [zS, zN, zH, zT]) ?_
 refine zst (op_alloc (Zr51) (by rfl)) rfl (by dsimp only [zS, zN, zH, zT]) ?_
 refine zst (op_storeB (vs := [.d (S (r.getD Wn).key), .d (S (r.getD Wn).val), .d (TF (r.getD Wn).gone)]) (b' := ⟨51, [.d (S (r.getD Wn).key), .d (S (r.getD Wn).val), .d (TF (r.getD Wn).gone)], false⟩) (H' := _) Sz51 (by rfl) push_at (by intro h; cases h) (by rfl) (by rfl) (Nat.le_of_ble_eq_true rfl) (by simp [AV.one, DV.one, TF, S, I, BY]) (by rfl) (by rfl) rfl) rfl (by dsimp only [zS, zN, zH, zT]) ?_
 refine zst (op_assign_tmp (by rfl)) rfl (by dsimp only [zS, zN, zH, zT]) ?_
 refine al_end rfl ?_
 refine then_normal ?_
 refine aw_seq ?_
 refine aw_region ?_
 refine zst (op_move_tmp (by rfl)) rfl (by dsimp only [zS, zN, zH, zT]) ?_
 refine al_end rfl ?_
 refine then_normal ?_
 refine aw_cond rfl (fun hc2 => ?_) (fun hc2 => ?_)
 ·
  (try simp only [y1, y2, y3, y4, y5, y6, y7, y8, y9, y0, List.length_map] at hc2)
  have his : r.isSome = true := hc2
  refine aw_seq ?_
  refine aw_draw [0, 1, 0, 1, 0, 0, 0] mixed (by kernel_rfl) ?_
  refine zd0 (fun H => (by first | exact op_fieldAddr_ptr Try.underlying51 rfl Sz9 (by rfl) (by rfl) | exact op_fieldAddr_elt Try.underlying51 rfl Sz9 (by rfl) (by rfl) (by rfl))) rfl (by dsimp only [zS, zN, zH, zT]) ?_
  refine zd1 (by first | exact op_load_elt Try.underlying9 (by rfl) (by rfl) (by rfl) | exact op_load_ptr Try.underlying9 (by rfl) (by rfl) (by (try have l1 := lt_nb hT); (try have l2 := lt_nb hS); repeat (first | assumption | exact push_at | exact setB_at push_at | (rw [setB_ne (by simp only [setB_nb, push_nb, ne_eq]; omega)]) | apply push_ne | apply setB_at)) (by rfl)) rfl (by dsimp only [zS, zN, zH, zT]) ?_
  refine zd0 (fun H => (by first | exact op_fieldAddr_ptr Try.underlying51 rfl Sz4 (by rfl) (by rfl) | exact op_fieldAddr_elt Try.underlying51 rfl Sz4 (by rfl) (by rfl) (by rfl))) rfl (by dsimp only [zS, zN, zH, zT]) ?_
  refine zd1 (by first | exact op_load_elt Try.underlying4 (by rfl) (by rfl) (by rfl) | exact op_load_ptr Try.underlying4 (by rfl) (by rfl) (by (try have l1 := lt_nb hT); (try have l2 := lt_nb hS); repeat (first | assumption | exact push_at | exact setB_at push_at | (rw [setB_ne (by simp only [setB_nb, push_nb, ne_eq]; omega)]) | apply push_ne | apply setB_at)) (by rfl)) rfl (by dsimp only [zS, zN, zH, zT]) ?_
  refine zd0 (fun H => (op_not (by rfl))) rfl (by dsimp only [zS, zN, zH, zT]) ?_
  refine zd0 (fun H => (op_assign_tmp (by rfl))) rfl (by dsimp only [zS, zN, zH, zT]) ?_
  refine zd0 (fun H => (op_assign_tmp (by rfl))) rfl (by dsimp only [zS, zN, zH, zT]) ?_
  refine drun_end rfl ?_
  refine then_normal ?_
  refine aw_ret ?_
  refine then_ret ?_
  refine retPost2 rfl rfl rfl ?_
  exact ⟨by rw [hgx, his]; rfl, (by repeat (first | exact Ext.refl _ | apply Ext.push | (refine Ext.setB ?_ (by (try simp only [setB_nb, push_nb]); omega))))⟩
 ·
  (try simp only [y1, y2, y3, y4, y5, y6, y7, y8, y9, y0, List.length_map] at hc2)
  have his : r.isSome = false := by simpa using hc2
  have hno : r = none := by simpa using his
  refine aw_skip ?_
  refine then_normal ?_
  refine aw_seq ?_
  refine aw_draw [0, 0, 0, 1, 0, 0, 0, 0, 1, 1, 0, 0, 0, 0] mixed (by kernel_rfl) ?_
  refine zd0 (fun H => (op_move_tmp (by rfl))) rfl (by dsimp only [zS, zN, zH, zT]) ?_
  refine zd0 (fun H => (by first | exact op_nilCheck_ptr (by rfl) | exact op_nilCheck_elt (by rfl))) rfl (by dsimp only [zS, zN, zH, zT]) ?_
  refine zd0 (fun H => (by first | exact op_fieldAddr_ptr Try.underlying145 rfl Sz69 (by rfl) (by rfl) | exact op_fieldAddr_elt Try.underlying145 rfl Sz69 (by rfl) (by rfl) (by rfl))) rfl (by dsimp only [zS, zN, zH, zT]) ?_
  refine zd1 (by first | exact op_load_elt Try.underlying69 (by rfl) (by rfl) (by rfl) | exact op_load_ptr Try.underlying69 (by rfl) (by rfl) (by (try have l1 := lt_nb hT); (try have l2 := lt_nb hS); repeat (first | assumption | exact push_at | exact setB_at push_at | (rw [setB_ne (by simp only [setB_nb, push_nb, ne_eq]; omega)]) | apply push_ne | apply setB_at)) (by rfl)) rfl (by dsimp only [zS, zN, zH, zT]) ?_
  refine zd0 (fun H => (op_move_tmp (by rfl))) rfl (by dsimp only [zS, zN, zH, zT]) ?_
  refine zd0 (fun H => (op_move_tmp (by rfl))) rfl (by dsimp only [zS, zN, zH, zT]) ?_
  refine zd0 (fun H => (by first | exact op_nilCheck_ptr (by rfl) | exact op_nilCheck_elt (by rfl))) rfl (by dsimp only [zS, zN, zH, zT]) ?_
  refine zd0 (fun H => (by first | exact op_fieldAddr_ptr Try.underlying145 rfl Sz3 (by rfl) (by rfl) | exact op_fieldAddr_elt Try.underlying145 rfl Sz3 (by rfl) (by rfl) (by rfl))) rfl (by dsimp only [zS, zN, zH, zT]) ?_
  refine zd1 (by first | exact op_load_elt Try.underlying3 (by rfl) (by rfl) (by rfl) | exact op_load_ptr Try.underlying3 (by rfl) (by rfl) (by (try have l1 := lt_nb hT); (try have l2 := lt_nb hS); repeat (first | assumption | exact push_at | exact setB_at push_at | (rw [setB_ne (by simp only [setB_nb, push_nb, ne_eq]; omega)]) | apply push_ne | apply setB_at)) (by rfl)) rfl (by dsimp only [zS, zN, zH, zT]) ?_
  refine zd1 (op_callF Try.func97 (by rfl) (by rfl) (.tmp (by rfl) (.tmp (by rfl) (.tmp (by rfl) .nil))) (sget_ok _ sid key _ (by (try have l1 := lt_nb hT); (try have l2 := lt_nb hS); repeat (first | assumption | exact push_at | exact setB_at push_at | (rw [setB_ne (by simp only [setB_nb, push_nb, ne_eq]; omega)]) | apply push_ne | apply setB_at)))) rfl (by dsimp only [zS, zN, zH, zT]) ?_
  refine zd0 (fun H => (op_extract (by rfl) (by rfl))) rfl (by dsimp only [zS, zN, zH, zT]) ?_
  refine zd0 (fun H => (op_extract (by rfl) (by rfl))) rfl (by dsimp only [zS, zN, zH, zT]) ?_
  refine zd0 (fun H => (op_assign_tmp (by rfl))) rfl (by dsimp only [zS, zN, zH, zT]) ?_
  refine zd0 (fun H => (op_assign_tmp (by rfl))) rfl (by dsimp only [zS, zN, zH, zT]) ?_
  refine drun_end rfl ?_
  refine then_normal ?_
  refine aw_ret ?_
  refine retPost2 rfl rfl rfl ?_
  exact ⟨by rw [hno]; rfl, (by repeat (first | exact Ext.refl _ | apply Ext.push | (refine Ext.setB ?_ (by (try simp only [setB_nb, push_nb]); omega))))⟩
set_option maxRecDepth 100000 in
theorem write2_ok (Hs : HS) (tid sid : Nat) (lv : AV) (sz : Int) (ls : List (List It)) (vs : List AV) (w : Wt) (l : List It) (hl : LfAt ls w.key l) (hr : rises (firstsF ls) = true) (hrl : rises (keysF l) = true) (hl9 : ls.length ≤ 2) (hno : hasF (keysF l) w.key = false) (hll : l.length ≤ 8) (hcase : l.length = 8 → ls = [l]) (hsz : 0 ≤ sz ∧ sz ≤ 100) (hT : Hs.blks[tid]? = some ⟨145, [.ptr sid 0, .d (I 0), .d (I 0), .d (I 0), .d (I 0), lv, .d (I sz)], false⟩) (hL : LvT Hs 195 197 lv ls vs) (hS : Hs.blks[sid]? = some ⟨134, [nilS, .d (I 0), .d (I 0), nilS], false⟩) (hk : w.key ≠ []) (hkl : w.key.length ≤ 400) (hvl : w.val.length ≤ 4096) (hg : w.gone = false)  : ACalls Try.prog 98 [.ptr tid 0, .d (.agg (wC w))] Hs (fun av H' => av = .d (I 0) ∧ ∃ lv' vs', H'.blks[tid]? = some ⟨145, [.ptr sid 0, .d (I 0), .d (I 0), .d (I 0), .d (I 0), lv', .d (I (sz + 1))], false⟩ ∧ LvT H' 195 197 lv' (insL ls ⟨w.key, w⟩ l) vs' ∧ Was 195 197 tid Hs H') := by
 have lt0 := lt_nb hT
 refine acalls_of_aw Try.func98 rfl ?_
 refine aw_start (T' := [.ptr tid 0, .d (.agg (wC w)), .un, .un, .un, .un, .un, .un, .un, .un, .un, .un, .un, .un, .un, .un, .un, .un, .un, .un, .un, .un, .un, .un, .un, .un, .un, .un, .un, .un, .un, .un, .un, .un, .un, .un, .un, .un, .un, .un, .un, .un]) rfl ?_
 refine aw_seq ?_
 refine aw_region ?_
 refine zst (op_box_elt (cs := [S w.key, S w.val, TF w.gone]) (by rfl) (by rfl)) rfl (by dsimp only [zS, zN, zH, zT]) ?_
 refine zst (op_assign_const (by rfl)) rfl (by dsimp only [zS, zN, zH, zT]) ?_
 refine al_end rfl ?_
 refine then_normal ?_
 refine aw_seq ?_
 refine aw_drawX (fun K => K.blks[tid]? = some ⟨145, [.ptr sid 0, .d (I 0), .d (I 0), .d (I 0), .d (I 0), lv, .d (I sz)], false⟩ ∧ LvT K 195 197 lv ls vs) [0, 0, 0, 0, 0, 0, 0, 0, 0, 2, 2, 0] mixed (by kernel_rfl) (⟨hT, hL⟩) (.inr (by kernel_rfl)) ?_
 apply drun0X
 · intro H hPhi; exact op_move_tmp (by rfl)
 · rfl
 apply drun_normT
 · (try dsimp only [zS, zN, zH, zT]); try exact rfl
 apply drun0X
 · intro H hPhi; first | exact op_nilCheck_ptr (by rfl) | exact op_nilCheck_elt (by rfl)
 · rfl
 apply drun_normT
 · (try dsimp only [zS, zN, zH, zT]); try exact rfl
 apply drun0X
 · intro H hPhi; first | exact op_fieldAddr_ptr Try.underlying145 rfl Sz143 (by rfl) (by rfl) | exact op_fieldAddr_elt Try.underlying145 rfl Sz143 (by rfl) (by rfl) (by rfl)
 · rfl
 apply drun_normT
 · (try dsimp only [zS, zN, zH, zT]); try exact rfl
 apply drun0X
 · intro H hPhi; first | exact op_fieldAddr_ptr Try.underlying51 rfl Sz9 (by rfl) (by rfl) | exact op_fieldAddr_elt Try.underlying51 rfl Sz9 (by rfl) (by rfl) (by rfl)
 · rfl
 apply drun_normT
 · (try dsimp only [zS, zN, zH, zT]); try exact rfl
 apply drun0X
 · intro H hPhi; first | exact op_load_elt Try.underlying9 (by rfl) (by rfl) (by rfl) | exact op_load_ptr Try.underlying9 (by rfl) (by rfl) (by (try have l1 := lt_nb hT); (try have l2 := lt_nb hS); repeat (first | assumption | exact push_at | exact setB_at push_at | (rw [setB_ne (by simp only [setB_nb, push_nb, ne_eq]; omega)]) | apply push_ne | apply setB_at)) (by rfl)
 · rfl
 apply drun_normT
 · (try dsimp only [zS, zN, zH, zT]); try exact rfl
 apply drun0X
 · intro H hPhi; exact op_callF Try.func96 (by rfl) (by rfl) (.tmp (by rfl) (.tmp (by rfl) .nil)) (tget2_ok _ tid sid lv sz ls vs w.key l hl hr hrl hl9 none (fnd_no hno) hPhi.1 hPhi.2)
 · rfl
 apply drun_normT
 · (try dsimp only [zS, zN, zH, zT]); try exact rfl
 apply drun0X
 · intro H hPhi; exact op_move_tmp (by rfl)
 · rfl
 apply drun_normT
 · (try dsimp only [zS, zN, zH, zT]); try exact rfl
 apply drun0X
 · intro H hPhi; exact op_extract (by rfl) (by rfl)
 · rfl
 apply drun_normT
 · (try dsimp only [zS, zN, zH, zT]); try exact rfl
 apply drun0X
 · intro H hPhi; exact op_extract (by rfl) (by rfl)
 · rfl
 apply drun_normT
 · (try dsimp only [zS, zN, zH, zT]); try exact rfl
 apply drun2X
 · exact op_alloc (Zr51) (by rfl)
 · rfl
 · refine .inr ?_; exact ⟨(by (try have l1 := lt_nb hT); (try have l2 := lt_nb hS); repeat (first | assumption | exact push_at | exact setB_at push_at | (rw [setB_ne (by simp only [setB_nb, push_nb, ne_eq]; omega)]) | apply push_ne | apply setB_at)), (by first | exact hL | exact hL.push _ _ | exact (hL.push _ _).setB push_at (fun h => by cases h) (fun h => by cases h))⟩
 apply drun_normT
 · (try dsimp only [zS, zN, zH, zT]); try exact rfl
 apply drun2X
 · exact op_storeB (vs := [.d (S Wn.key), .d (S Wn.val), .d (TF Wn.gone)]) (b' := ⟨51, [.d (S Wn.key), .d (S Wn.val), .d (TF Wn.gone)], false⟩) (H' := _) Sz51 (by rfl) push_at (by intro h; cases h) (by rfl) (by rfl) (Nat.le_of_ble_eq_true rfl) (by simp [AV.one, DV.one, TF, S, I, BY]) (by rfl) (by rfl) rfl
 · rfl
 · refine .inr ?_; exact ⟨(by (try have l1 := lt_nb hT); (try have l2 := lt_nb hS); repeat (first | assumption | exact push_at | exact setB_at push_at | (rw [setB_ne (by simp only [setB_nb, push_nb, ne_eq]; omega)]) | apply push_ne | apply setB_at)), (by first | exact hL | exact hL.push _ _ | exact (hL.push _ _).setB push_at (fun h => by cases h) (fun h => by cases h))⟩
 apply drun_normT
 · (try dsimp only [zS, zN, zH, zT]); try exact rfl
 apply drun0X
 · intro H hPhi; exact op_assign_tmp (by rfl)
 · rfl
 apply drun_normT
 · (try dsimp only [zS, zN, zH, zT]); try exact rfl
 refine drun_end rfl ?_
 refine then_normal ?_
 refine aw_seq ?_
 refine aw_block ?_
 refine aw_seq ?_
 refine aw_region ?_
 refine zst (op_move_tmp (by rfl)) rfl (by dsimp only [zS, zN, zH, zT]) ?_
 refine zst (op_ptr_nil Try.underlying72 (by rfl) (by rfl)) rfl (by dsimp only [zS, zN, zH, zT]) ?_
 refine zst (op_move_tmp (by rfl)) rfl (by dsimp only [zS, zN, zH, zT]) ?_
 refine zsw rfl rfl rfl (op_load_elts (ds := wC w) Try.underlying51 (by rfl) Sz51 (by rfl) (Nat.le_of_ble_eq_true rfl) (by rfl)) (by dsimp only [zS, zN, zH, zT]) ?_
 refine zsw rfl rfl rfl (op_lit Try.underlying46 ZS51 (.cons (y := wD w) (by rfl) (.nil _)) (by rfl) (lit_w _) (lit_w1 _) (by decide)) (by dsimp only [zS, zN, zH, zT]) ?_
 refine zsw rfl rfl rfl (op_callF Try.func128 (by rfl) (by rfl) (.tmp (by rfl) .nil) (right1_ok _ _ w (LL.own _ _ _) hk hkl hvl hg)) (by dsimp only [zS, zN, zH, zT]) ?_
 refine zsw rfl rfl rfl (op_not (by rfl)) (by dsimp only [zS, zN, zH, zT]) ?_
 refine zst (op_pick_ff (by rfl) (val_tmp (by rfl))) rfl (by dsimp only [zS, zN, zH, zT]) ?_
 refine zst (op_assign_tmp (by rfl)) rfl (by dsimp only [zS, zN, zH, zT]) ?_
 refine al_end rfl ?_
 refine then_normal ?_
 refine aw_cond rfl (fun h => by cases h) (fun _ => ?_)
 refine aw_seq ?_
 refine aw_region ?_
 refine zst (op_move_tmp (by rfl)) rfl (by dsimp only [zS, zN, zH, zT]) ?_
 refine zst (op_not (by rfl)) rfl (by dsimp only [zS, zN, zH, zT]) ?_
 refine zst (op_move_tmp (by rfl)) rfl (by dsimp only [zS, zN, zH, zT]) ?_
 refine zsw rfl rfl rfl (op_move_tmp (by rfl)) (by dsimp only [zS, zN, zH, zT]) ?_
 refine zsw rfl rfl rfl (by first | exact op_nilCheck_ptr (by rfl) | exact op_nilCheck_elt (by rfl)) (by dsimp only [zS, zN, zH, zT]) ?_
 refine zsw rfl rfl rfl (by first | exact op_fieldAddr_ptr Try.underlying145 rfl Sz143 (by rfl) (by rfl) | exact op_fieldAddr_elt Try.underlying145 rfl Sz143 (by rfl) (by rfl) (by rfl)) (by dsimp only [zS, zN, zH, zT]) ?_
 refine zsw rfl rfl rfl (op_callF Try.func129 (by rfl) (by rfl) (.tmp (by rfl) .nil) (tlen_ok _ tid sid lv sz (by (try have l1 := lt_nb hT); (try have l2 := lt_nb hS); repeat (first | assumption | exact push_at | exact setB_at push_at | (rw [setB_ne (by simp only [setB_nb, push_nb, ne_eq]; omega)]) | apply push_ne | apply setB_at)))) (by dsimp only [zS, zN, zH, zT]) ?_
 refine zsw rfl rfl rfl (op_geI (by rfl) (by rfl)) (by dsimp only [zS, zN, zH, zT]) ?_
 refine zst (op_pick_tt (by rfl) (val_tmp (by rfl))) rfl (by dsimp only [zS, zN, zH, zT]) ?_
 refine zst (op_assign_tmp (by rfl)) rfl (by dsimp only [zS, zN, zH, zT]) ?_
 refine al_end rfl ?_
 refine then_normal ?_
 refine aw_cond rfl (fun hc2 => ?_) (fun hc2 => ?_)
 ·
  (try simp only [y1, y2, y3, y4, y5, y6, y7, y8, y9, y0, List.length_map] at hc2)
  exact absurd hc2 (by omega)
 ·
  (try simp only [y1, y2, y3, y4, y5, y6, y7, y8, y9, y0, List.length_map] at hc2)
  refine aw_skip ?_
  refine inBlock_normal (then_normal ?_)
  refine aw_seq ?_
  refine aw_explore 7 #[false, false, false, false, false, false, false] mixed rfl (by rfl) ?_
  refine de_pure 0 #[true, false, false, false, false, false, false] rfl (by kernel_rfl) (by kernel_rfl) (by kernel_rfl) rfl rfl (by intro ch T H h; simp [Then, RetPost, InBlock, Again, CutP] at h) (opY_move (by rfl)) (by dsimp only [zS, zN, zH, zT]) ?_
  refine de_pure 1 #[true, true, false, false, false, false, false] rfl (by kernel_rfl) (by kernel_rfl) (by kernel_rfl) rfl rfl (by intro ch T H h; simp [Then, RetPost, InBlock, Again, CutP] at h) (opY_nilCheck (by rfl)) (by dsimp only [zS, zN, zH, zT]) ?_
  refine de_pure 2 #[true, true, true, false, false, false, false] rfl (by kernel_rfl) (by kernel_rfl) (by kernel_rfl) rfl rfl (by intro ch T H h; simp [Then, RetPost, InBlock, Again, CutP] at h) (opY_fieldAddr Try.underlying145 rfl Sz143 (by rfl) (by rfl)) (by dsimp only [zS, zN, zH, zT]) ?_
  refine de_two 3 5 (by kernel_rfl) ?_ ?_
  ·
   refine deop_step #[true, true, true, true, false, false, false] rfl rfl rfl (by first | exact op_fieldAddr_ptr Try.underlying51 rfl Sz9 (by rfl) (by rfl) | exact op_fieldAddr_elt Try.underlying51 rfl Sz9 (by rfl) (by rfl) (by rfl)) (by dsimp only [zS, zN, zH, zT]) ?_
   refine de_two 4 5 (by kernel_rfl) ?_ ?_
   ·
    refine deop_step #[true, true, true, true, true, false, false] rfl rfl rfl (by first | exact op_load_elt Try.underlying9 (by rfl) (by rfl) (by rfl) | exact op_load_ptr Try.underlying9 (by rfl) (by rfl) (by (try have l1 := lt_nb hT); (try have l2 := lt_nb hS); repeat (first | assumption | exact push_at | exact setB_at push_at | (rw [setB_ne (by simp only [setB_nb, push_nb, ne_eq]; omega)]) | apply push_ne | apply setB_at)) (by rfl)) (by dsimp only [zS, zN, zH, zT]) ?_
    refine de_step 5 #[true, true, true, true, true, true, false] (by kernel_rfl) rfl rfl rfl (op_load_elts (ds := wC w) Try.underlying51 (by rfl) Sz51 (by rfl) (Nat.le_of_ble_eq_true rfl) (by rfl)) (by dsimp only [zS, zN, zH, zT]) ?_
    refine de_one 6 #[true, true, true, true, true, true, true] (by kernel_rfl) rfl rfl rfl (op_callF Try.func130 (by rfl) (by rfl) (.tmp (by rfl) (.tmp (by rfl) (.tmp (by rfl) .nil))) (tput2_ok _ tid sid lv sz ls vs ⟨w.key, w⟩ l hl hno hr hrl hl9 hll hcase ⟨by omega, by omega⟩ (by (try have l1 := lt_nb hT); (try have l2 := lt_nb hS); repeat (first | assumption | exact push_at | exact setB_at push_at | (rw [setB_ne (by simp only [setB_nb, push_nb, ne_eq]; omega)]) | apply push_ne | apply setB_at)) (by first | exact hL | exact hL.push _ _ | exact (hL.push _ _).setB push_at (fun h => by cases h) (fun h => by cases h)))) ?_
    rintro v6 H6 ⟨rfl, lv6, vs6, hT6, hL6, hw6⟩
    apply de_normT
    · (try dsimp only [zS, zN, zH, zT]); try exact rfl
    refine de_end (by kernel_rfl) ?_
    refine then_normal ?_
    refine aw_seq ?_
    refine aw_region ?_
    refine zst (op_assign_const (by rfl)) rfl (by dsimp only [zS, zN, zH, zT]) ?_
    refine al_end rfl ?_
    refine then_normal ?_
    refine aw_ret ?_
    refine retPost1 rfl rfl ?_
    exact ⟨rfl, lv6, vs6, hT6, hL6, (((Was.refl Hs).push _ _).setN (Nat.le_refl _)).trans hw6⟩
   ·
    refine deop_step #[true, true, true, true, false, true, false] rfl rfl rfl (op_load_elts (ds := wC w) Try.underlying51 (by rfl) Sz51 (by rfl) (Nat.le_of_ble_eq_true rfl) (by rfl)) (by dsimp only [zS, zN, zH, zT]) ?_
    refine de_step 4 #[true, true, true, true, true, true, false] (by kernel_rfl) rfl rfl rfl (by first | exact op_load_elt Try.underlying9 (by rfl) (by rfl) (by rfl) | exact op_load_ptr Try.underlying9 (by rfl) (by rfl) (by (try have l1 := lt_nb hT); (try have l2 := lt_nb hS); repeat (first | assumption | exact push_at | exact setB_at push_at | (rw [setB_ne (by simp only [setB_nb, push_nb, ne_eq]; omega)]) | apply push_ne | apply setB_at)) (by rfl)) (by dsimp only [zS, zN, zH, zT]) ?_
    refine de_one 6 #[true, true, true, true, true, true, true] (by kernel_rfl) rfl rfl rfl (op_callF Try.func130 (by rfl) (by rfl) (.tmp (by rfl) (.tmp (by rfl) (.tmp (by rfl) .nil))) (tput2_ok _ tid sid lv sz ls vs ⟨w.key, w⟩ l hl hno hr hrl hl9 hll hcase ⟨by omega, by omega⟩ (by (try have l1 := lt_nb hT); (try have l2 := lt_nb hS); repeat (first | assumption | exact push_at | exact setB_at push_at | (rw [setB_ne (by simp only [setB_nb, push_nb, ne_eq]; omega)]) | apply push_ne | apply setB_at)) (by first | exact hL | exact hL.push _ _ | exact (hL.push _ _).setB push_at (fun h => by cases h) (fun h => by cases h)))) ?_
    rintro v6 H6 ⟨rfl, lv6, vs6, hT6, hL6, hw6⟩
    apply de_normT
    · (try dsimp only [zS, zN, zH, zT]); try exact rfl
    refine de_end (by kernel_rfl) ?_
    refine then_normal ?_
    refine aw_seq ?_
    refine aw_region ?_
    refine zst (op_assign_const (by rfl)) rfl (by dsimp only [zS, zN, zH, zT]) ?_
    refine al_end rfl ?_
    refine then_normal ?_
    refine aw_ret ?_
    refine retPost1 rfl rfl ?_
    exact ⟨rfl, lv6, vs6, hT6, hL6, (((Was.refl Hs).push _ _).setN (Nat.le_refl _)).trans hw6⟩
  ·
   refine deop_step #[true, true, true, false, false, true, false] rfl rfl rfl (op_load_elts (ds := wC w) Try.underlying51 (by rfl) Sz51 (by rfl) (Nat.le_of_ble_eq_true rfl) (by rfl)) (by dsimp only [zS, zN, zH, zT]) ?_
   refine de_step 3 #[true, true, true, true, false, true, false] (by kernel_rfl) rfl rfl rfl (by first | exact op_fieldAddr_ptr Try.underlying51 rfl Sz9 (by rfl) (by rfl) | exact op_fieldAddr_elt Try.underlying51 rfl Sz9 (by rfl) (by rfl) (by rfl)) (by dsimp only [zS, zN, zH, zT]) ?_
   refine de_step 4 #[true, true, true, true, true, true, false] (by kernel_rfl) rfl rfl rfl (by first | exact op_load_elt Try.underlying9 (by rfl) (by rfl) (by rfl) | exact op_load_ptr Try.underlying9 (by rfl) (by rfl) (by (try have l1 := lt_nb hT); (try have l2 := lt_nb hS); repeat (first | assumption | exact push_at | exact setB_at push_at | (rw [setB_ne (by simp only [setB_nb, push_nb, ne_eq]; omega)]) | apply push_ne | apply setB_at)) (by rfl)) (by dsimp only [zS, zN, zH, zT]) ?_
   refine de_one 6 #[true, true, true, true, true, true, true] (by kernel_rfl) rfl rfl rfl (op_callF Try.func130 (by rfl) (by rfl) (.tmp (by rfl) (.tmp (by rfl) (.tmp (by rfl) .nil))) (tput2_ok _ tid sid lv sz ls vs ⟨w.key, w⟩ l hl hno hr hrl hl9 hll hcase ⟨by omega, by omega⟩ (by (try have l1 := lt_nb hT); (try have l2 := lt_nb hS); repeat (first | assumption | exact push_at | exact setB_at push_at | (rw [setB_ne (by simp only [setB_nb, push_nb, ne_eq]; omega)]) | apply push_ne | apply setB_at)) (by first | exact hL | exact hL.push _ _ | exact (hL.push _ _).setB push_at (fun h => by cases h) (fun h => by cases h)))) ?_
   rintro v6 H6 ⟨rfl, lv6, vs6, hT6, hL6, hw6⟩
   apply de_normT
   · (try dsimp only [zS, zN, zH, zT]); try exact rfl
   refine de_end (by kernel_rfl) ?_
   refine then_normal ?_
   refine aw_seq ?_
   refine aw_region ?_
   refine zst (op_assign_const (by rfl)) rfl (by dsimp only [zS, zN, zH, zT]) ?_
   refine al_end rfl ?_
   refine then_normal ?_
   refine aw_ret ?_
   refine retPost1 rfl rfl ?_
   exact ⟨rfl, lv6, vs6, hT6, hL6, (((Was.refl Hs).push _ _).setN (Nat.le_refl _)).trans hw6⟩
set_option maxRecDepth 100000 in
theorem txput2_ok (Hs : HS) (tid sid : Nat) (lv : AV) (sz : Int) (ls : List (List It)) (vs : List AV) (key val : List UInt8) (l : List It) (hl : LfAt ls key l) (hr : rises (firstsF ls) = true) (hrl : rises (keysF l) = true) (hl9 : ls.length ≤ 2) (hno : hasF (keysF l) key = false) (hll : l.length ≤ 8) (hcase : l.length = 8 → ls = [l]) (hsz : 0 ≤ sz ∧ sz ≤ 100) (hT : Hs.blks[tid]? = some ⟨145, [.ptr sid 0, .d (I 0), .d (I 0), .d (I 0), .d (I 0), lv, .d (I sz)], false⟩) (hL : LvT Hs 195 197 lv ls vs) (hS : Hs.blks[sid]? = some ⟨134, [nilS, .d (I 0), .d (I 0), nilS], false⟩) (hk : key ≠ []) (hkl : key.length ≤ 400) (hvl : val.length ≤ 4096) : ACalls Try.prog 65 [.ptr tid 0, .d (S key), .d (S val)] Hs (fun av H' => av = .d (I 0) ∧ ∃ lv' vs', H'.blks[tid]? = some ⟨145, [.ptr sid 0, .d (I 0), .d (I 0), .d (I 0), .d (I 0), lv', .d (I (sz + 1))], false⟩ ∧ LvT H' 195 197 lv' (insL ls ⟨key, ⟨key, val, false⟩⟩ l) vs' ∧ Was 195 197 tid Hs H') := by
 refine acalls_of_aw Try.func65 rfl ?_
 refine aw_start (T' := [.ptr tid 0, .d (S key), .d (S val), .un, .un, .un, .un, .un, .un, .un, .un, .un, .un, .un]) rfl ?_
 refine aw_seq ?_
 refine aw_region ?_
 refine zst (op_assign_const (by rfl)) rfl (by dsimp only [zS, zN, zH, zT]) ?_
 refine al_end rfl ?_
 refine then_normal ?_
 refine aw_seq ?_
 refine aw_seq ?_
 refine aw_region ?_
 refine zst (op_move_tmp (by rfl)) rfl (by dsimp only [zS, zN, zH, zT]) ?_
 refine zst (op_ptr_nil Try.underlying72 (by rfl) (by rfl)) rfl (by dsimp only [zS, zN, zH, zT]) ?_
 refine al_end rfl ?_
 refine then_normal ?_
 refine aw_cond rfl (fun h => by cases h) (fun _ => ?_)
 refine aw_skip ?_
 refine then_normal ?_
 refine aw_seq ?_
 refine aw_region ?_
 refine zst (op_move_tmp (by rfl)) rfl (by dsimp only [zS, zN, zH, zT]) ?_
 refine zst (op_move_tmp (by rfl)) rfl (by dsimp only [zS, zN, zH, zT]) ?_
 refine zst (op_move_tmp (by rfl)) rfl (by dsimp only [zS, zN, zH, zT]) ?_
 refine zst (op_buildD (pl := [(0, 1), (1, 1), (2, 1)]) (wC ⟨key, val, false⟩) Try.underlying51 Zr51 (by kernel_rfl) (by rfl) (by rfl) (by rfl) (wC_one _)) rfl (by dsimp only [zS, zN, zH, zT]) ?_
 refine al_cons _ (op_callF Try.func98 (by rfl) (by rfl) (.tmp (by rfl) (.tmp (by rfl) .nil)) (write2_ok _ tid sid lv sz ls vs ⟨key, val, false⟩ l hl hr hrl hl9 hno hll hcase hsz hT hL hS hk hkl hvl rfl)) rfl ?_
 rintro v6 H6 ⟨rfl, lv6, vs6, hT6, hL6, hw6⟩
 apply al_normT
 · (try dsimp only [putT, List.set_cons_zero, List.set_cons_succ]); try exact rfl
 refine zst (op_assign_tmp (by rfl)) rfl (by dsimp only [zS, zN, zH, zT]) ?_
 refine al_end rfl ?_
 refine then_normal ?_
 refine aw_ret ?_
 refine retPost1 rfl rfl ?_
 exact ⟨rfl, lv6, vs6, hT6, hL6, hw6⟩
end Go.Proofs.Ytjbpfnoibeogbaa
