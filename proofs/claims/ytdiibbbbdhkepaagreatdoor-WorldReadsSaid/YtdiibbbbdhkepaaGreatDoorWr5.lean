/- Part 5 of what the law needs: E1, E2, E3, EC, HdD. -/
import Derived.Test.YtdiibbbbdhkepaaGreatDoorWr4
import Derived.Test.YtdiibbbbdhkepaaGreatDoorProg
import Derived.KernelRfl
set_option linter.unusedSectionVars false
set_option linter.unusedVariables false
set_option linter.unusedSimpArgs false
namespace Go.AV
open Go.RowKit
def zeroDV : Value → Option DV
  | .agg vs => if vs.toList.all plain = true then some (.agg (vs.toList.map .v)) else none
  | v => if plain v = true then some (.v v) else none
theorem zeroDV_ok {z : Value} {d : DV} (h : zeroDV z = some d) (m : Mem) : RepD m z d := by
  unfold zeroDV at h
  split at h
  · rename_i vs
    split at h
    · rename_i hp
      cases h
      refine .agg _ _ (by simp) (fun c hc => ?_) (fun i hi => ?_)
      · obtain ⟨v, _, rfl⟩ := List.mem_map.1 hc
        rfl
      · have hi' : i < vs.size := by simpa using hi
        simp only [List.getElem_map, Array.getElem_toList]
        have : vs.getD i undef = vs[i] := by simp [hi']
        rw [this]
        exact .v _ (List.all_eq_true.1 hp _ (by simp))
    · cases h
  · split at h
    · rename_i hp; cases h; exact .v _ hp
    · cases h
def strong (E : Operand → AV) : Operand → AV
  | .const v => match zeroDV v with
    | some d => .d d
    | none => E (.const v)
  | x => E x
theorem opR_strong {P : Program} [Wins P] {o : Oper} {E : Operand → AV} {H : HS} {R : AV → HS → Prop} (h : OpR P o (strong E) H R) : OpR P o E H R := by
  intro B w0 c w a t hI hB hops
  refine h B w0 c w a t hI hB fun x hx => ?_
  have h0 := hops x hx
  cases x with
  | const v =>
    simp only [strong]
    split
    · rename_i d hd
      exact .d (zeroDV_ok hd _)
    · exact h0
  | _ => exact h0
inductive Info where
  | pure
  | read
  | write (low : Nat) (mt : Bool)
def big : Nat := 1000000000
def Info.low : Info → Nat
  | .write l _ => l
  | _ => big
def Info.mt : Info → Bool
  | .write _ b => b
  | _ => false
def Info.any : Info → Bool
  | .write .. => true
  | _ => false
structure Frm (low : Nat) (mt : Bool) (H H' : HS) : Prop where
  blk : ∀ i, i < low → i < H.blks.length → H'.blks[i]? = H.blks[i]?
  len : H.blks.length ≤ H'.blks.length
  rest : mt = false → H'.toks = H.toks ∧ H'.maps = H.maps
  x : H'.x = H.x
  map : ∀ i, i < H.maps.length → H'.maps[i]? = H.maps[i]?
theorem Frm.refl (low : Nat) (mt : Bool) (H : HS) : Frm low mt H H := ⟨fun _ _ _ => rfl, Nat.le_refl _, fun _ => ⟨rfl, rfl⟩, rfl, fun _ _ => rfl⟩
theorem Frm.trans {l1 l2 : Nat} {m1 m2 : Bool} {a b c : HS} (h : Frm l1 m1 a b) (k : Frm l2 m2 b c) : Frm (min l1 l2) (m1 || m2) a c :=
  ⟨fun i hi hl => (k.blk i (by omega) (Nat.lt_of_lt_of_le hl h.len)).trans (h.blk i (by omega) hl), Nat.le_trans h.len k.len, fun hm => by
    simp only [Bool.or_eq_false_iff] at hm
    obtain ⟨q1, q2⟩ := h.rest hm.1
    obtain ⟨q3, q4⟩ := k.rest hm.2
    exact ⟨q3.trans q1, q4.trans q2⟩, k.x.trans h.x, fun i hi => by
    have h1 := h.map i hi
    have hb : i < b.maps.length := by
      rw [List.getElem?_eq_getElem hi] at h1
      exact (List.getElem?_eq_some_iff.1 h1).1
    exact (k.map i hb).trans h1⟩
structure Eff (any : Bool) (low : Nat) (mt : Bool) (H H' : HS) : Prop where
  same : any = false → H' = H
  frm : Frm low mt H H'
theorem Eff.refl (low : Nat) (mt : Bool) (H : HS) : Eff false low mt H H := ⟨fun _ => rfl, .refl _ _ _⟩
theorem Eff.trans {a1 a2 : Bool} {l1 l2 : Nat} {m1 m2 : Bool} {a b c : HS} (h : Eff a1 l1 m1 a b) (k : Eff a2 l2 m2 b c) : Eff (a1 || a2) (min l1 l2) (m1 || m2) a c :=
  ⟨fun hm => by
    simp only [Bool.or_eq_false_iff] at hm
    exact (k.same hm.2).trans (h.same hm.1), h.frm.trans k.frm⟩
structure Reck (P : Program) [Wins P] where
  pure : Oper → (Operand → AV) → Option AV
  read : Oper → (Operand → AV) → HS → Option AV
  full : Oper → (Operand → AV) → HS → Option (AV × HS × Nat × Bool)
  funcs : FuncId → Option Func
  isX : FuncId → Bool
  known : FuncId → List AV → HS → Option (AV × HS × Nat × Bool)
  pure_ok : ∀ o E v, pure o E = some v → ∀ H, OpR P o E H (Ret v H)
  read_ok : ∀ o E H v, read o E H = some v → OpR P o E H (Ret v H)
  full_ok : ∀ o E H v H' low mt, full o E H = some (v, H', low, mt) → OpR P o E H (Ret v H') ∧ Frm low mt H H'
  mixed_ok : P.follows .mixedOrders = true
  funcs_ok : ∀ f fn, funcs f = some fn → P.funcs[f]? = some fn ∧ (fn.name == "runtime.NumGoroutine") = false
  known_ok : ∀ f args H v H' low mt, known f args H = some (v, H', low, mt) → ACalls P f args H (Ret v H') ∧ Frm low mt H H' ∧ ∃ fn, P.funcs[f]? = some fn ∧ (fn.name == "runtime.NumGoroutine") = false ∧ fn.body.isNone = false
inductive Ex where
  | normal
  | exit (id : Nat)
  | ret
def Ex.exit' : Ex → Exit
  | .normal => .normal
  | .exit id => .exit id
  | .ret => .ret
abbrev CR := Option (AV × HS × Bool × Nat × Bool)
abbrev XR := Option (Ex × List AV × HS × Bool × Nat × Bool)
structure Rec where
  info : Info
  T : List AV
  H : HS
  v : AV
  on : Bool
section
variable {P : Program} [Wins P] (K : Reck P)
def guardE (ops : Array Oper) (o : Oper) (T : List AV) : Option Bool :=
  match o.guard with
  | none => some true
  | some (g, want) => match (ops[g]?).bind (·.dst) with
    | none => none
    | some d => match T[d]? with
      | some (.d (.v (.bool x))) => some (x == want)
      | some .nv => some false
      | _ => none
def callE (call : AV → List AV → HS → CR) (o : Oper) (E : Operand → AV) (H : HS) : CR :=
  match o.op with
  | .call ⟨.value fo, args, _⟩ => call (E fo) (args.toList.map E) H
  | _ => none
def opE (call : AV → List AV → HS → CR) (o : Oper) (E : Operand → AV) (H : HS) : Option (AV × HS × Info) :=
  match K.pure o E with
  | some v => some (v, H, .pure)
  | none => match K.read o E H with
    | some v => some (v, H, .read)
    | none => match K.full o E H with
      | some (v, H', low, mt) => some (v, H', .write low mt)
      | none => match callE call o E H with
        | some (v, H', any, low, mt) => match any with
          | true => some (v, H', .write low mt)
          | false => some (v, H, .read)
        | none => none
def opsE (call : AV → List AV → HS → CR) (ops : Array Oper) : List Oper → List AV → HS → Option (List AV × HS × List Rec)
  | [], T, H => some (T, H, [])
  | o :: l, T, H => match guardE ops o T with
    | none => none
    | some false => putK T o.dst .nv fun T1 => match opsE call ops l T1 H with
      | some (T', H', rs) => some (T', H', ⟨.pure, T, H, .nv, false⟩ :: rs)
      | none => none
    | some true => match opE K call o (strong (evalT T)) H with
      | none => none
      | some (v, H1, i) => forceA v fun v => putK T o.dst v fun T1 => match opsE call ops l T1 H1 with
        | some (T', H', rs) => some (T', H', ⟨i, T, H, v, true⟩ :: rs)
        | none => none
def flagA (r : Rec) : Nat := match r.info with
  | .pure => 0
  | .read => 1
  | .write .. => 2
def recheck (call : AV → List AV → HS → CR) (o : Oper) (r : Rec) (S : HS) : Bool :=
  match opE K call o (strong (evalT r.T)) S with
  | some (v, _, i) => !i.any && beqA v r.v
  | none => false
def flagB (call : AV → List AV → HS → CR) (states : List HS) (o : Oper) (r : Rec) : Nat := match r.info with
  | .pure => 0
  | .read => if states.all (recheck K call o r) then 0 else 1
  | .write .. => 2
def flagsB (call : AV → List AV → HS → CR) (states : List HS) : List Oper → List Rec → List Nat
  | o :: l, r :: rs => flagB K call states o r :: flagsB call states l rs
  | _, _ => []
def anyR (rs : List Rec) : Bool := rs.foldr (fun r b => r.info.any || b) false
def lowR (rs : List Rec) : Nat := rs.foldr (fun r n => min r.info.low n) big
def mtR (rs : List Rec) : Bool := rs.foldr (fun r b => r.info.mt || b) false
def outX (T : List AV) (H : HS) (rs : List Rec) : XR := match anyR rs with
  | true => forceH H fun H => some (.normal, T, H, anyR rs, lowR rs, mtR rs)
  | false => some (.normal, T, H, anyR rs, lowR rs, mtR rs)
theorem outX_eq (T : List AV) (H : HS) (rs : List Rec) : outX T H rs = some (.normal, T, H, anyR rs, lowR rs, mtR rs) := by
  unfold outX
  split
  · rw [forceH_eq]
  · rfl
def res1E (T : List AV) (H : HS) : ResultVar → Option AV
  | .tmp t => T[t]?
  | .cell a ty => match P.underlying ty, T[a]? with
    | some d, some (.ptr id off) => match H.blks[id]? with
      | some b => match notAgg d with
        | true => b.cs[off]?
        | false => match (P.info? ty).map (·.size) with
          | some n => if off + n ≤ b.cs.length then some (.agg ((b.cs.drop off).take n)) else none
          | none => none
      | none => none
    | _, _ => none
def resE (rs : Array ResultVar) (T : List AV) (H : HS) : Option AV :=
  match rs.toList with
  | [] => some (.tup [])
  | [r] => res1E (P := P) T H r
  | [r, s] => match res1E (P := P) T H r, res1E (P := P) T H s with
    | some x, some y => some (.tup [x, y])
    | _, _ => none
  | [r, s, q] => match res1E (P := P) T H r, res1E (P := P) T H s, res1E (P := P) T H q with
    | some x, some y, some z => some (.tup [x, y, z])
    | _, _, _ => none
  | _ => none
def plainX (ex : Code → List AV → HS → XR) (fn : Func) (args : List AV) (H : HS) : CR :=
  match fn.body with
  | some k => forceAs (args ++ List.replicate (fn.ntmps - args.length) .un) fun T => match ex k T H with
    | some (.exit _, _, _) => none
    | some (_, T', H', any, low, mt) => match resE (P := P) fn.results T' H' with
      | some v => if any = true ∧ H.blks.length ≤ low ∧ mt = false ∧ fitsB H.blks.length H.toks.length v = true then some (v, H, false, big, false) else some (v, H', any, low, mt)
      | none => none
    | none => none
  | none => none
def callP (ex : Code → List AV → HS → XR) (f : FuncId) (args : List AV) (H : HS) : CR :=
  match K.known f args H with
  | some (v, H', low, mt) => some (v, H', true, low, mt)
  | none => match K.funcs f with
    | some fn => plainX (P := P) ex fn args H
    | none => none
abbrev XC := Option (Ex × List AV × HS × List DD × Nat)
def rangeX (ex : Code → List AV → HS → XR) (g : Operand) (ps : Array Tmp) (asg bd : Code) (T : List AV) (H : HS) (D : List DD) : XC :=
  match evalT T g with
  | .fn (.func gf) [] cs => match callP K ex gf (.fn (.yield 0) [] [.iter (H.maps.length + 1)] :: cs) ((H.pushM (.obj (.deferred (some [])))).pushM (.rnd ps asg bd .ready none T)) with
    | some (_, S, _, l, _) => some (.normal, T, S.setM (H.maps.length + 1) (.rnd ps asg bd .exhausted none T), .col H.maps.length :: D, l)
    | none => none
  | _ => none
def deferX (ops : Array Oper) (T : List AV) (H : HS) (D : List DD) : XC :=
  match ops.toList.getLast? with
  | some ⟨dst, .defer ⟨.value fo, args, _⟩, _, _, _, none⟩ => if ops.toList.dropLast.all (fun o => o.guard.isNone) = true then match opsE K (fun _ _ _ => none) ops ops.toList.dropLast T H with
      | some (T1, H1, rs) => match evalT T1 fo with
        | .fn (.func f) fs cs => some (.normal, putT T1 dst .nv, H1, .call f (fs ++ args.toList.map (evalT T1)) cs :: D, lowR rs)
        | _ => none
      | none => none
    else none
  | _ => none
def plainC (ex : Code → List AV → HS → XR) (k : Code) (T : List AV) (H : HS) (D : List DD) : XC :=
  match ex k T H with
  | some (e, T', H', _, l, _) => some (e, T', H', D, l)
  | none => none
def xcode (ex : Code → List AV → HS → XR) : Code → List AV → HS → List DD → XC
  | .seq x y, T, H, D => match xcode ex x T H D with
    | some (.normal, T1, H1, D1, l1) => forceAs T1 fun T1 => forceH H1 fun H1 => match xcode ex y T1 H1 D1 with
      | some (e, T2, H2, D2, l2) => some (e, T2, H2, D2, min l1 l2)
      | none => none
    | r => r
  | .cond c x y, T, H, D => match evalT T c with
    | .d (.v (.bool true)) => xcode ex x T H D
    | .d (.v (.bool false)) => xcode ex y T H D
    | _ => none
  | .block id x, T, H, D => match xcode ex x T H D with
    | some (.exit i, r) => if i = id then some (.normal, r) else some (.exit i, r)
    | r => r
  | .region id ops false, T, H, D => match plainC ex (.region id ops false) T H D with
    | some r => some r
    | none => deferX K ops T H D
  | .rangeFunc g ps asg bd, T, H, D => rangeX K ex g ps asg bd T H D
  | k, T, H, D => plainC ex k T H D
def dendX (ex : Code → List AV → HS → XR) : List DD → HS → Option (HS × Nat)
  | [], H => some (H, big)
  | .col idx :: ds, H => match H.maps[idx]? with
    | some (.obj (.deferred (some []))) => dendX ex ds (H.setM idx (.obj (.deferred none)))
    | _ => none
  | .call f args cs :: ds, H => match callP K ex f (args ++ cs) H with
    | some (_, H', _, l, _) => match dendX ex ds H' with
      | some (H2, l2) => some (H2, min l l2)
      | none => none
    | none => none
def colsOk (n : Nat) : List DD → Bool
  | [] => true
  | .col i :: ds => decide (n ≤ i) && colsOk n ds
  | _ :: ds => colsOk n ds
def xbody (ex : Code → List AV → HS → XR) (fn : Func) (args : List AV) (H : HS) : CR :=
  match fn.body with
  | some k => match xcode K ex k (args ++ List.replicate (fn.ntmps - args.length) .un) H [] with
    | some (.exit _, _) => none
    | some (_, T', H', D', l1) => if colsOk H.maps.length D' = true then match dendX K ex D' H' with
        | some (H2, l2) => match resE (P := P) fn.results T' H2 with
          | some v => some (v, H2, true, min l1 l2, true)
          | none => none
        | none => none
      else none
    | none => none
  | none => none
def callX (ex : Code → List AV → HS → XR) (f : FuncId) (args : List AV) (H : HS) : CR :=
  match K.isX f with
  | false => callP K ex f args H
  | true => match K.funcs f with
    | some fn => xbody K ex fn args H
    | none => none
def yieldX (ex : Code → List AV → HS → XR) (idx : Nat) (vx vy : AV) (H : HS) : CR :=
  match H.maps[idx]? with
  | some (.rnd ⟨[p, q]⟩ asg bd .ready none T) => forceAs (putT (putT T (some p) vx) (some q) vy) fun T2 => match ex asg T2 H with
    | some (.normal, T1, H1, _, l1, false) => match ex bd T1 (H1.setM idx (.rnd #[p, q] asg bd .busy none T)) with
      | some (.normal, _, H2, _, l2, _) => some (.d (TF true), H2.setM idx (.rnd #[p, q] asg bd .ready none T), true, min l1 l2, true)
      | _ => none
    | _ => none
  | _ => none
def callV (ex : Code → List AV → HS → XR) (fv : AV) (args : List AV) (H : HS) : CR :=
  match fv with
  | .fn (.func f) fs cs => callX K ex f (fs ++ args ++ cs) H
  | .fn (.yield 0) [] [.iter idx] => match args with
    | [vx, vy] => yieldX ex idx vx vy H
    | _ => none
  | _ => none
def exec : Nat → Code → List AV → HS → XR
  | 0, _, _, _ => none
  | n + 1, k, T, H => match k with
    | .skip => some (.normal, T, H, false, big, false)
    | .label _ => some (.normal, T, H, false, big, false)
    | .exit id => some (.exit id, T, H, false, big, false)
    | .ret => some (.ret, T, H, false, big, false)
    | .seq x y => match exec n x T H with
      | some (.normal, T1, H1, a, l, m) => match exec n y T1 H1 with
        | some (e, T2, H2, a', l', m') => some (e, T2, H2, a || a', min l l', m || m')
        | none => none
      | r => r
    | .cond c x y => match evalT T c with
      | .d (.v (.bool b)) => exec n (if b then x else y) T H
      | _ => none
    | .block id x => match exec n x T H with
      | some (.exit i, T1, H1, r) => if i = id then some (.normal, T1, H1, r) else some (.exit i, T1, H1, r)
      | r => r
    | .scope x => exec n x T H
    | .loop x => match exec n x T H with
      | some (.normal, T1, H1, a, l, m) => match exec n (.loop x) T1 H1 with
        | some (e, T2, H2, a', l', m') => some (e, T2, H2, a || a', min l l', m || m')
        | none => none
      | r => r
    | .region _ ops draw => match opsE K (callV K (exec n)) ops ops.toList T H with
        | none => none
        | some (T', H', rs) => match draw with
          | false => outX T' H' rs
          | true => match drawF ops (rs.map flagA) || drawF ops (flagsB K (callV K (exec n)) (H' :: rs.map (·.H)) ops.toList rs) with
            | true => outX T' H' rs
            | false => none
    | _ => none
def Is (e : Exit) (T' : List AV) (H' : HS) : Post := fun e2 T2 H2 => e2 = e ∧ T2 = T' ∧ H2 = H'
variable {K}
theorem res1E_ok {T : List AV} {H : HS} {r : ResultVar} {v : AV} (h : res1E (P := P) T H r = some v) : Res1 P T H r v := by
  cases r with
  | tmp t => exact .tmp h
  | cell a ty =>
    simp only [res1E] at h
    split at h
    · rename_i d id off ht hx
      split at h
      · rename_i b hb
        split at h
        · rename_i hd
          exact .cell ht hd hx hb h
        · rename_i hd
          split at h
          · rename_i n hn
            split at h
            · rename_i hl
              cases h
              exact .cells ht hd hn hx hb hl rfl
            · cases h
          · cases h
      · cases h
    · cases h
theorem resE_ok {rs : Array ResultVar} {T : List AV} {H : HS} {v : AV} (h : resE (P := P) rs T H = some v) (he : Exit) (hh : he = .ret ∨ he = .normal) : RetPostC P rs (Ret v H) he T H ∨ RetPost rs (Ret v H) he T H := by
  unfold resE at h
  obtain ⟨l⟩ := rs
  dsimp only at h
  match l, h with
  | [], h => cases h; exact .inr (retPost0 hh rfl ⟨rfl, rfl⟩)
  | [r], h => exact .inl ⟨hh, v, ⟨rfl, rfl⟩, .inl ⟨r, rfl, res1E_ok h⟩⟩
  | [r, s], h =>
    dsimp only at h
    split at h
    · rename_i x y hx hy
      cases h
      exact .inl ⟨hh, _, ⟨rfl, rfl⟩, .inr (.inl ⟨r, s, x, y, rfl, res1E_ok hx, res1E_ok hy, rfl⟩)⟩
    · cases h
  | [r, s, q], h =>
    dsimp only at h
    split at h
    · rename_i x y z hx hy hz
      cases h
      exact .inl ⟨hh, _, ⟨rfl, rfl⟩, .inr (.inr ⟨r, s, q, x, y, z, rfl, res1E_ok hx, res1E_ok hy, res1E_ok hz, rfl⟩)⟩
    · cases h
  | _ :: _ :: _ :: _ :: _, h => cases h
def FnOk (call : FuncId → List AV → HS → CR) : Prop := ∀ f args H v H' a l m, call f args H = some (v, H', a, l, m) → ACalls P f args H (Ret v H') ∧ Eff a l m H H' ∧ ∃ fn, P.funcs[f]? = some fn ∧ (fn.name == "runtime.NumGoroutine") = false ∧ fn.body.isNone = false
def CallOk (call : AV → List AV → HS → CR) : Prop := ∀ (E : Operand → AV) (fo : Operand) (args : Array Operand) (H H' : HS) (v : AV) (a : Bool) (l : Nat) (m : Bool), call (E fo) (args.toList.map E) H = some (v, H', a, l, m) →
  (∀ (dst : Option Tmp) (ts : Array TypeId) (ty : TypeId) (pos : String) (after : Array Edge) (gd : Option (Nat × Bool)), OpR P ⟨dst, .call ⟨.value fo, args, ts⟩, ty, pos, after, gd⟩ E H (Ret v H')) ∧ Eff a l m H H'
theorem callE_ok {call : AV → List AV → HS → CR} (hc : CallOk (P := P) call) {o : Oper} {E : Operand → AV} {H H' : HS} {v : AV} {a : Bool} {l : Nat} {m : Bool} (h : callE call o E H = some (v, H', a, l, m)) : OpR P o E H (Ret v H') ∧ Eff a l m H H' := by
  unfold callE at h
  obtain ⟨dst, op, ty, pos, after, gd⟩ := o
  dsimp only at h
  split at h
  · rename_i fo args ts
    obtain ⟨h1, h2⟩ := hc _ _ _ _ _ _ _ _ _ h
    exact ⟨h1 _ _ _ _ _ _, h2⟩
  · cases h
def InfoOk (P : Program) [Wins P] (o : Oper) (E : Operand → AV) (H : HS) (v : AV) (H' : HS) : Info → Prop
  | .pure => H' = H ∧ ∀ H : HS, OpR P o E H (Ret v H)
  | .read => H' = H ∧ OpR P o E H (Ret v H)
  | .write low mt => OpR P o E H (Ret v H') ∧ Frm low mt H H'
theorem opE_ok {call : AV → List AV → HS → CR} (hc : CallOk (P := P) call) {o : Oper} {E : Operand → AV} {H H' : HS} {v : AV} {i : Info} (h : opE K call o E H = some (v, H', i)) : InfoOk P o E H v H' i := by
  unfold opE at h
  split at h
  · rename_i u hp
    cases h
    exact ⟨rfl, K.pure_ok _ _ _ hp⟩
  · split at h
    · rename_i u hp
      cases h
      exact ⟨rfl, K.read_ok _ _ _ _ hp⟩
    · split at h
      · rename_i u H1 low mt hp
        cases h
        exact K.full_ok _ _ _ _ _ _ _ hp
      · split at h
        · rename_i u H1 any low mt hp
          obtain ⟨q1, q2⟩ := callE_ok hc hp
          split at h
          · cases h
            exact ⟨q1, q2.frm⟩
          · cases h
            have := q2.same rfl
            subst this
            exact ⟨rfl, q1⟩
        · cases h
theorem InfoOk.eff {o : Oper} {E : Operand → AV} {H H' : HS} {v : AV} {i : Info} (h : InfoOk P o E H v H' i) : Eff i.any i.low i.mt H H' := by
  cases i with
  | pure => obtain ⟨rfl, _⟩ := h; exact .refl _ _ _
  | read => obtain ⟨rfl, _⟩ := h; exact .refl _ _ _
  | write low mt => exact ⟨fun hh => (by cases hh), h.2⟩
theorem InfoOk.still {o : Oper} {E : Operand → AV} {H H' : HS} {v : AV} {i : Info} (h : InfoOk P o E H v H' i) (hi : i.any = false) : OpR P o E H (Ret v H) := by
  cases i with
  | pure => exact h.2 H
  | read => exact h.2
  | write low mt => cases hi
theorem guardE_ok {ops : Array Oper} {o : Oper} {T : List AV} {b : Bool} (hb : guardE ops o T = some b) : match o.guard with
    | none => b = true
    | some (g, want) => (∃ d x, (ops[g]?).bind (·.dst) = some d ∧ T[d]? = some (.d (.v (.bool x))) ∧ b = (x == want)) ∨ (∃ d, (ops[g]?).bind (·.dst) = some d ∧ T[d]? = some .nv ∧ b = false) := by
  unfold guardE at hb
  cases hg : o.guard with
  | none =>
    rw [hg] at hb
    simpa using hb.symm
  | some gw =>
    obtain ⟨g, want⟩ := gw
    rw [hg] at hb
    dsimp only at hb ⊢
    split at hb
    · cases hb
    · rename_i d hd
      split at hb
      · rename_i x hx
        cases hb
        exact .inl ⟨d, x, hd, hx, rfl⟩
      · rename_i hx
        cases hb
        exact .inr ⟨d, hd, hx, rfl⟩
      · cases hb
theorem opsE_eff {call : AV → List AV → HS → CR} (hc : CallOk (P := P) call) {ops : Array Oper} : ∀ (l : List Oper) (T : List AV) (H : HS) (T' : List AV) (H' : HS) (rs : List Rec), opsE K call ops l T H = some (T', H', rs) → Eff (anyR rs) (lowR rs) (mtR rs) H H'
  | [], T, H, T', H', rs, h => by
    simp only [opsE, Option.some.injEq, Prod.mk.injEq] at h
    obtain ⟨rfl, rfl, rfl⟩ := h
    exact .refl _ _ _
  | o :: l, T, H, T', H', rs, h => by
    simp only [opsE, putK_eq, forceA_eq] at h
    split at h
    · cases h
    · split at h
      · rename_i T1 H1 rs1 hr
        cases h
        have := opsE_eff hc l _ _ _ _ _ hr
        exact (Eff.refl big false H).trans this
      · cases h
    · split at h
      · cases h
      · rename_i v H1 i ho
        split at h
        · rename_i T1 H2 rs1 hr
          cases h
          exact (opE_ok hc ho).eff.trans (opsE_eff hc l _ _ _ _ _ hr)
        · cases h
theorem opsE_A {call : AV → List AV → HS → CR} (hc : CallOk (P := P) call) {ops : Array Oper} : ∀ (l : List Oper) (T : List AV) (H : HS) (T' : List AV) (H' : HS) (rs : List Rec), opsE K call ops l T H = some (T', H', rs) →
    DRunX P (fun _ => True) ops l (rs.map flagA) T H (fun T2 H2 => T2 = T' ∧ H2 = H')
  | [], T, H, T', H', rs, h => by
    simp only [opsE, Option.some.injEq, Prod.mk.injEq] at h
    obtain ⟨rfl, rfl, rfl⟩ := h
    exact ⟨rfl, rfl⟩
  | o :: l, T, H, T', H', rs, h => by
    simp only [opsE, putK_eq, forceA_eq] at h
    split at h
    · cases h
    · rename_i hb
      split at h
      · rename_i T1 H1 rs1 hr
        cases h
        exact ⟨.nv, H, ⟨false, guardE_ok hb, rfl, rfl⟩, .inr fun _ => trivial, opsE_A hc l _ _ _ _ _ hr⟩
      · cases h
    · rename_i hb
      split at h
      · cases h
      · rename_i v H1 i ho
        split at h
        · rename_i T1 H2 rs1 hr
          cases h
          have h1 := opE_ok hc ho
          refine ⟨v, H1, ⟨true, guardE_ok hb, ?_⟩, .inr fun _ => trivial, opsE_A hc l _ _ _ _ _ hr⟩
          cases i with
          | pure => exact ⟨h1.1, fun H _ => opR_strong (h1.2 H)⟩
          | read => exact ⟨h1.1, opR_strong h1.2⟩
          | write low mt => exact opR_strong h1.1
        · cases h
theorem opsE_B {call : AV → List AV → HS → CR} (hc : CallOk (P := P) call) {ops : Array Oper} {states : List HS} : ∀ (l : List Oper) (T : List AV) (H : HS) (T' : List AV) (H' : HS) (rs : List Rec), opsE K call ops l T H = some (T', H', rs) → H' ∈ states → (∀ r ∈ rs, r.H ∈ states) →
    DRunX P (fun S => S ∈ states) ops l (flagsB K call states l rs) T H (fun T2 H2 => T2 = T' ∧ H2 = H')
  | [], T, H, T', H', rs, h, _, _ => by
    simp only [opsE, Option.some.injEq, Prod.mk.injEq] at h
    obtain ⟨rfl, rfl, rfl⟩ := h
    exact ⟨rfl, rfl⟩
  | o :: l, T, H, T', H', rs, h, hf, hs => by
    have first : ∀ {l : List Oper} {T : List AV} {H : HS} {T' : List AV} {H' : HS} {rs : List Rec}, opsE K call ops l T H = some (T', H', rs) → H' ∈ states → (∀ r ∈ rs, r.H ∈ states) → H ∈ states := by
      intro l T H T' H' rs h hf hs
      cases l with
      | nil =>
        simp only [opsE, Option.some.injEq, Prod.mk.injEq] at h
        obtain ⟨rfl, rfl, rfl⟩ := h
        exact hf
      | cons o l =>
        simp only [opsE, putK_eq, forceA_eq] at h
        split at h
        · cases h
        · split at h
          · cases h; exact hs _ (List.mem_cons_self ..)
          · cases h
        · split at h
          · cases h
          · split at h
            · cases h; exact hs _ (List.mem_cons_self ..)
            · cases h
    simp only [opsE, putK_eq, forceA_eq] at h
    split at h
    · cases h
    · rename_i hb
      split at h
      · rename_i T1 H1 rs1 hr
        cases h
        have hs' : ∀ r ∈ rs1, r.H ∈ states := fun r hr => hs r (List.mem_cons_of_mem _ hr)
        exact ⟨.nv, H, ⟨false, guardE_ok hb, rfl, rfl⟩, .inr fun _ => first hr hf hs', opsE_B hc l _ _ _ _ _ hr hf hs'⟩
      · cases h
    · rename_i hb
      split at h
      · cases h
      · rename_i v H1 i ho
        split at h
        · rename_i T1 H2 rs1 hr
          cases h
          have h1 := opE_ok hc ho
          have hs' : ∀ r ∈ rs1, r.H ∈ states := fun r hr => hs r (List.mem_cons_of_mem _ hr)
          refine ⟨v, H1, ⟨true, guardE_ok hb, ?_⟩, .inr fun _ => first hr hf hs', opsE_B hc l _ _ _ _ _ hr hf hs'⟩
          show (match flagB K call states o ⟨i, T, H, v, true⟩ with
             | 0 => H1 = H ∧ ∀ S, S ∈ states → OpR P o (evalT T) S (Ret v S)
             | 1 => H1 = H ∧ OpR P o (evalT T) H (Ret v H)
             | _ => OpR P o (evalT T) H (Ret v H1))
          cases i with
          | pure => exact ⟨h1.1, fun H _ => opR_strong (h1.2 H)⟩
          | write low mt => exact opR_strong h1.1
          | read =>
            unfold flagB
            dsimp only
            split
            · rename_i hall heq
              split at heq
              · rename_i hall
                refine ⟨h1.1, fun S hS => ?_⟩
                have h2 := List.all_eq_true.1 hall S hS
                unfold recheck at h2
                dsimp only at h2
                split at h2
                · rename_i u S' j hj
                  simp only [Bool.and_eq_true, Bool.not_eq_true'] at h2
                  have h3 := (opE_ok hc hj).still h2.1
                  rw [beqA_ok _ _ h2.2] at h3
                  exact opR_strong h3
                · cases h2
              · cases heq
            · exact ⟨h1.1, opR_strong h1.2⟩
            · rw [h1.1]; exact opR_strong h1.2
        · cases h
theorem aw_drawY (Φ : HS → Prop) {Q : Post} {id : Nat} {T : List AV} {H : HS} {l : List Oper} (fl : List Nat) (hm : P.follows .mixedOrders = true) (hok : drawOk l.toArray fl (Region.before l.toArray) = true)
    (hΦ : Φ H) (hrun : DRunX P Φ l.toArray l fl T H fun T' H' => Q .normal T' H' ∧ Φ H') : AW P (.region id l.toArray true) Q T H := by
  intro B0 w0 c w a tr h1 h2 h3 b k' cs hbk hn
  obtain ⟨vs, hs, e1, ep, e2, e3⟩ := drun_ref (P := P) (ops := l.toArray) (fl := fl) l 0 fl T H _ (fun i => by simp) (fun i => by simp) hrun
  have htref : ∀ k, (List.range k).foldl (fun T j => putT T (dstAt l.toArray (0 + j)) (vs (0 + j))) T = Tref l.toArray T vs k := by
    intro k
    induction k with
    | zero => rfl
    | succ k ih => rw [List.range_succ, List.foldl_append, ih]; simp [Tref]
  simp only [htref] at e2 e3
  obtain ⟨td, hst⟩ := sg_draw (ops := l.toArray) (main := c.x.me == 0) (b := b) (a := a) (k := k') (cs := cs) (w := w) (id := id) hm
  refine run_quiet h1.xok hst ?_
  refine draw_main (vs := vs) (hs := hs) (T0 := T) hok ⟨fun k o hk => ?_, fun k hk => by have := ep hΦ k (by simpa using hk); simpa using this, .inl (by simpa using e3.2)⟩ B0 w0 c a.defers b k' cs hbk ?_ _ td _ c _ a tr (by simp) ?_ ?_ (Lw.refl c) ?_ h2 h3.size ?_ rfl
  · have := e2 k o (by simpa using hk)
    simpa using this
  · intro a' w' c' t' x1 x2 x3 x4 x5
    refine hn .normal a' w' c' t' _ _ x1 x2 x3 x4 x5 ?_
    simpa using e3.1
  · have : ((List.range l.toArray.size).filter fun i => !inS (Array.replicate l.toArray.size false) i).length ≤ (List.range l.toArray.size).length := List.length_filter_le _ _
    simpa using this
  · intro i j hj hi hS hb
    simp only [inS] at hS
    simp at hS hj
    simp [hj] at hS
  · rw [Hc_at (j := 0) (Nat.zero_le _) (fun i hi _ => by rw [inS_none]; rfl)]
    show Inv B0 w0 c (hs 0) _
    rw [e1]
    exact h1.drew
  · intro t ht
    rw [W_at (j := 0) (Nat.zero_le _) (fun i hi _ => by rw [inS_none]; rfl)]
    exact h3.at_ t ht
theorem drun_mono {Φ : HS → Prop} {ops : Array Oper} {Q Q' : List AV → HS → Prop} (hq : ∀ T H, Q T H → Q' T H) : ∀ (l : List Oper) (fl : List Nat) (T : List AV) (H : HS), DRunX P Φ ops l fl T H Q → DRunX P Φ ops l fl T H Q'
  | [], _, _, _, h => hq _ _ h
  | _ :: l, _, _, _, ⟨v, H', h1, h2, h3⟩ => ⟨v, H', h1, h2, drun_mono hq l _ _ _ h3⟩
theorem al_of_drun {ops : Array Oper} {Q : Post} : ∀ (l : List Oper) (fl : List Nat) (T : List AV) (H : HS), DRunX P (fun _ => True) ops l fl T H (fun T' H' => Q .normal T' H') → AL P ops l Q T H
  | [], fl, T, H, h => al_nil h
  | o :: l, fl, T, H, h => by
    obtain ⟨v, H', ⟨b, hg, hb⟩, _, hr⟩ := h
    have ih := al_of_drun l _ _ _ hr
    cases b with
    | false =>
      obtain ⟨rfl, rfl⟩ := hb
      cases hgd : o.guard with
      | none => rw [hgd] at hg; cases hg
      | some gw =>
        obtain ⟨g, want⟩ := gw
        rw [hgd] at hg
        rcases hg with ⟨d, x, h1, h2, h3⟩ | ⟨d, h1, h2, _⟩
        · exact al_unwanted hgd h1 h2 h3.symm ih
        · exact al_unwanted0 hgd h1 h2 ih
    | true =>
      have ho : OpR P o (evalT T) H (Ret v H') := by
        rcases hf : fl.headD 2 with _ | _ | f
        · rw [hf] at hb
          have hb' : H' = H ∧ ∀ H, True → OpR P o (evalT T) H (Ret v H) := hb
          rw [hb'.1]
          exact hb'.2 _ trivial
        · rw [hf] at hb
          have hb' : H' = H ∧ OpR P o (evalT T) H (Ret v H) := hb
          rw [hb'.1]
          exact hb'.2
        · rw [hf] at hb
          exact hb
      cases hgd : o.guard with
      | none => exact al_step ho hgd ih
      | some gw =>
        obtain ⟨g, want⟩ := gw
        rw [hgd] at hg
        rcases hg with ⟨d, x, h1, h2, h3⟩ | ⟨d, h1, h2, h3⟩
        · have : x = want := by simpa using h3.symm
          subst this
          exact al_wanted hgd h1 h2 ho ih
        · cases h3
def AWL (P : Program) [Wins P] (k : Code) (Q : Post) (T : List AV) (H : HS) : Prop :=
  ∀ (B : Nat) (w0 : World) (c : Ctx) (w : World) (a : Act) (t : Trace), Inv B w0 c H w → Held c t → RepT c a.tmps T →
  ∀ (b : Frame) (k' : List Item) (cs : List Frame), b.kind ≠ .early →
    (∀ e a' w' c' t' T' H', Lw c c' → Inv B w0 c' H' w' → Held c' t' → RepT c' a'.tmps T' → a'.defers = a.defers → Q e T' H' → After P c'.x w' t' b k' cs e a') →
    Run P c.x w t (b.atR a (.code k :: .inLoop k :: k')) cs
theorem aw_of_awl {k : Code} {Q : Post} {T : List AV} {H : HS} (h : AWL P k Q T H) : AW P (.loop k) Q T H :=
  fun B w0 c w a t h1 h2 h3 b k' cs hk hn => run_quiet h1.xok sg_loop (h B w0 c w a t h1 h2 h3 b k' cs hk hn)
theorem awl_turn {k : Code} {Q : Post} {T T1 : List AV} {H H1 : HS} (h : AW P k (Is .normal T1 H1) T H) (h' : AWL P k Q T1 H1) : AWL P k Q T H := by
  intro B w0 c w a t h1 h2 h3 b k' cs hk hn
  refine h B w0 c w a t h1 h2 h3 b (.inLoop k :: k') cs hk ?_
  rintro e a' w' c' t' T' H' x1 x2 x3 x4 x5 ⟨rfl, rfl, rfl⟩
  refine run_quiet x2.xok sg_inLoop (h' B w0 c' w' a' t' x2 x3 x4 b k' cs hk ?_)
  intro e a2 w2 c2 t2 T2 H2 y1 y2 y3 y4 y5 y6
  exact hn e a2 w2 c2 t2 T2 H2 (x1.trans y1) y2 y3 y4 (y5.trans x5) y6
theorem awl_out {k : Code} {e : Exit} {T T1 : List AV} {H H1 : HS} (he : e ≠ .normal) (h : AW P k (Is e T1 H1) T H) : AWL P k (Is e T1 H1) T H := by
  intro B w0 c w a t h1 h2 h3 b k' cs hk hn
  refine h B w0 c w a t h1 h2 h3 b (.inLoop k :: k') cs hk ?_
  rintro e2 a' w' c' t' T' H' x1 x2 x3 x4 x5 ⟨rfl, rfl, rfl⟩
  exact (hn _ a' w' c' t' T' H' x1 x2 x3 x4 x5 ⟨rfl, rfl, rfl⟩).push (fun _ h => by cases h) he
theorem bodyC {f : FuncId} {fn : Func} {k : Code} {args : List AV} {H H' : HS} {e : Exit} {T' : List AV} {v : AV} (hf : P.funcs[f]? = some fn) (hb : fn.body = some k) (he : e = .ret ∨ e = .normal) (hv : resE (P := P) fn.results T' H' = some v)
    (h : AW P k (Is e T' H') (args ++ List.replicate (fn.ntmps - args.length) .un) H) : ACalls P f args H (Ret v H') := by
  rcases resE_ok hv e he with hr | hr
  · exact acalls_of_awC hf hb (aw_mono h fun e2 T2 H2 ⟨h1, h2, h3⟩ => by subst h1; subst h2; subst h3; exact hr)
  · exact acalls_of_aw hf hb (aw_mono h fun e2 T2 H2 ⟨h1, h2, h3⟩ => by subst h1; subst h2; subst h3; exact hr)
theorem cut_call {f : FuncId} {args : List AV} {H H' : HS} {v : AV} {low : Nat} {mt : Bool} (h : ACalls P f args H (Ret v H')) (hf : Frm low mt H H') (hl : H.blks.length ≤ low) (hm : mt = false) (hv : Fits H.blks.length H.toks.length v) : ACalls P f args H (Ret v H) := by
  obtain ⟨q1, q2⟩ := hf.rest hm
  have hx : Ext H H' := by
    refine ⟨⟨H'.blks.drop H.blks.length, ?_⟩, ⟨[], by rw [q1]; simp⟩, q2, hf.x⟩
    have : H'.blks.take H.blks.length = H.blks := by
      apply List.ext_getElem?
      intro j
      rw [List.getElem?_take]
      by_cases hj : j < H.blks.length
      · rw [if_pos hj, hf.blk j (by omega) hj]
      · rw [if_neg hj, List.getElem?_eq_none (by omega)]
    have h4 := (List.take_append_drop H.blks.length H'.blks).symm
    rw [this] at h4
    exact h4
  have := ACalls.tidy (R := fun av => av = v) (h.mono fun av H2 ⟨h1, h2⟩ => ⟨by rw [h1]; exact hv, by rw [h2]; exact hx, h1⟩)
  exact this.mono fun av H2 ⟨h1, h2⟩ => ⟨h1, h2⟩
abbrev ExOk (P : Program) [Wins P] (ex : Code → List AV → HS → XR) : Prop := ∀ (k : Code) (T : List AV) (H : HS) (e : Ex) (T' : List AV) (H' : HS) (a : Bool) (l : Nat) (m : Bool), ex k T H = some (e, T', H', a, l, m) → AW P k (Is e.exit' T' H') T H ∧ Eff a l m H H'
theorem callP_ok {ex : Code → List AV → HS → XR} (ih : ExOk P ex) : FnOk (P := P) (callP K ex) := by
  intro f args H v H' a l m h
  unfold callP at h
  split at h
  · rename_i v1 H1 low mt hk
    cases h
    obtain ⟨q1, q2, q3⟩ := K.known_ok _ _ _ _ _ _ _ hk
    exact ⟨q1, ⟨fun hh => (by cases hh), q2⟩, q3⟩
  · split at h
    · rename_i fn hfn
      obtain ⟨hf, hname⟩ := K.funcs_ok _ _ hfn
      unfold plainX at h
      split at h
      · rename_i k hb
        rw [forceAs_eq] at h
        cases hx : ex k (args ++ List.replicate (fn.ntmps - args.length) .un) H with
        | none => rw [hx] at h; cases h
        | some r =>
          obtain ⟨e, T1, H1, a1, l1, m1⟩ := r
          rw [hx] at h
          obtain ⟨hA, hE⟩ := ih _ _ _ _ _ _ _ _ _ hx
          have fin : ∀ (he : e.exit' = .ret ∨ e.exit' = .normal), (match resE (P := P) fn.results T1 H1 with
              | some v => if a1 = true ∧ H.blks.length ≤ l1 ∧ m1 = false ∧ fitsB H.blks.length H.toks.length v = true then some (v, H, false, big, false) else some (v, H1, a1, l1, m1)
              | none => none) = some (v, H', a, l, m) → ACalls P f args H (Ret v H') ∧ Eff a l m H H' ∧ ∃ fn, P.funcs[f]? = some fn ∧ (fn.name == "runtime.NumGoroutine") = false ∧ fn.body.isNone = false := by
            intro he h
            split at h
            · rename_i u hu
              have hB := bodyC hf hb he hu hA
              split at h
              · rename_i hc
                cases h
                exact ⟨cut_call hB hE.frm hc.2.1 hc.2.2.1 (fitsB_ok _ _ _ hc.2.2.2), .refl _ _ _, fn, hf, hname, by rw [hb]; rfl⟩
              · cases h
                exact ⟨hB, hE, fn, hf, hname, by rw [hb]; rfl⟩
            · cases h
          cases e with
          | exit id => cases h
          | normal => exact fin (.inr rfl) h
          | ret => exact fin (.inl rfl) h
      · cases h
    · cases h
def IsX (e : Exit) (T' : List AV) (H' : HS) (D' : List DD) : PostX := fun e2 T2 H2 D2 => e2 = e ∧ T2 = T' ∧ H2 = H' ∧ D2 = D'
theorem plainC_ok {ex : Code → List AV → HS → XR} (ih : ExOk P ex) {k : Code} {T : List AV} {H : HS} {D : List DD} {e : Ex} {T' : List AV} {H' : HS} {D' : List DD} {l : Nat} (h : plainC ex k T H D = some (e, T', H', D', l)) : AWX P k (IsX e.exit' T' H' D') T H D ∧ Frm l true H H' := by
  unfold plainC at h
  split at h
  · rename_i e1 T1 H1 a1 l1 m1 hx
    cases h
    obtain ⟨hA, hE⟩ := ih _ _ _ _ _ _ _ _ _ hx
    exact ⟨awx_aw (aw_mono hA fun e2 T2 H2 ⟨h1, h2, h3⟩ => ⟨h1, h2, h3, rfl⟩), ⟨hE.frm.blk, hE.frm.len, fun hh => (by cases hh), hE.frm.x, hE.frm.map⟩⟩
  · cases h
theorem alx_of_drun {ops : Array Oper} {Q : PostX} {D : List DD} {l2 : List Oper} : ∀ (l : List Oper) (fl : List Nat) (T : List AV) (H : HS), l.all (fun o => o.guard.isNone) = true → DRunX P (fun _ => True) ops l fl T H (fun T' H' => ALX P ops l2 Q T' H' D) → ALX P ops (l ++ l2) Q T H D
  | [], _, _, _, _, h => h
  | o :: l, fl, T, H, hg, ⟨v, H', ⟨b, hb, hst⟩, _, hr⟩ => by
    simp only [List.all_cons, Bool.and_eq_true] at hg
    have hg0 : o.guard = none := by simpa using hg.1
    rw [hg0] at hb
    dsimp only at hb
    subst hb
    have ho : OpR P o (evalT T) H (Ret v H') := by
      rcases hf : fl.headD 2 with _ | _ | f
      · rw [hf] at hst
        have hb' : H' = H ∧ ∀ H, True → OpR P o (evalT T) H (Ret v H) := hst
        rw [hb'.1]
        exact hb'.2 _ trivial
      · rw [hf] at hst
        have hb' : H' = H ∧ OpR P o (evalT T) H (Ret v H) := hst
        rw [hb'.1]
        exact hb'.2
      · rw [hf] at hst
        exact hst
    exact alx_step ho hg0 rfl (alx_of_drun l _ _ _ hg.2 hr)
theorem alx_nil {ops : Array Oper} {Q : PostX} {T : List AV} {H : HS} {D : List DD} (h : Q .normal T H D) : ALX P ops [] Q T H D := alx_al (al_nil h)
theorem deferX_ok {id : Nat} {ops : Array Oper} {T : List AV} {H : HS} {D : List DD} {e : Ex} {T' : List AV} {H' : HS} {D' : List DD} {l : Nat} (h : deferX K ops T H D = some (e, T', H', D', l)) : AWX P (.region id ops false) (IsX e.exit' T' H' D') T H D ∧ Frm l true H H' := by
  unfold deferX at h
  split at h
  · rename_i dst fo args ts ty pos after hlast
    split at h
    · rename_i hg
      split at h
      · rename_i T1 H1 rs hops
        split at h
        · rename_i f fs cs hfo
          cases h
          have hc : CallOk (P := P) (fun _ _ _ => none) := fun _ _ _ _ _ _ _ _ _ h => by cases h
          have hE := opsE_eff hc _ _ _ _ _ _ hops
          have hA := opsE_A hc _ _ _ _ _ _ hops
          refine ⟨?_, ⟨hE.frm.blk, hE.frm.len, fun hh => (by cases hh), hE.frm.x, hE.frm.map⟩⟩
          obtain ⟨ol⟩ := ops
          refine awx_region ?_
          have hsplit : ol = ol.dropLast ++ [⟨dst, .defer ⟨.value fo, args, ts⟩, ty, pos, after, none⟩] := by
            obtain ⟨ys, hys⟩ := List.getLast?_eq_some_iff.1 hlast
            have hys' : ol = ys ++ [⟨dst, .defer ⟨.value fo, args, ts⟩, ty, pos, after, none⟩] := hys
            rw [hys']
            simp
          have key : ALX P (List.toArray ol) (ol.dropLast ++ [⟨dst, .defer ⟨.value fo, args, ts⟩, ty, pos, after, none⟩]) (IsX Exit.normal (putT T1 dst .nv) H' (.call f (fs ++ args.toList.map (evalT T1)) cs :: D)) T H D :=
            alx_of_drun _ _ _ _ hg (drun_mono (fun T2 H2 ⟨h1, h2⟩ => by
              subst h1 h2
              exact alx_defer hfo (alx_nil ⟨rfl, rfl, rfl, rfl⟩)) _ _ _ _ hA)
          rw [← hsplit] at key
          exact key
        · cases h
      · cases h
    · cases h
  · cases h
theorem frm_push2 {H : HS} {m m' : MB} : Frm big true H ((H.pushM m).pushM m') :=
  ⟨fun _ _ _ => rfl, Nat.le_refl _, fun h => (by cases h), rfl, fun i hi => by
    simp only [HS.pushM]
    rw [List.getElem?_append_left (by simp; omega), List.getElem?_append_left hi]⟩
theorem rangeX_ok {ex : Code → List AV → HS → XR} (ih : ExOk P ex) {g : Operand} {ps : Array Tmp} {asg bd : Code} {T : List AV} {H : HS} {D : List DD} {e : Ex} {T' : List AV} {H' : HS} {D' : List DD} {l : Nat} (h : rangeX K ex g ps asg bd T H D = some (e, T', H', D', l)) :
    AWX P (.rangeFunc g ps asg bd) (IsX e.exit' T' H' D') T H D ∧ Frm l true H H' := by
  unfold rangeX at h
  split at h
  · rename_i gf cs hg
    split at h
    · rename_i v S a l1 m hc
      cases h
      obtain ⟨hA, hE, fn, h2, h3, h4⟩ := callP_ok ih _ _ _ _ _ _ _ _ hc
      have hS : S.maps[H.maps.length + 1]? = some (.rnd ps asg bd .ready none T) := by
        rw [hE.frm.map _ (by simp [HS.pushM])]
        simp [HS.pushM]
      refine ⟨awx_range hg h2 h4 h3 (hA.mono fun av S' ⟨h5, h6⟩ => ?_), ?_⟩
      · subst h6
        exact ⟨.ready, none, hS, by simp, rfl, rfl, rfl, rfl⟩
      · have hF := (frm_push2 (H := H) (m := .obj (.deferred (some []))) (m' := .rnd ps asg bd .ready none T)).trans hE.frm
        refine ⟨fun i hi hl => ?_, hF.len, fun hh => (by cases hh), hF.x, fun i hi => ?_⟩
        · by_cases hb : i < big
          · exact hF.blk i (by omega) hl
          · exact hE.frm.blk i hi hl
        · have hne : ¬ H.maps.length + 1 = i := by omega
          have := hF.map i hi
          simp only [HS.setM]
          rw [List.getElem?_set_ne hne]
          exact this
    · cases h
  · cases h
theorem xcode_ok {ex : Code → List AV → HS → XR} (ih : ExOk P ex) : ∀ (k : Code) (T : List AV) (H : HS) (D : List DD) (e : Ex) (T' : List AV) (H' : HS) (D' : List DD) (l : Nat), xcode K ex k T H D = some (e, T', H', D', l) → AWX P k (IsX e.exit' T' H' D') T H D ∧ Frm l true H H'
  | .seq x y, T, H, D, e, T', H', D', l, h => by
    simp only [xcode] at h
    cases hx : xcode K ex x T H D with
    | none => rw [hx] at h; cases h
    | some r =>
      obtain ⟨e1, T1, H1, D1, l1⟩ := r
      rw [hx] at h
      obtain ⟨hA, hE⟩ := xcode_ok ih x _ _ _ _ _ _ _ _ hx
      cases e1 with
      | normal =>
        dsimp only at h
        rw [forceAs_eq, forceH_eq] at h
        cases hy : xcode K ex y T1 H1 D1 with
        | none => rw [hy] at h; cases h
        | some r =>
          obtain ⟨e2, T2, H2, D2, l2⟩ := r
          rw [hy] at h
          cases h
          obtain ⟨hB, hF⟩ := xcode_ok ih y _ _ _ _ _ _ _ _ hy
          refine ⟨awx_seq (awx_mono hA ?_), hE.trans hF⟩
          rintro e3 T3 H3 D3 ⟨rfl, rfl, rfl, rfl⟩
          exact hB
      | exit id =>
        cases h
        refine ⟨awx_seq (awx_mono hA ?_), hE⟩
        rintro e3 T3 H3 D3 ⟨rfl, rfl, rfl, rfl⟩
        exact ⟨rfl, rfl, rfl, rfl⟩
      | ret =>
        cases h
        refine ⟨awx_seq (awx_mono hA ?_), hE⟩
        rintro e3 T3 H3 D3 ⟨rfl, rfl, rfl, rfl⟩
        exact ⟨rfl, rfl, rfl, rfl⟩
  | .cond c x y, T, H, D, e, T', H', D', l, h => by
    simp only [xcode] at h
    split at h
    · rename_i hc
      obtain ⟨hA, hE⟩ := xcode_ok ih x _ _ _ _ _ _ _ _ h
      exact ⟨awx_cond hc (fun _ => hA) (fun hb => by cases hb), hE⟩
    · rename_i hc
      obtain ⟨hA, hE⟩ := xcode_ok ih y _ _ _ _ _ _ _ _ h
      exact ⟨awx_cond hc (fun hb => by cases hb) (fun _ => hA), hE⟩
    · cases h
  | .block id x, T, H, D, e, T', H', D', l, h => by
    simp only [xcode] at h
    cases hx : xcode K ex x T H D with
    | none => rw [hx] at h; cases h
    | some r =>
      obtain ⟨e1, T1, H1, D1, l1⟩ := r
      rw [hx] at h
      obtain ⟨hA, hE⟩ := xcode_ok ih x _ _ _ _ _ _ _ _ hx
      cases e1 with
      | normal =>
        cases h
        refine ⟨awx_block (awx_mono hA ?_), hE⟩
        rintro e3 T3 H3 D3 ⟨rfl, rfl, rfl, rfl⟩
        exact ⟨rfl, rfl, rfl, rfl⟩
      | ret =>
        cases h
        refine ⟨awx_block (awx_mono hA ?_), hE⟩
        rintro e3 T3 H3 D3 ⟨rfl, rfl, rfl, rfl⟩
        exact ⟨rfl, rfl, rfl, rfl⟩
      | exit i =>
        dsimp only at h
        by_cases hi : i = id
        · rw [if_pos hi] at h
          cases h
          refine ⟨awx_block (awx_mono hA ?_), hE⟩
          rintro e3 T3 H3 D3 ⟨rfl, rfl, rfl, rfl⟩
          subst hi
          simp [InBlockX, Ex.exit', IsX]
        · rw [if_neg hi] at h
          cases h
          refine ⟨awx_block (awx_mono hA ?_), hE⟩
          rintro e3 T3 H3 D3 ⟨rfl, rfl, rfl, rfl⟩
          simp [InBlockX, Ex.exit', IsX, hi]
  | .region id ops false, T, H, D, e, T', H', D', l, h => by
    simp only [xcode] at h
    split at h
    · rename_i r hr
      cases h
      exact plainC_ok ih hr
    · exact deferX_ok h
  | .rangeFunc g ps asg bd, T, H, D, e, T', H', D', l, h => by
    simp only [xcode] at h
    exact rangeX_ok ih h
  | .region id ops true, T, H, D, e, T', H', D', l, h => plainC_ok ih (by simpa only [xcode] using h)
  | .skip, T, H, D, e, T', H', D', l, h => plainC_ok ih (by simpa only [xcode] using h)
  | .label _, T, H, D, e, T', H', D', l, h => plainC_ok ih (by simpa only [xcode] using h)
  | .exit _, T, H, D, e, T', H', D', l, h => plainC_ok ih (by simpa only [xcode] using h)
  | .ret, T, H, D, e, T', H', D', l, h => plainC_ok ih (by simpa only [xcode] using h)
  | .loop _, T, H, D, e, T', H', D', l, h => plainC_ok ih (by simpa only [xcode] using h)
  | .scope _, T, H, D, e, T', H', D', l, h => plainC_ok ih (by simpa only [xcode] using h)
  | .goto _, T, H, D, e, T', H', D', l, h => plainC_ok ih (by simpa only [xcode] using h)
  | .refuse _, T, H, D, e, T', H', D', l, h => plainC_ok ih (by simpa only [xcode] using h)
theorem dend_mono {K1 K2 : HS → Prop} (hk : ∀ S, K1 S → K2 S) : ∀ (ds : List DD) (H : HS), DEnd P ds K1 H → DEnd P ds K2 H
  | [], _, h => hk _ h
  | .col _ :: ds, _, ⟨h1, h2⟩ => ⟨h1, dend_mono hk ds _ h2⟩
  | .call _ _ _ :: ds, _, ⟨h1, h2⟩ => ⟨h1, h2.mono fun _ _ h => dend_mono hk ds _ h⟩
theorem dendX_ok {ex : Code → List AV → HS → XR} (ih : ExOk P ex) (n : Nat) : ∀ (ds : List DD) (H H' : HS) (l : Nat), dendX K ex ds H = some (H', l) → colsOk n ds = true → DEnd P ds (fun S => S = H') H ∧ (∀ i, i < l → i < H.blks.length → H'.blks[i]? = H.blks[i]?) ∧ H.blks.length ≤ H'.blks.length ∧ H'.x = H.x ∧ ∀ i, i < n → i < H.maps.length → H'.maps[i]? = H.maps[i]?
  | [], H, H', l, h, _ => by
    simp only [dendX, Option.some.injEq, Prod.mk.injEq] at h
    obtain ⟨rfl, rfl⟩ := h
    exact ⟨rfl, fun _ _ _ => rfl, Nat.le_refl _, rfl, fun _ _ _ => rfl⟩
  | .col idx :: ds, H, H', l, h, hc => by
    simp only [colsOk, Bool.and_eq_true, decide_eq_true_eq] at hc
    simp only [dendX] at h
    split at h
    · rename_i hm
      obtain ⟨q1, q2, q3, q4, q5⟩ := dendX_ok ih n ds _ _ _ h hc.2
      refine ⟨⟨hm, q1⟩, q2, q3, q4, fun i hi hl => ?_⟩
      have := q5 i hi (by simpa [HS.setM] using hl)
      rw [this]
      have hne : ¬ idx = i := by omega
      simp only [HS.setM]
      rw [List.getElem?_set_ne hne]
    · cases h
  | .call f args cs :: ds, H, H', l, h, hc => by
    simp only [colsOk] at hc
    simp only [dendX] at h
    split at h
    · rename_i v H1 a1 l1 m1 hcall
      split at h
      · rename_i H2 l2 hd
        cases h
        obtain ⟨q1, q2, q3, q4, q5⟩ := dendX_ok ih n ds _ _ _ hd hc
        obtain ⟨hA, hE, hfn⟩ := callP_ok ih _ _ _ _ _ _ _ _ hcall
        refine ⟨⟨hfn, hA.mono fun _ S ⟨_, h2⟩ => by rw [h2]; exact q1⟩, fun i hi hl => (q2 i (by omega) (Nat.lt_of_lt_of_le hl hE.frm.len)).trans (hE.frm.blk i (by omega) hl), Nat.le_trans hE.frm.len q3, q4.trans hE.frm.x, fun i hi hl => ?_⟩
        have h1 := hE.frm.map i hl
        have hb : i < H1.maps.length := by
          rw [List.getElem?_eq_getElem hl] at h1
          exact (List.getElem?_eq_some_iff.1 h1).1
        exact (q5 i hi hb).trans h1
      · cases h
    · cases h
theorem res_run {fn : Func} {T : List AV} {H : HS} {v : AV} (hv : resE (P := P) fn.results T H = some v) (B : Nat) (w0 : World) (c : Ctx) (w : World) (tmps : Array Value) (hI : Inv B w0 c H w) (hT : RepT c tmps T) : ∃ u, (results fn tmps).run P w = .ok u w ∧ Rep c u v := by
  unfold resE at hv
  obtain ⟨l, hl⟩ : ∃ l, fn.results = ⟨l⟩ := ⟨fn.results.toList, rfl⟩
  rw [hl] at hv
  dsimp only at hv
  match l, hl, hv with
  | [], hl, hv => cases hv; exact ⟨_, results_none hl _ P w, .tup _ _ rfl fun i hi => by simp at hi⟩
  | [r], hl, hv =>
    obtain ⟨u, e1, r1⟩ := (res1E_ok hv).run hI hT
    exact ⟨u, by simp [results_eq, hl, e1], r1⟩
  | [r, s], hl, hv =>
    dsimp only at hv
    split at hv
    · rename_i x y hx hy
      cases hv
      obtain ⟨u, e1, r1⟩ := (res1E_ok hx).run hI hT
      obtain ⟨u2, e2, r2⟩ := (res1E_ok hy).run hI hT
      refine ⟨.tuple #[u, u2], by simp [results_eq, hl, e1, e2], .tup _ _ rfl fun i hi => ?_⟩
      rcases i with _ | _ | i
      · exact r1
      · exact r2
      · simp at hi; omega
    · cases hv
  | [r, s, q], hl, hv =>
    dsimp only at hv
    split at hv
    · rename_i x y z hx hy hz
      cases hv
      obtain ⟨u, e1, r1⟩ := (res1E_ok hx).run hI hT
      obtain ⟨u2, e2, r2⟩ := (res1E_ok hy).run hI hT
      obtain ⟨u3, e3, r3⟩ := (res1E_ok hz).run hI hT
      refine ⟨.tuple #[u, u2, u3], by simp [results_eq, hl, e1, e2, e3], .tup _ _ rfl fun i hi => ?_⟩
      rcases i with _ | _ | _ | i
      · exact r1
      · exact r2
      · exact r3
      · simp at hi; omega
    · cases hv
  | _ :: _ :: _ :: _ :: _, hl, hv => cases hv
theorem xbody_ok {ex : Code → List AV → HS → XR} (ih : ExOk P ex) {f : FuncId} {fn : Func} (hf : P.funcs[f]? = some fn) {args : List AV} {H H' : HS} {v : AV} {a : Bool} {l : Nat} {m : Bool} (h : xbody K ex fn args H = some (v, H', a, l, m)) : ACalls P f args H (Ret v H') ∧ Eff a l m H H' ∧ fn.body.isNone = false := by
  unfold xbody at h
  split at h
  · rename_i k hb
    cases hx : xcode K ex k (args ++ List.replicate (fn.ntmps - args.length) .un) H [] with
    | none => rw [hx] at h; cases h
    | some r =>
      obtain ⟨e, T1, H1, D1, l1⟩ := r
      rw [hx] at h
      obtain ⟨hA, hF⟩ := xcode_ok ih k _ _ _ _ _ _ _ _ hx
      have fin : ∀ (he : e.exit' = .ret ∨ e.exit' = .normal), (if colsOk H.maps.length D1 = true then match dendX K ex D1 H1 with
          | some (H2, l2) => match resE (P := P) fn.results T1 H2 with
            | some v => some (v, H2, true, min l1 l2, true)
            | none => none
          | none => none
        else none) = some (v, H', a, l, m) → ACalls P f args H (Ret v H') ∧ Eff a l m H H' ∧ fn.body.isNone = false := by
        intro he h
        split at h
        · rename_i hcol
          split at h
          · rename_i H2 l2 hd
            split at h
            · rename_i u hu
              cases h
              obtain ⟨q1, q2, q3, q4, q5⟩ := dendX_ok ih _ _ _ _ _ hd hcol
              refine ⟨acalls_bodyX hf hb _ hA ?_, ⟨fun hh => (by cases hh), ?_, ?_, fun hh => (by cases hh), q4.trans hF.x, ?_⟩, by rw [hb]; rfl⟩
              · rintro e2 T2 S2 D2 ⟨rfl, rfl, rfl, rfl⟩
                refine ⟨he, dend_mono (fun S hS => ?_) _ _ q1⟩
                subst hS
                intro B w0 c w tmps hI hT
                obtain ⟨x, hx1, hx2⟩ := res_run hu B w0 c w tmps hI hT
                exact ⟨x, _, _, c, hx1, Le.refl c, hx2, hI, rfl, rfl⟩
              · exact fun i hi hl => (q2 i (by omega) (Nat.lt_of_lt_of_le hl hF.len)).trans (hF.blk i (by omega) hl)
              · exact Nat.le_trans hF.len q3
              · intro i hi
                have h1 := hF.map i hi
                have hb2 : i < H1.maps.length := by
                  rw [List.getElem?_eq_getElem hi] at h1
                  exact (List.getElem?_eq_some_iff.1 h1).1
                exact (q5 i hi hb2).trans h1
            · cases h
          · cases h
        · cases h
      cases e with
      | exit id => cases h
      | normal => exact fin (.inr rfl) h
      | ret => exact fin (.inl rfl) h
  · cases h
theorem callX_ok {ex : Code → List AV → HS → XR} (ih : ExOk P ex) : FnOk (P := P) (callX K ex) := by
  intro f args H v H' a l m h
  unfold callX at h
  split at h
  · exact callP_ok ih _ _ _ _ _ _ _ _ h
  · split at h
    · rename_i fn hfn
      obtain ⟨hf, hname⟩ := K.funcs_ok _ _ hfn
      obtain ⟨h1, h2, h3⟩ := xbody_ok ih hf h
      exact ⟨h1, h2, fn, hf, hname, h3⟩
    · cases h
theorem yield_ok {ex : Code → List AV → HS → XR} (ih : ∀ (k : Code) (T : List AV) (H : HS) (e : Ex) (T' : List AV) (H' : HS) (a : Bool) (l : Nat) (m : Bool), ex k T H = some (e, T', H', a, l, m) → AW P k (Is e.exit' T' H') T H ∧ Eff a l m H H') {E : Operand → AV} {fo x y : Operand} {idx : Nat} {H H' : HS} {v : AV} {a : Bool} {l : Nat} {m : Bool}
    (hE : E fo = .fn (.yield 0) [] [.iter idx]) (h : yieldX ex idx (E x) (E y) H = some (v, H', a, l, m)) :
    (∀ (dst : Option Tmp) (ts : Array TypeId) (ty : TypeId) (pos : String) (after : Array Edge) (gd : Option (Nat × Bool)), OpR P ⟨dst, .call ⟨.value fo, #[x, y], ts⟩, ty, pos, after, gd⟩ E H (Ret v H')) ∧ Eff a l m H H' := by
  unfold yieldX at h
  split at h
  · rename_i p q asg bd T hK
    rw [forceAs_eq] at h
    split at h
    · rename_i T1 H1 a1 l1 hasg
      split at h
      · rename_i T2 H2 a2 l2 m2 hbd
        cases h
        obtain ⟨hA, hEa⟩ := ih _ _ _ _ _ _ _ _ _ hasg
        obtain ⟨hB, hEb⟩ := ih _ _ _ _ _ _ _ _ _ hbd
        have hm1 : H1.maps = H.maps := (hEa.frm.rest rfl).2
        have hidx : idx < H.maps.length := (List.getElem?_eq_some_iff.1 hK).1
        have hK1 : H1.maps[idx]? = some (.rnd #[p, q] asg bd .ready none T) := by rw [hm1]; exact hK
        have hlen : (H1.setM idx (.rnd #[p, q] asg bd .busy none T)).maps.length = H.maps.length := by simp [HS.setM, hm1]
        have hK2 : H2.maps[idx]? = some (.rnd #[p, q] asg bd .busy none T) := by
          rw [hEb.frm.map idx (by rw [hlen]; exact hidx)]
          simp [HS.setM, hm1, hidx]
        refine ⟨fun dst ts ty pos after gd => opR_yield hE hK (aw_mono hA ?_), ⟨fun hh => (by cases hh), ?_, ?_, fun hh => (by cases hh), ?_, ?_⟩⟩
        · rintro e T3 H3 ⟨rfl, rfl, rfl⟩
          refine ⟨rfl, hK1, aw_mono hB ?_⟩
          rintro e T3 H3 ⟨rfl, rfl, rfl⟩
          exact ⟨hK2, rfl, rfl⟩
        · intro i hi hl
          have h1 := hEa.frm.blk i (by omega) hl
          have h2 := hEb.frm.blk i (by omega) (show i < H1.blks.length from Nat.lt_of_lt_of_le hl hEa.frm.len)
          exact h2.trans h1
        · exact Nat.le_trans hEa.frm.len hEb.frm.len
        · exact hEb.frm.x.trans hEa.frm.x
        · intro i hi
          by_cases hii : idx = i
          · subst hii
            have hlt : idx < H2.maps.length := (List.getElem?_eq_some_iff.1 hK2).1
            rw [hK]
            simp [HS.setM, hlt]
          · have h2 := hEb.frm.map i (by rw [hlen]; exact hi)
            simp only [HS.setM] at h2 ⊢
            rw [List.getElem?_set_ne hii, h2, List.getElem?_set_ne hii, hm1]
      · cases h
    · cases h
  · cases h
theorem callV_ok {ex : Code → List AV → HS → XR} (ih : ∀ (k : Code) (T : List AV) (H : HS) (e : Ex) (T' : List AV) (H' : HS) (a : Bool) (l : Nat) (m : Bool), ex k T H = some (e, T', H', a, l, m) → AW P k (Is e.exit' T' H') T H ∧ Eff a l m H H') (hc : FnOk (P := P) (callX K ex)) : CallOk (P := P) (callV K ex) := by
  intro E fo args H H' v a l m h
  unfold callV at h
  split at h
  · rename_i f fs cs hE
    obtain ⟨h1, h5, fn, h2, h3, h4⟩ := hc _ _ _ _ _ _ _ _ h
    exact ⟨fun _ _ _ _ _ _ => op_call hE h2 h3 h4 h1, h5⟩
  · rename_i idx hE
    obtain ⟨al⟩ := args
    split at h
    · rename_i vx vy hargs
      match al, hargs with
      | [x, y], hargs =>
        injection hargs with e1 e2
        injection e2 with e2 e3
        subst e1 e2
        exact yield_ok ih hE h
    · cases h
  · cases h
theorem exec_ok : ∀ (n : Nat) (k : Code) (T : List AV) (H : HS) (e : Ex) (T' : List AV) (H' : HS) (a : Bool) (l : Nat) (m : Bool), exec K n k T H = some (e, T', H', a, l, m) → (AW P k (Is e.exit' T' H') T H ∧ Eff a l m H H') ∧ ∀ k0, k = .loop k0 → AWL P k0 (Is e.exit' T' H') T H
  | 0, _, _, _, _, _, _, _, _, _, h => by cases h
  | n + 1, k, T, H, e, T', H', a, l, m, h => by
    have ih : ∀ (k : Code) (T : List AV) (H : HS) (e : Ex) (T' : List AV) (H' : HS) (a : Bool) (l : Nat) (m : Bool), exec K n k T H = some (e, T', H', a, l, m) → AW P k (Is e.exit' T' H') T H ∧ Eff a l m H H' := fun k T H e T' H' a l m h => (exec_ok n k T H e T' H' a l m h).1
    have isn : ∀ {e : Exit} {T : List AV} {H : HS}, Is e T H e T H := ⟨rfl, rfl, rfl⟩
    cases k with
    | skip =>
      simp only [exec, Option.some.injEq, Prod.mk.injEq] at h
      obtain ⟨rfl, rfl, rfl, rfl, rfl, rfl⟩ := h
      exact ⟨⟨aw_skip isn, .refl _ _ _⟩, fun _ h => by cases h⟩
    | label l =>
      simp only [exec, Option.some.injEq, Prod.mk.injEq] at h
      obtain ⟨rfl, rfl, rfl, rfl, rfl, rfl⟩ := h
      exact ⟨⟨aw_label isn, .refl _ _ _⟩, fun _ h => by cases h⟩
    | exit id =>
      simp only [exec, Option.some.injEq, Prod.mk.injEq] at h
      obtain ⟨rfl, rfl, rfl, rfl, rfl, rfl⟩ := h
      exact ⟨⟨aw_exit isn, .refl _ _ _⟩, fun _ h => by cases h⟩
    | ret =>
      simp only [exec, Option.some.injEq, Prod.mk.injEq] at h
      obtain ⟨rfl, rfl, rfl, rfl, rfl, rfl⟩ := h
      exact ⟨⟨aw_ret isn, .refl _ _ _⟩, fun _ h => by cases h⟩
    | seq x y =>
      refine ⟨?_, fun _ h => by cases h⟩
      simp only [exec] at h
      cases hx : exec K n x T H with
      | none => rw [hx] at h; cases h
      | some r =>
        obtain ⟨e1, T1, H1, a1, l1, m1⟩ := r
        rw [hx] at h
        obtain ⟨hA, hE⟩ := ih _ _ _ _ _ _ _ _ _ hx
        cases e1 with
        | normal =>
          dsimp only at h
          cases hy : exec K n y T1 H1 with
          | none => rw [hy] at h; cases h
          | some r =>
            obtain ⟨e2, T2, H2, a2, l2, m2⟩ := r
            rw [hy] at h
            cases h
            obtain ⟨hB, hF⟩ := ih _ _ _ _ _ _ _ _ _ hy
            refine ⟨aw_seq (aw_mono hA ?_), hE.trans hF⟩
            rintro e2 T2 H2 ⟨rfl, rfl, rfl⟩
            exact hB
        | exit id =>
          cases h
          refine ⟨aw_seq (aw_mono hA ?_), hE⟩
          rintro e2 T2 H2 ⟨rfl, rfl, rfl⟩
          exact isn
        | ret =>
          cases h
          refine ⟨aw_seq (aw_mono hA ?_), hE⟩
          rintro e2 T2 H2 ⟨rfl, rfl, rfl⟩
          exact isn
    | cond c x y =>
      refine ⟨?_, fun _ h => by cases h⟩
      simp only [exec] at h
      split at h
      · rename_i b hc
        obtain ⟨hA, hE⟩ := ih _ _ _ _ _ _ _ _ _ h
        refine ⟨aw_cond hc (fun hb => ?_) (fun hb => ?_), hE⟩
        · subst hb; exact hA
        · subst hb; exact hA
      · cases h
    | block id x =>
      refine ⟨?_, fun _ h => by cases h⟩
      simp only [exec] at h
      cases hx : exec K n x T H with
      | none => rw [hx] at h; cases h
      | some r =>
        obtain ⟨e1, T1, H1, a1, l1, m1⟩ := r
        rw [hx] at h
        obtain ⟨hA, hE⟩ := ih _ _ _ _ _ _ _ _ _ hx
        cases e1 with
        | normal =>
          cases h
          refine ⟨aw_block (aw_mono hA ?_), hE⟩
          rintro e2 T2 H2 ⟨rfl, rfl, rfl⟩
          exact isn
        | ret =>
          cases h
          refine ⟨aw_block (aw_mono hA ?_), hE⟩
          rintro e2 T2 H2 ⟨rfl, rfl, rfl⟩
          exact isn
        | exit i =>
          dsimp only at h
          by_cases hi : i = id
          · rw [if_pos hi] at h
            cases h
            refine ⟨aw_block (aw_mono hA ?_), hE⟩
            rintro e2 T2 H2 ⟨rfl, rfl, rfl⟩
            subst hi
            exact inBlock_here isn
          · rw [if_neg hi] at h
            cases h
            refine ⟨aw_block (aw_mono hA ?_), hE⟩
            rintro e2 T2 H2 ⟨rfl, rfl, rfl⟩
            exact inBlock_past (by simpa using hi) isn
    | scope x =>
      refine ⟨?_, fun _ h => by cases h⟩
      simp only [exec] at h
      obtain ⟨hA, hE⟩ := ih _ _ _ _ _ _ _ _ _ h
      refine ⟨aw_scope (aw_mono hA ?_), hE⟩
      rintro e2 T2 H2 ⟨rfl, rfl, rfl⟩
      cases e <;> exact isn
    | loop x =>
      have hL : AWL P x (Is e.exit' T' H') T H ∧ Eff a l m H H' := by
        simp only [exec] at h
        cases hx : exec K n x T H with
        | none => rw [hx] at h; cases h
        | some r =>
          obtain ⟨e1, T1, H1, a1, l1, m1⟩ := r
          rw [hx] at h
          obtain ⟨hA, hE⟩ := ih _ _ _ _ _ _ _ _ _ hx
          cases e1 with
          | normal =>
            dsimp only at h
            cases hy : exec K n (.loop x) T1 H1 with
            | none => rw [hy] at h; cases h
            | some r =>
              obtain ⟨e2, T2, H2, a2, l2, m2⟩ := r
              rw [hy] at h
              cases h
              obtain ⟨⟨_, hF⟩, hB⟩ := exec_ok n (.loop x) T1 H1 _ _ _ _ _ _ hy
              exact ⟨awl_turn hA (hB x rfl), hE.trans hF⟩
          | exit i => cases h; exact ⟨awl_out (by intro h; cases h) hA, hE⟩
          | ret => cases h; exact ⟨awl_out (by intro h; cases h) hA, hE⟩
      exact ⟨⟨aw_of_awl hL.1, hL.2⟩, fun k0 hk => by cases hk; exact hL.1⟩
    | region id ops draw =>
      refine ⟨?_, fun _ h => by cases h⟩
      simp only [exec] at h
      cases hx : opsE K (callV K (exec K n)) ops ops.toList T H with
      | none => rw [hx] at h; cases h
      | some r =>
        obtain ⟨T1, H1, rs⟩ := r
        rw [hx] at h
        have hE := opsE_eff (callV_ok ih (callX_ok ih)) _ _ _ _ _ _ hx
        obtain ⟨ol⟩ := ops
        cases draw with
        | false =>
          dsimp only at h
          rw [outX_eq] at h
          cases h
          exact ⟨aw_region (al_of_drun ol _ T H (drun_mono (fun T2 H2 ⟨h1, h2⟩ => ⟨rfl, h1, h2⟩) _ _ _ _ (opsE_A (callV_ok ih (callX_ok ih)) _ _ _ _ _ _ hx))), hE⟩
        | true =>
          dsimp only at h
          split at h
          · rename_i hc
            rw [outX_eq] at h
            cases h
            have hm := K.mixed_ok
            rw [Bool.or_eq_true] at hc
            refine ⟨?_, hE⟩
            rcases hc with hd | hd
            · exact aw_draw _ hm (drawF_ok hd) (drun_mono (fun T2 H2 ⟨h1, h2⟩ => ⟨rfl, h1, h2⟩) _ _ _ _ (opsE_A (callV_ok ih (callX_ok ih)) _ _ _ _ _ _ hx))
            · have hB := opsE_B (states := H' :: rs.map (·.H)) (callV_ok ih (callX_ok ih)) _ _ _ _ _ _ hx (List.mem_cons_self ..) fun r hr => List.mem_cons_of_mem _ (List.mem_map_of_mem hr)
              refine aw_drawY _ _ hm (drawF_ok hd) (H := H) ?_ (drun_mono (fun T2 H2 ⟨h1, h2⟩ => ⟨⟨rfl, h1, h2⟩, by rw [h2]; exact List.mem_cons_self ..⟩) _ _ _ _ hB)
              cases ol with
              | nil =>
                simp only [opsE, Option.some.injEq, Prod.mk.injEq] at hx
                rw [hx.2.1]
                exact List.mem_cons_self ..
              | cons o ol =>
                simp only [opsE, putK_eq, forceA_eq] at hx
                split at hx
                · cases hx
                · split at hx
                  · cases hx; exact List.mem_cons_of_mem _ (List.mem_cons_self ..)
                  · cases hx
                · split at hx
                  · cases hx
                  · split at hx
                    · cases hx; exact List.mem_cons_of_mem _ (List.mem_cons_self ..)
                    · cases hx
          · cases h
    | _ => cases h
end
end Go.AV
namespace Go.AV
open Go.RowKit
def asI : AV → Option (IntKind × Int)
  | .d (.v (.int k n)) => some (k, n)
  | _ => none
def asS : AV → Option (List UInt8)
  | .d (.v (.string b)) => some b.data.toList
  | _ => none
def asB : AV → Option Bool
  | .d (.v (.bool b)) => some b
  | _ => none
def asL (sz : Nat) : AV → Option (List DV)
  | .own _ s xs => if s = sz then some xs else none
  | .d (.lst s xs) => if s = sz then some xs else none
  | .d (.v (.slice none 0 0)) => some []
  | _ => none
def asDs : List AV → Option (List DV)
  | [] => some []
  | .d x :: l => if x.one then (asDs l).map (x :: ·) else none
  | _ :: _ => none
def unBY : List DV → Option (List UInt8)
  | [] => some []
  | .v (.int .u8 n) :: l => if 0 ≤ n ∧ n ≤ 255 then (unBY l).map (UInt8.ofNat n.toNat :: ·) else none
  | _ :: _ => none
theorem asI_ok {v : AV} {k : IntKind} {n : Int} (h : asI v = some (k, n)) : v = .d (.v (.int k n)) := by
  unfold asI at h; split at h <;> simp_all
theorem asS_ok {v : AV} {l : List UInt8} (h : asS v = some l) : v = .d (S l) := by
  unfold asS at h
  split at h
  · rename_i b
    cases h
    obtain ⟨d⟩ := b
    simp [S]
  · cases h
theorem asB_ok {v : AV} {b : Bool} (h : asB v = some b) : v = .d (TF b) := by
  unfold asB at h; split at h <;> simp_all [TF]
theorem asL_ok {sz : Nat} {v : AV} {xs : List DV} (h : asL sz v = some xs) : LL v sz xs := by
  unfold asL at h
  split at h
  · split at h
    · rename_i e; cases h; subst e; exact .own _ _ _
    · cases h
  · split at h
    · rename_i e; cases h; subst e; exact .d _ _
    · cases h
  · cases h; exact .nil _
  · cases h
theorem asDs_ok : ∀ {l : List AV} {ds : List DV}, asDs l = some ds → l = ds.map .d ∧ ∀ d ∈ ds, d.one = true
  | [], ds, h => by cases h; exact ⟨rfl, by simp⟩
  | .d x :: l, ds, h => by
    simp only [asDs] at h
    split at h
    · rename_i h1
      obtain ⟨r, hr, e⟩ := Option.map_eq_some_iff.1 h
      cases e
      obtain ⟨q1, q2⟩ := asDs_ok hr
      exact ⟨by rw [q1]; rfl, by simpa [h1] using q2⟩
    · cases h
theorem unBY_ok : ∀ {xs : List DV} {l : List UInt8}, unBY xs = some l → xs = l.map BY
  | [], l, h => by cases h; rfl
  | x :: xs, l, h => by
    unfold unBY at h
    split at h
    · rename_i e; cases e
    · rename_i n l' e
      cases e
      split at h
      · rename_i hb
        obtain ⟨r, hr, e⟩ := Option.map_eq_some_iff.1 h
        cases e
        rw [List.map_cons, ← unBY_ok hr]
        congr 1
        have : ((UInt8.ofNat n.toNat).toNat : Int) = n := by
          rw [UInt8.toNat_ofNat']
          omega
        simp only [BY, this]
      · cases h
    · cases h
section
variable {P : Program} [Wins P] {E : Operand → AV} {H : HS} {dst : Option Tmp} {ty : TypeId} {pos : String} {after : Array Edge} {gd : Option (Nat × Bool)}
def binI (k : IntKind) (op : BinOp) (m n : Int) : Option DV := match op with
  | .add => some (.v (.int k (k.wrap (m + n))))
  | .sub => some (.v (.int k (k.wrap (m - n))))
  | .mul => some (.v (.int k (k.wrap (m * n))))
  | .quo => if n = 0 then none else some (.v (.int k (k.wrap (m.tdiv n))))
  | .rem => if n = 0 then none else some (.v (.int k (m.tmod n)))
  | .and => some (.v (.int k (k.wrap (BitVec.ofInt k.bits m &&& BitVec.ofInt k.bits n).toNat)))
  | .or => some (.v (.int k (k.wrap (BitVec.ofInt k.bits m ||| BitVec.ofInt k.bits n).toNat)))
  | .xor => some (.v (.int k (k.wrap (BitVec.ofInt k.bits m ^^^ BitVec.ofInt k.bits n).toNat)))
  | .eql => some (TF (m == n))
  | .neq => some (TF (m != n))
  | .lss => some (TF (decide (m < n)))
  | .leq => some (TF (decide (m ≤ n)))
  | .gtr => some (TF (decide (n < m)))
  | .geq => some (TF (decide (n ≤ m)))
  | _ => none
theorem binI_ok {x y : Operand} {t t' : TypeId} {k : IntKind} {op : BinOp} {m n : Int} {r : DV} (hx : E x = .d (.v (.int k m))) (hy : E y = .d (.v (.int k n))) (h : binI k op m n = some r) : OpR P ⟨dst, .binOp op t x y t', ty, pos, after, gd⟩ E H (Ret (.d r) H) := by
  cases op <;> simp only [binI, reduceCtorEq, Option.some.injEq] at h
  case add => subst h; exact op_add hx hy rfl
  case sub => subst h; exact op_sub hx hy rfl
  case mul => subst h; exact op_mul hx hy rfl
  case quo =>
    split at h
    · cases h
    · rename_i h0; cases h; exact op_quo hx hy h0 rfl
  case rem =>
    split at h
    · cases h
    · rename_i h0; cases h; exact op_rem hx hy h0 rfl
  case and => subst h; exact op_and hx hy rfl
  case or => subst h; exact op_or hx hy rfl
  case xor => subst h; exact op_xor hx hy rfl
  case eql => subst h; exact op_eqI hx hy
  case neq => subst h; exact op_neI hx hy
  case lss => subst h; exact op_ltI hx hy
  case leq => subst h; exact op_leI hx hy
  case gtr => subst h; exact op_gtI hx hy
  case geq => subst h; exact op_geI hx hy
def binS (op : BinOp) (l l' : List UInt8) : Option DV := match op with
  | .eql => some (TF (l == l'))
  | .neq => some (TF (!(l == l')))
  | .lss => some (TF (Op.bytesLess l l'))
  | .gtr => some (TF (!(Op.bytesLess l l' || l == l')))
  | .leq => some (TF (Op.bytesLess l l' || l == l'))
  | .geq => some (TF (!(Op.bytesLess l l')))
  | .add => if l.length + l'.length ≤ 9223372036854775807 then some (S (l ++ l')) else none
  | _ => none
theorem binS_ok {x y : Operand} {t t' : TypeId} {op : BinOp} {l l' : List UInt8} {r : DV} (hx : E x = .d (S l)) (hy : E y = .d (S l')) (h : binS op l l' = some r) : OpR P ⟨dst, .binOp op t x y t', ty, pos, after, gd⟩ E H (Ret (.d r) H) := by
  cases op <;> simp only [binS, reduceCtorEq, Option.some.injEq] at h
  case eql => subst h; exact op_eqS hx hy
  case neq => subst h; exact op_neS hx hy
  case lss => subst h; exact op_ltS hx hy
  case gtr => subst h; exact op_gtS hx hy
  case leq => subst h; exact op_leS hx hy
  case geq => subst h; exact op_geS hx hy
  case add =>
    split at h
    · rename_i hl; cases h; exact op_addS hx hy hl
    · cases h
def binE (P : Program) (op : BinOp) (t : TypeId) (a b : AV) : Option AV :=
  match a, b with
  | .d (.v (.int k m)), .d (.v (.int k' n)) => match op with
    | .shl => if 0 ≤ n then some (.d (.v (.int k (k.wrap (m * 2 ^ (min n.toNat k.bits)))))) else none
    | .shr => if 0 ≤ n then some (.d (.v (.int k (m.fdiv (2 ^ (min n.toNat k.bits)))))) else none
    | op => if k = k' then (binI k op m n).map .d else none
  | .d (.v (.string s)), .d (.v (.string s')) => (binS op s.data.toList s'.data.toList).map .d
  | .d (.v (.bool m)), .d (.v (.bool n)) => match P.underlying t with
    | some .bool => match op with
      | .eql => some (.d (TF (m == n)))
      | .neq => some (.d (TF (!(m == n))))
      | _ => none
    | _ => none
  | .ptr _ _, .d (.v (.pointer none)) => match P.underlying t with
    | some (.pointer _) => match op with
      | .eql => some (.d (TF false))
      | .neq => some (.d (TF true))
      | _ => none
    | _ => none
  | .d (.v (.pointer none)), .d (.v (.pointer none)) => match P.underlying t with
    | some (.pointer _) => match op with
      | .eql => some (.d (TF true))
      | .neq => some (.d (TF false))
      | _ => none
    | _ => none
  | _, _ => none
theorem op_nil_nil' {x y : Operand} {t t' el : TypeId} (ht : P.underlying t = some (.pointer el)) (hx : E x = .d (.v (.pointer none))) (hy : E y = .d (.v (.pointer none))) : OpR P ⟨dst, .binOp .neq t x y t', ty, pos, after, gd⟩ E H (Ret (.d (TF false)) H) :=
  op_bin_of (.bool false) hx hy rfl (fun w => by simp [eqGuard]) fun w => by
    have h : ∀ d : Nat, (Op.equalIn (d + 1) t (.pointer none) (.pointer none)).run P w = .ok true w := fun d => by simp [Op.equalIn, run_underlying ht]
    simp only [binOp]
    simp [Op.equal, Op.maxDepth, h 9999]
theorem binE_ok {x y : Operand} {t t' : TypeId} {op : BinOp} {v : AV} (h : binE P op t (E x) (E y) = some v) : OpR P ⟨dst, .binOp op t x y t', ty, pos, after, gd⟩ E H (Ret v H) := by
  unfold binE at h
  split at h
  · rename_i k m k' n hx hy
    split at h
    · split at h
      · rename_i h0; cases h; exact op_shl hx hy h0 rfl
      · cases h
    · split at h
      · rename_i h0; cases h; exact op_shr hx hy h0 rfl
      · cases h
    · split at h
      · rename_i hk
        subst hk
        obtain ⟨r, hr, e⟩ := Option.map_eq_some_iff.1 h
        cases e
        exact binI_ok hx hy hr
      · cases h
  · rename_i b b' hx hy
    obtain ⟨r, hr, e⟩ := Option.map_eq_some_iff.1 h
    cases e
    exact binS_ok (asS_ok (by rw [hx]; rfl)) (asS_ok (by rw [hy]; rfl)) hr
  · rename_i m n hx hy
    split at h
    · rename_i ht
      split at h
      · cases h; exact op_eqB ht hx hy
      · cases h; exact op_neB ht hx hy
      · cases h
    · cases h
  · rename_i id off hx hy
    split at h
    · rename_i el ht
      split at h
      · cases h; exact op_ptr_nil ht hx hy
      · cases h; exact op_ptr_some ht hx hy
      · cases h
    · cases h
  · rename_i hx hy
    split at h
    · rename_i el ht
      split at h
      · cases h; exact op_nil_nil ht hx hy
      · cases h; exact op_nil_nil' ht hx hy
      · cases h
    · cases h
  · cases h
def unE (op : UnOp) (a : AV) : Option AV :=
  match op, a with
  | .not, .d (.v (.bool b)) => some (.d (TF (!b)))
  | .neg, .d (.v (.int k m)) => some (.d (.v (.int k (k.wrap (0 - m)))))
  | .xor, .d (.v (.int k m)) => some (.d (.v (.int k (k.wrap (BitVec.ofInt k.bits (if k.signed then -1 else k.max) ^^^ BitVec.ofInt k.bits m).toNat))))
  | _, _ => none
theorem unE_ok {x : Operand} {t : TypeId} {op : UnOp} {v : AV} (h : unE op (E x) = some v) : OpR P ⟨dst, .unOp op t x, ty, pos, after, gd⟩ E H (Ret v H) := by
  unfold unE at h
  split at h
  · rename_i b hx; cases h; exact op_not hx
  · rename_i k m hx; cases h; exact op_neg hx rfl
  · rename_i k m hx
    cases h
    exact op_un_of _ hx rfl fun w => by simp [Op.unary, Op.intBits]
  · cases h
def convE (P : Program) (t t' : TypeId) (a : AV) : Option AV :=
  match P.underlying t, P.underlying t' with
  | some _, some (.int k') => match a with
    | .d (.v (.int _ m)) => some (.d (.v (.int k' (k'.wrap m))))
    | _ => none
  | some .string, some .string => (asS a).map fun l => .d (S l)
  | some .string, some (.slice e) => match P.underlying e with
    | some (.int .u8) => (asS a).map fun l => .d (.lst 1 (l.map BY))
    | _ => none
  | some (.slice e), some .string => match P.underlying e with
    | some (.int .u8) => match asL 1 a with
      | some xs => (unBY xs).map fun l => .d (S l)
      | none => none
    | _ => none
  | _, _ => none
theorem convE_ok {x : Operand} {t t' : TypeId} {v : AV} (h : convE P t t' (E x) = some v) : OpR P ⟨dst, .convert t t' x, ty, pos, after, gd⟩ E H (Ret v H) := by
  unfold convE at h
  split at h
  · rename_i d k' ht ht'
    split at h
    · rename_i k m hx
      cases h
      exact op_convI (by rw [ht]; rfl) ht' hx rfl
    · cases h
  · rename_i ht ht'
    obtain ⟨l, hl, e⟩ := Option.map_eq_some_iff.1 h
    cases e
    exact op_convSS (by rw [ht]; rfl) ht' (asS_ok hl)
  · rename_i e ht ht'
    split at h
    · rename_i he
      obtain ⟨l, hl, e⟩ := Option.map_eq_some_iff.1 h
      cases e
      exact op_bytes ht ht' he (asS_ok hl)
    · cases h
  · rename_i e ht ht'
    split at h
    · rename_i he
      split at h
      · rename_i xs hxs
        obtain ⟨l, hl, e⟩ := Option.map_eq_some_iff.1 h
        cases e
        exact op_string ht ht' he (asL_ok hxs) (unBY_ok hl)
      · cases h
    · cases h
  · cases h
def fieldE (P : Program) (t : TypeId) (i : Nat) (a : AV) : Option AV :=
  match P.underlying t with
  | some (.struct fs) => match fs[i]? with
    | some f => match (P.info? f.type).map (·.size) with
      | some n => if (n == 0) = false then match a with
          | .elt cs => some (.elt (cs.drop f.offset))
          | .ptr id off => some (.ptr id (off + f.offset))
          | _ => none
        else none
      | none => none
    | none => none
  | _ => none
theorem fieldE_ok {x : Operand} {t : TypeId} {i : Nat} {v : AV} (h : fieldE P t i (E x) = some v) : OpR P ⟨dst, .fieldAddr t x i, ty, pos, after, gd⟩ E H (Ret v H) := by
  unfold fieldE at h
  split at h
  · rename_i fs ht
    split at h
    · rename_i f hf
      split at h
      · rename_i n hn
        split at h
        · rename_i h0
          split at h
          · rename_i cs hx; cases h; exact op_fieldAddr_elt ht hf hn h0 hx rfl
          · rename_i id off hx; cases h; exact op_fieldAddr_ptr ht hf hn h0 hx
          · cases h
        · cases h
      · cases h
    · cases h
  · cases h
def aggOf : AV → Option (List AV)
  | .agg cs => some cs
  | .d (.agg ds) => some (ds.map .d)
  | _ => none
theorem aggOf_ok {c : Ctx} {x : Value} {a : AV} {cs : List AV} (h : aggOf a = some cs) (hr : Rep c x a) : ∃ vs : Array Value, x = .agg vs ∧ vs.size = cs.length ∧ ∀ i (hi : i < cs.length), Rep c (vs.getD i undef) cs[i] := by
  unfold aggOf at h
  split at h
  · cases h
    cases hr with
    | agg vs _ hl hr => exact ⟨vs, rfl, hl, hr⟩
  · rename_i ds
    cases h
    have hd := hr.d_inv
    cases hd with
    | agg vs _ hl h1 hr => exact ⟨vs, rfl, by simpa using hl, fun i hi => by simp only [List.getElem_map]; exact .d (hr i (by simpa using hi))⟩
  · cases h
def fieldVE (P : Program) (t : TypeId) (i : Nat) (a : AV) : Option AV :=
  match P.underlying t with
  | some (.struct fs) => match fs[i]?, aggOf a with
    | some f, some cs => match P.underlying f.type with
      | some d => match notAgg d with
        | true => cs[f.offset]?
        | false => match (P.info? f.type).map (·.size) with
          | some n => if f.offset + n ≤ cs.length then match asDs ((cs.drop f.offset).take n) with
              | some ds => some (.d (.agg ds))
              | none => some (.agg ((cs.drop f.offset).take n))
            else none
          | none => none
      | none => none
    | _, _ => none
  | _ => none
theorem fieldVE_ok {x : Operand} {t : TypeId} {i : Nat} {v : AV} (h : fieldVE P t i (E x) = some v) : OpR P ⟨dst, .field t x i, ty, pos, after, gd⟩ E H (Ret v H) := by
  refine opR_pure fun c w a hm hops => ?_
  have h1 := hops x (by simp [Op.operands])
  unfold fieldVE at h
  split at h
  · rename_i fs ht
    split at h
    · rename_i f cs hf hcs
      obtain ⟨vs, e1, hl, hr⟩ := aggOf_ok hcs h1
      split at h
      · rename_i d hd
        split at h
        · rename_i hnd
          have hlt : f.offset < cs.length := (List.getElem?_eq_some_iff.1 h).1
          have hv : cs[f.offset] = v := (List.getElem?_eq_some_iff.1 h).2
          have hvs : f.offset < vs.size := by omega
          refine ⟨vs[f.offset], ?_, ?_⟩
          · simp [execOp, e1, Instr.field, run_underlying ht, hf, part, run_isAgg hd, hnd, asAgg, hvs]
          · have := hr f.offset hlt
            rw [hv] at this
            simpa [hvs] using this
        · rename_i hnd
          split at h
          · rename_i n hn
            split at h
            · rename_i hle
              have key : Rep c (.agg (vs.extract f.offset (f.offset + n))) (.agg ((cs.drop f.offset).take n)) := by
                refine .agg _ _ (by simp; omega) fun j hj => ?_
                have hj' : j < n := by simp at hj; omega
                have h2 := hr (f.offset + j) (by omega)
                have e2 : (vs.extract f.offset (f.offset + n)).getD j undef = vs.getD (f.offset + j) undef := by
                  have q1 : f.offset + j < vs.size := by omega
                  have q2 : j < min (f.offset + n) vs.size - f.offset := by omega
                  simp [Array.getD, q1, q2]
                rw [e2, List.getElem_take, List.getElem_drop]
                exact h2
              have hrun : (execOp a.eval ⟨dst, .field t x i, ty, pos, after, gd⟩).run P w = .ok (.value (.agg (vs.extract f.offset (f.offset + n)))) w := by
                simp [execOp, e1, Instr.field, run_underlying ht, hf, part, run_isAgg hd, hnd, asAgg, run_sizeOf hn]
              split at h
              · rename_i ds hds
                cases h
                obtain ⟨q1, q2⟩ := asDs_ok hds
                refine ⟨_, hrun, rep_agg_d q2 ?_⟩
                rw [← q1]; exact key
              · cases h
                exact ⟨_, hrun, key⟩
            · cases h
          · cases h
      · cases h
    · cases h
  · cases h
def nilCE : AV → Option AV
  | .ptr id off => some (.ptr id off)
  | .elt cs => some (.elt cs)
  | _ => none
theorem nilCE_ok {x : Operand} {v : AV} (h : nilCE (E x) = some v) : OpR P ⟨dst, .nilCheck x, ty, pos, after, gd⟩ E H (Ret v H) := by
  unfold nilCE at h
  split at h
  · rename_i id off hx; cases h; exact op_nilCheck_ptr hx
  · rename_i cs hx; cases h; exact op_nilCheck_elt hx
  · cases h
def indexE (P : Program) (t : TypeId) (a b : AV) : Option AV :=
  match P.underlying t with
  | some .string => match asS a, asI b with
    | some l, some (_, n) => if 0 ≤ n then (l[n.toNat]?).map fun c => .d (BY c) else none
    | _, _ => none
  | _ => none
theorem indexE_ok {x y : Operand} {t : TypeId} {v : AV} (h : indexE P t (E x) (E y) = some v) : OpR P ⟨dst, .index t x y, ty, pos, after, gd⟩ E H (Ret v H) := by
  unfold indexE at h
  split at h
  · rename_i ht
    split at h
    · rename_i l k n hx hy
      split at h
      · rename_i h0
        obtain ⟨c, hc, e⟩ := Option.map_eq_some_iff.1 h
        cases e
        exact op_indexS ht (asS_ok hx) (asI_ok hy) h0 hc
      · cases h
    · cases h
  · cases h
theorem op_indexPA {x y : Operand} {t e : TypeId} {sz id n off : Nat} {k : IntKind} {i : Int} (ht : P.underlying t = some (.array n e)) (hn : (P.info? e).map (·.size) = some sz) (hx : E x = .ptr id off) (hy : E y = .d (.v (.int k i))) (h0 : 0 ≤ i) (hi : i < n) :
    OpR P ⟨dst, .indexAddr t x y, ty, pos, after, gd⟩ E H (Ret (.ptr id (off + i.toNat * sz)) H) :=
  opR_pure fun c w a hm hops => by
    have h1 := hops x (by simp [Op.operands])
    rw [hx] at h1
    have h2 := hops y (by simp [Op.operands])
    rw [hy] at h2
    obtain ⟨g, e1, hg⟩ := h1.ptr_inv
    refine ⟨.pointer (some ⟨g, off + i.toNat * sz, none⟩), ?_, .ptr id _ g hg⟩
    simp [execOp, e1, h2.v_eq, Instr.indexAt, Instr.sureAddr, asIntOf, run_underlying ht, h0, hi, run_sizeOf hn, addr_add]
def indexAE (P : Program) (t : TypeId) (a b : AV) : Option AV :=
  match P.underlying t with
  | some (.slice e) => match (P.info? e).map (·.size), asI b with
    | some sz, some (_, n) => if 0 ≤ n then match a with
        | .arr id m _ => if n < m then some (.ptr id (n.toNat * sz)) else none
        | a => match asL sz a with
          | some xs => (xs[n.toNat]?).map fun z => .elt z.cells
          | none => none
      else none
    | _, _ => none
  | some (.array n e) => match (P.info? e).map (·.size), asI b, a with
    | some sz, some (_, i), .ptr id off => if 0 ≤ i ∧ i < n then some (.ptr id (off + i.toNat * sz)) else none
    | _, _, _ => none
  | _ => none
theorem indexAE_ok {x y : Operand} {t : TypeId} {v : AV} (h : indexAE P t (E x) (E y) = some v) : OpR P ⟨dst, .indexAddr t x y, ty, pos, after, gd⟩ E H (Ret v H) := by
  unfold indexAE at h
  split at h
  · rename_i e ht
    split at h
    · rename_i sz k n hs hy
      split at h
      · rename_i h0
        split at h
        · rename_i id m cap hx
          split at h
          · rename_i hlt; cases h; exact op_indexArr ht hs hx (asI_ok hy) h0 hlt rfl
          · cases h
        · split at h
          · rename_i xs hxs
            obtain ⟨z, hz, e⟩ := Option.map_eq_some_iff.1 h
            cases e
            exact op_indexAddr ht hs (asL_ok hxs) (asI_ok hy) h0 hz rfl
          · cases h
      · cases h
    · cases h
  · rename_i n e ht
    split at h
    · rename_i sz k i id off hs hy hx
      split at h
      · rename_i hc; cases h; exact op_indexPA ht hs hx (asI_ok hy) hc.1 hc.2
      · cases h
    · cases h
  · cases h
def sliceE (P : Program) (t : TypeId) (a : AV) (lo hi : Option AV) : Option AV :=
  match P.underlying t with
  | some .string => match asS a with
    | some l => match lo, hi with
      | some b, some c => match asI b, asI c with
        | some (_, i), some (_, j) => if 0 ≤ i ∧ i ≤ j ∧ j ≤ l.length then some (.d (S ((l.drop i.toNat).take (j.toNat - i.toNat)))) else none
        | _, _ => none
      | some b, none => match asI b with
        | some (_, i) => if 0 ≤ i ∧ i ≤ l.length then some (.d (S (l.drop i.toNat))) else none
        | _ => none
      | none, some c => match asI c with
        | some (_, j) => if 0 ≤ j ∧ j ≤ l.length then some (.d (S (l.take j.toNat))) else none
        | _ => none
      | none, none => none
    | none => none
  | some (.slice e) => match (P.info? e).map (·.size) with
    | some sz => match asL sz a with
      | some l => match lo, hi with
        | some b, some c => match asI b, asI c with
          | some (_, i), some (_, j) => if 0 ≤ i ∧ i ≤ j ∧ j ≤ l.length then some (.d (.lst sz ((l.drop i.toNat).take (j.toNat - i.toNat)))) else none
          | _, _ => none
        | some b, none => match asI b with
          | some (_, i) => if 0 ≤ i ∧ i ≤ l.length then some (.d (.lst sz (l.drop i.toNat))) else none
          | _ => none
        | none, some c => match asI c with
          | some (_, j) => if 0 ≤ j ∧ j ≤ l.length then some (.d (.lst sz (l.take j.toNat))) else none
          | _ => none
        | none, none => none
      | none => none
    | none => none
  | _ => none
theorem sliceE_ok {x : Operand} {lo hi : Option Operand} {t : TypeId} {v : AV} (h : sliceE P t (E x) (lo.map E) (hi.map E) = some v) : OpR P ⟨dst, .slice t x lo hi none, ty, pos, after, gd⟩ E H (Ret v H) := by
  unfold sliceE at h
  split at h
  · rename_i ht
    split at h
    · rename_i l hl
      cases lo with
      | some y =>
        cases hi with
        | some z =>
          dsimp only [Option.map_some] at h
          split at h
          · rename_i k i k' j hy hz
            split at h
            · rename_i hb; cases h; exact op_sliceS2 _ ht (asS_ok hl) (asI_ok hy) (asI_ok hz) hb.1 hb.2.1 hb.2.2 rfl
            · cases h
          · cases h
        | none =>
          dsimp only [Option.map_some, Option.map_none] at h
          split at h
          · rename_i k i hy
            split at h
            · rename_i hb; cases h; exact op_sliceS1 _ ht (asS_ok hl) (asI_ok hy) hb.1 hb.2 rfl
            · cases h
          · cases h
      | none =>
        cases hi with
        | some z =>
          dsimp only [Option.map_some, Option.map_none] at h
          split at h
          · rename_i k i hy
            split at h
            · rename_i hb; cases h; exact op_sliceS0 _ ht (asS_ok hl) (asI_ok hy) hb.1 hb.2 rfl
            · cases h
          · cases h
        | none => cases h
    · cases h
  · rename_i e ht
    split at h
    · rename_i sz hs
      split at h
      · rename_i l hl
        cases lo with
        | some y =>
          cases hi with
          | some z =>
            dsimp only [Option.map_some] at h
            split at h
            · rename_i k i k' j hy hz
              split at h
              · rename_i hb; cases h; exact op_sliceL2 _ ht hs (asL_ok hl) (asI_ok hy) (asI_ok hz) hb.1 hb.2.1 hb.2.2 rfl
              · cases h
            · cases h
          | none =>
            dsimp only [Option.map_some, Option.map_none] at h
            split at h
            · rename_i k i hy
              split at h
              · rename_i hb; cases h; exact op_sliceL1 _ ht hs (asL_ok hl) (asI_ok hy) hb.1 hb.2 rfl
              · cases h
            · cases h
        | none =>
          cases hi with
          | some z =>
            dsimp only [Option.map_some, Option.map_none] at h
            split at h
            · rename_i k i hy
              split at h
              · rename_i hb; cases h; exact op_sliceL0 _ ht hs (asL_ok hl) (asI_ok hy) hb.1 hb.2 rfl
              · cases h
            · cases h
          | none => cases h
      · cases h
    · cases h
  · cases h
end
end Go.AV
namespace Go.AV
open Go.RowKit
section
variable {P : Program} [Wins P] {E : Operand → AV} {H : HS} {dst : Option Tmp} {ty : TypeId} {pos : String} {after : Array Edge} {gd : Option (Nat × Bool)}
def buildE (P : Program) (t : TypeId) (parts : List (Nat × AV)) : Option AV :=
  match P.underlying t, (P.info? t).map (·.zero) with
  | some (.struct fs), some (some z) => match places P fs.toList with
    | some pl => if parts.all (fun p => p.2.known) = true then match fillA (fun i => pl[i]?) (z.cells.toList.map constAV) (parts.map fun p => (p.1, p.2.cells)) with
        | some cs => match asDs cs with
          | some ds => some (.d (.agg ds))
          | none => some (.agg cs)
        | none => none
      else none
    | none => none
  | _, _ => none
theorem buildE_ok {t : TypeId} {parts : Array (Nat × Operand)} {v : AV} (h : buildE P t (parts.toList.map fun p => (p.1, E p.2)) = some v) : OpR P ⟨dst, .build t parts, ty, pos, after, gd⟩ E H (Ret v H) := by
  unfold buildE at h
  split at h
  · rename_i fs z ht hz
    split at h
    · rename_i pl hpl
      split at h
      · rename_i hk
        have hk' : parts.toList.all (fun p => (E p.2).known) = true := by simpa [List.all_map, Function.comp_def] using hk
        rw [List.map_map] at h
        have hps : parts.toList.map ((fun p : Nat × AV => (p.1, p.2.cells)) ∘ fun p => (p.1, E p.2)) = parts.toList.map fun p => (p.1, (E p.2).cells) := rfl
        rw [hps] at h
        split at h
        · rename_i cs hcs
          split at h
          · rename_i ds hds
            cases h
            obtain ⟨q1, q2⟩ := asDs_ok hds
            exact op_buildD ds ht hz hpl hk' rfl (by rw [hcs, q1]) q2
          · cases h
            exact op_build ht hz hpl hk' rfl hcs
        · cases h
      · cases h
    · cases h
  · cases h
def elsE : Nat → List (Nat × AV) → Option (List DV)
  | _, [] => some []
  | i, (j, .d y) :: l => if j = i then (elsE (i + 1) l).map (y :: ·) else none
  | _, _ :: _ => none
theorem elsE_ok : ∀ {parts : List (Nat × Operand)} {i : Nat} {ys : List DV}, elsE i (parts.map fun p => (p.1, E p.2)) = some ys → Els E i parts ys
  | [], i, ys, h => by cases h; exact .nil _
  | (j, x) :: l, i, ys, h => by
    rw [List.map_cons] at h
    cases hx : E x with
    | d y =>
      rw [hx] at h
      simp only [elsE] at h
      split at h
      · rename_i hj
        subst hj
        obtain ⟨r, hr, e⟩ := Option.map_eq_some_iff.1 h
        cases e
        exact .cons hx (elsE_ok hr)
      · cases h
    | _ => rw [hx] at h; cases h
def litE (P : Program) (t : TypeId) (len : Nat) (parts : List (Nat × AV)) : Option AV :=
  match P.underlying t with
  | some (.slice e) => match (P.info? e).map (fun i => (i.zero, i.size)) with
    | some (some _, sz) => match elsE 0 parts with
      | some ys => if ys.length = len ∧ ys.all (fun y => y.cells.length == sz) = true ∧ (flat ys).all DV.one = true ∧ len * sz ≤ 16777216 then some (.own none sz ys) else none
      | none => none
    | _ => none
  | _ => none
theorem litE_ok {t : TypeId} {len : Nat} {parts : Array (Nat × Operand)} {v : AV} (h : litE P t len (parts.toList.map fun p => (p.1, E p.2)) = some v) : OpR P ⟨dst, .buildSlice t len parts, ty, pos, after, gd⟩ E H (Ret v H) := by
  unfold litE at h
  split at h
  · rename_i e ht
    split at h
    · rename_i z sz hz
      split at h
      · rename_i ys hys
        split at h
        · rename_i hc
          obtain ⟨hl, hy, h1, hsm⟩ := hc
          cases h
          have hE := elsE_ok hys
          have hy' : ∀ y ∈ ys, y.cells.length = sz := fun y hm => by simpa using List.all_eq_true.1 hy y hm
          have hf := fill_els ys [] hy' (by simp)
          simp only [flat, List.flatMap_nil, List.map_nil, List.nil_append, List.length_nil] at hf
          rw [hl] at hf
          exact op_buildSlice ys ht hz hE.known hE.parts hf hl hy' (fun d hd => List.all_eq_true.1 h1 d hd) hsm
        · cases h
      · cases h
    · cases h
  · cases h
def litCE (P : Program) (t : TypeId) (len : Nat) (parts : List (Nat × AV)) (H : HS) : Option (AV × HS) :=
  match P.underlying t with
  | some (.slice e) => match (P.info? e).map (fun i => (i.zero, i.size)) with
    | some (some _, sz) => if parts.all (fun p => p.2.known) = true ∧ len * sz ≤ 16777216 then match fillA (fun i => some (i * sz, sz)) (List.replicate (len * sz) .un) (parts.map fun p => (p.1, p.2.cells)) with
        | some cs => some (.arr H.nb len len, H.push e cs)
        | none => none
      else none
    | _ => none
  | _ => none
theorem litCE_ok {t : TypeId} {len : Nat} {parts : Array (Nat × Operand)} {v : AV} {H' : HS} (h : litCE P t len (parts.toList.map fun p => (p.1, E p.2)) H = some (v, H')) : OpR P ⟨dst, .buildSlice t len parts, ty, pos, after, gd⟩ E H (Ret v H') := by
  unfold litCE at h
  split at h
  · rename_i e ht
    split at h
    · rename_i z sz hz
      split at h
      · rename_i hc
        have hk' : parts.toList.all (fun p => (E p.2).known) = true := by simpa [List.all_map, Function.comp_def] using hc.1
        rw [List.map_map] at h
        have hps : parts.toList.map ((fun p : Nat × AV => (p.1, p.2.cells)) ∘ fun p => (p.1, E p.2)) = parts.toList.map fun p => (p.1, (E p.2).cells) := rfl
        rw [hps] at h
        split at h
        · rename_i cs hcs
          cases h
          exact op_litC cs ht hz hk' rfl hcs hc.2
        · cases h
      · cases h
    · cases h
  · cases h
def lenE (P : Program) (t : TypeId) (a : AV) : Option AV :=
  match P.underlying t with
  | some .string => (asS a).map fun l => .d (I l.length)
  | some (.slice _) => match a with
    | .own _ _ xs => some (.d (I xs.length))
    | .d (.lst _ xs) => some (.d (I xs.length))
    | .d (.v (.slice none 0 0)) => some (.d (I 0))
    | .arr _ n _ => some (.d (I n))
    | _ => none
  | _ => none
theorem lenE_ok {x : Operand} {t : TypeId} {v : AV} (h : lenE P t (E x) = some v) : OpR P ⟨dst, .call ⟨.builtin .len, #[x], #[t]⟩, ty, pos, after, gd⟩ E H (Ret v H) := by
  unfold lenE at h
  split at h
  · rename_i ht
    obtain ⟨l, hl, e⟩ := Option.map_eq_some_iff.1 h
    cases e
    exact op_lenS ht (asS_ok hl)
  · rename_i e ht
    split at h
    · rename_i hx; cases h; exact op_lenL ht (by rw [hx]; exact .own _ _ _)
    · rename_i hx; cases h; exact op_lenL ht (by rw [hx]; exact .d _ _)
    · rename_i hx; cases h; exact op_lenL (sz := 0) (xs := []) ht (by rw [hx]; exact .nil _)
    · rename_i hx; cases h; exact op_lenArr ht hx
    · cases h
  · cases h
def minE (a b : AV) : Option AV :=
  match asI a, asI b with
  | some (k, m), some (_, n) => some (.d (.v (.int k (if n < m then n else m))))
  | _, _ => none
def maxE (a b : AV) : Option AV :=
  match asI a, asI b with
  | some (k, m), some (_, n) => some (.d (.v (.int k (if n > m then n else m))))
  | _, _ => none
theorem minE_ok {x y : Operand} {ts : Array TypeId} {v : AV} (h : minE (E x) (E y) = some v) : OpR P ⟨dst, .call ⟨.builtin .min, #[x, y], ts⟩, ty, pos, after, gd⟩ E H (Ret v H) := by
  unfold minE at h
  split at h
  · rename_i hx hy; cases h; exact op_min (asI_ok hx) (asI_ok hy)
  · cases h
theorem maxE_ok {x y : Operand} {ts : Array TypeId} {v : AV} (h : maxE (E x) (E y) = some v) : OpR P ⟨dst, .call ⟨.builtin .max, #[x, y], ts⟩, ty, pos, after, gd⟩ E H (Ret v H) := by
  unfold maxE at h
  split at h
  · rename_i hx hy; cases h; exact op_max (asI_ok hx) (asI_ok hy)
  · cases h
def loadE (P : Program) (t : TypeId) (a : AV) (H : HS) : Option AV :=
  match P.underlying t with
  | some d => match a with
    | .elt cs => match notAgg d with
      | true => (cs[0]?).map .d
      | false => match (P.info? t).map (·.size) with
        | some n => if n ≤ cs.length then some (.d (.agg (cs.take n))) else none
        | none => none
    | .ptr id off => match H.blks[id]? with
      | some b => match notAgg d with
        | true => b.cs[off]?
        | false => match (P.info? t).map (·.size) with
          | some n => if off + n ≤ b.cs.length then match asDs ((b.cs.drop off).take n) with
              | some ds => some (.d (.agg ds))
              | none => some (.agg ((b.cs.drop off).take n))
            else none
          | none => none
      | none => none
    | _ => none
  | none => none
theorem loadE_ok {x : Operand} {t : TypeId} {v : AV} (h : loadE P t (E x) H = some v) : OpR P ⟨dst, .load t x, ty, pos, after, gd⟩ E H (Ret v H) := by
  unfold loadE at h
  split at h
  · rename_i d ht
    split at h
    · rename_i cs hx
      split at h
      · rename_i hd
        obtain ⟨y, hy, e⟩ := Option.map_eq_some_iff.1 h
        cases e
        exact op_load_elt ht hd hx hy
      · rename_i hd
        split at h
        · rename_i n hn
          split at h
          · rename_i hl; cases h; exact op_load_elts ht hd hn hx hl rfl
          · cases h
        · cases h
    · rename_i id off hx
      split at h
      · rename_i b hb
        split at h
        · rename_i hd; exact op_load_ptr ht hd hx hb h
        · rename_i hd
          split at h
          · rename_i n hn
            split at h
            · rename_i hl
              split at h
              · rename_i ds hds
                cases h
                obtain ⟨q1, q2⟩ := asDs_ok hds
                exact op_load_ptrsD ds ht hd hn hx hb hl q1 q2
              · cases h
                exact op_load_ptrs ht hd hn hx hb hl rfl
            · cases h
          · cases h
      · cases h
    · cases h
  · cases h
def lookupE (P : Program) (t : TypeId) (a k : AV) (two : Bool) (H : HS) : Option AV :=
  match P.underlying t with
  | some (.map kt et) => match P.underlying kt, (P.info? et).map (·.zero), a, asS k with
    | some .string, some (some z), .map id, some l => match H.maps[id]?, zeroDV z with
      | some (.map es), some d0 => match two with
        | true => some (.tup [.d ((getE es l).getD d0), .d (TF (getE es l).isSome)])
        | false => some (.d ((getE es l).getD d0))
      | _, _ => none
    | _, _, _, _ => none
  | _ => none
theorem lookupE_ok {x k : Operand} {t : TypeId} {two : Bool} {v : AV} (h : lookupE P t (E x) (E k) two H = some v) : OpR P ⟨dst, .lookup t x k two, ty, pos, after, gd⟩ E H (Ret v H) := by
  unfold lookupE at h
  split at h
  · rename_i kt et ht
    split at h
    · rename_i z id l hkt hz hx hk
      split at h
      · rename_i es d0 hm hd
        split at h
        · cases h; exact op_lookup2 ht hkt hz (zeroDV_ok hd) hx (asS_ok hk) hm
        · cases h; exact op_lookup ht hkt hz (zeroDV_ok hd) hx (asS_ok hk) hm
      · cases h
    · cases h
  · cases h
def lenME (P : Program) (t : TypeId) (a : AV) (H : HS) : Option AV :=
  match P.underlying t, a with
  | some (.map _ _), .map id => match H.maps[id]? with
    | some (.map es) => some (.d (I es.length))
    | _ => none
  | _, _ => none
theorem lenME_ok {x : Operand} {t : TypeId} {v : AV} (h : lenME P t (E x) H = some v) : OpR P ⟨dst, .call ⟨.builtin .len, #[x], #[t]⟩, ty, pos, after, gd⟩ E H (Ret v H) := by
  unfold lenME at h
  split at h
  · rename_i kt et id ht hx
    split at h
    · rename_i es hm; cases h; exact op_lenMap ht hx hm
    · cases h
  · cases h
def allocE (P : Program) (t : TypeId) (H : HS) : Option (AV × HS) :=
  match (P.info? t).map (·.zero) with
  | some (some z) => some (.ptr H.nb 0, H.push t (z.cells.toList.map constAV))
  | _ => none
theorem allocE_ok {t : TypeId} {v : AV} {H' : HS} (h : allocE P t H = some (v, H')) : OpR P ⟨dst, .alloc t, ty, pos, after, gd⟩ E H (Ret v H') := by
  unfold allocE at h
  split at h
  · rename_i z hz; cases h; exact op_alloc hz rfl
  · cases h
def boxE (t : TypeId) (a : AV) (H : HS) : Option (AV × HS) :=
  if a.known = true then some (.ptr H.nb 0, H.push t a.cells) else none
theorem boxE_ok {x : Operand} {t : TypeId} {v : AV} {H' : HS} (h : boxE t (E x) H = some (v, H')) : OpR P ⟨dst, .box t x, ty, pos, after, gd⟩ E H (Ret v H') := by
  unfold boxE at h
  split at h
  · rename_i hk; cases h; exact op_box_ptr (AV.known_ne hk) rfl
  · cases h
def storeE (P : Program) (t : TypeId) (a u : AV) (H : HS) : Option (AV × HS) :=
  match (P.info? t).map (·.size), a with
  | some n, .ptr id off => match H.blks[id]? with
    | some b => if u.known = true ∧ u.cells.length = n ∧ off + n ≤ b.cs.length ∧ u.cells.all AV.one = true ∧ b.frz = false then some (.un, H.put id off u.cells) else none
    | none => none
  | _, _ => none
theorem storeE_ok {x y : Operand} {t : TypeId} {v : AV} {H' : HS} (h : storeE P t (E x) (E y) H = some (v, H')) : OpR P ⟨dst, .store t x y, ty, pos, after, gd⟩ E H (Ret v H') := by
  unfold storeE at h
  split at h
  · rename_i n id off hn hx
    split at h
    · rename_i b hb
      split at h
      · rename_i hc
        obtain ⟨h1, h2, h3, h4, h5⟩ := hc
        cases h
        exact op_store hn hx hb (AV.known_ne h1) rfl h2 h3 (fun v hv => List.all_eq_true.1 h4 v hv) h5
      · cases h
    · cases h
  · cases h
def appE (sz : Nat) : AV → Option (Option Nat × List DV)
  | .own t s xs => if s = sz then some (t, xs) else none
  | .d (.v (.slice none 0 0)) => some (none, [])
  | _ => none
theorem appE_ok {sz : Nat} {a : AV} {t : Option Nat} {xs : List DV} (h : appE sz a = some (t, xs)) : App a t sz xs := by
  unfold appE at h
  split at h
  · split at h
    · rename_i e; cases h; subst e; exact .own _ _ _
    · cases h
  · cases h; exact .nil _
  · cases h
def addsE (P : Program) (tx : TypeId) (sz : Nat) (a : AV) : Option (List DV) :=
  match P.underlying tx with
  | some (.slice _) => asL sz a
  | some .string => if sz = 1 then (asS a).map fun l => l.map BY else none
  | _ => none
theorem addsE_ok {tx : TypeId} {sz : Nat} {a : AV} {ys : List DV} (h : addsE P tx sz a = some ys) : Adds P tx a sz ys := by
  unfold addsE at h
  split at h
  · rename_i e ht; exact .list _ _ _ _ ht (asL_ok h)
  · rename_i ht
    split at h
    · rename_i e
      subst e
      obtain ⟨l, hl, e⟩ := Option.map_eq_some_iff.1 h
      cases e
      rw [asS_ok hl]
      exact .str l ht
    · cases h
  · cases h
def okE (H : HS) (t : Option Nat) (n : Nat) : Bool := match t with
  | none => true
  | some i => H.toks[i]? == some n
theorem okE_ok {t : Option Nat} {n : Nat} (h : okE H t n = true) : H.ok t n := by
  intro i hi
  subst hi
  simpa [okE] using h
def appendE (P : Program) (t' tx : TypeId) (a b : AV) (H : HS) : Option (AV × HS) :=
  match P.underlying t' with
  | some (.slice e) => match (P.info? e).map (fun i => (i.zero, i.size, i.bytes)) with
    | some (some z, sz, bytes) => match appE sz a, addsE P tx sz b with
      | some (t, xs), some (y :: ys) => if z.cells.size = sz ∧ okE H t xs.length = true ∧ (xs.length + (y :: ys).length) * bytes ≤ 140737488355328 ∧ xs.length + (y :: ys).length ≤ 140737488355328 then
          some (.own (some (H.tk t)) sz (xs ++ (y :: ys)), H.up t (xs.length + (y :: ys).length)) else none
      | some _, some [] => some (a, H)
      | _, _ => none
    | _ => none
  | _ => none
theorem appendE_ok {x y : Operand} {t' tx : TypeId} {v : AV} {H' : HS} (h : appendE P t' tx (E x) (E y) H = some (v, H')) : OpR P ⟨dst, .call ⟨.builtin .append, #[x, y], #[t', tx]⟩, ty, pos, after, gd⟩ E H (Ret v H') := by
  unfold appendE at h
  split at h
  · rename_i e ht
    split at h
    · rename_i z sz bytes hi
      split at h
      · rename_i t xs u us hx hy
        split at h
        · rename_i hc
          cases h
          exact op_append ht hi hc.1 (appE_ok hx) (addsE_ok hy) (okE_ok hc.2.1) (by simp) hc.2.2.1 hc.2.2.2
        · cases h
      · rename_i r hx hy
        obtain ⟨t, xs⟩ := r
        cases h
        exact op_append0 ht hi (appE_ok hx).ll (addsE_ok hy)
      · cases h
    · cases h
  · cases h
def rangeE (P : Program) (t : TypeId) (a : AV) (H : HS) : Option (AV × HS) :=
  match P.underlying t, a with
  | some (.map _ _), .map id => match H.maps[id]? with
    | some (.map _) => some (.iter H.nm, H.pushM (.iter (some id) 0 none))
    | _ => none
  | _, _ => none
theorem rangeE_ok {x : Operand} {t : TypeId} {v : AV} {H' : HS} (h : rangeE P t (E x) H = some (v, H')) : OpR P ⟨dst, .range t x, ty, pos, after, gd⟩ E H (Ret v H') := by
  unfold rangeE at h
  split at h
  · rename_i kt et id ht hx
    split at h
    · rename_i es hm; cases h; exact op_range ht hx hm
    · cases h
  · cases h
def nextE (a : AV) (H : HS) : Option AV :=
  match a with
  | .iter j => match H.maps[j]? with
    | some (.iter (some id) _ _) => match H.maps[id]? with
      | some (.map []) => some (.tup [.d (TF false)])
      | _ => none
    | _ => none
  | _ => none
theorem nextE_ok {x : Operand} {v : AV} (h : nextE (E x) H = some v) : OpR P ⟨dst, .next x false, ty, pos, after, gd⟩ E H (Ret v H) := by
  unfold nextE at h
  split at h
  · rename_i j hx
    split at h
    · rename_i id n last hj
      split at h
      · rename_i hm
        cases h
        refine opR_to (op_next hx hj hm) ?_
        rintro v H' (⟨rfl, rfl⟩ | ⟨k, d, hk, _⟩)
        · exact ⟨rfl, rfl⟩
        · simp at hk
      · cases h
    · cases h
  · cases h
end
def ptrOf : AV → Nat
  | .ptr id _ => id
  | _ => 0
theorem frm_push {low : Nat} {H : HS} {e : TypeId} {cs : List AV} : Frm low false H (H.push e cs) :=
  ⟨fun i _ hl => by simp only [HS.push]; rw [List.getElem?_append_left hl], by simp [HS.push], fun _ => ⟨rfl, rfl⟩, rfl, fun _ _ => rfl⟩
theorem frm_put {H : HS} {id off : Nat} {vs : List AV} : Frm id false H (H.put id off vs) :=
  ⟨fun i hi _ => by
    have : ¬ id = i := by omega
    simp [HS.put, this], by simp [HS.put], fun _ => ⟨rfl, rfl⟩, rfl, fun _ _ => rfl⟩
theorem frm_up {low : Nat} {H : HS} {t : Option Nat} {n : Nat} : Frm low true H (H.up t n) :=
  ⟨fun i _ _ => by rw [HS.up_blks], by rw [HS.up_blks]; exact Nat.le_refl _, fun h => (by cases h), HS.up_x _ _ _, fun i _ => by rw [HS.up_maps]⟩
theorem frm_pushM {low : Nat} {H : HS} {m : MB} : Frm low true H (H.pushM m) := ⟨fun _ _ _ => rfl, Nat.le_refl _, fun h => (by cases h), rfl, fun i hi => by simp only [HS.pushM]; rw [List.getElem?_append_left hi]⟩
theorem allocE_frm {P : Program} {t : TypeId} {H H' : HS} {v : AV} {low : Nat} (h : allocE P t H = some (v, H')) : Frm low false H H' := by
  unfold allocE at h
  split at h
  · cases h; exact frm_push
  · cases h
theorem boxE_frm {t : TypeId} {a : AV} {H H' : HS} {v : AV} {low : Nat} (h : boxE t a H = some (v, H')) : Frm low false H H' := by
  unfold boxE at h
  split at h
  · cases h; exact frm_push
  · cases h
theorem storeE_frm {P : Program} {t : TypeId} {a u : AV} {H H' : HS} {v : AV} (h : storeE P t a u H = some (v, H')) : Frm (ptrOf a) false H H' := by
  unfold storeE at h
  split at h
  · split at h
    · split at h
      · cases h; exact frm_put
      · cases h
    · cases h
  · cases h
theorem litCE_frm {P : Program} {t : TypeId} {len : Nat} {parts : List (Nat × AV)} {H H' : HS} {v : AV} {low : Nat} (h : litCE P t len parts H = some (v, H')) : Frm low false H H' := by
  unfold litCE at h
  split at h
  · split at h
    · split at h
      · split at h
        · cases h; exact frm_push
        · cases h
      · cases h
    · cases h
  · cases h
theorem rangeE_frm {P : Program} {t : TypeId} {a : AV} {H H' : HS} {v : AV} {low : Nat} (h : rangeE P t a H = some (v, H')) : Frm low true H H' := by
  unfold rangeE at h
  split at h
  · split at h
    · cases h; exact frm_pushM
    · cases h
  · cases h
theorem appendE_frm {P : Program} {t' tx : TypeId} {a b : AV} {H H' : HS} {v : AV} {low : Nat} (h : appendE P t' tx a b H = some (v, H')) : Frm low true H H' := by
  unfold appendE at h
  split at h
  · split at h
    · split at h
      · split at h
        · cases h; exact frm_up
        · cases h
      · cases h; exact .refl _ _ _
      · cases h
    · cases h
  · cases h
def pureOp (P : Program) (cmp : FuncId → Bool) (o : Oper) (E : Operand → AV) : Option AV :=
  match o.op with
  | .move x => some (E x)
  | .assign x => some (E x)
  | .pick x y z => match asB (E x) with
    | some b => some (if b then E y else E z)
    | none => none
  | .extract x i => match E x with
    | .tup cs => cs[i]?
    | _ => none
  | .makeFunc (.func f) first cap => some (.fn (.func f) (first.toList.map E) (cap.toList.map E))
  | .unOp op _ x => unE op (E x)
  | .binOp op t x y _ => binE P op t (E x) (E y)
  | .convert t t' x => convE P t t' (E x)
  | .nilCheck x => nilCE (E x)
  | .fieldAddr t x i => fieldE P t i (E x)
  | .field t x i => fieldVE P t i (E x)
  | .index t x y => indexE P t (E x) (E y)
  | .indexAddr t x y => indexAE P t (E x) (E y)
  | .slice t x lo hi none => sliceE P t (E x) (lo.map E) (hi.map E)
  | .build t parts => buildE P t (parts.toList.map fun p => (p.1, E p.2))
  | .buildSlice t len parts => litE P t len (parts.toList.map fun p => (p.1, E p.2))
  | .call ⟨.builtin .len, ⟨[x]⟩, ⟨[t]⟩⟩ => lenE P t (E x)
  | .call ⟨.builtin .min, ⟨[x, y]⟩, _⟩ => minE (E x) (E y)
  | .call ⟨.builtin .max, ⟨[x, y]⟩, _⟩ => maxE (E x) (E y)
  | .call ⟨.value (.func f), ⟨[x, y]⟩, _⟩ => if cmp f = true then match asS (E x), asS (E y) with
      | some a, some b => some (.d (I (Lib.compareBytes a b)))
      | _, _ => none
    else none
  | _ => none
def CmpOk (P : Program) (cmp : FuncId → Bool) : Prop := ∀ f, cmp f = true → ∃ fn, P.funcs[f]? = some fn ∧ (fn.name == "runtime.NumGoroutine") = false ∧ fn.body.isNone = true ∧ Extern.findNext fn = none ∧ Extern.find fn = some Extern.BytealgCompare.compare
def readOp (P : Program) (o : Oper) (E : Operand → AV) (H : HS) : Option AV :=
  match o.op with
  | .load t x => loadE P t (E x) H
  | .lookup t x k two => lookupE P t (E x) (E k) two H
  | .call ⟨.builtin .len, ⟨[x]⟩, ⟨[t]⟩⟩ => lenME P t (E x) H
  | .next x false => nextE (E x) H
  | _ => none
def fullOp (P : Program) (o : Oper) (E : Operand → AV) (H : HS) : Option (AV × HS × Nat × Bool) :=
  match o.op with
  | .alloc t => (allocE P t H).map fun r => (r.1, r.2, big, false)
  | .box t x => (boxE t (E x) H).map fun r => (r.1, r.2, big, false)
  | .store t x y => (storeE P t (E x) (E y) H).map fun r => (r.1, r.2, ptrOf (E x), false)
  | .buildSlice t len parts => (litCE P t len (parts.toList.map fun p => (p.1, E p.2)) H).map fun r => (r.1, r.2, big, false)
  | .makeMap _ none => some (.map H.nm, H.pushM (.map []), big, true)
  | .range t x => (rangeE P t (E x) H).map fun r => (r.1, r.2, big, true)
  | .call ⟨.builtin .append, ⟨[x, y]⟩, ⟨[t', tx]⟩⟩ => (appendE P t' tx (E x) (E y) H).map fun r => (r.1, r.2, big, true)
  | _ => none
section
variable {P : Program} [Wins P]
theorem pureOp_ok {cmp : FuncId → Bool} (hcmp : CmpOk P cmp) (o : Oper) (E : Operand → AV) (v : AV) (h : pureOp P cmp o E = some v) (H : HS) : OpR P o E H (Ret v H) := by
  obtain ⟨dst, op, ty, pos, after, gd⟩ := o
  unfold pureOp at h
  dsimp only at h
  split at h
  · cases h; exact op_move
  · cases h; exact op_assign
  · split at h
    · rename_i b hb; cases h; exact op_pick (asB_ok hb)
    · cases h
  · split at h
    · rename_i cs hx; exact op_extract hx h
    · cases h
  · cases h; exact op_makeFunc
  · exact unE_ok h
  · exact binE_ok h
  · exact convE_ok h
  · exact nilCE_ok h
  · exact fieldE_ok h
  · exact fieldVE_ok h
  · exact indexE_ok h
  · exact indexAE_ok h
  · exact sliceE_ok h
  · exact buildE_ok h
  · exact litE_ok h
  · exact lenE_ok h
  · exact minE_ok h
  · exact maxE_ok h
  · split at h
    · rename_i hc
      split at h
      · rename_i a b ha hb
        cases h
        obtain ⟨fn, h1, h2, h3, h4, h5⟩ := hcmp _ hc
        exact op_cmpstring h1 h2 h3 h4 h5 (asS_ok ha) (asS_ok hb)
      · cases h
    · cases h
  · cases h
theorem readOp_ok (o : Oper) (E : Operand → AV) (H : HS) (v : AV) (h : readOp P o E H = some v) : OpR P o E H (Ret v H) := by
  obtain ⟨dst, op, ty, pos, after, gd⟩ := o
  unfold readOp at h
  dsimp only at h
  split at h
  · exact loadE_ok h
  · exact lookupE_ok h
  · exact lenME_ok h
  · exact nextE_ok h
  · cases h
theorem fullOp_ok (o : Oper) (E : Operand → AV) (H : HS) (v : AV) (H' : HS) (low : Nat) (mt : Bool) (h : fullOp P o E H = some (v, H', low, mt)) : OpR P o E H (Ret v H') ∧ Frm low mt H H' := by
  obtain ⟨dst, op, ty, pos, after, gd⟩ := o
  unfold fullOp at h
  dsimp only at h
  split at h
  · obtain ⟨r, hr, e⟩ := Option.map_eq_some_iff.1 h; cases e; exact ⟨allocE_ok hr, allocE_frm hr⟩
  · obtain ⟨r, hr, e⟩ := Option.map_eq_some_iff.1 h; cases e; exact ⟨boxE_ok hr, boxE_frm hr⟩
  · obtain ⟨r, hr, e⟩ := Option.map_eq_some_iff.1 h; cases e; exact ⟨storeE_ok hr, storeE_frm hr⟩
  · obtain ⟨r, hr, e⟩ := Option.map_eq_some_iff.1 h; cases e; exact ⟨litCE_ok hr, litCE_frm hr⟩
  · cases h; exact ⟨op_makeMap, frm_pushM⟩
  · obtain ⟨r, hr, e⟩ := Option.map_eq_some_iff.1 h; cases e; exact ⟨rangeE_ok hr, rangeE_frm hr⟩
  · obtain ⟨r, hr, e⟩ := Option.map_eq_some_iff.1 h; cases e; exact ⟨appendE_ok hr, appendE_frm hr⟩
  · cases h
def reck (P : Program) [Wins P] (hm : P.follows .mixedOrders = true) (cmp : FuncId → Bool) (hcmp : CmpOk P cmp) (isX : FuncId → Bool) (funcs : FuncId → Option Func) (hf : ∀ f fn, funcs f = some fn → P.funcs[f]? = some fn ∧ (fn.name == "runtime.NumGoroutine") = false) (known : FuncId → List AV → HS → Option (AV × HS × Nat × Bool))
    (hk : ∀ f args H v H' low mt, known f args H = some (v, H', low, mt) → ACalls P f args H (Ret v H') ∧ Frm low mt H H' ∧ ∃ fn, P.funcs[f]? = some fn ∧ (fn.name == "runtime.NumGoroutine") = false ∧ fn.body.isNone = false) : Reck P :=
  { pure := pureOp P cmp, read := readOp P, full := fullOp P, funcs, isX, known, pure_ok := pureOp_ok hcmp, read_ok := readOp_ok, full_ok := fullOp_ok, mixed_ok := hm, funcs_ok := hf, known_ok := hk }
end
end Go.AV
namespace Go.AV
open Go.RowKit
def spine : Code → List Code
  | .seq a b => spine a ++ spine b
  | k => [k]
def rangeOf : Code → Option (Code × Code)
  | .seq a b => match rangeOf a with
    | some r => some r
    | none => rangeOf b
  | .cond _ a b => match rangeOf a with
    | some r => some r
    | none => rangeOf b
  | .block _ a => rangeOf a
  | .loop a => rangeOf a
  | .scope a => rangeOf a
  | .rangeFunc _ _ a b => some (a, b)
  | _ => none
def forceX (r : XR) : XR := match r with
  | some (e, T, H, a, l, m) => forceAs T fun T => forceH H fun H => some (e, T, H, a, l, m)
  | none => none
theorem forceX_eq (r : XR) : forceX r = r := by
  unfold forceX
  split
  · rw [forceAs_eq, forceH_eq]
  · rfl
section
variable {P : Program} [Wins P] {K : Reck P}
def AWs (P : Program) [Wins P] : List Code → Post → List AV → HS → Prop
  | [], Q, T, H => Q .normal T H
  | c :: l, Q, T, H => AW P c (fun e T' H' => match e with | .normal => AWs P l Q T' H' | e => Q e T' H') T H
theorem aws_append : ∀ (l m : List Code) (Q : Post) (T : List AV) (H : HS), AWs P (l ++ m) Q T H → AWs P l (fun e T' H' => match e with | .normal => AWs P m Q T' H' | e => Q e T' H') T H
  | [], m, Q, T, H, h => h
  | c :: l, m, Q, T, H, h => by
    refine aw_mono h fun e T' H' h' => ?_
    cases e with
    | normal => exact aws_append l m Q T' H' h'
    | _ => exact h'
theorem aw_spine : ∀ (k : Code) (Q : Post) (T : List AV) (H : HS), AWs P (spine k) Q T H → AW P k Q T H
  | .seq a b, Q, T, H, h => by
    have h1 := aw_spine a _ T H (aws_append _ _ _ _ _ h)
    refine aw_seq (aw_mono h1 fun e T' H' h' => ?_)
    cases e with
    | normal => exact then_normal (aw_spine b Q T' H' h')
    | _ => exact h'
  | .skip, Q, T, H, h => aw_mono (show AW P _ _ T H from h) fun e T' H' h' => by cases e <;> exact h'
  | .label _, Q, T, H, h => aw_mono (show AW P _ _ T H from h) fun e T' H' h' => by cases e <;> exact h'
  | .exit _, Q, T, H, h => aw_mono (show AW P _ _ T H from h) fun e T' H' h' => by cases e <;> exact h'
  | .ret, Q, T, H, h => aw_mono (show AW P _ _ T H from h) fun e T' H' h' => by cases e <;> exact h'
  | .cond _ _ _, Q, T, H, h => aw_mono (show AW P _ _ T H from h) fun e T' H' h' => by cases e <;> exact h'
  | .block _ _, Q, T, H, h => aw_mono (show AW P _ _ T H from h) fun e T' H' h' => by cases e <;> exact h'
  | .scope _, Q, T, H, h => aw_mono (show AW P _ _ T H from h) fun e T' H' h' => by cases e <;> exact h'
  | .loop _, Q, T, H, h => aw_mono (show AW P _ _ T H from h) fun e T' H' h' => by cases e <;> exact h'
  | .region _ _ _, Q, T, H, h => aw_mono (show AW P _ _ T H from h) fun e T' H' h' => by cases e <;> exact h'
  | .rangeFunc _ _ _ _, Q, T, H, h => aw_mono (show AW P _ _ T H from h) fun e T' H' h' => by cases e <;> exact h'
  | .goto _, Q, T, H, h => aw_mono (show AW P _ _ T H from h) fun e T' H' h' => by cases e <;> exact h'
  | .refuse _, Q, T, H, h => aw_mono (show AW P _ _ T H from h) fun e T' H' h' => by cases e <;> exact h'
theorem aws_step {n : Nat} {c : Code} {l : List Code} {Q : Post} {T T1 : List AV} {H H1 : HS} {a m : Bool} {lo : Nat} (h : forceX (exec K n c T H) = some (.normal, T1, H1, a, lo, m)) (hl : AWs P l Q T1 H1) : AWs P (c :: l) Q T H := by
  rw [forceX_eq] at h
  refine aw_mono (exec_ok n c T H _ _ _ _ _ _ h).1.1 ?_
  rintro e T' H' ⟨rfl, rfl, rfl⟩
  exact hl
theorem aws_last {n : Nat} {c : Code} {l : List Code} {Q : Post} {T T1 : List AV} {H H1 : HS} {a m : Bool} {lo : Nat} (h : forceX (exec K n c T H) = some (.ret, T1, H1, a, lo, m)) (hq : Q .ret T1 H1) : AWs P (c :: l) Q T H := by
  rw [forceX_eq] at h
  refine aw_mono (exec_ok n c T H _ _ _ _ _ _ h).1.1 ?_
  rintro e T' H' ⟨rfl, rfl, rfl⟩
  exact hq
end
end Go.AV
namespace Go.Proofs.YtdiibbbbdhkepaaGreatDoor.Hd
open Go Go.AV
set_option maxRecDepth 100000
def named (P : Program) (f : FuncId) : Option Func := match P.funcs[f]? with
  | some (fn : Func) => if fn.name == "runtime.NumGoroutine" then none else some fn
  | none => none
theorem named_ok {P : Program} (f : FuncId) (fn : Func) (h : named P f = some fn) : P.funcs[f]? = some fn ∧ (fn.name == "runtime.NumGoroutine") = false := by
  unfold named at h
  split at h
  · rename_i g hg
    split at h
    · cases h
    · rename_i hn
      cases h
      exact ⟨hg, by simpa using hn⟩
  · cases h
theorem cmpOk [Wins Tryz.prog] : CmpOk Tryz.prog (fun f => f == 294) := by
  intro f hf
  have : f = 294 := by simpa using hf
  subst this
  exact ⟨_, Tryz.func294, by rfl, by rfl, by rfl, by rfl⟩
noncomputable def KK [Wins Tryz.prog] : Reck Tryz.prog := reck Tryz.prog (by kernel_rfl) (fun f => f == 294) cmpOk (fun f => f == 27 || f == 46 || f == 119) (named Tryz.prog) named_ok (fun _ _ _ => none) (fun _ _ _ _ _ _ _ h => by cases h)
noncomputable def fnb (f : FuncId) : Code := ((Tryz.prog.funcs[f]?).bind (·.body)).getD .skip
noncomputable def hc (i : Nat) : Code := (spine (fnb 5)).getD i .skip
noncomputable def rA (f : FuncId) : Code := ((rangeOf (fnb f)).map (·.1)).getD .skip
noncomputable def rB (f : FuncId) : Code := ((rangeOf (fnb f)).map (·.2)).getD .skip
noncomputable def T0 : List AV := [.un, .un, .un, .un, .un, .un, .un, .un, .un, .un, .un, .un, .un, .un, .un, .un, .un, .un, .un, .un, .un, .un, .un, .un, .un, .un, .un, .un, .un, .un, .un, .un, .un, .un, .un, .un, .un, .un, .un, .un, .un, .un, .un, .un, .un, .un, .un, .un, .un, .un, .un, .un, .un, .un, .un, .un, .un, .un, .un, .un, .un, .un, .un, .un, .un, .un, .un, .un]
noncomputable def T1 : List AV := [(.d (TF false)), .un, .un, .un, .un, .un, .un, .un, .un, .un, .un, .un, .un, .un, .un, .un, .un, .un, .un, .un, .un, .un, .un, .un, .un, .un, .un, .un, .un, .un, .un, .un, .un, .un, .un, .un, .un, .un, .un, .un, .un, .un, .un, .un, .un, .un, .un, .un, .un, .un, .un, .un, .un, .un, .un, .un, .un, .un, .un, .un, .un, .un, .un, .un, .un, .un, .un, .un]
noncomputable def H1 : HS := ⟨[],
  [],
  [], x0⟩
noncomputable def T2 : List AV := [(.d (TF false)), (.ptr 1 0), .un, .un, .un, .un, .un, .un, (.ptr 1 0), .un, .un, .un, .un, .un, .un, .un, .un, .un, .un, .un, .un, .un, .un, .un, .un, .un, .un, .un, .un, .un, .un, .un, .un, .un, .un, .un, .un, .un, .un, .un, .un, .un, .un, .un, .un, .un, .un, .un, .un, .un, .un, .un, .un, .un, .un, .un, .un, .un, .un, .un, .un, .un, .un, .un, .un, .un, .un, .un]
noncomputable def H2 : HS := ⟨[⟨82, [(.d (I (10000))), (.map 0), (.d (TF false)), (.d (I (-1)))], false⟩, ⟨58, [(.ptr 0 0), (.ptr 6 0), (.d (I (0)))], false⟩, ⟨108, [(.ptr 0 0), (.ptr 3 0), (.d (I (0)))], false⟩, ⟨197, [(.d (.v (.slice none 0 0))), (.d (I (0))), (.d (I (0))), (.d (.v (.slice none 0 0)))], false⟩, ⟨210, [(.map 1)], false⟩, ⟨213, [(.map 2), (.d (I (0)))], false⟩, ⟨73, [(.ptr 2 0), (.d (I (0))), (.ptr 4 0), (.ptr 5 0), (.d (.v (.pointer none))), (.d (.v (.pointer none))), (.d (.v (.pointer none))), (.d (.v (.pointer none))), (.d (.v (.pointer none))), (.d (.v (.pointer none))), (.d (.v (.pointer none))), (.d (.v (.pointer none))), (.d (.v (.pointer none))), (.d (.v (.pointer none))), (.d (.v (.pointer none))), (.d (.v (.pointer none))), (.d (.v (.pointer none))), (.d (.v (.pointer none))), (.d (.v (.pointer none))), (.d (.v (.pointer none))), (.d (I (0)))], false⟩],
  [],
  [(.map []), (.map []), (.map [])], x0⟩
noncomputable def T3 : List AV := [(.d (TF false)), (.ptr 1 0), (.d (I (0))), .un, .un, .un, .un, .un, (.ptr 1 0), (.ptr 1 0), (.d (.agg [(I (1)), (S []), (S []), (S []), (S []), (I (0)), (I (0))])), (.agg [(.d (I (1))), (.d (I (0))), (.d (I (0))), (.d (S [1, 1, 0, 0, 0, 0, 0, 0])), (.d (.v (.slice none 0 0)))]), (.agg [(.d (I (0))), (.d (I (0))), (.d (.v (.slice none 0 0)))]), (.d (I (0))), .un, .un, .un, .un, .un, .un, .un, .un, .un, .un, .un, .un, .un, .un, .un, .un, .un, .un, .un, .un, .un, .un, .un, .un, .un, .un, .un, .un, .un, .un, .un, .un, .un, .un, .un, .un, .un, .un, .un, .un, .un, .un, .un, .un, .un, .un, .un, .un, .un, .un, .un, .un, .un, .un]
noncomputable def H3 : HS := ⟨[⟨82, [(.d (I (10000))), (.map 0), (.d (TF false)), (.d (I (-1)))], false⟩, ⟨58, [(.ptr 0 0), (.ptr 6 0), (.d (I (0)))], false⟩, ⟨108, [(.ptr 0 0), (.ptr 3 0), (.d (I (0)))], false⟩, ⟨197, [(.d (.v (.slice none 0 0))), (.d (I (0))), (.d (I (0))), (.d (.v (.slice none 0 0)))], false⟩, ⟨210, [(.map 1)], false⟩, ⟨213, [(.map 2), (.d (I (0)))], false⟩, ⟨73, [(.ptr 2 0), (.d (I (0))), (.ptr 4 0), (.ptr 5 0), (.ptr 14 0), (.d (.v (.pointer none))), (.d (.v (.pointer none))), (.d (.v (.pointer none))), (.d (.v (.pointer none))), (.d (.v (.pointer none))), (.d (.v (.pointer none))), (.d (.v (.pointer none))), (.d (.v (.pointer none))), (.d (.v (.pointer none))), (.d (.v (.pointer none))), (.d (.v (.pointer none))), (.d (.v (.pointer none))), (.d (.v (.pointer none))), (.d (.v (.pointer none))), (.d (.v (.pointer none))), (.d (I (1)))], false⟩, ⟨45, [(.d (I (1))), (.d (S [])), (.d (S [])), (.d (S [])), (.d (S [])), (.d (I (0))), (.d (I (0)))], false⟩, ⟨28, [(.d (I (1))), (.d (I (0))), (.d (I (0))), (.d (S [1, 1, 0, 0, 0, 0, 0, 0])), (.d (.v (.slice none 0 0)))], false⟩, ⟨45, [(.d (I (1))), (.d (S [])), (.d (S [])), (.d (S [])), (.d (S [])), (.d (I (0))), (.d (I (0)))], false⟩, ⟨28, [(.d (I (1))), (.d (I (0))), (.d (I (0))), (.d (S [1, 1, 0, 0, 0, 0, 0, 0])), (.d (.v (.slice none 0 0)))], false⟩, ⟨40, [(.d (I (0))), (.d (I (0))), (.d (.v (.slice none 0 0)))], false⟩, ⟨40, [(.d (I (0))), (.d (I (0))), (.d (.v (.slice none 0 0)))], false⟩, ⟨45, [(.d (I (1))), (.d (S [])), (.d (S [])), (.d (S [])), (.d (S [])), (.d (I (0))), (.d (I (0)))], false⟩, ⟨137, [(.ptr 3 0), (.d (I (0))), (.d (I (0))), (.d (I (1))), (.d (I (0))), (.d (.v (.slice none 0 0))), (.d (I (0)))], false⟩],
  [8],
  [(.map []), (.map []), (.map [])], x0⟩
noncomputable def T4 : List AV := [(.d (TF false)), (.ptr 1 0), (.d (I (0))), (.d (I (0))), .un, .un, .un, .un, (.ptr 1 0), (.ptr 1 0), (.d (.agg [(I (1)), (S []), (S []), (S []), (S []), (I (0)), (I (0))])), (.agg [(.d (I (1))), (.d (I (0))), (.d (I (0))), (.d (S [1, 1, 0, 0, 0, 0, 0, 0])), (.d (.v (.slice none 0 0)))]), (.agg [(.d (I (0))), (.d (I (0))), (.d (.v (.slice none 0 0)))]), (.d (I (0))), (.ptr 1 0), (.d (.agg [(I (11)), (S [113]), (S []), (S []), (S []), (I (3)), (I (0))])), (.agg [(.d (I (1))), (.d (I (0))), (.d (I (0))), (.d (S [1, 11, 1, 1, 113, 0, 0, 0, 1, 3, 0])), (.d (.v (.slice none 0 0)))]), (.agg [(.d (I (0))), (.d (I (0))), (.d (.v (.slice none 0 0)))]), (.d (I (0))), .un, .un, .un, .un, .un, .un, .un, .un, .un, .un, .un, .un, .un, .un, .un, .un, .un, .un, .un, .un, .un, .un, .un, .un, .un, .un, .un, .un, .un, .un, .un, .un, .un, .un, .un, .un, .un, .un, .un, .un, .un, .un, .un, .un, .un, .un, .un, .un, .un]
noncomputable def H4 : HS := ⟨[⟨82, [(.d (I (10000))), (.map 0), (.d (TF false)), (.d (I (-1)))], false⟩, ⟨58, [(.ptr 0 0), (.ptr 6 0), (.d (I (0)))], false⟩, ⟨108, [(.ptr 0 0), (.ptr 3 0), (.d (I (0)))], false⟩, ⟨197, [(.d (.v (.slice none 0 0))), (.d (I (0))), (.d (I (0))), (.d (.v (.slice none 0 0)))], false⟩, ⟨210, [(.map 1)], false⟩, ⟨213, [(.map 2), (.d (I (0)))], false⟩, ⟨73, [(.ptr 2 0), (.d (I (0))), (.ptr 4 0), (.ptr 5 0), (.ptr 14 0), (.d (.v (.pointer none))), (.d (.v (.pointer none))), (.d (.v (.pointer none))), (.d (.v (.pointer none))), (.d (.v (.pointer none))), (.d (.v (.pointer none))), (.d (.v (.pointer none))), (.d (.v (.pointer none))), (.d (.v (.pointer none))), (.d (.v (.pointer none))), (.d (.v (.pointer none))), (.d (.v (.pointer none))), (.d (.v (.pointer none))), (.d (.v (.pointer none))), (.d (.v (.pointer none))), (.d (I (1)))], false⟩, ⟨45, [(.d (I (1))), (.d (S [])), (.d (S [])), (.d (S [])), (.d (S [])), (.d (I (0))), (.d (I (0)))], false⟩, ⟨28, [(.d (I (1))), (.d (I (0))), (.d (I (0))), (.d (S [1, 1, 0, 0, 0, 0, 0, 0])), (.d (.v (.slice none 0 0)))], false⟩, ⟨45, [(.d (I (1))), (.d (S [])), (.d (S [])), (.d (S [])), (.d (S [])), (.d (I (0))), (.d (I (0)))], false⟩, ⟨28, [(.d (I (1))), (.d (I (0))), (.d (I (0))), (.d (S [1, 1, 0, 0, 0, 0, 0, 0])), (.d (.v (.slice none 0 0)))], false⟩, ⟨40, [(.d (I (0))), (.d (I (0))), (.d (.v (.slice none 0 0)))], false⟩, ⟨40, [(.d (I (0))), (.d (I (0))), (.d (.v (.slice none 0 0)))], false⟩, ⟨45, [(.d (I (1))), (.d (S [])), (.d (S [])), (.d (S [])), (.d (S [])), (.d (I (0))), (.d (I (0)))], false⟩, ⟨137, [(.ptr 3 0), (.d (I (0))), (.d (I (0))), (.d (I (1))), (.d (I (0))), (.arr 30 1 1), (.d (I (1)))], false⟩, ⟨45, [(.d (I (11))), (.d (S [113])), (.d (S [])), (.d (S [])), (.d (S [])), (.d (I (3))), (.d (I (0)))], false⟩, ⟨28, [(.d (I (1))), (.d (I (0))), (.d (I (0))), (.d (S [1, 11, 1, 1, 113, 0, 0, 0, 1, 3, 0])), (.d (.v (.slice none 0 0)))], false⟩, ⟨45, [(.d (I (11))), (.d (S [113])), (.d (S [])), (.d (S [])), (.d (S [])), (.d (I (3))), (.d (I (0)))], false⟩, ⟨28, [(.d (I (1))), (.d (I (0))), (.d (I (0))), (.d (S [1, 11, 1, 1, 113, 0, 0, 0, 1, 3, 0])), (.d (.v (.slice none 0 0)))], false⟩, ⟨40, [(.d (I (0))), (.d (I (0))), (.d (.v (.slice none 0 0)))], false⟩, ⟨40, [(.d (I (0))), (.d (I (0))), (.d (.v (.slice none 0 0)))], false⟩, ⟨45, [(.d (I (11))), (.d (S [113])), (.d (S [])), (.d (S [])), (.d (S [])), (.d (I (3))), (.d (I (0)))], false⟩, ⟨45, [(.d (I (11))), (.d (S [113])), (.d (S [])), (.d (S [])), (.d (S [])), (.d (I (3))), (.d (I (0)))], false⟩, ⟨40, [(.d (I (0))), (.d (I (0))), (.d (.v (.slice none 0 0)))], false⟩, ⟨45, [(.d (I (11))), (.d (S [113])), (.d (S [])), (.d (S [])), (.d (S [])), (.d (I (3))), (.d (I (0)))], false⟩, ⟨40, [(.d (I (0))), (.d (I (0))), (.d (.v (.slice none 0 0)))], false⟩, ⟨261, [(.d (S [113])), (.d (I (3))), (.d (S []))], false⟩, ⟨146, [(.d (S [113, 0, 1, 113, 0, 1])), (.d (S [1, 3, 0])), (.d (TF false))], false⟩, ⟨146, [(.d (S [])), (.d (S [])), (.d (TF false))], false⟩, ⟨146, [(.d (S [113, 0, 1, 113, 0, 1])), (.d (S [1, 3, 0])), (.d (TF false))], false⟩, ⟨235, [(.own none 4 [(.agg [(S [113, 0, 1, 113, 0, 1]), (S [113, 0, 1, 113, 0, 1]), (S [1, 3, 0]), (TF false)])])], false⟩, ⟨40, [(.d (I (0))), (.d (I (0))), (.d (.v (.slice none 0 0)))], false⟩],
  [8, 11, 6, 6, 3],
  [(.map []), (.map []), (.map [])], x0⟩
noncomputable def T5 : List AV := [(.d (TF false)), (.ptr 1 0), (.d (I (0))), (.d (I (0))), .un, .un, .un, .un, (.ptr 1 0), (.ptr 1 0), (.d (.agg [(I (1)), (S []), (S []), (S []), (S []), (I (0)), (I (0))])), (.agg [(.d (I (1))), (.d (I (0))), (.d (I (0))), (.d (S [1, 1, 0, 0, 0, 0, 0, 0])), (.d (.v (.slice none 0 0)))]), (.agg [(.d (I (0))), (.d (I (0))), (.d (.v (.slice none 0 0)))]), (.d (I (0))), (.ptr 1 0), (.d (.agg [(I (11)), (S [113]), (S []), (S []), (S []), (I (3)), (I (0))])), (.agg [(.d (I (1))), (.d (I (0))), (.d (I (0))), (.d (S [1, 11, 1, 1, 113, 0, 0, 0, 1, 3, 0])), (.d (.v (.slice none 0 0)))]), (.agg [(.d (I (0))), (.d (I (0))), (.d (.v (.slice none 0 0)))]), (.d (I (0))), (.ptr 1 0), (.d (.agg [(I (6)), (I (0)), (I (0)), (S []), (.v (.slice none 0 0))])), (.agg [(.d (I (0))), (.d (I (0))), (.d (.v (.slice none 0 0)))]), .un, .un, .un, .un, .un, .un, .un, .un, .un, .un, .un, .un, .un, .un, .un, .un, .un, .un, .un, .un, .un, .un, .un, .un, .un, .un, .un, .un, .un, .un, .un, .un, .un, .un, .un, .un, .un, .un, .un, .un, .un, .un, .un, .un, .un, .un]
noncomputable def H5 : HS := ⟨[⟨82, [(.d (I (10000))), (.map 0), (.d (TF false)), (.d (I (0)))], false⟩, ⟨58, [(.ptr 0 0), (.ptr 6 0), (.d (I (0)))], false⟩, ⟨108, [(.ptr 0 0), (.ptr 3 0), (.d (I (0)))], false⟩, ⟨197, [(.d (.v (.slice none 0 0))), (.d (I (0))), (.d (I (0))), (.d (.v (.slice none 0 0)))], false⟩, ⟨210, [(.map 1)], false⟩, ⟨213, [(.map 2), (.d (I (0)))], false⟩, ⟨73, [(.ptr 2 0), (.d (I (0))), (.ptr 4 0), (.ptr 5 0), (.ptr 14 0), (.d (.v (.pointer none))), (.d (.v (.pointer none))), (.d (.v (.pointer none))), (.d (.v (.pointer none))), (.d (.v (.pointer none))), (.d (.v (.pointer none))), (.d (.v (.pointer none))), (.d (.v (.pointer none))), (.d (.v (.pointer none))), (.d (.v (.pointer none))), (.d (.v (.pointer none))), (.d (.v (.pointer none))), (.d (.v (.pointer none))), (.d (.v (.pointer none))), (.d (.v (.pointer none))), (.d (I (1)))], false⟩, ⟨45, [(.d (I (1))), (.d (S [])), (.d (S [])), (.d (S [])), (.d (S [])), (.d (I (0))), (.d (I (0)))], false⟩, ⟨28, [(.d (I (1))), (.d (I (0))), (.d (I (0))), (.d (S [1, 1, 0, 0, 0, 0, 0, 0])), (.d (.v (.slice none 0 0)))], false⟩, ⟨45, [(.d (I (1))), (.d (S [])), (.d (S [])), (.d (S [])), (.d (S [])), (.d (I (0))), (.d (I (0)))], false⟩, ⟨28, [(.d (I (1))), (.d (I (0))), (.d (I (0))), (.d (S [1, 1, 0, 0, 0, 0, 0, 0])), (.d (.v (.slice none 0 0)))], false⟩, ⟨40, [(.d (I (0))), (.d (I (0))), (.d (.v (.slice none 0 0)))], false⟩, ⟨40, [(.d (I (0))), (.d (I (0))), (.d (.v (.slice none 0 0)))], false⟩, ⟨45, [(.d (I (1))), (.d (S [])), (.d (S [])), (.d (S [])), (.d (S [])), (.d (I (0))), (.d (I (0)))], false⟩, ⟨137, [(.ptr 3 0), (.d (I (0))), (.d (I (0))), (.d (I (1))), (.d (I (0))), (.arr 30 1 1), (.d (I (1)))], false⟩, ⟨45, [(.d (I (11))), (.d (S [113])), (.d (S [])), (.d (S [])), (.d (S [])), (.d (I (3))), (.d (I (0)))], false⟩, ⟨28, [(.d (I (1))), (.d (I (0))), (.d (I (0))), (.d (S [1, 11, 1, 1, 113, 0, 0, 0, 1, 3, 0])), (.d (.v (.slice none 0 0)))], false⟩, ⟨45, [(.d (I (11))), (.d (S [113])), (.d (S [])), (.d (S [])), (.d (S [])), (.d (I (3))), (.d (I (0)))], false⟩, ⟨28, [(.d (I (1))), (.d (I (0))), (.d (I (0))), (.d (S [1, 11, 1, 1, 113, 0, 0, 0, 1, 3, 0])), (.d (.v (.slice none 0 0)))], false⟩, ⟨40, [(.d (I (0))), (.d (I (0))), (.d (.v (.slice none 0 0)))], false⟩, ⟨40, [(.d (I (0))), (.d (I (0))), (.d (.v (.slice none 0 0)))], false⟩, ⟨45, [(.d (I (11))), (.d (S [113])), (.d (S [])), (.d (S [])), (.d (S [])), (.d (I (3))), (.d (I (0)))], false⟩, ⟨45, [(.d (I (11))), (.d (S [113])), (.d (S [])), (.d (S [])), (.d (S [])), (.d (I (3))), (.d (I (0)))], false⟩, ⟨40, [(.d (I (0))), (.d (I (0))), (.d (.v (.slice none 0 0)))], false⟩, ⟨45, [(.d (I (11))), (.d (S [113])), (.d (S [])), (.d (S [])), (.d (S [])), (.d (I (3))), (.d (I (0)))], false⟩, ⟨40, [(.d (I (0))), (.d (I (0))), (.d (.v (.slice none 0 0)))], false⟩, ⟨261, [(.d (S [113])), (.d (I (3))), (.d (S []))], false⟩, ⟨146, [(.d (S [113, 0, 1, 113, 0, 1])), (.d (S [1, 3, 0])), (.d (TF false))], false⟩, ⟨146, [(.d (S [])), (.d (S [])), (.d (TF false))], false⟩, ⟨146, [(.d (S [113, 0, 1, 113, 0, 1])), (.d (S [1, 3, 0])), (.d (TF false))], false⟩, ⟨235, [(.own none 4 [(.agg [(S [113, 0, 1, 113, 0, 1]), (S [113, 0, 1, 113, 0, 1]), (S [1, 3, 0]), (TF false)])])], false⟩, ⟨40, [(.d (I (0))), (.d (I (0))), (.d (.v (.slice none 0 0)))], false⟩, ⟨28, [(.d (I (6))), (.d (I (0))), (.d (I (0))), (.d (S [])), (.d (.v (.slice none 0 0)))], false⟩, ⟨40, [(.d (I (0))), (.d (I (0))), (.d (.v (.slice none 0 0)))], false⟩],
  [8, 11, 6, 6, 3],
  [(.map []), (.map []), (.map [])], x0⟩
noncomputable def T6 : List AV := [(.d (TF false)), (.ptr 1 0), (.d (I (0))), (.d (I (0))), (.d (I (8))), .un, .un, .un, (.ptr 1 0), (.ptr 1 0), (.d (.agg [(I (1)), (S []), (S []), (S []), (S []), (I (0)), (I (0))])), (.agg [(.d (I (1))), (.d (I (0))), (.d (I (0))), (.d (S [1, 1, 0, 0, 0, 0, 0, 0])), (.d (.v (.slice none 0 0)))]), (.agg [(.d (I (0))), (.d (I (0))), (.d (.v (.slice none 0 0)))]), (.d (I (0))), (.ptr 1 0), (.d (.agg [(I (11)), (S [113]), (S []), (S []), (S []), (I (3)), (I (0))])), (.agg [(.d (I (1))), (.d (I (0))), (.d (I (0))), (.d (S [1, 11, 1, 1, 113, 0, 0, 0, 1, 3, 0])), (.d (.v (.slice none 0 0)))]), (.agg [(.d (I (0))), (.d (I (0))), (.d (.v (.slice none 0 0)))]), (.d (I (0))), (.ptr 1 0), (.d (.agg [(I (6)), (I (0)), (I (0)), (S []), (.v (.slice none 0 0))])), (.agg [(.d (I (0))), (.d (I (0))), (.d (.v (.slice none 0 0)))]), (.ptr 1 0), (.d (.agg [(I (2)), (S []), (S []), (S []), (S []), (I (0)), (I (0))])), (.agg [(.d (I (1))), (.d (I (0))), (.d (I (0))), (.d (S [1, 2, 0, 0, 0, 0, 0, 0])), (.d (.v (.slice none 0 0)))]), (.agg [(.d (I (8))), (.d (I (0))), (.d (.v (.slice none 0 0)))]), (.d (I (8))), .un, .un, .un, .un, .un, .un, .un, .un, .un, .un, .un, .un, .un, .un, .un, .un, .un, .un, .un, .un, .un, .un, .un, .un, .un, .un, .un, .un, .un, .un, .un, .un, .un, .un, .un, .un, .un, .un, .un, .un, .un]
noncomputable def H6 : HS := ⟨[⟨82, [(.d (I (10000))), (.map 0), (.d (TF true)), (.d (I (0)))], false⟩, ⟨58, [(.ptr 0 0), (.ptr 6 0), (.d (I (0)))], false⟩, ⟨108, [(.ptr 0 0), (.ptr 3 0), (.d (I (0)))], false⟩, ⟨197, [(.d (.v (.slice none 0 0))), (.d (I (0))), (.d (I (0))), (.d (.v (.slice none 0 0)))], false⟩, ⟨210, [(.map 1)], false⟩, ⟨213, [(.map 2), (.d (I (0)))], false⟩, ⟨73, [(.ptr 2 0), (.d (I (0))), (.ptr 4 0), (.ptr 5 0), (.d (.v (.pointer none))), (.d (.v (.pointer none))), (.d (.v (.pointer none))), (.d (.v (.pointer none))), (.d (.v (.pointer none))), (.d (.v (.pointer none))), (.d (.v (.pointer none))), (.d (.v (.pointer none))), (.d (.v (.pointer none))), (.d (.v (.pointer none))), (.d (.v (.pointer none))), (.d (.v (.pointer none))), (.d (.v (.pointer none))), (.d (.v (.pointer none))), (.d (.v (.pointer none))), (.d (.v (.pointer none))), (.d (I (1)))], false⟩, ⟨45, [(.d (I (1))), (.d (S [])), (.d (S [])), (.d (S [])), (.d (S [])), (.d (I (0))), (.d (I (0)))], false⟩, ⟨28, [(.d (I (1))), (.d (I (0))), (.d (I (0))), (.d (S [1, 1, 0, 0, 0, 0, 0, 0])), (.d (.v (.slice none 0 0)))], false⟩, ⟨45, [(.d (I (1))), (.d (S [])), (.d (S [])), (.d (S [])), (.d (S [])), (.d (I (0))), (.d (I (0)))], false⟩, ⟨28, [(.d (I (1))), (.d (I (0))), (.d (I (0))), (.d (S [1, 1, 0, 0, 0, 0, 0, 0])), (.d (.v (.slice none 0 0)))], false⟩, ⟨40, [(.d (I (0))), (.d (I (0))), (.d (.v (.slice none 0 0)))], false⟩, ⟨40, [(.d (I (0))), (.d (I (0))), (.d (.v (.slice none 0 0)))], false⟩, ⟨45, [(.d (I (1))), (.d (S [])), (.d (S [])), (.d (S [])), (.d (S [])), (.d (I (0))), (.d (I (0)))], false⟩, ⟨137, [(.ptr 3 0), (.d (I (0))), (.d (I (0))), (.d (I (1))), (.d (I (0))), (.arr 30 1 1), (.d (I (1)))], false⟩, ⟨45, [(.d (I (11))), (.d (S [113])), (.d (S [])), (.d (S [])), (.d (S [])), (.d (I (3))), (.d (I (0)))], false⟩, ⟨28, [(.d (I (1))), (.d (I (0))), (.d (I (0))), (.d (S [1, 11, 1, 1, 113, 0, 0, 0, 1, 3, 0])), (.d (.v (.slice none 0 0)))], false⟩, ⟨45, [(.d (I (11))), (.d (S [113])), (.d (S [])), (.d (S [])), (.d (S [])), (.d (I (3))), (.d (I (0)))], false⟩, ⟨28, [(.d (I (1))), (.d (I (0))), (.d (I (0))), (.d (S [1, 11, 1, 1, 113, 0, 0, 0, 1, 3, 0])), (.d (.v (.slice none 0 0)))], false⟩, ⟨40, [(.d (I (0))), (.d (I (0))), (.d (.v (.slice none 0 0)))], false⟩, ⟨40, [(.d (I (0))), (.d (I (0))), (.d (.v (.slice none 0 0)))], false⟩, ⟨45, [(.d (I (11))), (.d (S [113])), (.d (S [])), (.d (S [])), (.d (S [])), (.d (I (3))), (.d (I (0)))], false⟩, ⟨45, [(.d (I (11))), (.d (S [113])), (.d (S [])), (.d (S [])), (.d (S [])), (.d (I (3))), (.d (I (0)))], false⟩, ⟨40, [(.d (I (0))), (.d (I (0))), (.d (.v (.slice none 0 0)))], false⟩, ⟨45, [(.d (I (11))), (.d (S [113])), (.d (S [])), (.d (S [])), (.d (S [])), (.d (I (3))), (.d (I (0)))], false⟩, ⟨40, [(.d (I (0))), (.d (I (0))), (.d (.v (.slice none 0 0)))], false⟩, ⟨261, [(.d (S [113])), (.d (I (3))), (.d (S []))], false⟩, ⟨146, [(.d (S [113, 0, 1, 113, 0, 1])), (.d (S [1, 3, 0])), (.d (TF false))], false⟩, ⟨146, [(.d (S [])), (.d (S [])), (.d (TF false))], false⟩, ⟨146, [(.d (S [113, 0, 1, 113, 0, 1])), (.d (S [1, 3, 0])), (.d (TF false))], false⟩, ⟨235, [(.own none 4 [(.agg [(S [113, 0, 1, 113, 0, 1]), (S [113, 0, 1, 113, 0, 1]), (S [1, 3, 0]), (TF false)])])], false⟩, ⟨40, [(.d (I (0))), (.d (I (0))), (.d (.v (.slice none 0 0)))], false⟩, ⟨28, [(.d (I (6))), (.d (I (0))), (.d (I (0))), (.d (S [])), (.d (.v (.slice none 0 0)))], false⟩, ⟨40, [(.d (I (0))), (.d (I (0))), (.d (.v (.slice none 0 0)))], false⟩, ⟨45, [(.d (I (2))), (.d (S [])), (.d (S [])), (.d (S [])), (.d (S [])), (.d (I (0))), (.d (I (0)))], false⟩, ⟨28, [(.d (I (1))), (.d (I (0))), (.d (I (0))), (.d (S [1, 2, 0, 0, 0, 0, 0, 0])), (.d (.v (.slice none 0 0)))], false⟩, ⟨45, [(.d (I (2))), (.d (S [])), (.d (S [])), (.d (S [])), (.d (S [])), (.d (I (0))), (.d (I (0)))], false⟩, ⟨28, [(.d (I (1))), (.d (I (0))), (.d (I (0))), (.d (S [1, 2, 0, 0, 0, 0, 0, 0])), (.d (.v (.slice none 0 0)))], false⟩, ⟨40, [(.d (I (8))), (.d (I (0))), (.d (.v (.slice none 0 0)))], false⟩, ⟨40, [(.d (I (8))), (.d (I (0))), (.d (.v (.slice none 0 0)))], false⟩, ⟨45, [(.d (I (2))), (.d (S [])), (.d (S [])), (.d (S [])), (.d (S [])), (.d (I (0))), (.d (I (0)))], false⟩, ⟨97, [(.own (some 6) 3 [(.agg [(S [113, 0, 1, 113, 0, 1]), (S [1, 3, 0]), (TF false)])])], false⟩, ⟨231, [(.ptr 14 5)], false⟩, ⟨9, [(.d (S []))], false⟩, ⟨237, [(.d (S [113, 0, 1, 113, 0, 1])), (.d (S [113, 0, 1, 113, 0, 1])), (.d (S [1, 3, 0])), (.d (TF false))], false⟩, ⟨146, [(.d (S [113, 0, 1, 113, 0, 1])), (.d (S [1, 3, 0])), (.d (TF false))], false⟩, ⟨129, [(.d (I (1))), (.d (I (0))), (.own (some 6) 3 [(.agg [(S [113, 0, 1, 113, 0, 1]), (S [1, 3, 0]), (TF false)])])], false⟩, ⟨129, [(.d (I (1))), (.d (I (0))), (.own (some 6) 3 [(.agg [(S [113, 0, 1, 113, 0, 1]), (S [1, 3, 0]), (TF false)])])], false⟩, ⟨129, [(.d (I (1))), (.d (I (0))), (.own (some 6) 3 [(.agg [(S [113, 0, 1, 113, 0, 1]), (S [1, 3, 0]), (TF false)])])], false⟩, ⟨146, [(.d (S [113, 0, 1, 113, 0, 1])), (.d (S [1, 3, 0])), (.d (TF false))], false⟩],
  [8, 11, 6, 6, 3, 8, 1, 19],
  [(.map []), (.map []), (.map []), (.obj (.deferred none)), (.rnd #[12, 13] (rA 46) (rB 46) .exhausted none [(.ptr 14 0), .un, (.d (.v (.slice none 0 0))), (.ptr 41 0), .un, .un, (.ptr 14 0), (.d (TF true)), (.ptr 14 0), (.ptr 14 0), (.ptr 14 5), (.fn (.func 133) [] [(.ptr 42 0), (.ptr 43 0)]), .un, .un, .un, .un, .un, .un, .un]), (.iter (some 1) 0 none)], x0⟩
noncomputable def T7 : List AV := [(.d (TF false)), (.ptr 1 0), (.d (I (0))), (.d (I (0))), (.d (I (8))), (.d (I (8))), .un, .un, (.ptr 1 0), (.ptr 1 0), (.d (.agg [(I (1)), (S []), (S []), (S []), (S []), (I (0)), (I (0))])), (.agg [(.d (I (1))), (.d (I (0))), (.d (I (0))), (.d (S [1, 1, 0, 0, 0, 0, 0, 0])), (.d (.v (.slice none 0 0)))]), (.agg [(.d (I (0))), (.d (I (0))), (.d (.v (.slice none 0 0)))]), (.d (I (0))), (.ptr 1 0), (.d (.agg [(I (11)), (S [113]), (S []), (S []), (S []), (I (3)), (I (0))])), (.agg [(.d (I (1))), (.d (I (0))), (.d (I (0))), (.d (S [1, 11, 1, 1, 113, 0, 0, 0, 1, 3, 0])), (.d (.v (.slice none 0 0)))]), (.agg [(.d (I (0))), (.d (I (0))), (.d (.v (.slice none 0 0)))]), (.d (I (0))), (.ptr 1 0), (.d (.agg [(I (6)), (I (0)), (I (0)), (S []), (.v (.slice none 0 0))])), (.agg [(.d (I (0))), (.d (I (0))), (.d (.v (.slice none 0 0)))]), (.ptr 1 0), (.d (.agg [(I (2)), (S []), (S []), (S []), (S []), (I (0)), (I (0))])), (.agg [(.d (I (1))), (.d (I (0))), (.d (I (0))), (.d (S [1, 2, 0, 0, 0, 0, 0, 0])), (.d (.v (.slice none 0 0)))]), (.agg [(.d (I (8))), (.d (I (0))), (.d (.v (.slice none 0 0)))]), (.d (I (8))), (.ptr 1 0), (.d (.agg [(I (1)), (S []), (S []), (S []), (S []), (I (0)), (I (0))])), (.agg [(.d (I (1))), (.d (I (0))), (.d (I (0))), (.d (S [1, 1, 0, 0, 0, 0, 0, 0])), (.d (.v (.slice none 0 0)))]), (.agg [(.d (I (8))), (.d (I (0))), (.d (.v (.slice none 0 0)))]), (.d (I (8))), .un, .un, .un, .un, .un, .un, .un, .un, .un, .un, .un, .un, .un, .un, .un, .un, .un, .un, .un, .un, .un, .un, .un, .un, .un, .un, .un, .un, .un, .un, .un, .un, .un, .un, .un, .un]
noncomputable def H7 : HS := ⟨[⟨82, [(.d (I (10000))), (.map 0), (.d (TF true)), (.d (I (0)))], false⟩, ⟨58, [(.ptr 0 0), (.ptr 6 0), (.d (I (0)))], false⟩, ⟨108, [(.ptr 0 0), (.ptr 3 0), (.d (I (0)))], false⟩, ⟨197, [(.d (.v (.slice none 0 0))), (.d (I (0))), (.d (I (0))), (.d (.v (.slice none 0 0)))], false⟩, ⟨210, [(.map 1)], false⟩, ⟨213, [(.map 2), (.d (I (0)))], false⟩, ⟨73, [(.ptr 2 0), (.d (I (0))), (.ptr 4 0), (.ptr 5 0), (.d (.v (.pointer none))), (.d (.v (.pointer none))), (.d (.v (.pointer none))), (.d (.v (.pointer none))), (.d (.v (.pointer none))), (.d (.v (.pointer none))), (.d (.v (.pointer none))), (.d (.v (.pointer none))), (.d (.v (.pointer none))), (.d (.v (.pointer none))), (.d (.v (.pointer none))), (.d (.v (.pointer none))), (.d (.v (.pointer none))), (.d (.v (.pointer none))), (.d (.v (.pointer none))), (.d (.v (.pointer none))), (.d (I (1)))], false⟩, ⟨45, [(.d (I (1))), (.d (S [])), (.d (S [])), (.d (S [])), (.d (S [])), (.d (I (0))), (.d (I (0)))], false⟩, ⟨28, [(.d (I (1))), (.d (I (0))), (.d (I (0))), (.d (S [1, 1, 0, 0, 0, 0, 0, 0])), (.d (.v (.slice none 0 0)))], false⟩, ⟨45, [(.d (I (1))), (.d (S [])), (.d (S [])), (.d (S [])), (.d (S [])), (.d (I (0))), (.d (I (0)))], false⟩, ⟨28, [(.d (I (1))), (.d (I (0))), (.d (I (0))), (.d (S [1, 1, 0, 0, 0, 0, 0, 0])), (.d (.v (.slice none 0 0)))], false⟩, ⟨40, [(.d (I (0))), (.d (I (0))), (.d (.v (.slice none 0 0)))], false⟩, ⟨40, [(.d (I (0))), (.d (I (0))), (.d (.v (.slice none 0 0)))], false⟩, ⟨45, [(.d (I (1))), (.d (S [])), (.d (S [])), (.d (S [])), (.d (S [])), (.d (I (0))), (.d (I (0)))], false⟩, ⟨137, [(.ptr 3 0), (.d (I (0))), (.d (I (0))), (.d (I (1))), (.d (I (0))), (.arr 30 1 1), (.d (I (1)))], false⟩, ⟨45, [(.d (I (11))), (.d (S [113])), (.d (S [])), (.d (S [])), (.d (S [])), (.d (I (3))), (.d (I (0)))], false⟩, ⟨28, [(.d (I (1))), (.d (I (0))), (.d (I (0))), (.d (S [1, 11, 1, 1, 113, 0, 0, 0, 1, 3, 0])), (.d (.v (.slice none 0 0)))], false⟩, ⟨45, [(.d (I (11))), (.d (S [113])), (.d (S [])), (.d (S [])), (.d (S [])), (.d (I (3))), (.d (I (0)))], false⟩, ⟨28, [(.d (I (1))), (.d (I (0))), (.d (I (0))), (.d (S [1, 11, 1, 1, 113, 0, 0, 0, 1, 3, 0])), (.d (.v (.slice none 0 0)))], false⟩, ⟨40, [(.d (I (0))), (.d (I (0))), (.d (.v (.slice none 0 0)))], false⟩, ⟨40, [(.d (I (0))), (.d (I (0))), (.d (.v (.slice none 0 0)))], false⟩, ⟨45, [(.d (I (11))), (.d (S [113])), (.d (S [])), (.d (S [])), (.d (S [])), (.d (I (3))), (.d (I (0)))], false⟩, ⟨45, [(.d (I (11))), (.d (S [113])), (.d (S [])), (.d (S [])), (.d (S [])), (.d (I (3))), (.d (I (0)))], false⟩, ⟨40, [(.d (I (0))), (.d (I (0))), (.d (.v (.slice none 0 0)))], false⟩, ⟨45, [(.d (I (11))), (.d (S [113])), (.d (S [])), (.d (S [])), (.d (S [])), (.d (I (3))), (.d (I (0)))], false⟩, ⟨40, [(.d (I (0))), (.d (I (0))), (.d (.v (.slice none 0 0)))], false⟩, ⟨261, [(.d (S [113])), (.d (I (3))), (.d (S []))], false⟩, ⟨146, [(.d (S [113, 0, 1, 113, 0, 1])), (.d (S [1, 3, 0])), (.d (TF false))], false⟩, ⟨146, [(.d (S [])), (.d (S [])), (.d (TF false))], false⟩, ⟨146, [(.d (S [113, 0, 1, 113, 0, 1])), (.d (S [1, 3, 0])), (.d (TF false))], false⟩, ⟨235, [(.own none 4 [(.agg [(S [113, 0, 1, 113, 0, 1]), (S [113, 0, 1, 113, 0, 1]), (S [1, 3, 0]), (TF false)])])], false⟩, ⟨40, [(.d (I (0))), (.d (I (0))), (.d (.v (.slice none 0 0)))], false⟩, ⟨28, [(.d (I (6))), (.d (I (0))), (.d (I (0))), (.d (S [])), (.d (.v (.slice none 0 0)))], false⟩, ⟨40, [(.d (I (0))), (.d (I (0))), (.d (.v (.slice none 0 0)))], false⟩, ⟨45, [(.d (I (2))), (.d (S [])), (.d (S [])), (.d (S [])), (.d (S [])), (.d (I (0))), (.d (I (0)))], false⟩, ⟨28, [(.d (I (1))), (.d (I (0))), (.d (I (0))), (.d (S [1, 2, 0, 0, 0, 0, 0, 0])), (.d (.v (.slice none 0 0)))], false⟩, ⟨45, [(.d (I (2))), (.d (S [])), (.d (S [])), (.d (S [])), (.d (S [])), (.d (I (0))), (.d (I (0)))], false⟩, ⟨28, [(.d (I (1))), (.d (I (0))), (.d (I (0))), (.d (S [1, 2, 0, 0, 0, 0, 0, 0])), (.d (.v (.slice none 0 0)))], false⟩, ⟨40, [(.d (I (8))), (.d (I (0))), (.d (.v (.slice none 0 0)))], false⟩, ⟨40, [(.d (I (8))), (.d (I (0))), (.d (.v (.slice none 0 0)))], false⟩, ⟨45, [(.d (I (2))), (.d (S [])), (.d (S [])), (.d (S [])), (.d (S [])), (.d (I (0))), (.d (I (0)))], false⟩, ⟨97, [(.own (some 6) 3 [(.agg [(S [113, 0, 1, 113, 0, 1]), (S [1, 3, 0]), (TF false)])])], false⟩, ⟨231, [(.ptr 14 5)], false⟩, ⟨9, [(.d (S []))], false⟩, ⟨237, [(.d (S [113, 0, 1, 113, 0, 1])), (.d (S [113, 0, 1, 113, 0, 1])), (.d (S [1, 3, 0])), (.d (TF false))], false⟩, ⟨146, [(.d (S [113, 0, 1, 113, 0, 1])), (.d (S [1, 3, 0])), (.d (TF false))], false⟩, ⟨129, [(.d (I (1))), (.d (I (0))), (.own (some 6) 3 [(.agg [(S [113, 0, 1, 113, 0, 1]), (S [1, 3, 0]), (TF false)])])], false⟩, ⟨129, [(.d (I (1))), (.d (I (0))), (.own (some 6) 3 [(.agg [(S [113, 0, 1, 113, 0, 1]), (S [1, 3, 0]), (TF false)])])], false⟩, ⟨129, [(.d (I (1))), (.d (I (0))), (.own (some 6) 3 [(.agg [(S [113, 0, 1, 113, 0, 1]), (S [1, 3, 0]), (TF false)])])], false⟩, ⟨146, [(.d (S [113, 0, 1, 113, 0, 1])), (.d (S [1, 3, 0])), (.d (TF false))], false⟩, ⟨45, [(.d (I (1))), (.d (S [])), (.d (S [])), (.d (S [])), (.d (S [])), (.d (I (0))), (.d (I (0)))], false⟩, ⟨28, [(.d (I (1))), (.d (I (0))), (.d (I (0))), (.d (S [1, 1, 0, 0, 0, 0, 0, 0])), (.d (.v (.slice none 0 0)))], false⟩, ⟨45, [(.d (I (1))), (.d (S [])), (.d (S [])), (.d (S [])), (.d (S [])), (.d (I (0))), (.d (I (0)))], false⟩],
  [8, 11, 6, 6, 3, 8, 1, 19, 8],
  [(.map []), (.map []), (.map []), (.obj (.deferred none)), (.rnd #[12, 13] (rA 46) (rB 46) .exhausted none [(.ptr 14 0), .un, (.d (.v (.slice none 0 0))), (.ptr 41 0), .un, .un, (.ptr 14 0), (.d (TF true)), (.ptr 14 0), (.ptr 14 0), (.ptr 14 5), (.fn (.func 133) [] [(.ptr 42 0), (.ptr 43 0)]), .un, .un, .un, .un, .un, .un, .un]), (.iter (some 1) 0 none)], x0⟩
noncomputable def T8 : List AV := [(.d (TF false)), (.ptr 1 0), (.d (I (0))), (.d (I (0))), (.d (I (8))), (.d (I (8))), (.d (I (0))), .un, (.ptr 1 0), (.ptr 1 0), (.d (.agg [(I (1)), (S []), (S []), (S []), (S []), (I (0)), (I (0))])), (.agg [(.d (I (1))), (.d (I (0))), (.d (I (0))), (.d (S [1, 1, 0, 0, 0, 0, 0, 0])), (.d (.v (.slice none 0 0)))]), (.agg [(.d (I (0))), (.d (I (0))), (.d (.v (.slice none 0 0)))]), (.d (I (0))), (.ptr 1 0), (.d (.agg [(I (11)), (S [113]), (S []), (S []), (S []), (I (3)), (I (0))])), (.agg [(.d (I (1))), (.d (I (0))), (.d (I (0))), (.d (S [1, 11, 1, 1, 113, 0, 0, 0, 1, 3, 0])), (.d (.v (.slice none 0 0)))]), (.agg [(.d (I (0))), (.d (I (0))), (.d (.v (.slice none 0 0)))]), (.d (I (0))), (.ptr 1 0), (.d (.agg [(I (6)), (I (0)), (I (0)), (S []), (.v (.slice none 0 0))])), (.agg [(.d (I (0))), (.d (I (0))), (.d (.v (.slice none 0 0)))]), (.ptr 1 0), (.d (.agg [(I (2)), (S []), (S []), (S []), (S []), (I (0)), (I (0))])), (.agg [(.d (I (1))), (.d (I (0))), (.d (I (0))), (.d (S [1, 2, 0, 0, 0, 0, 0, 0])), (.d (.v (.slice none 0 0)))]), (.agg [(.d (I (8))), (.d (I (0))), (.d (.v (.slice none 0 0)))]), (.d (I (8))), (.ptr 1 0), (.d (.agg [(I (1)), (S []), (S []), (S []), (S []), (I (0)), (I (0))])), (.agg [(.d (I (1))), (.d (I (0))), (.d (I (0))), (.d (S [1, 1, 0, 0, 0, 0, 0, 0])), (.d (.v (.slice none 0 0)))]), (.agg [(.d (I (8))), (.d (I (0))), (.d (.v (.slice none 0 0)))]), (.d (I (8))), (.ptr 1 0), (.d (.agg [(I (7)), (I (0)), (I (0)), (S []), (.v (.slice none 0 0))])), (.agg [(.d (I (0))), (.d (I (0))), (.d (.v (.slice none 0 0)))]), (.d (I (0))), .un, .un, .un, .un, .un, .un, .un, .un, .un, .un, .un, .un, .un, .un, .un, .un, .un, .un, .un, .un, .un, .un, .un, .un, .un, .un, .un, .un, .un, .un, .un, .un]
noncomputable def H8 : HS := ⟨[⟨82, [(.d (I (10000))), (.map 0), (.d (TF true)), (.d (I (0)))], false⟩, ⟨58, [(.ptr 55 0), (.ptr 62 0), (.d (I (0)))], false⟩, ⟨108, [(.ptr 0 0), (.ptr 3 0), (.d (I (0)))], false⟩, ⟨197, [(.d (.v (.slice none 0 0))), (.d (I (0))), (.d (I (0))), (.d (.v (.slice none 0 0)))], false⟩, ⟨210, [(.map 1)], false⟩, ⟨213, [(.map 2), (.d (I (0)))], false⟩, ⟨73, [(.ptr 2 0), (.d (I (0))), (.ptr 4 0), (.ptr 5 0), (.d (.v (.pointer none))), (.d (.v (.pointer none))), (.d (.v (.pointer none))), (.d (.v (.pointer none))), (.d (.v (.pointer none))), (.d (.v (.pointer none))), (.d (.v (.pointer none))), (.d (.v (.pointer none))), (.d (.v (.pointer none))), (.d (.v (.pointer none))), (.d (.v (.pointer none))), (.d (.v (.pointer none))), (.d (.v (.pointer none))), (.d (.v (.pointer none))), (.d (.v (.pointer none))), (.d (.v (.pointer none))), (.d (I (1)))], false⟩, ⟨45, [(.d (I (1))), (.d (S [])), (.d (S [])), (.d (S [])), (.d (S [])), (.d (I (0))), (.d (I (0)))], false⟩, ⟨28, [(.d (I (1))), (.d (I (0))), (.d (I (0))), (.d (S [1, 1, 0, 0, 0, 0, 0, 0])), (.d (.v (.slice none 0 0)))], false⟩, ⟨45, [(.d (I (1))), (.d (S [])), (.d (S [])), (.d (S [])), (.d (S [])), (.d (I (0))), (.d (I (0)))], false⟩, ⟨28, [(.d (I (1))), (.d (I (0))), (.d (I (0))), (.d (S [1, 1, 0, 0, 0, 0, 0, 0])), (.d (.v (.slice none 0 0)))], false⟩, ⟨40, [(.d (I (0))), (.d (I (0))), (.d (.v (.slice none 0 0)))], false⟩, ⟨40, [(.d (I (0))), (.d (I (0))), (.d (.v (.slice none 0 0)))], false⟩, ⟨45, [(.d (I (1))), (.d (S [])), (.d (S [])), (.d (S [])), (.d (S [])), (.d (I (0))), (.d (I (0)))], false⟩, ⟨137, [(.ptr 3 0), (.d (I (0))), (.d (I (0))), (.d (I (1))), (.d (I (0))), (.arr 30 1 1), (.d (I (1)))], false⟩, ⟨45, [(.d (I (11))), (.d (S [113])), (.d (S [])), (.d (S [])), (.d (S [])), (.d (I (3))), (.d (I (0)))], false⟩, ⟨28, [(.d (I (1))), (.d (I (0))), (.d (I (0))), (.d (S [1, 11, 1, 1, 113, 0, 0, 0, 1, 3, 0])), (.d (.v (.slice none 0 0)))], false⟩, ⟨45, [(.d (I (11))), (.d (S [113])), (.d (S [])), (.d (S [])), (.d (S [])), (.d (I (3))), (.d (I (0)))], false⟩, ⟨28, [(.d (I (1))), (.d (I (0))), (.d (I (0))), (.d (S [1, 11, 1, 1, 113, 0, 0, 0, 1, 3, 0])), (.d (.v (.slice none 0 0)))], false⟩, ⟨40, [(.d (I (0))), (.d (I (0))), (.d (.v (.slice none 0 0)))], false⟩, ⟨40, [(.d (I (0))), (.d (I (0))), (.d (.v (.slice none 0 0)))], false⟩, ⟨45, [(.d (I (11))), (.d (S [113])), (.d (S [])), (.d (S [])), (.d (S [])), (.d (I (3))), (.d (I (0)))], false⟩, ⟨45, [(.d (I (11))), (.d (S [113])), (.d (S [])), (.d (S [])), (.d (S [])), (.d (I (3))), (.d (I (0)))], false⟩, ⟨40, [(.d (I (0))), (.d (I (0))), (.d (.v (.slice none 0 0)))], false⟩, ⟨45, [(.d (I (11))), (.d (S [113])), (.d (S [])), (.d (S [])), (.d (S [])), (.d (I (3))), (.d (I (0)))], false⟩, ⟨40, [(.d (I (0))), (.d (I (0))), (.d (.v (.slice none 0 0)))], false⟩, ⟨261, [(.d (S [113])), (.d (I (3))), (.d (S []))], false⟩, ⟨146, [(.d (S [113, 0, 1, 113, 0, 1])), (.d (S [1, 3, 0])), (.d (TF false))], false⟩, ⟨146, [(.d (S [])), (.d (S [])), (.d (TF false))], false⟩, ⟨146, [(.d (S [113, 0, 1, 113, 0, 1])), (.d (S [1, 3, 0])), (.d (TF false))], false⟩, ⟨235, [(.own none 4 [(.agg [(S [113, 0, 1, 113, 0, 1]), (S [113, 0, 1, 113, 0, 1]), (S [1, 3, 0]), (TF false)])])], false⟩, ⟨40, [(.d (I (0))), (.d (I (0))), (.d (.v (.slice none 0 0)))], false⟩, ⟨28, [(.d (I (6))), (.d (I (0))), (.d (I (0))), (.d (S [])), (.d (.v (.slice none 0 0)))], false⟩, ⟨40, [(.d (I (0))), (.d (I (0))), (.d (.v (.slice none 0 0)))], false⟩, ⟨45, [(.d (I (2))), (.d (S [])), (.d (S [])), (.d (S [])), (.d (S [])), (.d (I (0))), (.d (I (0)))], false⟩, ⟨28, [(.d (I (1))), (.d (I (0))), (.d (I (0))), (.d (S [1, 2, 0, 0, 0, 0, 0, 0])), (.d (.v (.slice none 0 0)))], false⟩, ⟨45, [(.d (I (2))), (.d (S [])), (.d (S [])), (.d (S [])), (.d (S [])), (.d (I (0))), (.d (I (0)))], false⟩, ⟨28, [(.d (I (1))), (.d (I (0))), (.d (I (0))), (.d (S [1, 2, 0, 0, 0, 0, 0, 0])), (.d (.v (.slice none 0 0)))], false⟩, ⟨40, [(.d (I (8))), (.d (I (0))), (.d (.v (.slice none 0 0)))], false⟩, ⟨40, [(.d (I (8))), (.d (I (0))), (.d (.v (.slice none 0 0)))], false⟩, ⟨45, [(.d (I (2))), (.d (S [])), (.d (S [])), (.d (S [])), (.d (S [])), (.d (I (0))), (.d (I (0)))], false⟩, ⟨97, [(.own (some 6) 3 [(.agg [(S [113, 0, 1, 113, 0, 1]), (S [1, 3, 0]), (TF false)])])], false⟩, ⟨231, [(.ptr 14 5)], false⟩, ⟨9, [(.d (S []))], false⟩, ⟨237, [(.d (S [113, 0, 1, 113, 0, 1])), (.d (S [113, 0, 1, 113, 0, 1])), (.d (S [1, 3, 0])), (.d (TF false))], false⟩, ⟨146, [(.d (S [113, 0, 1, 113, 0, 1])), (.d (S [1, 3, 0])), (.d (TF false))], false⟩, ⟨129, [(.d (I (1))), (.d (I (0))), (.own (some 6) 3 [(.agg [(S [113, 0, 1, 113, 0, 1]), (S [1, 3, 0]), (TF false)])])], false⟩, ⟨129, [(.d (I (1))), (.d (I (0))), (.own (some 6) 3 [(.agg [(S [113, 0, 1, 113, 0, 1]), (S [1, 3, 0]), (TF false)])])], false⟩, ⟨129, [(.d (I (1))), (.d (I (0))), (.own (some 6) 3 [(.agg [(S [113, 0, 1, 113, 0, 1]), (S [1, 3, 0]), (TF false)])])], false⟩, ⟨146, [(.d (S [113, 0, 1, 113, 0, 1])), (.d (S [1, 3, 0])), (.d (TF false))], false⟩, ⟨45, [(.d (I (1))), (.d (S [])), (.d (S [])), (.d (S [])), (.d (S [])), (.d (I (0))), (.d (I (0)))], false⟩, ⟨28, [(.d (I (1))), (.d (I (0))), (.d (I (0))), (.d (S [1, 1, 0, 0, 0, 0, 0, 0])), (.d (.v (.slice none 0 0)))], false⟩, ⟨45, [(.d (I (1))), (.d (S [])), (.d (S [])), (.d (S [])), (.d (S [])), (.d (I (0))), (.d (I (0)))], false⟩, ⟨28, [(.d (I (7))), (.d (I (0))), (.d (I (0))), (.d (S [])), (.d (.v (.slice none 0 0)))], false⟩, ⟨40, [(.d (I (0))), (.d (I (0))), (.d (.v (.slice none 0 0)))], false⟩, ⟨82, [(.d (I (10000))), (.map 6), (.d (TF false)), (.d (I (-1)))], false⟩, ⟨80, [(.map 0)], false⟩, ⟨38, [(.d (.v (.slice none 0 0)))], false⟩, ⟨108, [(.ptr 55 0), (.ptr 59 0), (.d (I (0)))], false⟩, ⟨197, [(.d (.v (.slice none 0 0))), (.d (I (0))), (.d (I (0))), (.d (.v (.slice none 0 0)))], false⟩, ⟨210, [(.map 10)], false⟩, ⟨213, [(.map 11), (.d (I (0)))], false⟩, ⟨73, [(.ptr 58 0), (.d (I (0))), (.ptr 60 0), (.ptr 61 0), (.d (.v (.pointer none))), (.d (.v (.pointer none))), (.d (.v (.pointer none))), (.d (.v (.pointer none))), (.d (.v (.pointer none))), (.d (.v (.pointer none))), (.d (.v (.pointer none))), (.d (.v (.pointer none))), (.d (.v (.pointer none))), (.d (.v (.pointer none))), (.d (.v (.pointer none))), (.d (.v (.pointer none))), (.d (.v (.pointer none))), (.d (.v (.pointer none))), (.d (.v (.pointer none))), (.d (.v (.pointer none))), (.d (I (0)))], false⟩],
  [8, 11, 6, 6, 3, 8, 1, 19, 8],
  [(.map []), (.map []), (.map []), (.obj (.deferred none)), (.rnd #[12, 13] (rA 46) (rB 46) .exhausted none [(.ptr 14 0), .un, (.d (.v (.slice none 0 0))), (.ptr 41 0), .un, .un, (.ptr 14 0), (.d (TF true)), (.ptr 14 0), (.ptr 14 0), (.ptr 14 5), (.fn (.func 133) [] [(.ptr 42 0), (.ptr 43 0)]), .un, .un, .un, .un, .un, .un, .un]), (.iter (some 1) 0 none), (.map []), (.obj (.deferred none)), (.rnd #[7] (rA 119) (rB 119) .exhausted none [(.d (.v (.slice none 0 0))), (.fn (.func 67) [] [(.ptr 56 0)]), (.ptr 57 0), .un, (.d (.v (.slice none 0 0))), .un, (.fn (.func 67) [] [(.ptr 56 0)]), .un, .un, .un, .un, .un, .un]), (.iter (some 0) 0 none), (.map []), (.map [])], x0⟩
noncomputable def T9 : List AV := [(.d (TF false)), (.ptr 1 0), (.d (I (0))), (.d (I (0))), (.d (I (8))), (.d (I (8))), (.d (I (0))), (.ptr 71 0), (.ptr 1 0), (.ptr 1 0), (.d (.agg [(I (1)), (S []), (S []), (S []), (S []), (I (0)), (I (0))])), (.agg [(.d (I (1))), (.d (I (0))), (.d (I (0))), (.d (S [1, 1, 0, 0, 0, 0, 0, 0])), (.d (.v (.slice none 0 0)))]), (.agg [(.d (I (0))), (.d (I (0))), (.d (.v (.slice none 0 0)))]), (.d (I (0))), (.ptr 1 0), (.d (.agg [(I (11)), (S [113]), (S []), (S []), (S []), (I (3)), (I (0))])), (.agg [(.d (I (1))), (.d (I (0))), (.d (I (0))), (.d (S [1, 11, 1, 1, 113, 0, 0, 0, 1, 3, 0])), (.d (.v (.slice none 0 0)))]), (.agg [(.d (I (0))), (.d (I (0))), (.d (.v (.slice none 0 0)))]), (.d (I (0))), (.ptr 1 0), (.d (.agg [(I (6)), (I (0)), (I (0)), (S []), (.v (.slice none 0 0))])), (.agg [(.d (I (0))), (.d (I (0))), (.d (.v (.slice none 0 0)))]), (.ptr 1 0), (.d (.agg [(I (2)), (S []), (S []), (S []), (S []), (I (0)), (I (0))])), (.agg [(.d (I (1))), (.d (I (0))), (.d (I (0))), (.d (S [1, 2, 0, 0, 0, 0, 0, 0])), (.d (.v (.slice none 0 0)))]), (.agg [(.d (I (8))), (.d (I (0))), (.d (.v (.slice none 0 0)))]), (.d (I (8))), (.ptr 1 0), (.d (.agg [(I (1)), (S []), (S []), (S []), (S []), (I (0)), (I (0))])), (.agg [(.d (I (1))), (.d (I (0))), (.d (I (0))), (.d (S [1, 1, 0, 0, 0, 0, 0, 0])), (.d (.v (.slice none 0 0)))]), (.agg [(.d (I (8))), (.d (I (0))), (.d (.v (.slice none 0 0)))]), (.d (I (8))), (.ptr 1 0), (.d (.agg [(I (7)), (I (0)), (I (0)), (S []), (.v (.slice none 0 0))])), (.agg [(.d (I (0))), (.d (I (0))), (.d (.v (.slice none 0 0)))]), (.d (I (0))), (.ptr 1 0), (.d (.agg [(I (1)), (S []), (S []), (S []), (S []), (I (0)), (I (0))])), (.agg [(.d (I (1))), (.d (I (0))), (.d (I (0))), (.d (S [1, 1, 0, 0, 0, 0, 0, 0])), (.d (.v (.slice none 0 0)))]), (.agg [(.d (I (0))), (.d (I (0))), (.d (.v (.slice none 0 0)))]), .un, .un, .un, .un, .un, .un, .un, .un, .un, .un, .un, .un, .un, .un, .un, .un, .un, .un, .un, .un, .un, .un, .un, .un, .un, .un, .un, .un]
noncomputable def H9 : HS := ⟨[⟨82, [(.d (I (10000))), (.map 0), (.d (TF true)), (.d (I (0)))], false⟩, ⟨58, [(.ptr 55 0), (.ptr 62 0), (.d (I (0)))], false⟩, ⟨108, [(.ptr 0 0), (.ptr 3 0), (.d (I (0)))], false⟩, ⟨197, [(.d (.v (.slice none 0 0))), (.d (I (0))), (.d (I (0))), (.d (.v (.slice none 0 0)))], false⟩, ⟨210, [(.map 1)], false⟩, ⟨213, [(.map 2), (.d (I (0)))], false⟩, ⟨73, [(.ptr 2 0), (.d (I (0))), (.ptr 4 0), (.ptr 5 0), (.d (.v (.pointer none))), (.d (.v (.pointer none))), (.d (.v (.pointer none))), (.d (.v (.pointer none))), (.d (.v (.pointer none))), (.d (.v (.pointer none))), (.d (.v (.pointer none))), (.d (.v (.pointer none))), (.d (.v (.pointer none))), (.d (.v (.pointer none))), (.d (.v (.pointer none))), (.d (.v (.pointer none))), (.d (.v (.pointer none))), (.d (.v (.pointer none))), (.d (.v (.pointer none))), (.d (.v (.pointer none))), (.d (I (1)))], false⟩, ⟨45, [(.d (I (1))), (.d (S [])), (.d (S [])), (.d (S [])), (.d (S [])), (.d (I (0))), (.d (I (0)))], false⟩, ⟨28, [(.d (I (1))), (.d (I (0))), (.d (I (0))), (.d (S [1, 1, 0, 0, 0, 0, 0, 0])), (.d (.v (.slice none 0 0)))], false⟩, ⟨45, [(.d (I (1))), (.d (S [])), (.d (S [])), (.d (S [])), (.d (S [])), (.d (I (0))), (.d (I (0)))], false⟩, ⟨28, [(.d (I (1))), (.d (I (0))), (.d (I (0))), (.d (S [1, 1, 0, 0, 0, 0, 0, 0])), (.d (.v (.slice none 0 0)))], false⟩, ⟨40, [(.d (I (0))), (.d (I (0))), (.d (.v (.slice none 0 0)))], false⟩, ⟨40, [(.d (I (0))), (.d (I (0))), (.d (.v (.slice none 0 0)))], false⟩, ⟨45, [(.d (I (1))), (.d (S [])), (.d (S [])), (.d (S [])), (.d (S [])), (.d (I (0))), (.d (I (0)))], false⟩, ⟨137, [(.ptr 3 0), (.d (I (0))), (.d (I (0))), (.d (I (1))), (.d (I (0))), (.arr 30 1 1), (.d (I (1)))], false⟩, ⟨45, [(.d (I (11))), (.d (S [113])), (.d (S [])), (.d (S [])), (.d (S [])), (.d (I (3))), (.d (I (0)))], false⟩, ⟨28, [(.d (I (1))), (.d (I (0))), (.d (I (0))), (.d (S [1, 11, 1, 1, 113, 0, 0, 0, 1, 3, 0])), (.d (.v (.slice none 0 0)))], false⟩, ⟨45, [(.d (I (11))), (.d (S [113])), (.d (S [])), (.d (S [])), (.d (S [])), (.d (I (3))), (.d (I (0)))], false⟩, ⟨28, [(.d (I (1))), (.d (I (0))), (.d (I (0))), (.d (S [1, 11, 1, 1, 113, 0, 0, 0, 1, 3, 0])), (.d (.v (.slice none 0 0)))], false⟩, ⟨40, [(.d (I (0))), (.d (I (0))), (.d (.v (.slice none 0 0)))], false⟩, ⟨40, [(.d (I (0))), (.d (I (0))), (.d (.v (.slice none 0 0)))], false⟩, ⟨45, [(.d (I (11))), (.d (S [113])), (.d (S [])), (.d (S [])), (.d (S [])), (.d (I (3))), (.d (I (0)))], false⟩, ⟨45, [(.d (I (11))), (.d (S [113])), (.d (S [])), (.d (S [])), (.d (S [])), (.d (I (3))), (.d (I (0)))], false⟩, ⟨40, [(.d (I (0))), (.d (I (0))), (.d (.v (.slice none 0 0)))], false⟩, ⟨45, [(.d (I (11))), (.d (S [113])), (.d (S [])), (.d (S [])), (.d (S [])), (.d (I (3))), (.d (I (0)))], false⟩, ⟨40, [(.d (I (0))), (.d (I (0))), (.d (.v (.slice none 0 0)))], false⟩, ⟨261, [(.d (S [113])), (.d (I (3))), (.d (S []))], false⟩, ⟨146, [(.d (S [113, 0, 1, 113, 0, 1])), (.d (S [1, 3, 0])), (.d (TF false))], false⟩, ⟨146, [(.d (S [])), (.d (S [])), (.d (TF false))], false⟩, ⟨146, [(.d (S [113, 0, 1, 113, 0, 1])), (.d (S [1, 3, 0])), (.d (TF false))], false⟩, ⟨235, [(.own none 4 [(.agg [(S [113, 0, 1, 113, 0, 1]), (S [113, 0, 1, 113, 0, 1]), (S [1, 3, 0]), (TF false)])])], false⟩, ⟨40, [(.d (I (0))), (.d (I (0))), (.d (.v (.slice none 0 0)))], false⟩, ⟨28, [(.d (I (6))), (.d (I (0))), (.d (I (0))), (.d (S [])), (.d (.v (.slice none 0 0)))], false⟩, ⟨40, [(.d (I (0))), (.d (I (0))), (.d (.v (.slice none 0 0)))], false⟩, ⟨45, [(.d (I (2))), (.d (S [])), (.d (S [])), (.d (S [])), (.d (S [])), (.d (I (0))), (.d (I (0)))], false⟩, ⟨28, [(.d (I (1))), (.d (I (0))), (.d (I (0))), (.d (S [1, 2, 0, 0, 0, 0, 0, 0])), (.d (.v (.slice none 0 0)))], false⟩, ⟨45, [(.d (I (2))), (.d (S [])), (.d (S [])), (.d (S [])), (.d (S [])), (.d (I (0))), (.d (I (0)))], false⟩, ⟨28, [(.d (I (1))), (.d (I (0))), (.d (I (0))), (.d (S [1, 2, 0, 0, 0, 0, 0, 0])), (.d (.v (.slice none 0 0)))], false⟩, ⟨40, [(.d (I (8))), (.d (I (0))), (.d (.v (.slice none 0 0)))], false⟩, ⟨40, [(.d (I (8))), (.d (I (0))), (.d (.v (.slice none 0 0)))], false⟩, ⟨45, [(.d (I (2))), (.d (S [])), (.d (S [])), (.d (S [])), (.d (S [])), (.d (I (0))), (.d (I (0)))], false⟩, ⟨97, [(.own (some 6) 3 [(.agg [(S [113, 0, 1, 113, 0, 1]), (S [1, 3, 0]), (TF false)])])], false⟩, ⟨231, [(.ptr 14 5)], false⟩, ⟨9, [(.d (S []))], false⟩, ⟨237, [(.d (S [113, 0, 1, 113, 0, 1])), (.d (S [113, 0, 1, 113, 0, 1])), (.d (S [1, 3, 0])), (.d (TF false))], false⟩, ⟨146, [(.d (S [113, 0, 1, 113, 0, 1])), (.d (S [1, 3, 0])), (.d (TF false))], false⟩, ⟨129, [(.d (I (1))), (.d (I (0))), (.own (some 6) 3 [(.agg [(S [113, 0, 1, 113, 0, 1]), (S [1, 3, 0]), (TF false)])])], false⟩, ⟨129, [(.d (I (1))), (.d (I (0))), (.own (some 6) 3 [(.agg [(S [113, 0, 1, 113, 0, 1]), (S [1, 3, 0]), (TF false)])])], false⟩, ⟨129, [(.d (I (1))), (.d (I (0))), (.own (some 6) 3 [(.agg [(S [113, 0, 1, 113, 0, 1]), (S [1, 3, 0]), (TF false)])])], false⟩, ⟨146, [(.d (S [113, 0, 1, 113, 0, 1])), (.d (S [1, 3, 0])), (.d (TF false))], false⟩, ⟨45, [(.d (I (1))), (.d (S [])), (.d (S [])), (.d (S [])), (.d (S [])), (.d (I (0))), (.d (I (0)))], false⟩, ⟨28, [(.d (I (1))), (.d (I (0))), (.d (I (0))), (.d (S [1, 1, 0, 0, 0, 0, 0, 0])), (.d (.v (.slice none 0 0)))], false⟩, ⟨45, [(.d (I (1))), (.d (S [])), (.d (S [])), (.d (S [])), (.d (S [])), (.d (I (0))), (.d (I (0)))], false⟩, ⟨28, [(.d (I (7))), (.d (I (0))), (.d (I (0))), (.d (S [])), (.d (.v (.slice none 0 0)))], false⟩, ⟨40, [(.d (I (0))), (.d (I (0))), (.d (.v (.slice none 0 0)))], false⟩, ⟨82, [(.d (I (10000))), (.map 6), (.d (TF false)), (.d (I (-1)))], false⟩, ⟨80, [(.map 0)], false⟩, ⟨38, [(.d (.v (.slice none 0 0)))], false⟩, ⟨108, [(.ptr 55 0), (.ptr 59 0), (.d (I (0)))], false⟩, ⟨197, [(.d (.v (.slice none 0 0))), (.d (I (0))), (.d (I (0))), (.d (.v (.slice none 0 0)))], false⟩, ⟨210, [(.map 10)], false⟩, ⟨213, [(.map 11), (.d (I (0)))], false⟩, ⟨73, [(.ptr 58 0), (.d (I (0))), (.ptr 60 0), (.ptr 61 0), (.ptr 70 0), (.d (.v (.pointer none))), (.d (.v (.pointer none))), (.d (.v (.pointer none))), (.d (.v (.pointer none))), (.d (.v (.pointer none))), (.d (.v (.pointer none))), (.d (.v (.pointer none))), (.d (.v (.pointer none))), (.d (.v (.pointer none))), (.d (.v (.pointer none))), (.d (.v (.pointer none))), (.d (.v (.pointer none))), (.d (.v (.pointer none))), (.d (.v (.pointer none))), (.d (.v (.pointer none))), (.d (I (1)))], false⟩, ⟨45, [(.d (I (1))), (.d (S [])), (.d (S [])), (.d (S [])), (.d (S [])), (.d (I (0))), (.d (I (0)))], false⟩, ⟨28, [(.d (I (1))), (.d (I (0))), (.d (I (0))), (.d (S [1, 1, 0, 0, 0, 0, 0, 0])), (.d (.v (.slice none 0 0)))], false⟩, ⟨45, [(.d (I (1))), (.d (S [])), (.d (S [])), (.d (S [])), (.d (S [])), (.d (I (0))), (.d (I (0)))], false⟩, ⟨28, [(.d (I (1))), (.d (I (0))), (.d (I (0))), (.d (S [1, 1, 0, 0, 0, 0, 0, 0])), (.d (.v (.slice none 0 0)))], false⟩, ⟨40, [(.d (I (0))), (.d (I (0))), (.d (.v (.slice none 0 0)))], false⟩, ⟨40, [(.d (I (0))), (.d (I (0))), (.d (.v (.slice none 0 0)))], false⟩, ⟨45, [(.d (I (1))), (.d (S [])), (.d (S [])), (.d (S [])), (.d (S [])), (.d (I (0))), (.d (I (0)))], false⟩, ⟨137, [(.ptr 59 0), (.d (I (0))), (.d (I (0))), (.d (I (1))), (.d (I (0))), (.d (.v (.slice none 0 0))), (.d (I (0)))], false⟩, ⟨40, [(.d (I (0))), (.d (I (0))), (.d (.v (.slice none 0 0)))], false⟩],
  [8, 11, 6, 6, 3, 8, 1, 19, 8, 8],
  [(.map []), (.map []), (.map []), (.obj (.deferred none)), (.rnd #[12, 13] (rA 46) (rB 46) .exhausted none [(.ptr 14 0), .un, (.d (.v (.slice none 0 0))), (.ptr 41 0), .un, .un, (.ptr 14 0), (.d (TF true)), (.ptr 14 0), (.ptr 14 0), (.ptr 14 5), (.fn (.func 133) [] [(.ptr 42 0), (.ptr 43 0)]), .un, .un, .un, .un, .un, .un, .un]), (.iter (some 1) 0 none), (.map []), (.obj (.deferred none)), (.rnd #[7] (rA 119) (rB 119) .exhausted none [(.d (.v (.slice none 0 0))), (.fn (.func 67) [] [(.ptr 56 0)]), (.ptr 57 0), .un, (.d (.v (.slice none 0 0))), .un, (.fn (.func 67) [] [(.ptr 56 0)]), .un, .un, .un, .un, .un, .un]), (.iter (some 0) 0 none), (.map []), (.map [])], x0⟩
noncomputable def T10 : List AV := [(.d (TF true)), (.ptr 1 0), (.d (I (0))), (.d (I (0))), (.d (I (8))), (.d (I (8))), (.d (I (0))), (.ptr 71 0), (.ptr 1 0), (.ptr 1 0), (.d (.agg [(I (1)), (S []), (S []), (S []), (S []), (I (0)), (I (0))])), (.agg [(.d (I (1))), (.d (I (0))), (.d (I (0))), (.d (S [1, 1, 0, 0, 0, 0, 0, 0])), (.d (.v (.slice none 0 0)))]), (.agg [(.d (I (0))), (.d (I (0))), (.d (.v (.slice none 0 0)))]), (.d (I (0))), (.ptr 1 0), (.d (.agg [(I (11)), (S [113]), (S []), (S []), (S []), (I (3)), (I (0))])), (.agg [(.d (I (1))), (.d (I (0))), (.d (I (0))), (.d (S [1, 11, 1, 1, 113, 0, 0, 0, 1, 3, 0])), (.d (.v (.slice none 0 0)))]), (.agg [(.d (I (0))), (.d (I (0))), (.d (.v (.slice none 0 0)))]), (.d (I (0))), (.ptr 1 0), (.d (.agg [(I (6)), (I (0)), (I (0)), (S []), (.v (.slice none 0 0))])), (.agg [(.d (I (0))), (.d (I (0))), (.d (.v (.slice none 0 0)))]), (.ptr 1 0), (.d (.agg [(I (2)), (S []), (S []), (S []), (S []), (I (0)), (I (0))])), (.agg [(.d (I (1))), (.d (I (0))), (.d (I (0))), (.d (S [1, 2, 0, 0, 0, 0, 0, 0])), (.d (.v (.slice none 0 0)))]), (.agg [(.d (I (8))), (.d (I (0))), (.d (.v (.slice none 0 0)))]), (.d (I (8))), (.ptr 1 0), (.d (.agg [(I (1)), (S []), (S []), (S []), (S []), (I (0)), (I (0))])), (.agg [(.d (I (1))), (.d (I (0))), (.d (I (0))), (.d (S [1, 1, 0, 0, 0, 0, 0, 0])), (.d (.v (.slice none 0 0)))]), (.agg [(.d (I (8))), (.d (I (0))), (.d (.v (.slice none 0 0)))]), (.d (I (8))), (.ptr 1 0), (.d (.agg [(I (7)), (I (0)), (I (0)), (S []), (.v (.slice none 0 0))])), (.agg [(.d (I (0))), (.d (I (0))), (.d (.v (.slice none 0 0)))]), (.d (I (0))), (.ptr 1 0), (.d (.agg [(I (1)), (S []), (S []), (S []), (S []), (I (0)), (I (0))])), (.agg [(.d (I (1))), (.d (I (0))), (.d (I (0))), (.d (S [1, 1, 0, 0, 0, 0, 0, 0])), (.d (.v (.slice none 0 0)))]), (.agg [(.d (I (0))), (.d (I (0))), (.d (.v (.slice none 0 0)))]), (.d (I (0))), (.d (TF true)), (.d (TF true)), (.d (I (0))), (.d (TF true)), (.d (TF true)), (.d (TF true)), (.d (I (8))), (.d (TF true)), (.d (TF true)), (.d (TF true)), (.d (I (8))), (.d (TF true)), (.d (TF true)), (.d (TF true)), (.d (I (0))), (.d (TF true)), (.d (TF true)), (.d (TF true)), (.ptr 71 0), (.d (I (0))), (.d (TF true)), (.d (TF true)), (.d (TF true)), (.ptr 71 1), (.d (I (0))), (.d (TF true)), (.d (TF true))]
noncomputable def H10 : HS := ⟨[⟨82, [(.d (I (10000))), (.map 0), (.d (TF true)), (.d (I (0)))], false⟩, ⟨58, [(.ptr 55 0), (.ptr 62 0), (.d (I (0)))], false⟩, ⟨108, [(.ptr 0 0), (.ptr 3 0), (.d (I (0)))], false⟩, ⟨197, [(.d (.v (.slice none 0 0))), (.d (I (0))), (.d (I (0))), (.d (.v (.slice none 0 0)))], false⟩, ⟨210, [(.map 1)], false⟩, ⟨213, [(.map 2), (.d (I (0)))], false⟩, ⟨73, [(.ptr 2 0), (.d (I (0))), (.ptr 4 0), (.ptr 5 0), (.d (.v (.pointer none))), (.d (.v (.pointer none))), (.d (.v (.pointer none))), (.d (.v (.pointer none))), (.d (.v (.pointer none))), (.d (.v (.pointer none))), (.d (.v (.pointer none))), (.d (.v (.pointer none))), (.d (.v (.pointer none))), (.d (.v (.pointer none))), (.d (.v (.pointer none))), (.d (.v (.pointer none))), (.d (.v (.pointer none))), (.d (.v (.pointer none))), (.d (.v (.pointer none))), (.d (.v (.pointer none))), (.d (I (1)))], false⟩, ⟨45, [(.d (I (1))), (.d (S [])), (.d (S [])), (.d (S [])), (.d (S [])), (.d (I (0))), (.d (I (0)))], false⟩, ⟨28, [(.d (I (1))), (.d (I (0))), (.d (I (0))), (.d (S [1, 1, 0, 0, 0, 0, 0, 0])), (.d (.v (.slice none 0 0)))], false⟩, ⟨45, [(.d (I (1))), (.d (S [])), (.d (S [])), (.d (S [])), (.d (S [])), (.d (I (0))), (.d (I (0)))], false⟩, ⟨28, [(.d (I (1))), (.d (I (0))), (.d (I (0))), (.d (S [1, 1, 0, 0, 0, 0, 0, 0])), (.d (.v (.slice none 0 0)))], false⟩, ⟨40, [(.d (I (0))), (.d (I (0))), (.d (.v (.slice none 0 0)))], false⟩, ⟨40, [(.d (I (0))), (.d (I (0))), (.d (.v (.slice none 0 0)))], false⟩, ⟨45, [(.d (I (1))), (.d (S [])), (.d (S [])), (.d (S [])), (.d (S [])), (.d (I (0))), (.d (I (0)))], false⟩, ⟨137, [(.ptr 3 0), (.d (I (0))), (.d (I (0))), (.d (I (1))), (.d (I (0))), (.arr 30 1 1), (.d (I (1)))], false⟩, ⟨45, [(.d (I (11))), (.d (S [113])), (.d (S [])), (.d (S [])), (.d (S [])), (.d (I (3))), (.d (I (0)))], false⟩, ⟨28, [(.d (I (1))), (.d (I (0))), (.d (I (0))), (.d (S [1, 11, 1, 1, 113, 0, 0, 0, 1, 3, 0])), (.d (.v (.slice none 0 0)))], false⟩, ⟨45, [(.d (I (11))), (.d (S [113])), (.d (S [])), (.d (S [])), (.d (S [])), (.d (I (3))), (.d (I (0)))], false⟩, ⟨28, [(.d (I (1))), (.d (I (0))), (.d (I (0))), (.d (S [1, 11, 1, 1, 113, 0, 0, 0, 1, 3, 0])), (.d (.v (.slice none 0 0)))], false⟩, ⟨40, [(.d (I (0))), (.d (I (0))), (.d (.v (.slice none 0 0)))], false⟩, ⟨40, [(.d (I (0))), (.d (I (0))), (.d (.v (.slice none 0 0)))], false⟩, ⟨45, [(.d (I (11))), (.d (S [113])), (.d (S [])), (.d (S [])), (.d (S [])), (.d (I (3))), (.d (I (0)))], false⟩, ⟨45, [(.d (I (11))), (.d (S [113])), (.d (S [])), (.d (S [])), (.d (S [])), (.d (I (3))), (.d (I (0)))], false⟩, ⟨40, [(.d (I (0))), (.d (I (0))), (.d (.v (.slice none 0 0)))], false⟩, ⟨45, [(.d (I (11))), (.d (S [113])), (.d (S [])), (.d (S [])), (.d (S [])), (.d (I (3))), (.d (I (0)))], false⟩, ⟨40, [(.d (I (0))), (.d (I (0))), (.d (.v (.slice none 0 0)))], false⟩, ⟨261, [(.d (S [113])), (.d (I (3))), (.d (S []))], false⟩, ⟨146, [(.d (S [113, 0, 1, 113, 0, 1])), (.d (S [1, 3, 0])), (.d (TF false))], false⟩, ⟨146, [(.d (S [])), (.d (S [])), (.d (TF false))], false⟩, ⟨146, [(.d (S [113, 0, 1, 113, 0, 1])), (.d (S [1, 3, 0])), (.d (TF false))], false⟩, ⟨235, [(.own none 4 [(.agg [(S [113, 0, 1, 113, 0, 1]), (S [113, 0, 1, 113, 0, 1]), (S [1, 3, 0]), (TF false)])])], false⟩, ⟨40, [(.d (I (0))), (.d (I (0))), (.d (.v (.slice none 0 0)))], false⟩, ⟨28, [(.d (I (6))), (.d (I (0))), (.d (I (0))), (.d (S [])), (.d (.v (.slice none 0 0)))], false⟩, ⟨40, [(.d (I (0))), (.d (I (0))), (.d (.v (.slice none 0 0)))], false⟩, ⟨45, [(.d (I (2))), (.d (S [])), (.d (S [])), (.d (S [])), (.d (S [])), (.d (I (0))), (.d (I (0)))], false⟩, ⟨28, [(.d (I (1))), (.d (I (0))), (.d (I (0))), (.d (S [1, 2, 0, 0, 0, 0, 0, 0])), (.d (.v (.slice none 0 0)))], false⟩, ⟨45, [(.d (I (2))), (.d (S [])), (.d (S [])), (.d (S [])), (.d (S [])), (.d (I (0))), (.d (I (0)))], false⟩, ⟨28, [(.d (I (1))), (.d (I (0))), (.d (I (0))), (.d (S [1, 2, 0, 0, 0, 0, 0, 0])), (.d (.v (.slice none 0 0)))], false⟩, ⟨40, [(.d (I (8))), (.d (I (0))), (.d (.v (.slice none 0 0)))], false⟩, ⟨40, [(.d (I (8))), (.d (I (0))), (.d (.v (.slice none 0 0)))], false⟩, ⟨45, [(.d (I (2))), (.d (S [])), (.d (S [])), (.d (S [])), (.d (S [])), (.d (I (0))), (.d (I (0)))], false⟩, ⟨97, [(.own (some 6) 3 [(.agg [(S [113, 0, 1, 113, 0, 1]), (S [1, 3, 0]), (TF false)])])], false⟩, ⟨231, [(.ptr 14 5)], false⟩, ⟨9, [(.d (S []))], false⟩, ⟨237, [(.d (S [113, 0, 1, 113, 0, 1])), (.d (S [113, 0, 1, 113, 0, 1])), (.d (S [1, 3, 0])), (.d (TF false))], false⟩, ⟨146, [(.d (S [113, 0, 1, 113, 0, 1])), (.d (S [1, 3, 0])), (.d (TF false))], false⟩, ⟨129, [(.d (I (1))), (.d (I (0))), (.own (some 6) 3 [(.agg [(S [113, 0, 1, 113, 0, 1]), (S [1, 3, 0]), (TF false)])])], false⟩, ⟨129, [(.d (I (1))), (.d (I (0))), (.own (some 6) 3 [(.agg [(S [113, 0, 1, 113, 0, 1]), (S [1, 3, 0]), (TF false)])])], false⟩, ⟨129, [(.d (I (1))), (.d (I (0))), (.own (some 6) 3 [(.agg [(S [113, 0, 1, 113, 0, 1]), (S [1, 3, 0]), (TF false)])])], false⟩, ⟨146, [(.d (S [113, 0, 1, 113, 0, 1])), (.d (S [1, 3, 0])), (.d (TF false))], false⟩, ⟨45, [(.d (I (1))), (.d (S [])), (.d (S [])), (.d (S [])), (.d (S [])), (.d (I (0))), (.d (I (0)))], false⟩, ⟨28, [(.d (I (1))), (.d (I (0))), (.d (I (0))), (.d (S [1, 1, 0, 0, 0, 0, 0, 0])), (.d (.v (.slice none 0 0)))], false⟩, ⟨45, [(.d (I (1))), (.d (S [])), (.d (S [])), (.d (S [])), (.d (S [])), (.d (I (0))), (.d (I (0)))], false⟩, ⟨28, [(.d (I (7))), (.d (I (0))), (.d (I (0))), (.d (S [])), (.d (.v (.slice none 0 0)))], false⟩, ⟨40, [(.d (I (0))), (.d (I (0))), (.d (.v (.slice none 0 0)))], false⟩, ⟨82, [(.d (I (10000))), (.map 6), (.d (TF false)), (.d (I (-1)))], false⟩, ⟨80, [(.map 0)], false⟩, ⟨38, [(.d (.v (.slice none 0 0)))], false⟩, ⟨108, [(.ptr 55 0), (.ptr 59 0), (.d (I (0)))], false⟩, ⟨197, [(.d (.v (.slice none 0 0))), (.d (I (0))), (.d (I (0))), (.d (.v (.slice none 0 0)))], false⟩, ⟨210, [(.map 10)], false⟩, ⟨213, [(.map 11), (.d (I (0)))], false⟩, ⟨73, [(.ptr 58 0), (.d (I (0))), (.ptr 60 0), (.ptr 61 0), (.ptr 70 0), (.d (.v (.pointer none))), (.d (.v (.pointer none))), (.d (.v (.pointer none))), (.d (.v (.pointer none))), (.d (.v (.pointer none))), (.d (.v (.pointer none))), (.d (.v (.pointer none))), (.d (.v (.pointer none))), (.d (.v (.pointer none))), (.d (.v (.pointer none))), (.d (.v (.pointer none))), (.d (.v (.pointer none))), (.d (.v (.pointer none))), (.d (.v (.pointer none))), (.d (.v (.pointer none))), (.d (I (1)))], false⟩, ⟨45, [(.d (I (1))), (.d (S [])), (.d (S [])), (.d (S [])), (.d (S [])), (.d (I (0))), (.d (I (0)))], false⟩, ⟨28, [(.d (I (1))), (.d (I (0))), (.d (I (0))), (.d (S [1, 1, 0, 0, 0, 0, 0, 0])), (.d (.v (.slice none 0 0)))], false⟩, ⟨45, [(.d (I (1))), (.d (S [])), (.d (S [])), (.d (S [])), (.d (S [])), (.d (I (0))), (.d (I (0)))], false⟩, ⟨28, [(.d (I (1))), (.d (I (0))), (.d (I (0))), (.d (S [1, 1, 0, 0, 0, 0, 0, 0])), (.d (.v (.slice none 0 0)))], false⟩, ⟨40, [(.d (I (0))), (.d (I (0))), (.d (.v (.slice none 0 0)))], false⟩, ⟨40, [(.d (I (0))), (.d (I (0))), (.d (.v (.slice none 0 0)))], false⟩, ⟨45, [(.d (I (1))), (.d (S [])), (.d (S [])), (.d (S [])), (.d (S [])), (.d (I (0))), (.d (I (0)))], false⟩, ⟨137, [(.ptr 59 0), (.d (I (0))), (.d (I (0))), (.d (I (1))), (.d (I (0))), (.d (.v (.slice none 0 0))), (.d (I (0)))], false⟩, ⟨40, [(.d (I (0))), (.d (I (0))), (.d (.v (.slice none 0 0)))], false⟩],
  [8, 11, 6, 6, 3, 8, 1, 19, 8, 8],
  [(.map []), (.map []), (.map []), (.obj (.deferred none)), (.rnd #[12, 13] (rA 46) (rB 46) .exhausted none [(.ptr 14 0), .un, (.d (.v (.slice none 0 0))), (.ptr 41 0), .un, .un, (.ptr 14 0), (.d (TF true)), (.ptr 14 0), (.ptr 14 0), (.ptr 14 5), (.fn (.func 133) [] [(.ptr 42 0), (.ptr 43 0)]), .un, .un, .un, .un, .un, .un, .un]), (.iter (some 1) 0 none), (.map []), (.obj (.deferred none)), (.rnd #[7] (rA 119) (rB 119) .exhausted none [(.d (.v (.slice none 0 0))), (.fn (.func 67) [] [(.ptr 56 0)]), (.ptr 57 0), .un, (.d (.v (.slice none 0 0))), .un, (.fn (.func 67) [] [(.ptr 56 0)]), .un, .un, .un, .un, .un, .un]), (.iter (some 0) 0 none), (.map []), (.map [])], x0⟩
noncomputable def T11 : List AV := [(.d (TF true)), (.ptr 1 0), (.d (I (0))), (.d (I (0))), (.d (I (8))), (.d (I (8))), (.d (I (0))), (.ptr 71 0), (.ptr 1 0), (.ptr 1 0), (.d (.agg [(I (1)), (S []), (S []), (S []), (S []), (I (0)), (I (0))])), (.agg [(.d (I (1))), (.d (I (0))), (.d (I (0))), (.d (S [1, 1, 0, 0, 0, 0, 0, 0])), (.d (.v (.slice none 0 0)))]), (.agg [(.d (I (0))), (.d (I (0))), (.d (.v (.slice none 0 0)))]), (.d (I (0))), (.ptr 1 0), (.d (.agg [(I (11)), (S [113]), (S []), (S []), (S []), (I (3)), (I (0))])), (.agg [(.d (I (1))), (.d (I (0))), (.d (I (0))), (.d (S [1, 11, 1, 1, 113, 0, 0, 0, 1, 3, 0])), (.d (.v (.slice none 0 0)))]), (.agg [(.d (I (0))), (.d (I (0))), (.d (.v (.slice none 0 0)))]), (.d (I (0))), (.ptr 1 0), (.d (.agg [(I (6)), (I (0)), (I (0)), (S []), (.v (.slice none 0 0))])), (.agg [(.d (I (0))), (.d (I (0))), (.d (.v (.slice none 0 0)))]), (.ptr 1 0), (.d (.agg [(I (2)), (S []), (S []), (S []), (S []), (I (0)), (I (0))])), (.agg [(.d (I (1))), (.d (I (0))), (.d (I (0))), (.d (S [1, 2, 0, 0, 0, 0, 0, 0])), (.d (.v (.slice none 0 0)))]), (.agg [(.d (I (8))), (.d (I (0))), (.d (.v (.slice none 0 0)))]), (.d (I (8))), (.ptr 1 0), (.d (.agg [(I (1)), (S []), (S []), (S []), (S []), (I (0)), (I (0))])), (.agg [(.d (I (1))), (.d (I (0))), (.d (I (0))), (.d (S [1, 1, 0, 0, 0, 0, 0, 0])), (.d (.v (.slice none 0 0)))]), (.agg [(.d (I (8))), (.d (I (0))), (.d (.v (.slice none 0 0)))]), (.d (I (8))), (.ptr 1 0), (.d (.agg [(I (7)), (I (0)), (I (0)), (S []), (.v (.slice none 0 0))])), (.agg [(.d (I (0))), (.d (I (0))), (.d (.v (.slice none 0 0)))]), (.d (I (0))), (.ptr 1 0), (.d (.agg [(I (1)), (S []), (S []), (S []), (S []), (I (0)), (I (0))])), (.agg [(.d (I (1))), (.d (I (0))), (.d (I (0))), (.d (S [1, 1, 0, 0, 0, 0, 0, 0])), (.d (.v (.slice none 0 0)))]), (.agg [(.d (I (0))), (.d (I (0))), (.d (.v (.slice none 0 0)))]), (.d (I (0))), (.d (TF true)), (.d (TF true)), (.d (I (0))), (.d (TF true)), (.d (TF true)), (.d (TF true)), (.d (I (8))), (.d (TF true)), (.d (TF true)), (.d (TF true)), (.d (I (8))), (.d (TF true)), (.d (TF true)), (.d (TF true)), (.d (I (0))), (.d (TF true)), (.d (TF true)), (.d (TF true)), (.ptr 71 0), (.d (I (0))), (.d (TF true)), (.d (TF true)), (.d (TF true)), (.ptr 71 1), (.d (I (0))), (.d (TF true)), (.d (TF true))]
noncomputable def H11 : HS := ⟨[⟨82, [(.d (I (10000))), (.map 0), (.d (TF true)), (.d (I (0)))], false⟩, ⟨58, [(.ptr 55 0), (.ptr 62 0), (.d (I (0)))], false⟩, ⟨108, [(.ptr 0 0), (.ptr 3 0), (.d (I (0)))], false⟩, ⟨197, [(.d (.v (.slice none 0 0))), (.d (I (0))), (.d (I (0))), (.d (.v (.slice none 0 0)))], false⟩, ⟨210, [(.map 1)], false⟩, ⟨213, [(.map 2), (.d (I (0)))], false⟩, ⟨73, [(.ptr 2 0), (.d (I (0))), (.ptr 4 0), (.ptr 5 0), (.d (.v (.pointer none))), (.d (.v (.pointer none))), (.d (.v (.pointer none))), (.d (.v (.pointer none))), (.d (.v (.pointer none))), (.d (.v (.pointer none))), (.d (.v (.pointer none))), (.d (.v (.pointer none))), (.d (.v (.pointer none))), (.d (.v (.pointer none))), (.d (.v (.pointer none))), (.d (.v (.pointer none))), (.d (.v (.pointer none))), (.d (.v (.pointer none))), (.d (.v (.pointer none))), (.d (.v (.pointer none))), (.d (I (1)))], false⟩, ⟨45, [(.d (I (1))), (.d (S [])), (.d (S [])), (.d (S [])), (.d (S [])), (.d (I (0))), (.d (I (0)))], false⟩, ⟨28, [(.d (I (1))), (.d (I (0))), (.d (I (0))), (.d (S [1, 1, 0, 0, 0, 0, 0, 0])), (.d (.v (.slice none 0 0)))], false⟩, ⟨45, [(.d (I (1))), (.d (S [])), (.d (S [])), (.d (S [])), (.d (S [])), (.d (I (0))), (.d (I (0)))], false⟩, ⟨28, [(.d (I (1))), (.d (I (0))), (.d (I (0))), (.d (S [1, 1, 0, 0, 0, 0, 0, 0])), (.d (.v (.slice none 0 0)))], false⟩, ⟨40, [(.d (I (0))), (.d (I (0))), (.d (.v (.slice none 0 0)))], false⟩, ⟨40, [(.d (I (0))), (.d (I (0))), (.d (.v (.slice none 0 0)))], false⟩, ⟨45, [(.d (I (1))), (.d (S [])), (.d (S [])), (.d (S [])), (.d (S [])), (.d (I (0))), (.d (I (0)))], false⟩, ⟨137, [(.ptr 3 0), (.d (I (0))), (.d (I (0))), (.d (I (1))), (.d (I (0))), (.arr 30 1 1), (.d (I (1)))], false⟩, ⟨45, [(.d (I (11))), (.d (S [113])), (.d (S [])), (.d (S [])), (.d (S [])), (.d (I (3))), (.d (I (0)))], false⟩, ⟨28, [(.d (I (1))), (.d (I (0))), (.d (I (0))), (.d (S [1, 11, 1, 1, 113, 0, 0, 0, 1, 3, 0])), (.d (.v (.slice none 0 0)))], false⟩, ⟨45, [(.d (I (11))), (.d (S [113])), (.d (S [])), (.d (S [])), (.d (S [])), (.d (I (3))), (.d (I (0)))], false⟩, ⟨28, [(.d (I (1))), (.d (I (0))), (.d (I (0))), (.d (S [1, 11, 1, 1, 113, 0, 0, 0, 1, 3, 0])), (.d (.v (.slice none 0 0)))], false⟩, ⟨40, [(.d (I (0))), (.d (I (0))), (.d (.v (.slice none 0 0)))], false⟩, ⟨40, [(.d (I (0))), (.d (I (0))), (.d (.v (.slice none 0 0)))], false⟩, ⟨45, [(.d (I (11))), (.d (S [113])), (.d (S [])), (.d (S [])), (.d (S [])), (.d (I (3))), (.d (I (0)))], false⟩, ⟨45, [(.d (I (11))), (.d (S [113])), (.d (S [])), (.d (S [])), (.d (S [])), (.d (I (3))), (.d (I (0)))], false⟩, ⟨40, [(.d (I (0))), (.d (I (0))), (.d (.v (.slice none 0 0)))], false⟩, ⟨45, [(.d (I (11))), (.d (S [113])), (.d (S [])), (.d (S [])), (.d (S [])), (.d (I (3))), (.d (I (0)))], false⟩, ⟨40, [(.d (I (0))), (.d (I (0))), (.d (.v (.slice none 0 0)))], false⟩, ⟨261, [(.d (S [113])), (.d (I (3))), (.d (S []))], false⟩, ⟨146, [(.d (S [113, 0, 1, 113, 0, 1])), (.d (S [1, 3, 0])), (.d (TF false))], false⟩, ⟨146, [(.d (S [])), (.d (S [])), (.d (TF false))], false⟩, ⟨146, [(.d (S [113, 0, 1, 113, 0, 1])), (.d (S [1, 3, 0])), (.d (TF false))], false⟩, ⟨235, [(.own none 4 [(.agg [(S [113, 0, 1, 113, 0, 1]), (S [113, 0, 1, 113, 0, 1]), (S [1, 3, 0]), (TF false)])])], false⟩, ⟨40, [(.d (I (0))), (.d (I (0))), (.d (.v (.slice none 0 0)))], false⟩, ⟨28, [(.d (I (6))), (.d (I (0))), (.d (I (0))), (.d (S [])), (.d (.v (.slice none 0 0)))], false⟩, ⟨40, [(.d (I (0))), (.d (I (0))), (.d (.v (.slice none 0 0)))], false⟩, ⟨45, [(.d (I (2))), (.d (S [])), (.d (S [])), (.d (S [])), (.d (S [])), (.d (I (0))), (.d (I (0)))], false⟩, ⟨28, [(.d (I (1))), (.d (I (0))), (.d (I (0))), (.d (S [1, 2, 0, 0, 0, 0, 0, 0])), (.d (.v (.slice none 0 0)))], false⟩, ⟨45, [(.d (I (2))), (.d (S [])), (.d (S [])), (.d (S [])), (.d (S [])), (.d (I (0))), (.d (I (0)))], false⟩, ⟨28, [(.d (I (1))), (.d (I (0))), (.d (I (0))), (.d (S [1, 2, 0, 0, 0, 0, 0, 0])), (.d (.v (.slice none 0 0)))], false⟩, ⟨40, [(.d (I (8))), (.d (I (0))), (.d (.v (.slice none 0 0)))], false⟩, ⟨40, [(.d (I (8))), (.d (I (0))), (.d (.v (.slice none 0 0)))], false⟩, ⟨45, [(.d (I (2))), (.d (S [])), (.d (S [])), (.d (S [])), (.d (S [])), (.d (I (0))), (.d (I (0)))], false⟩, ⟨97, [(.own (some 6) 3 [(.agg [(S [113, 0, 1, 113, 0, 1]), (S [1, 3, 0]), (TF false)])])], false⟩, ⟨231, [(.ptr 14 5)], false⟩, ⟨9, [(.d (S []))], false⟩, ⟨237, [(.d (S [113, 0, 1, 113, 0, 1])), (.d (S [113, 0, 1, 113, 0, 1])), (.d (S [1, 3, 0])), (.d (TF false))], false⟩, ⟨146, [(.d (S [113, 0, 1, 113, 0, 1])), (.d (S [1, 3, 0])), (.d (TF false))], false⟩, ⟨129, [(.d (I (1))), (.d (I (0))), (.own (some 6) 3 [(.agg [(S [113, 0, 1, 113, 0, 1]), (S [1, 3, 0]), (TF false)])])], false⟩, ⟨129, [(.d (I (1))), (.d (I (0))), (.own (some 6) 3 [(.agg [(S [113, 0, 1, 113, 0, 1]), (S [1, 3, 0]), (TF false)])])], false⟩, ⟨129, [(.d (I (1))), (.d (I (0))), (.own (some 6) 3 [(.agg [(S [113, 0, 1, 113, 0, 1]), (S [1, 3, 0]), (TF false)])])], false⟩, ⟨146, [(.d (S [113, 0, 1, 113, 0, 1])), (.d (S [1, 3, 0])), (.d (TF false))], false⟩, ⟨45, [(.d (I (1))), (.d (S [])), (.d (S [])), (.d (S [])), (.d (S [])), (.d (I (0))), (.d (I (0)))], false⟩, ⟨28, [(.d (I (1))), (.d (I (0))), (.d (I (0))), (.d (S [1, 1, 0, 0, 0, 0, 0, 0])), (.d (.v (.slice none 0 0)))], false⟩, ⟨45, [(.d (I (1))), (.d (S [])), (.d (S [])), (.d (S [])), (.d (S [])), (.d (I (0))), (.d (I (0)))], false⟩, ⟨28, [(.d (I (7))), (.d (I (0))), (.d (I (0))), (.d (S [])), (.d (.v (.slice none 0 0)))], false⟩, ⟨40, [(.d (I (0))), (.d (I (0))), (.d (.v (.slice none 0 0)))], false⟩, ⟨82, [(.d (I (10000))), (.map 6), (.d (TF false)), (.d (I (-1)))], false⟩, ⟨80, [(.map 0)], false⟩, ⟨38, [(.d (.v (.slice none 0 0)))], false⟩, ⟨108, [(.ptr 55 0), (.ptr 59 0), (.d (I (0)))], false⟩, ⟨197, [(.d (.v (.slice none 0 0))), (.d (I (0))), (.d (I (0))), (.d (.v (.slice none 0 0)))], false⟩, ⟨210, [(.map 10)], false⟩, ⟨213, [(.map 11), (.d (I (0)))], false⟩, ⟨73, [(.ptr 58 0), (.d (I (0))), (.ptr 60 0), (.ptr 61 0), (.ptr 70 0), (.d (.v (.pointer none))), (.d (.v (.pointer none))), (.d (.v (.pointer none))), (.d (.v (.pointer none))), (.d (.v (.pointer none))), (.d (.v (.pointer none))), (.d (.v (.pointer none))), (.d (.v (.pointer none))), (.d (.v (.pointer none))), (.d (.v (.pointer none))), (.d (.v (.pointer none))), (.d (.v (.pointer none))), (.d (.v (.pointer none))), (.d (.v (.pointer none))), (.d (.v (.pointer none))), (.d (I (1)))], false⟩, ⟨45, [(.d (I (1))), (.d (S [])), (.d (S [])), (.d (S [])), (.d (S [])), (.d (I (0))), (.d (I (0)))], false⟩, ⟨28, [(.d (I (1))), (.d (I (0))), (.d (I (0))), (.d (S [1, 1, 0, 0, 0, 0, 0, 0])), (.d (.v (.slice none 0 0)))], false⟩, ⟨45, [(.d (I (1))), (.d (S [])), (.d (S [])), (.d (S [])), (.d (S [])), (.d (I (0))), (.d (I (0)))], false⟩, ⟨28, [(.d (I (1))), (.d (I (0))), (.d (I (0))), (.d (S [1, 1, 0, 0, 0, 0, 0, 0])), (.d (.v (.slice none 0 0)))], false⟩, ⟨40, [(.d (I (0))), (.d (I (0))), (.d (.v (.slice none 0 0)))], false⟩, ⟨40, [(.d (I (0))), (.d (I (0))), (.d (.v (.slice none 0 0)))], false⟩, ⟨45, [(.d (I (1))), (.d (S [])), (.d (S [])), (.d (S [])), (.d (S [])), (.d (I (0))), (.d (I (0)))], false⟩, ⟨137, [(.ptr 59 0), (.d (I (0))), (.d (I (0))), (.d (I (1))), (.d (I (0))), (.d (.v (.slice none 0 0))), (.d (I (0)))], false⟩, ⟨40, [(.d (I (0))), (.d (I (0))), (.d (.v (.slice none 0 0)))], false⟩],
  [8, 11, 6, 6, 3, 8, 1, 19, 8, 8],
  [(.map []), (.map []), (.map []), (.obj (.deferred none)), (.rnd #[12, 13] (rA 46) (rB 46) .exhausted none [(.ptr 14 0), .un, (.d (.v (.slice none 0 0))), (.ptr 41 0), .un, .un, (.ptr 14 0), (.d (TF true)), (.ptr 14 0), (.ptr 14 0), (.ptr 14 5), (.fn (.func 133) [] [(.ptr 42 0), (.ptr 43 0)]), .un, .un, .un, .un, .un, .un, .un]), (.iter (some 1) 0 none), (.map []), (.obj (.deferred none)), (.rnd #[7] (rA 119) (rB 119) .exhausted none [(.d (.v (.slice none 0 0))), (.fn (.func 67) [] [(.ptr 56 0)]), (.ptr 57 0), .un, (.d (.v (.slice none 0 0))), .un, (.fn (.func 67) [] [(.ptr 56 0)]), .un, .un, .un, .un, .un, .un]), (.iter (some 0) 0 none), (.map []), (.map [])], x0⟩
end Go.Proofs.YtdiibbbbdhkepaaGreatDoor.Hd
