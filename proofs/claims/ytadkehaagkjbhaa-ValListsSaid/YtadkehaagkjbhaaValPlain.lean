/-
  Plain theory of layer 2 (val): values, as bytes, and read again.
-/
import Derived.Test.YtadkehaagkjbhaaSchPlain
namespace Go.AV.Val
open Go.AV.Ord Go.AV.Oct
mutual
inductive V where
  | mk (kind : Int) (yes : Bool) (num : Int) (text : List UInt8) (list : List V) (fields : List F)
inductive F where
  | mk (name : List UInt8) (val : V)
end
def V.kind : V → Int | .mk k _ _ _ _ _ => k
def V.yes : V → Bool | .mk _ y _ _ _ _ => y
def V.num : V → Int | .mk _ _ n _ _ _ => n
def V.text : V → List UInt8 | .mk _ _ _ t _ _ => t
def V.list : V → List V | .mk _ _ _ _ l _ => l
def V.fields : V → List F | .mk _ _ _ _ _ fs => fs
def F.name : F → List UInt8 | .mk n _ => n
def F.val : F → V | .mk _ v => v
mutual
def vC : V → List DV
  | .mk k y n t l fs => [I k, TF y, .v (.int .i64 n), S t, .lst 6 (vsD l), .lst 7 (fsD fs)]
def vsD : List V → List DV
  | [] => []
  | v :: l => .agg (vC v) :: vsD l
def fsD : List F → List DV
  | [] => []
  | f :: l => .agg (fC f) :: fsD l
def fC : F → List DV
  | .mk n v => S n :: vC v
end
def vD (v : V) : DV := .agg (vC v)
def fD (f : F) : DV := .agg (fC f)
theorem vsD_map : ∀ l : List V, vsD l = l.map vD
  | [] => by simp [vsD]
  | v :: l => by rw [vsD, vsD_map l]; rfl
theorem fsD_map : ∀ l : List F, fsD l = l.map fD
  | [] => by simp [fsD]
  | v :: l => by rw [fsD, fsD_map l]; rfl
theorem vC_eq (v : V) : vC v = [I v.kind, TF v.yes, .v (.int .i64 v.num), S v.text, .lst 6 (v.list.map vD), .lst 7 (v.fields.map fD)] := by
  cases v
  rw [vC, vsD_map, fsD_map]; rfl
theorem fC_eq (f : F) : fC f = S f.name :: vC f.val := by
  cases f
  rw [fC]; rfl
def V0 : V := .mk 0 false 0 [] [] []
theorem V.eta (v : V) : v = .mk v.kind v.yes v.num v.text v.list v.fields := by cases v; rfl
theorem F.eta (v : F) : v = .mk v.name v.val := by cases v; rfl
theorem list_lt {v x : V} (h : x ∈ v.list) : SizeOf.sizeOf x < SizeOf.sizeOf v := by
  cases v
  have h1 := List.sizeOf_lt_of_mem h
  simp only [V.list, V.mk.sizeOf_spec] at *
  omega
theorem field_lt {v : V} {f : F} (h : f ∈ v.fields) : SizeOf.sizeOf f.val < SizeOf.sizeOf v := by
  cases v
  have h1 := List.sizeOf_lt_of_mem h
  cases f
  simp only [V.fields, F.val, V.mk.sizeOf_spec, F.mk.sizeOf_spec] at *
  omega

/-- Do the names rise? -/
def rises : List F → Bool
  | [] => true
  | [_] => true
  | a :: b :: l => Op.bytesLess a.name b.name && rises (b :: l)
/-- What a kind has: nothing else. -/
def onlyV (v : V) : Bool := decide (0 ≤ v.kind) && decide (v.kind ≤ 5) && (v.kind == 1 || v.yes == false) && (v.kind == 2 || v.num == 0) && (v.kind == 3 || v.text == []) && (v.kind == 4 || v.list.isEmpty) && (v.kind == 5 || v.fields.isEmpty)
def rightV : Nat → V → Bool
  | 0, _ => false
  | d + 1, v => onlyV v && rises v.fields && v.fields.all (fun f => rightV d f.val) && v.list.all (rightV d)
def zigN (n : Int) : Nat := if 0 ≤ n then 2 * n.toNat else 2 * (-n - 1).toNat + 1
def unzig (x : Nat) : Int := if x % 2 = 0 then x / 2 else -(x / 2) - 1
theorem unzig_zig (n : Int) : unzig (zigN n) = n := by
  unfold unzig zigN
  split <;> split <;> omega
theorem zig_unzig (x : Nat) : zigN (unzig x) = x := by
  unfold unzig zigN
  split <;> split <;> omega
theorem zig_lt {n : Int} (h1 : -9223372036854775808 ≤ n) (h2 : n ≤ 9223372036854775807) : zigN n < 18446744073709551616 := by
  unfold zigN
  split <;> omega
def intB (n : Int) : List UInt8 := numB (zigN n / 4294967296) ++ numB (zigN n % 4294967296)
mutual
def encV : V → List UInt8
  | .mk k y n t l fs => UInt8.ofNat k.toNat :: (if k = 1 then flagB y else if k = 2 then intB n else if k = 3 then textB t else if k = 4 then numB l.length ++ encL l else if k = 5 then numB fs.length ++ encF fs else [])
def encL : List V → List UInt8
  | [] => []
  | v :: l => encV v ++ encL l
def encF : List F → List UInt8
  | [] => []
  | .mk n v :: l => textB n ++ encV v ++ encF l
end
theorem encL_flat : ∀ l : List V, encL l = l.flatMap encV
  | [] => by simp [encL]
  | v :: l => by rw [encL, encL_flat l]; rfl
def fieldB (f : F) : List UInt8 := textB f.name ++ encV f.val
theorem encF_flat : ∀ l : List F, encF l = l.flatMap fieldB
  | [] => by simp [encF]
  | .mk n v :: l => by rw [encF, encF_flat l]; rfl
theorem encV_eq (v : V) : encV v = UInt8.ofNat v.kind.toNat :: (if v.kind = 1 then flagB v.yes else if v.kind = 2 then intB v.num else if v.kind = 3 then textB v.text else if v.kind = 4 then numB v.list.length ++ v.list.flatMap encV else if v.kind = 5 then numB v.fields.length ++ v.fields.flatMap fieldB else []) := by
  cases v
  rw [encV, encL_flat, encF_flat]; rfl

/-- The state of a reader of values: the bytes, and the error. -/
abbrev DS := RS × Int
def broke (st : DS) : Bool := !(st.2 == 0) || st.1.2
def rKind (st : DS) : Int × DS := match st.1.1 with
  | [] => (0, (st.1, 2))
  | c :: r => if 5 < c.toNat then (0, ((r, st.1.2), 2)) else (c.toNat, ((r, st.1.2), st.2))
def rL (f : DS → V × DS) : Nat → DS → List V × DS
  | 0, st => ([], st)
  | n + 1, st => let r := rL f n st; if broke r.2 then r else let x := f r.2; (r.1 ++ [x.1], x.2)
/-- The last name of a list of fields isn't below a name. -/
def notBelow (l : List F) (n : List UInt8) : Bool := match l.getLast? with
  | some f => !Op.bytesLess f.name n
  | none => false
def rF (f : DS → V × DS) : Nat → DS → List F × DS
  | 0, st => ([], st)
  | n + 1, st => let r := rF f n st; if broke r.2 then r else
    let t := rText 4096 r.2.1
    let x := f (t.2, if notBelow r.1 t.1 then 2 else r.2.2)
    (r.1 ++ [.mk t.1 x.1], x.2)
def rInt (st : RS) : Int × RS := let a := rNum 4294967295 st; let b := rNum 4294967295 a.2; (unzig (a.1 * 4294967296 + b.1), b.2)
def rBody (f : DS → V × DS) (k : Int) (st : DS) : V × DS :=
  if k = 1 then let y := rFlag st.1; (.mk 1 y.1 0 [] [] [], (y.2, st.2))
  else if k = 2 then let x := rInt st.1; (.mk 2 false x.1 [] [] [], (x.2, st.2))
  else if k = 3 then let t := rText 4096 st.1; (.mk 3 false 0 t.1 [] [], (t.2, st.2))
  else if k = 4 then let n := rNum 4096 st.1; let l := rL f n.1 (n.2, st.2); (.mk 4 false 0 [] l.1 [], l.2)
  else if k = 5 then let n := rNum 4096 st.1; let l := rF f n.1 (n.2, st.2); (.mk 5 false 0 [] [] l.1, l.2)
  else (.mk k false 0 [] [] [], st)
def rV : Nat → DS → V × DS
  | 0, st => if broke st then (V0, st) else (V0, (st.1, 3))
  | d + 1, st => if broke st then (V0, st) else let k := rKind st; rBody (rV d) k.1 k.2
end Go.AV.Val
