/-
  The AV logic, part 16: what is read of an exact block as data.
-/
import Derived.Test.YtadkehaagkjbhaaA15
namespace Go.AV
section
variable {P : Program} {E : Operand → AV} {H : HS} {R : AV → HS → Prop} {dst : Option Tmp} {ty : TypeId} {pos : String} {after : Array Edge} {gd : Option (Nat × Bool)}
theorem op_load_ptrsD {x : Operand} {t : TypeId} {d : TypeDesc} {id off n : Nat} {b : HB} (ds : List DV) (ht : P.underlying t = some d) (hd : notAgg d = false) (hn : (P.info? t).map (·.size) = some n) (hx : E x = .ptr id off) (hb : H.blks[id]? = some b)
    (hl : off + n ≤ b.cs.length) (hvs : (b.cs.drop off).take n = ds.map .d) (h1 : ∀ d ∈ ds, d.one = true) : OpR P ⟨dst, .load t x, ty, pos, after, gd⟩ E H (Ret (.d (.agg ds)) H) :=
  opR_weaken (op_load_ptrs ht hd hn hx hb hl hvs) fun _ _ h => rep_agg_d h1 h
end
end Go.AV
namespace Go.AV
theorem nb_le {Hs H : HS} (h : Ext Hs H) : Hs.nb ≤ H.nb := by
  obtain ⟨l, hl⟩ := h.blks
  simp [HS.nb, hl]
end Go.AV
namespace Go.AV
section
variable {P : Program} {T : List AV} {H H' : HS} {Φ : HS → Prop} {ops : Array Oper} {o : Oper} {l : List Oper} {fl : List Nat} {v : AV} {R : List AV → HS → Prop} {g d : Nat} {x : Bool}
theorem drun0X (ho : ∀ H, Φ H → OpR P o (evalT T) H (Ret v H)) (hg : o.guard = none) (h : DRunX P Φ ops l fl (putT T o.dst v) H R) : DRunX P Φ ops (o :: l) (0 :: fl) T H R := ⟨v, H, ⟨true, by rw [hg], rfl, ho⟩, .inr fun h => h, h⟩
theorem drun2X (ho : OpR P o (evalT T) H (Ret v H')) (hg : o.guard = none) (hΦ : l = [] ∨ Φ H') (h : DRunX P Φ ops l fl (putT T o.dst v) H' R) : DRunX P Φ ops (o :: l) (2 :: fl) T H R := ⟨v, H', ⟨true, by rw [hg], ho⟩, hΦ.imp id fun h _ => h, h⟩
theorem drun0Xw (hg : o.guard = some (g, x)) (hd : ((ops[g]?).bind (·.dst)) = some d) (hx : T[d]? = some (.d (.v (.bool x)))) (ho : ∀ H, Φ H → OpR P o (evalT T) H (Ret v H)) (h : DRunX P Φ ops l fl (putT T o.dst v) H R) : DRunX P Φ ops (o :: l) (0 :: fl) T H R :=
  ⟨v, H, ⟨true, by rw [hg]; exact .inl ⟨d, x, hd, hx, by simp⟩, rfl, ho⟩, .inr fun h => h, h⟩
end
/-- The element and the zero of a type, by its facts. -/
theorem setB_ok {H : HS} {id : Nat} {b : HB} {t : Option Nat} {n : Nat} (h : H.ok t n) : (H.setB id b).ok t n := h
theorem push_ok {H : HS} {e : TypeId} {cs : List AV} {t : Option Nat} {n : Nat} (h : H.ok t n) : (H.push e cs).ok t n := h
end Go.AV
namespace Go.AV
section
variable {P : Program} {E : Operand → AV} {H : HS} {dst : Option Tmp} {ty : TypeId} {pos : String} {after : Array Edge} {gd : Option (Nat × Bool)}
theorem op_load_ptrsW {x : Operand} {t : TypeId} {d : TypeDesc} {id off n : Nat} {b : HB} (ds : List DV) (ht : P.underlying t = some d) (hd : notAgg d = false) (hn : (P.info? t).map (·.size) = some n) (hx : E x = .ptr id off) (hb : H.blks[id]? = some b)
    (hl : off + n ≤ b.cs.length) (hvs : Weaks ((b.cs.drop off).take n) (ds.map .d)) (h1 : ∀ d ∈ ds, d.one = true) : OpR P ⟨dst, .load t x, ty, pos, after, gd⟩ E H (Ret (.d (.agg ds)) H) :=
  opR_weaken (op_load_ptrs ht hd hn hx hb hl rfl) fun c x h => Weak.aggD hvs h1 c x h
end
end Go.AV
