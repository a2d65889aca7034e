import Derived.Test.YtennnhfaghdeoaaSureB
namespace Go.Proofs.Ytennnhfaghdeoaa
open Go.RowKit

/-! what a stream holds, and how much of it is synced; and operations of regions that draw. -/
/-- numbers in a row -/
structure IntsV (w : World) (M : Option Addr) (n c : Nat) (ms : List Int) : Prop where
  len : ms.length = n
  le : n ≤ c
  at_ : ∀ j z, ms[j]? = some z → ∃ a, M = some a ∧ w.cell? (a.add j) = some (.int .i64 z)
theorem IntsV.ext {w w' : World} {M : Option Addr} {n c : Nat} {ms : List Int} (h : IntsV w M n c ms) (hx : Ext w w') : IntsV w' M n c ms := ⟨h.len, h.le, fun j z hj => let ⟨a, ha, hc⟩ := h.at_ j z hj; ⟨a, ha, hx.cell hc⟩⟩
theorem ints_nil (w : World) : IntsV w none 0 0 [] := ⟨rfl, Nat.le_refl _, fun j z h => by simp at h⟩
abbrev Key := List UInt8 × Int
theorem extS_base {W wr wx : World} {gB : Nat} (h : Ext W wr) (hx : SB.ExtS [gB] wr.drew wx) (hg : W.heap.size ≤ gB) : Ext W wx := by
  have h2 : Ext W wr.drew := h.trans (Ext.refl _).drew
  exact ⟨hx.os.trans h2.os, hx.tape.trans h2.tape, hx.output.trans h2.output, Nat.le_trans h2.size hx.size, fun k hk => (hx.block k (Nat.lt_of_lt_of_le hk h2.size) (by simp; omega)).trans (h2.block k hk)⟩
theorem SB.op_buildSlice {P : Program} {Pn : List PanicEntry → World → Prop} {ρ : Operand → Value} {o : Oper} {w w' : World} {K : Value → World → Prop} {t : TypeId} {len : Nat} {parts : Array (Nat × Operand)} {v : Value}
    (ho : o.op = .buildSlice t len parts) (hr : (Instr.buildSlice t len (parts.map fun (i, x) => (i, ρ x))).run P w = .ok v w') (h : K v w') : SB.runs P Pn ρ o w K := by
  unfold SB.runs execOp
  simp only [ho, Sem.run_bind, Sem.run_pure, hr, Result.andThen_ok]
  exact h
theorem SB.op_append {P : Program} {Pn : List PanicEntry → World → Prop} {ρ : Operand → Value} {o : Oper} {w w' : World} {K : Value → World → Prop} {s x : Operand} {t : TypeId} {u y v : Value}
    (ho : o.op = .call { callee := .builtin .append, args := #[s, x], argTypes := #[t, t] }) (hs : ρ s = u) (hx : ρ x = y) (hr : (Builtin.append_ #[t, t] o.type #[u, y]).run P w = .ok v w') (h : K v w') : SB.runs P Pn ρ o w K := by
  subst hs
  subst hx
  unfold SB.runs execOp
  simp only [ho, resolve, invoke, builtin, Sem.run_bind, Sem.run_pure, Result.andThen_ok, List.map_toArray, List.map_cons, List.map_nil, hr]
  exact h
end Go.Proofs.Ytennnhfaghdeoaa
