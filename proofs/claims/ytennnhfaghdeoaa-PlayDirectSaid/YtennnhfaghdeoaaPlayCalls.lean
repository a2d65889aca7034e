import Derived.Test.YtennnhfaghdeoaaPlayRun
import Derived.Lib.Hide
namespace Go.Proofs.Ytennnhfaghdeoaa
open Go.RowKit

/-! play.Load, play.Store, play.Cas, play.Add, play.Swap: of any function value of two captured places. -/
set_option maxRecDepth 100000 in
theorem pload_next (F : FuncId) (c0 c1 : Value) (i : Int) (N : Int) (Q : World → Prop) (w : World)
    (hcall : ∀ (args : Array Value) (w : World), (callFunc F args).run Try.prog w = .ok (.enter F args) w)
    (h : Calls Try.prog F #[.agg #[.int .i64 0, .int .i64 i, .int .u64 0, .int .u64 0, .slice none 0 0, .slice none 0 0], c0, c1] w fun e w' => ∃ (B : Option Addr) (q c : Nat) (f : Bool), e = .returned (.agg #[.int .u64 N, .slice B q c, .bool f]) ∧ Q w') :
    Calls Try.prog 26 #[.func (.func F) #[] #[c0, c1], .int .i64 i] w fun e w' => e = .returned (.int .u64 N) ∧ Q w' := by
  have hb : ∀ (W : World) (x y : Int), (Instr.build 42 #[(0, .int .i64 x), (1, .int .i64 y)]).run Try.prog W = .ok (.agg #[.int .i64 x, .int .i64 y, .int .u64 0, .int .u64 0, .slice none 0 0, .slice none 0 0]) W := fun _ _ _ => by kernel_rfl
  have hfl : ∀ (W : World) (N : Int) (B : Option Addr) (q c : Nat) (f : Bool), (Instr.field 51 (.agg #[.int .u64 N, .slice B q c, .bool f]) 0).run Try.prog W = .ok (.int .u64 N) W := fun _ _ _ _ _ _ => by kernel_rfl
  go_enter Try.func26, Try.ntmps26
  go_wp2_with fail
  refine h.mono ?_
  rintro e w1 ⟨B, q, c, f, rfl, hq⟩
  go_wp2
  go_ret
  exact ⟨rfl, hq⟩
set_option maxRecDepth 100000 in
theorem pload_stop (F : FuncId) (c0 c1 : Value) (i : Int) (ch : List PanicEntry) (Q : World → Prop) (w : World)
    (hcall : ∀ (args : Array Value) (w : World), (callFunc F args).run Try.prog w = .ok (.enter F args) w)
    (h : Calls Try.prog F #[.agg #[.int .i64 0, .int .i64 i, .int .u64 0, .int .u64 0, .slice none 0 0, .slice none 0 0], c0, c1] w fun e w' => e = .panicked ch ∧ Q w') :
    Calls Try.prog 26 #[.func (.func F) #[] #[c0, c1], .int .i64 i] w fun e w' => e = .panicked ch ∧ Q w' := by
  have hb : ∀ (W : World) (x y : Int), (Instr.build 42 #[(0, .int .i64 x), (1, .int .i64 y)]).run Try.prog W = .ok (.agg #[.int .i64 x, .int .i64 y, .int .u64 0, .int .u64 0, .slice none 0 0, .slice none 0 0]) W := fun _ _ _ => by kernel_rfl
  have hfl : ∀ (W : World) (N : Int) (B : Option Addr) (q c : Nat) (f : Bool), (Instr.field 51 (.agg #[.int .u64 N, .slice B q c, .bool f]) 0).run Try.prog W = .ok (.int .u64 N) W := fun _ _ _ _ _ _ => by kernel_rfl
  go_enter Try.func26, Try.ntmps26
  go_wp2_with fail
  refine h.mono ?_
  rintro e w1 ⟨rfl, hq⟩
  exact ⟨rfl, rfl, hq⟩
set_option maxRecDepth 100000 in
theorem pstore_next (F : FuncId) (c0 c1 : Value) (i a : Int) (N : Int) (Q : World → Prop) (w : World)
    (hcall : ∀ (args : Array Value) (w : World), (callFunc F args).run Try.prog w = .ok (.enter F args) w)
    (h : Calls Try.prog F #[.agg #[.int .i64 1, .int .i64 i, .int .u64 a, .int .u64 0, .slice none 0 0, .slice none 0 0], c0, c1] w fun e w' => ∃ (B : Option Addr) (q c : Nat) (f : Bool), e = .returned (.agg #[.int .u64 N, .slice B q c, .bool f]) ∧ Q w') :
    Calls Try.prog 25 #[.func (.func F) #[] #[c0, c1], .int .i64 i, .int .u64 a] w fun e w' => e = .returned (.tuple #[]) ∧ Q w' := by
  have hb : ∀ (W : World) (x y z : Int), (Instr.build 42 #[(0, .int .i64 x), (1, .int .i64 y), (2, .int .u64 z)]).run Try.prog W = .ok (.agg #[.int .i64 x, .int .i64 y, .int .u64 z, .int .u64 0, .slice none 0 0, .slice none 0 0]) W := fun _ _ _ _ => by kernel_rfl
  have hfl : ∀ (W : World) (N : Int) (B : Option Addr) (q c : Nat) (f : Bool), (Instr.field 51 (.agg #[.int .u64 N, .slice B q c, .bool f]) 0).run Try.prog W = .ok (.int .u64 N) W := fun _ _ _ _ _ _ => by kernel_rfl
  go_enter Try.func25, Try.ntmps25
  go_wp2_with fail
  refine h.mono ?_
  rintro e w1 ⟨B, q, c, f, rfl, hq⟩
  go_wp2
  refine bodyPost_end (v := .tuple #[]) (by simp [results, Try.results25, go_sem]) rfl ⟨rfl, hq⟩
set_option maxRecDepth 100000 in
theorem pstore_stop (F : FuncId) (c0 c1 : Value) (i a : Int) (ch : List PanicEntry) (Q : World → Prop) (w : World)
    (hcall : ∀ (args : Array Value) (w : World), (callFunc F args).run Try.prog w = .ok (.enter F args) w)
    (h : Calls Try.prog F #[.agg #[.int .i64 1, .int .i64 i, .int .u64 a, .int .u64 0, .slice none 0 0, .slice none 0 0], c0, c1] w fun e w' => e = .panicked ch ∧ Q w') :
    Calls Try.prog 25 #[.func (.func F) #[] #[c0, c1], .int .i64 i, .int .u64 a] w fun e w' => e = .panicked ch ∧ Q w' := by
  have hb : ∀ (W : World) (x y z : Int), (Instr.build 42 #[(0, .int .i64 x), (1, .int .i64 y), (2, .int .u64 z)]).run Try.prog W = .ok (.agg #[.int .i64 x, .int .i64 y, .int .u64 z, .int .u64 0, .slice none 0 0, .slice none 0 0]) W := fun _ _ _ _ => by kernel_rfl
  have hfl : ∀ (W : World) (N : Int) (B : Option Addr) (q c : Nat) (f : Bool), (Instr.field 51 (.agg #[.int .u64 N, .slice B q c, .bool f]) 0).run Try.prog W = .ok (.int .u64 N) W := fun _ _ _ _ _ _ => by kernel_rfl
  go_enter Try.func25, Try.ntmps25
  go_wp2_with fail
  refine h.mono ?_
  rintro e w1 ⟨rfl, hq⟩
  exact ⟨rfl, rfl, hq⟩
set_option maxRecDepth 100000 in
theorem pcas_next (F : FuncId) (c0 c1 : Value) (i a b : Int) (N : Int) (Q : World → Prop) (w : World)
    (hcall : ∀ (args : Array Value) (w : World), (callFunc F args).run Try.prog w = .ok (.enter F args) w)
    (h : Calls Try.prog F #[.agg #[.int .i64 2, .int .i64 i, .int .u64 a, .int .u64 b, .slice none 0 0, .slice none 0 0], c0, c1] w fun e w' => ∃ (B : Option Addr) (q c : Nat) (f : Bool), e = .returned (.agg #[.int .u64 N, .slice B q c, .bool f]) ∧ Q w') :
    Calls Try.prog 27 #[.func (.func F) #[] #[c0, c1], .int .i64 i, .int .u64 a, .int .u64 b] w fun e w' => e = .returned (.bool (N == 1)) ∧ Q w' := by
  have hb : ∀ (W : World) (x y z u : Int), (Instr.build 42 #[(0, .int .i64 x), (1, .int .i64 y), (2, .int .u64 z), (3, .int .u64 u)]).run Try.prog W = .ok (.agg #[.int .i64 x, .int .i64 y, .int .u64 z, .int .u64 u, .slice none 0 0, .slice none 0 0]) W := fun _ _ _ _ _ => by kernel_rfl
  have hfl : ∀ (W : World) (N : Int) (B : Option Addr) (q c : Nat) (f : Bool), (Instr.field 51 (.agg #[.int .u64 N, .slice B q c, .bool f]) 0).run Try.prog W = .ok (.int .u64 N) W := fun _ _ _ _ _ _ => by kernel_rfl
  go_enter Try.func27, Try.ntmps27
  go_wp2_with fail
  refine h.mono ?_
  rintro e w1 ⟨B, q, c, f, rfl, hq⟩
  go_wp2
  go_ret
  exact ⟨rfl, hq⟩
set_option maxRecDepth 100000 in
theorem pcas_stop (F : FuncId) (c0 c1 : Value) (i a b : Int) (ch : List PanicEntry) (Q : World → Prop) (w : World)
    (hcall : ∀ (args : Array Value) (w : World), (callFunc F args).run Try.prog w = .ok (.enter F args) w)
    (h : Calls Try.prog F #[.agg #[.int .i64 2, .int .i64 i, .int .u64 a, .int .u64 b, .slice none 0 0, .slice none 0 0], c0, c1] w fun e w' => e = .panicked ch ∧ Q w') :
    Calls Try.prog 27 #[.func (.func F) #[] #[c0, c1], .int .i64 i, .int .u64 a, .int .u64 b] w fun e w' => e = .panicked ch ∧ Q w' := by
  have hb : ∀ (W : World) (x y z u : Int), (Instr.build 42 #[(0, .int .i64 x), (1, .int .i64 y), (2, .int .u64 z), (3, .int .u64 u)]).run Try.prog W = .ok (.agg #[.int .i64 x, .int .i64 y, .int .u64 z, .int .u64 u, .slice none 0 0, .slice none 0 0]) W := fun _ _ _ _ _ => by kernel_rfl
  have hfl : ∀ (W : World) (N : Int) (B : Option Addr) (q c : Nat) (f : Bool), (Instr.field 51 (.agg #[.int .u64 N, .slice B q c, .bool f]) 0).run Try.prog W = .ok (.int .u64 N) W := fun _ _ _ _ _ _ => by kernel_rfl
  go_enter Try.func27, Try.ntmps27
  go_wp2_with fail
  refine h.mono ?_
  rintro e w1 ⟨rfl, hq⟩
  exact ⟨rfl, rfl, hq⟩
set_option maxRecDepth 100000 in
theorem padd_next (F : FuncId) (c0 c1 : Value) (i a : Int) (N : Int) (Q : World → Prop) (w : World)
    (hcall : ∀ (args : Array Value) (w : World), (callFunc F args).run Try.prog w = .ok (.enter F args) w)
    (h : Calls Try.prog F #[.agg #[.int .i64 3, .int .i64 i, .int .u64 a, .int .u64 0, .slice none 0 0, .slice none 0 0], c0, c1] w fun e w' => ∃ (B : Option Addr) (q c : Nat) (f : Bool), e = .returned (.agg #[.int .u64 N, .slice B q c, .bool f]) ∧ Q w') :
    Calls Try.prog 28 #[.func (.func F) #[] #[c0, c1], .int .i64 i, .int .u64 a] w fun e w' => e = .returned (.int .u64 N) ∧ Q w' := by
  have hb : ∀ (W : World) (x y z : Int), (Instr.build 42 #[(0, .int .i64 x), (1, .int .i64 y), (2, .int .u64 z)]).run Try.prog W = .ok (.agg #[.int .i64 x, .int .i64 y, .int .u64 z, .int .u64 0, .slice none 0 0, .slice none 0 0]) W := fun _ _ _ _ => by kernel_rfl
  have hfl : ∀ (W : World) (N : Int) (B : Option Addr) (q c : Nat) (f : Bool), (Instr.field 51 (.agg #[.int .u64 N, .slice B q c, .bool f]) 0).run Try.prog W = .ok (.int .u64 N) W := fun _ _ _ _ _ _ => by kernel_rfl
  go_enter Try.func28, Try.ntmps28
  go_wp2_with fail
  refine h.mono ?_
  rintro e w1 ⟨B, q, c, f, rfl, hq⟩
  go_wp2
  go_ret
  exact ⟨rfl, hq⟩
set_option maxRecDepth 100000 in
theorem padd_stop (F : FuncId) (c0 c1 : Value) (i a : Int) (ch : List PanicEntry) (Q : World → Prop) (w : World)
    (hcall : ∀ (args : Array Value) (w : World), (callFunc F args).run Try.prog w = .ok (.enter F args) w)
    (h : Calls Try.prog F #[.agg #[.int .i64 3, .int .i64 i, .int .u64 a, .int .u64 0, .slice none 0 0, .slice none 0 0], c0, c1] w fun e w' => e = .panicked ch ∧ Q w') :
    Calls Try.prog 28 #[.func (.func F) #[] #[c0, c1], .int .i64 i, .int .u64 a] w fun e w' => e = .panicked ch ∧ Q w' := by
  have hb : ∀ (W : World) (x y z : Int), (Instr.build 42 #[(0, .int .i64 x), (1, .int .i64 y), (2, .int .u64 z)]).run Try.prog W = .ok (.agg #[.int .i64 x, .int .i64 y, .int .u64 z, .int .u64 0, .slice none 0 0, .slice none 0 0]) W := fun _ _ _ _ => by kernel_rfl
  have hfl : ∀ (W : World) (N : Int) (B : Option Addr) (q c : Nat) (f : Bool), (Instr.field 51 (.agg #[.int .u64 N, .slice B q c, .bool f]) 0).run Try.prog W = .ok (.int .u64 N) W := fun _ _ _ _ _ _ => by kernel_rfl
  go_enter Try.func28, Try.ntmps28
  go_wp2_with fail
  refine h.mono ?_
  rintro e w1 ⟨rfl, hq⟩
  exact ⟨rfl, rfl, hq⟩
set_option maxRecDepth 100000 in
theorem pswap_next (F : FuncId) (c0 c1 : Value) (i a : Int) (N : Int) (Q : World → Prop) (w : World)
    (hcall : ∀ (args : Array Value) (w : World), (callFunc F args).run Try.prog w = .ok (.enter F args) w)
    (h : Calls Try.prog F #[.agg #[.int .i64 4, .int .i64 i, .int .u64 a, .int .u64 0, .slice none 0 0, .slice none 0 0], c0, c1] w fun e w' => ∃ (B : Option Addr) (q c : Nat) (f : Bool), e = .returned (.agg #[.int .u64 N, .slice B q c, .bool f]) ∧ Q w') :
    Calls Try.prog 29 #[.func (.func F) #[] #[c0, c1], .int .i64 i, .int .u64 a] w fun e w' => e = .returned (.int .u64 N) ∧ Q w' := by
  have hb : ∀ (W : World) (x y z : Int), (Instr.build 42 #[(0, .int .i64 x), (1, .int .i64 y), (2, .int .u64 z)]).run Try.prog W = .ok (.agg #[.int .i64 x, .int .i64 y, .int .u64 z, .int .u64 0, .slice none 0 0, .slice none 0 0]) W := fun _ _ _ _ => by kernel_rfl
  have hfl : ∀ (W : World) (N : Int) (B : Option Addr) (q c : Nat) (f : Bool), (Instr.field 51 (.agg #[.int .u64 N, .slice B q c, .bool f]) 0).run Try.prog W = .ok (.int .u64 N) W := fun _ _ _ _ _ _ => by kernel_rfl
  go_enter Try.func29, Try.ntmps29
  go_wp2_with fail
  refine h.mono ?_
  rintro e w1 ⟨B, q, c, f, rfl, hq⟩
  go_wp2
  go_ret
  exact ⟨rfl, hq⟩
set_option maxRecDepth 100000 in
theorem pswap_stop (F : FuncId) (c0 c1 : Value) (i a : Int) (ch : List PanicEntry) (Q : World → Prop) (w : World)
    (hcall : ∀ (args : Array Value) (w : World), (callFunc F args).run Try.prog w = .ok (.enter F args) w)
    (h : Calls Try.prog F #[.agg #[.int .i64 4, .int .i64 i, .int .u64 a, .int .u64 0, .slice none 0 0, .slice none 0 0], c0, c1] w fun e w' => e = .panicked ch ∧ Q w') :
    Calls Try.prog 29 #[.func (.func F) #[] #[c0, c1], .int .i64 i, .int .u64 a] w fun e w' => e = .panicked ch ∧ Q w' := by
  have hb : ∀ (W : World) (x y z : Int), (Instr.build 42 #[(0, .int .i64 x), (1, .int .i64 y), (2, .int .u64 z)]).run Try.prog W = .ok (.agg #[.int .i64 x, .int .i64 y, .int .u64 z, .int .u64 0, .slice none 0 0, .slice none 0 0]) W := fun _ _ _ _ => by kernel_rfl
  have hfl : ∀ (W : World) (N : Int) (B : Option Addr) (q c : Nat) (f : Bool), (Instr.field 51 (.agg #[.int .u64 N, .slice B q c, .bool f]) 0).run Try.prog W = .ok (.int .u64 N) W := fun _ _ _ _ _ _ => by kernel_rfl
  go_enter Try.func29, Try.ntmps29
  go_wp2_with fail
  refine h.mono ?_
  rintro e w1 ⟨rfl, hq⟩
  exact ⟨rfl, rfl, hq⟩
end Go.Proofs.Ytennnhfaghdeoaa
