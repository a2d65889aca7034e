import Derived.Test.YtennnhfaghdeoaaAccRK
namespace Go.Proofs.Ytennnhfaghdeoaa
open Go.RowKit

/-! wealdref10.Told, wealdref10.Same: of what is the same. -/
set_option maxRecDepth 100000 in
set_option maxHeartbeats 1000000 in
theorem told_yes {v v' : Value} {r : ResK} {w : World} (h : ResV w v r) (h' : ResV w v' r) :
    Calls Try.prog 37 #[v, v'] w fun e w' => e = .returned (.bool true) ∧ Ext w w' := by
  obtain ⟨z, b, f⟩ := r
  obtain ⟨A, q, c, rfl, h1⟩ := h
  obtain ⟨B, q2, c2, rfl, h2⟩ := h'
  simp only at *
  go_enter Try.func37, Try.ntmps37
  go_upto_region 1 with (fail)
  obtain ⟨hW, hE, hO⟩ := two_boxes7 w (.cells #[.int .u64 z, .slice A q c, .bool f] 51) (.cells #[.int .u64 z, .slice B q2 c2, .bool f] 51)
  generalize (w.alloc (.cells #[.int .u64 z, .slice A q c, .bool f] 51)).alloc (.cells #[.int .u64 z, .slice B q2 c2, .bool f] 51) = W at *
  have e0 : W.cell? ⟨w.heap.size, 0, none⟩ = some (.int .u64 z) := by simp [World.cell?, hE]
  have e1 : W.cell? ⟨w.heap.size, 1, none⟩ = some (.slice A q c) := by simp [World.cell?, hE]
  have e2 : W.cell? ⟨w.heap.size, 2, none⟩ = some (.bool f) := by simp [World.cell?, hE]
  have o0 : W.cell? ⟨w.heap.size + 1, 0, none⟩ = some (.int .u64 z) := by simp [World.cell?, hO]
  have o1 : W.cell? ⟨w.heap.size + 1, 1, none⟩ = some (.slice B q2 c2) := by simp [World.cell?, hO]
  have o2 : W.cell? ⟨w.heap.size + 1, 2, none⟩ = some (.bool f) := by simp [World.cell?, hO]
  have q1 := run_convert_bytesV (P := Try.prog) (h1.ext hW) Try.underlying40 Try.underlying5 Try.underlying9
  have q2' := run_convert_bytesV (P := Try.prog) (h2.ext hW) Try.underlying40 Try.underlying5 Try.underlying9
  cases f
  · go_wp2
    go_ret
    exact ⟨rfl, hW⟩
  · go_wp2
    go_ret
    exact ⟨rfl, hW⟩
set_option maxRecDepth 100000 in
set_option maxHeartbeats 1000000 in
theorem rasame_yes {v v' : Value} {X : WldK} {w : World} (h : WldV w v X) (h' : WldV w v' X) (hn : X.ws.length ≤ 1000000) :
    Calls Try.prog 22 #[v, v'] w fun e w' => e = .returned (.bool true) ∧ Ext w w' := by
  obtain ⟨T, C, ws, R, n, K0, K1⟩ := X
  obtain ⟨A, q, c, A0, A1, c0, c1, rfl, hw, hd⟩ := h
  obtain ⟨B, q', c', B0, B1, b0, b1, rfl, hw2, hd2⟩ := h'
  simp only at *
  obtain rfl : ws.length = q := hw.len
  obtain rfl : ws.length = q' := hw2.len
  generalize hq : ws.length = q at *
  go_enter Try.func22, Try.ntmps22
  go_upto_region 1 with (fail)
  obtain ⟨hW, hE, hO⟩ := two_boxes7 w (.cells #[.int .i64 T, .int .i64 C, .slice A q c, .int .u64 R, .slice A0 n c0, .slice A1 n c1] 32) (.cells #[.int .i64 T, .int .i64 C, .slice B q c', .int .u64 R, .slice B0 n b0, .slice B1 n b1] 32)
  generalize (w.alloc (.cells #[.int .i64 T, .int .i64 C, .slice A q c, .int .u64 R, .slice A0 n c0, .slice A1 n c1] 32)).alloc (.cells #[.int .i64 T, .int .i64 C, .slice B q c', .int .u64 R, .slice B0 n b0, .slice B1 n b1] 32) = W at *
  have e0 : W.cell? ⟨w.heap.size, 0, none⟩ = some (.int .i64 T) := by simp [World.cell?, hE]
  have e1 : W.cell? ⟨w.heap.size, 1, none⟩ = some (.int .i64 C) := by simp [World.cell?, hE]
  have e2 : W.cell? ⟨w.heap.size, 2, none⟩ = some (.slice A q c) := by simp [World.cell?, hE]
  have e3 : W.cell? ⟨w.heap.size, 3, none⟩ = some (.int .u64 R) := by simp [World.cell?, hE]
  have e4 : W.cell? ⟨w.heap.size, 4, none⟩ = some (.slice A0 n c0) := by simp [World.cell?, hE]
  have e5 : W.cell? ⟨w.heap.size, 5, none⟩ = some (.slice A1 n c1) := by simp [World.cell?, hE]
  have o0 : W.cell? ⟨w.heap.size + 1, 0, none⟩ = some (.int .i64 T) := by simp [World.cell?, hO]
  have o1 : W.cell? ⟨w.heap.size + 1, 1, none⟩ = some (.int .i64 C) := by simp [World.cell?, hO]
  have o2 : W.cell? ⟨w.heap.size + 1, 2, none⟩ = some (.slice B q c') := by simp [World.cell?, hO]
  have o3 : W.cell? ⟨w.heap.size + 1, 3, none⟩ = some (.int .u64 R) := by simp [World.cell?, hO]
  have o4 : W.cell? ⟨w.heap.size + 1, 4, none⟩ = some (.slice B0 n b0) := by simp [World.cell?, hO]
  have o5 : W.cell? ⟨w.heap.size + 1, 5, none⟩ = some (.slice B1 n b1) := by simp [World.cell?, hO]
  go_wp2_with fail
  refine (msame_yes T C A B q c c' ws _ (hw.ext hW) (hw2.ext hW) hn).mono ?_
  rintro e w1 ⟨rfl, hx1⟩
  replace hE := heap_ext hE hx1
  replace hO := heap_ext hO hx1
  replace hW := hW.trans hx1
  clear e0 e1 e2 e3 e4 e5 o0 o1 o2 o3 o4 o5
  have e0 : w1.cell? ⟨w.heap.size, 0, none⟩ = some (.int .i64 T) := by simp [World.cell?, hE]
  have e1 : w1.cell? ⟨w.heap.size, 1, none⟩ = some (.int .i64 C) := by simp [World.cell?, hE]
  have e2 : w1.cell? ⟨w.heap.size, 2, none⟩ = some (.slice A q c) := by simp [World.cell?, hE]
  have e3 : w1.cell? ⟨w.heap.size, 3, none⟩ = some (.int .u64 R) := by simp [World.cell?, hE]
  have e4 : w1.cell? ⟨w.heap.size, 4, none⟩ = some (.slice A0 n c0) := by simp [World.cell?, hE]
  have e5 : w1.cell? ⟨w.heap.size, 5, none⟩ = some (.slice A1 n c1) := by simp [World.cell?, hE]
  have o0 : w1.cell? ⟨w.heap.size + 1, 0, none⟩ = some (.int .i64 T) := by simp [World.cell?, hO]
  have o1 : w1.cell? ⟨w.heap.size + 1, 1, none⟩ = some (.int .i64 C) := by simp [World.cell?, hO]
  have o2 : w1.cell? ⟨w.heap.size + 1, 2, none⟩ = some (.slice B q c') := by simp [World.cell?, hO]
  have o3 : w1.cell? ⟨w.heap.size + 1, 3, none⟩ = some (.int .u64 R) := by simp [World.cell?, hO]
  have o4 : w1.cell? ⟨w.heap.size + 1, 4, none⟩ = some (.slice B0 n b0) := by simp [World.cell?, hO]
  have o5 : w1.cell? ⟨w.heap.size + 1, 5, none⟩ = some (.slice B1 n b1) := by simp [World.cell?, hO]
  go_wp2_with fail
  refine (dsame_K (hd.ext hW) (hd2.ext hW)).mono ?_
  rintro e w2 ⟨rfl, hx2⟩
  go_wp2
  go_ret
  exact ⟨rfl, hW.trans hx2⟩
end Go.Proofs.Ytennnhfaghdeoaa
