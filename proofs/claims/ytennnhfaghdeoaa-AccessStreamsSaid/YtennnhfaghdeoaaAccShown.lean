import Derived.Test.YtennnhfaghdeoaaAccRK
import Derived.Test.YtennnhfaghdeoaaShown6b
namespace Go.Proofs.Ytennnhfaghdeoaa
open Go.RowKit

/-! The example of chapter 10. -/
def sX (z : Int) (b : List UInt8) : WldK := ⟨2, 1, [0, 1, 0, z, 0, 0, 0, 0, 0, 0, 0, 0, 0, 0, 0, 0, 0, 0], 0, 2, [([], 0), (b, 0)], [([], 0), ([], 0)]⟩
theorem sX0 : newW 2 1 = sX 0 [] := by rfl
theorem sFit (z : Int) (b : List UInt8) (h : b.length ≤ 1) (m : Nat) (hm : m ≤ 1) : Fit (sX z b) m := by
  refine ⟨by simp [sX], by simp [sX], by simp [sX], by simp [sX], fun k hk => ?_, fun k hk => ?_⟩
  · simp [sX] at hk
    rcases hk with rfl | rfl
    · simp; omega
    · simp; omega
  · simp [sX] at hk
    subst hk
    simp; omega
theorem sD1 : doK (sX 0 []) 0 ⟨1, 3, 5, 0, [], []⟩ true = sX 5 [] ∧ doR (sX 0 []) ⟨1, 3, 5, 0, [], []⟩ true = ⟨0, [], false⟩ := ⟨by rfl, by rfl⟩
theorem sD2 : doK (sX 5 []) 1 ⟨2, 3, 5, 7, [], []⟩ false = sX 7 [] ∧ doR (sX 5 []) ⟨2, 3, 5, 7, [], []⟩ false = ⟨1, [], false⟩ := ⟨by rfl, by rfl⟩
theorem sD3 : doK (sX 7 []) 1 ⟨5, 0, 0, 0, [120], []⟩ true = sX 7 [] ∧ doR (sX 7 []) ⟨5, 0, 0, 0, [120], []⟩ true = ⟨0, [], true⟩ := ⟨by rfl, by rfl⟩
theorem sD4 : doK (sX 7 []) 1 ⟨5, 0, 0, 0, [120], []⟩ false = sX 7 [120] ∧ doR (sX 7 []) ⟨5, 0, 0, 0, [120], []⟩ false = ⟨0, [], false⟩ := ⟨by rfl, by rfl⟩
set_option maxRecDepth 100000 in
set_option maxHeartbeats 4000000 in
theorem shown10_any (w : World) : Calls Try.prog 32 #[] w fun e w' => e = .returned (.bool true) ∧ Ext w w' := by
  have kc := fun (w : World) (C : Array Value) (n c : Nat) => Lib.run_convert_bytes_const (P := Try.prog) w 40 5 C n c Try.underlying40 Try.underlying5
  have hmk : ∀ (W : World) (x : Int), (Instr.buildSlice 40 1 #[(0, .int .u8 x)]).run Try.prog W = .ok (.slice (some ⟨W.heap.size, 0, none⟩) 1 1) (W.alloc (.cells #[.int .u8 x] 5)) := fun _ _ => by kernel_rfl
  have hb0 : ∀ W : World, (Instr.build 32 #[]).run Try.prog W = .ok (.agg #[.int .i64 0, .int .i64 0, .slice none 0 0, .int .u64 0, .slice none 0 0, .slice none 0 0]) W := fun _ => by kernel_rfl
  have ha1 : ∀ (W : World) (x y z : Int), (Instr.build 42 #[(0, .int .i64 x), (1, .int .i64 y), (2, .int .u64 z)]).run Try.prog W = .ok (.agg #[.int .i64 x, .int .i64 y, .int .u64 z, .int .u64 0, .slice none 0 0, .slice none 0 0]) W := fun _ _ _ _ => by kernel_rfl
  have ha2 : ∀ (W : World) (x y z u : Int), (Instr.build 42 #[(0, .int .i64 x), (1, .int .i64 y), (2, .int .u64 z), (3, .int .u64 u)]).run Try.prog W = .ok (.agg #[.int .i64 x, .int .i64 y, .int .u64 z, .int .u64 u, .slice none 0 0, .slice none 0 0]) W := fun _ _ _ _ _ => by kernel_rfl
  have ha3 : ∀ (W : World) (x : Int) (D : Option Addr) (m cd : Nat), (Instr.build 42 #[(0, .int .i64 x), (4, .slice D m cd)]).run Try.prog W = .ok (.agg #[.int .i64 x, .int .i64 0, .int .u64 0, .int .u64 0, .slice D m cd, .slice none 0 0]) W := fun _ _ _ _ _ => by kernel_rfl
  go_enter Try.func32, Try.ntmps32
  go_wp2_with fail
  refine (ranew_yes 2 1 (by omega) (by omega) (by omega) _).mono ?_
  rintro e u0 ⟨v0, rfl, hW0, hX0⟩
  rw [sX0] at hW0
  have hV0 := hW0
  obtain ⟨A0, q0, c0, B0, C0, b0, d0, rfl, hw0, -⟩ := hW0
  simp only [sX] at hw0
  go_upto_region 2 with (fail)
  have hx0 : Ext u0 (u0.alloc (.cells #[.int .i64 2, .int .i64 1, .slice A0 q0 c0, .int .u64 0, .slice B0 2 b0, .slice C0 2 d0] 32)) := (Below.refl _ u0).alloc (Nat.le_refl _) _
  have hb_0 := heap_alloc_new u0 (.cells #[.int .i64 2, .int .i64 1, .slice A0 q0 c0, .int .u64 0, .slice B0 2 b0, .slice C0 2 d0] 32)
  simp only [sX, Int.cast_ofNat_Int] at *
  generalize u0.alloc (.cells #[.int .i64 2, .int .i64 1, .slice A0 q0 c0, .int .u64 0, .slice B0 2 b0, .slice C0 2 d0] 32) = U0 at *
  generalize u0.heap.size = g0 at *
  replace hX0 := hX0.trans hx0
  replace hV0 := hV0.ext hx0
  clear hx0
  have e0 : U0.cell? ⟨g0, 0, none⟩ = some (.int .i64 2) := by simp [World.cell?, hb_0]
  have e1 : U0.cell? ⟨g0, 1, none⟩ = some (.int .i64 1) := by simp [World.cell?, hb_0]
  have e2 : U0.cell? ⟨g0, 2, none⟩ = some (.slice A0 q0 c0) := by simp [World.cell?, hb_0]
  have e3 : U0.cell? ⟨g0, 3, none⟩ = some (.int .u64 0) := by simp [World.cell?, hb_0]
  have e4 : U0.cell? ⟨g0, 4, none⟩ = some (.slice B0 2 b0) := by simp [World.cell?, hb_0]
  have e5 : U0.cell? ⟨g0, 5, none⟩ = some (.slice C0 2 d0) := by simp [World.cell?, hb_0]
  go_wp2_with fail
  refine (do_any _ _ (sX 0 []) 0 ⟨1, 3, 5, 0, [], []⟩ true _ hV0 ⟨none, 0, 0, none, 0, 0, rfl, bytes_nil _, words_nil _, by decide, by decide⟩ (sFit 0 [] (by simp) 0 (by simp))).mono ?_
  rintro e u1 ⟨v1, r1, rfl, hW, ⟨S1, s1, t1, rfl, hS1⟩, hu⟩
  rw [sD1.1] at hW
  rw [sD1.2] at hS1
  have hV1 := hW
  obtain ⟨A1, q1, c1, B1, C1, b1, d1, rfl, hw1, hd1⟩ := hW
  simp only [sX, Int.cast_ofNat_Int] at hw1 hd1 hV1
  rw [sD1.2]
  simp only [sX]
  go_upto_region 3 with (fail)
  obtain ⟨hx, hb_1, hr_1⟩ := two_boxes7 u1 (.cells #[.int .i64 2, .int .i64 1, .slice A1 q1 c1, .int .u64 0, .slice B1 2 b1, .slice C1 2 d1] 32) (.cells #[.int .u64 0, .slice S1 s1 t1, .bool false] 51)
  generalize (u1.alloc (.cells #[.int .i64 2, .int .i64 1, .slice A1 q1 c1, .int .u64 0, .slice B1 2 b1, .slice C1 2 d1] 32)).alloc (.cells #[.int .u64 0, .slice S1 s1 t1, .bool false] 51) = U1 at *
  generalize u1.heap.size = g1 at *
  replace hu := hu.trans hx
  replace hX0 := hX0.trans hu
  replace hV1 := hV1.ext hx
  replace hw1 := hw1.ext hx
  replace hd1 := hd1.ext hx
  clear hx hu e0 e1 e2 e3 e4 e5
  have e0 : U1.cell? ⟨g1, 0, none⟩ = some (.int .i64 2) := by simp [World.cell?, hb_1]
  have e1 : U1.cell? ⟨g1, 1, none⟩ = some (.int .i64 1) := by simp [World.cell?, hb_1]
  have e2 : U1.cell? ⟨g1, 2, none⟩ = some (.slice A1 q1 c1) := by simp [World.cell?, hb_1]
  have e3 : U1.cell? ⟨g1, 3, none⟩ = some (.int .u64 0) := by simp [World.cell?, hb_1]
  have e4 : U1.cell? ⟨g1, 4, none⟩ = some (.slice B1 2 b1) := by simp [World.cell?, hb_1]
  have e5 : U1.cell? ⟨g1, 5, none⟩ = some (.slice C1 2 d1) := by simp [World.cell?, hb_1]
  go_wp2_with fail
  refine (do_any _ _ (sX 5 []) 1 ⟨2, 3, 5, 7, [], []⟩ false _ hV1 ⟨none, 0, 0, none, 0, 0, rfl, bytes_nil _, words_nil _, by decide, by decide⟩ (sFit 5 [] (by simp) 0 (by simp))).mono ?_
  rintro e u2 ⟨v2, r2, rfl, hW, ⟨S2, s2, t2, rfl, hS2⟩, hu⟩
  rw [sD2.1] at hW
  rw [sD2.2] at hS2
  have hV2 := hW
  obtain ⟨A2, q2, c2, B2, C2, b2, d2, rfl, hw2, hd2⟩ := hW
  simp only [sX, Int.cast_ofNat_Int] at hw2 hd2 hV2
  rw [sD2.2]
  simp only [sX]
  go_upto_region 4 with (fail)
  obtain ⟨hx, hb_2, hr_2⟩ := two_boxes7 u2 (.cells #[.int .i64 2, .int .i64 1, .slice A2 q2 c2, .int .u64 0, .slice B2 2 b2, .slice C2 2 d2] 32) (.cells #[.int .u64 1, .slice S2 s2 t2, .bool false] 51)
  generalize (u2.alloc (.cells #[.int .i64 2, .int .i64 1, .slice A2 q2 c2, .int .u64 0, .slice B2 2 b2, .slice C2 2 d2] 32)).alloc (.cells #[.int .u64 1, .slice S2 s2 t2, .bool false] 51) = U2 at *
  generalize u2.heap.size = g2 at *
  replace hu := hu.trans hx
  replace hX0 := hX0.trans hu
  replace hV2 := hV2.ext hx
  replace hw2 := hw2.ext hx
  replace hd2 := hd2.ext hx
  replace hb_1 := heap_ext hb_1 hu
  replace hr_1 := heap_ext hr_1 hu
  replace hw1 := hw1.ext hu
  clear hx hu e0 e1 e2 e3 e4 e5
  have e0 : U2.cell? ⟨g2, 0, none⟩ = some (.int .i64 2) := by simp [World.cell?, hb_2]
  have e1 : U2.cell? ⟨g2, 1, none⟩ = some (.int .i64 1) := by simp [World.cell?, hb_2]
  have e2 : U2.cell? ⟨g2, 2, none⟩ = some (.slice A2 q2 c2) := by simp [World.cell?, hb_2]
  have e3 : U2.cell? ⟨g2, 3, none⟩ = some (.int .u64 0) := by simp [World.cell?, hb_2]
  have e4 : U2.cell? ⟨g2, 4, none⟩ = some (.slice B2 2 b2) := by simp [World.cell?, hb_2]
  have e5 : U2.cell? ⟨g2, 5, none⟩ = some (.slice C2 2 d2) := by simp [World.cell?, hb_2]
  have hB : BytesV (U2.alloc (.cells #[.int .u8 120] 5 (1, 2))) (some ⟨U2.heap.size, 0, none⟩) 1 1 [120] := bytes_new [120] U2 (1, 2) (by simp)
  have hn : Ext U2 (U2.alloc (.cells #[.int .u8 120] 5 (1, 2))) := (Below.refl _ U2).alloc (Nat.le_refl _) _
  go_wp2_with fail
  refine (do_any _ _ (sX 7 []) 1 ⟨5, 0, 0, 0, [120], []⟩ true _ (hV2.ext hn) ⟨_, _, _, none, 0, 0, rfl, hB, words_nil _, by decide, by decide⟩ (sFit 7 [] (by simp) 1 (by simp))).mono ?_
  rintro e u3 ⟨v3, r3, rfl, hW, ⟨S3, s3, t3, rfl, hS3⟩, hu⟩
  replace hu := hn.trans hu
  rw [sD3.1] at hW
  rw [sD3.2] at hS3
  have hV3 := hW
  obtain ⟨A3, q3, c3, B3, C3, b3, d3, rfl, hw3, hd3⟩ := hW
  simp only [sX, Int.cast_ofNat_Int] at hw3 hd3 hV3
  rw [sD3.2]
  simp only [sX]
  go_upto_region 5 with (fail)
  obtain ⟨hx, hb_3, hr_3⟩ := two_boxes7 u3 (.cells #[.int .i64 2, .int .i64 1, .slice A3 q3 c3, .int .u64 0, .slice B3 2 b3, .slice C3 2 d3] 32) (.cells #[.int .u64 0, .slice S3 s3 t3, .bool true] 51)
  generalize (u3.alloc (.cells #[.int .i64 2, .int .i64 1, .slice A3 q3 c3, .int .u64 0, .slice B3 2 b3, .slice C3 2 d3] 32)).alloc (.cells #[.int .u64 0, .slice S3 s3 t3, .bool true] 51) = U3 at *
  generalize u3.heap.size = g3 at *
  replace hu := hu.trans hx
  replace hX0 := hX0.trans hu
  replace hV3 := hV3.ext hx
  replace hw3 := hw3.ext hx
  replace hd3 := hd3.ext hx
  replace hb_1 := heap_ext hb_1 hu
  replace hr_1 := heap_ext hr_1 hu
  replace hb_2 := heap_ext hb_2 hu
  replace hr_2 := heap_ext hr_2 hu
  replace hw1 := hw1.ext hu
  replace hw2 := hw2.ext hu
  clear hx hu e0 e1 e2 e3 e4 e5 hB hn
  have e0 : U3.cell? ⟨g3, 0, none⟩ = some (.int .i64 2) := by simp [World.cell?, hb_3]
  have e1 : U3.cell? ⟨g3, 1, none⟩ = some (.int .i64 1) := by simp [World.cell?, hb_3]
  have e2 : U3.cell? ⟨g3, 2, none⟩ = some (.slice A3 q3 c3) := by simp [World.cell?, hb_3]
  have e3 : U3.cell? ⟨g3, 3, none⟩ = some (.int .u64 0) := by simp [World.cell?, hb_3]
  have e4 : U3.cell? ⟨g3, 4, none⟩ = some (.slice B3 2 b3) := by simp [World.cell?, hb_3]
  have e5 : U3.cell? ⟨g3, 5, none⟩ = some (.slice C3 2 d3) := by simp [World.cell?, hb_3]
  have hB : BytesV (U3.alloc (.cells #[.int .u8 120] 5 (1, 2))) (some ⟨U3.heap.size, 0, none⟩) 1 1 [120] := bytes_new [120] U3 (1, 2) (by simp)
  have hn : Ext U3 (U3.alloc (.cells #[.int .u8 120] 5 (1, 2))) := (Below.refl _ U3).alloc (Nat.le_refl _) _
  go_wp2_with fail
  refine (do_any _ _ (sX 7 []) 1 ⟨5, 0, 0, 0, [120], []⟩ false _ (hV3.ext hn) ⟨_, _, _, none, 0, 0, rfl, hB, words_nil _, by decide, by decide⟩ (sFit 7 [] (by simp) 1 (by simp))).mono ?_
  rintro e u4 ⟨v4, r4, rfl, hW, ⟨S4, s4, t4, rfl, hS4⟩, hu⟩
  replace hu := hn.trans hu
  rw [sD4.1] at hW
  rw [sD4.2] at hS4
  have hV4 := hW
  obtain ⟨A4, q4, c4, B4, C4, b4, d4, rfl, hw4, hd4⟩ := hW
  simp only [sX, Int.cast_ofNat_Int] at hw4 hd4 hV4
  rw [sD4.2]
  simp only [sX]
  go_upto_region 6 with (fail)
  obtain ⟨hx, hb_4, hr_4⟩ := two_boxes7 u4 (.cells #[.int .i64 2, .int .i64 1, .slice A4 q4 c4, .int .u64 0, .slice B4 2 b4, .slice C4 2 d4] 32) (.cells #[.int .u64 0, .slice S4 s4 t4, .bool false] 51)
  generalize (u4.alloc (.cells #[.int .i64 2, .int .i64 1, .slice A4 q4 c4, .int .u64 0, .slice B4 2 b4, .slice C4 2 d4] 32)).alloc (.cells #[.int .u64 0, .slice S4 s4 t4, .bool false] 51) = U4 at *
  generalize u4.heap.size = g4 at *
  replace hu := hu.trans hx
  replace hX0 := hX0.trans hu
  replace hV4 := hV4.ext hx
  replace hw4 := hw4.ext hx
  replace hd4 := hd4.ext hx
  replace hb_1 := heap_ext hb_1 hu
  replace hr_1 := heap_ext hr_1 hu
  replace hb_2 := heap_ext hb_2 hu
  replace hr_2 := heap_ext hr_2 hu
  replace hb_3 := heap_ext hb_3 hu
  replace hr_3 := heap_ext hr_3 hu
  replace hw1 := hw1.ext hu
  replace hw2 := hw2.ext hu
  replace hd3 := hd3.ext hu
  clear hx hu e0 e1 e2 e3 e4 e5 hB hn
  have l1 : 18 = q1 := hw1.len
  have l2 : 18 = q2 := hw2.len
  have l4 : 18 = q4 := hw4.len
  subst l1 l2 l4
  obtain ⟨a1, rfl, w1, -, -⟩ := hw1.at (i := 3) (by omega)
  obtain ⟨a2, rfl, w2, -, -⟩ := hw2.at (i := 3) (by omega)
  replace w1 : U4.cell? ⟨a1.block, a1.off + 3, none⟩ = some (.int .u64 5) := w1
  replace w2 : U4.cell? ⟨a2.block, a2.off + 3, none⟩ = some (.int .u64 7) := w2
  obtain ⟨x0, x1, hx0, -, kx0, -⟩ := hd4.rows
  obtain ⟨y0, y1, hy0, -, ky0, -⟩ := hd3.rows
  obtain ⟨aB, DB, cB, rfl, s1, s2⟩ := key_at hx0 (j := 1) (d := [120]) (k := 0) (by rw [kx0]; rfl)
  obtain ⟨aC, DC, cC, rfl, t1, -⟩ := key_at hy0 (j := 1) (d := []) (k := 0) (by rw [ky0]; rfl)
  replace s1 : U4.cell? ⟨aB.block, aB.off + 2, none⟩ = some (.slice DB 1 cB) := s1
  replace s2 : BytesV U4 DB 1 cB [120] := s2
  replace t1 : U4.cell? ⟨aC.block, aC.off + 2, none⟩ = some (.slice DC 0 cC) := t1
  clear hw1 hw2 hw4 hd3 hd4 hx0 hy0 kx0 ky0
  have q1 := run_convert_bytesV (P := Try.prog) s2 Try.underlying40 Try.underlying5 Try.underlying9
  have a0 : U4.cell? ⟨g1 + 1, 0, none⟩ = some (.int .u64 0) := by simp [World.cell?, hr_1]
  have b2 : U4.cell? ⟨g1, 2, none⟩ = some (.slice (some a1) 18 c1) := by simp [World.cell?, hb_1]
  have c0 : U4.cell? ⟨g2 + 1, 0, none⟩ = some (.int .u64 1) := by simp [World.cell?, hr_2]
  have d2 : U4.cell? ⟨g2, 2, none⟩ = some (.slice (some a2) 18 c2) := by simp [World.cell?, hb_2]
  have e2 : U4.cell? ⟨g3 + 1, 2, none⟩ = some (.bool true) := by simp [World.cell?, hr_3]
  have f2 : U4.cell? ⟨g4 + 1, 2, none⟩ = some (.bool false) := by simp [World.cell?, hr_4]
  have e4 : U4.cell? ⟨g3, 4, none⟩ = some (.slice (some aC) 2 b3) := by simp [World.cell?, hb_3]
  have p0 : U4.cell? ⟨g4, 0, none⟩ = some (.int .i64 2) := by simp [World.cell?, hb_4]
  have p1 : U4.cell? ⟨g4, 1, none⟩ = some (.int .i64 1) := by simp [World.cell?, hb_4]
  have p2 : U4.cell? ⟨g4, 2, none⟩ = some (.slice A4 18 c4) := by simp [World.cell?, hb_4]
  have p3 : U4.cell? ⟨g4, 3, none⟩ = some (.int .u64 0) := by simp [World.cell?, hb_4]
  have p4 : U4.cell? ⟨g4, 4, none⟩ = some (.slice (some aB) 2 b4) := by simp [World.cell?, hb_4]
  have p5 : U4.cell? ⟨g4, 5, none⟩ = some (.slice C4 2 d4) := by simp [World.cell?, hb_4]
  have hr1 : rightX (sX 7 [120]) = true := by rfl
  have hr0 : rightW 0 0 0 0 0 [] [] = false := by rfl
  clear hb_1 hb_2 hb_3 hb_4 hr_1 hr_2 hr_3 hr_4 kc hmk ha1 ha2 ha3
  go_wp2_with fail
  refine (accright_K hV4).mono ?_
  rintro e v1 ⟨rfl, hv1⟩
  rw [show rightX ⟨2, 1, [0, 1, 0, 7, 0, 0, 0, 0, 0, 0, 0, 0, 0, 0, 0, 0, 0, 0], 0, 2, [([], 0), ([120], 0)], [([], 0), ([], 0)]⟩ = true from hr1]
  go_wp2_with fail
  refine (accright_any 0 0 none 0 0 0 none none 0 0 0 0 [] [] _ (row_nil _) (row_nil _)).mono ?_
  rintro e v2 ⟨rfl, hv2⟩
  rw [hr0]
  go_wp2_with fail
  refine (adisk_any 5 _).mono ?_
  rintro e v3 ⟨rfl, rfl⟩
  rw [show diskKind 5 = true from rfl]
  go_wp2_with fail
  refine (adisk_any 13 _).mono ?_
  rintro e v4 ⟨rfl, rfl⟩
  rw [show diskKind 13 = false from rfl]
  go_wp2
  go_ret
  exact ⟨rfl, hX0.trans (hv1.trans hv2)⟩
end Go.Proofs.Ytennnhfaghdeoaa
