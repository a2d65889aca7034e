import Derived.Test.YtennnhfaghdeoaaDiskSame
import Derived.Test.YtennnhfaghdeoaaShown6b
namespace Go.Proofs.Ytennnhfaghdeoaa
open Go.RowKit

/-! The example of chapter 7. -/
theorem ints_new {w : World} {g : Nat} {T : TypeId} {fr : Nat × Nat} {cs : Array Value} (ms : List Int) (h : w.heap[g]? = some (.cells cs T fr)) (hc : cs = (ms.map (Value.int .i64)).toArray) : IntsV w (some ⟨g, 0, none⟩) ms.length ms.length ms := by
  subst hc
  refine ⟨rfl, Nat.le_refl _, fun j z hj => ⟨_, rfl, ?_⟩⟩
  have h2 : (⟨g, 0, none⟩ : Addr).add j = ⟨g, j, none⟩ := by unfold Addr.add; split <;> simp_all
  rw [h2]
  simp only [World.cell?, h, Option.isSome_none, Bool.false_eq_true, if_false]
  simp [hj]
set_option maxRecDepth 100000 in
set_option maxHeartbeats 8000000 in
theorem shown7_any (w : World) : Calls Try.prog 62 #[] w fun e w' => e = .returned (.bool true) ∧ Ext w w' := by
  have kc := fun (w : World) (C : Array Value) (n c : Nat) => Lib.run_convert_bytes_const (P := Try.prog) w 40 5 C n c Try.underlying40 Try.underlying5
  have hmk : ∀ (W : World) (x y : Int), (Instr.buildSlice 40 2 #[(0, .int .u8 x), (1, .int .u8 y)]).run Try.prog W = .ok (.slice (some ⟨W.heap.size, 0, none⟩) 2 2) (W.alloc (.cells #[.int .u8 x, .int .u8 y] 5)) := fun _ _ _ => by kernel_rfl
  have hmi : ∀ (W : World) (x y z : Int), (Instr.buildSlice 44 3 #[(0, .int .i64 x), (1, .int .i64 y), (2, .int .i64 z)]).run Try.prog W = .ok (.slice (some ⟨W.heap.size, 0, none⟩) 3 3) (W.alloc (.cells #[.int .i64 x, .int .i64 y, .int .i64 z] 3)) := fun _ _ _ _ => by kernel_rfl
  have hb : ∀ W : World, (Instr.build 30 #[]).run Try.prog W = .ok (.agg #[.int .u64 0, .slice none 0 0, .slice none 0 0]) W := fun _ => by kernel_rfl
  go_enter Try.func62, Try.ntmps62
  -- a new one
  go_wp2_with fail
  refine (dnew_yes 2 _ (by omega) (by omega)).mono ?_
  rintro e w1 ⟨A0, A1, c0, c1, rfl, hr0, hr1, hx1⟩
  simp only [Int.cast_ofNat_Int]
  go_upto_region 2 with (fail)
  have hwa : Ext w1 (w1.alloc (.cells #[.int .u64 0, .slice A0 2 c0, .slice A1 2 c1] 30)) := (Below.refl _ w1).alloc (Nat.le_refl _) _
  have hda : (w1.alloc (.cells #[.int .u64 0, .slice A0 2 c0, .slice A1 2 c1] 30)).heap[w1.heap.size]? = some (.cells #[.int .u64 0, .slice A0 2 c0, .slice A1 2 c1] 30 (0, 0)) := heap_alloc_new w1 _
  replace hr0 := hr0.ext hwa
  replace hr1 := hr1.ext hwa
  have hX := hx1.trans hwa
  generalize w1.alloc (.cells #[.int .u64 0, .slice A0 2 c0, .slice A1 2 c1] 30) = W1 at *
  generalize w1.heap.size = ga at *
  clear hwa hx1
  have a0 : W1.cell? ⟨ga, 0, none⟩ = some (.int .u64 0) := by simp [World.cell?, hda]
  have a1 : W1.cell? ⟨ga, 1, none⟩ = some (.slice A0 2 c0) := by simp [World.cell?, hda]
  have a2 : W1.cell? ⟨ga, 2, none⟩ = some (.slice A1 2 c1) := by simp [World.cell?, hda]
  have hz0 : (List.replicate 2 St.zero)[0]? = some St.zero := rfl
  have hB1 : BytesV (W1.alloc (.cells #[.int .u8 97, .int .u8 98] 5 (2, 3))) (some ⟨W1.heap.size, 0, none⟩) 2 2 [97, 98] := bytes_new [97, 98] W1 (2, 3) (by simp)
  have hn1 : Ext W1 (W1.alloc (.cells #[.int .u8 97, .int .u8 98] 5 (2, 3))) := (Below.refl _ W1).alloc (Nat.le_refl _) _
  -- 'ab' appended
  go_wp2_with fail
  refine (dappend_row1 0 A0 A1 2 c0 2 c1 0 _ St.zero _ 2 2 [97, 98] _ (hr1.ext hn1) hz0 (by omega) (by omega) hB1 (by simp [St.zero])).mono ?_
  rintro e u2 ⟨A2, c2, ⟨Da, qa, ca, ka, da⟩, rfl, hr2, ⟨e1, e2, e3⟩, hu2⟩
  simp only [St.zero, List.nil_append, Nat.zero_add] at e1 e2 e3
  subst e1 e2 e3
  replace hu2 := hn1.trans hu2
  clear hn1 hB1 a0 a1 a2
  go_upto_region 3 with (fail)
  have hv2 : Ext u2 (u2.alloc (.cells #[.int .u64 0, .slice A0 2 c0, .slice A2 2 c2] 30)) := (Below.refl _ u2).alloc (Nat.le_refl _) _
  have hd2 : (u2.alloc (.cells #[.int .u64 0, .slice A0 2 c0, .slice A2 2 c2] 30)).heap[u2.heap.size]? = some (.cells #[.int .u64 0, .slice A0 2 c0, .slice A2 2 c2] 30 (0, 0)) := heap_alloc_new u2 _
  generalize u2.alloc (.cells #[.int .u64 0, .slice A0 2 c0, .slice A2 2 c2] 30) = U2 at *
  generalize u2.heap.size = g2 at *
  replace hu2 := hu2.trans hv2
  replace hr2 := hr2.ext hv2
  replace hr0 := hr0.ext hu2
  replace hr1 := hr1.ext hu2
  replace hda := heap_ext hda hu2
  replace hX := hX.trans hu2
  clear hv2 hu2
  have b0 : U2.cell? ⟨g2, 0, none⟩ = some (.int .u64 0) := by simp [World.cell?, hd2]
  have b1 : U2.cell? ⟨g2, 1, none⟩ = some (.slice A0 2 c0) := by simp [World.cell?, hd2]
  have b2 : U2.cell? ⟨g2, 2, none⟩ = some (.slice A2 2 c2) := by simp [World.cell?, hd2]
  -- synced
  go_wp2_with fail
  refine (dsync_row1 0 A0 A2 2 c0 2 c2 0 _ ⟨Da, 2, ca, 0, [97, 98]⟩ _ hr2 rfl (by omega) (by omega) (by simp)).mono ?_
  rintro e u3 ⟨A3, c3, ⟨Db, qb, cb, kb, db⟩, rfl, hr3, ⟨e1, e2, e3⟩, hu3⟩
  simp only at e1 e2 e3
  subst e1 e2 e3
  clear b0 b1 b2 hd2 hr2
  go_upto_region 4 with (fail)
  have hv3 : Ext u3 (u3.alloc (.cells #[.int .u64 0, .slice A0 2 c0, .slice A3 2 c3] 30)) := (Below.refl _ u3).alloc (Nat.le_refl _) _
  have hd3 : (u3.alloc (.cells #[.int .u64 0, .slice A0 2 c0, .slice A3 2 c3] 30)).heap[u3.heap.size]? = some (.cells #[.int .u64 0, .slice A0 2 c0, .slice A3 2 c3] 30 (0, 0)) := heap_alloc_new u3 _
  generalize u3.alloc (.cells #[.int .u64 0, .slice A0 2 c0, .slice A3 2 c3] 30) = U3 at *
  generalize u3.heap.size = g3 at *
  replace hu3 := hu3.trans hv3
  replace hr3 := hr3.ext hv3
  replace hr0 := hr0.ext hu3
  replace hr1 := hr1.ext hu3
  replace hda := heap_ext hda hu3
  replace hX := hX.trans hu3
  clear hv3 hu3
  have b0 : U3.cell? ⟨g3, 0, none⟩ = some (.int .u64 0) := by simp [World.cell?, hd3]
  have b1 : U3.cell? ⟨g3, 1, none⟩ = some (.slice A0 2 c0) := by simp [World.cell?, hd3]
  have b2 : U3.cell? ⟨g3, 2, none⟩ = some (.slice A3 2 c3) := by simp [World.cell?, hd3]
  have hB3 : BytesV (U3.alloc (.cells #[.int .u8 99, .int .u8 100] 5 (2, 3))) (some ⟨U3.heap.size, 0, none⟩) 2 2 [99, 100] := bytes_new [99, 100] U3 (2, 3) (by simp)
  have hn3 : Ext U3 (U3.alloc (.cells #[.int .u8 99, .int .u8 100] 5 (2, 3))) := (Below.refl _ U3).alloc (Nat.le_refl _) _
  -- 'cd' appended
  go_wp2_with fail
  refine (dappend_row1 0 A0 A3 2 c0 2 c3 0 _ ⟨Db, 2, cb, 2, [97, 98]⟩ _ 2 2 [99, 100] _ (hr3.ext hn3) rfl (by omega) (by omega) hB3 (by simp)).mono ?_
  rintro e u4 ⟨A4, c4, ⟨Dc, qc, cc, kc', dc⟩, rfl, hr4, ⟨e1, e2, e3⟩, hu4⟩
  simp only [List.cons_append, List.nil_append, Nat.reduceAdd] at e1 e2 e3
  subst e1 e2 e3
  replace hu4 := hn3.trans hu4
  clear hn3 hB3 b0 b1 b2 hd3 hr3
  go_upto_region 5 with (fail)
  have hv4 : Ext u4 (u4.alloc (.cells #[.int .u64 0, .slice A0 2 c0, .slice A4 2 c4] 30)) := (Below.refl _ u4).alloc (Nat.le_refl _) _
  have hd4 : (u4.alloc (.cells #[.int .u64 0, .slice A0 2 c0, .slice A4 2 c4] 30)).heap[u4.heap.size]? = some (.cells #[.int .u64 0, .slice A0 2 c0, .slice A4 2 c4] 30 (0, 0)) := heap_alloc_new u4 _
  generalize u4.alloc (.cells #[.int .u64 0, .slice A0 2 c0, .slice A4 2 c4] 30) = U4 at *
  generalize u4.heap.size = g4 at *
  replace hu4 := hu4.trans hv4
  replace hr4 := hr4.ext hv4
  replace hr0 := hr0.ext hu4
  replace hr1 := hr1.ext hu4
  replace hda := heap_ext hda hu4
  replace hX := hX.trans hu4
  clear hv4 hu4
  have b0 : U4.cell? ⟨g4, 0, none⟩ = some (.int .u64 0) := by simp [World.cell?, hd4]
  have b1 : U4.cell? ⟨g4, 1, none⟩ = some (.slice A0 2 c0) := by simp [World.cell?, hd4]
  have b2 : U4.cell? ⟨g4, 2, none⟩ = some (.slice A4 2 c4) := by simp [World.cell?, hd4]
  have hM4 : IntsV (U4.alloc (.cells #[.int .i64 0, .int .i64 0, .int .i64 1] 3)) (some ⟨U4.heap.size, 0, none⟩) 3 3 [0, 0, 1] := ints_new [0, 0, 1] (heap_alloc_new U4 _) rfl
  have hn4 : Ext U4 (U4.alloc (.cells #[.int .i64 0, .int .i64 0, .int .i64 1] 3)) := (Below.refl _ U4).alloc (Nat.le_refl _) _
  have hzr : ∀ s ∈ List.replicate 2 St.zero, rightB s.k s.q = true ∧ s.q ≤ 9223372036854775807 := fun s hs => by
    obtain ⟨_, rfl⟩ := List.mem_replicate.1 hs
    exact ⟨rfl, by simp [St.zero]⟩
  replace hr4 : RowV U4 A4 2 c4 [⟨Dc, 4, cc, 2, [97, 98, 99, 100]⟩, St.zero] := hr4
  have hcr : ∀ s ∈ [(⟨Dc, 4, cc, 2, [97, 98, 99, 100]⟩ : St), St.zero], rightB s.k s.q = true ∧ s.q ≤ 9223372036854775807 := fun s hs => by
    simp at hs
    rcases hs with rfl | rfl
    · exact ⟨rfl, by simp⟩
    · exact ⟨rfl, by simp [St.zero]⟩
  go_wp2_with fail
  refine (dcrash_any 0 A0 A4 2 c0 2 c4 _ _ _ 3 3 [0, 0, 1] _ (hr0.ext hn4) (hr4.ext hn4) (by omega) (by omega) hzr hcr hM4).mono ?_
  rintro e u5 ⟨X0, X1, x0, x1, L0, L1, rfl, -, hx1, -, hcut, hu5⟩
  replace hu5 := hn4.trans hu5
  have hL1 := hcut.2 0 _ rfl
  simp only [show (0 : Nat) < 2 from by omega, if_true] at hL1
  have hcd : (St.cut ⟨Dc, 4, cc, 2, [97, 98, 99, 100]⟩ ((([0, 0, 1] : List Int).drop 2).getD 0 0)) = ⟨Dc, 3, 3, 3, [97, 98, 99]⟩ := by
    have : cutN 4 2 1 = 3 := by decide
    simp [St.cut, this]
  rw [hcd] at hL1
  replace hr0 := hr0.ext hu5
  replace hr1 := hr1.ext hu5
  replace hr4 := hr4.ext hu5
  replace hda := heap_ext hda hu5
  replace hd4 := heap_ext hd4 hu5
  replace hX := hX.trans hu5
  clear hu5 hn4 hM4 b0 b1 b2
  -- read
  go_wp2_with fail
  refine (dread_row1 0 X0 X1 2 x0 2 x1 0 L1 ⟨Dc, 3, 3, 3, [97, 98, 99]⟩ _ hx1 hL1 (by omega) (by omega) (by simp)).mono ?_
  rintro e u6 ⟨S6, k6, rfl, hS6, hu6⟩
  clear hx1 hL1 hcut
  go_upto_region 6 with (fail)
  replace hr0 := hr0.ext hu6
  replace hr1 := hr1.ext hu6
  replace hr4 := hr4.ext hu6
  replace hda := heap_ext hda hu6
  replace hd4 := heap_ext hd4 hu6
  replace hX := hX.trans hu6
  clear hu6
  -- a disk of no threads
  go_wp2_with fail
  refine (dnew_no 0 _ (.inl (by omega))).mono ?_
  rintro e u7 ⟨rfl, hu7⟩
  go_upto_region 7 with (fail)
  have hv7 : Ext u7 (u7.alloc (.cells #[.int .u64 0, .slice none 0 0, .slice none 0 0] 30)) := (Below.refl _ u7).alloc (Nat.le_refl _) _
  have hd7 : (u7.alloc (.cells #[.int .u64 0, .slice none 0 0, .slice none 0 0] 30)).heap[u7.heap.size]? = some (.cells #[.int .u64 0, .slice none 0 0, .slice none 0 0] 30 (0, 0)) := heap_alloc_new u7 _
  generalize u7.alloc (.cells #[.int .u64 0, .slice none 0 0, .slice none 0 0] 30) = U7 at *
  generalize u7.heap.size = g7 at *
  replace hu7 := hu7.trans hv7
  replace hr0 := hr0.ext hu7
  replace hr1 := hr1.ext hu7
  replace hr4 := hr4.ext hu7
  replace hS6 := hS6.ext hu7
  replace hda := heap_ext hda hu7
  replace hd4 := heap_ext hd4 hu7
  replace hX := hX.trans hu7
  clear hv7 hu7
  have b0 : U7.cell? ⟨ga, 0, none⟩ = some (.int .u64 0) := by simp [World.cell?, hda]
  have b1 : U7.cell? ⟨ga, 1, none⟩ = some (.slice A0 2 c0) := by simp [World.cell?, hda]
  have b2 : U7.cell? ⟨ga, 2, none⟩ = some (.slice A1 2 c1) := by simp [World.cell?, hda]
  -- no such row
  go_wp2_with fail
  refine (dappend_no 0 A0 A1 2 c0 2 c1 2 0 none 0 0 _ rfl).mono ?_
  rintro e u8 ⟨rfl, hu8⟩
  clear b0 b1 b2
  go_upto_region 8 with (fail)
  have hv8 : Ext u8 (u8.alloc (.cells #[.int .u64 0, .slice A0 2 c0, .slice A1 2 c1] 30)) := (Below.refl _ u8).alloc (Nat.le_refl _) _
  have hd8 : (u8.alloc (.cells #[.int .u64 0, .slice A0 2 c0, .slice A1 2 c1] 30)).heap[u8.heap.size]? = some (.cells #[.int .u64 0, .slice A0 2 c0, .slice A1 2 c1] 30 (0, 0)) := heap_alloc_new u8 _
  generalize u8.alloc (.cells #[.int .u64 0, .slice A0 2 c0, .slice A1 2 c1] 30) = U8 at *
  generalize u8.heap.size = g8 at *
  replace hu8 := hu8.trans hv8
  replace hr0 := hr0.ext hu8
  replace hr1 := hr1.ext hu8
  replace hr4 := hr4.ext hu8
  replace hS6 := hS6.ext hu8
  replace hda := heap_ext hda hu8
  replace hd4 := heap_ext hd4 hu8
  replace hX := hX.trans hu8
  clear hv8 hu8
  have b0 : U8.cell? ⟨ga, 0, none⟩ = some (.int .u64 0) := by simp [World.cell?, hda]
  have b1 : U8.cell? ⟨ga, 1, none⟩ = some (.slice A0 2 c0) := by simp [World.cell?, hda]
  have b2 : U8.cell? ⟨ga, 2, none⟩ = some (.slice A1 2 c1) := by simp [World.cell?, hda]
  -- no such stream
  go_wp2_with fail
  refine (dread_no 0 A0 A1 2 c0 2 c1 0 2 _ rfl).mono ?_
  rintro e u9 ⟨rfl, hu9⟩
  clear b0 b1 b2
  go_upto_region 9 with (fail)
  replace hr0 := hr0.ext hu9
  replace hr1 := hr1.ext hu9
  replace hr4 := hr4.ext hu9
  replace hS6 := hS6.ext hu9
  replace hda := heap_ext hda hu9
  replace hd4 := heap_ext hd4 hu9
  replace hX := hX.trans hu9
  clear hu9
  have b0 : u9.cell? ⟨g4, 0, none⟩ = some (.int .u64 0) := by simp [World.cell?, hd4]
  have b1 : u9.cell? ⟨g4, 1, none⟩ = some (.slice A0 2 c0) := by simp [World.cell?, hd4]
  have b2 : u9.cell? ⟨g4, 2, none⟩ = some (.slice A4 2 c4) := by simp [World.cell?, hd4]
  -- cleared
  go_wp2_with fail
  refine (dclear_row1 0 A0 A4 2 c0 2 c4 _ (by omega) (by omega) (by omega)).mono ?_
  rintro e u10 ⟨A10, c10, rfl, hr10, hu10⟩
  clear b0 b1 b2
  go_upto_region 10 with (fail)
  have hv10 : Ext u10 (u10.alloc (.cells #[.int .u64 0, .slice A0 2 c0, .slice A10 2 c10] 30)) := (Below.refl _ u10).alloc (Nat.le_refl _) _
  have hd10 : (u10.alloc (.cells #[.int .u64 0, .slice A0 2 c0, .slice A10 2 c10] 30)).heap[u10.heap.size]? = some (.cells #[.int .u64 0, .slice A0 2 c0, .slice A10 2 c10] 30 (0, 0)) := heap_alloc_new u10 _
  generalize u10.alloc (.cells #[.int .u64 0, .slice A0 2 c0, .slice A10 2 c10] 30) = U10 at *
  generalize u10.heap.size = g10 at *
  replace hu10 := hu10.trans hv10
  replace hr10 := hr10.ext hv10
  replace hr0 := hr0.ext hu10
  replace hr1 := hr1.ext hu10
  replace hr4 := hr4.ext hu10
  replace hS6 := hS6.ext hu10
  replace hda := heap_ext hda hu10
  replace hd4 := heap_ext hd4 hu10
  replace hX := hX.trans hu10
  clear hv10 hu10
  obtain ⟨aZ, rfl, hZ0, -, -⟩ := hr10.at (j := 0) (s := St.zero) rfl
  have hall : ∀ wx, Ext U10 wx → wx.cell? ⟨ga, 0, none⟩ = some (.int .u64 0) ∧ wx.cell? ⟨ga, 1, none⟩ = some (.slice A0 2 c0) ∧ wx.cell? ⟨ga, 2, none⟩ = some (.slice A1 2 c1) ∧ wx.cell? ⟨g4, 0, none⟩ = some (.int .u64 0) ∧ wx.cell? ⟨g4, 1, none⟩ = some (.slice A0 2 c0) ∧ wx.cell? ⟨g4, 2, none⟩ = some (.slice A4 2 c4) ∧
      wx.cell? ⟨g10, 2, none⟩ = some (.slice (some aZ) 2 c10) ∧ wx.cell? aZ = some (.slice none 0 0) ∧ Ext U10 wx := fun wx hx =>
    ⟨hx.cell (by simp [World.cell?, hda]), hx.cell (by simp [World.cell?, hda]), hx.cell (by simp [World.cell?, hda]), hx.cell (by simp [World.cell?, hd4]), hx.cell (by simp [World.cell?, hd4]), hx.cell (by simp [World.cell?, hd4]), hx.cell (by simp [World.cell?, hd10]), hx.cell hZ0, hx⟩
  have hrt : rightD 2 2 (List.replicate 2 St.zero) [(⟨Dc, 4, cc, 2, [97, 98, 99, 100]⟩ : St), St.zero] = true := rfl
  have hrf : rightD 0 0 [] [] = false := rfl
  have hrA := fun wx (h : Ext U10 wx) => dright_any 0 A0 A4 2 c0 2 c4 _ _ wx (hr0.ext h) (hr4.ext h)
  have hrZ := fun wx => dright_any 0 none none 0 0 0 0 [] [] wx (row_nil wx) (row_nil wx)
  simp only [hrt] at hrA
  simp only [hrf] at hrZ
  have hrow := fun (v1 v2 : Value) (wx : World) => drow_any 7 v1 v2 wx (by omega)
  simp only [show ((7 : Nat) : Int) = 7 from rfl, show ((7 % 2 : Nat) : Int) = 1 from rfl] at hrow
  clear hda hd4 hd10 hr0 hr1 hr4 hr10 hrt hrf hz0 hzr hcr hcd kc hmk hmi hZ0
  obtain ⟨p0, p1, p2, p3, p4, p5, p6, p7, -⟩ := hall U10 (Ext.refl _)
  have q1 := run_convert_bytesV (P := Try.prog) hS6 Try.underlying40 Try.underlying5 Try.underlying9
  go_wp2_with fail
  refine (hrA U10 (Ext.refl _)).mono ?_
  rintro e v1 ⟨rfl, hv1⟩
  clear p0 p1 p2 p3 p4 p5 p6 p7 q1
  go_wp2_with fail
  refine (hrZ _).mono ?_
  rintro e v2 ⟨rfl, hv2⟩
  replace hv2 := hv1.trans hv2
  obtain ⟨p0, p1, p2, -⟩ := hall v2 hv2
  go_wp2_with fail
  refine (dsetroot_any 0 7 A0 A1 2 c0 2 c1 _).mono ?_
  rintro e v3 ⟨rfl, hv3⟩
  go_wp2_with fail
  refine (hrow _ _ _).mono ?_
  rintro e v4 ⟨rfl, hv4⟩
  go_wp2
  go_ret
  exact ⟨rfl, hX.trans ((hv2.trans hv3).trans hv4)⟩
end Go.Proofs.Ytennnhfaghdeoaa
