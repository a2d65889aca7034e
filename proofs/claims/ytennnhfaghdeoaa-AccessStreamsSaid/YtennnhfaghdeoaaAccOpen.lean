import Derived.Test.YtennnhfaghdeoaaAccRK
import Derived.Test.YtennnhfaghdeoaaOpenWords
import Derived.Test.YtennnhfaghdeoaaDiskBig
namespace Go.Proofs.Ytennnhfaghdeoaa
open Go.ChangeShapes Go.WideShapes Go.ChangeAt Go.RowKit

/-! Worlds and accesses that came in. -/
/-- a world that came in -/
structure WldP (w : World) (A : Option Addr) (q c : Nat) (ws : List Int) (R : Int) (A0 A1 : Option Addr) (n0 c0 n1 c1 : Nat) (l0 l1 : List St) : Prop where
  words : WordsV w A q c ws
  row0 : RowV w A0 n0 c0 l0
  row1 : RowV w A1 n1 c1 l1
  root : 0 ≤ R ∧ R < 18446744073709551616
  z0 : ∀ s ∈ l0, s.q ≤ 140737488351232
  z1 : ∀ s ∈ l1, s.q ≤ 140737488351232
theorem WldP.ext {w w' : World} {A : Option Addr} {q c : Nat} {ws : List Int} {R : Int} {A0 A1 : Option Addr} {n0 c0 n1 c1 : Nat} {l0 l1 : List St} (h : WldP w A q c ws R A0 A1 n0 c0 n1 c1 l0 l1) (hx : Ext w w') : WldP w' A q c ws R A0 A1 n0 c0 n1 c1 l0 l1 :=
  ⟨h.words.ext hx, h.row0.ext hx, h.row1.ext hx, h.root, h.z0, h.z1⟩
theorem cellsMem : Try.prog.cellsOf 25 = 3 := by kernel_rfl
theorem cellsWorld : Try.prog.cellsOf 32 = 6 := by kernel_rfl
section
variable {H : Type} {enc : TypeId × Value → H} {w : World} {base : Nat}
set_option maxRecDepth 100000 in
theorem open_mem {fuel : Nat} {cs : List Value} {x : DataW H × List MemPlace} (hl : cs.length = 3) (h : DataW.trod enc Try.prog w base (fun _ => true) true fuel 25 cs = some x) :
    ∃ (T C : Int) (A : Option Addr) (q c : Nat) (ws : List Int), cs = [.int .i64 T, .int .i64 C, .slice A q c] ∧ WordsV w A q c ws := by
  obtain ⟨x0, x1, x2, rfl⟩ := list_three hl
  obtain ⟨k, hg⟩ := open_inner Try.underlying25 h
  obtain ⟨_, s0⟩ := hg 0 _ rfl
  obtain ⟨_, s1⟩ := hg 1 _ rfl
  obtain ⟨_, s2⟩ := hg 2 _ rfl
  obtain ⟨T, e0, _, w0⟩ := DataW.trod_int Try.underlying3 s0
  obtain ⟨C, e1, _, w1⟩ := DataW.trod_int Try.underlying3 s1
  obtain ⟨A, q, c, ws, e2, hA⟩ := open_words s2
  simp [cellsIntS, cellsWordsS] at e0 e1 e2
  subst e0 e1 e2
  exact ⟨T, C, A, q, c, ws, rfl, hA⟩
set_option maxRecDepth 100000 in
theorem open_world {fuel : Nat} {cs : List Value} {x : DataW H × List MemPlace} (hl : cs.length = 6) (h : DataW.trod enc Try.prog w base (fun _ => true) true fuel 32 cs = some x) (hL : Light Try.prog 32 x.1) :
    ∃ (T C : Int) (A : Option Addr) (q c : Nat) (ws : List Int) (R : Int) (A0 A1 : Option Addr) (n0 c0 n1 c1 : Nat) (l0 l1 : List St), cs = [.int .i64 T, .int .i64 C, .slice A q c, .int .u64 R, .slice A0 n0 c0, .slice A1 n1 c1] ∧ WldP w A q c ws R A0 A1 n0 c0 n1 c1 l0 l1 := by
  match cs, hl with
  | [x0, x1, x2, x3, x4, x5], _ =>
  obtain ⟨k, hg⟩ := open_inner_w Try.underlying32 h hL
  obtain ⟨_, s0, -⟩ := hg 0 _ rfl
  obtain ⟨_, s1, y1⟩ := hg 1 _ rfl
  obtain ⟨T, C, A, q, c, ws, e0, hA⟩ := open_mem (by simp [cellsMem]) s0
  obtain ⟨R, A0, A1, n0, c0, n1, c1, l0, l1, e1, h0, h1, hR, z0, z1⟩ := open_disk_w (by simp [cellsDiskE]) s1 y1
  simp [cellsMem, cellsDiskE] at e0 e1
  obtain ⟨rfl, rfl, rfl⟩ := e0
  obtain ⟨rfl, rfl, rfl⟩ := e1
  exact ⟨T, C, A, q, c, ws, R, A0, A1, n0, c0, n1, c1, l0, l1, rfl, hA, h0, h1, hR, z0, z1⟩
set_option maxRecDepth 100000 in
/-- an access that came in -/
theorem open_access {fuel : Nat} {cs : List Value} {x : DataW H × List MemPlace} (hl : cs.length = 6) (h : DataW.trod enc Try.prog w base (fun _ => true) true fuel 42 cs = some x) :
    ∃ A : AccK, AccV w (.agg cs.toArray) A := by
  obtain ⟨x0, x1, x2, x3, x4, x5, rfl⟩ := list_six hl
  obtain ⟨k, hg⟩ := open_inner Try.underlying42 h
  obtain ⟨_, s0⟩ := hg 0 _ rfl
  obtain ⟨_, s1⟩ := hg 1 _ rfl
  obtain ⟨_, s2⟩ := hg 2 _ rfl
  obtain ⟨_, s3⟩ := hg 3 _ rfl
  obtain ⟨_, s4⟩ := hg 4 _ rfl
  obtain ⟨_, s5⟩ := hg 5 _ rfl
  obtain ⟨i0, e0, _, w0⟩ := DataW.trod_int Try.underlying3 s0
  obtain ⟨i1, e1, _, w1⟩ := DataW.trod_int Try.underlying3 s1
  obtain ⟨i2, e2, _, w2⟩ := DataW.trod_int Try.underlying26 s2
  obtain ⟨i3, e3, _, w3⟩ := DataW.trod_int Try.underlying26 s3
  obtain ⟨D, dk, dc, d, e4, hD⟩ := open_bytes s4
  obtain ⟨B, wk, wc, ws, e5, hA⟩ := open_words s5
  simp [cellsBytes, cellsIntS, cellsU64S, cellsWordsS] at e0 e1 e2 e3 e4 e5
  subst e0 e1 e2 e3 e4 e5
  exact ⟨⟨i0, i1, i2, i3, d, ws⟩, D, dk, dc, B, wk, wc, rfl, hD, hA, wf_u64 w2, wf_u64 w3⟩
set_option maxRecDepth 100000 in
theorem open_words_arg {b0 : Nat} {v : Value} {d : DataW H} {p : List MemPlace} (hv : Value.okWide Try.prog w .any b0 23 v) (h : DataW.Trod enc Try.prog w base (fun _ => true) true 23 v d p) :
    ∃ A n c l, v = .slice A n c ∧ WordsV w A n c l := by
  obtain ⟨A0, n0, c0, rfl⟩ := okWide_slice Try.underlying23 hv
  obtain ⟨fuel, hf⟩ := h
  obtain ⟨A, n, c, l, e, hV⟩ := open_words hf
  simp [Value.cells] at e
  obtain ⟨rfl, rfl, rfl⟩ := e
  exact ⟨_, _, _, l, rfl, hV⟩
set_option maxRecDepth 100000 in
theorem open_world_arg {b0 : Nat} {v : Value} {d : DataW H} {p : List MemPlace} (hv : Value.okWide Try.prog w .any b0 32 v) (h : DataW.Trod enc Try.prog w base (fun _ => true) true 32 v d p) (hL : Light Try.prog 32 d) :
    ∃ (T C : Int) (A : Option Addr) (q c : Nat) (ws : List Int) (R : Int) (A0 A1 : Option Addr) (n0 c0 n1 c1 : Nat) (l0 l1 : List St), v = .agg #[.int .i64 T, .int .i64 C, .slice A q c, .int .u64 R, .slice A0 n0 c0, .slice A1 n1 c1] ∧ WldP w A q c ws R A0 A1 n0 c0 n1 c1 l0 l1 := by
  obtain ⟨cs, rfl, hsz⟩ := okWide_struct Try.underlying32 hv
  obtain ⟨fuel, hf⟩ := h
  obtain ⟨T, C, A, q, c, ws, R, A0, A1, n0, c0, n1, c1, l0, l1, e, hP⟩ := open_world (by rw [← cellsWorld]; simpa [Value.cells] using hsz) hf hL
  refine ⟨T, C, A, q, c, ws, R, A0, A1, n0, c0, n1, c1, l0, l1, ?_, hP⟩
  have : cs = cs.toList.toArray := by simp
  rw [this, show cs.toList = _ from e]
set_option maxRecDepth 100000 in
theorem open_access_arg {b0 : Nat} {v : Value} {d : DataW H} {p : List MemPlace} (hv : Value.okWide Try.prog w .any b0 42 v) (h : DataW.Trod enc Try.prog w base (fun _ => true) true 42 v d p) :
    ∃ A : AccK, AccV w v A := by
  obtain ⟨cs, rfl, hsz⟩ := okWide_struct Try.underlying42 hv
  obtain ⟨fuel, hf⟩ := h
  obtain ⟨A, hA⟩ := open_access (by rw [← show Try.prog.cellsOf 42 = 6 by kernel_rfl]; simpa [Value.cells] using hsz) hf
  refine ⟨A, ?_⟩
  have : cs = cs.toList.toArray := by simp
  rw [this]
  exact hA
end
/-- a small world's keys -/
theorem WldP.small {w : World} {T C : Int} {A : Option Addr} {q c : Nat} {ws : List Int} {R : Int} {A0 A1 : Option Addr} {n0 c0 n1 c1 : Nat} {l0 l1 : List St} (h : WldP w A q c ws R A0 A1 n0 c0 n1 c1 l0 l1) (hr : rightW T C q n0 n1 l0 l1 = true) (hs : sumQ l0 + sumQ l1 ≤ 4000) (hq : q ≤ 600) :
    n1 = n0 ∧ (n0 : Int) = T ∧ (1 ≤ T ∧ T ≤ 64 ∧ 0 ≤ C ∧ C ≤ 65536) ∧ (q : Int) = 8 + T + 8 * C ∧ Fit ⟨T, C, ws, R, n0, l0.map St.key, l1.map St.key⟩ 60000 ∧
      WldV w (.agg #[.int .i64 T, .int .i64 C, .slice A q c, .int .u64 R, .slice A0 n0 c0, .slice A1 n1 c1]) ⟨T, C, ws, R, n0, l0.map St.key, l1.map St.key⟩ := by
  simp only [rightW, rightM, rightD, Bool.and_eq_true, decide_eq_true_eq, beq_iff_eq] at hr
  obtain ⟨⟨hm, hqq⟩, ⟨⟨hn1, hn64, hnn⟩, hall⟩, hnT⟩ := hr
  have hmay := mayB_true hm
  subst hnn
  have hk : ∀ (l : List St) (A : Option Addr) (n c : Nat), RowV w A n c l → sumQ l ≤ 4000 → ∀ k ∈ l.map St.key, k.1.length + 60000 ≤ 65536 := fun l A n c hl hs k hk => by
    obtain ⟨s, hs', rfl⟩ := List.mem_map.1 hk
    have h1 := sumQ_mem hs'
    have h2 : s.d.length = s.q := (hl.ok s hs').len
    simp only [St.key]
    omega
  refine ⟨rfl, hnT, hmay, hqq, ⟨by simp only; omega, by simp only; omega, h.root, ?_, hk l0 _ _ _ h.row0 (by omega), hk l1 _ _ _ h.row1 (by omega)⟩, ⟨A, q, c, A0, A1, c0, c1, rfl, h.words, l0, l1, ⟨_, _, _, _, rfl, h.row0, h.row1⟩, rfl, rfl⟩⟩
  have := h.words.len
  simp only
  omega
end Go.Proofs.Ytennnhfaghdeoaa
