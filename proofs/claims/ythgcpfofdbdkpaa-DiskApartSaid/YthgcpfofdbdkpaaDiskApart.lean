/- Proved: the law DiskApart (a call turns its own stream alone; a root that is set turns none; a crash turns neither the root, nor what is synced) returns true at every input and turns none of its arguments. No condition. -/
import Derived.Test.YthgcpfofdbdkpaaDiskApartA
import Derived.Test.YthgcpfofdbdkpaaDiskApartB
namespace Go.Proofs.Ythgcpfofdbdkpaa
open Go.ChangeShapes Go.WideShapes Go.ChangeAt Go.RowKit

set_option maxRecDepth 100000 in
theorem open_dapart {H : Type} {enc : TypeId × Value → H} {w : World} {base : Nat} {b0 : Nat} {v : Value} {d : DataW H} {p : List MemPlace} (hv : Value.okWide Try.prog w .any b0 92 v) (h : DataW.Trod enc Try.prog w base (fun _ => true) true 92 v d p) (hL : Light Try.prog 92 d) :
    ∃ (R : Int) (A0 A1 : Option Addr) (n0 c0 n1 c1 : Nat) (l0 l1 : List St) (r i : Int) (B : Option Addr) (m cb : Nat) (bs : List UInt8) (nr : Int) (M : Option Addr) (nM cM : Nat) (ms : List Int),
      v = .agg #[.int .u64 R, .slice A0 n0 c0, .slice A1 n1 c1, .int .u8 r, .int .u8 i, .slice B m cb, .int .u64 nr, .slice M nM cM] ∧ RowV w A0 n0 c0 l0 ∧ RowV w A1 n1 c1 l1 ∧ (0 ≤ r ∧ r < 256) ∧ (0 ≤ i ∧ i < 256) ∧ BytesV w B m cb bs ∧ IntsV w M nM cM ms ∧
      (∀ s ∈ l0, s.q ≤ 140737488351232) ∧ (∀ s ∈ l1, s.q ≤ 140737488351232) := by
  obtain ⟨cs, rfl, hsz⟩ := okWide_struct Try.underlying92 hv
  obtain ⟨fuel, hf⟩ := h
  obtain ⟨k, hg⟩ := open_inner_w Try.underlying92 hf hL
  have hl : cs.toList.length = 8 := by simpa [show Try.prog.cellsOf 92 = 8 by kernel_rfl] using hsz
  have hcs : (Value.agg cs).cells.toList = cs.toList := rfl
  rw [hcs] at hg
  have hcs2 : cs = cs.toList.toArray := by simp
  rw [hcs2]
  generalize cs.toList = l at *
  match l, hl with
  | [x0, x1, x2, x3, x4, x5, x6, x7], _ =>
  obtain ⟨_, t0, y0⟩ := hg 0 _ rfl
  obtain ⟨_, t1, -⟩ := hg 1 _ rfl
  obtain ⟨_, t2, -⟩ := hg 2 _ rfl
  obtain ⟨_, t3, -⟩ := hg 3 _ rfl
  obtain ⟨_, t4, -⟩ := hg 4 _ rfl
  obtain ⟨_, t5, -⟩ := hg 5 _ rfl
  obtain ⟨R, A0, A1, n0, c0, n1, c1, l0, l1, e0, h0, h1, hR, z0, z1⟩ := open_disk_w (by simp [cellsDiskE]) t0 y0
  obtain ⟨r, e1, _, w1⟩ := DataW.trod_int Try.underlying5 t1
  obtain ⟨i, e2, _, w2⟩ := DataW.trod_int Try.underlying5 t2
  obtain ⟨B, m, cb, bs, e3, hB⟩ := open_bytes t3
  obtain ⟨nr, e4, _, w4⟩ := DataW.trod_int Try.underlying26 t4
  obtain ⟨M, nM, cM, ms, e5, hM⟩ := open_intsv7 t5
  simp [cellsU8E, cellsDiskE, cellsBytes, cellsU64E, show Try.prog.cellsOf 32 = 1 by kernel_rfl] at e0 e1 e2 e3 e4 e5
  obtain ⟨rfl, rfl, rfl⟩ := e0
  subst e1 e2 e3 e4 e5
  exact ⟨R, A0, A1, n0, c0, n1, c1, l0, l1, r, i, B, m, cb, bs, nr, M, nM, cM, ms, rfl, h0, h1, wf_u8 w1, wf_u8 w2, hB, hM, z0, z1⟩
set_option maxRecDepth 100000 in
theorem DiskApart_lifted (os : Os) (started : os.Started) (H : Type) (enc : TypeId × Value → H) :
    ReturnsInHanded {} Try.checked os 11 .any (Rows.diskApartSpec.pre6 enc Try.prog Try.f11 Rows.diskApartRow.domain false) (Rows.diskApartSpec.post enc Try.prog Try.f11 false true false false) := by
  refine law_row_w os started H enc Rows.diskApartSpec rfl (fun ds h => by
    match ds, h with
    | [_], _ => rfl) (by kernel_rfl) Try.func11 rfl
    (by rw [Try.params11]; intro t ht; simp at ht; subst ht; exact ⟨by kernel_rfl, of_decide_eq_true (by kernel_rfl)⟩)
    (ChangeSpec.witness6 (enc := enc) (C := Try.checked) false ⟨#[], #[.agg #[.int .u64 0, .slice none 0 0, .slice none 0 0, .int .u8 0, .int .u8 0, .slice none 0 0, .int .u64 0, .slice none 0 0]], []⟩ 8 (by kernel_rfl) (by kernel_rfl) (by kernel_rfl) (by kernel_rfl)) ?_
  intro W base args ds ps hval hA hlt hlight
  rw [Try.params11] at hA hval
  obtain ⟨v0, d0, rfl, rfl, h0⟩ := trodAll_one hA
  obtain ⟨R, A0, A1, n0, c0, n1, c1, l0, l1, r, i, B, m, cb, bs, nr, M, nM, cM, ms, rfl, hr0, hr1, hr, hi, hB, hM, z0, z1⟩ := open_dapart (hval 0 _ v0 rfl rfl) h0 (hlight 0 _ _ rfl rfl)
  obtain ⟨rn, rfl⟩ := Int.eq_ofNat_of_zero_le hr.1
  obtain ⟨iN, rfl⟩ := Int.eq_ofNat_of_zero_le hi.1
  rcases Nat.mod_two_eq_zero_or_one rn with hr2 | hr2
  · exact dapart_walk0 R A0 A1 n0 c0 n1 c1 l0 l1 rn iN B m cb bs nr M nM cM ms W hr0 hr1 (by omega) (by omega) hB hM hr2 z0 z1
  · exact dapart_walk1 R A0 A1 n0 c0 n1 c1 l0 l1 rn iN B m cb bs nr M nM cM ms W hr0 hr1 (by omega) (by omega) hB hM hr2 z0 z1
theorem DiskApart_holds : Rows.DiskApartSaid :=
  OpenClaim.holds_of_wide 11 Try.f11 rfl rfl rfl rfl rfl rfl rfl ⟨rfl, rfl, rfl, rfl, rfl⟩ rfl rfl rfl rfl rfl (by kernel_rfl) Try.func11 (by kernel_rfl)
    (of_decide_eq_true (by kernel_rfl)) (by unfold Func.isWrapper; rw [if_neg (of_decide_eq_false (by kernel_rfl))]; exact ⟨rfl, rfl⟩)
    (fun os started H enc _ => DiskApart_lifted os started H enc)
#print axioms DiskApart_holds
end Go.Proofs.Ythgcpfofdbdkpaa
