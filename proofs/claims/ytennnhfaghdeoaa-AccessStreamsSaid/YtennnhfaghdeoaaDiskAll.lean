import Derived.Test.YtennnhfaghdeoaaDiskSame
import Derived.Test.YtennnhfaghdeoaaDiskRefOps
import Derived.Test.YtennnhfaghdeoaaDiskKey
namespace Go.Proofs.Ytennnhfaghdeoaa
open Go.RowKit

/-! disk.* and wealdref07.*, for every row and number, told by what streams hold. -/
/-- a disk, told by what its streams hold -/
def DkK (w : World) (v : Value) (R : Int) (n : Nat) (K0 K1 : List Key) : Prop := ∃ (l0 l1 : List St), DkV w v R n n l0 l1 ∧ l0.map St.key = K0 ∧ l1.map St.key = K1
theorem DkK.ext {w w' : World} {v : Value} {R : Int} {n : Nat} {K0 K1 : List Key} (h : DkK w v R n K0 K1) (hx : Ext w w') : DkK w' v R n K0 K1 := let ⟨l0, l1, h0, h1, h2⟩ := h; ⟨l0, l1, h0.ext hx, h1, h2⟩
theorem DkK.len {w : World} {v : Value} {R : Int} {n : Nat} {K0 K1 : List Key} (h : DkK w v R n K0 K1) : K0.length = n ∧ K1.length = n := by
  obtain ⟨l0, l1, ⟨A0, A1, c0, c1, rfl, h0, h1⟩, rfl, rfl⟩ := h
  exact ⟨by rw [List.length_map]; exact h0.len, by rw [List.length_map]; exact h1.len⟩
theorem DkK.form {w : World} {v : Value} {R : Int} {n : Nat} {K0 K1 : List Key} (h : DkK w v R n K0 K1) : ∃ (A0 A1 : Option Addr) (c0 c1 : Nat), v = .agg #[.int .u64 R, .slice A0 n c0, .slice A1 n c1] := by
  obtain ⟨l0, l1, ⟨A0, A1, c0, c1, rfl, h0, h1⟩, _, _⟩ := h
  exact ⟨A0, A1, c0, c1, rfl⟩
/-- row and number of a stream that is there -/
theorem isB_yes {row i : Int} {n : Nat} (h : isB row i n n = true) : (row = 0 ∨ row = 1) ∧ ∃ j : Nat, i = (j : Int) ∧ j < n := by
  unfold isB at h
  split at h
  · have h' := of_decide_eq_true h
    exact ⟨.inl (by assumption), i.toNat, by omega, by omega⟩
  · split at h
    · have h' := of_decide_eq_true h
      exact ⟨.inr (by assumption), i.toNat, by omega, by omega⟩
    · exact absurd h (by simp)
theorem isB_in0 {n j : Nat} (h : j < n) : isB 0 (j : Int) n n = true := by simp [isB, h]
theorem isB_in1 {n j : Nat} (h : j < n) : isB 1 (j : Int) n n = true := by simp [isB, h]
def codeB (b : Bool) : Int := if b then 0 else 1
/-- one stream turned -/
def turnK (K : List Key) (i : Int) (f : Key → Key) : List Key := K.mapIdx fun j k => if (j : Int) = i then f k else k
theorem turnK_length (K : List Key) (i : Int) (f : Key → Key) : (turnK K i f).length = K.length := by simp [turnK]
theorem turnK_at (K : List Key) (i : Int) (f : Key → Key) (j : Nat) : (turnK K i f)[j]? = (K[j]?).map fun k => if (j : Int) = i then f k else k := by simp [turnK]
theorem turnK_set {l : List St} {j : Nat} {s s' : St} {f : Key → Key} (hs : l[j]? = some s) (hf : s'.key = f s.key) : (l.set j s').map St.key = turnK (l.map St.key) (j : Int) f := by
  refine List.ext_getElem? fun k => ?_
  rw [turnK_at, List.getElem?_map, List.getElem?_map]
  by_cases hk : k = j
  · subst hk
    rw [List.getElem?_set_self (List.getElem?_eq_some_iff.1 hs).1, hs]
    simp [hf]
  · rw [List.getElem?_set_ne (fun e => hk e.symm)]
    cases l[k]? with
    | none => rfl
    | some x =>
      have : ¬ (k : Int) = (j : Int) := by omega
      simp [this]
theorem turnK_out {K : List Key} {i : Int} {f : Key → Key} (h : ¬ (0 ≤ i ∧ i < (K.length : Int))) : turnK K i f = K := by
  refine List.ext_getElem? fun k => ?_
  rw [turnK_at]
  rcases Nat.lt_or_ge k K.length with hk | hk
  · rw [List.getElem?_eq_getElem hk]
    have : ¬ (k : Int) = i := by omega
    simp [this]
  · rw [List.getElem?_eq_none hk]; rfl
/-- a disk behind a call -/
def act0 (row i : Int) (f : Key → Key) (K0 : List Key) : List Key := if row = 0 then turnK K0 i f else K0
def act1 (row i : Int) (f : Key → Key) (K1 : List Key) : List Key := if row = 1 then turnK K1 i f else K1
theorem act0_length (row i : Int) (f : Key → Key) (K : List Key) : (act0 row i f K).length = K.length := by unfold act0; split <;> simp [turnK_length]
theorem act1_length (row i : Int) (f : Key → Key) (K : List Key) : (act1 row i f K).length = K.length := by unfold act1; split <;> simp [turnK_length]
theorem act0_no {row i : Int} {n : Nat} {f : Key → Key} {K : List Key} (h : isB row i n n = false) (hK : K.length = n) : act0 row i f K = K := by
  unfold act0
  split
  · subst_vars
    refine turnK_out fun h' => ?_
    simp only [isB, if_true, decide_eq_false_iff_not] at h
    exact h h'
  · rfl
theorem act1_no {row i : Int} {n : Nat} {f : Key → Key} {K : List Key} (h : isB row i n n = false) (hK : K.length = n) : act1 row i f K = K := by
  unfold act1
  split
  · subst_vars
    refine turnK_out fun h' => ?_
    simp only [isB, show ¬ (1 : Int) = 0 by decide, if_false, if_true, decide_eq_false_iff_not] at h
    exact h h'
  · rfl
def appK (b : List UInt8) (k : Key) : Key := (k.1 ++ b, k.2)
def synK (k : Key) : Key := (k.1, (k.1.length : Int))
/-- what is read -/
def readK (row i : Int) (K0 K1 : List Key) : List UInt8 := (((if row = 0 then K0 else if row = 1 then K1 else [])[i.toNat]?).filter fun _ => decide (0 ≤ i)).elim [] Prod.fst
theorem key_len {w : World} {s : St} (h : StOK w s) : s.key.1.length = s.q := h.len
theorem dkrow_at {w : World} {A : Option Addr} {n c : Nat} {l : List St} (h : RowV w A n c l) {j : Nat} (hj : j < n) : ∃ s, l[j]? = some s ∧ s ∈ l := ⟨l[j]'(by rw [h.len]; exact hj), List.getElem?_eq_getElem _, List.getElem_mem _⟩
theorem readK_0 {l : List St} {K1 : List Key} {j : Nat} {s : St} (hs : l[j]? = some s) : readK 0 (j : Int) (l.map St.key) K1 = s.d := by
  simp [readK, hs, St.key]; rfl
theorem readK_1 {l : List St} {K0 : List Key} {j : Nat} {s : St} (hs : l[j]? = some s) : readK 1 (j : Int) K0 (l.map St.key) = s.d := by
  simp [readK, hs, St.key]; rfl
theorem readK_no {row i : Int} {n : Nat} {K0 K1 : List Key} (h : isB row i n n = false) (h0 : K0.length = n) (h1 : K1.length = n) : readK row i K0 K1 = [] := by
  unfold readK
  by_cases hi : 0 ≤ i
  · by_cases r0 : row = 0
    · subst r0
      simp only [isB, if_true, decide_eq_false_iff_not] at h
      rw [if_pos rfl, List.getElem?_eq_none (by omega)]; rfl
    · by_cases r1 : row = 1
      · subst r1
        simp only [isB, show ¬ (1 : Int) = 0 by decide, if_false, if_true, decide_eq_false_iff_not] at h
        rw [if_neg (by decide), if_pos rfl, List.getElem?_eq_none (by omega)]; rfl
      · rw [if_neg r0, if_neg r1]; rfl
  · simp [hi]
theorem bytes_nil (w : World) : BytesV w none 0 0 [] := ⟨rfl, Nat.le_refl _, Nat.zero_le _, fun _ => rfl, Cells.nil _ _⟩
def clr0 (row : Int) (n : Nat) (K0 : List Key) : List Key := if row = 0 then List.replicate n ([], 0) else K0
def clr1 (row : Int) (n : Nat) (K1 : List Key) : List Key := if row = 1 then List.replicate n ([], 0) else K1
theorem zero_keys (n : Nat) : (List.replicate n St.zero).map St.key = List.replicate n ([], 0) := by simp [St.key, St.zero]
set_option maxHeartbeats 1000000 in
theorem dappend_K {R : Int} {n : Nat} {K0 K1 : List Key} {v : Value} {w : World} (row i : Int) {B : Option Addr} {m c2 : Nat} {b : List UInt8} (h : DkK w v R n K0 K1) (hn : n ≤ 65536) (hB : BytesV w B m c2 b) (hm0 : ∀ k ∈ K0, k.1.length + m ≤ 65536) (hm1 : ∀ k ∈ K1, k.1.length + m ≤ 65536) :
    Calls Try.prog 67 #[v, .int .i64 row, .int .i64 i, .slice B m c2] w fun e w' => ∃ v', e = .returned (.tuple #[v', .int .i64 (codeB (isB row i n n))]) ∧ DkK w' v' R n (act0 row i (appK b) K0) (act1 row i (appK b) K1) ∧ Ext w w' := by
  obtain ⟨l0, l1, ⟨A0, A1, c0, c1, rfl, h0, h1⟩, rfl, rfl⟩ := h
  by_cases hb : isB row i n n = true
  · obtain ⟨rfl | rfl, j, rfl, hj⟩ := isB_yes hb
    · obtain ⟨s, hs, hmem⟩ := dkrow_at h0 hj
      have hq := hm0 s.key (List.mem_map.2 ⟨s, hmem, rfl⟩)
      rw [key_len (h0.ok s hmem)] at hq
      refine (dappend_row0 R A0 A1 n c0 n c1 j l0 s B m c2 b w h0 hs hn hn hB hq).mono ?_
      rintro e w' ⟨A', c', s', rfl, hr, ⟨e1, e2, e3⟩, hx⟩
      rw [hb]
      exact ⟨_, rfl, ⟨_, _, ⟨_, _, _, _, rfl, hr, h1.ext hx⟩, turnK_set hs (by simp [St.key, appK, e2, e3]), rfl⟩, hx⟩
    · obtain ⟨s, hs, hmem⟩ := dkrow_at h1 hj
      have hq := hm1 s.key (List.mem_map.2 ⟨s, hmem, rfl⟩)
      rw [key_len (h1.ok s hmem)] at hq
      refine (dappend_row1 R A0 A1 n c0 n c1 j l1 s B m c2 b w h1 hs hn hn hB hq).mono ?_
      rintro e w' ⟨A', c', s', rfl, hr, ⟨e1, e2, e3⟩, hx⟩
      rw [hb]
      exact ⟨_, rfl, ⟨_, _, ⟨_, _, _, _, rfl, h0.ext hx, hr⟩, rfl, turnK_set hs (by simp [St.key, appK, e2, e3])⟩, hx⟩
  · have hb' : isB row i n n = false := by simpa using hb
    refine (dappend_no R A0 A1 n c0 n c1 row i B m c2 w hb').mono ?_
    rintro e w' ⟨rfl, hx⟩
    rw [hb', act0_no hb' (by rw [List.length_map]; exact h0.len), act1_no hb' (by rw [List.length_map]; exact h1.len)]
    exact ⟨_, rfl, ⟨_, _, ⟨_, _, _, _, rfl, h0.ext hx, h1.ext hx⟩, rfl, rfl⟩, hx⟩
set_option maxHeartbeats 1000000 in
theorem dsync_K {R : Int} {n : Nat} {K0 K1 : List Key} {v : Value} {w : World} (row i : Int) (h : DkK w v R n K0 K1) (hn : n ≤ 65536) (hm0 : ∀ k ∈ K0, k.1.length ≤ 65536) (hm1 : ∀ k ∈ K1, k.1.length ≤ 65536) :
    Calls Try.prog 69 #[v, .int .i64 row, .int .i64 i] w fun e w' => ∃ v', e = .returned (.tuple #[v', .int .i64 (codeB (isB row i n n))]) ∧ DkK w' v' R n (act0 row i synK K0) (act1 row i synK K1) ∧ Ext w w' := by
  obtain ⟨l0, l1, ⟨A0, A1, c0, c1, rfl, h0, h1⟩, rfl, rfl⟩ := h
  by_cases hb : isB row i n n = true
  · obtain ⟨rfl | rfl, j, rfl, hj⟩ := isB_yes hb
    · obtain ⟨s, hs, hmem⟩ := dkrow_at h0 hj
      have hq := hm0 s.key (List.mem_map.2 ⟨s, hmem, rfl⟩)
      have hk := key_len (h0.ok s hmem)
      rw [hk] at hq
      refine (dsync_row0 R A0 A1 n c0 n c1 j l0 s w h0 hs hn hn (by omega)).mono ?_
      rintro e w' ⟨A', c', s', rfl, hr, ⟨e1, e2, e3⟩, hx⟩
      rw [hb]
      exact ⟨_, rfl, ⟨_, _, ⟨_, _, _, _, rfl, hr, h1.ext hx⟩, turnK_set hs (by simp only [synK, hk]; simp [St.key, e2, e3]), rfl⟩, hx⟩
    · obtain ⟨s, hs, hmem⟩ := dkrow_at h1 hj
      have hq := hm1 s.key (List.mem_map.2 ⟨s, hmem, rfl⟩)
      have hk := key_len (h1.ok s hmem)
      rw [hk] at hq
      refine (dsync_row1 R A0 A1 n c0 n c1 j l1 s w h1 hs hn hn (by omega)).mono ?_
      rintro e w' ⟨A', c', s', rfl, hr, ⟨e1, e2, e3⟩, hx⟩
      rw [hb]
      exact ⟨_, rfl, ⟨_, _, ⟨_, _, _, _, rfl, h0.ext hx, hr⟩, rfl, turnK_set hs (by simp only [synK, hk]; simp [St.key, e2, e3])⟩, hx⟩
  · have hb' : isB row i n n = false := by simpa using hb
    refine (dsync_no R A0 A1 n c0 n c1 row i w hb').mono ?_
    rintro e w' ⟨rfl, hx⟩
    rw [hb', act0_no hb' (by rw [List.length_map]; exact h0.len), act1_no hb' (by rw [List.length_map]; exact h1.len)]
    exact ⟨_, rfl, ⟨_, _, ⟨_, _, _, _, rfl, h0.ext hx, h1.ext hx⟩, rfl, rfl⟩, hx⟩
set_option maxHeartbeats 1000000 in
theorem dread_K {R : Int} {n : Nat} {K0 K1 : List Key} {v : Value} {w : World} (row i : Int) (h : DkK w v R n K0 K1) (hn : n ≤ 65536) (hm0 : ∀ k ∈ K0, k.1.length ≤ 65536) (hm1 : ∀ k ∈ K1, k.1.length ≤ 65536) :
    Calls Try.prog 71 #[v, .int .i64 row, .int .i64 i] w fun e w' => ∃ (A : Option Addr) (q c : Nat), e = .returned (.tuple #[.slice A q c, .int .i64 (codeB (isB row i n n))]) ∧ BytesV w' A q c (readK row i K0 K1) ∧ Ext w w' := by
  obtain ⟨l0, l1, ⟨A0, A1, c0, c1, rfl, h0, h1⟩, rfl, rfl⟩ := h
  by_cases hb : isB row i n n = true
  · obtain ⟨rfl | rfl, j, rfl, hj⟩ := isB_yes hb
    · obtain ⟨s, hs, hmem⟩ := dkrow_at h0 hj
      have hq := hm0 s.key (List.mem_map.2 ⟨s, hmem, rfl⟩)
      rw [key_len (h0.ok s hmem)] at hq
      refine (dread_row0 R A0 A1 n c0 n c1 j l0 s w h0 hs hn hn (by omega)).mono ?_
      rintro e w' ⟨A', c', rfl, hr, hx⟩
      rw [hb, readK_0 hs]
      exact ⟨_, _, _, rfl, hr, hx⟩
    · obtain ⟨s, hs, hmem⟩ := dkrow_at h1 hj
      have hq := hm1 s.key (List.mem_map.2 ⟨s, hmem, rfl⟩)
      rw [key_len (h1.ok s hmem)] at hq
      refine (dread_row1 R A0 A1 n c0 n c1 j l1 s w h1 hs hn hn (by omega)).mono ?_
      rintro e w' ⟨A', c', rfl, hr, hx⟩
      rw [hb, readK_1 hs]
      exact ⟨_, _, _, rfl, hr, hx⟩
  · have hb' : isB row i n n = false := by simpa using hb
    refine (dread_no R A0 A1 n c0 n c1 row i w hb').mono ?_
    rintro e w' ⟨rfl, hx⟩
    rw [hb', readK_no hb' (by rw [List.length_map]; exact h0.len) (by rw [List.length_map]; exact h1.len)]
    exact ⟨_, _, _, rfl, bytes_nil _, hx⟩
set_option maxHeartbeats 1000000 in
theorem dclear_K {R : Int} {n : Nat} {K0 K1 : List Key} {v : Value} {w : World} (row : Int) (h : DkK w v R n K0 K1) (hn : n ≤ 65536) (hpos : 0 < n) :
    Calls Try.prog 73 #[v, .int .i64 row] w fun e w' => ∃ v', e = .returned (.tuple #[v', .int .i64 (codeB (decide (row = 0 ∨ row = 1)))]) ∧ DkK w' v' R n (clr0 row n K0) (clr1 row n K1) ∧ Ext w w' := by
  obtain ⟨l0, l1, ⟨A0, A1, c0, c1, rfl, h0, h1⟩, rfl, rfl⟩ := h
  by_cases r0 : row = 0
  · subst r0
    refine (dclear_row0 R A0 A1 n c0 n c1 w hpos hn hn).mono ?_
    rintro e w' ⟨A', c', rfl, hr, hx⟩
    exact ⟨_, rfl, ⟨_, _, ⟨_, _, _, _, rfl, hr, h1.ext hx⟩, zero_keys n, rfl⟩, hx⟩
  · by_cases r1 : row = 1
    · subst r1
      refine (dclear_row1 R A0 A1 n c0 n c1 w hpos hn hn).mono ?_
      rintro e w' ⟨A', c', rfl, hr, hx⟩
      exact ⟨_, rfl, ⟨_, _, ⟨_, _, _, _, rfl, h0.ext hx, hr⟩, rfl, zero_keys n⟩, hx⟩
    · refine (dclear_no R A0 A1 n c0 n c1 row w (by simp [isB, r0, r1])).mono ?_
      rintro e w' ⟨rfl, hx⟩
      rw [show decide (row = 0 ∨ row = 1) = false by simp [r0, r1], show clr0 row n (l0.map St.key) = l0.map St.key by simp [clr0, r0], show clr1 row n (l1.map St.key) = l1.map St.key by simp [clr1, r1]]
      exact ⟨_, rfl, ⟨_, _, ⟨_, _, _, _, rfl, h0.ext hx, h1.ext hx⟩, rfl, rfl⟩, hx⟩
/-- so many streams a row has a new disk -/
def newN (t : Int) : Nat := if 1 ≤ t ∧ t ≤ 64 then t.toNat else 0
set_option maxHeartbeats 1000000 in
theorem dnew_K (t : Int) (w : World) :
    Calls Try.prog 63 #[.int .i64 t] w fun e w' => ∃ v', e = .returned (.tuple #[v', .int .i64 (codeB (decide (1 ≤ t ∧ t ≤ 64)))]) ∧ DkK w' v' 0 (newN t) (List.replicate (newN t) ([], 0)) (List.replicate (newN t) ([], 0)) ∧ Ext w w' := by
  by_cases ht : 1 ≤ t ∧ t ≤ 64
  · obtain ⟨k, rfl⟩ : ∃ k : Nat, t = (k : Int) := ⟨t.toNat, by omega⟩
    refine (dnew_yes k w (by omega) (by omega)).mono ?_
    rintro e w' ⟨A0, A1, c0, c1, rfl, h0, h1, hx⟩
    rw [decide_eq_true ht, show newN (k : Int) = k by unfold newN; rw [if_pos ht]; rfl]
    exact ⟨_, rfl, ⟨_, _, ⟨_, _, _, _, rfl, h0, h1⟩, zero_keys k, zero_keys k⟩, hx⟩
  · refine (dnew_no t w (by omega)).mono ?_
    rintro e w' ⟨rfl, hx⟩
    rw [decide_eq_false ht, show newN t = 0 by unfold newN; rw [if_neg ht]]
    exact ⟨_, rfl, ⟨[], [], ⟨none, none, 0, 0, rfl, row_nil _, row_nil _⟩, rfl, rfl⟩, hx⟩
set_option maxHeartbeats 1000000 in
set_option maxHeartbeats 1000000 in
theorem rappend_K {R : Int} {n : Nat} {K0 K1 : List Key} {v : Value} {w : World} (row i : Int) {B : Option Addr} {m c2 : Nat} {b : List UInt8} (h : DkK w v R n K0 K1) (hn : n ≤ 65536) (hB : BytesV w B m c2 b) (hm0 : ∀ k ∈ K0, k.1.length + m ≤ 65536) (hm1 : ∀ k ∈ K1, k.1.length + m ≤ 65536) :
    Calls Try.prog 68 #[v, .int .i64 row, .int .i64 i, .slice B m c2] w fun e w' => ∃ v', e = .returned (.tuple #[v', .int .i64 (codeB (isB row i n n))]) ∧ DkK w' v' R n (act0 row i (appK b) K0) (act1 row i (appK b) K1) ∧ Ext w w' := by
  obtain ⟨l0, l1, ⟨A0, A1, c0, c1, rfl, h0, h1⟩, rfl, rfl⟩ := h
  by_cases hb : isB row i n n = true
  · obtain ⟨rfl | rfl, j, rfl, hj⟩ := isB_yes hb
    · obtain ⟨s, hs, hmem⟩ := dkrow_at h0 hj
      have hq := hm0 s.key (List.mem_map.2 ⟨s, hmem, rfl⟩)
      rw [key_len (h0.ok s hmem)] at hq
      refine (rappend_row0 R A0 A1 n c0 n c1 j l0 s B m c2 b w h0 hs hn rfl hB hq).mono ?_
      rintro e w' ⟨A', c', s', rfl, hr, ⟨e1, e2, e3⟩, hx⟩
      rw [hb]
      exact ⟨_, rfl, ⟨_, _, ⟨_, _, _, _, rfl, hr, h1.ext hx⟩, turnK_set hs (by simp [St.key, appK, e2, e3]), rfl⟩, hx⟩
    · obtain ⟨s, hs, hmem⟩ := dkrow_at h1 hj
      have hq := hm1 s.key (List.mem_map.2 ⟨s, hmem, rfl⟩)
      rw [key_len (h1.ok s hmem)] at hq
      refine (rappend_row1 R A0 A1 n c0 n c1 j l1 s B m c2 b w h1 hs hn rfl hB hq).mono ?_
      rintro e w' ⟨A', c', s', rfl, hr, ⟨e1, e2, e3⟩, hx⟩
      rw [hb]
      exact ⟨_, rfl, ⟨_, _, ⟨_, _, _, _, rfl, h0.ext hx, hr⟩, rfl, turnK_set hs (by simp [St.key, appK, e2, e3])⟩, hx⟩
  · have hb' : isB row i n n = false := by simpa using hb
    refine (rappend_no R A0 A1 n c0 n c1 row i B m c2 w hb').mono ?_
    rintro e w' ⟨rfl, hx⟩
    rw [hb', act0_no hb' (by rw [List.length_map]; exact h0.len), act1_no hb' (by rw [List.length_map]; exact h1.len)]
    exact ⟨_, rfl, ⟨_, _, ⟨_, _, _, _, rfl, h0.ext hx, h1.ext hx⟩, rfl, rfl⟩, hx⟩
set_option maxHeartbeats 1000000 in
theorem rsync_K {R : Int} {n : Nat} {K0 K1 : List Key} {v : Value} {w : World} (row i : Int) (h : DkK w v R n K0 K1) (hn : n ≤ 65536) (hm0 : ∀ k ∈ K0, k.1.length ≤ 65536) (hm1 : ∀ k ∈ K1, k.1.length ≤ 65536) :
    Calls Try.prog 70 #[v, .int .i64 row, .int .i64 i] w fun e w' => ∃ v', e = .returned (.tuple #[v', .int .i64 (codeB (isB row i n n))]) ∧ DkK w' v' R n (act0 row i synK K0) (act1 row i synK K1) ∧ Ext w w' := by
  obtain ⟨l0, l1, ⟨A0, A1, c0, c1, rfl, h0, h1⟩, rfl, rfl⟩ := h
  by_cases hb : isB row i n n = true
  · obtain ⟨rfl | rfl, j, rfl, hj⟩ := isB_yes hb
    · obtain ⟨s, hs, hmem⟩ := dkrow_at h0 hj
      have hq := hm0 s.key (List.mem_map.2 ⟨s, hmem, rfl⟩)
      have hk := key_len (h0.ok s hmem)
      rw [hk] at hq
      refine (rsync_row0 R A0 A1 n c0 n c1 j l0 s w h0 hs hn rfl (by omega)).mono ?_
      rintro e w' ⟨A', c', s', rfl, hr, ⟨e1, e2, e3⟩, hx⟩
      rw [hb]
      exact ⟨_, rfl, ⟨_, _, ⟨_, _, _, _, rfl, hr, h1.ext hx⟩, turnK_set hs (by simp only [synK, hk]; simp [St.key, e2, e3]), rfl⟩, hx⟩
    · obtain ⟨s, hs, hmem⟩ := dkrow_at h1 hj
      have hq := hm1 s.key (List.mem_map.2 ⟨s, hmem, rfl⟩)
      have hk := key_len (h1.ok s hmem)
      rw [hk] at hq
      refine (rsync_row1 R A0 A1 n c0 n c1 j l1 s w h1 hs hn rfl (by omega)).mono ?_
      rintro e w' ⟨A', c', s', rfl, hr, ⟨e1, e2, e3⟩, hx⟩
      rw [hb]
      exact ⟨_, rfl, ⟨_, _, ⟨_, _, _, _, rfl, h0.ext hx, hr⟩, rfl, turnK_set hs (by simp only [synK, hk]; simp [St.key, e2, e3])⟩, hx⟩
  · have hb' : isB row i n n = false := by simpa using hb
    refine (rsync_no R A0 A1 n c0 n c1 row i w hb').mono ?_
    rintro e w' ⟨rfl, hx⟩
    rw [hb', act0_no hb' (by rw [List.length_map]; exact h0.len), act1_no hb' (by rw [List.length_map]; exact h1.len)]
    exact ⟨_, rfl, ⟨_, _, ⟨_, _, _, _, rfl, h0.ext hx, h1.ext hx⟩, rfl, rfl⟩, hx⟩
set_option maxHeartbeats 1000000 in
theorem rread_K {R : Int} {n : Nat} {K0 K1 : List Key} {v : Value} {w : World} (row i : Int) (h : DkK w v R n K0 K1) (hn : n ≤ 65536) (hm0 : ∀ k ∈ K0, k.1.length ≤ 65536) (hm1 : ∀ k ∈ K1, k.1.length ≤ 65536) :
    Calls Try.prog 72 #[v, .int .i64 row, .int .i64 i] w fun e w' => ∃ (A : Option Addr) (q c : Nat), e = .returned (.tuple #[.slice A q c, .int .i64 (codeB (isB row i n n))]) ∧ BytesV w' A q c (readK row i K0 K1) ∧ Ext w w' := by
  obtain ⟨l0, l1, ⟨A0, A1, c0, c1, rfl, h0, h1⟩, rfl, rfl⟩ := h
  by_cases hb : isB row i n n = true
  · obtain ⟨rfl | rfl, j, rfl, hj⟩ := isB_yes hb
    · obtain ⟨s, hs, hmem⟩ := dkrow_at h0 hj
      have hq := hm0 s.key (List.mem_map.2 ⟨s, hmem, rfl⟩)
      rw [key_len (h0.ok s hmem)] at hq
      refine (rread_row0 R A0 A1 n c0 n c1 j l0 s w h0 hs rfl).mono ?_
      rintro e w' ⟨A', c', rfl, hr, hx⟩
      rw [hb, readK_0 hs]
      exact ⟨_, _, _, rfl, hr, hx⟩
    · obtain ⟨s, hs, hmem⟩ := dkrow_at h1 hj
      have hq := hm1 s.key (List.mem_map.2 ⟨s, hmem, rfl⟩)
      rw [key_len (h1.ok s hmem)] at hq
      refine (rread_row1 R A0 A1 n c0 n c1 j l1 s w h1 hs rfl).mono ?_
      rintro e w' ⟨A', c', rfl, hr, hx⟩
      rw [hb, readK_1 hs]
      exact ⟨_, _, _, rfl, hr, hx⟩
  · have hb' : isB row i n n = false := by simpa using hb
    refine (rread_no R A0 A1 n c0 n c1 row i w hb').mono ?_
    rintro e w' ⟨rfl, hx⟩
    rw [hb', readK_no hb' (by rw [List.length_map]; exact h0.len) (by rw [List.length_map]; exact h1.len)]
    exact ⟨_, _, _, rfl, bytes_nil _, hx⟩
set_option maxHeartbeats 1000000 in
theorem rclear_K {R : Int} {n : Nat} {K0 K1 : List Key} {v : Value} {w : World} (row : Int) (h : DkK w v R n K0 K1) (hn : n ≤ 65536) (hpos : 0 < n) :
    Calls Try.prog 74 #[v, .int .i64 row] w fun e w' => ∃ v', e = .returned (.tuple #[v', .int .i64 (codeB (decide (row = 0 ∨ row = 1)))]) ∧ DkK w' v' R n (clr0 row n K0) (clr1 row n K1) ∧ Ext w w' := by
  obtain ⟨l0, l1, ⟨A0, A1, c0, c1, rfl, h0, h1⟩, rfl, rfl⟩ := h
  by_cases r0 : row = 0
  · subst r0
    refine (rclear_row0 R A0 A1 n c0 n c1 w hn).mono ?_
    rintro e w' ⟨A', c', rfl, hr, hx⟩
    exact ⟨_, rfl, ⟨_, _, ⟨_, _, _, _, rfl, hr, h1.ext hx⟩, zero_keys n, rfl⟩, hx⟩
  · by_cases r1 : row = 1
    · subst r1
      refine (rclear_row1 R A0 A1 n c0 n c1 w hn).mono ?_
      rintro e w' ⟨A', c', rfl, hr, hx⟩
      exact ⟨_, rfl, ⟨_, _, ⟨_, _, _, _, rfl, h0.ext hx, hr⟩, rfl, zero_keys n⟩, hx⟩
    · refine (rclear_no R A0 A1 n c0 n c1 row w r0 r1).mono ?_
      rintro e w' ⟨rfl, hx⟩
      rw [show decide (row = 0 ∨ row = 1) = false by simp [r0, r1], show clr0 row n (l0.map St.key) = l0.map St.key by simp [clr0, r0], show clr1 row n (l1.map St.key) = l1.map St.key by simp [clr1, r1]]
      exact ⟨_, rfl, ⟨_, _, ⟨_, _, _, _, rfl, h0.ext hx, h1.ext hx⟩, rfl, rfl⟩, hx⟩
set_option maxHeartbeats 1000000 in
theorem rnew_K (t : Int) (w : World) :
    Calls Try.prog 64 #[.int .i64 t] w fun e w' => ∃ v', e = .returned (.tuple #[v', .int .i64 (codeB (decide (1 ≤ t ∧ t ≤ 64)))]) ∧ DkK w' v' 0 (newN t) (List.replicate (newN t) ([], 0)) (List.replicate (newN t) ([], 0)) ∧ Ext w w' := by
  by_cases ht : 1 ≤ t ∧ t ≤ 64
  · obtain ⟨k, rfl⟩ : ∃ k : Nat, t = (k : Int) := ⟨t.toNat, by omega⟩
    refine (rnew7_yes k w (by omega) (by omega)).mono ?_
    rintro e w' ⟨A0, A1, c0, c1, rfl, h0, h1, hx⟩
    rw [decide_eq_true ht, show newN (k : Int) = k by unfold newN; rw [if_pos ht]; rfl]
    exact ⟨_, rfl, ⟨_, _, ⟨_, _, _, _, rfl, h0, h1⟩, zero_keys k, zero_keys k⟩, hx⟩
  · refine (rnew7_no t w (by omega)).mono ?_
    rintro e w' ⟨rfl, hx⟩
    rw [decide_eq_false ht, show newN t = 0 by unfold newN; rw [if_neg ht]]
    exact ⟨_, rfl, ⟨[], [], ⟨none, none, 0, 0, rfl, row_nil _, row_nil _⟩, rfl, rfl⟩, hx⟩
set_option maxHeartbeats 1000000 in
set_option maxHeartbeats 1000000 in
theorem dsame_K {R : Int} {n : Nat} {K0 K1 : List Key} {v v' : Value} {w : World} (h : DkK w v R n K0 K1) (h' : DkK w v' R n K0 K1) :
    Calls Try.prog 38 #[v, v'] w fun e w' => e = .returned (.bool true) ∧ Ext w w' := by
  obtain ⟨l0, l1, ⟨A0, A1, c0, c1, rfl, h0, h1⟩, rfl, rfl⟩ := h
  obtain ⟨L0, L1, ⟨B0, B1, b0, b1, rfl, g0, g1⟩, k0, k1⟩ := h'
  exact dsame_yes R A0 A1 B0 B1 n c0 n c1 b0 b1 l0 l1 L0 L1 w h0 h1 g0 g1 k0.symm k1.symm
end Go.Proofs.Ytennnhfaghdeoaa
