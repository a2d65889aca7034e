import Derived.Test.YtennnhfaghdeoaaDiskAll
import Derived.Test.YtennnhfaghdeoaaDiskSameC
import Derived.Test.YtennnhfaghdeoaaDiskRefCrash
namespace Go.Proofs.Ytennnhfaghdeoaa
open Go.RowKit

/-! disk.Crash and wealdref07.Crash, for every row and number, told by what streams hold. -/
set_option maxHeartbeats 1000000 in
theorem CutTo.cutK {l L : List St} {ms : List Int} {n : Nat} {w : World} (h : CutTo l L ms n) (hn : l.length = n) (hok : ∀ s ∈ l, StOK w s) : L.map St.key = cutK ms (l.map St.key) := by
  subst hn
  rw [h.keys]
  refine List.ext_getElem? fun i => ?_
  rw [List.getElem?_mapIdx, cutK_at, List.getElem?_map]
  cases hi : l[i]? with
  | none => rfl
  | some s =>
    have := key_len (hok s (List.mem_of_getElem? hi))
    simp only [Option.map_some, Option.some.injEq]
    simp [St.cut, St.key, cutKey, ← this]
set_option maxHeartbeats 1000000 in
theorem dcrash_K {R : Int} {n nM cM : Nat} {K0 K1 : List Key} {v : Value} {M : Option Addr} {ms : List Int} {w : World} (h : DkK w v R n K0 K1) (hn : n ≤ 1000) (hM : IntsV w M nM cM ms) (hr0 : ∀ k ∈ K0, rightB k.2 k.1.length = true ∧ k.1.length ≤ 65536) (hr1 : ∀ k ∈ K1, rightB k.2 k.1.length = true ∧ k.1.length ≤ 65536) :
    Calls Try.prog 76 #[v, .slice M nM cM] w fun e w' => ∃ v', e = .returned v' ∧ DkK w' v' R n (cutK ms K0) (cutK (ms.drop n) K1) ∧ Ext w w' := by
  obtain ⟨l0, l1, ⟨A0, A1, c0, c1, rfl, h0, h1⟩, rfl, rfl⟩ := h
  refine (dcrash_any R A0 A1 n c0 n c1 l0 l1 M nM cM ms w h0 h1 hn hn (fun s hs => ?_) (fun s hs => ?_) hM).mono ?_
  · have := hr0 s.key (List.mem_map.2 ⟨s, hs, rfl⟩)
    rw [key_len (h0.ok s hs)] at this
    exact ⟨this.1, by omega⟩
  · have := hr1 s.key (List.mem_map.2 ⟨s, hs, rfl⟩)
    rw [key_len (h1.ok s hs)] at this
    exact ⟨this.1, by omega⟩
  · rintro e w' ⟨A0', A1', c0', c1', L0, L1, rfl, g0, g1, t0, t1, hx⟩
    exact ⟨_, rfl, ⟨_, _, ⟨_, _, _, _, rfl, g0, g1⟩, t0.cutK h0.len h0.ok, t1.cutK h1.len h1.ok⟩, hx⟩
set_option maxHeartbeats 1000000 in
theorem rcrash_K {R : Int} {n nM cM : Nat} {K0 K1 : List Key} {v : Value} {M : Option Addr} {ms : List Int} {w : World} (h : DkK w v R n K0 K1) (hn : n ≤ 1000) (hM : IntsV w M nM cM ms) (hm : nM ≤ 65536) (hr0 : ∀ k ∈ K0, rightB k.2 k.1.length = true ∧ k.1.length ≤ 65536) (hr1 : ∀ k ∈ K1, rightB k.2 k.1.length = true ∧ k.1.length ≤ 65536) :
    Calls Try.prog 39 #[v, .slice M nM cM] w fun e w' => ∃ v', e = .returned v' ∧ DkK w' v' R n (cutK ms K0) (cutK (ms.drop n) K1) ∧ Ext w w' := by
  obtain ⟨l0, l1, ⟨A0, A1, c0, c1, rfl, h0, h1⟩, rfl, rfl⟩ := h
  refine (rcrash_any R A0 A1 n c0 c1 l0 l1 M nM cM ms w h0 h1 hn hm hr0 hr1 hM).mono ?_
  rintro e w' ⟨A0', A1', c0', c1', L0, L1, rfl, g0, g1, t0, t1, hx⟩
  exact ⟨_, rfl, ⟨_, _, ⟨_, _, _, _, rfl, g0, g1⟩, t0, t1⟩, hx⟩
end Go.Proofs.Ytennnhfaghdeoaa
