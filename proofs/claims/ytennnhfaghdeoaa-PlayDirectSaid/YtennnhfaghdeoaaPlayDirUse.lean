import Derived.Test.YtennnhfaghdeoaaPlayDir
namespace Go.Proofs.Ytennnhfaghdeoaa
open Go.RowKit

/-! play.Load, .. of what makes accesses of a world at once. -/
def dirV (gP gM : Nat) : Value := .func (.func 82) #[] #[.pointer (some ⟨gP, 0, none⟩), .pointer (some ⟨gM, 0, none⟩)]
theorem load_dir (gP gM gw : Nat) (me : Int) (X : WldK) (i : Int) (w : World) (h : DirAt w gP gM gw me X) (hl2 : 2 ≤ X.ws.length) (hF : Fit X 0) :
    Calls Try.prog 26 #[dirV gP gM, .int .i64 i] w fun e w' => e = .returned (.int .u64 (doR X ⟨0, i, 0, 0, [], []⟩ false).N) ∧ DirAt w' gP gM gw me (doK X me ⟨0, i, 0, 0, [], []⟩ false) ∧ ExtB gw w w' := by
  refine pload_next 82 _ _ i (doR X ⟨0, i, 0, 0, [], []⟩ false).N (fun w' => DirAt w' gP gM gw me (doK X me ⟨0, i, 0, 0, [], []⟩ false) ∧ ExtB gw w w') w Try.call82 ((dir_any gP gM gw me X _ ⟨0, i, 0, 0, [], []⟩ w h ⟨none, 0, 0, none, 0, 0, rfl, bytes_nil _, words_nil _, by simp, by simp⟩ hl2 (by simpa [useM, diskKind] using hF)).mono ?_)
  rintro e w' ⟨r', rfl, ⟨B, q, c, rfl, -⟩, h1, h2⟩
  exact ⟨B, q, c, _, rfl, h1, h2⟩
theorem store_dir (gP gM gw : Nat) (me : Int) (X : WldK) (i a : Int) (w : World) (ha : 0 ≤ a ∧ a < 18446744073709551616) (h : DirAt w gP gM gw me X) (hl2 : 2 ≤ X.ws.length) (hF : Fit X 0) :
    Calls Try.prog 25 #[dirV gP gM, .int .i64 i, .int .u64 a] w fun e w' => e = .returned (.tuple #[]) ∧ DirAt w' gP gM gw me (doK X me ⟨1, i, a, 0, [], []⟩ false) ∧ ExtB gw w w' := by
  refine pstore_next 82 _ _ i a (doR X ⟨1, i, a, 0, [], []⟩ false).N (fun w' => DirAt w' gP gM gw me (doK X me ⟨1, i, a, 0, [], []⟩ false) ∧ ExtB gw w w') w Try.call82 ((dir_any gP gM gw me X _ ⟨1, i, a, 0, [], []⟩ w h ⟨none, 0, 0, none, 0, 0, rfl, bytes_nil _, words_nil _, ha, by simp⟩ hl2 (by simpa [useM, diskKind] using hF)).mono ?_)
  rintro e w' ⟨r', rfl, ⟨B, q, c, rfl, -⟩, h1, h2⟩
  exact ⟨B, q, c, _, rfl, h1, h2⟩
theorem cas_dir (gP gM gw : Nat) (me : Int) (X : WldK) (i a b : Int) (w : World) (ha : 0 ≤ a ∧ a < 18446744073709551616) (hb : 0 ≤ b ∧ b < 18446744073709551616) (h : DirAt w gP gM gw me X) (hl2 : 2 ≤ X.ws.length) (hF : Fit X 0) :
    Calls Try.prog 27 #[dirV gP gM, .int .i64 i, .int .u64 a, .int .u64 b] w fun e w' => e = .returned (.bool ((doR X ⟨2, i, a, b, [], []⟩ false).N == 1)) ∧ DirAt w' gP gM gw me (doK X me ⟨2, i, a, b, [], []⟩ false) ∧ ExtB gw w w' := by
  refine pcas_next 82 _ _ i a b (doR X ⟨2, i, a, b, [], []⟩ false).N (fun w' => DirAt w' gP gM gw me (doK X me ⟨2, i, a, b, [], []⟩ false) ∧ ExtB gw w w') w Try.call82 ((dir_any gP gM gw me X _ ⟨2, i, a, b, [], []⟩ w h ⟨none, 0, 0, none, 0, 0, rfl, bytes_nil _, words_nil _, ha, hb⟩ hl2 (by simpa [useM, diskKind] using hF)).mono ?_)
  rintro e w' ⟨r', rfl, ⟨B, q, c, rfl, -⟩, h1, h2⟩
  exact ⟨B, q, c, _, rfl, h1, h2⟩
theorem add_dir (gP gM gw : Nat) (me : Int) (X : WldK) (i a : Int) (w : World) (ha : 0 ≤ a ∧ a < 18446744073709551616) (h : DirAt w gP gM gw me X) (hl2 : 2 ≤ X.ws.length) (hF : Fit X 0) :
    Calls Try.prog 28 #[dirV gP gM, .int .i64 i, .int .u64 a] w fun e w' => e = .returned (.int .u64 (doR X ⟨3, i, a, 0, [], []⟩ false).N) ∧ DirAt w' gP gM gw me (doK X me ⟨3, i, a, 0, [], []⟩ false) ∧ ExtB gw w w' := by
  refine padd_next 82 _ _ i a (doR X ⟨3, i, a, 0, [], []⟩ false).N (fun w' => DirAt w' gP gM gw me (doK X me ⟨3, i, a, 0, [], []⟩ false) ∧ ExtB gw w w') w Try.call82 ((dir_any gP gM gw me X _ ⟨3, i, a, 0, [], []⟩ w h ⟨none, 0, 0, none, 0, 0, rfl, bytes_nil _, words_nil _, ha, by simp⟩ hl2 (by simpa [useM, diskKind] using hF)).mono ?_)
  rintro e w' ⟨r', rfl, ⟨B, q, c, rfl, -⟩, h1, h2⟩
  exact ⟨B, q, c, _, rfl, h1, h2⟩
theorem swap_dir (gP gM gw : Nat) (me : Int) (X : WldK) (i a : Int) (w : World) (ha : 0 ≤ a ∧ a < 18446744073709551616) (h : DirAt w gP gM gw me X) (hl2 : 2 ≤ X.ws.length) (hF : Fit X 0) :
    Calls Try.prog 29 #[dirV gP gM, .int .i64 i, .int .u64 a] w fun e w' => e = .returned (.int .u64 (doR X ⟨4, i, a, 0, [], []⟩ false).N) ∧ DirAt w' gP gM gw me (doK X me ⟨4, i, a, 0, [], []⟩ false) ∧ ExtB gw w w' := by
  refine pswap_next 82 _ _ i a (doR X ⟨4, i, a, 0, [], []⟩ false).N (fun w' => DirAt w' gP gM gw me (doK X me ⟨4, i, a, 0, [], []⟩ false) ∧ ExtB gw w w') w Try.call82 ((dir_any gP gM gw me X _ ⟨4, i, a, 0, [], []⟩ w h ⟨none, 0, 0, none, 0, 0, rfl, bytes_nil _, words_nil _, ha, by simp⟩ hl2 (by simpa [useM, diskKind] using hF)).mono ?_)
  rintro e w' ⟨r', rfl, ⟨B, q, c, rfl, -⟩, h1, h2⟩
  exact ⟨B, q, c, _, rfl, h1, h2⟩
end Go.Proofs.Ytennnhfaghdeoaa
