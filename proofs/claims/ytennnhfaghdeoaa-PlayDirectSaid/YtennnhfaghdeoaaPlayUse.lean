import Derived.Test.YtennnhfaghdeoaaPlayCalls
namespace Go.Proofs.Ytennnhfaghdeoaa
open Go.RowKit

/-! play.Load, .. of what a program is handed by play.Run. -/
theorem load_nx (gA gL m : Nat) (i : Int) (r : Res) (rs : List Res) (w : World) (h : DoAt m w gA gL (r :: rs)) :
    Calls Try.prog 26 #[doV gA gL, .int .i64 i] w fun e w' => e = .returned (.int .u64 r.n) ∧ DoAt m w' gA gL rs ∧ ExtB gA w w' :=
  pload_next 84 _ _ i r.n (fun w' => DoAt m w' gA gL rs ∧ ExtB gA w w') w Try.call84 ((do_next _ _ _ _ _ _ gA gL r rs m w h).mono fun e w' ⟨he, h1, h2⟩ => ⟨r.A, r.k, r.c, r.fail, he, h1, h2⟩)
theorem load_st (gA gL m : Nat) (i : Int) (w : World) (h : DoAt m w gA gL []) :
    Calls Try.prog 26 #[doV gA gL, .int .i64 i] w fun e w' => e = needP #[.int .i64 0, .int .i64 i, .int .u64 0, .int .u64 0, .slice none 0 0, .slice none 0 0] ∧ Ext w w' :=
  pload_stop 84 _ _ i _ (fun w' => Ext w w') w Try.call84 ((do_stop _ _ _ _ _ _ gA gL m w h).mono fun e w' h => h)
theorem store_nx (gA gL m : Nat) (i a : Int) (r : Res) (rs : List Res) (w : World) (h : DoAt m w gA gL (r :: rs)) :
    Calls Try.prog 25 #[doV gA gL, .int .i64 i, .int .u64 a] w fun e w' => e = .returned (.tuple #[]) ∧ DoAt m w' gA gL rs ∧ ExtB gA w w' :=
  pstore_next 84 _ _ i a r.n (fun w' => DoAt m w' gA gL rs ∧ ExtB gA w w') w Try.call84 ((do_next _ _ _ _ _ _ gA gL r rs m w h).mono fun e w' ⟨he, h1, h2⟩ => ⟨r.A, r.k, r.c, r.fail, he, h1, h2⟩)
theorem store_st (gA gL m : Nat) (i a : Int) (w : World) (h : DoAt m w gA gL []) :
    Calls Try.prog 25 #[doV gA gL, .int .i64 i, .int .u64 a] w fun e w' => e = needP #[.int .i64 1, .int .i64 i, .int .u64 a, .int .u64 0, .slice none 0 0, .slice none 0 0] ∧ Ext w w' :=
  pstore_stop 84 _ _ i a _ (fun w' => Ext w w') w Try.call84 ((do_stop _ _ _ _ _ _ gA gL m w h).mono fun e w' h => h)
theorem cas_nx (gA gL m : Nat) (i a b : Int) (r : Res) (rs : List Res) (w : World) (h : DoAt m w gA gL (r :: rs)) :
    Calls Try.prog 27 #[doV gA gL, .int .i64 i, .int .u64 a, .int .u64 b] w fun e w' => e = .returned (.bool (r.n == 1)) ∧ DoAt m w' gA gL rs ∧ ExtB gA w w' :=
  pcas_next 84 _ _ i a b r.n (fun w' => DoAt m w' gA gL rs ∧ ExtB gA w w') w Try.call84 ((do_next _ _ _ _ _ _ gA gL r rs m w h).mono fun e w' ⟨he, h1, h2⟩ => ⟨r.A, r.k, r.c, r.fail, he, h1, h2⟩)
theorem cas_st (gA gL m : Nat) (i a b : Int) (w : World) (h : DoAt m w gA gL []) :
    Calls Try.prog 27 #[doV gA gL, .int .i64 i, .int .u64 a, .int .u64 b] w fun e w' => e = needP #[.int .i64 2, .int .i64 i, .int .u64 a, .int .u64 b, .slice none 0 0, .slice none 0 0] ∧ Ext w w' :=
  pcas_stop 84 _ _ i a b _ (fun w' => Ext w w') w Try.call84 ((do_stop _ _ _ _ _ _ gA gL m w h).mono fun e w' h => h)
theorem add_nx (gA gL m : Nat) (i a : Int) (r : Res) (rs : List Res) (w : World) (h : DoAt m w gA gL (r :: rs)) :
    Calls Try.prog 28 #[doV gA gL, .int .i64 i, .int .u64 a] w fun e w' => e = .returned (.int .u64 r.n) ∧ DoAt m w' gA gL rs ∧ ExtB gA w w' :=
  padd_next 84 _ _ i a r.n (fun w' => DoAt m w' gA gL rs ∧ ExtB gA w w') w Try.call84 ((do_next _ _ _ _ _ _ gA gL r rs m w h).mono fun e w' ⟨he, h1, h2⟩ => ⟨r.A, r.k, r.c, r.fail, he, h1, h2⟩)
theorem add_st (gA gL m : Nat) (i a : Int) (w : World) (h : DoAt m w gA gL []) :
    Calls Try.prog 28 #[doV gA gL, .int .i64 i, .int .u64 a] w fun e w' => e = needP #[.int .i64 3, .int .i64 i, .int .u64 a, .int .u64 0, .slice none 0 0, .slice none 0 0] ∧ Ext w w' :=
  padd_stop 84 _ _ i a _ (fun w' => Ext w w') w Try.call84 ((do_stop _ _ _ _ _ _ gA gL m w h).mono fun e w' h => h)
theorem swap_nx (gA gL m : Nat) (i a : Int) (r : Res) (rs : List Res) (w : World) (h : DoAt m w gA gL (r :: rs)) :
    Calls Try.prog 29 #[doV gA gL, .int .i64 i, .int .u64 a] w fun e w' => e = .returned (.int .u64 r.n) ∧ DoAt m w' gA gL rs ∧ ExtB gA w w' :=
  pswap_next 84 _ _ i a r.n (fun w' => DoAt m w' gA gL rs ∧ ExtB gA w w') w Try.call84 ((do_next _ _ _ _ _ _ gA gL r rs m w h).mono fun e w' ⟨he, h1, h2⟩ => ⟨r.A, r.k, r.c, r.fail, he, h1, h2⟩)
theorem swap_st (gA gL m : Nat) (i a : Int) (w : World) (h : DoAt m w gA gL []) :
    Calls Try.prog 29 #[doV gA gL, .int .i64 i, .int .u64 a] w fun e w' => e = needP #[.int .i64 4, .int .i64 i, .int .u64 a, .int .u64 0, .slice none 0 0, .slice none 0 0] ∧ Ext w w' :=
  pswap_stop 84 _ _ i a _ (fun w' => Ext w w') w Try.call84 ((do_stop _ _ _ _ _ _ gA gL m w h).mono fun e w' h => h)
end Go.Proofs.Ytennnhfaghdeoaa
