/- (*Table).stamp. -/
import Derived.Test.YtgfokmgbphhpjaaStDig
import Derived.Test.YtgfokmgbphhpjaaStBytes
import Derived.BigQuiet
namespace Go.Proofs.Ytgfokmgbphhpjaa.St
open Go.RowKit Go.Proofs.YtgfokmgbphhpjaaW.PrintWords Go.Proofs.YtgfokmgbphhpjaaW.PrintLast Go.Proofs.YtgfokmgbphhpjaaW.PrintMore Go.Proofs.Ytgfokmgbphhpjaa.PStampKeeps
set_option linter.unusedVariables false
set_option linter.unusedSimpArgs false
abbrev ptr (g : Nat) : Value := .pointer (some ⟨g, 0, none⟩)
set_option maxHeartbeats 4000000 in
set_option maxRecDepth 1000000 in
theorem stamp_calls (w : World) (pt bits : Nat) (hb : bits ≤ 64) (A : Option Addr) (c : Nat) (b : List Int) (HC : Kd.C (Kd.int .u8) w A b.length b) (hc : b.length ≤ c) (hl : b.length ≤ 140737488351232) (hr : ∀ x ∈ b, 0 ≤ x ∧ x < 256) (hcell : w.cell? ⟨pt, 0, none⟩ = some (.int .i64 bits)) :
    Calls Try.prog 46 #[ptr pt, .slice A b.length c] w fun e w' => e = .returned (.int .u64 (stN bits b)) ∧ Drawn0 w w' := by
  have H1 := Aside0.mk (digest_digN b hl hr (b.length + 1) (by omega))
  have H2 := Aside0.mk (cut_tells (digN b) bits hb)
  have HC' := Aside0.mk HC
  have HCC := Aside0.mk hc
  clear HC hc hl hr hb
  go_enter Try.func46, Try.ntmps46
  go_wp2_with fail
  go_quiet (first
    | (go_at_call 39; exact Calls.quiet_of ((word_Digest.calls _ A c b _ _ (Kd.C_drewN HC'.out _) HCC.out H1.out).mono (fun e w' h => ⟨h.1, h.2.out⟩)))
    | (go_at_call 67; exact Calls.quiet_of ((word_Cut.calls _ _ _ _ _ H2.out).mono (fun e w' h => ⟨h.1, h.2.out⟩))))
  go_wp2
  go_ret
  exact ⟨rfl, ⟨⟨_, rfl⟩⟩⟩
end Go.Proofs.Ytgfokmgbphhpjaa.St
