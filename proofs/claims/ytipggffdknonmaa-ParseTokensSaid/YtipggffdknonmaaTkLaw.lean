/- The walk of ParseTokens: given what the reference tells, it returns true. -/
import Derived.Test.YtipggffdknonmaaTkToks
import Derived.Test.YtipggffdknonmaaOParseTokensx3
namespace Go.Proofs.Ytipggffdknonmaa.Tk
open Go.RowKit Go.Proofs.YtipggffdknonmaaW.PrintWords Go.Proofs.YtipggffdknonmaaW.PrintLast Go.Proofs.YtipggffdknonmaaW.PrintMore Go.Proofs.Ytipggffdknonmaa.PParseTokens
attribute [local go_sem] max2_int min2_int max_two min_two max_three min_three max_four min_four
set_option linter.unusedVariables false
set_option linter.unusedSimpArgs false
/-- What Tokens answers. -/
def tokR (s : ByteArray) : List S38 × Int × Int := if 8000 < s.size then ([], 2, 0) else tokF s.data.toList 0 0 []
theorem tokens_any (s : ByteArray) (L : List S38) (er at_ : Int) (h : tokR s = (L, er, at_)) (w : World) (hs : s.size ≤ 140737488351232) :
    Calls Try.prog 7 #[.string s] w fun e w' => ∃ v0 : Value, e = .returned (.tuple #[v0, .int .i64 er, .int .i64 at_]) ∧ Kd.R k38 38 w' w.heap.size (fun _ => True) v0 L ∧ Below w.heap.size w w' := by
  by_cases hb : 8000 < s.size
  · have hbig : decide (8000 < s.size) = true := decide_eq_true hb
    have hbig2 : decide ((8000 : Int) < (s.size : Int)) = true := decide_eq_true (by omega)
    unfold tokR at h
    rw [if_pos hb] at h
    obtain ⟨rfl, h2⟩ := Prod.mk.inj h
    obtain ⟨rfl, rfl⟩ := Prod.mk.inj h2
    clear h h2
    go_enter Try.func7, Try.ntmps7
    go_wp2
    go_ret3
    exact ⟨.slice none 0 0, rfl, Kd.R_nil _ _ _ _ _, Below.refl _ _⟩
  · unfold tokR at h
    rw [if_neg hb] at h
    refine (tokens_small s w (by omega)).mono fun e w' ht => ?_
    obtain ⟨v0, h1, h2, h3⟩ := ht
    rw [h] at h1 h2
    exact ⟨v0, h1, h2, h3⟩
set_option maxHeartbeats 4000000 in
set_option maxRecDepth 1000000 in
theorem law_walk (k : Nat) (s : ByteArray) (L : List S38) (er at_ : Int) (h7 : tokR s = (L, er, at_)) (h8 : organonref03_Tokens.f k s = some (L, er, at_)) (h9 : organonlaw03_sameTokens.f k L L = some true) (w : World) (hs : s.size ≤ 140737488351232) :
    Calls Try.prog 3 #[.string s] w fun e w' => e = .returned (.bool true) ∧ Below w.heap.size w w' := by
  have HB := Aside0.mk (Below.refl w.heap.size w)
  have H7 := Aside0.mk h7
  have H8 := Aside0.mk h8
  have H9 := Aside0.mk h9
  have e1 : (er == er) = true := beq_self_eq_true _
  have e2 : (at_ == at_) = true := beq_self_eq_true _
  clear h7 h8 h9
  go_enter Try.func3, Try.ntmps3
  go_wp2_with (first | (go_at_call 7; (with_reducible refine (tokens_any s L er at_ H7.out _ hs).mono ?_); rintro e w7 ⟨v7, rfl, ho0, hb⟩; have n0_ := Aside0.mk (Kd.R_lower ho0 (below_size (by repeat (first | (with_reducible first | exact HB.out | apply below_alloc | apply pw_below_drewN | apply below_drew1) | exact HB.out)))); have n1_ := Aside0.mk (below_step (by repeat (first | (with_reducible first | exact HB.out | apply below_alloc | apply pw_below_drewN | apply below_drew1) | exact HB.out)) hb); clear HB; have HO7 := n0_; have HB := n1_; clear n0_ n1_; (try clear hb); (try clear ho0); obtain ⟨Ao7, co7, eo7⟩ := Kd.R_slice HO7.out; subst eo7) | (go_at_call 8; (with_reducible refine (organonref03_Tokens.calls k s L er at_ _ H8.out).mono ?_); rintro e w8 ⟨v8, rfl, ho0, hb⟩; have n0_ := Aside0.mk (Kd.R_elder' (by (with_reducible repeat (first | apply Kd.R_alloc | apply Kd.R_drewN | apply Kd.R_drew)); exact HO7.out) (Kd.R_base ho0) hb); have n1_ := Aside0.mk (Kd.R_lower (Kd.R_new' ho0 (Kd.R_lt (by (with_reducible repeat (first | apply Kd.R_alloc | apply Kd.R_drewN | apply Kd.R_drew)); exact HO7.out))) (below_size (by repeat (first | (with_reducible first | exact HB.out | apply below_alloc | apply pw_below_drewN | apply below_drew1) | exact HB.out)))); have n2_ := Aside0.mk (below_step (by repeat (first | (with_reducible first | exact HB.out | apply below_alloc | apply pw_below_drewN | apply below_drew1) | exact HB.out)) hb); clear HB HO7; have HO7 := n0_; have HO8 := n1_; have HB := n2_; clear n0_ n1_ n2_; (try clear hb); (try clear ho0); obtain ⟨Ao8, co8, eo8⟩ := Kd.R_slice HO8.out; subst eo8) | (go_at_call 9; (with_reducible refine (organonlaw03_sameTokens.calls k _ _ L _ _ L true _ ?side1 ?side2 ?side3 ?side4 H9.out).mono ?_); (case side1 => repeat (first | exact (Kd.R_reads' HO7.out).2.2 | (with_reducible refine Kd.C_alloc ?_ _) | (with_reducible refine Kd.C_drewN ?_ _) | (with_reducible refine Kd.C_drew ?_))); (case side2 => exact (Kd.R_reads' HO7.out).2.1); (case side3 => repeat (first | exact (Kd.R_reads' HO8.out).2.2 | (with_reducible refine Kd.C_alloc ?_ _) | (with_reducible refine Kd.C_drewN ?_ _) | (with_reducible refine Kd.C_drew ?_))); (case side4 => exact (Kd.R_reads' HO8.out).2.1); rintro e w' ⟨rfl, ⟨nd, rfl⟩⟩))
  go_ret
  exact ⟨by first | rfl | (simp; done) | (simp [*]; done), by repeat (first | (with_reducible first | exact HB.out | apply below_alloc | apply pw_below_drewN | apply below_drew1) | exact HB.out)⟩
end Go.Proofs.Ytipggffdknonmaa.Tk
