/- Proved: for every Work x and every two ints, SchedSide returns true: no condition. -/
import Derived.Test.YthcchpbidbbiaaaSch
import Derived.Test.YthcchpbidbbiaaaSci
import Derived.Test.YthcchpbidbbiaaaRows
import Derived.Test.YthcchpbidbbiaaaScg
import Derived.WalkKit
import Derived.ProofKit
import Derived.OpenShut
import Derived.ShutString
import Derived.ChangeOld
import Derived.Below
import Derived.SizedLaws
import Derived.Lib.SmallJoins
namespace Go.Proofs.Ythcchpbidbbiaaa.Sc
open Go.RowKit Go.Proofs.YthcchpbidbbiaaaW.PrintWords Go.Proofs.YthcchpbidbbiaaaW.PrintLast Go.Proofs.YthcchpbidbbiaaaW.PrintMore Go.Proofs.Ythcchpbidbbiaaa.PSchedSide
set_option linter.unusedVariables false
set_option linter.unusedSimpArgs false
/-- A move that is ready, by its kind; the workers by their numbers. -/
inductive Mv (m : Mach) (x : S64) : Evt → Mach → Prop
  | close (h0 : x.f0 = 0) (h1 : x.f1 = 0) (hd : m.disp = true) (hu : und m = 0) : Mv m x ⟨3, 0, -1, 0⟩ { m with disp := false, picks := m.picks + 1 }
  | drop (h0 : x.f0 = 0) (h1 : x.f1 = 1) (hs : m.stopped = true) (hd : m.disp = true) (hu : und m ≠ 0) : Mv m x ⟨2, 0, -1, 0⟩ { m with dropped := true, picks := m.picks + 1 }
  | send (h0 : x.f0 = 0) (h1 : x.f1 = 0) (hd : m.disp = true) (hu : und m ≠ 0) (hl : (m.sent.length : Int) < m.pj) : Mv m x ⟨1, 0, m.next, 0⟩ { m with sent := m.sent ++ [m.next], next := m.next + 1, picks := m.picks + 1 }
  | cancel (h0 : x.f0 = m.workers.length + 1) (h1 : x.f1 = 1) (hs : m.stopped = true) (hc : m.coll = true) : Mv m x ⟨11, x.f0, -1, 0⟩ { m with coll := false, outcome := 2, picks := m.picks + 1 }
  | full (h0 : x.f0 = m.workers.length + 1) (h1 : x.f1 = 0) (hc : m.coll = true) (hg : m.got.length = m.jobs.length) : Mv m x ⟨10, x.f0, -1, 0⟩ { m with coll := false, outcome := 1, picks := m.picks + 1 }
  | got (q : Int) (rest : List Int) (h0 : x.f0 = m.workers.length + 1) (h1 : x.f1 = 0) (hc : m.coll = true) (hg : m.got.length ≠ m.jobs.length) (hv : m.given = q :: rest) : Mv m x ⟨9, x.f0, q, 0⟩ { m with given := rest, got := m.got ++ [q], picks := m.picks + 1 }
  | quit (y : S59) (hp : 1 ≤ x.f0 ∧ x.f0 ≤ m.workers.length) (h1 : x.f1 = 1) (hy : wk m x.f0 = y) (hs : m.stopped = true) (hk : y.f0 ≠ 0) : Mv m x ⟨8, x.f0, jobOf y, 0⟩ { m with workers := setW m x.f0 ⟨0, 0, 0⟩, picks := m.picks + 1 }
  | step (y : S59) (hp : 1 ≤ x.f0 ∧ x.f0 ≤ m.workers.length) (h1 : x.f1 = 0) (hy : wk m x.f0 = y) (hk : y.f0 = 2) (hl : 0 < y.f2) : Mv m x ⟨5, x.f0, y.f1, rd m.jobs y.f1 - (y.f2 - 1) - 1⟩ { m with workers := setW m x.f0 ⟨2, y.f1, y.f2 - 1⟩, picks := m.picks + 1 }
  | gave (y : S59) (hp : 1 ≤ x.f0 ∧ x.f0 ≤ m.workers.length) (h1 : x.f1 = 0) (hy : wk m x.f0 = y) (hk : y.f0 = 2) (hz : ¬ 0 < y.f2) (hl : (m.given.length : Int) < m.pr) : Mv m x ⟨6, x.f0, y.f1, 0⟩ { m with given := m.given ++ [y.f1], judged := m.judged + 1, workers := setW m x.f0 ⟨1, 0, 0⟩, picks := m.picks + 1 }
  | left (y : S59) (hp : 1 ≤ x.f0 ∧ x.f0 ≤ m.workers.length) (h1 : x.f1 = 0) (hy : wk m x.f0 = y) (hk : y.f0 ≠ 0) (hz : y.f0 ≠ 2) (hs : m.sent = []) (hd : m.disp = false) : Mv m x ⟨7, x.f0, -1, 0⟩ { m with workers := setW m x.f0 ⟨0, 0, 0⟩, picks := m.picks + 1 }
  | took (y : S59) (q : Int) (rest : List Int) (hp : 1 ≤ x.f0 ∧ x.f0 ≤ m.workers.length) (h1 : x.f1 = 0) (hy : wk m x.f0 = y) (hk : y.f0 ≠ 0) (hz : y.f0 ≠ 2) (hq : m.sent = q :: rest) : Mv m x ⟨4, x.f0, q, 0⟩ { tookM m x.f0 q rest with picks := m.picks + 1 }
theorem mv_of_mem {m : Mach} {x : S64} (hx : x ∈ mvs m) : Mv m x (evOf m x) (step m x) := by
  obtain ⟨h0, h1, hr⟩ := mem_mvs.1 hx
  obtain ⟨p, c⟩ := x
  simp only [] at h0 h1 hr
  by_cases hp0 : p = 0
  · subst hp0
    have hrd : ∀ b, rdy m 0 b = readyD m b := fun b => by simp [rdy]
    rw [hrd, hrd] at hr
    unfold readyD at hr
    rcases hr with ⟨rfl, hr⟩ | ⟨rfl, hs, hr⟩
    · simp only [Bool.and_eq_true] at hr
      obtain ⟨hd, hr⟩ := hr
      by_cases hu : und m = 0
      · have := Mv.close (m := m) (x := ⟨0, 0⟩) rfl rfl hd hu
        simpa [evOf, Sc.step, act, hu] using this
      · rw [if_neg hu] at hr
        have hl : (m.sent.length : Int) < m.pj := by simpa using hr
        have := Mv.send (m := m) (x := ⟨0, 0⟩) rfl rfl hd hu hl
        simpa [evOf, Sc.step, act, hu] using this
    · simp only [Bool.and_eq_true] at hr
      obtain ⟨hd, hr⟩ := hr
      by_cases hu : und m = 0
      · rw [if_pos hu] at hr; simp at hr
      · have := Mv.drop (m := m) (x := ⟨0, 1⟩) rfl rfl hs hd hu
        simpa [evOf, Sc.step, act, hu] using this
  · by_cases hpn : p = m.workers.length + 1
    · have hrd : ∀ b, rdy m p b = readyC m b := fun b => by simp only [rdy]; rw [if_neg hp0, if_pos hpn]
      rw [hrd, hrd] at hr
      unfold readyC at hr
      rcases hr with ⟨rfl, hr⟩ | ⟨rfl, hs, hr⟩
      · simp only [Bool.and_eq_true] at hr
        obtain ⟨hc, hr⟩ := hr
        by_cases hg : m.got.length = m.jobs.length
        · have := Mv.full (m := m) (x := ⟨p, 0⟩) hpn rfl hc hg
          simp only [evOf, Sc.step, act]
          rw [if_neg hp0, if_pos hpn, if_neg (by decide), if_pos hg]
          exact this
        · have hgv : 0 < m.given.length := by simpa [hg] using hr
          obtain ⟨q, rest, hq⟩ : ∃ q rest, m.given = q :: rest := by
            cases h : m.given with
            | nil => rw [h] at hgv; simp at hgv
            | cons q rest => exact ⟨q, rest, rfl⟩
          have := Mv.got (m := m) (x := ⟨p, 0⟩) q rest hpn rfl hc hg hq
          simp only [evOf, Sc.step, act]
          rw [if_neg hp0, if_pos hpn, if_neg (by decide), if_neg hg, hq]
          exact this
      · simp only [Bool.and_eq_true] at hr
        have := Mv.cancel (m := m) (x := ⟨p, 1⟩) hpn rfl hs hr.1
        simp only [evOf, Sc.step, act]
        rw [if_neg hp0, if_pos hpn, if_pos (by decide)]
        exact this
    · have hrd : ∀ b, rdy m p b = readyW m p b := fun b => by simp only [rdy]; rw [if_neg hp0, if_neg hpn]
      rw [hrd, hrd] at hr
      unfold readyW at hr
      have hpp : 1 ≤ p ∧ p ≤ m.workers.length := by omega
      obtain ⟨y, hy⟩ : ∃ y, wk m p = y := ⟨_, rfl⟩
      rw [hy] at hr
      by_cases hk : y.f0 = 0
      · rw [if_pos hk, if_pos hk] at hr; simp at hr
      · rw [if_neg hk, if_neg hk] at hr
        rcases hr with ⟨rfl, hr⟩ | ⟨rfl, hs, hr⟩
        · rw [if_neg (by decide)] at hr
          by_cases h2 : y.f0 = 2
          · rw [if_pos h2] at hr
            by_cases hz : 0 < y.f2
            · have := Mv.step (m := m) (x := ⟨p, 0⟩) y hpp rfl hy h2 hz
              simp only [evOf, Sc.step, act, hy]
              rw [if_neg hp0, if_neg hpn, if_neg (by decide), if_pos h2, if_pos hz]
              exact this
            · rw [if_neg hz] at hr
              have := Mv.gave (m := m) (x := ⟨p, 0⟩) y hpp rfl hy h2 hz (by simpa using hr)
              simp only [evOf, Sc.step, act, hy]
              rw [if_neg hp0, if_neg hpn, if_neg (by decide), if_pos h2, if_neg hz]
              exact this
          · rw [if_neg h2] at hr
            by_cases hz : m.sent.length = 0
            · rw [if_pos hz] at hr
              have := Mv.left (m := m) (x := ⟨p, 0⟩) y hpp rfl hy hk h2 (List.eq_nil_of_length_eq_zero hz) (by simpa using hr)
              simp only [evOf, Sc.step, act, hy]
              rw [if_neg hp0, if_neg hpn, if_neg (by decide), if_neg h2, if_pos hz]
              exact this
            · obtain ⟨q, rest, hq⟩ : ∃ q rest, m.sent = q :: rest := by
                cases h : m.sent with
                | nil => rw [h] at hz; simp at hz
                | cons q rest => exact ⟨q, rest, rfl⟩
              have := Mv.took (m := m) (x := ⟨p, 0⟩) y q rest hpp rfl hy hk h2 hq
              simp only [evOf, Sc.step, act, hy]
              rw [if_neg hp0, if_neg hpn, if_neg (by decide), if_neg h2, if_neg hz, hq]
              exact this
        · have := Mv.quit (m := m) (x := ⟨p, 1⟩) y hpp rfl hy hs hk
          simp only [evOf, Sc.step, act, hy]
          rw [if_neg hp0, if_neg hpn, if_pos (by decide)]
          exact this
theorem mem_of_mv {m m' : Mach} {x : S64} {e : Evt} (h : Mv m x e m') : x ∈ mvs m ∧ evOf m x = e ∧ Sc.step m x = m' := by
  obtain ⟨p, c⟩ := x
  have key : ∀ (hb : 0 ≤ p ∧ p ≤ m.workers.length + 1) (hc : c = 0 ∨ (c = 1 ∧ m.stopped = true)) (hr : rdy m p (c == 1) = true) (ha : act m p (c == 1) = (e, { m' with picks := m.picks })) (hpk : m'.picks = m.picks + 1), (⟨p, c⟩ : S64) ∈ mvs m ∧ evOf m ⟨p, c⟩ = e ∧ Sc.step m ⟨p, c⟩ = m' := by
    intro hb hc hr ha hpk
    refine ⟨mem_mvs.2 ⟨hb.1, hb.2, ?_⟩, ?_, ?_⟩
    · rcases hc with rfl | ⟨rfl, hs⟩
      · exact .inl ⟨rfl, hr⟩
      · exact .inr ⟨rfl, hs, hr⟩
    · show (act m p (c == 1)).1 = e
      rw [ha]
    · show ({ (act m p (c == 1)).2 with picks := m.picks + 1 } : Mach) = m'
      rw [ha, ← hpk]
  cases h with
  | close h0 h1 hd hu =>
    simp only [] at *
    refine key (by subst h0; omega) (.inl h1) ?_ ?_ (by trivial)
    · subst h0 h1; simp [rdy, readyD, hd, hu]
    · subst h0 h1; simp [act, hu]
  | drop h0 h1 hs hd hu =>
    simp only [] at *
    refine key (by subst h0; omega) (.inr ⟨h1, hs⟩) ?_ ?_ (by trivial)
    · subst h0 h1; simp [rdy, readyD, hd, hu]
    · subst h0 h1; simp [act, hu]
  | send h0 h1 hd hu hl =>
    simp only [] at *
    refine key (by subst h0; omega) (.inl h1) ?_ ?_ (by trivial)
    · subst h0 h1; simp [rdy, readyD, hd, hu, hl]
    · subst h0 h1; simp [act, hu]
  | cancel h0 h1 hs hc =>
    simp only [] at *
    refine key (by subst h0; omega) (.inr ⟨h1, hs⟩) ?_ ?_ (by trivial)
    · subst h0 h1; unfold rdy; rw [if_neg (by omega), if_pos rfl]; simp [readyC, hc]
    · subst h0 h1; unfold act; rw [if_neg (by omega), if_pos rfl]; simp
  | full h0 h1 hc hg =>
    simp only [] at *
    refine key (by subst h0; omega) (.inl h1) ?_ ?_ (by trivial)
    · subst h0 h1; unfold rdy; rw [if_neg (by omega), if_pos rfl]; simp [readyC, hc, hg]
    · subst h0 h1; unfold act; rw [if_neg (by omega), if_pos rfl]; simp [hg]
  | got q rest h0 h1 hc hg hv =>
    simp only [] at *
    refine key (by subst h0; omega) (.inl h1) ?_ ?_ (by trivial)
    · subst h0 h1; unfold rdy; rw [if_neg (by omega), if_pos rfl]; simp [readyC, hc, hv]
    · subst h0 h1; unfold act; rw [if_neg (by omega), if_pos rfl]; simp [hg, hv]
  | quit y hp h1 hy hs hk =>
    simp only [] at *
    refine key (by omega) (.inr ⟨h1, hs⟩) ?_ ?_ (by trivial)
    · subst h1; unfold rdy readyW; rw [if_neg (by omega), if_neg (by omega), hy]; simp [hk]
    · subst h1; unfold act; rw [if_neg (by omega), if_neg (by omega), hy]; simp
  | step y hp h1 hy hk hl =>
    simp only [] at *
    refine key (by omega) (.inl h1) ?_ ?_ (by trivial)
    · subst h1; unfold rdy readyW; rw [if_neg (by omega), if_neg (by omega), hy]; simp [hk, hl]
    · subst h1; unfold act; rw [if_neg (by omega), if_neg (by omega), hy]; simp [hk, hl]
  | gave y hp h1 hy hk hz hl =>
    simp only [] at *
    refine key (by omega) (.inl h1) ?_ ?_ (by trivial)
    · subst h1; unfold rdy readyW; rw [if_neg (by omega), if_neg (by omega), hy]; simp [hk, hz, hl]
    · subst h1; unfold act; rw [if_neg (by omega), if_neg (by omega), hy]; simp [hk, hz]
  | left y hp h1 hy hk hz hs hd =>
    simp only [] at *
    refine key (by omega) (.inl h1) ?_ ?_ (by trivial)
    · subst h1; unfold rdy readyW; rw [if_neg (by omega), if_neg (by omega), hy]; simp [hk, hz, hs, hd]
    · subst h1; unfold act; rw [if_neg (by omega), if_neg (by omega), hy]; simp [hk, hz, hs]
  | took y q rest hp h1 hy hk hz hq =>
    simp only [] at *
    refine key (by omega) (.inl h1) ?_ ?_ (by trivial)
    · subst h1; unfold rdy readyW; rw [if_neg (by omega), if_neg (by omega), hy]; simp [hk, hz, hq]
    · subst h1; unfold act; rw [if_neg (by omega), if_neg (by omega), hy]; simp [hk, hz, hq, tookM]
/-- The kind of channel that an event uses. -/
def usesOf (k : Int) : Int := if k = 1 ∨ k = 4 ∨ k = 3 ∨ k = 7 then 1 else if k = 6 ∨ k = 9 then 2 else 0
theorem like_mk {a b : Mach} (h1 : b.pw = a.pw) (h2 : b.pj = a.pj) (h3 : b.pr = a.pr) (h4 : b.jobs = a.jobs) (h5 : b.next = a.next) (h6 : b.dropped = a.dropped) (h7 : b.disp = a.disp) (h8 : b.coll = a.coll) (h9 : b.workers = a.workers) (h10 : b.sent = a.sent) (h11 : b.given = a.given) (h12 : b.judged = a.judged) (h13 : b.got = a.got) (h14 : b.stopped = a.stopped) (h15 : b.outcome = a.outcome) (h16 : b.picks = a.picks) : Like a b := by
  cases a; cases b
  simp only [] at *
  subst_vars
  exact ⟨_, rfl⟩
theorem Like.symm {a b : Mach} (h : Like a b) : Like b a := by
  obtain ⟨p, rfl⟩ := h
  exact ⟨a.peak, rfl⟩
theorem wk_set_ne {m m' : Mach} {p q : Int} {z : S59} (hw : m'.workers = setW m p z) (hp : 1 ≤ p) (hq : 1 ≤ q) (hne : p ≠ q) : wk m' q = wk m q := by
  unfold wk
  rw [hw]
  unfold setW rd_T99
  rw [List.getD_eq_getElem?_getD, List.getD_eq_getElem?_getD, List.getElem?_set_ne (by omega)]
theorem setW_comm {m m1 m2 : Mach} {p q : Int} {y z : S59} (h1 : m1.workers = setW m p y) (h2 : m2.workers = setW m q z) (hp : 1 ≤ p) (hq : 1 ≤ q) (hne : p ≠ q) : setW m2 p y = setW m1 q z := by
  unfold setW at *
  rw [h1, h2]
  exact List.set_comm _ _ (by omega)
theorem setW_len {m : Mach} {p : Int} {y : S59} : (setW m p y).length = m.workers.length := by unfold setW; exact List.length_set
/-- The two orders. -/
def Dia (m1 m2 : Mach) (x1 x2 : S64) (e1 e2 : Evt) : Prop := ∃ m12 m21, Mv m1 x2 e2 m12 ∧ Mv m2 x1 e1 m21 ∧ Like m12 m21
theorem Dia.swap {m1 m2 : Mach} {x1 x2 : S64} {e1 e2 : Evt} (h : Dia m1 m2 x1 x2 e1 e2) : Dia m2 m1 x2 x1 e2 e1 := by
  obtain ⟨a, b, h1, h2, h3⟩ := h
  exact ⟨b, a, h2, h1, h3.symm⟩
theorem dia_dc {m m1 m2 : Mach} {x1 x2 : S64} {e1 e2 : Evt} (h1 : Mv m x1 e1 m1) (h2 : Mv m x2 e2 m2) (hne : x1.f0 ≠ x2.f0) (ha : e1.k = 1 ∨ e1.k = 2 ∨ e1.k = 3) (hb : e2.k = 9 ∨ e2.k = 10 ∨ e2.k = 11) (hu : ¬ (usesOf e1.k ≠ 0 ∧ usesOf e1.k = usesOf e2.k)) : Dia m1 m2 x1 x2 e1 e2 := by
  cases h1 with
  | close h01 h11 hd1 hu1 =>
    cases h2 with
    | close h02 h12 hd2 hu2 =>
      exfalso; revert hb; simp
    | drop h02 h12 hs2 hd2 hu2 =>
      exfalso; revert hb; simp
    | send h02 h12 hd2 hu2 hl2 =>
      exfalso; revert hb; simp
    | cancel h02 h12 hs2 hc2 =>
      exact ⟨_, _, .cancel h02 h12 hs2 hc2, .close h01 h11 hd1 hu1, like_mk rfl rfl rfl rfl rfl rfl rfl rfl rfl rfl rfl rfl rfl rfl rfl rfl⟩
    | full h02 h12 hc2 hg2 =>
      exact ⟨_, _, .full h02 h12 hc2 hg2, .close h01 h11 hd1 hu1, like_mk rfl rfl rfl rfl rfl rfl rfl rfl rfl rfl rfl rfl rfl rfl rfl rfl⟩
    | got q2 rest2 h02 h12 hc2 hg2 hv2 =>
      exact ⟨_, _, .got q2 rest2 h02 h12 hc2 hg2 hv2, .close h01 h11 hd1 hu1, like_mk rfl rfl rfl rfl rfl rfl rfl rfl rfl rfl rfl rfl rfl rfl rfl rfl⟩
    | quit y2 hp2 h12 hy2 hs2 hk2 =>
      exfalso; revert hb; simp
    | step y2 hp2 h12 hy2 hk2 hl2 =>
      exfalso; revert hb; simp
    | gave y2 hp2 h12 hy2 hk2 hz2 hl2 =>
      exfalso; revert hb; simp
    | left y2 hp2 h12 hy2 hk2 hz2 hs2 hd2 =>
      exfalso; revert hb; simp
    | took y2 q2 rest2 hp2 h12 hy2 hk2 hz2 hq2 =>
      exfalso; revert hb; simp
  | drop h01 h11 hs1 hd1 hu1 =>
    cases h2 with
    | close h02 h12 hd2 hu2 =>
      exfalso; revert hb; simp
    | drop h02 h12 hs2 hd2 hu2 =>
      exfalso; revert hb; simp
    | send h02 h12 hd2 hu2 hl2 =>
      exfalso; revert hb; simp
    | cancel h02 h12 hs2 hc2 =>
      exact ⟨_, _, .cancel h02 h12 hs2 hc2, .drop h01 h11 hs1 hd1 hu1, like_mk rfl rfl rfl rfl rfl rfl rfl rfl rfl rfl rfl rfl rfl rfl rfl rfl⟩
    | full h02 h12 hc2 hg2 =>
      exact ⟨_, _, .full h02 h12 hc2 hg2, .drop h01 h11 hs1 hd1 hu1, like_mk rfl rfl rfl rfl rfl rfl rfl rfl rfl rfl rfl rfl rfl rfl rfl rfl⟩
    | got q2 rest2 h02 h12 hc2 hg2 hv2 =>
      exact ⟨_, _, .got q2 rest2 h02 h12 hc2 hg2 hv2, .drop h01 h11 hs1 hd1 hu1, like_mk rfl rfl rfl rfl rfl rfl rfl rfl rfl rfl rfl rfl rfl rfl rfl rfl⟩
    | quit y2 hp2 h12 hy2 hs2 hk2 =>
      exfalso; revert hb; simp
    | step y2 hp2 h12 hy2 hk2 hl2 =>
      exfalso; revert hb; simp
    | gave y2 hp2 h12 hy2 hk2 hz2 hl2 =>
      exfalso; revert hb; simp
    | left y2 hp2 h12 hy2 hk2 hz2 hs2 hd2 =>
      exfalso; revert hb; simp
    | took y2 q2 rest2 hp2 h12 hy2 hk2 hz2 hq2 =>
      exfalso; revert hb; simp
  | send h01 h11 hd1 hu1 hl1 =>
    cases h2 with
    | close h02 h12 hd2 hu2 =>
      exfalso; revert hb; simp
    | drop h02 h12 hs2 hd2 hu2 =>
      exfalso; revert hb; simp
    | send h02 h12 hd2 hu2 hl2 =>
      exfalso; revert hb; simp
    | cancel h02 h12 hs2 hc2 =>
      exact ⟨_, _, .cancel h02 h12 hs2 hc2, .send h01 h11 hd1 hu1 hl1, like_mk rfl rfl rfl rfl rfl rfl rfl rfl rfl rfl rfl rfl rfl rfl rfl rfl⟩
    | full h02 h12 hc2 hg2 =>
      exact ⟨_, _, .full h02 h12 hc2 hg2, .send h01 h11 hd1 hu1 hl1, like_mk rfl rfl rfl rfl rfl rfl rfl rfl rfl rfl rfl rfl rfl rfl rfl rfl⟩
    | got q2 rest2 h02 h12 hc2 hg2 hv2 =>
      exact ⟨_, _, .got q2 rest2 h02 h12 hc2 hg2 hv2, .send h01 h11 hd1 hu1 hl1, like_mk rfl rfl rfl rfl rfl rfl rfl rfl rfl rfl rfl rfl rfl rfl rfl rfl⟩
    | quit y2 hp2 h12 hy2 hs2 hk2 =>
      exfalso; revert hb; simp
    | step y2 hp2 h12 hy2 hk2 hl2 =>
      exfalso; revert hb; simp
    | gave y2 hp2 h12 hy2 hk2 hz2 hl2 =>
      exfalso; revert hb; simp
    | left y2 hp2 h12 hy2 hk2 hz2 hs2 hd2 =>
      exfalso; revert hb; simp
    | took y2 q2 rest2 hp2 h12 hy2 hk2 hz2 hq2 =>
      exfalso; revert hb; simp
  | cancel h01 h11 hs1 hc1 =>
    exfalso; revert ha; simp
  | full h01 h11 hc1 hg1 =>
    exfalso; revert ha; simp
  | got q1 rest1 h01 h11 hc1 hg1 hv1 =>
    exfalso; revert ha; simp
  | quit y1 hp1 h11 hy1 hs1 hk1 =>
    exfalso; revert ha; simp
  | step y1 hp1 h11 hy1 hk1 hl1 =>
    exfalso; revert ha; simp
  | gave y1 hp1 h11 hy1 hk1 hz1 hl1 =>
    exfalso; revert ha; simp
  | left y1 hp1 h11 hy1 hk1 hz1 hs1 hd1 =>
    exfalso; revert ha; simp
  | took y1 q1 rest1 hp1 h11 hy1 hk1 hz1 hq1 =>
    exfalso; revert ha; simp
theorem dia_dw {m m1 m2 : Mach} {x1 x2 : S64} {e1 e2 : Evt} (h1 : Mv m x1 e1 m1) (h2 : Mv m x2 e2 m2) (hne : x1.f0 ≠ x2.f0) (ha : e1.k = 1 ∨ e1.k = 2 ∨ e1.k = 3) (hb : 4 ≤ e2.k ∧ e2.k ≤ 8) (hu : ¬ (usesOf e1.k ≠ 0 ∧ usesOf e1.k = usesOf e2.k)) : Dia m1 m2 x1 x2 e1 e2 := by
  cases h1 with
  | close h01 h11 hd1 hu1 =>
    cases h2 with
    | close h02 h12 hd2 hu2 =>
      exfalso; revert hb; simp
    | drop h02 h12 hs2 hd2 hu2 =>
      exfalso; revert hb; simp
    | send h02 h12 hd2 hu2 hl2 =>
      exfalso; revert hb; simp
    | cancel h02 h12 hs2 hc2 =>
      exfalso; revert hb; simp
    | full h02 h12 hc2 hg2 =>
      exfalso; revert hb; simp
    | got q2 rest2 h02 h12 hc2 hg2 hv2 =>
      exfalso; revert hb; simp
    | quit y2 hp2 h12 hy2 hs2 hk2 =>
      exact ⟨_, _, .quit y2 hp2 h12 hy2 hs2 hk2, .close h01 h11 hd1 hu1, like_mk rfl rfl rfl rfl rfl rfl rfl rfl rfl rfl rfl rfl rfl rfl rfl rfl⟩
    | step y2 hp2 h12 hy2 hk2 hl2 =>
      exact ⟨_, _, .step y2 hp2 h12 hy2 hk2 hl2, .close h01 h11 hd1 hu1, like_mk rfl rfl rfl rfl rfl rfl rfl rfl rfl rfl rfl rfl rfl rfl rfl rfl⟩
    | gave y2 hp2 h12 hy2 hk2 hz2 hl2 =>
      exact ⟨_, _, .gave y2 hp2 h12 hy2 hk2 hz2 hl2, .close h01 h11 hd1 hu1, like_mk rfl rfl rfl rfl rfl rfl rfl rfl rfl rfl rfl rfl rfl rfl rfl rfl⟩
    | left y2 hp2 h12 hy2 hk2 hz2 hs2 hd2 =>
      exact absurd ⟨by simp [usesOf], by simp [usesOf]⟩ hu
    | took y2 q2 rest2 hp2 h12 hy2 hk2 hz2 hq2 =>
      exact absurd ⟨by simp [usesOf], by simp [usesOf]⟩ hu
  | drop h01 h11 hs1 hd1 hu1 =>
    cases h2 with
    | close h02 h12 hd2 hu2 =>
      exfalso; revert hb; simp
    | drop h02 h12 hs2 hd2 hu2 =>
      exfalso; revert hb; simp
    | send h02 h12 hd2 hu2 hl2 =>
      exfalso; revert hb; simp
    | cancel h02 h12 hs2 hc2 =>
      exfalso; revert hb; simp
    | full h02 h12 hc2 hg2 =>
      exfalso; revert hb; simp
    | got q2 rest2 h02 h12 hc2 hg2 hv2 =>
      exfalso; revert hb; simp
    | quit y2 hp2 h12 hy2 hs2 hk2 =>
      exact ⟨_, _, .quit y2 hp2 h12 hy2 hs2 hk2, .drop h01 h11 hs1 hd1 hu1, like_mk rfl rfl rfl rfl rfl rfl rfl rfl rfl rfl rfl rfl rfl rfl rfl rfl⟩
    | step y2 hp2 h12 hy2 hk2 hl2 =>
      exact ⟨_, _, .step y2 hp2 h12 hy2 hk2 hl2, .drop h01 h11 hs1 hd1 hu1, like_mk rfl rfl rfl rfl rfl rfl rfl rfl rfl rfl rfl rfl rfl rfl rfl rfl⟩
    | gave y2 hp2 h12 hy2 hk2 hz2 hl2 =>
      exact ⟨_, _, .gave y2 hp2 h12 hy2 hk2 hz2 hl2, .drop h01 h11 hs1 hd1 hu1, like_mk rfl rfl rfl rfl rfl rfl rfl rfl rfl rfl rfl rfl rfl rfl rfl rfl⟩
    | left y2 hp2 h12 hy2 hk2 hz2 hs2 hd2 =>
      rw [hd1] at hd2; exact absurd hd2 (by decide)
    | took y2 q2 rest2 hp2 h12 hy2 hk2 hz2 hq2 =>
      exact ⟨_, _, .took y2 q2 rest2 hp2 h12 hy2 hk2 hz2 hq2, .drop h01 h11 hs1 hd1 hu1, like_mk rfl rfl rfl rfl rfl rfl rfl rfl rfl rfl rfl rfl rfl rfl rfl rfl⟩
  | send h01 h11 hd1 hu1 hl1 =>
    cases h2 with
    | close h02 h12 hd2 hu2 =>
      exfalso; revert hb; simp
    | drop h02 h12 hs2 hd2 hu2 =>
      exfalso; revert hb; simp
    | send h02 h12 hd2 hu2 hl2 =>
      exfalso; revert hb; simp
    | cancel h02 h12 hs2 hc2 =>
      exfalso; revert hb; simp
    | full h02 h12 hc2 hg2 =>
      exfalso; revert hb; simp
    | got q2 rest2 h02 h12 hc2 hg2 hv2 =>
      exfalso; revert hb; simp
    | quit y2 hp2 h12 hy2 hs2 hk2 =>
      exact ⟨_, _, .quit y2 hp2 h12 hy2 hs2 hk2, .send h01 h11 hd1 hu1 hl1, like_mk rfl rfl rfl rfl rfl rfl rfl rfl rfl rfl rfl rfl rfl rfl rfl rfl⟩
    | step y2 hp2 h12 hy2 hk2 hl2 =>
      exact ⟨_, _, .step y2 hp2 h12 hy2 hk2 hl2, .send h01 h11 hd1 hu1 hl1, like_mk rfl rfl rfl rfl rfl rfl rfl rfl rfl rfl rfl rfl rfl rfl rfl rfl⟩
    | gave y2 hp2 h12 hy2 hk2 hz2 hl2 =>
      exact ⟨_, _, .gave y2 hp2 h12 hy2 hk2 hz2 hl2, .send h01 h11 hd1 hu1 hl1, like_mk rfl rfl rfl rfl rfl rfl rfl rfl rfl rfl rfl rfl rfl rfl rfl rfl⟩
    | left y2 hp2 h12 hy2 hk2 hz2 hs2 hd2 =>
      exact absurd ⟨by simp [usesOf], by simp [usesOf]⟩ hu
    | took y2 q2 rest2 hp2 h12 hy2 hk2 hz2 hq2 =>
      exact absurd ⟨by simp [usesOf], by simp [usesOf]⟩ hu
  | cancel h01 h11 hs1 hc1 =>
    exfalso; revert ha; simp
  | full h01 h11 hc1 hg1 =>
    exfalso; revert ha; simp
  | got q1 rest1 h01 h11 hc1 hg1 hv1 =>
    exfalso; revert ha; simp
  | quit y1 hp1 h11 hy1 hs1 hk1 =>
    exfalso; revert ha; simp
  | step y1 hp1 h11 hy1 hk1 hl1 =>
    exfalso; revert ha; simp
  | gave y1 hp1 h11 hy1 hk1 hz1 hl1 =>
    exfalso; revert ha; simp
  | left y1 hp1 h11 hy1 hk1 hz1 hs1 hd1 =>
    exfalso; revert ha; simp
  | took y1 q1 rest1 hp1 h11 hy1 hk1 hz1 hq1 =>
    exfalso; revert ha; simp
theorem dia_cw {m m1 m2 : Mach} {x1 x2 : S64} {e1 e2 : Evt} (h1 : Mv m x1 e1 m1) (h2 : Mv m x2 e2 m2) (hne : x1.f0 ≠ x2.f0) (ha : e1.k = 9 ∨ e1.k = 10 ∨ e1.k = 11) (hb : 4 ≤ e2.k ∧ e2.k ≤ 8) (hu : ¬ (usesOf e1.k ≠ 0 ∧ usesOf e1.k = usesOf e2.k)) : Dia m1 m2 x1 x2 e1 e2 := by
  cases h1 with
  | close h01 h11 hd1 hu1 =>
    exfalso; revert ha; simp
  | drop h01 h11 hs1 hd1 hu1 =>
    exfalso; revert ha; simp
  | send h01 h11 hd1 hu1 hl1 =>
    exfalso; revert ha; simp
  | cancel h01 h11 hs1 hc1 =>
    cases h2 with
    | close h02 h12 hd2 hu2 =>
      exfalso; revert hb; simp
    | drop h02 h12 hs2 hd2 hu2 =>
      exfalso; revert hb; simp
    | send h02 h12 hd2 hu2 hl2 =>
      exfalso; revert hb; simp
    | cancel h02 h12 hs2 hc2 =>
      exfalso; revert hb; simp
    | full h02 h12 hc2 hg2 =>
      exfalso; revert hb; simp
    | got q2 rest2 h02 h12 hc2 hg2 hv2 =>
      exfalso; revert hb; simp
    | quit y2 hp2 h12 hy2 hs2 hk2 =>
      exact ⟨_, _, .quit y2 hp2 h12 hy2 hs2 hk2, .cancel (by rw [show (_ : Mach).workers.length = m.workers.length from setW_len]; exact h01) h11 hs1 hc1, like_mk rfl rfl rfl rfl rfl rfl rfl rfl rfl rfl rfl rfl rfl rfl rfl rfl⟩
    | step y2 hp2 h12 hy2 hk2 hl2 =>
      exact ⟨_, _, .step y2 hp2 h12 hy2 hk2 hl2, .cancel (by rw [show (_ : Mach).workers.length = m.workers.length from setW_len]; exact h01) h11 hs1 hc1, like_mk rfl rfl rfl rfl rfl rfl rfl rfl rfl rfl rfl rfl rfl rfl rfl rfl⟩
    | gave y2 hp2 h12 hy2 hk2 hz2 hl2 =>
      exact ⟨_, _, .gave y2 hp2 h12 hy2 hk2 hz2 hl2, .cancel (by rw [show (_ : Mach).workers.length = m.workers.length from setW_len]; exact h01) h11 hs1 hc1, like_mk rfl rfl rfl rfl rfl rfl rfl rfl rfl rfl rfl rfl rfl rfl rfl rfl⟩
    | left y2 hp2 h12 hy2 hk2 hz2 hs2 hd2 =>
      exact ⟨_, _, .left y2 hp2 h12 hy2 hk2 hz2 hs2 hd2, .cancel (by rw [show (_ : Mach).workers.length = m.workers.length from setW_len]; exact h01) h11 hs1 hc1, like_mk rfl rfl rfl rfl rfl rfl rfl rfl rfl rfl rfl rfl rfl rfl rfl rfl⟩
    | took y2 q2 rest2 hp2 h12 hy2 hk2 hz2 hq2 =>
      exact ⟨_, _, .took y2 q2 rest2 hp2 h12 hy2 hk2 hz2 hq2, .cancel (by rw [show (_ : Mach).workers.length = m.workers.length from setW_len]; exact h01) h11 hs1 hc1, like_mk rfl rfl rfl rfl rfl rfl rfl rfl rfl rfl rfl rfl rfl rfl rfl rfl⟩
  | full h01 h11 hc1 hg1 =>
    cases h2 with
    | close h02 h12 hd2 hu2 =>
      exfalso; revert hb; simp
    | drop h02 h12 hs2 hd2 hu2 =>
      exfalso; revert hb; simp
    | send h02 h12 hd2 hu2 hl2 =>
      exfalso; revert hb; simp
    | cancel h02 h12 hs2 hc2 =>
      exfalso; revert hb; simp
    | full h02 h12 hc2 hg2 =>
      exfalso; revert hb; simp
    | got q2 rest2 h02 h12 hc2 hg2 hv2 =>
      exfalso; revert hb; simp
    | quit y2 hp2 h12 hy2 hs2 hk2 =>
      exact ⟨_, _, .quit y2 hp2 h12 hy2 hs2 hk2, .full (by rw [show (_ : Mach).workers.length = m.workers.length from setW_len]; exact h01) h11 hc1 hg1, like_mk rfl rfl rfl rfl rfl rfl rfl rfl rfl rfl rfl rfl rfl rfl rfl rfl⟩
    | step y2 hp2 h12 hy2 hk2 hl2 =>
      exact ⟨_, _, .step y2 hp2 h12 hy2 hk2 hl2, .full (by rw [show (_ : Mach).workers.length = m.workers.length from setW_len]; exact h01) h11 hc1 hg1, like_mk rfl rfl rfl rfl rfl rfl rfl rfl rfl rfl rfl rfl rfl rfl rfl rfl⟩
    | gave y2 hp2 h12 hy2 hk2 hz2 hl2 =>
      exact ⟨_, _, .gave y2 hp2 h12 hy2 hk2 hz2 hl2, .full (by rw [show (_ : Mach).workers.length = m.workers.length from setW_len]; exact h01) h11 hc1 hg1, like_mk rfl rfl rfl rfl rfl rfl rfl rfl rfl rfl rfl rfl rfl rfl rfl rfl⟩
    | left y2 hp2 h12 hy2 hk2 hz2 hs2 hd2 =>
      exact ⟨_, _, .left y2 hp2 h12 hy2 hk2 hz2 hs2 hd2, .full (by rw [show (_ : Mach).workers.length = m.workers.length from setW_len]; exact h01) h11 hc1 hg1, like_mk rfl rfl rfl rfl rfl rfl rfl rfl rfl rfl rfl rfl rfl rfl rfl rfl⟩
    | took y2 q2 rest2 hp2 h12 hy2 hk2 hz2 hq2 =>
      exact ⟨_, _, .took y2 q2 rest2 hp2 h12 hy2 hk2 hz2 hq2, .full (by rw [show (_ : Mach).workers.length = m.workers.length from setW_len]; exact h01) h11 hc1 hg1, like_mk rfl rfl rfl rfl rfl rfl rfl rfl rfl rfl rfl rfl rfl rfl rfl rfl⟩
  | got q1 rest1 h01 h11 hc1 hg1 hv1 =>
    cases h2 with
    | close h02 h12 hd2 hu2 =>
      exfalso; revert hb; simp
    | drop h02 h12 hs2 hd2 hu2 =>
      exfalso; revert hb; simp
    | send h02 h12 hd2 hu2 hl2 =>
      exfalso; revert hb; simp
    | cancel h02 h12 hs2 hc2 =>
      exfalso; revert hb; simp
    | full h02 h12 hc2 hg2 =>
      exfalso; revert hb; simp
    | got q2 rest2 h02 h12 hc2 hg2 hv2 =>
      exfalso; revert hb; simp
    | quit y2 hp2 h12 hy2 hs2 hk2 =>
      exact ⟨_, _, .quit y2 hp2 h12 hy2 hs2 hk2, .got q1 rest1 (by rw [show (_ : Mach).workers.length = m.workers.length from setW_len]; exact h01) h11 hc1 hg1 hv1, like_mk rfl rfl rfl rfl rfl rfl rfl rfl rfl rfl rfl rfl rfl rfl rfl rfl⟩
    | step y2 hp2 h12 hy2 hk2 hl2 =>
      exact ⟨_, _, .step y2 hp2 h12 hy2 hk2 hl2, .got q1 rest1 (by rw [show (_ : Mach).workers.length = m.workers.length from setW_len]; exact h01) h11 hc1 hg1 hv1, like_mk rfl rfl rfl rfl rfl rfl rfl rfl rfl rfl rfl rfl rfl rfl rfl rfl⟩
    | gave y2 hp2 h12 hy2 hk2 hz2 hl2 =>
      exact absurd ⟨by simp [usesOf], by simp [usesOf]⟩ hu
    | left y2 hp2 h12 hy2 hk2 hz2 hs2 hd2 =>
      exact ⟨_, _, .left y2 hp2 h12 hy2 hk2 hz2 hs2 hd2, .got q1 rest1 (by rw [show (_ : Mach).workers.length = m.workers.length from setW_len]; exact h01) h11 hc1 hg1 hv1, like_mk rfl rfl rfl rfl rfl rfl rfl rfl rfl rfl rfl rfl rfl rfl rfl rfl⟩
    | took y2 q2 rest2 hp2 h12 hy2 hk2 hz2 hq2 =>
      exact ⟨_, _, .took y2 q2 rest2 hp2 h12 hy2 hk2 hz2 hq2, .got q1 rest1 (by rw [show (_ : Mach).workers.length = m.workers.length from setW_len]; exact h01) h11 hc1 hg1 hv1, like_mk rfl rfl rfl rfl rfl rfl rfl rfl rfl rfl rfl rfl rfl rfl rfl rfl⟩
  | quit y1 hp1 h11 hy1 hs1 hk1 =>
    exfalso; revert ha; simp
  | step y1 hp1 h11 hy1 hk1 hl1 =>
    exfalso; revert ha; simp
  | gave y1 hp1 h11 hy1 hk1 hz1 hl1 =>
    exfalso; revert ha; simp
  | left y1 hp1 h11 hy1 hk1 hz1 hs1 hd1 =>
    exfalso; revert ha; simp
  | took y1 q1 rest1 hp1 h11 hy1 hk1 hz1 hq1 =>
    exfalso; revert ha; simp
theorem dia_ww {m m1 m2 : Mach} {x1 x2 : S64} {e1 e2 : Evt} (h1 : Mv m x1 e1 m1) (h2 : Mv m x2 e2 m2) (hne : x1.f0 ≠ x2.f0) (ha : 4 ≤ e1.k ∧ e1.k ≤ 8) (hb : 4 ≤ e2.k ∧ e2.k ≤ 8) (hu : ¬ (usesOf e1.k ≠ 0 ∧ usesOf e1.k = usesOf e2.k)) : Dia m1 m2 x1 x2 e1 e2 := by
  cases h1 with
  | close h01 h11 hd1 hu1 =>
    exfalso; revert ha; simp
  | drop h01 h11 hs1 hd1 hu1 =>
    exfalso; revert ha; simp
  | send h01 h11 hd1 hu1 hl1 =>
    exfalso; revert ha; simp
  | cancel h01 h11 hs1 hc1 =>
    exfalso; revert ha; simp
  | full h01 h11 hc1 hg1 =>
    exfalso; revert ha; simp
  | got q1 rest1 h01 h11 hc1 hg1 hv1 =>
    exfalso; revert ha; simp
  | quit y1 hp1 h11 hy1 hs1 hk1 =>
    cases h2 with
    | close h02 h12 hd2 hu2 =>
      exfalso; revert hb; simp
    | drop h02 h12 hs2 hd2 hu2 =>
      exfalso; revert hb; simp
    | send h02 h12 hd2 hu2 hl2 =>
      exfalso; revert hb; simp
    | cancel h02 h12 hs2 hc2 =>
      exfalso; revert hb; simp
    | full h02 h12 hc2 hg2 =>
      exfalso; revert hb; simp
    | got q2 rest2 h02 h12 hc2 hg2 hv2 =>
      exfalso; revert hb; simp
    | quit y2 hp2 h12 hy2 hs2 hk2 =>
      exact ⟨_, _, .quit y2 ⟨hp2.1, by rw [show (_ : Mach).workers.length = m.workers.length from setW_len]; exact hp2.2⟩ h12 ((wk_set_ne rfl hp1.1 hp2.1 hne).trans hy2) hs2 hk2, .quit y1 ⟨hp1.1, by rw [show (_ : Mach).workers.length = m.workers.length from setW_len]; exact hp1.2⟩ h11 ((wk_set_ne rfl hp2.1 hp1.1 (Ne.symm hne)).trans hy1) hs1 hk1, like_mk rfl rfl rfl rfl rfl rfl rfl rfl (setW_comm rfl rfl hp1.1 hp2.1 hne) rfl rfl rfl rfl rfl rfl rfl⟩
    | step y2 hp2 h12 hy2 hk2 hl2 =>
      exact ⟨_, _, .step y2 ⟨hp2.1, by rw [show (_ : Mach).workers.length = m.workers.length from setW_len]; exact hp2.2⟩ h12 ((wk_set_ne rfl hp1.1 hp2.1 hne).trans hy2) hk2 hl2, .quit y1 ⟨hp1.1, by rw [show (_ : Mach).workers.length = m.workers.length from setW_len]; exact hp1.2⟩ h11 ((wk_set_ne rfl hp2.1 hp1.1 (Ne.symm hne)).trans hy1) hs1 hk1, like_mk rfl rfl rfl rfl rfl rfl rfl rfl (setW_comm rfl rfl hp1.1 hp2.1 hne) rfl rfl rfl rfl rfl rfl rfl⟩
    | gave y2 hp2 h12 hy2 hk2 hz2 hl2 =>
      exact ⟨_, _, .gave y2 ⟨hp2.1, by rw [show (_ : Mach).workers.length = m.workers.length from setW_len]; exact hp2.2⟩ h12 ((wk_set_ne rfl hp1.1 hp2.1 hne).trans hy2) hk2 hz2 hl2, .quit y1 ⟨hp1.1, by rw [show (_ : Mach).workers.length = m.workers.length from setW_len]; exact hp1.2⟩ h11 ((wk_set_ne rfl hp2.1 hp1.1 (Ne.symm hne)).trans hy1) hs1 hk1, like_mk rfl rfl rfl rfl rfl rfl rfl rfl (setW_comm rfl rfl hp1.1 hp2.1 hne) rfl rfl rfl rfl rfl rfl rfl⟩
    | left y2 hp2 h12 hy2 hk2 hz2 hs2 hd2 =>
      exact ⟨_, _, .left y2 ⟨hp2.1, by rw [show (_ : Mach).workers.length = m.workers.length from setW_len]; exact hp2.2⟩ h12 ((wk_set_ne rfl hp1.1 hp2.1 hne).trans hy2) hk2 hz2 hs2 hd2, .quit y1 ⟨hp1.1, by rw [show (_ : Mach).workers.length = m.workers.length from setW_len]; exact hp1.2⟩ h11 ((wk_set_ne rfl hp2.1 hp1.1 (Ne.symm hne)).trans hy1) hs1 hk1, like_mk rfl rfl rfl rfl rfl rfl rfl rfl (setW_comm rfl rfl hp1.1 hp2.1 hne) rfl rfl rfl rfl rfl rfl rfl⟩
    | took y2 q2 rest2 hp2 h12 hy2 hk2 hz2 hq2 =>
      exact ⟨_, _, .took y2 q2 rest2 ⟨hp2.1, by rw [show (_ : Mach).workers.length = m.workers.length from setW_len]; exact hp2.2⟩ h12 ((wk_set_ne rfl hp1.1 hp2.1 hne).trans hy2) hk2 hz2 hq2, .quit y1 ⟨hp1.1, by rw [show (_ : Mach).workers.length = m.workers.length from setW_len]; exact hp1.2⟩ h11 ((wk_set_ne rfl hp2.1 hp1.1 (Ne.symm hne)).trans hy1) hs1 hk1, like_mk rfl rfl rfl rfl rfl rfl rfl rfl (setW_comm rfl rfl hp1.1 hp2.1 hne) rfl rfl rfl rfl rfl rfl rfl⟩
  | step y1 hp1 h11 hy1 hk1 hl1 =>
    cases h2 with
    | close h02 h12 hd2 hu2 =>
      exfalso; revert hb; simp
    | drop h02 h12 hs2 hd2 hu2 =>
      exfalso; revert hb; simp
    | send h02 h12 hd2 hu2 hl2 =>
      exfalso; revert hb; simp
    | cancel h02 h12 hs2 hc2 =>
      exfalso; revert hb; simp
    | full h02 h12 hc2 hg2 =>
      exfalso; revert hb; simp
    | got q2 rest2 h02 h12 hc2 hg2 hv2 =>
      exfalso; revert hb; simp
    | quit y2 hp2 h12 hy2 hs2 hk2 =>
      exact ⟨_, _, .quit y2 ⟨hp2.1, by rw [show (_ : Mach).workers.length = m.workers.length from setW_len]; exact hp2.2⟩ h12 ((wk_set_ne rfl hp1.1 hp2.1 hne).trans hy2) hs2 hk2, .step y1 ⟨hp1.1, by rw [show (_ : Mach).workers.length = m.workers.length from setW_len]; exact hp1.2⟩ h11 ((wk_set_ne rfl hp2.1 hp1.1 (Ne.symm hne)).trans hy1) hk1 hl1, like_mk rfl rfl rfl rfl rfl rfl rfl rfl (setW_comm rfl rfl hp1.1 hp2.1 hne) rfl rfl rfl rfl rfl rfl rfl⟩
    | step y2 hp2 h12 hy2 hk2 hl2 =>
      exact ⟨_, _, .step y2 ⟨hp2.1, by rw [show (_ : Mach).workers.length = m.workers.length from setW_len]; exact hp2.2⟩ h12 ((wk_set_ne rfl hp1.1 hp2.1 hne).trans hy2) hk2 hl2, .step y1 ⟨hp1.1, by rw [show (_ : Mach).workers.length = m.workers.length from setW_len]; exact hp1.2⟩ h11 ((wk_set_ne rfl hp2.1 hp1.1 (Ne.symm hne)).trans hy1) hk1 hl1, like_mk rfl rfl rfl rfl rfl rfl rfl rfl (setW_comm rfl rfl hp1.1 hp2.1 hne) rfl rfl rfl rfl rfl rfl rfl⟩
    | gave y2 hp2 h12 hy2 hk2 hz2 hl2 =>
      exact ⟨_, _, .gave y2 ⟨hp2.1, by rw [show (_ : Mach).workers.length = m.workers.length from setW_len]; exact hp2.2⟩ h12 ((wk_set_ne rfl hp1.1 hp2.1 hne).trans hy2) hk2 hz2 hl2, .step y1 ⟨hp1.1, by rw [show (_ : Mach).workers.length = m.workers.length from setW_len]; exact hp1.2⟩ h11 ((wk_set_ne rfl hp2.1 hp1.1 (Ne.symm hne)).trans hy1) hk1 hl1, like_mk rfl rfl rfl rfl rfl rfl rfl rfl (setW_comm rfl rfl hp1.1 hp2.1 hne) rfl rfl rfl rfl rfl rfl rfl⟩
    | left y2 hp2 h12 hy2 hk2 hz2 hs2 hd2 =>
      exact ⟨_, _, .left y2 ⟨hp2.1, by rw [show (_ : Mach).workers.length = m.workers.length from setW_len]; exact hp2.2⟩ h12 ((wk_set_ne rfl hp1.1 hp2.1 hne).trans hy2) hk2 hz2 hs2 hd2, .step y1 ⟨hp1.1, by rw [show (_ : Mach).workers.length = m.workers.length from setW_len]; exact hp1.2⟩ h11 ((wk_set_ne rfl hp2.1 hp1.1 (Ne.symm hne)).trans hy1) hk1 hl1, like_mk rfl rfl rfl rfl rfl rfl rfl rfl (setW_comm rfl rfl hp1.1 hp2.1 hne) rfl rfl rfl rfl rfl rfl rfl⟩
    | took y2 q2 rest2 hp2 h12 hy2 hk2 hz2 hq2 =>
      exact ⟨_, _, .took y2 q2 rest2 ⟨hp2.1, by rw [show (_ : Mach).workers.length = m.workers.length from setW_len]; exact hp2.2⟩ h12 ((wk_set_ne rfl hp1.1 hp2.1 hne).trans hy2) hk2 hz2 hq2, .step y1 ⟨hp1.1, by rw [show (_ : Mach).workers.length = m.workers.length from setW_len]; exact hp1.2⟩ h11 ((wk_set_ne rfl hp2.1 hp1.1 (Ne.symm hne)).trans hy1) hk1 hl1, like_mk rfl rfl rfl rfl rfl rfl rfl rfl (setW_comm rfl rfl hp1.1 hp2.1 hne) rfl rfl rfl rfl rfl rfl rfl⟩
  | gave y1 hp1 h11 hy1 hk1 hz1 hl1 =>
    cases h2 with
    | close h02 h12 hd2 hu2 =>
      exfalso; revert hb; simp
    | drop h02 h12 hs2 hd2 hu2 =>
      exfalso; revert hb; simp
    | send h02 h12 hd2 hu2 hl2 =>
      exfalso; revert hb; simp
    | cancel h02 h12 hs2 hc2 =>
      exfalso; revert hb; simp
    | full h02 h12 hc2 hg2 =>
      exfalso; revert hb; simp
    | got q2 rest2 h02 h12 hc2 hg2 hv2 =>
      exfalso; revert hb; simp
    | quit y2 hp2 h12 hy2 hs2 hk2 =>
      exact ⟨_, _, .quit y2 ⟨hp2.1, by rw [show (_ : Mach).workers.length = m.workers.length from setW_len]; exact hp2.2⟩ h12 ((wk_set_ne rfl hp1.1 hp2.1 hne).trans hy2) hs2 hk2, .gave y1 ⟨hp1.1, by rw [show (_ : Mach).workers.length = m.workers.length from setW_len]; exact hp1.2⟩ h11 ((wk_set_ne rfl hp2.1 hp1.1 (Ne.symm hne)).trans hy1) hk1 hz1 hl1, like_mk rfl rfl rfl rfl rfl rfl rfl rfl (setW_comm rfl rfl hp1.1 hp2.1 hne) rfl rfl rfl rfl rfl rfl rfl⟩
    | step y2 hp2 h12 hy2 hk2 hl2 =>
      exact ⟨_, _, .step y2 ⟨hp2.1, by rw [show (_ : Mach).workers.length = m.workers.length from setW_len]; exact hp2.2⟩ h12 ((wk_set_ne rfl hp1.1 hp2.1 hne).trans hy2) hk2 hl2, .gave y1 ⟨hp1.1, by rw [show (_ : Mach).workers.length = m.workers.length from setW_len]; exact hp1.2⟩ h11 ((wk_set_ne rfl hp2.1 hp1.1 (Ne.symm hne)).trans hy1) hk1 hz1 hl1, like_mk rfl rfl rfl rfl rfl rfl rfl rfl (setW_comm rfl rfl hp1.1 hp2.1 hne) rfl rfl rfl rfl rfl rfl rfl⟩
    | gave y2 hp2 h12 hy2 hk2 hz2 hl2 =>
      exact absurd ⟨by simp [usesOf], by simp [usesOf]⟩ hu
    | left y2 hp2 h12 hy2 hk2 hz2 hs2 hd2 =>
      exact ⟨_, _, .left y2 ⟨hp2.1, by rw [show (_ : Mach).workers.length = m.workers.length from setW_len]; exact hp2.2⟩ h12 ((wk_set_ne rfl hp1.1 hp2.1 hne).trans hy2) hk2 hz2 hs2 hd2, .gave y1 ⟨hp1.1, by rw [show (_ : Mach).workers.length = m.workers.length from setW_len]; exact hp1.2⟩ h11 ((wk_set_ne rfl hp2.1 hp1.1 (Ne.symm hne)).trans hy1) hk1 hz1 hl1, like_mk rfl rfl rfl rfl rfl rfl rfl rfl (setW_comm rfl rfl hp1.1 hp2.1 hne) rfl rfl rfl rfl rfl rfl rfl⟩
    | took y2 q2 rest2 hp2 h12 hy2 hk2 hz2 hq2 =>
      exact ⟨_, _, .took y2 q2 rest2 ⟨hp2.1, by rw [show (_ : Mach).workers.length = m.workers.length from setW_len]; exact hp2.2⟩ h12 ((wk_set_ne rfl hp1.1 hp2.1 hne).trans hy2) hk2 hz2 hq2, .gave y1 ⟨hp1.1, by rw [show (_ : Mach).workers.length = m.workers.length from setW_len]; exact hp1.2⟩ h11 ((wk_set_ne rfl hp2.1 hp1.1 (Ne.symm hne)).trans hy1) hk1 hz1 hl1, like_mk rfl rfl rfl rfl rfl rfl rfl rfl (setW_comm rfl rfl hp1.1 hp2.1 hne) rfl rfl rfl rfl rfl rfl rfl⟩
  | left y1 hp1 h11 hy1 hk1 hz1 hs1 hd1 =>
    cases h2 with
    | close h02 h12 hd2 hu2 =>
      exfalso; revert hb; simp
    | drop h02 h12 hs2 hd2 hu2 =>
      exfalso; revert hb; simp
    | send h02 h12 hd2 hu2 hl2 =>
      exfalso; revert hb; simp
    | cancel h02 h12 hs2 hc2 =>
      exfalso; revert hb; simp
    | full h02 h12 hc2 hg2 =>
      exfalso; revert hb; simp
    | got q2 rest2 h02 h12 hc2 hg2 hv2 =>
      exfalso; revert hb; simp
    | quit y2 hp2 h12 hy2 hs2 hk2 =>
      exact ⟨_, _, .quit y2 ⟨hp2.1, by rw [show (_ : Mach).workers.length = m.workers.length from setW_len]; exact hp2.2⟩ h12 ((wk_set_ne rfl hp1.1 hp2.1 hne).trans hy2) hs2 hk2, .left y1 ⟨hp1.1, by rw [show (_ : Mach).workers.length = m.workers.length from setW_len]; exact hp1.2⟩ h11 ((wk_set_ne rfl hp2.1 hp1.1 (Ne.symm hne)).trans hy1) hk1 hz1 hs1 hd1, like_mk rfl rfl rfl rfl rfl rfl rfl rfl (setW_comm rfl rfl hp1.1 hp2.1 hne) rfl rfl rfl rfl rfl rfl rfl⟩
    | step y2 hp2 h12 hy2 hk2 hl2 =>
      exact ⟨_, _, .step y2 ⟨hp2.1, by rw [show (_ : Mach).workers.length = m.workers.length from setW_len]; exact hp2.2⟩ h12 ((wk_set_ne rfl hp1.1 hp2.1 hne).trans hy2) hk2 hl2, .left y1 ⟨hp1.1, by rw [show (_ : Mach).workers.length = m.workers.length from setW_len]; exact hp1.2⟩ h11 ((wk_set_ne rfl hp2.1 hp1.1 (Ne.symm hne)).trans hy1) hk1 hz1 hs1 hd1, like_mk rfl rfl rfl rfl rfl rfl rfl rfl (setW_comm rfl rfl hp1.1 hp2.1 hne) rfl rfl rfl rfl rfl rfl rfl⟩
    | gave y2 hp2 h12 hy2 hk2 hz2 hl2 =>
      exact ⟨_, _, .gave y2 ⟨hp2.1, by rw [show (_ : Mach).workers.length = m.workers.length from setW_len]; exact hp2.2⟩ h12 ((wk_set_ne rfl hp1.1 hp2.1 hne).trans hy2) hk2 hz2 hl2, .left y1 ⟨hp1.1, by rw [show (_ : Mach).workers.length = m.workers.length from setW_len]; exact hp1.2⟩ h11 ((wk_set_ne rfl hp2.1 hp1.1 (Ne.symm hne)).trans hy1) hk1 hz1 hs1 hd1, like_mk rfl rfl rfl rfl rfl rfl rfl rfl (setW_comm rfl rfl hp1.1 hp2.1 hne) rfl rfl rfl rfl rfl rfl rfl⟩
    | left y2 hp2 h12 hy2 hk2 hz2 hs2 hd2 =>
      exact absurd ⟨by simp [usesOf], by simp [usesOf]⟩ hu
    | took y2 q2 rest2 hp2 h12 hy2 hk2 hz2 hq2 =>
      exact absurd ⟨by simp [usesOf], by simp [usesOf]⟩ hu
  | took y1 q1 rest1 hp1 h11 hy1 hk1 hz1 hq1 =>
    cases h2 with
    | close h02 h12 hd2 hu2 =>
      exfalso; revert hb; simp
    | drop h02 h12 hs2 hd2 hu2 =>
      exfalso; revert hb; simp
    | send h02 h12 hd2 hu2 hl2 =>
      exfalso; revert hb; simp
    | cancel h02 h12 hs2 hc2 =>
      exfalso; revert hb; simp
    | full h02 h12 hc2 hg2 =>
      exfalso; revert hb; simp
    | got q2 rest2 h02 h12 hc2 hg2 hv2 =>
      exfalso; revert hb; simp
    | quit y2 hp2 h12 hy2 hs2 hk2 =>
      exact ⟨_, _, .quit y2 ⟨hp2.1, by rw [show (_ : Mach).workers.length = m.workers.length from setW_len]; exact hp2.2⟩ h12 ((wk_set_ne rfl hp1.1 hp2.1 hne).trans hy2) hs2 hk2, .took y1 q1 rest1 ⟨hp1.1, by rw [show (_ : Mach).workers.length = m.workers.length from setW_len]; exact hp1.2⟩ h11 ((wk_set_ne rfl hp2.1 hp1.1 (Ne.symm hne)).trans hy1) hk1 hz1 hq1, like_mk rfl rfl rfl rfl rfl rfl rfl rfl (setW_comm rfl rfl hp1.1 hp2.1 hne) rfl rfl rfl rfl rfl rfl rfl⟩
    | step y2 hp2 h12 hy2 hk2 hl2 =>
      exact ⟨_, _, .step y2 ⟨hp2.1, by rw [show (_ : Mach).workers.length = m.workers.length from setW_len]; exact hp2.2⟩ h12 ((wk_set_ne rfl hp1.1 hp2.1 hne).trans hy2) hk2 hl2, .took y1 q1 rest1 ⟨hp1.1, by rw [show (_ : Mach).workers.length = m.workers.length from setW_len]; exact hp1.2⟩ h11 ((wk_set_ne rfl hp2.1 hp1.1 (Ne.symm hne)).trans hy1) hk1 hz1 hq1, like_mk rfl rfl rfl rfl rfl rfl rfl rfl (setW_comm rfl rfl hp1.1 hp2.1 hne) rfl rfl rfl rfl rfl rfl rfl⟩
    | gave y2 hp2 h12 hy2 hk2 hz2 hl2 =>
      exact ⟨_, _, .gave y2 ⟨hp2.1, by rw [show (_ : Mach).workers.length = m.workers.length from setW_len]; exact hp2.2⟩ h12 ((wk_set_ne rfl hp1.1 hp2.1 hne).trans hy2) hk2 hz2 hl2, .took y1 q1 rest1 ⟨hp1.1, by rw [show (_ : Mach).workers.length = m.workers.length from setW_len]; exact hp1.2⟩ h11 ((wk_set_ne rfl hp2.1 hp1.1 (Ne.symm hne)).trans hy1) hk1 hz1 hq1, like_mk rfl rfl rfl rfl rfl rfl rfl rfl (setW_comm rfl rfl hp1.1 hp2.1 hne) rfl rfl rfl rfl rfl rfl rfl⟩
    | left y2 hp2 h12 hy2 hk2 hz2 hs2 hd2 =>
      exact absurd ⟨by simp [usesOf], by simp [usesOf]⟩ hu
    | took y2 q2 rest2 hp2 h12 hy2 hk2 hz2 hq2 =>
      exact absurd ⟨by simp [usesOf], by simp [usesOf]⟩ hu
theorem mv_group {m m' : Mach} {x : S64} {e : Evt} (h : Mv m x e m') : (x.f0 = 0 ∧ (e.k = 1 ∨ e.k = 2 ∨ e.k = 3)) ∨ (x.f0 = m.workers.length + 1 ∧ (e.k = 9 ∨ e.k = 10 ∨ e.k = 11)) ∨ (4 ≤ e.k ∧ e.k ≤ 8) := by
  cases h with
  | close h0 h1 hd hu => exact .inl ⟨h0, by simp⟩
  | drop h0 h1 hs hd hu => exact .inl ⟨h0, by simp⟩
  | send h0 h1 hd hu hl => exact .inl ⟨h0, by simp⟩
  | cancel h0 h1 hs hc => exact .inr (.inl ⟨h0, by simp⟩)
  | full h0 h1 hc hg => exact .inr (.inl ⟨h0, by simp⟩)
  | got q rest h0 h1 hc hg hv => exact .inr (.inl ⟨h0, by simp⟩)
  | quit y hp h1 hy hs hk => exact .inr (.inr (by simp))
  | step y hp h1 hy hk hl => exact .inr (.inr (by simp))
  | gave y hp h1 hy hk hz hl => exact .inr (.inr (by simp))
  | left y hp h1 hy hk hz hs hd => exact .inr (.inr (by simp))
  | took y q rest hp h1 hy hk hz hq => exact .inr (.inr (by simp))
theorem dia {m m1 m2 : Mach} {x1 x2 : S64} {e1 e2 : Evt} (h1 : Mv m x1 e1 m1) (h2 : Mv m x2 e2 m2) (hne : x1.f0 ≠ x2.f0) (hu : ¬ (usesOf e1.k ≠ 0 ∧ usesOf e1.k = usesOf e2.k)) : Dia m1 m2 x1 x2 e1 e2 := by
  have hu' : ¬ (usesOf e2.k ≠ 0 ∧ usesOf e2.k = usesOf e1.k) := fun ⟨a, b⟩ => hu ⟨by rw [← b]; exact a, b.symm⟩
  rcases mv_group h1 with ⟨g1, k1⟩ | ⟨g1, k1⟩ | k1 <;> rcases mv_group h2 with ⟨g2, k2⟩ | ⟨g2, k2⟩ | k2
  · exact absurd (g1.trans g2.symm) hne
  · exact dia_dc h1 h2 hne k1 k2 hu
  · exact dia_dw h1 h2 hne k1 k2 hu
  · exact (dia_dc h2 h1 (Ne.symm hne) k2 k1 hu').swap
  · exact absurd (g1.trans g2.symm) hne
  · exact dia_cw h1 h2 hne k1 k2 hu
  · exact (dia_dw h2 h1 (Ne.symm hne) k2 k1 hu').swap
  · exact (dia_cw h2 h1 (Ne.symm hne) k2 k1 hu').swap
  · exact dia_ww h1 h2 hne k1 k2 hu
/-- What a move's event tells of who moved. -/
theorem ev_proc {m : Mach} {x : S64} (hx : x ∈ mvs m) : (evOf m x).p = x.f0 := by
  have h := mv_of_mem hx
  revert h
  generalize evOf m x = e
  generalize Sc.step m x = m'
  intro h
  cases h with
  | close h0 h1 hd hu => exact h0.symm
  | drop h0 h1 hs hd hu => exact h0.symm
  | send h0 h1 hd hu hl => exact h0.symm
  | cancel h0 h1 hs hc => rfl
  | full h0 h1 hc hg => rfl
  | got q rest h0 h1 hc hg hv => rfl
  | quit y hp h1 hy hs hk => rfl
  | step y hp h1 hy hk hl => rfl
  | gave y hp h1 hy hk hz hl => rfl
  | left y hp h1 hy hk hz hs hd => rfl
  | took y q rest hp h1 hy hk hz hq => rfl
theorem side {m : Mach} {a b : S64} (ha : a ∈ mvs m) (hb : b ∈ mvs m) (hne : a.f0 ≠ b.f0) (hu : ¬ (usesOf (evOf m a).k ≠ 0 ∧ usesOf (evOf m a).k = usesOf (evOf m b).k)) : b ∈ mvs (Sc.step m a) ∧ evOf (Sc.step m a) b = evOf m b ∧ a ∈ mvs (Sc.step m b) ∧ evOf (Sc.step m b) a = evOf m a ∧ Like (Sc.step (Sc.step m a) b) (Sc.step (Sc.step m b) a) := by
  obtain ⟨m12, m21, h1, h2, h3⟩ := dia (mv_of_mem ha) (mv_of_mem hb) hne hu
  obtain ⟨b1, b2, b3⟩ := mem_of_mv h1
  obtain ⟨c1, c2, c3⟩ := mem_of_mv h2
  exact ⟨b1, b2, c1, c2, by rw [b3, c3]; exact h3⟩
end Go.Proofs.Ythcchpbidbbiaaa.Sc
namespace Go.Proofs.Ythcchpbidbbiaaa.Sc
open Go.RowKit Go.Proofs.YthcchpbidbbiaaaW.PrintWords Go.Proofs.YthcchpbidbbiaaaW.PrintLast Go.Proofs.YthcchpbidbbiaaaW.PrintMore Go.Proofs.Ythcchpbidbbiaaa.PSchedSide
set_option linter.unusedVariables false
set_option linter.unusedSimpArgs false
/-- The law's own blocks: those of a list, and a row's. -/
def MS (u : Value) (S : List Nat) (k : Nat) : Prop := k ∈ S ∨ some k = u.ownBlock
section
variable {w W W' : World} {M : Nat → Prop} {X : Raw} {b1 b4 g : Nat} {pw pj pr : Int} {v u : Value} {xs : List Int} {m m' : Mach} {l : List (Nat × Mach)} {S : List Nat}
theorem LawL.add (h : LawL w W M X b1 b4 pw pj pr v xs l) (hb : Below W.heap.size W W') {M' : Nat → Prop} (hM : ∀ k, M' k → W.heap.size ≤ k ∧ k < W'.heap.size) : LawL w W' (fun k => M k ∨ M' k) X b1 b4 pw pj pr v xs l := by
  have hp := h.pass hb
  refine ⟨Fl.less (h.fl.add hb hM) ?_, hp.wb, hp.pb, hp.js, h.eq⟩
  rintro k (hk | hk | hk | hk | hk)
  · exact .inl (.inl hk)
  · exact .inl (.inr (.inl hk))
  · exact .inl (.inr (.inr (.inl hk)))
  · exact .inl (.inr (.inr (.inr hk)))
  · exact .inr hk
theorem LawL.boxS (h : LawL w W (MS u S) X b1 b4 pw pj pr v xs l) (o : Obj) : LawL w (W.alloc o) (MS u (W.heap.size :: S)) X b1 b4 pw pj pr v xs l := by
  refine (h.box2 o).less ?_
  rintro k (hk | hk)
  · rcases List.mem_cons.1 hk with e | e
    · exact .inr e
    · exact .inl (.inl e)
  · exact .inl (.inr hk)
theorem ll_readyS (h : LawL w W (fun _ => False) X b1 b4 pw pj pr v xs l) (i : Nat) (hi : l[i]? = some (g, m)) {L : List S64} (hL : mvs m = L) : Calls Try.prog 34 #[ptr g] W fun e w' => ∃ A c, e = .returned (.slice A L.length L.length) ∧ Own k64 64 w' (.slice A L.length c) L ∧ LawL w w' (MS (.slice A L.length c) []) X b1 b4 pw pj pr v xs l ∧ Below W.heap.size W w' := by
  subst hL
  refine (r_ready (h.run hi)).mono ?_
  rintro e w' ⟨A, c, rfl, hr, _, hb⟩
  have ho : Own k64 64 w' (.slice A (mvs m).length c) (mvs m) := Own.of rfl hr
  refine ⟨A, c, rfl, ho, (h.add hb (M' := fun k => some k = (Value.slice A (mvs m).length c).ownBlock) (fun k hk => ⟨Kd.R_base hr k hk.symm, ho.lt k hk⟩)).less ?_, hb⟩
  rintro k (hk | hk)
  · simp at hk
  · exact .inr hk
theorem ll_ready0 (h : LawL w W M X b1 b4 pw pj pr v xs l) (i : Nat) (hi : l[i]? = some (g, m)) (hL : mvs m = []) : Calls Try.prog 34 #[ptr g] W fun e w' => ∃ A, e = .returned (.slice A 0 0) ∧ Below W.heap.size W w' := by
  refine (r_ready (h.run hi)).mono ?_
  rintro e w' ⟨A, c, rfl, hr, _, hb⟩
  rw [hL]
  exact ⟨A, rfl, hb⟩
theorem Own.heldS {L : List S64} (ho : Own k64 64 W u L) (hh : Held W W' (Nb b1 b4 v (MS u S))) : Own k64 64 W' u L := ho.at_ (fun k hk _ => hh.2 k (.inr (.inr (.inr (.inr hk)))))
theorem Own.reads {A : Option Addr} {c : Nat} {L : List S64} (ho : Own k64 64 W (.slice A L.length c) L) : Kd.C k64 W A L.length L := (Kd.R_reads' ho).2.2
theorem Held.box {o : Obj} {k : Nat} (hh : Held W W' (Nb b1 b4 v (MS u S))) (hk : k ∈ S) (h : W.heap[k]? = some o) : W'.heap[k]? = some o := hh.blk (.inr (.inr (.inr (.inl hk)))) h
theorem ll_pickx (h : LawL w W M X b1 b4 pw pj pr v xs l) (i : Nat) (hi : l[i]? = some (g, m)) (k : Int) : Calls Try.prog 19 #[ptr g, .int .i64 k] W fun e w' => ∃ z0 z1 z2 z3 er, e = .returned (.tuple #[.agg #[.int .i64 z0, .int .i64 z1, .int .i64 z2, .int .i64 z3], .int .i64 er]) ∧ LawL w w' M X b1 b4 pw pj pr v xs (l.set i (g, pickM m k)) ∧ Held W w' (Nb b1 b4 v M) := by
  refine (ll_pick h i hi k (z0 := (pickE m k).k) (z1 := (pickE m k).p) (z2 := (pickE m k).j) (z3 := (pickE m k).s) rfl rfl).mono ?_
  rintro e w' ⟨rfl, h1, h2⟩
  exact ⟨_, _, _, _, _, rfl, h1, h2⟩
end
theorem at_any (X : Raw) (i : Int) (w : World) (h : X.In w) (hi : 0 ≤ i) : Calls Try.prog 20 #[.agg #[.int .i64 X.x0, .int .i64 X.x1, .int .i64 X.x2, .slice X.A3 X.l3.length X.c3, .slice X.A4 X.l4.length X.c4, .int .i64 X.x5], .int .i64 i] w fun e w' => ∃ r : Int, e = .returned (.int .i64 r) ∧ Below w.heap.size w w' := at_calls X i w h hi
theorem uses_any (k p j s : Int) (w : World) : Calls Try.prog 45 #[.agg #[.int .i64 k, .int .i64 p, .int .i64 j, .int .i64 s]] w fun e w' => e = .returned (.int .i64 (usesOf k)) ∧ Below w.heap.size w w' := by
  refine organonlaw18_uses.calls 1 k p j s (usesOf k) w ?_
  unfold organonlaw18_uses.f organonlaw18_uses.j0 usesOf
  by_cases h1 : k = 1
  · subst h1; rfl
  by_cases h4 : k = 4
  · subst h4; rfl
  by_cases h3 : k = 3
  · subst h3; rfl
  by_cases h7 : k = 7
  · subst h7; rfl
  by_cases h6 : k = 6
  · subst h6; rfl
  by_cases h9 : k = 9
  · subst h9; rfl
  simp [h1, h4, h3, h7, h6, h9]
theorem pick_any (c n : Int) (hn : 0 < n) (hn' : n ≤ 1004010) (w : World) : Calls Try.prog 28 #[.int .i64 c, .int .i64 n] w fun e w' => ∃ r, e = .returned (.int .i64 r) ∧ 0 ≤ r ∧ r < n ∧ Below w.heap.size w w' := by
  have hr : ∃ r, organonlaw18_pick.f c n = some r ∧ 0 ≤ r ∧ r < n := by
    have hb := tmod_bounds c n.toNat (by omega)
    have e : ((n.toNat : Nat) : Int) = n := by omega
    rw [e] at hb
    unfold organonlaw18_pick.f
    rw [if_neg (by omega)]
    by_cases h : Int.tmod c n < 0
    · rw [if_pos h, wrap_in (by omega) (by omega)]
      exact ⟨_, rfl, by omega, by omega⟩
    · rw [if_neg h]
      exact ⟨_, rfl, by omega, by omega⟩
  obtain ⟨r, hr, h0, h1⟩ := hr
  refine (organonlaw18_pick.calls c n r w hr).mono ?_
  rintro e w' ⟨rfl, hd⟩
  exact ⟨r, rfl, h0, h1, below_drawn (Below.refl _ _) hd⟩
theorem wlen {w W : World} {M : Nat → Prop} {X : Raw} {b1 b4 g : Nat} {pw pj pr : Int} {v : Value} {xs : List Int} {m : Mach} {l : List (Nat × Mach)} (h : LawL w W M X b1 b4 pw pj pr v xs l) {i : Nat} (hi : l[i]? = some (g, m)) : (m.workers.length : Int) = pw := by
  rw [(h.run hi).inv.ok.nw, (h.eqs hi).2]
set_option maxHeartbeats 32000000 in
set_option maxRecDepth 1000000 in
theorem side_walk (X : Raw) (w : World) (hX : X.In w) (o1 o2 : Int) : Calls Try.prog 10 #[.agg #[.int .i64 X.x0, .int .i64 X.x1, .int .i64 X.x2, .slice X.A3 X.l3.length X.c3, .slice X.A4 X.l4.length X.c4, .int .i64 X.x5], .int .i64 o1, .int .i64 o2] w fun e w' => e = .returned (.bool true) ∧ Below w.heap.size w w' := by
  have HB := Aside0.mk (below_alloc (Below.refl w.heap.size w) (.cells (wcells X) 37))
  have HX := Aside0.mk (heap_alloc_new w (.cells (wcells X) 37))
  have HXW := Aside0.mk hX
  clear hX
  go_enter Try.func10, Try.ntmps10
  go_wp2_with (first | (go_at_call 12; (with_reducible refine (awake_calls _).mono ?_); rintro e w1 ⟨rfl, hb⟩; have HB1 := Aside0.mk (HB.out.trans (hb.mono HB.out.size)); have HX1 := Aside0.mk ((hb.block _ (blk_lt HX.out)).trans HX.out); have HXI := Aside0.mk (HXW.out.below HB1.out); have c0 : w1.cell? ⟨w.heap.size, 0, none⟩ = some (.int .i64 X.x0) := (blk_cell HX1.out 0).trans rfl; have c1 : w1.cell? ⟨w.heap.size, 1, none⟩ = some (.int .i64 X.x1) := (blk_cell HX1.out 1).trans rfl; have c2 : w1.cell? ⟨w.heap.size, 2, none⟩ = some (.int .i64 X.x2) := (blk_cell HX1.out 2).trans rfl; have c3 : w1.cell? ⟨w.heap.size, 3, none⟩ = some (.slice X.A3 X.l3.length X.c3) := (blk_cell HX1.out 3).trans rfl; have c4 : w1.cell? ⟨w.heap.size, 4, none⟩ = some (.slice X.A4 X.l4.length X.c4) := (blk_cell HX1.out 4).trans rfl; have c5 : w1.cell? ⟨w.heap.size, 5, none⟩ = some (.int .i64 X.x5) := (blk_cell HX1.out 5).trans rfl; clear hb) | (go_at_call 16; (with_reducible refine (l_plain X HXI.out).mono ?_); rintro e w2 ⟨pw, pj, pr, A, c, xs, rfl, hp, hl, hj, hr, hb⟩; have HP := Aside0.mk hp; have HLN := Aside0.mk hl; have HJS := Aside0.mk hj; have HB2 := Aside0.mk (below_alloc (HB1.out.trans (hb.mono HB1.out.size)) (.cells #[.int .i64 pw, .int .i64 pj, .int .i64 pr] 23)); have HX2 := Aside0.mk (blk_alloc ((hb.block _ (blk_lt HX1.out)).trans HX1.out) (.cells #[.int .i64 pw, .int .i64 pj, .int .i64 pr] 23)); have HQ2 := Aside0.mk (heap_alloc_new w2 (.cells #[.int .i64 pw, .int .i64 pj, .int .i64 pr] 23)); have HV2 := Aside0.mk (Own.of rfl (Kd.R_alloc hr (.cells #[.int .i64 pw, .int .i64 pj, .int .i64 pr] 23))); have HW1 := Aside0.mk (Nat.le_trans HB1.out.size hb.size); have HV0 := Aside0.mk (fun k (hk : some k = (Value.slice A xs.length c).ownBlock) => Nat.le_trans HB1.out.size (Kd.R_base hr k hk.symm)); clear c0 c1 c2 c3 c4 c5; clear hp hl hj hr hb) | (go_at_call 15; (with_reducible refine (l_new (b1 := w.heap.size) (b4 := w2.heap.size) X A c HB2.out HP.out HLN.out HJS.out HX2.out (Nat.le_refl _) HQ2.out HW1.out HV2.out HV0.out).mono ?_); rintro e w3 ⟨g, rfl, hL, hb⟩; have HL := Aside0.mk hL; have c0 : w3.cell? ⟨w.heap.size, 0, none⟩ = some (.int .i64 X.x0) := (blk_cell HL.out.wb 0).trans rfl; have c1 : w3.cell? ⟨w.heap.size, 1, none⟩ = some (.int .i64 X.x1) := (blk_cell HL.out.wb 1).trans rfl; have c2 : w3.cell? ⟨w.heap.size, 2, none⟩ = some (.int .i64 X.x2) := (blk_cell HL.out.wb 2).trans rfl; have c3 : w3.cell? ⟨w.heap.size, 3, none⟩ = some (.slice X.A3 X.l3.length X.c3) := (blk_cell HL.out.wb 3).trans rfl; have c4 : w3.cell? ⟨w.heap.size, 4, none⟩ = some (.slice X.A4 X.l4.length X.c4) := (blk_cell HL.out.wb 4).trans rfl; have c5 : w3.cell? ⟨w.heap.size, 5, none⟩ = some (.int .i64 X.x5) := (blk_cell HL.out.wb 5).trans rfl; have d0 : w3.cell? ⟨w2.heap.size, 0, none⟩ = some (.int .i64 pw) := (blk_cell HL.out.pb 0).trans rfl; have d1 : w3.cell? ⟨w2.heap.size, 1, none⟩ = some (.int .i64 pj) := (blk_cell HL.out.pb 1).trans rfl; have d2 : w3.cell? ⟨w2.heap.size, 2, none⟩ = some (.int .i64 pr) := (blk_cell HL.out.pb 2).trans rfl; clear hL hb HX HX1 HX2 HQ2 HV2 HV0))
  have n_ := Aside0.mk HL.out.toL
  have HBP := Aside0.mk (show 0 < boundOf (newM pw pj pr xs pw.toNat) ∧ boundOf (newM pw pj pr xs pw.toNat) ≤ 1004010 by
    have h1 := bound_le HL.out.run.inv.ok
    have h2 := HL.out.run.inv.pot
    have h3 := rem_pos HL.out.run.inv.ok (m := newM pw pj pr xs pw.toNat) rfl
    have h4 : (newM pw pj pr xs pw.toNat).picks = 0 := rfl
    omega)
  have HL0 := Aside0.mk (show (newM pw pj pr xs pw.toNat).jobs = xs ∧ ((newM pw pj pr xs pw.toNat).workers.length : Int) = pw from ⟨HL.out.eq.1, by rw [HL.out.run.inv.ok.nw, HL.out.eq.2]⟩)
  clear HL
  have HL := n_
  clear n_ c0 c1 c2 c3 c4 c5 d0 d1 d2 HB HB1 HB2
  refine (lawbound_calls pw pj pr A c xs _ HP.out HLN.out HJS.out (Kd.R_reads' HL.out.js).2.2 (Kd.R_reads' HL.out.js).2.1 _ HL0.out.1 HL0.out.2).mono ?_
  rintro e wq1 ⟨rfl, hb⟩
  have hl_ := HL.out.pass hb
  clear HL
  have HL := Aside0.mk hl_
  clear hl_ hb
  go_wp2_with (first | (go_at_call 28; ((with_reducible refine (pick_any _ _ HBP.out.1 HBP.out.2 _).mono ?_); rintro e wq2 ⟨rr, rfl, hr0, hr1, hb⟩; have hl_ := HL.out.pass hb; clear HL; have HL := Aside0.mk hl_; clear hl_; have HBB := Aside0.mk (show rr ≤ 1004010 by have := HBP.out; omega); clear hb)))
  go_loopw [14] (fun i wr => ∃ (k : Nat) (m : Mach), i = .int .i64 k ∧ (k : Int) ≤ rr ∧ LawL w wr (fun _ => False) X w.heap.size w2.heap.size pw pj pr (.slice A xs.length c) xs [(g, m)]) (fun i _ => 1004011 - (intOf i).toNat)
  case atStart => exact ⟨0, _, rfl, hr0, HL.out⟩
  case round =>
    obtain ⟨k, m, rfl, hk, hL⟩ := hrel
    clear HL
    have HL := Aside0.mk hL
    have hk63 : (k : Int) ≤ 1004010 := by have := HBB.out; omega
    by_cases hlt : (k : Int) < rr
    · have p0 : decide ((k : Int) < rr) = true := decide_eq_true hlt
      have p1 := eq_true hlt
      have HLT := Aside0.mk hlt
      have HKN := Aside0.mk (show (0 : Int) ≤ (k : Int) from Int.natCast_nonneg _)
      have c0 : wr.cell? ⟨w.heap.size, 0, none⟩ = some (.int .i64 X.x0) := (blk_cell HL.out.wb 0).trans rfl
      have c1 : wr.cell? ⟨w.heap.size, 1, none⟩ = some (.int .i64 X.x1) := (blk_cell HL.out.wb 1).trans rfl
      have c2 : wr.cell? ⟨w.heap.size, 2, none⟩ = some (.int .i64 X.x2) := (blk_cell HL.out.wb 2).trans rfl
      have c3 : wr.cell? ⟨w.heap.size, 3, none⟩ = some (.slice X.A3 X.l3.length X.c3) := (blk_cell HL.out.wb 3).trans rfl
      have c4 : wr.cell? ⟨w.heap.size, 4, none⟩ = some (.slice X.A4 X.l4.length X.c4) := (blk_cell HL.out.wb 4).trans rfl
      have c5 : wr.cell? ⟨w.heap.size, 5, none⟩ = some (.int .i64 X.x5) := (blk_cell HL.out.wb 5).trans rfl
      clear hL hk hlt hr0 hr1
      by_cases hc : (k : Int) = X.x5
      · obtain ⟨cs, hcs⟩ : ∃ c, canStop m = c := ⟨_, rfl⟩
        have HCS := Aside0.mk hcs
        obtain ⟨m1, hm1⟩ : ∃ m1, stopM m = m1 := ⟨_, rfl⟩
        have HM1 := Aside0.mk hm1
        have HI0 := Aside0.mk (show [(g, m)][0]? = some (g, m) from rfl)
        have HI1 := Aside0.mk (show [(g, m1)][0]? = some (g, m1) from rfl)
        have q8 : ((k : Int) == X.x5) = true := beq_iff_eq.mpr hc
        have q9 := eq_true hc
        clear hcs hm1 hc
        go_wp2_with (first | (go_at_call 18; ((with_reducible refine (ll_cancel HL.out 0 HI0.out HCS.out).mono ?_); rintro e wa ⟨rfl, hL, hh⟩; clear HL c0 c1 c2 c3 c4 c5; have HL := Aside0.mk (show LawL w wa (fun _ => False) X w.heap.size w2.heap.size pw pj pr (.slice A xs.length c) xs [(g, stopM m)] from hL); rw [HM1.out] at HL; have c0 : wa.cell? ⟨w.heap.size, 0, none⟩ = some (.int .i64 X.x0) := (blk_cell HL.out.wb 0).trans rfl; have c1 : wa.cell? ⟨w.heap.size, 1, none⟩ = some (.int .i64 X.x1) := (blk_cell HL.out.wb 1).trans rfl; have c2 : wa.cell? ⟨w.heap.size, 2, none⟩ = some (.int .i64 X.x2) := (blk_cell HL.out.wb 2).trans rfl; have c3 : wa.cell? ⟨w.heap.size, 3, none⟩ = some (.slice X.A3 X.l3.length X.c3) := (blk_cell HL.out.wb 3).trans rfl; have c4 : wa.cell? ⟨w.heap.size, 4, none⟩ = some (.slice X.A4 X.l4.length X.c4) := (blk_cell HL.out.wb 4).trans rfl; have c5 : wa.cell? ⟨w.heap.size, 5, none⟩ = some (.int .i64 X.x5) := (blk_cell HL.out.wb 5).trans rfl; clear hL hh)) | (go_at_call 20; ((with_reducible refine (at_any X _ _ (HXW.out.below HL.out.fl.bel) HKN.out).mono ?_); rintro e wb ⟨r, rfl, hb⟩; have hl_ := HL.out.pass hb; clear HL; have HL := Aside0.mk hl_; clear hl_; clear c0 c1 c2 c3 c4 c5; clear hb)) | (go_at_call 19; ((with_reducible refine (ll_pickx HL.out 0 HI1.out _).mono ?_); rintro e wc ⟨z0, z1, z2, z3, er, rfl, hL, hh⟩; clear HL; have HL := Aside0.mk (show LawL w wc (fun _ => False) X w.heap.size w2.heap.size pw pj pr (.slice A xs.length c) xs [(g, pickM m1 _)] from hL); clear hL hh)))
        go_roundw
        case rel => exact ⟨k + 1, _, by go_num, by have := HLT.out; omega, HL.out⟩
        case measure => simp [intOf]; omega
      · have HI1 := Aside0.mk (show [(g, m)][0]? = some (g, m) from rfl)
        have q8 : ((k : Int) == X.x5) = false := beq_eq_false_iff_ne.mpr hc
        have q9 := eq_false hc
        clear hc
        go_wp2_with (first | (go_at_call 20; ((with_reducible refine (at_any X _ _ (HXW.out.below HL.out.fl.bel) HKN.out).mono ?_); rintro e wb ⟨r, rfl, hb⟩; have hl_ := HL.out.pass hb; clear HL; have HL := Aside0.mk hl_; clear hl_; clear c0 c1 c2 c3 c4 c5; clear hb)) | (go_at_call 19; ((with_reducible refine (ll_pickx HL.out 0 HI1.out _).mono ?_); rintro e wc ⟨z0, z1, z2, z3, er, rfl, hL, hh⟩; clear HL; have HL := Aside0.mk (show LawL w wc (fun _ => False) X w.heap.size w2.heap.size pw pj pr (.slice A xs.length c) xs [(g, pickM m _)] from hL); clear hL hh)))
        go_roundw
        case rel => exact ⟨k + 1, _, by go_num, by have := HLT.out; omega, HL.out⟩
        case measure => simp [intOf]; omega
    · have p0 : decide ((k : Int) < rr) = false := decide_eq_false hlt
      have p1 := eq_false hlt
      have HI := Aside0.mk (show [(g, m)][0]? = some (g, m) from rfl)
      have HINV := Aside0.mk (hL.run HI.out).inv
      clear hL hk hlt hr0 hr1 hk63
      by_cases hm0 : mvs m = []
      · have hd : doneOf m = true := by
          cases h : doneOf m
          · exact absurd hm0 (progress HINV.out h)
          · rfl
        have HMV := Aside0.mk hm0
        have HD := Aside0.mk hd
        clear hm0 hd
        go_wp2_with (first | (go_at_call 34; ((with_reducible refine (ll_ready0 HL.out 0 HI.out HMV.out).mono ?_); rintro e we ⟨A7, rfl, hb⟩; have hl_ := HL.out.pass hb; clear HL; have HL := Aside0.mk hl_; clear hl_; clear hb)) | (go_at_call 17; ((with_reducible refine (pk_done (HL.out.run HI.out) HD.out).mono ?_); rintro e wf ⟨rfl, hb⟩; have hl_ := HL.out.pass hb; clear HL; have HL := Aside0.mk hl_; clear hl_; clear hb)))
        go_ret
        exact ⟨rfl, HL.out.fl.bel⟩
      · obtain ⟨L, hLm⟩ : ∃ L, mvs m = L := ⟨_, rfl⟩
        have hn0 : 0 < L.length := by rw [← hLm]; exact List.length_pos_iff.mpr hm0
        have hn20 : L.length ≤ 20 := by rw [← hLm]; exact mvs_length_le HINV.out.ok
        have HLM := Aside0.mk hLm
        have HLL := Aside0.mk (show L.length ≤ 1000000 by omega)
        obtain ⟨r1, hr1, hr10, hr11⟩ := pick_some_f o1 L.length (by omega) (by omega)
        obtain ⟨r2, hr2, hr20, hr21⟩ := pick_some_f o2 L.length (by omega) (by omega)
        have HR1 := Aside0.mk hr1
        have HR2 := Aside0.mk hr2
        obtain ⟨a0, a1, hxa⟩ : ∃ a0 a1, rd_T64 L r1 = ⟨a0, a1⟩ := ⟨_, _, rfl⟩
        obtain ⟨b0, b1, hxb⟩ : ∃ a0 a1, rd_T64 L r2 = ⟨a0, a1⟩ := ⟨_, _, rfl⟩
        have HXA := Aside0.mk hxa
        have HXB := Aside0.mk hxb
        have hma : (⟨a0, a1⟩ : S64) ∈ mvs m := by rw [hLm, ← hxa]; exact rd_T64_mem hr10 hr11
        have hmb : (⟨b0, b1⟩ : S64) ∈ mvs m := by rw [hLm, ← hxb]; exact rd_T64_mem hr20 hr21
        obtain ⟨v0, va, v2, v3, hva⟩ : ∃ z0 z1 z2 z3, evOf m ⟨a0, a1⟩ = ⟨z0, z1, z2, z3⟩ := ⟨_, _, _, _, rfl⟩
        obtain ⟨u0, ub, u2, u3, hub⟩ : ∃ z0 z1 z2 z3, evOf m ⟨b0, b1⟩ = ⟨z0, z1, z2, z3⟩ := ⟨_, _, _, _, rfl⟩
        have hea : va = a0 := by have := ev_proc hma; rw [hva] at this; exact this
        have heb : ub = b0 := by have := ev_proc hmb; rw [hub] at this; exact this
        subst hea heb
        have hside := fun h1 h2 => side hma hmb h1 h2
        rw [hva, hub] at hside
        have HSIDE := Aside0.mk hside
        have HMA := Aside0.mk hma
        have HMB := Aside0.mk hmb
        have HVA := Aside0.mk hva
        have HVB := Aside0.mk hub
        have hlz : ((L.length : Int) == 0) = false := beq_eq_false_iff_ne.mpr (by omega)
        have hlz2 := eq_false (show ¬ (L.length : Int) = 0 by omega)
        have HJ0 := Aside0.mk (fun gl gr => show [(g, m), (gl, m), (gr, m)][0]? = some (g, m) from rfl)
        have HJ1 := Aside0.mk (fun gl gr => show [(g, m), (gl, m), (gr, m)][1]? = some (gl, m) from rfl)
        have HIB := Aside0.mk (fun gl => show [(g, m), (gl, m)][0]? = some (g, m) from rfl)
        obtain ⟨ma, hma2⟩ : ∃ ma, step m ⟨va, a1⟩ = ma := ⟨_, rfl⟩
        obtain ⟨mb, hmb2⟩ : ∃ mb, step m ⟨ub, b1⟩ = mb := ⟨_, rfl⟩
        have HM1 := Aside0.mk hma2
        have HM2 := Aside0.mk hmb2
        rw [hma2, hmb2] at HSIDE
        have HJ2 := Aside0.mk (fun gl gr => show [(g, m), (gl, ma), (gr, m)][2]? = some (gr, m) from rfl)
        have HK0 := Aside0.mk (fun gl gr => show [(g, m), (gl, ma), (gr, mb)][0]? = some (g, m) from rfl)
        have HK1 := Aside0.mk (fun gl gr => show [(g, m), (gl, ma), (gr, mb)][1]? = some (gl, ma) from rfl)
        obtain ⟨mab, hmab⟩ : ∃ mab, step ma ⟨ub, b1⟩ = mab := ⟨_, rfl⟩
        obtain ⟨mba, hmba⟩ : ∃ mba, step mb ⟨va, a1⟩ = mba := ⟨_, rfl⟩
        have HM3 := Aside0.mk hmab
        have HM4 := Aside0.mk hmba
        rw [hmab, hmba] at HSIDE
        have HK2 := Aside0.mk (fun gl gr => show [(g, m), (gl, mab), (gr, mb)][2]? = some (gr, mb) from rfl)
        have HN1 := Aside0.mk (fun gl gr => show [(g, m), (gl, mab), (gr, mba)][1]? = some (gl, mab) from rfl)
        have HN2 := Aside0.mk (fun gl gr => show [(g, m), (gl, mab), (gr, mba)][2]? = some (gr, mba) from rfl)
        clear hm0 hLm hr1 hr2 hxa hxb hma hmb hva hub hside hma2 hmb2 hmab hmba
        go_wp2_with (first | (go_at_call 34; ((with_reducible refine (ll_readyS HL.out 0 HI.out HLM.out).mono ?_); rintro e wg ⟨A7, c7, rfl, ho, hL, hb⟩; have HO := Aside0.mk ho; clear HL; have HL := Aside0.mk hL; clear ho hL hb)) | (go_at_call 28; ((with_reducible refine (organonlaw18_pick.calls o1 L.length r1 _ HR1.out).mono ?_); rintro e wh ⟨rfl, hdn⟩; have hb := below_drawn (Below.refl _ _) hdn; have ho_ := HO.out.below hb; have hl_ := HL.out.pass hb; clear HO; have HO := Aside0.mk ho_; clear HL; have HL := Aside0.mk hl_; clear hl_; clear ho_ hdn; obtain ⟨ad, ead, hy0, hy1⟩ := at_T64 HO.out.reads r1 hr10 hr11; rw [HXA.out] at hy0 hy1; subst ead; clear hb)))
        clear hy0 hy1
        have hl_ := HL.out.boxS (.cells #[.int .i64 va, .int .i64 a1] 64)
        have ho_ := HO.out.below (below_alloc (Below.refl _ _) (.cells #[.int .i64 va, .int .i64 a1] 64))
        have hn_ := heap_alloc_new wh (.cells #[.int .i64 va, .int .i64 a1] 64)
        generalize wh.alloc (.cells #[.int .i64 va, .int .i64 a1] 64) = wj at hl_ ho_ hn_  ⊢
        generalize wh.heap.size = b16 at hl_ hn_ ⊢
        clear HL HO 
        have HL := Aside0.mk hl_
        have HO := Aside0.mk ho_
        clear hl_ ho_ 
        have HE16 := Aside0.mk hn_
        clear hn_
        refine (organonlaw18_pick.calls o2 L.length r2 _ HR2.out).mono ?_
        rintro e wi ⟨rfl, hdn⟩
        have hb := below_drawn (Below.refl _ _) hdn
        have hl_ := HL.out.pass hb
        have ho_ := HO.out.below hb
        have x16_ := (hb.block _ (blk_lt HE16.out)).trans HE16.out
        clear HL HO HE16
        have HL := Aside0.mk hl_
        have HO := Aside0.mk ho_
        have HE16 := Aside0.mk x16_
        clear hl_ ho_ x16_
        obtain ⟨ad2, ead2, hy0, hy1⟩ := at_T64 HO.out.reads r2 hr20 hr21
        obtain rfl := Option.some.inj ead2
        rw [HXB.out] at hy0 hy1
        clear hb hdn ead2
        go_wp2_with fail
        clear hy0 hy1
        have hl_ := HL.out.boxS (.cells #[.int .i64 ub, .int .i64 b1] 64)
        have ho_ := HO.out.below (below_alloc (Below.refl _ _) (.cells #[.int .i64 ub, .int .i64 b1] 64))
        have hn_ := heap_alloc_new wi (.cells #[.int .i64 ub, .int .i64 b1] 64)
        have x16_ := blk_alloc HE16.out (.cells #[.int .i64 ub, .int .i64 b1] 64)
        generalize wi.alloc (.cells #[.int .i64 ub, .int .i64 b1] 64) = wk at hl_ ho_ hn_ x16_ ⊢
        generalize wi.heap.size = b17 at hl_ hn_ ⊢
        clear HL HO HE16
        have HL := Aside0.mk hl_
        have HO := Aside0.mk ho_
        have HE16 := Aside0.mk x16_
        clear hl_ ho_ x16_
        have HE17 := Aside0.mk hn_
        clear hn_
        refine (ll_copy HL.out 0 HI.out).mono ?_
        rintro e wl ⟨gl, rfl, hL, hb⟩
        have hl_ := (show LawL w wl (MS (.slice (some ad) L.length c7) [b17, b16]) X w.heap.size w2.heap.size pw pj pr (.slice A xs.length c) xs [(g, m), (gl, m)] from hL)
        have ho_ := HO.out.below hb
        have x16_ := (hb.block _ (blk_lt HE16.out)).trans HE16.out
        have x17_ := (hb.block _ (blk_lt HE17.out)).trans HE17.out
        clear HL HO HE16 HE17
        have HL := Aside0.mk hl_
        have HO := Aside0.mk ho_
        have HE16 := Aside0.mk x16_
        have HE17 := Aside0.mk x17_
        clear hl_ ho_ x16_ x17_
        clear hL hb
        go_wp2_with fail
        refine (ll_copy HL.out 0 (HIB.out gl)).mono ?_
        rintro e wm ⟨gr, rfl, hL, hb⟩
        have hl_ := (show LawL w wm (MS (.slice (some ad) L.length c7) [b17, b16]) X w.heap.size w2.heap.size pw pj pr (.slice A xs.length c) xs [(g, m), (gl, m), (gr, m)] from hL)
        have ho_ := HO.out.below hb
        have x16_ := (hb.block _ (blk_lt HE16.out)).trans HE16.out
        have x17_ := (hb.block _ (blk_lt HE17.out)).trans HE17.out
        clear HL HO HE16 HE17
        have HL := Aside0.mk hl_
        have HO := Aside0.mk ho_
        have HE16 := Aside0.mk x16_
        have HE17 := Aside0.mk x17_
        clear hl_ ho_ x16_ x17_
        clear hL hb
        have d0 : wm.cell? ⟨w2.heap.size, 0, none⟩ = some (.int .i64 pw) := (blk_cell HL.out.pb 0).trans rfl
        have d1 : wm.cell? ⟨w2.heap.size, 1, none⟩ = some (.int .i64 pj) := (blk_cell HL.out.pb 1).trans rfl
        have d2 : wm.cell? ⟨w2.heap.size, 2, none⟩ = some (.int .i64 pr) := (blk_cell HL.out.pb 2).trans rfl
        go_wp2_with fail
        clear d0 d1 d2
        refine (alike_calls w _ _ gl g _ _ pw pj pr (HL.out.run (HJ1.out gl gr)) (HL.out.run (HJ0.out gl gr)) (Like.refl _) (wlen HL.out (HJ1.out gl gr))).mono ?_
        rintro e wn ⟨rfl, hb⟩
        have hl_ := HL.out.pass hb
        have ho_ := HO.out.below hb
        have x16_ := (hb.block _ (blk_lt HE16.out)).trans HE16.out
        have x17_ := (hb.block _ (blk_lt HE17.out)).trans HE17.out
        clear HL HO HE16 HE17
        have HL := Aside0.mk hl_
        have HO := Aside0.mk ho_
        have HE16 := Aside0.mk x16_
        have HE17 := Aside0.mk x17_
        clear hl_ ho_ x16_ x17_
        clear hb
        have e16_0 : wn.cell? ⟨b16, 0, none⟩ = some (.int .i64 va) := (blk_cell HE16.out 0).trans rfl
        have e16_1 : wn.cell? ⟨b16, 1, none⟩ = some (.int .i64 a1) := (blk_cell HE16.out 1).trans rfl
        go_wp2_with fail
        clear e16_0 e16_1
        refine (ll_take HL.out 1 (HJ1.out gl gr) va a1 HMA.out HVA.out).mono ?_
        rintro e wo ⟨rfl, hL, hh⟩
        rw [HM1.out] at hL
        have hl_ := (show LawL w wo (MS (.slice (some ad) L.length c7) [b17, b16]) X w.heap.size w2.heap.size pw pj pr (.slice A xs.length c) xs [(g, m), (gl, ma), (gr, m)] from hL)
        have ho_ := HO.out.heldS hh
        have x16_ := hh.box (by simp) HE16.out
        have x17_ := hh.box (by simp) HE17.out
        clear HL HO HE16 HE17
        have HL := Aside0.mk hl_
        have HO := Aside0.mk ho_
        have HE16 := Aside0.mk x16_
        have HE17 := Aside0.mk x17_
        clear hl_ ho_ x16_ x17_
        clear hL hh
        have hl_ := HL.out.boxS (.cells #[.int .i64 v0, .int .i64 va, .int .i64 v2, .int .i64 v3] 42)
        have ho_ := HO.out.below (below_alloc (Below.refl _ _) (.cells #[.int .i64 v0, .int .i64 va, .int .i64 v2, .int .i64 v3] 42))
        have hn_ := heap_alloc_new wo (.cells #[.int .i64 v0, .int .i64 va, .int .i64 v2, .int .i64 v3] 42)
        have x16_ := blk_alloc HE16.out (.cells #[.int .i64 v0, .int .i64 va, .int .i64 v2, .int .i64 v3] 42)
        have x17_ := blk_alloc HE17.out (.cells #[.int .i64 v0, .int .i64 va, .int .i64 v2, .int .i64 v3] 42)
        obtain ⟨wp, hwp⟩ : ∃ W0, wo.alloc (.cells #[.int .i64 v0, .int .i64 va, .int .i64 v2, .int .i64 v3] 42) = W0 := ⟨_, rfl⟩
        rw [hwp] at hl_ ho_ hn_ x16_ x17_
        obtain ⟨b20, hb20⟩ : ∃ b, wo.heap.size = b := ⟨_, rfl⟩
        rw [hb20] at hl_ hn_
        clear HL HO HE16 HE17
        have HL := Aside0.mk hl_
        have HO := Aside0.mk ho_
        have HE16 := Aside0.mk x16_
        have HE17 := Aside0.mk x17_
        clear hl_ ho_ x16_ x17_
        have HE20 := Aside0.mk hn_
        clear hn_
        have e17_0 : wp.cell? ⟨b17, 0, none⟩ = some (.int .i64 ub) := (blk_cell HE17.out 0).trans rfl
        have e17_1 : wp.cell? ⟨b17, 1, none⟩ = some (.int .i64 b1) := (blk_cell HE17.out 1).trans rfl
        go_wp2_with fail
        clear e17_0 e17_1
        refine (ll_take HL.out 2 (HJ2.out gl gr) ub b1 HMB.out HVB.out).mono ?_
        rintro e wq ⟨rfl, hL, hh⟩
        rw [HM2.out] at hL
        have hl_ := (show LawL w wq (MS (.slice (some ad) L.length c7) [b20, b17, b16]) X w.heap.size w2.heap.size pw pj pr (.slice A xs.length c) xs [(g, m), (gl, ma), (gr, mb)] from hL)
        have ho_ := HO.out.heldS hh
        have x16_ := hh.box (by simp) HE16.out
        have x17_ := hh.box (by simp) HE17.out
        have x20_ := hh.box (by simp) HE20.out
        clear HL HO HE16 HE17 HE20
        have HL := Aside0.mk hl_
        have HO := Aside0.mk ho_
        have HE16 := Aside0.mk x16_
        have HE17 := Aside0.mk x17_
        have HE20 := Aside0.mk x20_
        clear hl_ ho_ x16_ x17_ x20_
        clear hL hh hwp hb20
        have hl_ := HL.out.boxS (.cells #[.int .i64 u0, .int .i64 ub, .int .i64 u2, .int .i64 u3] 42)
        have ho_ := HO.out.below (below_alloc (Below.refl _ _) (.cells #[.int .i64 u0, .int .i64 ub, .int .i64 u2, .int .i64 u3] 42))
        have hn_ := heap_alloc_new wq (.cells #[.int .i64 u0, .int .i64 ub, .int .i64 u2, .int .i64 u3] 42)
        have x16_ := blk_alloc HE16.out (.cells #[.int .i64 u0, .int .i64 ub, .int .i64 u2, .int .i64 u3] 42)
        have x17_ := blk_alloc HE17.out (.cells #[.int .i64 u0, .int .i64 ub, .int .i64 u2, .int .i64 u3] 42)
        have x20_ := blk_alloc HE20.out (.cells #[.int .i64 u0, .int .i64 ub, .int .i64 u2, .int .i64 u3] 42)
        obtain ⟨wr1, hwr1⟩ : ∃ W0, wq.alloc (.cells #[.int .i64 u0, .int .i64 ub, .int .i64 u2, .int .i64 u3] 42) = W0 := ⟨_, rfl⟩
        rw [hwr1] at hl_ ho_ hn_ x16_ x17_ x20_
        obtain ⟨b22, hb22⟩ : ∃ b, wq.heap.size = b := ⟨_, rfl⟩
        rw [hb22] at hl_ hn_
        clear HL HO HE16 HE17 HE20
        have HL := Aside0.mk hl_
        have HO := Aside0.mk ho_
        have HE16 := Aside0.mk x16_
        have HE17 := Aside0.mk x17_
        have HE20 := Aside0.mk x20_
        clear hl_ ho_ x16_ x17_ x20_
        have HE22 := Aside0.mk hn_
        clear hn_
        have e16_0 : wr1.cell? ⟨b16, 0, none⟩ = some (.int .i64 va) := (blk_cell HE16.out 0).trans rfl
        have e16_1 : wr1.cell? ⟨b16, 1, none⟩ = some (.int .i64 a1) := (blk_cell HE16.out 1).trans rfl
        have e17_0 : wr1.cell? ⟨b17, 0, none⟩ = some (.int .i64 ub) := (blk_cell HE17.out 0).trans rfl
        have e17_1 : wr1.cell? ⟨b17, 1, none⟩ = some (.int .i64 b1) := (blk_cell HE17.out 1).trans rfl
        have e20_0 : wr1.cell? ⟨b20, 0, none⟩ = some (.int .i64 v0) := (blk_cell HE20.out 0).trans rfl
        have e20_1 : wr1.cell? ⟨b20, 1, none⟩ = some (.int .i64 va) := (blk_cell HE20.out 1).trans rfl
        have e20_2 : wr1.cell? ⟨b20, 2, none⟩ = some (.int .i64 v2) := (blk_cell HE20.out 2).trans rfl
        have e20_3 : wr1.cell? ⟨b20, 3, none⟩ = some (.int .i64 v3) := (blk_cell HE20.out 3).trans rfl
        have e22_0 : wr1.cell? ⟨b22, 0, none⟩ = some (.int .i64 u0) := (blk_cell HE22.out 0).trans rfl
        have e22_1 : wr1.cell? ⟨b22, 1, none⟩ = some (.int .i64 ub) := (blk_cell HE22.out 1).trans rfl
        have e22_2 : wr1.cell? ⟨b22, 2, none⟩ = some (.int .i64 u2) := (blk_cell HE22.out 2).trans rfl
        have e22_3 : wr1.cell? ⟨b22, 3, none⟩ = some (.int .i64 u3) := (blk_cell HE22.out 3).trans rfl
        go_wp2_with fail
        clear e16_0 e16_1 e17_0 e17_1 e20_0 e20_1 e20_2 e20_3 e22_0 e22_1 e22_2 e22_3
        clear hwr1 hb22
        refine (pk_ready (HL.out.run (HK0.out gl gr)) HLM.out).mono ?_
        rintro e ws ⟨A8, rfl, hC8, hb⟩
        have hl_ := HL.out.pass hb
        have ho_ := HO.out.below hb
        have x16_ := (hb.block _ (blk_lt HE16.out)).trans HE16.out
        have x17_ := (hb.block _ (blk_lt HE17.out)).trans HE17.out
        have x20_ := (hb.block _ (blk_lt HE20.out)).trans HE20.out
        have x22_ := (hb.block _ (blk_lt HE22.out)).trans HE22.out
        clear HL HO HE16 HE17 HE20 HE22
        have HL := Aside0.mk hl_
        have HO := Aside0.mk ho_
        have HE16 := Aside0.mk x16_
        have HE17 := Aside0.mk x17_
        have HE20 := Aside0.mk x20_
        have HE22 := Aside0.mk x22_
        clear hl_ ho_ x16_ x17_ x20_ x22_
        clear hb
        go_wp2_with fail
        refine (same_moves_below A8 (some ad) _ _ L _ HLL.out hC8 (Nat.le_refl _) HO.out.reads (Nat.le_refl _)).mono ?_
        rintro e wt ⟨rfl, hb⟩
        have hl_ := HL.out.pass hb
        have ho_ := HO.out.below hb
        have x16_ := (hb.block _ (blk_lt HE16.out)).trans HE16.out
        have x17_ := (hb.block _ (blk_lt HE17.out)).trans HE17.out
        have x20_ := (hb.block _ (blk_lt HE20.out)).trans HE20.out
        have x22_ := (hb.block _ (blk_lt HE22.out)).trans HE22.out
        clear HL HO HE16 HE17 HE20 HE22
        have HL := Aside0.mk hl_
        have HO := Aside0.mk ho_
        have HE16 := Aside0.mk x16_
        have HE17 := Aside0.mk x17_
        have HE20 := Aside0.mk x20_
        have HE22 := Aside0.mk x22_
        clear hl_ ho_ x16_ x17_ x20_ x22_
        clear hb hC8
        go_wp2_with fail
        have hb := below_drew (Below.refl wt.heap.size wt)
        have hl_ := HL.out.pass hb
        have ho_ := HO.out.below hb
        have x16_ := (hb.block _ (blk_lt HE16.out)).trans HE16.out
        have x17_ := (hb.block _ (blk_lt HE17.out)).trans HE17.out
        have x20_ := (hb.block _ (blk_lt HE20.out)).trans HE20.out
        have x22_ := (hb.block _ (blk_lt HE22.out)).trans HE22.out
        clear HL HO HE16 HE17 HE20 HE22
        have HL := Aside0.mk hl_
        have HO := Aside0.mk ho_
        have HE16 := Aside0.mk x16_
        have HE17 := Aside0.mk x17_
        have HE20 := Aside0.mk x20_
        have HE22 := Aside0.mk x22_
        clear hl_ ho_ x16_ x17_ x20_ x22_
        clear hb
        by_cases hab : va = ub
        · have q1 : (va == ub) = true := beq_iff_eq.mpr hab
          have q2 := eq_true hab
          clear hab
          refine start_ (n := 17) (S := fun w' => w'.heap[b16]? = some (.cells #[.int .i64 va, .int .i64 a1] 64 (0, 0)) ∧ w'.heap[b17]? = some (.cells #[.int .i64 ub, .int .i64 b1] 64 (0, 0)) ∧ w'.heap[b20]? = some (.cells #[.int .i64 v0, .int .i64 va, .int .i64 v2, .int .i64 v3] 42 (0, 0)) ∧ w'.heap[b22]? = some (.cells #[.int .i64 u0, .int .i64 ub, .int .i64 u2, .int .i64 u3] 42 (0, 0))) (ds := []) #[false, false, false, false, false, false, false, false, false, false, false, false, false, false, false, false, false] (by kernel_rfl) rfl rfl ⟨HE16.out, HE17.out, HE20.out, HE22.out⟩ (fun hHeld => ?_)
          generalize wt.drew = Wd at HL HO HE16 HE17 HE20 HE22 hHeld ⊢
          refine pure_ (i := 0) (N := (some 151)) (v := ?_) (a' := ?_) #[true, false, false, false, false, false, false, false, false, false, false, false, false, false, false, false, false] rfl rfl (by kernel_rfl) (fun _ _ _ h => h) (Or.inl ⟨by rfl, ?_⟩) ?_ ?_
          rotate_left
          · intro w'
            go_simp
            with_reducible rfl
          rotate_left
          · simp only [Act.put, List.setIfInBounds_toArray, List.set_cons_zero, List.set_cons_succ, i64_w, i32_w]
            rfl
          refine pure_ (i := 2) (N := (some 153)) (v := ?_) (a' := ?_) #[true, false, true, false, false, false, false, false, false, false, false, false, false, false, false, false, false] rfl rfl (by kernel_rfl) (fun _ _ _ h => h) (Or.inl ⟨by rfl, ?_⟩) ?_ ?_
          rotate_left
          · intro w'
            go_simp
            with_reducible rfl
          rotate_left
          · simp only [Act.put, List.setIfInBounds_toArray, List.set_cons_zero, List.set_cons_succ, i64_w, i32_w]
            rfl
          refine take_ (i := 1) (N := (some 152)) (v := ?_) (a' := ?_) #[true, true, true, false, false, false, false, false, false, false, false, false, false, false, false, false, false] rfl rfl (by kernel_rfl) (fun _ _ _ h => h) (Or.inl ⟨by rfl, ?_⟩) hHeld ?_ ?_
          rotate_left
          · rintro w' ⟨s0, s1, s2, s3⟩
            have t16 : w'.cell? ⟨b16, 0, none⟩ = some (.int .i64 va) := (blk_cell s0 0).trans rfl
            have t17 : w'.cell? ⟨b17, 0, none⟩ = some (.int .i64 ub) := (blk_cell s1 0).trans rfl
            have t20_0 : w'.cell? ⟨b20, 0, none⟩ = some (.int .i64 v0) := (blk_cell s2 0).trans rfl
            have t20_1 : w'.cell? ⟨b20, 1, none⟩ = some (.int .i64 va) := (blk_cell s2 1).trans rfl
            have t20_2 : w'.cell? ⟨b20, 2, none⟩ = some (.int .i64 v2) := (blk_cell s2 2).trans rfl
            have t20_3 : w'.cell? ⟨b20, 3, none⟩ = some (.int .i64 v3) := (blk_cell s2 3).trans rfl
            have t22_0 : w'.cell? ⟨b22, 0, none⟩ = some (.int .i64 u0) := (blk_cell s3 0).trans rfl
            have t22_1 : w'.cell? ⟨b22, 1, none⟩ = some (.int .i64 ub) := (blk_cell s3 1).trans rfl
            have t22_2 : w'.cell? ⟨b22, 2, none⟩ = some (.int .i64 u2) := (blk_cell s3 2).trans rfl
            have t22_3 : w'.cell? ⟨b22, 3, none⟩ = some (.int .i64 u3) := (blk_cell s3 3).trans rfl
            go_simp
            with_reducible rfl
          rotate_left
          · simp only [Act.put, List.setIfInBounds_toArray, List.set_cons_zero, List.set_cons_succ, i64_w, i32_w]
            rfl
          refine take_ (i := 3) (N := (some 154)) (v := ?_) (a' := ?_) #[true, true, true, true, false, false, false, false, false, false, false, false, false, false, false, false, false] rfl rfl (by kernel_rfl) (fun _ _ _ h => h) (Or.inl ⟨by rfl, ?_⟩) hHeld ?_ ?_
          rotate_left
          · rintro w' ⟨s0, s1, s2, s3⟩
            have t16 : w'.cell? ⟨b16, 0, none⟩ = some (.int .i64 va) := (blk_cell s0 0).trans rfl
            have t17 : w'.cell? ⟨b17, 0, none⟩ = some (.int .i64 ub) := (blk_cell s1 0).trans rfl
            have t20_0 : w'.cell? ⟨b20, 0, none⟩ = some (.int .i64 v0) := (blk_cell s2 0).trans rfl
            have t20_1 : w'.cell? ⟨b20, 1, none⟩ = some (.int .i64 va) := (blk_cell s2 1).trans rfl
            have t20_2 : w'.cell? ⟨b20, 2, none⟩ = some (.int .i64 v2) := (blk_cell s2 2).trans rfl
            have t20_3 : w'.cell? ⟨b20, 3, none⟩ = some (.int .i64 v3) := (blk_cell s2 3).trans rfl
            have t22_0 : w'.cell? ⟨b22, 0, none⟩ = some (.int .i64 u0) := (blk_cell s3 0).trans rfl
            have t22_1 : w'.cell? ⟨b22, 1, none⟩ = some (.int .i64 ub) := (blk_cell s3 1).trans rfl
            have t22_2 : w'.cell? ⟨b22, 2, none⟩ = some (.int .i64 u2) := (blk_cell s3 2).trans rfl
            have t22_3 : w'.cell? ⟨b22, 3, none⟩ = some (.int .i64 u3) := (blk_cell s3 3).trans rfl
            go_simp
            with_reducible rfl
          rotate_left
          · simp only [Act.put, List.setIfInBounds_toArray, List.set_cons_zero, List.set_cons_succ, i64_w, i32_w]
            rfl
          refine pure_ (i := 4) (N := (some 155)) (v := ?_) (a' := ?_) #[true, true, true, true, true, false, false, false, false, false, false, false, false, false, false, false, false] rfl rfl (by kernel_rfl) (fun _ _ _ h => h) (Or.inl ⟨by rfl, ?_⟩) ?_ ?_
          rotate_left
          · intro w'
            go_simp
            with_reducible rfl
          rotate_left
          · simp only [Act.put, List.setIfInBounds_toArray, List.set_cons_zero, List.set_cons_succ, i64_w, i32_w]
            rfl
          refine pure_ (i := 5) (N := (some 156)) (v := ?_) (a' := ?_) #[true, true, true, true, true, true, false, false, false, false, false, false, false, false, false, false, false] rfl rfl (by kernel_rfl) (fun _ _ _ h => h) (Or.inl ⟨by rfl, ?_⟩) ?_ ?_
          rotate_left
          · intro w'
            go_simp
            with_reducible rfl
          rotate_left
          · simp only [Act.put, List.setIfInBounds_toArray, List.set_cons_zero, List.set_cons_succ, i64_w, i32_w]
            rfl
          refine pure_ (i := 6) (N := (some 157)) (v := undef) (a' := ?_) #[true, true, true, true, true, true, true, false, false, false, false, false, false, false, false, false, false] rfl rfl (by kernel_rfl) (fun _ _ _ h => h) (Or.inr ⟨by rfl, rfl⟩) ?_ ?_
          rotate_left
          · simp only [Act.put, List.setIfInBounds_toArray, List.set_cons_zero, List.set_cons_succ, i64_w, i32_w]
            rfl
          refine pure_ (i := 7) (N := (some 158)) (v := undef) (a' := ?_) #[true, true, true, true, true, true, true, true, false, false, false, false, false, false, false, false, false] rfl rfl (by kernel_rfl) (fun _ _ _ h => h) (Or.inr ⟨by rfl, rfl⟩) ?_ ?_
          rotate_left
          · simp only [Act.put, List.setIfInBounds_toArray, List.set_cons_zero, List.set_cons_succ, i64_w, i32_w]
            rfl
          refine pure_ (i := 8) (N := (some 159)) (v := undef) (a' := ?_) #[true, true, true, true, true, true, true, true, true, false, false, false, false, false, false, false, false] rfl rfl (by kernel_rfl) (fun _ _ _ h => h) (Or.inr ⟨by rfl, rfl⟩) ?_ ?_
          rotate_left
          · simp only [Act.put, List.setIfInBounds_toArray, List.set_cons_zero, List.set_cons_succ, i64_w, i32_w]
            rfl
          refine pure_ (i := 9) (N := (some 160)) (v := undef) (a' := ?_) #[true, true, true, true, true, true, true, true, true, true, false, false, false, false, false, false, false] rfl rfl (by kernel_rfl) (fun _ _ _ h => h) (Or.inr ⟨by rfl, rfl⟩) ?_ ?_
          rotate_left
          · simp only [Act.put, List.setIfInBounds_toArray, List.set_cons_zero, List.set_cons_succ, i64_w, i32_w]
            rfl
          refine pure_ (i := 10) (N := (some 161)) (v := undef) (a' := ?_) #[true, true, true, true, true, true, true, true, true, true, true, false, false, false, false, false, false] rfl rfl (by kernel_rfl) (fun _ _ _ h => h) (Or.inr ⟨by rfl, rfl⟩) ?_ ?_
          rotate_left
          · simp only [Act.put, List.setIfInBounds_toArray, List.set_cons_zero, List.set_cons_succ, i64_w, i32_w]
            rfl
          refine pure_ (i := 11) (N := (some 162)) (v := undef) (a' := ?_) #[true, true, true, true, true, true, true, true, true, true, true, true, false, false, false, false, false] rfl rfl (by kernel_rfl) (fun _ _ _ h => h) (Or.inr ⟨by rfl, rfl⟩) ?_ ?_
          rotate_left
          · simp only [Act.put, List.setIfInBounds_toArray, List.set_cons_zero, List.set_cons_succ, i64_w, i32_w]
            rfl
          refine pure_ (i := 12) (N := (some 163)) (v := undef) (a' := ?_) #[true, true, true, true, true, true, true, true, true, true, true, true, true, false, false, false, false] rfl rfl (by kernel_rfl) (fun _ _ _ h => h) (Or.inr ⟨by rfl, rfl⟩) ?_ ?_
          rotate_left
          · simp only [Act.put, List.setIfInBounds_toArray, List.set_cons_zero, List.set_cons_succ, i64_w, i32_w]
            rfl
          refine pure_ (i := 13) (N := (some 164)) (v := undef) (a' := ?_) #[true, true, true, true, true, true, true, true, true, true, true, true, true, true, false, false, false] rfl rfl (by kernel_rfl) (fun _ _ _ h => h) (Or.inr ⟨by rfl, rfl⟩) ?_ ?_
          rotate_left
          · simp only [Act.put, List.setIfInBounds_toArray, List.set_cons_zero, List.set_cons_succ, i64_w, i32_w]
            rfl
          refine pure_ (i := 14) (N := (some 165)) (v := undef) (a' := ?_) #[true, true, true, true, true, true, true, true, true, true, true, true, true, true, true, false, false] rfl rfl (by kernel_rfl) (fun _ _ _ h => h) (Or.inr ⟨by rfl, rfl⟩) ?_ ?_
          rotate_left
          · simp only [Act.put, List.setIfInBounds_toArray, List.set_cons_zero, List.set_cons_succ, i64_w, i32_w]
            rfl
          refine pure_ (i := 15) (N := (some 166)) (v := undef) (a' := ?_) #[true, true, true, true, true, true, true, true, true, true, true, true, true, true, true, true, false] rfl rfl (by kernel_rfl) (fun _ _ _ h => h) (Or.inr ⟨by rfl, rfl⟩) ?_ ?_
          rotate_left
          · simp only [Act.put, List.setIfInBounds_toArray, List.set_cons_zero, List.set_cons_succ, i64_w, i32_w]
            rfl
          refine pure_ (i := 16) (N := (some 167)) (v := ?_) (a' := ?_) #[true, true, true, true, true, true, true, true, true, true, true, true, true, true, true, true, true] rfl rfl (by kernel_rfl) (fun _ _ _ h => h) (Or.inl ⟨by rfl, ?_⟩) ?_ ?_
          rotate_left
          · intro w'
            go_simp
            with_reducible rfl
          rotate_left
          · simp only [Act.put, List.setIfInBounds_toArray, List.set_cons_zero, List.set_cons_succ, i64_w, i32_w]
            rfl
          refine done_ (by kernel_rfl) ?_
          go_wp2_with fail
          go_ret
          exact ⟨rfl, HL.out.fl.bel⟩
        · by_cases hu : usesOf v0 = 0
          · have q3 : (usesOf v0 != 0) = false := by simp [hu]
            have q4 := eq_true hu
            have HS := Aside0.mk (HSIDE.out hab (fun h => h.1 hu))
            have q1 : (va == ub) = false := beq_eq_false_iff_ne.mpr hab
            have q2 := eq_false hab
            clear hab
            clear hu
            refine start_ (n := 17) (S := fun w' => w'.heap[b16]? = some (.cells #[.int .i64 va, .int .i64 a1] 64 (0, 0)) ∧ w'.heap[b17]? = some (.cells #[.int .i64 ub, .int .i64 b1] 64 (0, 0)) ∧ w'.heap[b20]? = some (.cells #[.int .i64 v0, .int .i64 va, .int .i64 v2, .int .i64 v3] 42 (0, 0)) ∧ w'.heap[b22]? = some (.cells #[.int .i64 u0, .int .i64 ub, .int .i64 u2, .int .i64 u3] 42 (0, 0))) (ds := []) #[false, false, false, false, false, false, false, false, false, false, false, false, false, false, false, false, false] (by kernel_rfl) rfl rfl ⟨HE16.out, HE17.out, HE20.out, HE22.out⟩ (fun hHeld => ?_)
            generalize wt.drew = Wd at HL HO HE16 HE17 HE20 HE22 hHeld ⊢
            refine pure_ (i := 0) (N := (some 151)) (v := ?_) (a' := ?_) #[true, false, false, false, false, false, false, false, false, false, false, false, false, false, false, false, false] rfl rfl (by kernel_rfl) (fun _ _ _ h => h) (Or.inl ⟨by rfl, ?_⟩) ?_ ?_
            rotate_left
            · intro w'
              go_simp
              with_reducible rfl
            rotate_left
            · simp only [Act.put, List.setIfInBounds_toArray, List.set_cons_zero, List.set_cons_succ, i64_w, i32_w]
              rfl
            refine pure_ (i := 2) (N := (some 153)) (v := ?_) (a' := ?_) #[true, false, true, false, false, false, false, false, false, false, false, false, false, false, false, false, false] rfl rfl (by kernel_rfl) (fun _ _ _ h => h) (Or.inl ⟨by rfl, ?_⟩) ?_ ?_
            rotate_left
            · intro w'
              go_simp
              with_reducible rfl
            rotate_left
            · simp only [Act.put, List.setIfInBounds_toArray, List.set_cons_zero, List.set_cons_succ, i64_w, i32_w]
              rfl
            refine take_ (i := 1) (N := (some 152)) (v := ?_) (a' := ?_) #[true, true, true, false, false, false, false, false, false, false, false, false, false, false, false, false, false] rfl rfl (by kernel_rfl) (fun _ _ _ h => h) (Or.inl ⟨by rfl, ?_⟩) hHeld ?_ ?_
            rotate_left
            · rintro w' ⟨s0, s1, s2, s3⟩
              have t16 : w'.cell? ⟨b16, 0, none⟩ = some (.int .i64 va) := (blk_cell s0 0).trans rfl
              have t17 : w'.cell? ⟨b17, 0, none⟩ = some (.int .i64 ub) := (blk_cell s1 0).trans rfl
              have t20_0 : w'.cell? ⟨b20, 0, none⟩ = some (.int .i64 v0) := (blk_cell s2 0).trans rfl
              have t20_1 : w'.cell? ⟨b20, 1, none⟩ = some (.int .i64 va) := (blk_cell s2 1).trans rfl
              have t20_2 : w'.cell? ⟨b20, 2, none⟩ = some (.int .i64 v2) := (blk_cell s2 2).trans rfl
              have t20_3 : w'.cell? ⟨b20, 3, none⟩ = some (.int .i64 v3) := (blk_cell s2 3).trans rfl
              have t22_0 : w'.cell? ⟨b22, 0, none⟩ = some (.int .i64 u0) := (blk_cell s3 0).trans rfl
              have t22_1 : w'.cell? ⟨b22, 1, none⟩ = some (.int .i64 ub) := (blk_cell s3 1).trans rfl
              have t22_2 : w'.cell? ⟨b22, 2, none⟩ = some (.int .i64 u2) := (blk_cell s3 2).trans rfl
              have t22_3 : w'.cell? ⟨b22, 3, none⟩ = some (.int .i64 u3) := (blk_cell s3 3).trans rfl
              go_simp
              with_reducible rfl
            rotate_left
            · simp only [Act.put, List.setIfInBounds_toArray, List.set_cons_zero, List.set_cons_succ, i64_w, i32_w]
              rfl
            refine take_ (i := 3) (N := (some 154)) (v := ?_) (a' := ?_) #[true, true, true, true, false, false, false, false, false, false, false, false, false, false, false, false, false] rfl rfl (by kernel_rfl) (fun _ _ _ h => h) (Or.inl ⟨by rfl, ?_⟩) hHeld ?_ ?_
            rotate_left
            · rintro w' ⟨s0, s1, s2, s3⟩
              have t16 : w'.cell? ⟨b16, 0, none⟩ = some (.int .i64 va) := (blk_cell s0 0).trans rfl
              have t17 : w'.cell? ⟨b17, 0, none⟩ = some (.int .i64 ub) := (blk_cell s1 0).trans rfl
              have t20_0 : w'.cell? ⟨b20, 0, none⟩ = some (.int .i64 v0) := (blk_cell s2 0).trans rfl
              have t20_1 : w'.cell? ⟨b20, 1, none⟩ = some (.int .i64 va) := (blk_cell s2 1).trans rfl
              have t20_2 : w'.cell? ⟨b20, 2, none⟩ = some (.int .i64 v2) := (blk_cell s2 2).trans rfl
              have t20_3 : w'.cell? ⟨b20, 3, none⟩ = some (.int .i64 v3) := (blk_cell s2 3).trans rfl
              have t22_0 : w'.cell? ⟨b22, 0, none⟩ = some (.int .i64 u0) := (blk_cell s3 0).trans rfl
              have t22_1 : w'.cell? ⟨b22, 1, none⟩ = some (.int .i64 ub) := (blk_cell s3 1).trans rfl
              have t22_2 : w'.cell? ⟨b22, 2, none⟩ = some (.int .i64 u2) := (blk_cell s3 2).trans rfl
              have t22_3 : w'.cell? ⟨b22, 3, none⟩ = some (.int .i64 u3) := (blk_cell s3 3).trans rfl
              go_simp
              with_reducible rfl
            rotate_left
            · simp only [Act.put, List.setIfInBounds_toArray, List.set_cons_zero, List.set_cons_succ, i64_w, i32_w]
              rfl
            refine pure_ (i := 4) (N := (some 155)) (v := ?_) (a' := ?_) #[true, true, true, true, true, false, false, false, false, false, false, false, false, false, false, false, false] rfl rfl (by kernel_rfl) (fun _ _ _ h => h) (Or.inl ⟨by rfl, ?_⟩) ?_ ?_
            rotate_left
            · intro w'
              go_simp
              with_reducible rfl
            rotate_left
            · simp only [Act.put, List.setIfInBounds_toArray, List.set_cons_zero, List.set_cons_succ, i64_w, i32_w]
              rfl
            refine pure_ (i := 5) (N := (some 156)) (v := ?_) (a' := ?_) #[true, true, true, true, true, true, false, false, false, false, false, false, false, false, false, false, false] rfl rfl (by kernel_rfl) (fun _ _ _ h => h) (Or.inl ⟨by rfl, ?_⟩) ?_ ?_
            rotate_left
            · intro w'
              go_simp
              with_reducible rfl
            rotate_left
            · simp only [Act.put, List.setIfInBounds_toArray, List.set_cons_zero, List.set_cons_succ, i64_w, i32_w]
              rfl
            refine take_ (i := 6) (N := (some 157)) (v := ?_) (a' := ?_) #[true, true, true, true, true, true, true, false, false, false, false, false, false, false, false, false, false] rfl rfl (by kernel_rfl) (fun _ _ _ h => h) (Or.inl ⟨by rfl, ?_⟩) hHeld ?_ ?_
            rotate_left
            · rintro w' ⟨s0, s1, s2, s3⟩
              have t16 : w'.cell? ⟨b16, 0, none⟩ = some (.int .i64 va) := (blk_cell s0 0).trans rfl
              have t17 : w'.cell? ⟨b17, 0, none⟩ = some (.int .i64 ub) := (blk_cell s1 0).trans rfl
              have t20_0 : w'.cell? ⟨b20, 0, none⟩ = some (.int .i64 v0) := (blk_cell s2 0).trans rfl
              have t20_1 : w'.cell? ⟨b20, 1, none⟩ = some (.int .i64 va) := (blk_cell s2 1).trans rfl
              have t20_2 : w'.cell? ⟨b20, 2, none⟩ = some (.int .i64 v2) := (blk_cell s2 2).trans rfl
              have t20_3 : w'.cell? ⟨b20, 3, none⟩ = some (.int .i64 v3) := (blk_cell s2 3).trans rfl
              have t22_0 : w'.cell? ⟨b22, 0, none⟩ = some (.int .i64 u0) := (blk_cell s3 0).trans rfl
              have t22_1 : w'.cell? ⟨b22, 1, none⟩ = some (.int .i64 ub) := (blk_cell s3 1).trans rfl
              have t22_2 : w'.cell? ⟨b22, 2, none⟩ = some (.int .i64 u2) := (blk_cell s3 2).trans rfl
              have t22_3 : w'.cell? ⟨b22, 3, none⟩ = some (.int .i64 u3) := (blk_cell s3 3).trans rfl
              go_simp
              with_reducible rfl
            rotate_left
            · simp only [Act.put, List.setIfInBounds_toArray, List.set_cons_zero, List.set_cons_succ, i64_w, i32_w]
              rfl
            refine one_ (i := 7) (N := (some 158)) #[true, true, true, true, true, true, true, true, false, false, false, false, false, false, false, false, false] rfl rfl (by kernel_rfl) (by decide) (fun K hK => ?_)
            refine goes_ Try.func45 (by kernel_rfl) rfl #[.agg #[.int .i64 v0, .int .i64 va, .int .i64 v2, .int .i64 v3]] (by rfl) rfl rfl (by simp only [List.map_toArray, List.map_cons, List.map_nil]; rfl) ?_
            refine (uses_any v0 va v2 v3 _).mono ?_
            rintro e wu1 ⟨rfl, hb⟩
            refine ⟨_, rfl, ?_⟩
            have hl_ := HL.out.pass hb
            have ho_ := HO.out.below hb
            have x16_ := (hb.block _ (blk_lt HE16.out)).trans HE16.out
            have x17_ := (hb.block _ (blk_lt HE17.out)).trans HE17.out
            have x20_ := (hb.block _ (blk_lt HE20.out)).trans HE20.out
            have x22_ := (hb.block _ (blk_lt HE22.out)).trans HE22.out
            clear HL HO HE16 HE17 HE20 HE22
            have HL := Aside0.mk hl_
            have HO := Aside0.mk ho_
            have HE16 := Aside0.mk x16_
            have HE17 := Aside0.mk x17_
            have HE20 := Aside0.mk x20_
            have HE22 := Aside0.mk x22_
            clear hl_ ho_ x16_ x17_ x20_ x22_
            clear hb
            refine hK.out _ _ ⟨HE16.out, HE17.out, HE20.out, HE22.out⟩ (fun hHeld => ?_)
            clear hK K
            refine norm_ (a' := ?_) ?_ ?_
            rotate_left
            · show Act.put _ (some 158) _ = _
              simp only [Act.put, List.setIfInBounds_toArray, List.set_cons_zero, List.set_cons_succ, i64_w, i32_w]
              rfl
            refine pure_ (i := 8) (N := (some 159)) (v := ?_) (a' := ?_) #[true, true, true, true, true, true, true, true, true, false, false, false, false, false, false, false, false] rfl rfl (by kernel_rfl) (fun _ _ _ h => h) (Or.inl ⟨by rfl, ?_⟩) ?_ ?_
            rotate_left
            · intro w'
              go_simp
              with_reducible rfl
            rotate_left
            · simp only [Act.put, List.setIfInBounds_toArray, List.set_cons_zero, List.set_cons_succ, i64_w, i32_w]
              rfl
            refine pure_ (i := 9) (N := (some 160)) (v := ?_) (a' := ?_) #[true, true, true, true, true, true, true, true, true, true, false, false, false, false, false, false, false] rfl rfl (by kernel_rfl) (fun _ _ _ h => h) (Or.inl ⟨by rfl, ?_⟩) ?_ ?_
            rotate_left
            · intro w'
              go_simp
              with_reducible rfl
            rotate_left
            · simp only [Act.put, List.setIfInBounds_toArray, List.set_cons_zero, List.set_cons_succ, i64_w, i32_w]
              rfl
            refine pure_ (i := 10) (N := (some 161)) (v := undef) (a' := ?_) #[true, true, true, true, true, true, true, true, true, true, true, false, false, false, false, false, false] rfl rfl (by kernel_rfl) (fun _ _ _ h => h) (Or.inr ⟨by rfl, rfl⟩) ?_ ?_
            rotate_left
            · simp only [Act.put, List.setIfInBounds_toArray, List.set_cons_zero, List.set_cons_succ, i64_w, i32_w]
              rfl
            refine pure_ (i := 11) (N := (some 162)) (v := undef) (a' := ?_) #[true, true, true, true, true, true, true, true, true, true, true, true, false, false, false, false, false] rfl rfl (by kernel_rfl) (fun _ _ _ h => h) (Or.inr ⟨by rfl, rfl⟩) ?_ ?_
            rotate_left
            · simp only [Act.put, List.setIfInBounds_toArray, List.set_cons_zero, List.set_cons_succ, i64_w, i32_w]
              rfl
            refine pure_ (i := 12) (N := (some 163)) (v := undef) (a' := ?_) #[true, true, true, true, true, true, true, true, true, true, true, true, true, false, false, false, false] rfl rfl (by kernel_rfl) (fun _ _ _ h => h) (Or.inr ⟨by rfl, rfl⟩) ?_ ?_
            rotate_left
            · simp only [Act.put, List.setIfInBounds_toArray, List.set_cons_zero, List.set_cons_succ, i64_w, i32_w]
              rfl
            refine pure_ (i := 13) (N := (some 164)) (v := undef) (a' := ?_) #[true, true, true, true, true, true, true, true, true, true, true, true, true, true, false, false, false] rfl rfl (by kernel_rfl) (fun _ _ _ h => h) (Or.inr ⟨by rfl, rfl⟩) ?_ ?_
            rotate_left
            · simp only [Act.put, List.setIfInBounds_toArray, List.set_cons_zero, List.set_cons_succ, i64_w, i32_w]
              rfl
            refine pure_ (i := 14) (N := (some 165)) (v := undef) (a' := ?_) #[true, true, true, true, true, true, true, true, true, true, true, true, true, true, true, false, false] rfl rfl (by kernel_rfl) (fun _ _ _ h => h) (Or.inr ⟨by rfl, rfl⟩) ?_ ?_
            rotate_left
            · simp only [Act.put, List.setIfInBounds_toArray, List.set_cons_zero, List.set_cons_succ, i64_w, i32_w]
              rfl
            refine pure_ (i := 15) (N := (some 166)) (v := ?_) (a' := ?_) #[true, true, true, true, true, true, true, true, true, true, true, true, true, true, true, true, false] rfl rfl (by kernel_rfl) (fun _ _ _ h => h) (Or.inl ⟨by rfl, ?_⟩) ?_ ?_
            rotate_left
            · intro w'
              go_simp
              with_reducible rfl
            rotate_left
            · simp only [Act.put, List.setIfInBounds_toArray, List.set_cons_zero, List.set_cons_succ, i64_w, i32_w]
              rfl
            refine pure_ (i := 16) (N := (some 167)) (v := ?_) (a' := ?_) #[true, true, true, true, true, true, true, true, true, true, true, true, true, true, true, true, true] rfl rfl (by kernel_rfl) (fun _ _ _ h => h) (Or.inl ⟨by rfl, ?_⟩) ?_ ?_
            rotate_left
            · intro w'
              go_simp
              with_reducible rfl
            rotate_left
            · simp only [Act.put, List.setIfInBounds_toArray, List.set_cons_zero, List.set_cons_succ, i64_w, i32_w]
              rfl
            refine done_ (by kernel_rfl) ?_
            clear q3 q4
            have e17_0 : wu1.cell? ⟨b17, 0, none⟩ = some (.int .i64 ub) := (blk_cell HE17.out 0).trans rfl
            have e17_1 : wu1.cell? ⟨b17, 1, none⟩ = some (.int .i64 b1) := (blk_cell HE17.out 1).trans rfl
            go_wp2_with fail
            clear e17_0 e17_1
            clear q1 q2
            refine (ll_take HL.out 1 (HK1.out gl gr) ub b1 HS.out.1 HS.out.2.1).mono ?_
            rintro e wv ⟨rfl, hL, hh⟩
            rw [HM3.out] at hL
            have hl_ := (show LawL w wv (MS (.slice (some ad) L.length c7) [b22, b20, b17, b16]) X w.heap.size w2.heap.size pw pj pr (.slice A xs.length c) xs [(g, m), (gl, mab), (gr, mb)] from hL)
            have ho_ := HO.out.heldS hh
            have x16_ := hh.box (by simp) HE16.out
            have x17_ := hh.box (by simp) HE17.out
            have x20_ := hh.box (by simp) HE20.out
            have x22_ := hh.box (by simp) HE22.out
            clear HL HO HE16 HE17 HE20 HE22
            have HL := Aside0.mk hl_
            have HO := Aside0.mk ho_
            have HE16 := Aside0.mk x16_
            have HE17 := Aside0.mk x17_
            have HE20 := Aside0.mk x20_
            have HE22 := Aside0.mk x22_
            clear hl_ ho_ x16_ x17_ x20_ x22_
            clear hL hh
            have hl_ := HL.out.boxS (.cells #[.int .i64 u0, .int .i64 ub, .int .i64 u2, .int .i64 u3] 42)
            have ho_ := HO.out.below (below_alloc (Below.refl _ _) (.cells #[.int .i64 u0, .int .i64 ub, .int .i64 u2, .int .i64 u3] 42))
            have hn_ := heap_alloc_new wv (.cells #[.int .i64 u0, .int .i64 ub, .int .i64 u2, .int .i64 u3] 42)
            have x16_ := blk_alloc HE16.out (.cells #[.int .i64 u0, .int .i64 ub, .int .i64 u2, .int .i64 u3] 42)
            have x17_ := blk_alloc HE17.out (.cells #[.int .i64 u0, .int .i64 ub, .int .i64 u2, .int .i64 u3] 42)
            have x20_ := blk_alloc HE20.out (.cells #[.int .i64 u0, .int .i64 ub, .int .i64 u2, .int .i64 u3] 42)
            have x22_ := blk_alloc HE22.out (.cells #[.int .i64 u0, .int .i64 ub, .int .i64 u2, .int .i64 u3] 42)
            obtain ⟨wv1, hwv1⟩ : ∃ W0, wv.alloc (.cells #[.int .i64 u0, .int .i64 ub, .int .i64 u2, .int .i64 u3] 42) = W0 := ⟨_, rfl⟩
            rw [hwv1] at hl_ ho_ hn_ x16_ x17_ x20_ x22_
            obtain ⟨b24, hb24⟩ : ∃ b, wv.heap.size = b := ⟨_, rfl⟩
            rw [hb24] at hl_ hn_
            clear HL HO HE16 HE17 HE20 HE22
            have HL := Aside0.mk hl_
            have HO := Aside0.mk ho_
            have HE16 := Aside0.mk x16_
            have HE17 := Aside0.mk x17_
            have HE20 := Aside0.mk x20_
            have HE22 := Aside0.mk x22_
            clear hl_ ho_ x16_ x17_ x20_ x22_
            have HE24 := Aside0.mk hn_
            clear hn_
            have e16_0 : wv1.cell? ⟨b16, 0, none⟩ = some (.int .i64 va) := (blk_cell HE16.out 0).trans rfl
            have e16_1 : wv1.cell? ⟨b16, 1, none⟩ = some (.int .i64 a1) := (blk_cell HE16.out 1).trans rfl
            go_wp2_with fail
            clear e16_0 e16_1
            clear hwv1 hb24
            refine (ll_take HL.out 2 (HK2.out gl gr) va a1 HS.out.2.2.1 HS.out.2.2.2.1).mono ?_
            rintro e ww ⟨rfl, hL, hh⟩
            rw [HM4.out] at hL
            have hl_ := (show LawL w ww (MS (.slice (some ad) L.length c7) [b24, b22, b20, b17, b16]) X w.heap.size w2.heap.size pw pj pr (.slice A xs.length c) xs [(g, m), (gl, mab), (gr, mba)] from hL)
            have ho_ := HO.out.heldS hh
            have x16_ := hh.box (by simp) HE16.out
            have x17_ := hh.box (by simp) HE17.out
            have x20_ := hh.box (by simp) HE20.out
            have x22_ := hh.box (by simp) HE22.out
            have x24_ := hh.box (by simp) HE24.out
            clear HL HO HE16 HE17 HE20 HE22 HE24
            have HL := Aside0.mk hl_
            have HO := Aside0.mk ho_
            have HE16 := Aside0.mk x16_
            have HE17 := Aside0.mk x17_
            have HE20 := Aside0.mk x20_
            have HE22 := Aside0.mk x22_
            have HE24 := Aside0.mk x24_
            clear hl_ ho_ x16_ x17_ x20_ x22_ x24_
            clear hL hh
            have hl_ := HL.out.boxS (.cells #[.int .i64 v0, .int .i64 va, .int .i64 v2, .int .i64 v3] 42)
            have ho_ := HO.out.below (below_alloc (Below.refl _ _) (.cells #[.int .i64 v0, .int .i64 va, .int .i64 v2, .int .i64 v3] 42))
            have hn_ := heap_alloc_new ww (.cells #[.int .i64 v0, .int .i64 va, .int .i64 v2, .int .i64 v3] 42)
            have x16_ := blk_alloc HE16.out (.cells #[.int .i64 v0, .int .i64 va, .int .i64 v2, .int .i64 v3] 42)
            have x17_ := blk_alloc HE17.out (.cells #[.int .i64 v0, .int .i64 va, .int .i64 v2, .int .i64 v3] 42)
            have x20_ := blk_alloc HE20.out (.cells #[.int .i64 v0, .int .i64 va, .int .i64 v2, .int .i64 v3] 42)
            have x22_ := blk_alloc HE22.out (.cells #[.int .i64 v0, .int .i64 va, .int .i64 v2, .int .i64 v3] 42)
            have x24_ := blk_alloc HE24.out (.cells #[.int .i64 v0, .int .i64 va, .int .i64 v2, .int .i64 v3] 42)
            obtain ⟨ww1, hww1⟩ : ∃ W0, ww.alloc (.cells #[.int .i64 v0, .int .i64 va, .int .i64 v2, .int .i64 v3] 42) = W0 := ⟨_, rfl⟩
            rw [hww1] at hl_ ho_ hn_ x16_ x17_ x20_ x22_ x24_
            obtain ⟨b26, hb26⟩ : ∃ b, ww.heap.size = b := ⟨_, rfl⟩
            rw [hb26] at hl_ hn_
            clear HL HO HE16 HE17 HE20 HE22 HE24
            have HL := Aside0.mk hl_
            have HO := Aside0.mk ho_
            have HE16 := Aside0.mk x16_
            have HE17 := Aside0.mk x17_
            have HE20 := Aside0.mk x20_
            have HE22 := Aside0.mk x22_
            have HE24 := Aside0.mk x24_
            clear hl_ ho_ x16_ x17_ x20_ x22_ x24_
            have HE26 := Aside0.mk hn_
            clear hn_
            have e20_0 : ww1.cell? ⟨b20, 0, none⟩ = some (.int .i64 v0) := (blk_cell HE20.out 0).trans rfl
            have e20_1 : ww1.cell? ⟨b20, 1, none⟩ = some (.int .i64 va) := (blk_cell HE20.out 1).trans rfl
            have e20_2 : ww1.cell? ⟨b20, 2, none⟩ = some (.int .i64 v2) := (blk_cell HE20.out 2).trans rfl
            have e20_3 : ww1.cell? ⟨b20, 3, none⟩ = some (.int .i64 v3) := (blk_cell HE20.out 3).trans rfl
            have e22_0 : ww1.cell? ⟨b22, 0, none⟩ = some (.int .i64 u0) := (blk_cell HE22.out 0).trans rfl
            have e22_1 : ww1.cell? ⟨b22, 1, none⟩ = some (.int .i64 ub) := (blk_cell HE22.out 1).trans rfl
            have e22_2 : ww1.cell? ⟨b22, 2, none⟩ = some (.int .i64 u2) := (blk_cell HE22.out 2).trans rfl
            have e22_3 : ww1.cell? ⟨b22, 3, none⟩ = some (.int .i64 u3) := (blk_cell HE22.out 3).trans rfl
            have e24_0 : ww1.cell? ⟨b24, 0, none⟩ = some (.int .i64 u0) := (blk_cell HE24.out 0).trans rfl
            have e24_1 : ww1.cell? ⟨b24, 1, none⟩ = some (.int .i64 ub) := (blk_cell HE24.out 1).trans rfl
            have e24_2 : ww1.cell? ⟨b24, 2, none⟩ = some (.int .i64 u2) := (blk_cell HE24.out 2).trans rfl
            have e24_3 : ww1.cell? ⟨b24, 3, none⟩ = some (.int .i64 u3) := (blk_cell HE24.out 3).trans rfl
            have e26_0 : ww1.cell? ⟨b26, 0, none⟩ = some (.int .i64 v0) := (blk_cell HE26.out 0).trans rfl
            have e26_1 : ww1.cell? ⟨b26, 1, none⟩ = some (.int .i64 va) := (blk_cell HE26.out 1).trans rfl
            have e26_2 : ww1.cell? ⟨b26, 2, none⟩ = some (.int .i64 v2) := (blk_cell HE26.out 2).trans rfl
            have e26_3 : ww1.cell? ⟨b26, 3, none⟩ = some (.int .i64 v3) := (blk_cell HE26.out 3).trans rfl
            have d0 : ww1.cell? ⟨w2.heap.size, 0, none⟩ = some (.int .i64 pw) := (blk_cell HL.out.pb 0).trans rfl
            have d1 : ww1.cell? ⟨w2.heap.size, 1, none⟩ = some (.int .i64 pj) := (blk_cell HL.out.pb 1).trans rfl
            have d2 : ww1.cell? ⟨w2.heap.size, 2, none⟩ = some (.int .i64 pr) := (blk_cell HL.out.pb 2).trans rfl
            go_wp2_with fail
            clear e20_0 e20_1 e20_2 e20_3 e22_0 e22_1 e22_2 e22_3 e24_0 e24_1 e24_2 e24_3 e26_0 e26_1 e26_2 e26_3
            clear d0 d1 d2
            refine (alike_calls w _ _ gl gr _ _ pw pj pr (HL.out.run (HN1.out gl gr)) (HL.out.run (HN2.out gl gr)) HS.out.2.2.2.2 (wlen HL.out (HN1.out gl gr))).mono ?_
            rintro e wx ⟨rfl, hb⟩
            have hl_ := HL.out.pass hb
            clear HL
            have HL := Aside0.mk hl_
            go_wp2_with fail
            go_ret
            exact ⟨rfl, HL.out.fl.bel⟩
          · have q3 : (usesOf v0 != 0) = true := by simp [hu]
            have q4 := eq_false hu
            by_cases he : usesOf v0 = usesOf u0
            · have q5 : (usesOf v0 == usesOf u0) = true := beq_iff_eq.mpr he
              have q6 := eq_true he
              have q1 : (va == ub) = false := beq_eq_false_iff_ne.mpr hab
              have q2 := eq_false hab
              clear hab hu he
              refine start_ (n := 17) (S := fun w' => w'.heap[b16]? = some (.cells #[.int .i64 va, .int .i64 a1] 64 (0, 0)) ∧ w'.heap[b17]? = some (.cells #[.int .i64 ub, .int .i64 b1] 64 (0, 0)) ∧ w'.heap[b20]? = some (.cells #[.int .i64 v0, .int .i64 va, .int .i64 v2, .int .i64 v3] 42 (0, 0)) ∧ w'.heap[b22]? = some (.cells #[.int .i64 u0, .int .i64 ub, .int .i64 u2, .int .i64 u3] 42 (0, 0))) (ds := []) #[false, false, false, false, false, false, false, false, false, false, false, false, false, false, false, false, false] (by kernel_rfl) rfl rfl ⟨HE16.out, HE17.out, HE20.out, HE22.out⟩ (fun hHeld => ?_)
              generalize wt.drew = Wd at HL HO HE16 HE17 HE20 HE22 hHeld ⊢
              refine pure_ (i := 0) (N := (some 151)) (v := ?_) (a' := ?_) #[true, false, false, false, false, false, false, false, false, false, false, false, false, false, false, false, false] rfl rfl (by kernel_rfl) (fun _ _ _ h => h) (Or.inl ⟨by rfl, ?_⟩) ?_ ?_
              rotate_left
              · intro w'
                go_simp
                with_reducible rfl
              rotate_left
              · simp only [Act.put, List.setIfInBounds_toArray, List.set_cons_zero, List.set_cons_succ, i64_w, i32_w]
                rfl
              refine pure_ (i := 2) (N := (some 153)) (v := ?_) (a' := ?_) #[true, false, true, false, false, false, false, false, false, false, false, false, false, false, false, false, false] rfl rfl (by kernel_rfl) (fun _ _ _ h => h) (Or.inl ⟨by rfl, ?_⟩) ?_ ?_
              rotate_left
              · intro w'
                go_simp
                with_reducible rfl
              rotate_left
              · simp only [Act.put, List.setIfInBounds_toArray, List.set_cons_zero, List.set_cons_succ, i64_w, i32_w]
                rfl
              refine take_ (i := 1) (N := (some 152)) (v := ?_) (a' := ?_) #[true, true, true, false, false, false, false, false, false, false, false, false, false, false, false, false, false] rfl rfl (by kernel_rfl) (fun _ _ _ h => h) (Or.inl ⟨by rfl, ?_⟩) hHeld ?_ ?_
              rotate_left
              · rintro w' ⟨s0, s1, s2, s3⟩
                have t16 : w'.cell? ⟨b16, 0, none⟩ = some (.int .i64 va) := (blk_cell s0 0).trans rfl
                have t17 : w'.cell? ⟨b17, 0, none⟩ = some (.int .i64 ub) := (blk_cell s1 0).trans rfl
                have t20_0 : w'.cell? ⟨b20, 0, none⟩ = some (.int .i64 v0) := (blk_cell s2 0).trans rfl
                have t20_1 : w'.cell? ⟨b20, 1, none⟩ = some (.int .i64 va) := (blk_cell s2 1).trans rfl
                have t20_2 : w'.cell? ⟨b20, 2, none⟩ = some (.int .i64 v2) := (blk_cell s2 2).trans rfl
                have t20_3 : w'.cell? ⟨b20, 3, none⟩ = some (.int .i64 v3) := (blk_cell s2 3).trans rfl
                have t22_0 : w'.cell? ⟨b22, 0, none⟩ = some (.int .i64 u0) := (blk_cell s3 0).trans rfl
                have t22_1 : w'.cell? ⟨b22, 1, none⟩ = some (.int .i64 ub) := (blk_cell s3 1).trans rfl
                have t22_2 : w'.cell? ⟨b22, 2, none⟩ = some (.int .i64 u2) := (blk_cell s3 2).trans rfl
                have t22_3 : w'.cell? ⟨b22, 3, none⟩ = some (.int .i64 u3) := (blk_cell s3 3).trans rfl
                go_simp
                with_reducible rfl
              rotate_left
              · simp only [Act.put, List.setIfInBounds_toArray, List.set_cons_zero, List.set_cons_succ, i64_w, i32_w]
                rfl
              refine take_ (i := 3) (N := (some 154)) (v := ?_) (a' := ?_) #[true, true, true, true, false, false, false, false, false, false, false, false, false, false, false, false, false] rfl rfl (by kernel_rfl) (fun _ _ _ h => h) (Or.inl ⟨by rfl, ?_⟩) hHeld ?_ ?_
              rotate_left
              · rintro w' ⟨s0, s1, s2, s3⟩
                have t16 : w'.cell? ⟨b16, 0, none⟩ = some (.int .i64 va) := (blk_cell s0 0).trans rfl
                have t17 : w'.cell? ⟨b17, 0, none⟩ = some (.int .i64 ub) := (blk_cell s1 0).trans rfl
                have t20_0 : w'.cell? ⟨b20, 0, none⟩ = some (.int .i64 v0) := (blk_cell s2 0).trans rfl
                have t20_1 : w'.cell? ⟨b20, 1, none⟩ = some (.int .i64 va) := (blk_cell s2 1).trans rfl
                have t20_2 : w'.cell? ⟨b20, 2, none⟩ = some (.int .i64 v2) := (blk_cell s2 2).trans rfl
                have t20_3 : w'.cell? ⟨b20, 3, none⟩ = some (.int .i64 v3) := (blk_cell s2 3).trans rfl
                have t22_0 : w'.cell? ⟨b22, 0, none⟩ = some (.int .i64 u0) := (blk_cell s3 0).trans rfl
                have t22_1 : w'.cell? ⟨b22, 1, none⟩ = some (.int .i64 ub) := (blk_cell s3 1).trans rfl
                have t22_2 : w'.cell? ⟨b22, 2, none⟩ = some (.int .i64 u2) := (blk_cell s3 2).trans rfl
                have t22_3 : w'.cell? ⟨b22, 3, none⟩ = some (.int .i64 u3) := (blk_cell s3 3).trans rfl
                go_simp
                with_reducible rfl
              rotate_left
              · simp only [Act.put, List.setIfInBounds_toArray, List.set_cons_zero, List.set_cons_succ, i64_w, i32_w]
                rfl
              refine pure_ (i := 4) (N := (some 155)) (v := ?_) (a' := ?_) #[true, true, true, true, true, false, false, false, false, false, false, false, false, false, false, false, false] rfl rfl (by kernel_rfl) (fun _ _ _ h => h) (Or.inl ⟨by rfl, ?_⟩) ?_ ?_
              rotate_left
              · intro w'
                go_simp
                with_reducible rfl
              rotate_left
              · simp only [Act.put, List.setIfInBounds_toArray, List.set_cons_zero, List.set_cons_succ, i64_w, i32_w]
                rfl
              refine pure_ (i := 5) (N := (some 156)) (v := ?_) (a' := ?_) #[true, true, true, true, true, true, false, false, false, false, false, false, false, false, false, false, false] rfl rfl (by kernel_rfl) (fun _ _ _ h => h) (Or.inl ⟨by rfl, ?_⟩) ?_ ?_
              rotate_left
              · intro w'
                go_simp
                with_reducible rfl
              rotate_left
              · simp only [Act.put, List.setIfInBounds_toArray, List.set_cons_zero, List.set_cons_succ, i64_w, i32_w]
                rfl
              refine take_ (i := 6) (N := (some 157)) (v := ?_) (a' := ?_) #[true, true, true, true, true, true, true, false, false, false, false, false, false, false, false, false, false] rfl rfl (by kernel_rfl) (fun _ _ _ h => h) (Or.inl ⟨by rfl, ?_⟩) hHeld ?_ ?_
              rotate_left
              · rintro w' ⟨s0, s1, s2, s3⟩
                have t16 : w'.cell? ⟨b16, 0, none⟩ = some (.int .i64 va) := (blk_cell s0 0).trans rfl
                have t17 : w'.cell? ⟨b17, 0, none⟩ = some (.int .i64 ub) := (blk_cell s1 0).trans rfl
                have t20_0 : w'.cell? ⟨b20, 0, none⟩ = some (.int .i64 v0) := (blk_cell s2 0).trans rfl
                have t20_1 : w'.cell? ⟨b20, 1, none⟩ = some (.int .i64 va) := (blk_cell s2 1).trans rfl
                have t20_2 : w'.cell? ⟨b20, 2, none⟩ = some (.int .i64 v2) := (blk_cell s2 2).trans rfl
                have t20_3 : w'.cell? ⟨b20, 3, none⟩ = some (.int .i64 v3) := (blk_cell s2 3).trans rfl
                have t22_0 : w'.cell? ⟨b22, 0, none⟩ = some (.int .i64 u0) := (blk_cell s3 0).trans rfl
                have t22_1 : w'.cell? ⟨b22, 1, none⟩ = some (.int .i64 ub) := (blk_cell s3 1).trans rfl
                have t22_2 : w'.cell? ⟨b22, 2, none⟩ = some (.int .i64 u2) := (blk_cell s3 2).trans rfl
                have t22_3 : w'.cell? ⟨b22, 3, none⟩ = some (.int .i64 u3) := (blk_cell s3 3).trans rfl
                go_simp
                with_reducible rfl
              rotate_left
              · simp only [Act.put, List.setIfInBounds_toArray, List.set_cons_zero, List.set_cons_succ, i64_w, i32_w]
                rfl
              refine one_ (i := 7) (N := (some 158)) #[true, true, true, true, true, true, true, true, false, false, false, false, false, false, false, false, false] rfl rfl (by kernel_rfl) (by decide) (fun K hK => ?_)
              refine goes_ Try.func45 (by kernel_rfl) rfl #[.agg #[.int .i64 v0, .int .i64 va, .int .i64 v2, .int .i64 v3]] (by rfl) rfl rfl (by simp only [List.map_toArray, List.map_cons, List.map_nil]; rfl) ?_
              refine (uses_any v0 va v2 v3 _).mono ?_
              rintro e wu1 ⟨rfl, hb⟩
              refine ⟨_, rfl, ?_⟩
              have hl_ := HL.out.pass hb
              have ho_ := HO.out.below hb
              have x16_ := (hb.block _ (blk_lt HE16.out)).trans HE16.out
              have x17_ := (hb.block _ (blk_lt HE17.out)).trans HE17.out
              have x20_ := (hb.block _ (blk_lt HE20.out)).trans HE20.out
              have x22_ := (hb.block _ (blk_lt HE22.out)).trans HE22.out
              clear HL HO HE16 HE17 HE20 HE22
              have HL := Aside0.mk hl_
              have HO := Aside0.mk ho_
              have HE16 := Aside0.mk x16_
              have HE17 := Aside0.mk x17_
              have HE20 := Aside0.mk x20_
              have HE22 := Aside0.mk x22_
              clear hl_ ho_ x16_ x17_ x20_ x22_
              clear hb
              refine hK.out _ _ ⟨HE16.out, HE17.out, HE20.out, HE22.out⟩ (fun hHeld => ?_)
              clear hK K
              refine norm_ (a' := ?_) ?_ ?_
              rotate_left
              · show Act.put _ (some 158) _ = _
                simp only [Act.put, List.setIfInBounds_toArray, List.set_cons_zero, List.set_cons_succ, i64_w, i32_w]
                rfl
              refine pure_ (i := 8) (N := (some 159)) (v := ?_) (a' := ?_) #[true, true, true, true, true, true, true, true, true, false, false, false, false, false, false, false, false] rfl rfl (by kernel_rfl) (fun _ _ _ h => h) (Or.inl ⟨by rfl, ?_⟩) ?_ ?_
              rotate_left
              · intro w'
                go_simp
                with_reducible rfl
              rotate_left
              · simp only [Act.put, List.setIfInBounds_toArray, List.set_cons_zero, List.set_cons_succ, i64_w, i32_w]
                rfl
              refine pure_ (i := 9) (N := (some 160)) (v := ?_) (a' := ?_) #[true, true, true, true, true, true, true, true, true, true, false, false, false, false, false, false, false] rfl rfl (by kernel_rfl) (fun _ _ _ h => h) (Or.inl ⟨by rfl, ?_⟩) ?_ ?_
              rotate_left
              · intro w'
                go_simp
                with_reducible rfl
              rotate_left
              · simp only [Act.put, List.setIfInBounds_toArray, List.set_cons_zero, List.set_cons_succ, i64_w, i32_w]
                rfl
              refine take_ (i := 10) (N := (some 161)) (v := ?_) (a' := ?_) #[true, true, true, true, true, true, true, true, true, true, true, false, false, false, false, false, false] rfl rfl (by kernel_rfl) (fun _ _ _ h => h) (Or.inl ⟨by rfl, ?_⟩) hHeld ?_ ?_
              rotate_left
              · rintro w' ⟨s0, s1, s2, s3⟩
                have t16 : w'.cell? ⟨b16, 0, none⟩ = some (.int .i64 va) := (blk_cell s0 0).trans rfl
                have t17 : w'.cell? ⟨b17, 0, none⟩ = some (.int .i64 ub) := (blk_cell s1 0).trans rfl
                have t20_0 : w'.cell? ⟨b20, 0, none⟩ = some (.int .i64 v0) := (blk_cell s2 0).trans rfl
                have t20_1 : w'.cell? ⟨b20, 1, none⟩ = some (.int .i64 va) := (blk_cell s2 1).trans rfl
                have t20_2 : w'.cell? ⟨b20, 2, none⟩ = some (.int .i64 v2) := (blk_cell s2 2).trans rfl
                have t20_3 : w'.cell? ⟨b20, 3, none⟩ = some (.int .i64 v3) := (blk_cell s2 3).trans rfl
                have t22_0 : w'.cell? ⟨b22, 0, none⟩ = some (.int .i64 u0) := (blk_cell s3 0).trans rfl
                have t22_1 : w'.cell? ⟨b22, 1, none⟩ = some (.int .i64 ub) := (blk_cell s3 1).trans rfl
                have t22_2 : w'.cell? ⟨b22, 2, none⟩ = some (.int .i64 u2) := (blk_cell s3 2).trans rfl
                have t22_3 : w'.cell? ⟨b22, 3, none⟩ = some (.int .i64 u3) := (blk_cell s3 3).trans rfl
                go_simp
                with_reducible rfl
              rotate_left
              · simp only [Act.put, List.setIfInBounds_toArray, List.set_cons_zero, List.set_cons_succ, i64_w, i32_w]
                rfl
              refine take_ (i := 12) (N := (some 163)) (v := ?_) (a' := ?_) #[true, true, true, true, true, true, true, true, true, true, true, false, true, false, false, false, false] rfl rfl (by kernel_rfl) (fun _ _ _ h => h) (Or.inl ⟨by rfl, ?_⟩) hHeld ?_ ?_
              rotate_left
              · rintro w' ⟨s0, s1, s2, s3⟩
                have t16 : w'.cell? ⟨b16, 0, none⟩ = some (.int .i64 va) := (blk_cell s0 0).trans rfl
                have t17 : w'.cell? ⟨b17, 0, none⟩ = some (.int .i64 ub) := (blk_cell s1 0).trans rfl
                have t20_0 : w'.cell? ⟨b20, 0, none⟩ = some (.int .i64 v0) := (blk_cell s2 0).trans rfl
                have t20_1 : w'.cell? ⟨b20, 1, none⟩ = some (.int .i64 va) := (blk_cell s2 1).trans rfl
                have t20_2 : w'.cell? ⟨b20, 2, none⟩ = some (.int .i64 v2) := (blk_cell s2 2).trans rfl
                have t20_3 : w'.cell? ⟨b20, 3, none⟩ = some (.int .i64 v3) := (blk_cell s2 3).trans rfl
                have t22_0 : w'.cell? ⟨b22, 0, none⟩ = some (.int .i64 u0) := (blk_cell s3 0).trans rfl
                have t22_1 : w'.cell? ⟨b22, 1, none⟩ = some (.int .i64 ub) := (blk_cell s3 1).trans rfl
                have t22_2 : w'.cell? ⟨b22, 2, none⟩ = some (.int .i64 u2) := (blk_cell s3 2).trans rfl
                have t22_3 : w'.cell? ⟨b22, 3, none⟩ = some (.int .i64 u3) := (blk_cell s3 3).trans rfl
                go_simp
                with_reducible rfl
              rotate_left
              · simp only [Act.put, List.setIfInBounds_toArray, List.set_cons_zero, List.set_cons_succ, i64_w, i32_w]
                rfl
              refine one_ (i := 11) (N := (some 162)) #[true, true, true, true, true, true, true, true, true, true, true, true, true, false, false, false, false] rfl rfl (by kernel_rfl) (by decide) (fun K hK => ?_)
              refine goes_ Try.func45 (by kernel_rfl) rfl #[.agg #[.int .i64 v0, .int .i64 va, .int .i64 v2, .int .i64 v3]] (by rfl) rfl rfl (by simp only [List.map_toArray, List.map_cons, List.map_nil]; rfl) ?_
              refine (uses_any v0 va v2 v3 _).mono ?_
              rintro e wu2 ⟨rfl, hb⟩
              refine ⟨_, rfl, ?_⟩
              have hl_ := HL.out.pass hb
              have ho_ := HO.out.below hb
              have x16_ := (hb.block _ (blk_lt HE16.out)).trans HE16.out
              have x17_ := (hb.block _ (blk_lt HE17.out)).trans HE17.out
              have x20_ := (hb.block _ (blk_lt HE20.out)).trans HE20.out
              have x22_ := (hb.block _ (blk_lt HE22.out)).trans HE22.out
              clear HL HO HE16 HE17 HE20 HE22
              have HL := Aside0.mk hl_
              have HO := Aside0.mk ho_
              have HE16 := Aside0.mk x16_
              have HE17 := Aside0.mk x17_
              have HE20 := Aside0.mk x20_
              have HE22 := Aside0.mk x22_
              clear hl_ ho_ x16_ x17_ x20_ x22_
              clear hb
              refine hK.out _ _ ⟨HE16.out, HE17.out, HE20.out, HE22.out⟩ (fun hHeld => ?_)
              clear hK K
              refine norm_ (a' := ?_) ?_ ?_
              rotate_left
              · show Act.put _ (some 162) _ = _
                simp only [Act.put, List.setIfInBounds_toArray, List.set_cons_zero, List.set_cons_succ, i64_w, i32_w]
                rfl
              refine one_ (i := 13) (N := (some 164)) #[true, true, true, true, true, true, true, true, true, true, true, true, true, true, false, false, false] rfl rfl (by kernel_rfl) (by decide) (fun K hK => ?_)
              refine goes_ Try.func45 (by kernel_rfl) rfl #[.agg #[.int .i64 u0, .int .i64 ub, .int .i64 u2, .int .i64 u3]] (by rfl) rfl rfl (by simp only [List.map_toArray, List.map_cons, List.map_nil]; rfl) ?_
              refine (uses_any u0 ub u2 u3 _).mono ?_
              rintro e wu3 ⟨rfl, hb⟩
              refine ⟨_, rfl, ?_⟩
              have hl_ := HL.out.pass hb
              have ho_ := HO.out.below hb
              have x16_ := (hb.block _ (blk_lt HE16.out)).trans HE16.out
              have x17_ := (hb.block _ (blk_lt HE17.out)).trans HE17.out
              have x20_ := (hb.block _ (blk_lt HE20.out)).trans HE20.out
              have x22_ := (hb.block _ (blk_lt HE22.out)).trans HE22.out
              clear HL HO HE16 HE17 HE20 HE22
              have HL := Aside0.mk hl_
              have HO := Aside0.mk ho_
              have HE16 := Aside0.mk x16_
              have HE17 := Aside0.mk x17_
              have HE20 := Aside0.mk x20_
              have HE22 := Aside0.mk x22_
              clear hl_ ho_ x16_ x17_ x20_ x22_
              clear hb
              refine hK.out _ _ ⟨HE16.out, HE17.out, HE20.out, HE22.out⟩ (fun hHeld => ?_)
              clear hK K
              refine norm_ (a' := ?_) ?_ ?_
              rotate_left
              · show Act.put _ (some 164) _ = _
                simp only [Act.put, List.setIfInBounds_toArray, List.set_cons_zero, List.set_cons_succ, i64_w, i32_w]
                rfl
              refine pure_ (i := 14) (N := (some 165)) (v := ?_) (a' := ?_) #[true, true, true, true, true, true, true, true, true, true, true, true, true, true, true, false, false] rfl rfl (by kernel_rfl) (fun _ _ _ h => h) (Or.inl ⟨by rfl, ?_⟩) ?_ ?_
              rotate_left
              · intro w'
                go_simp
                with_reducible rfl
              rotate_left
              · simp only [Act.put, List.setIfInBounds_toArray, List.set_cons_zero, List.set_cons_succ, i64_w, i32_w]
                rfl
              refine pure_ (i := 15) (N := (some 166)) (v := ?_) (a' := ?_) #[true, true, true, true, true, true, true, true, true, true, true, true, true, true, true, true, false] rfl rfl (by kernel_rfl) (fun _ _ _ h => h) (Or.inl ⟨by rfl, ?_⟩) ?_ ?_
              rotate_left
              · intro w'
                go_simp
                with_reducible rfl
              rotate_left
              · simp only [Act.put, List.setIfInBounds_toArray, List.set_cons_zero, List.set_cons_succ, i64_w, i32_w]
                rfl
              refine pure_ (i := 16) (N := (some 167)) (v := ?_) (a' := ?_) #[true, true, true, true, true, true, true, true, true, true, true, true, true, true, true, true, true] rfl rfl (by kernel_rfl) (fun _ _ _ h => h) (Or.inl ⟨by rfl, ?_⟩) ?_ ?_
              rotate_left
              · intro w'
                go_simp
                with_reducible rfl
              rotate_left
              · simp only [Act.put, List.setIfInBounds_toArray, List.set_cons_zero, List.set_cons_succ, i64_w, i32_w]
                rfl
              refine done_ (by kernel_rfl) ?_
              go_wp2_with fail
              go_ret
              exact ⟨rfl, HL.out.fl.bel⟩
            · have q5 : (usesOf v0 == usesOf u0) = false := beq_eq_false_iff_ne.mpr he
              have q6 := eq_false he
              have HS := Aside0.mk (HSIDE.out hab (fun h => he h.2))
              have q1 : (va == ub) = false := beq_eq_false_iff_ne.mpr hab
              have q2 := eq_false hab
              clear hab hu he
              refine start_ (n := 17) (S := fun w' => w'.heap[b16]? = some (.cells #[.int .i64 va, .int .i64 a1] 64 (0, 0)) ∧ w'.heap[b17]? = some (.cells #[.int .i64 ub, .int .i64 b1] 64 (0, 0)) ∧ w'.heap[b20]? = some (.cells #[.int .i64 v0, .int .i64 va, .int .i64 v2, .int .i64 v3] 42 (0, 0)) ∧ w'.heap[b22]? = some (.cells #[.int .i64 u0, .int .i64 ub, .int .i64 u2, .int .i64 u3] 42 (0, 0))) (ds := []) #[false, false, false, false, false, false, false, false, false, false, false, false, false, false, false, false, false] (by kernel_rfl) rfl rfl ⟨HE16.out, HE17.out, HE20.out, HE22.out⟩ (fun hHeld => ?_)
              generalize wt.drew = Wd at HL HO HE16 HE17 HE20 HE22 hHeld ⊢
              refine pure_ (i := 0) (N := (some 151)) (v := ?_) (a' := ?_) #[true, false, false, false, false, false, false, false, false, false, false, false, false, false, false, false, false] rfl rfl (by kernel_rfl) (fun _ _ _ h => h) (Or.inl ⟨by rfl, ?_⟩) ?_ ?_
              rotate_left
              · intro w'
                go_simp
                with_reducible rfl
              rotate_left
              · simp only [Act.put, List.setIfInBounds_toArray, List.set_cons_zero, List.set_cons_succ, i64_w, i32_w]
                rfl
              refine pure_ (i := 2) (N := (some 153)) (v := ?_) (a' := ?_) #[true, false, true, false, false, false, false, false, false, false, false, false, false, false, false, false, false] rfl rfl (by kernel_rfl) (fun _ _ _ h => h) (Or.inl ⟨by rfl, ?_⟩) ?_ ?_
              rotate_left
              · intro w'
                go_simp
                with_reducible rfl
              rotate_left
              · simp only [Act.put, List.setIfInBounds_toArray, List.set_cons_zero, List.set_cons_succ, i64_w, i32_w]
                rfl
              refine take_ (i := 1) (N := (some 152)) (v := ?_) (a' := ?_) #[true, true, true, false, false, false, false, false, false, false, false, false, false, false, false, false, false] rfl rfl (by kernel_rfl) (fun _ _ _ h => h) (Or.inl ⟨by rfl, ?_⟩) hHeld ?_ ?_
              rotate_left
              · rintro w' ⟨s0, s1, s2, s3⟩
                have t16 : w'.cell? ⟨b16, 0, none⟩ = some (.int .i64 va) := (blk_cell s0 0).trans rfl
                have t17 : w'.cell? ⟨b17, 0, none⟩ = some (.int .i64 ub) := (blk_cell s1 0).trans rfl
                have t20_0 : w'.cell? ⟨b20, 0, none⟩ = some (.int .i64 v0) := (blk_cell s2 0).trans rfl
                have t20_1 : w'.cell? ⟨b20, 1, none⟩ = some (.int .i64 va) := (blk_cell s2 1).trans rfl
                have t20_2 : w'.cell? ⟨b20, 2, none⟩ = some (.int .i64 v2) := (blk_cell s2 2).trans rfl
                have t20_3 : w'.cell? ⟨b20, 3, none⟩ = some (.int .i64 v3) := (blk_cell s2 3).trans rfl
                have t22_0 : w'.cell? ⟨b22, 0, none⟩ = some (.int .i64 u0) := (blk_cell s3 0).trans rfl
                have t22_1 : w'.cell? ⟨b22, 1, none⟩ = some (.int .i64 ub) := (blk_cell s3 1).trans rfl
                have t22_2 : w'.cell? ⟨b22, 2, none⟩ = some (.int .i64 u2) := (blk_cell s3 2).trans rfl
                have t22_3 : w'.cell? ⟨b22, 3, none⟩ = some (.int .i64 u3) := (blk_cell s3 3).trans rfl
                go_simp
                with_reducible rfl
              rotate_left
              · simp only [Act.put, List.setIfInBounds_toArray, List.set_cons_zero, List.set_cons_succ, i64_w, i32_w]
                rfl
              refine take_ (i := 3) (N := (some 154)) (v := ?_) (a' := ?_) #[true, true, true, true, false, false, false, false, false, false, false, false, false, false, false, false, false] rfl rfl (by kernel_rfl) (fun _ _ _ h => h) (Or.inl ⟨by rfl, ?_⟩) hHeld ?_ ?_
              rotate_left
              · rintro w' ⟨s0, s1, s2, s3⟩
                have t16 : w'.cell? ⟨b16, 0, none⟩ = some (.int .i64 va) := (blk_cell s0 0).trans rfl
                have t17 : w'.cell? ⟨b17, 0, none⟩ = some (.int .i64 ub) := (blk_cell s1 0).trans rfl
                have t20_0 : w'.cell? ⟨b20, 0, none⟩ = some (.int .i64 v0) := (blk_cell s2 0).trans rfl
                have t20_1 : w'.cell? ⟨b20, 1, none⟩ = some (.int .i64 va) := (blk_cell s2 1).trans rfl
                have t20_2 : w'.cell? ⟨b20, 2, none⟩ = some (.int .i64 v2) := (blk_cell s2 2).trans rfl
                have t20_3 : w'.cell? ⟨b20, 3, none⟩ = some (.int .i64 v3) := (blk_cell s2 3).trans rfl
                have t22_0 : w'.cell? ⟨b22, 0, none⟩ = some (.int .i64 u0) := (blk_cell s3 0).trans rfl
                have t22_1 : w'.cell? ⟨b22, 1, none⟩ = some (.int .i64 ub) := (blk_cell s3 1).trans rfl
                have t22_2 : w'.cell? ⟨b22, 2, none⟩ = some (.int .i64 u2) := (blk_cell s3 2).trans rfl
                have t22_3 : w'.cell? ⟨b22, 3, none⟩ = some (.int .i64 u3) := (blk_cell s3 3).trans rfl
                go_simp
                with_reducible rfl
              rotate_left
              · simp only [Act.put, List.setIfInBounds_toArray, List.set_cons_zero, List.set_cons_succ, i64_w, i32_w]
                rfl
              refine pure_ (i := 4) (N := (some 155)) (v := ?_) (a' := ?_) #[true, true, true, true, true, false, false, false, false, false, false, false, false, false, false, false, false] rfl rfl (by kernel_rfl) (fun _ _ _ h => h) (Or.inl ⟨by rfl, ?_⟩) ?_ ?_
              rotate_left
              · intro w'
                go_simp
                with_reducible rfl
              rotate_left
              · simp only [Act.put, List.setIfInBounds_toArray, List.set_cons_zero, List.set_cons_succ, i64_w, i32_w]
                rfl
              refine pure_ (i := 5) (N := (some 156)) (v := ?_) (a' := ?_) #[true, true, true, true, true, true, false, false, false, false, false, false, false, false, false, false, false] rfl rfl (by kernel_rfl) (fun _ _ _ h => h) (Or.inl ⟨by rfl, ?_⟩) ?_ ?_
              rotate_left
              · intro w'
                go_simp
                with_reducible rfl
              rotate_left
              · simp only [Act.put, List.setIfInBounds_toArray, List.set_cons_zero, List.set_cons_succ, i64_w, i32_w]
                rfl
              refine take_ (i := 6) (N := (some 157)) (v := ?_) (a' := ?_) #[true, true, true, true, true, true, true, false, false, false, false, false, false, false, false, false, false] rfl rfl (by kernel_rfl) (fun _ _ _ h => h) (Or.inl ⟨by rfl, ?_⟩) hHeld ?_ ?_
              rotate_left
              · rintro w' ⟨s0, s1, s2, s3⟩
                have t16 : w'.cell? ⟨b16, 0, none⟩ = some (.int .i64 va) := (blk_cell s0 0).trans rfl
                have t17 : w'.cell? ⟨b17, 0, none⟩ = some (.int .i64 ub) := (blk_cell s1 0).trans rfl
                have t20_0 : w'.cell? ⟨b20, 0, none⟩ = some (.int .i64 v0) := (blk_cell s2 0).trans rfl
                have t20_1 : w'.cell? ⟨b20, 1, none⟩ = some (.int .i64 va) := (blk_cell s2 1).trans rfl
                have t20_2 : w'.cell? ⟨b20, 2, none⟩ = some (.int .i64 v2) := (blk_cell s2 2).trans rfl
                have t20_3 : w'.cell? ⟨b20, 3, none⟩ = some (.int .i64 v3) := (blk_cell s2 3).trans rfl
                have t22_0 : w'.cell? ⟨b22, 0, none⟩ = some (.int .i64 u0) := (blk_cell s3 0).trans rfl
                have t22_1 : w'.cell? ⟨b22, 1, none⟩ = some (.int .i64 ub) := (blk_cell s3 1).trans rfl
                have t22_2 : w'.cell? ⟨b22, 2, none⟩ = some (.int .i64 u2) := (blk_cell s3 2).trans rfl
                have t22_3 : w'.cell? ⟨b22, 3, none⟩ = some (.int .i64 u3) := (blk_cell s3 3).trans rfl
                go_simp
                with_reducible rfl
              rotate_left
              · simp only [Act.put, List.setIfInBounds_toArray, List.set_cons_zero, List.set_cons_succ, i64_w, i32_w]
                rfl
              refine one_ (i := 7) (N := (some 158)) #[true, true, true, true, true, true, true, true, false, false, false, false, false, false, false, false, false] rfl rfl (by kernel_rfl) (by decide) (fun K hK => ?_)
              refine goes_ Try.func45 (by kernel_rfl) rfl #[.agg #[.int .i64 v0, .int .i64 va, .int .i64 v2, .int .i64 v3]] (by rfl) rfl rfl (by simp only [List.map_toArray, List.map_cons, List.map_nil]; rfl) ?_
              refine (uses_any v0 va v2 v3 _).mono ?_
              rintro e wu1 ⟨rfl, hb⟩
              refine ⟨_, rfl, ?_⟩
              have hl_ := HL.out.pass hb
              have ho_ := HO.out.below hb
              have x16_ := (hb.block _ (blk_lt HE16.out)).trans HE16.out
              have x17_ := (hb.block _ (blk_lt HE17.out)).trans HE17.out
              have x20_ := (hb.block _ (blk_lt HE20.out)).trans HE20.out
              have x22_ := (hb.block _ (blk_lt HE22.out)).trans HE22.out
              clear HL HO HE16 HE17 HE20 HE22
              have HL := Aside0.mk hl_
              have HO := Aside0.mk ho_
              have HE16 := Aside0.mk x16_
              have HE17 := Aside0.mk x17_
              have HE20 := Aside0.mk x20_
              have HE22 := Aside0.mk x22_
              clear hl_ ho_ x16_ x17_ x20_ x22_
              clear hb
              refine hK.out _ _ ⟨HE16.out, HE17.out, HE20.out, HE22.out⟩ (fun hHeld => ?_)
              clear hK K
              refine norm_ (a' := ?_) ?_ ?_
              rotate_left
              · show Act.put _ (some 158) _ = _
                simp only [Act.put, List.setIfInBounds_toArray, List.set_cons_zero, List.set_cons_succ, i64_w, i32_w]
                rfl
              refine pure_ (i := 8) (N := (some 159)) (v := ?_) (a' := ?_) #[true, true, true, true, true, true, true, true, true, false, false, false, false, false, false, false, false] rfl rfl (by kernel_rfl) (fun _ _ _ h => h) (Or.inl ⟨by rfl, ?_⟩) ?_ ?_
              rotate_left
              · intro w'
                go_simp
                with_reducible rfl
              rotate_left
              · simp only [Act.put, List.setIfInBounds_toArray, List.set_cons_zero, List.set_cons_succ, i64_w, i32_w]
                rfl
              refine pure_ (i := 9) (N := (some 160)) (v := ?_) (a' := ?_) #[true, true, true, true, true, true, true, true, true, true, false, false, false, false, false, false, false] rfl rfl (by kernel_rfl) (fun _ _ _ h => h) (Or.inl ⟨by rfl, ?_⟩) ?_ ?_
              rotate_left
              · intro w'
                go_simp
                with_reducible rfl
              rotate_left
              · simp only [Act.put, List.setIfInBounds_toArray, List.set_cons_zero, List.set_cons_succ, i64_w, i32_w]
                rfl
              refine take_ (i := 10) (N := (some 161)) (v := ?_) (a' := ?_) #[true, true, true, true, true, true, true, true, true, true, true, false, false, false, false, false, false] rfl rfl (by kernel_rfl) (fun _ _ _ h => h) (Or.inl ⟨by rfl, ?_⟩) hHeld ?_ ?_
              rotate_left
              · rintro w' ⟨s0, s1, s2, s3⟩
                have t16 : w'.cell? ⟨b16, 0, none⟩ = some (.int .i64 va) := (blk_cell s0 0).trans rfl
                have t17 : w'.cell? ⟨b17, 0, none⟩ = some (.int .i64 ub) := (blk_cell s1 0).trans rfl
                have t20_0 : w'.cell? ⟨b20, 0, none⟩ = some (.int .i64 v0) := (blk_cell s2 0).trans rfl
                have t20_1 : w'.cell? ⟨b20, 1, none⟩ = some (.int .i64 va) := (blk_cell s2 1).trans rfl
                have t20_2 : w'.cell? ⟨b20, 2, none⟩ = some (.int .i64 v2) := (blk_cell s2 2).trans rfl
                have t20_3 : w'.cell? ⟨b20, 3, none⟩ = some (.int .i64 v3) := (blk_cell s2 3).trans rfl
                have t22_0 : w'.cell? ⟨b22, 0, none⟩ = some (.int .i64 u0) := (blk_cell s3 0).trans rfl
                have t22_1 : w'.cell? ⟨b22, 1, none⟩ = some (.int .i64 ub) := (blk_cell s3 1).trans rfl
                have t22_2 : w'.cell? ⟨b22, 2, none⟩ = some (.int .i64 u2) := (blk_cell s3 2).trans rfl
                have t22_3 : w'.cell? ⟨b22, 3, none⟩ = some (.int .i64 u3) := (blk_cell s3 3).trans rfl
                go_simp
                with_reducible rfl
              rotate_left
              · simp only [Act.put, List.setIfInBounds_toArray, List.set_cons_zero, List.set_cons_succ, i64_w, i32_w]
                rfl
              refine take_ (i := 12) (N := (some 163)) (v := ?_) (a' := ?_) #[true, true, true, true, true, true, true, true, true, true, true, false, true, false, false, false, false] rfl rfl (by kernel_rfl) (fun _ _ _ h => h) (Or.inl ⟨by rfl, ?_⟩) hHeld ?_ ?_
              rotate_left
              · rintro w' ⟨s0, s1, s2, s3⟩
                have t16 : w'.cell? ⟨b16, 0, none⟩ = some (.int .i64 va) := (blk_cell s0 0).trans rfl
                have t17 : w'.cell? ⟨b17, 0, none⟩ = some (.int .i64 ub) := (blk_cell s1 0).trans rfl
                have t20_0 : w'.cell? ⟨b20, 0, none⟩ = some (.int .i64 v0) := (blk_cell s2 0).trans rfl
                have t20_1 : w'.cell? ⟨b20, 1, none⟩ = some (.int .i64 va) := (blk_cell s2 1).trans rfl
                have t20_2 : w'.cell? ⟨b20, 2, none⟩ = some (.int .i64 v2) := (blk_cell s2 2).trans rfl
                have t20_3 : w'.cell? ⟨b20, 3, none⟩ = some (.int .i64 v3) := (blk_cell s2 3).trans rfl
                have t22_0 : w'.cell? ⟨b22, 0, none⟩ = some (.int .i64 u0) := (blk_cell s3 0).trans rfl
                have t22_1 : w'.cell? ⟨b22, 1, none⟩ = some (.int .i64 ub) := (blk_cell s3 1).trans rfl
                have t22_2 : w'.cell? ⟨b22, 2, none⟩ = some (.int .i64 u2) := (blk_cell s3 2).trans rfl
                have t22_3 : w'.cell? ⟨b22, 3, none⟩ = some (.int .i64 u3) := (blk_cell s3 3).trans rfl
                go_simp
                with_reducible rfl
              rotate_left
              · simp only [Act.put, List.setIfInBounds_toArray, List.set_cons_zero, List.set_cons_succ, i64_w, i32_w]
                rfl
              refine one_ (i := 11) (N := (some 162)) #[true, true, true, true, true, true, true, true, true, true, true, true, true, false, false, false, false] rfl rfl (by kernel_rfl) (by decide) (fun K hK => ?_)
              refine goes_ Try.func45 (by kernel_rfl) rfl #[.agg #[.int .i64 v0, .int .i64 va, .int .i64 v2, .int .i64 v3]] (by rfl) rfl rfl (by simp only [List.map_toArray, List.map_cons, List.map_nil]; rfl) ?_
              refine (uses_any v0 va v2 v3 _).mono ?_
              rintro e wu2 ⟨rfl, hb⟩
              refine ⟨_, rfl, ?_⟩
              have hl_ := HL.out.pass hb
              have ho_ := HO.out.below hb
              have x16_ := (hb.block _ (blk_lt HE16.out)).trans HE16.out
              have x17_ := (hb.block _ (blk_lt HE17.out)).trans HE17.out
              have x20_ := (hb.block _ (blk_lt HE20.out)).trans HE20.out
              have x22_ := (hb.block _ (blk_lt HE22.out)).trans HE22.out
              clear HL HO HE16 HE17 HE20 HE22
              have HL := Aside0.mk hl_
              have HO := Aside0.mk ho_
              have HE16 := Aside0.mk x16_
              have HE17 := Aside0.mk x17_
              have HE20 := Aside0.mk x20_
              have HE22 := Aside0.mk x22_
              clear hl_ ho_ x16_ x17_ x20_ x22_
              clear hb
              refine hK.out _ _ ⟨HE16.out, HE17.out, HE20.out, HE22.out⟩ (fun hHeld => ?_)
              clear hK K
              refine norm_ (a' := ?_) ?_ ?_
              rotate_left
              · show Act.put _ (some 162) _ = _
                simp only [Act.put, List.setIfInBounds_toArray, List.set_cons_zero, List.set_cons_succ, i64_w, i32_w]
                rfl
              refine one_ (i := 13) (N := (some 164)) #[true, true, true, true, true, true, true, true, true, true, true, true, true, true, false, false, false] rfl rfl (by kernel_rfl) (by decide) (fun K hK => ?_)
              refine goes_ Try.func45 (by kernel_rfl) rfl #[.agg #[.int .i64 u0, .int .i64 ub, .int .i64 u2, .int .i64 u3]] (by rfl) rfl rfl (by simp only [List.map_toArray, List.map_cons, List.map_nil]; rfl) ?_
              refine (uses_any u0 ub u2 u3 _).mono ?_
              rintro e wu3 ⟨rfl, hb⟩
              refine ⟨_, rfl, ?_⟩
              have hl_ := HL.out.pass hb
              have ho_ := HO.out.below hb
              have x16_ := (hb.block _ (blk_lt HE16.out)).trans HE16.out
              have x17_ := (hb.block _ (blk_lt HE17.out)).trans HE17.out
              have x20_ := (hb.block _ (blk_lt HE20.out)).trans HE20.out
              have x22_ := (hb.block _ (blk_lt HE22.out)).trans HE22.out
              clear HL HO HE16 HE17 HE20 HE22
              have HL := Aside0.mk hl_
              have HO := Aside0.mk ho_
              have HE16 := Aside0.mk x16_
              have HE17 := Aside0.mk x17_
              have HE20 := Aside0.mk x20_
              have HE22 := Aside0.mk x22_
              clear hl_ ho_ x16_ x17_ x20_ x22_
              clear hb
              refine hK.out _ _ ⟨HE16.out, HE17.out, HE20.out, HE22.out⟩ (fun hHeld => ?_)
              clear hK K
              refine norm_ (a' := ?_) ?_ ?_
              rotate_left
              · show Act.put _ (some 164) _ = _
                simp only [Act.put, List.setIfInBounds_toArray, List.set_cons_zero, List.set_cons_succ, i64_w, i32_w]
                rfl
              refine pure_ (i := 14) (N := (some 165)) (v := ?_) (a' := ?_) #[true, true, true, true, true, true, true, true, true, true, true, true, true, true, true, false, false] rfl rfl (by kernel_rfl) (fun _ _ _ h => h) (Or.inl ⟨by rfl, ?_⟩) ?_ ?_
              rotate_left
              · intro w'
                go_simp
                with_reducible rfl
              rotate_left
              · simp only [Act.put, List.setIfInBounds_toArray, List.set_cons_zero, List.set_cons_succ, i64_w, i32_w]
                rfl
              refine pure_ (i := 15) (N := (some 166)) (v := ?_) (a' := ?_) #[true, true, true, true, true, true, true, true, true, true, true, true, true, true, true, true, false] rfl rfl (by kernel_rfl) (fun _ _ _ h => h) (Or.inl ⟨by rfl, ?_⟩) ?_ ?_
              rotate_left
              · intro w'
                go_simp
                with_reducible rfl
              rotate_left
              · simp only [Act.put, List.setIfInBounds_toArray, List.set_cons_zero, List.set_cons_succ, i64_w, i32_w]
                rfl
              refine pure_ (i := 16) (N := (some 167)) (v := ?_) (a' := ?_) #[true, true, true, true, true, true, true, true, true, true, true, true, true, true, true, true, true] rfl rfl (by kernel_rfl) (fun _ _ _ h => h) (Or.inl ⟨by rfl, ?_⟩) ?_ ?_
              rotate_left
              · intro w'
                go_simp
                with_reducible rfl
              rotate_left
              · simp only [Act.put, List.setIfInBounds_toArray, List.set_cons_zero, List.set_cons_succ, i64_w, i32_w]
                rfl
              refine done_ (by kernel_rfl) ?_
              clear q3 q4 q5 q6
              have e17_0 : wu3.cell? ⟨b17, 0, none⟩ = some (.int .i64 ub) := (blk_cell HE17.out 0).trans rfl
              have e17_1 : wu3.cell? ⟨b17, 1, none⟩ = some (.int .i64 b1) := (blk_cell HE17.out 1).trans rfl
              go_wp2_with fail
              clear e17_0 e17_1
              clear q1 q2
              refine (ll_take HL.out 1 (HK1.out gl gr) ub b1 HS.out.1 HS.out.2.1).mono ?_
              rintro e wv ⟨rfl, hL, hh⟩
              rw [HM3.out] at hL
              have hl_ := (show LawL w wv (MS (.slice (some ad) L.length c7) [b22, b20, b17, b16]) X w.heap.size w2.heap.size pw pj pr (.slice A xs.length c) xs [(g, m), (gl, mab), (gr, mb)] from hL)
              have ho_ := HO.out.heldS hh
              have x16_ := hh.box (by simp) HE16.out
              have x17_ := hh.box (by simp) HE17.out
              have x20_ := hh.box (by simp) HE20.out
              have x22_ := hh.box (by simp) HE22.out
              clear HL HO HE16 HE17 HE20 HE22
              have HL := Aside0.mk hl_
              have HO := Aside0.mk ho_
              have HE16 := Aside0.mk x16_
              have HE17 := Aside0.mk x17_
              have HE20 := Aside0.mk x20_
              have HE22 := Aside0.mk x22_
              clear hl_ ho_ x16_ x17_ x20_ x22_
              clear hL hh
              have hl_ := HL.out.boxS (.cells #[.int .i64 u0, .int .i64 ub, .int .i64 u2, .int .i64 u3] 42)
              have ho_ := HO.out.below (below_alloc (Below.refl _ _) (.cells #[.int .i64 u0, .int .i64 ub, .int .i64 u2, .int .i64 u3] 42))
              have hn_ := heap_alloc_new wv (.cells #[.int .i64 u0, .int .i64 ub, .int .i64 u2, .int .i64 u3] 42)
              have x16_ := blk_alloc HE16.out (.cells #[.int .i64 u0, .int .i64 ub, .int .i64 u2, .int .i64 u3] 42)
              have x17_ := blk_alloc HE17.out (.cells #[.int .i64 u0, .int .i64 ub, .int .i64 u2, .int .i64 u3] 42)
              have x20_ := blk_alloc HE20.out (.cells #[.int .i64 u0, .int .i64 ub, .int .i64 u2, .int .i64 u3] 42)
              have x22_ := blk_alloc HE22.out (.cells #[.int .i64 u0, .int .i64 ub, .int .i64 u2, .int .i64 u3] 42)
              obtain ⟨wv1, hwv1⟩ : ∃ W0, wv.alloc (.cells #[.int .i64 u0, .int .i64 ub, .int .i64 u2, .int .i64 u3] 42) = W0 := ⟨_, rfl⟩
              rw [hwv1] at hl_ ho_ hn_ x16_ x17_ x20_ x22_
              obtain ⟨b24, hb24⟩ : ∃ b, wv.heap.size = b := ⟨_, rfl⟩
              rw [hb24] at hl_ hn_
              clear HL HO HE16 HE17 HE20 HE22
              have HL := Aside0.mk hl_
              have HO := Aside0.mk ho_
              have HE16 := Aside0.mk x16_
              have HE17 := Aside0.mk x17_
              have HE20 := Aside0.mk x20_
              have HE22 := Aside0.mk x22_
              clear hl_ ho_ x16_ x17_ x20_ x22_
              have HE24 := Aside0.mk hn_
              clear hn_
              have e16_0 : wv1.cell? ⟨b16, 0, none⟩ = some (.int .i64 va) := (blk_cell HE16.out 0).trans rfl
              have e16_1 : wv1.cell? ⟨b16, 1, none⟩ = some (.int .i64 a1) := (blk_cell HE16.out 1).trans rfl
              go_wp2_with fail
              clear e16_0 e16_1
              clear hwv1 hb24
              refine (ll_take HL.out 2 (HK2.out gl gr) va a1 HS.out.2.2.1 HS.out.2.2.2.1).mono ?_
              rintro e ww ⟨rfl, hL, hh⟩
              rw [HM4.out] at hL
              have hl_ := (show LawL w ww (MS (.slice (some ad) L.length c7) [b24, b22, b20, b17, b16]) X w.heap.size w2.heap.size pw pj pr (.slice A xs.length c) xs [(g, m), (gl, mab), (gr, mba)] from hL)
              have ho_ := HO.out.heldS hh
              have x16_ := hh.box (by simp) HE16.out
              have x17_ := hh.box (by simp) HE17.out
              have x20_ := hh.box (by simp) HE20.out
              have x22_ := hh.box (by simp) HE22.out
              have x24_ := hh.box (by simp) HE24.out
              clear HL HO HE16 HE17 HE20 HE22 HE24
              have HL := Aside0.mk hl_
              have HO := Aside0.mk ho_
              have HE16 := Aside0.mk x16_
              have HE17 := Aside0.mk x17_
              have HE20 := Aside0.mk x20_
              have HE22 := Aside0.mk x22_
              have HE24 := Aside0.mk x24_
              clear hl_ ho_ x16_ x17_ x20_ x22_ x24_
              clear hL hh
              have hl_ := HL.out.boxS (.cells #[.int .i64 v0, .int .i64 va, .int .i64 v2, .int .i64 v3] 42)
              have ho_ := HO.out.below (below_alloc (Below.refl _ _) (.cells #[.int .i64 v0, .int .i64 va, .int .i64 v2, .int .i64 v3] 42))
              have hn_ := heap_alloc_new ww (.cells #[.int .i64 v0, .int .i64 va, .int .i64 v2, .int .i64 v3] 42)
              have x16_ := blk_alloc HE16.out (.cells #[.int .i64 v0, .int .i64 va, .int .i64 v2, .int .i64 v3] 42)
              have x17_ := blk_alloc HE17.out (.cells #[.int .i64 v0, .int .i64 va, .int .i64 v2, .int .i64 v3] 42)
              have x20_ := blk_alloc HE20.out (.cells #[.int .i64 v0, .int .i64 va, .int .i64 v2, .int .i64 v3] 42)
              have x22_ := blk_alloc HE22.out (.cells #[.int .i64 v0, .int .i64 va, .int .i64 v2, .int .i64 v3] 42)
              have x24_ := blk_alloc HE24.out (.cells #[.int .i64 v0, .int .i64 va, .int .i64 v2, .int .i64 v3] 42)
              obtain ⟨ww1, hww1⟩ : ∃ W0, ww.alloc (.cells #[.int .i64 v0, .int .i64 va, .int .i64 v2, .int .i64 v3] 42) = W0 := ⟨_, rfl⟩
              rw [hww1] at hl_ ho_ hn_ x16_ x17_ x20_ x22_ x24_
              obtain ⟨b26, hb26⟩ : ∃ b, ww.heap.size = b := ⟨_, rfl⟩
              rw [hb26] at hl_ hn_
              clear HL HO HE16 HE17 HE20 HE22 HE24
              have HL := Aside0.mk hl_
              have HO := Aside0.mk ho_
              have HE16 := Aside0.mk x16_
              have HE17 := Aside0.mk x17_
              have HE20 := Aside0.mk x20_
              have HE22 := Aside0.mk x22_
              have HE24 := Aside0.mk x24_
              clear hl_ ho_ x16_ x17_ x20_ x22_ x24_
              have HE26 := Aside0.mk hn_
              clear hn_
              have e20_0 : ww1.cell? ⟨b20, 0, none⟩ = some (.int .i64 v0) := (blk_cell HE20.out 0).trans rfl
              have e20_1 : ww1.cell? ⟨b20, 1, none⟩ = some (.int .i64 va) := (blk_cell HE20.out 1).trans rfl
              have e20_2 : ww1.cell? ⟨b20, 2, none⟩ = some (.int .i64 v2) := (blk_cell HE20.out 2).trans rfl
              have e20_3 : ww1.cell? ⟨b20, 3, none⟩ = some (.int .i64 v3) := (blk_cell HE20.out 3).trans rfl
              have e22_0 : ww1.cell? ⟨b22, 0, none⟩ = some (.int .i64 u0) := (blk_cell HE22.out 0).trans rfl
              have e22_1 : ww1.cell? ⟨b22, 1, none⟩ = some (.int .i64 ub) := (blk_cell HE22.out 1).trans rfl
              have e22_2 : ww1.cell? ⟨b22, 2, none⟩ = some (.int .i64 u2) := (blk_cell HE22.out 2).trans rfl
              have e22_3 : ww1.cell? ⟨b22, 3, none⟩ = some (.int .i64 u3) := (blk_cell HE22.out 3).trans rfl
              have e24_0 : ww1.cell? ⟨b24, 0, none⟩ = some (.int .i64 u0) := (blk_cell HE24.out 0).trans rfl
              have e24_1 : ww1.cell? ⟨b24, 1, none⟩ = some (.int .i64 ub) := (blk_cell HE24.out 1).trans rfl
              have e24_2 : ww1.cell? ⟨b24, 2, none⟩ = some (.int .i64 u2) := (blk_cell HE24.out 2).trans rfl
              have e24_3 : ww1.cell? ⟨b24, 3, none⟩ = some (.int .i64 u3) := (blk_cell HE24.out 3).trans rfl
              have e26_0 : ww1.cell? ⟨b26, 0, none⟩ = some (.int .i64 v0) := (blk_cell HE26.out 0).trans rfl
              have e26_1 : ww1.cell? ⟨b26, 1, none⟩ = some (.int .i64 va) := (blk_cell HE26.out 1).trans rfl
              have e26_2 : ww1.cell? ⟨b26, 2, none⟩ = some (.int .i64 v2) := (blk_cell HE26.out 2).trans rfl
              have e26_3 : ww1.cell? ⟨b26, 3, none⟩ = some (.int .i64 v3) := (blk_cell HE26.out 3).trans rfl
              have d0 : ww1.cell? ⟨w2.heap.size, 0, none⟩ = some (.int .i64 pw) := (blk_cell HL.out.pb 0).trans rfl
              have d1 : ww1.cell? ⟨w2.heap.size, 1, none⟩ = some (.int .i64 pj) := (blk_cell HL.out.pb 1).trans rfl
              have d2 : ww1.cell? ⟨w2.heap.size, 2, none⟩ = some (.int .i64 pr) := (blk_cell HL.out.pb 2).trans rfl
              go_wp2_with fail
              clear e20_0 e20_1 e20_2 e20_3 e22_0 e22_1 e22_2 e22_3 e24_0 e24_1 e24_2 e24_3 e26_0 e26_1 e26_2 e26_3
              clear d0 d1 d2
              refine (alike_calls w _ _ gl gr _ _ pw pj pr (HL.out.run (HN1.out gl gr)) (HL.out.run (HN2.out gl gr)) HS.out.2.2.2.2 (wlen HL.out (HN1.out gl gr))).mono ?_
              rintro e wx ⟨rfl, hb⟩
              have hl_ := HL.out.pass hb
              clear HL
              have HL := Aside0.mk hl_
              go_wp2_with fail
              go_ret
              exact ⟨rfl, HL.out.fl.bel⟩
end Go.Proofs.Ythcchpbidbbiaaa.Sc
namespace Go.Proofs.Ythcchpbidbbiaaa.schedSide
open Go.ChangeShapes Go.WideShapes Go.ChangeAt Go.RowKit Go.Joins
open Go.Proofs.YthcchpbidbbiaaaW
set_option linter.unusedVariables false
theorem own : ownKnob Try.prog.godebug = none := by kernel_rfl
theorem laidOut : laidOutB Try.prog = true := by kernel_rfl
set_option maxRecDepth 100000 in
theorem lifted (os : Os) (started : os.Started) (H : Type) (enc : TypeId × Value → H) :
    ReturnsInHanded {} Try.checked os 10 .any (Rows.schedSideSpec.pre6 enc Try.prog Try.f10 Rows.schedSideRow.domain false) (Rows.schedSideSpec.post enc Try.prog Try.f10 false true false false) := by
  refine returnsInHanded_of_change_sized (C := Try.checked) own started (by kernel_rfl) Try.func10
    (ChangeSpec.witness6 (enc := enc) (C := Try.checked) false ⟨#[], #[.agg #[.int .i64 0, .int .i64 0, .int .i64 0, .slice none 0 0, .slice none 0 0, .int .i64 0], .int .i64 0, .int .i64 0], []⟩ 8 (by kernel_rfl) (by kernel_rfl) (by kernel_rfl) (by kernel_rfl)) ?_
  intro W base args ds gs before hval0 hW hcnd hsz0 _
  have hval : ∀ (j : Nat) t v, Try.f10.params[j]? = some t → args[j]? = some v → Value.okWide Try.prog W .any base t v := hval0
  have hW' := hW
  obtain ⟨p, q, hA0, hV, rfl, hfz, hnd⟩ := hW
  have hA : DataW.TrodAll enc Try.prog W 0 (fun _ => true) true Try.f10.params.toList args.toList ds p := hA0
  rw [Try.params10] at hA hval
  obtain ⟨v0, vs0, d0, ds0, p0, q0, hargs, rfl, rfl, h0, r0⟩ := trodAll_cons hA
  obtain ⟨v1, vs1, d1, ds1, p1, q1, rfl, rfl, rfl, h1, r1⟩ := trodAll_cons r0
  obtain ⟨v2, vs2, d2, ds2, p2, q2, rfl, rfl, rfl, h2, r2⟩ := trodAll_cons r1
  obtain ⟨rfl, rfl, rfl⟩ := trodAll_nil r2
  obtain rfl : args = #[v0, v1, v2] := by cases args; simp_all
  obtain ⟨rfl, rfl⟩ := trodVars_none hV
  have k0 := h0
  have lt0 : ∀ x ∈ p0, x.block < W.heap.size := by obtain ⟨m, hm⟩ := k0; exact DataW.trod_lt m _ _ _ hm
  have k1 := h1
  have lt1 : ∀ x ∈ p1, x.block < W.heap.size := by obtain ⟨m, hm⟩ := k1; exact DataW.trod_lt m _ _ _ hm
  have k2 := h2
  have lt2 : ∀ x ∈ p2, x.block < W.heap.size := by obtain ⟨m, hm⟩ := k2; exact DataW.trod_lt m _ _ _ hm
  obtain ⟨X, rfl, hX⟩ := Sc.work_open (fun _ => rfl) (hval 0 37 v0 rfl rfl) h0
  obtain ⟨x1, rfl⟩ : ∃ x, v1 = .int .i64 x := okWide_int Try.underlying3 (hval 1 3 v1 rfl rfl)
  obtain ⟨x2, rfl⟩ : ∃ x, v2 = .int .i64 x := okWide_int Try.underlying3 (hval 2 3 v2 rfl rfl)
  clear hA0 hval0 hsz0
  refine (Sc.side_walk X W hX x1 x2).mono fun e W' ⟨he, bel⟩ => ?_
  subst he
  exact ⟨_, rfl, _, _, _, [], _, [], hW', trodAll_mk1 (shut_bool Try.underlying4 _), (trodAll_cons_mk (Below.trod laidOut (by kernel_rfl) (of_decide_eq_true (by kernel_rfl)) k0 bel lt0) (trodAll_cons_mk (Below.trod laidOut (by kernel_rfl) (of_decide_eq_true (by kernel_rfl)) k1 bel lt1) (trodAll_cons_mk (Below.trod laidOut (by kernel_rfl) (of_decide_eq_true (by kernel_rfl)) k2 bel lt2) trodAll_mk0))), rfl, bel.frame _, fun h => by cases h⟩
theorem over : Rows.schedSideRow.holds Try.pinned (OpenSpec.ofChange Rows.schedSideSpec) :=
  OpenClaim.holds_of_wide 10 Try.f10 rfl rfl rfl rfl rfl rfl rfl ⟨rfl, rfl, rfl, rfl, rfl⟩ rfl rfl rfl rfl rfl (by kernel_rfl) Try.func10 (by kernel_rfl)
    (of_decide_eq_true (by kernel_rfl)) (by unfold Func.isWrapper; first | (rw [if_pos (by decide +kernel)]; kernel_rfl) | (rw [if_neg (by decide +kernel)]; exact ⟨rfl, rfl⟩))
    (fun os started H enc _ => lifted os started H enc)
theorem proved : Rows.SchedSideSaid := over
#print axioms proved
end Go.Proofs.Ythcchpbidbbiaaa.schedSide
namespace Go.Proofs.Ythcchpbidbbiaaa
/-- The row, under a short name, for the claim. -/
theorem schedSide_holds : Rows.SchedSideSaid := schedSide.proved
end Go.Proofs.Ythcchpbidbbiaaa
