/- Two moves in either order; what becomes of each job. -/
import Derived.Test.YthcchpbidbbiaaaSch
import Derived.Test.YthcchpbidbbiaaaScg
import Derived.Test.YthcchpbidbbiaaaOSchedOncex0
import Derived.Test.YthcchpbidbbiaaaSce
namespace Go.Proofs.Ythcchpbidbbiaaa.Sc
open Go.RowKit Go.Proofs.YthcchpbidbbiaaaW.PrintWords Go.Proofs.YthcchpbidbbiaaaW.PrintLast Go.Proofs.YthcchpbidbbiaaaW.PrintMore Go.Proofs.Ythcchpbidbbiaaa.PSchedSide
set_option linter.unusedVariables false
set_option linter.unusedSimpArgs false
/-- A move that is ready, by its kind; the workers by their numbers. -/
inductive Mv (m : Mach) (x : S64) : Evt → Mach → Prop
  | close (h0 : x.f0 = 0) (h1 : x.f1 = 0) (hd : m.disp = true) (hu : und m = 0) : Mv m x ⟨3, 0, -1, 0⟩ { m with disp := false, picks := m.picks + 1 }
  | drop (h0 : x.f0 = 0) (h1 : x.f1 = 1) (hs : m.stopped = true) (hd : m.disp = true) (hu : und m ≠ 0) : Mv m x ⟨2, 0, -1, 0⟩ { m with dropped := true, picks := m.picks + 1 }
  | send (h0 : x.f0 = 0) (h1 : x.f1 = 0) (hd : m.disp = true) (hu : und m ≠ 0) (hl : (m.sent.length : Int) < m.pj) : Mv m x ⟨1, 0, m.next, 0⟩ { m with sent := m.sent ++ [m.next], next := m.next + 1, picks := m.picks + 1 }
  | cancel (h0 : x.f0 = m.workers.length + 1) (h1 : x.f1 = 1) (hs : m.stopped = true) (hc : m.coll = true) : Mv m x ⟨11, x.f0, -1, 0⟩ { m with coll := false, outcome := 2, picks := m.picks + 1 }
  | full (h0 : x.f0 = m.workers.length + 1) (h1 : x.f1 = 0) (hc : m.coll = true) (hg : m.got.length = m.jobs.length) : Mv m x ⟨10, x.f0, -1, 0⟩ { m with coll := false, outcome := 1, picks := m.picks + 1 }
  | got (q : Int) (rest : List Int) (h0 : x.f0 = m.workers.length + 1) (h1 : x.f1 = 0) (hc : m.coll = true) (hg : m.got.length ≠ m.jobs.length) (hv : m.given = q :: rest) : Mv m x ⟨9, x.f0, q, 0⟩ { m with given := rest, got := m.got ++ [q], picks := m.picks + 1 }
  | quit (y : S59) (hp : 1 ≤ x.f0 ∧ x.f0 ≤ m.workers.length) (h1 : x.f1 = 1) (hy : wk m x.f0 = y) (hs : m.stopped = true) (hk : y.f0 ≠ 0) : Mv m x ⟨8, x.f0, jobOf y, 0⟩ { m with workers := setW m x.f0 ⟨0, 0, 0⟩, picks := m.picks + 1 }
  | step (y : S59) (hp : 1 ≤ x.f0 ∧ x.f0 ≤ m.workers.length) (h1 : x.f1 = 0) (hy : wk m x.f0 = y) (hk : y.f0 = 2) (hl : 0 < y.f2) : Mv m x ⟨5, x.f0, y.f1, rd m.jobs y.f1 - (y.f2 - 1) - 1⟩ { m with workers := setW m x.f0 ⟨2, y.f1, y.f2 - 1⟩, picks := m.picks + 1 }
  | gave (y : S59) (hp : 1 ≤ x.f0 ∧ x.f0 ≤ m.workers.length) (h1 : x.f1 = 0) (hy : wk m x.f0 = y) (hk : y.f0 = 2) (hz : ¬ 0 < y.f2) (hl : (m.given.length : Int) < m.pr) : Mv m x ⟨6, x.f0, y.f1, 0⟩ { m with given := m.given ++ [y.f1], judged := m.judged + 1, workers := setW m x.f0 ⟨1, 0, 0⟩, picks := m.picks + 1 }
  | left (y : S59) (hp : 1 ≤ x.f0 ∧ x.f0 ≤ m.workers.length) (h1 : x.f1 = 0) (hy : wk m x.f0 = y) (hk : y.f0 ≠ 0) (hz : y.f0 ≠ 2) (hs : m.sent = []) (hd : m.disp = false) : Mv m x ⟨7, x.f0, -1, 0⟩ { m with workers := setW m x.f0 ⟨0, 0, 0⟩, picks := m.picks + 1 }
  | took (y : S59) (q : Int) (rest : List Int) (hp : 1 ≤ x.f0 ∧ x.f0 ≤ m.workers.length) (h1 : x.f1 = 0) (hy : wk m x.f0 = y) (hk : y.f0 ≠ 0) (hz : y.f0 ≠ 2) (hq : m.sent = q :: rest) : Mv m x ⟨4, x.f0, q, 0⟩ { tookM m x.f0 q rest with picks := m.picks + 1 }
theorem mv_of_mem {m : Mach} {x : S64} (hx : x ∈ mvs m) : Mv m x (evOf m x) (step m x) := by
  obtain ⟨h0, h1, hr⟩ := mem_mvs.1 hx
  obtain ⟨p, c⟩ := x
  simp only [] at h0 h1 hr
  by_cases hp0 : p = 0
  · subst hp0
    have hrd : ∀ b, rdy m 0 b = readyD m b := fun b => by simp [rdy]
    rw [hrd, hrd] at hr
    unfold readyD at hr
    rcases hr with ⟨rfl, hr⟩ | ⟨rfl, hs, hr⟩
    · simp only [Bool.and_eq_true] at hr
      obtain ⟨hd, hr⟩ := hr
      by_cases hu : und m = 0
      · have := Mv.close (m := m) (x := ⟨0, 0⟩) rfl rfl hd hu
        simpa [evOf, Sc.step, act, hu] using this
      · rw [if_neg hu] at hr
        have hl : (m.sent.length : Int) < m.pj := by simpa using hr
        have := Mv.send (m := m) (x := ⟨0, 0⟩) rfl rfl hd hu hl
        simpa [evOf, Sc.step, act, hu] using this
    · simp only [Bool.and_eq_true] at hr
      obtain ⟨hd, hr⟩ := hr
      by_cases hu : und m = 0
      · rw [if_pos hu] at hr; simp at hr
      · have := Mv.drop (m := m) (x := ⟨0, 1⟩) rfl rfl hs hd hu
        simpa [evOf, Sc.step, act, hu] using this
  · by_cases hpn : p = m.workers.length + 1
    · have hrd : ∀ b, rdy m p b = readyC m b := fun b => by simp only [rdy]; rw [if_neg hp0, if_pos hpn]
      rw [hrd, hrd] at hr
      unfold readyC at hr
      rcases hr with ⟨rfl, hr⟩ | ⟨rfl, hs, hr⟩
      · simp only [Bool.and_eq_true] at hr
        obtain ⟨hc, hr⟩ := hr
        by_cases hg : m.got.length = m.jobs.length
        · have := Mv.full (m := m) (x := ⟨p, 0⟩) hpn rfl hc hg
          simp only [evOf, Sc.step, act]
          rw [if_neg hp0, if_pos hpn, if_neg (by decide), if_pos hg]
          exact this
        · have hgv : 0 < m.given.length := by simpa [hg] using hr
          obtain ⟨q, rest, hq⟩ : ∃ q rest, m.given = q :: rest := by
            cases h : m.given with
            | nil => rw [h] at hgv; simp at hgv
            | cons q rest => exact ⟨q, rest, rfl⟩
          have := Mv.got (m := m) (x := ⟨p, 0⟩) q rest hpn rfl hc hg hq
          simp only [evOf, Sc.step, act]
          rw [if_neg hp0, if_pos hpn, if_neg (by decide), if_neg hg, hq]
          exact this
      · simp only [Bool.and_eq_true] at hr
        have := Mv.cancel (m := m) (x := ⟨p, 1⟩) hpn rfl hs hr.1
        simp only [evOf, Sc.step, act]
        rw [if_neg hp0, if_pos hpn, if_pos (by decide)]
        exact this
    · have hrd : ∀ b, rdy m p b = readyW m p b := fun b => by simp only [rdy]; rw [if_neg hp0, if_neg hpn]
      rw [hrd, hrd] at hr
      unfold readyW at hr
      have hpp : 1 ≤ p ∧ p ≤ m.workers.length := by omega
      obtain ⟨y, hy⟩ : ∃ y, wk m p = y := ⟨_, rfl⟩
      rw [hy] at hr
      by_cases hk : y.f0 = 0
      · rw [if_pos hk, if_pos hk] at hr; simp at hr
      · rw [if_neg hk, if_neg hk] at hr
        rcases hr with ⟨rfl, hr⟩ | ⟨rfl, hs, hr⟩
        · rw [if_neg (by decide)] at hr
          by_cases h2 : y.f0 = 2
          · rw [if_pos h2] at hr
            by_cases hz : 0 < y.f2
            · have := Mv.step (m := m) (x := ⟨p, 0⟩) y hpp rfl hy h2 hz
              simp only [evOf, Sc.step, act, hy]
              rw [if_neg hp0, if_neg hpn, if_neg (by decide), if_pos h2, if_pos hz]
              exact this
            · rw [if_neg hz] at hr
              have := Mv.gave (m := m) (x := ⟨p, 0⟩) y hpp rfl hy h2 hz (by simpa using hr)
              simp only [evOf, Sc.step, act, hy]
              rw [if_neg hp0, if_neg hpn, if_neg (by decide), if_pos h2, if_neg hz]
              exact this
          · rw [if_neg h2] at hr
            by_cases hz : m.sent.length = 0
            · rw [if_pos hz] at hr
              have := Mv.left (m := m) (x := ⟨p, 0⟩) y hpp rfl hy hk h2 (List.eq_nil_of_length_eq_zero hz) (by simpa using hr)
              simp only [evOf, Sc.step, act, hy]
              rw [if_neg hp0, if_neg hpn, if_neg (by decide), if_neg h2, if_pos hz]
              exact this
            · obtain ⟨q, rest, hq⟩ : ∃ q rest, m.sent = q :: rest := by
                cases h : m.sent with
                | nil => rw [h] at hz; simp at hz
                | cons q rest => exact ⟨q, rest, rfl⟩
              have := Mv.took (m := m) (x := ⟨p, 0⟩) y q rest hpp rfl hy hk h2 hq
              simp only [evOf, Sc.step, act, hy]
              rw [if_neg hp0, if_neg hpn, if_neg (by decide), if_neg h2, if_neg hz, hq]
              exact this
        · have := Mv.quit (m := m) (x := ⟨p, 1⟩) y hpp rfl hy hs hk
          simp only [evOf, Sc.step, act, hy]
          rw [if_neg hp0, if_neg hpn, if_pos (by decide)]
          exact this
theorem mem_of_mv {m m' : Mach} {x : S64} {e : Evt} (h : Mv m x e m') : x ∈ mvs m ∧ evOf m x = e ∧ Sc.step m x = m' := by
  obtain ⟨p, c⟩ := x
  have key : ∀ (hb : 0 ≤ p ∧ p ≤ m.workers.length + 1) (hc : c = 0 ∨ (c = 1 ∧ m.stopped = true)) (hr : rdy m p (c == 1) = true) (ha : act m p (c == 1) = (e, { m' with picks := m.picks })) (hpk : m'.picks = m.picks + 1), (⟨p, c⟩ : S64) ∈ mvs m ∧ evOf m ⟨p, c⟩ = e ∧ Sc.step m ⟨p, c⟩ = m' := by
    intro hb hc hr ha hpk
    refine ⟨mem_mvs.2 ⟨hb.1, hb.2, ?_⟩, ?_, ?_⟩
    · rcases hc with rfl | ⟨rfl, hs⟩
      · exact .inl ⟨rfl, hr⟩
      · exact .inr ⟨rfl, hs, hr⟩
    · show (act m p (c == 1)).1 = e
      rw [ha]
    · show ({ (act m p (c == 1)).2 with picks := m.picks + 1 } : Mach) = m'
      rw [ha, ← hpk]
  cases h with
  | close h0 h1 hd hu =>
    simp only [] at *
    refine key (by subst h0; omega) (.inl h1) ?_ ?_ (by trivial)
    · subst h0 h1; simp [rdy, readyD, hd, hu]
    · subst h0 h1; simp [act, hu]
  | drop h0 h1 hs hd hu =>
    simp only [] at *
    refine key (by subst h0; omega) (.inr ⟨h1, hs⟩) ?_ ?_ (by trivial)
    · subst h0 h1; simp [rdy, readyD, hd, hu]
    · subst h0 h1; simp [act, hu]
  | send h0 h1 hd hu hl =>
    simp only [] at *
    refine key (by subst h0; omega) (.inl h1) ?_ ?_ (by trivial)
    · subst h0 h1; simp [rdy, readyD, hd, hu, hl]
    · subst h0 h1; simp [act, hu]
  | cancel h0 h1 hs hc =>
    simp only [] at *
    refine key (by subst h0; omega) (.inr ⟨h1, hs⟩) ?_ ?_ (by trivial)
    · subst h0 h1; unfold rdy; rw [if_neg (by omega), if_pos rfl]; simp [readyC, hc]
    · subst h0 h1; unfold act; rw [if_neg (by omega), if_pos rfl]; simp
  | full h0 h1 hc hg =>
    simp only [] at *
    refine key (by subst h0; omega) (.inl h1) ?_ ?_ (by trivial)
    · subst h0 h1; unfold rdy; rw [if_neg (by omega), if_pos rfl]; simp [readyC, hc, hg]
    · subst h0 h1; unfold act; rw [if_neg (by omega), if_pos rfl]; simp [hg]
  | got q rest h0 h1 hc hg hv =>
    simp only [] at *
    refine key (by subst h0; omega) (.inl h1) ?_ ?_ (by trivial)
    · subst h0 h1; unfold rdy; rw [if_neg (by omega), if_pos rfl]; simp [readyC, hc, hv]
    · subst h0 h1; unfold act; rw [if_neg (by omega), if_pos rfl]; simp [hg, hv]
  | quit y hp h1 hy hs hk =>
    simp only [] at *
    refine key (by omega) (.inr ⟨h1, hs⟩) ?_ ?_ (by trivial)
    · subst h1; unfold rdy readyW; rw [if_neg (by omega), if_neg (by omega), hy]; simp [hk]
    · subst h1; unfold act; rw [if_neg (by omega), if_neg (by omega), hy]; simp
  | step y hp h1 hy hk hl =>
    simp only [] at *
    refine key (by omega) (.inl h1) ?_ ?_ (by trivial)
    · subst h1; unfold rdy readyW; rw [if_neg (by omega), if_neg (by omega), hy]; simp [hk, hl]
    · subst h1; unfold act; rw [if_neg (by omega), if_neg (by omega), hy]; simp [hk, hl]
  | gave y hp h1 hy hk hz hl =>
    simp only [] at *
    refine key (by omega) (.inl h1) ?_ ?_ (by trivial)
    · subst h1; unfold rdy readyW; rw [if_neg (by omega), if_neg (by omega), hy]; simp [hk, hz, hl]
    · subst h1; unfold act; rw [if_neg (by omega), if_neg (by omega), hy]; simp [hk, hz]
  | left y hp h1 hy hk hz hs hd =>
    simp only [] at *
    refine key (by omega) (.inl h1) ?_ ?_ (by trivial)
    · subst h1; unfold rdy readyW; rw [if_neg (by omega), if_neg (by omega), hy]; simp [hk, hz, hs, hd]
    · subst h1; unfold act; rw [if_neg (by omega), if_neg (by omega), hy]; simp [hk, hz, hs]
  | took y q rest hp h1 hy hk hz hq =>
    simp only [] at *
    refine key (by omega) (.inl h1) ?_ ?_ (by trivial)
    · subst h1; unfold rdy readyW; rw [if_neg (by omega), if_neg (by omega), hy]; simp [hk, hz, hq]
    · subst h1; unfold act; rw [if_neg (by omega), if_neg (by omega), hy]; simp [hk, hz, hq, tookM]
/-- The kind of channel that an event uses. -/
def usesOf (k : Int) : Int := if k = 1 ∨ k = 4 ∨ k = 3 ∨ k = 7 then 1 else if k = 6 ∨ k = 9 then 2 else 0
theorem like_mk {a b : Mach} (h1 : b.pw = a.pw) (h2 : b.pj = a.pj) (h3 : b.pr = a.pr) (h4 : b.jobs = a.jobs) (h5 : b.next = a.next) (h6 : b.dropped = a.dropped) (h7 : b.disp = a.disp) (h8 : b.coll = a.coll) (h9 : b.workers = a.workers) (h10 : b.sent = a.sent) (h11 : b.given = a.given) (h12 : b.judged = a.judged) (h13 : b.got = a.got) (h14 : b.stopped = a.stopped) (h15 : b.outcome = a.outcome) (h16 : b.picks = a.picks) : Like a b := by
  cases a; cases b
  simp only [] at *
  subst_vars
  exact ⟨_, rfl⟩
theorem Like.symm {a b : Mach} (h : Like a b) : Like b a := by
  obtain ⟨p, rfl⟩ := h
  exact ⟨a.peak, rfl⟩
theorem wk_set_ne {m m' : Mach} {p q : Int} {z : S59} (hw : m'.workers = setW m p z) (hp : 1 ≤ p) (hq : 1 ≤ q) (hne : p ≠ q) : wk m' q = wk m q := by
  unfold wk
  rw [hw]
  unfold setW rd_T99
  rw [List.getD_eq_getElem?_getD, List.getD_eq_getElem?_getD, List.getElem?_set_ne (by omega)]
theorem setW_comm {m m1 m2 : Mach} {p q : Int} {y z : S59} (h1 : m1.workers = setW m p y) (h2 : m2.workers = setW m q z) (hp : 1 ≤ p) (hq : 1 ≤ q) (hne : p ≠ q) : setW m2 p y = setW m1 q z := by
  unfold setW at *
  rw [h1, h2]
  exact List.set_comm _ _ (by omega)
theorem setW_len {m : Mach} {p : Int} {y : S59} : (setW m p y).length = m.workers.length := by unfold setW; exact List.length_set
/-- The two orders. -/
def Dia (m1 m2 : Mach) (x1 x2 : S64) (e1 e2 : Evt) : Prop := ∃ m12 m21, Mv m1 x2 e2 m12 ∧ Mv m2 x1 e1 m21 ∧ Like m12 m21
theorem Dia.swap {m1 m2 : Mach} {x1 x2 : S64} {e1 e2 : Evt} (h : Dia m1 m2 x1 x2 e1 e2) : Dia m2 m1 x2 x1 e2 e1 := by
  obtain ⟨a, b, h1, h2, h3⟩ := h
  exact ⟨b, a, h2, h1, h3.symm⟩
theorem dia_dc {m m1 m2 : Mach} {x1 x2 : S64} {e1 e2 : Evt} (h1 : Mv m x1 e1 m1) (h2 : Mv m x2 e2 m2) (hne : x1.f0 ≠ x2.f0) (ha : e1.k = 1 ∨ e1.k = 2 ∨ e1.k = 3) (hb : e2.k = 9 ∨ e2.k = 10 ∨ e2.k = 11) (hu : ¬ (usesOf e1.k ≠ 0 ∧ usesOf e1.k = usesOf e2.k)) : Dia m1 m2 x1 x2 e1 e2 := by
  cases h1 with
  | close h01 h11 hd1 hu1 =>
    cases h2 with
    | close h02 h12 hd2 hu2 =>
      exfalso; revert hb; simp
    | drop h02 h12 hs2 hd2 hu2 =>
      exfalso; revert hb; simp
    | send h02 h12 hd2 hu2 hl2 =>
      exfalso; revert hb; simp
    | cancel h02 h12 hs2 hc2 =>
      exact ⟨_, _, .cancel h02 h12 hs2 hc2, .close h01 h11 hd1 hu1, like_mk rfl rfl rfl rfl rfl rfl rfl rfl rfl rfl rfl rfl rfl rfl rfl rfl⟩
    | full h02 h12 hc2 hg2 =>
      exact ⟨_, _, .full h02 h12 hc2 hg2, .close h01 h11 hd1 hu1, like_mk rfl rfl rfl rfl rfl rfl rfl rfl rfl rfl rfl rfl rfl rfl rfl rfl⟩
    | got q2 rest2 h02 h12 hc2 hg2 hv2 =>
      exact ⟨_, _, .got q2 rest2 h02 h12 hc2 hg2 hv2, .close h01 h11 hd1 hu1, like_mk rfl rfl rfl rfl rfl rfl rfl rfl rfl rfl rfl rfl rfl rfl rfl rfl⟩
    | quit y2 hp2 h12 hy2 hs2 hk2 =>
      exfalso; revert hb; simp
    | step y2 hp2 h12 hy2 hk2 hl2 =>
      exfalso; revert hb; simp
    | gave y2 hp2 h12 hy2 hk2 hz2 hl2 =>
      exfalso; revert hb; simp
    | left y2 hp2 h12 hy2 hk2 hz2 hs2 hd2 =>
      exfalso; revert hb; simp
    | took y2 q2 rest2 hp2 h12 hy2 hk2 hz2 hq2 =>
      exfalso; revert hb; simp
  | drop h01 h11 hs1 hd1 hu1 =>
    cases h2 with
    | close h02 h12 hd2 hu2 =>
      exfalso; revert hb; simp
    | drop h02 h12 hs2 hd2 hu2 =>
      exfalso; revert hb; simp
    | send h02 h12 hd2 hu2 hl2 =>
      exfalso; revert hb; simp
    | cancel h02 h12 hs2 hc2 =>
      exact ⟨_, _, .cancel h02 h12 hs2 hc2, .drop h01 h11 hs1 hd1 hu1, like_mk rfl rfl rfl rfl rfl rfl rfl rfl rfl rfl rfl rfl rfl rfl rfl rfl⟩
    | full h02 h12 hc2 hg2 =>
      exact ⟨_, _, .full h02 h12 hc2 hg2, .drop h01 h11 hs1 hd1 hu1, like_mk rfl rfl rfl rfl rfl rfl rfl rfl rfl rfl rfl rfl rfl rfl rfl rfl⟩
    | got q2 rest2 h02 h12 hc2 hg2 hv2 =>
      exact ⟨_, _, .got q2 rest2 h02 h12 hc2 hg2 hv2, .drop h01 h11 hs1 hd1 hu1, like_mk rfl rfl rfl rfl rfl rfl rfl rfl rfl rfl rfl rfl rfl rfl rfl rfl⟩
    | quit y2 hp2 h12 hy2 hs2 hk2 =>
      exfalso; revert hb; simp
    | step y2 hp2 h12 hy2 hk2 hl2 =>
      exfalso; revert hb; simp
    | gave y2 hp2 h12 hy2 hk2 hz2 hl2 =>
      exfalso; revert hb; simp
    | left y2 hp2 h12 hy2 hk2 hz2 hs2 hd2 =>
      exfalso; revert hb; simp
    | took y2 q2 rest2 hp2 h12 hy2 hk2 hz2 hq2 =>
      exfalso; revert hb; simp
  | send h01 h11 hd1 hu1 hl1 =>
    cases h2 with
    | close h02 h12 hd2 hu2 =>
      exfalso; revert hb; simp
    | drop h02 h12 hs2 hd2 hu2 =>
      exfalso; revert hb; simp
    | send h02 h12 hd2 hu2 hl2 =>
      exfalso; revert hb; simp
    | cancel h02 h12 hs2 hc2 =>
      exact ⟨_, _, .cancel h02 h12 hs2 hc2, .send h01 h11 hd1 hu1 hl1, like_mk rfl rfl rfl rfl rfl rfl rfl rfl rfl rfl rfl rfl rfl rfl rfl rfl⟩
    | full h02 h12 hc2 hg2 =>
      exact ⟨_, _, .full h02 h12 hc2 hg2, .send h01 h11 hd1 hu1 hl1, like_mk rfl rfl rfl rfl rfl rfl rfl rfl rfl rfl rfl rfl rfl rfl rfl rfl⟩
    | got q2 rest2 h02 h12 hc2 hg2 hv2 =>
      exact ⟨_, _, .got q2 rest2 h02 h12 hc2 hg2 hv2, .send h01 h11 hd1 hu1 hl1, like_mk rfl rfl rfl rfl rfl rfl rfl rfl rfl rfl rfl rfl rfl rfl rfl rfl⟩
    | quit y2 hp2 h12 hy2 hs2 hk2 =>
      exfalso; revert hb; simp
    | step y2 hp2 h12 hy2 hk2 hl2 =>
      exfalso; revert hb; simp
    | gave y2 hp2 h12 hy2 hk2 hz2 hl2 =>
      exfalso; revert hb; simp
    | left y2 hp2 h12 hy2 hk2 hz2 hs2 hd2 =>
      exfalso; revert hb; simp
    | took y2 q2 rest2 hp2 h12 hy2 hk2 hz2 hq2 =>
      exfalso; revert hb; simp
  | cancel h01 h11 hs1 hc1 =>
    exfalso; revert ha; simp
  | full h01 h11 hc1 hg1 =>
    exfalso; revert ha; simp
  | got q1 rest1 h01 h11 hc1 hg1 hv1 =>
    exfalso; revert ha; simp
  | quit y1 hp1 h11 hy1 hs1 hk1 =>
    exfalso; revert ha; simp
  | step y1 hp1 h11 hy1 hk1 hl1 =>
    exfalso; revert ha; simp
  | gave y1 hp1 h11 hy1 hk1 hz1 hl1 =>
    exfalso; revert ha; simp
  | left y1 hp1 h11 hy1 hk1 hz1 hs1 hd1 =>
    exfalso; revert ha; simp
  | took y1 q1 rest1 hp1 h11 hy1 hk1 hz1 hq1 =>
    exfalso; revert ha; simp
theorem dia_dw {m m1 m2 : Mach} {x1 x2 : S64} {e1 e2 : Evt} (h1 : Mv m x1 e1 m1) (h2 : Mv m x2 e2 m2) (hne : x1.f0 ≠ x2.f0) (ha : e1.k = 1 ∨ e1.k = 2 ∨ e1.k = 3) (hb : 4 ≤ e2.k ∧ e2.k ≤ 8) (hu : ¬ (usesOf e1.k ≠ 0 ∧ usesOf e1.k = usesOf e2.k)) : Dia m1 m2 x1 x2 e1 e2 := by
  cases h1 with
  | close h01 h11 hd1 hu1 =>
    cases h2 with
    | close h02 h12 hd2 hu2 =>
      exfalso; revert hb; simp
    | drop h02 h12 hs2 hd2 hu2 =>
      exfalso; revert hb; simp
    | send h02 h12 hd2 hu2 hl2 =>
      exfalso; revert hb; simp
    | cancel h02 h12 hs2 hc2 =>
      exfalso; revert hb; simp
    | full h02 h12 hc2 hg2 =>
      exfalso; revert hb; simp
    | got q2 rest2 h02 h12 hc2 hg2 hv2 =>
      exfalso; revert hb; simp
    | quit y2 hp2 h12 hy2 hs2 hk2 =>
      exact ⟨_, _, .quit y2 hp2 h12 hy2 hs2 hk2, .close h01 h11 hd1 hu1, like_mk rfl rfl rfl rfl rfl rfl rfl rfl rfl rfl rfl rfl rfl rfl rfl rfl⟩
    | step y2 hp2 h12 hy2 hk2 hl2 =>
      exact ⟨_, _, .step y2 hp2 h12 hy2 hk2 hl2, .close h01 h11 hd1 hu1, like_mk rfl rfl rfl rfl rfl rfl rfl rfl rfl rfl rfl rfl rfl rfl rfl rfl⟩
    | gave y2 hp2 h12 hy2 hk2 hz2 hl2 =>
      exact ⟨_, _, .gave y2 hp2 h12 hy2 hk2 hz2 hl2, .close h01 h11 hd1 hu1, like_mk rfl rfl rfl rfl rfl rfl rfl rfl rfl rfl rfl rfl rfl rfl rfl rfl⟩
    | left y2 hp2 h12 hy2 hk2 hz2 hs2 hd2 =>
      exact absurd ⟨by simp [usesOf], by simp [usesOf]⟩ hu
    | took y2 q2 rest2 hp2 h12 hy2 hk2 hz2 hq2 =>
      exact absurd ⟨by simp [usesOf], by simp [usesOf]⟩ hu
  | drop h01 h11 hs1 hd1 hu1 =>
    cases h2 with
    | close h02 h12 hd2 hu2 =>
      exfalso; revert hb; simp
    | drop h02 h12 hs2 hd2 hu2 =>
      exfalso; revert hb; simp
    | send h02 h12 hd2 hu2 hl2 =>
      exfalso; revert hb; simp
    | cancel h02 h12 hs2 hc2 =>
      exfalso; revert hb; simp
    | full h02 h12 hc2 hg2 =>
      exfalso; revert hb; simp
    | got q2 rest2 h02 h12 hc2 hg2 hv2 =>
      exfalso; revert hb; simp
    | quit y2 hp2 h12 hy2 hs2 hk2 =>
      exact ⟨_, _, .quit y2 hp2 h12 hy2 hs2 hk2, .drop h01 h11 hs1 hd1 hu1, like_mk rfl rfl rfl rfl rfl rfl rfl rfl rfl rfl rfl rfl rfl rfl rfl rfl⟩
    | step y2 hp2 h12 hy2 hk2 hl2 =>
      exact ⟨_, _, .step y2 hp2 h12 hy2 hk2 hl2, .drop h01 h11 hs1 hd1 hu1, like_mk rfl rfl rfl rfl rfl rfl rfl rfl rfl rfl rfl rfl rfl rfl rfl rfl⟩
    | gave y2 hp2 h12 hy2 hk2 hz2 hl2 =>
      exact ⟨_, _, .gave y2 hp2 h12 hy2 hk2 hz2 hl2, .drop h01 h11 hs1 hd1 hu1, like_mk rfl rfl rfl rfl rfl rfl rfl rfl rfl rfl rfl rfl rfl rfl rfl rfl⟩
    | left y2 hp2 h12 hy2 hk2 hz2 hs2 hd2 =>
      rw [hd1] at hd2; exact absurd hd2 (by decide)
    | took y2 q2 rest2 hp2 h12 hy2 hk2 hz2 hq2 =>
      exact ⟨_, _, .took y2 q2 rest2 hp2 h12 hy2 hk2 hz2 hq2, .drop h01 h11 hs1 hd1 hu1, like_mk rfl rfl rfl rfl rfl rfl rfl rfl rfl rfl rfl rfl rfl rfl rfl rfl⟩
  | send h01 h11 hd1 hu1 hl1 =>
    cases h2 with
    | close h02 h12 hd2 hu2 =>
      exfalso; revert hb; simp
    | drop h02 h12 hs2 hd2 hu2 =>
      exfalso; revert hb; simp
    | send h02 h12 hd2 hu2 hl2 =>
      exfalso; revert hb; simp
    | cancel h02 h12 hs2 hc2 =>
      exfalso; revert hb; simp
    | full h02 h12 hc2 hg2 =>
      exfalso; revert hb; simp
    | got q2 rest2 h02 h12 hc2 hg2 hv2 =>
      exfalso; revert hb; simp
    | quit y2 hp2 h12 hy2 hs2 hk2 =>
      exact ⟨_, _, .quit y2 hp2 h12 hy2 hs2 hk2, .send h01 h11 hd1 hu1 hl1, like_mk rfl rfl rfl rfl rfl rfl rfl rfl rfl rfl rfl rfl rfl rfl rfl rfl⟩
    | step y2 hp2 h12 hy2 hk2 hl2 =>
      exact ⟨_, _, .step y2 hp2 h12 hy2 hk2 hl2, .send h01 h11 hd1 hu1 hl1, like_mk rfl rfl rfl rfl rfl rfl rfl rfl rfl rfl rfl rfl rfl rfl rfl rfl⟩
    | gave y2 hp2 h12 hy2 hk2 hz2 hl2 =>
      exact ⟨_, _, .gave y2 hp2 h12 hy2 hk2 hz2 hl2, .send h01 h11 hd1 hu1 hl1, like_mk rfl rfl rfl rfl rfl rfl rfl rfl rfl rfl rfl rfl rfl rfl rfl rfl⟩
    | left y2 hp2 h12 hy2 hk2 hz2 hs2 hd2 =>
      exact absurd ⟨by simp [usesOf], by simp [usesOf]⟩ hu
    | took y2 q2 rest2 hp2 h12 hy2 hk2 hz2 hq2 =>
      exact absurd ⟨by simp [usesOf], by simp [usesOf]⟩ hu
  | cancel h01 h11 hs1 hc1 =>
    exfalso; revert ha; simp
  | full h01 h11 hc1 hg1 =>
    exfalso; revert ha; simp
  | got q1 rest1 h01 h11 hc1 hg1 hv1 =>
    exfalso; revert ha; simp
  | quit y1 hp1 h11 hy1 hs1 hk1 =>
    exfalso; revert ha; simp
  | step y1 hp1 h11 hy1 hk1 hl1 =>
    exfalso; revert ha; simp
  | gave y1 hp1 h11 hy1 hk1 hz1 hl1 =>
    exfalso; revert ha; simp
  | left y1 hp1 h11 hy1 hk1 hz1 hs1 hd1 =>
    exfalso; revert ha; simp
  | took y1 q1 rest1 hp1 h11 hy1 hk1 hz1 hq1 =>
    exfalso; revert ha; simp
theorem dia_cw {m m1 m2 : Mach} {x1 x2 : S64} {e1 e2 : Evt} (h1 : Mv m x1 e1 m1) (h2 : Mv m x2 e2 m2) (hne : x1.f0 ≠ x2.f0) (ha : e1.k = 9 ∨ e1.k = 10 ∨ e1.k = 11) (hb : 4 ≤ e2.k ∧ e2.k ≤ 8) (hu : ¬ (usesOf e1.k ≠ 0 ∧ usesOf e1.k = usesOf e2.k)) : Dia m1 m2 x1 x2 e1 e2 := by
  cases h1 with
  | close h01 h11 hd1 hu1 =>
    exfalso; revert ha; simp
  | drop h01 h11 hs1 hd1 hu1 =>
    exfalso; revert ha; simp
  | send h01 h11 hd1 hu1 hl1 =>
    exfalso; revert ha; simp
  | cancel h01 h11 hs1 hc1 =>
    cases h2 with
    | close h02 h12 hd2 hu2 =>
      exfalso; revert hb; simp
    | drop h02 h12 hs2 hd2 hu2 =>
      exfalso; revert hb; simp
    | send h02 h12 hd2 hu2 hl2 =>
      exfalso; revert hb; simp
    | cancel h02 h12 hs2 hc2 =>
      exfalso; revert hb; simp
    | full h02 h12 hc2 hg2 =>
      exfalso; revert hb; simp
    | got q2 rest2 h02 h12 hc2 hg2 hv2 =>
      exfalso; revert hb; simp
    | quit y2 hp2 h12 hy2 hs2 hk2 =>
      exact ⟨_, _, .quit y2 hp2 h12 hy2 hs2 hk2, .cancel (by rw [show (_ : Mach).workers.length = m.workers.length from setW_len]; exact h01) h11 hs1 hc1, like_mk rfl rfl rfl rfl rfl rfl rfl rfl rfl rfl rfl rfl rfl rfl rfl rfl⟩
    | step y2 hp2 h12 hy2 hk2 hl2 =>
      exact ⟨_, _, .step y2 hp2 h12 hy2 hk2 hl2, .cancel (by rw [show (_ : Mach).workers.length = m.workers.length from setW_len]; exact h01) h11 hs1 hc1, like_mk rfl rfl rfl rfl rfl rfl rfl rfl rfl rfl rfl rfl rfl rfl rfl rfl⟩
    | gave y2 hp2 h12 hy2 hk2 hz2 hl2 =>
      exact ⟨_, _, .gave y2 hp2 h12 hy2 hk2 hz2 hl2, .cancel (by rw [show (_ : Mach).workers.length = m.workers.length from setW_len]; exact h01) h11 hs1 hc1, like_mk rfl rfl rfl rfl rfl rfl rfl rfl rfl rfl rfl rfl rfl rfl rfl rfl⟩
    | left y2 hp2 h12 hy2 hk2 hz2 hs2 hd2 =>
      exact ⟨_, _, .left y2 hp2 h12 hy2 hk2 hz2 hs2 hd2, .cancel (by rw [show (_ : Mach).workers.length = m.workers.length from setW_len]; exact h01) h11 hs1 hc1, like_mk rfl rfl rfl rfl rfl rfl rfl rfl rfl rfl rfl rfl rfl rfl rfl rfl⟩
    | took y2 q2 rest2 hp2 h12 hy2 hk2 hz2 hq2 =>
      exact ⟨_, _, .took y2 q2 rest2 hp2 h12 hy2 hk2 hz2 hq2, .cancel (by rw [show (_ : Mach).workers.length = m.workers.length from setW_len]; exact h01) h11 hs1 hc1, like_mk rfl rfl rfl rfl rfl rfl rfl rfl rfl rfl rfl rfl rfl rfl rfl rfl⟩
  | full h01 h11 hc1 hg1 =>
    cases h2 with
    | close h02 h12 hd2 hu2 =>
      exfalso; revert hb; simp
    | drop h02 h12 hs2 hd2 hu2 =>
      exfalso; revert hb; simp
    | send h02 h12 hd2 hu2 hl2 =>
      exfalso; revert hb; simp
    | cancel h02 h12 hs2 hc2 =>
      exfalso; revert hb; simp
    | full h02 h12 hc2 hg2 =>
      exfalso; revert hb; simp
    | got q2 rest2 h02 h12 hc2 hg2 hv2 =>
      exfalso; revert hb; simp
    | quit y2 hp2 h12 hy2 hs2 hk2 =>
      exact ⟨_, _, .quit y2 hp2 h12 hy2 hs2 hk2, .full (by rw [show (_ : Mach).workers.length = m.workers.length from setW_len]; exact h01) h11 hc1 hg1, like_mk rfl rfl rfl rfl rfl rfl rfl rfl rfl rfl rfl rfl rfl rfl rfl rfl⟩
    | step y2 hp2 h12 hy2 hk2 hl2 =>
      exact ⟨_, _, .step y2 hp2 h12 hy2 hk2 hl2, .full (by rw [show (_ : Mach).workers.length = m.workers.length from setW_len]; exact h01) h11 hc1 hg1, like_mk rfl rfl rfl rfl rfl rfl rfl rfl rfl rfl rfl rfl rfl rfl rfl rfl⟩
    | gave y2 hp2 h12 hy2 hk2 hz2 hl2 =>
      exact ⟨_, _, .gave y2 hp2 h12 hy2 hk2 hz2 hl2, .full (by rw [show (_ : Mach).workers.length = m.workers.length from setW_len]; exact h01) h11 hc1 hg1, like_mk rfl rfl rfl rfl rfl rfl rfl rfl rfl rfl rfl rfl rfl rfl rfl rfl⟩
    | left y2 hp2 h12 hy2 hk2 hz2 hs2 hd2 =>
      exact ⟨_, _, .left y2 hp2 h12 hy2 hk2 hz2 hs2 hd2, .full (by rw [show (_ : Mach).workers.length = m.workers.length from setW_len]; exact h01) h11 hc1 hg1, like_mk rfl rfl rfl rfl rfl rfl rfl rfl rfl rfl rfl rfl rfl rfl rfl rfl⟩
    | took y2 q2 rest2 hp2 h12 hy2 hk2 hz2 hq2 =>
      exact ⟨_, _, .took y2 q2 rest2 hp2 h12 hy2 hk2 hz2 hq2, .full (by rw [show (_ : Mach).workers.length = m.workers.length from setW_len]; exact h01) h11 hc1 hg1, like_mk rfl rfl rfl rfl rfl rfl rfl rfl rfl rfl rfl rfl rfl rfl rfl rfl⟩
  | got q1 rest1 h01 h11 hc1 hg1 hv1 =>
    cases h2 with
    | close h02 h12 hd2 hu2 =>
      exfalso; revert hb; simp
    | drop h02 h12 hs2 hd2 hu2 =>
      exfalso; revert hb; simp
    | send h02 h12 hd2 hu2 hl2 =>
      exfalso; revert hb; simp
    | cancel h02 h12 hs2 hc2 =>
      exfalso; revert hb; simp
    | full h02 h12 hc2 hg2 =>
      exfalso; revert hb; simp
    | got q2 rest2 h02 h12 hc2 hg2 hv2 =>
      exfalso; revert hb; simp
    | quit y2 hp2 h12 hy2 hs2 hk2 =>
      exact ⟨_, _, .quit y2 hp2 h12 hy2 hs2 hk2, .got q1 rest1 (by rw [show (_ : Mach).workers.length = m.workers.length from setW_len]; exact h01) h11 hc1 hg1 hv1, like_mk rfl rfl rfl rfl rfl rfl rfl rfl rfl rfl rfl rfl rfl rfl rfl rfl⟩
    | step y2 hp2 h12 hy2 hk2 hl2 =>
      exact ⟨_, _, .step y2 hp2 h12 hy2 hk2 hl2, .got q1 rest1 (by rw [show (_ : Mach).workers.length = m.workers.length from setW_len]; exact h01) h11 hc1 hg1 hv1, like_mk rfl rfl rfl rfl rfl rfl rfl rfl rfl rfl rfl rfl rfl rfl rfl rfl⟩
    | gave y2 hp2 h12 hy2 hk2 hz2 hl2 =>
      exact absurd ⟨by simp [usesOf], by simp [usesOf]⟩ hu
    | left y2 hp2 h12 hy2 hk2 hz2 hs2 hd2 =>
      exact ⟨_, _, .left y2 hp2 h12 hy2 hk2 hz2 hs2 hd2, .got q1 rest1 (by rw [show (_ : Mach).workers.length = m.workers.length from setW_len]; exact h01) h11 hc1 hg1 hv1, like_mk rfl rfl rfl rfl rfl rfl rfl rfl rfl rfl rfl rfl rfl rfl rfl rfl⟩
    | took y2 q2 rest2 hp2 h12 hy2 hk2 hz2 hq2 =>
      exact ⟨_, _, .took y2 q2 rest2 hp2 h12 hy2 hk2 hz2 hq2, .got q1 rest1 (by rw [show (_ : Mach).workers.length = m.workers.length from setW_len]; exact h01) h11 hc1 hg1 hv1, like_mk rfl rfl rfl rfl rfl rfl rfl rfl rfl rfl rfl rfl rfl rfl rfl rfl⟩
  | quit y1 hp1 h11 hy1 hs1 hk1 =>
    exfalso; revert ha; simp
  | step y1 hp1 h11 hy1 hk1 hl1 =>
    exfalso; revert ha; simp
  | gave y1 hp1 h11 hy1 hk1 hz1 hl1 =>
    exfalso; revert ha; simp
  | left y1 hp1 h11 hy1 hk1 hz1 hs1 hd1 =>
    exfalso; revert ha; simp
  | took y1 q1 rest1 hp1 h11 hy1 hk1 hz1 hq1 =>
    exfalso; revert ha; simp
theorem dia_ww {m m1 m2 : Mach} {x1 x2 : S64} {e1 e2 : Evt} (h1 : Mv m x1 e1 m1) (h2 : Mv m x2 e2 m2) (hne : x1.f0 ≠ x2.f0) (ha : 4 ≤ e1.k ∧ e1.k ≤ 8) (hb : 4 ≤ e2.k ∧ e2.k ≤ 8) (hu : ¬ (usesOf e1.k ≠ 0 ∧ usesOf e1.k = usesOf e2.k)) : Dia m1 m2 x1 x2 e1 e2 := by
  cases h1 with
  | close h01 h11 hd1 hu1 =>
    exfalso; revert ha; simp
  | drop h01 h11 hs1 hd1 hu1 =>
    exfalso; revert ha; simp
  | send h01 h11 hd1 hu1 hl1 =>
    exfalso; revert ha; simp
  | cancel h01 h11 hs1 hc1 =>
    exfalso; revert ha; simp
  | full h01 h11 hc1 hg1 =>
    exfalso; revert ha; simp
  | got q1 rest1 h01 h11 hc1 hg1 hv1 =>
    exfalso; revert ha; simp
  | quit y1 hp1 h11 hy1 hs1 hk1 =>
    cases h2 with
    | close h02 h12 hd2 hu2 =>
      exfalso; revert hb; simp
    | drop h02 h12 hs2 hd2 hu2 =>
      exfalso; revert hb; simp
    | send h02 h12 hd2 hu2 hl2 =>
      exfalso; revert hb; simp
    | cancel h02 h12 hs2 hc2 =>
      exfalso; revert hb; simp
    | full h02 h12 hc2 hg2 =>
      exfalso; revert hb; simp
    | got q2 rest2 h02 h12 hc2 hg2 hv2 =>
      exfalso; revert hb; simp
    | quit y2 hp2 h12 hy2 hs2 hk2 =>
      exact ⟨_, _, .quit y2 ⟨hp2.1, by rw [show (_ : Mach).workers.length = m.workers.length from setW_len]; exact hp2.2⟩ h12 ((wk_set_ne rfl hp1.1 hp2.1 hne).trans hy2) hs2 hk2, .quit y1 ⟨hp1.1, by rw [show (_ : Mach).workers.length = m.workers.length from setW_len]; exact hp1.2⟩ h11 ((wk_set_ne rfl hp2.1 hp1.1 (Ne.symm hne)).trans hy1) hs1 hk1, like_mk rfl rfl rfl rfl rfl rfl rfl rfl (setW_comm rfl rfl hp1.1 hp2.1 hne) rfl rfl rfl rfl rfl rfl rfl⟩
    | step y2 hp2 h12 hy2 hk2 hl2 =>
      exact ⟨_, _, .step y2 ⟨hp2.1, by rw [show (_ : Mach).workers.length = m.workers.length from setW_len]; exact hp2.2⟩ h12 ((wk_set_ne rfl hp1.1 hp2.1 hne).trans hy2) hk2 hl2, .quit y1 ⟨hp1.1, by rw [show (_ : Mach).workers.length = m.workers.length from setW_len]; exact hp1.2⟩ h11 ((wk_set_ne rfl hp2.1 hp1.1 (Ne.symm hne)).trans hy1) hs1 hk1, like_mk rfl rfl rfl rfl rfl rfl rfl rfl (setW_comm rfl rfl hp1.1 hp2.1 hne) rfl rfl rfl rfl rfl rfl rfl⟩
    | gave y2 hp2 h12 hy2 hk2 hz2 hl2 =>
      exact ⟨_, _, .gave y2 ⟨hp2.1, by rw [show (_ : Mach).workers.length = m.workers.length from setW_len]; exact hp2.2⟩ h12 ((wk_set_ne rfl hp1.1 hp2.1 hne).trans hy2) hk2 hz2 hl2, .quit y1 ⟨hp1.1, by rw [show (_ : Mach).workers.length = m.workers.length from setW_len]; exact hp1.2⟩ h11 ((wk_set_ne rfl hp2.1 hp1.1 (Ne.symm hne)).trans hy1) hs1 hk1, like_mk rfl rfl rfl rfl rfl rfl rfl rfl (setW_comm rfl rfl hp1.1 hp2.1 hne) rfl rfl rfl rfl rfl rfl rfl⟩
    | left y2 hp2 h12 hy2 hk2 hz2 hs2 hd2 =>
      exact ⟨_, _, .left y2 ⟨hp2.1, by rw [show (_ : Mach).workers.length = m.workers.length from setW_len]; exact hp2.2⟩ h12 ((wk_set_ne rfl hp1.1 hp2.1 hne).trans hy2) hk2 hz2 hs2 hd2, .quit y1 ⟨hp1.1, by rw [show (_ : Mach).workers.length = m.workers.length from setW_len]; exact hp1.2⟩ h11 ((wk_set_ne rfl hp2.1 hp1.1 (Ne.symm hne)).trans hy1) hs1 hk1, like_mk rfl rfl rfl rfl rfl rfl rfl rfl (setW_comm rfl rfl hp1.1 hp2.1 hne) rfl rfl rfl rfl rfl rfl rfl⟩
    | took y2 q2 rest2 hp2 h12 hy2 hk2 hz2 hq2 =>
      exact ⟨_, _, .took y2 q2 rest2 ⟨hp2.1, by rw [show (_ : Mach).workers.length = m.workers.length from setW_len]; exact hp2.2⟩ h12 ((wk_set_ne rfl hp1.1 hp2.1 hne).trans hy2) hk2 hz2 hq2, .quit y1 ⟨hp1.1, by rw [show (_ : Mach).workers.length = m.workers.length from setW_len]; exact hp1.2⟩ h11 ((wk_set_ne rfl hp2.1 hp1.1 (Ne.symm hne)).trans hy1) hs1 hk1, like_mk rfl rfl rfl rfl rfl rfl rfl rfl (setW_comm rfl rfl hp1.1 hp2.1 hne) rfl rfl rfl rfl rfl rfl rfl⟩
  | step y1 hp1 h11 hy1 hk1 hl1 =>
    cases h2 with
    | close h02 h12 hd2 hu2 =>
      exfalso; revert hb; simp
    | drop h02 h12 hs2 hd2 hu2 =>
      exfalso; revert hb; simp
    | send h02 h12 hd2 hu2 hl2 =>
      exfalso; revert hb; simp
    | cancel h02 h12 hs2 hc2 =>
      exfalso; revert hb; simp
    | full h02 h12 hc2 hg2 =>
      exfalso; revert hb; simp
    | got q2 rest2 h02 h12 hc2 hg2 hv2 =>
      exfalso; revert hb; simp
    | quit y2 hp2 h12 hy2 hs2 hk2 =>
      exact ⟨_, _, .quit y2 ⟨hp2.1, by rw [show (_ : Mach).workers.length = m.workers.length from setW_len]; exact hp2.2⟩ h12 ((wk_set_ne rfl hp1.1 hp2.1 hne).trans hy2) hs2 hk2, .step y1 ⟨hp1.1, by rw [show (_ : Mach).workers.length = m.workers.length from setW_len]; exact hp1.2⟩ h11 ((wk_set_ne rfl hp2.1 hp1.1 (Ne.symm hne)).trans hy1) hk1 hl1, like_mk rfl rfl rfl rfl rfl rfl rfl rfl (setW_comm rfl rfl hp1.1 hp2.1 hne) rfl rfl rfl rfl rfl rfl rfl⟩
    | step y2 hp2 h12 hy2 hk2 hl2 =>
      exact ⟨_, _, .step y2 ⟨hp2.1, by rw [show (_ : Mach).workers.length = m.workers.length from setW_len]; exact hp2.2⟩ h12 ((wk_set_ne rfl hp1.1 hp2.1 hne).trans hy2) hk2 hl2, .step y1 ⟨hp1.1, by rw [show (_ : Mach).workers.length = m.workers.length from setW_len]; exact hp1.2⟩ h11 ((wk_set_ne rfl hp2.1 hp1.1 (Ne.symm hne)).trans hy1) hk1 hl1, like_mk rfl rfl rfl rfl rfl rfl rfl rfl (setW_comm rfl rfl hp1.1 hp2.1 hne) rfl rfl rfl rfl rfl rfl rfl⟩
    | gave y2 hp2 h12 hy2 hk2 hz2 hl2 =>
      exact ⟨_, _, .gave y2 ⟨hp2.1, by rw [show (_ : Mach).workers.length = m.workers.length from setW_len]; exact hp2.2⟩ h12 ((wk_set_ne rfl hp1.1 hp2.1 hne).trans hy2) hk2 hz2 hl2, .step y1 ⟨hp1.1, by rw [show (_ : Mach).workers.length = m.workers.length from setW_len]; exact hp1.2⟩ h11 ((wk_set_ne rfl hp2.1 hp1.1 (Ne.symm hne)).trans hy1) hk1 hl1, like_mk rfl rfl rfl rfl rfl rfl rfl rfl (setW_comm rfl rfl hp1.1 hp2.1 hne) rfl rfl rfl rfl rfl rfl rfl⟩
    | left y2 hp2 h12 hy2 hk2 hz2 hs2 hd2 =>
      exact ⟨_, _, .left y2 ⟨hp2.1, by rw [show (_ : Mach).workers.length = m.workers.length from setW_len]; exact hp2.2⟩ h12 ((wk_set_ne rfl hp1.1 hp2.1 hne).trans hy2) hk2 hz2 hs2 hd2, .step y1 ⟨hp1.1, by rw [show (_ : Mach).workers.length = m.workers.length from setW_len]; exact hp1.2⟩ h11 ((wk_set_ne rfl hp2.1 hp1.1 (Ne.symm hne)).trans hy1) hk1 hl1, like_mk rfl rfl rfl rfl rfl rfl rfl rfl (setW_comm rfl rfl hp1.1 hp2.1 hne) rfl rfl rfl rfl rfl rfl rfl⟩
    | took y2 q2 rest2 hp2 h12 hy2 hk2 hz2 hq2 =>
      exact ⟨_, _, .took y2 q2 rest2 ⟨hp2.1, by rw [show (_ : Mach).workers.length = m.workers.length from setW_len]; exact hp2.2⟩ h12 ((wk_set_ne rfl hp1.1 hp2.1 hne).trans hy2) hk2 hz2 hq2, .step y1 ⟨hp1.1, by rw [show (_ : Mach).workers.length = m.workers.length from setW_len]; exact hp1.2⟩ h11 ((wk_set_ne rfl hp2.1 hp1.1 (Ne.symm hne)).trans hy1) hk1 hl1, like_mk rfl rfl rfl rfl rfl rfl rfl rfl (setW_comm rfl rfl hp1.1 hp2.1 hne) rfl rfl rfl rfl rfl rfl rfl⟩
  | gave y1 hp1 h11 hy1 hk1 hz1 hl1 =>
    cases h2 with
    | close h02 h12 hd2 hu2 =>
      exfalso; revert hb; simp
    | drop h02 h12 hs2 hd2 hu2 =>
      exfalso; revert hb; simp
    | send h02 h12 hd2 hu2 hl2 =>
      exfalso; revert hb; simp
    | cancel h02 h12 hs2 hc2 =>
      exfalso; revert hb; simp
    | full h02 h12 hc2 hg2 =>
      exfalso; revert hb; simp
    | got q2 rest2 h02 h12 hc2 hg2 hv2 =>
      exfalso; revert hb; simp
    | quit y2 hp2 h12 hy2 hs2 hk2 =>
      exact ⟨_, _, .quit y2 ⟨hp2.1, by rw [show (_ : Mach).workers.length = m.workers.length from setW_len]; exact hp2.2⟩ h12 ((wk_set_ne rfl hp1.1 hp2.1 hne).trans hy2) hs2 hk2, .gave y1 ⟨hp1.1, by rw [show (_ : Mach).workers.length = m.workers.length from setW_len]; exact hp1.2⟩ h11 ((wk_set_ne rfl hp2.1 hp1.1 (Ne.symm hne)).trans hy1) hk1 hz1 hl1, like_mk rfl rfl rfl rfl rfl rfl rfl rfl (setW_comm rfl rfl hp1.1 hp2.1 hne) rfl rfl rfl rfl rfl rfl rfl⟩
    | step y2 hp2 h12 hy2 hk2 hl2 =>
      exact ⟨_, _, .step y2 ⟨hp2.1, by rw [show (_ : Mach).workers.length = m.workers.length from setW_len]; exact hp2.2⟩ h12 ((wk_set_ne rfl hp1.1 hp2.1 hne).trans hy2) hk2 hl2, .gave y1 ⟨hp1.1, by rw [show (_ : Mach).workers.length = m.workers.length from setW_len]; exact hp1.2⟩ h11 ((wk_set_ne rfl hp2.1 hp1.1 (Ne.symm hne)).trans hy1) hk1 hz1 hl1, like_mk rfl rfl rfl rfl rfl rfl rfl rfl (setW_comm rfl rfl hp1.1 hp2.1 hne) rfl rfl rfl rfl rfl rfl rfl⟩
    | gave y2 hp2 h12 hy2 hk2 hz2 hl2 =>
      exact absurd ⟨by simp [usesOf], by simp [usesOf]⟩ hu
    | left y2 hp2 h12 hy2 hk2 hz2 hs2 hd2 =>
      exact ⟨_, _, .left y2 ⟨hp2.1, by rw [show (_ : Mach).workers.length = m.workers.length from setW_len]; exact hp2.2⟩ h12 ((wk_set_ne rfl hp1.1 hp2.1 hne).trans hy2) hk2 hz2 hs2 hd2, .gave y1 ⟨hp1.1, by rw [show (_ : Mach).workers.length = m.workers.length from setW_len]; exact hp1.2⟩ h11 ((wk_set_ne rfl hp2.1 hp1.1 (Ne.symm hne)).trans hy1) hk1 hz1 hl1, like_mk rfl rfl rfl rfl rfl rfl rfl rfl (setW_comm rfl rfl hp1.1 hp2.1 hne) rfl rfl rfl rfl rfl rfl rfl⟩
    | took y2 q2 rest2 hp2 h12 hy2 hk2 hz2 hq2 =>
      exact ⟨_, _, .took y2 q2 rest2 ⟨hp2.1, by rw [show (_ : Mach).workers.length = m.workers.length from setW_len]; exact hp2.2⟩ h12 ((wk_set_ne rfl hp1.1 hp2.1 hne).trans hy2) hk2 hz2 hq2, .gave y1 ⟨hp1.1, by rw [show (_ : Mach).workers.length = m.workers.length from setW_len]; exact hp1.2⟩ h11 ((wk_set_ne rfl hp2.1 hp1.1 (Ne.symm hne)).trans hy1) hk1 hz1 hl1, like_mk rfl rfl rfl rfl rfl rfl rfl rfl (setW_comm rfl rfl hp1.1 hp2.1 hne) rfl rfl rfl rfl rfl rfl rfl⟩
  | left y1 hp1 h11 hy1 hk1 hz1 hs1 hd1 =>
    cases h2 with
    | close h02 h12 hd2 hu2 =>
      exfalso; revert hb; simp
    | drop h02 h12 hs2 hd2 hu2 =>
      exfalso; revert hb; simp
    | send h02 h12 hd2 hu2 hl2 =>
      exfalso; revert hb; simp
    | cancel h02 h12 hs2 hc2 =>
      exfalso; revert hb; simp
    | full h02 h12 hc2 hg2 =>
      exfalso; revert hb; simp
    | got q2 rest2 h02 h12 hc2 hg2 hv2 =>
      exfalso; revert hb; simp
    | quit y2 hp2 h12 hy2 hs2 hk2 =>
      exact ⟨_, _, .quit y2 ⟨hp2.1, by rw [show (_ : Mach).workers.length = m.workers.length from setW_len]; exact hp2.2⟩ h12 ((wk_set_ne rfl hp1.1 hp2.1 hne).trans hy2) hs2 hk2, .left y1 ⟨hp1.1, by rw [show (_ : Mach).workers.length = m.workers.length from setW_len]; exact hp1.2⟩ h11 ((wk_set_ne rfl hp2.1 hp1.1 (Ne.symm hne)).trans hy1) hk1 hz1 hs1 hd1, like_mk rfl rfl rfl rfl rfl rfl rfl rfl (setW_comm rfl rfl hp1.1 hp2.1 hne) rfl rfl rfl rfl rfl rfl rfl⟩
    | step y2 hp2 h12 hy2 hk2 hl2 =>
      exact ⟨_, _, .step y2 ⟨hp2.1, by rw [show (_ : Mach).workers.length = m.workers.length from setW_len]; exact hp2.2⟩ h12 ((wk_set_ne rfl hp1.1 hp2.1 hne).trans hy2) hk2 hl2, .left y1 ⟨hp1.1, by rw [show (_ : Mach).workers.length = m.workers.length from setW_len]; exact hp1.2⟩ h11 ((wk_set_ne rfl hp2.1 hp1.1 (Ne.symm hne)).trans hy1) hk1 hz1 hs1 hd1, like_mk rfl rfl rfl rfl rfl rfl rfl rfl (setW_comm rfl rfl hp1.1 hp2.1 hne) rfl rfl rfl rfl rfl rfl rfl⟩
    | gave y2 hp2 h12 hy2 hk2 hz2 hl2 =>
      exact ⟨_, _, .gave y2 ⟨hp2.1, by rw [show (_ : Mach).workers.length = m.workers.length from setW_len]; exact hp2.2⟩ h12 ((wk_set_ne rfl hp1.1 hp2.1 hne).trans hy2) hk2 hz2 hl2, .left y1 ⟨hp1.1, by rw [show (_ : Mach).workers.length = m.workers.length from setW_len]; exact hp1.2⟩ h11 ((wk_set_ne rfl hp2.1 hp1.1 (Ne.symm hne)).trans hy1) hk1 hz1 hs1 hd1, like_mk rfl rfl rfl rfl rfl rfl rfl rfl (setW_comm rfl rfl hp1.1 hp2.1 hne) rfl rfl rfl rfl rfl rfl rfl⟩
    | left y2 hp2 h12 hy2 hk2 hz2 hs2 hd2 =>
      exact absurd ⟨by simp [usesOf], by simp [usesOf]⟩ hu
    | took y2 q2 rest2 hp2 h12 hy2 hk2 hz2 hq2 =>
      exact absurd ⟨by simp [usesOf], by simp [usesOf]⟩ hu
  | took y1 q1 rest1 hp1 h11 hy1 hk1 hz1 hq1 =>
    cases h2 with
    | close h02 h12 hd2 hu2 =>
      exfalso; revert hb; simp
    | drop h02 h12 hs2 hd2 hu2 =>
      exfalso; revert hb; simp
    | send h02 h12 hd2 hu2 hl2 =>
      exfalso; revert hb; simp
    | cancel h02 h12 hs2 hc2 =>
      exfalso; revert hb; simp
    | full h02 h12 hc2 hg2 =>
      exfalso; revert hb; simp
    | got q2 rest2 h02 h12 hc2 hg2 hv2 =>
      exfalso; revert hb; simp
    | quit y2 hp2 h12 hy2 hs2 hk2 =>
      exact ⟨_, _, .quit y2 ⟨hp2.1, by rw [show (_ : Mach).workers.length = m.workers.length from setW_len]; exact hp2.2⟩ h12 ((wk_set_ne rfl hp1.1 hp2.1 hne).trans hy2) hs2 hk2, .took y1 q1 rest1 ⟨hp1.1, by rw [show (_ : Mach).workers.length = m.workers.length from setW_len]; exact hp1.2⟩ h11 ((wk_set_ne rfl hp2.1 hp1.1 (Ne.symm hne)).trans hy1) hk1 hz1 hq1, like_mk rfl rfl rfl rfl rfl rfl rfl rfl (setW_comm rfl rfl hp1.1 hp2.1 hne) rfl rfl rfl rfl rfl rfl rfl⟩
    | step y2 hp2 h12 hy2 hk2 hl2 =>
      exact ⟨_, _, .step y2 ⟨hp2.1, by rw [show (_ : Mach).workers.length = m.workers.length from setW_len]; exact hp2.2⟩ h12 ((wk_set_ne rfl hp1.1 hp2.1 hne).trans hy2) hk2 hl2, .took y1 q1 rest1 ⟨hp1.1, by rw [show (_ : Mach).workers.length = m.workers.length from setW_len]; exact hp1.2⟩ h11 ((wk_set_ne rfl hp2.1 hp1.1 (Ne.symm hne)).trans hy1) hk1 hz1 hq1, like_mk rfl rfl rfl rfl rfl rfl rfl rfl (setW_comm rfl rfl hp1.1 hp2.1 hne) rfl rfl rfl rfl rfl rfl rfl⟩
    | gave y2 hp2 h12 hy2 hk2 hz2 hl2 =>
      exact ⟨_, _, .gave y2 ⟨hp2.1, by rw [show (_ : Mach).workers.length = m.workers.length from setW_len]; exact hp2.2⟩ h12 ((wk_set_ne rfl hp1.1 hp2.1 hne).trans hy2) hk2 hz2 hl2, .took y1 q1 rest1 ⟨hp1.1, by rw [show (_ : Mach).workers.length = m.workers.length from setW_len]; exact hp1.2⟩ h11 ((wk_set_ne rfl hp2.1 hp1.1 (Ne.symm hne)).trans hy1) hk1 hz1 hq1, like_mk rfl rfl rfl rfl rfl rfl rfl rfl (setW_comm rfl rfl hp1.1 hp2.1 hne) rfl rfl rfl rfl rfl rfl rfl⟩
    | left y2 hp2 h12 hy2 hk2 hz2 hs2 hd2 =>
      exact absurd ⟨by simp [usesOf], by simp [usesOf]⟩ hu
    | took y2 q2 rest2 hp2 h12 hy2 hk2 hz2 hq2 =>
      exact absurd ⟨by simp [usesOf], by simp [usesOf]⟩ hu
theorem mv_group {m m' : Mach} {x : S64} {e : Evt} (h : Mv m x e m') : (x.f0 = 0 ∧ (e.k = 1 ∨ e.k = 2 ∨ e.k = 3)) ∨ (x.f0 = m.workers.length + 1 ∧ (e.k = 9 ∨ e.k = 10 ∨ e.k = 11)) ∨ (4 ≤ e.k ∧ e.k ≤ 8) := by
  cases h with
  | close h0 h1 hd hu => exact .inl ⟨h0, by simp⟩
  | drop h0 h1 hs hd hu => exact .inl ⟨h0, by simp⟩
  | send h0 h1 hd hu hl => exact .inl ⟨h0, by simp⟩
  | cancel h0 h1 hs hc => exact .inr (.inl ⟨h0, by simp⟩)
  | full h0 h1 hc hg => exact .inr (.inl ⟨h0, by simp⟩)
  | got q rest h0 h1 hc hg hv => exact .inr (.inl ⟨h0, by simp⟩)
  | quit y hp h1 hy hs hk => exact .inr (.inr (by simp))
  | step y hp h1 hy hk hl => exact .inr (.inr (by simp))
  | gave y hp h1 hy hk hz hl => exact .inr (.inr (by simp))
  | left y hp h1 hy hk hz hs hd => exact .inr (.inr (by simp))
  | took y q rest hp h1 hy hk hz hq => exact .inr (.inr (by simp))
theorem dia {m m1 m2 : Mach} {x1 x2 : S64} {e1 e2 : Evt} (h1 : Mv m x1 e1 m1) (h2 : Mv m x2 e2 m2) (hne : x1.f0 ≠ x2.f0) (hu : ¬ (usesOf e1.k ≠ 0 ∧ usesOf e1.k = usesOf e2.k)) : Dia m1 m2 x1 x2 e1 e2 := by
  have hu' : ¬ (usesOf e2.k ≠ 0 ∧ usesOf e2.k = usesOf e1.k) := fun ⟨a, b⟩ => hu ⟨by rw [← b]; exact a, b.symm⟩
  rcases mv_group h1 with ⟨g1, k1⟩ | ⟨g1, k1⟩ | k1 <;> rcases mv_group h2 with ⟨g2, k2⟩ | ⟨g2, k2⟩ | k2
  · exact absurd (g1.trans g2.symm) hne
  · exact dia_dc h1 h2 hne k1 k2 hu
  · exact dia_dw h1 h2 hne k1 k2 hu
  · exact (dia_dc h2 h1 (Ne.symm hne) k2 k1 hu').swap
  · exact absurd (g1.trans g2.symm) hne
  · exact dia_cw h1 h2 hne k1 k2 hu
  · exact (dia_dw h2 h1 (Ne.symm hne) k2 k1 hu').swap
  · exact (dia_cw h2 h1 (Ne.symm hne) k2 k1 hu').swap
  · exact dia_ww h1 h2 hne k1 k2 hu
/-- What a move's event tells of who moved. -/
theorem ev_proc {m : Mach} {x : S64} (hx : x ∈ mvs m) : (evOf m x).p = x.f0 := by
  have h := mv_of_mem hx
  revert h
  generalize evOf m x = e
  generalize Sc.step m x = m'
  intro h
  cases h with
  | close h0 h1 hd hu => exact h0.symm
  | drop h0 h1 hs hd hu => exact h0.symm
  | send h0 h1 hd hu hl => exact h0.symm
  | cancel h0 h1 hs hc => rfl
  | full h0 h1 hc hg => rfl
  | got q rest h0 h1 hc hg hv => rfl
  | quit y hp h1 hy hs hk => rfl
  | step y hp h1 hy hk hl => rfl
  | gave y hp h1 hy hk hz hl => rfl
  | left y hp h1 hy hk hz hs hd => rfl
  | took y q rest hp h1 hy hk hz hq => rfl
theorem side {m : Mach} {a b : S64} (ha : a ∈ mvs m) (hb : b ∈ mvs m) (hne : a.f0 ≠ b.f0) (hu : ¬ (usesOf (evOf m a).k ≠ 0 ∧ usesOf (evOf m a).k = usesOf (evOf m b).k)) : b ∈ mvs (Sc.step m a) ∧ evOf (Sc.step m a) b = evOf m b ∧ a ∈ mvs (Sc.step m b) ∧ evOf (Sc.step m b) a = evOf m a ∧ Like (Sc.step (Sc.step m a) b) (Sc.step (Sc.step m b) a) := by
  obtain ⟨m12, m21, h1, h2, h3⟩ := dia (mv_of_mem ha) (mv_of_mem hb) hne hu
  obtain ⟨b1, b2, b3⟩ := mem_of_mv h1
  obtain ⟨c1, c2, c3⟩ := mem_of_mv h2
  exact ⟨b1, b2, c1, c2, by rw [b3, c3]; exact h3⟩
end Go.Proofs.Ythcchpbidbbiaaa.Sc
namespace Go.Proofs.Ythcchpbidbbiaaa.Sc
open Go.RowKit Go.Proofs.YthcchpbidbbiaaaW.PrintWords Go.Proofs.YthcchpbidbbiaaaW.PrintLast Go.Proofs.YthcchpbidbbiaaaW.PrintMore Go.Proofs.Ythcchpbidbbiaaa.PSchedSide
open Go.Proofs.Ythcchpbidbbiaaa.PSchedOnce (S48 k48 rd_T48 at_T48)
set_option linter.unusedVariables false
set_option linter.unusedSimpArgs false
/-- May this event come? (pw workers; l: the jobs' lives.) -/
def FolOk (pw : Int) (js : List Int) (l : List S48) (k p j s : Int) : Prop :=
  (k ≠ 1 ∧ k ≠ 4 ∧ k ≠ 5 ∧ k ≠ 6 ∧ k ≠ 9 ∧ k ≠ 8 ∧ j = -1 ∧ s = 0) ∨
  (k = 8 ∧ 1 ≤ p ∧ p < pw + 1 ∧ j = -1 ∧ s = 0) ∨
  (k = 8 ∧ 1 ≤ p ∧ p < pw + 1 ∧ s = 0 ∧ (0 ≤ j ∧ j < js.length) ∧ (rd_T48 l j).f0 = 2 ∧ (rd_T48 l j).f1 = p) ∨
  (k = 1 ∧ p = 0 ∧ s = 0 ∧ (0 ≤ j ∧ j < js.length) ∧ (rd_T48 l j).f0 = 0) ∨
  (k = 4 ∧ 1 ≤ p ∧ p < pw + 1 ∧ s = 0 ∧ (0 ≤ j ∧ j < js.length) ∧ (rd_T48 l j).f0 = 1) ∨
  (k = 5 ∧ 1 ≤ p ∧ p < pw + 1 ∧ (0 ≤ j ∧ j < js.length) ∧ (rd_T48 l j).f0 = 2 ∧ (rd_T48 l j).f1 = p ∧ s = (rd_T48 l j).f2 ∧ (rd_T48 l j).f2 < rd js j) ∨
  (k = 6 ∧ 1 ≤ p ∧ p < pw + 1 ∧ s = 0 ∧ (0 ≤ j ∧ j < js.length) ∧ (rd_T48 l j).f0 = 2 ∧ (rd_T48 l j).f1 = p ∧ (rd_T48 l j).f2 = rd js j) ∨
  (k = 9 ∧ p = pw + 1 ∧ s = 0 ∧ (0 ≤ j ∧ j < js.length) ∧ (rd_T48 l j).f0 = 3)
set_option maxHeartbeats 8000000 in
set_option maxRecDepth 1000000 in
theorem follows_other (pw pj pr : Int) (A1 : Option Addr) (c1 : Nat) (l1 : List Int) (A2 : Option Addr) (c2 : Nat) (l2 : List S48) (w : World) (hpw : 1 ≤ pw ∧ pw ≤ 8) (hC1 : Kd.C (Kd.int .i64) w A1 l1.length l1) (hC2 : Kd.C k48 w A2 l2.length l2) (hll : l2.length = l1.length) (k p : Int) (h1 : k ≠ 1) (h4 : k ≠ 4) (h5 : k ≠ 5) (h6 : k ≠ 6) (h9 : k ≠ 9) (h8 : k ≠ 8) : Calls Try.prog 21 #[.agg #[.int .i64 pw, .int .i64 pj, .int .i64 pr], .slice A1 l1.length c1, .slice A2 l2.length c2, .agg #[.int .i64 k, .int .i64 p, .int .i64 (-1), .int .i64 0]] w fun e w' => e = .returned (.bool true) ∧ Below w.heap.size w w' := by
  have HB := Aside0.mk (below_alloc (below_alloc (Below.refl w.heap.size w) (.cells #[.int .i64 pw, .int .i64 pj, .int .i64 pr] 23)) (.cells #[.int .i64 k, .int .i64 p, .int .i64 (-1), .int .i64 0] 42))
  have HP := Aside0.mk (blk_alloc (heap_alloc_new w (.cells #[.int .i64 pw, .int .i64 pj, .int .i64 pr] 23)) (.cells #[.int .i64 k, .int .i64 p, .int .i64 (-1), .int .i64 0] 42))
  have HE := Aside0.mk (heap_alloc_new (w.alloc (.cells #[.int .i64 pw, .int .i64 pj, .int .i64 pr] 23)) (.cells #[.int .i64 k, .int .i64 p, .int .i64 (-1), .int .i64 0] 42))
  have q1 := beq_eq_false_iff_ne.mpr h1
  have q4 := beq_eq_false_iff_ne.mpr h4
  have q5 := beq_eq_false_iff_ne.mpr h5
  have q6 := beq_eq_false_iff_ne.mpr h6
  have q9 := beq_eq_false_iff_ne.mpr h9
  have q8 := beq_eq_false_iff_ne.mpr h8
  have r1 := eq_false h1
  have r4 := eq_false h4
  have r5 := eq_false h5
  have r6 := eq_false h6
  have r9 := eq_false h9
  have r8 := eq_false h8
  clear h1 h4 h5 h6 h9 h8 hC1 hC2 hll
  go_enter Try.func21, Try.ntmps21
  go_wp2
  go_ret
  exact ⟨rfl, HB.out⟩
set_option maxHeartbeats 8000000 in
set_option maxRecDepth 1000000 in
theorem follows_quit0 (pw pj pr : Int) (A1 : Option Addr) (c1 : Nat) (l1 : List Int) (A2 : Option Addr) (c2 : Nat) (l2 : List S48) (w : World) (hpw : 1 ≤ pw ∧ pw ≤ 8) (hC1 : Kd.C (Kd.int .i64) w A1 l1.length l1) (hC2 : Kd.C k48 w A2 l2.length l2) (hll : l2.length = l1.length) (p : Int) (hp1 : 1 ≤ p) (hp2 : p < pw + 1) : Calls Try.prog 21 #[.agg #[.int .i64 pw, .int .i64 pj, .int .i64 pr], .slice A1 l1.length c1, .slice A2 l2.length c2, .agg #[.int .i64 8, .int .i64 p, .int .i64 (-1), .int .i64 0]] w fun e w' => e = .returned (.bool true) ∧ Below w.heap.size w w' := by
  have HB := Aside0.mk (below_alloc (below_alloc (Below.refl w.heap.size w) (.cells #[.int .i64 pw, .int .i64 pj, .int .i64 pr] 23)) (.cells #[.int .i64 8, .int .i64 p, .int .i64 (-1), .int .i64 0] 42))
  have HP := Aside0.mk (blk_alloc (heap_alloc_new w (.cells #[.int .i64 pw, .int .i64 pj, .int .i64 pr] 23)) (.cells #[.int .i64 8, .int .i64 p, .int .i64 (-1), .int .i64 0] 42))
  have HE := Aside0.mk (heap_alloc_new (w.alloc (.cells #[.int .i64 pw, .int .i64 pj, .int .i64 pr] 23)) (.cells #[.int .i64 8, .int .i64 p, .int .i64 (-1), .int .i64 0] 42))
  have t1 : decide (1 ≤ p) = true := decide_eq_true hp1
  have t2 := eq_true hp1
  have t3 : decide (p < pw + 1) = true := decide_eq_true hp2
  have t4 := eq_true hp2
  clear hp1 hp2 hC1 hC2 hll
  go_enter Try.func21, Try.ntmps21
  go_wp2
  go_ret
  exact ⟨rfl, HB.out⟩
set_option maxHeartbeats 8000000 in
set_option maxRecDepth 1000000 in
theorem follows_sent (pw pj pr : Int) (A1 : Option Addr) (c1 : Nat) (l1 : List Int) (A2 : Option Addr) (c2 : Nat) (l2 : List S48) (w : World) (hpw : 1 ≤ pw ∧ pw ≤ 8) (hC1 : Kd.C (Kd.int .i64) w A1 l1.length l1) (hC2 : Kd.C k48 w A2 l2.length l2) (hll : l2.length = l1.length) (j : Int) (hj : 0 ≤ j ∧ j < l1.length) (y1 y2 : Int) (hl : rd_T48 l2 j = ⟨0, y1, y2⟩) : Calls Try.prog 21 #[.agg #[.int .i64 pw, .int .i64 pj, .int .i64 pr], .slice A1 l1.length c1, .slice A2 l2.length c2, .agg #[.int .i64 1, .int .i64 0, .int .i64 j, .int .i64 0]] w fun e w' => e = .returned (.bool true) ∧ Below w.heap.size w w' := by
  have HB := Aside0.mk (below_alloc (below_alloc (Below.refl w.heap.size w) (.cells #[.int .i64 pw, .int .i64 pj, .int .i64 pr] 23)) (.cells #[.int .i64 1, .int .i64 0, .int .i64 j, .int .i64 0] 42))
  have HP := Aside0.mk (blk_alloc (heap_alloc_new w (.cells #[.int .i64 pw, .int .i64 pj, .int .i64 pr] 23)) (.cells #[.int .i64 1, .int .i64 0, .int .i64 j, .int .i64 0] 42))
  have HE := Aside0.mk (heap_alloc_new (w.alloc (.cells #[.int .i64 pw, .int .i64 pj, .int .i64 pr] 23)) (.cells #[.int .i64 1, .int .i64 0, .int .i64 j, .int .i64 0] 42))
  obtain ⟨W2, hW2⟩ : ∃ W, (w.alloc (.cells #[.int .i64 pw, .int .i64 pj, .int .i64 pr] 23)).alloc (.cells #[.int .i64 1, .int .i64 0, .int .i64 j, .int .i64 0] 42) = W := ⟨_, rfl⟩
  obtain ⟨b7, hb7⟩ : ∃ b, (w.alloc (.cells #[.int .i64 pw, .int .i64 pj, .int .i64 pr] 23)).heap.size = b := ⟨_, rfl⟩
  rw [hW2] at HB HP HE
  rw [hb7] at HE
  obtain ⟨a2, ea2, y0, y1, y2⟩ := at_T48 hC2 j hj.1 (by omega)
  subst ea2
  rw [hl] at y0 y1 y2
  simp only [] at y0 y1 y2
  have HY := Aside0.mk (And.intro (pw_cell_below HB.out y0) (And.intro (pw_cell_below HB.out y1) (pw_cell_below HB.out y2)))
  clear y0 y1 y2
  have j1 := eq_true hj.1
  have j2 : decide (j < (l1.length : Int)) = true := decide_eq_true hj.2
  have j3 := eq_true hj.2
  have j4 : decide (j < 0) = false := decide_eq_false (by omega)
  have j5 : decide ((l1.length : Int) ≤ j) = false := decide_eq_false (by omega)
  have j6 := eq_false (show ¬ (l1.length : Int) ≤ j by omega)
  have j7 := eq_true (show j < (l2.length : Int) by omega)
  have j8 := eq_false (show ¬ j < 0 by omega)
  have j9 : decide (0 ≤ j) = true := decide_eq_true hj.1
  obtain ⟨z0, z1, z2⟩ := HY.out
  have d0 : W2.cell? ⟨w.heap.size, 0, none⟩ = some (.int .i64 pw) := (blk_cell HP.out 0).trans rfl
  have e0 : W2.cell? ⟨b7, 0, none⟩ = some (.int .i64 1) := (blk_cell HE.out 0).trans rfl
  have e1 : W2.cell? ⟨b7, 1, none⟩ = some (.int .i64 0) := (blk_cell HE.out 1).trans rfl
  have e2 : W2.cell? ⟨b7, 2, none⟩ = some (.int .i64 j) := (blk_cell HE.out 2).trans rfl
  have e3 : W2.cell? ⟨b7, 3, none⟩ = some (.int .i64 0) := (blk_cell HE.out 3).trans rfl
  have HB3 := Aside0.mk (below_alloc HB.out (.cells #[.int .i64 0, .int .i64 y1, .int .i64 y2] 48))
  have HP3 := Aside0.mk (blk_alloc HP.out (.cells #[.int .i64 0, .int .i64 y1, .int .i64 y2] 48))
  have HE3 := Aside0.mk (blk_alloc HE.out (.cells #[.int .i64 0, .int .i64 y1, .int .i64 y2] 48))
  have HN3 := Aside0.mk (heap_alloc_new W2 (.cells #[.int .i64 0, .int .i64 y1, .int .i64 y2] 48))
  obtain ⟨W3, hW3⟩ : ∃ W, W2.alloc (.cells #[.int .i64 0, .int .i64 y1, .int .i64 y2] 48) = W := ⟨_, rfl⟩
  obtain ⟨b12, hb12⟩ : ∃ b, W2.heap.size = b := ⟨_, rfl⟩
  rw [hW3] at HB3 HP3 HE3 HN3
  rw [hb12] at HN3
  have f0 : W3.cell? ⟨w.heap.size, 0, none⟩ = some (.int .i64 pw) := (blk_cell HP3.out 0).trans rfl
  have g0 : W3.cell? ⟨b7, 0, none⟩ = some (.int .i64 1) := (blk_cell HE3.out 0).trans rfl
  have g1 : W3.cell? ⟨b7, 1, none⟩ = some (.int .i64 0) := (blk_cell HE3.out 1).trans rfl
  have g2 : W3.cell? ⟨b7, 2, none⟩ = some (.int .i64 j) := (blk_cell HE3.out 2).trans rfl
  have g3 : W3.cell? ⟨b7, 3, none⟩ = some (.int .i64 0) := (blk_cell HE3.out 3).trans rfl
  have i0 : W3.cell? ⟨b12, 0, none⟩ = some (.int .i64 0) := (blk_cell HN3.out 0).trans rfl
  have i1 : W3.cell? ⟨b12, 1, none⟩ = some (.int .i64 y1) := (blk_cell HN3.out 1).trans rfl
  have i2 : W3.cell? ⟨b12, 2, none⟩ = some (.int .i64 y2) := (blk_cell HN3.out 2).trans rfl
  skip
  clear HP HE HP3 HE3 HN3 HY hC1 hC2 hll hj
  go_enter Try.func21, Try.ntmps21
  go_wp2
  go_ret
  exact ⟨rfl, HB3.out⟩
set_option maxHeartbeats 8000000 in
set_option maxRecDepth 1000000 in
theorem follows_took (pw pj pr : Int) (A1 : Option Addr) (c1 : Nat) (l1 : List Int) (A2 : Option Addr) (c2 : Nat) (l2 : List S48) (w : World) (hpw : 1 ≤ pw ∧ pw ≤ 8) (hC1 : Kd.C (Kd.int .i64) w A1 l1.length l1) (hC2 : Kd.C k48 w A2 l2.length l2) (hll : l2.length = l1.length) (j : Int) (hj : 0 ≤ j ∧ j < l1.length) (p y1 y2 : Int) (hp1 : 1 ≤ p) (hp2 : p < pw + 1) (hl : rd_T48 l2 j = ⟨1, y1, y2⟩) : Calls Try.prog 21 #[.agg #[.int .i64 pw, .int .i64 pj, .int .i64 pr], .slice A1 l1.length c1, .slice A2 l2.length c2, .agg #[.int .i64 4, .int .i64 p, .int .i64 j, .int .i64 0]] w fun e w' => e = .returned (.bool true) ∧ Below w.heap.size w w' := by
  have HB := Aside0.mk (below_alloc (below_alloc (Below.refl w.heap.size w) (.cells #[.int .i64 pw, .int .i64 pj, .int .i64 pr] 23)) (.cells #[.int .i64 4, .int .i64 p, .int .i64 j, .int .i64 0] 42))
  have HP := Aside0.mk (blk_alloc (heap_alloc_new w (.cells #[.int .i64 pw, .int .i64 pj, .int .i64 pr] 23)) (.cells #[.int .i64 4, .int .i64 p, .int .i64 j, .int .i64 0] 42))
  have HE := Aside0.mk (heap_alloc_new (w.alloc (.cells #[.int .i64 pw, .int .i64 pj, .int .i64 pr] 23)) (.cells #[.int .i64 4, .int .i64 p, .int .i64 j, .int .i64 0] 42))
  obtain ⟨W2, hW2⟩ : ∃ W, (w.alloc (.cells #[.int .i64 pw, .int .i64 pj, .int .i64 pr] 23)).alloc (.cells #[.int .i64 4, .int .i64 p, .int .i64 j, .int .i64 0] 42) = W := ⟨_, rfl⟩
  obtain ⟨b7, hb7⟩ : ∃ b, (w.alloc (.cells #[.int .i64 pw, .int .i64 pj, .int .i64 pr] 23)).heap.size = b := ⟨_, rfl⟩
  rw [hW2] at HB HP HE
  rw [hb7] at HE
  obtain ⟨a2, ea2, y0, y1, y2⟩ := at_T48 hC2 j hj.1 (by omega)
  subst ea2
  rw [hl] at y0 y1 y2
  simp only [] at y0 y1 y2
  have HY := Aside0.mk (And.intro (pw_cell_below HB.out y0) (And.intro (pw_cell_below HB.out y1) (pw_cell_below HB.out y2)))
  clear y0 y1 y2
  have j1 := eq_true hj.1
  have j2 : decide (j < (l1.length : Int)) = true := decide_eq_true hj.2
  have j3 := eq_true hj.2
  have j4 : decide (j < 0) = false := decide_eq_false (by omega)
  have j5 : decide ((l1.length : Int) ≤ j) = false := decide_eq_false (by omega)
  have j6 := eq_false (show ¬ (l1.length : Int) ≤ j by omega)
  have j7 := eq_true (show j < (l2.length : Int) by omega)
  have j8 := eq_false (show ¬ j < 0 by omega)
  have j9 : decide (0 ≤ j) = true := decide_eq_true hj.1
  have t1 : decide (1 ≤ p) = true := decide_eq_true hp1
  have t2 := eq_true hp1
  have t3 : decide (p < pw + 1) = true := decide_eq_true hp2
  have t4 := eq_true hp2
  obtain ⟨z0, z1, z2⟩ := HY.out
  have d0 : W2.cell? ⟨w.heap.size, 0, none⟩ = some (.int .i64 pw) := (blk_cell HP.out 0).trans rfl
  have e0 : W2.cell? ⟨b7, 0, none⟩ = some (.int .i64 4) := (blk_cell HE.out 0).trans rfl
  have e1 : W2.cell? ⟨b7, 1, none⟩ = some (.int .i64 p) := (blk_cell HE.out 1).trans rfl
  have e2 : W2.cell? ⟨b7, 2, none⟩ = some (.int .i64 j) := (blk_cell HE.out 2).trans rfl
  have e3 : W2.cell? ⟨b7, 3, none⟩ = some (.int .i64 0) := (blk_cell HE.out 3).trans rfl
  have HB3 := Aside0.mk (below_alloc HB.out (.cells #[.int .i64 1, .int .i64 y1, .int .i64 y2] 48))
  have HP3 := Aside0.mk (blk_alloc HP.out (.cells #[.int .i64 1, .int .i64 y1, .int .i64 y2] 48))
  have HE3 := Aside0.mk (blk_alloc HE.out (.cells #[.int .i64 1, .int .i64 y1, .int .i64 y2] 48))
  have HN3 := Aside0.mk (heap_alloc_new W2 (.cells #[.int .i64 1, .int .i64 y1, .int .i64 y2] 48))
  obtain ⟨W3, hW3⟩ : ∃ W, W2.alloc (.cells #[.int .i64 1, .int .i64 y1, .int .i64 y2] 48) = W := ⟨_, rfl⟩
  obtain ⟨b12, hb12⟩ : ∃ b, W2.heap.size = b := ⟨_, rfl⟩
  rw [hW3] at HB3 HP3 HE3 HN3
  rw [hb12] at HN3
  have f0 : W3.cell? ⟨w.heap.size, 0, none⟩ = some (.int .i64 pw) := (blk_cell HP3.out 0).trans rfl
  have g0 : W3.cell? ⟨b7, 0, none⟩ = some (.int .i64 4) := (blk_cell HE3.out 0).trans rfl
  have g1 : W3.cell? ⟨b7, 1, none⟩ = some (.int .i64 p) := (blk_cell HE3.out 1).trans rfl
  have g2 : W3.cell? ⟨b7, 2, none⟩ = some (.int .i64 j) := (blk_cell HE3.out 2).trans rfl
  have g3 : W3.cell? ⟨b7, 3, none⟩ = some (.int .i64 0) := (blk_cell HE3.out 3).trans rfl
  have i0 : W3.cell? ⟨b12, 0, none⟩ = some (.int .i64 1) := (blk_cell HN3.out 0).trans rfl
  have i1 : W3.cell? ⟨b12, 1, none⟩ = some (.int .i64 y1) := (blk_cell HN3.out 1).trans rfl
  have i2 : W3.cell? ⟨b12, 2, none⟩ = some (.int .i64 y2) := (blk_cell HN3.out 2).trans rfl
  skip
  clear HP HE HP3 HE3 HN3 HY hC1 hC2 hll hj
  go_enter Try.func21, Try.ntmps21
  go_wp2
  go_ret
  exact ⟨rfl, HB3.out⟩
set_option maxHeartbeats 8000000 in
set_option maxRecDepth 1000000 in
theorem follows_got (pw pj pr : Int) (A1 : Option Addr) (c1 : Nat) (l1 : List Int) (A2 : Option Addr) (c2 : Nat) (l2 : List S48) (w : World) (hpw : 1 ≤ pw ∧ pw ≤ 8) (hC1 : Kd.C (Kd.int .i64) w A1 l1.length l1) (hC2 : Kd.C k48 w A2 l2.length l2) (hll : l2.length = l1.length) (j : Int) (hj : 0 ≤ j ∧ j < l1.length) (y1 y2 : Int) (hl : rd_T48 l2 j = ⟨3, y1, y2⟩) : Calls Try.prog 21 #[.agg #[.int .i64 pw, .int .i64 pj, .int .i64 pr], .slice A1 l1.length c1, .slice A2 l2.length c2, .agg #[.int .i64 9, .int .i64 (pw + 1), .int .i64 j, .int .i64 0]] w fun e w' => e = .returned (.bool true) ∧ Below w.heap.size w w' := by
  have HB := Aside0.mk (below_alloc (below_alloc (Below.refl w.heap.size w) (.cells #[.int .i64 pw, .int .i64 pj, .int .i64 pr] 23)) (.cells #[.int .i64 9, .int .i64 (pw + 1), .int .i64 j, .int .i64 0] 42))
  have HP := Aside0.mk (blk_alloc (heap_alloc_new w (.cells #[.int .i64 pw, .int .i64 pj, .int .i64 pr] 23)) (.cells #[.int .i64 9, .int .i64 (pw + 1), .int .i64 j, .int .i64 0] 42))
  have HE := Aside0.mk (heap_alloc_new (w.alloc (.cells #[.int .i64 pw, .int .i64 pj, .int .i64 pr] 23)) (.cells #[.int .i64 9, .int .i64 (pw + 1), .int .i64 j, .int .i64 0] 42))
  obtain ⟨W2, hW2⟩ : ∃ W, (w.alloc (.cells #[.int .i64 pw, .int .i64 pj, .int .i64 pr] 23)).alloc (.cells #[.int .i64 9, .int .i64 (pw + 1), .int .i64 j, .int .i64 0] 42) = W := ⟨_, rfl⟩
  obtain ⟨b7, hb7⟩ : ∃ b, (w.alloc (.cells #[.int .i64 pw, .int .i64 pj, .int .i64 pr] 23)).heap.size = b := ⟨_, rfl⟩
  rw [hW2] at HB HP HE
  rw [hb7] at HE
  obtain ⟨a2, ea2, y0, y1, y2⟩ := at_T48 hC2 j hj.1 (by omega)
  subst ea2
  rw [hl] at y0 y1 y2
  simp only [] at y0 y1 y2
  have HY := Aside0.mk (And.intro (pw_cell_below HB.out y0) (And.intro (pw_cell_below HB.out y1) (pw_cell_below HB.out y2)))
  clear y0 y1 y2
  have j1 := eq_true hj.1
  have j2 : decide (j < (l1.length : Int)) = true := decide_eq_true hj.2
  have j3 := eq_true hj.2
  have j4 : decide (j < 0) = false := decide_eq_false (by omega)
  have j5 : decide ((l1.length : Int) ≤ j) = false := decide_eq_false (by omega)
  have j6 := eq_false (show ¬ (l1.length : Int) ≤ j by omega)
  have j7 := eq_true (show j < (l2.length : Int) by omega)
  have j8 := eq_false (show ¬ j < 0 by omega)
  have j9 : decide (0 ≤ j) = true := decide_eq_true hj.1
  obtain ⟨z0, z1, z2⟩ := HY.out
  have d0 : W2.cell? ⟨w.heap.size, 0, none⟩ = some (.int .i64 pw) := (blk_cell HP.out 0).trans rfl
  have e0 : W2.cell? ⟨b7, 0, none⟩ = some (.int .i64 9) := (blk_cell HE.out 0).trans rfl
  have e1 : W2.cell? ⟨b7, 1, none⟩ = some (.int .i64 (pw + 1)) := (blk_cell HE.out 1).trans rfl
  have e2 : W2.cell? ⟨b7, 2, none⟩ = some (.int .i64 j) := (blk_cell HE.out 2).trans rfl
  have e3 : W2.cell? ⟨b7, 3, none⟩ = some (.int .i64 0) := (blk_cell HE.out 3).trans rfl
  have HB3 := Aside0.mk (below_alloc HB.out (.cells #[.int .i64 3, .int .i64 y1, .int .i64 y2] 48))
  have HP3 := Aside0.mk (blk_alloc HP.out (.cells #[.int .i64 3, .int .i64 y1, .int .i64 y2] 48))
  have HE3 := Aside0.mk (blk_alloc HE.out (.cells #[.int .i64 3, .int .i64 y1, .int .i64 y2] 48))
  have HN3 := Aside0.mk (heap_alloc_new W2 (.cells #[.int .i64 3, .int .i64 y1, .int .i64 y2] 48))
  obtain ⟨W3, hW3⟩ : ∃ W, W2.alloc (.cells #[.int .i64 3, .int .i64 y1, .int .i64 y2] 48) = W := ⟨_, rfl⟩
  obtain ⟨b12, hb12⟩ : ∃ b, W2.heap.size = b := ⟨_, rfl⟩
  rw [hW3] at HB3 HP3 HE3 HN3
  rw [hb12] at HN3
  have f0 : W3.cell? ⟨w.heap.size, 0, none⟩ = some (.int .i64 pw) := (blk_cell HP3.out 0).trans rfl
  have g0 : W3.cell? ⟨b7, 0, none⟩ = some (.int .i64 9) := (blk_cell HE3.out 0).trans rfl
  have g1 : W3.cell? ⟨b7, 1, none⟩ = some (.int .i64 (pw + 1)) := (blk_cell HE3.out 1).trans rfl
  have g2 : W3.cell? ⟨b7, 2, none⟩ = some (.int .i64 j) := (blk_cell HE3.out 2).trans rfl
  have g3 : W3.cell? ⟨b7, 3, none⟩ = some (.int .i64 0) := (blk_cell HE3.out 3).trans rfl
  have i0 : W3.cell? ⟨b12, 0, none⟩ = some (.int .i64 3) := (blk_cell HN3.out 0).trans rfl
  have i1 : W3.cell? ⟨b12, 1, none⟩ = some (.int .i64 y1) := (blk_cell HN3.out 1).trans rfl
  have i2 : W3.cell? ⟨b12, 2, none⟩ = some (.int .i64 y2) := (blk_cell HN3.out 2).trans rfl
  skip
  clear HP HE HP3 HE3 HN3 HY hC1 hC2 hll hj
  go_enter Try.func21, Try.ntmps21
  go_wp2
  go_ret
  exact ⟨rfl, HB3.out⟩
set_option maxHeartbeats 8000000 in
set_option maxRecDepth 1000000 in
theorem follows_step (pw pj pr : Int) (A1 : Option Addr) (c1 : Nat) (l1 : List Int) (A2 : Option Addr) (c2 : Nat) (l2 : List S48) (w : World) (hpw : 1 ≤ pw ∧ pw ≤ 8) (hC1 : Kd.C (Kd.int .i64) w A1 l1.length l1) (hC2 : Kd.C k48 w A2 l2.length l2) (hll : l2.length = l1.length) (j : Int) (hj : 0 ≤ j ∧ j < l1.length) (p y2 x : Int) (hp1 : 1 ≤ p) (hp2 : p < pw + 1) (hl : rd_T48 l2 j = ⟨2, p, y2⟩) (hx : rd l1 j = x) (hlt : y2 < x) : Calls Try.prog 21 #[.agg #[.int .i64 pw, .int .i64 pj, .int .i64 pr], .slice A1 l1.length c1, .slice A2 l2.length c2, .agg #[.int .i64 5, .int .i64 p, .int .i64 j, .int .i64 y2]] w fun e w' => e = .returned (.bool true) ∧ Below w.heap.size w w' := by
  have HB := Aside0.mk (below_alloc (below_alloc (Below.refl w.heap.size w) (.cells #[.int .i64 pw, .int .i64 pj, .int .i64 pr] 23)) (.cells #[.int .i64 5, .int .i64 p, .int .i64 j, .int .i64 y2] 42))
  have HP := Aside0.mk (blk_alloc (heap_alloc_new w (.cells #[.int .i64 pw, .int .i64 pj, .int .i64 pr] 23)) (.cells #[.int .i64 5, .int .i64 p, .int .i64 j, .int .i64 y2] 42))
  have HE := Aside0.mk (heap_alloc_new (w.alloc (.cells #[.int .i64 pw, .int .i64 pj, .int .i64 pr] 23)) (.cells #[.int .i64 5, .int .i64 p, .int .i64 j, .int .i64 y2] 42))
  obtain ⟨W2, hW2⟩ : ∃ W, (w.alloc (.cells #[.int .i64 pw, .int .i64 pj, .int .i64 pr] 23)).alloc (.cells #[.int .i64 5, .int .i64 p, .int .i64 j, .int .i64 y2] 42) = W := ⟨_, rfl⟩
  obtain ⟨b7, hb7⟩ : ∃ b, (w.alloc (.cells #[.int .i64 pw, .int .i64 pj, .int .i64 pr] 23)).heap.size = b := ⟨_, rfl⟩
  rw [hW2] at HB HP HE
  rw [hb7] at HE
  obtain ⟨a2, ea2, y0, y1, y2⟩ := at_T48 hC2 j hj.1 (by omega)
  subst ea2
  rw [hl] at y0 y1 y2
  simp only [] at y0 y1 y2
  have HY := Aside0.mk (And.intro (pw_cell_below HB.out y0) (And.intro (pw_cell_below HB.out y1) (pw_cell_below HB.out y2)))
  clear y0 y1 y2
  obtain ⟨a1, ea1, x0⟩ := Kd.at_int hC1 j hj.1 hj.2
  subst ea1
  rw [hx] at x0
  have HX1 := Aside0.mk (pw_cell_below HB.out x0)
  clear x0
  have j1 := eq_true hj.1
  have j2 : decide (j < (l1.length : Int)) = true := decide_eq_true hj.2
  have j3 := eq_true hj.2
  have j4 : decide (j < 0) = false := decide_eq_false (by omega)
  have j5 : decide ((l1.length : Int) ≤ j) = false := decide_eq_false (by omega)
  have j6 := eq_false (show ¬ (l1.length : Int) ≤ j by omega)
  have j7 := eq_true (show j < (l2.length : Int) by omega)
  have j8 := eq_false (show ¬ j < 0 by omega)
  have j9 : decide (0 ≤ j) = true := decide_eq_true hj.1
  have t1 : decide (1 ≤ p) = true := decide_eq_true hp1
  have t2 := eq_true hp1
  have t3 : decide (p < pw + 1) = true := decide_eq_true hp2
  have t4 := eq_true hp2
  have u1 : decide (y2 < x) = true := decide_eq_true hlt
  have u2 := eq_true hlt
  obtain ⟨z0, z1, z2⟩ := HY.out
  have x0 := HX1.out
  have d0 : W2.cell? ⟨w.heap.size, 0, none⟩ = some (.int .i64 pw) := (blk_cell HP.out 0).trans rfl
  have e0 : W2.cell? ⟨b7, 0, none⟩ = some (.int .i64 5) := (blk_cell HE.out 0).trans rfl
  have e1 : W2.cell? ⟨b7, 1, none⟩ = some (.int .i64 p) := (blk_cell HE.out 1).trans rfl
  have e2 : W2.cell? ⟨b7, 2, none⟩ = some (.int .i64 j) := (blk_cell HE.out 2).trans rfl
  have e3 : W2.cell? ⟨b7, 3, none⟩ = some (.int .i64 y2) := (blk_cell HE.out 3).trans rfl
  have HB3 := Aside0.mk (below_alloc HB.out (.cells #[.int .i64 2, .int .i64 p, .int .i64 y2] 48))
  have HP3 := Aside0.mk (blk_alloc HP.out (.cells #[.int .i64 2, .int .i64 p, .int .i64 y2] 48))
  have HE3 := Aside0.mk (blk_alloc HE.out (.cells #[.int .i64 2, .int .i64 p, .int .i64 y2] 48))
  have HN3 := Aside0.mk (heap_alloc_new W2 (.cells #[.int .i64 2, .int .i64 p, .int .i64 y2] 48))
  obtain ⟨W3, hW3⟩ : ∃ W, W2.alloc (.cells #[.int .i64 2, .int .i64 p, .int .i64 y2] 48) = W := ⟨_, rfl⟩
  obtain ⟨b12, hb12⟩ : ∃ b, W2.heap.size = b := ⟨_, rfl⟩
  rw [hW3] at HB3 HP3 HE3 HN3
  rw [hb12] at HN3
  have f0 : W3.cell? ⟨w.heap.size, 0, none⟩ = some (.int .i64 pw) := (blk_cell HP3.out 0).trans rfl
  have g0 : W3.cell? ⟨b7, 0, none⟩ = some (.int .i64 5) := (blk_cell HE3.out 0).trans rfl
  have g1 : W3.cell? ⟨b7, 1, none⟩ = some (.int .i64 p) := (blk_cell HE3.out 1).trans rfl
  have g2 : W3.cell? ⟨b7, 2, none⟩ = some (.int .i64 j) := (blk_cell HE3.out 2).trans rfl
  have g3 : W3.cell? ⟨b7, 3, none⟩ = some (.int .i64 y2) := (blk_cell HE3.out 3).trans rfl
  have i0 : W3.cell? ⟨b12, 0, none⟩ = some (.int .i64 2) := (blk_cell HN3.out 0).trans rfl
  have i1 : W3.cell? ⟨b12, 1, none⟩ = some (.int .i64 p) := (blk_cell HN3.out 1).trans rfl
  have i2 : W3.cell? ⟨b12, 2, none⟩ = some (.int .i64 y2) := (blk_cell HN3.out 2).trans rfl
  have x3 : W3.cell? (a1.add j.toNat) = some (.int .i64 x) := by rw [← hW3]; exact pw_cell_below (below_alloc (Below.refl _ _) _) HX1.out
  clear HP HE HP3 HE3 HN3 HY hC1 hC2 hll hj HX1
  go_enter Try.func21, Try.ntmps21
  go_wp2
  go_region
  go_wp2
  go_ret
  exact ⟨rfl, below_drew HB3.out⟩
set_option maxHeartbeats 8000000 in
set_option maxRecDepth 1000000 in
theorem follows_gave (pw pj pr : Int) (A1 : Option Addr) (c1 : Nat) (l1 : List Int) (A2 : Option Addr) (c2 : Nat) (l2 : List S48) (w : World) (hpw : 1 ≤ pw ∧ pw ≤ 8) (hC1 : Kd.C (Kd.int .i64) w A1 l1.length l1) (hC2 : Kd.C k48 w A2 l2.length l2) (hll : l2.length = l1.length) (j : Int) (hj : 0 ≤ j ∧ j < l1.length) (p x : Int) (hp1 : 1 ≤ p) (hp2 : p < pw + 1) (hl : rd_T48 l2 j = ⟨2, p, x⟩) (hx : rd l1 j = x) : Calls Try.prog 21 #[.agg #[.int .i64 pw, .int .i64 pj, .int .i64 pr], .slice A1 l1.length c1, .slice A2 l2.length c2, .agg #[.int .i64 6, .int .i64 p, .int .i64 j, .int .i64 0]] w fun e w' => e = .returned (.bool true) ∧ Below w.heap.size w w' := by
  have HB := Aside0.mk (below_alloc (below_alloc (Below.refl w.heap.size w) (.cells #[.int .i64 pw, .int .i64 pj, .int .i64 pr] 23)) (.cells #[.int .i64 6, .int .i64 p, .int .i64 j, .int .i64 0] 42))
  have HP := Aside0.mk (blk_alloc (heap_alloc_new w (.cells #[.int .i64 pw, .int .i64 pj, .int .i64 pr] 23)) (.cells #[.int .i64 6, .int .i64 p, .int .i64 j, .int .i64 0] 42))
  have HE := Aside0.mk (heap_alloc_new (w.alloc (.cells #[.int .i64 pw, .int .i64 pj, .int .i64 pr] 23)) (.cells #[.int .i64 6, .int .i64 p, .int .i64 j, .int .i64 0] 42))
  obtain ⟨W2, hW2⟩ : ∃ W, (w.alloc (.cells #[.int .i64 pw, .int .i64 pj, .int .i64 pr] 23)).alloc (.cells #[.int .i64 6, .int .i64 p, .int .i64 j, .int .i64 0] 42) = W := ⟨_, rfl⟩
  obtain ⟨b7, hb7⟩ : ∃ b, (w.alloc (.cells #[.int .i64 pw, .int .i64 pj, .int .i64 pr] 23)).heap.size = b := ⟨_, rfl⟩
  rw [hW2] at HB HP HE
  rw [hb7] at HE
  obtain ⟨a2, ea2, y0, y1, y2⟩ := at_T48 hC2 j hj.1 (by omega)
  subst ea2
  rw [hl] at y0 y1 y2
  simp only [] at y0 y1 y2
  have HY := Aside0.mk (And.intro (pw_cell_below HB.out y0) (And.intro (pw_cell_below HB.out y1) (pw_cell_below HB.out y2)))
  clear y0 y1 y2
  obtain ⟨a1, ea1, x0⟩ := Kd.at_int hC1 j hj.1 hj.2
  subst ea1
  rw [hx] at x0
  have HX1 := Aside0.mk (pw_cell_below HB.out x0)
  clear x0
  have j1 := eq_true hj.1
  have j2 : decide (j < (l1.length : Int)) = true := decide_eq_true hj.2
  have j3 := eq_true hj.2
  have j4 : decide (j < 0) = false := decide_eq_false (by omega)
  have j5 : decide ((l1.length : Int) ≤ j) = false := decide_eq_false (by omega)
  have j6 := eq_false (show ¬ (l1.length : Int) ≤ j by omega)
  have j7 := eq_true (show j < (l2.length : Int) by omega)
  have j8 := eq_false (show ¬ j < 0 by omega)
  have j9 : decide (0 ≤ j) = true := decide_eq_true hj.1
  have t1 : decide (1 ≤ p) = true := decide_eq_true hp1
  have t2 := eq_true hp1
  have t3 : decide (p < pw + 1) = true := decide_eq_true hp2
  have t4 := eq_true hp2
  obtain ⟨z0, z1, z2⟩ := HY.out
  have x0 := HX1.out
  have d0 : W2.cell? ⟨w.heap.size, 0, none⟩ = some (.int .i64 pw) := (blk_cell HP.out 0).trans rfl
  have e0 : W2.cell? ⟨b7, 0, none⟩ = some (.int .i64 6) := (blk_cell HE.out 0).trans rfl
  have e1 : W2.cell? ⟨b7, 1, none⟩ = some (.int .i64 p) := (blk_cell HE.out 1).trans rfl
  have e2 : W2.cell? ⟨b7, 2, none⟩ = some (.int .i64 j) := (blk_cell HE.out 2).trans rfl
  have e3 : W2.cell? ⟨b7, 3, none⟩ = some (.int .i64 0) := (blk_cell HE.out 3).trans rfl
  have HB3 := Aside0.mk (below_alloc HB.out (.cells #[.int .i64 2, .int .i64 p, .int .i64 x] 48))
  have HP3 := Aside0.mk (blk_alloc HP.out (.cells #[.int .i64 2, .int .i64 p, .int .i64 x] 48))
  have HE3 := Aside0.mk (blk_alloc HE.out (.cells #[.int .i64 2, .int .i64 p, .int .i64 x] 48))
  have HN3 := Aside0.mk (heap_alloc_new W2 (.cells #[.int .i64 2, .int .i64 p, .int .i64 x] 48))
  obtain ⟨W3, hW3⟩ : ∃ W, W2.alloc (.cells #[.int .i64 2, .int .i64 p, .int .i64 x] 48) = W := ⟨_, rfl⟩
  obtain ⟨b12, hb12⟩ : ∃ b, W2.heap.size = b := ⟨_, rfl⟩
  rw [hW3] at HB3 HP3 HE3 HN3
  rw [hb12] at HN3
  have f0 : W3.cell? ⟨w.heap.size, 0, none⟩ = some (.int .i64 pw) := (blk_cell HP3.out 0).trans rfl
  have g0 : W3.cell? ⟨b7, 0, none⟩ = some (.int .i64 6) := (blk_cell HE3.out 0).trans rfl
  have g1 : W3.cell? ⟨b7, 1, none⟩ = some (.int .i64 p) := (blk_cell HE3.out 1).trans rfl
  have g2 : W3.cell? ⟨b7, 2, none⟩ = some (.int .i64 j) := (blk_cell HE3.out 2).trans rfl
  have g3 : W3.cell? ⟨b7, 3, none⟩ = some (.int .i64 0) := (blk_cell HE3.out 3).trans rfl
  have i0 : W3.cell? ⟨b12, 0, none⟩ = some (.int .i64 2) := (blk_cell HN3.out 0).trans rfl
  have i1 : W3.cell? ⟨b12, 1, none⟩ = some (.int .i64 p) := (blk_cell HN3.out 1).trans rfl
  have i2 : W3.cell? ⟨b12, 2, none⟩ = some (.int .i64 x) := (blk_cell HN3.out 2).trans rfl
  have x3 : W3.cell? (a1.add j.toNat) = some (.int .i64 x) := by rw [← hW3]; exact pw_cell_below (below_alloc (Below.refl _ _) _) HX1.out
  clear HP HE HP3 HE3 HN3 HY hC1 hC2 hll hj HX1
  go_enter Try.func21, Try.ntmps21
  go_wp2
  go_region
  go_wp2
  go_ret
  exact ⟨rfl, below_drew HB3.out⟩
set_option maxHeartbeats 8000000 in
set_option maxRecDepth 1000000 in
theorem follows_quit1 (pw pj pr : Int) (A1 : Option Addr) (c1 : Nat) (l1 : List Int) (A2 : Option Addr) (c2 : Nat) (l2 : List S48) (w : World) (hpw : 1 ≤ pw ∧ pw ≤ 8) (hC1 : Kd.C (Kd.int .i64) w A1 l1.length l1) (hC2 : Kd.C k48 w A2 l2.length l2) (hll : l2.length = l1.length) (j : Int) (hj : 0 ≤ j ∧ j < l1.length) (p y2 : Int) (hp1 : 1 ≤ p) (hp2 : p < pw + 1) (hl : rd_T48 l2 j = ⟨2, p, y2⟩) : Calls Try.prog 21 #[.agg #[.int .i64 pw, .int .i64 pj, .int .i64 pr], .slice A1 l1.length c1, .slice A2 l2.length c2, .agg #[.int .i64 8, .int .i64 p, .int .i64 j, .int .i64 0]] w fun e w' => e = .returned (.bool true) ∧ Below w.heap.size w w' := by
  have HB := Aside0.mk (below_alloc (below_alloc (Below.refl w.heap.size w) (.cells #[.int .i64 pw, .int .i64 pj, .int .i64 pr] 23)) (.cells #[.int .i64 8, .int .i64 p, .int .i64 j, .int .i64 0] 42))
  have HP := Aside0.mk (blk_alloc (heap_alloc_new w (.cells #[.int .i64 pw, .int .i64 pj, .int .i64 pr] 23)) (.cells #[.int .i64 8, .int .i64 p, .int .i64 j, .int .i64 0] 42))
  have HE := Aside0.mk (heap_alloc_new (w.alloc (.cells #[.int .i64 pw, .int .i64 pj, .int .i64 pr] 23)) (.cells #[.int .i64 8, .int .i64 p, .int .i64 j, .int .i64 0] 42))
  obtain ⟨W2, hW2⟩ : ∃ W, (w.alloc (.cells #[.int .i64 pw, .int .i64 pj, .int .i64 pr] 23)).alloc (.cells #[.int .i64 8, .int .i64 p, .int .i64 j, .int .i64 0] 42) = W := ⟨_, rfl⟩
  obtain ⟨b7, hb7⟩ : ∃ b, (w.alloc (.cells #[.int .i64 pw, .int .i64 pj, .int .i64 pr] 23)).heap.size = b := ⟨_, rfl⟩
  rw [hW2] at HB HP HE
  rw [hb7] at HE
  obtain ⟨a2, ea2, y0, y1, y2⟩ := at_T48 hC2 j hj.1 (by omega)
  subst ea2
  rw [hl] at y0 y1 y2
  simp only [] at y0 y1 y2
  have HY := Aside0.mk (And.intro (pw_cell_below HB.out y0) (And.intro (pw_cell_below HB.out y1) (pw_cell_below HB.out y2)))
  clear y0 y1 y2
  have j1 := eq_true hj.1
  have j2 : decide (j < (l1.length : Int)) = true := decide_eq_true hj.2
  have j3 := eq_true hj.2
  have j4 : decide (j < 0) = false := decide_eq_false (by omega)
  have j5 : decide ((l1.length : Int) ≤ j) = false := decide_eq_false (by omega)
  have j6 := eq_false (show ¬ (l1.length : Int) ≤ j by omega)
  have j7 := eq_true (show j < (l2.length : Int) by omega)
  have j8 := eq_false (show ¬ j < 0 by omega)
  have j9 : decide (0 ≤ j) = true := decide_eq_true hj.1
  have t1 : decide (1 ≤ p) = true := decide_eq_true hp1
  have t2 := eq_true hp1
  have t3 : decide (p < pw + 1) = true := decide_eq_true hp2
  have t4 := eq_true hp2
  obtain ⟨z0, z1, z2⟩ := HY.out
  have d0 : W2.cell? ⟨w.heap.size, 0, none⟩ = some (.int .i64 pw) := (blk_cell HP.out 0).trans rfl
  have e0 : W2.cell? ⟨b7, 0, none⟩ = some (.int .i64 8) := (blk_cell HE.out 0).trans rfl
  have e1 : W2.cell? ⟨b7, 1, none⟩ = some (.int .i64 p) := (blk_cell HE.out 1).trans rfl
  have e2 : W2.cell? ⟨b7, 2, none⟩ = some (.int .i64 j) := (blk_cell HE.out 2).trans rfl
  have e3 : W2.cell? ⟨b7, 3, none⟩ = some (.int .i64 0) := (blk_cell HE.out 3).trans rfl
  clear HP HE HY hC1 hC2 hll hj
  go_enter Try.func21, Try.ntmps21
  go_wp2
  go_region
  go_wp2
  go_ret
  exact ⟨rfl, below_drew HB.out⟩
theorem follows_ok (pw pj pr : Int) (A1 : Option Addr) (c1 : Nat) (l1 : List Int) (A2 : Option Addr) (c2 : Nat) (l2 : List S48) (w : World) (hpw : 1 ≤ pw ∧ pw ≤ 8) (hC1 : Kd.C (Kd.int .i64) w A1 l1.length l1) (hC2 : Kd.C k48 w A2 l2.length l2) (hll : l2.length = l1.length) (k p j s : Int) (h : FolOk pw l1 l2 k p j s) : Calls Try.prog 21 #[.agg #[.int .i64 pw, .int .i64 pj, .int .i64 pr], .slice A1 l1.length c1, .slice A2 l2.length c2, .agg #[.int .i64 k, .int .i64 p, .int .i64 j, .int .i64 s]] w fun e w' => e = .returned (.bool true) ∧ Below w.heap.size w w' := by
  obtain ⟨y0, y1, y2, hy⟩ : ∃ y0 y1 y2, rd_T48 l2 j = ⟨y0, y1, y2⟩ := ⟨_, _, _, rfl⟩
  unfold FolOk at h
  rw [hy] at h
  simp only [] at h
  rcases h with ⟨h1, h4, h5, h6, h9, h8, rfl, rfl⟩ | ⟨rfl, h1, h2, rfl, rfl⟩ | ⟨rfl, h1, h2, rfl, hj, rfl, rfl⟩ | ⟨rfl, rfl, rfl, hj, rfl⟩ | ⟨rfl, h1, h2, rfl, hj, rfl⟩ | ⟨rfl, h1, h2, hj, rfl, rfl, rfl, h3⟩ | ⟨rfl, h1, h2, rfl, hj, rfl, rfl, h3⟩ | ⟨rfl, rfl, rfl, hj, rfl⟩
  · exact follows_other pw pj pr A1 c1 l1 A2 c2 l2 w hpw hC1 hC2 hll k p h1 h4 h5 h6 h9 h8
  · exact follows_quit0 pw pj pr A1 c1 l1 A2 c2 l2 w hpw hC1 hC2 hll p h1 h2
  · exact follows_quit1 pw pj pr A1 c1 l1 A2 c2 l2 w hpw hC1 hC2 hll j hj _ y2 h1 h2 hy
  · exact follows_sent pw pj pr A1 c1 l1 A2 c2 l2 w hpw hC1 hC2 hll j hj y1 y2 hy
  · exact follows_took pw pj pr A1 c1 l1 A2 c2 l2 w hpw hC1 hC2 hll j hj p y1 y2 h1 h2 hy
  · exact follows_step pw pj pr A1 c1 l1 A2 c2 l2 w hpw hC1 hC2 hll j hj _ _ _ h1 h2 hy rfl h3
  · exact follows_gave pw pj pr A1 c1 l1 A2 c2 l2 w hpw hC1 hC2 hll j hj _ _ h1 h2 hy h3.symm
  · exact follows_got pw pj pr A1 c1 l1 A2 c2 l2 w hpw hC1 hC2 hll j hj y1 y2 hy
end Go.Proofs.Ythcchpbidbbiaaa.Sc
namespace Go.Proofs.Ythcchpbidbbiaaa.Sc
open Go.RowKit Go.Proofs.YthcchpbidbbiaaaW.PrintWords Go.Proofs.YthcchpbidbbiaaaW.PrintLast Go.Proofs.YthcchpbidbbiaaaW.PrintMore Go.Proofs.Ythcchpbidbbiaaa.PSchedSide
open Go.Proofs.Ythcchpbidbbiaaa.PSchedOnce (S48 rd_T48)
set_option linter.unusedVariables false
set_option linter.unusedSimpArgs false
theorem wk_set_eq {m m' : Mach} {p : Int} {z : S59} (hw : m'.workers = setW m p z) (hp : 1 ≤ p ∧ p ≤ m.workers.length) : wk m' p = z := by
  unfold wk
  rw [hw]
  unfold setW rd_T99
  rw [List.getD_eq_getElem?_getD, List.getElem?_set_self (by omega)]
  rfl
/-- The lists' lives. -/
def lifeL (l : List S48) (e : Evt) : List S48 :=
  if e.k = 1 then l.set e.j.toNat ⟨1, (rd_T48 l e.j).f1, (rd_T48 l e.j).f2⟩
  else if e.k = 4 then l.set e.j.toNat ⟨2, e.p, (rd_T48 l e.j).f2⟩
  else if e.k = 5 then l.set e.j.toNat ⟨(rd_T48 l e.j).f0, (rd_T48 l e.j).f1, (rd_T48 l e.j).f2 + 1⟩
  else if e.k = 6 then l.set e.j.toNat ⟨3, (rd_T48 l e.j).f1, (rd_T48 l e.j).f2⟩
  else if e.k = 9 then l.set e.j.toNat ⟨4, (rd_T48 l e.j).f1, (rd_T48 l e.j).f2⟩
  else l
def appK (n : Int) (q : List Int) (e : Evt) : List Int := if e.k = n then q ++ [e.j] else q
def upTo (n : Nat) : List Int := (List.range n).map (fun (i : Nat) => (i : Int))
theorem upTo_succ (n : Nat) : upTo (n + 1) = upTo n ++ [(n : Int)] := by unfold upTo; rw [List.range_succ, List.map_append]; rfl
theorem upTo_len (n : Nat) : (upTo n).length = n := by simp [upTo]
theorem upTo_rd {n i : Nat} (h : i < n) : rd (upTo n) i = i := by
  unfold rd upTo
  simp [List.getD_eq_getElem?_getD, h]
theorem rd48_set_ne {l : List S48} {i : Nat} {j : Int} {x : S48} (hj : 0 ≤ j) (h : (i : Int) ≠ j) : rd_T48 (l.set i x) j = rd_T48 l j := by
  unfold rd_T48
  rw [List.getD_eq_getElem?_getD, List.getD_eq_getElem?_getD, List.getElem?_set_ne (by omega)]
theorem rd48_set_eq {l : List S48} {j : Int} {x : S48} (h0 : 0 ≤ j) (h1 : j < l.length) : rd_T48 (l.set j.toNat x) j = x := by
  unfold rd_T48
  rw [List.getD_eq_getElem?_getD, List.getElem?_set_self (by omega)]
  rfl
structure OnceP (m : Mach) (l : List S48) (q1 q2 q3 q4 : List Int) : Prop where
  len : l.length = m.jobs.length
  sent : q1 = upTo m.next.toNat
  took : q1 = q2 ++ m.sent
  gave : q3 = q4 ++ m.given
  got : q4 = m.got
  s0 : ∀ j : Int, m.next ≤ j → j < l.length → rd_T48 l j = ⟨0, 0, 0⟩
  s1 : ∀ j ∈ m.sent, rd_T48 l j = ⟨1, 0, 0⟩
  s2 : ∀ p : Int, 1 ≤ p → p ≤ m.workers.length → (wk m p).f0 = 2 → rd_T48 l (wk m p).f1 = ⟨2, p, rd m.jobs (wk m p).f1 - (wk m p).f2⟩
  s3 : ∀ j ∈ m.given, (rd_T48 l j).f0 = 3
theorem job_mem {m : Mach} {p : Int} (h0 : 1 ≤ p) (h1 : p ≤ m.workers.length) (hk : (wk m p).f0 = 2) : (wk m p).f1 ∈ jobsW m.workers := by
  obtain ⟨a, b, hab, hpa, _⟩ := split_at h0 h1
  have e : m.workers = a ++ ⟨wk m p⟩ :: b := hab
  rw [e, jobsW_mid, if_pos hk]
  simp
theorem job_ne {m : Mach} (hn : (jobsW m.workers).Nodup) {p q : Int} (h0 : 1 ≤ p) (h1 : p ≤ m.workers.length) (g0 : 1 ≤ q) (g1 : q ≤ m.workers.length) (hpq : p ≠ q) (hk : (wk m p).f0 = 2) (gk : (wk m q).f0 = 2) : (wk m p).f1 ≠ (wk m q).f1 := by
  obtain ⟨a, b, hab, hpa, _⟩ := split_at h0 h1
  have e : m.workers = a ++ ⟨wk m p⟩ :: b := hab
  have hq : (wk m q).f1 ∈ jobsW a ∨ (wk m q).f1 ∈ jobsW b := by
    have hm : ∀ (ws : List S99) (x : S99), x ∈ ws → x.f0.f0 = 2 → x.f0.f1 ∈ jobsW ws := by
      intro ws x hx h2
      unfold jobsW
      exact List.mem_map.2 ⟨x, List.mem_filter.2 ⟨hx, by simpa using h2⟩, rfl⟩
    have hlt : (q - 1).toNat < m.workers.length := by omega
    have hx : rd_T99 m.workers (q - 1) = m.workers[(q - 1).toNat] := by
      unfold rd_T99
      rw [List.getD_eq_getElem?_getD, List.getElem?_eq_getElem hlt]
      rfl
    have hwq : wk m q = (m.workers[(q - 1).toNat]).f0 := by unfold wk; rw [hx]
    have hl : m.workers.length = a.length + (b.length + 1) := by rw [e]; simp
    by_cases hlt2 : (q - 1).toNat < a.length
    · left
      have : m.workers[(q - 1).toNat] = a[(q - 1).toNat] := by
        simp only [e]
        rw [List.getElem_append_left hlt2]
      rw [hwq, this]
      rw [hwq, this] at gk
      exact hm a _ (List.getElem_mem hlt2) gk
    · right
      have h3 : (q - 1).toNat - a.length - 1 < b.length := by omega
      have : m.workers[(q - 1).toNat] = b[(q - 1).toNat - a.length - 1] := by
        simp only [e]
        rw [List.getElem_append_right (by omega)]
        obtain ⟨d, hd⟩ : ∃ d, (q - 1).toNat - a.length = d + 1 := ⟨(q - 1).toNat - a.length - 1, by omega⟩
        simp only [hd, List.getElem_cons_succ]
        rfl
      rw [hwq, this]
      rw [hwq, this] at gk
      exact hm b _ (List.getElem_mem h3) gk
  rw [e, jobsW_mid, if_pos hk] at hn
  intro he
  rw [← he] at hq
  rw [List.append_assoc] at hn
  have h5 := List.nodup_append.1 hn
  rcases hq with hq | hq
  · exact (h5.2.2 _ hq _ (by simp)) rfl
  · have h6 := h5.2.1
    simp only [List.singleton_append, List.nodup_cons] at h6
    exact h6.1 hq
structure Apart (m : Mach) : Prop where
  w : (jobsW m.workers).Nodup
  sn : m.sent.Nodup
  gn : m.given.Nodup
  sw : ∀ j ∈ m.sent, j ∉ jobsW m.workers
  sg : ∀ j ∈ m.sent, j ∉ m.given
  wg : ∀ j ∈ jobsW m.workers, j ∉ m.given
  lt : ∀ j, j ∈ m.sent ∨ j ∈ jobsW m.workers ∨ j ∈ m.given → 0 ≤ j ∧ j < m.next
theorem apart_of {m : Mach} (hI : Inv m) : Apart m := by
  have h := hI.nod
  unfold alls at h
  have h1 := List.nodup_append.1 h
  have h2 := List.nodup_append.1 h1.2.1
  have h3 := List.nodup_append.1 h2.2.1
  refine ⟨h2.1, h1.1, h3.1, fun j hj hw => h1.2.2 j hj j (by simp [hw]) rfl, fun j hj hg => h1.2.2 j hj j (by simp [hg]) rfl, fun j hj hg => h2.2.2 j hj j (by simp [hg]) rfl, fun j hj => ⟨?_, hI.lt j ?_⟩⟩
  · rcases hj with hj | hj | hj
    · exact (hI.ok.ss j hj).1
    · unfold jobsW at hj
      obtain ⟨x, hx, rfl⟩ := List.mem_map.1 hj
      obtain ⟨hx1, hx2⟩ := List.mem_filter.1 hx
      have hx3 : x.f0.f0 = 2 := by simpa using hx2
      rcases hI.ok.ws x hx1 with h | ⟨h | h, _⟩
      · exact h.2.1
      · rw [h] at hx3; omega
      · rw [h] at hx3; omega
    · exact (hI.ok.gs j hj).1
  · unfold alls
    rcases hj with hj | hj | hj <;> simp [hj]
theorem wk_left {m : Mach} (hO : Ok m) {p : Int} (h0 : 1 ≤ p) (h1 : p ≤ m.workers.length) (hk : (wk m p).f0 = 2) : 0 ≤ (wk m p).f1 ∧ (wk m p).f1 < m.jobs.length ∧ 0 ≤ (wk m p).f2 ∧ (wk m p).f2 ≤ 1000 := by
  rcases wk_range hO h0 h1 with h | ⟨h | h, _⟩
  · exact h.2
  · rw [h] at hk; omega
  · rw [h] at hk; omega
/-- What the law's follows answers, and what its lives make, at a move. -/
theorem once_step {m m' : Mach} {x : S64} {e : Evt} {l : List S48} {q1 q2 q3 q4 : List Int} {pw : Int} (hI : Inv m) (hP : OnceP m l q1 q2 q3 q4) (hpw : (m.workers.length : Int) = pw) (hx : Mv m x e m') :
    FolOk pw m.jobs l e.k e.p e.j e.s ∧ OnceP m' (lifeL l e) (appK 1 q1 e) (appK 4 q2 e) (appK 6 q3 e) (appK 9 q4 e) := by
  have hA := apart_of hI
  have hO := hI.ok
  have hpb := hO.pw
  have hnw := hO.nw
  have hnx := hO.nx
  have hnj := hO.nj
  obtain ⟨len, hse, hto, hga, hgo, s0, s1, s2, s3⟩ := hP
  cases hx with
  | close h0 h1 hd hu =>
    refine ⟨.inl ⟨by simp, by simp, by simp, by simp, by simp, by simp, rfl, rfl⟩, ?_⟩
    simp only [lifeL, appK]
    exact ⟨len, hse, hto, hga, hgo, s0, s1, s2, s3⟩
  | drop h0 h1 hs hd hu =>
    refine ⟨.inl ⟨by simp, by simp, by simp, by simp, by simp, by simp, rfl, rfl⟩, ?_⟩
    simp only [lifeL, appK]
    exact ⟨len, hse, hto, hga, hgo, s0, s1, s2, s3⟩
  | cancel h0 h1 hs hc =>
    refine ⟨.inl ⟨by simp, by simp, by simp, by simp, by simp, by simp, rfl, rfl⟩, ?_⟩
    simp only [lifeL, appK]
    exact ⟨len, hse, hto, hga, hgo, s0, s1, s2, s3⟩
  | full h0 h1 hc hg =>
    refine ⟨.inl ⟨by simp, by simp, by simp, by simp, by simp, by simp, rfl, rfl⟩, ?_⟩
    simp only [lifeL, appK]
    exact ⟨len, hse, hto, hga, hgo, s0, s1, s2, s3⟩
  | send h0 h1 hd hu hl =>
    have hun := und_pos hO hu
    have hlt : m.next < l.length := by rw [len]; exact hun.2
    have e0 := s0 m.next (Int.le_refl _) hlt
    have hn0 := hnx.1
    obtain ⟨n, hn⟩ : ∃ n : Nat, m.next = n := ⟨m.next.toNat, by omega⟩
    refine ⟨?_, ?_⟩
    · exact .inr (.inr (.inr (.inl ⟨rfl, rfl, rfl, ⟨hn0, hun.2⟩, by rw [e0]⟩)))
    · simp only [lifeL, appK, e0]
      simp only [if_true, if_neg (show ¬ ((1 : Int) = 4) by decide), if_neg (show ¬ ((1 : Int) = 6) by decide), if_neg (show ¬ ((1 : Int) = 9) by decide)]
      have hne : ∀ j, j ∈ m.sent ∨ j ∈ jobsW m.workers ∨ j ∈ m.given → 0 ≤ j ∧ ((m.next.toNat : Nat) : Int) ≠ j := fun j hj => by have := hA.lt j hj; omega
      refine ⟨by rw [List.length_set]; exact len, ?_, ?_, hga, hgo, ?_, ?_, ?_, ?_⟩
      · show q1 ++ [m.next] = upTo (m.next + 1).toNat
        rw [hse, hn]
        have : ((n : Int) + 1).toNat = n + 1 := by omega
        rw [this, upTo_succ]
        simp
      · show q1 ++ [m.next] = q2 ++ (m.sent ++ [m.next])
        rw [hto, List.append_assoc]
      · intro j hj hj2
        rw [List.length_set] at hj2
        have hj' : m.next + 1 ≤ j := hj
        rw [rd48_set_ne (by omega) (by omega)]
        exact s0 j (by omega) hj2
      · intro j hj
        rcases List.mem_append.1 hj with hj | hj
        · rw [rd48_set_ne (hne j (.inl hj)).1 (hne j (.inl hj)).2]; exact s1 j hj
        · have : j = m.next := by simpa using hj
          subst this
          rw [rd48_set_eq hn0 hlt]
      · intro p hp0 hp1 hk
        have hm := job_mem hp0 hp1 hk
        rw [rd48_set_ne (hne _ (.inr (.inl hm))).1 (hne _ (.inr (.inl hm))).2]
        exact s2 p hp0 hp1 hk
      · intro j hj
        rw [rd48_set_ne (hne j (.inr (.inr hj))).1 (hne j (.inr (.inr hj))).2]
        exact s3 j hj
  | got q rest h0 h1 hc hg hv =>
    have hq : q ∈ m.given := by rw [hv]; exact List.mem_cons_self
    have hqb := hA.lt q (.inr (.inr hq))
    have hqn : q < l.length := by rw [len]; omega
    have e0 := s3 q hq
    have hgn := hA.gn
    rw [hv] at hgn
    refine ⟨?_, ?_⟩
    · exact .inr (.inr (.inr (.inr (.inr (.inr (.inr ⟨rfl, by show x.f0 = pw + 1; omega, rfl, ⟨hqb.1, by show q < m.jobs.length; omega⟩, e0⟩))))))
    · simp only [lifeL, appK]
      simp only [if_true, if_neg (show ¬ ((9 : Int) = 1) by decide), if_neg (show ¬ ((9 : Int) = 4) by decide), if_neg (show ¬ ((9 : Int) = 5) by decide), if_neg (show ¬ ((9 : Int) = 6) by decide)]
      have hne : ∀ j, 0 ≤ j → j ≠ q → 0 ≤ j ∧ ((q.toNat : Nat) : Int) ≠ j := fun j hj hne => ⟨hj, by omega⟩
      refine ⟨by rw [List.length_set]; exact len, hse, hto, ?_, ?_, ?_, ?_, ?_, ?_⟩
      · show q3 = (q4 ++ [q]) ++ rest
        rw [hga, hv]; simp
      · show q4 ++ [q] = m.got ++ [q]
        rw [hgo]
      · intro j hj hj2
        rw [List.length_set] at hj2
        have hj' : m.next ≤ j := hj
        rw [rd48_set_ne (by omega) (by omega)]
        exact s0 j hj' hj2
      · intro j hj
        have hb := hA.lt j (.inl hj)
        have : j ≠ q := fun e => hA.sg j hj (e ▸ hq)
        rw [rd48_set_ne (hne j hb.1 this).1 (hne j hb.1 this).2]; exact s1 j hj
      · intro p hp0 hp1 hk
        have hm := job_mem hp0 hp1 hk
        have hb := hA.lt _ (.inr (.inl hm))
        have : (wk m p).f1 ≠ q := fun e => hA.wg _ hm (e ▸ hq)
        have h9 := rd48_set_ne (l := l) (x := ⟨4, (rd_T48 l q).f1, (rd_T48 l q).f2⟩) (hne _ hb.1 this).1 (hne _ hb.1 this).2
        exact h9.trans (s2 p hp0 hp1 hk)
      · intro j hj
        have hj' : j ∈ rest := hj
        have hb := hA.lt j (.inr (.inr (by rw [hv]; exact List.mem_cons_of_mem _ hj')))
        have : j ≠ q := fun e => (List.nodup_cons.1 hgn).1 (e ▸ hj')
        rw [rd48_set_ne (hne j hb.1 this).1 (hne j hb.1 this).2]
        exact s3 j (by rw [hv]; exact List.mem_cons_of_mem _ hj')
  | quit y hp h1 hy hs hk =>
    subst hy
    have hlt : x.f0 < pw + 1 := by omega
    refine ⟨?_, ?_⟩
    · by_cases h2 : (wk m x.f0).f0 = 2
      · have hm := job_mem hp.1 hp.2 h2
        have hb := hA.lt _ (.inr (.inl hm))
        have e2 := s2 x.f0 hp.1 hp.2 h2
        have hjb := wk_left hO hp.1 hp.2 h2
        refine .inr (.inr (.inl ⟨rfl, hp.1, hlt, rfl, ?_, ?_, ?_⟩))
        · show 0 ≤ jobOf (wk m x.f0) ∧ jobOf (wk m x.f0) < m.jobs.length
          unfold jobOf; rw [if_pos h2]; exact ⟨hb.1, hjb.2.1⟩
        · show (rd_T48 l (jobOf (wk m x.f0))).f0 = 2
          unfold jobOf; rw [if_pos h2, e2]
        · show (rd_T48 l (jobOf (wk m x.f0))).f1 = x.f0
          unfold jobOf; rw [if_pos h2, e2]
      · exact .inr (.inl ⟨rfl, hp.1, hlt, by show jobOf (wk m x.f0) = -1; unfold jobOf; rw [if_neg h2], rfl⟩)
    · simp only [lifeL, appK]
      simp only [if_neg (show ¬ ((8 : Int) = 1) by decide), if_neg (show ¬ ((8 : Int) = 4) by decide), if_neg (show ¬ ((8 : Int) = 5) by decide), if_neg (show ¬ ((8 : Int) = 6) by decide), if_neg (show ¬ ((8 : Int) = 9) by decide)]
      refine ⟨len, hse, hto, hga, hgo, s0, s1, ?_, s3⟩
      intro p hp0 hp1 hk2
      have hp1' : p ≤ m.workers.length := by rw [← setW_len (m := m) (p := x.f0) (y := ⟨0, 0, 0⟩)]; exact hp1
      by_cases hpx : p = x.f0
      · subst hpx
        rw [wk_set_eq (m := m) rfl hp] at hk2
        simp at hk2
      · have hwe := wk_set_ne (m := m) (m' := { m with workers := setW m x.f0 ⟨0, 0, 0⟩, picks := m.picks + 1 }) rfl hp.1 hp0 (Ne.symm hpx)
        rw [hwe] at hk2 ⊢
        exact s2 p hp0 hp1' hk2
  | step y hp h1 hy hk hl =>
    subst hy
    have hlt : x.f0 < pw + 1 := by omega
    have hm := job_mem hp.1 hp.2 hk
    have hb := hA.lt _ (.inr (.inl hm))
    have e2 := s2 x.f0 hp.1 hp.2 hk
    have hjb := wk_left hO hp.1 hp.2 hk
    have hjn : (wk m x.f0).f1 < l.length := by rw [len]; exact hjb.2.1
    refine ⟨?_, ?_⟩
    · exact .inr (.inr (.inr (.inr (.inr (.inl ⟨rfl, hp.1, hlt, ⟨hb.1, hjb.2.1⟩, by rw [e2], by rw [e2], by rw [e2]; show rd m.jobs (wk m x.f0).f1 - ((wk m x.f0).f2 - 1) - 1 = rd m.jobs (wk m x.f0).f1 - (wk m x.f0).f2; omega, by rw [e2]; show rd m.jobs (wk m x.f0).f1 - (wk m x.f0).f2 < rd m.jobs (wk m x.f0).f1; omega⟩)))))
    · simp only [lifeL, appK, e2]
      simp only [if_true, if_neg (show ¬ ((5 : Int) = 1) by decide), if_neg (show ¬ ((5 : Int) = 4) by decide), if_neg (show ¬ ((5 : Int) = 6) by decide), if_neg (show ¬ ((5 : Int) = 9) by decide)]
      have hne : ∀ j, 0 ≤ j → j ≠ (wk m x.f0).f1 → 0 ≤ j ∧ (((wk m x.f0).f1.toNat : Nat) : Int) ≠ j := fun j hj hne => ⟨hj, by omega⟩
      refine ⟨by rw [List.length_set]; exact len, hse, hto, hga, hgo, ?_, ?_, ?_, ?_⟩
      · intro j hj hj2
        rw [List.length_set] at hj2
        have hj' : m.next ≤ j := hj
        rw [rd48_set_ne (by omega) (by omega)]
        exact s0 j hj' hj2
      · intro j hj
        have hb2 := hA.lt j (.inl hj)
        have : j ≠ (wk m x.f0).f1 := fun e => hA.sw j hj (e ▸ hm)
        rw [rd48_set_ne (hne j hb2.1 this).1 (hne j hb2.1 this).2]; exact s1 j hj
      · intro p hp0 hp1 hk2
        have hp1' : p ≤ m.workers.length := by rw [← setW_len (m := m) (p := x.f0) (y := ⟨2, (wk m x.f0).f1, (wk m x.f0).f2 - 1⟩)]; exact hp1
        by_cases hpx : p = x.f0
        · subst hpx
          have hwe := wk_set_eq (m := m) (m' := { m with workers := setW m x.f0 ⟨2, (wk m x.f0).f1, (wk m x.f0).f2 - 1⟩, picks := m.picks + 1 }) (z := ⟨2, (wk m x.f0).f1, (wk m x.f0).f2 - 1⟩) rfl hp
          rw [hwe, rd48_set_eq hb.1 hjn]
          show (⟨2, x.f0, rd m.jobs (wk m x.f0).f1 - (wk m x.f0).f2 + 1⟩ : S48) = ⟨2, x.f0, rd m.jobs (wk m x.f0).f1 - ((wk m x.f0).f2 - 1)⟩
          congr 1
          omega
        · have hwe := wk_set_ne (m := m) (m' := { m with workers := setW m x.f0 ⟨2, (wk m x.f0).f1, (wk m x.f0).f2 - 1⟩, picks := m.picks + 1 }) rfl hp.1 hp0 (Ne.symm hpx)
          rw [hwe] at hk2 ⊢
          have hm2 := job_mem hp0 hp1' hk2
          have hb2 := hA.lt _ (.inr (.inl hm2))
          have hjne := job_ne hA.w hp0 hp1' hp.1 hp.2 hpx hk2 hk
          rw [rd48_set_ne (hne _ hb2.1 hjne).1 (hne _ hb2.1 hjne).2]
          exact s2 p hp0 hp1' hk2
      · intro j hj
        have hb2 := hA.lt j (.inr (.inr hj))
        have : j ≠ (wk m x.f0).f1 := fun e => hA.wg _ hm (e ▸ hj)
        rw [rd48_set_ne (hne j hb2.1 this).1 (hne j hb2.1 this).2]
        exact s3 j hj
  | gave y hp h1 hy hk hz hl =>
    subst hy
    have hlt : x.f0 < pw + 1 := by omega
    have hm := job_mem hp.1 hp.2 hk
    have hb := hA.lt _ (.inr (.inl hm))
    have e2 := s2 x.f0 hp.1 hp.2 hk
    have hjb := wk_left hO hp.1 hp.2 hk
    have hl0 : (wk m x.f0).f2 = 0 := by omega
    have hjn : (wk m x.f0).f1 < l.length := by rw [len]; exact hjb.2.1
    rw [hl0] at e2
    refine ⟨?_, ?_⟩
    · exact .inr (.inr (.inr (.inr (.inr (.inr (.inl ⟨rfl, hp.1, hlt, rfl, ⟨hb.1, hjb.2.1⟩, by rw [e2], by rw [e2], by rw [e2]; show rd m.jobs (wk m x.f0).f1 - 0 = rd m.jobs (wk m x.f0).f1; omega⟩))))))
    · simp only [lifeL, appK, e2]
      simp only [if_true, if_neg (show ¬ ((6 : Int) = 1) by decide), if_neg (show ¬ ((6 : Int) = 4) by decide), if_neg (show ¬ ((6 : Int) = 5) by decide), if_neg (show ¬ ((6 : Int) = 9) by decide)]
      have hne : ∀ j, 0 ≤ j → j ≠ (wk m x.f0).f1 → 0 ≤ j ∧ (((wk m x.f0).f1.toNat : Nat) : Int) ≠ j := fun j hj hne => ⟨hj, by omega⟩
      refine ⟨by rw [List.length_set]; exact len, hse, hto, ?_, hgo, ?_, ?_, ?_, ?_⟩
      · show q3 ++ [(wk m x.f0).f1] = q4 ++ (m.given ++ [(wk m x.f0).f1])
        rw [hga, List.append_assoc]
      · intro j hj hj2
        rw [List.length_set] at hj2
        have hj' : m.next ≤ j := hj
        rw [rd48_set_ne (by omega) (by omega)]
        exact s0 j hj' hj2
      · intro j hj
        have hb2 := hA.lt j (.inl hj)
        have : j ≠ (wk m x.f0).f1 := fun e => hA.sw j hj (e ▸ hm)
        rw [rd48_set_ne (hne j hb2.1 this).1 (hne j hb2.1 this).2]; exact s1 j hj
      · intro p hp0 hp1 hk2
        have hp1' : p ≤ m.workers.length := by rw [← setW_len (m := m) (p := x.f0) (y := ⟨1, 0, 0⟩)]; exact hp1
        by_cases hpx : p = x.f0
        · subst hpx
          rw [wk_set_eq (m := m) rfl hp] at hk2
          simp at hk2
        · have hwe := wk_set_ne (m := m) (m' := { m with given := m.given ++ [(wk m x.f0).f1], judged := m.judged + 1, workers := setW m x.f0 ⟨1, 0, 0⟩, picks := m.picks + 1 }) rfl hp.1 hp0 (Ne.symm hpx)
          rw [hwe] at hk2 ⊢
          have hm2 := job_mem hp0 hp1' hk2
          have hb2 := hA.lt _ (.inr (.inl hm2))
          have hjne := job_ne hA.w hp0 hp1' hp.1 hp.2 hpx hk2 hk
          rw [rd48_set_ne (hne _ hb2.1 hjne).1 (hne _ hb2.1 hjne).2]
          exact s2 p hp0 hp1' hk2
      · intro j hj
        rcases List.mem_append.1 hj with hj | hj
        · have hb2 := hA.lt j (.inr (.inr hj))
          have : j ≠ (wk m x.f0).f1 := fun e => hA.wg _ hm (e ▸ hj)
          rw [rd48_set_ne (hne j hb2.1 this).1 (hne j hb2.1 this).2]
          exact s3 j hj
        · have : j = (wk m x.f0).f1 := by simpa using hj
          subst this
          rw [rd48_set_eq hb.1 hjn]
  | left y hp h1 hy hk hz hs hd =>
    subst hy
    refine ⟨.inl ⟨by simp, by simp, by simp, by simp, by simp, by simp, rfl, rfl⟩, ?_⟩
    simp only [lifeL, appK]
    simp only [if_neg (show ¬ ((7 : Int) = 1) by decide), if_neg (show ¬ ((7 : Int) = 4) by decide), if_neg (show ¬ ((7 : Int) = 5) by decide), if_neg (show ¬ ((7 : Int) = 6) by decide), if_neg (show ¬ ((7 : Int) = 9) by decide)]
    refine ⟨len, hse, hto, hga, hgo, s0, s1, ?_, s3⟩
    intro p hp0 hp1 hk2
    have hp1' : p ≤ m.workers.length := by rw [← setW_len (m := m) (p := x.f0) (y := ⟨0, 0, 0⟩)]; exact hp1
    by_cases hpx : p = x.f0
    · subst hpx
      rw [wk_set_eq (m := m) rfl hp] at hk2
      simp at hk2
    · have hwe := wk_set_ne (m := m) (m' := { m with workers := setW m x.f0 ⟨0, 0, 0⟩, picks := m.picks + 1 }) rfl hp.1 hp0 (Ne.symm hpx)
      rw [hwe] at hk2 ⊢
      exact s2 p hp0 hp1' hk2
  | took y q rest hp h1 hy hk hz hq =>
    subst hy
    have hqm : q ∈ m.sent := by rw [hq]; exact List.mem_cons_self
    have hb := hA.lt q (.inl hqm)
    have hqn : q < l.length := by rw [len]; omega
    have e0 := s1 q hqm
    have hsn := hA.sn
    rw [hq] at hsn
    have hlt : x.f0 < pw + 1 := by omega
    refine ⟨?_, ?_⟩
    · exact .inr (.inr (.inr (.inr (.inl ⟨rfl, hp.1, hlt, rfl, ⟨hb.1, by show q < m.jobs.length; omega⟩, by rw [e0]⟩))))
    · simp only [lifeL, appK, e0]
      simp only [if_true, if_neg (show ¬ ((4 : Int) = 1) by decide), if_neg (show ¬ ((4 : Int) = 5) by decide), if_neg (show ¬ ((4 : Int) = 6) by decide), if_neg (show ¬ ((4 : Int) = 9) by decide)]
      have hne : ∀ j, 0 ≤ j → j ≠ q → 0 ≤ j ∧ ((q.toNat : Nat) : Int) ≠ j := fun j hj hne => ⟨hj, by omega⟩
      refine ⟨by rw [List.length_set]; exact len, hse, ?_, hga, hgo, ?_, ?_, ?_, ?_⟩
      · show q1 = (q2 ++ [q]) ++ rest
        rw [hto, hq]; simp
      · intro j hj hj2
        rw [List.length_set] at hj2
        have hj' : m.next ≤ j := hj
        rw [rd48_set_ne (by omega) (by omega)]
        exact s0 j hj' hj2
      · intro j hj
        have hj' : j ∈ rest := hj
        have hb2 := hA.lt j (.inl (by rw [hq]; exact List.mem_cons_of_mem _ hj'))
        have : j ≠ q := fun e => (List.nodup_cons.1 hsn).1 (e ▸ hj')
        rw [rd48_set_ne (hne j hb2.1 this).1 (hne j hb2.1 this).2]
        exact s1 j (by rw [hq]; exact List.mem_cons_of_mem _ hj')
      · intro p hp0 hp1 hk2
        have hp1' : p ≤ m.workers.length := by rw [← setW_len (m := m) (p := x.f0) (y := ⟨2, q, rd m.jobs q⟩)]; exact hp1
        by_cases hpx : p = x.f0
        · subst hpx
          rw [wk_set_eq (m := m) (z := ⟨2, q, rd m.jobs q⟩) rfl hp]
          rw [rd48_set_eq hb.1 hqn]
          show (⟨2, x.f0, 0⟩ : S48) = ⟨2, x.f0, rd m.jobs q - rd m.jobs q⟩
          congr 1
          omega
        · have hwe := wk_set_ne (m := m) (m' := { tookM m x.f0 q rest with picks := m.picks + 1 }) (z := ⟨2, q, rd m.jobs q⟩) rfl hp.1 hp0 (Ne.symm hpx)
          rw [hwe] at hk2 ⊢
          have hm2 := job_mem hp0 hp1' hk2
          have hb2 := hA.lt _ (.inr (.inl hm2))
          have hjne : (wk m p).f1 ≠ q := fun e => hA.sw q hqm (e ▸ hm2)
          rw [rd48_set_ne (hne _ hb2.1 hjne).1 (hne _ hb2.1 hjne).2]
          exact s2 p hp0 hp1' hk2
      · intro j hj
        have hb2 := hA.lt j (.inr (.inr hj))
        have : j ≠ q := fun e => hA.sg q hqm (e ▸ hj)
        rw [rd48_set_ne (hne j hb2.1 this).1 (hne j hb2.1 this).2]
        exact s3 j hj
end Go.Proofs.Ythcchpbidbbiaaa.Sc
namespace Go.Proofs.Ythcchpbidbbiaaa.Sc
open Go.RowKit Go.Proofs.YthcchpbidbbiaaaW.PrintWords Go.Proofs.YthcchpbidbbiaaaW.PrintLast Go.Proofs.YthcchpbidbbiaaaW.PrintMore Go.Proofs.Ythcchpbidbbiaaa.PSchedSide
open Go.Proofs.Ythcchpbidbbiaaa.PSchedOnce (S48 k48 rd_T48 at_T48 z48 k48_mkM k48_openM)
set_option linter.unusedVariables false
set_option linter.unusedSimpArgs false
def OwnK (vs : List Value) (k : Nat) : Prop := ∃ v ∈ vs, some k = v.ownBlock
def vsOf (vl : Value) (rs : List (Value × List Int)) : List Value := vl :: rs.map Prod.fst
structure OnceW (w W : World) (X : Raw) (b1 b4 : Nat) (pw pj pr : Int) (v : Value) (xs : List Int) (g : Nat) (m : Mach) (vl : Value) (l : List S48) (rs : List (Value × List Int)) : Prop where
  law : Law w W (OwnK (vsOf vl rs)) X b1 b4 pw pj pr v xs g m
  rl : Own k48 48 W vl l
  rr : ∀ (i : Nat) (r : Value × List Int), rs[i]? = some r → Own (Kd.int .i64) 3 W r.1 r.2
  ap : ∀ (i j : Nat) (r q : Value × List Int), rs[i]? = some r → rs[j]? = some q → i ≠ j → Ap r.1 q.1
  far : ∀ k, OwnK (vsOf vl rs) k → k ≠ b1 ∧ k ≠ b4 ∧ some k ≠ v.ownBlock
section
variable {w W W' : World} {X : Raw} {b1 b4 g : Nat} {pw pj pr : Int} {v vl : Value} {xs : List Int} {m m' : Mach} {l : List S48} {rs : List (Value × List Int)}
theorem ownK_row {i : Nat} {r : Value × List Int} (hi : rs[i]? = some r) {k : Nat} (hk : some k = r.1.ownBlock) : OwnK (vsOf vl rs) k :=
  ⟨r.1, List.mem_cons_of_mem _ (List.mem_map.2 ⟨r, List.mem_of_getElem? hi, rfl⟩), hk⟩
theorem ownK_life {k : Nat} (hk : some k = vl.ownBlock) : OwnK (vsOf vl rs) k := ⟨vl, List.mem_cons_self, hk⟩
theorem OnceW.pass (h : OnceW w W X b1 b4 pw pj pr v xs g m vl l rs) (hb : Below W.heap.size W W') : OnceW w W' X b1 b4 pw pj pr v xs g m vl l rs :=
  ⟨h.law.pass hb, h.rl.below hb, fun i r hi => (h.rr i r hi).below hb, h.ap, h.far⟩
/-- Behind a move of the machine. -/
theorem OnceW.moved (h : OnceW w W X b1 b4 pw pj pr v xs g m vl l rs) (hL : Law w W' (OwnK (vsOf vl rs)) X b1 b4 pw pj pr v xs g m') (hh : Held W W' (Nb b1 b4 v (OwnK (vsOf vl rs)))) : OnceW w W' X b1 b4 pw pj pr v xs g m' vl l rs :=
  ⟨hL, h.rl.at_ (fun k hk _ => hh.2 k (.inr (.inr (.inr (ownK_life hk))))), fun i r hi => (h.rr i r hi).at_ (fun k hk _ => hh.2 k (.inr (.inr (.inr (ownK_row hi hk))))), h.ap, h.far⟩
/-- The owner writes its own blocks, and makes new ones. -/
theorem Run.grow {w0 : World} {N N' : Nat → Prop} (h : Run w0 W N g m) (hk : Kept W W' N) (ho : W'.os = W.os) (ht : W'.tape = W.tape) (hp : W'.output = W.output) (hN : ∀ k, N' k → N k ∨ (W.heap.size ≤ k ∧ k < W'.heap.size)) : Run w0 W' N' g m := by
  have h1 := h.write hk ho ht hp
  obtain ⟨s, hI, hF⟩ := h.out
  refine ⟨⟨s, hI.kept hk (fun k hf => (hF k hf).2), fun k hf => ⟨(hF k hf).1, fun hn => ?_⟩⟩, fun k hn => ?_, h1.bel, h.inv⟩
  · rcases hN k hn with hn | hn
    · exact (hF k hf).2 hn
    · have := foot_below hI k hf
      omega
  · rcases hN k hn with hn | hn
    · exact h1.nlt k hn
    · exact ⟨Nat.le_trans h.bel.size hn.1, hn.2⟩
theorem Law.grow {M M' : Nat → Prop} (h : Law w W M X b1 b4 pw pj pr v xs g m) (hk : Kept W W' M) (hn : ∀ k, M k → k ≠ b1 ∧ k ≠ b4 ∧ some k ≠ v.ownBlock) (ho : W'.os = W.os) (ht : W'.tape = W.tape) (hp : W'.output = W.output) (hM : ∀ k, M' k → M k ∨ (W.heap.size ≤ k ∧ k < W'.heap.size)) : Law w W' M' X b1 b4 pw pj pr v xs g m := by
  have h1 := h.write hk hn ho ht hp
  refine ⟨h.run.grow (hk.mono (fun k hk => .inr (.inr (.inr hk)))) ho ht hp ?_, h1.wb, h1.pb, h1.js, h.eq⟩
  rintro k (hk | hk | hk | hk)
  · exact .inl (.inl hk)
  · exact .inl (.inr (.inl hk))
  · exact .inl (.inr (.inr (.inl hk)))
  · rcases hM k hk with hk | hk
    · exact .inl (.inr (.inr (.inr hk)))
    · exact .inr hk
theorem row_far (h : OnceW w W X b1 b4 pw pj pr v xs g m vl l rs) {k : Nat} (hk : W.heap.size ≤ k) : k ≠ b1 ∧ k ≠ b4 ∧ some k ≠ v.ownBlock := by
  refine ⟨fun e => ?_, fun e => ?_, fun e => ?_⟩
  · have := blk_lt h.law.wb; omega
  · have := blk_lt h.law.pb; omega
  · have := h.law.js.lt _ e; omega
theorem mem_vsOf_set {i : Nat} {r : Value × List Int} {k : Nat} (hk : OwnK (vsOf vl (rs.set i r)) k) : OwnK (vsOf vl rs) k ∨ some k = r.1.ownBlock := by
  obtain ⟨u, hu, he⟩ := hk
  rcases List.mem_cons.1 hu with rfl | hu
  · exact .inl (ownK_life he)
  · obtain ⟨q, hq, rfl⟩ := List.mem_map.1 hu
    rcases List.mem_or_eq_of_mem_set hq with hq | rfl
    · exact .inl ⟨q.1, List.mem_cons_of_mem _ (List.mem_map.2 ⟨q, hq, rfl⟩), he⟩
    · exact .inr he
/-- A number is appended to one of the lists. -/
theorem OnceW.app (h : OnceW w W X b1 b4 pw pj pr v xs g m vl l rs) (i : Nat) {r : Value × List Int} (hi : rs[i]? = some r) {v' : Value} {q : List Int} {ok : Nat → Prop} (ho : Kd.R (Kd.int .i64) 3 W' 0 ok v' q) (hg : W.grownBy W' r.1.ownBlock) (hat : v'.ownBlock = r.1.ownBlock ∨ ∃ b, v'.ownBlock = some b ∧ W.heap.size ≤ b) : OnceW w W' X b1 b4 pw pj pr v xs g m vl l (rs.set i (v', q)) := by
  have hlt : i < rs.length := by
    rcases Nat.lt_or_ge i rs.length with h1 | h1
    · exact h1
    · rw [List.getElem?_eq_none h1] at hi; simp at hi
  have hv' : ∀ k, some k = v'.ownBlock → some k = r.1.ownBlock ∨ (W.heap.size ≤ k ∧ k < W'.heap.size) := by
    intro k hk
    rcases hat with hat | ⟨b, hb, hle⟩
    · exact .inl (hk.trans hat)
    · have : k = b := by rw [hb] at hk; injection hk
      subst this
      exact .inr ⟨hle, Kd.R_lt ho k hb⟩
  have hkept : Kept W W' (OwnK (vsOf vl rs)) := Kept.of_grown hg (Kept.refl _ _) (fun k hk => .inl (ownK_row hi hk.symm))
  have hO' : Own (Kd.int .i64) 3 W' v' q := Own.of rfl ho
  have hm : ∀ k, OwnK (vsOf vl (rs.set i (v', q))) k → OwnK (vsOf vl rs) k ∨ (W.heap.size ≤ k ∧ k < W'.heap.size) := by
    intro k hk
    rcases mem_vsOf_set hk with hk | hk
    · exact .inl hk
    · rcases hv' k hk with hk | hk
      · exact .inl (ownK_row hi hk)
      · exact .inr hk
  have hlow : ∀ (j : Nat) (q' : Value × List Int), rs[j]? = some q' → i ≠ j → ∀ k, some k = q'.1.ownBlock → k < W.heap.size → W'.heap[k]? = W.heap[k]? := fun j q' hj hij k hk hkl => hg.block k hkl (fun e => h.ap i j r q' hi hj hij k e hk)
  refine ⟨h.law.grow hkept h.far hg.os hg.tape hg.output hm, h.rl.at_ (fun k hk hl => hg.block k hl (fun e => ?_)), fun j q' hj => ?_, fun a b ra rb ha hb hab => ?_, fun k hk => ?_⟩
  · obtain ⟨c1, e1⟩ := Kd.R_typed h.rl k hk.symm
    obtain ⟨c2, e2⟩ := Kd.R_typed (h.rr i r hi) k e.symm
    rw [e1] at e2; injection e2 with e2; injection e2 with _ e2; exact absurd e2 (by decide)
  · by_cases hij : i = j
    · subst hij
      rw [List.getElem?_set_self hlt] at hj
      obtain rfl := Option.some.inj hj
      exact hO'
    · rw [List.getElem?_set_ne hij] at hj
      exact (h.rr j q' hj).at_ (hlow j q' hj hij)
  · have key : ∀ (b : Nat) (rb : Value × List Int), i ≠ b → rs[b]? = some rb → Ap v' rb.1 := by
      intro b rb hib hb k hk he
      rcases hv' k hk with hk | hk
      · exact h.ap i b r rb hi hb hib k hk he
      · have := (h.rr b rb hb).lt k he
        omega
    by_cases hia : i = a
    · subst hia
      rw [List.getElem?_set_self hlt] at ha
      obtain rfl := Option.some.inj ha
      rw [List.getElem?_set_ne hab] at hb
      exact key b rb hab hb
    · rw [List.getElem?_set_ne hia] at ha
      by_cases hib : i = b
      · subst hib
        rw [List.getElem?_set_self hlt] at hb
        obtain rfl := Option.some.inj hb
        exact (key a ra hia ha).symm
      · rw [List.getElem?_set_ne hib] at hb
        exact h.ap a b ra rb ha hb hab
  · rcases hm k hk with hk | hk
    · exact h.far k hk
    · exact row_far h hk.1
/-- A life is written. -/
theorem OnceW.put (h : OnceW w W X b1 b4 pw pj pr v xs g m vl l rs) {l' : List S48} (ho : Own k48 48 W' vl l') (hg : W.grownBy W' vl.ownBlock) : OnceW w W' X b1 b4 pw pj pr v xs g m vl l' rs := by
  have hkept : Kept W W' (OwnK (vsOf vl rs)) := Kept.of_grown hg (Kept.refl _ _) (fun k hk => .inl (ownK_life hk.symm))
  refine ⟨h.law.write hkept h.far hg.os hg.tape hg.output, ho, fun j q hj => (h.rr j q hj).at_ (fun k hk hl => hg.block k hl (fun e => ?_)), h.ap, h.far⟩
  obtain ⟨c1, e1⟩ := Kd.R_typed (h.rr j q hj) k hk.symm
  obtain ⟨c2, e2⟩ := Kd.R_typed h.rl k e.symm
  rw [e1] at e2; injection e2 with e2; injection e2 with _ e2; exact absurd e2 (by decide)
/-- The start: the lives are new, the lists are nil. -/
theorem nil_own : ∀ W : World, Own (Kd.int .i64) 3 W (.slice none 0 0) [] := fun W => Kd.R_nil _ _ _ _ _
theorem made48 (W : World) (n : Nat) (hn : n ≤ 60) : Own k48 48 (W.alloc (.cells (madeCells #[.int .i64 0, .int .i64 0, .int .i64 0] (n * 3)) 48)) (.slice (some ⟨W.heap.size, 0, none⟩) n n) (List.replicate n ⟨0, 0, 0⟩) := by
  refine Own.of (ok := fun _ => True) (base := 0) rfl ⟨fun _ _ => trivial, (madeCells #[.int .i64 0, .int .i64 0, .int .i64 0] (n * 3)).toList, ?_, ?_⟩
  · have := World.ownsRow_lit (base := 0) (e := 48) (size := 3) W (madeCells #[.int .i64 0, .int .i64 0, .int .i64 0] (n * 3)) n (Nat.zero_le _) (by simp [maxLen]; omega) (by simp [size_madeCells])
    rw [List.length_replicate]
    exact this
  · exact Kd.reps_made (z := .agg #[.int .i64 0, .int .i64 0, .int .i64 0]) (size := 3) rfl (by decide) (k48_mkM _ _ _ (⟨0, 0, 0⟩ : S48)) n
theorem once_start (h : Law w W (fun _ => False) X b1 b4 pw pj pr v xs g m) (n : Nat) (hn : n ≤ 60) : OnceW w (W.alloc (.cells (madeCells #[.int .i64 0, .int .i64 0, .int .i64 0] (n * 3)) 48)) X b1 b4 pw pj pr v xs g m (.slice (some ⟨W.heap.size, 0, none⟩) n n) (List.replicate n ⟨0, 0, 0⟩) [(.slice none 0 0, []), (.slice none 0 0, []), (.slice none 0 0, []), (.slice none 0 0, [])] := by
  have hk : ∀ k, OwnK (vsOf (.slice (some ⟨W.heap.size, 0, none⟩) n n) [(.slice none 0 0, []), (.slice none 0 0, []), (.slice none 0 0, []), (.slice none 0 0, [])]) k → k = W.heap.size := by
    rintro k ⟨u, hu, he⟩
    simp [vsOf] at hu
    rcases hu with rfl | rfl
    · simpa [Value.ownBlock] using he
    · simp [Value.ownBlock] at he
  have hnil : ∀ (i : Nat) (r : Value × List Int), ([(.slice none 0 0, []), (.slice none 0 0, []), (.slice none 0 0, []), (.slice none 0 0, [])] : List (Value × List Int))[i]? = some r → r = (.slice none 0 0, []) := by
    intro i r hi
    have := List.mem_of_getElem? hi
    simp at this
    exact this
  refine ⟨(h.box _).less hk, made48 W n hn, fun i r hi => ?_, fun i j r q hi hj hij k hk2 => ?_, fun k hk2 => own_far h k (hk k hk2)⟩
  · rw [hnil i r hi]; exact nil_own _
  · rw [hnil i r hi] at hk2; simp [Value.ownBlock] at hk2
theorem own48_put {b n c : Nat} (h : Own k48 48 W (.slice (some ⟨b, 0, none⟩) n c) l) (j : Int) (h0 : 0 ≤ j) (h1 : j < n) (x : S48) :
    Own k48 48 (((W.setCell ⟨b, j.toNat * 3, none⟩ (.int .i64 x.f0)).setCell ⟨b, j.toNat * 3 + 1, none⟩ (.int .i64 x.f1)).setCell ⟨b, j.toNat * 3 + 2, none⟩ (.int .i64 x.f2)) (.slice (some ⟨b, 0, none⟩) n c) (l.set j.toNat x) ∧
    W.grownBy (((W.setCell ⟨b, j.toNat * 3, none⟩ (.int .i64 x.f0)).setCell ⟨b, j.toNat * 3 + 1, none⟩ (.int .i64 x.f1)).setCell ⟨b, j.toNat * 3 + 2, none⟩ (.int .i64 x.f2)) (some b) := by
  obtain ⟨c', hl, hM, hc, hf⟩ := Kd.R_elem h z48 j h0 h1
  have hl3 : c'.length = 3 := hl
  have hmm : k48.M W 0 (fun _ => False) x (c'.take 0 ++ [.int .i64 x.f0, .int .i64 x.f1, .int .i64 x.f2] ++ c'.drop (0 + 3)) := by
    rw [List.take_zero, List.nil_append, List.drop_eq_nil_of_le (by omega), List.append_nil]
    exact k48_mkM W 0 _ x
  exact Kd.R_seg (seg := [.int .i64 x.f0, .int .i64 x.f1, .int .i64 x.f2]) (j := 0) h j h0 h1 hl hc (by show 0 + 3 ≤ 3; omega) hmm (fun _ hk => hk.elim)
theorem own48_free {b n c : Nat} (h : Own k48 48 W (.slice (some ⟨b, 0, none⟩) n c) l) (j : Int) (h0 : 0 ≤ j) (h1 : j < n) : ∀ i, W.frozen? ⟨b, j.toNat * 3 + i, none⟩ = false := by
  obtain ⟨c', hl, hM, hc, hf⟩ := Kd.R_elem h z48 j h0 h1
  exact hf
theorem lives_no {pw : Int} {js : List Int} {k p j s : Int} (hf : FolOk pw js l k p j s) (hj : j < 0 ∨ k = 8) : lifeL l ⟨k, p, j, s⟩ = l ∧ k ≠ 1 ∧ k ≠ 4 ∧ k ≠ 5 ∧ k ≠ 6 ∧ k ≠ 9 := by
  have key : k ≠ 1 ∧ k ≠ 4 ∧ k ≠ 5 ∧ k ≠ 6 ∧ k ≠ 9 := by
    unfold FolOk at hf
    omega
  refine ⟨?_, key⟩
  unfold lifeL
  simp only []
  rw [if_neg key.1, if_neg key.2.1, if_neg key.2.2.1, if_neg key.2.2.2.1, if_neg key.2.2.2.2]
theorem cut_any (A : Option Addr) (c : Nat) (ys : List Int) (j : Nat) (hj : j ≤ ys.length) (hc : ys.length ≤ c) :
    ∃ (A' : Option Addr) (c' : Nat), (∀ W : World, (Instr.slice 24 (.slice A ys.length c) (some (.int .i64 (j : Int))) none none).run Try.prog W = .ok (.slice A' (ys.drop j).length c') W) ∧ (ys.drop j).length ≤ c' ∧
      (∀ w : World, Kd.C (Kd.int .i64) w A ys.length ys → Kd.C (Kd.int .i64) w A' (ys.drop j).length (ys.drop j)) := by
  obtain ⟨i0, hi, hzz⟩ := Option.map_eq_some_iff.1 info3
  simp only [Prod.mk.injEq] at hzz
  obtain ⟨hz0, hz1, hz2⟩ := hzz
  have h := cut_from (P := Try.prog) 24 3 .i64 Try.underlying24 hi 1 hz1 A ys.length c j (by omega) (by omega)
  refine ⟨if c = j then A else A.map (·.add (j * (Kd.int .i64).sz)), c - j, fun W => ?_, by rw [List.length_drop]; omega, fun w hC => Kd.C_drop hC hj hc⟩
  rw [h W, List.length_drop]
  simp [show (Kd.int IntKind.i64).sz = 1 from rfl]
theorem cut_head (A : Option Addr) (c : Nat) (ys : List Int) (j : Nat) (hj : j ≤ ys.length) (hc : ys.length ≤ c) :
    (∀ W : World, (Instr.slice 24 (.slice A ys.length c) none (some (.int .i64 (j : Int))) none).run Try.prog W = .ok (.slice A (ys.take j).length c) W) ∧ (ys.take j).length ≤ c ∧
      (∀ w : World, Kd.C (Kd.int .i64) w A ys.length ys → Kd.C (Kd.int .i64) w A (ys.take j).length (ys.take j)) := by
  obtain ⟨i0, hi, hzz⟩ := Option.map_eq_some_iff.1 info3
  have h := cut_to (P := Try.prog) 24 3 .i64 Try.underlying24 hi A ys.length c j (by omega) (by omega) hc
  refine ⟨fun W => ?_, by rw [List.length_take]; omega, fun w hC => Kd.C_take hC hj⟩
  rw [h W, List.length_take]
  simp
  omega
end
end Go.Proofs.Ythcchpbidbbiaaa.Sc
namespace Go.Proofs.Ythcchpbidbbiaaa.Sc
open Go.RowKit Go.Proofs.YthcchpbidbbiaaaW.PrintWords Go.Proofs.YthcchpbidbbiaaaW.PrintLast Go.Proofs.YthcchpbidbbiaaaW.PrintMore Go.Proofs.Ythcchpbidbbiaaa.PSchedSide
set_option linter.unusedVariables false
set_option linter.unusedSimpArgs false
theorem third_new (w : World) (a b c : Obj) : (((w.alloc a).alloc b).alloc c).heap[w.heap.size + 2]? = some c := by
  have h := heap_alloc_new ((w.alloc a).alloc b) c
  have e : ((w.alloc a).alloc b).heap.size = w.heap.size + 2 := by simp
  rw [e] at h
  exact h
set_option maxHeartbeats 8000000 in
set_option maxRecDepth 100000 in
theorem lives1 (y0 y1 y2 p j s : Int) (w : World) : Calls Try.prog 22 #[.agg #[.int .i64 y0, .int .i64 y1, .int .i64 y2], .agg #[.int .i64 1, .int .i64 p, .int .i64 j, .int .i64 s]] w fun e w' => e = .returned (.agg #[.int .i64 1, .int .i64 y1, .int .i64 y2]) ∧ Below w.heap.size w w' := by
  go_enter Try.func22, Try.ntmps22
  go_wp2
  exact bodyPost_ret (results_cell_row rfl _ _ (w.heap.size + 2) 48 _ (0, 0) _ rfl (third_new _ _ _ _) Try.underlying48 rfl (by kernel_rfl)) rfl ⟨rfl, by repeat (first | exact Below.refl _ _ | apply below_alloc)⟩
set_option maxHeartbeats 8000000 in
set_option maxRecDepth 100000 in
theorem lives4 (y0 y1 y2 p j s : Int) (w : World) : Calls Try.prog 22 #[.agg #[.int .i64 y0, .int .i64 y1, .int .i64 y2], .agg #[.int .i64 4, .int .i64 p, .int .i64 j, .int .i64 s]] w fun e w' => e = .returned (.agg #[.int .i64 2, .int .i64 p, .int .i64 y2]) ∧ Below w.heap.size w w' := by
  go_enter Try.func22, Try.ntmps22
  go_wp2
  exact bodyPost_ret (results_cell_row rfl _ _ (w.heap.size + 2) 48 _ (0, 0) _ rfl (third_new _ _ _ _) Try.underlying48 rfl (by kernel_rfl)) rfl ⟨rfl, by repeat (first | exact Below.refl _ _ | apply below_alloc)⟩
set_option maxHeartbeats 8000000 in
set_option maxRecDepth 100000 in
theorem lives5 (y0 y1 y2 p j s : Int) (w : World) (hb : -1000 ≤ y2 ∧ y2 ≤ 1000) : Calls Try.prog 22 #[.agg #[.int .i64 y0, .int .i64 y1, .int .i64 y2], .agg #[.int .i64 5, .int .i64 p, .int .i64 j, .int .i64 s]] w fun e w' => e = .returned (.agg #[.int .i64 y0, .int .i64 y1, .int .i64 (y2 + 1)]) ∧ Below w.heap.size w w' := by
  obtain ⟨hb0, hb1⟩ := hb
  go_enter Try.func22, Try.ntmps22
  go_wp2
  exact bodyPost_ret (results_cell_row rfl _ _ (w.heap.size + 2) 48 _ (0, 0) _ rfl (third_new _ _ _ _) Try.underlying48 rfl (by kernel_rfl)) rfl ⟨rfl, by repeat (first | exact Below.refl _ _ | apply below_alloc)⟩
set_option maxHeartbeats 8000000 in
set_option maxRecDepth 100000 in
theorem lives6 (y0 y1 y2 p j s : Int) (w : World) : Calls Try.prog 22 #[.agg #[.int .i64 y0, .int .i64 y1, .int .i64 y2], .agg #[.int .i64 6, .int .i64 p, .int .i64 j, .int .i64 s]] w fun e w' => e = .returned (.agg #[.int .i64 3, .int .i64 y1, .int .i64 y2]) ∧ Below w.heap.size w w' := by
  go_enter Try.func22, Try.ntmps22
  go_wp2
  exact bodyPost_ret (results_cell_row rfl _ _ (w.heap.size + 2) 48 _ (0, 0) _ rfl (third_new _ _ _ _) Try.underlying48 rfl (by kernel_rfl)) rfl ⟨rfl, by repeat (first | exact Below.refl _ _ | apply below_alloc)⟩
set_option maxHeartbeats 8000000 in
set_option maxRecDepth 100000 in
theorem lives9 (y0 y1 y2 p j s : Int) (w : World) : Calls Try.prog 22 #[.agg #[.int .i64 y0, .int .i64 y1, .int .i64 y2], .agg #[.int .i64 9, .int .i64 p, .int .i64 j, .int .i64 s]] w fun e w' => e = .returned (.agg #[.int .i64 4, .int .i64 y1, .int .i64 y2]) ∧ Below w.heap.size w w' := by
  go_enter Try.func22, Try.ntmps22
  go_wp2
  exact bodyPost_ret (results_cell_row rfl _ _ (w.heap.size + 2) 48 _ (0, 0) _ rfl (third_new _ _ _ _) Try.underlying48 rfl (by kernel_rfl)) rfl ⟨rfl, by repeat (first | exact Below.refl _ _ | apply below_alloc)⟩
end Go.Proofs.Ythcchpbidbbiaaa.Sc
