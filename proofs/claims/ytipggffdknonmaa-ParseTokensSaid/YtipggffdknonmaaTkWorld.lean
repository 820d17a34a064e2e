/- A string's iterator somewhere in memory: its next rune, and what stays as it was. -/
import Derived.Test.YtipggffdknonmaaTkNum
namespace Go.Proofs.Ytipggffdknonmaa.Tk
open Go.RowKit Go.Proofs.YtipggffdknonmaaW.PrintWords Go.Proofs.YtipggffdknonmaaW.PrintLast Go.Proofs.YtipggffdknonmaaW.PrintMore
set_option linter.unusedVariables false
def setIt (W : World) (B : Nat) (s : ByteArray) (p : Nat) : World := { W with heap := W.heap.setIfInBounds B (.stringIter s p) }
theorem setIt_size (W : World) (B : Nat) (s : ByteArray) (p : Nat) : (setIt W B s p).heap.size = W.heap.size := by simp [setIt]
theorem setIt_at {W : World} {B : Nat} (s : ByteArray) (p : Nat) (h : B < W.heap.size) : (setIt W B s p).heap[B]? = some (.stringIter s p) := by
  simp [setIt, h]
theorem setIt_other {W : World} {B k : Nat} (s : ByteArray) (p : Nat) (h : k ≠ B) : (setIt W B s p).heap[k]? = W.heap[k]? := by
  simp only [setIt]
  rw [Array.getElem?_setIfInBounds_ne (Ne.symm h)]
theorem blk_lt' {W : World} {B : Nat} {o : Obj} (h : W.heap[B]? = some o) : B < W.heap.size := by
  rcases Nat.lt_or_ge B W.heap.size with h' | h'
  · exact h'
  · rw [Array.getElem?_eq_none h'] at h; cases h
theorem setIt_keep (W : World) (B : Nat) (s : ByteArray) (p : Nat) : KeepBut W (setIt W B s p) B none :=
  ⟨by rw [setIt_size]; exact Nat.le_refl _, fun i _ hi _ => setIt_other s p hi⟩
theorem setIt_below {w W : World} {C B : Nat} (s : ByteArray) (p : Nat) (h : Below C w W) (hB : C ≤ B) : Below C w (setIt W B s p) :=
  ⟨h.os, h.tape, h.output, by rw [setIt_size]; exact h.size, fun k hk => by rw [setIt_other s p (by omega)]; exact h.block k hk⟩
theorem setIt_pos {W : World} {B : Nat} (s : ByteArray) (p : Nat) (h : B < W.heap.size) : (setIt W B s p).iterPos B = p := by
  simp only [World.iterPos, setIt_at s p h]
theorem next_low {P : Program} (W : World) (B : Nat) (s : ByteArray) (p : Nat) (ty : TypeId) (hB : W.heap[B]? = some (.stringIter s p)) (h : p < s.size) (ha : (s[p]'h).toNat < 128) :
    (Instr.next (.pointer (some ⟨B, 0, none⟩)) true ty).run P W = .ok (.tuple #[.bool true, .int .i64 p, .int .i32 (s[p]'h).toNat]) (setIt W B s (p + 1)) := by
  simp only [Instr.next, getObj, setObj, Sem.run_bind, Sem.run, hB, Result.andThen, h, if_true, decode_ascii s p h ha]
  simp [goInt, setIt]
theorem next_any {P : Program} (W : World) (B : Nat) (s : ByteArray) (p : Nat) (ty : TypeId) (hB : W.heap[B]? = some (.stringIter s p)) (h : p < s.size) :
    (Instr.next (.pointer (some ⟨B, 0, none⟩)) true ty).run P W = .ok (.tuple #[.bool true, .int .i64 p, .int .i32 (Utf8.decode s p).1]) (setIt W B s (p + (Utf8.decode s p).2)) := by
  simp only [Instr.next, getObj, setObj, Sem.run_bind, Sem.run, hB, Result.andThen, h, if_true]
  simp [goInt, setIt]
theorem next_end {P : Program} (W : World) (B : Nat) (s : ByteArray) (p : Nat) (ty : TypeId) (hB : W.heap[B]? = some (.stringIter s p)) (h : ¬ p < s.size) :
    (Instr.next (.pointer (some ⟨B, 0, none⟩)) true ty).run P W = .ok (.tuple #[.bool false]) W := by
  simp [Instr.next, getObj, Sem.run, hB, h]
end Go.Proofs.Ytipggffdknonmaa.Tk
