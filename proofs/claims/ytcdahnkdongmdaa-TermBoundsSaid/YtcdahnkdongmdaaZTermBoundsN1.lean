/- Texts of the claim TermBounds, merged, without what it does not use. -/
import Derived.Test.YtcdahnkdongmdaaZTermBoundsM1
namespace Go.Proofs.Ytcdahnkdongmdaa.All
open Go.RowKit
def szOf (r : Int) : Int := if r < 128 then 1 else if r < 2048 then 2 else if r < 65536 then 3 else 4
def Bytes (l : List Int) : Prop := ∀ x ∈ l, 0 ≤ x ∧ x ≤ 255
theorem Bytes.drop {l : List Int} (h : Bytes l) (n : Nat) : Bytes (l.drop n) := fun x hx => h x (List.mem_of_mem_drop hx)
theorem Bytes.take {l : List Int} (h : Bytes l) (n : Nat) : Bytes (l.take n) := fun x hx => h x (List.mem_of_mem_take hx)
theorem Bytes.append {l m : List Int} (h : Bytes l) (k : Bytes m) : Bytes (l ++ m) := fun x hx => (List.mem_append.mp hx).elim (h x) (k x)
theorem Bytes.nil : Bytes [] := fun x hx => by cases hx
theorem Bytes.of_wf {l : List Int} (h : ∀ x ∈ l, (Lit.int .u8 x).wf = true) : Bytes l := fun x hx => by
  have := h x hx
  simpa [Lit.wf, IntKind.min, IntKind.max, IntKind.signed, IntKind.bits] using this
theorem put_length (r : Int) : (putOf r).length = (szOf r).toNat := by
  unfold putOf szOf
  split
  · rfl
  · split
    · rfl
    · split <;> rfl
theorem put_len (r : Int) : ((putOf r).length : Int) = szOf r := by
  unfold putOf szOf
  split
  · rfl
  · split
    · rfl
    · split <;> rfl
theorem sz_range (r : Int) : 1 ≤ szOf r ∧ szOf r ≤ 4 := by unfold szOf; split <;> (try split) <;> (try split) <;> omega
theorem put_bytes {r : Int} (h : mayB r = true) : Bytes (putOf r) := by
  obtain ⟨h0, h1, h2⟩ := (mayB_iff r).mp h
  intro x hx
  unfold putOf at hx
  split at hx
  · simp at hx; omega
  · split at hx
    · simp at hx; omega
    · split at hx
      · simp at hx; omega
      · simp at hx; omega
end Go.Proofs.Ytcdahnkdongmdaa.All
