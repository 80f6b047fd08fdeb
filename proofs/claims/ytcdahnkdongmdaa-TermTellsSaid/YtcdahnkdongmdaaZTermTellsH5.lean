/- Texts of the claim TermTells, merged, without what it does not use. -/
import Derived.Test.YtcdahnkdongmdaaZTermTellsH4
import Derived.Deep.RegionHeld3
namespace Go.Proofs.Ytcdahnkdongmdaa.All
namespace Own
open Go.RowKit Go.Shelf Go.Proofs.YtcdahnkdongmdaaW.PrintWords Go.Proofs.YtcdahnkdongmdaaW.PrintLast Go.Proofs.YtcdahnkdongmdaaW.PrintMore
set_option linter.unusedVariables false
set_option linter.unusedSimpArgs false
attribute [local go_sem] Oper.semAt_some
theorem both1_calls (x y : Bool) (w : World) : Calls Try.prog 58 #[.bool x, .bool y] w fun e w' => e = .returned (.bool (x && y)) ∧ Below w.heap.size w w' := by
  cases x <;> cases y <;> (go_enter Try.func58, Try.ntmps58; go_wp2; go_ret; exact ⟨rfl, Below.refl _ _⟩)
set_option maxHeartbeats 2000000 in
set_option maxRecDepth 100000 in
theorem two1_both
    (b5 b7 b8 : Nat) (A1 A2 : Option Addr) (c1 c2 : Nat) (l1 l2 : List S35) (n : Int) (w : World)
    (h5 : w.cell? ⟨b5, 0, none⟩ = some (.func (.func 58) #[] #[])) (h7 : w.cell? ⟨b7, 0, none⟩ = some (.func (.func 41) #[.slice A1 l1.length c1] #[])) (h8 : w.cell? ⟨b8, 0, none⟩ = some (.func (.func 41) #[.slice A2 l2.length c2] #[]))
    (hr1 : Kd.C k35 w A1 l1.length l1) (hr2 : Kd.C k35 w A2 l2.length l2) :
    Calls Try.prog 62 #[.int .i64 n, .pointer (some ⟨b5, 0, none⟩), .pointer (some ⟨b7, 0, none⟩), .pointer (some ⟨b8, 0, none⟩)] w fun e w' => e = .returned (.bool (hasB l1 n && hasB l2 n)) ∧ Below w.heap.size w w' := by
  have H1 := Aside0.mk (fun W (h : Below w.heap.size w W) => has_calls A1 c1 l1 n W (Kd.C_below hr1 h))
  have H2 := Aside0.mk (fun W (h : Below w.heap.size w W) => has_calls A2 c2 l2 n W (Kd.C_below hr2 h))
  have HS := Aside0.mk (fun W (h : Below w.heap.size w W) => And.intro ((h.cell (p := ⟨b5, 0, none⟩) (block_lt h5)).trans h5) (And.intro ((h.cell (p := ⟨b7, 0, none⟩) (block_lt h7)).trans h7) ((h.cell (p := ⟨b8, 0, none⟩) (block_lt h8)).trans h8)))
  clear hr1 hr2
  go_enter Try.func62, Try.ntmps62
  go_wp2_with fail
  go_region_held3 (fun W => (W.cell? ⟨b5, 0, none⟩ = some (.func (.func 58) #[] #[]) ∧ W.cell? ⟨b7, 0, none⟩ = some (.func (.func 41) #[.slice A1 l1.length c1] #[]) ∧ W.cell? ⟨b8, 0, none⟩ = some (.func (.func 41) #[.slice A2 l2.length c2] #[])) ∧ Aside0 (Below w.heap.size w W))
    (first | exact ⟨⟨h5, h7, h8⟩, ⟨(Below.refl _ w).drew⟩⟩ | exact ⟨HS.out _ HBX.out, HBX⟩)
    (first
      | (go_at_call 41; (first
          | (refine (H1.out _ (And.right (by assumption : _ ∧ Aside0 (Below w.heap.size w _))).out).mono ?_; rintro e w' ⟨rfl, hb⟩; have HBX := Aside0.mk (Below.trans (And.right (by assumption : _ ∧ Aside0 (Below w.heap.size w _))).out (hb.mono (And.right (by assumption : _ ∧ Aside0 (Below w.heap.size w _))).out.size)))
          | (refine (H2.out _ (And.right (by assumption : _ ∧ Aside0 (Below w.heap.size w _))).out).mono ?_; rintro e w' ⟨rfl, hb⟩; have HBX := Aside0.mk (Below.trans (And.right (by assumption : _ ∧ Aside0 (Below w.heap.size w _))).out (hb.mono (And.right (by assumption : _ ∧ Aside0 (Below w.heap.size w _))).out.size)))))
      | (go_at_call 58; refine (both1_calls _ _ _).mono ?_; rintro e w' ⟨rfl, hb⟩; have HBX := Aside0.mk (Below.trans (And.right (by assumption : _ ∧ Aside0 (Below w.heap.size w _))).out (hb.mono (And.right (by assumption : _ ∧ Aside0 (Below w.heap.size w _))).out.size))))
  go_wp2
  go_ret
  exact ⟨rfl, HBX.out⟩
end Own
end Go.Proofs.Ytcdahnkdongmdaa.All
