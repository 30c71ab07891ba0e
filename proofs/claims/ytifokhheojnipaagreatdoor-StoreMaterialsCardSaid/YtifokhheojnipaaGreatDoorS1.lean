/- slices.Sorted of what maps.Keys gives, for maps by ints that are held. -/
import Derived.Test.YtifokhheojnipaaGreatDoorA2
import Derived.Test.YtifokhheojnipaaGreatDoorA1
import Derived.Test.YtifokhheojnipaaGreatDoorProg
import Derived.RangeFuncNested
import Derived.RangeFuncBound
import Derived.RangeFuncCalls
import Derived.RangeFuncLeaves
import Derived.RangeFuncStops
import Derived.RangeFuncSeq
import Derived.RangeFuncGives
import Derived.RangeFuncBox
import Derived.RangeFuncWrites
import Derived.Maps.AppendAt
import Derived.Sort.MapsRangeIn
import Derived.Sort.KeysCollected
import Derived.Lib.SlKeysI
import Derived.WalkKit
import Derived.OwnWalkIn
import Derived.TacticsInMore
import Derived.RegionIn
import Derived.LoopNIn
import Derived.LoopIn
import Derived.Shelf.Abstract
import Derived.Test.YtifokhheojnipaaGreatDoorG7
import Derived.Laws.Externs
import Derived.MapKept
import Derived.KernelRfl
set_option linter.unusedVariables false
set_option linter.unusedSimpArgs false
set_option linter.unnecessarySimpa false
set_option linter.unusedVariables false
set_option linter.unusedSimpArgs false
namespace Go.Q18
open Go.RowKit Go.SL
end Go.Q18
namespace Go.Proofs.YtifokhheojnipaaGreatDoor
open Go.RowKit Go.Maps Go.Sort Go.Shelf
attribute [local go_sem] Oper.semAt_some
end Go.Proofs.YtifokhheojnipaaGreatDoor
namespace Go.Q18
open Go.RowKit Go.SL
end Go.Q18
namespace Go.Proofs.YtifokhheojnipaaGreatDoor
open Go.RowKit Go.Maps Go.Sort Go.Shelf
end Go.Proofs.YtifokhheojnipaaGreatDoor
namespace Go.Proofs.YtifokhheojnipaaGreatDoor
open Go.RowKit Go.Maps Go.Sort Go.Shelf Go.SL Go.Q18
end Go.Proofs.YtifokhheojnipaaGreatDoor
namespace Go.Proofs.YtifokhheojnipaaGreatDoor
open Go.RowKit Go.SL Go.Q18
attribute [local irreducible] Go.SL.RW Go.SL.CW Go.SL.RD Go.SL.Hd Go.SL.St
end Go.Proofs.YtifokhheojnipaaGreatDoor
namespace Go.SL
open Go.RowKit
theorem RD.skip {P : Program} {n : Nat} {ops : Array Oper} {soft : List Nat} {S : World → Prop} {Q : Exit → Fr → World → Prop} {f : Nat} {listed : Array Bool} {τ : Fr} {w : World} (i : Nat) {oi : Oper} (hi : ops[i]? = some oi) (hc : Region.ready .any ops listed = [i]) (hw : Wd n ops oi τ false) (hS : S w)
    (h : RD P n ops soft S Q f (listed.setIfInBounds i true) (upo τ oi.dst undef) w) : RD P n ops soft S Q (f + 1) listed τ w := by
  unfold RD wpC
  refine ⟨fun h => (by rw [hc] at h; cases h), fun j hj => ?_⟩
  rw [hc] at hj
  obtain rfl : j = i := by simpa using hj
  unfold wpOp
  simp only [hi]
  rw [if_neg (by rw [show Region.wanted oi (yielded ops (AF n τ).tmps) = false from hw]; decide)]
  refine ⟨fun _ => hS, ?_⟩
  rw [AF_put]; exact h
end Go.SL
namespace Go.Q18
open Go.RowKit Go.SL
structure Sink (zs : List Int) (i j : Nat) (A B C : List Int) (x : Int) : Prop where
  perm : (A ++ x :: (B ++ C)).Perm zs
  len : A.length = j
  rise : (A ++ B).Pairwise (· ≤ ·)
  low : ∀ y ∈ B, x ≤ y
  sum : A.length + B.length = i
theorem Sink.start {zs L : List Int} {i : Nat} {x : Int} (hp : L.Perm zs) (hs : (L.take i).Pairwise (· ≤ ·)) (hx : L[i]? = some x) : Sink zs i i (L.take i) [] (L.drop (i + 1)) x ∧ L = L.take i ++ x :: ([] ++ L.drop (i + 1)) := by
  obtain ⟨hi, _⟩ := List.getElem?_eq_some_iff.1 hx
  have hc := cut_at hx
  have hl : (L.take i).length = i := by rw [List.length_take]; omega
  exact ⟨⟨by rw [List.nil_append, ← hc]; exact hp, hl, by simpa using hs, by simp, by simp [hl]⟩, hc⟩
end Go.Q18
namespace Go.Proofs.YtifokhheojnipaaGreatDoor
open Go.RowKit Go.SL Go.Q18
attribute [local irreducible] Go.SL.RW Go.SL.CW Go.SL.RD Go.SL.Hd Go.SL.St
end Go.Proofs.YtifokhheojnipaaGreatDoor
namespace Go.SL
open Go.RowKit
end Go.SL
namespace Go.Q18
open Go.RowKit Go.SL
end Go.Q18
namespace Go.Proofs.YtifokhheojnipaaGreatDoor
open Go.RowKit Go.SL Go.Q18
attribute [local irreducible] Go.SL.RW Go.SL.CW Go.SL.RD Go.SL.Hd Go.SL.St
end Go.Proofs.YtifokhheojnipaaGreatDoor
namespace Go.Q18
open Go.RowKit Go.SL
theorem Sink.out {zs : List Int} {i j : Nat} {A B C : List Int} {x : Int} (h : Sink zs i j A B C x) : (A ++ x :: (B ++ C)).take (i + 1) = A ++ x :: B := by
  have e : A ++ x :: (B ++ C) = (A ++ x :: B) ++ C := by simp
  rw [e, List.take_left' (by have := h.sum; simp only [List.length_append, List.length_cons]; omega)]
end Go.Q18
namespace Go.Proofs.YtifokhheojnipaaGreatDoor
open Go.RowKit Go.SL Go.Q18
attribute [local irreducible] Go.SL.RW Go.SL.CW Go.SL.RD Go.SL.Hd Go.SL.St
end Go.Proofs.YtifokhheojnipaaGreatDoor
namespace Go.Proofs.YtifokhheojnipaaGreatDoor
open Go.RowKit Go.SL Go.GX
set_option linter.unusedVariables false
set_option linter.unusedSimpArgs false
section
variable {P : Program} (w : World)
end
end Go.Proofs.YtifokhheojnipaaGreatDoor
