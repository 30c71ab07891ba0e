/- What the calls of the keyring do with keys, plainly. -/
import Derived.Test.YtjpjejldinpcnaaKA1
namespace Go.K13
open Go.RowKit Go.SL
set_option linter.unusedVariables false
set_option linter.unusedSimpArgs false
def kindF (c n : Int) : Int := if c < 0 then (-(c + 1)) % n else c % n
def ring (ks : RK) (id : Int) : Option (Bool × List Ver) := if 1 ≤ id then ks[(id - 1).toNat]? else none
def ver (vs : List Ver) (n : Int) : Option Ver := if 1 ≤ n then vs[(n - 1).toNat]? else none
def kCreate (ks : RK) (m : K32) : Int × Int × RK := if 8 ≤ ks.length then (0, 134, ks) else (ks.length + 1, 0, ks ++ [(false, [⟨m, 0, false⟩])])
def rRotate (ks : RK) (id : Int) (o : Bool) (vs : List Ver) (m : K32) : Int × Int × RK := if 4 ≤ vs.length then (0, 134, ks) else (vs.length + 1, 0, ks.set (id - 1).toNat (o, vs ++ [⟨m, 0, false⟩]))
def kRotate (ks : RK) (id : Int) (m : K32) : Int × Int × RK := match ring ks id with
  | none => (0, 130, ks)
  | some (o, vs) => rRotate ks id o vs m
def kSwitch (ks : RK) (id : Int) (on : Bool) : Int × RK := match ring ks id with
  | none => (130, ks)
  | some (o, vs) => (0, ks.set (id - 1).toNat (!on, vs))
def rDestroy (ks : RK) (id : Int) (o : Bool) (vs : List Ver) (n : Int) (x : Ver) : Int × RK := if x.gone = true then (132, ks) else (0, ks.set (id - 1).toNat (o, vs.set (n - 1).toNat ⟨kz, x.uses, true⟩))
def kDestroy (ks : RK) (id n : Int) : Int × RK := match ring ks id with
  | none => (130, ks)
  | some (o, vs) => match ver vs n with
    | none => (130, ks)
    | some x => rDestroy ks id o vs n x
def rUse (ks : RK) (id : Int) (o : Bool) (vs : List Ver) (x : Ver) : Int × Int × K32 × Int × RK :=
  if o = true then (0, 0, kz, 131, ks) else if x.gone = true then (0, 0, kz, 132, ks) else if 16 ≤ x.uses then (0, 0, kz, 133, ks) else (vs.length, x.uses, x.mat, 0, ks.set (id - 1).toNat (o, vs.set (vs.length - 1) ⟨x.mat, x.uses + 1, x.gone⟩))
def kUse (ks : RK) (id : Int) : Int × Int × K32 × Int × RK := match ring ks id with
  | none => (0, 0, kz, 130, ks)
  | some (o, vs) => match vs[vs.length - 1]? with
    | none => (0, 0, kz, 130, ks)
    | some x => rUse ks id o vs x
def rMat (o : Bool) (x : Ver) : K32 × Int := if o = true then (kz, 131) else if x.gone = true then (kz, 132) else (x.mat, 0)
def kMat (ks : RK) (id n : Int) : K32 × Int := match ring ks id with
  | none => (kz, 130)
  | some (o, vs) => match ver vs n with
    | none => (kz, 130)
    | some x => rMat o x
theorem ring_some {ks : RK} {id : Int} {r : Bool × List Ver} (h : ring ks id = some r) : 1 ≤ id ∧ id ≤ ks.length ∧ ks[(id - 1).toNat]? = some r := by
  unfold ring at h
  split at h
  · have := (List.getElem?_eq_some_iff.1 h).1
    exact ⟨by omega, by omega, h⟩
  · cases h
theorem ring_none {ks : RK} {id : Int} (h : ring ks id = none) : id < 1 ∨ id > ks.length := by
  unfold ring at h
  split at h
  · have := List.getElem?_eq_none_iff.1 h; omega
  · omega
theorem ver_some {vs : List Ver} {n : Int} {x : Ver} (h : ver vs n = some x) : 1 ≤ n ∧ n ≤ vs.length ∧ vs[(n - 1).toNat]? = some x := by
  unfold ver at h
  split at h
  · have := (List.getElem?_eq_some_iff.1 h).1
    exact ⟨by omega, by omega, h⟩
  · cases h
theorem ver_none {vs : List Ver} {n : Int} (h : ver vs n = none) : n < 1 ∨ n > vs.length := by
  unfold ver at h
  split at h
  · have := List.getElem?_eq_none_iff.1 h; omega
  · omega
theorem KOk.row {ks : RK} (h : KOk ks) {i : Nat} {o : Bool} {vs : List Ver} (hk : ks[i]? = some (o, vs)) : ROk vs := h.2 _ (List.mem_of_getElem? hk)
theorem ROk.ver {vs : List Ver} (h : ROk vs) {i : Nat} {x : Ver} (hx : vs[i]? = some x) : VOk x := h.2.2 x (List.mem_of_getElem? hx)
theorem ROk.more {vs : List Ver} (h : ROk vs) (hl : vs.length < 4) {x : Ver} (hx : VOk x) : ROk (vs ++ [x]) := by
  refine ⟨by simp, by simp; omega, fun y hy => ?_⟩
  rcases List.mem_append.1 hy with h1 | h1
  · exact h.2.2 y h1
  · rw [List.mem_singleton.1 h1]; exact hx
theorem ROk.one {x : Ver} (hx : VOk x) : ROk [x] := ⟨by simp, by simp, fun y hy => by rw [List.mem_singleton.1 hy]; exact hx⟩
theorem KOk.more {ks : RK} (h : KOk ks) (hl : ks.length < 8) {o : Bool} {vs : List Ver} (hv : ROk vs) : KOk (ks ++ [(o, vs)]) := by
  refine ⟨by simp; omega, fun r hr => ?_⟩
  rcases List.mem_append.1 hr with h1 | h1
  · exact h.2 r h1
  · rw [List.mem_singleton.1 h1]; exact hv
end Go.K13
