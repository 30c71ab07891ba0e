/- Keys whose materials are bytes: the keyring's calls on them, plainly; and what holds them. -/
import Derived.Test.YtjpjejldinpcnaaKA3
import Derived.Test.YtjpjejldinpcnaaAW
namespace Go.K13
open Go.RowKit Go.SL
set_option linter.unusedVariables false
set_option linter.unusedSimpArgs false
abbrev Bytes := List (BitVec 8)
def zB : Bytes := List.replicate 32 0#8
def toK (l : Bytes) : K32 := if h : l.length = 32 then ⟨l.map fun x => (x.toNat : Int), by rw [List.length_map]; exact h⟩ else kz
theorem bk_toK {l : Bytes} (h : l.length = 32) : bk (toK l) = l.map bu8 := by
  unfold toK; rw [dif_pos h]
  simp [bk, bv]
theorem toK_z : toK zB = kz := by
  unfold toK; rw [dif_pos (by simp [zB])]
  apply Subtype.ext
  simp [zB, kz]
structure VerB where
  mat : Bytes
  uses : Int
  gone : Bool
  deriving DecidableEq
abbrev RKB := List (Bool × List VerB)
def VerB.k (v : VerB) : Ver := ⟨toK v.mat, v.uses, v.gone⟩
def rowK (r : Bool × List VerB) : Bool × List Ver := (r.1, r.2.map VerB.k)
def toRK (ks : RKB) : RK := ks.map rowK
/-- every material has 32 bytes -/
def KBok (ks : RKB) : Prop := ∀ r ∈ ks, ∀ v ∈ r.2, v.mat.length = 32
def bring (ks : RKB) (id : Int) : Option (Bool × List VerB) := if 1 ≤ id then ks[(id - 1).toNat]? else none
def bver (vs : List VerB) (n : Int) : Option VerB := if 1 ≤ n then vs[(n - 1).toNat]? else none
def bCreate (ks : RKB) (m : Bytes) : Int × Int × RKB := if 8 ≤ ks.length then (0, 134, ks) else (ks.length + 1, 0, ks ++ [(false, [⟨m, 0, false⟩])])
def brRotate (ks : RKB) (id : Int) (o : Bool) (vs : List VerB) (m : Bytes) : Int × Int × RKB := if 4 ≤ vs.length then (0, 134, ks) else (vs.length + 1, 0, ks.set (id - 1).toNat (o, vs ++ [⟨m, 0, false⟩]))
def bRotate (ks : RKB) (id : Int) (m : Bytes) : Int × Int × RKB := match bring ks id with
  | none => (0, 130, ks)
  | some (o, vs) => brRotate ks id o vs m
def bSwitch (ks : RKB) (id : Int) (on : Bool) : Int × RKB := match bring ks id with
  | none => (130, ks)
  | some (o, vs) => (0, ks.set (id - 1).toNat (!on, vs))
def brDestroy (ks : RKB) (id : Int) (o : Bool) (vs : List VerB) (n : Int) (x : VerB) : Int × RKB := if x.gone = true then (132, ks) else (0, ks.set (id - 1).toNat (o, vs.set (n - 1).toNat ⟨zB, x.uses, true⟩))
def bDestroy (ks : RKB) (id n : Int) : Int × RKB := match bring ks id with
  | none => (130, ks)
  | some (o, vs) => match bver vs n with
    | none => (130, ks)
    | some x => brDestroy ks id o vs n x
def brUse (ks : RKB) (id : Int) (o : Bool) (vs : List VerB) (x : VerB) : Int × Int × Bytes × Int × RKB :=
  if o = true then (0, 0, zB, 131, ks) else if x.gone = true then (0, 0, zB, 132, ks) else if 16 ≤ x.uses then (0, 0, zB, 133, ks) else (vs.length, x.uses, x.mat, 0, ks.set (id - 1).toNat (o, vs.set (vs.length - 1) ⟨x.mat, x.uses + 1, x.gone⟩))
def bUse (ks : RKB) (id : Int) : Int × Int × Bytes × Int × RKB := match bring ks id with
  | none => (0, 0, zB, 130, ks)
  | some (o, vs) => match vs[vs.length - 1]? with
    | none => (0, 0, zB, 130, ks)
    | some x => brUse ks id o vs x
def brMat (o : Bool) (x : VerB) : Bytes × Int := if o = true then (zB, 131) else if x.gone = true then (zB, 132) else (x.mat, 0)
def bMat (ks : RKB) (id n : Int) : Bytes × Int := match bring ks id with
  | none => (zB, 130)
  | some (o, vs) => match bver vs n with
    | none => (zB, 130)
    | some x => brMat o x
theorem ring_k (ks : RKB) (id : Int) : ring (toRK ks) id = (bring ks id).map rowK := by
  unfold ring bring toRK; split <;> simp
theorem ver_k (vs : List VerB) (n : Int) : ver (vs.map VerB.k) n = (bver vs n).map VerB.k := by
  unfold ver bver; split <;> simp
theorem toRK_len (ks : RKB) : (toRK ks).length = ks.length := by simp [toRK]
theorem toRK_set (ks : RKB) (i : Nat) (r : Bool × List VerB) : toRK (ks.set i r) = (toRK ks).set i (rowK r) := by simp [toRK, List.map_set]
theorem create_k (ks : RKB) (m : Bytes) : kCreate (toRK ks) (toK m) = ((bCreate ks m).1, (bCreate ks m).2.1, toRK (bCreate ks m).2.2) := by
  unfold kCreate bCreate
  rw [toRK_len]
  split
  · rfl
  · simp [toRK, rowK, VerB.k]
theorem rotate_k (ks : RKB) (id : Int) (m : Bytes) : kRotate (toRK ks) id (toK m) = ((bRotate ks id m).1, (bRotate ks id m).2.1, toRK (bRotate ks id m).2.2) := by
  unfold kRotate bRotate
  rw [ring_k]
  cases bring ks id with
  | none => rfl
  | some r =>
    obtain ⟨o, vs⟩ := r
    simp only [Option.map_some, rowK, rRotate, brRotate, List.length_map]
    split
    · rfl
    · simp [toRK_set, rowK, VerB.k]
theorem switch_k (ks : RKB) (id : Int) (on : Bool) : kSwitch (toRK ks) id on = ((bSwitch ks id on).1, toRK (bSwitch ks id on).2) := by
  unfold kSwitch bSwitch
  rw [ring_k]
  cases bring ks id with
  | none => rfl
  | some r => obtain ⟨o, vs⟩ := r; simp [toRK_set, rowK]
theorem destroy_k (ks : RKB) (id n : Int) : kDestroy (toRK ks) id n = ((bDestroy ks id n).1, toRK (bDestroy ks id n).2) := by
  unfold kDestroy bDestroy
  rw [ring_k]
  cases bring ks id with
  | none => rfl
  | some r =>
    obtain ⟨o, vs⟩ := r
    simp only [Option.map_some, rowK, ver_k]
    cases bver vs n with
    | none => rfl
    | some x =>
      simp only [Option.map_some, rDestroy, brDestroy]
      show (if x.gone = true then _ else _) = _
      split
      · rfl
      · simp [toRK_set, rowK, VerB.k, toK_z, List.map_set]
theorem use_k (ks : RKB) (id : Int) : kUse (toRK ks) id = ((bUse ks id).1, (bUse ks id).2.1, toK (bUse ks id).2.2.1, (bUse ks id).2.2.2.1, toRK (bUse ks id).2.2.2.2) := by
  unfold kUse bUse
  rw [ring_k]
  cases bring ks id with
  | none => simp [toK_z]
  | some r =>
    obtain ⟨o, vs⟩ := r
    simp only [Option.map_some, rowK, List.length_map, List.getElem?_map]
    cases vs[vs.length - 1]? with
    | none => simp [toK_z]
    | some x =>
      simp only [Option.map_some, rUse, brUse, List.length_map]
      split
      · simp [toK_z]
      · show (if x.gone = true then _ else if 16 ≤ x.uses then _ else _) = _
        split
        · simp [toK_z]
        · split
          · simp [toK_z]
          · simp [toRK_set, rowK, VerB.k, List.map_set]
theorem mat_k (ks : RKB) (id n : Int) : kMat (toRK ks) id n = (toK (bMat ks id n).1, (bMat ks id n).2) := by
  unfold kMat bMat
  rw [ring_k]
  cases bring ks id with
  | none => simp [toK_z]
  | some r =>
    obtain ⟨o, vs⟩ := r
    simp only [Option.map_some, rowK, ver_k]
    cases bver vs n with
    | none => simp [toK_z]
    | some x =>
      simp only [Option.map_some, rMat, brMat]
      split
      · simp [toK_z]
      · show (if x.gone = true then _ else _) = _
        split
        · simp [toK_z]
        · rfl
theorem bring_mem {ks : RKB} {id : Int} {r : Bool × List VerB} (h : bring ks id = some r) : r ∈ ks := by
  unfold bring at h; split at h
  · exact List.mem_of_getElem? h
  · cases h
theorem bver_mem {vs : List VerB} {n : Int} {x : VerB} (h : bver vs n = some x) : x ∈ vs := by
  unfold bver at h; split at h
  · exact List.mem_of_getElem? h
  · cases h
theorem zB_len : zB.length = 32 := by simp [zB]
theorem KBok.set {ks : RKB} (h : KBok ks) {i : Nat} {o : Bool} {vs : List VerB} (hv : ∀ v ∈ vs, v.mat.length = 32) : KBok (ks.set i (o, vs)) := fun r hr => by
  rcases List.mem_or_eq_of_mem_set hr with h1 | rfl
  · exact h r h1
  · exact hv
theorem set_mats {vs : List VerB} (h : ∀ v ∈ vs, v.mat.length = 32) {i : Nat} {x : VerB} (hx : x.mat.length = 32) : ∀ v ∈ vs.set i x, v.mat.length = 32 := fun v hv => by
  rcases List.mem_or_eq_of_mem_set hv with h1 | rfl
  · exact h v h1
  · exact hx
theorem create_ok {ks : RKB} (h : KBok ks) {m : Bytes} (hm : m.length = 32) : KBok (bCreate ks m).2.2 := by
  unfold bCreate; split
  · exact h
  · intro r hr
    rcases List.mem_append.1 hr with h1 | h1
    · exact h r h1
    · rw [List.mem_singleton.1 h1]; intro v hv; rw [List.mem_singleton.1 hv]; exact hm
theorem rotate_ok {ks : RKB} (h : KBok ks) {id : Int} {m : Bytes} (hm : m.length = 32) : KBok (bRotate ks id m).2.2 := by
  unfold bRotate
  cases hb : bring ks id with
  | none => exact h
  | some r =>
    obtain ⟨o, vs⟩ := r
    simp only [brRotate]
    split
    · exact h
    · refine h.set fun v hv => ?_
      rcases List.mem_append.1 hv with h1 | h1
      · exact h _ (bring_mem hb) v h1
      · rw [List.mem_singleton.1 h1]; exact hm
theorem switch_ok {ks : RKB} (h : KBok ks) {id : Int} {on : Bool} : KBok (bSwitch ks id on).2 := by
  unfold bSwitch
  cases hb : bring ks id with
  | none => exact h
  | some r => obtain ⟨o, vs⟩ := r; exact h.set (h _ (bring_mem hb))
theorem destroy_ok {ks : RKB} (h : KBok ks) {id n : Int} : KBok (bDestroy ks id n).2 := by
  unfold bDestroy
  cases hb : bring ks id with
  | none => exact h
  | some r =>
    obtain ⟨o, vs⟩ := r
    simp only
    cases hv : bver vs n with
    | none => exact h
    | some x =>
      simp only [brDestroy]
      split
      · exact h
      · exact h.set (set_mats (h _ (bring_mem hb)) zB_len)
theorem use_ok {ks : RKB} (h : KBok ks) {id : Int} : (bUse ks id).2.2.1.length = 32 ∧ KBok (bUse ks id).2.2.2.2 := by
  unfold bUse
  cases hb : bring ks id with
  | none => exact ⟨zB_len, h⟩
  | some r =>
    obtain ⟨o, vs⟩ := r
    simp only
    cases hx : vs[vs.length - 1]? with
    | none => exact ⟨zB_len, h⟩
    | some x =>
      simp only [brUse]
      have hm : x.mat.length = 32 := h _ (bring_mem hb) x (List.mem_of_getElem? hx)
      split
      · exact ⟨zB_len, h⟩
      · split
        · exact ⟨zB_len, h⟩
        · split
          · exact ⟨zB_len, h⟩
          · exact ⟨hm, h.set (set_mats (h _ (bring_mem hb)) hm)⟩
theorem mat_ok {ks : RKB} (h : KBok ks) {id n : Int} : (bMat ks id n).1.length = 32 := by
  unfold bMat
  cases hb : bring ks id with
  | none => exact zB_len
  | some r =>
    obtain ⟨o, vs⟩ := r
    simp only
    cases hx : bver vs n with
    | none => exact zB_len
    | some x =>
      simp only [brMat]
      split
      · exact zB_len
      · split
        · exact zB_len
        · exact h _ (bring_mem hb) x (bver_mem hx)
/-- keys whose materials are bytes, held -/
def KeysB (e b : Nat) (ks : RKB) : Assn := fun h => KBok ks ∧ KeysV e b (toRK ks) h
section
variable {p : Pers} {w : World} {H : List Assn} {e b : Nat} {ks : RKB}
theorem keysB (s : St p w (KeysB e b ks :: H)) : KBok ks ∧ St p w (KeysV e b (toRK ks) :: H) := St.iff (c := KBok ks) s
theorem keysBmk (h : KBok ks) (s : St p w (KeysV e b (toRK ks) :: H)) : St p w (KeysB e b ks :: H) := s.weaken fun x hx => ⟨h, hx⟩
end
end Go.K13
