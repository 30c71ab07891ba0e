/- Plain functions of engine G that always tell something. -/
import Derived.Test.YtifokhheojnipaaGreatDoorG7
import Derived.KernelRfl
import Derived.Test.YtifokhheojnipaaGreatDoorProg
set_option linter.unusedVariables false
set_option linter.unusedSimpArgs false
set_option linter.unnecessarySimpa false
namespace Go.GX
open Go.RowKit Go.SL Go.Proofs
set_option maxRecDepth 100000
def shaAdd : List (BitVec 32) := [0x428a2f98#32, 0x71374491#32, 0xb5c0fbcf#32, 0xe9b5dba5#32, 0x3956c25b#32, 0x59f111f1#32, 0x923f82a4#32, 0xab1c5ed5#32, 0xd807aa98#32, 0x12835b01#32, 0x243185be#32, 0x550c7dc3#32, 0x72be5d74#32, 0x80deb1fe#32, 0x9bdc06a7#32, 0xc19bf174#32, 0xe49b69c1#32, 0xefbe4786#32, 0x0fc19dc6#32, 0x240ca1cc#32, 0x2de92c6f#32, 0x4a7484aa#32, 0x5cb0a9dc#32, 0x76f988da#32, 0x983e5152#32, 0xa831c66d#32, 0xb00327c8#32, 0xbf597fc7#32, 0xc6e00bf3#32, 0xd5a79147#32, 0x06ca6351#32, 0x14292967#32, 0x27b70a85#32, 0x2e1b2138#32, 0x4d2c6dfc#32, 0x53380d13#32, 0x650a7354#32, 0x766a0abb#32, 0x81c2c92e#32, 0x92722c85#32, 0xa2bfe8a1#32, 0xa81a664b#32, 0xc24b8b70#32, 0xc76c51a3#32, 0xd192e819#32, 0xd6990624#32, 0xf40e3585#32, 0x106aa070#32, 0x19a4c116#32, 0x1e376c08#32, 0x2748774c#32, 0x34b0bcb5#32, 0x391c0cb3#32, 0x4ed8aa4a#32, 0x5b9cca4f#32, 0x682e6ff3#32, 0x748f82ee#32, 0x78a5636f#32, 0x84c87814#32, 0x8cc70208#32, 0x90befffa#32, 0xa4506ceb#32, 0xbef9a3f7#32, 0xc67178f2#32]
def OVZ : Nat → Option Ty
  | 40 => some (.vec 46 (.pair (.arr 32 .u8) (.pair .int (.pair .bool .unit))))
  | 38 => some (.vec 42 (.pair .bool (.pair (.vec 46 (.pair (.arr 32 .u8) (.pair .int (.pair .bool .unit)))) .unit)))
  | 146 => some (.pair (.vec 140 (.pair .int (.pair .int (.pair (.pair .int (.pair .int (.pair .int (.pair (.fz .u8) .unit)))) .unit)))) (.pair .int .unit))
  | 131 => some (.pair (.vec 5 .u8) .unit)
  | _ => none
noncomputable def TBL : TB := tbOf Tryz.prog OVZ [1, 2, 3, 4, 5, 6, 7, 8, 9, 10, 11, 12, 13, 14, 15, 16, 17, 18, 19, 20, 22, 23, 24, 25, 26, 27, 28, 29, 30, 31, 32, 33, 34, 36, 37, 38, 39, 40, 41, 42, 43, 44, 45, 46, 47, 48, 49, 50, 51, 52, 53, 54, 55, 56, 57, 58, 59, 60, 61, 62, 63, 64, 65, 66, 67, 68, 69, 70, 71, 72, 73, 74, 75, 76, 77, 78, 80, 82, 83, 84, 85, 86, 87, 88, 89, 90, 91, 92, 93, 94, 95, 96, 97, 98, 99, 100, 101, 102, 104, 105, 107, 109, 110, 111, 113, 114, 115, 116, 117, 118, 119, 120, 121, 122, 123, 124, 125, 126, 127, 128, 129, 130, 131, 133, 134, 135, 136, 138, 139, 140, 141, 142, 143, 144, 145, 146, 147, 148, 149, 150, 151, 152, 154, 155, 157, 158, 159, 160, 161, 162, 164, 166, 168, 169, 170, 171, 172, 173, 174, 175, 176, 177, 178, 179, 180, 181, 183, 184, 185, 186, 187, 188, 189, 191, 192, 193, 194, 195, 196, 197, 198, 199, 200, 201, 203, 204, 205, 206, 207, 208, 209, 210, 211, 213, 215, 216, 217, 218, 219, 220, 221, 222, 223, 224, 225, 226, 227, 228, 230, 231, 232, 233, 234, 236, 237, 238, 239, 240, 241, 242, 243, 244, 245, 246, 247, 248, 249, 250, 251, 252, 253, 254, 255, 256, 257, 258, 259, 260, 261, 262, 263, 264, 265, 266, 267, 268, 269, 270, 271, 272, 273, 274, 275, 276, 277, 278, 279, 280, 281, 282, 283, 284, 285, 286, 287, 288, 289, 290, 291, 292, 293, 294, 295, 296, 297, 299, 300, 301, 303, 304, 305, 307, 308, 309, 310, 311, 312, 313, 314, 315, 316, 317, 319, 320, 321, 322, 323, 324, 325, 326, 327, 328, 329, 334, 335] [(0, .dp (.arr 64 .u32) shaAdd)]
theorem TBL_ok : TBL.ok Tryz.prog := tbOf_ok (by kernel_rfl)
end Go.GX
namespace Go.GX
open Go.RowKit Go.SL
set_option linter.unusedVariables false
variable {α β : Type}
/-- x is told, and is as Q says -/
def Tot (x : Option α) (Q : α → Prop) : Prop := ∃ r, x = some r ∧ Q r
theorem Tot.s {Q : α → Prop} {r : α} (h : Q r) : Tot (some r) Q := ⟨r, rfl, h⟩
theorem Tot.mono {x : Option α} {Q R : α → Prop} (h : Tot x Q) (g : ∀ a, Q a → R a) : Tot x R := by
  obtain ⟨a, ha, hq⟩ := h; exact ⟨a, ha, g a hq⟩
theorem Tot.bnd {x : Option α} {f : α → Option β} {Q : α → Prop} {R : β → Prop} (h : Tot x Q) (g : ∀ a, Q a → Tot (f a) R) : Tot (bnd x f) R := by
  obtain ⟨a, rfl, ha⟩ := h; rw [bnd_s]; exact g a ha
theorem Tot.gd {c : Prop} [Decidable c] {x : Option α} {R : α → Prop} (h : c) (g : Tot x R) : Tot (gd c x) R := by rw [gd_t h]; exact g
theorem Tot.gdE {c : α} {x : Option β} {R : β → Prop} (g : Tot x R) : Tot (gdE (c = c) x) R := by rw [gdE_rfl]; exact g
theorem Tot.br {c : Bool} {x y : Option α} {R : α → Prop} (g : c = true → Tot x R) (h : c = false → Tot y R) : Tot (br c x y) R := by
  cases c with
  | true => rw [br_t]; exact g rfl
  | false => rw [br_f]; exact h rfl
theorem Tot.brd {c : Prop} [Decidable c] {x y : Option α} {R : α → Prop} (g : c → Tot x R) (h : ¬ c → Tot y R) : Tot (GX.br (decide c) x y) R :=
  Tot.br (fun q => g (by simpa using q)) (fun q => h (by simpa using q))
theorem Tot.jn {j : α → Option β} {f : (α → Option β) → Option β} {R : β → Prop} (h : Tot (f j) R) : Tot (jn j f) R := by rw [jn_e]; exact h
theorem Tot.nlq {c : Bool} {x y : Option α} {R : α → Prop} (h : Tot y R) (g : c = true → x = y) : Tot (nlq c x y) R := by
  cases c with
  | false => rw [nlq_f]; exact h
  | true => rw [nlq_t, g rfl, bth_self]; exact h
theorem Tot.idx {l : List α} {k : Nat} {f : α → Option β} {R : β → Prop} (h : k < l.length) (g : ∀ a, l[k]? = some a → Tot (f a) R) : Tot (GX.bnd (l[k]?) f) R := by
  have : l[k]? = some l[k] := List.getElem?_eq_getElem h
  rw [this, bnd_s]; exact g _ this
theorem Tot.itn {f : α → (α → Option β) → Option β} {R : β → Prop} {I : Nat → α → Prop}
    (step : ∀ n a, I n a → ∀ k, (∀ m b, m < n → I m b → Tot (k b) R) → Tot (f a k) R) : ∀ (F n : Nat) (a : α), I n a → n < F → Tot (itn f F a) R := by
  intro F
  induction F with
  | zero => intro n a _ h; omega
  | succ F ih => intro n a h hn; exact step n a h _ fun m b hm hb => ih m b hb (by omega)
theorem Tot.iter {f : α → (α → Option β) → Option β} {R : β → Prop} (I : Nat → α → Prop) {a : α} (n : Nat) (h : I n a) (hn : n < 1099511627776)
    (step : ∀ n a, I n a → ∀ k, (∀ m b, m < n → I m b → Tot (k b) R) → Tot (f a k) R) : Tot (iter f a) R := by
  rw [iter_eq]
  exact Tot.itn step _ n a h (by unfold fuel; exact hn)
/-- a counted loop -/
theorem Tot.count {f : α → (α → Option β) → Option β} {R : β → Prop} (N : Nat) (I : Nat → α → Prop) {a : α} (h : I 0 a) (hn : N < 1099511627776)
    (step : ∀ i a, i ≤ N → I i a → ∀ k, (i < N → ∀ b, I (i + 1) b → Tot (k b) R) → Tot (f a k) R) : Tot (GX.iter f a) R := by
  refine Tot.iter (fun n a => n ≤ N ∧ I (N - n) a) N ⟨Nat.le_refl _, by rw [Nat.sub_self]; exact h⟩ hn ?_
  rintro n a ⟨hle, hI⟩ k hk
  refine step (N - n) a (by omega) hI k fun hlt b hb => ?_
  have : N - (n - 1) = N - n + 1 := by omega
  exact hk (n - 1) b (by omega) ⟨by omega, by rw [this]; exact hb⟩
theorem Tot.eq {x : Option α} {r : α} (h : x = some r) : Tot x (fun a => a = r) := ⟨r, h, rfl⟩
theorem Tot.get {x : Option α} {r : α} (h : Tot x (fun a => a = r)) : x = some r := by obtain ⟨a, h, rfl⟩ := h; exact h
end Go.GX
namespace Go.GX
open Go.RowKit Go.SL Go.Proofs
set_option maxRecDepth 100000
set_option linter.unusedVariables false

noncomputable def F201 (x0 : Unit) (x1 : (List (List (BitVec 8))) × Unit) : Option (((List (BitVec 8)) × Unit) × Unit) :=
 iter (fun (v2 : ((Int) × (Int) × Unit) × Unit) => fun r3 => br (decide (v2.1.1 < (Nat.cast (List.length x1.1) : Int)))
 (gd (0 ≤ v2.1.1) <| bnd (x1.1[Int.toNat v2.1.1]?) fun a4 => br (decide (Go.SL.w64 (v2.1.2.1 + (Nat.cast (List.length a4) : Int)) < 0))
 (none)
 (r3 ((Go.SL.w64 (v2.1.1 + 1), (Go.SL.w64 (v2.1.2.1 + (Nat.cast (List.length a4) : Int)), ())), ())))
 (jn (fun (v5 : (Unit) × Unit) => br (decide (Go.SL.w64 (v2.1.2.1 - 0) > 0))
 (gd ((0 : Int) ≤ 0) <| gd ((0 : Nat) ≤ 0) <| gd ((0 : Nat) ≤ 0) <| gd (0 ≤ Go.SL.w64 (v2.1.2.1 - 0)) <| gd (few9 0 (Int.toNat (Go.SL.w64 (v2.1.2.1 - 0)))) <| gd ((0 : Int) ≤ 0) <| gd ((0 : Nat) ≤ 0) <| gd (0 ≤ (List.length (([] ++ List.replicate (Int.toNat (Go.SL.w64 (v2.1.2.1 - 0))) 0#8) : List (BitVec 8)))) <| gd ((0 : Nat) = 0) <| gd (0 ≤ (List.length (([] ++ List.replicate (Int.toNat (Go.SL.w64 (v2.1.2.1 - 0))) 0#8) : List (BitVec 8)))) <| iter (fun (v6 : ((Int) × (List (BitVec 8)) × Unit) × Unit) => fun r7 => br (decide (v6.1.1 < (Nat.cast (List.length x1.1) : Int)))
 (gd (0 ≤ v6.1.1) <| bnd (x1.1[Int.toNat v6.1.1]?) fun a8 => gd (few (List.length v6.1.2.1) (List.length a8)) <| r7 ((Go.SL.w64 (v6.1.1 + 1), ((v6.1.2.1 ++ a8), ())), ()))
 (some ((v6.1.2.1, ()), ()))) ((0, (List.take 0 ([] ++ List.replicate (Int.toNat (Go.SL.w64 (v2.1.2.1 - 0))) 0#8), ())), ()))
 (iter (fun (v9 : ((Int) × (List (BitVec 8)) × Unit) × Unit) => fun r10 => br (decide (v9.1.1 < (Nat.cast (List.length x1.1) : Int)))
 (gd (0 ≤ v9.1.1) <| bnd (x1.1[Int.toNat v9.1.1]?) fun a11 => gd (few (List.length v9.1.2.1) (List.length a11)) <| r10 ((Go.SL.w64 (v9.1.1 + 1), ((v9.1.2.1 ++ a11), ())), ()))
 (some ((v9.1.2.1, ()), ()))) ((0, ([], ())), ())))
 (fun j12 => br (decide (v2.1.2.1 < 0))
 (none)
 (j12 ((), ()))))) ((0, (0, ())), ())
noncomputable abbrev C201 : Con := ⟨[.b (.fz (.fz .u8))], [(.vec 5 .u8)], F201⟩
noncomputable def F171 (x0 : Unit) (x1 : (List (BitVec 8)) × Unit) : Option (((List (BitVec 8)) × Unit) × Unit) :=
 nlq (decide ((List.length x1.1) = 0))
 (some (([], ()), ()))
 (gd (few 0 (List.length x1.1)) <| some ((([] ++ x1.1), ()), ()))
noncomputable abbrev C171 : Con := ⟨[.b (.fz .u8)], [(.vec 5 .u8)], F171⟩
noncomputable def F253 (x0 : Unit) (x1 : Unit) : Option (((List (BitVec 32)) × Unit) × Unit) :=
 some ((List.set (List.set (List.set (List.set (List.set (List.set (List.set (List.set (List.replicate 8 0#32) 0 1779033703#32) 1 3144134277#32) 2 1013904242#32) 3 2773480762#32) 4 1359893119#32) 5 2600822924#32) 6 528734635#32) 7 1541459225#32, ()), ())
noncomputable abbrev C253 : Con := ⟨[], [(.arr 8 .u32)], F253⟩
noncomputable def F269 (x0 : (BitVec 32) × (Int) × Unit) (x1 : Unit) : Option (((BitVec 32) × Unit) × Unit) :=
 some ((((x0.1 <<< BitVec.toNat (BitVec.ofInt 64 x0.2.1 &&& 31#64)) ||| (x0.1 >>> BitVec.toNat (32#64 - (BitVec.ofInt 64 x0.2.1 &&& 31#64)))), ()), ())
noncomputable abbrev C269 : Con := ⟨[.v .u32, .v .int], [.u32], F269⟩
noncomputable def F267 (x0 : (BitVec 32) × (Int) × Unit) (x1 : Unit) : Option (((BitVec 32) × Unit) × Unit) :=
 bnd (F269 (x0.1, (Go.SL.w64 (0 - x0.2.1), ())) ()) fun a2 => some ((a2.1.1, ()), ())
noncomputable abbrev C267 : Con := ⟨[.v .u32, .v .int], [.u32], F267⟩
noncomputable def F254 (x0 : (List (BitVec 32)) × (List (BitVec 8)) × Unit) (x1 : Unit) : Option (((List (BitVec 32)) × Unit) × Unit) :=
 iter (fun (v2 : ((Int) × Unit) × (List (BitVec 32)) × Unit) => fun r3 => br (decide (v2.1.1 < 64))
 (br (decide (v2.1.1 < 16))
 (gd (0 ≤ Go.SL.w64 (4 * v2.1.1)) <| gd (Int.toNat (Go.SL.w64 (4 * v2.1.1)) < 64) <| bnd (x0.2.1[Int.toNat (Go.SL.w64 (4 * v2.1.1))]?) fun a4 => gd (0 ≤ Go.SL.w64 (Go.SL.w64 (4 * v2.1.1) + 1)) <| gd (Int.toNat (Go.SL.w64 (Go.SL.w64 (4 * v2.1.1) + 1)) < 64) <| bnd (x0.2.1[Int.toNat (Go.SL.w64 (Go.SL.w64 (4 * v2.1.1) + 1))]?) fun a5 => gd (0 ≤ Go.SL.w64 (Go.SL.w64 (4 * v2.1.1) + 2)) <| gd (Int.toNat (Go.SL.w64 (Go.SL.w64 (4 * v2.1.1) + 2)) < 64) <| bnd (x0.2.1[Int.toNat (Go.SL.w64 (Go.SL.w64 (4 * v2.1.1) + 2))]?) fun a6 => gd (0 ≤ Go.SL.w64 (Go.SL.w64 (4 * v2.1.1) + 3)) <| gd (Int.toNat (Go.SL.w64 (Go.SL.w64 (4 * v2.1.1) + 3)) < 64) <| bnd (x0.2.1[Int.toNat (Go.SL.w64 (Go.SL.w64 (4 * v2.1.1) + 3))]?) fun a7 => gd (0 ≤ v2.1.1) <| gd (Int.toNat v2.1.1 < 64) <| gd (Int.toNat v2.1.1 < List.length v2.2.1) <| gdE (List.replicate 8 0#32 = List.replicate 8 0#32) <| gdE (x0.2.1 = x0.2.1) <| gdE (x0.1 = x0.1) <| r3 ((Go.SL.w64 (v2.1.1 + 1), ()), (List.set v2.2.1 (Int.toNat v2.1.1) ((((BitVec.setWidth 32 a4 <<< 24) ||| (BitVec.setWidth 32 a5 <<< 16)) ||| (BitVec.setWidth 32 a6 <<< 8)) ||| BitVec.setWidth 32 a7), ())))
 (gd (0 ≤ Go.SL.w64 (v2.1.1 - 15)) <| gd (Int.toNat (Go.SL.w64 (v2.1.1 - 15)) < 64) <| bnd (v2.2.1[Int.toNat (Go.SL.w64 (v2.1.1 - 15))]?) fun a8 => gd (0 ≤ Go.SL.w64 (v2.1.1 - 2)) <| gd (Int.toNat (Go.SL.w64 (v2.1.1 - 2)) < 64) <| bnd (v2.2.1[Int.toNat (Go.SL.w64 (v2.1.1 - 2))]?) fun a9 => gd (0 ≤ Go.SL.w64 (v2.1.1 - 16)) <| gd (Int.toNat (Go.SL.w64 (v2.1.1 - 16)) < 64) <| bnd (v2.2.1[Int.toNat (Go.SL.w64 (v2.1.1 - 16))]?) fun a10 => gd (0 ≤ Go.SL.w64 (v2.1.1 - 7)) <| gd (Int.toNat (Go.SL.w64 (v2.1.1 - 7)) < 64) <| bnd (v2.2.1[Int.toNat (Go.SL.w64 (v2.1.1 - 7))]?) fun a11 => bnd (F267 (a8, (7, ())) ()) fun a12 => bnd (F267 (a8, (18, ())) ()) fun a13 => bnd (F267 (a9, (17, ())) ()) fun a14 => bnd (F267 (a9, (19, ())) ()) fun a15 => gd (0 ≤ v2.1.1) <| gd (Int.toNat v2.1.1 < 64) <| gd (Int.toNat v2.1.1 < List.length v2.2.1) <| gdE (List.replicate 8 0#32 = List.replicate 8 0#32) <| gdE (x0.2.1 = x0.2.1) <| gdE (x0.1 = x0.1) <| r3 ((Go.SL.w64 (v2.1.1 + 1), ()), (List.set v2.2.1 (Int.toNat v2.1.1) (((a10 + a11) + ((a12.1.1 ^^^ a13.1.1) ^^^ (a8 >>> 3))) + ((a14.1.1 ^^^ a15.1.1) ^^^ (a9 >>> 10))), ()))))
 (gd ((0 : Int) ≤ 0) <| gd (0 < 8) <| bnd x0.1[0]? fun a16 => gd ((0 : Int) ≤ 1) <| gd (1 < 8) <| bnd x0.1[1]? fun a17 => gd ((0 : Int) ≤ 2) <| gd (2 < 8) <| bnd x0.1[2]? fun a18 => gd ((0 : Int) ≤ 3) <| gd (3 < 8) <| bnd x0.1[3]? fun a19 => gd ((0 : Int) ≤ 4) <| gd (4 < 8) <| bnd x0.1[4]? fun a20 => gd ((0 : Int) ≤ 5) <| gd (5 < 8) <| bnd x0.1[5]? fun a21 => gd ((0 : Int) ≤ 6) <| gd (6 < 8) <| bnd x0.1[6]? fun a22 => gd ((0 : Int) ≤ 7) <| gd (7 < 8) <| bnd x0.1[7]? fun a23 => iter (fun (v24 : ((Int) × (BitVec 32) × (BitVec 32) × (BitVec 32) × (BitVec 32) × (BitVec 32) × (BitVec 32) × (BitVec 32) × (BitVec 32) × Unit) × Unit) => fun r25 => br (decide (v24.1.1 < 64))
 (gd (0 ≤ v24.1.1) <| bnd (shaAdd[Int.toNat v24.1.1]?) fun a26 => gd (0 ≤ v24.1.1) <| gd (Int.toNat v24.1.1 < 64) <| bnd (v2.2.1[Int.toNat v24.1.1]?) fun a27 => bnd (F267 (v24.1.2.2.2.2.1, (6, ())) ()) fun a28 => bnd (F267 (v24.1.2.2.2.2.1, (11, ())) ()) fun a29 => bnd (F267 (v24.1.2.2.2.2.1, (25, ())) ()) fun a30 => bnd (F267 (v24.1.2.2.2.2.2.2.2.2.1, (2, ())) ()) fun a31 => bnd (F267 (v24.1.2.2.2.2.2.2.2.2.1, (13, ())) ()) fun a32 => bnd (F267 (v24.1.2.2.2.2.2.2.2.2.1, (22, ())) ()) fun a33 => gdE (v2.2.1 = v2.2.1) <| gdE (List.replicate 8 0#32 = List.replicate 8 0#32) <| gdE (x0.2.1 = x0.2.1) <| gdE (x0.1 = x0.1) <| r25 ((Go.SL.w64 (v24.1.1 + 1), (v24.1.2.2.1, (v24.1.2.2.2.1, (v24.1.2.2.2.2.1, ((v24.1.2.2.2.2.2.1 + ((((v24.1.2.1 + ((a28.1.1 ^^^ a29.1.1) ^^^ a30.1.1)) + (v24.1.2.2.1 ^^^ (v24.1.2.2.2.2.1 &&& (v24.1.2.2.2.1 ^^^ v24.1.2.2.1)))) + a26) + a27)), (v24.1.2.2.2.2.2.2.1, (v24.1.2.2.2.2.2.2.2.1, (v24.1.2.2.2.2.2.2.2.2.1, ((((((v24.1.2.1 + ((a28.1.1 ^^^ a29.1.1) ^^^ a30.1.1)) + (v24.1.2.2.1 ^^^ (v24.1.2.2.2.2.1 &&& (v24.1.2.2.2.1 ^^^ v24.1.2.2.1)))) + a26) + a27) + (((a31.1.1 ^^^ a32.1.1) ^^^ a33.1.1) + ((v24.1.2.2.2.2.2.2.2.2.1 &&& v24.1.2.2.2.2.2.2.2.1) ||| (v24.1.2.2.2.2.2.2.1 &&& (v24.1.2.2.2.2.2.2.2.2.1 ||| v24.1.2.2.2.2.2.2.2.1))))), ()))))))))), ()))
 (iter (fun (v34 : ((Int) × Unit) × (List (BitVec 32)) × Unit) => fun r35 => br (decide (v34.1.1 < 8))
 (gd (0 ≤ v34.1.1) <| bnd ((List.set (List.set (List.set (List.set (List.set (List.set (List.set (List.set (List.replicate 8 0#32) 0 v24.1.2.2.2.2.2.2.2.2.1) 1 v24.1.2.2.2.2.2.2.2.1) 2 v24.1.2.2.2.2.2.2.1) 3 v24.1.2.2.2.2.2.1) 4 v24.1.2.2.2.2.1) 5 v24.1.2.2.2.1) 6 v24.1.2.2.1) 7 v24.1.2.1)[Int.toNat v34.1.1]?) fun a36 => gd (0 ≤ v34.1.1) <| gd (Int.toNat v34.1.1 < 8) <| bnd (v34.2.1[Int.toNat v34.1.1]?) fun a37 => gd (0 ≤ v34.1.1) <| gd (Int.toNat v34.1.1 < 8) <| gd (Int.toNat v34.1.1 < List.length v34.2.1) <| gdE (v2.2.1 = v2.2.1) <| gdE (List.replicate 8 0#32 = List.replicate 8 0#32) <| gdE (x0.2.1 = x0.2.1) <| r35 ((Go.SL.w64 (v34.1.1 + 1), ()), (List.set v34.2.1 (Int.toNat v34.1.1) (a37 + a36), ())))
 (some ((v34.2.1, ()), ()))) ((0, ()), (x0.1, ())))) ((0, (a23, (a22, (a21, (a20, (a19, (a18, (a17, (a16, ()))))))))), ()))) ((0, ()), (List.replicate 64 0#32, ()))
noncomputable abbrev C254 : Con := ⟨[.v (.arr 8 .u32), .v (.arr 64 .u8)], [(.arr 8 .u32)], F254⟩
noncomputable def F235 (x0 : Unit) (x1 : (List (BitVec 8)) × Unit) : Option (((List (BitVec 8)) × Unit) × Unit) :=
 bnd (F171 () (x1.1, ())) fun a2 => gd (few (List.length a2.1.1) 1) <| gd ((64 : Int) ≠ 0) <| gd ((64 : Int) ≠ 0) <| gd (0 ≤ Int.tmod (Go.SL.w64 (120 - Int.tmod (Nat.cast (List.length ((a2.1.1 ++ (128#8 :: [])) : List (BitVec 8))) : Int) 64)) 64) <| gd (few9 (List.length ((a2.1.1 ++ (128#8 :: [])) : List (BitVec 8))) (Int.toNat (Int.tmod (Go.SL.w64 (120 - Int.tmod (Nat.cast (List.length ((a2.1.1 ++ (128#8 :: [])) : List (BitVec 8))) : Int) 64)) 64))) <| iter (fun (v3 : ((Int) × (List (BitVec 8)) × Unit) × Unit) => fun r4 => br (decide (v3.1.1 < 8))
 (gd (0 ≤ Go.SL.w64 (56 - Go.SL.w64 (8 * v3.1.1))) <| gd (few (List.length v3.1.2.1) (List.length ((BitVec.ofInt 8 (Go.SL.ishr64 (Go.SL.w64 (8 * (Nat.cast (List.length x1.1) : Int))) (Int.toNat (Go.SL.w64 (56 - Go.SL.w64 (8 * v3.1.1))))) :: []) : List (BitVec 8)))) <| gdE (((128#8 :: []) : List (BitVec 8)) = (128#8 :: [])) <| gdE ((List.replicate 32 0#8 : List (BitVec 8)) = List.replicate 32 0#8) <| r4 ((Go.SL.w64 (v3.1.1 + 1), ((v3.1.2.1 ++ (BitVec.ofInt 8 (Go.SL.ishr64 (Go.SL.w64 (8 * (Nat.cast (List.length x1.1) : Int))) (Int.toNat (Go.SL.w64 (56 - Go.SL.w64 (8 * v3.1.1))))) :: [])), ())), ()))
 (bnd (F253 () ()) fun a5 => iter (fun (v6 : ((List (BitVec 8)) × Unit) × (List (BitVec 32)) × Unit) => fun r7 => br (decide ((Nat.cast (List.length v6.1.1) : Int) > 0))
 (gd (64 ≤ (List.length v6.1.1)) <| bnd (F254 (v6.2.1, (List.take 64 v6.1.1, ())) ()) fun a8 => gd ((0 : Int) ≤ 64) <| gd (64 ≤ (List.length v6.1.1)) <| gd ((List.length v6.1.1) ≤ (List.length v6.1.1)) <| gdE (((128#8 :: []) : List (BitVec 8)) = (128#8 :: [])) <| gdE ((List.replicate 32 0#8 : List (BitVec 8)) = List.replicate 32 0#8) <| r7 ((List.drop 64 (List.take (List.length v6.1.1) v6.1.1), ()), (a8.1.1, ())))
 (iter (fun (v9 : ((Int) × Unit) × (List (BitVec 8)) × Unit) => fun r10 => br (decide (v9.1.1 < 32))
 (gd ((4 : Int) ≠ 0) <| gd (0 ≤ Go.SL.w64 (Int.tdiv v9.1.1 4)) <| gd (Int.toNat (Go.SL.w64 (Int.tdiv v9.1.1 4)) < 8) <| bnd (v6.2.1[Int.toNat (Go.SL.w64 (Int.tdiv v9.1.1 4))]?) fun a11 => gd ((4 : Int) ≠ 0) <| gd (0 ≤ Go.SL.w64 (24 - Go.SL.w64 (8 * Int.tmod v9.1.1 4))) <| gd (0 ≤ v9.1.1) <| gd (Int.toNat v9.1.1 < 32) <| gd (Int.toNat v9.1.1 < (List.length v9.2.1)) <| gdE (v6.2.1 = v6.2.1) <| gdE (((128#8 :: []) : List (BitVec 8)) = (128#8 :: [])) <| gdE ((List.replicate 32 0#8 : List (BitVec 8)) = List.replicate 32 0#8) <| r10 ((Go.SL.w64 (v9.1.1 + 1), ()), (List.set v9.2.1 (Int.toNat v9.1.1) (BitVec.setWidth 8 (a11 >>> Int.toNat (Go.SL.w64 (24 - Go.SL.w64 (8 * Int.tmod v9.1.1 4))))), ())))
 (some ((v9.2.1, ()), ()))) ((0, ()), (List.replicate 32 0#8, ())))) ((v3.1.2.1, ()), (a5.1.1, ())))) ((0, (((a2.1.1 ++ (128#8 :: [])) ++ List.replicate (Int.toNat (Int.tmod (Go.SL.w64 (120 - Int.tmod (Nat.cast (List.length ((a2.1.1 ++ (128#8 :: [])) : List (BitVec 8))) : Int) 64)) 64)) 0#8), ())), ())
noncomputable abbrev C235 : Con := ⟨[.b (.fz .u8)], [(.arr 32 .u8)], F235⟩
noncomputable def F214 (x0 : Unit) (x1 : (List (BitVec 8)) × (List (BitVec 8)) × Unit) : Option (((List (BitVec 8)) × Unit) × Unit) :=
 jn (fun (v2 : ((List (BitVec 8)) × Unit) × Unit) => gd ((0 : Nat) ≤ 64) <| gd ((64 : Nat) ≤ 64) <| gd ((0 : Nat) < 64) <| gd ((64 : Nat) ≤ 64) <| iter (fun (v3 : ((Int) × Unit) × (List (BitVec 8)) × (List (BitVec 8)) × Unit) => fun r4 => br (decide (v3.1.1 < 64))
 (gd (0 ≤ v3.1.1) <| gd (Int.toNat v3.1.1 < 64) <| bnd (v3.2.2.1[Int.toNat v3.1.1]?) fun a5 => gd (0 ≤ v3.1.1) <| gd (Int.toNat v3.1.1 < 64) <| gd (Int.toNat v3.1.1 < (List.length v3.2.2.1)) <| gd (0 ≤ v3.1.1) <| gd (Int.toNat v3.1.1 < 64) <| bnd (v3.2.1[Int.toNat v3.1.1]?) fun a6 => gd (0 ≤ v3.1.1) <| gd (Int.toNat v3.1.1 < 64) <| gd (Int.toNat v3.1.1 < (List.length v3.2.1)) <| gdE ((List.replicate 32 0#8 : List (BitVec 8)) = List.replicate 32 0#8) <| r4 ((Go.SL.w64 (v3.1.1 + 1), ()), (List.set v3.2.1 (Int.toNat v3.1.1) (a6 ^^^ 92#8), (List.set v3.2.2.1 (Int.toNat v3.1.1) (a5 ^^^ 54#8), ()))))
 (gd ((0 : Nat) ≤ 64) <| gd ((64 : Nat) ≤ 64) <| gd (64 ≤ (List.length v3.2.2.1)) <| bnd (F201 () ((List.take 64 (List.drop 0 v3.2.2.1) :: (x1.2.1 :: [])), ())) fun a7 => bnd (F235 () (a7.1.1, ())) fun a8 => gd ((0 : Nat) ≤ 64) <| gd ((64 : Nat) ≤ 64) <| gd ((0 : Nat) ≤ 32) <| gd ((32 : Nat) ≤ 32) <| gd (64 ≤ (List.length v3.2.1)) <| gd (32 ≤ (List.length a8.1.1)) <| bnd (F201 () ((List.take 64 (List.drop 0 v3.2.1) :: (List.take 32 (List.drop 0 a8.1.1) :: [])), ())) fun a9 => bnd (F235 () (a9.1.1, ())) fun a10 => some ((a10.1.1, ()), ()))) ((0, ()), (ovl (List.replicate 64 0#8) 0 (List.take 64 v2.1.1), (ovl (List.replicate 64 0#8) 0 (List.take 64 v2.1.1), ()))))
 (fun j11 => br (decide ((Nat.cast (List.length x1.1) : Int) > 64))
 (bnd (F235 () (x1.1, ())) fun a12 => gd ((0 : Nat) ≤ 32) <| gd ((32 : Nat) ≤ 32) <| gd (32 ≤ (List.length a12.1.1)) <| gdE ((List.replicate 32 0#8 : List (BitVec 8)) = List.replicate 32 0#8) <| j11 ((List.take 32 (List.drop 0 a12.1.1), ()), ()))
 (gdE ((List.replicate 32 0#8 : List (BitVec 8)) = List.replicate 32 0#8) <| j11 ((x1.1, ()), ())))
noncomputable abbrev C214 : Con := ⟨[.b (.fz .u8), .b (.fz .u8)], [(.arr 32 .u8)], F214⟩
noncomputable def F168 (x0 : ((List (BitVec 8)) × (List (BitVec 8)) × (Int) × Unit) × Unit) (x1 : (List (BitVec 8)) × Unit) : Option ((Unit) × ((List (BitVec 8)) × (List (BitVec 8)) × (Int) × Unit) × Unit) :=
 gd ((0 : Nat) ≤ 32) <| gd ((32 : Nat) ≤ 32) <| gd ((0 : Nat) ≤ 32) <| gd ((32 : Nat) ≤ 32) <| gd (32 ≤ (List.length x0.1.2.1)) <| bnd (F201 () ((List.take 32 (List.drop 0 x0.1.2.1) :: ((0#8 :: []) :: (x1.1 :: []))), ())) fun a2 => gd (32 ≤ (List.length x0.1.1)) <| bnd (F214 () (List.take 32 (List.drop 0 x0.1.1), (a2.1.1, ()))) fun a3 => gd ((0 : Nat) ≤ 32) <| gd ((32 : Nat) ≤ 32) <| gd ((0 : Nat) ≤ 32) <| gd ((32 : Nat) ≤ 32) <| gd (32 ≤ (List.length x0.1.2.1)) <| bnd (F201 () ((List.take 32 (List.drop 0 x0.1.2.1) :: []), ())) fun a4 => gd (32 ≤ (List.length a3.1.1)) <| bnd (F214 () (List.take 32 (List.drop 0 a3.1.1), (a4.1.1, ()))) fun a5 => br (decide ((Nat.cast (List.length x1.1) : Int) > 0))
 (gd ((0 : Nat) ≤ 32) <| gd ((32 : Nat) ≤ 32) <| gd ((0 : Nat) ≤ 32) <| gd ((32 : Nat) ≤ 32) <| gd (32 ≤ (List.length a5.1.1)) <| bnd (F201 () ((List.take 32 (List.drop 0 a5.1.1) :: ((1#8 :: []) :: (x1.1 :: []))), ())) fun a6 => gd (32 ≤ (List.length a3.1.1)) <| bnd (F214 () (List.take 32 (List.drop 0 a3.1.1), (a6.1.1, ()))) fun a7 => gd ((0 : Nat) ≤ 32) <| gd ((32 : Nat) ≤ 32) <| gd ((0 : Nat) ≤ 32) <| gd ((32 : Nat) ≤ 32) <| gd (32 ≤ (List.length a5.1.1)) <| bnd (F201 () ((List.take 32 (List.drop 0 a5.1.1) :: []), ())) fun a8 => gd (32 ≤ (List.length a7.1.1)) <| bnd (F214 () (List.take 32 (List.drop 0 a7.1.1), (a8.1.1, ()))) fun a9 => some ((), ((a7.1.1, (a9.1.1, (x0.1.2.2.1, ()))), ())))
 (some ((), ((a3.1.1, (a5.1.1, (x0.1.2.2.1, ()))), ())))
noncomputable abbrev C168 : Con := ⟨[.io 171 (.pair (.arr 32 .u8) (.pair (.arr 32 .u8) (.pair .int .unit))) [], .b (.fz .u8)], [], F168⟩
noncomputable def F106 (x0 : ((List (BitVec 8)) × (List (BitVec 8)) × (Int) × Unit) × Unit) (x1 : (List (BitVec 8)) × Unit) : Option ((Unit) × ((List (BitVec 8)) × (List (BitVec 8)) × (Int) × Unit) × Unit) :=
 bnd (F168 (x0.1, ()) (x1.1, ())) fun a2 => some ((), ((a2.2.1.1, (a2.2.1.2.1, (1, ()))), ()))
noncomputable abbrev C106 : Con := ⟨[.io 171 (.pair (.arr 32 .u8) (.pair (.arr 32 .u8) (.pair .int .unit))) [], .b (.fz .u8)], [], F106⟩
noncomputable def F42 (x0 : Unit) (x1 : (List (BitVec 8)) × Unit) : Option ((((List (BitVec 8)) × (List (BitVec 8)) × (Int) × Unit) × Unit) × Unit) :=
 iter (fun (v2 : ((Int) × Unit) × ((List (BitVec 8)) × (List (BitVec 8)) × (Int) × Unit) × Unit) => fun r3 => br (decide (v2.1.1 < 32))
 (gd (0 ≤ v2.1.1) <| gd (Int.toNat v2.1.1 < 32) <| gd (Int.toNat v2.1.1 < (List.length v2.2.1.2.1)) <| r3 ((Go.SL.w64 (v2.1.1 + 1), ()), ((v2.2.1.1, (List.set v2.2.1.2.1 (Int.toNat v2.1.1) 1#8, (v2.2.1.2.2.1, ()))), ())))
 (bnd (F106 ((v2.2.1.1, (v2.2.1.2.1, (v2.2.1.2.2.1, ()))), ()) (x1.1, ())) fun a4 => some ((a4.2.1, ()), ()))) ((0, ()), ((List.replicate 32 0#8, (List.replicate 32 0#8, (0, ()))), ()))
noncomputable abbrev C42 : Con := ⟨[.b (.fz .u8)], [(.box 171 (.pair (.arr 32 .u8) (.pair (.arr 32 .u8) (.pair .int .unit))))], F42⟩
noncomputable def F43 (x0 : Unit) (x1 : Unit) : Option ((((List ((Bool) × (List ((List (BitVec 8)) × (Int) × (Bool) × Unit)) × Unit)) × Unit) × Unit) × Unit) :=
 some ((([], ()), ()), ())
noncomputable abbrev C43 : Con := ⟨[], [(.box 173 (.pair (.vec 42 (.pair .bool (.pair (.vec 46 (.pair (.arr 32 .u8) (.pair .int (.pair .bool .unit)))) .unit))) .unit))], F43⟩
noncomputable def F44 (x0 : Unit) (x1 : Unit) : Option ((((List ((Int) × (Int) × (Int) × ((Int) × (Int) × (Int) × (List (BitVec 8)) × Unit) × Unit)) × (Int) × Unit) × Unit) × Unit) :=
 some ((([], (1, ())), ()), ())
noncomputable abbrev C44 : Con := ⟨[], [(.box 176 (.pair (.map (.pair .int (.pair .int (.pair (.pair .int (.pair .int (.pair .int (.pair (.fz .u8) .unit)))) .unit)))) (.pair .int .unit)))], F44⟩
noncomputable def F15 (x0 : Unit) (x1 : (List (BitVec 8)) × Unit) : Option (((((List (BitVec 8)) × (List (BitVec 8)) × (Int) × Unit) × ((List ((Bool) × (List ((List (BitVec 8)) × (Int) × (Bool) × Unit)) × Unit)) × Unit) × ((List ((Int) × (Int) × (Int) × ((Int) × (Int) × (Int) × (List (BitVec 8)) × Unit) × Unit)) × (Int) × Unit) × Unit) × Unit) × Unit) :=
 bnd (F42 () (x1.1, ())) fun a2 => bnd (F43 () ()) fun a3 => bnd (F44 () ()) fun a4 => some (((a2.1.1, (a3.1.1, (a4.1.1, ()))), ()), ())
noncomputable abbrev C15 : Con := ⟨[.b (.fz .u8)], [(.box 91 (.pair (.box 171 (.pair (.arr 32 .u8) (.pair (.arr 32 .u8) (.pair .int .unit)))) (.pair (.box 173 (.pair (.vec 42 (.pair .bool (.pair (.vec 46 (.pair (.arr 32 .u8) (.pair .int (.pair .bool .unit)))) .unit))) .unit)) (.pair (.box 176 (.pair (.map (.pair .int (.pair .int (.pair (.pair .int (.pair .int (.pair .int (.pair (.fz .u8) .unit)))) .unit)))) (.pair .int .unit))) .unit))))], F15⟩
noncomputable def F111 (x0 : (Int) × (Int) × (Int) × Unit) (x1 : Unit) : Option (((Bool) × Unit) × Unit) :=
 br (decide (x0.1 ≥ x0.2.1))
 (some ((cond true (decide (x0.1 ≤ x0.2.2.1)) false, ()), ()))
 (some ((false, ()), ()))
noncomputable abbrev C111 : Con := ⟨[.v .int, .v .int, .v .int], [.bool], F111⟩
noncomputable def F47 (x0 : Unit) (x1 : ((Int) × (Int) × (Int) × (Int) × (Int) × (List (BitVec 8)) × (List (BitVec 8)) × Unit) × Unit) : Option (((Int) × Unit) × Unit) :=
 jn (fun (v2 : (Unit) × ((Int) × (Int) × (Int) × (Int) × (Int) × (List (BitVec 8)) × (List (BitVec 8)) × Unit) × (Bool) × Unit) => jn (fun (v3 : (Unit) × ((Int) × (Int) × (Int) × (Int) × (Int) × (List (BitVec 8)) × (List (BitVec 8)) × Unit) × (Bool) × Unit) => br (!v3.2.2.1)
 (some ((1, ()), ()))
 (br (cond false true (v3.2.1.2.1 != 0))
 (some ((1, ()), ()))
 (br (cond false true (v3.2.1.2.2.1 != 0))
 (some ((1, ()), ()))
 (br (cond false true (v3.2.1.2.2.2.1 != 0))
 (some ((1, ()), ()))
 (br (cond false true (v3.2.1.2.2.2.2.1 != 0))
 (some ((1, ()), ()))
 (br (cond false true (decide ((Nat.cast (List.length v3.2.1.2.2.2.2.2.1) : Int) > 0)))
 (some ((1, ()), ()))
 (br (cond false true (decide ((Nat.cast (List.length v3.2.1.2.2.2.2.2.2.1) : Int) > 0)))
 (some ((1, ()), ()))
 (some ((0, ()), ())))))))))
 (fun j4 => jn (fun (v5 : ((Bool) × Unit) × Unit) => br v5.1.1
 (gdE (x1.1.1 = x1.1.1) <| gdE (x1.1.2.1 = x1.1.2.1) <| gdE (x1.1.2.2.1 = x1.1.2.2.1) <| gdE (x1.1.2.2.2.1 = x1.1.2.2.2.1) <| gdE (x1.1.2.2.2.2.1 = x1.1.2.2.2.2.1) <| gdE (x1.1.2.2.2.2.2.1 = x1.1.2.2.2.2.2.1) <| gdE (x1.1.2.2.2.2.2.2.1 = x1.1.2.2.2.2.2.2.1) <| j4 ((), ((v2.2.1.1, (v2.2.1.2.1, (v2.2.1.2.2.1, (v2.2.1.2.2.2.1, (v2.2.1.2.2.2.2.1, (v2.2.1.2.2.2.2.2.1, (v2.2.1.2.2.2.2.2.2.1, ()))))))), (v2.2.2.1, ()))))
 (jn (fun (v6 : ((Bool) × Unit) × Unit) => br v6.1.1
 (bnd (F111 (x1.1.2.2.2.1, (1, (1099511627776, ()))) ()) fun a7 => br v2.2.2.1
 (gdE (x1.1.1 = x1.1.1) <| gdE (x1.1.2.1 = x1.1.2.1) <| gdE (x1.1.2.2.1 = x1.1.2.2.1) <| gdE (x1.1.2.2.2.1 = x1.1.2.2.2.1) <| gdE (x1.1.2.2.2.2.1 = x1.1.2.2.2.2.1) <| gdE (x1.1.2.2.2.2.2.1 = x1.1.2.2.2.2.2.1) <| gdE (x1.1.2.2.2.2.2.2.1 = x1.1.2.2.2.2.2.2.1) <| j4 ((), ((v2.2.1.1, (v2.2.1.2.1, (v2.2.1.2.2.1, (0, (v2.2.1.2.2.2.2.1, (v2.2.1.2.2.2.2.2.1, (v2.2.1.2.2.2.2.2.2.1, ()))))))), (cond true a7.1.1 false, ()))))
 (gdE (x1.1.1 = x1.1.1) <| gdE (x1.1.2.1 = x1.1.2.1) <| gdE (x1.1.2.2.1 = x1.1.2.2.1) <| gdE (x1.1.2.2.2.1 = x1.1.2.2.2.1) <| gdE (x1.1.2.2.2.2.1 = x1.1.2.2.2.2.1) <| gdE (x1.1.2.2.2.2.2.1 = x1.1.2.2.2.2.2.1) <| gdE (x1.1.2.2.2.2.2.2.1 = x1.1.2.2.2.2.2.2.1) <| j4 ((), ((v2.2.1.1, (v2.2.1.2.1, (v2.2.1.2.2.1, (0, (v2.2.1.2.2.2.2.1, (v2.2.1.2.2.2.2.2.1, (v2.2.1.2.2.2.2.2.2.1, ()))))))), (false, ())))))
 (br (x1.1.1 == 5)
 (bnd (F111 (x1.1.2.2.2.1, (1, (1099511627776, ()))) ()) fun a8 => br v2.2.2.1
 (bnd (F111 (x1.1.2.2.2.2.1, (0, (1, ()))) ()) fun a9 => br (cond true a8.1.1 false)
 (gdE (x1.1.1 = x1.1.1) <| gdE (x1.1.2.1 = x1.1.2.1) <| gdE (x1.1.2.2.1 = x1.1.2.2.1) <| gdE (x1.1.2.2.2.1 = x1.1.2.2.2.1) <| gdE (x1.1.2.2.2.2.1 = x1.1.2.2.2.2.1) <| gdE (x1.1.2.2.2.2.2.1 = x1.1.2.2.2.2.2.1) <| gdE (x1.1.2.2.2.2.2.2.1 = x1.1.2.2.2.2.2.2.1) <| j4 ((), ((v2.2.1.1, (v2.2.1.2.1, (v2.2.1.2.2.1, (0, (0, (v2.2.1.2.2.2.2.2.1, (v2.2.1.2.2.2.2.2.2.1, ()))))))), (cond true a9.1.1 false, ()))))
 (gdE (x1.1.1 = x1.1.1) <| gdE (x1.1.2.1 = x1.1.2.1) <| gdE (x1.1.2.2.1 = x1.1.2.2.1) <| gdE (x1.1.2.2.2.1 = x1.1.2.2.2.1) <| gdE (x1.1.2.2.2.2.1 = x1.1.2.2.2.2.1) <| gdE (x1.1.2.2.2.2.2.1 = x1.1.2.2.2.2.2.1) <| gdE (x1.1.2.2.2.2.2.2.1 = x1.1.2.2.2.2.2.2.1) <| j4 ((), ((v2.2.1.1, (v2.2.1.2.1, (v2.2.1.2.2.1, (0, (0, (v2.2.1.2.2.2.2.2.1, (v2.2.1.2.2.2.2.2.2.1, ()))))))), (false, ())))))
 (bnd (F111 (x1.1.2.2.2.2.1, (0, (1, ()))) ()) fun a10 => gdE (x1.1.1 = x1.1.1) <| gdE (x1.1.2.1 = x1.1.2.1) <| gdE (x1.1.2.2.1 = x1.1.2.2.1) <| gdE (x1.1.2.2.2.1 = x1.1.2.2.2.1) <| gdE (x1.1.2.2.2.2.1 = x1.1.2.2.2.2.1) <| gdE (x1.1.2.2.2.2.2.1 = x1.1.2.2.2.2.2.1) <| gdE (x1.1.2.2.2.2.2.2.1 = x1.1.2.2.2.2.2.2.1) <| j4 ((), ((v2.2.1.1, (v2.2.1.2.1, (v2.2.1.2.2.1, (0, (0, (v2.2.1.2.2.2.2.2.1, (v2.2.1.2.2.2.2.2.2.1, ()))))))), (false, ())))))
 (br (x1.1.1 == 6)
 (bnd (F111 (x1.1.2.2.2.1, (1, (1099511627776, ()))) ()) fun a11 => br v2.2.2.1
 (br (cond true a11.1.1 false)
 (gdE (x1.1.1 = x1.1.1) <| gdE (x1.1.2.1 = x1.1.2.1) <| gdE (x1.1.2.2.1 = x1.1.2.2.1) <| gdE (x1.1.2.2.2.1 = x1.1.2.2.2.1) <| gdE (x1.1.2.2.2.2.1 = x1.1.2.2.2.2.1) <| gdE (x1.1.2.2.2.2.2.1 = x1.1.2.2.2.2.2.1) <| gdE (x1.1.2.2.2.2.2.2.1 = x1.1.2.2.2.2.2.2.1) <| j4 ((), ((v2.2.1.1, (v2.2.1.2.1, (v2.2.1.2.2.1, (0, (0, (v2.2.1.2.2.2.2.2.1, (v2.2.1.2.2.2.2.2.2.1, ()))))))), (cond true (decide (x1.1.2.2.2.2.1 ≥ 1)) false, ()))))
 (gdE (x1.1.1 = x1.1.1) <| gdE (x1.1.2.1 = x1.1.2.1) <| gdE (x1.1.2.2.1 = x1.1.2.2.1) <| gdE (x1.1.2.2.2.1 = x1.1.2.2.2.1) <| gdE (x1.1.2.2.2.2.1 = x1.1.2.2.2.2.1) <| gdE (x1.1.2.2.2.2.2.1 = x1.1.2.2.2.2.2.1) <| gdE (x1.1.2.2.2.2.2.2.1 = x1.1.2.2.2.2.2.2.1) <| j4 ((), ((v2.2.1.1, (v2.2.1.2.1, (v2.2.1.2.2.1, (0, (0, (v2.2.1.2.2.2.2.2.1, (v2.2.1.2.2.2.2.2.2.1, ()))))))), (false, ())))))
 (gdE (x1.1.1 = x1.1.1) <| gdE (x1.1.2.1 = x1.1.2.1) <| gdE (x1.1.2.2.1 = x1.1.2.2.1) <| gdE (x1.1.2.2.2.1 = x1.1.2.2.2.1) <| gdE (x1.1.2.2.2.2.1 = x1.1.2.2.2.2.1) <| gdE (x1.1.2.2.2.2.2.1 = x1.1.2.2.2.2.2.1) <| gdE (x1.1.2.2.2.2.2.2.1 = x1.1.2.2.2.2.2.2.1) <| j4 ((), ((v2.2.1.1, (v2.2.1.2.1, (v2.2.1.2.2.1, (0, (0, (v2.2.1.2.2.2.2.2.1, (v2.2.1.2.2.2.2.2.2.1, ()))))))), (false, ())))))
 (br (x1.1.1 == 7)
 (bnd (F111 (x1.1.2.2.2.1, (1, (1099511627776, ()))) ()) fun a12 => br v2.2.2.1
 (bnd (F111 ((Nat.cast (List.length x1.1.2.2.2.2.2.1) : Int), (0, (64, ()))) ()) fun a13 => br (cond true a12.1.1 false)
 (br (cond true a13.1.1 false)
 (gdE (x1.1.1 = x1.1.1) <| gdE (x1.1.2.1 = x1.1.2.1) <| gdE (x1.1.2.2.1 = x1.1.2.2.1) <| gdE (x1.1.2.2.2.1 = x1.1.2.2.2.1) <| gdE (x1.1.2.2.2.2.1 = x1.1.2.2.2.2.1) <| gdE (x1.1.2.2.2.2.2.1 = x1.1.2.2.2.2.2.1) <| gdE (x1.1.2.2.2.2.2.2.1 = x1.1.2.2.2.2.2.2.1) <| j4 ((), ((v2.2.1.1, (v2.2.1.2.1, (v2.2.1.2.2.1, (0, (v2.2.1.2.2.2.2.1, ([], ([], ()))))))), (cond true (decide ((Nat.cast (List.length x1.1.2.2.2.2.2.2.1) : Int) ≤ 32)) false, ()))))
 (gdE (x1.1.1 = x1.1.1) <| gdE (x1.1.2.1 = x1.1.2.1) <| gdE (x1.1.2.2.1 = x1.1.2.2.1) <| gdE (x1.1.2.2.2.1 = x1.1.2.2.2.1) <| gdE (x1.1.2.2.2.2.1 = x1.1.2.2.2.2.1) <| gdE (x1.1.2.2.2.2.2.1 = x1.1.2.2.2.2.2.1) <| gdE (x1.1.2.2.2.2.2.2.1 = x1.1.2.2.2.2.2.2.1) <| j4 ((), ((v2.2.1.1, (v2.2.1.2.1, (v2.2.1.2.2.1, (0, (v2.2.1.2.2.2.2.1, ([], ([], ()))))))), (false, ())))))
 (gdE (x1.1.1 = x1.1.1) <| gdE (x1.1.2.1 = x1.1.2.1) <| gdE (x1.1.2.2.1 = x1.1.2.2.1) <| gdE (x1.1.2.2.2.1 = x1.1.2.2.2.1) <| gdE (x1.1.2.2.2.2.1 = x1.1.2.2.2.2.1) <| gdE (x1.1.2.2.2.2.2.1 = x1.1.2.2.2.2.2.1) <| gdE (x1.1.2.2.2.2.2.2.1 = x1.1.2.2.2.2.2.2.1) <| j4 ((), ((v2.2.1.1, (v2.2.1.2.1, (v2.2.1.2.2.1, (0, (v2.2.1.2.2.2.2.1, ([], ([], ()))))))), (false, ())))))
 (bnd (F111 ((Nat.cast (List.length x1.1.2.2.2.2.2.1) : Int), (0, (64, ()))) ()) fun a14 => gdE (x1.1.1 = x1.1.1) <| gdE (x1.1.2.1 = x1.1.2.1) <| gdE (x1.1.2.2.1 = x1.1.2.2.1) <| gdE (x1.1.2.2.2.1 = x1.1.2.2.2.1) <| gdE (x1.1.2.2.2.2.1 = x1.1.2.2.2.2.1) <| gdE (x1.1.2.2.2.2.2.1 = x1.1.2.2.2.2.2.1) <| gdE (x1.1.2.2.2.2.2.2.1 = x1.1.2.2.2.2.2.2.1) <| j4 ((), ((v2.2.1.1, (v2.2.1.2.1, (v2.2.1.2.2.1, (0, (v2.2.1.2.2.2.2.1, ([], ([], ()))))))), (false, ())))))
 (jn (fun (v15 : ((Bool) × Unit) × Unit) => br v15.1.1
 (bnd (F111 ((Nat.cast (List.length x1.1.2.2.2.2.2.1) : Int), (0, (128, ()))) ()) fun a16 => br v2.2.2.1
 (br (cond true a16.1.1 false)
 (gdE (x1.1.1 = x1.1.1) <| gdE (x1.1.2.1 = x1.1.2.1) <| gdE (x1.1.2.2.1 = x1.1.2.2.1) <| gdE (x1.1.2.2.2.1 = x1.1.2.2.2.1) <| gdE (x1.1.2.2.2.2.1 = x1.1.2.2.2.2.1) <| gdE (x1.1.2.2.2.2.2.1 = x1.1.2.2.2.2.2.1) <| gdE (x1.1.2.2.2.2.2.2.1 = x1.1.2.2.2.2.2.2.1) <| j4 ((), ((v2.2.1.1, (v2.2.1.2.1, (v2.2.1.2.2.1, (v2.2.1.2.2.2.1, (v2.2.1.2.2.2.2.1, ([], ([], ()))))))), (cond true (decide ((Nat.cast (List.length x1.1.2.2.2.2.2.2.1) : Int) ≤ 32)) false, ()))))
 (gdE (x1.1.1 = x1.1.1) <| gdE (x1.1.2.1 = x1.1.2.1) <| gdE (x1.1.2.2.1 = x1.1.2.2.1) <| gdE (x1.1.2.2.2.1 = x1.1.2.2.2.1) <| gdE (x1.1.2.2.2.2.1 = x1.1.2.2.2.2.1) <| gdE (x1.1.2.2.2.2.2.1 = x1.1.2.2.2.2.2.1) <| gdE (x1.1.2.2.2.2.2.2.1 = x1.1.2.2.2.2.2.2.1) <| j4 ((), ((v2.2.1.1, (v2.2.1.2.1, (v2.2.1.2.2.1, (v2.2.1.2.2.2.1, (v2.2.1.2.2.2.2.1, ([], ([], ()))))))), (false, ())))))
 (gdE (x1.1.1 = x1.1.1) <| gdE (x1.1.2.1 = x1.1.2.1) <| gdE (x1.1.2.2.1 = x1.1.2.2.1) <| gdE (x1.1.2.2.2.1 = x1.1.2.2.2.1) <| gdE (x1.1.2.2.2.2.1 = x1.1.2.2.2.2.1) <| gdE (x1.1.2.2.2.2.2.1 = x1.1.2.2.2.2.2.1) <| gdE (x1.1.2.2.2.2.2.2.1 = x1.1.2.2.2.2.2.2.1) <| j4 ((), ((v2.2.1.1, (v2.2.1.2.1, (v2.2.1.2.2.1, (v2.2.1.2.2.2.1, (v2.2.1.2.2.2.2.1, ([], ([], ()))))))), (false, ())))))
 (br (x1.1.1 == 10)
 (bnd (F111 ((Nat.cast (List.length x1.1.2.2.2.2.2.1) : Int), (1, (64, ()))) ()) fun a17 => br v2.2.2.1
 (gdE (x1.1.1 = x1.1.1) <| gdE (x1.1.2.1 = x1.1.2.1) <| gdE (x1.1.2.2.1 = x1.1.2.2.1) <| gdE (x1.1.2.2.2.1 = x1.1.2.2.2.1) <| gdE (x1.1.2.2.2.2.1 = x1.1.2.2.2.2.1) <| gdE (x1.1.2.2.2.2.2.1 = x1.1.2.2.2.2.2.1) <| gdE (x1.1.2.2.2.2.2.2.1 = x1.1.2.2.2.2.2.2.1) <| j4 ((), ((v2.2.1.1, (v2.2.1.2.1, (v2.2.1.2.2.1, (v2.2.1.2.2.2.1, (v2.2.1.2.2.2.2.1, ([], (v2.2.1.2.2.2.2.2.2.1, ()))))))), (cond true a17.1.1 false, ()))))
 (gdE (x1.1.1 = x1.1.1) <| gdE (x1.1.2.1 = x1.1.2.1) <| gdE (x1.1.2.2.1 = x1.1.2.2.1) <| gdE (x1.1.2.2.2.1 = x1.1.2.2.2.1) <| gdE (x1.1.2.2.2.2.1 = x1.1.2.2.2.2.1) <| gdE (x1.1.2.2.2.2.2.1 = x1.1.2.2.2.2.2.1) <| gdE (x1.1.2.2.2.2.2.2.1 = x1.1.2.2.2.2.2.2.1) <| j4 ((), ((v2.2.1.1, (v2.2.1.2.1, (v2.2.1.2.2.1, (v2.2.1.2.2.2.1, (v2.2.1.2.2.2.2.1, ([], (v2.2.1.2.2.2.2.2.2.1, ()))))))), (false, ())))))
 (some ((1, ()), ()))))
 (fun j18 => br (x1.1.1 == 8)
 (gdE (x1.1.1 = x1.1.1) <| gdE (x1.1.2.1 = x1.1.2.1) <| gdE (x1.1.2.2.1 = x1.1.2.2.1) <| gdE (x1.1.2.2.2.1 = x1.1.2.2.2.1) <| gdE (x1.1.2.2.2.2.1 = x1.1.2.2.2.2.1) <| gdE (x1.1.2.2.2.2.2.1 = x1.1.2.2.2.2.2.1) <| gdE (x1.1.2.2.2.2.2.2.1 = x1.1.2.2.2.2.2.2.1) <| gdE (v2.2.1.1 = v2.2.1.1) <| gdE (v2.2.1.2.1 = v2.2.1.2.1) <| gdE (v2.2.1.2.2.1 = v2.2.1.2.2.1) <| gdE (v2.2.1.2.2.2.1 = v2.2.1.2.2.2.1) <| gdE (v2.2.1.2.2.2.2.1 = v2.2.1.2.2.2.2.1) <| gdE (v2.2.1.2.2.2.2.2.1 = v2.2.1.2.2.2.2.2.1) <| gdE (v2.2.1.2.2.2.2.2.2.1 = v2.2.1.2.2.2.2.2.2.1) <| gdE (v2.2.2.1 = v2.2.2.1) <| j18 (((x1.1.1 == 8), ()), ()))
 (gdE (x1.1.1 = x1.1.1) <| gdE (x1.1.2.1 = x1.1.2.1) <| gdE (x1.1.2.2.1 = x1.1.2.2.1) <| gdE (x1.1.2.2.2.1 = x1.1.2.2.2.1) <| gdE (x1.1.2.2.2.2.1 = x1.1.2.2.2.2.1) <| gdE (x1.1.2.2.2.2.2.1 = x1.1.2.2.2.2.2.1) <| gdE (x1.1.2.2.2.2.2.2.1 = x1.1.2.2.2.2.2.2.1) <| gdE (v2.2.1.1 = v2.2.1.1) <| gdE (v2.2.1.2.1 = v2.2.1.2.1) <| gdE (v2.2.1.2.2.1 = v2.2.1.2.2.1) <| gdE (v2.2.1.2.2.2.1 = v2.2.1.2.2.2.1) <| gdE (v2.2.1.2.2.2.2.1 = v2.2.1.2.2.2.2.1) <| gdE (v2.2.1.2.2.2.2.2.1 = v2.2.1.2.2.2.2.2.1) <| gdE (v2.2.1.2.2.2.2.2.2.1 = v2.2.1.2.2.2.2.2.2.1) <| gdE (v2.2.2.1 = v2.2.2.1) <| j18 (((x1.1.1 == 9), ()), ()))))))))
 (fun j19 => br (x1.1.1 == 2)
 (gdE (x1.1.1 = x1.1.1) <| gdE (x1.1.2.1 = x1.1.2.1) <| gdE (x1.1.2.2.1 = x1.1.2.2.1) <| gdE (x1.1.2.2.2.1 = x1.1.2.2.2.1) <| gdE (x1.1.2.2.2.2.1 = x1.1.2.2.2.2.1) <| gdE (x1.1.2.2.2.2.2.1 = x1.1.2.2.2.2.2.1) <| gdE (x1.1.2.2.2.2.2.2.1 = x1.1.2.2.2.2.2.2.1) <| gdE (v2.2.1.1 = v2.2.1.1) <| gdE (v2.2.1.2.1 = v2.2.1.2.1) <| gdE (v2.2.1.2.2.1 = v2.2.1.2.2.1) <| gdE (v2.2.1.2.2.2.1 = v2.2.1.2.2.2.1) <| gdE (v2.2.1.2.2.2.2.1 = v2.2.1.2.2.2.2.1) <| gdE (v2.2.1.2.2.2.2.2.1 = v2.2.1.2.2.2.2.2.1) <| gdE (v2.2.1.2.2.2.2.2.2.1 = v2.2.1.2.2.2.2.2.2.1) <| gdE (v2.2.2.1 = v2.2.2.1) <| j19 (((x1.1.1 == 2), ()), ()))
 (gdE (x1.1.1 = x1.1.1) <| gdE (x1.1.2.1 = x1.1.2.1) <| gdE (x1.1.2.2.1 = x1.1.2.2.1) <| gdE (x1.1.2.2.2.1 = x1.1.2.2.2.1) <| gdE (x1.1.2.2.2.2.1 = x1.1.2.2.2.2.1) <| gdE (x1.1.2.2.2.2.2.1 = x1.1.2.2.2.2.2.1) <| gdE (x1.1.2.2.2.2.2.2.1 = x1.1.2.2.2.2.2.2.1) <| gdE (v2.2.1.1 = v2.2.1.1) <| gdE (v2.2.1.2.1 = v2.2.1.2.1) <| gdE (v2.2.1.2.2.1 = v2.2.1.2.2.1) <| gdE (v2.2.1.2.2.2.1 = v2.2.1.2.2.2.1) <| gdE (v2.2.1.2.2.2.2.1 = v2.2.1.2.2.2.2.1) <| gdE (v2.2.1.2.2.2.2.2.1 = v2.2.1.2.2.2.2.2.1) <| gdE (v2.2.1.2.2.2.2.2.2.1 = v2.2.1.2.2.2.2.2.2.1) <| gdE (v2.2.2.1 = v2.2.2.1) <| j19 (((x1.1.1 == 4), ()), ())))))
 (fun j20 => br (x1.1.1 == 1)
 (gdE (x1.1.1 = x1.1.1) <| gdE (x1.1.2.1 = x1.1.2.1) <| gdE (x1.1.2.2.1 = x1.1.2.2.1) <| gdE (x1.1.2.2.2.1 = x1.1.2.2.2.1) <| gdE (x1.1.2.2.2.2.1 = x1.1.2.2.2.2.1) <| gdE (x1.1.2.2.2.2.2.1 = x1.1.2.2.2.2.2.1) <| gdE (x1.1.2.2.2.2.2.2.1 = x1.1.2.2.2.2.2.2.1) <| gdE (v2.2.1.1 = v2.2.1.1) <| gdE (v2.2.1.2.1 = v2.2.1.2.1) <| gdE (v2.2.1.2.2.1 = v2.2.1.2.2.1) <| gdE (v2.2.1.2.2.2.1 = v2.2.1.2.2.2.1) <| gdE (v2.2.1.2.2.2.2.1 = v2.2.1.2.2.2.2.1) <| gdE (v2.2.1.2.2.2.2.2.1 = v2.2.1.2.2.2.2.2.1) <| gdE (v2.2.1.2.2.2.2.2.2.1 = v2.2.1.2.2.2.2.2.2.1) <| gdE (v2.2.2.1 = v2.2.2.1) <| j20 (((x1.1.1 == 1), ()), ()))
 (gdE (x1.1.1 = x1.1.1) <| gdE (x1.1.2.1 = x1.1.2.1) <| gdE (x1.1.2.2.1 = x1.1.2.2.1) <| gdE (x1.1.2.2.2.1 = x1.1.2.2.2.1) <| gdE (x1.1.2.2.2.2.1 = x1.1.2.2.2.2.1) <| gdE (x1.1.2.2.2.2.2.1 = x1.1.2.2.2.2.2.1) <| gdE (x1.1.2.2.2.2.2.2.1 = x1.1.2.2.2.2.2.2.1) <| gdE (v2.2.1.1 = v2.2.1.1) <| gdE (v2.2.1.2.1 = v2.2.1.2.1) <| gdE (v2.2.1.2.2.1 = v2.2.1.2.2.1) <| gdE (v2.2.1.2.2.2.1 = v2.2.1.2.2.2.1) <| gdE (v2.2.1.2.2.2.2.1 = v2.2.1.2.2.2.2.1) <| gdE (v2.2.1.2.2.2.2.2.1 = v2.2.1.2.2.2.2.2.1) <| gdE (v2.2.1.2.2.2.2.2.2.1 = v2.2.1.2.2.2.2.2.2.1) <| gdE (v2.2.2.1 = v2.2.2.1) <| j20 (((x1.1.1 == 3), ()), ())))))
 (fun j21 => bnd (F111 (x1.1.1, (3, (10, ()))) ()) fun a22 => br a22.1.1
 (bnd (F111 (x1.1.2.1, (1, (1099511627776, ()))) ()) fun a23 => br a23.1.1
 (bnd (F111 (x1.1.2.2.1, (1, (1099511627776, ()))) ()) fun a24 => gdE (x1.1.1 = x1.1.1) <| gdE (x1.1.2.1 = x1.1.2.1) <| gdE (x1.1.2.2.1 = x1.1.2.2.1) <| gdE (x1.1.2.2.2.1 = x1.1.2.2.2.1) <| gdE (x1.1.2.2.2.2.1 = x1.1.2.2.2.2.1) <| gdE (x1.1.2.2.2.2.2.1 = x1.1.2.2.2.2.2.1) <| gdE (x1.1.2.2.2.2.2.2.1 = x1.1.2.2.2.2.2.2.1) <| j21 ((), ((0, (0, (0, (x1.1.2.2.2.1, (x1.1.2.2.2.2.1, (x1.1.2.2.2.2.2.1, (x1.1.2.2.2.2.2.2.1, ()))))))), (cond true (cond true a24.1.1 false) false, ()))))
 (gdE (x1.1.1 = x1.1.1) <| gdE (x1.1.2.1 = x1.1.2.1) <| gdE (x1.1.2.2.1 = x1.1.2.2.1) <| gdE (x1.1.2.2.2.1 = x1.1.2.2.2.1) <| gdE (x1.1.2.2.2.2.1 = x1.1.2.2.2.2.1) <| gdE (x1.1.2.2.2.2.2.1 = x1.1.2.2.2.2.2.1) <| gdE (x1.1.2.2.2.2.2.2.1 = x1.1.2.2.2.2.2.2.1) <| j21 ((), ((0, (0, (0, (x1.1.2.2.2.1, (x1.1.2.2.2.2.1, (x1.1.2.2.2.2.2.1, (x1.1.2.2.2.2.2.2.1, ()))))))), (false, ())))))
 (gdE (x1.1.1 = x1.1.1) <| gdE (x1.1.2.1 = x1.1.2.1) <| gdE (x1.1.2.2.1 = x1.1.2.2.1) <| gdE (x1.1.2.2.2.1 = x1.1.2.2.2.1) <| gdE (x1.1.2.2.2.2.1 = x1.1.2.2.2.2.1) <| gdE (x1.1.2.2.2.2.2.1 = x1.1.2.2.2.2.2.1) <| gdE (x1.1.2.2.2.2.2.2.1 = x1.1.2.2.2.2.2.2.1) <| j21 ((), ((0, (x1.1.2.1, (x1.1.2.2.1, (x1.1.2.2.2.1, (x1.1.2.2.2.2.1, (x1.1.2.2.2.2.2.1, (x1.1.2.2.2.2.2.2.1, ()))))))), (true, ())))))
noncomputable abbrev C47 : Con := ⟨[.b (.pair .int (.pair .int (.pair .int (.pair .int (.pair .int (.pair (.fz .u8) (.pair (.fz .u8) .unit)))))))], [.int], F47⟩
noncomputable def F48 (x0 : ((Int) × (Int) × (Int) × (List (BitVec 8)) × Unit) × (Int) × Unit) (x1 : Unit) : Option ((((Int) × (Int) × (Int) × (List (BitVec 8)) × Unit) × Unit) × Unit) :=
 br (x0.2.1 != 0)
 (some (((x0.2.1, (0, (0, ([], ())))), ()), ()))
 (some ((x0.1, ()), ()))
noncomputable abbrev C48 : Con := ⟨[.v (.pair .int (.pair .int (.pair .int (.pair (.fz .u8) .unit)))), .v .int], [(.pair .int (.pair .int (.pair .int (.pair (.fz .u8) .unit))))], F48⟩
noncomputable def F49 (x0 : ((List ((Int) × (Int) × (Int) × ((Int) × (Int) × (Int) × (List (BitVec 8)) × Unit) × Unit)) × (Int) × Unit) × Unit) (x1 : Unit) : Option (((Int) × (Int) × Unit) × ((List ((Int) × (Int) × (Int) × ((Int) × (Int) × (Int) × (List (BitVec 8)) × Unit) × Unit)) × (Int) × Unit) × Unit) :=
 br (decide ((Nat.cast (List.length x0.1.1) : Int) ≥ 8))
 (some ((0, (134, ())), ((x0.1.1, (x0.1.2.1, ())), ())))
 (br (cond false true (decide (x0.1.2.1 ≥ 1099511627776)))
 (some ((0, (134, ())), ((x0.1.1, (x0.1.2.1, ())), ())))
 (some ((x0.1.2.1, (0, ())), ((mput x0.1.1 x0.1.2.1 (x0.1.2.1, (0, ((0, (0, (0, ([], ())))), ()))), (Go.SL.w64 (x0.1.2.1 + 1), ())), ()))))
noncomputable abbrev C49 : Con := ⟨[.io 176 (.pair (.map (.pair .int (.pair .int (.pair (.pair .int (.pair .int (.pair .int (.pair (.fz .u8) .unit)))) .unit)))) (.pair .int .unit)) []], [.int, .int], F49⟩
noncomputable def F50 (x0 : ((List ((Int) × (Int) × (Int) × ((Int) × (Int) × (Int) × (List (BitVec 8)) × Unit) × Unit)) × (Int) × Unit) × (Int) × Unit) (x1 : Unit) : Option (((Int) × Unit) × ((List ((Int) × (Int) × (Int) × ((Int) × (Int) × (Int) × (List (BitVec 8)) × Unit) × Unit)) × (Int) × Unit) × Unit) :=
 ob (mget x0.1.1 x0.2.1) (br true
 (some ((150, ()), ((x0.1.1, (x0.1.2.1, ())), ())))
 (some ((0, ()), ((mdel x0.1.1 x0.2.1, (x0.1.2.1, ())), ())))) fun a2 => br false
 (some ((150, ()), ((x0.1.1, (x0.1.2.1, ())), ())))
 (some ((0, ()), ((mdel x0.1.1 x0.2.1, (x0.1.2.1, ())), ())))
noncomputable abbrev C50 : Con := ⟨[.io 176 (.pair (.map (.pair .int (.pair .int (.pair (.pair .int (.pair .int (.pair .int (.pair (.fz .u8) .unit)))) .unit)))) (.pair .int .unit)) [], .v .int], [.int], F50⟩
noncomputable def F120 (x0 : Unit) (x1 : ((Int) × (Int) × (Int) × (List (BitVec 8)) × Unit) × Unit) : Option ((((Int) × (Int) × (Int) × (List (BitVec 8)) × Unit) × Unit) × Unit) :=
 bnd (F171 () (x1.1.2.2.2.1, ())) fun a2 => some (((x1.1.1, (x1.1.2.1, (x1.1.2.2.1, (a2.1.1, ())))), ()), ())
noncomputable abbrev C120 : Con := ⟨[.b (.pair .int (.pair .int (.pair .int (.pair (.fz .u8) .unit))))], [(.pair .int (.pair .int (.pair .int (.pair (.fz .u8) .unit))))], F120⟩
noncomputable def F51 (x0 : ((List ((Int) × (Int) × (Int) × ((Int) × (Int) × (Int) × (List (BitVec 8)) × Unit) × Unit)) × (Int) × Unit) × (Int) × (Int) × Unit) (x1 : Unit) : Option ((((Int) × (Int) × (Int) × (List (BitVec 8)) × Unit) × (Bool) × (Int) × Unit) × ((List ((Int) × (Int) × (Int) × ((Int) × (Int) × (Int) × (List (BitVec 8)) × Unit) × Unit)) × (Int) × Unit) × Unit) :=
 ob (mget x0.1.1 x0.2.1) (br true
 (some (((0, (0, (0, ([], ())))), (false, (150, ()))), ((x0.1.1, (x0.1.2.1, ())), ())))
 (br (decide (x0.2.2.1 < 1))
 (some (((0, (0, (0, ([], ())))), (false, (151, ()))), ((x0.1.1, (x0.1.2.1, ())), ())))
 (br (x0.2.2.1 == 0)
 (bnd (F120 () ((0, (0, (0, ([], ())))), ())) fun a2 => some ((a2.1.1, (true, (0, ()))), ((x0.1.1, (x0.1.2.1, ())), ())))
 (some (((0, (0, (0, ([], ())))), (false, (0, ()))), ((x0.1.1, (x0.1.2.1, ())), ())))))) fun a3 => br false
 (some (((0, (0, (0, ([], ())))), (false, (150, ()))), ((x0.1.1, (x0.1.2.1, ())), ())))
 (br (decide (x0.2.2.1 < imax 1 a3.2.1))
 (some (((0, (0, (0, ([], ())))), (false, (151, ()))), ((x0.1.1, (x0.1.2.1, ())), ())))
 (br (x0.2.2.1 == a3.2.1)
 (bnd (F120 () (a3.2.2.1, ())) fun a4 => some ((a4.1.1, (true, (0, ()))), ((x0.1.1, (x0.1.2.1, ())), ())))
 (some (((0, (0, (0, ([], ())))), (false, (0, ()))), ((x0.1.1, (x0.1.2.1, ())), ())))))
noncomputable abbrev C51 : Con := ⟨[.io 176 (.pair (.map (.pair .int (.pair .int (.pair (.pair .int (.pair .int (.pair .int (.pair (.fz .u8) .unit)))) .unit)))) (.pair .int .unit)) [], .v .int, .v .int], [(.pair .int (.pair .int (.pair .int (.pair (.fz .u8) .unit)))), .bool, .int], F51⟩
noncomputable def F123 (x0 : ((List ((Bool) × (List ((List (BitVec 8)) × (Int) × (Bool) × Unit)) × Unit)) × Unit) × (List (BitVec 8)) × Unit) (x1 : Unit) : Option (((Int) × (Int) × Unit) × ((List ((Bool) × (List ((List (BitVec 8)) × (Int) × (Bool) × Unit)) × Unit)) × Unit) × Unit) :=
 br (decide ((Nat.cast (List.length x0.1.1) : Int) ≥ 8))
 (some ((0, (134, ())), ((x0.1.1, ()), ())))
 (gd (few (List.length x0.1.1) (List.length (((false, (((x0.2.1, (0, (false, ()))) :: []), ())) :: []) : List ((Bool) × (List ((List (BitVec 8)) × (Int) × (Bool) × Unit)) × Unit)))) <| some (((Nat.cast (List.length ((x0.1.1 ++ ((false, (((x0.2.1, (0, (false, ()))) :: []), ())) :: [])) : List ((Bool) × (List ((List (BitVec 8)) × (Int) × (Bool) × Unit)) × Unit))) : Int), (0, ())), (((x0.1.1 ++ ((false, (((x0.2.1, (0, (false, ()))) :: []), ())) :: [])), ()), ())))
noncomputable abbrev C123 : Con := ⟨[.io 173 (.pair (.vec 42 (.pair .bool (.pair (.vec 46 (.pair (.arr 32 .u8) (.pair .int (.pair .bool .unit)))) .unit))) .unit) [], .v (.arr 32 .u8)], [.int, .int], F123⟩
noncomputable def F172 (x0 : ((List (BitVec 8)) × (List (BitVec 8)) × (Int) × Unit) × (Int) × Unit) (x1 : (List (BitVec 8)) × Unit) : Option (((List (BitVec 8)) × (Int) × Unit) × ((List (BitVec 8)) × (List (BitVec 8)) × (Int) × Unit) × Unit) :=
 jn (fun (v2 : ((Bool) × Unit) × Unit) => br v2.1.1
 (some (([], (1, ())), (x0.1, ())))
 (br (decide (x0.1.2.2.1 > 1048576))
 (some (([], (70, ())), ((x0.1.1, (x0.1.2.1, (x0.1.2.2.1, ()))), ())))
 (jn (fun (v3 : (Unit) × ((List (BitVec 8)) × (List (BitVec 8)) × (Int) × Unit) × Unit) => iter (fun (v4 : ((List (BitVec 8)) × Unit) × ((List (BitVec 8)) × (List (BitVec 8)) × (Int) × Unit) × Unit) => fun r5 => br (decide ((Nat.cast (List.length v4.1.1) : Int) < x0.2.1))
 (gd ((0 : Nat) ≤ 32) <| gd ((32 : Nat) ≤ 32) <| gd ((0 : Nat) ≤ 32) <| gd ((32 : Nat) ≤ 32) <| gd (32 ≤ (List.length v4.2.1.2.1)) <| bnd (F201 () ((List.take 32 (List.drop 0 v4.2.1.2.1) :: []), ())) fun a6 => gd (32 ≤ (List.length v4.2.1.1)) <| bnd (F214 () (List.take 32 (List.drop 0 v4.2.1.1), (a6.1.1, ()))) fun a7 => gd ((0 : Nat) ≤ 32) <| gd ((32 : Nat) ≤ 32) <| gd (32 ≤ (List.length a7.1.1)) <| gd (few (List.length v4.1.1) (List.length (List.take 32 (List.drop 0 a7.1.1)))) <| r5 (((v4.1.1 ++ List.take 32 (List.drop 0 a7.1.1)), ()), ((v4.2.1.1, (a7.1.1, (v4.2.1.2.2.1, ()))), ())))
 (bnd (F168 (v4.2.1, ()) (x1.1, ())) fun a8 => gd (0 ≤ x0.2.1) <| gd (0 ≤ Int.toNat x0.2.1) <| gd (Int.toNat x0.2.1 ≤ (List.length v4.1.1)) <| gd ((0 + (Int.toNat x0.2.1 - 0)) ≤ (List.length v4.1.1)) <| some ((List.take (Int.toNat x0.2.1 - 0) (List.drop 0 v4.1.1), (0, ())), ((a8.2.1.1, (a8.2.1.2.1, (Go.SL.w64 (a8.2.1.2.2.1 + 1), ()))), ())))) (([], ()), (v3.2.1, ())))
 (fun j9 => br (decide ((Nat.cast (List.length x1.1) : Int) > 0))
 (bnd (F168 ((x0.1.1, (x0.1.2.1, (x0.1.2.2.1, ()))), ()) (x1.1, ())) fun a10 => j9 ((), (a10.2.1, ())))
 (j9 ((), ((x0.1.1, (x0.1.2.1, (x0.1.2.2.1, ()))), ())))))))
 (fun j11 => br (decide (x0.2.1 < 0))
 (gdE (x0.1 = x0.1) <| j11 (((decide (x0.2.1 < 0)), ()), ()))
 (gdE (x0.1 = x0.1) <| j11 (((decide (x0.2.1 > 256)), ()), ())))
noncomputable abbrev C172 : Con := ⟨[.io 171 (.pair (.arr 32 .u8) (.pair (.arr 32 .u8) (.pair .int .unit))) [], .v .int, .b (.fz .u8)], [(.fz .u8), .int], F172⟩
noncomputable def F125 (x0 : ((List ((Bool) × (List ((List (BitVec 8)) × (Int) × (Bool) × Unit)) × Unit)) × Unit) × (Int) × (List (BitVec 8)) × Unit) (x1 : Unit) : Option (((Int) × (Int) × Unit) × ((List ((Bool) × (List ((List (BitVec 8)) × (Int) × (Bool) × Unit)) × Unit)) × Unit) × Unit) :=
 br (decide (x0.2.1 < 1))
 (some ((0, (130, ())), (x0.1, ())))
 (br (cond false true (decide (x0.2.1 > (Nat.cast (List.length x0.1.1) : Int))))
 (some ((0, (130, ())), ((x0.1.1, ()), ())))
 (gd (0 ≤ Go.SL.w64 (x0.2.1 - 1)) <| gd (Int.toNat (Go.SL.w64 (x0.2.1 - 1)) < (List.length x0.1.1)) <| bnd (x0.1.1[Int.toNat (Go.SL.w64 (x0.2.1 - 1))]?) fun a2 => br (decide ((Nat.cast (List.length a2.2.1) : Int) ≥ 4))
 (some ((0, (134, ())), ((List.set x0.1.1 (Int.toNat (Go.SL.w64 (x0.2.1 - 1))) (a2.1, (a2.2.1, ())), ()), ())))
 (gd (Int.toNat (Go.SL.w64 (x0.2.1 - 1)) = Int.toNat (Go.SL.w64 (x0.2.1 - 1))) <| gd (few (List.length a2.2.1) (List.length (((x0.2.2.1, (0, (false, ()))) :: []) : List ((List (BitVec 8)) × (Int) × (Bool) × Unit)))) <| gd (Int.toNat (Go.SL.w64 (x0.2.1 - 1)) = Int.toNat (Go.SL.w64 (x0.2.1 - 1))) <| gd (Int.toNat (Go.SL.w64 (x0.2.1 - 1)) = Int.toNat (Go.SL.w64 (x0.2.1 - 1))) <| some (((Nat.cast (List.length ((a2.2.1 ++ ((x0.2.2.1, (0, (false, ()))) :: [])) : List ((List (BitVec 8)) × (Int) × (Bool) × Unit))) : Int), (0, ())), ((List.set x0.1.1 (Int.toNat (Go.SL.w64 (x0.2.1 - 1))) (a2.1, ((a2.2.1 ++ ((x0.2.2.1, (0, (false, ()))) :: [])), ())), ()), ())))))
noncomputable abbrev C125 : Con := ⟨[.io 173 (.pair (.vec 42 (.pair .bool (.pair (.vec 46 (.pair (.arr 32 .u8) (.pair .int (.pair .bool .unit)))) .unit))) .unit) [], .v .int, .v (.arr 32 .u8)], [.int, .int], F125⟩
noncomputable def F126 (x0 : ((List ((Bool) × (List ((List (BitVec 8)) × (Int) × (Bool) × Unit)) × Unit)) × Unit) × (Int) × (Bool) × Unit) (x1 : Unit) : Option (((Int) × Unit) × ((List ((Bool) × (List ((List (BitVec 8)) × (Int) × (Bool) × Unit)) × Unit)) × Unit) × Unit) :=
 br (decide (x0.2.1 < 1))
 (some ((130, ()), (x0.1, ())))
 (br (cond false true (decide (x0.2.1 > (Nat.cast (List.length x0.1.1) : Int))))
 (some ((130, ()), ((x0.1.1, ()), ())))
 (gd (0 ≤ Go.SL.w64 (x0.2.1 - 1)) <| gd (Int.toNat (Go.SL.w64 (x0.2.1 - 1)) < (List.length x0.1.1)) <| bnd (x0.1.1[Int.toNat (Go.SL.w64 (x0.2.1 - 1))]?) fun a2 => some ((0, ()), ((List.set x0.1.1 (Int.toNat (Go.SL.w64 (x0.2.1 - 1))) ((!x0.2.2.1), (a2.2.1, ())), ()), ()))))
noncomputable abbrev C126 : Con := ⟨[.io 173 (.pair (.vec 42 (.pair .bool (.pair (.vec 46 (.pair (.arr 32 .u8) (.pair .int (.pair .bool .unit)))) .unit))) .unit) [], .v .int, .v .bool], [.int], F126⟩
noncomputable def F127 (x0 : ((List ((Bool) × (List ((List (BitVec 8)) × (Int) × (Bool) × Unit)) × Unit)) × Unit) × (Int) × (Int) × Unit) (x1 : Unit) : Option (((Int) × Unit) × ((List ((Bool) × (List ((List (BitVec 8)) × (Int) × (Bool) × Unit)) × Unit)) × Unit) × Unit) :=
 br (decide (x0.2.1 < 1))
 (some ((130, ()), (x0.1, ())))
 (br (cond false true (decide (x0.2.1 > (Nat.cast (List.length x0.1.1) : Int))))
 (some ((130, ()), ((x0.1.1, ()), ())))
 (gd (0 ≤ Go.SL.w64 (x0.2.1 - 1)) <| gd (Int.toNat (Go.SL.w64 (x0.2.1 - 1)) < (List.length x0.1.1)) <| br (cond false true (decide (x0.2.2.1 < 1)))
 (some ((130, ()), ((x0.1.1, ()), ())))
 (bnd (x0.1.1[Int.toNat (Go.SL.w64 (x0.2.1 - 1))]?) fun a2 => br (cond false true (decide (x0.2.2.1 > (Nat.cast (List.length a2.2.1) : Int))))
 (some ((130, ()), ((List.set x0.1.1 (Int.toNat (Go.SL.w64 (x0.2.1 - 1))) (a2.1, (a2.2.1, ())), ()), ())))
 (gd (Int.toNat (Go.SL.w64 (x0.2.1 - 1)) = Int.toNat (Go.SL.w64 (x0.2.1 - 1))) <| gd (0 ≤ Go.SL.w64 (x0.2.2.1 - 1)) <| gd (Int.toNat (Go.SL.w64 (x0.2.2.1 - 1)) < (List.length a2.2.1)) <| bnd (a2.2.1[Int.toNat (Go.SL.w64 (x0.2.2.1 - 1))]?) fun a3 => br a3.2.2.1
 (some ((132, ()), ((List.set x0.1.1 (Int.toNat (Go.SL.w64 (x0.2.1 - 1))) (a2.1, (a2.2.1, ())), ()), ())))
 (bnd (a2.2.1[Int.toNat (Go.SL.w64 (x0.2.2.1 - 1))]?) fun a4 => bnd ((List.set a2.2.1 (Int.toNat (Go.SL.w64 (x0.2.2.1 - 1))) (a4.1, (a4.2.1, (true, a4.2.2.2))))[Int.toNat (Go.SL.w64 (x0.2.2.1 - 1))]?) fun a5 => some ((0, ()), ((List.set x0.1.1 (Int.toNat (Go.SL.w64 (x0.2.1 - 1))) (a2.1, (List.set (List.set a2.2.1 (Int.toNat (Go.SL.w64 (x0.2.2.1 - 1))) (a4.1, (a4.2.1, (true, a4.2.2.2)))) (Int.toNat (Go.SL.w64 (x0.2.2.1 - 1))) (List.replicate 32 0#8, a5.2), ())), ()), ())))))))
noncomputable abbrev C127 : Con := ⟨[.io 173 (.pair (.vec 42 (.pair .bool (.pair (.vec 46 (.pair (.arr 32 .u8) (.pair .int (.pair .bool .unit)))) .unit))) .unit) [], .v .int, .v .int], [.int], F127⟩
noncomputable def F175 (x0 : ((List ((Bool) × (List ((List (BitVec 8)) × (Int) × (Bool) × Unit)) × Unit)) × Unit) × (Int) × Unit) (x1 : Unit) : Option (((Int) × (Int) × (List (BitVec 8)) × (Int) × Unit) × ((List ((Bool) × (List ((List (BitVec 8)) × (Int) × (Bool) × Unit)) × Unit)) × Unit) × Unit) :=
 br (decide (x0.2.1 < 1))
 (some ((0, (0, (List.replicate 32 0#8, (130, ())))), (x0.1, ())))
 (br (cond false true (decide (x0.2.1 > (Nat.cast (List.length x0.1.1) : Int))))
 (some ((0, (0, (List.replicate 32 0#8, (130, ())))), ((x0.1.1, ()), ())))
 (gd (0 ≤ Go.SL.w64 (x0.2.1 - 1)) <| gd (Int.toNat (Go.SL.w64 (x0.2.1 - 1)) < (List.length x0.1.1)) <| bnd (x0.1.1[Int.toNat (Go.SL.w64 (x0.2.1 - 1))]?) fun a2 => gd (Int.toNat (Go.SL.w64 (x0.2.1 - 1)) = Int.toNat (Go.SL.w64 (x0.2.1 - 1))) <| gd (0 ≤ Go.SL.w64 ((Nat.cast (List.length a2.2.1) : Int) - 1)) <| gd (Int.toNat (Go.SL.w64 ((Nat.cast (List.length a2.2.1) : Int) - 1)) < (List.length a2.2.1)) <| gd (Int.toNat (Go.SL.w64 (x0.2.1 - 1)) = Int.toNat (Go.SL.w64 (x0.2.1 - 1))) <| br a2.1
 (some ((0, (0, (List.replicate 32 0#8, (131, ())))), ((List.set x0.1.1 (Int.toNat (Go.SL.w64 (x0.2.1 - 1))) (a2.1, (a2.2.1, ())), ()), ())))
 (bnd (a2.2.1[Int.toNat (Go.SL.w64 ((Nat.cast (List.length a2.2.1) : Int) - 1))]?) fun a3 => br a3.2.2.1
 (some ((0, (0, (List.replicate 32 0#8, (132, ())))), ((List.set x0.1.1 (Int.toNat (Go.SL.w64 (x0.2.1 - 1))) (a2.1, (a2.2.1, ())), ()), ())))
 (bnd (a2.2.1[Int.toNat (Go.SL.w64 ((Nat.cast (List.length a2.2.1) : Int) - 1))]?) fun a4 => br (decide (a4.2.1 ≥ 16))
 (some ((0, (0, (List.replicate 32 0#8, (133, ())))), ((List.set x0.1.1 (Int.toNat (Go.SL.w64 (x0.2.1 - 1))) (a2.1, (a2.2.1, ())), ()), ())))
 (bnd (a2.2.1[Int.toNat (Go.SL.w64 ((Nat.cast (List.length a2.2.1) : Int) - 1))]?) fun a5 => bnd (a2.2.1[Int.toNat (Go.SL.w64 ((Nat.cast (List.length a2.2.1) : Int) - 1))]?) fun a6 => gd (Int.toNat (Go.SL.w64 (x0.2.1 - 1)) = Int.toNat (Go.SL.w64 (x0.2.1 - 1))) <| bnd ((List.set a2.2.1 (Int.toNat (Go.SL.w64 ((Nat.cast (List.length a2.2.1) : Int) - 1))) (a6.1, (Go.SL.w64 (a5.2.1 + 1), a6.2.2)))[Int.toNat (Go.SL.w64 ((Nat.cast (List.length a2.2.1) : Int) - 1))]?) fun a7 => bnd ((List.set a2.2.1 (Int.toNat (Go.SL.w64 ((Nat.cast (List.length a2.2.1) : Int) - 1))) (a6.1, (Go.SL.w64 (a5.2.1 + 1), a6.2.2)))[Int.toNat (Go.SL.w64 ((Nat.cast (List.length a2.2.1) : Int) - 1))]?) fun a8 => some (((Nat.cast (List.length (List.set a2.2.1 (Int.toNat (Go.SL.w64 ((Nat.cast (List.length a2.2.1) : Int) - 1))) (a6.1, (Go.SL.w64 (a5.2.1 + 1), a6.2.2)))) : Int), (Go.SL.w64 (a7.2.1 - 1), (a8.1, (0, ())))), ((List.set x0.1.1 (Int.toNat (Go.SL.w64 (x0.2.1 - 1))) (a2.1, (List.set a2.2.1 (Int.toNat (Go.SL.w64 ((Nat.cast (List.length a2.2.1) : Int) - 1))) (a6.1, (Go.SL.w64 (a5.2.1 + 1), a6.2.2)), ())), ()), ())))))))
noncomputable abbrev C175 : Con := ⟨[.io 173 (.pair (.vec 42 (.pair .bool (.pair (.vec 46 (.pair (.arr 32 .u8) (.pair .int (.pair .bool .unit)))) .unit))) .unit) [], .v .int], [.int, .int, (.arr 32 .u8), .int], F175⟩
noncomputable def F255 (x0 : (BitVec 8) × Unit) (x1 : Unit) : Option (((BitVec 8) × Unit) × Unit) :=
 bnd (([99#8, 124#8, 119#8, 123#8, 242#8, 107#8, 111#8, 197#8, 48#8, 1#8, 103#8, 43#8, 254#8, 215#8, 171#8, 118#8, 202#8, 130#8, 201#8, 125#8, 250#8, 89#8, 71#8, 240#8, 173#8, 212#8, 162#8, 175#8, 156#8, 164#8, 114#8, 192#8, 183#8, 253#8, 147#8, 38#8, 54#8, 63#8, 247#8, 204#8, 52#8, 165#8, 229#8, 241#8, 113#8, 216#8, 49#8, 21#8, 4#8, 199#8, 35#8, 195#8, 24#8, 150#8, 5#8, 154#8, 7#8, 18#8, 128#8, 226#8, 235#8, 39#8, 178#8, 117#8, 9#8, 131#8, 44#8, 26#8, 27#8, 110#8, 90#8, 160#8, 82#8, 59#8, 214#8, 179#8, 41#8, 227#8, 47#8, 132#8, 83#8, 209#8, 0#8, 237#8, 32#8, 252#8, 177#8, 91#8, 106#8, 203#8, 190#8, 57#8, 74#8, 76#8, 88#8, 207#8, 208#8, 239#8, 170#8, 251#8, 67#8, 77#8, 51#8, 133#8, 69#8, 249#8, 2#8, 127#8, 80#8, 60#8, 159#8, 168#8, 81#8, 163#8, 64#8, 143#8, 146#8, 157#8, 56#8, 245#8, 188#8, 182#8, 218#8, 33#8, 16#8, 255#8, 243#8, 210#8, 205#8, 12#8, 19#8, 236#8, 95#8, 151#8, 68#8, 23#8, 196#8, 167#8, 126#8, 61#8, 100#8, 93#8, 25#8, 115#8, 96#8, 129#8, 79#8, 220#8, 34#8, 42#8, 144#8, 136#8, 70#8, 238#8, 184#8, 20#8, 222#8, 94#8, 11#8, 219#8, 224#8, 50#8, 58#8, 10#8, 73#8, 6#8, 36#8, 92#8, 194#8, 211#8, 172#8, 98#8, 145#8, 149#8, 228#8, 121#8, 231#8, 200#8, 55#8, 109#8, 141#8, 213#8, 78#8, 169#8, 108#8, 86#8, 244#8, 234#8, 101#8, 122#8, 174#8, 8#8, 186#8, 120#8, 37#8, 46#8, 28#8, 166#8, 180#8, 198#8, 232#8, 221#8, 116#8, 31#8, 75#8, 189#8, 139#8, 138#8, 112#8, 62#8, 181#8, 102#8, 72#8, 3#8, 246#8, 14#8, 97#8, 53#8, 87#8, 185#8, 134#8, 193#8, 29#8, 158#8, 225#8, 248#8, 152#8, 17#8, 105#8, 217#8, 142#8, 148#8, 155#8, 30#8, 135#8, 233#8, 206#8, 85#8, 40#8, 223#8, 140#8, 161#8, 137#8, 13#8, 191#8, 230#8, 66#8, 104#8, 65#8, 153#8, 45#8, 15#8, 176#8, 84#8, 187#8, 22#8])[BitVec.toNat x0.1]?) fun a2 => some ((a2, ()), ())
noncomputable abbrev C255 : Con := ⟨[.v .u8], [.u8], F255⟩
noncomputable def F236 (x0 : (List (BitVec 8)) × Unit) (x1 : Unit) : Option (((List (BitVec 8)) × Unit) × Unit) :=
 gd ((0 : Int) ≤ 0) <| gd ((0 : Nat) < 4) <| bnd x0.1[0]? fun a2 => gd ((0 : Int) ≤ 1) <| gd ((1 : Nat) < 4) <| bnd x0.1[1]? fun a3 => gd ((0 : Int) ≤ 2) <| gd ((2 : Nat) < 4) <| bnd x0.1[2]? fun a4 => gd ((0 : Int) ≤ 3) <| gd ((3 : Nat) < 4) <| bnd x0.1[3]? fun a5 => bnd (F255 (a2, ()) ()) fun a6 => bnd (F255 (a3, ()) ()) fun a7 => bnd (F255 (a4, ()) ()) fun a8 => bnd (F255 (a5, ()) ()) fun a9 => some ((List.set (List.set (List.set (List.set (List.replicate 4 0#8) 0 a6.1.1) 1 a7.1.1) 2 a8.1.1) 3 a9.1.1, ()), ())
noncomputable abbrev C236 : Con := ⟨[.v (.arr 4 .u8)], [(.arr 4 .u8)], F236⟩
noncomputable def F237 (x0 : (BitVec 8) × Unit) (x1 : Unit) : Option (((BitVec 8) × Unit) × Unit) :=
 some ((((x0.1 <<< 1) ^^^ (27#8 &&& (-(x0.1 >>> 7)))), ()), ())
noncomputable abbrev C237 : Con := ⟨[.v .u8], [.u8], F237⟩
noncomputable def F217 (x0 : Unit) (x1 : (List (BitVec 8)) × Unit) : Option (((List (List (BitVec 8))) × Unit) × Unit) :=
 iter (fun (v2 : ((Int) × (BitVec 8) × Unit) × (List (List (BitVec 8))) × Unit) => fun r3 => br (decide (v2.1.1 < 60))
 (br (decide (v2.1.1 < 8))
 (gd (0 ≤ Go.SL.w64 (4 * v2.1.1)) <| gd (0 ≤ Go.SL.w64 (Go.SL.w64 (4 * v2.1.1) + 4)) <| gd (Int.toNat (Go.SL.w64 (4 * v2.1.1)) ≤ Int.toNat (Go.SL.w64 (Go.SL.w64 (4 * v2.1.1) + 4))) <| gd (Int.toNat (Go.SL.w64 (Go.SL.w64 (4 * v2.1.1) + 4)) ≤ 32) <| gd (4 ≤ (List.length (List.drop (Int.toNat (Go.SL.w64 (4 * v2.1.1))) (List.take (Int.toNat (Go.SL.w64 (Go.SL.w64 (4 * v2.1.1) + 4))) x1.1)))) <| gd (0 ≤ v2.1.1) <| gd (Int.toNat v2.1.1 < 60) <| gd (Int.toNat v2.1.1 < (List.length v2.2.1)) <| gdE ((List.replicate 15 (0#8 :: List.replicate 15 0#8) : List (List (BitVec 8))) = List.replicate 15 (0#8 :: List.replicate 15 0#8)) <| r3 ((Go.SL.w64 (v2.1.1 + 1), (v2.1.2.1, ())), (List.set v2.2.1 (Int.toNat v2.1.1) (List.take 4 (List.drop (Int.toNat (Go.SL.w64 (4 * v2.1.1))) (List.take (Int.toNat (Go.SL.w64 (Go.SL.w64 (4 * v2.1.1) + 4))) x1.1))), ())))
 (gd (0 ≤ Go.SL.w64 (v2.1.1 - 1)) <| gd (Int.toNat (Go.SL.w64 (v2.1.1 - 1)) < 60) <| bnd (v2.2.1[Int.toNat (Go.SL.w64 (v2.1.1 - 1))]?) fun a4 => jn (fun (v5 : ((BitVec 8) × Unit) × (List (BitVec 8)) × Unit) => iter (fun (v6 : ((Int) × Unit) × (List (BitVec 8)) × Unit) => fun r7 => br (decide (v6.1.1 < 4))
 (gd (0 ≤ v6.1.1) <| gd (Int.toNat v6.1.1 < 4) <| bnd (v6.2.1[Int.toNat v6.1.1]?) fun a8 => gd (0 ≤ Go.SL.w64 (v2.1.1 - 8)) <| gd (Int.toNat (Go.SL.w64 (v2.1.1 - 8)) < 60) <| gd (0 ≤ v6.1.1) <| gd (Int.toNat v6.1.1 < 4) <| bnd (v2.2.1[Int.toNat (Go.SL.w64 (v2.1.1 - 8))]?) fun a9 => bnd (a9[Int.toNat v6.1.1]?) fun a10 => gd (0 ≤ v6.1.1) <| gd (Int.toNat v6.1.1 < 4) <| gd (Int.toNat v6.1.1 < (List.length v6.2.1)) <| gdE (v2.2.1 = v2.2.1) <| gdE ((List.replicate 15 (0#8 :: List.replicate 15 0#8) : List (List (BitVec 8))) = List.replicate 15 (0#8 :: List.replicate 15 0#8)) <| r7 ((Go.SL.w64 (v6.1.1 + 1), ()), (List.set v6.2.1 (Int.toNat v6.1.1) (a8 ^^^ a10), ())))
 (gd (0 ≤ v2.1.1) <| gd (Int.toNat v2.1.1 < 60) <| gd (Int.toNat v2.1.1 < (List.length v2.2.1)) <| gdE ((List.replicate 15 (0#8 :: List.replicate 15 0#8) : List (List (BitVec 8))) = List.replicate 15 (0#8 :: List.replicate 15 0#8)) <| r3 ((Go.SL.w64 (v2.1.1 + 1), (v5.1.1, ())), (List.set v2.2.1 (Int.toNat v2.1.1) v6.2.1, ())))) ((0, ()), (v5.2.1, ())))
 (fun j11 => gd ((8 : Int) ≠ 0) <| br (Int.tmod v2.1.1 8 == 0)
 (gd ((0 : Int) ≤ 1) <| gd ((1 : Nat) < 4) <| bnd a4[1]? fun a12 => gd ((0 : Int) ≤ 2) <| gd ((2 : Nat) < 4) <| bnd a4[2]? fun a13 => gd ((0 : Int) ≤ 3) <| gd ((3 : Nat) < 4) <| bnd a4[3]? fun a14 => gd ((0 : Int) ≤ 0) <| gd ((0 : Nat) < 4) <| bnd a4[0]? fun a15 => bnd (F236 (List.set (List.set (List.set (List.set (List.replicate 4 0#8) 0 a12) 1 a13) 2 a14) 3 a15, ()) ()) fun a16 => gd ((0 : Int) ≤ 0) <| gd ((0 : Nat) < 4) <| bnd a16.1.1[0]? fun a17 => gd ((0 : Int) ≤ 0) <| gd ((0 : Nat) < 4) <| gd (0 < (List.length a16.1.1)) <| bnd (F237 (v2.1.2.1, ()) ()) fun a18 => gdE (v2.2.1 = v2.2.1) <| gdE ((List.replicate 15 (0#8 :: List.replicate 15 0#8) : List (List (BitVec 8))) = List.replicate 15 (0#8 :: List.replicate 15 0#8)) <| j11 ((a18.1.1, ()), (List.set a16.1.1 0 (a17 ^^^ v2.1.2.1), ())))
 (br (Int.tmod v2.1.1 8 == 4)
 (bnd (F236 (a4, ()) ()) fun a19 => gdE (v2.2.1 = v2.2.1) <| gdE ((List.replicate 15 (0#8 :: List.replicate 15 0#8) : List (List (BitVec 8))) = List.replicate 15 (0#8 :: List.replicate 15 0#8)) <| j11 ((v2.1.2.1, ()), (a19.1.1, ())))
 (gdE (v2.2.1 = v2.2.1) <| gdE ((List.replicate 15 (0#8 :: List.replicate 15 0#8) : List (List (BitVec 8))) = List.replicate 15 (0#8 :: List.replicate 15 0#8)) <| j11 ((v2.1.2.1, ()), (a4, ())))))))
 (iter (fun (v20 : ((Int) × Unit) × (List (List (BitVec 8))) × Unit) => fun r21 => br (decide (v20.1.1 < 60))
 (gd (0 ≤ v20.1.1) <| bnd (v2.2.1[Int.toNat v20.1.1]?) fun a22 => gd ((4 : Int) ≠ 0) <| gd (0 ≤ Go.SL.w64 (Int.tdiv v20.1.1 4)) <| gd (Int.toNat (Go.SL.w64 (Int.tdiv v20.1.1 4)) < 15) <| gd ((4 : Int) ≠ 0) <| gd (0 ≤ Go.SL.w64 (4 * Int.tmod v20.1.1 4)) <| gd (Int.toNat (Go.SL.w64 (4 * Int.tmod v20.1.1 4)) ≤ 16) <| gd ((16 : Nat) ≤ 16) <| gd ((0 : Nat) ≤ 4) <| gd ((4 : Nat) ≤ 4) <| gd (4 ≤ (List.length a22)) <| gd (0 < (16 - Int.toNat (Go.SL.w64 (4 * Int.tmod v20.1.1 4)))) <| bnd (v20.2.1[Int.toNat (Go.SL.w64 (Int.tdiv v20.1.1 4))]?) fun a23 => gd ((Int.toNat (Go.SL.w64 (4 * Int.tmod v20.1.1 4)) + (16 - Int.toNat (Go.SL.w64 (4 * Int.tmod v20.1.1 4)))) ≤ (List.length a23)) <| gd (Int.toNat (Go.SL.w64 (Int.tdiv v20.1.1 4)) < (List.length v20.2.1)) <| gdE (v2.2.1 = v2.2.1) <| gdE ((List.replicate 15 (0#8 :: List.replicate 15 0#8) : List (List (BitVec 8))) = List.replicate 15 (0#8 :: List.replicate 15 0#8)) <| r21 ((Go.SL.w64 (v20.1.1 + 1), ()), (List.set v20.2.1 (Int.toNat (Go.SL.w64 (Int.tdiv v20.1.1 4))) (ovl a23 (Int.toNat (Go.SL.w64 (4 * Int.tmod v20.1.1 4))) (List.take (16 - Int.toNat (Go.SL.w64 (4 * Int.tmod v20.1.1 4))) (List.take 4 (List.drop 0 a22)))), ())))
 (some ((v20.2.1, ()), ()))) ((0, ()), (List.replicate 15 (0#8 :: List.replicate 15 0#8), ())))) ((0, (1#8, ())), (List.replicate 60 (0#8 :: List.replicate 3 0#8), ()))
noncomputable abbrev C217 : Con := ⟨[.b (.arr 32 .u8)], [(.arr 15 (.arr 16 .u8))], F217⟩
noncomputable def F218 (x0 : (List (BitVec 8)) × (BitVec 32) × Unit) (x1 : Unit) : Option (((List (BitVec 8)) × Unit) × Unit) :=
 gd ((0 : Nat) ≤ 16) <| gd ((16 : Nat) ≤ 16) <| gd ((0 : Nat) ≤ 12) <| gd ((12 : Nat) ≤ 12) <| gd (12 ≤ (List.length x0.1)) <| gd ((0 : Nat) < 16) <| gd ((16 : Nat) ≤ 16) <| gd ((0 : Int) ≤ 12) <| gd ((12 : Nat) < 16) <| gd (12 < (List.length (ovl (List.replicate 16 0#8) 0 (List.take 16 (List.take 12 (List.drop 0 x0.1)))))) <| gd ((0 : Int) ≤ 13) <| gd ((13 : Nat) < 16) <| gd (13 < (List.length (List.set (ovl (List.replicate 16 0#8) 0 (List.take 16 (List.take 12 (List.drop 0 x0.1)))) 12 (BitVec.setWidth 8 (x0.2.1 >>> 24))))) <| gd ((0 : Int) ≤ 14) <| gd ((14 : Nat) < 16) <| gd (14 < (List.length (List.set (List.set (ovl (List.replicate 16 0#8) 0 (List.take 16 (List.take 12 (List.drop 0 x0.1)))) 12 (BitVec.setWidth 8 (x0.2.1 >>> 24))) 13 (BitVec.setWidth 8 (x0.2.1 >>> 16))))) <| gd ((0 : Int) ≤ 15) <| gd ((15 : Nat) < 16) <| gd (15 < (List.length (List.set (List.set (List.set (ovl (List.replicate 16 0#8) 0 (List.take 16 (List.take 12 (List.drop 0 x0.1)))) 12 (BitVec.setWidth 8 (x0.2.1 >>> 24))) 13 (BitVec.setWidth 8 (x0.2.1 >>> 16))) 14 (BitVec.setWidth 8 (x0.2.1 >>> 8))))) <| some ((List.set (List.set (List.set (List.set (ovl (List.replicate 16 0#8) 0 (List.take 16 (List.take 12 (List.drop 0 x0.1)))) 12 (BitVec.setWidth 8 (x0.2.1 >>> 24))) 13 (BitVec.setWidth 8 (x0.2.1 >>> 16))) 14 (BitVec.setWidth 8 (x0.2.1 >>> 8))) 15 (BitVec.setWidth 8 x0.2.1), ()), ())
noncomputable abbrev C218 : Con := ⟨[.v (.arr 12 .u8), .v .u32], [(.arr 16 .u8)], F218⟩
noncomputable def F219 (x0 : (List (BitVec 8)) × Unit) (x1 : Unit) : Option (((List (BitVec 8)) × Unit) × Unit) :=
 gd ((0 : Int) ≤ 12) <| gd ((12 : Nat) < 16) <| bnd x0.1[12]? fun a2 => gd ((0 : Int) ≤ 13) <| gd ((13 : Nat) < 16) <| bnd x0.1[13]? fun a3 => gd ((0 : Int) ≤ 14) <| gd ((14 : Nat) < 16) <| bnd x0.1[14]? fun a4 => gd ((0 : Int) ≤ 15) <| gd ((15 : Nat) < 16) <| bnd x0.1[15]? fun a5 => gd ((0 : Int) ≤ 12) <| gd ((12 : Nat) < 16) <| gd (12 < (List.length x0.1)) <| gd ((0 : Int) ≤ 13) <| gd ((13 : Nat) < 16) <| gd (13 < (List.length (List.set x0.1 12 (BitVec.setWidth 8 ((((((BitVec.setWidth 32 a2 <<< 24) ||| (BitVec.setWidth 32 a3 <<< 16)) ||| (BitVec.setWidth 32 a4 <<< 8)) ||| BitVec.setWidth 32 a5) + 1#32) >>> 24))))) <| gd ((0 : Int) ≤ 14) <| gd ((14 : Nat) < 16) <| gd (14 < (List.length (List.set (List.set x0.1 12 (BitVec.setWidth 8 ((((((BitVec.setWidth 32 a2 <<< 24) ||| (BitVec.setWidth 32 a3 <<< 16)) ||| (BitVec.setWidth 32 a4 <<< 8)) ||| BitVec.setWidth 32 a5) + 1#32) >>> 24))) 13 (BitVec.setWidth 8 ((((((BitVec.setWidth 32 a2 <<< 24) ||| (BitVec.setWidth 32 a3 <<< 16)) ||| (BitVec.setWidth 32 a4 <<< 8)) ||| BitVec.setWidth 32 a5) + 1#32) >>> 16))))) <| gd ((0 : Int) ≤ 15) <| gd ((15 : Nat) < 16) <| gd (15 < (List.length (List.set (List.set (List.set x0.1 12 (BitVec.setWidth 8 ((((((BitVec.setWidth 32 a2 <<< 24) ||| (BitVec.setWidth 32 a3 <<< 16)) ||| (BitVec.setWidth 32 a4 <<< 8)) ||| BitVec.setWidth 32 a5) + 1#32) >>> 24))) 13 (BitVec.setWidth 8 ((((((BitVec.setWidth 32 a2 <<< 24) ||| (BitVec.setWidth 32 a3 <<< 16)) ||| (BitVec.setWidth 32 a4 <<< 8)) ||| BitVec.setWidth 32 a5) + 1#32) >>> 16))) 14 (BitVec.setWidth 8 ((((((BitVec.setWidth 32 a2 <<< 24) ||| (BitVec.setWidth 32 a3 <<< 16)) ||| (BitVec.setWidth 32 a4 <<< 8)) ||| BitVec.setWidth 32 a5) + 1#32) >>> 8))))) <| some ((List.set (List.set (List.set (List.set x0.1 12 (BitVec.setWidth 8 ((((((BitVec.setWidth 32 a2 <<< 24) ||| (BitVec.setWidth 32 a3 <<< 16)) ||| (BitVec.setWidth 32 a4 <<< 8)) ||| BitVec.setWidth 32 a5) + 1#32) >>> 24))) 13 (BitVec.setWidth 8 ((((((BitVec.setWidth 32 a2 <<< 24) ||| (BitVec.setWidth 32 a3 <<< 16)) ||| (BitVec.setWidth 32 a4 <<< 8)) ||| BitVec.setWidth 32 a5) + 1#32) >>> 16))) 14 (BitVec.setWidth 8 ((((((BitVec.setWidth 32 a2 <<< 24) ||| (BitVec.setWidth 32 a3 <<< 16)) ||| (BitVec.setWidth 32 a4 <<< 8)) ||| BitVec.setWidth 32 a5) + 1#32) >>> 8))) 15 (BitVec.setWidth 8 (((((BitVec.setWidth 32 a2 <<< 24) ||| (BitVec.setWidth 32 a3 <<< 16)) ||| (BitVec.setWidth 32 a4 <<< 8)) ||| BitVec.setWidth 32 a5) + 1#32)), ()), ())
noncomputable abbrev C219 : Con := ⟨[.v (.arr 16 .u8)], [(.arr 16 .u8)], F219⟩
noncomputable def F222 (x0 : (List (BitVec 8)) × (List (BitVec 8)) × Unit) (x1 : Unit) : Option (((List (BitVec 8)) × Unit) × Unit) :=
 iter (fun (v2 : ((Int) × Unit) × (List (BitVec 8)) × Unit) => fun r3 => br (decide (v2.1.1 < 16))
 (gd (0 ≤ v2.1.1) <| gd (Int.toNat v2.1.1 < 16) <| bnd (v2.2.1[Int.toNat v2.1.1]?) fun a4 => gd (0 ≤ v2.1.1) <| gd (Int.toNat v2.1.1 < 16) <| bnd (x0.2.1[Int.toNat v2.1.1]?) fun a5 => gd (0 ≤ v2.1.1) <| gd (Int.toNat v2.1.1 < 16) <| gd (Int.toNat v2.1.1 < (List.length v2.2.1)) <| gdE ((List.replicate 16 0#8 : List (BitVec 8)) = List.replicate 16 0#8) <| gdE (x0.2.1 = x0.2.1) <| r3 ((Go.SL.w64 (v2.1.1 + 1), ()), (List.set v2.2.1 (Int.toNat v2.1.1) (a4 ^^^ a5), ())))
 (some ((v2.2.1, ()), ()))) ((0, ()), (x0.1, ()))
noncomputable abbrev C222 : Con := ⟨[.v (.arr 16 .u8), .v (.arr 16 .u8)], [(.arr 16 .u8)], F222⟩
noncomputable def F256 (x0 : (List (BitVec 8)) × Unit) (x1 : Unit) : Option (((List (BitVec 8)) × Unit) × Unit) :=
 gd ((0 : Int) ≤ 0) <| gd ((0 : Nat) < 4) <| bnd x0.1[0]? fun a2 => gd ((0 : Int) ≤ 1) <| gd ((1 : Nat) < 4) <| bnd x0.1[1]? fun a3 => gd ((0 : Int) ≤ 2) <| gd ((2 : Nat) < 4) <| bnd x0.1[2]? fun a4 => gd ((0 : Int) ≤ 3) <| gd ((3 : Nat) < 4) <| bnd x0.1[3]? fun a5 => iter (fun (v6 : ((Int) × Unit) × (List (BitVec 8)) × Unit) => fun r7 => br (decide (v6.1.1 < 4))
 (gd (0 ≤ v6.1.1) <| gd (Int.toNat v6.1.1 < 4) <| bnd (x0.1[Int.toNat v6.1.1]?) fun a8 => gd (0 ≤ v6.1.1) <| gd (Int.toNat v6.1.1 < 4) <| bnd (x0.1[Int.toNat v6.1.1]?) fun a9 => gd ((4 : Int) ≠ 0) <| gd (0 ≤ Int.tmod (Go.SL.w64 (v6.1.1 + 1)) 4) <| gd (Int.toNat (Int.tmod (Go.SL.w64 (v6.1.1 + 1)) 4) < 4) <| bnd (x0.1[Int.toNat (Int.tmod (Go.SL.w64 (v6.1.1 + 1)) 4)]?) fun a10 => bnd (F237 ((a9 ^^^ a10), ()) ()) fun a11 => gd (0 ≤ v6.1.1) <| gd (Int.toNat v6.1.1 < 4) <| gd (Int.toNat v6.1.1 < (List.length v6.2.1)) <| gdE ((List.replicate 4 0#8 : List (BitVec 8)) = List.replicate 4 0#8) <| gdE (x0.1 = x0.1) <| r7 ((Go.SL.w64 (v6.1.1 + 1), ()), (List.set v6.2.1 (Int.toNat v6.1.1) ((a8 ^^^ (((a2 ^^^ a3) ^^^ a4) ^^^ a5)) ^^^ a11.1.1), ())))
 (some ((v6.2.1, ()), ()))) ((0, ()), (List.replicate 4 0#8, ()))
noncomputable abbrev C256 : Con := ⟨[.v (.arr 4 .u8)], [(.arr 4 .u8)], F256⟩
noncomputable def F238 (x0 : (List (BitVec 8)) × (List (BitVec 8)) × (Bool) × Unit) (x1 : Unit) : Option (((List (BitVec 8)) × Unit) × Unit) :=
 iter (fun (v2 : ((Int) × Unit) × (List (BitVec 8)) × Unit) => fun r3 => br (decide (v2.1.1 < 4))
 (iter (fun (v4 : ((Int) × Unit) × (List (BitVec 8)) × Unit) => fun r5 => br (decide (v4.1.1 < 4))
 (gd ((16 : Int) ≠ 0) <| gd (0 ≤ Int.tmod (Go.SL.w64 (Go.SL.w64 (4 * Go.SL.w64 (v2.1.1 + v4.1.1)) + v4.1.1)) 16) <| gd (Int.toNat (Int.tmod (Go.SL.w64 (Go.SL.w64 (4 * Go.SL.w64 (v2.1.1 + v4.1.1)) + v4.1.1)) 16) < 16) <| bnd (x0.1[Int.toNat (Int.tmod (Go.SL.w64 (Go.SL.w64 (4 * Go.SL.w64 (v2.1.1 + v4.1.1)) + v4.1.1)) 16)]?) fun a6 => bnd (F255 (a6, ()) ()) fun a7 => gd (0 ≤ v4.1.1) <| gd (Int.toNat v4.1.1 < 4) <| gd (Int.toNat v4.1.1 < (List.length v4.2.1)) <| gdE (v2.2.1 = v2.2.1) <| gdE ((List.replicate 16 0#8 : List (BitVec 8)) = List.replicate 16 0#8) <| gdE (x0.2.1 = x0.2.1) <| gdE (x0.1 = x0.1) <| r5 ((Go.SL.w64 (v4.1.1 + 1), ()), (List.set v4.2.1 (Int.toNat v4.1.1) a7.1.1, ())))
 (jn (fun (v8 : (Unit) × (List (BitVec 8)) × Unit) => iter (fun (v9 : ((Int) × Unit) × (List (BitVec 8)) × Unit) => fun r10 => br (decide (v9.1.1 < 4))
 (gd (0 ≤ v9.1.1) <| gd (Int.toNat v9.1.1 < 4) <| bnd (v8.2.1[Int.toNat v9.1.1]?) fun a11 => gd (0 ≤ Go.SL.w64 (Go.SL.w64 (4 * v2.1.1) + v9.1.1)) <| gd (Int.toNat (Go.SL.w64 (Go.SL.w64 (4 * v2.1.1) + v9.1.1)) < 16) <| bnd (x0.2.1[Int.toNat (Go.SL.w64 (Go.SL.w64 (4 * v2.1.1) + v9.1.1))]?) fun a12 => gd (0 ≤ Go.SL.w64 (Go.SL.w64 (4 * v2.1.1) + v9.1.1)) <| gd (Int.toNat (Go.SL.w64 (Go.SL.w64 (4 * v2.1.1) + v9.1.1)) < 16) <| gd (Int.toNat (Go.SL.w64 (Go.SL.w64 (4 * v2.1.1) + v9.1.1)) < (List.length v9.2.1)) <| gdE (v8.2.1 = v8.2.1) <| gdE ((List.replicate 16 0#8 : List (BitVec 8)) = List.replicate 16 0#8) <| gdE (x0.2.1 = x0.2.1) <| gdE (x0.1 = x0.1) <| r10 ((Go.SL.w64 (v9.1.1 + 1), ()), (List.set v9.2.1 (Int.toNat (Go.SL.w64 (Go.SL.w64 (4 * v2.1.1) + v9.1.1))) (a11 ^^^ a12), ())))
 (gdE ((List.replicate 16 0#8 : List (BitVec 8)) = List.replicate 16 0#8) <| gdE (x0.2.1 = x0.2.1) <| gdE (x0.1 = x0.1) <| r3 ((Go.SL.w64 (v2.1.1 + 1), ()), (v9.2.1, ())))) ((0, ()), (v2.2.1, ())))
 (fun j13 => br (!x0.2.2.1)
 (bnd (F256 (v4.2.1, ()) ()) fun a14 => gdE (v2.2.1 = v2.2.1) <| gdE ((List.replicate 16 0#8 : List (BitVec 8)) = List.replicate 16 0#8) <| gdE (x0.2.1 = x0.2.1) <| gdE (x0.1 = x0.1) <| j13 ((), (a14.1.1, ())))
 (gdE (v2.2.1 = v2.2.1) <| gdE ((List.replicate 16 0#8 : List (BitVec 8)) = List.replicate 16 0#8) <| gdE (x0.2.1 = x0.2.1) <| gdE (x0.1 = x0.1) <| j13 ((), (v4.2.1, ())))))) ((0, ()), (List.replicate 4 0#8, ())))
 (some ((v2.2.1, ()), ()))) ((0, ()), (List.replicate 16 0#8, ()))
noncomputable abbrev C238 : Con := ⟨[.v (.arr 16 .u8), .v (.arr 16 .u8), .v .bool], [(.arr 16 .u8)], F238⟩
noncomputable def F220 (x0 : (List (List (BitVec 8))) × (List (BitVec 8)) × Unit) (x1 : Unit) : Option (((List (BitVec 8)) × Unit) × (List (List (BitVec 8))) × Unit) :=
 gd ((0 : Int) ≤ 0) <| gd ((0 : Nat) < 15) <| bnd x0.1[0]? fun a2 => bnd (F222 (x0.2.1, (a2, ())) ()) fun a3 => iter (fun (v4 : ((Int) × Unit) × (List (BitVec 8)) × Unit) => fun r5 => br (decide (v4.1.1 < 15))
 (gd (0 ≤ v4.1.1) <| gd (Int.toNat v4.1.1 < 15) <| bnd (x0.1[Int.toNat v4.1.1]?) fun a6 => bnd (F238 (v4.2.1, (a6, ((v4.1.1 == 14), ()))) ()) fun a7 => gdE ((List.replicate 16 0#8 : List (BitVec 8)) = List.replicate 16 0#8) <| gdE (x0.1 = x0.1) <| r5 ((Go.SL.w64 (v4.1.1 + 1), ()), (a7.1.1, ())))
 (some ((v4.2.1, ()), (x0.1, ())))) ((1, ()), (a3.1.1, ()))
noncomputable abbrev C220 : Con := ⟨[.io 274 (.arr 15 (.arr 16 .u8)) [], .v (.arr 16 .u8)], [(.arr 16 .u8)], F220⟩
noncomputable def F202 (x0 : (List (BitVec 8)) × (List (BitVec 8)) × (BitVec 32) × Unit) (x1 : (List (BitVec 8)) × Unit) : Option (((List (BitVec 8)) × Unit) × Unit) :=
 bnd (F217 () (x0.1, ())) fun a2 => bnd (F171 () (x1.1, ())) fun a3 => bnd (F218 (x0.2.1, (x0.2.2.1, ())) ()) fun a4 => iter (fun (v5 : ((Int) × Unit) × (List (BitVec 8)) × (List (BitVec 8)) × (List (List (BitVec 8))) × Unit) => fun r6 => br (decide (v5.1.1 < (Nat.cast (List.length a3.1.1) : Int)))
 (gd ((16 : Int) ≠ 0) <| br (Int.tmod v5.1.1 16 == 0)
 (br (cond true (decide (v5.1.1 > 0)) false)
 (bnd (F219 (v5.2.1, ()) ()) fun a7 => gd ((16 : Int) ≠ 0) <| br (Int.tmod v5.1.1 16 == 0)
 (bnd (F220 (v5.2.2.2.1, (a7.1.1, ())) ()) fun a8 => gd (0 ≤ v5.1.1) <| gd (0 ≤ imin (Go.SL.w64 (v5.1.1 + 16)) (Nat.cast (List.length v5.2.2.1) : Int)) <| gd (Int.toNat v5.1.1 ≤ Int.toNat (imin (Go.SL.w64 (v5.1.1 + 16)) (Nat.cast (List.length v5.2.2.1) : Int))) <| gd (Int.toNat (imin (Go.SL.w64 (v5.1.1 + 16)) (Nat.cast (List.length v5.2.2.1) : Int)) ≤ (List.length v5.2.2.1)) <| iter (fun (v9 : ((Int) × Unit) × (List (BitVec 8)) × Unit) => fun r10 => br (decide (v9.1.1 < (Nat.cast (Int.toNat (imin (Go.SL.w64 (v5.1.1 + 16)) (Nat.cast (List.length v5.2.2.1) : Int)) - Int.toNat v5.1.1) : Int)))
 (gd (0 ≤ v9.1.1) <| gd (Int.toNat v9.1.1 < (Int.toNat (imin (Go.SL.w64 (v5.1.1 + 16)) (Nat.cast (List.length v5.2.2.1) : Int)) - Int.toNat v5.1.1)) <| bnd (v9.2.1[(Int.toNat v5.1.1 + Int.toNat v9.1.1)]?) fun a11 => gd (0 ≤ v9.1.1) <| gd (Int.toNat v9.1.1 < 16) <| bnd (a8.1.1[Int.toNat v9.1.1]?) fun a12 => gd (0 ≤ v9.1.1) <| gd (Int.toNat v9.1.1 < (Int.toNat (imin (Go.SL.w64 (v5.1.1 + 16)) (Nat.cast (List.length v5.2.2.1) : Int)) - Int.toNat v5.1.1)) <| gd ((Int.toNat v5.1.1 + Int.toNat v9.1.1) < (List.length v9.2.1)) <| gdE (a8.1.1 = a8.1.1) <| gdE (a8.2.1 = a8.2.1) <| gdE (a7.1.1 = a7.1.1) <| gdE (x0.2.1 = x0.2.1) <| gdE (x0.1 = x0.1) <| r10 ((Go.SL.w64 (v9.1.1 + 1), ()), (List.set v9.2.1 (Int.toNat v5.1.1 + Int.toNat v9.1.1) (a11 ^^^ a12), ())))
 (gdE (x0.2.1 = x0.2.1) <| gdE (x0.1 = x0.1) <| r6 ((Go.SL.w64 (v5.1.1 + 1), ()), (a7.1.1, (v9.2.1, (a8.2.1, ())))))) ((0, ()), (v5.2.2.1, ())))
 (gdE (x0.2.1 = x0.2.1) <| gdE (x0.1 = x0.1) <| r6 ((Go.SL.w64 (v5.1.1 + 1), ()), (a7.1.1, (v5.2.2.1, (v5.2.2.2.1, ()))))))
 (gd ((16 : Int) ≠ 0) <| br (Int.tmod v5.1.1 16 == 0)
 (bnd (F220 (v5.2.2.2.1, (v5.2.1, ())) ()) fun a13 => gd (0 ≤ v5.1.1) <| gd (0 ≤ imin (Go.SL.w64 (v5.1.1 + 16)) (Nat.cast (List.length v5.2.2.1) : Int)) <| gd (Int.toNat v5.1.1 ≤ Int.toNat (imin (Go.SL.w64 (v5.1.1 + 16)) (Nat.cast (List.length v5.2.2.1) : Int))) <| gd (Int.toNat (imin (Go.SL.w64 (v5.1.1 + 16)) (Nat.cast (List.length v5.2.2.1) : Int)) ≤ (List.length v5.2.2.1)) <| iter (fun (v14 : ((Int) × Unit) × (List (BitVec 8)) × Unit) => fun r15 => br (decide (v14.1.1 < (Nat.cast (Int.toNat (imin (Go.SL.w64 (v5.1.1 + 16)) (Nat.cast (List.length v5.2.2.1) : Int)) - Int.toNat v5.1.1) : Int)))
 (gd (0 ≤ v14.1.1) <| gd (Int.toNat v14.1.1 < (Int.toNat (imin (Go.SL.w64 (v5.1.1 + 16)) (Nat.cast (List.length v5.2.2.1) : Int)) - Int.toNat v5.1.1)) <| bnd (v14.2.1[(Int.toNat v5.1.1 + Int.toNat v14.1.1)]?) fun a16 => gd (0 ≤ v14.1.1) <| gd (Int.toNat v14.1.1 < 16) <| bnd (a13.1.1[Int.toNat v14.1.1]?) fun a17 => gd (0 ≤ v14.1.1) <| gd (Int.toNat v14.1.1 < (Int.toNat (imin (Go.SL.w64 (v5.1.1 + 16)) (Nat.cast (List.length v5.2.2.1) : Int)) - Int.toNat v5.1.1)) <| gd ((Int.toNat v5.1.1 + Int.toNat v14.1.1) < (List.length v14.2.1)) <| gdE (a13.1.1 = a13.1.1) <| gdE (a13.2.1 = a13.2.1) <| gdE (v5.2.1 = v5.2.1) <| gdE (x0.2.1 = x0.2.1) <| gdE (x0.1 = x0.1) <| r15 ((Go.SL.w64 (v14.1.1 + 1), ()), (List.set v14.2.1 (Int.toNat v5.1.1 + Int.toNat v14.1.1) (a16 ^^^ a17), ())))
 (gdE (x0.2.1 = x0.2.1) <| gdE (x0.1 = x0.1) <| r6 ((Go.SL.w64 (v5.1.1 + 1), ()), (v5.2.1, (v14.2.1, (a13.2.1, ())))))) ((0, ()), (v5.2.2.1, ())))
 (gdE (x0.2.1 = x0.2.1) <| gdE (x0.1 = x0.1) <| r6 ((Go.SL.w64 (v5.1.1 + 1), ()), (v5.2.1, (v5.2.2.1, (v5.2.2.2.1, ())))))))
 (gd ((16 : Int) ≠ 0) <| br (Int.tmod v5.1.1 16 == 0)
 (bnd (F220 (v5.2.2.2.1, (v5.2.1, ())) ()) fun a18 => gd (0 ≤ v5.1.1) <| gd (0 ≤ imin (Go.SL.w64 (v5.1.1 + 16)) (Nat.cast (List.length v5.2.2.1) : Int)) <| gd (Int.toNat v5.1.1 ≤ Int.toNat (imin (Go.SL.w64 (v5.1.1 + 16)) (Nat.cast (List.length v5.2.2.1) : Int))) <| gd (Int.toNat (imin (Go.SL.w64 (v5.1.1 + 16)) (Nat.cast (List.length v5.2.2.1) : Int)) ≤ (List.length v5.2.2.1)) <| iter (fun (v19 : ((Int) × Unit) × (List (BitVec 8)) × Unit) => fun r20 => br (decide (v19.1.1 < (Nat.cast (Int.toNat (imin (Go.SL.w64 (v5.1.1 + 16)) (Nat.cast (List.length v5.2.2.1) : Int)) - Int.toNat v5.1.1) : Int)))
 (gd (0 ≤ v19.1.1) <| gd (Int.toNat v19.1.1 < (Int.toNat (imin (Go.SL.w64 (v5.1.1 + 16)) (Nat.cast (List.length v5.2.2.1) : Int)) - Int.toNat v5.1.1)) <| bnd (v19.2.1[(Int.toNat v5.1.1 + Int.toNat v19.1.1)]?) fun a21 => gd (0 ≤ v19.1.1) <| gd (Int.toNat v19.1.1 < 16) <| bnd (a18.1.1[Int.toNat v19.1.1]?) fun a22 => gd (0 ≤ v19.1.1) <| gd (Int.toNat v19.1.1 < (Int.toNat (imin (Go.SL.w64 (v5.1.1 + 16)) (Nat.cast (List.length v5.2.2.1) : Int)) - Int.toNat v5.1.1)) <| gd ((Int.toNat v5.1.1 + Int.toNat v19.1.1) < (List.length v19.2.1)) <| gdE (a18.1.1 = a18.1.1) <| gdE (a18.2.1 = a18.2.1) <| gdE (v5.2.1 = v5.2.1) <| gdE (x0.2.1 = x0.2.1) <| gdE (x0.1 = x0.1) <| r20 ((Go.SL.w64 (v19.1.1 + 1), ()), (List.set v19.2.1 (Int.toNat v5.1.1 + Int.toNat v19.1.1) (a21 ^^^ a22), ())))
 (gdE (x0.2.1 = x0.2.1) <| gdE (x0.1 = x0.1) <| r6 ((Go.SL.w64 (v5.1.1 + 1), ()), (v5.2.1, (v19.2.1, (a18.2.1, ())))))) ((0, ()), (v5.2.2.1, ())))
 (gdE (x0.2.1 = x0.2.1) <| gdE (x0.1 = x0.1) <| r6 ((Go.SL.w64 (v5.1.1 + 1), ()), (v5.2.1, (v5.2.2.1, (v5.2.2.2.1, ())))))))
 (some ((v5.2.2.1, ()), ()))) ((0, ()), (a4.1.1, (a3.1.1, (a2.1.1, ()))))
noncomputable abbrev C202 : Con := ⟨[.v (.arr 32 .u8), .v (.arr 12 .u8), .v .u32, .b (.fz .u8)], [(.vec 5 .u8)], F202⟩
noncomputable def F221 (x0 : (List (BitVec 8)) × Unit) (x1 : Unit) : Option (((List (BitVec 8)) × Unit) × Unit) :=
 gd ((16 : Int) ≠ 0) <| gd ((16 : Int) ≠ 0) <| gd (0 ≤ Int.tmod (Go.SL.w64 (16 - Int.tmod (Nat.cast (List.length x0.1) : Int) 16)) 16) <| gd (few9 (List.length x0.1) (Int.toNat (Int.tmod (Go.SL.w64 (16 - Int.tmod (Nat.cast (List.length x0.1) : Int) 16)) 16))) <| some (((x0.1 ++ List.replicate (Int.toNat (Int.tmod (Go.SL.w64 (16 - Int.tmod (Nat.cast (List.length x0.1) : Int) 16)) 16)) 0#8), ()), ())
noncomputable abbrev C221 : Con := ⟨[.v (.vec 5 .u8)], [(.vec 5 .u8)], F221⟩
noncomputable def F257 (x0 : (List (BitVec 8)) × Unit) (x1 : Unit) : Option (((BitVec 64) × (BitVec 64) × Unit) × Unit) :=
 iter (fun (v2 : ((Int) × (BitVec 64) × (BitVec 64) × Unit) × Unit) => fun r3 => br (decide (v2.1.1 < 8))
 (gd (0 ≤ v2.1.1) <| gd (Int.toNat v2.1.1 < 16) <| bnd (x0.1[Int.toNat v2.1.1]?) fun a4 => gd (0 ≤ Go.SL.w64 (v2.1.1 + 8)) <| gd (Int.toNat (Go.SL.w64 (v2.1.1 + 8)) < 16) <| bnd (x0.1[Int.toNat (Go.SL.w64 (v2.1.1 + 8))]?) fun a5 => gdE (x0.1 = x0.1) <| r3 ((Go.SL.w64 (v2.1.1 + 1), (((v2.1.2.1 <<< 8) ||| BitVec.setWidth 64 a5), (((v2.1.2.2.1 <<< 8) ||| BitVec.setWidth 64 a4), ()))), ()))
 (some ((v2.1.2.2.1, (v2.1.2.1, ())), ()))) ((0, (0#64, (0#64, ()))), ())
noncomputable abbrev C257 : Con := ⟨[.v (.arr 16 .u8)], [.u64, .u64], F257⟩
noncomputable def F258 (x0 : (BitVec 64) × (BitVec 64) × Unit) (x1 : Unit) : Option (((List (BitVec 8)) × Unit) × Unit) :=
 iter (fun (v2 : ((Int) × Unit) × (List (BitVec 8)) × Unit) => fun r3 => br (decide (v2.1.1 < 8))
 (gd (0 ≤ Go.SL.w64 (56 - Go.SL.w64 (8 * v2.1.1))) <| gd (0 ≤ Go.SL.w64 (56 - Go.SL.w64 (8 * v2.1.1))) <| gd (0 ≤ v2.1.1) <| gd (Int.toNat v2.1.1 < 16) <| gd (Int.toNat v2.1.1 < (List.length v2.2.1)) <| gd (0 ≤ Go.SL.w64 (v2.1.1 + 8)) <| gd (Int.toNat (Go.SL.w64 (v2.1.1 + 8)) < 16) <| gd (Int.toNat (Go.SL.w64 (v2.1.1 + 8)) < (List.length (List.set v2.2.1 (Int.toNat v2.1.1) (BitVec.setWidth 8 (x0.1 >>> Int.toNat (Go.SL.w64 (56 - Go.SL.w64 (8 * v2.1.1)))))))) <| gdE ((List.replicate 16 0#8 : List (BitVec 8)) = List.replicate 16 0#8) <| r3 ((Go.SL.w64 (v2.1.1 + 1), ()), (List.set (List.set v2.2.1 (Int.toNat v2.1.1) (BitVec.setWidth 8 (x0.1 >>> Int.toNat (Go.SL.w64 (56 - Go.SL.w64 (8 * v2.1.1)))))) (Int.toNat (Go.SL.w64 (v2.1.1 + 8))) (BitVec.setWidth 8 (x0.2.1 >>> Int.toNat (Go.SL.w64 (56 - Go.SL.w64 (8 * v2.1.1))))), ())))
 (some ((v2.2.1, ()), ()))) ((0, ()), (List.replicate 16 0#8, ()))
noncomputable abbrev C258 : Con := ⟨[.v .u64, .v .u64], [(.arr 16 .u8)], F258⟩
noncomputable def F239 (x0 : (List (BitVec 8)) × (List (BitVec 8)) × Unit) (x1 : Unit) : Option (((List (BitVec 8)) × Unit) × Unit) :=
 bnd (F257 (x0.1, ()) ()) fun a2 => bnd (F257 (x0.2.1, ()) ()) fun a3 => iter (fun (v4 : ((Int) × (BitVec 64) × (BitVec 64) × (BitVec 64) × (BitVec 64) × Unit) × Unit) => fun r5 => br (decide (v4.1.1 < 128))
 (jn (fun (v6 : ((BitVec 64) × Unit) × Unit) => gd ((64 : Int) ≠ 0) <| gd (0 ≤ Go.SL.w64 (63 - Int.tmod v4.1.1 64)) <| gdE (x0.2.1 = x0.2.1) <| gdE (x0.1 = x0.1) <| gdE ((List.replicate 16 0#8 : List (BitVec 8)) = List.replicate 16 0#8) <| r5 ((Go.SL.w64 (v4.1.1 + 1), ((v4.1.2.1 ^^^ (v4.1.2.2.2.1 &&& (-((v6.1.1 >>> Int.toNat (Go.SL.w64 (63 - Int.tmod v4.1.1 64))) &&& 1#64)))), ((v4.1.2.2.1 ^^^ (v4.1.2.2.2.2.1 &&& (-((v6.1.1 >>> Int.toNat (Go.SL.w64 (63 - Int.tmod v4.1.1 64))) &&& 1#64)))), (((v4.1.2.2.2.1 >>> 1) ||| (v4.1.2.2.2.2.1 <<< 63)), (((v4.1.2.2.2.2.1 >>> 1) ^^^ (16212958658533785600#64 &&& (-(v4.1.2.2.2.1 &&& 1#64)))), ()))))), ()))
 (fun j7 => br (decide (v4.1.1 ≥ 64))
 (gdE (x0.2.1 = x0.2.1) <| gdE (x0.1 = x0.1) <| gdE ((List.replicate 16 0#8 : List (BitVec 8)) = List.replicate 16 0#8) <| j7 ((a2.1.2.1, ()), ()))
 (gdE (x0.2.1 = x0.2.1) <| gdE (x0.1 = x0.1) <| gdE ((List.replicate 16 0#8 : List (BitVec 8)) = List.replicate 16 0#8) <| j7 ((a2.1.1, ()), ()))))
 (bnd (F258 (v4.1.2.2.1, (v4.1.2.1, ())) ()) fun a8 => some ((a8.1.1, ()), ()))) ((0, (0#64, (0#64, (a3.1.2.1, (a3.1.1, ()))))), ())
noncomputable abbrev C239 : Con := ⟨[.v (.arr 16 .u8), .v (.arr 16 .u8)], [(.arr 16 .u8)], F239⟩
noncomputable def F223 (x0 : (List (BitVec 8)) × Unit) (x1 : (List (BitVec 8)) × Unit) : Option (((List (BitVec 8)) × Unit) × Unit) :=
 iter (fun (v2 : ((List (BitVec 8)) × Unit) × (List (BitVec 8)) × Unit) => fun r3 => br (decide ((Nat.cast (List.length v2.1.1) : Int) > 0))
 (gd ((0 : Nat) ≤ 16) <| gd ((16 : Nat) ≤ 16) <| gd ((0 : Nat) < 16) <| gd ((16 : Nat) ≤ 16) <| gd (0 ≤ (Nat.cast (Min.min (List.length v2.1.1) 16) : Int)) <| gd (Int.toNat (Nat.cast (Min.min (List.length v2.1.1) 16) : Int) ≤ (List.length v2.1.1)) <| gd ((List.length v2.1.1) ≤ (List.length v2.1.1)) <| bnd (F222 (v2.2.1, (ovl (List.replicate 16 0#8) 0 (List.take 16 v2.1.1), ())) ()) fun a4 => bnd (F239 (a4.1.1, (x0.1, ())) ()) fun a5 => gdE ((List.replicate 16 0#8 : List (BitVec 8)) = List.replicate 16 0#8) <| gdE (x0.1 = x0.1) <| r3 ((List.drop (Int.toNat (Nat.cast (Min.min (List.length v2.1.1) 16) : Int)) (List.take (List.length v2.1.1) v2.1.1), ()), (a5.1.1, ())))
 (some ((v2.2.1, ()), ()))) ((x1.1, ()), (List.replicate 16 0#8, ()))
noncomputable abbrev C223 : Con := ⟨[.v (.arr 16 .u8), .b (.fz .u8)], [(.arr 16 .u8)], F223⟩
noncomputable def F203 (x0 : (List (BitVec 8)) × (List (BitVec 8)) × Unit) (x1 : (List (BitVec 8)) × (List (BitVec 8)) × Unit) : Option (((List (BitVec 8)) × Unit) × Unit) :=
 bnd (F217 () (x0.1, ())) fun a2 => bnd (F171 () (x1.1, ())) fun a3 => bnd (F221 (a3.1.1, ()) ()) fun a4 => gd (few (List.length a4.1.1) (List.length x1.2.1)) <| bnd (F221 ((a4.1.1 ++ x1.2.1), ()) ()) fun a5 => iter (fun (v6 : ((Int) × (List (BitVec 8)) × Unit) × Unit) => fun r7 => br (decide (v6.1.1 < (Nat.cast (List.length (((Nat.cast (List.length x1.1) : Int) :: ((Nat.cast (List.length x1.2.1) : Int) :: [])) : List (Int))) : Int)))
 (gd (0 ≤ v6.1.1) <| gd (Int.toNat v6.1.1 < (List.length (((Nat.cast (List.length x1.1) : Int) :: ((Nat.cast (List.length x1.2.1) : Int) :: [])) : List (Int)))) <| bnd (((Nat.cast (List.length x1.1) : Int) :: ((Nat.cast (List.length x1.2.1) : Int) :: []))[Int.toNat v6.1.1]?) fun a8 => iter (fun (v9 : ((Int) × (List (BitVec 8)) × Unit) × Unit) => fun r10 => br (decide (v9.1.1 < 8))
 (gd (0 ≤ Go.SL.w64 (56 - Go.SL.w64 (8 * v9.1.1))) <| gd (few (List.length v9.1.2.1) (List.length ((BitVec.ofInt 8 (Go.SL.ishr64 (Go.SL.w64 (8 * a8)) (Int.toNat (Go.SL.w64 (56 - Go.SL.w64 (8 * v9.1.1))))) :: []) : List (BitVec 8)))) <| gdE ((((Nat.cast (List.length x1.1) : Int) :: ((Nat.cast (List.length x1.2.1) : Int) :: [])) : List (Int)) = ((Nat.cast (List.length x1.1) : Int) :: ((Nat.cast (List.length x1.2.1) : Int) :: []))) <| gdE (a2.1.1 = a2.1.1) <| gdE (x0.1 = x0.1) <| gdE ((List.replicate 16 0#8 : List (BitVec 8)) = List.replicate 16 0#8) <| gdE (x0.2.1 = x0.2.1) <| r10 ((Go.SL.w64 (v9.1.1 + 1), ((v9.1.2.1 ++ (BitVec.ofInt 8 (Go.SL.ishr64 (Go.SL.w64 (8 * a8)) (Int.toNat (Go.SL.w64 (56 - Go.SL.w64 (8 * v9.1.1))))) :: [])), ())), ()))
 (gdE ((((Nat.cast (List.length x1.1) : Int) :: ((Nat.cast (List.length x1.2.1) : Int) :: [])) : List (Int)) = ((Nat.cast (List.length x1.1) : Int) :: ((Nat.cast (List.length x1.2.1) : Int) :: []))) <| gdE (a2.1.1 = a2.1.1) <| gdE (x0.1 = x0.1) <| gdE ((List.replicate 16 0#8 : List (BitVec 8)) = List.replicate 16 0#8) <| gdE (x0.2.1 = x0.2.1) <| r7 ((Go.SL.w64 (v6.1.1 + 1), (v9.1.2.1, ())), ()))) ((0, (v6.1.2.1, ())), ()))
 (bnd (F220 (a2.1.1, (List.replicate 16 0#8, ())) ()) fun a11 => bnd (F223 (a11.1.1, ()) (v6.1.2.1, ())) fun a12 => bnd (F218 (x0.2.1, (1#32, ())) ()) fun a13 => bnd (F220 (a11.2.1, (a13.1.1, ())) ()) fun a14 => bnd (F222 (a12.1.1, (a14.1.1, ())) ()) fun a15 => some ((a15.1.1, ()), ()))) ((0, (a5.1.1, ())), ())
noncomputable abbrev C203 : Con := ⟨[.v (.arr 32 .u8), .v (.arr 12 .u8), .b (.fz .u8), .b (.fz .u8)], [(.arr 16 .u8)], F203⟩
noncomputable def F177 (x0 : (List (BitVec 8)) × (List (BitVec 8)) × Unit) (x1 : (List (BitVec 8)) × (List (BitVec 8)) × Unit) : Option (((List (BitVec 8)) × Unit) × Unit) :=
 bnd (F202 (x0.1, (x0.2.1, (2#32, ()))) (x1.2.1, ())) fun a2 => bnd (F203 (x0.1, (x0.2.1, ())) (x1.1, (a2.1.1, ()))) fun a3 => gd (0 ≤ (Nat.cast (List.length a2.1.1) : Int)) <| gd (0 ≤ (Nat.cast (List.length a2.1.1) : Int)) <| gd (Int.toNat (Nat.cast (List.length a2.1.1) : Int) = (List.length a2.1.1)) <| gd (Int.toNat (Nat.cast (List.length a2.1.1) : Int) = (List.length a2.1.1)) <| gd ((0 : Nat) ≤ 16) <| gd ((16 : Nat) ≤ 16) <| gd (16 ≤ (List.length a3.1.1)) <| gd (few (List.length a2.1.1) (List.length (List.take 16 (List.drop 0 a3.1.1)))) <| some (((a2.1.1 ++ List.take 16 (List.drop 0 a3.1.1)), ()), ())
noncomputable abbrev C177 : Con := ⟨[.v (.arr 32 .u8), .v (.arr 12 .u8), .b (.fz .u8), .b (.fz .u8)], [(.vec 5 .u8)], F177⟩
noncomputable def F207 (x0 : (BitVec 32) × Unit) (x1 : Unit) : Option (((Int) × Unit) × Unit) :=
 jn (fun (v2 : ((Int) × (BitVec 32) × Unit) × Unit) => br (decide (BitVec.toNat v2.1.2.1 ≥ 256))
 (bnd (([0#8, 1#8, 2#8, 2#8, 3#8, 3#8, 3#8, 3#8, 4#8, 4#8, 4#8, 4#8, 4#8, 4#8, 4#8, 4#8, 5#8, 5#8, 5#8, 5#8, 5#8, 5#8, 5#8, 5#8, 5#8, 5#8, 5#8, 5#8, 5#8, 5#8, 5#8, 5#8, 6#8, 6#8, 6#8, 6#8, 6#8, 6#8, 6#8, 6#8, 6#8, 6#8, 6#8, 6#8, 6#8, 6#8, 6#8, 6#8, 6#8, 6#8, 6#8, 6#8, 6#8, 6#8, 6#8, 6#8, 6#8, 6#8, 6#8, 6#8, 6#8, 6#8, 6#8, 6#8, 7#8, 7#8, 7#8, 7#8, 7#8, 7#8, 7#8, 7#8, 7#8, 7#8, 7#8, 7#8, 7#8, 7#8, 7#8, 7#8, 7#8, 7#8, 7#8, 7#8, 7#8, 7#8, 7#8, 7#8, 7#8, 7#8, 7#8, 7#8, 7#8, 7#8, 7#8, 7#8, 7#8, 7#8, 7#8, 7#8, 7#8, 7#8, 7#8, 7#8, 7#8, 7#8, 7#8, 7#8, 7#8, 7#8, 7#8, 7#8, 7#8, 7#8, 7#8, 7#8, 7#8, 7#8, 7#8, 7#8, 7#8, 7#8, 7#8, 7#8, 7#8, 7#8, 7#8, 7#8, 8#8, 8#8, 8#8, 8#8, 8#8, 8#8, 8#8, 8#8, 8#8, 8#8, 8#8, 8#8, 8#8, 8#8, 8#8, 8#8, 8#8, 8#8, 8#8, 8#8, 8#8, 8#8, 8#8, 8#8, 8#8, 8#8, 8#8, 8#8, 8#8, 8#8, 8#8, 8#8, 8#8, 8#8, 8#8, 8#8, 8#8, 8#8, 8#8, 8#8, 8#8, 8#8, 8#8, 8#8, 8#8, 8#8, 8#8, 8#8, 8#8, 8#8, 8#8, 8#8, 8#8, 8#8, 8#8, 8#8, 8#8, 8#8, 8#8, 8#8, 8#8, 8#8, 8#8, 8#8, 8#8, 8#8, 8#8, 8#8, 8#8, 8#8, 8#8, 8#8, 8#8, 8#8, 8#8, 8#8, 8#8, 8#8, 8#8, 8#8, 8#8, 8#8, 8#8, 8#8, 8#8, 8#8, 8#8, 8#8, 8#8, 8#8, 8#8, 8#8, 8#8, 8#8, 8#8, 8#8, 8#8, 8#8, 8#8, 8#8, 8#8, 8#8, 8#8, 8#8, 8#8, 8#8, 8#8, 8#8, 8#8, 8#8, 8#8, 8#8, 8#8, 8#8, 8#8, 8#8, 8#8, 8#8, 8#8, 8#8, 8#8, 8#8, 8#8, 8#8, 8#8, 8#8, 8#8, 8#8])[BitVec.toNat (BitVec.setWidth 8 (v2.1.2.1 >>> 8))]?) fun a3 => some ((Go.SL.w64 (Go.SL.w64 (v2.1.1 + 8) + (Nat.cast (BitVec.toNat a3) : Int)), ()), ()))
 (bnd (([0#8, 1#8, 2#8, 2#8, 3#8, 3#8, 3#8, 3#8, 4#8, 4#8, 4#8, 4#8, 4#8, 4#8, 4#8, 4#8, 5#8, 5#8, 5#8, 5#8, 5#8, 5#8, 5#8, 5#8, 5#8, 5#8, 5#8, 5#8, 5#8, 5#8, 5#8, 5#8, 6#8, 6#8, 6#8, 6#8, 6#8, 6#8, 6#8, 6#8, 6#8, 6#8, 6#8, 6#8, 6#8, 6#8, 6#8, 6#8, 6#8, 6#8, 6#8, 6#8, 6#8, 6#8, 6#8, 6#8, 6#8, 6#8, 6#8, 6#8, 6#8, 6#8, 6#8, 6#8, 7#8, 7#8, 7#8, 7#8, 7#8, 7#8, 7#8, 7#8, 7#8, 7#8, 7#8, 7#8, 7#8, 7#8, 7#8, 7#8, 7#8, 7#8, 7#8, 7#8, 7#8, 7#8, 7#8, 7#8, 7#8, 7#8, 7#8, 7#8, 7#8, 7#8, 7#8, 7#8, 7#8, 7#8, 7#8, 7#8, 7#8, 7#8, 7#8, 7#8, 7#8, 7#8, 7#8, 7#8, 7#8, 7#8, 7#8, 7#8, 7#8, 7#8, 7#8, 7#8, 7#8, 7#8, 7#8, 7#8, 7#8, 7#8, 7#8, 7#8, 7#8, 7#8, 7#8, 7#8, 8#8, 8#8, 8#8, 8#8, 8#8, 8#8, 8#8, 8#8, 8#8, 8#8, 8#8, 8#8, 8#8, 8#8, 8#8, 8#8, 8#8, 8#8, 8#8, 8#8, 8#8, 8#8, 8#8, 8#8, 8#8, 8#8, 8#8, 8#8, 8#8, 8#8, 8#8, 8#8, 8#8, 8#8, 8#8, 8#8, 8#8, 8#8, 8#8, 8#8, 8#8, 8#8, 8#8, 8#8, 8#8, 8#8, 8#8, 8#8, 8#8, 8#8, 8#8, 8#8, 8#8, 8#8, 8#8, 8#8, 8#8, 8#8, 8#8, 8#8, 8#8, 8#8, 8#8, 8#8, 8#8, 8#8, 8#8, 8#8, 8#8, 8#8, 8#8, 8#8, 8#8, 8#8, 8#8, 8#8, 8#8, 8#8, 8#8, 8#8, 8#8, 8#8, 8#8, 8#8, 8#8, 8#8, 8#8, 8#8, 8#8, 8#8, 8#8, 8#8, 8#8, 8#8, 8#8, 8#8, 8#8, 8#8, 8#8, 8#8, 8#8, 8#8, 8#8, 8#8, 8#8, 8#8, 8#8, 8#8, 8#8, 8#8, 8#8, 8#8, 8#8, 8#8, 8#8, 8#8, 8#8, 8#8, 8#8, 8#8, 8#8, 8#8, 8#8, 8#8, 8#8, 8#8, 8#8, 8#8])[BitVec.toNat (BitVec.setWidth 8 v2.1.2.1)]?) fun a4 => some ((Go.SL.w64 (v2.1.1 + (Nat.cast (BitVec.toNat a4) : Int)), ()), ())))
 (fun j5 => br (decide (BitVec.toNat x0.1 ≥ 65536))
 (j5 ((16, ((x0.1 >>> 16), ())), ()))
 (j5 ((0, (x0.1, ())), ())))
noncomputable abbrev C207 : Con := ⟨[.v .u32], [.int], F207⟩
noncomputable def F208 (x0 : (BitVec 64) × Unit) (x1 : Unit) : Option (((Int) × Unit) × Unit) :=
 jn (fun (v2 : ((Int) × (BitVec 64) × Unit) × Unit) => jn (fun (v3 : ((Int) × (BitVec 64) × Unit) × Unit) => br (decide (BitVec.toNat v3.1.2.1 ≥ 256))
 (bnd (([0#8, 1#8, 2#8, 2#8, 3#8, 3#8, 3#8, 3#8, 4#8, 4#8, 4#8, 4#8, 4#8, 4#8, 4#8, 4#8, 5#8, 5#8, 5#8, 5#8, 5#8, 5#8, 5#8, 5#8, 5#8, 5#8, 5#8, 5#8, 5#8, 5#8, 5#8, 5#8, 6#8, 6#8, 6#8, 6#8, 6#8, 6#8, 6#8, 6#8, 6#8, 6#8, 6#8, 6#8, 6#8, 6#8, 6#8, 6#8, 6#8, 6#8, 6#8, 6#8, 6#8, 6#8, 6#8, 6#8, 6#8, 6#8, 6#8, 6#8, 6#8, 6#8, 6#8, 6#8, 7#8, 7#8, 7#8, 7#8, 7#8, 7#8, 7#8, 7#8, 7#8, 7#8, 7#8, 7#8, 7#8, 7#8, 7#8, 7#8, 7#8, 7#8, 7#8, 7#8, 7#8, 7#8, 7#8, 7#8, 7#8, 7#8, 7#8, 7#8, 7#8, 7#8, 7#8, 7#8, 7#8, 7#8, 7#8, 7#8, 7#8, 7#8, 7#8, 7#8, 7#8, 7#8, 7#8, 7#8, 7#8, 7#8, 7#8, 7#8, 7#8, 7#8, 7#8, 7#8, 7#8, 7#8, 7#8, 7#8, 7#8, 7#8, 7#8, 7#8, 7#8, 7#8, 7#8, 7#8, 8#8, 8#8, 8#8, 8#8, 8#8, 8#8, 8#8, 8#8, 8#8, 8#8, 8#8, 8#8, 8#8, 8#8, 8#8, 8#8, 8#8, 8#8, 8#8, 8#8, 8#8, 8#8, 8#8, 8#8, 8#8, 8#8, 8#8, 8#8, 8#8, 8#8, 8#8, 8#8, 8#8, 8#8, 8#8, 8#8, 8#8, 8#8, 8#8, 8#8, 8#8, 8#8, 8#8, 8#8, 8#8, 8#8, 8#8, 8#8, 8#8, 8#8, 8#8, 8#8, 8#8, 8#8, 8#8, 8#8, 8#8, 8#8, 8#8, 8#8, 8#8, 8#8, 8#8, 8#8, 8#8, 8#8, 8#8, 8#8, 8#8, 8#8, 8#8, 8#8, 8#8, 8#8, 8#8, 8#8, 8#8, 8#8, 8#8, 8#8, 8#8, 8#8, 8#8, 8#8, 8#8, 8#8, 8#8, 8#8, 8#8, 8#8, 8#8, 8#8, 8#8, 8#8, 8#8, 8#8, 8#8, 8#8, 8#8, 8#8, 8#8, 8#8, 8#8, 8#8, 8#8, 8#8, 8#8, 8#8, 8#8, 8#8, 8#8, 8#8, 8#8, 8#8, 8#8, 8#8, 8#8, 8#8, 8#8, 8#8, 8#8, 8#8, 8#8, 8#8, 8#8, 8#8, 8#8, 8#8])[BitVec.toNat (BitVec.setWidth 8 (v3.1.2.1 >>> 8))]?) fun a4 => some ((Go.SL.w64 (Go.SL.w64 (v3.1.1 + 8) + (Nat.cast (BitVec.toNat a4) : Int)), ()), ()))
 (bnd (([0#8, 1#8, 2#8, 2#8, 3#8, 3#8, 3#8, 3#8, 4#8, 4#8, 4#8, 4#8, 4#8, 4#8, 4#8, 4#8, 5#8, 5#8, 5#8, 5#8, 5#8, 5#8, 5#8, 5#8, 5#8, 5#8, 5#8, 5#8, 5#8, 5#8, 5#8, 5#8, 6#8, 6#8, 6#8, 6#8, 6#8, 6#8, 6#8, 6#8, 6#8, 6#8, 6#8, 6#8, 6#8, 6#8, 6#8, 6#8, 6#8, 6#8, 6#8, 6#8, 6#8, 6#8, 6#8, 6#8, 6#8, 6#8, 6#8, 6#8, 6#8, 6#8, 6#8, 6#8, 7#8, 7#8, 7#8, 7#8, 7#8, 7#8, 7#8, 7#8, 7#8, 7#8, 7#8, 7#8, 7#8, 7#8, 7#8, 7#8, 7#8, 7#8, 7#8, 7#8, 7#8, 7#8, 7#8, 7#8, 7#8, 7#8, 7#8, 7#8, 7#8, 7#8, 7#8, 7#8, 7#8, 7#8, 7#8, 7#8, 7#8, 7#8, 7#8, 7#8, 7#8, 7#8, 7#8, 7#8, 7#8, 7#8, 7#8, 7#8, 7#8, 7#8, 7#8, 7#8, 7#8, 7#8, 7#8, 7#8, 7#8, 7#8, 7#8, 7#8, 7#8, 7#8, 7#8, 7#8, 8#8, 8#8, 8#8, 8#8, 8#8, 8#8, 8#8, 8#8, 8#8, 8#8, 8#8, 8#8, 8#8, 8#8, 8#8, 8#8, 8#8, 8#8, 8#8, 8#8, 8#8, 8#8, 8#8, 8#8, 8#8, 8#8, 8#8, 8#8, 8#8, 8#8, 8#8, 8#8, 8#8, 8#8, 8#8, 8#8, 8#8, 8#8, 8#8, 8#8, 8#8, 8#8, 8#8, 8#8, 8#8, 8#8, 8#8, 8#8, 8#8, 8#8, 8#8, 8#8, 8#8, 8#8, 8#8, 8#8, 8#8, 8#8, 8#8, 8#8, 8#8, 8#8, 8#8, 8#8, 8#8, 8#8, 8#8, 8#8, 8#8, 8#8, 8#8, 8#8, 8#8, 8#8, 8#8, 8#8, 8#8, 8#8, 8#8, 8#8, 8#8, 8#8, 8#8, 8#8, 8#8, 8#8, 8#8, 8#8, 8#8, 8#8, 8#8, 8#8, 8#8, 8#8, 8#8, 8#8, 8#8, 8#8, 8#8, 8#8, 8#8, 8#8, 8#8, 8#8, 8#8, 8#8, 8#8, 8#8, 8#8, 8#8, 8#8, 8#8, 8#8, 8#8, 8#8, 8#8, 8#8, 8#8, 8#8, 8#8, 8#8, 8#8, 8#8, 8#8, 8#8, 8#8, 8#8, 8#8])[BitVec.toNat (BitVec.setWidth 8 v3.1.2.1)]?) fun a5 => some ((Go.SL.w64 (v3.1.1 + (Nat.cast (BitVec.toNat a5) : Int)), ()), ())))
 (fun j6 => br (decide (BitVec.toNat v2.1.2.1 ≥ 65536))
 (j6 ((Go.SL.w64 (v2.1.1 + 16), ((v2.1.2.1 >>> 16), ())), ()))
 (j6 ((v2.1.1, (v2.1.2.1, ())), ()))))
 (fun j7 => br (decide (BitVec.toNat x0.1 ≥ 4294967296))
 (j7 ((32, ((x0.1 >>> 32), ())), ()))
 (j7 ((0, (x0.1, ())), ())))
noncomputable abbrev C208 : Con := ⟨[.v .u64], [.int], F208⟩
noncomputable def F190 (x0 : (BitVec 64) × Unit) (x1 : Unit) : Option (((Int) × Unit) × Unit) :=
 bnd (F208 (x0.1, ()) ()) fun a2 => some ((a2.1.1, ()), ())
noncomputable abbrev C190 : Con := ⟨[.v .u64], [.int], F190⟩
noncomputable def F149 (x0 : (Int) × Unit) (x1 : (List (BitVec 8)) × Unit) : Option (((List (BitVec 8)) × (Int) × Unit) × Unit) :=
 br (decide (x0.1 < 0))
 (some (([], (1, ())), ()))
 (bnd (F190 (BitVec.ofInt 64 x0.1, ()) ()) fun a2 => gd ((8 : Int) ≠ 0) <| bnd (F171 () (x1.1, ())) fun a3 => gd (few (List.length a3.1.1) (List.length ((BitVec.ofInt 8 (Go.SL.w64 (Int.tdiv (Go.SL.w64 (a2.1.1 + 7)) 8)) :: []) : List (BitVec 8)))) <| iter (fun (v4 : ((Int) × (List (BitVec 8)) × Unit) × Unit) => fun r5 => br (decide (v4.1.1 ≥ 0))
 (gd (0 ≤ Go.SL.w64 (8 * v4.1.1)) <| gd (few (List.length v4.1.2.1) (List.length ((BitVec.ofInt 8 (Go.SL.ishr64 x0.1 (Int.toNat (Go.SL.w64 (8 * v4.1.1)))) :: []) : List (BitVec 8)))) <| gdE (((BitVec.ofInt 8 (Go.SL.w64 (Int.tdiv (Go.SL.w64 (a2.1.1 + 7)) 8)) :: []) : List (BitVec 8)) = (BitVec.ofInt 8 (Go.SL.w64 (Int.tdiv (Go.SL.w64 (a2.1.1 + 7)) 8)) :: [])) <| r5 ((Go.SL.w64 (v4.1.1 - 1), ((v4.1.2.1 ++ (BitVec.ofInt 8 (Go.SL.ishr64 x0.1 (Int.toNat (Go.SL.w64 (8 * v4.1.1)))) :: [])), ())), ()))
 (some ((v4.1.2.1, (0, ())), ()))) ((Go.SL.w64 (Go.SL.w64 (Int.tdiv (Go.SL.w64 (a2.1.1 + 7)) 8) - 1), ((a3.1.1 ++ (BitVec.ofInt 8 (Go.SL.w64 (Int.tdiv (Go.SL.w64 (a2.1.1 + 7)) 8)) :: [])), ())), ()))
noncomputable abbrev C149 : Con := ⟨[.b (.fz .u8), .v .int], [(.vec 5 .u8), .int], F149⟩
noncomputable def F176 (x0 : (Int) × (Int) × (List (BitVec 8)) × Unit) (x1 : (List (BitVec 8)) × Unit) : Option (((List (BitVec 8)) × Unit) × Unit) :=
 bnd (F149 (x0.1, ()) ([], ())) fun a2 => bnd (F149 (x0.2.1, ()) (a2.1.1, ())) fun a3 => gd ((0 : Nat) ≤ 12) <| gd ((12 : Nat) ≤ 12) <| gd (12 ≤ (List.length x0.2.2.1)) <| bnd (F201 () ((a3.1.1 :: (List.take 12 (List.drop 0 x0.2.2.1) :: (x1.1 :: []))), ())) fun a4 => some ((a4.1.1, ()), ())
noncomputable abbrev C176 : Con := ⟨[.v .int, .v .int, .v (.arr 12 .u8), .b (.fz .u8)], [(.vec 5 .u8)], F176⟩
noncomputable def F128 (x0 : ((List ((Bool) × (List ((List (BitVec 8)) × (Int) × (Bool) × Unit)) × Unit)) × Unit) × (Int) × Unit) (x1 : (List (BitVec 8)) × (List (BitVec 8)) × Unit) : Option (((List (BitVec 8)) × (Int) × (Int) × Unit) × ((List ((Bool) × (List ((List (BitVec 8)) × (Int) × (Bool) × Unit)) × Unit)) × Unit) × Unit) :=
 br (decide ((Nat.cast (List.length x1.1) : Int) > 64))
 (some (([], (0, (2, ()))), (x0.1, ())))
 (br (cond false true (decide ((Nat.cast (List.length x1.2.1) : Int) > 32)))
 (some (([], (0, (2, ()))), (x0.1, ())))
 (bnd (F175 (x0.1, (x0.2.1, ())) ()) fun a2 => br (a2.1.2.2.2.1 != 0)
 (some (([], (0, (a2.1.2.2.2.1, ()))), (a2.2.1, ())))
 (iter (fun (v3 : ((Int) × Unit) × (List (BitVec 8)) × Unit) => fun r4 => br (decide (v3.1.1 < 8))
 (gd (0 ≤ Go.SL.w64 (8 * v3.1.1)) <| gd (0 ≤ Go.SL.w64 (11 - v3.1.1)) <| gd (Int.toNat (Go.SL.w64 (11 - v3.1.1)) < 12) <| gd (Int.toNat (Go.SL.w64 (11 - v3.1.1)) < (List.length v3.2.1)) <| gdE (a2.1.2.2.1 = a2.1.2.2.1) <| gdE (a2.2.1 = a2.2.1) <| r4 ((Go.SL.w64 (v3.1.1 + 1), ()), (List.set v3.2.1 (Int.toNat (Go.SL.w64 (11 - v3.1.1))) (BitVec.ofInt 8 (Go.SL.ishr64 a2.1.2.1 (Int.toNat (Go.SL.w64 (8 * v3.1.1))))), ())))
 (bnd (F177 (a2.1.2.2.1, (v3.2.1, ())) (x1.2.1, (x1.1, ()))) fun a5 => bnd (F176 (x0.2.1, (a2.1.1, (v3.2.1, ()))) (a5.1.1, ())) fun a6 => some ((a6.1.1, (a2.1.1, (0, ()))), (a2.2.1, ())))) ((0, ()), (List.replicate 12 0#8, ())))))
noncomputable abbrev C128 : Con := ⟨[.io 173 (.pair (.vec 42 (.pair .bool (.pair (.vec 46 (.pair (.arr 32 .u8) (.pair .int (.pair .bool .unit)))) .unit))) .unit) [], .v .int, .b (.fz .u8), .b (.fz .u8)], [(.fz .u8), .int, .int], F128⟩
noncomputable def F158 (x0 : Unit) (x1 : (List (BitVec 8)) × Unit) : Option (((Int) × (List (BitVec 8)) × (Int) × Unit) × Unit) :=
 br ((Nat.cast (List.length x1.1) : Int) == 0)
 (bnd (F171 () ([], ())) fun a2 => some ((0, (a2.1.1, (3, ()))), ()))
 (gd ((0 : Int) ≤ 0) <| bnd x1.1[0]? fun a3 => br (decide ((Nat.cast (BitVec.toNat a3) : Int) > 8))
 (bnd (F171 () ([], ())) fun a4 => some ((0, (a4.1.1, (80, ()))), ()))
 (br (decide ((Nat.cast (List.length x1.1) : Int) < Go.SL.w64 (1 + (Nat.cast (BitVec.toNat a3) : Int))))
 (bnd (F171 () ([], ())) fun a5 => some ((0, (a5.1.1, (3, ()))), ()))
 (gd ((0 : Int) ≤ 1) <| gd (0 ≤ Go.SL.w64 (1 + (Nat.cast (BitVec.toNat a3) : Int))) <| gd (1 ≤ Int.toNat (Go.SL.w64 (1 + (Nat.cast (BitVec.toNat a3) : Int)))) <| gd (Int.toNat (Go.SL.w64 (1 + (Nat.cast (BitVec.toNat a3) : Int))) ≤ (List.length x1.1)) <| iter (fun (v6 : ((Int) × (Int) × Unit) × Unit) => fun r7 => br (decide (v6.1.1 < (Nat.cast (List.length (List.drop 1 (List.take (Int.toNat (Go.SL.w64 (1 + (Nat.cast (BitVec.toNat a3) : Int)))) x1.1))) : Int)))
 (gd (0 ≤ v6.1.1) <| bnd ((List.drop 1 (List.take (Int.toNat (Go.SL.w64 (1 + (Nat.cast (BitVec.toNat a3) : Int)))) x1.1))[Int.toNat v6.1.1]?) fun a8 => r7 ((Go.SL.w64 (v6.1.1 + 1), (Go.SL.ior64 (Go.SL.ishl64 v6.1.2.1 8) (Nat.cast (BitVec.toNat a8) : Int), ())), ()))
 (br (decide (v6.1.2.1 < 0))
 (bnd (F171 () ([], ())) fun a9 => some ((0, (a9.1.1, (80, ()))), ()))
 (bnd (F190 (BitVec.ofInt 64 v6.1.2.1, ()) ()) fun a10 => gd ((8 : Int) ≠ 0) <| br (cond false true (Go.SL.w64 (Int.tdiv (Go.SL.w64 (a10.1.1 + 7)) 8) != (Nat.cast (BitVec.toNat a3) : Int)))
 (bnd (F171 () ([], ())) fun a11 => some ((0, (a11.1.1, (80, ()))), ()))
 (gd (0 ≤ Go.SL.w64 (1 + (Nat.cast (BitVec.toNat a3) : Int))) <| gd (Int.toNat (Go.SL.w64 (1 + (Nat.cast (BitVec.toNat a3) : Int))) ≤ (List.length x1.1)) <| gd ((List.length x1.1) ≤ (List.length x1.1)) <| bnd (F171 () (List.drop (Int.toNat (Go.SL.w64 (1 + (Nat.cast (BitVec.toNat a3) : Int)))) (List.take (List.length x1.1) x1.1), ())) fun a12 => some ((v6.1.2.1, (a12.1.1, (0, ()))), ()))))) ((0, (0, ())), ()))))
noncomputable abbrev C158 : Con := ⟨[.b (.fz .u8)], [.int, (.fz .u8), .int], F158⟩
noncomputable def F178 (x0 : Unit) (x1 : (List (BitVec 8)) × Unit) : Option (((Int) × (Int) × (List (BitVec 8)) × (List (BitVec 8)) × (Int) × Unit) × Unit) :=
 bnd (F158 () (x1.1, ())) fun a2 => bnd (F158 () (a2.1.2.1, ())) fun a3 => br (a2.1.2.2.1 != 0)
 (some ((0, (0, (List.replicate 12 0#8, ([], (140, ()))))), ()))
 (br (cond false true (a3.1.2.2.1 != 0))
 (some ((0, (0, (List.replicate 12 0#8, ([], (140, ()))))), ()))
 (br (cond false true (decide (imin a2.1.1 a3.1.1 < 1)))
 (some ((0, (0, (List.replicate 12 0#8, ([], (140, ()))))), ()))
 (br (cond false true (decide ((Nat.cast (List.length a3.1.2.1) : Int) < 28)))
 (some ((0, (0, (List.replicate 12 0#8, ([], (140, ()))))), ()))
 (br (cond false true (decide ((Nat.cast (List.length a3.1.2.1) : Int) > 92)))
 (some ((0, (0, (List.replicate 12 0#8, ([], (140, ()))))), ()))
 (gd ((0 : Nat) ≤ 12) <| gd ((12 : Nat) ≤ 12) <| gd ((0 : Nat) < 12) <| gd ((12 : Nat) ≤ 12) <| gd ((0 : Int) ≤ 12) <| gd (12 ≤ (List.length a3.1.2.1)) <| gd ((List.length a3.1.2.1) ≤ (List.length a3.1.2.1)) <| some ((a2.1.1, (a3.1.1, (ovl (List.replicate 12 0#8) 0 (List.take 12 a3.1.2.1), (List.drop 12 (List.take (List.length a3.1.2.1) a3.1.2.1), (0, ()))))), ()))))))
noncomputable abbrev C178 : Con := ⟨[.b (.fz .u8)], [.int, .int, (.arr 12 .u8), (.fz .u8), .int], F178⟩
noncomputable def F179 (x0 : ((List ((Bool) × (List ((List (BitVec 8)) × (Int) × (Bool) × Unit)) × Unit)) × Unit) × (Int) × (Int) × Unit) (x1 : Unit) : Option (((List (BitVec 8)) × (Int) × Unit) × ((List ((Bool) × (List ((List (BitVec 8)) × (Int) × (Bool) × Unit)) × Unit)) × Unit) × Unit) :=
 br (decide (x0.2.1 < 1))
 (some ((List.replicate 32 0#8, (130, ())), (x0.1, ())))
 (br (cond false true (decide (x0.2.1 > (Nat.cast (List.length x0.1.1) : Int))))
 (some ((List.replicate 32 0#8, (130, ())), ((x0.1.1, ()), ())))
 (gd (0 ≤ Go.SL.w64 (x0.2.1 - 1)) <| gd (Int.toNat (Go.SL.w64 (x0.2.1 - 1)) < (List.length x0.1.1)) <| br (cond false true (decide (x0.2.2.1 < 1)))
 (some ((List.replicate 32 0#8, (130, ())), ((x0.1.1, ()), ())))
 (bnd (x0.1.1[Int.toNat (Go.SL.w64 (x0.2.1 - 1))]?) fun a2 => br (cond false true (decide (x0.2.2.1 > (Nat.cast (List.length a2.2.1) : Int))))
 (some ((List.replicate 32 0#8, (130, ())), ((List.set x0.1.1 (Int.toNat (Go.SL.w64 (x0.2.1 - 1))) (a2.1, (a2.2.1, ())), ()), ())))
 (gd (Int.toNat (Go.SL.w64 (x0.2.1 - 1)) = Int.toNat (Go.SL.w64 (x0.2.1 - 1))) <| gd (0 ≤ Go.SL.w64 (x0.2.2.1 - 1)) <| gd (Int.toNat (Go.SL.w64 (x0.2.2.1 - 1)) < (List.length a2.2.1)) <| br (decide (x0.2.1 < 1))
 (none)
 (br (cond false true (decide (x0.2.1 > (Nat.cast (List.length x0.1.1) : Int))))
 (none)
 (gd (0 ≤ Go.SL.w64 (x0.2.1 - 1)) <| gd (Int.toNat (Go.SL.w64 (x0.2.1 - 1)) < (List.length x0.1.1)) <| gd (Int.toNat (Go.SL.w64 (x0.2.1 - 1)) = Int.toNat (Go.SL.w64 (x0.2.1 - 1))) <| br a2.1
 (some ((List.replicate 32 0#8, (131, ())), ((List.set x0.1.1 (Int.toNat (Go.SL.w64 (x0.2.1 - 1))) (a2.1, (a2.2.1, ())), ()), ())))
 (bnd (a2.2.1[Int.toNat (Go.SL.w64 (x0.2.2.1 - 1))]?) fun a3 => br a3.2.2.1
 (some ((List.replicate 32 0#8, (132, ())), ((List.set x0.1.1 (Int.toNat (Go.SL.w64 (x0.2.1 - 1))) (a2.1, (a2.2.1, ())), ()), ())))
 (bnd (a2.2.1[Int.toNat (Go.SL.w64 (x0.2.2.1 - 1))]?) fun a4 => some ((a4.1, (0, ())), ((List.set x0.1.1 (Int.toNat (Go.SL.w64 (x0.2.1 - 1))) (a2.1, (a2.2.1, ())), ()), ()))))))))))
noncomputable abbrev C179 : Con := ⟨[.io 173 (.pair (.vec 42 (.pair .bool (.pair (.vec 46 (.pair (.arr 32 .u8) (.pair .int (.pair .bool .unit)))) .unit))) .unit) [], .v .int, .v .int], [(.arr 32 .u8), .int], F179⟩
noncomputable def F180 (x0 : (List (BitVec 8)) × (List (BitVec 8)) × Unit) (x1 : (List (BitVec 8)) × (List (BitVec 8)) × Unit) : Option (((List (BitVec 8)) × (Int) × Unit) × Unit) :=
 br (decide (Go.SL.w64 ((Nat.cast (List.length x1.2.1) : Int) - 16) < 0))
 (some (([], (3, ())), ()))
 (gd (0 ≤ Go.SL.w64 ((Nat.cast (List.length x1.2.1) : Int) - 16)) <| gd (0 ≤ Int.toNat (Go.SL.w64 ((Nat.cast (List.length x1.2.1) : Int) - 16))) <| gd (Int.toNat (Go.SL.w64 ((Nat.cast (List.length x1.2.1) : Int) - 16)) ≤ (List.length x1.2.1)) <| bth (bnd (F203 (x0.1, (x0.2.1, ())) (x1.1, (List.drop 0 (List.take (Int.toNat (Go.SL.w64 ((Nat.cast (List.length x1.2.1) : Int) - 16))) x1.2.1), ()))) fun a2 => iter (fun (v3 : ((Int) × (BitVec 8) × Unit) × Unit) => fun r4 => br (decide (v3.1.1 < 16))
 (gd (0 ≤ v3.1.1) <| gd (Int.toNat v3.1.1 < 16) <| bnd (a2.1.1[Int.toNat v3.1.1]?) fun a5 => gd (0 ≤ Go.SL.w64 (Go.SL.w64 ((Nat.cast (List.length x1.2.1) : Int) - 16) + v3.1.1)) <| bnd (x1.2.1[Int.toNat (Go.SL.w64 (Go.SL.w64 ((Nat.cast (List.length x1.2.1) : Int) - 16) + v3.1.1))]?) fun a6 => gdE (a2.1.1 = a2.1.1) <| gdE (x0.2.1 = x0.2.1) <| gdE (x0.1 = x0.1) <| r4 ((Go.SL.w64 (v3.1.1 + 1), ((v3.1.2.1 ||| (a5 ^^^ a6)), ())), ()))
 (br (v3.1.2.1 != 0#8)
 (some (([], (40, ())), ()))
 (gd (0 ≤ Go.SL.w64 ((Nat.cast (List.length x1.2.1) : Int) - 16)) <| gd (0 ≤ Int.toNat (Go.SL.w64 ((Nat.cast (List.length x1.2.1) : Int) - 16))) <| gd (Int.toNat (Go.SL.w64 ((Nat.cast (List.length x1.2.1) : Int) - 16)) ≤ (List.length x1.2.1)) <| bnd (F202 (x0.1, (x0.2.1, (2#32, ()))) (List.drop 0 (List.take (Int.toNat (Go.SL.w64 ((Nat.cast (List.length x1.2.1) : Int) - 16))) x1.2.1), ())) fun a7 => some ((a7.1.1, (0, ())), ())))) ((0, (0#8, ())), ()))
 (bnd (F203 (x0.1, (x0.2.1, ())) (x1.1, (List.drop 0 (List.take (Int.toNat (Go.SL.w64 ((Nat.cast (List.length x1.2.1) : Int) - 16))) x1.2.1), ()))) fun a8 => iter (fun (v9 : ((Int) × (BitVec 8) × Unit) × Unit) => fun r10 => br (decide (v9.1.1 < 16))
 (gd (0 ≤ v9.1.1) <| gd (Int.toNat v9.1.1 < 16) <| bnd (a8.1.1[Int.toNat v9.1.1]?) fun a11 => gd (0 ≤ Go.SL.w64 (Go.SL.w64 ((Nat.cast (List.length x1.2.1) : Int) - 16) + v9.1.1)) <| bnd (x1.2.1[Int.toNat (Go.SL.w64 (Go.SL.w64 ((Nat.cast (List.length x1.2.1) : Int) - 16) + v9.1.1))]?) fun a12 => gdE (a8.1.1 = a8.1.1) <| gdE (x0.2.1 = x0.2.1) <| gdE (x0.1 = x0.1) <| r10 ((Go.SL.w64 (v9.1.1 + 1), ((v9.1.2.1 ||| (a11 ^^^ a12)), ())), ()))
 (br (v9.1.2.1 != 0#8)
 (some (([], (40, ())), ()))
 (gd (0 ≤ Go.SL.w64 ((Nat.cast (List.length x1.2.1) : Int) - 16)) <| gd (0 ≤ Int.toNat (Go.SL.w64 ((Nat.cast (List.length x1.2.1) : Int) - 16))) <| gd (Int.toNat (Go.SL.w64 ((Nat.cast (List.length x1.2.1) : Int) - 16)) ≤ (List.length x1.2.1)) <| bnd (F202 (x0.1, (x0.2.1, (2#32, ()))) (List.drop 0 (List.take (Int.toNat (Go.SL.w64 ((Nat.cast (List.length x1.2.1) : Int) - 16))) x1.2.1), ())) fun a13 => some ((a13.1.1, (0, ())), ())))) ((0, (0#8, ())), ())))
noncomputable abbrev C180 : Con := ⟨[.v (.arr 32 .u8), .v (.arr 12 .u8), .b (.fz .u8), .b (.fz .u8)], [(.fz .u8), .int], F180⟩
noncomputable def F129 (x0 : ((List ((Bool) × (List ((List (BitVec 8)) × (Int) × (Bool) × Unit)) × Unit)) × Unit) × Unit) (x1 : (List (BitVec 8)) × (List (BitVec 8)) × Unit) : Option (((List (BitVec 8)) × (Int) × Unit) × ((List ((Bool) × (List ((List (BitVec 8)) × (Int) × (Bool) × Unit)) × Unit)) × Unit) × Unit) :=
 br (decide ((Nat.cast (List.length x1.2.1) : Int) > 32))
 (some (([], (2, ())), (x0.1, ())))
 (bnd (F178 () (x1.1, ())) fun a2 => br (a2.1.2.2.2.2.1 != 0)
 (some (([], (a2.1.2.2.2.2.1, ())), (x0.1, ())))
 (bnd (F179 (x0.1, (a2.1.1, (a2.1.2.1, ()))) ()) fun a3 => br (a3.1.2.1 != 0)
 (some (([], (a3.1.2.1, ())), (a3.2.1, ())))
 (bnd (F180 (a3.1.1, (a2.1.2.2.1, ())) (x1.2.1, (a2.1.2.2.2.1, ()))) fun a4 => some ((a4.1.1, (a4.1.2.1, ())), (a3.2.1, ())))))
noncomputable abbrev C129 : Con := ⟨[.io 173 (.pair (.vec 42 (.pair .bool (.pair (.vec 46 (.pair (.arr 32 .u8) (.pair .int (.pair .bool .unit)))) .unit))) .unit) [], .b (.fz .u8), .b (.fz .u8)], [(.fz .u8), .int], F129⟩
noncomputable def F130 (x0 : ((List ((Bool) × (List ((List (BitVec 8)) × (Int) × (Bool) × Unit)) × Unit)) × Unit) × Unit) (x1 : (List (BitVec 8)) × (List (BitVec 8)) × Unit) : Option (((List (BitVec 8)) × (Int) × (Int) × Unit) × ((List ((Bool) × (List ((List (BitVec 8)) × (Int) × (Bool) × Unit)) × Unit)) × Unit) × Unit) :=
 bnd (F129 (x0.1, ()) (x1.1, (x1.2.1, ()))) fun a2 => br (a2.1.2.1 != 0)
 (some (([], (0, (a2.1.2.1, ()))), (a2.2.1, ())))
 (bnd (F178 () (x1.1, ())) fun a3 => bnd (F128 (a2.2.1, (a3.1.1, ())) (a2.1.1, (x1.2.1, ()))) fun a4 => some ((a4.1.1, (a4.1.2.1, (a4.1.2.2.1, ()))), (a4.2.1, ())))
noncomputable abbrev C130 : Con := ⟨[.io 173 (.pair (.vec 42 (.pair .bool (.pair (.vec 46 (.pair (.arr 32 .u8) (.pair .int (.pair .bool .unit)))) .unit))) .unit) [], .b (.fz .u8), .b (.fz .u8)], [(.fz .u8), .int, .int], F130⟩
noncomputable def F52 (x0 : (((List (BitVec 8)) × (List (BitVec 8)) × (Int) × Unit) × ((List ((Bool) × (List ((List (BitVec 8)) × (Int) × (Bool) × Unit)) × Unit)) × Unit) × ((List ((Int) × (Int) × (Int) × ((Int) × (Int) × (Int) × (List (BitVec 8)) × Unit) × Unit)) × (Int) × Unit) × Unit) × Unit) (x1 : ((Int) × (Int) × (Int) × (Int) × (Int) × (List (BitVec 8)) × (List (BitVec 8)) × Unit) × Unit) : Option ((((Int) × (Int) × (Int) × (List (BitVec 8)) × Unit) × (Int) × Unit) × (((List (BitVec 8)) × (List (BitVec 8)) × (Int) × Unit) × ((List ((Bool) × (List ((List (BitVec 8)) × (Int) × (Bool) × Unit)) × Unit)) × Unit) × ((List ((Int) × (Int) × (Int) × ((Int) × (Int) × (Int) × (List (BitVec 8)) × Unit) × Unit)) × (Int) × Unit) × Unit) × Unit) :=
 br (x1.1.1 == 3)
 (bnd (F172 (x0.1.1, (32, ())) ([], ())) fun a2 => br (a2.1.2.1 != 0)
 (some (((0, (0, (0, ([], ())))), (a2.1.2.1, ())), ((a2.2.1, (x0.1.2.1, (x0.1.2.2.1, ()))), ())))
 (gd (32 ≤ (List.length a2.1.1)) <| bnd (F123 (x0.1.2.1, (List.take 32 a2.1.1, ())) ()) fun a3 => some (((0, (a3.1.1, (1, ([], ())))), (a3.1.2.1, ())), ((a2.2.1, (a3.2.1, (x0.1.2.2.1, ()))), ()))))
 (br (x1.1.1 == 4)
 (bnd (F172 (x0.1.1, (32, ())) ([], ())) fun a4 => br (a4.1.2.1 != 0)
 (some (((0, (0, (0, ([], ())))), (a4.1.2.1, ())), ((a4.2.1, (x0.1.2.1, (x0.1.2.2.1, ()))), ())))
 (gd (32 ≤ (List.length a4.1.1)) <| bnd (F125 (x0.1.2.1, (x1.1.2.2.2.1, (List.take 32 a4.1.1, ()))) ()) fun a5 => some (((0, (x1.1.2.2.2.1, (a5.1.1, ([], ())))), (a5.1.2.1, ())), ((a4.2.1, (a5.2.1, (x0.1.2.2.1, ()))), ()))))
 (br (x1.1.1 == 5)
 (bnd (F126 (x0.1.2.1, (x1.1.2.2.2.1, ((x1.1.2.2.2.2.1 == 1), ()))) ()) fun a6 => some (((0, (0, (0, ([], ())))), (a6.1.1, ())), ((x0.1.1, (a6.2.1, (x0.1.2.2.1, ()))), ())))
 (br (x1.1.1 == 6)
 (bnd (F127 (x0.1.2.1, (x1.1.2.2.2.1, (x1.1.2.2.2.2.1, ()))) ()) fun a7 => some (((0, (0, (0, ([], ())))), (a7.1.1, ())), ((x0.1.1, (a7.2.1, (x0.1.2.2.1, ()))), ())))
 (br (x1.1.1 == 7)
 (bnd (F128 (x0.1.2.1, (x1.1.2.2.2.1, ())) (x1.1.2.2.2.2.2.1, (x1.1.2.2.2.2.2.2.1, ()))) fun a8 => some (((0, (x1.1.2.2.2.1, (a8.1.2.1, (a8.1.1, ())))), (a8.1.2.2.1, ())), ((x0.1.1, (a8.2.1, (x0.1.2.2.1, ()))), ())))
 (br (x1.1.1 == 8)
 (bnd (F129 (x0.1.2.1, ()) (x1.1.2.2.2.2.2.1, (x1.1.2.2.2.2.2.2.1, ()))) fun a9 => some (((0, (0, (0, (a9.1.1, ())))), (a9.1.2.1, ())), ((x0.1.1, (a9.2.1, (x0.1.2.2.1, ()))), ())))
 (br (x1.1.1 == 9)
 (bnd (F130 (x0.1.2.1, ()) (x1.1.2.2.2.2.2.1, (x1.1.2.2.2.2.2.2.1, ()))) fun a10 => some (((0, (0, (a10.1.2.1, (a10.1.1, ())))), (a10.1.2.2.1, ())), ((x0.1.1, (a10.2.1, (x0.1.2.2.1, ()))), ())))
 (br (x1.1.1 == 10)
 (bnd (F106 (x0.1.1, ()) (x1.1.2.2.2.2.2.1, ())) fun a11 => some (((0, (0, (0, ([], ())))), (0, ())), ((a11.2.1, (x0.1.2.1, (x0.1.2.2.1, ()))), ())))
 (some (((0, (0, (0, ([], ())))), (0, ())), (x0.1, ()))))))))))
noncomputable abbrev C52 : Con := ⟨[.io 91 (.pair (.box 171 (.pair (.arr 32 .u8) (.pair (.arr 32 .u8) (.pair .int .unit)))) (.pair (.box 173 (.pair (.vec 42 (.pair .bool (.pair (.vec 46 (.pair (.arr 32 .u8) (.pair .int (.pair .bool .unit)))) .unit))) .unit)) (.pair (.box 176 (.pair (.map (.pair .int (.pair .int (.pair (.pair .int (.pair .int (.pair .int (.pair (.fz .u8) .unit)))) .unit)))) (.pair .int .unit))) .unit))) [], .b (.pair .int (.pair .int (.pair .int (.pair .int (.pair .int (.pair (.fz .u8) (.pair (.fz .u8) .unit)))))))], [(.pair .int (.pair .int (.pair .int (.pair (.fz .u8) .unit)))), .int], F52⟩
noncomputable def F53 (x0 : ((List ((Int) × (Int) × (Int) × ((Int) × (Int) × (Int) × (List (BitVec 8)) × Unit) × Unit)) × (Int) × Unit) × (Int) × (Int) × ((Int) × (Int) × (Int) × (List (BitVec 8)) × Unit) × Unit) (x1 : Unit) : Option (((Int) × Unit) × ((List ((Int) × (Int) × (Int) × ((Int) × (Int) × (Int) × (List (BitVec 8)) × Unit) × Unit)) × (Int) × Unit) × Unit) :=
 ob (mget x0.1.1 x0.2.1) (br true
 (some ((150, ()), ((x0.1.1, (x0.1.2.1, ())), ())))
 (br (decide (x0.2.2.1 ≤ 0))
 (some ((151, ()), ((x0.1.1, (x0.1.2.1, ())), ())))
 (bnd (F120 () (x0.2.2.2.1, ())) fun a2 => some ((0, ()), ((mput x0.1.1 x0.2.1 (x0.2.1, (x0.2.2.1, (a2.1.1, ()))), (x0.1.2.1, ())), ()))))) fun a3 => br false
 (some ((150, ()), ((x0.1.1, (x0.1.2.1, ())), ())))
 (br (decide (x0.2.2.1 ≤ a3.2.1))
 (some ((151, ()), ((x0.1.1, (x0.1.2.1, ())), ())))
 (bnd (F120 () (x0.2.2.2.1, ())) fun a4 => some ((0, ()), ((mput x0.1.1 x0.2.1 (x0.2.1, (x0.2.2.1, (a4.1.1, ()))), (x0.1.2.1, ())), ()))))
noncomputable abbrev C53 : Con := ⟨[.io 176 (.pair (.map (.pair .int (.pair .int (.pair (.pair .int (.pair .int (.pair .int (.pair (.fz .u8) .unit)))) .unit)))) (.pair .int .unit)) [], .v .int, .v .int, .v (.pair .int (.pair .int (.pair .int (.pair (.fz .u8) .unit))))], [.int], F53⟩
noncomputable def F18 (x0 : (((List (BitVec 8)) × (List (BitVec 8)) × (Int) × Unit) × ((List ((Bool) × (List ((List (BitVec 8)) × (Int) × (Bool) × Unit)) × Unit)) × Unit) × ((List ((Int) × (Int) × (Int) × ((Int) × (Int) × (Int) × (List (BitVec 8)) × Unit) × Unit)) × (Int) × Unit) × Unit) × Unit) (x1 : ((Int) × (Int) × (Int) × (Int) × (Int) × (List (BitVec 8)) × (List (BitVec 8)) × Unit) × Unit) : Option ((((Int) × (Int) × (Int) × (List (BitVec 8)) × Unit) × Unit) × (((List (BitVec 8)) × (List (BitVec 8)) × (Int) × Unit) × ((List ((Bool) × (List ((List (BitVec 8)) × (Int) × (Bool) × Unit)) × Unit)) × Unit) × ((List ((Int) × (Int) × (Int) × ((Int) × (Int) × (Int) × (List (BitVec 8)) × Unit) × Unit)) × (Int) × Unit) × Unit) × Unit) :=
 bnd (F47 () ((x1.1.1, (x1.1.2.1, (x1.1.2.2.1, (x1.1.2.2.2.1, (x1.1.2.2.2.2.1, (x1.1.2.2.2.2.2.1, (x1.1.2.2.2.2.2.2.1, ()))))))), ())) fun a2 => br (a2.1.1 != 0)
 (bnd (F48 ((0, (0, (0, ([], ())))), (a2.1.1, ())) ()) fun a3 => some ((a3.1.1, ()), (x0.1, ())))
 (br (x1.1.1 == 1)
 (bnd (F49 (x0.1.2.2.1, ()) ()) fun a4 => bnd (F48 ((0, (a4.1.1, (0, ([], ())))), (a4.1.2.1, ())) ()) fun a5 => some ((a5.1.1, ()), ((x0.1.1, (x0.1.2.1, (a4.2.1, ()))), ())))
 (br (x1.1.1 == 2)
 (bnd (F50 (x0.1.2.2.1, (x1.1.2.2.2.1, ())) ()) fun a6 => bnd (F48 ((0, (0, (0, ([], ())))), (a6.1.1, ())) ()) fun a7 => some ((a7.1.1, ()), ((x0.1.1, (x0.1.2.1, (a6.2.1, ()))), ())))
 (bth (bnd (F51 (x0.1.2.2.1, (x1.1.2.1, (x1.1.2.2.1, ()))) ()) fun a8 => br (a8.1.2.2.1 != 0)
 (bnd (F48 (a8.1.1, (a8.1.2.2.1, ())) ()) fun a9 => some ((a9.1.1, ()), ((x0.1.1, (x0.1.2.1, (a8.2.1, ()))), ())))
 (br (cond false true a8.1.2.1)
 (bnd (F48 (a8.1.1, (a8.1.2.2.1, ())) ()) fun a10 => some ((a10.1.1, ()), ((x0.1.1, (x0.1.2.1, (a8.2.1, ()))), ())))
 (bnd (F52 ((x0.1.1, (x0.1.2.1, (a8.2.1, ()))), ()) ((x1.1.1, (x1.1.2.1, (x1.1.2.2.1, (x1.1.2.2.2.1, (x1.1.2.2.2.2.1, (x1.1.2.2.2.2.2.1, (x1.1.2.2.2.2.2.2.1, ()))))))), ())) fun a11 => bnd (F48 (a11.1.1, (a11.1.2.1, ())) ()) fun a12 => bnd (F53 (a11.2.1.2.2.1, (x1.1.2.1, (x1.1.2.2.1, (a12.1.1, ())))) ()) fun a13 => some ((a12.1.1, ()), ((a11.2.1.1, (a11.2.1.2.1, (a13.2.1, ()))), ())))))
 (bnd (F51 (x0.1.2.2.1, (x1.1.2.1, (x1.1.2.2.1, ()))) ()) fun a14 => br (a14.1.2.2.1 != 0)
 (bnd (F48 (a14.1.1, (a14.1.2.2.1, ())) ()) fun a15 => some ((a15.1.1, ()), ((x0.1.1, (x0.1.2.1, (a14.2.1, ()))), ())))
 (br (cond false true a14.1.2.1)
 (bnd (F48 (a14.1.1, (a14.1.2.2.1, ())) ()) fun a16 => some ((a16.1.1, ()), ((x0.1.1, (x0.1.2.1, (a14.2.1, ()))), ())))
 (bnd (F52 ((x0.1.1, (x0.1.2.1, (a14.2.1, ()))), ()) ((x1.1.1, (x1.1.2.1, (x1.1.2.2.1, (x1.1.2.2.2.1, (x1.1.2.2.2.2.1, (x1.1.2.2.2.2.2.1, (x1.1.2.2.2.2.2.2.1, ()))))))), ())) fun a17 => bnd (F48 (a17.1.1, (a17.1.2.1, ())) ()) fun a18 => bnd (F53 (a17.2.1.2.2.1, (x1.1.2.1, (x1.1.2.2.1, (a18.1.1, ())))) ()) fun a19 => some ((a18.1.1, ()), ((a17.2.1.1, (a17.2.1.2.1, (a19.2.1, ()))), ()))))))))
noncomputable abbrev C18 : Con := ⟨[.io 91 (.pair (.box 171 (.pair (.arr 32 .u8) (.pair (.arr 32 .u8) (.pair .int .unit)))) (.pair (.box 173 (.pair (.vec 42 (.pair .bool (.pair (.vec 46 (.pair (.arr 32 .u8) (.pair .int (.pair .bool .unit)))) .unit))) .unit)) (.pair (.box 176 (.pair (.map (.pair .int (.pair .int (.pair (.pair .int (.pair .int (.pair .int (.pair (.fz .u8) .unit)))) .unit)))) (.pair .int .unit))) .unit))) [], .b (.pair .int (.pair .int (.pair .int (.pair .int (.pair .int (.pair (.fz .u8) (.pair (.fz .u8) .unit)))))))], [(.pair .int (.pair .int (.pair .int (.pair (.fz .u8) .unit))))], F18⟩
noncomputable def F14 (x0 : Unit) (x1 : Unit) : Option (((Bool) × Unit) × Unit) :=
 gd ((0 : Nat) < 4) <| bnd (F15 () ((115#8 :: (101#8 :: (101#8 :: (100#8 :: [])))), ())) fun a2 => bnd (F18 (a2.1.1, ()) ((1, (0, (0, (0, (0, ([], ([], ()))))))), ())) fun a3 => bnd (F18 (a3.2.1, ()) ((3, (1, (1, (0, (0, ([], ([], ()))))))), ())) fun a4 => bnd (F18 (a4.2.1, ()) ((3, (1, (1, (0, (0, ([], ([], ()))))))), ())) fun a5 => bnd (F18 (a5.2.1, ()) ((3, (1, (2, (0, (0, ([], ([], ()))))))), ())) fun a6 => gd ((0 : Nat) < 4) <| bnd (F18 (a6.2.1, ()) ((7, (1, (3, (1, (0, ((116#8 :: (101#8 :: (120#8 :: (116#8 :: [])))), ([], ()))))))), ())) fun a7 => bnd (F18 (a7.2.1, ()) ((8, (1, (4, (0, (0, (a7.1.1.2.2.2.1, ([], ()))))))), ())) fun a8 => bnd (F18 (a8.2.1, ()) ((6, (1, (5, (1, (1, ([], ([], ()))))))), ())) fun a9 => bnd (F18 (a9.2.1, ()) ((8, (1, (6, (0, (0, (a7.1.1.2.2.2.1, ([], ()))))))), ())) fun a10 => br (a3.1.1.2.1 == 1)
 (br (cond true (a4.1.1.2.1 == 1) false)
 (br (cond true (a4.1.1.2.2.1 == 1) false)
 (br (cond true (a5.1.1.2.1 == 1) false)
 (br (cond true (a6.1.1.2.1 == 2) false)
 (br (cond true (a7.1.1.1 == 0) false)
 (br (cond true (a8.1.1.2.2.2.1 == [116#8, 101#8, 120#8, 116#8]) false)
 (br (cond true (a9.1.1.1 == 0) false)
 (br (cond true (a10.1.1.1 == 132) false)
 (some ((cond true ((Nat.cast (List.length a10.1.1.2.2.2.1) : Int) == 0) false, ()), ()))
 (some ((false, ()), ())))
 (some ((false, ()), ())))
 (some ((false, ()), ())))
 (some ((false, ()), ())))
 (some ((false, ()), ())))
 (some ((false, ()), ())))
 (some ((false, ()), ())))
 (some ((false, ()), ())))
 (some ((false, ()), ()))
noncomputable abbrev C14 : Con := ⟨[], [.bool], F14⟩
noncomputable def F16 (x0 : (List (BitVec 8)) × Unit) (x1 : Unit) : Option (((List (BitVec 8)) × Unit) × Unit) :=
 br (decide ((Nat.cast (List.length x0.1) : Int) > 100))
 (gd ((0 : Int) ≤ 100) <| gd ((0 : Nat) ≤ 100) <| gd (100 ≤ (List.length x0.1)) <| some ((List.drop 0 (List.take 100 x0.1), ()), ()))
 (some ((x0.1, ()), ()))
noncomputable abbrev C16 : Con := ⟨[.v (.fz .u8)], [(.fz .u8)], F16⟩
noncomputable def F55 (x0 : ((List ((Bool) × (List ((List (BitVec 8)) × (Int) × (Bool) × Unit)) × Unit)) × Unit) × Unit) (x1 : Unit) : Option (((List ((Bool) × (List ((List (BitVec 8)) × (Int) × (Bool) × Unit)) × Unit)) × Unit) × ((List ((Bool) × (List ((List (BitVec 8)) × (Int) × (Bool) × Unit)) × Unit)) × Unit) × Unit) :=
 iter (fun (v2 : ((Int) × (List ((Bool) × (List ((List (BitVec 8)) × (Int) × (Bool) × Unit)) × Unit)) × Unit) × (List ((Bool) × (List ((List (BitVec 8)) × (Int) × (Bool) × Unit)) × Unit)) × Unit) => fun r3 => br (decide (v2.1.1 < (Nat.cast (List.length x0.1.1) : Int)))
 (gd (0 ≤ v2.1.1) <| gd (Int.toNat v2.1.1 < (List.length v2.2.1)) <| bnd (v2.2.1[Int.toNat v2.1.1]?) fun a4 => nlq (decide ((List.length a4.2.1) = 0))
 (gd (few (List.length v2.1.2.1) (List.length (((a4.1, ([], ())) :: []) : List ((Bool) × (List ((List (BitVec 8)) × (Int) × (Bool) × Unit)) × Unit)))) <| r3 ((Go.SL.w64 (v2.1.1 + 1), ((v2.1.2.1 ++ ((a4.1, ([], ())) :: [])), ())), (List.set v2.2.1 (Int.toNat v2.1.1) (a4.1, (a4.2.1, ())), ())))
 (gd (few 0 (List.length a4.2.1)) <| gd (few (List.length v2.1.2.1) (List.length (((a4.1, (([] ++ a4.2.1), ())) :: []) : List ((Bool) × (List ((List (BitVec 8)) × (Int) × (Bool) × Unit)) × Unit)))) <| r3 ((Go.SL.w64 (v2.1.1 + 1), ((v2.1.2.1 ++ ((a4.1, (([] ++ a4.2.1), ())) :: [])), ())), (List.set v2.2.1 (Int.toNat v2.1.1) (a4.1, (a4.2.1, ())), ()))))
 (some ((v2.1.2.1, ()), ((v2.2.1, ()), ())))) ((0, ([], ())), (x0.1.1, ()))
noncomputable abbrev C55 : Con := ⟨[.io 173 (.pair (.vec 42 (.pair .bool (.pair (.vec 46 (.pair (.arr 32 .u8) (.pair .int (.pair .bool .unit)))) .unit))) .unit) []], [(.vec 42 (.pair .bool (.pair (.vec 46 (.pair (.arr 32 .u8) (.pair .int (.pair .bool .unit)))) .unit)))], F55⟩
noncomputable def F21 (x0 : (((List (BitVec 8)) × (List (BitVec 8)) × (Int) × Unit) × ((List ((Bool) × (List ((List (BitVec 8)) × (Int) × (Bool) × Unit)) × Unit)) × Unit) × ((List ((Int) × (Int) × (Int) × ((Int) × (Int) × (Int) × (List (BitVec 8)) × Unit) × Unit)) × (Int) × Unit) × Unit) × Unit) (x1 : Unit) : Option (((List ((Bool) × (List ((List (BitVec 8)) × (Int) × (Bool) × Unit)) × Unit)) × Unit) × (((List (BitVec 8)) × (List (BitVec 8)) × (Int) × Unit) × ((List ((Bool) × (List ((List (BitVec 8)) × (Int) × (Bool) × Unit)) × Unit)) × Unit) × ((List ((Int) × (Int) × (Int) × ((Int) × (Int) × (Int) × (List (BitVec 8)) × Unit) × Unit)) × (Int) × Unit) × Unit) × Unit) :=
 bnd (F55 (x0.1.2.1, ()) ()) fun a2 => some ((a2.1.1, ()), ((x0.1.1, (a2.2.1, (x0.1.2.2.1, ()))), ()))
noncomputable abbrev C21 : Con := ⟨[.io 91 (.pair (.box 171 (.pair (.arr 32 .u8) (.pair (.arr 32 .u8) (.pair .int .unit)))) (.pair (.box 173 (.pair (.vec 42 (.pair .bool (.pair (.vec 46 (.pair (.arr 32 .u8) (.pair .int (.pair .bool .unit)))) .unit))) .unit)) (.pair (.box 176 (.pair (.map (.pair .int (.pair .int (.pair (.pair .int (.pair .int (.pair .int (.pair (.fz .u8) .unit)))) .unit)))) (.pair .int .unit))) .unit))) []], [(.vec 42 (.pair .bool (.pair (.vec 46 (.pair (.arr 32 .u8) (.pair .int (.pair .bool .unit)))) .unit)))], F21⟩
noncomputable def F37 (x0 : Unit) (x1 : ((Int) × (Int) × (Int) × (Int) × (Int) × (List (BitVec 8)) × (List (BitVec 8)) × Unit) × Unit) : Option ((((Int) × (Int) × (Int) × (Int) × (Int) × (List (BitVec 8)) × (List (BitVec 8)) × Unit) × Unit) × Unit) :=
 jn (fun (v2 : (Unit) × ((Int) × (Int) × (Int) × (Int) × (Int) × (List (BitVec 8)) × (List (BitVec 8)) × Unit) × Unit) => jn (fun (v3 : (Unit) × ((Int) × (Int) × (Int) × (Int) × (Int) × (List (BitVec 8)) × (List (BitVec 8)) × Unit) × Unit) => gd (few 0 (List.length v3.2.1.2.2.2.2.2.1)) <| gd (few 0 (List.length v3.2.1.2.2.2.2.2.2.1)) <| some (((v3.2.1.1, (v3.2.1.2.1, (v3.2.1.2.2.1, (v3.2.1.2.2.2.1, (v3.2.1.2.2.2.2.1, (([] ++ v3.2.1.2.2.2.2.2.1), (([] ++ v3.2.1.2.2.2.2.2.2.1), ()))))))), ()), ()))
 (fun j4 => br (decide ((Nat.cast (List.length v2.2.1.2.2.2.2.2.2.1) : Int) > 200))
 (gd ((0 : Int) ≤ 200) <| gd ((0 : Nat) ≤ 200) <| gd (200 ≤ (List.length v2.2.1.2.2.2.2.2.2.1)) <| gdE ((0 : Int) = 0) <| gdE ((0 : Int) = 0) <| gdE ((0 : Int) = 0) <| gdE ((0 : Int) = 0) <| gdE ((0 : Int) = 0) <| j4 ((), ((v2.2.1.1, (v2.2.1.2.1, (v2.2.1.2.2.1, (v2.2.1.2.2.2.1, (v2.2.1.2.2.2.2.1, (v2.2.1.2.2.2.2.2.1, (List.drop 0 (List.take 200 v2.2.1.2.2.2.2.2.2.1), ()))))))), ())))
 (gdE ((0 : Int) = 0) <| gdE ((0 : Int) = 0) <| gdE ((0 : Int) = 0) <| gdE ((0 : Int) = 0) <| gdE ((0 : Int) = 0) <| j4 ((), ((v2.2.1.1, (v2.2.1.2.1, (v2.2.1.2.2.1, (v2.2.1.2.2.2.1, (v2.2.1.2.2.2.2.1, (v2.2.1.2.2.2.2.2.1, (v2.2.1.2.2.2.2.2.2.1, ()))))))), ())))))
 (fun j5 => br (decide ((Nat.cast (List.length x1.1.2.2.2.2.2.1) : Int) > 200))
 (gd ((0 : Int) ≤ 200) <| gd ((0 : Nat) ≤ 200) <| gd (200 ≤ (List.length x1.1.2.2.2.2.2.1)) <| gdE ((0 : Int) = 0) <| gdE ((0 : Int) = 0) <| gdE ((0 : Int) = 0) <| gdE ((0 : Int) = 0) <| gdE ((0 : Int) = 0) <| j5 ((), ((x1.1.1, (x1.1.2.1, (x1.1.2.2.1, (x1.1.2.2.2.1, (x1.1.2.2.2.2.1, (List.drop 0 (List.take 200 x1.1.2.2.2.2.2.1), (x1.1.2.2.2.2.2.2.1, ()))))))), ())))
 (gdE ((0 : Int) = 0) <| gdE ((0 : Int) = 0) <| gdE ((0 : Int) = 0) <| gdE ((0 : Int) = 0) <| gdE ((0 : Int) = 0) <| j5 ((), ((x1.1.1, (x1.1.2.1, (x1.1.2.2.1, (x1.1.2.2.2.1, (x1.1.2.2.2.2.1, (x1.1.2.2.2.2.2.1, (x1.1.2.2.2.2.2.2.1, ()))))))), ()))))
noncomputable abbrev C37 : Con := ⟨[.b (.pair .int (.pair .int (.pair .int (.pair .int (.pair .int (.pair (.fz .u8) (.pair (.fz .u8) .unit)))))))], [(.pair .int (.pair .int (.pair .int (.pair .int (.pair .int (.pair (.vec 5 .u8) (.pair (.vec 5 .u8) .unit)))))))], F37⟩
noncomputable def F35 (x0 : Unit) (x1 : ((Int) × (Int) × (Int) × (Int) × (Int) × (List (BitVec 8)) × (List (BitVec 8)) × Unit) × (List (BitVec 8)) × Unit) : Option ((((Int) × (Int) × (Int) × (Int) × (Int) × (List (BitVec 8)) × (List (BitVec 8)) × Unit) × Unit) × Unit) :=
 bnd (F37 () ((x1.1.1, (x1.1.2.1, (x1.1.2.2.1, (x1.1.2.2.2.1, (x1.1.2.2.2.2.1, (x1.1.2.2.2.2.2.1, (x1.1.2.2.2.2.2.2.1, ()))))))), ())) fun a2 => jn (fun (v3 : ((Bool) × Unit) × Unit) => br v3.1.1
 (gd (few 0 (List.length x1.2.1)) <| some (((a2.1.1.1, (a2.1.1.2.1, (a2.1.1.2.2.1, (a2.1.1.2.2.2.1, (0, (([] ++ x1.2.1), (a2.1.1.2.2.2.2.2.2.1, ()))))))), ()), ()))
 (some (((a2.1.1.1, (a2.1.1.2.1, (a2.1.1.2.2.1, (a2.1.1.2.2.2.1, (a2.1.1.2.2.2.2.1, (a2.1.1.2.2.2.2.2.1, (a2.1.1.2.2.2.2.2.2.1, ()))))))), ()), ())))
 (fun j4 => br (a2.1.1.1 == 8)
 (gdE (a2.1.1.1 = a2.1.1.1) <| gdE (a2.1.1.2.1 = a2.1.1.2.1) <| gdE (a2.1.1.2.2.1 = a2.1.1.2.2.1) <| gdE (a2.1.1.2.2.2.1 = a2.1.1.2.2.2.1) <| gdE (a2.1.1.2.2.2.2.1 = a2.1.1.2.2.2.2.1) <| gdE (a2.1.1.2.2.2.2.2.2.1 = a2.1.1.2.2.2.2.2.2.1) <| gdE (a2.1.1.2.2.2.2.2.1 = a2.1.1.2.2.2.2.2.1) <| gdE ((0 : Int) = 0) <| gdE ((0 : Int) = 0) <| gdE ((0 : Int) = 0) <| gdE ((0 : Int) = 0) <| gdE ((0 : Int) = 0) <| j4 ((cond true (a2.1.1.2.2.2.2.1 != 0) false, ()), ()))
 (br (cond false true (a2.1.1.1 == 9))
 (gdE (a2.1.1.1 = a2.1.1.1) <| gdE (a2.1.1.2.1 = a2.1.1.2.1) <| gdE (a2.1.1.2.2.1 = a2.1.1.2.2.1) <| gdE (a2.1.1.2.2.2.1 = a2.1.1.2.2.2.1) <| gdE (a2.1.1.2.2.2.2.1 = a2.1.1.2.2.2.2.1) <| gdE (a2.1.1.2.2.2.2.2.2.1 = a2.1.1.2.2.2.2.2.2.1) <| gdE (a2.1.1.2.2.2.2.2.1 = a2.1.1.2.2.2.2.2.1) <| gdE ((0 : Int) = 0) <| gdE ((0 : Int) = 0) <| gdE ((0 : Int) = 0) <| gdE ((0 : Int) = 0) <| gdE ((0 : Int) = 0) <| j4 ((cond true (a2.1.1.2.2.2.2.1 != 0) false, ()), ()))
 (gdE (a2.1.1.1 = a2.1.1.1) <| gdE (a2.1.1.2.1 = a2.1.1.2.1) <| gdE (a2.1.1.2.2.1 = a2.1.1.2.2.1) <| gdE (a2.1.1.2.2.2.1 = a2.1.1.2.2.2.1) <| gdE (a2.1.1.2.2.2.2.1 = a2.1.1.2.2.2.2.1) <| gdE (a2.1.1.2.2.2.2.2.2.1 = a2.1.1.2.2.2.2.2.2.1) <| gdE (a2.1.1.2.2.2.2.2.1 = a2.1.1.2.2.2.2.2.1) <| gdE ((0 : Int) = 0) <| gdE ((0 : Int) = 0) <| gdE ((0 : Int) = 0) <| gdE ((0 : Int) = 0) <| gdE ((0 : Int) = 0) <| j4 ((false, ()), ()))))
noncomputable abbrev C35 : Con := ⟨[.b (.pair .int (.pair .int (.pair .int (.pair .int (.pair .int (.pair (.fz .u8) (.pair (.fz .u8) .unit))))))), .b (.fz .u8)], [(.pair .int (.pair .int (.pair .int (.pair .int (.pair .int (.pair (.vec 5 .u8) (.pair (.vec 5 .u8) .unit)))))))], F35⟩
noncomputable def F78 (x0 : ((List (BitVec 8)) × (List (BitVec 8)) × (Int) × Unit) × Unit) (x1 : Unit) : Option (((List (BitVec 8)) × (List (BitVec 8)) × (Int) × Unit) × ((List (BitVec 8)) × (List (BitVec 8)) × (Int) × Unit) × Unit) :=
 some ((x0.1.1, (x0.1.2.1, (x0.1.2.2.1, ()))), (x0.1, ()))
noncomputable abbrev C78 : Con := ⟨[.io 171 (.pair (.arr 32 .u8) (.pair (.arr 32 .u8) (.pair .int .unit))) []], [(.arr 32 .u8), (.arr 32 .u8), .int], F78⟩
noncomputable def F148 (x0 : Unit) (x1 : (List (BitVec 8)) × (List (BitVec 8)) × Unit) : Option (((List (BitVec 8)) × (Int) × Unit) × Unit) :=
 br (decide ((Nat.cast (List.length x1.2.1) : Int) > 4096))
 (some (([], (2, ())), ()))
 (bnd (F149 ((Nat.cast (List.length x1.2.1) : Int), ()) (x1.1, ())) fun a2 => gd (few (List.length a2.1.1) (List.length x1.2.1)) <| some (((a2.1.1 ++ x1.2.1), (0, ())), ()))
noncomputable abbrev C148 : Con := ⟨[.b (.fz .u8), .b (.fz .u8)], [(.vec 5 .u8), .int], F148⟩
noncomputable def F79 (x0 : ((List (BitVec 8)) × Unit) × Unit) (x1 : (List (BitVec 8)) × Unit) : Option ((Unit) × ((List (BitVec 8)) × Unit) × Unit) :=
 bnd (F148 () (x0.1.1, (x1.1, ()))) fun a2 => some ((), ((a2.1.1, ()), ()))
noncomputable abbrev C79 : Con := ⟨[.io 131 (.pair (.vec 5 .u8) .unit) [], .b (.fz .u8)], [], F79⟩
noncomputable def F80 (x0 : ((List (BitVec 8)) × Unit) × (Int) × Unit) (x1 : Unit) : Option ((Unit) × ((List (BitVec 8)) × Unit) × Unit) :=
 bnd (F149 (x0.2.1, ()) (x0.1.1, ())) fun a2 => some ((), ((a2.1.1, ()), ()))
noncomputable abbrev C80 : Con := ⟨[.io 131 (.pair (.vec 5 .u8) .unit) [], .v .int], [], F80⟩
noncomputable def F81 (x0 : ((List (BitVec 8)) × Unit) × (Bool) × Unit) (x1 : Unit) : Option ((Unit) × ((List (BitVec 8)) × Unit) × Unit) :=
 br x0.2.1
 (bnd (F80 (x0.1, (1, ())) ()) fun a2 => some ((), (a2.2.1, ())))
 (bnd (F80 (x0.1, (0, ())) ()) fun a3 => some ((), (a3.2.1, ())))
noncomputable abbrev C81 : Con := ⟨[.io 131 (.pair (.vec 5 .u8) .unit) [], .v .bool], [], F81⟩
noncomputable def F150 (x0 : ((List ((Int) × (Int) × (Int) × ((Int) × (Int) × (Int) × (List (BitVec 8)) × Unit) × Unit)) × (Int) × Unit) × Unit) (x1 : Unit) : Option (((List ((Int) × (Int) × ((Int) × (Int) × (Int) × (List (BitVec 8)) × Unit) × Unit)) × (Int) × Unit) × ((List ((Int) × (Int) × (Int) × ((Int) × (Int) × (Int) × (List (BitVec 8)) × Unit) × Unit)) × (Int) × Unit) × Unit) :=
 gd ((List.length x0.1.1) ≤ 12) <| gd (i64L x0.1.1 = true) <| iter (fun (v2 : ((Int) × (List ((Int) × (Int) × ((Int) × (Int) × (Int) × (List (BitVec 8)) × Unit) × Unit)) × Unit) × Unit) => fun r3 => br (decide (v2.1.1 < (Nat.cast (List.length (sortZ (List.map (fun y4 => y4.1) x0.1.1))) : Int)))
 (gd (0 ≤ v2.1.1) <| gd (Int.toNat v2.1.1 < (List.length (sortZ (List.map (fun y5 => y5.1) x0.1.1)))) <| bnd ((sortZ (List.map (fun y6 => y6.1) x0.1.1))[Int.toNat v2.1.1]?) fun a7 => bnd (mget x0.1.1 a7) fun a8 => bnd (F120 () (a8.2.2.1, ())) fun a9 => gd (few (List.length v2.1.2.1) (List.length (((a8.1, (a8.2.1, (a9.1.1, ()))) :: []) : List ((Int) × (Int) × ((Int) × (Int) × (Int) × (List (BitVec 8)) × Unit) × Unit)))) <| gdE (sortZ (List.map (fun y10 => y10.1) x0.1.1) = sortZ (List.map (fun y11 => y11.1) x0.1.1)) <| gdE (x0.1.2.1 = x0.1.2.1) <| gdE (x0.1.1 = x0.1.1) <| r3 ((Go.SL.w64 (v2.1.1 + 1), ((v2.1.2.1 ++ ((a8.1, (a8.2.1, (a9.1.1, ()))) :: [])), ())), ()))
 (some ((v2.1.2.1, (x0.1.2.1, ())), ((x0.1.1, (x0.1.2.1, ())), ())))) ((0, ([], ())), ())
noncomputable abbrev C150 : Con := ⟨[.io 176 (.pair (.map (.pair .int (.pair .int (.pair (.pair .int (.pair .int (.pair .int (.pair (.fz .u8) .unit)))) .unit)))) (.pair .int .unit)) []], [(.fz (.pair .int (.pair .int (.pair (.pair .int (.pair .int (.pair .int (.pair (.fz .u8) .unit)))) .unit)))), .int], F150⟩
noncomputable def F82 (x0 : (((List (BitVec 8)) × (List (BitVec 8)) × (Int) × Unit) × ((List ((Bool) × (List ((List (BitVec 8)) × (Int) × (Bool) × Unit)) × Unit)) × Unit) × ((List ((Int) × (Int) × (Int) × ((Int) × (Int) × (Int) × (List (BitVec 8)) × Unit) × Unit)) × (Int) × Unit) × Unit) × Unit) (x1 : Unit) : Option (((List ((Int) × (Int) × ((Int) × (Int) × (Int) × (List (BitVec 8)) × Unit) × Unit)) × (Int) × Unit) × (((List (BitVec 8)) × (List (BitVec 8)) × (Int) × Unit) × ((List ((Bool) × (List ((List (BitVec 8)) × (Int) × (Bool) × Unit)) × Unit)) × Unit) × ((List ((Int) × (Int) × (Int) × ((Int) × (Int) × (Int) × (List (BitVec 8)) × Unit) × Unit)) × (Int) × Unit) × Unit) × Unit) :=
 bnd (F150 (x0.1.2.2.1, ()) ()) fun a2 => some ((a2.1.1, (a2.1.2.1, ())), ((x0.1.1, (x0.1.2.1, (a2.2.1, ()))), ()))
noncomputable abbrev C82 : Con := ⟨[.io 91 (.pair (.box 171 (.pair (.arr 32 .u8) (.pair (.arr 32 .u8) (.pair .int .unit)))) (.pair (.box 173 (.pair (.vec 42 (.pair .bool (.pair (.vec 46 (.pair (.arr 32 .u8) (.pair .int (.pair .bool .unit)))) .unit))) .unit)) (.pair (.box 176 (.pair (.map (.pair .int (.pair .int (.pair (.pair .int (.pair .int (.pair .int (.pair (.fz .u8) .unit)))) .unit)))) (.pair .int .unit))) .unit))) []], [(.fz (.pair .int (.pair .int (.pair (.pair .int (.pair .int (.pair .int (.pair (.fz .u8) .unit)))) .unit)))), .int], F82⟩
noncomputable def F151 (x0 : Unit) (x1 : (List (Int)) × Unit) : Option (((List (BitVec 8)) × Unit) × Unit) :=
 iter (fun (v2 : ((Int) × (List (BitVec 8)) × Unit) × Unit) => fun r3 => br (decide (v2.1.1 < (Nat.cast (List.length x1.1) : Int)))
 (gd (0 ≤ v2.1.1) <| bnd (x1.1[Int.toNat v2.1.1]?) fun a4 => bnd (F149 (a4, ()) (v2.1.2.1, ())) fun a5 => r3 ((Go.SL.w64 (v2.1.1 + 1), (a5.1.1, ())), ()))
 (some ((v2.1.2.1, ()), ()))) ((0, ([], ())), ())
noncomputable abbrev C151 : Con := ⟨[.b (.fz .int)], [(.fz .u8)], F151⟩
noncomputable def F83 (x0 : Unit) (x1 : ((Int) × (Int) × (Int) × (List (BitVec 8)) × Unit) × Unit) : Option (((List (BitVec 8)) × (Int) × Unit) × Unit) :=
 br (decide (x1.1.1 < 0))
 (some (([], (1, ())), ()))
 (br (cond false true (decide (x1.1.2.1 < 0)))
 (some (([], (1, ())), ()))
 (br (cond false true (decide (x1.1.2.2.1 < 0)))
 (some (([], (1, ())), ()))
 (bnd (F151 () ((x1.1.1 :: (x1.1.2.1 :: (x1.1.2.2.1 :: []))), ())) fun a2 => bnd (F148 () (a2.1.1, (x1.1.2.2.2.1, ()))) fun a3 => some ((a3.1.1, (a3.1.2.1, ())), ()))))
noncomputable abbrev C83 : Con := ⟨[.b (.pair .int (.pair .int (.pair .int (.pair (.fz .u8) .unit))))], [(.fz .u8), .int], F83⟩
noncomputable def F36 (x0 : (((List (BitVec 8)) × (List (BitVec 8)) × (Int) × Unit) × ((List ((Bool) × (List ((List (BitVec 8)) × (Int) × (Bool) × Unit)) × Unit)) × Unit) × ((List ((Int) × (Int) × (Int) × ((Int) × (Int) × (Int) × (List (BitVec 8)) × Unit) × Unit)) × (Int) × Unit) × Unit) × Unit) (x1 : Unit) : Option (((List (BitVec 8)) × Unit) × (((List (BitVec 8)) × (List (BitVec 8)) × (Int) × Unit) × ((List ((Bool) × (List ((List (BitVec 8)) × (Int) × (Bool) × Unit)) × Unit)) × Unit) × ((List ((Int) × (Int) × (Int) × ((Int) × (Int) × (Int) × (List (BitVec 8)) × Unit) × Unit)) × (Int) × Unit) × Unit) × Unit) :=
 bnd (F78 (x0.1.1, ()) ()) fun a2 => gd ((0 : Nat) ≤ 32) <| gd ((32 : Nat) ≤ 32) <| gd (32 ≤ (List.length a2.1.1)) <| bnd (F79 (([], ()), ()) (List.take 32 (List.drop 0 a2.1.1), ())) fun a3 => gd ((0 : Nat) ≤ 32) <| gd ((32 : Nat) ≤ 32) <| gd (32 ≤ (List.length a2.1.2.1)) <| bnd (F79 (a3.2.1, ()) (List.take 32 (List.drop 0 a2.1.2.1), ())) fun a4 => bnd (F80 (a4.2.1, (a2.1.2.2.1, ())) ()) fun a5 => bnd (F21 ((a2.2.1, (x0.1.2.1, (x0.1.2.2.1, ()))), ()) ()) fun a6 => bnd (F80 (a5.2.1, ((Nat.cast (List.length a6.1.1) : Int), ())) ()) fun a7 => iter (fun (v8 : ((Int) × Unit) × ((List (BitVec 8)) × Unit) × (List ((Bool) × (List ((List (BitVec 8)) × (Int) × (Bool) × Unit)) × Unit)) × Unit) => fun r9 => br (decide (v8.1.1 < (Nat.cast (List.length a6.1.1) : Int)))
 (gd (0 ≤ v8.1.1) <| gd (Int.toNat v8.1.1 < (List.length v8.2.2.1)) <| bnd (v8.2.2.1[Int.toNat v8.1.1]?) fun a10 => bnd (F81 (v8.2.1, (a10.1, ())) ()) fun a11 => bnd (F80 (a11.2.1, ((Nat.cast (List.length a10.2.1) : Int), ())) ()) fun a12 => iter (fun (v13 : ((Int) × Unit) × ((List (BitVec 8)) × Unit) × Unit) => fun r14 => br (decide (v13.1.1 < (Nat.cast (List.length a10.2.1) : Int)))
 (gd (0 ≤ v13.1.1) <| gd (Int.toNat v13.1.1 < (List.length a10.2.1)) <| bnd (a10.2.1[Int.toNat v13.1.1]?) fun a15 => gd ((0 : Nat) ≤ 32) <| gd ((32 : Nat) ≤ 32) <| gd (32 ≤ (List.length a15.1)) <| bnd (F79 (v13.2.1, ()) (List.take 32 (List.drop 0 a15.1), ())) fun a16 => bnd (F80 (a16.2.1, (a15.2.1, ())) ()) fun a17 => bnd (F81 (a17.2.1, (a15.2.2.1, ())) ()) fun a18 => gdE (a10.1 = a10.1) <| gdE (v8.2.2.1 = v8.2.2.1) <| gdE (Int.toNat v8.1.1 = Int.toNat v8.1.1) <| gdE (a10.1 = a10.1) <| gdE (a10.2.1 = a10.2.1) <| gdE (a6.2.1 = a6.2.1) <| gdE (a2.1.2.1 = a2.1.2.1) <| gdE (a2.1.1 = a2.1.1) <| r14 ((Go.SL.w64 (v13.1.1 + 1), ()), (a18.2.1, ())))
 (gdE (a6.2.1 = a6.2.1) <| gdE (a2.1.2.1 = a2.1.2.1) <| gdE (a2.1.1 = a2.1.1) <| r9 ((Go.SL.w64 (v8.1.1 + 1), ()), (v13.2.1, (List.set v8.2.2.1 (Int.toNat v8.1.1) (a10.1, (a10.2.1, ())), ()))))) ((0, ()), (a12.2.1, ())))
 (bnd (F82 (a6.2.1, ()) ()) fun a19 => bnd (F80 (v8.2.1, (a19.1.2.1, ())) ()) fun a20 => bnd (F80 (a20.2.1, ((Nat.cast (List.length a19.1.1) : Int), ())) ()) fun a21 => iter (fun (v22 : ((Int) × Unit) × ((List (BitVec 8)) × Unit) × Unit) => fun r23 => br (decide (v22.1.1 < (Nat.cast (List.length a19.1.1) : Int)))
 (gd (0 ≤ v22.1.1) <| bnd (a19.1.1[Int.toNat v22.1.1]?) fun a24 => bnd (F80 (v22.2.1, (a24.1, ())) ()) fun a25 => bnd (F80 (a25.2.1, (a24.2.1, ())) ()) fun a26 => bnd (F83 () (a24.2.2.1, ())) fun a27 => gd (few (List.length a26.2.1.1) (List.length a27.1.1)) <| gdE (a19.2.1 = a19.2.1) <| gdE (v8.2.2.1 = v8.2.2.1) <| gdE (a2.1.2.1 = a2.1.2.1) <| gdE (a2.1.1 = a2.1.1) <| r23 ((Go.SL.w64 (v22.1.1 + 1), ()), (((a26.2.1.1 ++ a27.1.1), ()), ())))
 (some ((v22.2.1.1, ()), (a19.2.1, ())))) ((0, ()), (a21.2.1, ())))) ((0, ()), (a7.2.1, (a6.1.1, ())))
noncomputable abbrev C36 : Con := ⟨[.io 91 (.pair (.box 171 (.pair (.arr 32 .u8) (.pair (.arr 32 .u8) (.pair .int .unit)))) (.pair (.box 173 (.pair (.vec 42 (.pair .bool (.pair (.vec 46 (.pair (.arr 32 .u8) (.pair .int (.pair .bool .unit)))) .unit))) .unit)) (.pair (.box 176 (.pair (.map (.pair .int (.pair .int (.pair (.pair .int (.pair .int (.pair .int (.pair (.fz .u8) .unit)))) .unit)))) (.pair .int .unit))) .unit))) []], [(.fz .u8)], F36⟩
noncomputable def F10 (x0 : (List (BitVec 8)) × (List ((Int) × (Int) × (Int) × (Int) × (Int) × (List (BitVec 8)) × (List (BitVec 8)) × Unit)) × ((Int) × (Int) × (Int) × (Int) × (Int) × (List (BitVec 8)) × (List (BitVec 8)) × Unit) × Unit) (x1 : Unit) : Option (((Bool) × Unit) × Unit) :=
 bnd (F14 () ()) fun a2 => bnd (F16 (x0.1, ()) ()) fun a3 => bnd (F15 () (a3.1.1, ())) fun a4 => br (!a2.1.1)
 (some ((false, ()), ()))
 (br false
 (some ((false, ()), ()))
 (iter (fun (v5 : ((Int) × Unit) × (((List (BitVec 8)) × (List (BitVec 8)) × (Int) × Unit) × ((List ((Bool) × (List ((List (BitVec 8)) × (Int) × (Bool) × Unit)) × Unit)) × Unit) × ((List ((Int) × (Int) × (Int) × ((Int) × (Int) × (Int) × (List (BitVec 8)) × Unit) × Unit)) × (Int) × Unit) × Unit) × Unit) => fun r6 => br (decide (v5.1.1 < (Nat.cast (List.length x0.2.1) : Int)))
 (br (cond true (decide (v5.1.1 < 15)) false)
 (gd (0 ≤ v5.1.1) <| bnd (x0.2.1[Int.toNat v5.1.1]?) fun a7 => bnd (F35 () (a7, ([], ()))) fun a8 => bnd (F18 (v5.2.1, ()) ((a8.1.1.1, (a8.1.1.2.1, (a8.1.1.2.2.1, (a8.1.1.2.2.2.1, (a8.1.1.2.2.2.2.1, (a8.1.1.2.2.2.2.2.1, (a8.1.1.2.2.2.2.2.2.1, ()))))))), ())) fun a9 => gdE (x0.2.2.1 = x0.2.2.1) <| r6 ((Go.SL.w64 (v5.1.1 + 1), ()), (a9.2.1, ())))
 (bnd (F36 (v5.2.1, ()) ()) fun a10 => bnd (F37 () (x0.2.2.1, ())) fun a11 => bnd (F18 (a10.2.1, ()) ((a11.1.1.1, (a11.1.1.2.1, (a11.1.1.2.2.1, (a11.1.1.2.2.2.1, (a11.1.1.2.2.2.2.1, (a11.1.1.2.2.2.2.2.1, (a11.1.1.2.2.2.2.2.2.1, ()))))))), ())) fun a12 => jn (fun (v13 : ((Bool) × Unit) × Unit) => br (!v13.1.1)
 (some ((true, ()), ()))
 (bnd (F36 (a12.2.1, ()) ()) fun a14 => br (a14.1.1 == a10.1.1)
 (br (cond true (a12.1.1.2.1 == 0) false)
 (br (cond true (a12.1.1.2.2.1 == 0) false)
 (some ((cond false true (cond true ((Nat.cast (List.length a12.1.1.2.2.2.1) : Int) == 0) false), ()), ()))
 (some ((false, ()), ())))
 (some ((false, ()), ())))
 (some ((false, ()), ()))))
 (fun j15 => br (a12.1.1.1 == 1)
 (gdE (a12.1.1.1 = a12.1.1.1) <| gdE (a12.1.1.2.1 = a12.1.1.2.1) <| gdE (a12.1.1.2.2.1 = a12.1.1.2.2.1) <| gdE (a12.1.1.2.2.2.1 = a12.1.1.2.2.2.1) <| gdE (a12.2.1 = a12.2.1) <| gdE (a11.1.1.1 = a11.1.1.1) <| gdE (a11.1.1.2.1 = a11.1.1.2.1) <| gdE (a11.1.1.2.2.1 = a11.1.1.2.2.1) <| gdE (a11.1.1.2.2.2.1 = a11.1.1.2.2.2.1) <| gdE (a11.1.1.2.2.2.2.1 = a11.1.1.2.2.2.2.1) <| gdE (a11.1.1.2.2.2.2.2.2.1 = a11.1.1.2.2.2.2.2.2.1) <| gdE (a11.1.1.2.2.2.2.2.1 = a11.1.1.2.2.2.2.2.1) <| j15 ((true, ()), ()))
 (br (cond false true (a12.1.1.1 == 151))
 (gdE (a12.1.1.1 = a12.1.1.1) <| gdE (a12.1.1.2.1 = a12.1.1.2.1) <| gdE (a12.1.1.2.2.1 = a12.1.1.2.2.1) <| gdE (a12.1.1.2.2.2.1 = a12.1.1.2.2.2.1) <| gdE (a12.2.1 = a12.2.1) <| gdE (a11.1.1.1 = a11.1.1.1) <| gdE (a11.1.1.2.1 = a11.1.1.2.1) <| gdE (a11.1.1.2.2.1 = a11.1.1.2.2.1) <| gdE (a11.1.1.2.2.2.1 = a11.1.1.2.2.2.1) <| gdE (a11.1.1.2.2.2.2.1 = a11.1.1.2.2.2.2.1) <| gdE (a11.1.1.2.2.2.2.2.2.1 = a11.1.1.2.2.2.2.2.2.1) <| gdE (a11.1.1.2.2.2.2.2.1 = a11.1.1.2.2.2.2.2.1) <| j15 ((true, ()), ()))
 (gdE (a12.1.1.1 = a12.1.1.1) <| gdE (a12.1.1.2.1 = a12.1.1.2.1) <| gdE (a12.1.1.2.2.1 = a12.1.1.2.2.1) <| gdE (a12.1.1.2.2.2.1 = a12.1.1.2.2.2.1) <| gdE (a12.2.1 = a12.2.1) <| gdE (a11.1.1.1 = a11.1.1.1) <| gdE (a11.1.1.2.1 = a11.1.1.2.1) <| gdE (a11.1.1.2.2.1 = a11.1.1.2.2.1) <| gdE (a11.1.1.2.2.2.1 = a11.1.1.2.2.2.1) <| gdE (a11.1.1.2.2.2.2.1 = a11.1.1.2.2.2.2.1) <| gdE (a11.1.1.2.2.2.2.2.2.1 = a11.1.1.2.2.2.2.2.2.1) <| gdE (a11.1.1.2.2.2.2.2.1 = a11.1.1.2.2.2.2.2.1) <| j15 ((cond false true (a12.1.1.1 == 150), ()), ()))))))
 (bnd (F36 (v5.2.1, ()) ()) fun a16 => bnd (F37 () (x0.2.2.1, ())) fun a17 => bnd (F18 (a16.2.1, ()) ((a17.1.1.1, (a17.1.1.2.1, (a17.1.1.2.2.1, (a17.1.1.2.2.2.1, (a17.1.1.2.2.2.2.1, (a17.1.1.2.2.2.2.2.1, (a17.1.1.2.2.2.2.2.2.1, ()))))))), ())) fun a18 => jn (fun (v19 : ((Bool) × Unit) × Unit) => br (!v19.1.1)
 (some ((true, ()), ()))
 (bnd (F36 (a18.2.1, ()) ()) fun a20 => br (a20.1.1 == a16.1.1)
 (br (cond true (a18.1.1.2.1 == 0) false)
 (br (cond true (a18.1.1.2.2.1 == 0) false)
 (some ((cond false true (cond true ((Nat.cast (List.length a18.1.1.2.2.2.1) : Int) == 0) false), ()), ()))
 (some ((false, ()), ())))
 (some ((false, ()), ())))
 (some ((false, ()), ()))))
 (fun j21 => br (a18.1.1.1 == 1)
 (gdE (a18.1.1.1 = a18.1.1.1) <| gdE (a18.1.1.2.1 = a18.1.1.2.1) <| gdE (a18.1.1.2.2.1 = a18.1.1.2.2.1) <| gdE (a18.1.1.2.2.2.1 = a18.1.1.2.2.2.1) <| gdE (a18.2.1 = a18.2.1) <| gdE (a17.1.1.1 = a17.1.1.1) <| gdE (a17.1.1.2.1 = a17.1.1.2.1) <| gdE (a17.1.1.2.2.1 = a17.1.1.2.2.1) <| gdE (a17.1.1.2.2.2.1 = a17.1.1.2.2.2.1) <| gdE (a17.1.1.2.2.2.2.1 = a17.1.1.2.2.2.2.1) <| gdE (a17.1.1.2.2.2.2.2.2.1 = a17.1.1.2.2.2.2.2.2.1) <| gdE (a17.1.1.2.2.2.2.2.1 = a17.1.1.2.2.2.2.2.1) <| j21 ((true, ()), ()))
 (br (cond false true (a18.1.1.1 == 151))
 (gdE (a18.1.1.1 = a18.1.1.1) <| gdE (a18.1.1.2.1 = a18.1.1.2.1) <| gdE (a18.1.1.2.2.1 = a18.1.1.2.2.1) <| gdE (a18.1.1.2.2.2.1 = a18.1.1.2.2.2.1) <| gdE (a18.2.1 = a18.2.1) <| gdE (a17.1.1.1 = a17.1.1.1) <| gdE (a17.1.1.2.1 = a17.1.1.2.1) <| gdE (a17.1.1.2.2.1 = a17.1.1.2.2.1) <| gdE (a17.1.1.2.2.2.1 = a17.1.1.2.2.2.1) <| gdE (a17.1.1.2.2.2.2.1 = a17.1.1.2.2.2.2.1) <| gdE (a17.1.1.2.2.2.2.2.2.1 = a17.1.1.2.2.2.2.2.2.1) <| gdE (a17.1.1.2.2.2.2.2.1 = a17.1.1.2.2.2.2.2.1) <| j21 ((true, ()), ()))
 (gdE (a18.1.1.1 = a18.1.1.1) <| gdE (a18.1.1.2.1 = a18.1.1.2.1) <| gdE (a18.1.1.2.2.1 = a18.1.1.2.2.1) <| gdE (a18.1.1.2.2.2.1 = a18.1.1.2.2.2.1) <| gdE (a18.2.1 = a18.2.1) <| gdE (a17.1.1.1 = a17.1.1.1) <| gdE (a17.1.1.2.1 = a17.1.1.2.1) <| gdE (a17.1.1.2.2.1 = a17.1.1.2.2.1) <| gdE (a17.1.1.2.2.2.1 = a17.1.1.2.2.2.1) <| gdE (a17.1.1.2.2.2.2.1 = a17.1.1.2.2.2.2.1) <| gdE (a17.1.1.2.2.2.2.2.2.1 = a17.1.1.2.2.2.2.2.2.1) <| gdE (a17.1.1.2.2.2.2.2.1 = a17.1.1.2.2.2.2.2.1) <| j21 ((cond false true (a18.1.1.1 == 150), ()), ())))))) ((0, ()), (a4.1.1, ()))))
noncomputable abbrev C10 : Con := ⟨[.v (.fz .u8), .v (.fz (.pair .int (.pair .int (.pair .int (.pair .int (.pair .int (.pair (.fz .u8) (.pair (.fz .u8) .unit)))))))), .v (.pair .int (.pair .int (.pair .int (.pair .int (.pair .int (.pair (.fz .u8) (.pair (.fz .u8) .unit)))))))], [.bool], F10⟩
end Go.GX
