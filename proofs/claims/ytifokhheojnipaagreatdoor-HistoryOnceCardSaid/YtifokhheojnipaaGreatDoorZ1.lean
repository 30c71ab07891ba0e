/- Plain functions of engine G that always tell something. -/
import Derived.Test.YtifokhheojnipaaGreatDoorG7
import Derived.KernelRfl
import Derived.Test.YtifokhheojnipaaGreatDoorProg
set_option linter.unusedVariables false
set_option linter.unusedSimpArgs false
namespace Go.GX
open Go.RowKit Go.SL Go.Proofs
set_option maxRecDepth 100000
def shaAdd : List (BitVec 32) := [0x428a2f98#32, 0x71374491#32, 0xb5c0fbcf#32, 0xe9b5dba5#32, 0x3956c25b#32, 0x59f111f1#32, 0x923f82a4#32, 0xab1c5ed5#32, 0xd807aa98#32, 0x12835b01#32, 0x243185be#32, 0x550c7dc3#32, 0x72be5d74#32, 0x80deb1fe#32, 0x9bdc06a7#32, 0xc19bf174#32, 0xe49b69c1#32, 0xefbe4786#32, 0x0fc19dc6#32, 0x240ca1cc#32, 0x2de92c6f#32, 0x4a7484aa#32, 0x5cb0a9dc#32, 0x76f988da#32, 0x983e5152#32, 0xa831c66d#32, 0xb00327c8#32, 0xbf597fc7#32, 0xc6e00bf3#32, 0xd5a79147#32, 0x06ca6351#32, 0x14292967#32, 0x27b70a85#32, 0x2e1b2138#32, 0x4d2c6dfc#32, 0x53380d13#32, 0x650a7354#32, 0x766a0abb#32, 0x81c2c92e#32, 0x92722c85#32, 0xa2bfe8a1#32, 0xa81a664b#32, 0xc24b8b70#32, 0xc76c51a3#32, 0xd192e819#32, 0xd6990624#32, 0xf40e3585#32, 0x106aa070#32, 0x19a4c116#32, 0x1e376c08#32, 0x2748774c#32, 0x34b0bcb5#32, 0x391c0cb3#32, 0x4ed8aa4a#32, 0x5b9cca4f#32, 0x682e6ff3#32, 0x748f82ee#32, 0x78a5636f#32, 0x84c87814#32, 0x8cc70208#32, 0x90befffa#32, 0xa4506ceb#32, 0xbef9a3f7#32, 0xc67178f2#32]
def OVZ : Nat → Option Ty
  | 40 => some (.vec 46 (.pair (.arr 32 .u8) (.pair .int (.pair .bool .unit))))
  | 38 => some (.vec 42 (.pair .bool (.pair (.vec 46 (.pair (.arr 32 .u8) (.pair .int (.pair .bool .unit)))) .unit)))
  | _ => none
noncomputable def TBL : TB := tbOf Tryz.prog OVZ [1, 2, 3, 4, 5, 6, 7, 8, 9, 10, 11, 12, 13, 14, 15, 16, 17, 18, 19, 20, 22, 23, 24, 25, 26, 27, 28, 29, 30, 31, 32, 33, 34, 36, 37, 38, 39, 40, 41, 42, 43, 44, 45, 46, 47, 48, 49, 50, 51, 52, 53, 54, 55, 56, 57, 58, 59, 60, 61, 62, 63, 64, 65, 66, 67, 68, 69, 70, 71, 72, 73, 74, 75, 76, 77, 78, 80, 82, 83, 84, 85, 86, 87, 88, 89, 90, 91, 92, 93, 94, 95, 96, 97, 98, 99, 100, 101, 102, 104, 105, 107, 109, 110, 111, 113, 114, 115, 116, 117, 118, 119, 120, 121, 122, 123, 124, 125, 126, 127, 128, 129, 130, 131, 133, 134, 135, 136, 138, 139, 140, 141, 142, 143, 144, 145, 146, 147, 148, 149, 150, 151, 152, 154, 155, 157, 158, 159, 160, 161, 162, 164, 166, 168, 169, 170, 171, 172, 173, 174, 175, 176, 177, 178, 179, 180, 181, 183, 184, 185, 186, 187, 188, 189, 191, 192, 193, 194, 195, 196, 197, 198, 199, 200, 201, 203, 204, 205, 206, 207, 208, 209, 210, 211, 213, 215, 216, 217, 218, 219, 220, 221, 222, 223, 224, 225, 226, 227, 228, 230, 231, 232, 233, 234, 236, 237, 238, 239, 240, 241, 242, 243, 244, 245, 246, 247, 248, 249, 250, 251, 252, 253, 254, 255, 256, 257, 258, 259, 260, 261, 262, 263, 264, 265, 266, 267, 268, 269, 270, 271, 272, 273, 274, 275, 276, 277, 278, 279, 280, 281, 282, 283, 284, 285, 286, 287, 288, 289, 290, 291, 292, 293, 294, 295, 296, 297, 299, 300, 301, 303, 304, 305, 307, 308, 309, 310, 311, 312, 313, 314, 315, 316, 317, 319, 320, 321, 322, 323, 324, 325, 326, 327, 328, 329, 334, 335] [(0, .dp (.arr 64 .u32) shaAdd)]
theorem TBL_ok : TBL.ok Tryz.prog := tbOf_ok (by kernel_rfl)
end Go.GX
namespace Go.GX
open Go.RowKit Go.SL
set_option linter.unusedVariables false
variable {α β : Type}
/-- x is told, and is as Q says -/
def Tot (x : Option α) (Q : α → Prop) : Prop := ∃ r, x = some r ∧ Q r
theorem Tot.s {Q : α → Prop} {r : α} (h : Q r) : Tot (some r) Q := ⟨r, rfl, h⟩
theorem Tot.mono {x : Option α} {Q R : α → Prop} (h : Tot x Q) (g : ∀ a, Q a → R a) : Tot x R := by
  obtain ⟨a, ha, hq⟩ := h; exact ⟨a, ha, g a hq⟩
theorem Tot.bnd {x : Option α} {f : α → Option β} {Q : α → Prop} {R : β → Prop} (h : Tot x Q) (g : ∀ a, Q a → Tot (f a) R) : Tot (bnd x f) R := by
  obtain ⟨a, rfl, ha⟩ := h; rw [bnd_s]; exact g a ha
theorem Tot.gd {c : Prop} [Decidable c] {x : Option α} {R : α → Prop} (h : c) (g : Tot x R) : Tot (gd c x) R := by rw [gd_t h]; exact g
theorem Tot.gdE {c : α} {x : Option β} {R : β → Prop} (g : Tot x R) : Tot (gdE (c = c) x) R := by rw [gdE_rfl]; exact g
theorem Tot.br {c : Bool} {x y : Option α} {R : α → Prop} (g : c = true → Tot x R) (h : c = false → Tot y R) : Tot (br c x y) R := by
  cases c with
  | true => rw [br_t]; exact g rfl
  | false => rw [br_f]; exact h rfl
theorem Tot.brd {c : Prop} [Decidable c] {x y : Option α} {R : α → Prop} (g : c → Tot x R) (h : ¬ c → Tot y R) : Tot (GX.br (decide c) x y) R :=
  Tot.br (fun q => g (by simpa using q)) (fun q => h (by simpa using q))
theorem Tot.jn {j : α → Option β} {f : (α → Option β) → Option β} {R : β → Prop} (h : Tot (f j) R) : Tot (jn j f) R := by rw [jn_e]; exact h
theorem Tot.nlq {c : Bool} {x y : Option α} {R : α → Prop} (h : Tot y R) (g : c = true → x = y) : Tot (nlq c x y) R := by
  cases c with
  | false => rw [nlq_f]; exact h
  | true => rw [nlq_t, g rfl, bth_self]; exact h
theorem Tot.idx {l : List α} {k : Nat} {f : α → Option β} {R : β → Prop} (h : k < l.length) (g : ∀ a, l[k]? = some a → Tot (f a) R) : Tot (GX.bnd (l[k]?) f) R := by
  have : l[k]? = some l[k] := List.getElem?_eq_getElem h
  rw [this, bnd_s]; exact g _ this
theorem Tot.itn {f : α → (α → Option β) → Option β} {R : β → Prop} {I : Nat → α → Prop}
    (step : ∀ n a, I n a → ∀ k, (∀ m b, m < n → I m b → Tot (k b) R) → Tot (f a k) R) : ∀ (F n : Nat) (a : α), I n a → n < F → Tot (itn f F a) R := by
  intro F
  induction F with
  | zero => intro n a _ h; omega
  | succ F ih => intro n a h hn; exact step n a h _ fun m b hm hb => ih m b hb (by omega)
theorem Tot.iter {f : α → (α → Option β) → Option β} {R : β → Prop} (I : Nat → α → Prop) {a : α} (n : Nat) (h : I n a) (hn : n < 1099511627776)
    (step : ∀ n a, I n a → ∀ k, (∀ m b, m < n → I m b → Tot (k b) R) → Tot (f a k) R) : Tot (iter f a) R := by
  rw [iter_eq]
  exact Tot.itn step _ n a h (by unfold fuel; exact hn)
/-- a counted loop -/
theorem Tot.count {f : α → (α → Option β) → Option β} {R : β → Prop} (N : Nat) (I : Nat → α → Prop) {a : α} (h : I 0 a) (hn : N < 1099511627776)
    (step : ∀ i a, i ≤ N → I i a → ∀ k, (i < N → ∀ b, I (i + 1) b → Tot (k b) R) → Tot (f a k) R) : Tot (GX.iter f a) R := by
  refine Tot.iter (fun n a => n ≤ N ∧ I (N - n) a) N ⟨Nat.le_refl _, by rw [Nat.sub_self]; exact h⟩ hn ?_
  rintro n a ⟨hle, hI⟩ k hk
  refine step (N - n) a (by omega) hI k fun hlt b hb => ?_
  have : N - (n - 1) = N - n + 1 := by omega
  exact hk (n - 1) b (by omega) ⟨by omega, by rw [this]; exact hb⟩
theorem Tot.eq {x : Option α} {r : α} (h : x = some r) : Tot x (fun a => a = r) := ⟨r, h, rfl⟩
theorem Tot.get {x : Option α} {r : α} (h : Tot x (fun a => a = r)) : x = some r := by obtain ⟨a, h, rfl⟩ := h; exact h
end Go.GX
namespace Go.GX
open Go.RowKit Go.SL Go.Proofs
set_option maxRecDepth 100000
set_option linter.unusedVariables false

noncomputable def F56 (x0 : (Int) × (Int) × Unit) (x1 : Unit) : Option (((List ((Int) × ((Int) × (Int) × (Int) × (Int) × (Int) × (List (BitVec 8)) × (List (BitVec 8)) × Unit) × ((Int) × (Int) × (Int) × (List (BitVec 8)) × Unit) × Unit)) × (List ((Int) × (Int) × (Int) × (Int) × (Int) × ((Int) × (Int) × (Int) × (Int) × (Int) × (List (BitVec 8)) × (List (BitVec 8)) × Unit) × (Bool) × ((Int) × (Int) × (Int) × (List (BitVec 8)) × Unit) × Unit)) × Unit) × Unit) :=
 bth (some ((((2, ((1, (0, (0, (0, (0, ([], ([], ()))))))), ((0, (x0.1, (0, ([], ())))), ()))) :: []), (((0, (0, (0, (0, (2, ((1, (0, (0, (0, (0, ([], ([], ()))))))), (true, ((0, (x0.2.1, (0, ([], ())))), ())))))))) :: []), ())), ()))
 (some ((((2, ((1, (0, (0, (0, (0, ([], ([], ()))))))), ((0, (x0.1, (0, ([], ())))), ()))) :: []), (((0, (0, (0, (0, (2, ((1, (0, (0, (0, (0, ([], ([], ()))))))), (true, ((0, (x0.2.1, (0, ([], ())))), ())))))))) :: []), ())), ()))
noncomputable abbrev C56 : Con := ⟨[.v .int, .v .int], [(.fz (.pair .int (.pair (.pair .int (.pair .int (.pair .int (.pair .int (.pair .int (.pair (.fz .u8) (.pair (.fz .u8) .unit))))))) (.pair (.pair .int (.pair .int (.pair .int (.pair (.fz .u8) .unit)))) .unit)))), (.fz (.pair .int (.pair .int (.pair .int (.pair .int (.pair .int (.pair (.pair .int (.pair .int (.pair .int (.pair .int (.pair .int (.pair (.fz .u8) (.pair (.fz .u8) .unit))))))) (.pair .bool (.pair (.pair .int (.pair .int (.pair .int (.pair (.fz .u8) .unit)))) .unit)))))))))], F56⟩
noncomputable def F201 (x0 : Unit) (x1 : (List (List (BitVec 8))) × Unit) : Option (((List (BitVec 8)) × Unit) × Unit) :=
 iter (fun (v2 : ((Int) × (Int) × Unit) × Unit) => fun r3 => br (decide (v2.1.1 < (Nat.cast (List.length x1.1) : Int)))
 (gd (0 ≤ v2.1.1) <| bnd (x1.1[Int.toNat v2.1.1]?) fun a4 => br (decide (Go.SL.w64 (v2.1.2.1 + (Nat.cast (List.length a4) : Int)) < 0))
 (none)
 (r3 ((Go.SL.w64 (v2.1.1 + 1), (Go.SL.w64 (v2.1.2.1 + (Nat.cast (List.length a4) : Int)), ())), ())))
 (jn (fun (v5 : (Unit) × Unit) => br (decide (Go.SL.w64 (v2.1.2.1 - 0) > 0))
 (gd ((0 : Int) ≤ 0) <| gd ((0 : Nat) ≤ 0) <| gd ((0 : Nat) ≤ 0) <| gd (0 ≤ Go.SL.w64 (v2.1.2.1 - 0)) <| gd (few9 0 (Int.toNat (Go.SL.w64 (v2.1.2.1 - 0)))) <| gd ((0 : Int) ≤ 0) <| gd ((0 : Nat) ≤ 0) <| gd (0 ≤ (List.length (([] ++ List.replicate (Int.toNat (Go.SL.w64 (v2.1.2.1 - 0))) 0#8) : List (BitVec 8)))) <| gd ((0 : Nat) = 0) <| gd (0 ≤ (List.length (([] ++ List.replicate (Int.toNat (Go.SL.w64 (v2.1.2.1 - 0))) 0#8) : List (BitVec 8)))) <| iter (fun (v6 : ((Int) × (List (BitVec 8)) × Unit) × Unit) => fun r7 => br (decide (v6.1.1 < (Nat.cast (List.length x1.1) : Int)))
 (gd (0 ≤ v6.1.1) <| bnd (x1.1[Int.toNat v6.1.1]?) fun a8 => gd (few (List.length v6.1.2.1) (List.length a8)) <| r7 ((Go.SL.w64 (v6.1.1 + 1), ((v6.1.2.1 ++ a8), ())), ()))
 (some ((v6.1.2.1, ()), ()))) ((0, (List.take 0 ([] ++ List.replicate (Int.toNat (Go.SL.w64 (v2.1.2.1 - 0))) 0#8), ())), ()))
 (iter (fun (v9 : ((Int) × (List (BitVec 8)) × Unit) × Unit) => fun r10 => br (decide (v9.1.1 < (Nat.cast (List.length x1.1) : Int)))
 (gd (0 ≤ v9.1.1) <| bnd (x1.1[Int.toNat v9.1.1]?) fun a11 => gd (few (List.length v9.1.2.1) (List.length a11)) <| r10 ((Go.SL.w64 (v9.1.1 + 1), ((v9.1.2.1 ++ a11), ())), ()))
 (some ((v9.1.2.1, ()), ()))) ((0, ([], ())), ())))
 (fun j12 => br (decide (v2.1.2.1 < 0))
 (none)
 (j12 ((), ()))))) ((0, (0, ())), ())
noncomputable abbrev C201 : Con := ⟨[.b (.fz (.fz .u8))], [(.vec 5 .u8)], F201⟩
noncomputable def F171 (x0 : Unit) (x1 : (List (BitVec 8)) × Unit) : Option (((List (BitVec 8)) × Unit) × Unit) :=
 nlq (decide ((List.length x1.1) = 0))
 (some (([], ()), ()))
 (gd (few 0 (List.length x1.1)) <| some ((([] ++ x1.1), ()), ()))
noncomputable abbrev C171 : Con := ⟨[.b (.fz .u8)], [(.vec 5 .u8)], F171⟩
noncomputable def F253 (x0 : Unit) (x1 : Unit) : Option (((List (BitVec 32)) × Unit) × Unit) :=
 some ((List.set (List.set (List.set (List.set (List.set (List.set (List.set (List.set (List.replicate 8 0#32) 0 1779033703#32) 1 3144134277#32) 2 1013904242#32) 3 2773480762#32) 4 1359893119#32) 5 2600822924#32) 6 528734635#32) 7 1541459225#32, ()), ())
noncomputable abbrev C253 : Con := ⟨[], [(.arr 8 .u32)], F253⟩
noncomputable def F269 (x0 : (BitVec 32) × (Int) × Unit) (x1 : Unit) : Option (((BitVec 32) × Unit) × Unit) :=
 some ((((x0.1 <<< BitVec.toNat (BitVec.ofInt 64 x0.2.1 &&& 31#64)) ||| (x0.1 >>> BitVec.toNat (32#64 - (BitVec.ofInt 64 x0.2.1 &&& 31#64)))), ()), ())
noncomputable abbrev C269 : Con := ⟨[.v .u32, .v .int], [.u32], F269⟩
noncomputable def F267 (x0 : (BitVec 32) × (Int) × Unit) (x1 : Unit) : Option (((BitVec 32) × Unit) × Unit) :=
 bnd (F269 (x0.1, (Go.SL.w64 (0 - x0.2.1), ())) ()) fun a2 => some ((a2.1.1, ()), ())
noncomputable abbrev C267 : Con := ⟨[.v .u32, .v .int], [.u32], F267⟩
noncomputable def F254 (x0 : (List (BitVec 32)) × (List (BitVec 8)) × Unit) (x1 : Unit) : Option (((List (BitVec 32)) × Unit) × Unit) :=
 iter (fun (v2 : ((Int) × Unit) × (List (BitVec 32)) × Unit) => fun r3 => br (decide (v2.1.1 < 64))
 (br (decide (v2.1.1 < 16))
 (gd (0 ≤ Go.SL.w64 (4 * v2.1.1)) <| gd (Int.toNat (Go.SL.w64 (4 * v2.1.1)) < 64) <| bnd (x0.2.1[Int.toNat (Go.SL.w64 (4 * v2.1.1))]?) fun a4 => gd (0 ≤ Go.SL.w64 (Go.SL.w64 (4 * v2.1.1) + 1)) <| gd (Int.toNat (Go.SL.w64 (Go.SL.w64 (4 * v2.1.1) + 1)) < 64) <| bnd (x0.2.1[Int.toNat (Go.SL.w64 (Go.SL.w64 (4 * v2.1.1) + 1))]?) fun a5 => gd (0 ≤ Go.SL.w64 (Go.SL.w64 (4 * v2.1.1) + 2)) <| gd (Int.toNat (Go.SL.w64 (Go.SL.w64 (4 * v2.1.1) + 2)) < 64) <| bnd (x0.2.1[Int.toNat (Go.SL.w64 (Go.SL.w64 (4 * v2.1.1) + 2))]?) fun a6 => gd (0 ≤ Go.SL.w64 (Go.SL.w64 (4 * v2.1.1) + 3)) <| gd (Int.toNat (Go.SL.w64 (Go.SL.w64 (4 * v2.1.1) + 3)) < 64) <| bnd (x0.2.1[Int.toNat (Go.SL.w64 (Go.SL.w64 (4 * v2.1.1) + 3))]?) fun a7 => gd (0 ≤ v2.1.1) <| gd (Int.toNat v2.1.1 < 64) <| gd (Int.toNat v2.1.1 < List.length v2.2.1) <| gdE (List.replicate 8 0#32 = List.replicate 8 0#32) <| gdE (x0.2.1 = x0.2.1) <| gdE (x0.1 = x0.1) <| r3 ((Go.SL.w64 (v2.1.1 + 1), ()), (List.set v2.2.1 (Int.toNat v2.1.1) ((((BitVec.setWidth 32 a4 <<< 24) ||| (BitVec.setWidth 32 a5 <<< 16)) ||| (BitVec.setWidth 32 a6 <<< 8)) ||| BitVec.setWidth 32 a7), ())))
 (gd (0 ≤ Go.SL.w64 (v2.1.1 - 15)) <| gd (Int.toNat (Go.SL.w64 (v2.1.1 - 15)) < 64) <| bnd (v2.2.1[Int.toNat (Go.SL.w64 (v2.1.1 - 15))]?) fun a8 => gd (0 ≤ Go.SL.w64 (v2.1.1 - 2)) <| gd (Int.toNat (Go.SL.w64 (v2.1.1 - 2)) < 64) <| bnd (v2.2.1[Int.toNat (Go.SL.w64 (v2.1.1 - 2))]?) fun a9 => gd (0 ≤ Go.SL.w64 (v2.1.1 - 16)) <| gd (Int.toNat (Go.SL.w64 (v2.1.1 - 16)) < 64) <| bnd (v2.2.1[Int.toNat (Go.SL.w64 (v2.1.1 - 16))]?) fun a10 => gd (0 ≤ Go.SL.w64 (v2.1.1 - 7)) <| gd (Int.toNat (Go.SL.w64 (v2.1.1 - 7)) < 64) <| bnd (v2.2.1[Int.toNat (Go.SL.w64 (v2.1.1 - 7))]?) fun a11 => bnd (F267 (a8, (7, ())) ()) fun a12 => bnd (F267 (a8, (18, ())) ()) fun a13 => bnd (F267 (a9, (17, ())) ()) fun a14 => bnd (F267 (a9, (19, ())) ()) fun a15 => gd (0 ≤ v2.1.1) <| gd (Int.toNat v2.1.1 < 64) <| gd (Int.toNat v2.1.1 < List.length v2.2.1) <| gdE (List.replicate 8 0#32 = List.replicate 8 0#32) <| gdE (x0.2.1 = x0.2.1) <| gdE (x0.1 = x0.1) <| r3 ((Go.SL.w64 (v2.1.1 + 1), ()), (List.set v2.2.1 (Int.toNat v2.1.1) (((a10 + a11) + ((a12.1.1 ^^^ a13.1.1) ^^^ (a8 >>> 3))) + ((a14.1.1 ^^^ a15.1.1) ^^^ (a9 >>> 10))), ()))))
 (gd ((0 : Int) ≤ 0) <| gd (0 < 8) <| bnd x0.1[0]? fun a16 => gd ((0 : Int) ≤ 1) <| gd (1 < 8) <| bnd x0.1[1]? fun a17 => gd ((0 : Int) ≤ 2) <| gd (2 < 8) <| bnd x0.1[2]? fun a18 => gd ((0 : Int) ≤ 3) <| gd (3 < 8) <| bnd x0.1[3]? fun a19 => gd ((0 : Int) ≤ 4) <| gd (4 < 8) <| bnd x0.1[4]? fun a20 => gd ((0 : Int) ≤ 5) <| gd (5 < 8) <| bnd x0.1[5]? fun a21 => gd ((0 : Int) ≤ 6) <| gd (6 < 8) <| bnd x0.1[6]? fun a22 => gd ((0 : Int) ≤ 7) <| gd (7 < 8) <| bnd x0.1[7]? fun a23 => iter (fun (v24 : ((Int) × (BitVec 32) × (BitVec 32) × (BitVec 32) × (BitVec 32) × (BitVec 32) × (BitVec 32) × (BitVec 32) × (BitVec 32) × Unit) × Unit) => fun r25 => br (decide (v24.1.1 < 64))
 (gd (0 ≤ v24.1.1) <| bnd (shaAdd[Int.toNat v24.1.1]?) fun a26 => gd (0 ≤ v24.1.1) <| gd (Int.toNat v24.1.1 < 64) <| bnd (v2.2.1[Int.toNat v24.1.1]?) fun a27 => bnd (F267 (v24.1.2.2.2.2.1, (6, ())) ()) fun a28 => bnd (F267 (v24.1.2.2.2.2.1, (11, ())) ()) fun a29 => bnd (F267 (v24.1.2.2.2.2.1, (25, ())) ()) fun a30 => bnd (F267 (v24.1.2.2.2.2.2.2.2.2.1, (2, ())) ()) fun a31 => bnd (F267 (v24.1.2.2.2.2.2.2.2.2.1, (13, ())) ()) fun a32 => bnd (F267 (v24.1.2.2.2.2.2.2.2.2.1, (22, ())) ()) fun a33 => gdE (v2.2.1 = v2.2.1) <| gdE (List.replicate 8 0#32 = List.replicate 8 0#32) <| gdE (x0.2.1 = x0.2.1) <| gdE (x0.1 = x0.1) <| r25 ((Go.SL.w64 (v24.1.1 + 1), (v24.1.2.2.1, (v24.1.2.2.2.1, (v24.1.2.2.2.2.1, ((v24.1.2.2.2.2.2.1 + ((((v24.1.2.1 + ((a28.1.1 ^^^ a29.1.1) ^^^ a30.1.1)) + (v24.1.2.2.1 ^^^ (v24.1.2.2.2.2.1 &&& (v24.1.2.2.2.1 ^^^ v24.1.2.2.1)))) + a26) + a27)), (v24.1.2.2.2.2.2.2.1, (v24.1.2.2.2.2.2.2.2.1, (v24.1.2.2.2.2.2.2.2.2.1, ((((((v24.1.2.1 + ((a28.1.1 ^^^ a29.1.1) ^^^ a30.1.1)) + (v24.1.2.2.1 ^^^ (v24.1.2.2.2.2.1 &&& (v24.1.2.2.2.1 ^^^ v24.1.2.2.1)))) + a26) + a27) + (((a31.1.1 ^^^ a32.1.1) ^^^ a33.1.1) + ((v24.1.2.2.2.2.2.2.2.2.1 &&& v24.1.2.2.2.2.2.2.2.1) ||| (v24.1.2.2.2.2.2.2.1 &&& (v24.1.2.2.2.2.2.2.2.2.1 ||| v24.1.2.2.2.2.2.2.2.1))))), ()))))))))), ()))
 (iter (fun (v34 : ((Int) × Unit) × (List (BitVec 32)) × Unit) => fun r35 => br (decide (v34.1.1 < 8))
 (gd (0 ≤ v34.1.1) <| bnd ((List.set (List.set (List.set (List.set (List.set (List.set (List.set (List.set (List.replicate 8 0#32) 0 v24.1.2.2.2.2.2.2.2.2.1) 1 v24.1.2.2.2.2.2.2.2.1) 2 v24.1.2.2.2.2.2.2.1) 3 v24.1.2.2.2.2.2.1) 4 v24.1.2.2.2.2.1) 5 v24.1.2.2.2.1) 6 v24.1.2.2.1) 7 v24.1.2.1)[Int.toNat v34.1.1]?) fun a36 => gd (0 ≤ v34.1.1) <| gd (Int.toNat v34.1.1 < 8) <| bnd (v34.2.1[Int.toNat v34.1.1]?) fun a37 => gd (0 ≤ v34.1.1) <| gd (Int.toNat v34.1.1 < 8) <| gd (Int.toNat v34.1.1 < List.length v34.2.1) <| gdE (v2.2.1 = v2.2.1) <| gdE (List.replicate 8 0#32 = List.replicate 8 0#32) <| gdE (x0.2.1 = x0.2.1) <| r35 ((Go.SL.w64 (v34.1.1 + 1), ()), (List.set v34.2.1 (Int.toNat v34.1.1) (a37 + a36), ())))
 (some ((v34.2.1, ()), ()))) ((0, ()), (x0.1, ())))) ((0, (a23, (a22, (a21, (a20, (a19, (a18, (a17, (a16, ()))))))))), ()))) ((0, ()), (List.replicate 64 0#32, ()))
noncomputable abbrev C254 : Con := ⟨[.v (.arr 8 .u32), .v (.arr 64 .u8)], [(.arr 8 .u32)], F254⟩
noncomputable def F235 (x0 : Unit) (x1 : (List (BitVec 8)) × Unit) : Option (((List (BitVec 8)) × Unit) × Unit) :=
 bnd (F171 () (x1.1, ())) fun a2 => gd (few (List.length a2.1.1) 1) <| gd ((64 : Int) ≠ 0) <| gd ((64 : Int) ≠ 0) <| gd (0 ≤ Int.tmod (Go.SL.w64 (120 - Int.tmod (Nat.cast (List.length ((a2.1.1 ++ (128#8 :: [])) : List (BitVec 8))) : Int) 64)) 64) <| gd (few9 (List.length ((a2.1.1 ++ (128#8 :: [])) : List (BitVec 8))) (Int.toNat (Int.tmod (Go.SL.w64 (120 - Int.tmod (Nat.cast (List.length ((a2.1.1 ++ (128#8 :: [])) : List (BitVec 8))) : Int) 64)) 64))) <| iter (fun (v3 : ((Int) × (List (BitVec 8)) × Unit) × Unit) => fun r4 => br (decide (v3.1.1 < 8))
 (gd (0 ≤ Go.SL.w64 (56 - Go.SL.w64 (8 * v3.1.1))) <| gd (few (List.length v3.1.2.1) (List.length ((BitVec.ofInt 8 (Go.SL.ishr64 (Go.SL.w64 (8 * (Nat.cast (List.length x1.1) : Int))) (Int.toNat (Go.SL.w64 (56 - Go.SL.w64 (8 * v3.1.1))))) :: []) : List (BitVec 8)))) <| gdE ((List.replicate 32 0#8 : List (BitVec 8)) = List.replicate 32 0#8) <| r4 ((Go.SL.w64 (v3.1.1 + 1), ((v3.1.2.1 ++ (BitVec.ofInt 8 (Go.SL.ishr64 (Go.SL.w64 (8 * (Nat.cast (List.length x1.1) : Int))) (Int.toNat (Go.SL.w64 (56 - Go.SL.w64 (8 * v3.1.1))))) :: [])), ())), ()))
 (bnd (F253 () ()) fun a5 => iter (fun (v6 : ((List (BitVec 8)) × Unit) × (List (BitVec 32)) × Unit) => fun r7 => br (decide ((Nat.cast (List.length v6.1.1) : Int) > 0))
 (gd (64 ≤ (List.length v6.1.1)) <| bnd (F254 (v6.2.1, (List.take 64 v6.1.1, ())) ()) fun a8 => gd ((0 : Int) ≤ 64) <| gd (64 ≤ (List.length v6.1.1)) <| gd ((List.length v6.1.1) ≤ (List.length v6.1.1)) <| gdE ((List.replicate 32 0#8 : List (BitVec 8)) = List.replicate 32 0#8) <| r7 ((List.drop 64 (List.take (List.length v6.1.1) v6.1.1), ()), (a8.1.1, ())))
 (iter (fun (v9 : ((Int) × Unit) × (List (BitVec 8)) × Unit) => fun r10 => br (decide (v9.1.1 < 32))
 (gd ((4 : Int) ≠ 0) <| gd (0 ≤ Go.SL.w64 (Int.tdiv v9.1.1 4)) <| gd (Int.toNat (Go.SL.w64 (Int.tdiv v9.1.1 4)) < 8) <| bnd (v6.2.1[Int.toNat (Go.SL.w64 (Int.tdiv v9.1.1 4))]?) fun a11 => gd ((4 : Int) ≠ 0) <| gd (0 ≤ Go.SL.w64 (24 - Go.SL.w64 (8 * Int.tmod v9.1.1 4))) <| gd (0 ≤ v9.1.1) <| gd (Int.toNat v9.1.1 < 32) <| gd (Int.toNat v9.1.1 < (List.length v9.2.1)) <| gdE (v6.2.1 = v6.2.1) <| gdE ((List.replicate 32 0#8 : List (BitVec 8)) = List.replicate 32 0#8) <| r10 ((Go.SL.w64 (v9.1.1 + 1), ()), (List.set v9.2.1 (Int.toNat v9.1.1) (BitVec.setWidth 8 (a11 >>> Int.toNat (Go.SL.w64 (24 - Go.SL.w64 (8 * Int.tmod v9.1.1 4))))), ())))
 (some ((v9.2.1, ()), ()))) ((0, ()), (List.replicate 32 0#8, ())))) ((v3.1.2.1, ()), (a5.1.1, ())))) ((0, (((a2.1.1 ++ (128#8 :: [])) ++ List.replicate (Int.toNat (Int.tmod (Go.SL.w64 (120 - Int.tmod (Nat.cast (List.length ((a2.1.1 ++ (128#8 :: [])) : List (BitVec 8))) : Int) 64)) 64)) 0#8), ())), ())
noncomputable abbrev C235 : Con := ⟨[.b (.fz .u8)], [(.arr 32 .u8)], F235⟩
noncomputable def F214 (x0 : Unit) (x1 : (List (BitVec 8)) × (List (BitVec 8)) × Unit) : Option (((List (BitVec 8)) × Unit) × Unit) :=
 jn (fun (v2 : ((List (BitVec 8)) × Unit) × Unit) => gd ((0 : Nat) ≤ 64) <| gd ((64 : Nat) ≤ 64) <| gd ((0 : Nat) < 64) <| gd ((64 : Nat) ≤ 64) <| iter (fun (v3 : ((Int) × Unit) × (List (BitVec 8)) × (List (BitVec 8)) × Unit) => fun r4 => br (decide (v3.1.1 < 64))
 (gd (0 ≤ v3.1.1) <| gd (Int.toNat v3.1.1 < 64) <| bnd (v3.2.2.1[Int.toNat v3.1.1]?) fun a5 => gd (0 ≤ v3.1.1) <| gd (Int.toNat v3.1.1 < 64) <| gd (Int.toNat v3.1.1 < (List.length v3.2.2.1)) <| gd (0 ≤ v3.1.1) <| gd (Int.toNat v3.1.1 < 64) <| bnd (v3.2.1[Int.toNat v3.1.1]?) fun a6 => gd (0 ≤ v3.1.1) <| gd (Int.toNat v3.1.1 < 64) <| gd (Int.toNat v3.1.1 < (List.length v3.2.1)) <| gdE ((List.replicate 32 0#8 : List (BitVec 8)) = List.replicate 32 0#8) <| r4 ((Go.SL.w64 (v3.1.1 + 1), ()), (List.set v3.2.1 (Int.toNat v3.1.1) (a6 ^^^ 92#8), (List.set v3.2.2.1 (Int.toNat v3.1.1) (a5 ^^^ 54#8), ()))))
 (gd ((0 : Nat) ≤ 64) <| gd ((64 : Nat) ≤ 64) <| gd (64 ≤ (List.length v3.2.2.1)) <| bnd (F201 () ((List.take 64 (List.drop 0 v3.2.2.1) :: (x1.2.1 :: [])), ())) fun a7 => bnd (F235 () (a7.1.1, ())) fun a8 => gd ((0 : Nat) ≤ 64) <| gd ((64 : Nat) ≤ 64) <| gd ((0 : Nat) ≤ 32) <| gd ((32 : Nat) ≤ 32) <| gd (64 ≤ (List.length v3.2.1)) <| gd (32 ≤ (List.length a8.1.1)) <| bnd (F201 () ((List.take 64 (List.drop 0 v3.2.1) :: (List.take 32 (List.drop 0 a8.1.1) :: [])), ())) fun a9 => bnd (F235 () (a9.1.1, ())) fun a10 => some ((a10.1.1, ()), ()))) ((0, ()), (ovl (List.replicate 64 0#8) 0 (List.take 64 v2.1.1), (ovl (List.replicate 64 0#8) 0 (List.take 64 v2.1.1), ()))))
 (fun j11 => br (decide ((Nat.cast (List.length x1.1) : Int) > 64))
 (bnd (F235 () (x1.1, ())) fun a12 => gd ((0 : Nat) ≤ 32) <| gd ((32 : Nat) ≤ 32) <| gd (32 ≤ (List.length a12.1.1)) <| gdE ((List.replicate 32 0#8 : List (BitVec 8)) = List.replicate 32 0#8) <| j11 ((List.take 32 (List.drop 0 a12.1.1), ()), ()))
 (gdE ((List.replicate 32 0#8 : List (BitVec 8)) = List.replicate 32 0#8) <| j11 ((x1.1, ()), ())))
noncomputable abbrev C214 : Con := ⟨[.b (.fz .u8), .b (.fz .u8)], [(.arr 32 .u8)], F214⟩
noncomputable def F168 (x0 : ((List (BitVec 8)) × (List (BitVec 8)) × (Int) × Unit) × Unit) (x1 : (List (BitVec 8)) × Unit) : Option ((Unit) × ((List (BitVec 8)) × (List (BitVec 8)) × (Int) × Unit) × Unit) :=
 gd ((0 : Nat) ≤ 32) <| gd ((32 : Nat) ≤ 32) <| gd ((0 : Nat) ≤ 32) <| gd ((32 : Nat) ≤ 32) <| gd (32 ≤ (List.length x0.1.2.1)) <| bnd (F201 () ((List.take 32 (List.drop 0 x0.1.2.1) :: ((0#8 :: []) :: (x1.1 :: []))), ())) fun a2 => gd (32 ≤ (List.length x0.1.1)) <| bnd (F214 () (List.take 32 (List.drop 0 x0.1.1), (a2.1.1, ()))) fun a3 => gd ((0 : Nat) ≤ 32) <| gd ((32 : Nat) ≤ 32) <| gd ((0 : Nat) ≤ 32) <| gd ((32 : Nat) ≤ 32) <| gd (32 ≤ (List.length x0.1.2.1)) <| bnd (F201 () ((List.take 32 (List.drop 0 x0.1.2.1) :: []), ())) fun a4 => gd (32 ≤ (List.length a3.1.1)) <| bnd (F214 () (List.take 32 (List.drop 0 a3.1.1), (a4.1.1, ()))) fun a5 => br (decide ((Nat.cast (List.length x1.1) : Int) > 0))
 (gd ((0 : Nat) ≤ 32) <| gd ((32 : Nat) ≤ 32) <| gd ((0 : Nat) ≤ 32) <| gd ((32 : Nat) ≤ 32) <| gd (32 ≤ (List.length a5.1.1)) <| bnd (F201 () ((List.take 32 (List.drop 0 a5.1.1) :: ((1#8 :: []) :: (x1.1 :: []))), ())) fun a6 => gd (32 ≤ (List.length a3.1.1)) <| bnd (F214 () (List.take 32 (List.drop 0 a3.1.1), (a6.1.1, ()))) fun a7 => gd ((0 : Nat) ≤ 32) <| gd ((32 : Nat) ≤ 32) <| gd ((0 : Nat) ≤ 32) <| gd ((32 : Nat) ≤ 32) <| gd (32 ≤ (List.length a5.1.1)) <| bnd (F201 () ((List.take 32 (List.drop 0 a5.1.1) :: []), ())) fun a8 => gd (32 ≤ (List.length a7.1.1)) <| bnd (F214 () (List.take 32 (List.drop 0 a7.1.1), (a8.1.1, ()))) fun a9 => some ((), ((a7.1.1, (a9.1.1, (x0.1.2.2.1, ()))), ())))
 (some ((), ((a3.1.1, (a5.1.1, (x0.1.2.2.1, ()))), ())))
noncomputable abbrev C168 : Con := ⟨[.io 171 (.pair (.arr 32 .u8) (.pair (.arr 32 .u8) (.pair .int .unit))) [], .b (.fz .u8)], [], F168⟩
noncomputable def F106 (x0 : ((List (BitVec 8)) × (List (BitVec 8)) × (Int) × Unit) × Unit) (x1 : (List (BitVec 8)) × Unit) : Option ((Unit) × ((List (BitVec 8)) × (List (BitVec 8)) × (Int) × Unit) × Unit) :=
 bnd (F168 (x0.1, ()) (x1.1, ())) fun a2 => some ((), ((a2.2.1.1, (a2.2.1.2.1, (1, ()))), ()))
noncomputable abbrev C106 : Con := ⟨[.io 171 (.pair (.arr 32 .u8) (.pair (.arr 32 .u8) (.pair .int .unit))) [], .b (.fz .u8)], [], F106⟩
noncomputable def F42 (x0 : Unit) (x1 : (List (BitVec 8)) × Unit) : Option ((((List (BitVec 8)) × (List (BitVec 8)) × (Int) × Unit) × Unit) × Unit) :=
 iter (fun (v2 : ((Int) × Unit) × ((List (BitVec 8)) × (List (BitVec 8)) × (Int) × Unit) × Unit) => fun r3 => br (decide (v2.1.1 < 32))
 (gd (0 ≤ v2.1.1) <| gd (Int.toNat v2.1.1 < 32) <| gd (Int.toNat v2.1.1 < (List.length v2.2.1.2.1)) <| r3 ((Go.SL.w64 (v2.1.1 + 1), ()), ((v2.2.1.1, (List.set v2.2.1.2.1 (Int.toNat v2.1.1) 1#8, (v2.2.1.2.2.1, ()))), ())))
 (bnd (F106 ((v2.2.1.1, (v2.2.1.2.1, (v2.2.1.2.2.1, ()))), ()) (x1.1, ())) fun a4 => some ((a4.2.1, ()), ()))) ((0, ()), ((List.replicate 32 0#8, (List.replicate 32 0#8, (0, ()))), ()))
noncomputable abbrev C42 : Con := ⟨[.b (.fz .u8)], [(.box 171 (.pair (.arr 32 .u8) (.pair (.arr 32 .u8) (.pair .int .unit))))], F42⟩
noncomputable def F43 (x0 : Unit) (x1 : Unit) : Option ((((List ((Bool) × (List ((List (BitVec 8)) × (Int) × (Bool) × Unit)) × Unit)) × Unit) × Unit) × Unit) :=
 some ((([], ()), ()), ())
noncomputable abbrev C43 : Con := ⟨[], [(.box 173 (.pair (.vec 42 (.pair .bool (.pair (.vec 46 (.pair (.arr 32 .u8) (.pair .int (.pair .bool .unit)))) .unit))) .unit))], F43⟩
noncomputable def F44 (x0 : Unit) (x1 : Unit) : Option ((((List ((Int) × (Int) × (Int) × ((Int) × (Int) × (Int) × (List (BitVec 8)) × Unit) × Unit)) × (Int) × Unit) × Unit) × Unit) :=
 some ((([], (1, ())), ()), ())
noncomputable abbrev C44 : Con := ⟨[], [(.box 176 (.pair (.map (.pair .int (.pair .int (.pair (.pair .int (.pair .int (.pair .int (.pair (.fz .u8) .unit)))) .unit)))) (.pair .int .unit)))], F44⟩
noncomputable def F15 (x0 : Unit) (x1 : (List (BitVec 8)) × Unit) : Option (((((List (BitVec 8)) × (List (BitVec 8)) × (Int) × Unit) × ((List ((Bool) × (List ((List (BitVec 8)) × (Int) × (Bool) × Unit)) × Unit)) × Unit) × ((List ((Int) × (Int) × (Int) × ((Int) × (Int) × (Int) × (List (BitVec 8)) × Unit) × Unit)) × (Int) × Unit) × Unit) × Unit) × Unit) :=
 bnd (F42 () (x1.1, ())) fun a2 => bnd (F43 () ()) fun a3 => bnd (F44 () ()) fun a4 => some (((a2.1.1, (a3.1.1, (a4.1.1, ()))), ()), ())
noncomputable abbrev C15 : Con := ⟨[.b (.fz .u8)], [(.box 91 (.pair (.box 171 (.pair (.arr 32 .u8) (.pair (.arr 32 .u8) (.pair .int .unit)))) (.pair (.box 173 (.pair (.vec 42 (.pair .bool (.pair (.vec 46 (.pair (.arr 32 .u8) (.pair .int (.pair .bool .unit)))) .unit))) .unit)) (.pair (.box 176 (.pair (.map (.pair .int (.pair .int (.pair (.pair .int (.pair .int (.pair .int (.pair (.fz .u8) .unit)))) .unit)))) (.pair .int .unit))) .unit))))], F15⟩
noncomputable def F111 (x0 : (Int) × (Int) × (Int) × Unit) (x1 : Unit) : Option (((Bool) × Unit) × Unit) :=
 br (decide (x0.1 ≥ x0.2.1))
 (some ((cond true (decide (x0.1 ≤ x0.2.2.1)) false, ()), ()))
 (some ((false, ()), ()))
noncomputable abbrev C111 : Con := ⟨[.v .int, .v .int, .v .int], [.bool], F111⟩
noncomputable def F47 (x0 : Unit) (x1 : ((Int) × (Int) × (Int) × (Int) × (Int) × (List (BitVec 8)) × (List (BitVec 8)) × Unit) × Unit) : Option (((Int) × Unit) × Unit) :=
 jn (fun (v2 : (Unit) × ((Int) × (Int) × (Int) × (Int) × (Int) × (List (BitVec 8)) × (List (BitVec 8)) × Unit) × (Bool) × Unit) => jn (fun (v3 : (Unit) × ((Int) × (Int) × (Int) × (Int) × (Int) × (List (BitVec 8)) × (List (BitVec 8)) × Unit) × (Bool) × Unit) => br (!v3.2.2.1)
 (some ((1, ()), ()))
 (br (cond false true (v3.2.1.2.1 != 0))
 (some ((1, ()), ()))
 (br (cond false true (v3.2.1.2.2.1 != 0))
 (some ((1, ()), ()))
 (br (cond false true (v3.2.1.2.2.2.1 != 0))
 (some ((1, ()), ()))
 (br (cond false true (v3.2.1.2.2.2.2.1 != 0))
 (some ((1, ()), ()))
 (br (cond false true (decide ((Nat.cast (List.length v3.2.1.2.2.2.2.2.1) : Int) > 0)))
 (some ((1, ()), ()))
 (br (cond false true (decide ((Nat.cast (List.length v3.2.1.2.2.2.2.2.2.1) : Int) > 0)))
 (some ((1, ()), ()))
 (some ((0, ()), ())))))))))
 (fun j4 => jn (fun (v5 : ((Bool) × Unit) × Unit) => br v5.1.1
 (gdE (x1.1.1 = x1.1.1) <| gdE (x1.1.2.1 = x1.1.2.1) <| gdE (x1.1.2.2.1 = x1.1.2.2.1) <| gdE (x1.1.2.2.2.1 = x1.1.2.2.2.1) <| gdE (x1.1.2.2.2.2.1 = x1.1.2.2.2.2.1) <| gdE (x1.1.2.2.2.2.2.1 = x1.1.2.2.2.2.2.1) <| gdE (x1.1.2.2.2.2.2.2.1 = x1.1.2.2.2.2.2.2.1) <| j4 ((), ((v2.2.1.1, (v2.2.1.2.1, (v2.2.1.2.2.1, (v2.2.1.2.2.2.1, (v2.2.1.2.2.2.2.1, (v2.2.1.2.2.2.2.2.1, (v2.2.1.2.2.2.2.2.2.1, ()))))))), (v2.2.2.1, ()))))
 (jn (fun (v6 : ((Bool) × Unit) × Unit) => br v6.1.1
 (bnd (F111 (x1.1.2.2.2.1, (1, (1099511627776, ()))) ()) fun a7 => br v2.2.2.1
 (gdE (x1.1.1 = x1.1.1) <| gdE (x1.1.2.1 = x1.1.2.1) <| gdE (x1.1.2.2.1 = x1.1.2.2.1) <| gdE (x1.1.2.2.2.1 = x1.1.2.2.2.1) <| gdE (x1.1.2.2.2.2.1 = x1.1.2.2.2.2.1) <| gdE (x1.1.2.2.2.2.2.1 = x1.1.2.2.2.2.2.1) <| gdE (x1.1.2.2.2.2.2.2.1 = x1.1.2.2.2.2.2.2.1) <| j4 ((), ((v2.2.1.1, (v2.2.1.2.1, (v2.2.1.2.2.1, (0, (v2.2.1.2.2.2.2.1, (v2.2.1.2.2.2.2.2.1, (v2.2.1.2.2.2.2.2.2.1, ()))))))), (cond true a7.1.1 false, ()))))
 (gdE (x1.1.1 = x1.1.1) <| gdE (x1.1.2.1 = x1.1.2.1) <| gdE (x1.1.2.2.1 = x1.1.2.2.1) <| gdE (x1.1.2.2.2.1 = x1.1.2.2.2.1) <| gdE (x1.1.2.2.2.2.1 = x1.1.2.2.2.2.1) <| gdE (x1.1.2.2.2.2.2.1 = x1.1.2.2.2.2.2.1) <| gdE (x1.1.2.2.2.2.2.2.1 = x1.1.2.2.2.2.2.2.1) <| j4 ((), ((v2.2.1.1, (v2.2.1.2.1, (v2.2.1.2.2.1, (0, (v2.2.1.2.2.2.2.1, (v2.2.1.2.2.2.2.2.1, (v2.2.1.2.2.2.2.2.2.1, ()))))))), (false, ())))))
 (br (x1.1.1 == 5)
 (bnd (F111 (x1.1.2.2.2.1, (1, (1099511627776, ()))) ()) fun a8 => br v2.2.2.1
 (bnd (F111 (x1.1.2.2.2.2.1, (0, (1, ()))) ()) fun a9 => br (cond true a8.1.1 false)
 (gdE (x1.1.1 = x1.1.1) <| gdE (x1.1.2.1 = x1.1.2.1) <| gdE (x1.1.2.2.1 = x1.1.2.2.1) <| gdE (x1.1.2.2.2.1 = x1.1.2.2.2.1) <| gdE (x1.1.2.2.2.2.1 = x1.1.2.2.2.2.1) <| gdE (x1.1.2.2.2.2.2.1 = x1.1.2.2.2.2.2.1) <| gdE (x1.1.2.2.2.2.2.2.1 = x1.1.2.2.2.2.2.2.1) <| j4 ((), ((v2.2.1.1, (v2.2.1.2.1, (v2.2.1.2.2.1, (0, (0, (v2.2.1.2.2.2.2.2.1, (v2.2.1.2.2.2.2.2.2.1, ()))))))), (cond true a9.1.1 false, ()))))
 (gdE (x1.1.1 = x1.1.1) <| gdE (x1.1.2.1 = x1.1.2.1) <| gdE (x1.1.2.2.1 = x1.1.2.2.1) <| gdE (x1.1.2.2.2.1 = x1.1.2.2.2.1) <| gdE (x1.1.2.2.2.2.1 = x1.1.2.2.2.2.1) <| gdE (x1.1.2.2.2.2.2.1 = x1.1.2.2.2.2.2.1) <| gdE (x1.1.2.2.2.2.2.2.1 = x1.1.2.2.2.2.2.2.1) <| j4 ((), ((v2.2.1.1, (v2.2.1.2.1, (v2.2.1.2.2.1, (0, (0, (v2.2.1.2.2.2.2.2.1, (v2.2.1.2.2.2.2.2.2.1, ()))))))), (false, ())))))
 (bnd (F111 (x1.1.2.2.2.2.1, (0, (1, ()))) ()) fun a10 => gdE (x1.1.1 = x1.1.1) <| gdE (x1.1.2.1 = x1.1.2.1) <| gdE (x1.1.2.2.1 = x1.1.2.2.1) <| gdE (x1.1.2.2.2.1 = x1.1.2.2.2.1) <| gdE (x1.1.2.2.2.2.1 = x1.1.2.2.2.2.1) <| gdE (x1.1.2.2.2.2.2.1 = x1.1.2.2.2.2.2.1) <| gdE (x1.1.2.2.2.2.2.2.1 = x1.1.2.2.2.2.2.2.1) <| j4 ((), ((v2.2.1.1, (v2.2.1.2.1, (v2.2.1.2.2.1, (0, (0, (v2.2.1.2.2.2.2.2.1, (v2.2.1.2.2.2.2.2.2.1, ()))))))), (false, ())))))
 (br (x1.1.1 == 6)
 (bnd (F111 (x1.1.2.2.2.1, (1, (1099511627776, ()))) ()) fun a11 => br v2.2.2.1
 (br (cond true a11.1.1 false)
 (gdE (x1.1.1 = x1.1.1) <| gdE (x1.1.2.1 = x1.1.2.1) <| gdE (x1.1.2.2.1 = x1.1.2.2.1) <| gdE (x1.1.2.2.2.1 = x1.1.2.2.2.1) <| gdE (x1.1.2.2.2.2.1 = x1.1.2.2.2.2.1) <| gdE (x1.1.2.2.2.2.2.1 = x1.1.2.2.2.2.2.1) <| gdE (x1.1.2.2.2.2.2.2.1 = x1.1.2.2.2.2.2.2.1) <| j4 ((), ((v2.2.1.1, (v2.2.1.2.1, (v2.2.1.2.2.1, (0, (0, (v2.2.1.2.2.2.2.2.1, (v2.2.1.2.2.2.2.2.2.1, ()))))))), (cond true (decide (x1.1.2.2.2.2.1 ≥ 1)) false, ()))))
 (gdE (x1.1.1 = x1.1.1) <| gdE (x1.1.2.1 = x1.1.2.1) <| gdE (x1.1.2.2.1 = x1.1.2.2.1) <| gdE (x1.1.2.2.2.1 = x1.1.2.2.2.1) <| gdE (x1.1.2.2.2.2.1 = x1.1.2.2.2.2.1) <| gdE (x1.1.2.2.2.2.2.1 = x1.1.2.2.2.2.2.1) <| gdE (x1.1.2.2.2.2.2.2.1 = x1.1.2.2.2.2.2.2.1) <| j4 ((), ((v2.2.1.1, (v2.2.1.2.1, (v2.2.1.2.2.1, (0, (0, (v2.2.1.2.2.2.2.2.1, (v2.2.1.2.2.2.2.2.2.1, ()))))))), (false, ())))))
 (gdE (x1.1.1 = x1.1.1) <| gdE (x1.1.2.1 = x1.1.2.1) <| gdE (x1.1.2.2.1 = x1.1.2.2.1) <| gdE (x1.1.2.2.2.1 = x1.1.2.2.2.1) <| gdE (x1.1.2.2.2.2.1 = x1.1.2.2.2.2.1) <| gdE (x1.1.2.2.2.2.2.1 = x1.1.2.2.2.2.2.1) <| gdE (x1.1.2.2.2.2.2.2.1 = x1.1.2.2.2.2.2.2.1) <| j4 ((), ((v2.2.1.1, (v2.2.1.2.1, (v2.2.1.2.2.1, (0, (0, (v2.2.1.2.2.2.2.2.1, (v2.2.1.2.2.2.2.2.2.1, ()))))))), (false, ())))))
 (br (x1.1.1 == 7)
 (bnd (F111 (x1.1.2.2.2.1, (1, (1099511627776, ()))) ()) fun a12 => br v2.2.2.1
 (bnd (F111 ((Nat.cast (List.length x1.1.2.2.2.2.2.1) : Int), (0, (64, ()))) ()) fun a13 => br (cond true a12.1.1 false)
 (br (cond true a13.1.1 false)
 (none)
 (none))
 (none))
 (bnd (F111 ((Nat.cast (List.length x1.1.2.2.2.2.2.1) : Int), (0, (64, ()))) ()) fun a14 => none))
 (jn (fun (v15 : ((Bool) × Unit) × Unit) => br v15.1.1
 (bnd (F111 ((Nat.cast (List.length x1.1.2.2.2.2.2.1) : Int), (0, (128, ()))) ()) fun a16 => br v2.2.2.1
 (br (cond true a16.1.1 false)
 (none)
 (none))
 (none))
 (br (x1.1.1 == 10)
 (bnd (F111 ((Nat.cast (List.length x1.1.2.2.2.2.2.1) : Int), (1, (64, ()))) ()) fun a17 => br v2.2.2.1
 (none)
 (none))
 (some ((1, ()), ()))))
 (fun j18 => br (x1.1.1 == 8)
 (gdE (x1.1.1 = x1.1.1) <| gdE (x1.1.2.1 = x1.1.2.1) <| gdE (x1.1.2.2.1 = x1.1.2.2.1) <| gdE (x1.1.2.2.2.1 = x1.1.2.2.2.1) <| gdE (x1.1.2.2.2.2.1 = x1.1.2.2.2.2.1) <| gdE (x1.1.2.2.2.2.2.1 = x1.1.2.2.2.2.2.1) <| gdE (x1.1.2.2.2.2.2.2.1 = x1.1.2.2.2.2.2.2.1) <| gdE (v2.2.1.1 = v2.2.1.1) <| gdE (v2.2.1.2.1 = v2.2.1.2.1) <| gdE (v2.2.1.2.2.1 = v2.2.1.2.2.1) <| gdE (v2.2.1.2.2.2.1 = v2.2.1.2.2.2.1) <| gdE (v2.2.1.2.2.2.2.1 = v2.2.1.2.2.2.2.1) <| gdE (v2.2.1.2.2.2.2.2.1 = v2.2.1.2.2.2.2.2.1) <| gdE (v2.2.1.2.2.2.2.2.2.1 = v2.2.1.2.2.2.2.2.2.1) <| gdE (v2.2.2.1 = v2.2.2.1) <| j18 (((x1.1.1 == 8), ()), ()))
 (gdE (x1.1.1 = x1.1.1) <| gdE (x1.1.2.1 = x1.1.2.1) <| gdE (x1.1.2.2.1 = x1.1.2.2.1) <| gdE (x1.1.2.2.2.1 = x1.1.2.2.2.1) <| gdE (x1.1.2.2.2.2.1 = x1.1.2.2.2.2.1) <| gdE (x1.1.2.2.2.2.2.1 = x1.1.2.2.2.2.2.1) <| gdE (x1.1.2.2.2.2.2.2.1 = x1.1.2.2.2.2.2.2.1) <| gdE (v2.2.1.1 = v2.2.1.1) <| gdE (v2.2.1.2.1 = v2.2.1.2.1) <| gdE (v2.2.1.2.2.1 = v2.2.1.2.2.1) <| gdE (v2.2.1.2.2.2.1 = v2.2.1.2.2.2.1) <| gdE (v2.2.1.2.2.2.2.1 = v2.2.1.2.2.2.2.1) <| gdE (v2.2.1.2.2.2.2.2.1 = v2.2.1.2.2.2.2.2.1) <| gdE (v2.2.1.2.2.2.2.2.2.1 = v2.2.1.2.2.2.2.2.2.1) <| gdE (v2.2.2.1 = v2.2.2.1) <| j18 (((x1.1.1 == 9), ()), ()))))))))
 (fun j19 => br (x1.1.1 == 2)
 (gdE (x1.1.1 = x1.1.1) <| gdE (x1.1.2.1 = x1.1.2.1) <| gdE (x1.1.2.2.1 = x1.1.2.2.1) <| gdE (x1.1.2.2.2.1 = x1.1.2.2.2.1) <| gdE (x1.1.2.2.2.2.1 = x1.1.2.2.2.2.1) <| gdE (x1.1.2.2.2.2.2.1 = x1.1.2.2.2.2.2.1) <| gdE (x1.1.2.2.2.2.2.2.1 = x1.1.2.2.2.2.2.2.1) <| gdE (v2.2.1.1 = v2.2.1.1) <| gdE (v2.2.1.2.1 = v2.2.1.2.1) <| gdE (v2.2.1.2.2.1 = v2.2.1.2.2.1) <| gdE (v2.2.1.2.2.2.1 = v2.2.1.2.2.2.1) <| gdE (v2.2.1.2.2.2.2.1 = v2.2.1.2.2.2.2.1) <| gdE (v2.2.1.2.2.2.2.2.1 = v2.2.1.2.2.2.2.2.1) <| gdE (v2.2.1.2.2.2.2.2.2.1 = v2.2.1.2.2.2.2.2.2.1) <| gdE (v2.2.2.1 = v2.2.2.1) <| j19 (((x1.1.1 == 2), ()), ()))
 (gdE (x1.1.1 = x1.1.1) <| gdE (x1.1.2.1 = x1.1.2.1) <| gdE (x1.1.2.2.1 = x1.1.2.2.1) <| gdE (x1.1.2.2.2.1 = x1.1.2.2.2.1) <| gdE (x1.1.2.2.2.2.1 = x1.1.2.2.2.2.1) <| gdE (x1.1.2.2.2.2.2.1 = x1.1.2.2.2.2.2.1) <| gdE (x1.1.2.2.2.2.2.2.1 = x1.1.2.2.2.2.2.2.1) <| gdE (v2.2.1.1 = v2.2.1.1) <| gdE (v2.2.1.2.1 = v2.2.1.2.1) <| gdE (v2.2.1.2.2.1 = v2.2.1.2.2.1) <| gdE (v2.2.1.2.2.2.1 = v2.2.1.2.2.2.1) <| gdE (v2.2.1.2.2.2.2.1 = v2.2.1.2.2.2.2.1) <| gdE (v2.2.1.2.2.2.2.2.1 = v2.2.1.2.2.2.2.2.1) <| gdE (v2.2.1.2.2.2.2.2.2.1 = v2.2.1.2.2.2.2.2.2.1) <| gdE (v2.2.2.1 = v2.2.2.1) <| j19 (((x1.1.1 == 4), ()), ())))))
 (fun j20 => br (x1.1.1 == 1)
 (gdE (x1.1.1 = x1.1.1) <| gdE (x1.1.2.1 = x1.1.2.1) <| gdE (x1.1.2.2.1 = x1.1.2.2.1) <| gdE (x1.1.2.2.2.1 = x1.1.2.2.2.1) <| gdE (x1.1.2.2.2.2.1 = x1.1.2.2.2.2.1) <| gdE (x1.1.2.2.2.2.2.1 = x1.1.2.2.2.2.2.1) <| gdE (x1.1.2.2.2.2.2.2.1 = x1.1.2.2.2.2.2.2.1) <| gdE (v2.2.1.1 = v2.2.1.1) <| gdE (v2.2.1.2.1 = v2.2.1.2.1) <| gdE (v2.2.1.2.2.1 = v2.2.1.2.2.1) <| gdE (v2.2.1.2.2.2.1 = v2.2.1.2.2.2.1) <| gdE (v2.2.1.2.2.2.2.1 = v2.2.1.2.2.2.2.1) <| gdE (v2.2.1.2.2.2.2.2.1 = v2.2.1.2.2.2.2.2.1) <| gdE (v2.2.1.2.2.2.2.2.2.1 = v2.2.1.2.2.2.2.2.2.1) <| gdE (v2.2.2.1 = v2.2.2.1) <| j20 (((x1.1.1 == 1), ()), ()))
 (gdE (x1.1.1 = x1.1.1) <| gdE (x1.1.2.1 = x1.1.2.1) <| gdE (x1.1.2.2.1 = x1.1.2.2.1) <| gdE (x1.1.2.2.2.1 = x1.1.2.2.2.1) <| gdE (x1.1.2.2.2.2.1 = x1.1.2.2.2.2.1) <| gdE (x1.1.2.2.2.2.2.1 = x1.1.2.2.2.2.2.1) <| gdE (x1.1.2.2.2.2.2.2.1 = x1.1.2.2.2.2.2.2.1) <| gdE (v2.2.1.1 = v2.2.1.1) <| gdE (v2.2.1.2.1 = v2.2.1.2.1) <| gdE (v2.2.1.2.2.1 = v2.2.1.2.2.1) <| gdE (v2.2.1.2.2.2.1 = v2.2.1.2.2.2.1) <| gdE (v2.2.1.2.2.2.2.1 = v2.2.1.2.2.2.2.1) <| gdE (v2.2.1.2.2.2.2.2.1 = v2.2.1.2.2.2.2.2.1) <| gdE (v2.2.1.2.2.2.2.2.2.1 = v2.2.1.2.2.2.2.2.2.1) <| gdE (v2.2.2.1 = v2.2.2.1) <| j20 (((x1.1.1 == 3), ()), ())))))
 (fun j21 => bnd (F111 (x1.1.1, (3, (10, ()))) ()) fun a22 => br a22.1.1
 (bnd (F111 (x1.1.2.1, (1, (1099511627776, ()))) ()) fun a23 => br a23.1.1
 (bnd (F111 (x1.1.2.2.1, (1, (1099511627776, ()))) ()) fun a24 => gdE (x1.1.1 = x1.1.1) <| gdE (x1.1.2.1 = x1.1.2.1) <| gdE (x1.1.2.2.1 = x1.1.2.2.1) <| gdE (x1.1.2.2.2.1 = x1.1.2.2.2.1) <| gdE (x1.1.2.2.2.2.1 = x1.1.2.2.2.2.1) <| gdE (x1.1.2.2.2.2.2.1 = x1.1.2.2.2.2.2.1) <| gdE (x1.1.2.2.2.2.2.2.1 = x1.1.2.2.2.2.2.2.1) <| j21 ((), ((0, (0, (0, (x1.1.2.2.2.1, (x1.1.2.2.2.2.1, (x1.1.2.2.2.2.2.1, (x1.1.2.2.2.2.2.2.1, ()))))))), (cond true (cond true a24.1.1 false) false, ()))))
 (gdE (x1.1.1 = x1.1.1) <| gdE (x1.1.2.1 = x1.1.2.1) <| gdE (x1.1.2.2.1 = x1.1.2.2.1) <| gdE (x1.1.2.2.2.1 = x1.1.2.2.2.1) <| gdE (x1.1.2.2.2.2.1 = x1.1.2.2.2.2.1) <| gdE (x1.1.2.2.2.2.2.1 = x1.1.2.2.2.2.2.1) <| gdE (x1.1.2.2.2.2.2.2.1 = x1.1.2.2.2.2.2.2.1) <| j21 ((), ((0, (0, (0, (x1.1.2.2.2.1, (x1.1.2.2.2.2.1, (x1.1.2.2.2.2.2.1, (x1.1.2.2.2.2.2.2.1, ()))))))), (false, ())))))
 (gdE (x1.1.1 = x1.1.1) <| gdE (x1.1.2.1 = x1.1.2.1) <| gdE (x1.1.2.2.1 = x1.1.2.2.1) <| gdE (x1.1.2.2.2.1 = x1.1.2.2.2.1) <| gdE (x1.1.2.2.2.2.1 = x1.1.2.2.2.2.1) <| gdE (x1.1.2.2.2.2.2.1 = x1.1.2.2.2.2.2.1) <| gdE (x1.1.2.2.2.2.2.2.1 = x1.1.2.2.2.2.2.2.1) <| j21 ((), ((0, (x1.1.2.1, (x1.1.2.2.1, (x1.1.2.2.2.1, (x1.1.2.2.2.2.1, (x1.1.2.2.2.2.2.1, (x1.1.2.2.2.2.2.2.1, ()))))))), (true, ())))))
noncomputable abbrev C47 : Con := ⟨[.b (.pair .int (.pair .int (.pair .int (.pair .int (.pair .int (.pair (.fz .u8) (.pair (.fz .u8) .unit)))))))], [.int], F47⟩
noncomputable def F48 (x0 : ((Int) × (Int) × (Int) × (List (BitVec 8)) × Unit) × (Int) × Unit) (x1 : Unit) : Option ((((Int) × (Int) × (Int) × (List (BitVec 8)) × Unit) × Unit) × Unit) :=
 br (x0.2.1 != 0)
 (some (((x0.2.1, (0, (0, ([], ())))), ()), ()))
 (some ((x0.1, ()), ()))
noncomputable abbrev C48 : Con := ⟨[.v (.pair .int (.pair .int (.pair .int (.pair (.fz .u8) .unit)))), .v .int], [(.pair .int (.pair .int (.pair .int (.pair (.fz .u8) .unit))))], F48⟩
noncomputable def F49 (x0 : ((List ((Int) × (Int) × (Int) × ((Int) × (Int) × (Int) × (List (BitVec 8)) × Unit) × Unit)) × (Int) × Unit) × Unit) (x1 : Unit) : Option (((Int) × (Int) × Unit) × ((List ((Int) × (Int) × (Int) × ((Int) × (Int) × (Int) × (List (BitVec 8)) × Unit) × Unit)) × (Int) × Unit) × Unit) :=
 br (decide ((Nat.cast (List.length x0.1.1) : Int) ≥ 8))
 (some ((0, (134, ())), ((x0.1.1, (x0.1.2.1, ())), ())))
 (br (cond false true (decide (x0.1.2.1 ≥ 1099511627776)))
 (some ((0, (134, ())), ((x0.1.1, (x0.1.2.1, ())), ())))
 (some ((x0.1.2.1, (0, ())), ((mput x0.1.1 x0.1.2.1 (x0.1.2.1, (0, ((0, (0, (0, ([], ())))), ()))), (Go.SL.w64 (x0.1.2.1 + 1), ())), ()))))
noncomputable abbrev C49 : Con := ⟨[.io 176 (.pair (.map (.pair .int (.pair .int (.pair (.pair .int (.pair .int (.pair .int (.pair (.fz .u8) .unit)))) .unit)))) (.pair .int .unit)) []], [.int, .int], F49⟩
noncomputable def F50 (x0 : ((List ((Int) × (Int) × (Int) × ((Int) × (Int) × (Int) × (List (BitVec 8)) × Unit) × Unit)) × (Int) × Unit) × (Int) × Unit) (x1 : Unit) : Option (((Int) × Unit) × ((List ((Int) × (Int) × (Int) × ((Int) × (Int) × (Int) × (List (BitVec 8)) × Unit) × Unit)) × (Int) × Unit) × Unit) :=
 ob (mget x0.1.1 x0.2.1) (br true
 (some ((150, ()), ((x0.1.1, (x0.1.2.1, ())), ())))
 (some ((0, ()), ((mdel x0.1.1 x0.2.1, (x0.1.2.1, ())), ())))) fun a2 => br false
 (some ((150, ()), ((x0.1.1, (x0.1.2.1, ())), ())))
 (some ((0, ()), ((mdel x0.1.1 x0.2.1, (x0.1.2.1, ())), ())))
noncomputable abbrev C50 : Con := ⟨[.io 176 (.pair (.map (.pair .int (.pair .int (.pair (.pair .int (.pair .int (.pair .int (.pair (.fz .u8) .unit)))) .unit)))) (.pair .int .unit)) [], .v .int], [.int], F50⟩
noncomputable def F18 (x0 : (((List (BitVec 8)) × (List (BitVec 8)) × (Int) × Unit) × ((List ((Bool) × (List ((List (BitVec 8)) × (Int) × (Bool) × Unit)) × Unit)) × Unit) × ((List ((Int) × (Int) × (Int) × ((Int) × (Int) × (Int) × (List (BitVec 8)) × Unit) × Unit)) × (Int) × Unit) × Unit) × Unit) (x1 : ((Int) × (Int) × (Int) × (Int) × (Int) × (List (BitVec 8)) × (List (BitVec 8)) × Unit) × Unit) : Option ((((Int) × (Int) × (Int) × (List (BitVec 8)) × Unit) × Unit) × (((List (BitVec 8)) × (List (BitVec 8)) × (Int) × Unit) × ((List ((Bool) × (List ((List (BitVec 8)) × (Int) × (Bool) × Unit)) × Unit)) × Unit) × ((List ((Int) × (Int) × (Int) × ((Int) × (Int) × (Int) × (List (BitVec 8)) × Unit) × Unit)) × (Int) × Unit) × Unit) × Unit) :=
 bnd (F47 () ((x1.1.1, (x1.1.2.1, (x1.1.2.2.1, (x1.1.2.2.2.1, (x1.1.2.2.2.2.1, (x1.1.2.2.2.2.2.1, (x1.1.2.2.2.2.2.2.1, ()))))))), ())) fun a2 => br (a2.1.1 != 0)
 (bnd (F48 ((0, (0, (0, ([], ())))), (a2.1.1, ())) ()) fun a3 => some ((a3.1.1, ()), (x0.1, ())))
 (br (x1.1.1 == 1)
 (bnd (F49 (x0.1.2.2.1, ()) ()) fun a4 => bnd (F48 ((0, (a4.1.1, (0, ([], ())))), (a4.1.2.1, ())) ()) fun a5 => some ((a5.1.1, ()), ((x0.1.1, (x0.1.2.1, (a4.2.1, ()))), ())))
 (br (x1.1.1 == 2)
 (bnd (F50 (x0.1.2.2.1, (x1.1.2.2.2.1, ())) ()) fun a6 => bnd (F48 ((0, (0, (0, ([], ())))), (a6.1.1, ())) ()) fun a7 => some ((a7.1.1, ()), ((x0.1.1, (x0.1.2.1, (a6.2.1, ()))), ())))
 (bth (none)
 (none))))
noncomputable abbrev C18 : Con := ⟨[.io 91 (.pair (.box 171 (.pair (.arr 32 .u8) (.pair (.arr 32 .u8) (.pair .int .unit)))) (.pair (.box 173 (.pair (.vec 42 (.pair .bool (.pair (.vec 46 (.pair (.arr 32 .u8) (.pair .int (.pair .bool .unit)))) .unit))) .unit)) (.pair (.box 176 (.pair (.map (.pair .int (.pair .int (.pair (.pair .int (.pair .int (.pair .int (.pair (.fz .u8) .unit)))) .unit)))) (.pair .int .unit))) .unit))) [], .b (.pair .int (.pair .int (.pair .int (.pair .int (.pair .int (.pair (.fz .u8) (.pair (.fz .u8) .unit)))))))], [(.pair .int (.pair .int (.pair .int (.pair (.fz .u8) .unit))))], F18⟩
noncomputable def F29 (x0 : Unit) (x1 : (List (BitVec 8)) × (List ((Int) × ((Int) × (Int) × (Int) × (Int) × (Int) × (List (BitVec 8)) × (List (BitVec 8)) × Unit) × ((Int) × (Int) × (Int) × (List (BitVec 8)) × Unit) × Unit)) × Unit) : Option (((List ((Int) × (Int) × (Int) × (List (BitVec 8)) × Unit)) × Unit) × Unit) :=
 bnd (F15 () (x1.1, ())) fun a2 => iter (fun (v3 : ((Int) × (List ((Int) × (Int) × (Int) × (List (BitVec 8)) × Unit)) × Unit) × (((List (BitVec 8)) × (List (BitVec 8)) × (Int) × Unit) × ((List ((Bool) × (List ((List (BitVec 8)) × (Int) × (Bool) × Unit)) × Unit)) × Unit) × ((List ((Int) × (Int) × (Int) × ((Int) × (Int) × (Int) × (List (BitVec 8)) × Unit) × Unit)) × (Int) × Unit) × Unit) × Unit) => fun r4 => br (decide (v3.1.1 < (Nat.cast (List.length x1.2.1) : Int)))
 (gd (0 ≤ v3.1.1) <| bnd (x1.2.1[Int.toNat v3.1.1]?) fun a5 => bnd (F18 (v3.2.1, ()) ((a5.2.1.1, (a5.2.1.2.1, (a5.2.1.2.2.1, (a5.2.1.2.2.2.1, (a5.2.1.2.2.2.2.1, (a5.2.1.2.2.2.2.2.1, (a5.2.1.2.2.2.2.2.2.1, ()))))))), ())) fun a6 => gd (few (List.length v3.1.2.1) (List.length ((a6.1.1 :: []) : List ((Int) × (Int) × (Int) × (List (BitVec 8)) × Unit)))) <| r4 ((Go.SL.w64 (v3.1.1 + 1), ((v3.1.2.1 ++ (a6.1.1 :: [])), ())), (a6.2.1, ())))
 (some ((v3.1.2.1, ()), ()))) ((0, ([], ())), (a2.1.1, ()))
noncomputable abbrev C29 : Con := ⟨[.b (.fz .u8), .b (.fz (.pair .int (.pair (.pair .int (.pair .int (.pair .int (.pair .int (.pair .int (.pair (.fz .u8) (.pair (.fz .u8) .unit))))))) (.pair (.pair .int (.pair .int (.pair .int (.pair (.fz .u8) .unit)))) .unit))))], [(.fz (.pair .int (.pair .int (.pair .int (.pair (.fz .u8) .unit)))))], F29⟩
noncomputable def F99 (x0 : Unit) (x1 : (List (BitVec 8)) × (List (BitVec 8)) × Unit) : Option (((Bool) × Unit) × Unit) :=
 some (((x1.1 == x1.2.1), ()), ())
noncomputable abbrev C99 : Con := ⟨[.b (.fz .u8), .b (.fz .u8)], [.bool], F99⟩
noncomputable def F60 (x0 : Unit) (x1 : ((Int) × (Int) × (Int) × (List (BitVec 8)) × Unit) × ((Int) × (Int) × (Int) × (List (BitVec 8)) × Unit) × Unit) : Option (((Bool) × Unit) × Unit) :=
 br (x1.1.1 == x1.2.1.1)
 (br (cond true (x1.1.2.1 == x1.2.1.2.1) false)
 (br (cond true (x1.1.2.2.1 == x1.2.1.2.2.1) false)
 (bnd (F99 () (x1.1.2.2.2.1, (x1.2.1.2.2.2.1, ()))) fun a2 => some ((cond true a2.1.1 false, ()), ()))
 (some ((false, ()), ())))
 (some ((false, ()), ())))
 (some ((false, ()), ()))
noncomputable abbrev C60 : Con := ⟨[.b (.pair .int (.pair .int (.pair .int (.pair (.fz .u8) .unit)))), .b (.pair .int (.pair .int (.pair .int (.pair (.fz .u8) .unit))))], [.bool], F60⟩
noncomputable def F64 (x0 : Unit) (x1 : ((Int) × (Int) × (Int) × (Int) × (Int) × (List (BitVec 8)) × (List (BitVec 8)) × Unit) × ((Int) × (Int) × (Int) × (Int) × (Int) × (List (BitVec 8)) × (List (BitVec 8)) × Unit) × Unit) : Option (((Bool) × Unit) × Unit) :=
 br (x1.1.1 == x1.2.1.1)
 (br (cond true (x1.1.2.1 == x1.2.1.2.1) false)
 (br (cond true (x1.1.2.2.1 == x1.2.1.2.2.1) false)
 (br (cond true (x1.1.2.2.2.1 == x1.2.1.2.2.2.1) false)
 (br (cond true (x1.1.2.2.2.2.1 == x1.2.1.2.2.2.2.1) false)
 (bnd (F99 () (x1.1.2.2.2.2.2.1, (x1.2.1.2.2.2.2.2.1, ()))) fun a2 => br (cond true a2.1.1 false)
 (bnd (F99 () (x1.1.2.2.2.2.2.2.1, (x1.2.1.2.2.2.2.2.2.1, ()))) fun a3 => some ((cond true a3.1.1 false, ()), ()))
 (some ((false, ()), ())))
 (some ((false, ()), ())))
 (some ((false, ()), ())))
 (some ((false, ()), ())))
 (some ((false, ()), ())))
 (some ((false, ()), ()))
noncomputable abbrev C64 : Con := ⟨[.b (.pair .int (.pair .int (.pair .int (.pair .int (.pair .int (.pair (.fz .u8) (.pair (.fz .u8) .unit))))))), .b (.pair .int (.pair .int (.pair .int (.pair .int (.pair .int (.pair (.fz .u8) (.pair (.fz .u8) .unit)))))))], [.bool], F64⟩
noncomputable def F26 (x0 : Unit) (x1 : (List (BitVec 8)) × (List ((Int) × ((Int) × (Int) × (Int) × (Int) × (Int) × (List (BitVec 8)) × (List (BitVec 8)) × Unit) × ((Int) × (Int) × (Int) × (List (BitVec 8)) × Unit) × Unit)) × (List ((Int) × (Int) × (Int) × (Int) × (Int) × ((Int) × (Int) × (Int) × (Int) × (Int) × (List (BitVec 8)) × (List (BitVec 8)) × Unit) × (Bool) × ((Int) × (Int) × (Int) × (List (BitVec 8)) × Unit) × Unit)) × Unit) : Option (((List ((Int) × (Int) × Unit)) × Unit) × Unit) :=
 bnd (F29 () (x1.1, (x1.2.1, ()))) fun a2 => iter (fun (v3 : ((Int) × Unit) × (List ((Int) × (Int) × Unit)) × Unit) => fun r4 => br (decide (v3.1.1 < (Nat.cast (List.length x1.2.1) : Int)))
 (jn (fun (v5 : ((Int) × Unit) × Unit) => gd (0 ≤ v3.1.1) <| bnd (x1.2.1[Int.toNat v3.1.1]?) fun a6 => br (decide (a6.1 ≤ v5.1.1))
 (gd (few (List.length v3.2.1) (List.length (((v3.1.1, (1, ())) :: []) : List ((Int) × (Int) × Unit)))) <| gdE (x1.2.1 = x1.2.1) <| gdE (a2.1.1 = a2.1.1) <| gdE (x1.2.2.1 = x1.2.2.1) <| r4 ((Go.SL.w64 (v3.1.1 + 1), ()), ((v3.2.1 ++ ((v3.1.1, (1, ())) :: [])), ())))
 (gdE (x1.2.1 = x1.2.1) <| gdE (a2.1.1 = a2.1.1) <| gdE (x1.2.2.1 = x1.2.2.1) <| r4 ((Go.SL.w64 (v3.1.1 + 1), ()), (v3.2.1, ()))))
 (fun j7 => br (decide (v3.1.1 > 0))
 (gd (0 ≤ Go.SL.w64 (v3.1.1 - 1)) <| bnd (x1.2.1[Int.toNat (Go.SL.w64 (v3.1.1 - 1))]?) fun a8 => gdE (v3.2.1 = v3.2.1) <| gdE (x1.2.1 = x1.2.1) <| gdE (a2.1.1 = a2.1.1) <| gdE (x1.2.2.1 = x1.2.2.1) <| j7 ((a8.1, ()), ()))
 (gdE (v3.2.1 = v3.2.1) <| gdE (x1.2.1 = x1.2.1) <| gdE (a2.1.1 = a2.1.1) <| gdE (x1.2.2.1 = x1.2.2.1) <| j7 ((0, ()), ()))))
 (iter (fun (v9 : ((Int) × Unit) × (List ((Int) × (Int) × Unit)) × Unit) => fun r10 => br (decide (v9.1.1 < (Nat.cast (List.length x1.2.1) : Int)))
 (gd (0 ≤ v9.1.1) <| bnd (x1.2.1[Int.toNat v9.1.1]?) fun a11 => gd (0 ≤ v9.1.1) <| bnd (a2.1.1[Int.toNat v9.1.1]?) fun a12 => bnd (F60 () (a11.2.2.1, (a12, ()))) fun a13 => br (!a13.1.1)
 (gd (few (List.length v9.2.1) (List.length (((v9.1.1, (2, ())) :: []) : List ((Int) × (Int) × Unit)))) <| gdE (x1.2.1 = x1.2.1) <| gdE (a2.1.1 = a2.1.1) <| gdE (x1.2.2.1 = x1.2.2.1) <| r10 ((Go.SL.w64 (v9.1.1 + 1), ()), ((v9.2.1 ++ ((v9.1.1, (2, ())) :: [])), ())))
 (gdE (x1.2.1 = x1.2.1) <| gdE (a2.1.1 = a2.1.1) <| gdE (x1.2.2.1 = x1.2.2.1) <| r10 ((Go.SL.w64 (v9.1.1 + 1), ()), (v9.2.1, ()))))
 (iter (fun (v14 : ((Int) × Unit) × (List ((Int) × (Int) × Unit)) × Unit) => fun r15 => br (decide (v14.1.1 < (Nat.cast (List.length x1.2.2.1) : Int)))
 (gd (0 ≤ v14.1.1) <| bnd (x1.2.2.1[Int.toNat v14.1.1]?) fun a16 => br a16.2.2.2.2.2.2.1
 (iter (fun (v17 : ((Int) × Unit) × Unit) => fun r18 => br (decide (v17.1.1 < (Nat.cast (List.length x1.2.1) : Int)))
 (gd (0 ≤ v17.1.1) <| bnd (x1.2.1[Int.toNat v17.1.1]?) fun a19 => br (a19.1 == a16.2.2.2.2.1)
 (bnd (F64 () ((a19.2.1.1, (a19.2.1.2.1, (a19.2.1.2.2.1, (a19.2.1.2.2.2.1, (a19.2.1.2.2.2.2.1, (a19.2.1.2.2.2.2.2.1, (a19.2.1.2.2.2.2.2.2.1, ()))))))), ((a16.2.2.2.2.2.1.1, (a16.2.2.2.2.2.1.2.1, (a16.2.2.2.2.2.1.2.2.1, (a16.2.2.2.2.2.1.2.2.2.1, (a16.2.2.2.2.2.1.2.2.2.2.1, (a16.2.2.2.2.2.1.2.2.2.2.2.1, (a16.2.2.2.2.2.1.2.2.2.2.2.2.1, ()))))))), ()))) fun a20 => br (cond true a20.1.1 false)
 (bnd (F60 () ((a19.2.2.1.1, (a19.2.2.1.2.1, (a19.2.2.1.2.2.1, (a19.2.2.1.2.2.2.1, ())))), ((a16.2.2.2.2.2.2.2.1.1, (a16.2.2.2.2.2.2.2.1.2.1, (a16.2.2.2.2.2.2.2.1.2.2.1, (a16.2.2.2.2.2.2.2.1.2.2.2.1, ())))), ()))) fun a21 => br (cond true a21.1.1 false)
 (br (cond true (!(decide (v17.1.1 ≥ 0))) false)
 (gd (few (List.length v14.2.1) (List.length (((v14.1.1, (3, ())) :: []) : List ((Int) × (Int) × Unit)))) <| gdE (x1.2.2.1 = x1.2.2.1) <| gdE (x1.2.1 = x1.2.1) <| gdE (a2.1.1 = a2.1.1) <| r15 ((Go.SL.w64 (v14.1.1 + 1), ()), ((v14.2.1 ++ ((v14.1.1, (3, ())) :: [])), ())))
 (gdE (x1.2.2.1 = x1.2.2.1) <| gdE (x1.2.1 = x1.2.1) <| gdE (a2.1.1 = a2.1.1) <| r15 ((Go.SL.w64 (v14.1.1 + 1), ()), (v14.2.1, ()))))
 (gdE (x1.2.1 = x1.2.1) <| gdE (a16.1 = a16.1) <| gdE (a16.2.1 = a16.2.1) <| gdE (a16.2.2.1 = a16.2.2.1) <| gdE (a16.2.2.2.1 = a16.2.2.2.1) <| gdE (a16.2.2.2.2.1 = a16.2.2.2.2.1) <| gdE (a16.2.2.2.2.2.1.1 = a16.2.2.2.2.2.1.1) <| gdE (a16.2.2.2.2.2.1.2.1 = a16.2.2.2.2.2.1.2.1) <| gdE (a16.2.2.2.2.2.1.2.2.1 = a16.2.2.2.2.2.1.2.2.1) <| gdE (a16.2.2.2.2.2.1.2.2.2.1 = a16.2.2.2.2.2.1.2.2.2.1) <| gdE (a16.2.2.2.2.2.1.2.2.2.2.1 = a16.2.2.2.2.2.1.2.2.2.2.1) <| gdE (a16.2.2.2.2.2.1.2.2.2.2.2.1 = a16.2.2.2.2.2.1.2.2.2.2.2.1) <| gdE (a16.2.2.2.2.2.1.2.2.2.2.2.2.1 = a16.2.2.2.2.2.1.2.2.2.2.2.2.1) <| gdE (a16.2.2.2.2.2.2.1 = a16.2.2.2.2.2.2.1) <| gdE (a16.2.2.2.2.2.2.2.1.1 = a16.2.2.2.2.2.2.2.1.1) <| gdE (a16.2.2.2.2.2.2.2.1.2.1 = a16.2.2.2.2.2.2.2.1.2.1) <| gdE (a16.2.2.2.2.2.2.2.1.2.2.1 = a16.2.2.2.2.2.2.2.1.2.2.1) <| gdE (a16.2.2.2.2.2.2.2.1.2.2.2.1 = a16.2.2.2.2.2.2.2.1.2.2.2.1) <| gdE (x1.2.2.1 = x1.2.2.1) <| gdE (v14.2.1 = v14.2.1) <| gdE (a2.1.1 = a2.1.1) <| r18 ((Go.SL.w64 (v17.1.1 + 1), ()), ())))
 (gdE (x1.2.1 = x1.2.1) <| gdE (a16.1 = a16.1) <| gdE (a16.2.1 = a16.2.1) <| gdE (a16.2.2.1 = a16.2.2.1) <| gdE (a16.2.2.2.1 = a16.2.2.2.1) <| gdE (a16.2.2.2.2.1 = a16.2.2.2.2.1) <| gdE (a16.2.2.2.2.2.1.1 = a16.2.2.2.2.2.1.1) <| gdE (a16.2.2.2.2.2.1.2.1 = a16.2.2.2.2.2.1.2.1) <| gdE (a16.2.2.2.2.2.1.2.2.1 = a16.2.2.2.2.2.1.2.2.1) <| gdE (a16.2.2.2.2.2.1.2.2.2.1 = a16.2.2.2.2.2.1.2.2.2.1) <| gdE (a16.2.2.2.2.2.1.2.2.2.2.1 = a16.2.2.2.2.2.1.2.2.2.2.1) <| gdE (a16.2.2.2.2.2.1.2.2.2.2.2.1 = a16.2.2.2.2.2.1.2.2.2.2.2.1) <| gdE (a16.2.2.2.2.2.1.2.2.2.2.2.2.1 = a16.2.2.2.2.2.1.2.2.2.2.2.2.1) <| gdE (a16.2.2.2.2.2.2.1 = a16.2.2.2.2.2.2.1) <| gdE (a16.2.2.2.2.2.2.2.1.1 = a16.2.2.2.2.2.2.2.1.1) <| gdE (a16.2.2.2.2.2.2.2.1.2.1 = a16.2.2.2.2.2.2.2.1.2.1) <| gdE (a16.2.2.2.2.2.2.2.1.2.2.1 = a16.2.2.2.2.2.2.2.1.2.2.1) <| gdE (a16.2.2.2.2.2.2.2.1.2.2.2.1 = a16.2.2.2.2.2.2.2.1.2.2.2.1) <| gdE (x1.2.2.1 = x1.2.2.1) <| gdE (v14.2.1 = v14.2.1) <| gdE (a2.1.1 = a2.1.1) <| r18 ((Go.SL.w64 (v17.1.1 + 1), ()), ())))
 (gdE (x1.2.1 = x1.2.1) <| gdE (a16.1 = a16.1) <| gdE (a16.2.1 = a16.2.1) <| gdE (a16.2.2.1 = a16.2.2.1) <| gdE (a16.2.2.2.1 = a16.2.2.2.1) <| gdE (a16.2.2.2.2.1 = a16.2.2.2.2.1) <| gdE (a16.2.2.2.2.2.1.1 = a16.2.2.2.2.2.1.1) <| gdE (a16.2.2.2.2.2.1.2.1 = a16.2.2.2.2.2.1.2.1) <| gdE (a16.2.2.2.2.2.1.2.2.1 = a16.2.2.2.2.2.1.2.2.1) <| gdE (a16.2.2.2.2.2.1.2.2.2.1 = a16.2.2.2.2.2.1.2.2.2.1) <| gdE (a16.2.2.2.2.2.1.2.2.2.2.1 = a16.2.2.2.2.2.1.2.2.2.2.1) <| gdE (a16.2.2.2.2.2.1.2.2.2.2.2.1 = a16.2.2.2.2.2.1.2.2.2.2.2.1) <| gdE (a16.2.2.2.2.2.1.2.2.2.2.2.2.1 = a16.2.2.2.2.2.1.2.2.2.2.2.2.1) <| gdE (a16.2.2.2.2.2.2.1 = a16.2.2.2.2.2.2.1) <| gdE (a16.2.2.2.2.2.2.2.1.1 = a16.2.2.2.2.2.2.2.1.1) <| gdE (a16.2.2.2.2.2.2.2.1.2.1 = a16.2.2.2.2.2.2.2.1.2.1) <| gdE (a16.2.2.2.2.2.2.2.1.2.2.1 = a16.2.2.2.2.2.2.2.1.2.2.1) <| gdE (a16.2.2.2.2.2.2.2.1.2.2.2.1 = a16.2.2.2.2.2.2.2.1.2.2.2.1) <| gdE (x1.2.2.1 = x1.2.2.1) <| gdE (v14.2.1 = v14.2.1) <| gdE (a2.1.1 = a2.1.1) <| r18 ((Go.SL.w64 (v17.1.1 + 1), ()), ())))
 (br true
 (gd (few (List.length v14.2.1) (List.length (((v14.1.1, (3, ())) :: []) : List ((Int) × (Int) × Unit)))) <| gdE (x1.2.2.1 = x1.2.2.1) <| gdE (x1.2.1 = x1.2.1) <| gdE (a2.1.1 = a2.1.1) <| r15 ((Go.SL.w64 (v14.1.1 + 1), ()), ((v14.2.1 ++ ((v14.1.1, (3, ())) :: [])), ())))
 (gdE (x1.2.2.1 = x1.2.2.1) <| gdE (x1.2.1 = x1.2.1) <| gdE (a2.1.1 = a2.1.1) <| r15 ((Go.SL.w64 (v14.1.1 + 1), ()), (v14.2.1, ()))))) ((0, ()), ()))
 (gdE (x1.2.2.1 = x1.2.2.1) <| gdE (x1.2.1 = x1.2.1) <| gdE (a2.1.1 = a2.1.1) <| r15 ((Go.SL.w64 (v14.1.1 + 1), ()), (v14.2.1, ()))))
 (iter (fun (v22 : ((Int) × Unit) × (List ((Int) × (Int) × Unit)) × Unit) => fun r23 => br (decide (v22.1.1 < (Nat.cast (List.length x1.2.2.1) : Int)))
 (gd (0 ≤ v22.1.1) <| bnd (x1.2.2.1[Int.toNat v22.1.1]?) fun a24 => br a24.2.2.2.2.2.2.1
 (gd (0 ≤ v22.1.1) <| gd (0 ≤ Int.toNat v22.1.1) <| gd (Int.toNat v22.1.1 ≤ (List.length x1.2.2.1)) <| iter (fun (v25 : ((Int) × Unit) × Unit) => fun r26 => br (decide (v25.1.1 < (Nat.cast (List.length (List.drop 0 (List.take (Int.toNat v22.1.1) x1.2.2.1))) : Int)))
 (gd (0 ≤ v25.1.1) <| bnd ((List.drop 0 (List.take (Int.toNat v22.1.1) x1.2.2.1))[Int.toNat v25.1.1]?) fun a27 => br a27.2.2.2.2.2.2.1
 (gd (0 ≤ v22.1.1) <| bnd (x1.2.2.1[Int.toNat v22.1.1]?) fun a28 => br (cond true (a27.2.2.2.2.1 == a28.2.2.2.2.1) false)
 (br (cond true (decide (v25.1.1 ≥ 0)) false)
 (gd (few (List.length v22.2.1) (List.length (((v22.1.1, (4, ())) :: []) : List ((Int) × (Int) × Unit)))) <| gdE (x1.2.2.1 = x1.2.2.1) <| gdE (x1.2.1 = x1.2.1) <| gdE (a2.1.1 = a2.1.1) <| r23 ((Go.SL.w64 (v22.1.1 + 1), ()), ((v22.2.1 ++ ((v22.1.1, (4, ())) :: [])), ())))
 (gdE (x1.2.2.1 = x1.2.2.1) <| gdE (x1.2.1 = x1.2.1) <| gdE (a2.1.1 = a2.1.1) <| r23 ((Go.SL.w64 (v22.1.1 + 1), ()), (v22.2.1, ()))))
 (gdE (v22.1.1 = v22.1.1) <| gdE (x1.2.2.1 = x1.2.2.1) <| gdE (v22.2.1 = v22.2.1) <| gdE (x1.2.1 = x1.2.1) <| gdE (a2.1.1 = a2.1.1) <| r26 ((Go.SL.w64 (v25.1.1 + 1), ()), ())))
 (gdE (v22.1.1 = v22.1.1) <| gdE (x1.2.2.1 = x1.2.2.1) <| gdE (v22.2.1 = v22.2.1) <| gdE (x1.2.1 = x1.2.1) <| gdE (a2.1.1 = a2.1.1) <| r26 ((Go.SL.w64 (v25.1.1 + 1), ()), ())))
 (br false
 (gd (few (List.length v22.2.1) (List.length (((v22.1.1, (4, ())) :: []) : List ((Int) × (Int) × Unit)))) <| gdE (x1.2.2.1 = x1.2.2.1) <| gdE (x1.2.1 = x1.2.1) <| gdE (a2.1.1 = a2.1.1) <| r23 ((Go.SL.w64 (v22.1.1 + 1), ()), ((v22.2.1 ++ ((v22.1.1, (4, ())) :: [])), ())))
 (gdE (x1.2.2.1 = x1.2.2.1) <| gdE (x1.2.1 = x1.2.1) <| gdE (a2.1.1 = a2.1.1) <| r23 ((Go.SL.w64 (v22.1.1 + 1), ()), (v22.2.1, ()))))) ((0, ()), ()))
 (gdE (x1.2.2.1 = x1.2.2.1) <| gdE (x1.2.1 = x1.2.1) <| gdE (a2.1.1 = a2.1.1) <| r23 ((Go.SL.w64 (v22.1.1 + 1), ()), (v22.2.1, ()))))
 (iter (fun (v29 : ((Int) × Unit) × (List ((Int) × (Int) × Unit)) × Unit) => fun r30 => br (decide (v29.1.1 < (Nat.cast (List.length x1.2.2.1) : Int)))
 (gd (0 ≤ v29.1.1) <| bnd (x1.2.2.1[Int.toNat v29.1.1]?) fun a31 => br a31.2.2.2.2.2.2.1
 (iter (fun (v32 : ((Int) × Unit) × Unit) => fun r33 => br (decide (v32.1.1 < (Nat.cast (List.length x1.2.2.1) : Int)))
 (gd (0 ≤ v32.1.1) <| bnd (x1.2.2.1[Int.toNat v32.1.1]?) fun a34 => br a34.2.2.2.2.2.2.1
 (br (cond true (decide (a34.2.2.1 > a31.2.2.2.1)) false)
 (br (cond true (decide (a34.2.2.2.2.1 < a31.2.2.2.2.1)) false)
 (br (cond true (decide (v32.1.1 ≥ 0)) false)
 (gd (few (List.length v29.2.1) (List.length (((v29.1.1, (5, ())) :: []) : List ((Int) × (Int) × Unit)))) <| gdE (x1.2.2.1 = x1.2.2.1) <| gdE (x1.2.1 = x1.2.1) <| gdE (a2.1.1 = a2.1.1) <| r30 ((Go.SL.w64 (v29.1.1 + 1), ()), ((v29.2.1 ++ ((v29.1.1, (5, ())) :: [])), ())))
 (gdE (x1.2.2.1 = x1.2.2.1) <| gdE (x1.2.1 = x1.2.1) <| gdE (a2.1.1 = a2.1.1) <| r30 ((Go.SL.w64 (v29.1.1 + 1), ()), (v29.2.1, ()))))
 (gdE (x1.2.2.1 = x1.2.2.1) <| gdE (a31.1 = a31.1) <| gdE (a31.2.1 = a31.2.1) <| gdE (a31.2.2.1 = a31.2.2.1) <| gdE (a31.2.2.2.1 = a31.2.2.2.1) <| gdE (a31.2.2.2.2.1 = a31.2.2.2.2.1) <| gdE (a31.2.2.2.2.2.1.1 = a31.2.2.2.2.2.1.1) <| gdE (a31.2.2.2.2.2.1.2.1 = a31.2.2.2.2.2.1.2.1) <| gdE (a31.2.2.2.2.2.1.2.2.1 = a31.2.2.2.2.2.1.2.2.1) <| gdE (a31.2.2.2.2.2.1.2.2.2.1 = a31.2.2.2.2.2.1.2.2.2.1) <| gdE (a31.2.2.2.2.2.1.2.2.2.2.1 = a31.2.2.2.2.2.1.2.2.2.2.1) <| gdE (a31.2.2.2.2.2.1.2.2.2.2.2.1 = a31.2.2.2.2.2.1.2.2.2.2.2.1) <| gdE (a31.2.2.2.2.2.1.2.2.2.2.2.2.1 = a31.2.2.2.2.2.1.2.2.2.2.2.2.1) <| gdE (a31.2.2.2.2.2.2.1 = a31.2.2.2.2.2.2.1) <| gdE (a31.2.2.2.2.2.2.2.1.1 = a31.2.2.2.2.2.2.2.1.1) <| gdE (a31.2.2.2.2.2.2.2.1.2.1 = a31.2.2.2.2.2.2.2.1.2.1) <| gdE (a31.2.2.2.2.2.2.2.1.2.2.1 = a31.2.2.2.2.2.2.2.1.2.2.1) <| gdE (a31.2.2.2.2.2.2.2.1.2.2.2.1 = a31.2.2.2.2.2.2.2.1.2.2.2.1) <| gdE (v29.2.1 = v29.2.1) <| gdE (x1.2.1 = x1.2.1) <| gdE (a2.1.1 = a2.1.1) <| r33 ((Go.SL.w64 (v32.1.1 + 1), ()), ())))
 (gdE (x1.2.2.1 = x1.2.2.1) <| gdE (a31.1 = a31.1) <| gdE (a31.2.1 = a31.2.1) <| gdE (a31.2.2.1 = a31.2.2.1) <| gdE (a31.2.2.2.1 = a31.2.2.2.1) <| gdE (a31.2.2.2.2.1 = a31.2.2.2.2.1) <| gdE (a31.2.2.2.2.2.1.1 = a31.2.2.2.2.2.1.1) <| gdE (a31.2.2.2.2.2.1.2.1 = a31.2.2.2.2.2.1.2.1) <| gdE (a31.2.2.2.2.2.1.2.2.1 = a31.2.2.2.2.2.1.2.2.1) <| gdE (a31.2.2.2.2.2.1.2.2.2.1 = a31.2.2.2.2.2.1.2.2.2.1) <| gdE (a31.2.2.2.2.2.1.2.2.2.2.1 = a31.2.2.2.2.2.1.2.2.2.2.1) <| gdE (a31.2.2.2.2.2.1.2.2.2.2.2.1 = a31.2.2.2.2.2.1.2.2.2.2.2.1) <| gdE (a31.2.2.2.2.2.1.2.2.2.2.2.2.1 = a31.2.2.2.2.2.1.2.2.2.2.2.2.1) <| gdE (a31.2.2.2.2.2.2.1 = a31.2.2.2.2.2.2.1) <| gdE (a31.2.2.2.2.2.2.2.1.1 = a31.2.2.2.2.2.2.2.1.1) <| gdE (a31.2.2.2.2.2.2.2.1.2.1 = a31.2.2.2.2.2.2.2.1.2.1) <| gdE (a31.2.2.2.2.2.2.2.1.2.2.1 = a31.2.2.2.2.2.2.2.1.2.2.1) <| gdE (a31.2.2.2.2.2.2.2.1.2.2.2.1 = a31.2.2.2.2.2.2.2.1.2.2.2.1) <| gdE (v29.2.1 = v29.2.1) <| gdE (x1.2.1 = x1.2.1) <| gdE (a2.1.1 = a2.1.1) <| r33 ((Go.SL.w64 (v32.1.1 + 1), ()), ())))
 (gdE (x1.2.2.1 = x1.2.2.1) <| gdE (a31.1 = a31.1) <| gdE (a31.2.1 = a31.2.1) <| gdE (a31.2.2.1 = a31.2.2.1) <| gdE (a31.2.2.2.1 = a31.2.2.2.1) <| gdE (a31.2.2.2.2.1 = a31.2.2.2.2.1) <| gdE (a31.2.2.2.2.2.1.1 = a31.2.2.2.2.2.1.1) <| gdE (a31.2.2.2.2.2.1.2.1 = a31.2.2.2.2.2.1.2.1) <| gdE (a31.2.2.2.2.2.1.2.2.1 = a31.2.2.2.2.2.1.2.2.1) <| gdE (a31.2.2.2.2.2.1.2.2.2.1 = a31.2.2.2.2.2.1.2.2.2.1) <| gdE (a31.2.2.2.2.2.1.2.2.2.2.1 = a31.2.2.2.2.2.1.2.2.2.2.1) <| gdE (a31.2.2.2.2.2.1.2.2.2.2.2.1 = a31.2.2.2.2.2.1.2.2.2.2.2.1) <| gdE (a31.2.2.2.2.2.1.2.2.2.2.2.2.1 = a31.2.2.2.2.2.1.2.2.2.2.2.2.1) <| gdE (a31.2.2.2.2.2.2.1 = a31.2.2.2.2.2.2.1) <| gdE (a31.2.2.2.2.2.2.2.1.1 = a31.2.2.2.2.2.2.2.1.1) <| gdE (a31.2.2.2.2.2.2.2.1.2.1 = a31.2.2.2.2.2.2.2.1.2.1) <| gdE (a31.2.2.2.2.2.2.2.1.2.2.1 = a31.2.2.2.2.2.2.2.1.2.2.1) <| gdE (a31.2.2.2.2.2.2.2.1.2.2.2.1 = a31.2.2.2.2.2.2.2.1.2.2.2.1) <| gdE (v29.2.1 = v29.2.1) <| gdE (x1.2.1 = x1.2.1) <| gdE (a2.1.1 = a2.1.1) <| r33 ((Go.SL.w64 (v32.1.1 + 1), ()), ())))
 (br false
 (gd (few (List.length v29.2.1) (List.length (((v29.1.1, (5, ())) :: []) : List ((Int) × (Int) × Unit)))) <| gdE (x1.2.2.1 = x1.2.2.1) <| gdE (x1.2.1 = x1.2.1) <| gdE (a2.1.1 = a2.1.1) <| r30 ((Go.SL.w64 (v29.1.1 + 1), ()), ((v29.2.1 ++ ((v29.1.1, (5, ())) :: [])), ())))
 (gdE (x1.2.2.1 = x1.2.2.1) <| gdE (x1.2.1 = x1.2.1) <| gdE (a2.1.1 = a2.1.1) <| r30 ((Go.SL.w64 (v29.1.1 + 1), ()), (v29.2.1, ()))))) ((0, ()), ()))
 (gdE (x1.2.2.1 = x1.2.2.1) <| gdE (x1.2.1 = x1.2.1) <| gdE (a2.1.1 = a2.1.1) <| r30 ((Go.SL.w64 (v29.1.1 + 1), ()), (v29.2.1, ()))))
 (some ((v29.2.1, ()), ()))) ((0, ()), (v22.2.1, ())))) ((0, ()), (v14.2.1, ())))) ((0, ()), (v9.2.1, ())))) ((0, ()), (v3.2.1, ())))) ((0, ()), ([], ()))
noncomputable abbrev C26 : Con := ⟨[.b (.fz .u8), .b (.fz (.pair .int (.pair (.pair .int (.pair .int (.pair .int (.pair .int (.pair .int (.pair (.fz .u8) (.pair (.fz .u8) .unit))))))) (.pair (.pair .int (.pair .int (.pair .int (.pair (.fz .u8) .unit)))) .unit)))), .b (.fz (.pair .int (.pair .int (.pair .int (.pair .int (.pair .int (.pair (.pair .int (.pair .int (.pair .int (.pair .int (.pair .int (.pair (.fz .u8) (.pair (.fz .u8) .unit))))))) (.pair .bool (.pair (.pair .int (.pair .int (.pair .int (.pair (.fz .u8) .unit)))) .unit)))))))))], [(.fz (.pair .int (.pair .int .unit)))], F26⟩
noncomputable def F22 (x0 : Unit) (x1 : Unit) : Option (((Bool) × Unit) × Unit) :=
 bnd (F56 (1, (1, ())) ()) fun a2 => bnd (F56 (1, (2, ())) ()) fun a3 => bnd (F56 (5, (5, ())) ()) fun a4 => bnd (F26 () ([], (a2.1.1, (a2.1.2.1, ())))) fun a5 => bnd (F26 () ([], (a3.1.1, (a3.1.2.1, ())))) fun a6 => bnd (F26 () ([], (a4.1.1, ([], ())))) fun a7 => br ((Nat.cast (List.length a5.1.1) : Int) == 0)
 (br (cond true ((Nat.cast (List.length a6.1.1) : Int) == 1) false)
 (gd ((0 : Int) ≤ 0) <| bnd a6.1.1[0]? fun a8 => br (cond true (eqIL (a8.1 :: (a8.2.1 :: [])) (0 :: (3 :: []))) false)
 (br (cond true ((Nat.cast (List.length a7.1.1) : Int) == 1) false)
 (gd ((0 : Int) ≤ 0) <| bnd a7.1.1[0]? fun a9 => some ((cond true (eqIL (a9.1 :: (a9.2.1 :: [])) (0 :: (2 :: []))) false, ()), ()))
 (some ((false, ()), ())))
 (some ((false, ()), ())))
 (some ((false, ()), ())))
 (some ((false, ()), ()))
noncomputable abbrev C22 : Con := ⟨[], [.bool], F22⟩
noncomputable def F27 (x0 : (List (BitVec 8)) × Unit) (x1 : Unit) : Option (((List (BitVec 8)) × Unit) × Unit) :=
 br (decide ((Nat.cast (List.length x0.1) : Int) > 100))
 (gd ((0 : Int) ≤ 100) <| gd ((0 : Nat) ≤ 100) <| gd (100 ≤ (List.length x0.1)) <| some ((List.drop 0 (List.take 100 x0.1), ()), ()))
 (some ((x0.1, ()), ()))
noncomputable abbrev C27 : Con := ⟨[.v (.fz .u8)], [(.fz .u8)], F27⟩
noncomputable def F7 (x0 : (List (BitVec 8)) × (List ((Int) × (Int) × (Int) × (Int) × (Int) × ((Int) × (Int) × (Int) × (Int) × (Int) × (List (BitVec 8)) × (List (BitVec 8)) × Unit) × (Bool) × ((Int) × (Int) × (Int) × (List (BitVec 8)) × Unit) × Unit)) × Unit) (x1 : Unit) : Option (((Bool) × Unit) × Unit) :=
 bnd (F22 () ()) fun a2 => iter (fun (v3 : ((Int) × (List ((Int) × (Int) × (Int) × (Int) × (Int) × ((Int) × (Int) × (Int) × (Int) × (Int) × (List (BitVec 8)) × (List (BitVec 8)) × Unit) × (Bool) × ((Int) × (Int) × (Int) × (List (BitVec 8)) × Unit) × Unit)) × Unit) × Unit) => fun r4 => br (decide (v3.1.1 < (Nat.cast (List.length x0.2.1) : Int)))
 (br (cond true (decide (v3.1.1 < 20)) false)
 (gd (0 ≤ v3.1.1) <| bnd (x0.2.1[Int.toNat v3.1.1]?) fun a5 => gd (few (List.length v3.1.2.1) (List.length (((a5.1, (a5.2.1, (a5.2.2.1, (a5.2.2.2.1, (a5.2.2.2.2.1, (a5.2.2.2.2.2.1, (false, (a5.2.2.2.2.2.2.2.1, ())))))))) :: []) : List ((Int) × (Int) × (Int) × (Int) × (Int) × ((Int) × (Int) × (Int) × (Int) × (Int) × (List (BitVec 8)) × (List (BitVec 8)) × Unit) × (Bool) × ((Int) × (Int) × (Int) × (List (BitVec 8)) × Unit) × Unit)))) <| r4 ((Go.SL.w64 (v3.1.1 + 1), ((v3.1.2.1 ++ ((a5.1, (a5.2.1, (a5.2.2.1, (a5.2.2.2.1, (a5.2.2.2.2.1, (a5.2.2.2.2.2.1, (false, (a5.2.2.2.2.2.2.2.1, ())))))))) :: [])), ())), ()))
 (br a2.1.1
 (bnd (F27 (x0.1, ()) ()) fun a6 => bnd (F26 () (a6.1.1, ([], (v3.1.2.1, ())))) fun a7 => some ((cond true ((Nat.cast (List.length a7.1.1) : Int) == 0) false, ()), ()))
 (some ((false, ()), ()))))
 (br a2.1.1
 (bnd (F27 (x0.1, ()) ()) fun a8 => bnd (F26 () (a8.1.1, ([], (v3.1.2.1, ())))) fun a9 => some ((cond true ((Nat.cast (List.length a9.1.1) : Int) == 0) false, ()), ()))
 (some ((false, ()), ())))) ((0, ([], ())), ())
noncomputable abbrev C7 : Con := ⟨[.v (.fz .u8), .v (.fz (.pair .int (.pair .int (.pair .int (.pair .int (.pair .int (.pair (.pair .int (.pair .int (.pair .int (.pair .int (.pair .int (.pair (.fz .u8) (.pair (.fz .u8) .unit))))))) (.pair .bool (.pair (.pair .int (.pair .int (.pair .int (.pair (.fz .u8) .unit)))) .unit)))))))))], [.bool], F7⟩
noncomputable def F25 (x0 : Unit) (x1 : (List ((Int) × (Int) × Unit)) × (List ((Int) × (Int) × Unit)) × Unit) : Option (((Bool) × Unit) × Unit) :=
 br ((Nat.cast (List.length x1.1) : Int) != (Nat.cast (List.length x1.2.1) : Int))
 (some ((false, ()), ()))
 (iter (fun (v2 : ((Int) × Unit) × Unit) => fun r3 => br (decide (v2.1.1 < (Nat.cast (List.length x1.1) : Int)))
 (gd (0 ≤ v2.1.1) <| bnd (x1.1[Int.toNat v2.1.1]?) fun a4 => gd (0 ≤ v2.1.1) <| bnd (x1.2.1[Int.toNat v2.1.1]?) fun a5 => br (!(eqIL (a4.1 :: (a4.2.1 :: [])) (a5.1 :: (a5.2.1 :: []))))
 (some ((false, ()), ()))
 (r3 ((Go.SL.w64 (v2.1.1 + 1), ()), ())))
 (some ((true, ()), ()))) ((0, ()), ()))
noncomputable abbrev C25 : Con := ⟨[.b (.fz (.pair .int (.pair .int .unit))), .b (.fz (.pair .int (.pair .int .unit)))], [.bool], F25⟩
noncomputable def F6 (x0 : (Int) × (Int) × Unit) (x1 : Unit) : Option (((Bool) × Unit) × Unit) :=
 bnd (F22 () ()) fun a2 => jn (fun (v3 : ((Int) × Unit) × Unit) => jn (fun (v4 : ((Int) × Unit) × Unit) => gd ((9 : Int) ≠ 0) <| gd (Go.SL.w64 (Go.SL.w64 (2 + Int.tmod v3.1.1 9) - 1) ≠ 0) <| iter (fun (v5 : ((Int) × (List ((Int) × (Int) × (Int) × (Int) × (Int) × ((Int) × (Int) × (Int) × (Int) × (Int) × (List (BitVec 8)) × (List (BitVec 8)) × Unit) × (Bool) × ((Int) × (Int) × (Int) × (List (BitVec 8)) × Unit) × Unit)) × (List ((Int) × ((Int) × (Int) × (Int) × (Int) × (Int) × (List (BitVec 8)) × (List (BitVec 8)) × Unit) × ((Int) × (Int) × (Int) × (List (BitVec 8)) × Unit) × Unit)) × Unit) × Unit) => fun r6 => br (decide (v5.1.1 < Go.SL.w64 (2 + Int.tmod v3.1.1 9)))
 (gd (few (List.length v5.1.2.2.1) (List.length (((Go.SL.w64 (v5.1.1 + 1), ((2, (0, (0, (77, (0, ([], ([], ()))))))), ((150, (0, (0, ([], ())))), ()))) :: []) : List ((Int) × ((Int) × (Int) × (Int) × (Int) × (Int) × (List (BitVec 8)) × (List (BitVec 8)) × Unit) × ((Int) × (Int) × (Int) × (List (BitVec 8)) × Unit) × Unit)))) <| gd (few (List.length v5.1.2.1) (List.length (((v5.1.1, (0, (Go.SL.w64 (3 * v5.1.1), (Go.SL.w64 (Go.SL.w64 (3 * v5.1.1) + 1), (Go.SL.w64 (v5.1.1 + 1), ((2, (0, (0, (77, (0, ([], ([], ()))))))), (true, ((150, (0, (0, ([], ())))), ())))))))) :: []) : List ((Int) × (Int) × (Int) × (Int) × (Int) × ((Int) × (Int) × (Int) × (Int) × (Int) × (List (BitVec 8)) × (List (BitVec 8)) × Unit) × (Bool) × ((Int) × (Int) × (Int) × (List (BitVec 8)) × Unit) × Unit)))) <| gdE ((150 : Int) = 150) <| gdE ((0 : Int) = 0) <| gdE ((0 : Int) = 0) <| gdE ((2 : Int) = 2) <| gdE ((0 : Int) = 0) <| gdE ((0 : Int) = 0) <| gdE ((77 : Int) = 77) <| gdE ((0 : Int) = 0) <| r6 ((Go.SL.w64 (v5.1.1 + 1), ((v5.1.2.1 ++ ((v5.1.1, (0, (Go.SL.w64 (3 * v5.1.1), (Go.SL.w64 (Go.SL.w64 (3 * v5.1.1) + 1), (Go.SL.w64 (v5.1.1 + 1), ((2, (0, (0, (77, (0, ([], ([], ()))))))), (true, ((150, (0, (0, ([], ())))), ())))))))) :: [])), ((v5.1.2.2.1 ++ ((Go.SL.w64 (v5.1.1 + 1), ((2, (0, (0, (77, (0, ([], ([], ()))))))), ((150, (0, (0, ([], ())))), ()))) :: [])), ()))), ()))
 (bnd (F26 () ([], (v5.1.2.2.1, (v5.1.2.1, ())))) fun a7 => br ((Nat.cast (List.length a7.1.1) : Int) != 0)
 (some ((false, ()), ()))
 (gd (0 ≤ Go.SL.w64 (Int.tmod v4.1.1 (Go.SL.w64 (Go.SL.w64 (2 + Int.tmod v3.1.1 9) - 1)) + 1)) <| gd (Int.toNat (Go.SL.w64 (Int.tmod v4.1.1 (Go.SL.w64 (Go.SL.w64 (2 + Int.tmod v3.1.1 9) - 1)) + 1)) < (List.length v5.1.2.1)) <| bnd (v5.1.2.1[Int.toNat (Go.SL.w64 (Int.tmod v4.1.1 (Go.SL.w64 (Go.SL.w64 (2 + Int.tmod v3.1.1 9) - 1)) + 1))]?) fun a8 => gd (0 ≤ Int.tmod v4.1.1 (Go.SL.w64 (Go.SL.w64 (2 + Int.tmod v3.1.1 9) - 1))) <| gd (Int.toNat (Int.tmod v4.1.1 (Go.SL.w64 (Go.SL.w64 (2 + Int.tmod v3.1.1 9) - 1))) < (List.length v5.1.2.1)) <| bnd (v5.1.2.1[Int.toNat (Int.tmod v4.1.1 (Go.SL.w64 (Go.SL.w64 (2 + Int.tmod v3.1.1 9) - 1)))]?) fun a9 => gd (0 ≤ Int.tmod v4.1.1 (Go.SL.w64 (Go.SL.w64 (2 + Int.tmod v3.1.1 9) - 1))) <| gd (Int.toNat (Int.tmod v4.1.1 (Go.SL.w64 (Go.SL.w64 (2 + Int.tmod v3.1.1 9) - 1))) < (List.length v5.1.2.1)) <| bnd (v5.1.2.1[Int.toNat (Int.tmod v4.1.1 (Go.SL.w64 (Go.SL.w64 (2 + Int.tmod v3.1.1 9) - 1)))]?) fun a10 => gd (0 ≤ Go.SL.w64 (Int.tmod v4.1.1 (Go.SL.w64 (Go.SL.w64 (2 + Int.tmod v3.1.1 9) - 1)) + 1)) <| gd (Int.toNat (Go.SL.w64 (Int.tmod v4.1.1 (Go.SL.w64 (Go.SL.w64 (2 + Int.tmod v3.1.1 9) - 1)) + 1)) < (List.length (List.set v5.1.2.1 (Int.toNat (Int.tmod v4.1.1 (Go.SL.w64 (Go.SL.w64 (2 + Int.tmod v3.1.1 9) - 1)))) (a10.1, (a10.2.1, (a10.2.2.1, (a10.2.2.2.1, (a8.2.2.2.2.1, a10.2.2.2.2.2)))))))) <| bnd ((List.set v5.1.2.1 (Int.toNat (Int.tmod v4.1.1 (Go.SL.w64 (Go.SL.w64 (2 + Int.tmod v3.1.1 9) - 1)))) (a10.1, (a10.2.1, (a10.2.2.1, (a10.2.2.2.1, (a8.2.2.2.2.1, a10.2.2.2.2.2))))))[Int.toNat (Go.SL.w64 (Int.tmod v4.1.1 (Go.SL.w64 (Go.SL.w64 (2 + Int.tmod v3.1.1 9) - 1)) + 1))]?) fun a11 => bnd (F26 () ([], (v5.1.2.2.1, (List.set (List.set v5.1.2.1 (Int.toNat (Int.tmod v4.1.1 (Go.SL.w64 (Go.SL.w64 (2 + Int.tmod v3.1.1 9) - 1)))) (a10.1, (a10.2.1, (a10.2.2.1, (a10.2.2.2.1, (a8.2.2.2.2.1, a10.2.2.2.2.2)))))) (Int.toNat (Go.SL.w64 (Int.tmod v4.1.1 (Go.SL.w64 (Go.SL.w64 (2 + Int.tmod v3.1.1 9) - 1)) + 1))) (a11.1, (a11.2.1, (a11.2.2.1, (a11.2.2.2.1, (a9.2.2.2.2.1, a11.2.2.2.2.2))))), ())))) fun a12 => br a2.1.1
 (br (cond true ((Nat.cast (List.length a12.1.1) : Int) == 1) false)
 (gd ((0 : Int) ≤ 0) <| bnd a12.1.1[0]? fun a13 => some ((cond true (eqIL (a13.1 :: (a13.2.1 :: [])) (Int.tmod v4.1.1 (Go.SL.w64 (Go.SL.w64 (2 + Int.tmod v3.1.1 9) - 1)) :: (5 :: []))) false, ()), ()))
 (some ((false, ()), ())))
 (some ((false, ()), ()))))) ((0, ([], ([], ()))), ()))
 (fun j14 => br (decide (x0.2.1 < 0))
 (j14 ((Go.SL.w64 (0 - Go.SL.w64 (x0.2.1 + 1)), ()), ()))
 (j14 ((x0.2.1, ()), ()))))
 (fun j15 => br (decide (x0.1 < 0))
 (j15 ((Go.SL.w64 (0 - Go.SL.w64 (x0.1 + 1)), ()), ()))
 (j15 ((x0.1, ()), ())))
noncomputable abbrev C6 : Con := ⟨[.v .int, .v .int], [.bool], F6⟩
end Go.GX
