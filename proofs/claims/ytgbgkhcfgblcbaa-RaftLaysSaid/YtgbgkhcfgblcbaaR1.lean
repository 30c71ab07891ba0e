/- The tables of the seat. -/
import Derived.Test.YtgbgkhcfgblcbaaG7
import Derived.KernelRfl
import Derived.Test.YtgbgkhcfgblcbaaProg
set_option linter.unusedVariables false
set_option linter.unusedSimpArgs false
set_option linter.unnecessarySimpa false
namespace Go.GX
open Go.RowKit Go.SL Go.Proofs
set_option maxRecDepth 100000
def OVZ : Nat → Option Ty
  | 89 => some (.pair .int (.pair .int (.pair (.vec 54 (.pair .int (.pair .int (.pair (.fz .u8) (.pair (.fz .int) .unit))))) .unit)))
  | 42 => some (.pair (.pair .int (.pair .int .unit)) (.pair .bool (.pair (.pair .int (.pair .int (.pair (.fz .int) (.pair (.fz .u8) .unit)))) (.pair .int (.pair (.fz (.pair .int (.pair .int (.pair (.fz .u8) (.pair (.fz .int) .unit))))) (.pair (.vec 32 (.pair .int (.pair .int (.pair .int (.pair .int (.pair .int (.pair .int (.pair .int (.pair .bool (.pair (.fz (.pair .int (.pair .int (.pair (.fz .u8) (.pair (.fz .int) .unit))))) (.pair (.fz .int) (.pair (.fz .u8) .unit)))))))))))) .unit))))))
  | _ => none
noncomputable def TBL : TB := tbOf Try.prog OVZ [1, 2, 3, 4, 5, 6, 7, 8, 9, 10, 11, 12, 13, 14, 15, 16, 17, 18, 19, 20, 22, 23, 24, 25, 26, 27, 28, 29, 30, 31, 32, 33, 34, 35, 36, 37, 38, 39, 40, 41, 42, 43, 44, 45, 46, 47, 48, 49, 50, 52, 53, 54, 56, 57, 59, 60, 61, 62, 63, 64, 65, 66, 67, 68, 69, 70, 71, 72, 73, 74, 75, 76, 77, 78, 79, 81, 82, 84, 86, 87, 88, 89, 90, 91, 92, 93, 94, 95, 96, 97, 98, 99, 100, 101, 102, 104, 105, 106, 107, 109, 110, 112, 113, 114, 116, 117, 118, 119, 120, 121, 122, 123, 124, 125, 126, 127, 128, 129, 130, 131, 132, 133, 135, 136, 137, 138, 139, 140, 141, 142, 143, 144, 145, 146, 147, 148, 149, 150, 151, 152, 153, 154, 155, 156] []
theorem TBL_ok : TBL.ok Try.prog := tbOf_ok (by kernel_rfl)
end Go.GX
namespace Go.GX
open Go.RowKit Go.SL
set_option linter.unusedVariables false
variable {α β : Type}
/-- x is told, and is as Q says -/
def Tot (x : Option α) (Q : α → Prop) : Prop := ∃ r, x = some r ∧ Q r
theorem Tot.s {Q : α → Prop} {r : α} (h : Q r) : Tot (some r) Q := ⟨r, rfl, h⟩
theorem Tot.mono {x : Option α} {Q R : α → Prop} (h : Tot x Q) (g : ∀ a, Q a → R a) : Tot x R := by
  obtain ⟨a, ha, hq⟩ := h; exact ⟨a, ha, g a hq⟩
theorem Tot.bnd {x : Option α} {f : α → Option β} {Q : α → Prop} {R : β → Prop} (h : Tot x Q) (g : ∀ a, Q a → Tot (f a) R) : Tot (bnd x f) R := by
  obtain ⟨a, rfl, ha⟩ := h; rw [bnd_s]; exact g a ha
theorem Tot.gd {c : Prop} [Decidable c] {x : Option α} {R : α → Prop} (h : c) (g : Tot x R) : Tot (gd c x) R := by rw [gd_t h]; exact g
theorem Tot.gdE {c : α} {x : Option β} {R : β → Prop} (g : Tot x R) : Tot (gdE (c = c) x) R := by rw [gdE_rfl]; exact g
theorem Tot.br {c : Bool} {x y : Option α} {R : α → Prop} (g : c = true → Tot x R) (h : c = false → Tot y R) : Tot (br c x y) R := by
  cases c with
  | true => rw [br_t]; exact g rfl
  | false => rw [br_f]; exact h rfl
theorem Tot.brd {c : Prop} [Decidable c] {x y : Option α} {R : α → Prop} (g : c → Tot x R) (h : ¬ c → Tot y R) : Tot (GX.br (decide c) x y) R :=
  Tot.br (fun q => g (by simpa using q)) (fun q => h (by simpa using q))
theorem Tot.jn {j : α → Option β} {f : (α → Option β) → Option β} {R : β → Prop} (h : Tot (f j) R) : Tot (jn j f) R := by rw [jn_e]; exact h
theorem Tot.nlq {c : Bool} {x y : Option α} {R : α → Prop} (h : Tot y R) (g : c = true → x = y) : Tot (nlq c x y) R := by
  cases c with
  | false => rw [nlq_f]; exact h
  | true => rw [nlq_t, g rfl, bth_self]; exact h
theorem Tot.idx {l : List α} {k : Nat} {f : α → Option β} {R : β → Prop} (h : k < l.length) (g : ∀ a, l[k]? = some a → Tot (f a) R) : Tot (GX.bnd (l[k]?) f) R := by
  have : l[k]? = some l[k] := List.getElem?_eq_getElem h
  rw [this, bnd_s]; exact g _ this
theorem Tot.itn {f : α → (α → Option β) → Option β} {R : β → Prop} {I : Nat → α → Prop}
    (step : ∀ n a, I n a → ∀ k, (∀ m b, m < n → I m b → Tot (k b) R) → Tot (f a k) R) : ∀ (F n : Nat) (a : α), I n a → n < F → Tot (itn f F a) R := by
  intro F
  induction F with
  | zero => intro n a _ h; omega
  | succ F ih => intro n a h hn; exact step n a h _ fun m b hm hb => ih m b hb (by omega)
theorem Tot.iter {f : α → (α → Option β) → Option β} {R : β → Prop} (I : Nat → α → Prop) {a : α} (n : Nat) (h : I n a) (hn : n < 1099511627776)
    (step : ∀ n a, I n a → ∀ k, (∀ m b, m < n → I m b → Tot (k b) R) → Tot (f a k) R) : Tot (iter f a) R := by
  rw [iter_eq]
  exact Tot.itn step _ n a h (by unfold fuel; exact hn)
/-- a counted loop -/
theorem Tot.count {f : α → (α → Option β) → Option β} {R : β → Prop} (N : Nat) (I : Nat → α → Prop) {a : α} (h : I 0 a) (hn : N < 1099511627776)
    (step : ∀ i a, i ≤ N → I i a → ∀ k, (i < N → ∀ b, I (i + 1) b → Tot (k b) R) → Tot (f a k) R) : Tot (GX.iter f a) R := by
  refine Tot.iter (fun n a => n ≤ N ∧ I (N - n) a) N ⟨Nat.le_refl _, by rw [Nat.sub_self]; exact h⟩ hn ?_
  rintro n a ⟨hle, hI⟩ k hk
  refine step (N - n) a (by omega) hI k fun hlt b hb => ?_
  have : N - (n - 1) = N - n + 1 := by omega
  exact hk (n - 1) b (by omega) ⟨by omega, by rw [this]; exact hb⟩
theorem Tot.eq {x : Option α} {r : α} (h : x = some r) : Tot x (fun a => a = r) := ⟨r, h, rfl⟩
theorem Tot.get {x : Option α} {r : α} (h : Tot x (fun a => a = r)) : x = some r := by obtain ⟨a, h, rfl⟩ := h; exact h
end Go.GX
