/- Numbers as bytes, plainly. -/
import Derived.Test.YtjpjejldinpcnaaYT
namespace Go.SL
set_option linter.unusedVariables false
set_option linter.unusedSimpArgs false
/-- how many bytes a number needs -/
def SzOk (v k : Nat) : Prop := v < 256 ^ k ∧ (k = 0 ∨ 256 ^ (k - 1) ≤ v)
theorem SzOk.uniq {v k j : Nat} (h : SzOk v k) (g : SzOk v j) : k = j := by
  rcases Nat.lt_trichotomy k j with h1 | h1 | h1
  · rcases g.2 with h2 | h2
    · omega
    · have := Nat.pow_le_pow_right (n := 256) (by decide) (show k ≤ j - 1 by omega)
      have := h.1; omega
  · exact h1
  · rcases h.2 with h2 | h2
    · omega
    · have := Nat.pow_le_pow_right (n := 256) (by decide) (show j ≤ k - 1 by omega)
      have := g.1; omega
/-- the last k bytes of a number, the greatest first -/
def be : Nat → Nat → List (BitVec 8)
  | 0, _ => []
  | k + 1, v => BitVec.ofNat 8 (v / 256 ^ k) :: be k v
theorem be_len : ∀ k v, (be k v).length = k
  | 0, _ => rfl
  | k + 1, v => by simp [be, be_len k v]
/-- the number that bytes are -/
def beNat (l : List (BitVec 8)) : Nat := l.foldl (fun a x => a * 256 + x.toNat) 0
theorem beFold (l : List (BitVec 8)) : ∀ a, l.foldl (fun a x => a * 256 + x.toNat) a = a * 256 ^ l.length + beNat l := by
  unfold beNat
  induction l with
  | nil => intro a; simp
  | cons x l ih =>
    intro a
    rw [List.foldl_cons, ih, List.foldl_cons, ih (0 * 256 + x.toNat), List.length_cons, Nat.pow_succ]
    rw [Nat.add_mul, Nat.mul_assoc, Nat.mul_comm 256, Nat.zero_mul, Nat.zero_add]; omega
theorem beNat_cons (x : BitVec 8) (l : List (BitVec 8)) : beNat (x :: l) = x.toNat * 256 ^ l.length + beNat l := by
  show (x :: l).foldl _ 0 = _
  rw [List.foldl_cons, beFold]; simp
theorem beNat_snoc (l : List (BitVec 8)) (x : BitVec 8) : beNat (l ++ [x]) = beNat l * 256 + x.toNat := by
  unfold beNat; rw [List.foldl_append]; rfl
theorem beNat_lt (l : List (BitVec 8)) : beNat l < 256 ^ l.length := by
  induction l with
  | nil => simp [beNat]
  | cons x l ih =>
    rw [beNat_cons, List.length_cons, Nat.pow_succ]
    have := x.isLt
    have h2 : x.toNat * 256 ^ l.length ≤ 255 * 256 ^ l.length := Nat.mul_le_mul_right _ (by omega)
    omega
theorem be_nat (k v : Nat) : beNat (be k v) = v % 256 ^ k := by
  induction k with
  | zero => simp [be, beNat, Nat.mod_one]
  | succ k ih =>
    have e : v % 256 ^ (k + 1) = v % 256 ^ k + 256 ^ k * (v / 256 ^ k % 256) := by rw [Nat.pow_succ, Nat.mod_mul]
    rw [be, beNat_cons, be_len, ih, BitVec.toNat_ofNat, e, Nat.mul_comm]
    show 256 ^ k * (v / 256 ^ k % 256) + v % 256 ^ k = _
    omega
theorem ofNat_toInt (V : Nat) : (BitVec.ofNat 64 V).toInt = if 2 * (V % 18446744073709551616) < 18446744073709551616 then ((V % 18446744073709551616 : Nat) : Int) else ((V % 18446744073709551616 : Nat) : Int) - 18446744073709551616 := by
  rw [BitVec.toInt_eq_toNat_cond, BitVec.toNat_ofNat]; rfl
theorem w64_mod (z : Int) : w64 z % 18446744073709551616 = z % 18446744073709551616 := by
  simp [w64, IntKind.wrap, IntKind.bits, IntKind.signed]; omega
theorem ior_step (V : Nat) (x : BitVec 8) : ior64 (ishl64 ((BitVec.ofNat 64 V).toInt) 8) ((x.toNat : Nat) : Int) = (BitVec.ofNat 64 (V * 256 + x.toNat)).toInt := by
  unfold ior64; congr 1
  have h1 : BitVec.ofInt 64 (ishl64 ((BitVec.ofNat 64 V).toInt) 8) = BitVec.ofNat 64 (V * 256) := by
    apply BitVec.eq_of_toNat_eq
    rw [BitVec.toNat_ofInt, BitVec.toNat_ofNat]
    show ((w64 ((BitVec.ofNat 64 V).toInt * 256)) % 18446744073709551616).toNat = _ % 18446744073709551616
    rw [w64_mod, ofNat_toInt]
    split <;> omega
  rw [h1]
  apply BitVec.eq_of_toNat_eq
  have hx := x.isLt
  rw [BitVec.toNat_or, BitVec.toNat_ofNat, BitVec.toNat_ofNat, BitVec.toNat_ofInt]
  have h2 : (((x.toNat : Nat) : Int) % ((2 ^ 64 : Nat) : Int)).toNat = x.toNat := by
    show (((x.toNat : Nat) : Int) % 18446744073709551616).toNat = _
    omega
  rw [h2]
  have h3 : V * 256 % 2 ^ 64 = 2 ^ 8 * (V % 2 ^ 56) := by
    show V * 256 % 18446744073709551616 = 256 * (V % 72057594037927936); omega
  rw [h3, ← Nat.two_pow_add_eq_or_of_lt (by show x.toNat < 256; omega)]
  show 256 * (V % 72057594037927936) + x.toNat = (V * 256 + x.toNat) % 18446744073709551616
  omega
theorem ishr_nat (v j : Nat) (hj : j ≤ 8) : ishr64 ((v : Nat) : Int) (8 * j) = ((v / 256 ^ j : Nat) : Int) := by
  unfold ishr64
  rw [Nat.min_eq_left (by omega), Int.fdiv_eq_ediv_of_nonneg _ (by exact_mod_cast Nat.zero_le _)]
  rw [show (256 : Nat) = 2 ^ 8 from rfl, ← Nat.pow_mul]
  rw [Int.natCast_ediv]; norm_cast
/-- bits.Len -/
def BLen (x L : Nat) : Prop := x < 2 ^ L ∧ (L = 0 ∨ 2 ^ (L - 1) ≤ x)
theorem BLen.sz {x L : Nat} (h : BLen x L) : SzOk x ((L + 7) / 8) := by
  have hp : ∀ m, (256 : Nat) ^ m = 2 ^ (8 * m) := fun m => by rw [show (256 : Nat) = 2 ^ 8 from rfl, ← Nat.pow_mul]
  refine ⟨?_, ?_⟩
  · rw [hp]
    exact Nat.lt_of_lt_of_le h.1 (Nat.pow_le_pow_right (by decide) (by omega))
  · rcases h.2 with h1 | h1
    · left; omega
    · by_cases hL : L = 0
      · left; omega
      · right; rw [hp]
        exact Nat.le_trans (Nat.pow_le_pow_right (by decide) (by omega)) h1
theorem BLen.up {x s t : Nat} (h : BLen (x / 2 ^ s) t) (h0 : s = 0 ∨ 0 < x / 2 ^ s) : BLen x (s + t) := by
  have hs : 0 < 2 ^ s := Nat.pow_pos (by decide)
  refine ⟨?_, ?_⟩
  · rw [Nat.pow_add, Nat.mul_comm]
    exact (Nat.div_lt_iff_lt_mul hs).1 h.1
  · rcases h.2 with h1 | h1
    · rcases h0 with h2 | h2
      · left; omega
      · exfalso; have := h.1; rw [h1] at this; omega
    · by_cases ht : t = 0
      · rcases h0 with h2 | h2
        · left; omega
        · exfalso; have := h.1; rw [ht] at this; omega
      · right
        rw [show s + t - 1 = (t - 1) + s by omega, Nat.pow_add]
        exact (Nat.le_div_iff_mul_le hs).1 h1
/-- what Take tells -/
def takeN (b : List (BitVec 8)) : Int × List (BitVec 8) × Int := match b with
  | [] => (0, [], 3)
  | c :: r => if 8 < c.toNat then (0, [], 80) else if r.length < c.toNat then (0, [], 3) else
    if 9223372036854775808 ≤ beNat (r.take c.toNat) ∨ (0 < c.toNat ∧ beNat (r.take c.toNat) < 256 ^ (c.toNat - 1)) then (0, [], 80) else (((beNat (r.take c.toNat) : Nat) : Int), r.drop c.toNat, 0)
theorem pw8 {k : Nat} (h : k ≤ 8) : 256 ^ k ≤ 18446744073709551616 := Nat.pow_le_pow_right (n := 256) (by decide) h
theorem takeN_put (v k : Nat) (hv : v < 9223372036854775808) (hk : SzOk v k) (hk8 : k ≤ 8) (rest : List (BitVec 8)) : takeN (BitVec.ofNat 8 k :: (be k v ++ rest)) = ((v : Int), rest, 0) := by
  have hc : (BitVec.ofNat 8 k).toNat = k := by rw [BitVec.toNat_ofNat]; omega
  unfold takeN
  simp only [hc]
  rw [if_neg (by omega), if_neg (by rw [List.length_append, be_len]; omega)]
  have ht : (be k v ++ rest).take k = be k v := by rw [List.take_append_of_le_length (by rw [be_len]; omega), List.take_of_length_le (by rw [be_len]; omega)]
  have hd : (be k v ++ rest).drop k = rest := by rw [List.drop_append_of_le_length (by rw [be_len]; omega), List.drop_of_length_le (by rw [be_len]; omega)]; rfl
  rw [ht, hd, be_nat, Nat.mod_eq_of_lt hk.1, if_neg]
  rintro (h | ⟨h1, h2⟩)
  · omega
  · rcases hk.2 with h3 | h3 <;> omega
end Go.SL
