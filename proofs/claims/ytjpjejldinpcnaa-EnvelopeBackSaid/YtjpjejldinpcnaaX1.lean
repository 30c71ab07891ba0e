/- Functions that were walked through by a program: what each comes to, as a plain function, and the proof. -/
import Derived.Test.YtjpjejldinpcnaaProg
import Derived.Test.YtjpjejldinpcnaaAW
import Derived.Test.YtjpjejldinpcnaaX0
namespace Go.Proofs.Ytjpjejldinpcnaa
open Go.RowKit Go.SL
attribute [local irreducible] Go.SL.RW Go.SL.CW Go.SL.RD Go.SL.Hd Go.SL.St
set_option linter.unusedVariables false
set_option linter.unusedSimpArgs false
set_option maxRecDepth 20000
set_option maxHeartbeats 4000000

theorem mixed : Try.prog.follows .mixedOrders = true := by kernel_rfl
theorem nm104 : (Try.f104.name == "runtime.NumGoroutine") = false := by kernel_rfl
theorem nm118 : (Try.f118.name == "runtime.NumGoroutine") = false := by kernel_rfl
theorem nm119 : (Try.f119.name == "runtime.NumGoroutine") = false := by kernel_rfl
theorem nm120 : (Try.f120.name == "runtime.NumGoroutine") = false := by kernel_rfl
theorem nm121 : (Try.f121.name == "runtime.NumGoroutine") = false := by kernel_rfl
theorem sz5 : (Try.prog.info? 5).map (·.size) = some 1 := by kernel_rfl
theorem sz119 : (Try.prog.info? 119).map (·.size) = some 16 := by kernel_rfl
theorem sz156 : (Try.prog.info? 156).map (·.size) = some 4 := by kernel_rfl
theorem zs119 : (Try.prog.info? 119).bind (·.zero) = some (.agg (((List.replicate 16 0#8).map bu8)).toArray) := by kernel_rfl
theorem zs156 : (Try.prog.info? 156).bind (·.zero) = some (.agg (((List.replicate 4 0#8).map bu8)).toArray) := by kernel_rfl
def str1 : List (BitVec 8) := [99#8, 124#8, 119#8, 123#8, 242#8, 107#8, 111#8, 197#8, 48#8, 1#8, 103#8, 43#8, 254#8, 215#8, 171#8, 118#8, 202#8, 130#8, 201#8, 125#8, 250#8, 89#8, 71#8, 240#8, 173#8, 212#8, 162#8, 175#8, 156#8, 164#8, 114#8, 192#8, 183#8, 253#8, 147#8, 38#8, 54#8, 63#8, 247#8, 204#8, 52#8, 165#8, 229#8, 241#8, 113#8, 216#8, 49#8, 21#8, 4#8, 199#8, 35#8, 195#8, 24#8, 150#8, 5#8, 154#8, 7#8, 18#8, 128#8, 226#8, 235#8, 39#8, 178#8, 117#8, 9#8, 131#8, 44#8, 26#8, 27#8, 110#8, 90#8, 160#8, 82#8, 59#8, 214#8, 179#8, 41#8, 227#8, 47#8, 132#8, 83#8, 209#8, 0#8, 237#8, 32#8, 252#8, 177#8, 91#8, 106#8, 203#8, 190#8, 57#8, 74#8, 76#8, 88#8, 207#8, 208#8, 239#8, 170#8, 251#8, 67#8, 77#8, 51#8, 133#8, 69#8, 249#8, 2#8, 127#8, 80#8, 60#8, 159#8, 168#8, 81#8, 163#8, 64#8, 143#8, 146#8, 157#8, 56#8, 245#8, 188#8, 182#8, 218#8, 33#8, 16#8, 255#8, 243#8, 210#8, 205#8, 12#8, 19#8, 236#8, 95#8, 151#8, 68#8, 23#8, 196#8, 167#8, 126#8, 61#8, 100#8, 93#8, 25#8, 115#8, 96#8, 129#8, 79#8, 220#8, 34#8, 42#8, 144#8, 136#8, 70#8, 238#8, 184#8, 20#8, 222#8, 94#8, 11#8, 219#8, 224#8, 50#8, 58#8, 10#8, 73#8, 6#8, 36#8, 92#8, 194#8, 211#8, 172#8, 98#8, 145#8, 149#8, 228#8, 121#8, 231#8, 200#8, 55#8, 109#8, 141#8, 213#8, 78#8, 169#8, 108#8, 86#8, 244#8, 234#8, 101#8, 122#8, 174#8, 8#8, 186#8, 120#8, 37#8, 46#8, 28#8, 166#8, 180#8, 198#8, 232#8, 221#8, 116#8, 31#8, 75#8, 189#8, 139#8, 138#8, 112#8, 62#8, 181#8, 102#8, 72#8, 3#8, 246#8, 14#8, 97#8, 53#8, 87#8, 185#8, 134#8, 193#8, 29#8, 158#8, 225#8, 248#8, 152#8, 17#8, 105#8, 217#8, 142#8, 148#8, 155#8, 30#8, 135#8, 233#8, 206#8, 85#8, 40#8, 223#8, 140#8, 161#8, 137#8, 13#8, 191#8, 230#8, 66#8, 104#8, 65#8, 153#8, 45#8, 15#8, 176#8, 84#8, 187#8, 22#8]
theorem str1_len : str1.length = 256 := by kernel_rfl
theorem str1_eq : ((⟨#[99, 124, 119, 123, 242, 107, 111, 197, 48, 1, 103, 43, 254, 215, 171, 118, 202, 130, 201, 125, 250, 89, 71, 240, 173, 212, 162, 175, 156, 164, 114, 192, 183, 253, 147, 38, 54, 63, 247, 204, 52, 165, 229, 241, 113, 216, 49, 21, 4, 199, 35, 195, 24, 150, 5, 154, 7, 18, 128, 226, 235, 39, 178, 117, 9, 131, 44, 26, 27, 110, 90, 160, 82, 59, 214, 179, 41, 227, 47, 132, 83, 209, 0, 237, 32, 252, 177, 91, 106, 203, 190, 57, 74, 76, 88, 207, 208, 239, 170, 251, 67, 77, 51, 133, 69, 249, 2, 127, 80, 60, 159, 168, 81, 163, 64, 143, 146, 157, 56, 245, 188, 182, 218, 33, 16, 255, 243, 210, 205, 12, 19, 236, 95, 151, 68, 23, 196, 167, 126, 61, 100, 93, 25, 115, 96, 129, 79, 220, 34, 42, 144, 136, 70, 238, 184, 20, 222, 94, 11, 219, 224, 50, 58, 10, 73, 6, 36, 92, 194, 211, 172, 98, 145, 149, 228, 121, 231, 200, 55, 109, 141, 213, 78, 169, 108, 86, 244, 234, 101, 122, 174, 8, 186, 120, 37, 46, 28, 166, 180, 198, 232, 221, 116, 31, 75, 189, 139, 138, 112, 62, 181, 102, 72, 3, 246, 14, 97, 53, 87, 185, 134, 193, 29, 158, 225, 248, 152, 17, 105, 217, 142, 148, 155, 30, 135, 233, 206, 85, 40, 223, 140, 161, 137, 13, 191, 230, 66, 104, 65, 153, 45, 15, 176, 84, 187, 22]⟩ : ByteArray).data.toList.map UInt8.toBitVec) = str1 := by kernel_rfl

def Times2 (a : BitVec 8) : Option (BitVec 8) :=
  some ((a <<< 1) ^^^ ((27#8) &&& (-(a >>> 7))))
theorem Times2_C {p : Pers} {w : World} {R : List Assn}  (a : BitVec 8) (r : BitVec 8) (hF : Times2 a = some r) (hst : St p w (R)) :
    Calls Try.prog 104 #[.int .u8 ((a).toNat : Int)] w fun e w => e = .returned (.int .u8 ((r).toNat : Int)) ∧ St p w (R) := by
  unfold Times2 at hF
  refine enter Try.func104 rfl (by simp) (n := 10) rfl fun τ hτ => ?_
  have hs0 : τ 0 = .int .u8 ((a).toNat : Int) := hτ 0 (by simp)
  clear hτ
  refine CW.seq ?_
  refine CW.region ?_
  refine RW.soft Wd.a (v := .int .u8 ((0#8).toNat : Int)) (by exact E.assign rfl) ?_
  refine RW.fin (fun τ => τ 0 = .int .u8 ((a).toNat : Int) ∧ τ 2 = .int .u8 ((0#8).toNat : Int)) ⟨up rfl hs0, tp⟩ ?_
  rintro τ ⟨hs0, hs2⟩
  refine CW.seq ?_
  refine CW.region ?_
  refine RW.soft Wd.a (v := .int .u8 ((a).toNat : Int)) (by exact E.move (AF_ev rfl hs0)) ?_
  refine RW.soft Wd.a (v := .int .u8 ((a <<< 1).toNat : Int)) (by exact E.ushl (a := a) (j := 1) UK.u8 (AF_ev rfl tp) rfl rfl) ?_
  refine RW.soft Wd.a (v := .int .u8 ((a).toNat : Int)) (by exact E.move (AF_ev rfl (up rfl (up rfl hs0)))) ?_
  refine RW.soft Wd.a (v := .int .u8 ((a >>> 7).toNat : Int)) (by exact E.ushr (a := a) (j := 7) UK.u8 (AF_ev rfl tp) rfl rfl) ?_
  refine RW.soft Wd.a (v := .int .u8 ((-(a >>> 7)).toNat : Int)) (by exact E.uneg (a := a >>> 7) UK.u8 (AF_ev rfl tp)) ?_
  refine RW.soft Wd.a (v := .int .u8 (((27#8) &&& (-(a >>> 7))).toNat : Int)) (by exact E.uand (a := 27#8) (b := -(a >>> 7)) UK.u8 rfl (AF_ev rfl tp)) ?_
  refine RW.soft Wd.a (v := .int .u8 (((a <<< 1) ^^^ ((27#8) &&& (-(a >>> 7)))).toNat : Int)) (by exact E.uxor (a := a <<< 1) (b := (27#8) &&& (-(a >>> 7))) UK.u8 (AF_ev rfl (up rfl (up rfl (up rfl (up rfl tp))))) (AF_ev rfl tp)) ?_
  refine RW.soft Wd.a (v := .int .u8 (((a <<< 1) ^^^ ((27#8) &&& (-(a >>> 7)))).toNat : Int)) (by exact E.assign (AF_ev rfl tp)) ?_
  refine RW.fin (fun τ => τ 0 = .int .u8 ((a).toNat : Int) ∧ τ 2 = .int .u8 (((a <<< 1) ^^^ ((27#8) &&& (-(a >>> 7)))).toNat : Int)) ⟨up rfl (up rfl (up rfl (up rfl (up rfl (up rfl (up rfl (up rfl hs0))))))), tp⟩ ?_
  rintro τ ⟨hs0, hs2⟩
  refine CW.ret ?_
  refine ret1 (v := .int .u8 (((a <<< 1) ^^^ ((27#8) &&& (-(a >>> 7)))).toNat : Int)) rfl (by exact (.tmp (AF_ev rfl hs2) .nil)) ?_
  rw [somE hF]
  exact ⟨rfl, hst⟩

def Box (a : BitVec 8) : Option (BitVec 8) :=
  some (str1.getD a.toNat 0#8)
theorem Box_C {p : Pers} {w : World} {R : List Assn}  (a : BitVec 8) (r : BitVec 8) (hF : Box a = some r) (hst : St p w (R)) :
    Calls Try.prog 118 #[.int .u8 ((a).toNat : Int)] w fun e w => e = .returned (.int .u8 ((r).toNat : Int)) ∧ St p w (R) := by
  unfold Box at hF
  refine enter Try.func118 rfl (by simp) (n := 5) rfl fun τ hτ => ?_
  have hs0 : τ 0 = .int .u8 ((a).toNat : Int) := hτ 0 (by simp)
  clear hτ
  refine CW.seq ?_
  refine CW.region ?_
  refine RW.soft Wd.a (v := .int .u8 ((0#8).toNat : Int)) (by exact E.assign rfl) ?_
  refine RW.fin (fun τ => τ 0 = .int .u8 ((a).toNat : Int) ∧ τ 2 = .int .u8 ((0#8).toNat : Int)) ⟨up rfl hs0, tp⟩ ?_
  rintro τ ⟨hs0, hs2⟩
  refine CW.seq ?_
  refine CW.region ?_
  refine RW.soft Wd.a (v := .int .u8 ((a).toNat : Int)) (by exact E.move (AF_ev rfl hs0)) ?_
  refine RW.soft Wd.a (v := .int .u8 ((str1.getD a.toNat 0#8).toNat : Int)) (by exact E.indexStr (l := str1) (j := a.toNat) Try.underlying9 rfl str1_eq (AF_ev rfl tp) rfl (by rw [str1_len]; have := BitVec.isLt a; omega)) ?_
  refine RW.soft Wd.a (v := .int .u8 ((str1.getD a.toNat 0#8).toNat : Int)) (by exact E.assign (AF_ev rfl tp)) ?_
  refine RW.fin (fun τ => τ 0 = .int .u8 ((a).toNat : Int) ∧ τ 2 = .int .u8 ((str1.getD a.toNat 0#8).toNat : Int)) ⟨up rfl (up rfl (up rfl hs0)), tp⟩ ?_
  rintro τ ⟨hs0, hs2⟩
  refine CW.ret ?_
  refine ret1 (v := .int .u8 ((str1.getD a.toNat 0#8).toNat : Int)) rfl (by exact (.tmp (AF_ev rfl hs2) .nil)) ?_
  rw [somE hF]
  exact ⟨rfl, hst⟩

def BXor_l1 (b : List (BitVec 8))  : Nat → Nat → List (BitVec 8) → Option (List (BitVec 8))
  | 0, _, _ => none
  | k8 + 1, i5, m6 =>
    bif decide (((i5 : Nat) : Int) < 16) then
      lt_ (m6.set i5 ((m6.getD i5 0#8) ^^^ (b.getD i5 0#8))) fun m10 =>
      BXor_l1 b k8 (i5 + 1) m10
    else
      some (m6)
theorem BXor_l1_pos {b : List (BitVec 8)}  {fu_ : Nat} {i5 : Nat} {m6 : List (BitVec 8)} {r : List (BitVec 8)} (h : BXor_l1 b fu_ i5 m6 = some r) : ∃ j, fu_ = j + 1 := by
  cases fu_ with
  | zero => cases (show (none : Option (List (BitVec 8))) = some r from h)
  | succ j => exact ⟨j, rfl⟩
def BXor (a : List (BitVec 8)) (b : List (BitVec 8)) : Option (List (BitVec 8)) :=
  BXor_l1 b 1099511627776 0 a
theorem BXor_C {p : Pers} {w : World} {R : List Assn}  (a : List (BitVec 8)) (hl_a : a.length = 16) (b : List (BitVec 8)) (hl_b : b.length = 16) (r : List (BitVec 8)) (hF : BXor a b = some r) (hst : St p w (R)) :
    Calls Try.prog 89 #[.agg ((a.map bu8)).toArray, .agg ((b.map bu8)).toArray] w fun e w => e = .returned (.agg ((r.map bu8)).toArray) ∧ r.length = 16 ∧ St p w (R) := by
  unfold BXor at hF
  refine enter Try.func89 rfl (by simp) (n := 19) rfl fun τ hτ => ?_
  have hs0 : τ 0 = .agg ((a.map bu8)).toArray := hτ 0 (by simp)
  have hs1 : τ 1 = .agg ((b.map bu8)).toArray := hτ 1 (by simp)
  clear hτ
  refine CW.seq ?_
  refine CW.region ?_
  refine RW.hard Wd.a ?_
  refine H.box (v := .agg ((a.map bu8)).toArray) (AF_ev rfl hs0) hst fun b1 w hst => ?_
  refine RW.hard Wd.a ?_
  refine H.box (v := .agg ((b.map bu8)).toArray) (AF_ev rfl (up rfl hs1)) hst fun b2 w hst => ?_
  refine RW.hard Wd.a ?_
  refine H.alloc zs119 hst fun b3 w hst => ?_
  refine RW.fin (fun τ => τ 0 = .agg ((a.map bu8)).toArray ∧ τ 1 = .agg ((b.map bu8)).toArray ∧ τ 2 = .pointer (some ⟨b1, 0, none⟩) ∧ τ 3 = .pointer (some ⟨b2, 0, none⟩) ∧ τ 4 = .pointer (some ⟨b3, 0, none⟩)) ⟨up rfl (up rfl (up rfl hs0)), up rfl (up rfl (up rfl hs1)), up rfl (up rfl tp), up rfl tp, tp⟩ ?_
  rintro τ ⟨hs0, hs1, hs2, hs3, hs4⟩
  refine CW.seq ?_
  refine CW.seq ?_
  refine CW.region ?_
  refine RW.soft Wd.a (v := .int .i64 0) (by exact E.move rfl) ?_
  refine RW.fin (fun τ => τ 0 = .agg ((a.map bu8)).toArray ∧ τ 1 = .agg ((b.map bu8)).toArray ∧ τ 2 = .pointer (some ⟨b1, 0, none⟩) ∧ τ 3 = .pointer (some ⟨b2, 0, none⟩) ∧ τ 4 = .pointer (some ⟨b3, 0, none⟩) ∧ τ 6 = .int .i64 0) ⟨up rfl hs0, up rfl hs1, up rfl hs2, up rfl hs3, up rfl hs4, tp⟩ ?_
  rintro τ ⟨hs0, hs1, hs2, hs3, hs4, hs6⟩
  refine CW.block ?_
  refine CW.loop (fun (k7 : Nat) (τ : Fr) (w : World) => ∃ (i5 : Nat) (m6 : List (BitVec 8)), m6.length = 16 ∧ BXor_l1 b k7 i5 m6 = some r ∧ τ 6 = .int .i64 ((i5 : Nat) : Int) ∧ τ 2 = .pointer (some ⟨b1, 0, none⟩) ∧ τ 3 = .pointer (some ⟨b2, 0, none⟩) ∧ τ 4 = .pointer (some ⟨b3, 0, none⟩) ∧ St p w (pt b3 (.cells (((List.replicate 16 0#8).map bu8)).toArray 119) :: pt b2 (.cells ((b.map bu8)).toArray 119) :: pt b1 (.cells ((m6.map bu8)).toArray 119) :: R)) 1099511627776 ?_ ?_
  · skip
    have hst := hst.take (.there (.there .here))
    have hst := hst.take (.there (.there .here))
    have hst := hst.take (.there (.there .here))
    exact ⟨0, a, hl_a, hF, (int_eq (a := 0) hs6 (by omega)), hs2, hs3, hs4, hst⟩
  clear hst hF
  rintro k7 τ w ⟨i5, m6, hl_m6, hF, hs6, hs2, hs3, hs4, hst⟩
  obtain ⟨k8, rfl⟩ := BXor_l1_pos hF
  rw [BXor_l1] at hF
  refine CW.seq ?_
  refine CW.region ?_
  refine RW.soft Wd.a (v := .bool (decide (((i5 : Nat) : Int) < 16))) (by exact E.lss (k := .i64) (a := ((i5 : Nat) : Int)) (b := 16) (AF_ev rfl hs6) rfl) ?_
  refine RW.fin (fun τ => τ 2 = .pointer (some ⟨b1, 0, none⟩) ∧ τ 3 = .pointer (some ⟨b2, 0, none⟩) ∧ τ 4 = .pointer (some ⟨b3, 0, none⟩) ∧ τ 6 = .int .i64 ((i5 : Nat) : Int) ∧ τ 7 = .bool (decide (((i5 : Nat) : Int) < 16))) ⟨up rfl hs2, up rfl hs3, up rfl hs4, up rfl hs6, tp⟩ ?_
  rintro τ ⟨hs2, hs3, hs4, hs6, hs7⟩
  refine CW.seq ?_
  refine CW.cond (AF_ev rfl hs7) (fun hc9 => ?_) (fun hc9 => ?_)
  · have hF := ct hc9 hF
    have hc9_ := hc9
    try simp only [decide_eq_true_eq] at hc9_
    refine CW.skip ?_
    refine Th.n ?_
    refine CW.seq ?_
    refine CW.block ?_
    refine CW.seq ?_
    refine CW.region ?_
    refine RW.soft Wd.a (v := .int .i64 ((i5 : Nat) : Int)) (by exact E.move (AF_ev rfl hs6)) ?_
    refine RW.soft Wd.a (v := .int .i64 ((i5 : Nat) : Int)) (by exact E.assign (AF_ev rfl tp)) ?_
    refine RW.fin (fun τ => τ 2 = .pointer (some ⟨b1, 0, none⟩) ∧ τ 3 = .pointer (some ⟨b2, 0, none⟩) ∧ τ 4 = .pointer (some ⟨b3, 0, none⟩) ∧ τ 5 = .int .i64 ((i5 : Nat) : Int) ∧ τ 6 = .int .i64 ((i5 : Nat) : Int) ∧ τ 7 = .bool true) ⟨up rfl (up rfl hs2), up rfl (up rfl hs3), up rfl (up rfl hs4), tp, up rfl (up rfl hs6), up rfl (up rfl (Eq.trans hs7 (congrArg Value.bool hc9)))⟩ ?_
    rintro τ ⟨hs2, hs3, hs4, hs5, hs6, hs7⟩
    obtain ⟨m10, h_m10, hF⟩ := lp hF
    have hl_m10 : m10.length = 16 := by rw [h_m10, List.length_set]; exact hl_m6
    refine CW.regionE [2, 5] (fun w => w.cell? ⟨b1, i5, none⟩ = some (.int .u8 ((m6.getD i5 0#8).toNat : Int)) ∧ w.cell? ⟨b2, i5, none⟩ = some (.int .u8 ((b.getD i5 0#8).toNat : Int))) mixed ?_
    have hst := hst.drew
    generalize w.drew = w at hst ⊢
    have hS : w.cell? ⟨b1, i5, none⟩ = some (.int .u8 ((m6.getD i5 0#8).toNat : Int)) ∧ w.cell? ⟨b2, i5, none⟩ = some (.int .u8 ((b.getD i5 0#8).toNat : Int)) := ⟨(hst.cellL (.there (.there .here)) (getF (f := bu8) (d := 0#8) (by rw [hl_m6]; omega))), (hst.cellL (.there .here) (getF (f := bu8) (d := 0#8) (by rw [hl_b]; omega)))⟩
    refine RE.takeF 0 rfl (by kernel_rfl) Wd.a (v := .int .i64 ((i5 : Nat) : Int)) (fun w => by exact E.move (AF_ev rfl hs5)) ?_
    refine RE.takeF 1 rfl (by kernel_rfl) Wd.a (v := .pointer (some ⟨b1, i5, none⟩)) (fun w => by exact E.indexAddrA (b := b1) (o := 0) (i := ((i5 : Nat) : Int)) Try.underlying119 sz5 (AF_ev rfl (up rfl hs2)) (AF_ev rfl tp) (by omega) (by omega) (by omega)) ?_
    refine RE.take 2 rfl (by kernel_rfl) Wd.a (v := .int .u8 ((m6.getD i5 0#8).toNat : Int)) (fun w hS => by exact E.load (a := ⟨b1, i5, none⟩) Try.underlying5 rfl (AF_ev rfl tp) hS.1) hS ?_
    refine RE.takeF 3 rfl (by kernel_rfl) Wd.a (v := .int .i64 ((i5 : Nat) : Int)) (fun w => by exact E.move (AF_ev rfl (up rfl (up rfl (up rfl hs5))))) ?_
    refine RE.takeF 4 rfl (by kernel_rfl) Wd.a (v := .pointer (some ⟨b2, i5, none⟩)) (fun w => by exact E.indexAddrA (b := b2) (o := 0) (i := ((i5 : Nat) : Int)) Try.underlying119 sz5 (AF_ev rfl (up rfl (up rfl (up rfl (up rfl hs3))))) (AF_ev rfl tp) (by omega) (by omega) (by omega)) ?_
    refine RE.take 5 rfl (by kernel_rfl) Wd.a (v := .int .u8 ((b.getD i5 0#8).toNat : Int)) (fun w hS => by exact E.load (a := ⟨b2, i5, none⟩) Try.underlying5 rfl (AF_ev rfl tp) hS.2) hS ?_
    refine RE.takeF 6 rfl (by kernel_rfl) Wd.a (v := .int .u8 (((m6.getD i5 0#8) ^^^ (b.getD i5 0#8)).toNat : Int)) (fun w => by exact E.uxor (a := m6.getD i5 0#8) (b := b.getD i5 0#8) UK.u8 (AF_ev rfl (up rfl (up rfl (up rfl tp)))) (AF_ev rfl tp)) ?_
    refine RE.takeF 7 rfl (by kernel_rfl) Wd.a (v := .pointer (some ⟨b1, i5, none⟩)) (fun w => by exact E.indexAddrA (b := b1) (o := 0) (i := ((i5 : Nat) : Int)) Try.underlying119 sz5 (AF_ev rfl (up rfl (up rfl (up rfl (up rfl (up rfl (up rfl (up rfl hs2)))))))) (AF_ev rfl (up rfl (up rfl (up rfl (up rfl (up rfl (up rfl tp))))))) (by omega) (by omega) (by omega)) ?_
    refine RE.only 8 rfl (by kernel_rfl) Wd.a ?_
    refine H.storeL (b := b1) (o := i5) (m := 1) (v := .int .u8 (((m6.getD i5 0#8) ^^^ (b.getD i5 0#8)).toNat : Int)) (ys := [bu8 ((m6.getD i5 0#8) ^^^ (b.getD i5 0#8))]) (L' := (m10.map bu8)) (AF_ev rfl tp) (AF_ev rfl (up rfl tp)) hst (.there (.there .here)) sz5 rfl rfl (ones1 rfl) (by rw [h_m10]; exact putF (by rw [hl_m6]; omega)) fun w hst => ?_
    refine ⟨fun h => Bool.noConfusion ((show needs _ _ _ = false by kernel_rfl).symm.trans h), ?_⟩
    refine RE.done (by kernel_rfl) ?_
    refine Bl.n ?_
    refine Th.n ?_
    refine CW.region ?_
    refine RW.soft Wd.a (v := .int .i64 (((i5 : Nat) : Int) + 1)) (by exact E.add (k := .i64) (a := ((i5 : Nat) : Int)) (b := 1) (AF_ev rfl (u0 (up rfl (up rfl (up rfl (up rfl (up rfl (up rfl (up rfl (up rfl hs6)))))))))) rfl (show IntKind.i64.wrap (((i5 : Nat) : Int) + 1) = ((i5 : Nat) : Int) + 1 from (by rw [IntWalk.i64_in _ (by omega)]))) ?_
    refine RW.soft Wd.a (v := .int .i64 (((i5 : Nat) : Int) + 1)) (by exact E.move (AF_ev rfl tp)) ?_
    refine RW.nil ?_
    refine Th.n ?_
    have hst := hst.take (.there (.there .here))
    have hst := hst.take (.there (.there .here))
    have hst := hst.take (.there (.there .here))
    exact ⟨k8, Nat.lt_succ_self _, (i5 + 1), m10, hl_m10, hF, (int_eq (a := ((i5 : Nat) : Int) + 1) tp (by omega)), up rfl (up rfl (u0 (up rfl (up rfl (up rfl (up rfl (up rfl (up rfl (up rfl (up rfl hs2)))))))))), up rfl (up rfl (u0 (up rfl (up rfl (up rfl (up rfl (up rfl (up rfl (up rfl (up rfl hs3)))))))))), up rfl (up rfl (u0 (up rfl (up rfl (up rfl (up rfl (up rfl (up rfl (up rfl (up rfl hs4)))))))))), hst⟩
  · have hF := cf hc9 hF
    have hc9_ := hc9
    try simp only [decide_eq_false_iff_not, Int.not_lt, Int.not_le, gt_iff_lt, ge_iff_le] at hc9_
    refine CW.exit ?_
    refine Th.x ?_
    refine Th.x ?_
    refine Bl.x ?_
    refine Th.n ?_
    refine CW.seq ?_
    refine CW.region ?_
    refine RW.soft Wd.a (v := .agg ((m6.map bu8)).toArray) (by exact E.loadN (b := b1) (o := 0) (cs := (m6.map bu8)) Try.underlying119 rfl sz119 (AF_ev rfl hs2) ((List.length_map _).trans hl_m6) (St.cellsOf hst (.there (.there .here)) allF)) ?_
    refine RW.hard Wd.a ?_
    refine H.storeL (b := b3) (o := 0) (m := 16) (v := .agg ((m6.map bu8)).toArray) (ys := (m6.map bu8)) (L' := (m6.map bu8)) (AF_ev rfl (up rfl hs4)) (AF_ev rfl tp) hst .here sz119 rfl ((List.length_map _).trans hl_m6) (ones_map (fun _ => rfl)) (putW (Eq.trans (show (m6.map bu8).length = 16 from ((List.length_map _).trans hl_m6)) (Eq.symm (show ((List.replicate 16 0#8).map bu8).length = 16 from ((List.length_map _).trans (List.length_replicate)))))) fun w hst => ?_
    refine RW.fin (fun τ => τ 2 = .pointer (some ⟨b1, 0, none⟩) ∧ τ 3 = .pointer (some ⟨b2, 0, none⟩) ∧ τ 4 = .pointer (some ⟨b3, 0, none⟩) ∧ τ 6 = .int .i64 ((i5 : Nat) : Int) ∧ τ 7 = .bool false) ⟨u0 (up rfl hs2), u0 (up rfl hs3), u0 (up rfl hs4), u0 (up rfl hs6), u0 (up rfl (Eq.trans hs7 (congrArg Value.bool hc9)))⟩ ?_
    rintro τ ⟨hs2, hs3, hs4, hs6, hs7⟩
    refine CW.ret ?_
    refine ret1 (v := .agg ((m6.map bu8)).toArray) rfl (by exact (.cell (AF_ev rfl hs4) (hst.blockAt .here) Try.underlying119 rfl (by rw [List.size_toArray, show ((m6.map bu8)).length = 16 from ((List.length_map _).trans hl_m6)]; exact sz119) .nil)) ?_
    have hst := (hst.take .here).drop
    have hst := (hst.take .here).drop
    have hst := (hst.take .here).drop
    rw [somE hF]
    exact ⟨rfl, hl_m6, hst⟩

def Mixed_l1 (a : List (BitVec 8)) (u4 : BitVec 8)  : Nat → Nat → List (BitVec 8) → Option (List (BitVec 8))
  | 0, _, _ => none
  | k9 + 1, i6, m7 =>
    bif decide (((i6 : Nat) : Int) < 4) then
      lt_ ((a.getD i6 0#8) ^^^ (a.getD (((((i6 : Nat) : Int) + 1) % 4).toNat) 0#8)) fun u11 =>
      (Times2 u11).bind fun r12 =>
      lt_ (((a.getD i6 0#8) ^^^ (u4 ^^^ (a.getD 3 0#8))) ^^^ r12) fun u14 =>
      lt_ (m7.set i6 u14) fun m15 =>
      Mixed_l1 a u4 k9 (i6 + 1) m15
    else
      some (m7)
theorem Mixed_l1_pos {a : List (BitVec 8)} {u4 : BitVec 8}  {fu_ : Nat} {i6 : Nat} {m7 : List (BitVec 8)} {r : List (BitVec 8)} (h : Mixed_l1 a u4 fu_ i6 m7 = some r) : ∃ j, fu_ = j + 1 := by
  cases fu_ with
  | zero => cases (show (none : Option (List (BitVec 8))) = some r from h)
  | succ j => exact ⟨j, rfl⟩
def Mixed (a : List (BitVec 8)) : Option (List (BitVec 8)) :=
  lt_ (((a.getD 0 0#8) ^^^ (a.getD 1 0#8)) ^^^ (a.getD 2 0#8)) fun u4 =>
  Mixed_l1 a u4 1099511627776 0 (List.replicate 4 0#8)
theorem Mixed_C {p : Pers} {w : World} {R : List Assn}  (a : List (BitVec 8)) (hl_a : a.length = 4) (r : List (BitVec 8)) (hF : Mixed a = some r) (hst : St p w (R)) :
    Calls Try.prog 119 #[.agg ((a.map bu8)).toArray] w fun e w => e = .returned (.agg ((r.map bu8)).toArray) ∧ r.length = 4 ∧ St p w (R) := by
  unfold Mixed at hF
  refine enter Try.func119 rfl (by simp) (n := 40) rfl fun τ hτ => ?_
  have hs0 : τ 0 = .agg ((a.map bu8)).toArray := hτ 0 (by simp)
  clear hτ
  refine CW.seq ?_
  refine CW.region ?_
  refine RW.hard Wd.a ?_
  refine H.box (v := .agg ((a.map bu8)).toArray) (AF_ev rfl hs0) hst fun b1 w hst => ?_
  refine RW.hard Wd.a ?_
  refine H.alloc zs156 hst fun b2 w hst => ?_
  refine RW.fin (fun τ => τ 0 = .agg ((a.map bu8)).toArray ∧ τ 1 = .pointer (some ⟨b1, 0, none⟩) ∧ τ 2 = .pointer (some ⟨b2, 0, none⟩)) ⟨up rfl (up rfl hs0), up rfl tp, tp⟩ ?_
  rintro τ ⟨hs0, hs1, hs2⟩
  refine CW.seq ?_
  refine CW.region ?_
  refine RW.hard Wd.a ?_
  refine H.alloc zs156 hst fun b3 w hst => ?_
  refine RW.fin (fun τ => τ 0 = .agg ((a.map bu8)).toArray ∧ τ 1 = .pointer (some ⟨b1, 0, none⟩) ∧ τ 2 = .pointer (some ⟨b2, 0, none⟩) ∧ τ 3 = .pointer (some ⟨b3, 0, none⟩)) ⟨up rfl hs0, up rfl hs1, up rfl hs2, tp⟩ ?_
  rintro τ ⟨hs0, hs1, hs2, hs3⟩
  refine CW.seq ?_
  refine CW.region ?_
  refine RW.soft Wd.a (v := .pointer (some ⟨b1, 0, none⟩)) (by exact E.indexAddrA (b := b1) (o := 0) (i := 0) Try.underlying156 sz5 (AF_ev rfl hs1) rfl (by omega) (by omega) (by omega)) ?_
  refine RW.soft Wd.a (v := .int .u8 ((a.getD 0 0#8).toNat : Int)) (by exact E.load (a := ⟨b1, 0, none⟩) Try.underlying5 rfl (AF_ev rfl tp) (hst.cellL (.there (.there .here)) (getF (f := bu8) (d := 0#8) (by rw [hl_a]; omega)))) ?_
  refine RW.soft Wd.a (v := .pointer (some ⟨b1, 1, none⟩)) (by exact E.indexAddrA (b := b1) (o := 0) (i := 1) Try.underlying156 sz5 (AF_ev rfl (up rfl (up rfl hs1))) rfl (by omega) (by omega) (by omega)) ?_
  refine RW.soft Wd.a (v := .int .u8 ((a.getD 1 0#8).toNat : Int)) (by exact E.load (a := ⟨b1, 1, none⟩) Try.underlying5 rfl (AF_ev rfl tp) (hst.cellL (.there (.there .here)) (getF (f := bu8) (d := 0#8) (by rw [hl_a]; omega)))) ?_
  refine RW.soft Wd.a (v := .int .u8 (((a.getD 0 0#8) ^^^ (a.getD 1 0#8)).toNat : Int)) (by exact E.uxor (a := a.getD 0 0#8) (b := a.getD 1 0#8) UK.u8 (AF_ev rfl (up rfl (up rfl tp))) (AF_ev rfl tp)) ?_
  refine RW.soft Wd.a (v := .pointer (some ⟨b1, 2, none⟩)) (by exact E.indexAddrA (b := b1) (o := 0) (i := 2) Try.underlying156 sz5 (AF_ev rfl (up rfl (up rfl (up rfl (up rfl (up rfl hs1)))))) rfl (by omega) (by omega) (by omega)) ?_
  refine RW.soft Wd.a (v := .int .u8 ((a.getD 2 0#8).toNat : Int)) (by exact E.load (a := ⟨b1, 2, none⟩) Try.underlying5 rfl (AF_ev rfl tp) (hst.cellL (.there (.there .here)) (getF (f := bu8) (d := 0#8) (by rw [hl_a]; omega)))) ?_
  obtain ⟨u4, h_u4, hF⟩ := lp hF
  refine RW.soft Wd.a (v := .int .u8 ((u4).toNat : Int)) (by exact E.v (E.uxor (a := (a.getD 0 0#8) ^^^ (a.getD 1 0#8)) (b := a.getD 2 0#8) UK.u8 (AF_ev rfl (up rfl (up rfl tp))) (AF_ev rfl tp)) (by first | (rw [h_u4]; done) | (rw [h_u4]; rfl))) ?_
  refine RW.soft Wd.a (v := .pointer (some ⟨b1, 3, none⟩)) (by exact E.indexAddrA (b := b1) (o := 0) (i := 3) Try.underlying156 sz5 (AF_ev rfl (up rfl (up rfl (up rfl (up rfl (up rfl (up rfl (up rfl (up rfl hs1))))))))) rfl (by omega) (by omega) (by omega)) ?_
  refine RW.soft Wd.a (v := .int .u8 ((a.getD 3 0#8).toNat : Int)) (by exact E.load (a := ⟨b1, 3, none⟩) Try.underlying5 rfl (AF_ev rfl tp) (hst.cellL (.there (.there .here)) (getF (f := bu8) (d := 0#8) (by rw [hl_a]; omega)))) ?_
  refine RW.soft Wd.a (v := .int .u8 ((u4 ^^^ (a.getD 3 0#8)).toNat : Int)) (by exact E.uxor (a := u4) (b := a.getD 3 0#8) UK.u8 (AF_ev rfl (up rfl (up rfl tp))) (AF_ev rfl tp)) ?_
  refine RW.soft Wd.a (v := .int .u8 ((u4 ^^^ (a.getD 3 0#8)).toNat : Int)) (by exact E.assign (AF_ev rfl tp)) ?_
  refine RW.fin (fun τ => τ 0 = .agg ((a.map bu8)).toArray ∧ τ 1 = .pointer (some ⟨b1, 0, none⟩) ∧ τ 2 = .pointer (some ⟨b2, 0, none⟩) ∧ τ 3 = .pointer (some ⟨b3, 0, none⟩) ∧ τ 4 = .int .u8 ((u4 ^^^ (a.getD 3 0#8)).toNat : Int)) ⟨up rfl (up rfl (up rfl (up rfl (up rfl (up rfl (up rfl (up rfl (up rfl (up rfl (up rfl (up rfl hs0))))))))))), up rfl (up rfl (up rfl (up rfl (up rfl (up rfl (up rfl (up rfl (up rfl (up rfl (up rfl (up rfl hs1))))))))))), up rfl (up rfl (up rfl (up rfl (up rfl (up rfl (up rfl (up rfl (up rfl (up rfl (up rfl (up rfl hs2))))))))))), up rfl (up rfl (up rfl (up rfl (up rfl (up rfl (up rfl (up rfl (up rfl (up rfl (up rfl (up rfl hs3))))))))))), tp⟩ ?_
  rintro τ ⟨hs0, hs1, hs2, hs3, hs4⟩
  refine CW.seq ?_
  refine CW.seq ?_
  refine CW.region ?_
  refine RW.soft Wd.a (v := .int .i64 0) (by exact E.move rfl) ?_
  refine RW.fin (fun τ => τ 0 = .agg ((a.map bu8)).toArray ∧ τ 1 = .pointer (some ⟨b1, 0, none⟩) ∧ τ 2 = .pointer (some ⟨b2, 0, none⟩) ∧ τ 3 = .pointer (some ⟨b3, 0, none⟩) ∧ τ 4 = .int .u8 ((u4 ^^^ (a.getD 3 0#8)).toNat : Int) ∧ τ 17 = .int .i64 0) ⟨up rfl hs0, up rfl hs1, up rfl hs2, up rfl hs3, up rfl hs4, tp⟩ ?_
  rintro τ ⟨hs0, hs1, hs2, hs3, hs4, hs17⟩
  refine CW.block ?_
  refine CW.loop (fun (k8 : Nat) (τ : Fr) (w : World) => ∃ (i6 : Nat) (m7 : List (BitVec 8)), m7.length = 4 ∧ Mixed_l1 a u4 k8 i6 m7 = some r ∧ τ 17 = .int .i64 ((i6 : Nat) : Int) ∧ τ 1 = .pointer (some ⟨b1, 0, none⟩) ∧ τ 2 = .pointer (some ⟨b2, 0, none⟩) ∧ τ 3 = .pointer (some ⟨b3, 0, none⟩) ∧ τ 4 = .int .u8 ((u4 ^^^ (a.getD 3 0#8)).toNat : Int) ∧ St p w (pt b3 (.cells ((m7.map bu8)).toArray 156) :: pt b2 (.cells (((List.replicate 4 0#8).map bu8)).toArray 156) :: pt b1 (.cells ((a.map bu8)).toArray 156) :: R)) 1099511627776 ?_ ?_
  · skip
    have hst := hst.take (.there (.there .here))
    have hst := hst.take (.there (.there .here))
    have hst := hst.take (.there (.there .here))
    exact ⟨0, (List.replicate 4 0#8), (List.length_replicate), hF, (int_eq (a := 0) hs17 (by omega)), hs1, hs2, hs3, hs4, hst⟩
  clear hst hF
  rintro k8 τ w ⟨i6, m7, hl_m7, hF, hs17, hs1, hs2, hs3, hs4, hst⟩
  obtain ⟨k9, rfl⟩ := Mixed_l1_pos hF
  rw [Mixed_l1] at hF
  refine CW.seq ?_
  refine CW.region ?_
  refine RW.soft Wd.a (v := .bool (decide (((i6 : Nat) : Int) < 4))) (by exact E.lss (k := .i64) (a := ((i6 : Nat) : Int)) (b := 4) (AF_ev rfl hs17) rfl) ?_
  refine RW.fin (fun τ => τ 1 = .pointer (some ⟨b1, 0, none⟩) ∧ τ 2 = .pointer (some ⟨b2, 0, none⟩) ∧ τ 3 = .pointer (some ⟨b3, 0, none⟩) ∧ τ 4 = .int .u8 ((u4 ^^^ (a.getD 3 0#8)).toNat : Int) ∧ τ 17 = .int .i64 ((i6 : Nat) : Int) ∧ τ 18 = .bool (decide (((i6 : Nat) : Int) < 4))) ⟨up rfl hs1, up rfl hs2, up rfl hs3, up rfl hs4, up rfl hs17, tp⟩ ?_
  rintro τ ⟨hs1, hs2, hs3, hs4, hs17, hs18⟩
  refine CW.seq ?_
  refine CW.cond (AF_ev rfl hs18) (fun hc10 => ?_) (fun hc10 => ?_)
  · have hF := ct hc10 hF
    have hc10_ := hc10
    try simp only [decide_eq_true_eq] at hc10_
    refine CW.skip ?_
    refine Th.n ?_
    refine CW.seq ?_
    refine CW.block ?_
    refine CW.seq ?_
    refine CW.region ?_
    refine RW.soft Wd.a (v := .int .i64 ((i6 : Nat) : Int)) (by exact E.move (AF_ev rfl hs17)) ?_
    refine RW.soft Wd.a (v := .int .i64 ((i6 : Nat) : Int)) (by exact E.assign (AF_ev rfl tp)) ?_
    refine RW.fin (fun τ => τ 1 = .pointer (some ⟨b1, 0, none⟩) ∧ τ 2 = .pointer (some ⟨b2, 0, none⟩) ∧ τ 3 = .pointer (some ⟨b3, 0, none⟩) ∧ τ 4 = .int .u8 ((u4 ^^^ (a.getD 3 0#8)).toNat : Int) ∧ τ 5 = .int .i64 ((i6 : Nat) : Int) ∧ τ 17 = .int .i64 ((i6 : Nat) : Int) ∧ τ 18 = .bool true) ⟨up rfl (up rfl hs1), up rfl (up rfl hs2), up rfl (up rfl hs3), up rfl (up rfl hs4), tp, up rfl (up rfl hs17), up rfl (up rfl (Eq.trans hs18 (congrArg Value.bool hc10)))⟩ ?_
    rintro τ ⟨hs1, hs2, hs3, hs4, hs5, hs17, hs18⟩
    obtain ⟨u11, h_u11, hF⟩ := lp hF
    obtain ⟨r12, h_r12, hF⟩ := bd hF
    obtain ⟨u14, h_u14, hF⟩ := lp hF
    obtain ⟨m15, h_m15, hF⟩ := lp hF
    have hl_m15 : m15.length = 4 := by rw [h_m15, List.length_set]; exact hl_m7
    refine CW.regionE [3, 8, 13] (fun w => w.cell? ⟨b1, i6, none⟩ = some (.int .u8 ((a.getD i6 0#8).toNat : Int)) ∧ w.cell? ⟨b1, ((((i6 : Nat) : Int) + 1) % 4).toNat, none⟩ = some (.int .u8 ((a.getD (((((i6 : Nat) : Int) + 1) % 4).toNat) 0#8).toNat : Int))) mixed ?_
    have hst := hst.drew
    generalize w.drew = w at hst ⊢
    have hS : w.cell? ⟨b1, i6, none⟩ = some (.int .u8 ((a.getD i6 0#8).toNat : Int)) ∧ w.cell? ⟨b1, ((((i6 : Nat) : Int) + 1) % 4).toNat, none⟩ = some (.int .u8 ((a.getD (((((i6 : Nat) : Int) + 1) % 4).toNat) 0#8).toNat : Int)) := ⟨(hst.cellL (.there (.there .here)) (getF (f := bu8) (d := 0#8) (by rw [hl_a]; omega))), (hst.cellL (.there (.there .here)) (getF (f := bu8) (d := 0#8) (by rw [hl_a]; omega)))⟩
    refine RE.takeF 0 rfl (by kernel_rfl) Wd.a (v := .int .i64 ((i6 : Nat) : Int)) (fun w => by exact E.move (AF_ev rfl hs5)) ?_
    refine RE.takeF 1 rfl (by kernel_rfl) Wd.a (v := .int .i64 ((i6 : Nat) : Int)) (fun w => by exact E.move (AF_ev rfl (up rfl hs5))) ?_
    refine RE.takeF 2 rfl (by kernel_rfl) Wd.a (v := .pointer (some ⟨b1, i6, none⟩)) (fun w => by exact E.indexAddrA (b := b1) (o := 0) (i := ((i6 : Nat) : Int)) Try.underlying156 sz5 (AF_ev rfl (up rfl (up rfl hs1))) (AF_ev rfl tp) (by omega) (by omega) (by omega)) ?_
    refine RE.take 3 rfl (by kernel_rfl) Wd.a (v := .int .u8 ((a.getD i6 0#8).toNat : Int)) (fun w hS => by exact E.load (a := ⟨b1, i6, none⟩) Try.underlying5 rfl (AF_ev rfl tp) hS.1) hS ?_
    refine RE.takeF 4 rfl (by kernel_rfl) Wd.a (v := .int .u8 ((u4 ^^^ (a.getD 3 0#8)).toNat : Int)) (fun w => by exact E.move (AF_ev rfl (up rfl (up rfl (up rfl (up rfl hs4)))))) ?_
    refine RE.takeF 5 rfl (by kernel_rfl) Wd.a (v := .int .u8 (((a.getD i6 0#8) ^^^ (u4 ^^^ (a.getD 3 0#8))).toNat : Int)) (fun w => by exact E.uxor (a := a.getD i6 0#8) (b := u4 ^^^ (a.getD 3 0#8)) UK.u8 (AF_ev rfl (up rfl tp)) (AF_ev rfl tp)) ?_
    refine RE.takeF 6 rfl (by kernel_rfl) Wd.a (v := .int .i64 ((i6 : Nat) : Int)) (fun w => by exact E.move (AF_ev rfl (up rfl (up rfl (up rfl (up rfl (up rfl (up rfl hs5)))))))) ?_
    refine RE.takeF 7 rfl (by kernel_rfl) Wd.a (v := .pointer (some ⟨b1, i6, none⟩)) (fun w => by exact E.indexAddrA (b := b1) (o := 0) (i := ((i6 : Nat) : Int)) Try.underlying156 sz5 (AF_ev rfl (up rfl (up rfl (up rfl (up rfl (up rfl (up rfl (up rfl hs1)))))))) (AF_ev rfl tp) (by omega) (by omega) (by omega)) ?_
    refine RE.take 8 rfl (by kernel_rfl) Wd.a (v := .int .u8 ((a.getD i6 0#8).toNat : Int)) (fun w hS => by exact E.load (a := ⟨b1, i6, none⟩) Try.underlying5 rfl (AF_ev rfl tp) hS.1) hS ?_
    refine RE.takeF 9 rfl (by kernel_rfl) Wd.a (v := .int .i64 ((i6 : Nat) : Int)) (fun w => by exact E.move (AF_ev rfl (up rfl (up rfl (up rfl (up rfl (up rfl (up rfl (up rfl (up rfl (up rfl hs5))))))))))) ?_
    refine RE.takeF 10 rfl (by kernel_rfl) Wd.a (v := .int .i64 (((i6 : Nat) : Int) + 1)) (fun w => by exact E.add (k := .i64) (a := ((i6 : Nat) : Int)) (b := 1) (AF_ev rfl tp) rfl (show IntKind.i64.wrap (((i6 : Nat) : Int) + 1) = ((i6 : Nat) : Int) + 1 from (by rw [IntWalk.i64_in _ (by omega)]))) ?_
    refine RE.takeF 11 rfl (by kernel_rfl) Wd.a (v := .int .i64 ((((i6 : Nat) : Int) + 1) % 4)) (fun w => by exact E.rem (k := .i64) (a := ((i6 : Nat) : Int) + 1) (b := 4) (AF_ev rfl tp) rfl (by omega) (by exact Int.tmod_eq_emod_of_nonneg (by omega))) ?_
    refine RE.takeF 12 rfl (by kernel_rfl) Wd.a (v := .pointer (some ⟨b1, ((((i6 : Nat) : Int) + 1) % 4).toNat, none⟩)) (fun w => by exact E.indexAddrA (b := b1) (o := 0) (i := (((i6 : Nat) : Int) + 1) % 4) Try.underlying156 sz5 (AF_ev rfl (up rfl (up rfl (up rfl (up rfl (up rfl (up rfl (up rfl (up rfl (up rfl (up rfl (up rfl (up rfl hs1))))))))))))) (AF_ev rfl tp) (by omega) (by omega) (by omega)) ?_
    refine RE.take 13 rfl (by kernel_rfl) Wd.a (v := .int .u8 ((a.getD (((((i6 : Nat) : Int) + 1) % 4).toNat) 0#8).toNat : Int)) (fun w hS => by exact E.load (a := ⟨b1, ((((i6 : Nat) : Int) + 1) % 4).toNat, none⟩) Try.underlying5 rfl (AF_ev rfl tp) hS.2) hS ?_
    refine RE.takeF 14 rfl (by kernel_rfl) Wd.a (v := .int .u8 ((u11).toNat : Int)) (fun w => by exact E.v (E.uxor (a := a.getD i6 0#8) (b := a.getD (((((i6 : Nat) : Int) + 1) % 4).toNat) 0#8) UK.u8 (AF_ev rfl (up rfl (up rfl (up rfl (up rfl (up rfl tp)))))) (AF_ev rfl tp)) (by first | (rw [h_u11]; done) | (rw [h_u11]; rfl))) ?_
    refine RE.only 15 rfl (by kernel_rfl) Wd.a ?_
    refine H.call0 Try.func104 nm104 rfl (map1 (AF_ev rfl tp)) (Calls.mono (Times2_C u11 r12 h_r12 hst) ?_)
    rintro _ w ⟨rfl, hst⟩
    refine ⟨_, rfl, ?_⟩
    have hS : w.cell? ⟨b1, i6, none⟩ = some (.int .u8 ((a.getD i6 0#8).toNat : Int)) ∧ w.cell? ⟨b1, ((((i6 : Nat) : Int) + 1) % 4).toNat, none⟩ = some (.int .u8 ((a.getD (((((i6 : Nat) : Int) + 1) % 4).toNat) 0#8).toNat : Int)) := ⟨(hst.cellL (.there (.there .here)) (getF (f := bu8) (d := 0#8) (by rw [hl_a]; omega))), (hst.cellL (.there (.there .here)) (getF (f := bu8) (d := 0#8) (by rw [hl_a]; omega)))⟩
    refine ⟨fun _ _ => hS, ?_⟩
    refine RE.only 16 rfl (by kernel_rfl) Wd.a (Hd.value (v := .int .u8 ((u14).toNat : Int)) (by exact E.v (E.uxor (a := (a.getD i6 0#8) ^^^ (u4 ^^^ (a.getD 3 0#8))) (b := r12) UK.u8 (AF_ev rfl (up rfl (up rfl (up rfl (up rfl (up rfl (up rfl (up rfl (up rfl (up rfl (up rfl tp))))))))))) (AF_ev rfl tp)) (by first | (rw [h_u14]; done) | (rw [h_u14]; rfl))) ⟨fun _ h => h, ?_⟩)
    refine RE.only 17 rfl (by kernel_rfl) Wd.a (Hd.value (v := .pointer (some ⟨b3, i6, none⟩)) (by exact E.indexAddrA (b := b3) (o := 0) (i := ((i6 : Nat) : Int)) Try.underlying156 sz5 (AF_ev rfl (up rfl (up rfl (up rfl (up rfl (up rfl (up rfl (up rfl (up rfl (up rfl (up rfl (up rfl (up rfl (up rfl (up rfl (up rfl (up rfl (up rfl hs3)))))))))))))))))) (AF_ev rfl (up rfl (up rfl (up rfl (up rfl (up rfl (up rfl (up rfl (up rfl (up rfl (up rfl (up rfl (up rfl (up rfl (up rfl (up rfl (up rfl tp))))))))))))))))) (by omega) (by omega) (by omega)) ⟨fun h => Bool.noConfusion ((show needs _ _ _ = false by kernel_rfl).symm.trans h), ?_⟩)
    refine RE.only 18 rfl (by kernel_rfl) Wd.a ?_
    refine H.storeL (b := b3) (o := i6) (m := 1) (v := .int .u8 ((u14).toNat : Int)) (ys := [bu8 u14]) (L' := (m15.map bu8)) (AF_ev rfl tp) (AF_ev rfl (up rfl tp)) hst .here sz5 rfl rfl (ones1 rfl) (by rw [h_m15]; exact putF (by rw [hl_m7]; omega)) fun w hst => ?_
    refine ⟨fun h => Bool.noConfusion ((show needs _ _ _ = false by kernel_rfl).symm.trans h), ?_⟩
    refine RE.done (by kernel_rfl) ?_
    refine Bl.n ?_
    refine Th.n ?_
    refine CW.region ?_
    refine RW.soft Wd.a (v := .int .i64 (((i6 : Nat) : Int) + 1)) (by exact E.add (k := .i64) (a := ((i6 : Nat) : Int)) (b := 1) (AF_ev rfl (u0 (up rfl (up rfl (up rfl (up rfl (up rfl (up rfl (up rfl (up rfl (up rfl (up rfl (up rfl (up rfl (up rfl (up rfl (up rfl (up rfl (up rfl (up rfl hs17)))))))))))))))))))) rfl (show IntKind.i64.wrap (((i6 : Nat) : Int) + 1) = ((i6 : Nat) : Int) + 1 from (by rw [IntWalk.i64_in _ (by omega)]))) ?_
    refine RW.soft Wd.a (v := .int .i64 (((i6 : Nat) : Int) + 1)) (by exact E.move (AF_ev rfl tp)) ?_
    refine RW.nil ?_
    refine Th.n ?_
    have hst := hst.take (.there (.there .here))
    have hst := hst.take (.there (.there .here))
    have hst := hst.take (.there (.there .here))
    exact ⟨k9, Nat.lt_succ_self _, (i6 + 1), m15, hl_m15, hF, (int_eq (a := ((i6 : Nat) : Int) + 1) tp (by omega)), up rfl (up rfl (u0 (up rfl (up rfl (up rfl (up rfl (up rfl (up rfl (up rfl (up rfl (up rfl (up rfl (up rfl (up rfl (up rfl (up rfl (up rfl (up rfl (up rfl (up rfl hs1)))))))))))))))))))), up rfl (up rfl (u0 (up rfl (up rfl (up rfl (up rfl (up rfl (up rfl (up rfl (up rfl (up rfl (up rfl (up rfl (up rfl (up rfl (up rfl (up rfl (up rfl (up rfl (up rfl hs2)))))))))))))))))))), up rfl (up rfl (u0 (up rfl (up rfl (up rfl (up rfl (up rfl (up rfl (up rfl (up rfl (up rfl (up rfl (up rfl (up rfl (up rfl (up rfl (up rfl (up rfl (up rfl (up rfl hs3)))))))))))))))))))), up rfl (up rfl (u0 (up rfl (up rfl (up rfl (up rfl (up rfl (up rfl (up rfl (up rfl (up rfl (up rfl (up rfl (up rfl (up rfl (up rfl (up rfl (up rfl (up rfl (up rfl hs4)))))))))))))))))))), hst⟩
  · have hF := cf hc10 hF
    have hc10_ := hc10
    try simp only [decide_eq_false_iff_not, Int.not_lt, Int.not_le, gt_iff_lt, ge_iff_le] at hc10_
    refine CW.exit ?_
    refine Th.x ?_
    refine Th.x ?_
    refine Bl.x ?_
    refine Th.n ?_
    refine CW.seq ?_
    refine CW.region ?_
    refine RW.soft Wd.a (v := .agg ((m7.map bu8)).toArray) (by exact E.loadN (b := b3) (o := 0) (cs := (m7.map bu8)) Try.underlying156 rfl sz156 (AF_ev rfl hs3) ((List.length_map _).trans hl_m7) (St.cellsOf hst .here allF)) ?_
    refine RW.hard Wd.a ?_
    refine H.storeL (b := b2) (o := 0) (m := 4) (v := .agg ((m7.map bu8)).toArray) (ys := (m7.map bu8)) (L' := (m7.map bu8)) (AF_ev rfl (up rfl hs2)) (AF_ev rfl tp) hst (.there .here) sz156 rfl ((List.length_map _).trans hl_m7) (ones_map (fun _ => rfl)) (putW (Eq.trans (show (m7.map bu8).length = 4 from ((List.length_map _).trans hl_m7)) (Eq.symm (show ((List.replicate 4 0#8).map bu8).length = 4 from ((List.length_map _).trans (List.length_replicate)))))) fun w hst => ?_
    refine RW.fin (fun τ => τ 1 = .pointer (some ⟨b1, 0, none⟩) ∧ τ 2 = .pointer (some ⟨b2, 0, none⟩) ∧ τ 3 = .pointer (some ⟨b3, 0, none⟩) ∧ τ 4 = .int .u8 ((u4 ^^^ (a.getD 3 0#8)).toNat : Int) ∧ τ 17 = .int .i64 ((i6 : Nat) : Int) ∧ τ 18 = .bool false) ⟨u0 (up rfl hs1), u0 (up rfl hs2), u0 (up rfl hs3), u0 (up rfl hs4), u0 (up rfl hs17), u0 (up rfl (Eq.trans hs18 (congrArg Value.bool hc10)))⟩ ?_
    rintro τ ⟨hs1, hs2, hs3, hs4, hs17, hs18⟩
    refine CW.ret ?_
    refine ret1 (v := .agg ((m7.map bu8)).toArray) rfl (by exact (.cell (AF_ev rfl hs2) (hst.blockAt (.there .here)) Try.underlying156 rfl (by rw [List.size_toArray, show ((m7.map bu8)).length = 4 from ((List.length_map _).trans hl_m7)]; exact sz156) .nil)) ?_
    have hst := (hst.take .here).drop
    have hst := (hst.take .here).drop
    have hst := (hst.take .here).drop
    rw [somE hF]
    exact ⟨rfl, hl_m7, hst⟩

def Boxed (w' : List (BitVec 8)) : Option (List (BitVec 8)) :=
  (Box (w'.getD 0 0#8)).bind fun r3 =>
  (Box (w'.getD 1 0#8)).bind fun r5 =>
  (Box (w'.getD 2 0#8)).bind fun r7 =>
  (Box (w'.getD 3 0#8)).bind fun r9 =>
  some (([r3, r5, r7, r9] : List (BitVec 8)))
theorem Boxed_C {p : Pers} {w : World} {R : List Assn}  (w' : List (BitVec 8)) (hl_w' : w'.length = 4) (r : List (BitVec 8)) (hF : Boxed w' = some r) (hst : St p w (R)) :
    Calls Try.prog 103 #[.agg ((w'.map bu8)).toArray] w fun e w => e = .returned (.agg ((r.map bu8)).toArray) ∧ r.length = 4 ∧ St p w (R) := by
  unfold Boxed at hF
  refine enter Try.func103 rfl (by simp) (n := 16) rfl fun τ hτ => ?_
  have hs0 : τ 0 = .agg ((w'.map bu8)).toArray := hτ 0 (by simp)
  clear hτ
  refine CW.seq ?_
  refine CW.region ?_
  refine RW.hard Wd.a ?_
  refine H.box (v := .agg ((w'.map bu8)).toArray) (AF_ev rfl hs0) hst fun b1 w hst => ?_
  refine RW.hard Wd.a ?_
  refine H.alloc zs156 hst fun b2 w hst => ?_
  refine RW.fin (fun τ => τ 0 = .agg ((w'.map bu8)).toArray ∧ τ 1 = .pointer (some ⟨b1, 0, none⟩) ∧ τ 2 = .pointer (some ⟨b2, 0, none⟩)) ⟨up rfl (up rfl hs0), up rfl tp, tp⟩ ?_
  rintro τ ⟨hs0, hs1, hs2⟩
  refine CW.seq ?_
  obtain ⟨r3, h_r3, hF⟩ := bd hF
  obtain ⟨r5, h_r5, hF⟩ := bd hF
  obtain ⟨r7, h_r7, hF⟩ := bd hF
  obtain ⟨r9, h_r9, hF⟩ := bd hF
  refine CW.regionE [1, 4, 7, 10] (fun w => w.cell? ⟨b1, 0, none⟩ = some (.int .u8 ((w'.getD 0 0#8).toNat : Int)) ∧ w.cell? ⟨b1, 1, none⟩ = some (.int .u8 ((w'.getD 1 0#8).toNat : Int)) ∧ w.cell? ⟨b1, 2, none⟩ = some (.int .u8 ((w'.getD 2 0#8).toNat : Int)) ∧ w.cell? ⟨b1, 3, none⟩ = some (.int .u8 ((w'.getD 3 0#8).toNat : Int))) mixed ?_
  have hst := hst.drew
  generalize w.drew = w at hst ⊢
  have hS : w.cell? ⟨b1, 0, none⟩ = some (.int .u8 ((w'.getD 0 0#8).toNat : Int)) ∧ w.cell? ⟨b1, 1, none⟩ = some (.int .u8 ((w'.getD 1 0#8).toNat : Int)) ∧ w.cell? ⟨b1, 2, none⟩ = some (.int .u8 ((w'.getD 2 0#8).toNat : Int)) ∧ w.cell? ⟨b1, 3, none⟩ = some (.int .u8 ((w'.getD 3 0#8).toNat : Int)) := ⟨(hst.cellL (.there .here) (getF (f := bu8) (d := 0#8) (by rw [hl_w']; omega))), (hst.cellL (.there .here) (getF (f := bu8) (d := 0#8) (by rw [hl_w']; omega))), (hst.cellL (.there .here) (getF (f := bu8) (d := 0#8) (by rw [hl_w']; omega))), (hst.cellL (.there .here) (getF (f := bu8) (d := 0#8) (by rw [hl_w']; omega)))⟩
  refine RE.takeF 0 rfl (by kernel_rfl) Wd.a (v := .pointer (some ⟨b1, 0, none⟩)) (fun w => by exact E.indexAddrA (b := b1) (o := 0) (i := 0) Try.underlying156 sz5 (AF_ev rfl hs1) rfl (by omega) (by omega) (by omega)) ?_
  refine RE.take 1 rfl (by kernel_rfl) Wd.a (v := .int .u8 ((w'.getD 0 0#8).toNat : Int)) (fun w hS => by exact E.load (a := ⟨b1, 0, none⟩) Try.underlying5 rfl (AF_ev rfl tp) hS.1) hS ?_
  refine RE.takeF 3 rfl (by kernel_rfl) Wd.a (v := .pointer (some ⟨b1, 1, none⟩)) (fun w => by exact E.indexAddrA (b := b1) (o := 0) (i := 1) Try.underlying156 sz5 (AF_ev rfl (up rfl (up rfl hs1))) rfl (by omega) (by omega) (by omega)) ?_
  refine RE.take 4 rfl (by kernel_rfl) Wd.a (v := .int .u8 ((w'.getD 1 0#8).toNat : Int)) (fun w hS => by exact E.load (a := ⟨b1, 1, none⟩) Try.underlying5 rfl (AF_ev rfl tp) hS.2.1) hS ?_
  refine RE.takeF 6 rfl (by kernel_rfl) Wd.a (v := .pointer (some ⟨b1, 2, none⟩)) (fun w => by exact E.indexAddrA (b := b1) (o := 0) (i := 2) Try.underlying156 sz5 (AF_ev rfl (up rfl (up rfl (up rfl (up rfl hs1))))) rfl (by omega) (by omega) (by omega)) ?_
  refine RE.take 7 rfl (by kernel_rfl) Wd.a (v := .int .u8 ((w'.getD 2 0#8).toNat : Int)) (fun w hS => by exact E.load (a := ⟨b1, 2, none⟩) Try.underlying5 rfl (AF_ev rfl tp) hS.2.2.1) hS ?_
  refine RE.takeF 9 rfl (by kernel_rfl) Wd.a (v := .pointer (some ⟨b1, 3, none⟩)) (fun w => by exact E.indexAddrA (b := b1) (o := 0) (i := 3) Try.underlying156 sz5 (AF_ev rfl (up rfl (up rfl (up rfl (up rfl (up rfl (up rfl hs1))))))) rfl (by omega) (by omega) (by omega)) ?_
  refine RE.take 10 rfl (by kernel_rfl) Wd.a (v := .int .u8 ((w'.getD 3 0#8).toNat : Int)) (fun w hS => by exact E.load (a := ⟨b1, 3, none⟩) Try.underlying5 rfl (AF_ev rfl tp) hS.2.2.2) hS ?_
  refine RE.only 2 rfl (by kernel_rfl) Wd.a ?_
  refine H.call0 Try.func118 nm118 rfl (map1 (AF_ev rfl (up rfl (up rfl (up rfl (up rfl (up rfl (up rfl tp)))))))) (Calls.mono (Box_C (w'.getD 0 0#8) r3 h_r3 hst) ?_)
  rintro _ w ⟨rfl, hst⟩
  refine ⟨_, rfl, ?_⟩
  have hS : w.cell? ⟨b1, 0, none⟩ = some (.int .u8 ((w'.getD 0 0#8).toNat : Int)) ∧ w.cell? ⟨b1, 1, none⟩ = some (.int .u8 ((w'.getD 1 0#8).toNat : Int)) ∧ w.cell? ⟨b1, 2, none⟩ = some (.int .u8 ((w'.getD 2 0#8).toNat : Int)) ∧ w.cell? ⟨b1, 3, none⟩ = some (.int .u8 ((w'.getD 3 0#8).toNat : Int)) := ⟨(hst.cellL (.there .here) (getF (f := bu8) (d := 0#8) (by rw [hl_w']; omega))), (hst.cellL (.there .here) (getF (f := bu8) (d := 0#8) (by rw [hl_w']; omega))), (hst.cellL (.there .here) (getF (f := bu8) (d := 0#8) (by rw [hl_w']; omega))), (hst.cellL (.there .here) (getF (f := bu8) (d := 0#8) (by rw [hl_w']; omega)))⟩
  refine ⟨fun _ _ => hS, ?_⟩
  refine RE.only 5 rfl (by kernel_rfl) Wd.a ?_
  refine H.call0 Try.func118 nm118 rfl (map1 (AF_ev rfl (up rfl (up rfl (up rfl (up rfl (up rfl tp))))))) (Calls.mono (Box_C (w'.getD 1 0#8) r5 h_r5 hst) ?_)
  rintro _ w ⟨rfl, hst⟩
  refine ⟨_, rfl, ?_⟩
  have hS : w.cell? ⟨b1, 0, none⟩ = some (.int .u8 ((w'.getD 0 0#8).toNat : Int)) ∧ w.cell? ⟨b1, 1, none⟩ = some (.int .u8 ((w'.getD 1 0#8).toNat : Int)) ∧ w.cell? ⟨b1, 2, none⟩ = some (.int .u8 ((w'.getD 2 0#8).toNat : Int)) ∧ w.cell? ⟨b1, 3, none⟩ = some (.int .u8 ((w'.getD 3 0#8).toNat : Int)) := ⟨(hst.cellL (.there .here) (getF (f := bu8) (d := 0#8) (by rw [hl_w']; omega))), (hst.cellL (.there .here) (getF (f := bu8) (d := 0#8) (by rw [hl_w']; omega))), (hst.cellL (.there .here) (getF (f := bu8) (d := 0#8) (by rw [hl_w']; omega))), (hst.cellL (.there .here) (getF (f := bu8) (d := 0#8) (by rw [hl_w']; omega)))⟩
  refine ⟨fun _ _ => hS, ?_⟩
  refine RE.only 8 rfl (by kernel_rfl) Wd.a ?_
  refine H.call0 Try.func118 nm118 rfl (map1 (AF_ev rfl (up rfl (up rfl (up rfl (up rfl tp)))))) (Calls.mono (Box_C (w'.getD 2 0#8) r7 h_r7 hst) ?_)
  rintro _ w ⟨rfl, hst⟩
  refine ⟨_, rfl, ?_⟩
  have hS : w.cell? ⟨b1, 0, none⟩ = some (.int .u8 ((w'.getD 0 0#8).toNat : Int)) ∧ w.cell? ⟨b1, 1, none⟩ = some (.int .u8 ((w'.getD 1 0#8).toNat : Int)) ∧ w.cell? ⟨b1, 2, none⟩ = some (.int .u8 ((w'.getD 2 0#8).toNat : Int)) ∧ w.cell? ⟨b1, 3, none⟩ = some (.int .u8 ((w'.getD 3 0#8).toNat : Int)) := ⟨(hst.cellL (.there .here) (getF (f := bu8) (d := 0#8) (by rw [hl_w']; omega))), (hst.cellL (.there .here) (getF (f := bu8) (d := 0#8) (by rw [hl_w']; omega))), (hst.cellL (.there .here) (getF (f := bu8) (d := 0#8) (by rw [hl_w']; omega))), (hst.cellL (.there .here) (getF (f := bu8) (d := 0#8) (by rw [hl_w']; omega)))⟩
  refine ⟨fun _ _ => hS, ?_⟩
  refine RE.only 11 rfl (by kernel_rfl) Wd.a ?_
  refine H.call0 Try.func118 nm118 rfl (map1 (AF_ev rfl (up rfl (up rfl (up rfl tp))))) (Calls.mono (Box_C (w'.getD 3 0#8) r9 h_r9 hst) ?_)
  rintro _ w ⟨rfl, hst⟩
  refine ⟨_, rfl, ?_⟩
  have hS : w.cell? ⟨b1, 0, none⟩ = some (.int .u8 ((w'.getD 0 0#8).toNat : Int)) ∧ w.cell? ⟨b1, 1, none⟩ = some (.int .u8 ((w'.getD 1 0#8).toNat : Int)) ∧ w.cell? ⟨b1, 2, none⟩ = some (.int .u8 ((w'.getD 2 0#8).toNat : Int)) ∧ w.cell? ⟨b1, 3, none⟩ = some (.int .u8 ((w'.getD 3 0#8).toNat : Int)) := ⟨(hst.cellL (.there .here) (getF (f := bu8) (d := 0#8) (by rw [hl_w']; omega))), (hst.cellL (.there .here) (getF (f := bu8) (d := 0#8) (by rw [hl_w']; omega))), (hst.cellL (.there .here) (getF (f := bu8) (d := 0#8) (by rw [hl_w']; omega))), (hst.cellL (.there .here) (getF (f := bu8) (d := 0#8) (by rw [hl_w']; omega)))⟩
  refine ⟨fun _ _ => hS, ?_⟩
  refine RE.only 12 rfl (by kernel_rfl) Wd.a (Hd.value (v := .agg ((([r3, r5, r7, r9] : List (BitVec 8)).map bu8)).toArray) (by exact E.build (vs := #[(0, .int .u8 ((r3).toNat : Int)), (1, .int .u8 ((r5).toNat : Int)), (2, .int .u8 ((r7).toNat : Int)), (3, .int .u8 ((r9).toNat : Int))]) (bld4 (AF_ev rfl (up rfl (up rfl (up rfl tp)))) (AF_ev rfl (up rfl (up rfl tp))) (AF_ev rfl (up rfl tp)) (AF_ev rfl tp)) (by kernel_rfl)) ⟨fun _ h => h, ?_⟩)
  refine RE.only 13 rfl (by kernel_rfl) Wd.a ?_
  refine H.storeL (b := b2) (o := 0) (m := 4) (v := .agg ((([r3, r5, r7, r9] : List (BitVec 8)).map bu8)).toArray) (ys := (([r3, r5, r7, r9] : List (BitVec 8)).map bu8)) (L' := (([r3, r5, r7, r9] : List (BitVec 8)).map bu8)) (AF_ev rfl (up rfl (up rfl (up rfl (up rfl (up rfl (up rfl (up rfl (up rfl (up rfl (up rfl (up rfl (up rfl (up rfl hs2)))))))))))))) (AF_ev rfl tp) hst .here sz156 rfl ((List.length_map _).trans (show ([r3, r5, r7, r9] : List (BitVec 8)).length = 4 from rfl)) (ones_map (fun _ => rfl)) (putW (Eq.trans (show (([r3, r5, r7, r9] : List (BitVec 8)).map bu8).length = 4 from ((List.length_map _).trans (show ([r3, r5, r7, r9] : List (BitVec 8)).length = 4 from rfl))) (Eq.symm (show ((List.replicate 4 0#8).map bu8).length = 4 from ((List.length_map _).trans (List.length_replicate)))))) fun w hst => ?_
  refine ⟨fun h => Bool.noConfusion ((show needs _ _ _ = false by kernel_rfl).symm.trans h), ?_⟩
  refine RE.fin (by kernel_rfl) (fun τ => τ 0 = .agg ((w'.map bu8)).toArray ∧ τ 1 = .pointer (some ⟨b1, 0, none⟩) ∧ τ 2 = .pointer (some ⟨b2, 0, none⟩)) ⟨u0 (up rfl (up rfl (up rfl (up rfl (up rfl (up rfl (up rfl (up rfl (up rfl (up rfl (up rfl (up rfl (up rfl hs0))))))))))))), u0 (up rfl (up rfl (up rfl (up rfl (up rfl (up rfl (up rfl (up rfl (up rfl (up rfl (up rfl (up rfl (up rfl hs1))))))))))))), u0 (up rfl (up rfl (up rfl (up rfl (up rfl (up rfl (up rfl (up rfl (up rfl (up rfl (up rfl (up rfl (up rfl hs2)))))))))))))⟩ ?_
  rintro τ ⟨hs0, hs1, hs2⟩
  refine CW.ret ?_
  refine ret1 (v := .agg ((([r3, r5, r7, r9] : List (BitVec 8)).map bu8)).toArray) rfl (by exact (.cell (AF_ev rfl hs2) (hst.blockAt .here) Try.underlying156 rfl (by rw [List.size_toArray, show ((([r3, r5, r7, r9] : List (BitVec 8)).map bu8)).length = 4 from ((List.length_map _).trans (show ([r3, r5, r7, r9] : List (BitVec 8)).length = 4 from rfl))]; exact sz156) .nil)) ?_
  have hst := (hst.take .here).drop
  have hst := (hst.take .here).drop
  rw [somE hF]
  exact ⟨rfl, (show ([r3, r5, r7, r9] : List (BitVec 8)).length = 4 from rfl), hst⟩

def Round_l4 (s : List (BitVec 8)) (k : List (BitVec 8)) (last : Bool) (i6 : Nat) (j22 : List (BitVec 8)) (rc_Round_l1 : Nat → List (BitVec 8) → Option (List (BitVec 8))) : Nat → Nat → List (BitVec 8) → Option (List (BitVec 8))
  | 0, _, _ => none
  | k31 + 1, i28, m29 =>
    bif decide (((i28 : Nat) : Int) < 4) then
      lt_ (k.getD ((4 * ((i6 : Nat) : Int) + ((i28 : Nat) : Int)).toNat) 0#8) fun u33 =>
      lt_ (m29.set ((4 * ((i6 : Nat) : Int) + ((i28 : Nat) : Int)).toNat) ((j22.getD i28 0#8) ^^^ u33)) fun m34 =>
      Round_l4 s k last i6 j22 rc_Round_l1 k31 (i28 + 1) m34
    else
      rc_Round_l1 (i6 + 1) m29
theorem Round_l4_pos {s : List (BitVec 8)} {k : List (BitVec 8)} {last : Bool} {i6 : Nat} {j22 : List (BitVec 8)} {rc_Round_l1 : Nat → List (BitVec 8) → Option (List (BitVec 8))} {fu_ : Nat} {i28 : Nat} {m29 : List (BitVec 8)} {r : List (BitVec 8)} (h : Round_l4 s k last i6 j22 rc_Round_l1 fu_ i28 m29 = some r) : ∃ j, fu_ = j + 1 := by
  cases fu_ with
  | zero => cases (show (none : Option (List (BitVec 8))) = some r from h)
  | succ j => exact ⟨j, rfl⟩
def Round_j3 (s : List (BitVec 8)) (k : List (BitVec 8)) (last : Bool) (i6 : Nat) (m7 : List (BitVec 8)) (rc_Round_l1 : Nat → List (BitVec 8) → Option (List (BitVec 8))) (j22 : List (BitVec 8)) (j23 : Bool) : Option (List (BitVec 8)) :=
  Round_l4 s k last i6 j22 rc_Round_l1 1099511627776 0 m7
def Round_l2 (s : List (BitVec 8)) (k : List (BitVec 8)) (last : Bool) (i6 : Nat) (m7 : List (BitVec 8)) (rc_Round_l1 : Nat → List (BitVec 8) → Option (List (BitVec 8))) : Nat → Nat → List (BitVec 8) → Option (List (BitVec 8))
  | 0, _, _ => none
  | k16 + 1, i13, m14 =>
    bif decide (((i13 : Nat) : Int) < 4) then
      lt_ (4 * (((i6 : Nat) : Int) + ((i13 : Nat) : Int)) + ((i13 : Nat) : Int)) fun z18 =>
      (Box (s.getD ((z18 % 16).toNat) 0#8)).bind fun r19 =>
      lt_ (m14.set i13 r19) fun m21 =>
      Round_l2 s k last i6 m7 rc_Round_l1 k16 (i13 + 1) m21
    else
      bif !last then
        (Mixed m14).bind fun r25 =>
        Round_j3 s k last i6 m7 rc_Round_l1 r25 true
      else
        Round_j3 s k last i6 m7 rc_Round_l1 m14 false
theorem Round_l2_pos {s : List (BitVec 8)} {k : List (BitVec 8)} {last : Bool} {i6 : Nat} {m7 : List (BitVec 8)} {rc_Round_l1 : Nat → List (BitVec 8) → Option (List (BitVec 8))} {fu_ : Nat} {i13 : Nat} {m14 : List (BitVec 8)} {r : List (BitVec 8)} (h : Round_l2 s k last i6 m7 rc_Round_l1 fu_ i13 m14 = some r) : ∃ j, fu_ = j + 1 := by
  cases fu_ with
  | zero => cases (show (none : Option (List (BitVec 8))) = some r from h)
  | succ j => exact ⟨j, rfl⟩
def Round_l1 (s : List (BitVec 8)) (k : List (BitVec 8)) (last : Bool)  : Nat → Nat → List (BitVec 8) → Option (List (BitVec 8))
  | 0, _, _ => none
  | k9 + 1, i6, m7 =>
    bif decide (((i6 : Nat) : Int) < 4) then
      Round_l2 s k last i6 m7 (fun (i6_ : Nat) (m7_ : List (BitVec 8)) => Round_l1 s k last k9 i6_ m7_) 1099511627776 0 (List.replicate 4 0#8)
    else
      some (m7)
theorem Round_l1_pos {s : List (BitVec 8)} {k : List (BitVec 8)} {last : Bool}  {fu_ : Nat} {i6 : Nat} {m7 : List (BitVec 8)} {r : List (BitVec 8)} (h : Round_l1 s k last fu_ i6 m7 = some r) : ∃ j, fu_ = j + 1 := by
  cases fu_ with
  | zero => cases (show (none : Option (List (BitVec 8))) = some r from h)
  | succ j => exact ⟨j, rfl⟩
def Round (s : List (BitVec 8)) (k : List (BitVec 8)) (last : Bool) : Option (List (BitVec 8)) :=
  Round_l1 s k last 1099511627776 0 (List.replicate 16 0#8)
theorem Round_C {p : Pers} {w : World} {R : List Assn}  (s : List (BitVec 8)) (hl_s : s.length = 16) (k : List (BitVec 8)) (hl_k : k.length = 16) (last : Bool) (r : List (BitVec 8)) (hF : Round s k last = some r) (hst : St p w (R)) :
    Calls Try.prog 105 #[.agg ((s.map bu8)).toArray, .agg ((k.map bu8)).toArray, .bool last] w fun e w => e = .returned (.agg ((r.map bu8)).toArray) ∧ r.length = 16 ∧ St p w (R) := by
  unfold Round at hF
  refine enter Try.func105 rfl (by simp) (n := 56) rfl fun τ hτ => ?_
  have hs0 : τ 0 = .agg ((s.map bu8)).toArray := hτ 0 (by simp)
  have hs1 : τ 1 = .agg ((k.map bu8)).toArray := hτ 1 (by simp)
  have hs2 : τ 2 = .bool last := hτ 2 (by simp)
  clear hτ
  refine CW.seq ?_
  refine CW.region ?_
  refine RW.hard Wd.a ?_
  refine H.box (v := .agg ((s.map bu8)).toArray) (AF_ev rfl hs0) hst fun b1 w hst => ?_
  refine RW.hard Wd.a ?_
  refine H.box (v := .agg ((k.map bu8)).toArray) (AF_ev rfl (up rfl hs1)) hst fun b2 w hst => ?_
  refine RW.hard Wd.a ?_
  refine H.alloc zs119 hst fun b3 w hst => ?_
  refine RW.fin (fun τ => τ 0 = .agg ((s.map bu8)).toArray ∧ τ 1 = .agg ((k.map bu8)).toArray ∧ τ 2 = .bool last ∧ τ 3 = .pointer (some ⟨b1, 0, none⟩) ∧ τ 4 = .pointer (some ⟨b2, 0, none⟩) ∧ τ 6 = .pointer (some ⟨b3, 0, none⟩)) ⟨up rfl (up rfl (up rfl hs0)), up rfl (up rfl (up rfl hs1)), up rfl (up rfl (up rfl hs2)), up rfl (up rfl tp), up rfl tp, tp⟩ ?_
  rintro τ ⟨hs0, hs1, hs2, hs3, hs4, hs6⟩
  refine CW.seq ?_
  refine CW.region ?_
  refine RW.hard Wd.a ?_
  refine H.alloc zs119 hst fun b4 w hst => ?_
  refine RW.fin (fun τ => τ 0 = .agg ((s.map bu8)).toArray ∧ τ 1 = .agg ((k.map bu8)).toArray ∧ τ 2 = .bool last ∧ τ 3 = .pointer (some ⟨b1, 0, none⟩) ∧ τ 4 = .pointer (some ⟨b2, 0, none⟩) ∧ τ 6 = .pointer (some ⟨b3, 0, none⟩) ∧ τ 7 = .pointer (some ⟨b4, 0, none⟩)) ⟨up rfl hs0, up rfl hs1, up rfl hs2, up rfl hs3, up rfl hs4, up rfl hs6, tp⟩ ?_
  rintro τ ⟨hs0, hs1, hs2, hs3, hs4, hs6, hs7⟩
  refine CW.seq ?_
  refine CW.seq ?_
  refine CW.region ?_
  refine RW.soft Wd.a (v := .int .i64 0) (by exact E.move rfl) ?_
  refine RW.fin (fun τ => τ 0 = .agg ((s.map bu8)).toArray ∧ τ 1 = .agg ((k.map bu8)).toArray ∧ τ 2 = .bool last ∧ τ 3 = .pointer (some ⟨b1, 0, none⟩) ∧ τ 4 = .pointer (some ⟨b2, 0, none⟩) ∧ τ 6 = .pointer (some ⟨b3, 0, none⟩) ∧ τ 7 = .pointer (some ⟨b4, 0, none⟩) ∧ τ 12 = .int .i64 0) ⟨up rfl hs0, up rfl hs1, up rfl hs2, up rfl hs3, up rfl hs4, up rfl hs6, up rfl hs7, tp⟩ ?_
  rintro τ ⟨hs0, hs1, hs2, hs3, hs4, hs6, hs7, hs12⟩
  refine CW.block ?_
  refine CW.loop (fun (k8 : Nat) (τ : Fr) (w : World) => ∃ (i6 : Nat) (m7 : List (BitVec 8)), m7.length = 16 ∧ Round_l1 s k last k8 i6 m7 = some r ∧ τ 12 = .int .i64 ((i6 : Nat) : Int) ∧ τ 2 = .bool last ∧ τ 3 = .pointer (some ⟨b1, 0, none⟩) ∧ τ 4 = .pointer (some ⟨b2, 0, none⟩) ∧ τ 6 = .pointer (some ⟨b3, 0, none⟩) ∧ τ 7 = .pointer (some ⟨b4, 0, none⟩) ∧ St p w (pt b4 (.cells ((m7.map bu8)).toArray 119) :: pt b3 (.cells (((List.replicate 16 0#8).map bu8)).toArray 119) :: pt b2 (.cells ((k.map bu8)).toArray 119) :: pt b1 (.cells ((s.map bu8)).toArray 119) :: R)) 1099511627776 ?_ ?_
  · skip
    have hst := hst.take (.there (.there (.there .here)))
    have hst := hst.take (.there (.there (.there .here)))
    have hst := hst.take (.there (.there (.there .here)))
    have hst := hst.take (.there (.there (.there .here)))
    exact ⟨0, (List.replicate 16 0#8), (List.length_replicate), hF, (int_eq (a := 0) hs12 (by omega)), hs2, hs3, hs4, hs6, hs7, hst⟩
  clear hst hF
  rintro k8 τ w ⟨i6, m7, hl_m7, hF, hs12, hs2, hs3, hs4, hs6, hs7, hst⟩
  obtain ⟨k9, rfl⟩ := Round_l1_pos hF
  rw [Round_l1] at hF
  refine CW.seq ?_
  refine CW.region ?_
  refine RW.soft Wd.a (v := .bool (decide (((i6 : Nat) : Int) < 4))) (by exact E.lss (k := .i64) (a := ((i6 : Nat) : Int)) (b := 4) (AF_ev rfl hs12) rfl) ?_
  refine RW.fin (fun τ => τ 2 = .bool last ∧ τ 3 = .pointer (some ⟨b1, 0, none⟩) ∧ τ 4 = .pointer (some ⟨b2, 0, none⟩) ∧ τ 6 = .pointer (some ⟨b3, 0, none⟩) ∧ τ 7 = .pointer (some ⟨b4, 0, none⟩) ∧ τ 12 = .int .i64 ((i6 : Nat) : Int) ∧ τ 13 = .bool (decide (((i6 : Nat) : Int) < 4))) ⟨up rfl hs2, up rfl hs3, up rfl hs4, up rfl hs6, up rfl hs7, up rfl hs12, tp⟩ ?_
  rintro τ ⟨hs2, hs3, hs4, hs6, hs7, hs12, hs13⟩
  refine CW.seq ?_
  refine CW.cond (AF_ev rfl hs13) (fun hc10 => ?_) (fun hc10 => ?_)
  · have hF := ct hc10 hF
    have hc10_ := hc10
    try simp only [decide_eq_true_eq] at hc10_
    refine CW.skip ?_
    refine Th.n ?_
    refine CW.seq ?_
    refine CW.block ?_
    refine CW.seq ?_
    refine CW.region ?_
    refine RW.soft Wd.a (v := .int .i64 ((i6 : Nat) : Int)) (by exact E.move (AF_ev rfl hs12)) ?_
    refine RW.soft Wd.a (v := .int .i64 ((i6 : Nat) : Int)) (by exact E.assign (AF_ev rfl tp)) ?_
    refine RW.fin (fun τ => τ 2 = .bool last ∧ τ 3 = .pointer (some ⟨b1, 0, none⟩) ∧ τ 4 = .pointer (some ⟨b2, 0, none⟩) ∧ τ 6 = .pointer (some ⟨b3, 0, none⟩) ∧ τ 7 = .pointer (some ⟨b4, 0, none⟩) ∧ τ 8 = .int .i64 ((i6 : Nat) : Int) ∧ τ 12 = .int .i64 ((i6 : Nat) : Int) ∧ τ 13 = .bool true) ⟨up rfl (up rfl hs2), up rfl (up rfl hs3), up rfl (up rfl hs4), up rfl (up rfl hs6), up rfl (up rfl hs7), tp, up rfl (up rfl hs12), up rfl (up rfl (Eq.trans hs13 (congrArg Value.bool hc10)))⟩ ?_
    rintro τ ⟨hs2, hs3, hs4, hs6, hs7, hs8, hs12, hs13⟩
    refine CW.seq ?_
    refine CW.region ?_
    refine RW.hard Wd.a ?_
    refine H.alloc zs156 hst fun b11 w hst => ?_
    refine RW.fin (fun τ => τ 2 = .bool last ∧ τ 3 = .pointer (some ⟨b1, 0, none⟩) ∧ τ 4 = .pointer (some ⟨b2, 0, none⟩) ∧ τ 6 = .pointer (some ⟨b3, 0, none⟩) ∧ τ 7 = .pointer (some ⟨b4, 0, none⟩) ∧ τ 8 = .int .i64 ((i6 : Nat) : Int) ∧ τ 9 = .pointer (some ⟨b11, 0, none⟩) ∧ τ 12 = .int .i64 ((i6 : Nat) : Int) ∧ τ 13 = .bool true) ⟨up rfl hs2, up rfl hs3, up rfl hs4, up rfl hs6, up rfl hs7, up rfl hs8, tp, up rfl hs12, up rfl hs13⟩ ?_
    rintro τ ⟨hs2, hs3, hs4, hs6, hs7, hs8, hs9, hs12, hs13⟩
    refine CW.seq ?_
    refine CW.seq ?_
    refine CW.region ?_
    refine RW.soft Wd.a (v := .int .i64 0) (by exact E.move rfl) ?_
    refine RW.fin (fun τ => τ 2 = .bool last ∧ τ 3 = .pointer (some ⟨b1, 0, none⟩) ∧ τ 4 = .pointer (some ⟨b2, 0, none⟩) ∧ τ 6 = .pointer (some ⟨b3, 0, none⟩) ∧ τ 7 = .pointer (some ⟨b4, 0, none⟩) ∧ τ 8 = .int .i64 ((i6 : Nat) : Int) ∧ τ 9 = .pointer (some ⟨b11, 0, none⟩) ∧ τ 12 = .int .i64 ((i6 : Nat) : Int) ∧ τ 13 = .bool true ∧ τ 15 = .int .i64 0) ⟨up rfl hs2, up rfl hs3, up rfl hs4, up rfl hs6, up rfl hs7, up rfl hs8, up rfl hs9, up rfl hs12, up rfl hs13, tp⟩ ?_
    rintro τ ⟨hs2, hs3, hs4, hs6, hs7, hs8, hs9, hs12, hs13, hs15⟩
    refine CW.block ?_
    refine CW.loop (fun (k15 : Nat) (τ : Fr) (w : World) => ∃ (i13 : Nat) (m14 : List (BitVec 8)), m14.length = 4 ∧ Round_l2 s k last i6 m7 (fun (i6_ : Nat) (m7_ : List (BitVec 8)) => Round_l1 s k last k9 i6_ m7_) k15 i13 m14 = some r ∧ τ 15 = .int .i64 ((i13 : Nat) : Int) ∧ τ 2 = .bool last ∧ τ 3 = .pointer (some ⟨b1, 0, none⟩) ∧ τ 4 = .pointer (some ⟨b2, 0, none⟩) ∧ τ 6 = .pointer (some ⟨b3, 0, none⟩) ∧ τ 7 = .pointer (some ⟨b4, 0, none⟩) ∧ τ 8 = .int .i64 ((i6 : Nat) : Int) ∧ τ 9 = .pointer (some ⟨b11, 0, none⟩) ∧ τ 12 = .int .i64 ((i6 : Nat) : Int) ∧ τ 13 = .bool true ∧ St p w (pt b11 (.cells ((m14.map bu8)).toArray 156) :: pt b4 (.cells ((m7.map bu8)).toArray 119) :: pt b3 (.cells (((List.replicate 16 0#8).map bu8)).toArray 119) :: pt b2 (.cells ((k.map bu8)).toArray 119) :: pt b1 (.cells ((s.map bu8)).toArray 119) :: R)) 1099511627776 ?_ ?_
    · skip
      have hst := hst.take (.there (.there (.there (.there .here))))
      have hst := hst.take (.there (.there (.there (.there .here))))
      have hst := hst.take (.there (.there (.there (.there .here))))
      have hst := hst.take (.there (.there (.there (.there .here))))
      have hst := hst.take (.there (.there (.there (.there .here))))
      exact ⟨0, (List.replicate 4 0#8), (List.length_replicate), hF, (int_eq (a := 0) hs15 (by omega)), hs2, hs3, hs4, hs6, hs7, hs8, hs9, hs12, hs13, hst⟩
    clear hst hF
    rintro k15 τ w ⟨i13, m14, hl_m14, hF, hs15, hs2, hs3, hs4, hs6, hs7, hs8, hs9, hs12, hs13, hst⟩
    obtain ⟨k16, rfl⟩ := Round_l2_pos hF
    rw [Round_l2] at hF
    refine CW.seq ?_
    refine CW.region ?_
    refine RW.soft Wd.a (v := .bool (decide (((i13 : Nat) : Int) < 4))) (by exact E.lss (k := .i64) (a := ((i13 : Nat) : Int)) (b := 4) (AF_ev rfl hs15) rfl) ?_
    refine RW.fin (fun τ => τ 2 = .bool last ∧ τ 3 = .pointer (some ⟨b1, 0, none⟩) ∧ τ 4 = .pointer (some ⟨b2, 0, none⟩) ∧ τ 6 = .pointer (some ⟨b3, 0, none⟩) ∧ τ 7 = .pointer (some ⟨b4, 0, none⟩) ∧ τ 8 = .int .i64 ((i6 : Nat) : Int) ∧ τ 9 = .pointer (some ⟨b11, 0, none⟩) ∧ τ 12 = .int .i64 ((i6 : Nat) : Int) ∧ τ 13 = .bool true ∧ τ 15 = .int .i64 ((i13 : Nat) : Int) ∧ τ 16 = .bool (decide (((i13 : Nat) : Int) < 4))) ⟨up rfl hs2, up rfl hs3, up rfl hs4, up rfl hs6, up rfl hs7, up rfl hs8, up rfl hs9, up rfl hs12, up rfl hs13, up rfl hs15, tp⟩ ?_
    rintro τ ⟨hs2, hs3, hs4, hs6, hs7, hs8, hs9, hs12, hs13, hs15, hs16⟩
    refine CW.seq ?_
    refine CW.cond (AF_ev rfl hs16) (fun hc17 => ?_) (fun hc17 => ?_)
    · have hF := ct hc17 hF
      have hc17_ := hc17
      try simp only [decide_eq_true_eq] at hc17_
      refine CW.skip ?_
      refine Th.n ?_
      refine CW.seq ?_
      refine CW.block ?_
      refine CW.seq ?_
      refine CW.region ?_
      refine RW.soft Wd.a (v := .int .i64 ((i13 : Nat) : Int)) (by exact E.move (AF_ev rfl hs15)) ?_
      refine RW.soft Wd.a (v := .int .i64 ((i13 : Nat) : Int)) (by exact E.assign (AF_ev rfl tp)) ?_
      refine RW.fin (fun τ => τ 2 = .bool last ∧ τ 3 = .pointer (some ⟨b1, 0, none⟩) ∧ τ 4 = .pointer (some ⟨b2, 0, none⟩) ∧ τ 6 = .pointer (some ⟨b3, 0, none⟩) ∧ τ 7 = .pointer (some ⟨b4, 0, none⟩) ∧ τ 8 = .int .i64 ((i6 : Nat) : Int) ∧ τ 9 = .pointer (some ⟨b11, 0, none⟩) ∧ τ 10 = .int .i64 ((i13 : Nat) : Int) ∧ τ 12 = .int .i64 ((i6 : Nat) : Int) ∧ τ 13 = .bool true ∧ τ 15 = .int .i64 ((i13 : Nat) : Int) ∧ τ 16 = .bool true) ⟨up rfl (up rfl hs2), up rfl (up rfl hs3), up rfl (up rfl hs4), up rfl (up rfl hs6), up rfl (up rfl hs7), up rfl (up rfl hs8), up rfl (up rfl hs9), tp, up rfl (up rfl hs12), up rfl (up rfl hs13), up rfl (up rfl hs15), up rfl (up rfl (Eq.trans hs16 (congrArg Value.bool hc17)))⟩ ?_
      rintro τ ⟨hs2, hs3, hs4, hs6, hs7, hs8, hs9, hs10, hs12, hs13, hs15, hs16⟩
      refine CW.region ?_
      refine RW.soft Wd.a (v := .int .i64 ((i13 : Nat) : Int)) (by exact E.move (AF_ev rfl hs10)) ?_
      refine RW.soft Wd.a (v := .int .i64 ((i6 : Nat) : Int)) (by exact E.move (AF_ev rfl (up rfl hs8))) ?_
      refine RW.soft Wd.a (v := .int .i64 ((i13 : Nat) : Int)) (by exact E.move (AF_ev rfl (up rfl (up rfl hs10)))) ?_
      refine RW.soft Wd.a (v := .int .i64 (((i6 : Nat) : Int) + ((i13 : Nat) : Int))) (by exact E.add (k := .i64) (a := ((i6 : Nat) : Int)) (b := ((i13 : Nat) : Int)) (AF_ev rfl (up rfl tp)) (AF_ev rfl tp) (show IntKind.i64.wrap (((i6 : Nat) : Int) + ((i13 : Nat) : Int)) = ((i6 : Nat) : Int) + ((i13 : Nat) : Int) from (by rw [IntWalk.i64_in _ (by omega)]))) ?_
      refine RW.soft Wd.a (v := .int .i64 (4 * (((i6 : Nat) : Int) + ((i13 : Nat) : Int)))) (by exact E.mul (k := .i64) (a := 4) (b := ((i6 : Nat) : Int) + ((i13 : Nat) : Int)) rfl (AF_ev rfl tp) (show IntKind.i64.wrap (4 * (((i6 : Nat) : Int) + ((i13 : Nat) : Int))) = 4 * (((i6 : Nat) : Int) + ((i13 : Nat) : Int)) from (by rw [IntWalk.i64_in _ (by omega)]))) ?_
      refine RW.soft Wd.a (v := .int .i64 ((i13 : Nat) : Int)) (by exact E.move (AF_ev rfl (up rfl (up rfl (up rfl (up rfl (up rfl hs10))))))) ?_
      obtain ⟨z18, h_z18, hF⟩ := lp hF
      have hr_z18 : -9223372036854775808 ≤ z18 ∧ z18 ≤ 9223372036854775807 := by rw [h_z18]; exact (by omega)
      refine RW.soft Wd.a (v := .int .i64 z18) (by exact E.v (E.add (k := .i64) (a := 4 * (((i6 : Nat) : Int) + ((i13 : Nat) : Int))) (b := ((i13 : Nat) : Int)) (AF_ev rfl (up rfl tp)) (AF_ev rfl tp) (show IntKind.i64.wrap ((4 * (((i6 : Nat) : Int) + ((i13 : Nat) : Int))) + ((i13 : Nat) : Int)) = 4 * (((i6 : Nat) : Int) + ((i13 : Nat) : Int)) + ((i13 : Nat) : Int) from (by rw [IntWalk.i64_in _ (by omega)] <;> omega))) (by first | (rw [h_z18]; done) | (rw [h_z18]; rfl))) ?_
      refine RW.soft Wd.a (v := .int .i64 (z18 % 16)) (by exact E.rem (k := .i64) (a := z18) (b := 16) (AF_ev rfl tp) rfl (by omega) (by exact Int.tmod_eq_emod_of_nonneg (by omega))) ?_
      refine RW.soft Wd.a (v := .pointer (some ⟨b1, (z18 % 16).toNat, none⟩)) (by exact E.indexAddrA (b := b1) (o := 0) (i := z18 % 16) Try.underlying119 sz5 (AF_ev rfl (up rfl (up rfl (up rfl (up rfl (up rfl (up rfl (up rfl (up rfl hs3))))))))) (AF_ev rfl tp) (by omega) (by omega) (by omega)) ?_
      refine RW.soft Wd.a (v := .int .u8 ((s.getD ((z18 % 16).toNat) 0#8).toNat : Int)) (by exact E.load (a := ⟨b1, (z18 % 16).toNat, none⟩) Try.underlying5 rfl (AF_ev rfl tp) (hst.cellL (.there (.there (.there (.there .here)))) (getF (f := bu8) (d := 0#8) (by rw [hl_s]; omega)))) ?_
      obtain ⟨r19, h_r19, hF⟩ := bd hF
      refine RW.hard Wd.a ?_
      refine H.call0 Try.func118 nm118 rfl (map1 (AF_ev rfl tp)) (Calls.mono (Box_C (s.getD ((z18 % 16).toNat) 0#8) r19 h_r19 hst) ?_)
      rintro _ w ⟨rfl, hst⟩
      refine ⟨_, rfl, ?_⟩
      show RW _ _ _ _ _ _ _
      refine RW.soft Wd.a (v := .pointer (some ⟨b11, i13, none⟩)) (by exact E.indexAddrA (b := b11) (o := 0) (i := ((i13 : Nat) : Int)) Try.underlying156 sz5 (AF_ev rfl (up rfl (up rfl (up rfl (up rfl (up rfl (up rfl (up rfl (up rfl (up rfl (up rfl (up rfl hs9)))))))))))) (AF_ev rfl (up rfl (up rfl (up rfl (up rfl (up rfl (up rfl (up rfl (up rfl (up rfl (up rfl tp))))))))))) (by omega) (by omega) (by omega)) ?_
      obtain ⟨m21, h_m21, hF⟩ := lp hF
      have hl_m21 : m21.length = 4 := by rw [h_m21, List.length_set]; exact hl_m14
      refine RW.hard Wd.a ?_
      refine H.storeL (b := b11) (o := i13) (m := 1) (v := .int .u8 ((r19).toNat : Int)) (ys := [bu8 r19]) (L' := (m21.map bu8)) (AF_ev rfl tp) (AF_ev rfl (up rfl tp)) hst .here sz5 rfl rfl (ones1 rfl) (by rw [h_m21]; exact putF (by rw [hl_m14]; omega)) fun w hst => ?_
      refine RW.nil ?_
      refine Bl.n ?_
      refine Th.n ?_
      refine CW.region ?_
      refine RW.soft Wd.a (v := .int .i64 (((i13 : Nat) : Int) + 1)) (by exact E.add (k := .i64) (a := ((i13 : Nat) : Int)) (b := 1) (AF_ev rfl (u0 (up rfl (up rfl (up rfl (up rfl (up rfl (up rfl (up rfl (up rfl (up rfl (up rfl (up rfl (up rfl hs15)))))))))))))) rfl (show IntKind.i64.wrap (((i13 : Nat) : Int) + 1) = ((i13 : Nat) : Int) + 1 from (by rw [IntWalk.i64_in _ (by omega)]))) ?_
      refine RW.soft Wd.a (v := .int .i64 (((i13 : Nat) : Int) + 1)) (by exact E.move (AF_ev rfl tp)) ?_
      refine RW.nil ?_
      refine Th.n ?_
      have hst := hst.take (.there (.there (.there (.there .here))))
      have hst := hst.take (.there (.there (.there (.there .here))))
      have hst := hst.take (.there (.there (.there (.there .here))))
      have hst := hst.take (.there (.there (.there (.there .here))))
      have hst := hst.take (.there (.there (.there (.there .here))))
      exact ⟨k16, Nat.lt_succ_self _, (i13 + 1), m21, hl_m21, hF, (int_eq (a := ((i13 : Nat) : Int) + 1) tp (by omega)), up rfl (up rfl (u0 (up rfl (up rfl (up rfl (up rfl (up rfl (up rfl (up rfl (up rfl (up rfl (up rfl (up rfl (up rfl hs2)))))))))))))), up rfl (up rfl (u0 (up rfl (up rfl (up rfl (up rfl (up rfl (up rfl (up rfl (up rfl (up rfl (up rfl (up rfl (up rfl hs3)))))))))))))), up rfl (up rfl (u0 (up rfl (up rfl (up rfl (up rfl (up rfl (up rfl (up rfl (up rfl (up rfl (up rfl (up rfl (up rfl hs4)))))))))))))), up rfl (up rfl (u0 (up rfl (up rfl (up rfl (up rfl (up rfl (up rfl (up rfl (up rfl (up rfl (up rfl (up rfl (up rfl hs6)))))))))))))), up rfl (up rfl (u0 (up rfl (up rfl (up rfl (up rfl (up rfl (up rfl (up rfl (up rfl (up rfl (up rfl (up rfl (up rfl hs7)))))))))))))), up rfl (up rfl (u0 (up rfl (up rfl (up rfl (up rfl (up rfl (up rfl (up rfl (up rfl (up rfl (up rfl (up rfl (up rfl hs8)))))))))))))), up rfl (up rfl (u0 (up rfl (up rfl (up rfl (up rfl (up rfl (up rfl (up rfl (up rfl (up rfl (up rfl (up rfl (up rfl hs9)))))))))))))), up rfl (up rfl (u0 (up rfl (up rfl (up rfl (up rfl (up rfl (up rfl (up rfl (up rfl (up rfl (up rfl (up rfl (up rfl hs12)))))))))))))), up rfl (up rfl (u0 (up rfl (up rfl (up rfl (up rfl (up rfl (up rfl (up rfl (up rfl (up rfl (up rfl (up rfl (up rfl hs13)))))))))))))), hst⟩
    · have hF := cf hc17 hF
      have hc17_ := hc17
      try simp only [decide_eq_false_iff_not, Int.not_lt, Int.not_le, gt_iff_lt, ge_iff_le] at hc17_
      refine CW.exit ?_
      refine Th.x ?_
      refine Th.x ?_
      refine Bl.x ?_
      refine Th.n ?_
      refine CW.seqJ (fun τ w => ∃ (j22 : List (BitVec 8)) (j23 : Bool), j22.length = 4 ∧ Round_j3 s k last i6 m7 (fun (i6_ : Nat) (m7_ : List (BitVec 8)) => Round_l1 s k last k9 i6_ m7_) j22 j23 = some r ∧ τ 2 = .bool last ∧ τ 3 = .pointer (some ⟨b1, 0, none⟩) ∧ τ 4 = .pointer (some ⟨b2, 0, none⟩) ∧ τ 6 = .pointer (some ⟨b3, 0, none⟩) ∧ τ 7 = .pointer (some ⟨b4, 0, none⟩) ∧ τ 8 = .int .i64 ((i6 : Nat) : Int) ∧ τ 9 = .pointer (some ⟨b11, 0, none⟩) ∧ τ 12 = .int .i64 ((i6 : Nat) : Int) ∧ τ 13 = .bool true ∧ τ 15 = .int .i64 ((i13 : Nat) : Int) ∧ τ 16 = .bool false ∧ τ 32 = .bool j23 ∧ St p w (pt b11 (.cells ((j22.map bu8)).toArray 156) :: pt b4 (.cells ((m7.map bu8)).toArray 119) :: pt b3 (.cells (((List.replicate 16 0#8).map bu8)).toArray 119) :: pt b2 (.cells ((k.map bu8)).toArray 119) :: pt b1 (.cells ((s.map bu8)).toArray 119) :: R)) ?_ ?_
      · skip
        refine CW.seq ?_
        refine CW.region ?_
        refine RW.soft Wd.a (v := .bool last) (by exact E.move (AF_ev rfl hs2)) ?_
        refine RW.soft Wd.a (v := .bool (!last)) (by exact E.not (b := last) (AF_ev rfl tp)) ?_
        refine RW.fin (fun τ => τ 2 = .bool last ∧ τ 3 = .pointer (some ⟨b1, 0, none⟩) ∧ τ 4 = .pointer (some ⟨b2, 0, none⟩) ∧ τ 6 = .pointer (some ⟨b3, 0, none⟩) ∧ τ 7 = .pointer (some ⟨b4, 0, none⟩) ∧ τ 8 = .int .i64 ((i6 : Nat) : Int) ∧ τ 9 = .pointer (some ⟨b11, 0, none⟩) ∧ τ 12 = .int .i64 ((i6 : Nat) : Int) ∧ τ 13 = .bool true ∧ τ 15 = .int .i64 ((i13 : Nat) : Int) ∧ τ 16 = .bool false ∧ τ 32 = .bool (!last)) ⟨up rfl (up rfl hs2), up rfl (up rfl hs3), up rfl (up rfl hs4), up rfl (up rfl hs6), up rfl (up rfl hs7), up rfl (up rfl hs8), up rfl (up rfl hs9), up rfl (up rfl hs12), up rfl (up rfl hs13), up rfl (up rfl hs15), up rfl (up rfl (Eq.trans hs16 (congrArg Value.bool hc17))), tp⟩ ?_
        rintro τ ⟨hs2, hs3, hs4, hs6, hs7, hs8, hs9, hs12, hs13, hs15, hs16, hs32⟩
        refine CW.cond (AF_ev rfl hs32) (fun hc24 => ?_) (fun hc24 => ?_)
        · have hF := ct hc24 hF
          have hc24_ := hc24
          try simp only [Bool.not_eq_true', Bool.not_eq_false'] at hc24_
          refine CW.region ?_
          refine RW.soft Wd.a (v := .agg ((m14.map bu8)).toArray) (by exact E.loadN (b := b11) (o := 0) (cs := (m14.map bu8)) Try.underlying156 rfl sz156 (AF_ev rfl hs9) ((List.length_map _).trans hl_m14) (St.cellsOf hst .here allF)) ?_
          obtain ⟨r25, h_r25, hF⟩ := bd hF
          refine RW.hard Wd.a ?_
          refine H.call0 Try.func119 nm119 rfl (map1 (AF_ev rfl tp)) (Calls.mono (Mixed_C m14 hl_m14 r25 h_r25 hst) ?_)
          rintro _ w ⟨rfl, hl_q26_0, hst⟩
          refine ⟨_, rfl, ?_⟩
          show RW _ _ _ _ _ _ _
          refine RW.hard Wd.a ?_
          refine H.storeL (b := b11) (o := 0) (m := 4) (v := .agg ((r25.map bu8)).toArray) (ys := (r25.map bu8)) (L' := (r25.map bu8)) (AF_ev rfl (up rfl (up rfl hs9))) (AF_ev rfl tp) hst .here sz156 rfl ((List.length_map _).trans hl_q26_0) (ones_map (fun _ => rfl)) (putW (Eq.trans (show (r25.map bu8).length = 4 from ((List.length_map _).trans hl_q26_0)) (Eq.symm (show (m14.map bu8).length = 4 from ((List.length_map _).trans hl_m14))))) fun w hst => ?_
          refine RW.nil ?_
          refine Th.n ?_
          have hst := hst.take (.there (.there (.there (.there .here))))
          have hst := hst.take (.there (.there (.there (.there .here))))
          have hst := hst.take (.there (.there (.there (.there .here))))
          have hst := hst.take (.there (.there (.there (.there .here))))
          have hst := hst.take (.there (.there (.there (.there .here))))
          exact ⟨r25, true, hl_q26_0, hF, u0 (up rfl (up rfl hs2)), u0 (up rfl (up rfl hs3)), u0 (up rfl (up rfl hs4)), u0 (up rfl (up rfl hs6)), u0 (up rfl (up rfl hs7)), u0 (up rfl (up rfl hs8)), u0 (up rfl (up rfl hs9)), u0 (up rfl (up rfl hs12)), u0 (up rfl (up rfl hs13)), u0 (up rfl (up rfl hs15)), u0 (up rfl (up rfl hs16)), u0 (up rfl (up rfl (Eq.trans hs32 (congrArg Value.bool hc24)))), hst⟩
        · have hF := cf hc24 hF
          have hc24_ := hc24
          try simp only [Bool.not_eq_true', Bool.not_eq_false'] at hc24_
          refine CW.skip ?_
          refine Th.n ?_
          have hst := hst.take (.there (.there (.there (.there .here))))
          have hst := hst.take (.there (.there (.there (.there .here))))
          have hst := hst.take (.there (.there (.there (.there .here))))
          have hst := hst.take (.there (.there (.there (.there .here))))
          have hst := hst.take (.there (.there (.there (.there .here))))
          exact ⟨m14, false, hl_m14, hF, hs2, hs3, hs4, hs6, hs7, hs8, hs9, hs12, hs13, hs15, hs16, (Eq.trans hs32 (congrArg Value.bool hc24)), hst⟩
      rintro τ w ⟨j22, j23, hl_j22, hF, hs2, hs3, hs4, hs6, hs7, hs8, hs9, hs12, hs13, hs15, hs16, hs32, hst⟩
      unfold Round_j3 at hF
      refine CW.seq ?_
      refine CW.region ?_
      refine RW.soft Wd.a (v := .int .i64 0) (by exact E.move rfl) ?_
      refine RW.fin (fun τ => τ 2 = .bool last ∧ τ 3 = .pointer (some ⟨b1, 0, none⟩) ∧ τ 4 = .pointer (some ⟨b2, 0, none⟩) ∧ τ 6 = .pointer (some ⟨b3, 0, none⟩) ∧ τ 7 = .pointer (some ⟨b4, 0, none⟩) ∧ τ 8 = .int .i64 ((i6 : Nat) : Int) ∧ τ 9 = .pointer (some ⟨b11, 0, none⟩) ∧ τ 12 = .int .i64 ((i6 : Nat) : Int) ∧ τ 13 = .bool true ∧ τ 15 = .int .i64 ((i13 : Nat) : Int) ∧ τ 16 = .bool false ∧ τ 32 = .bool j23 ∧ τ 35 = .int .i64 0) ⟨up rfl hs2, up rfl hs3, up rfl hs4, up rfl hs6, up rfl hs7, up rfl hs8, up rfl hs9, up rfl hs12, up rfl hs13, up rfl hs15, up rfl hs16, up rfl hs32, tp⟩ ?_
      rintro τ ⟨hs2, hs3, hs4, hs6, hs7, hs8, hs9, hs12, hs13, hs15, hs16, hs32, hs35⟩
      refine CW.block ?_
      refine CW.loop (fun (k30 : Nat) (τ : Fr) (w : World) => ∃ (i28 : Nat) (m29 : List (BitVec 8)), m29.length = 16 ∧ Round_l4 s k last i6 j22 (fun (i6_ : Nat) (m7_ : List (BitVec 8)) => Round_l1 s k last k9 i6_ m7_) k30 i28 m29 = some r ∧ τ 35 = .int .i64 ((i28 : Nat) : Int) ∧ τ 2 = .bool last ∧ τ 3 = .pointer (some ⟨b1, 0, none⟩) ∧ τ 4 = .pointer (some ⟨b2, 0, none⟩) ∧ τ 6 = .pointer (some ⟨b3, 0, none⟩) ∧ τ 7 = .pointer (some ⟨b4, 0, none⟩) ∧ τ 8 = .int .i64 ((i6 : Nat) : Int) ∧ τ 9 = .pointer (some ⟨b11, 0, none⟩) ∧ τ 12 = .int .i64 ((i6 : Nat) : Int) ∧ τ 13 = .bool true ∧ τ 15 = .int .i64 ((i13 : Nat) : Int) ∧ τ 16 = .bool false ∧ τ 32 = .bool j23 ∧ St p w (pt b11 (.cells ((j22.map bu8)).toArray 156) :: pt b4 (.cells ((m29.map bu8)).toArray 119) :: pt b3 (.cells (((List.replicate 16 0#8).map bu8)).toArray 119) :: pt b2 (.cells ((k.map bu8)).toArray 119) :: pt b1 (.cells ((s.map bu8)).toArray 119) :: R)) 1099511627776 ?_ ?_
      · skip
        have hst := hst.take (.there (.there (.there (.there .here))))
        have hst := hst.take (.there (.there (.there (.there .here))))
        have hst := hst.take (.there (.there (.there (.there .here))))
        have hst := hst.take (.there (.there (.there (.there .here))))
        have hst := hst.take (.there (.there (.there (.there .here))))
        exact ⟨0, m7, hl_m7, hF, (int_eq (a := 0) hs35 (by omega)), hs2, hs3, hs4, hs6, hs7, hs8, hs9, hs12, hs13, hs15, hs16, hs32, hst⟩
      clear hst hF
      rintro k30 τ w ⟨i28, m29, hl_m29, hF, hs35, hs2, hs3, hs4, hs6, hs7, hs8, hs9, hs12, hs13, hs15, hs16, hs32, hst⟩
      obtain ⟨k31, rfl⟩ := Round_l4_pos hF
      rw [Round_l4] at hF
      refine CW.seq ?_
      refine CW.region ?_
      refine RW.soft Wd.a (v := .bool (decide (((i28 : Nat) : Int) < 4))) (by exact E.lss (k := .i64) (a := ((i28 : Nat) : Int)) (b := 4) (AF_ev rfl hs35) rfl) ?_
      refine RW.fin (fun τ => τ 2 = .bool last ∧ τ 3 = .pointer (some ⟨b1, 0, none⟩) ∧ τ 4 = .pointer (some ⟨b2, 0, none⟩) ∧ τ 6 = .pointer (some ⟨b3, 0, none⟩) ∧ τ 7 = .pointer (some ⟨b4, 0, none⟩) ∧ τ 8 = .int .i64 ((i6 : Nat) : Int) ∧ τ 9 = .pointer (some ⟨b11, 0, none⟩) ∧ τ 12 = .int .i64 ((i6 : Nat) : Int) ∧ τ 13 = .bool true ∧ τ 15 = .int .i64 ((i13 : Nat) : Int) ∧ τ 16 = .bool false ∧ τ 32 = .bool j23 ∧ τ 35 = .int .i64 ((i28 : Nat) : Int) ∧ τ 36 = .bool (decide (((i28 : Nat) : Int) < 4))) ⟨up rfl hs2, up rfl hs3, up rfl hs4, up rfl hs6, up rfl hs7, up rfl hs8, up rfl hs9, up rfl hs12, up rfl hs13, up rfl hs15, up rfl hs16, up rfl hs32, up rfl hs35, tp⟩ ?_
      rintro τ ⟨hs2, hs3, hs4, hs6, hs7, hs8, hs9, hs12, hs13, hs15, hs16, hs32, hs35, hs36⟩
      refine CW.seq ?_
      refine CW.cond (AF_ev rfl hs36) (fun hc32 => ?_) (fun hc32 => ?_)
      · have hF := ct hc32 hF
        have hc32_ := hc32
        try simp only [decide_eq_true_eq] at hc32_
        refine CW.skip ?_
        refine Th.n ?_
        refine CW.seq ?_
        refine CW.block ?_
        refine CW.seq ?_
        refine CW.region ?_
        refine RW.soft Wd.a (v := .int .i64 ((i28 : Nat) : Int)) (by exact E.move (AF_ev rfl hs35)) ?_
        refine RW.soft Wd.a (v := .int .i64 ((i28 : Nat) : Int)) (by exact E.assign (AF_ev rfl tp)) ?_
        refine RW.fin (fun τ => τ 2 = .bool last ∧ τ 3 = .pointer (some ⟨b1, 0, none⟩) ∧ τ 4 = .pointer (some ⟨b2, 0, none⟩) ∧ τ 6 = .pointer (some ⟨b3, 0, none⟩) ∧ τ 7 = .pointer (some ⟨b4, 0, none⟩) ∧ τ 8 = .int .i64 ((i6 : Nat) : Int) ∧ τ 9 = .pointer (some ⟨b11, 0, none⟩) ∧ τ 11 = .int .i64 ((i28 : Nat) : Int) ∧ τ 12 = .int .i64 ((i6 : Nat) : Int) ∧ τ 13 = .bool true ∧ τ 15 = .int .i64 ((i13 : Nat) : Int) ∧ τ 16 = .bool false ∧ τ 32 = .bool j23 ∧ τ 35 = .int .i64 ((i28 : Nat) : Int) ∧ τ 36 = .bool true) ⟨up rfl (up rfl hs2), up rfl (up rfl hs3), up rfl (up rfl hs4), up rfl (up rfl hs6), up rfl (up rfl hs7), up rfl (up rfl hs8), up rfl (up rfl hs9), tp, up rfl (up rfl hs12), up rfl (up rfl hs13), up rfl (up rfl hs15), up rfl (up rfl hs16), up rfl (up rfl hs32), up rfl (up rfl hs35), up rfl (up rfl (Eq.trans hs36 (congrArg Value.bool hc32)))⟩ ?_
        rintro τ ⟨hs2, hs3, hs4, hs6, hs7, hs8, hs9, hs11, hs12, hs13, hs15, hs16, hs32, hs35, hs36⟩
        obtain ⟨u33, h_u33, hF⟩ := lp hF
        obtain ⟨m34, h_m34, hF⟩ := lp hF
        have hl_m34 : m34.length = 16 := by rw [h_m34, List.length_set]; exact hl_m29
        refine CW.regionE [6, 12] (fun w => w.cell? ⟨b11, i28, none⟩ = some (.int .u8 ((j22.getD i28 0#8).toNat : Int)) ∧ w.cell? ⟨b2, (4 * ((i6 : Nat) : Int) + ((i28 : Nat) : Int)).toNat, none⟩ = some (.int .u8 ((k.getD ((4 * ((i6 : Nat) : Int) + ((i28 : Nat) : Int)).toNat) 0#8).toNat : Int))) mixed ?_
        have hst := hst.drew
        generalize w.drew = w at hst ⊢
        have hS : w.cell? ⟨b11, i28, none⟩ = some (.int .u8 ((j22.getD i28 0#8).toNat : Int)) ∧ w.cell? ⟨b2, (4 * ((i6 : Nat) : Int) + ((i28 : Nat) : Int)).toNat, none⟩ = some (.int .u8 ((k.getD ((4 * ((i6 : Nat) : Int) + ((i28 : Nat) : Int)).toNat) 0#8).toNat : Int)) := ⟨(hst.cellL .here (getF (f := bu8) (d := 0#8) (by rw [hl_j22]; omega))), (hst.cellL (.there (.there (.there .here))) (getF (f := bu8) (d := 0#8) (by rw [hl_k]; omega)))⟩
        refine RE.takeF 0 rfl (by kernel_rfl) Wd.a (v := .int .i64 ((i6 : Nat) : Int)) (fun w => by exact E.move (AF_ev rfl hs8)) ?_
        refine RE.takeF 1 rfl (by kernel_rfl) Wd.a (v := .int .i64 (4 * ((i6 : Nat) : Int))) (fun w => by exact E.mul (k := .i64) (a := 4) (b := ((i6 : Nat) : Int)) rfl (AF_ev rfl tp) (show IntKind.i64.wrap (4 * ((i6 : Nat) : Int)) = 4 * ((i6 : Nat) : Int) from (by rw [IntWalk.i64_in _ (by omega)]))) ?_
        refine RE.takeF 2 rfl (by kernel_rfl) Wd.a (v := .int .i64 ((i28 : Nat) : Int)) (fun w => by exact E.move (AF_ev rfl (up rfl (up rfl hs11)))) ?_
        refine RE.takeF 3 rfl (by kernel_rfl) Wd.a (v := .int .i64 (4 * ((i6 : Nat) : Int) + ((i28 : Nat) : Int))) (fun w => by exact E.add (k := .i64) (a := 4 * ((i6 : Nat) : Int)) (b := ((i28 : Nat) : Int)) (AF_ev rfl (up rfl tp)) (AF_ev rfl tp) (show IntKind.i64.wrap ((4 * ((i6 : Nat) : Int)) + ((i28 : Nat) : Int)) = 4 * ((i6 : Nat) : Int) + ((i28 : Nat) : Int) from (by rw [IntWalk.i64_in _ (by omega)] <;> omega))) ?_
        refine RE.takeF 4 rfl (by kernel_rfl) Wd.a (v := .int .i64 ((i28 : Nat) : Int)) (fun w => by exact E.move (AF_ev rfl (up rfl (up rfl (up rfl (up rfl hs11)))))) ?_
        refine RE.takeF 5 rfl (by kernel_rfl) Wd.a (v := .pointer (some ⟨b11, i28, none⟩)) (fun w => by exact E.indexAddrA (b := b11) (o := 0) (i := ((i28 : Nat) : Int)) Try.underlying156 sz5 (AF_ev rfl (up rfl (up rfl (up rfl (up rfl (up rfl hs9)))))) (AF_ev rfl tp) (by omega) (by omega) (by omega)) ?_
        refine RE.take 6 rfl (by kernel_rfl) Wd.a (v := .int .u8 ((j22.getD i28 0#8).toNat : Int)) (fun w hS => by exact E.load (a := ⟨b11, i28, none⟩) Try.underlying5 rfl (AF_ev rfl tp) hS.1) hS ?_
        refine RE.takeF 7 rfl (by kernel_rfl) Wd.a (v := .int .i64 ((i6 : Nat) : Int)) (fun w => by exact E.move (AF_ev rfl (up rfl (up rfl (up rfl (up rfl (up rfl (up rfl (up rfl hs8))))))))) ?_
        refine RE.takeF 8 rfl (by kernel_rfl) Wd.a (v := .int .i64 (4 * ((i6 : Nat) : Int))) (fun w => by exact E.mul (k := .i64) (a := 4) (b := ((i6 : Nat) : Int)) rfl (AF_ev rfl tp) (show IntKind.i64.wrap (4 * ((i6 : Nat) : Int)) = 4 * ((i6 : Nat) : Int) from (by rw [IntWalk.i64_in _ (by omega)]))) ?_
        refine RE.takeF 9 rfl (by kernel_rfl) Wd.a (v := .int .i64 ((i28 : Nat) : Int)) (fun w => by exact E.move (AF_ev rfl (up rfl (up rfl (up rfl (up rfl (up rfl (up rfl (up rfl (up rfl (up rfl hs11))))))))))) ?_
        refine RE.takeF 10 rfl (by kernel_rfl) Wd.a (v := .int .i64 (4 * ((i6 : Nat) : Int) + ((i28 : Nat) : Int))) (fun w => by exact E.add (k := .i64) (a := 4 * ((i6 : Nat) : Int)) (b := ((i28 : Nat) : Int)) (AF_ev rfl (up rfl tp)) (AF_ev rfl tp) (show IntKind.i64.wrap ((4 * ((i6 : Nat) : Int)) + ((i28 : Nat) : Int)) = 4 * ((i6 : Nat) : Int) + ((i28 : Nat) : Int) from (by rw [IntWalk.i64_in _ (by omega)] <;> omega))) ?_
        refine RE.takeF 11 rfl (by kernel_rfl) Wd.a (v := .pointer (some ⟨b2, (4 * ((i6 : Nat) : Int) + ((i28 : Nat) : Int)).toNat, none⟩)) (fun w => by exact E.indexAddrA (b := b2) (o := 0) (i := 4 * ((i6 : Nat) : Int) + ((i28 : Nat) : Int)) Try.underlying119 sz5 (AF_ev rfl (up rfl (up rfl (up rfl (up rfl (up rfl (up rfl (up rfl (up rfl (up rfl (up rfl (up rfl hs4)))))))))))) (AF_ev rfl tp) (by omega) (by omega) (by omega)) ?_
        refine RE.take 12 rfl (by kernel_rfl) Wd.a (v := .int .u8 ((u33).toNat : Int)) (fun w hS => by exact E.v (E.load (a := ⟨b2, (4 * ((i6 : Nat) : Int) + ((i28 : Nat) : Int)).toNat, none⟩) Try.underlying5 rfl (AF_ev rfl tp) hS.2) (by first | (rw [h_u33]; done) | (rw [h_u33]; rfl))) hS ?_
        refine RE.takeF 13 rfl (by kernel_rfl) Wd.a (v := .int .u8 (((j22.getD i28 0#8) ^^^ u33).toNat : Int)) (fun w => by exact E.uxor (a := j22.getD i28 0#8) (b := u33) UK.u8 (AF_ev rfl (up rfl (up rfl (up rfl (up rfl (up rfl (up rfl tp))))))) (AF_ev rfl tp)) ?_
        refine RE.takeF 14 rfl (by kernel_rfl) Wd.a (v := .pointer (some ⟨b4, (4 * ((i6 : Nat) : Int) + ((i28 : Nat) : Int)).toNat, none⟩)) (fun w => by exact E.indexAddrA (b := b4) (o := 0) (i := 4 * ((i6 : Nat) : Int) + ((i28 : Nat) : Int)) Try.underlying119 sz5 (AF_ev rfl (up rfl (up rfl (up rfl (up rfl (up rfl (up rfl (up rfl (up rfl (up rfl (up rfl (up rfl (up rfl (up rfl (up rfl hs7))))))))))))))) (AF_ev rfl (up rfl (up rfl (up rfl (up rfl (up rfl (up rfl (up rfl (up rfl (up rfl (up rfl tp))))))))))) (by omega) (by omega) (by omega)) ?_
        refine RE.only 15 rfl (by kernel_rfl) Wd.a ?_
        refine H.storeL (b := b4) (o := (4 * ((i6 : Nat) : Int) + ((i28 : Nat) : Int)).toNat) (m := 1) (v := .int .u8 (((j22.getD i28 0#8) ^^^ u33).toNat : Int)) (ys := [bu8 ((j22.getD i28 0#8) ^^^ u33)]) (L' := (m34.map bu8)) (AF_ev rfl tp) (AF_ev rfl (up rfl tp)) hst (.there .here) sz5 rfl rfl (ones1 rfl) (by rw [h_m34]; exact putF (by rw [hl_m29]; omega)) fun w hst => ?_
        refine ⟨fun h => Bool.noConfusion ((show needs _ _ _ = false by kernel_rfl).symm.trans h), ?_⟩
        refine RE.done (by kernel_rfl) ?_
        refine Bl.n ?_
        refine Th.n ?_
        refine CW.region ?_
        refine RW.soft Wd.a (v := .int .i64 (((i28 : Nat) : Int) + 1)) (by exact E.add (k := .i64) (a := ((i28 : Nat) : Int)) (b := 1) (AF_ev rfl (u0 (up rfl (up rfl (up rfl (up rfl (up rfl (up rfl (up rfl (up rfl (up rfl (up rfl (up rfl (up rfl (up rfl (up rfl (up rfl hs35))))))))))))))))) rfl (show IntKind.i64.wrap (((i28 : Nat) : Int) + 1) = ((i28 : Nat) : Int) + 1 from (by rw [IntWalk.i64_in _ (by omega)]))) ?_
        refine RW.soft Wd.a (v := .int .i64 (((i28 : Nat) : Int) + 1)) (by exact E.move (AF_ev rfl tp)) ?_
        refine RW.nil ?_
        refine Th.n ?_
        have hst := hst.take (.there (.there (.there (.there .here))))
        have hst := hst.take (.there (.there (.there (.there .here))))
        have hst := hst.take (.there (.there (.there (.there .here))))
        have hst := hst.take (.there (.there (.there (.there .here))))
        have hst := hst.take (.there (.there (.there (.there .here))))
        exact ⟨k31, Nat.lt_succ_self _, (i28 + 1), m34, hl_m34, hF, (int_eq (a := ((i28 : Nat) : Int) + 1) tp (by omega)), up rfl (up rfl (u0 (up rfl (up rfl (up rfl (up rfl (up rfl (up rfl (up rfl (up rfl (up rfl (up rfl (up rfl (up rfl (up rfl (up rfl (up rfl hs2))))))))))))))))), up rfl (up rfl (u0 (up rfl (up rfl (up rfl (up rfl (up rfl (up rfl (up rfl (up rfl (up rfl (up rfl (up rfl (up rfl (up rfl (up rfl (up rfl hs3))))))))))))))))), up rfl (up rfl (u0 (up rfl (up rfl (up rfl (up rfl (up rfl (up rfl (up rfl (up rfl (up rfl (up rfl (up rfl (up rfl (up rfl (up rfl (up rfl hs4))))))))))))))))), up rfl (up rfl (u0 (up rfl (up rfl (up rfl (up rfl (up rfl (up rfl (up rfl (up rfl (up rfl (up rfl (up rfl (up rfl (up rfl (up rfl (up rfl hs6))))))))))))))))), up rfl (up rfl (u0 (up rfl (up rfl (up rfl (up rfl (up rfl (up rfl (up rfl (up rfl (up rfl (up rfl (up rfl (up rfl (up rfl (up rfl (up rfl hs7))))))))))))))))), up rfl (up rfl (u0 (up rfl (up rfl (up rfl (up rfl (up rfl (up rfl (up rfl (up rfl (up rfl (up rfl (up rfl (up rfl (up rfl (up rfl (up rfl hs8))))))))))))))))), up rfl (up rfl (u0 (up rfl (up rfl (up rfl (up rfl (up rfl (up rfl (up rfl (up rfl (up rfl (up rfl (up rfl (up rfl (up rfl (up rfl (up rfl hs9))))))))))))))))), up rfl (up rfl (u0 (up rfl (up rfl (up rfl (up rfl (up rfl (up rfl (up rfl (up rfl (up rfl (up rfl (up rfl (up rfl (up rfl (up rfl (up rfl hs12))))))))))))))))), up rfl (up rfl (u0 (up rfl (up rfl (up rfl (up rfl (up rfl (up rfl (up rfl (up rfl (up rfl (up rfl (up rfl (up rfl (up rfl (up rfl (up rfl hs13))))))))))))))))), up rfl (up rfl (u0 (up rfl (up rfl (up rfl (up rfl (up rfl (up rfl (up rfl (up rfl (up rfl (up rfl (up rfl (up rfl (up rfl (up rfl (up rfl hs15))))))))))))))))), up rfl (up rfl (u0 (up rfl (up rfl (up rfl (up rfl (up rfl (up rfl (up rfl (up rfl (up rfl (up rfl (up rfl (up rfl (up rfl (up rfl (up rfl hs16))))))))))))))))), up rfl (up rfl (u0 (up rfl (up rfl (up rfl (up rfl (up rfl (up rfl (up rfl (up rfl (up rfl (up rfl (up rfl (up rfl (up rfl (up rfl (up rfl hs32))))))))))))))))), hst⟩
      · have hF := cf hc32 hF
        have hc32_ := hc32
        try simp only [decide_eq_false_iff_not, Int.not_lt, Int.not_le, gt_iff_lt, ge_iff_le] at hc32_
        refine CW.exit ?_
        refine Th.x ?_
        refine Th.x ?_
        refine Bl.x ?_
        refine Bl.n ?_
        refine Th.n ?_
        refine CW.region ?_
        refine RW.soft Wd.a (v := .int .i64 (((i6 : Nat) : Int) + 1)) (by exact E.add (k := .i64) (a := ((i6 : Nat) : Int)) (b := 1) (AF_ev rfl hs12) rfl (show IntKind.i64.wrap (((i6 : Nat) : Int) + 1) = ((i6 : Nat) : Int) + 1 from (by rw [IntWalk.i64_in _ (by omega)]))) ?_
        refine RW.soft Wd.a (v := .int .i64 (((i6 : Nat) : Int) + 1)) (by exact E.move (AF_ev rfl tp)) ?_
        refine RW.nil ?_
        refine Th.n ?_
        have hst := hst.take (.there (.there (.there (.there .here))))
        have hst := hst.take (.there (.there (.there (.there .here))))
        have hst := hst.take (.there (.there (.there (.there .here))))
        have hst := hst.take (.there (.there (.there (.there .here))))
        have hst := (hst.take (.there (.there (.there (.there .here))))).drop
        exact ⟨k9, Nat.lt_succ_self _, (i6 + 1), m29, hl_m29, hF, (int_eq (a := ((i6 : Nat) : Int) + 1) tp (by omega)), up rfl (up rfl hs2), up rfl (up rfl hs3), up rfl (up rfl hs4), up rfl (up rfl hs6), up rfl (up rfl hs7), hst⟩
  · have hF := cf hc10 hF
    have hc10_ := hc10
    try simp only [decide_eq_false_iff_not, Int.not_lt, Int.not_le, gt_iff_lt, ge_iff_le] at hc10_
    refine CW.exit ?_
    refine Th.x ?_
    refine Th.x ?_
    refine Bl.x ?_
    refine Th.n ?_
    refine CW.seq ?_
    refine CW.region ?_
    refine RW.soft Wd.a (v := .agg ((m7.map bu8)).toArray) (by exact E.loadN (b := b4) (o := 0) (cs := (m7.map bu8)) Try.underlying119 rfl sz119 (AF_ev rfl hs7) ((List.length_map _).trans hl_m7) (St.cellsOf hst .here allF)) ?_
    refine RW.hard Wd.a ?_
    refine H.storeL (b := b3) (o := 0) (m := 16) (v := .agg ((m7.map bu8)).toArray) (ys := (m7.map bu8)) (L' := (m7.map bu8)) (AF_ev rfl (up rfl hs6)) (AF_ev rfl tp) hst (.there .here) sz119 rfl ((List.length_map _).trans hl_m7) (ones_map (fun _ => rfl)) (putW (Eq.trans (show (m7.map bu8).length = 16 from ((List.length_map _).trans hl_m7)) (Eq.symm (show ((List.replicate 16 0#8).map bu8).length = 16 from ((List.length_map _).trans (List.length_replicate)))))) fun w hst => ?_
    refine RW.fin (fun τ => τ 2 = .bool last ∧ τ 3 = .pointer (some ⟨b1, 0, none⟩) ∧ τ 4 = .pointer (some ⟨b2, 0, none⟩) ∧ τ 6 = .pointer (some ⟨b3, 0, none⟩) ∧ τ 7 = .pointer (some ⟨b4, 0, none⟩) ∧ τ 12 = .int .i64 ((i6 : Nat) : Int) ∧ τ 13 = .bool false) ⟨u0 (up rfl hs2), u0 (up rfl hs3), u0 (up rfl hs4), u0 (up rfl hs6), u0 (up rfl hs7), u0 (up rfl hs12), u0 (up rfl (Eq.trans hs13 (congrArg Value.bool hc10)))⟩ ?_
    rintro τ ⟨hs2, hs3, hs4, hs6, hs7, hs12, hs13⟩
    refine CW.ret ?_
    refine ret1 (v := .agg ((m7.map bu8)).toArray) rfl (by exact (.cell (AF_ev rfl hs6) (hst.blockAt (.there .here)) Try.underlying119 rfl (by rw [List.size_toArray, show ((m7.map bu8)).length = 16 from ((List.length_map _).trans hl_m7)]; exact sz119) .nil)) ?_
    have hst := (hst.take .here).drop
    have hst := (hst.take .here).drop
    have hst := (hst.take .here).drop
    have hst := (hst.take .here).drop
    rw [somE hF]
    exact ⟨rfl, hl_m7, hst⟩

def Halves_l1 (a : List (BitVec 8))  : Nat → BitVec 64 → BitVec 64 → Nat → Option (BitVec 64 × BitVec 64)
  | 0, _, _, _ => none
  | k6 + 1, s2, s3, i4 =>
    bif decide (((i4 : Nat) : Int) < 8) then
      lt_ ((s3 <<< 8) ||| ((a.getD (i4 + 8) 0#8).setWidth 64)) fun u8 =>
      Halves_l1 a k6 ((s2 <<< 8) ||| ((a.getD i4 0#8).setWidth 64)) u8 (i4 + 1)
    else
      some (s2, s3)
theorem Halves_l1_pos {a : List (BitVec 8)}  {fu_ : Nat} {s2 : BitVec 64} {s3 : BitVec 64} {i4 : Nat} {r : BitVec 64 × BitVec 64} (h : Halves_l1 a fu_ s2 s3 i4 = some r) : ∃ j, fu_ = j + 1 := by
  cases fu_ with
  | zero => cases (show (none : Option (BitVec 64 × BitVec 64)) = some r from h)
  | succ j => exact ⟨j, rfl⟩
def Halves (a : List (BitVec 8)) : Option (BitVec 64 × BitVec 64) :=
  Halves_l1 a 1099511627776 (0#64) (0#64) 0
theorem Halves_C {p : Pers} {w : World} {R : List Assn}  (a : List (BitVec 8)) (hl_a : a.length = 16) (r : BitVec 64 × BitVec 64) (hF : Halves a = some r) (hst : St p w (R)) :
    Calls Try.prog 120 #[.agg ((a.map bu8)).toArray] w fun e w => e = .returned (.tuple #[.int .u64 ((r.1).toNat : Int), .int .u64 ((r.2).toNat : Int)]) ∧ St p w (R) := by
  unfold Halves at hF
  refine enter Try.func120 rfl (by simp) (n := 26) rfl fun τ hτ => ?_
  have hs0 : τ 0 = .agg ((a.map bu8)).toArray := hτ 0 (by simp)
  clear hτ
  refine CW.seq ?_
  refine CW.region ?_
  refine RW.hard Wd.a ?_
  refine H.box (v := .agg ((a.map bu8)).toArray) (AF_ev rfl hs0) hst fun b1 w hst => ?_
  refine RW.soft Wd.a (v := .int .u64 ((0#64).toNat : Int)) (by exact E.assign rfl) ?_
  refine RW.soft Wd.a (v := .int .u64 ((0#64).toNat : Int)) (by exact E.assign rfl) ?_
  refine RW.fin (fun τ => τ 0 = .agg ((a.map bu8)).toArray ∧ τ 1 = .pointer (some ⟨b1, 0, none⟩) ∧ τ 2 = .int .u64 ((0#64).toNat : Int) ∧ τ 3 = .int .u64 ((0#64).toNat : Int)) ⟨up rfl (up rfl (up rfl hs0)), up rfl (up rfl tp), up rfl tp, tp⟩ ?_
  rintro τ ⟨hs0, hs1, hs2, hs3⟩
  refine CW.seq ?_
  refine CW.seq ?_
  refine CW.region ?_
  refine RW.soft Wd.a (v := .int .i64 0) (by exact E.move rfl) ?_
  refine RW.fin (fun τ => τ 0 = .agg ((a.map bu8)).toArray ∧ τ 1 = .pointer (some ⟨b1, 0, none⟩) ∧ τ 2 = .int .u64 ((0#64).toNat : Int) ∧ τ 3 = .int .u64 ((0#64).toNat : Int) ∧ τ 5 = .int .i64 0) ⟨up rfl hs0, up rfl hs1, up rfl hs2, up rfl hs3, tp⟩ ?_
  rintro τ ⟨hs0, hs1, hs2, hs3, hs5⟩
  refine CW.block ?_
  refine CW.loop (fun (k5 : Nat) (τ : Fr) (w : World) => ∃ (s2 : BitVec 64) (s3 : BitVec 64) (i4 : Nat), Halves_l1 a k5 s2 s3 i4 = some r ∧ τ 2 = .int .u64 ((s2).toNat : Int) ∧ τ 3 = .int .u64 ((s3).toNat : Int) ∧ τ 5 = .int .i64 ((i4 : Nat) : Int) ∧ τ 1 = .pointer (some ⟨b1, 0, none⟩) ∧ St p w (pt b1 (.cells ((a.map bu8)).toArray 119) :: R)) 1099511627776 ?_ ?_
  · skip
    exact ⟨(0#64), (0#64), 0, hF, hs2, hs3, (int_eq (a := 0) hs5 (by omega)), hs1, hst⟩
  clear hst hF
  rintro k5 τ w ⟨s2, s3, i4, hF, hs2, hs3, hs5, hs1, hst⟩
  obtain ⟨k6, rfl⟩ := Halves_l1_pos hF
  rw [Halves_l1] at hF
  refine CW.seq ?_
  refine CW.region ?_
  refine RW.soft Wd.a (v := .bool (decide (((i4 : Nat) : Int) < 8))) (by exact E.lss (k := .i64) (a := ((i4 : Nat) : Int)) (b := 8) (AF_ev rfl hs5) rfl) ?_
  refine RW.fin (fun τ => τ 1 = .pointer (some ⟨b1, 0, none⟩) ∧ τ 2 = .int .u64 ((s2).toNat : Int) ∧ τ 3 = .int .u64 ((s3).toNat : Int) ∧ τ 5 = .int .i64 ((i4 : Nat) : Int) ∧ τ 6 = .bool (decide (((i4 : Nat) : Int) < 8))) ⟨up rfl hs1, up rfl hs2, up rfl hs3, up rfl hs5, tp⟩ ?_
  rintro τ ⟨hs1, hs2, hs3, hs5, hs6⟩
  refine CW.seq ?_
  refine CW.cond (AF_ev rfl hs6) (fun hc7 => ?_) (fun hc7 => ?_)
  · have hF := ct hc7 hF
    have hc7_ := hc7
    try simp only [decide_eq_true_eq] at hc7_
    refine CW.skip ?_
    refine Th.n ?_
    refine CW.seq ?_
    refine CW.block ?_
    refine CW.seq ?_
    refine CW.region ?_
    refine RW.soft Wd.a (v := .int .i64 ((i4 : Nat) : Int)) (by exact E.move (AF_ev rfl hs5)) ?_
    refine RW.soft Wd.a (v := .int .i64 ((i4 : Nat) : Int)) (by exact E.assign (AF_ev rfl tp)) ?_
    refine RW.fin (fun τ => τ 1 = .pointer (some ⟨b1, 0, none⟩) ∧ τ 2 = .int .u64 ((s2).toNat : Int) ∧ τ 3 = .int .u64 ((s3).toNat : Int) ∧ τ 4 = .int .i64 ((i4 : Nat) : Int) ∧ τ 5 = .int .i64 ((i4 : Nat) : Int) ∧ τ 6 = .bool true) ⟨up rfl (up rfl hs1), up rfl (up rfl hs2), up rfl (up rfl hs3), tp, up rfl (up rfl hs5), up rfl (up rfl (Eq.trans hs6 (congrArg Value.bool hc7)))⟩ ?_
    rintro τ ⟨hs1, hs2, hs3, hs4, hs5, hs6⟩
    obtain ⟨u8, h_u8, hF⟩ := lp hF
    refine CW.regionE [4, 12] (fun w => w.cell? ⟨b1, i4, none⟩ = some (.int .u8 ((a.getD i4 0#8).toNat : Int)) ∧ w.cell? ⟨b1, i4 + 8, none⟩ = some (.int .u8 ((a.getD (i4 + 8) 0#8).toNat : Int))) mixed ?_
    have hst := hst.drew
    generalize w.drew = w at hst ⊢
    have hS : w.cell? ⟨b1, i4, none⟩ = some (.int .u8 ((a.getD i4 0#8).toNat : Int)) ∧ w.cell? ⟨b1, i4 + 8, none⟩ = some (.int .u8 ((a.getD (i4 + 8) 0#8).toNat : Int)) := ⟨(hst.cellL .here (getF (f := bu8) (d := 0#8) (by rw [hl_a]; omega))), (hst.cellL .here (getF (f := bu8) (d := 0#8) (by rw [hl_a]; omega)))⟩
    refine RE.takeF 0 rfl (by kernel_rfl) Wd.a (v := .int .u64 ((s2).toNat : Int)) (fun w => by exact E.move (AF_ev rfl hs2)) ?_
    refine RE.takeF 1 rfl (by kernel_rfl) Wd.a (v := .int .u64 ((s2 <<< 8).toNat : Int)) (fun w => by exact E.ushl (a := s2) (j := 8) UK.u64 (AF_ev rfl tp) rfl rfl) ?_
    refine RE.takeF 2 rfl (by kernel_rfl) Wd.a (v := .int .i64 ((i4 : Nat) : Int)) (fun w => by exact E.move (AF_ev rfl (up rfl (up rfl hs4)))) ?_
    refine RE.takeF 3 rfl (by kernel_rfl) Wd.a (v := .pointer (some ⟨b1, i4, none⟩)) (fun w => by exact E.indexAddrA (b := b1) (o := 0) (i := ((i4 : Nat) : Int)) Try.underlying119 sz5 (AF_ev rfl (up rfl (up rfl (up rfl hs1)))) (AF_ev rfl tp) (by omega) (by omega) (by omega)) ?_
    refine RE.take 4 rfl (by kernel_rfl) Wd.a (v := .int .u8 ((a.getD i4 0#8).toNat : Int)) (fun w hS => by exact E.load (a := ⟨b1, i4, none⟩) Try.underlying5 rfl (AF_ev rfl tp) hS.1) hS ?_
    refine RE.takeF 5 rfl (by kernel_rfl) Wd.a (v := .int .u64 (((a.getD i4 0#8).setWidth 64).toNat : Int)) (fun w => by exact E.cvUU (a := a.getD i4 0#8) (by rw [Try.underlying5]; rfl) Try.underlying154 UK.u64 (AF_ev rfl tp)) ?_
    refine RE.takeF 6 rfl (by kernel_rfl) Wd.a (v := .int .u64 (((s2 <<< 8) ||| ((a.getD i4 0#8).setWidth 64)).toNat : Int)) (fun w => by exact E.uor (a := s2 <<< 8) (b := (a.getD i4 0#8).setWidth 64) UK.u64 (AF_ev rfl (up rfl (up rfl (up rfl (up rfl tp))))) (AF_ev rfl tp)) ?_
    refine RE.takeF 7 rfl (by kernel_rfl) Wd.a (v := .int .u64 ((s3).toNat : Int)) (fun w => by exact E.move (AF_ev rfl (up rfl (up rfl (up rfl (up rfl (up rfl (up rfl (up rfl hs3))))))))) ?_
    refine RE.takeF 8 rfl (by kernel_rfl) Wd.a (v := .int .u64 ((s3 <<< 8).toNat : Int)) (fun w => by exact E.ushl (a := s3) (j := 8) UK.u64 (AF_ev rfl tp) rfl rfl) ?_
    refine RE.takeF 9 rfl (by kernel_rfl) Wd.a (v := .int .i64 ((i4 : Nat) : Int)) (fun w => by exact E.move (AF_ev rfl (up rfl (up rfl (up rfl (up rfl (up rfl (up rfl (up rfl (up rfl (up rfl hs4))))))))))) ?_
    refine RE.takeF 10 rfl (by kernel_rfl) Wd.a (v := .int .i64 (((i4 : Nat) : Int) + 8)) (fun w => by exact E.add (k := .i64) (a := ((i4 : Nat) : Int)) (b := 8) (AF_ev rfl tp) rfl (show IntKind.i64.wrap (((i4 : Nat) : Int) + 8) = ((i4 : Nat) : Int) + 8 from (by rw [IntWalk.i64_in _ (by omega)]))) ?_
    refine RE.takeF 11 rfl (by kernel_rfl) Wd.a (v := .pointer (some ⟨b1, i4 + 8, none⟩)) (fun w => by exact E.indexAddrA (b := b1) (o := 0) (i := ((i4 : Nat) : Int) + 8) Try.underlying119 sz5 (AF_ev rfl (up rfl (up rfl (up rfl (up rfl (up rfl (up rfl (up rfl (up rfl (up rfl (up rfl (up rfl hs1)))))))))))) (AF_ev rfl tp) (by omega) (by omega) (by omega)) ?_
    refine RE.take 12 rfl (by kernel_rfl) Wd.a (v := .int .u8 ((a.getD (i4 + 8) 0#8).toNat : Int)) (fun w hS => by exact E.load (a := ⟨b1, i4 + 8, none⟩) Try.underlying5 rfl (AF_ev rfl tp) hS.2) hS ?_
    refine RE.takeF 13 rfl (by kernel_rfl) Wd.a (v := .int .u64 (((a.getD (i4 + 8) 0#8).setWidth 64).toNat : Int)) (fun w => by exact E.cvUU (a := a.getD (i4 + 8) 0#8) (by rw [Try.underlying5]; rfl) Try.underlying154 UK.u64 (AF_ev rfl tp)) ?_
    refine RE.takeF 14 rfl (by kernel_rfl) Wd.a (v := .int .u64 ((u8).toNat : Int)) (fun w => by exact E.v (E.uor (a := s3 <<< 8) (b := (a.getD (i4 + 8) 0#8).setWidth 64) UK.u64 (AF_ev rfl (up rfl (up rfl (up rfl (up rfl (up rfl tp)))))) (AF_ev rfl tp)) (by first | (rw [h_u8]; done) | (rw [h_u8]; rfl))) ?_
    refine RE.takeF 15 rfl (by kernel_rfl) Wd.a (v := .int .u64 (((s2 <<< 8) ||| ((a.getD i4 0#8).setWidth 64)).toNat : Int)) (fun w => by exact E.assign (AF_ev rfl (up rfl (up rfl (up rfl (up rfl (up rfl (up rfl (up rfl (up rfl tp)))))))))) ?_
    refine RE.takeF 16 rfl (by kernel_rfl) Wd.a (v := .int .u64 ((u8).toNat : Int)) (fun w => by exact E.assign (AF_ev rfl (up rfl tp))) ?_
    refine RE.done (by kernel_rfl) ?_
    refine Bl.n ?_
    refine Th.n ?_
    refine CW.region ?_
    refine RW.soft Wd.a (v := .int .i64 (((i4 : Nat) : Int) + 1)) (by exact E.add (k := .i64) (a := ((i4 : Nat) : Int)) (b := 1) (AF_ev rfl (up rfl (up rfl (up rfl (up rfl (up rfl (up rfl (up rfl (up rfl (up rfl (up rfl (up rfl (up rfl (up rfl (up rfl (up rfl (up rfl (up rfl hs5)))))))))))))))))) rfl (show IntKind.i64.wrap (((i4 : Nat) : Int) + 1) = ((i4 : Nat) : Int) + 1 from (by rw [IntWalk.i64_in _ (by omega)]))) ?_
    refine RW.soft Wd.a (v := .int .i64 (((i4 : Nat) : Int) + 1)) (by exact E.move (AF_ev rfl tp)) ?_
    refine RW.nil ?_
    refine Th.n ?_
    exact ⟨k6, Nat.lt_succ_self _, ((s2 <<< 8) ||| ((a.getD i4 0#8).setWidth 64)), u8, (i4 + 1), hF, up rfl (up rfl (up rfl tp)), up rfl (up rfl tp), (int_eq (a := ((i4 : Nat) : Int) + 1) tp (by omega)), up rfl (up rfl (up rfl (up rfl (up rfl (up rfl (up rfl (up rfl (up rfl (up rfl (up rfl (up rfl (up rfl (up rfl (up rfl (up rfl (up rfl (up rfl (up rfl hs1)))))))))))))))))), hst⟩
  · have hF := cf hc7 hF
    have hc7_ := hc7
    try simp only [decide_eq_false_iff_not, Int.not_lt, Int.not_le, gt_iff_lt, ge_iff_le] at hc7_
    refine CW.exit ?_
    refine Th.x ?_
    refine Th.x ?_
    refine Bl.x ?_
    refine Th.n ?_
    refine CW.seq ?_
    refine CW.region ?_
    refine RW.soft Wd.a (v := .int .u64 ((s2).toNat : Int)) (by exact E.move (AF_ev rfl hs2)) ?_
    refine RW.soft Wd.a (v := .int .u64 ((s3).toNat : Int)) (by exact E.move (AF_ev rfl (up rfl hs3))) ?_
    refine RW.soft Wd.a (v := .int .u64 ((s2).toNat : Int)) (by exact E.assign (AF_ev rfl (up rfl tp))) ?_
    refine RW.soft Wd.a (v := .int .u64 ((s3).toNat : Int)) (by exact E.assign (AF_ev rfl (up rfl tp))) ?_
    refine RW.fin (fun τ => τ 1 = .pointer (some ⟨b1, 0, none⟩) ∧ τ 2 = .int .u64 ((s2).toNat : Int) ∧ τ 3 = .int .u64 ((s3).toNat : Int) ∧ τ 5 = .int .i64 ((i4 : Nat) : Int) ∧ τ 6 = .bool false) ⟨up rfl (up rfl (up rfl (up rfl hs1))), up rfl tp, tp, up rfl (up rfl (up rfl (up rfl hs5))), up rfl (up rfl (up rfl (up rfl (Eq.trans hs6 (congrArg Value.bool hc7)))))⟩ ?_
    rintro τ ⟨hs1, hs2, hs3, hs5, hs6⟩
    refine CW.ret ?_
    refine retN (rs := [.tmp 2, .tmp 3]) (vs := [.int .u64 ((s2).toNat : Int), .int .u64 ((s3).toNat : Int)]) rfl (by exact (.tmp (AF_ev rfl hs2) (.tmp (AF_ev rfl hs3) .nil))) (by simp) ?_
    have hst := (hst.take .here).drop
    rw [somE hF]
    exact ⟨rfl, hst⟩

def Whole_l1 (hi : BitVec 64) (lo : BitVec 64)  : Nat → Nat → List (BitVec 8) → Option (List (BitVec 8))
  | 0, _, _ => none
  | k7 + 1, i4, m5 =>
    bif decide (((i4 : Nat) : Int) < 8) then
      lt_ ((hi >>> ((56 - (8 * ((i4 : Nat) : Int))).toNat)).setWidth 8) fun u9 =>
      lt_ ((lo >>> ((56 - (8 * ((i4 : Nat) : Int))).toNat)).setWidth 8) fun u10 =>
      lt_ (m5.set i4 u9) fun m11 =>
      lt_ (m11.set (i4 + 8) u10) fun m12 =>
      Whole_l1 hi lo k7 (i4 + 1) m12
    else
      some (m5)
theorem Whole_l1_pos {hi : BitVec 64} {lo : BitVec 64}  {fu_ : Nat} {i4 : Nat} {m5 : List (BitVec 8)} {r : List (BitVec 8)} (h : Whole_l1 hi lo fu_ i4 m5 = some r) : ∃ j, fu_ = j + 1 := by
  cases fu_ with
  | zero => cases (show (none : Option (List (BitVec 8))) = some r from h)
  | succ j => exact ⟨j, rfl⟩
def Whole (hi : BitVec 64) (lo : BitVec 64) : Option (List (BitVec 8)) :=
  Whole_l1 hi lo 1099511627776 0 (List.replicate 16 0#8)
theorem Whole_C {p : Pers} {w : World} {R : List Assn}  (hi : BitVec 64) (lo : BitVec 64) (r : List (BitVec 8)) (hF : Whole hi lo = some r) (hst : St p w (R)) :
    Calls Try.prog 121 #[.int .u64 ((hi).toNat : Int), .int .u64 ((lo).toNat : Int)] w fun e w => e = .returned (.agg ((r.map bu8)).toArray) ∧ r.length = 16 ∧ St p w (R) := by
  unfold Whole at hF
  refine enter Try.func121 rfl (by simp) (n := 29) rfl fun τ hτ => ?_
  have hs0 : τ 0 = .int .u64 ((hi).toNat : Int) := hτ 0 (by simp)
  have hs1 : τ 1 = .int .u64 ((lo).toNat : Int) := hτ 1 (by simp)
  clear hτ
  refine CW.seq ?_
  refine CW.region ?_
  refine RW.hard Wd.a ?_
  refine H.alloc zs119 hst fun b1 w hst => ?_
  refine RW.fin (fun τ => τ 0 = .int .u64 ((hi).toNat : Int) ∧ τ 1 = .int .u64 ((lo).toNat : Int) ∧ τ 4 = .pointer (some ⟨b1, 0, none⟩)) ⟨up rfl hs0, up rfl hs1, tp⟩ ?_
  rintro τ ⟨hs0, hs1, hs4⟩
  refine CW.seq ?_
  refine CW.region ?_
  refine RW.hard Wd.a ?_
  refine H.alloc zs119 hst fun b2 w hst => ?_
  refine RW.fin (fun τ => τ 0 = .int .u64 ((hi).toNat : Int) ∧ τ 1 = .int .u64 ((lo).toNat : Int) ∧ τ 4 = .pointer (some ⟨b1, 0, none⟩) ∧ τ 5 = .pointer (some ⟨b2, 0, none⟩)) ⟨up rfl hs0, up rfl hs1, up rfl hs4, tp⟩ ?_
  rintro τ ⟨hs0, hs1, hs4, hs5⟩
  refine CW.seq ?_
  refine CW.seq ?_
  refine CW.region ?_
  refine RW.soft Wd.a (v := .int .i64 0) (by exact E.move rfl) ?_
  refine RW.fin (fun τ => τ 0 = .int .u64 ((hi).toNat : Int) ∧ τ 1 = .int .u64 ((lo).toNat : Int) ∧ τ 4 = .pointer (some ⟨b1, 0, none⟩) ∧ τ 5 = .pointer (some ⟨b2, 0, none⟩) ∧ τ 7 = .int .i64 0) ⟨up rfl hs0, up rfl hs1, up rfl hs4, up rfl hs5, tp⟩ ?_
  rintro τ ⟨hs0, hs1, hs4, hs5, hs7⟩
  refine CW.block ?_
  refine CW.loop (fun (k6 : Nat) (τ : Fr) (w : World) => ∃ (i4 : Nat) (m5 : List (BitVec 8)), m5.length = 16 ∧ Whole_l1 hi lo k6 i4 m5 = some r ∧ τ 7 = .int .i64 ((i4 : Nat) : Int) ∧ τ 0 = .int .u64 ((hi).toNat : Int) ∧ τ 1 = .int .u64 ((lo).toNat : Int) ∧ τ 4 = .pointer (some ⟨b1, 0, none⟩) ∧ τ 5 = .pointer (some ⟨b2, 0, none⟩) ∧ St p w (pt b2 (.cells ((m5.map bu8)).toArray 119) :: pt b1 (.cells (((List.replicate 16 0#8).map bu8)).toArray 119) :: R)) 1099511627776 ?_ ?_
  · skip
    have hst := hst.take (.there .here)
    have hst := hst.take (.there .here)
    exact ⟨0, (List.replicate 16 0#8), (List.length_replicate), hF, (int_eq (a := 0) hs7 (by omega)), hs0, hs1, hs4, hs5, hst⟩
  clear hst hF
  rintro k6 τ w ⟨i4, m5, hl_m5, hF, hs7, hs0, hs1, hs4, hs5, hst⟩
  obtain ⟨k7, rfl⟩ := Whole_l1_pos hF
  rw [Whole_l1] at hF
  refine CW.seq ?_
  refine CW.region ?_
  refine RW.soft Wd.a (v := .bool (decide (((i4 : Nat) : Int) < 8))) (by exact E.lss (k := .i64) (a := ((i4 : Nat) : Int)) (b := 8) (AF_ev rfl hs7) rfl) ?_
  refine RW.fin (fun τ => τ 0 = .int .u64 ((hi).toNat : Int) ∧ τ 1 = .int .u64 ((lo).toNat : Int) ∧ τ 4 = .pointer (some ⟨b1, 0, none⟩) ∧ τ 5 = .pointer (some ⟨b2, 0, none⟩) ∧ τ 7 = .int .i64 ((i4 : Nat) : Int) ∧ τ 8 = .bool (decide (((i4 : Nat) : Int) < 8))) ⟨up rfl hs0, up rfl hs1, up rfl hs4, up rfl hs5, up rfl hs7, tp⟩ ?_
  rintro τ ⟨hs0, hs1, hs4, hs5, hs7, hs8⟩
  refine CW.seq ?_
  refine CW.cond (AF_ev rfl hs8) (fun hc8 => ?_) (fun hc8 => ?_)
  · have hF := ct hc8 hF
    have hc8_ := hc8
    try simp only [decide_eq_true_eq] at hc8_
    refine CW.skip ?_
    refine Th.n ?_
    refine CW.seq ?_
    refine CW.block ?_
    refine CW.seq ?_
    refine CW.region ?_
    refine RW.soft Wd.a (v := .int .i64 ((i4 : Nat) : Int)) (by exact E.move (AF_ev rfl hs7)) ?_
    refine RW.soft Wd.a (v := .int .i64 ((i4 : Nat) : Int)) (by exact E.assign (AF_ev rfl tp)) ?_
    refine RW.fin (fun τ => τ 0 = .int .u64 ((hi).toNat : Int) ∧ τ 1 = .int .u64 ((lo).toNat : Int) ∧ τ 4 = .pointer (some ⟨b1, 0, none⟩) ∧ τ 5 = .pointer (some ⟨b2, 0, none⟩) ∧ τ 6 = .int .i64 ((i4 : Nat) : Int) ∧ τ 7 = .int .i64 ((i4 : Nat) : Int) ∧ τ 8 = .bool true) ⟨up rfl (up rfl hs0), up rfl (up rfl hs1), up rfl (up rfl hs4), up rfl (up rfl hs5), tp, up rfl (up rfl hs7), up rfl (up rfl (Eq.trans hs8 (congrArg Value.bool hc8)))⟩ ?_
    rintro τ ⟨hs0, hs1, hs4, hs5, hs6, hs7, hs8⟩
    obtain ⟨u9, h_u9, hF⟩ := lp hF
    obtain ⟨u10, h_u10, hF⟩ := lp hF
    obtain ⟨m11, h_m11, hF⟩ := lp hF
    have hl_m11 : m11.length = 16 := by rw [h_m11, List.length_set]; exact hl_m5
    obtain ⟨m12, h_m12, hF⟩ := lp hF
    have hl_m12 : m12.length = 16 := by rw [h_m12, List.length_set]; exact hl_m11
    refine CW.regionE [] (fun w => True) mixed ?_
    have hst := hst.drew
    generalize w.drew = w at hst ⊢
    have hS : True := trivial
    refine RE.takeF 0 rfl (by kernel_rfl) Wd.a (v := .int .i64 ((i4 : Nat) : Int)) (fun w => by exact E.move (AF_ev rfl hs6)) ?_
    refine RE.takeF 1 rfl (by kernel_rfl) Wd.a (v := .int .i64 ((i4 : Nat) : Int)) (fun w => by exact E.move (AF_ev rfl (up rfl hs6))) ?_
    refine RE.takeF 2 rfl (by kernel_rfl) Wd.a (v := .int .i64 (((i4 : Nat) : Int) + 8)) (fun w => by exact E.add (k := .i64) (a := ((i4 : Nat) : Int)) (b := 8) (AF_ev rfl tp) rfl (show IntKind.i64.wrap (((i4 : Nat) : Int) + 8) = ((i4 : Nat) : Int) + 8 from (by rw [IntWalk.i64_in _ (by omega)]))) ?_
    refine RE.takeF 3 rfl (by kernel_rfl) Wd.a (v := .int .u64 ((hi).toNat : Int)) (fun w => by exact E.move (AF_ev rfl (up rfl (up rfl (up rfl hs0))))) ?_
    refine RE.takeF 4 rfl (by kernel_rfl) Wd.a (v := .int .i64 ((i4 : Nat) : Int)) (fun w => by exact E.move (AF_ev rfl (up rfl (up rfl (up rfl (up rfl hs6)))))) ?_
    refine RE.takeF 5 rfl (by kernel_rfl) Wd.a (v := .int .i64 (8 * ((i4 : Nat) : Int))) (fun w => by exact E.mul (k := .i64) (a := 8) (b := ((i4 : Nat) : Int)) rfl (AF_ev rfl tp) (show IntKind.i64.wrap (8 * ((i4 : Nat) : Int)) = 8 * ((i4 : Nat) : Int) from (by rw [IntWalk.i64_in _ (by omega)]))) ?_
    refine RE.takeF 6 rfl (by kernel_rfl) Wd.a (v := .int .i64 (56 - (8 * ((i4 : Nat) : Int)))) (fun w => by exact E.sub (k := .i64) (a := 56) (b := 8 * ((i4 : Nat) : Int)) rfl (AF_ev rfl tp) (show IntKind.i64.wrap (56 - (8 * ((i4 : Nat) : Int))) = 56 - (8 * ((i4 : Nat) : Int)) from (by rw [IntWalk.i64_in _ (by omega)]))) ?_
    refine RE.takeF 7 rfl (by kernel_rfl) Wd.a (v := .int .u64 ((hi >>> ((56 - (8 * ((i4 : Nat) : Int))).toNat)).toNat : Int)) (fun w => by exact E.ushr (a := hi) (j := (56 - (8 * ((i4 : Nat) : Int))).toNat) UK.u64 (AF_ev rfl (up rfl (up rfl (up rfl tp)))) (AF_ev rfl tp) (by omega)) ?_
    refine RE.takeF 8 rfl (by kernel_rfl) Wd.a (v := .int .u8 ((u9).toNat : Int)) (fun w => by exact E.v (E.cvUU (a := hi >>> ((56 - (8 * ((i4 : Nat) : Int))).toNat)) (by rw [Try.underlying154]; rfl) Try.underlying5 UK.u8 (AF_ev rfl tp)) (by first | (rw [h_u9]; done) | (rw [h_u9]; rfl))) ?_
    refine RE.takeF 9 rfl (by kernel_rfl) Wd.a (v := .int .u64 ((lo).toNat : Int)) (fun w => by exact E.move (AF_ev rfl (up rfl (up rfl (up rfl (up rfl (up rfl (up rfl (up rfl (up rfl (up rfl hs1))))))))))) ?_
    refine RE.takeF 10 rfl (by kernel_rfl) Wd.a (v := .int .i64 ((i4 : Nat) : Int)) (fun w => by exact E.move (AF_ev rfl (up rfl (up rfl (up rfl (up rfl (up rfl (up rfl (up rfl (up rfl (up rfl (up rfl hs6)))))))))))) ?_
    refine RE.takeF 11 rfl (by kernel_rfl) Wd.a (v := .int .i64 (8 * ((i4 : Nat) : Int))) (fun w => by exact E.mul (k := .i64) (a := 8) (b := ((i4 : Nat) : Int)) rfl (AF_ev rfl tp) (show IntKind.i64.wrap (8 * ((i4 : Nat) : Int)) = 8 * ((i4 : Nat) : Int) from (by rw [IntWalk.i64_in _ (by omega)]))) ?_
    refine RE.takeF 12 rfl (by kernel_rfl) Wd.a (v := .int .i64 (56 - (8 * ((i4 : Nat) : Int)))) (fun w => by exact E.sub (k := .i64) (a := 56) (b := 8 * ((i4 : Nat) : Int)) rfl (AF_ev rfl tp) (show IntKind.i64.wrap (56 - (8 * ((i4 : Nat) : Int))) = 56 - (8 * ((i4 : Nat) : Int)) from (by rw [IntWalk.i64_in _ (by omega)]))) ?_
    refine RE.takeF 13 rfl (by kernel_rfl) Wd.a (v := .int .u64 ((lo >>> ((56 - (8 * ((i4 : Nat) : Int))).toNat)).toNat : Int)) (fun w => by exact E.ushr (a := lo) (j := (56 - (8 * ((i4 : Nat) : Int))).toNat) UK.u64 (AF_ev rfl (up rfl (up rfl (up rfl tp)))) (AF_ev rfl tp) (by omega)) ?_
    refine RE.takeF 14 rfl (by kernel_rfl) Wd.a (v := .int .u8 ((u10).toNat : Int)) (fun w => by exact E.v (E.cvUU (a := lo >>> ((56 - (8 * ((i4 : Nat) : Int))).toNat)) (by rw [Try.underlying154]; rfl) Try.underlying5 UK.u8 (AF_ev rfl tp)) (by first | (rw [h_u10]; done) | (rw [h_u10]; rfl))) ?_
    refine RE.takeF 15 rfl (by kernel_rfl) Wd.a (v := .pointer (some ⟨b2, i4, none⟩)) (fun w => by exact E.indexAddrA (b := b2) (o := 0) (i := ((i4 : Nat) : Int)) Try.underlying119 sz5 (AF_ev rfl (up rfl (up rfl (up rfl (up rfl (up rfl (up rfl (up rfl (up rfl (up rfl (up rfl (up rfl (up rfl (up rfl (up rfl (up rfl hs5)))))))))))))))) (AF_ev rfl (up rfl (up rfl (up rfl (up rfl (up rfl (up rfl (up rfl (up rfl (up rfl (up rfl (up rfl (up rfl (up rfl (up rfl tp))))))))))))))) (by omega) (by omega) (by omega)) ?_
    refine RE.only 16 rfl (by kernel_rfl) Wd.a ?_
    refine H.storeL (b := b2) (o := i4) (m := 1) (v := .int .u8 ((u9).toNat : Int)) (ys := [bu8 u9]) (L' := (m11.map bu8)) (AF_ev rfl tp) (AF_ev rfl (up rfl (up rfl (up rfl (up rfl (up rfl (up rfl (up rfl tp)))))))) hst .here sz5 rfl rfl (ones1 rfl) (by rw [h_m11]; exact putF (by rw [hl_m5]; omega)) fun w hst => ?_
    refine ⟨fun h => Bool.noConfusion ((show needs _ _ _ = false by kernel_rfl).symm.trans h), ?_⟩
    refine RE.only 17 rfl (by kernel_rfl) Wd.a (Hd.value (v := .pointer (some ⟨b2, i4 + 8, none⟩)) (by exact E.indexAddrA (b := b2) (o := 0) (i := ((i4 : Nat) : Int) + 8) Try.underlying119 sz5 (AF_ev rfl (u0 (up rfl (up rfl (up rfl (up rfl (up rfl (up rfl (up rfl (up rfl (up rfl (up rfl (up rfl (up rfl (up rfl (up rfl (up rfl (up rfl hs5)))))))))))))))))) (AF_ev rfl (u0 (up rfl (up rfl (up rfl (up rfl (up rfl (up rfl (up rfl (up rfl (up rfl (up rfl (up rfl (up rfl (up rfl tp))))))))))))))) (by omega) (by omega) (by omega)) ⟨fun h => Bool.noConfusion ((show needs _ _ _ = false by kernel_rfl).symm.trans h), ?_⟩)
    refine RE.only 18 rfl (by kernel_rfl) Wd.a ?_
    refine H.storeL (b := b2) (o := i4 + 8) (m := 1) (v := .int .u8 ((u10).toNat : Int)) (ys := [bu8 u10]) (L' := (m12.map bu8)) (AF_ev rfl tp) (AF_ev rfl (up rfl (u0 (up rfl tp)))) hst .here sz5 rfl rfl (ones1 rfl) (by rw [h_m12]; exact putF (by rw [hl_m11]; omega)) fun w hst => ?_
    refine ⟨fun h => Bool.noConfusion ((show needs _ _ _ = false by kernel_rfl).symm.trans h), ?_⟩
    refine RE.done (by kernel_rfl) ?_
    refine Bl.n ?_
    refine Th.n ?_
    refine CW.region ?_
    refine RW.soft Wd.a (v := .int .i64 (((i4 : Nat) : Int) + 1)) (by exact E.add (k := .i64) (a := ((i4 : Nat) : Int)) (b := 1) (AF_ev rfl (u0 (up rfl (u0 (up rfl (up rfl (up rfl (up rfl (up rfl (up rfl (up rfl (up rfl (up rfl (up rfl (up rfl (up rfl (up rfl (up rfl (up rfl (up rfl hs7)))))))))))))))))))) rfl (show IntKind.i64.wrap (((i4 : Nat) : Int) + 1) = ((i4 : Nat) : Int) + 1 from (by rw [IntWalk.i64_in _ (by omega)]))) ?_
    refine RW.soft Wd.a (v := .int .i64 (((i4 : Nat) : Int) + 1)) (by exact E.move (AF_ev rfl tp)) ?_
    refine RW.nil ?_
    refine Th.n ?_
    have hst := hst.take (.there .here)
    have hst := hst.take (.there .here)
    exact ⟨k7, Nat.lt_succ_self _, (i4 + 1), m12, hl_m12, hF, (int_eq (a := ((i4 : Nat) : Int) + 1) tp (by omega)), up rfl (up rfl (u0 (up rfl (u0 (up rfl (up rfl (up rfl (up rfl (up rfl (up rfl (up rfl (up rfl (up rfl (up rfl (up rfl (up rfl (up rfl (up rfl (up rfl (up rfl hs0)))))))))))))))))))), up rfl (up rfl (u0 (up rfl (u0 (up rfl (up rfl (up rfl (up rfl (up rfl (up rfl (up rfl (up rfl (up rfl (up rfl (up rfl (up rfl (up rfl (up rfl (up rfl (up rfl hs1)))))))))))))))))))), up rfl (up rfl (u0 (up rfl (u0 (up rfl (up rfl (up rfl (up rfl (up rfl (up rfl (up rfl (up rfl (up rfl (up rfl (up rfl (up rfl (up rfl (up rfl (up rfl (up rfl hs4)))))))))))))))))))), up rfl (up rfl (u0 (up rfl (u0 (up rfl (up rfl (up rfl (up rfl (up rfl (up rfl (up rfl (up rfl (up rfl (up rfl (up rfl (up rfl (up rfl (up rfl (up rfl (up rfl hs5)))))))))))))))))))), hst⟩
  · have hF := cf hc8 hF
    have hc8_ := hc8
    try simp only [decide_eq_false_iff_not, Int.not_lt, Int.not_le, gt_iff_lt, ge_iff_le] at hc8_
    refine CW.exit ?_
    refine Th.x ?_
    refine Th.x ?_
    refine Bl.x ?_
    refine Th.n ?_
    refine CW.seq ?_
    refine CW.region ?_
    refine RW.soft Wd.a (v := .agg ((m5.map bu8)).toArray) (by exact E.loadN (b := b2) (o := 0) (cs := (m5.map bu8)) Try.underlying119 rfl sz119 (AF_ev rfl hs5) ((List.length_map _).trans hl_m5) (St.cellsOf hst .here allF)) ?_
    refine RW.hard Wd.a ?_
    refine H.storeL (b := b1) (o := 0) (m := 16) (v := .agg ((m5.map bu8)).toArray) (ys := (m5.map bu8)) (L' := (m5.map bu8)) (AF_ev rfl (up rfl hs4)) (AF_ev rfl tp) hst (.there .here) sz119 rfl ((List.length_map _).trans hl_m5) (ones_map (fun _ => rfl)) (putW (Eq.trans (show (m5.map bu8).length = 16 from ((List.length_map _).trans hl_m5)) (Eq.symm (show ((List.replicate 16 0#8).map bu8).length = 16 from ((List.length_map _).trans (List.length_replicate)))))) fun w hst => ?_
    refine RW.fin (fun τ => τ 0 = .int .u64 ((hi).toNat : Int) ∧ τ 1 = .int .u64 ((lo).toNat : Int) ∧ τ 4 = .pointer (some ⟨b1, 0, none⟩) ∧ τ 5 = .pointer (some ⟨b2, 0, none⟩) ∧ τ 7 = .int .i64 ((i4 : Nat) : Int) ∧ τ 8 = .bool false) ⟨u0 (up rfl hs0), u0 (up rfl hs1), u0 (up rfl hs4), u0 (up rfl hs5), u0 (up rfl hs7), u0 (up rfl (Eq.trans hs8 (congrArg Value.bool hc8)))⟩ ?_
    rintro τ ⟨hs0, hs1, hs4, hs5, hs7, hs8⟩
    refine CW.ret ?_
    refine ret1 (v := .agg ((m5.map bu8)).toArray) rfl (by exact (.cell (AF_ev rfl hs4) (hst.blockAt (.there .here)) Try.underlying119 rfl (by rw [List.size_toArray, show ((m5.map bu8)).length = 16 from ((List.length_map _).trans hl_m5)]; exact sz119) .nil)) ?_
    have hst := (hst.take .here).drop
    have hst := (hst.take .here).drop
    rw [somE hF]
    exact ⟨rfl, hl_m5, hst⟩

def BMul_j2 (r4 : BitVec 64 × BitVec 64) (s8 : BitVec 64) (s9 : BitVec 64) (s10 : BitVec 64) (s11 : BitVec 64) (i12 : Nat) (rc_BMul_l1 : BitVec 64 → BitVec 64 → BitVec 64 → BitVec 64 → Nat → Option (List (BitVec 8))) (j16 : BitVec 64) (j17 : Bool) : Option (List (BitVec 8)) :=
  lt_ (j16 >>> ((63 - (((i12 : Nat) : Int) % 64)).toNat)) fun u19 =>
  lt_ ((s8 >>> 1) ^^^ ((16212958658533785600#64) &&& (-(s9 &&& (1#64))))) fun u20 =>
  rc_BMul_l1 u20 ((s9 >>> 1) ||| (s8 <<< 63)) (s10 ^^^ (s8 &&& (-(u19 &&& (1#64))))) (s11 ^^^ (s9 &&& (-(u19 &&& (1#64))))) (i12 + 1)
def BMul_l1 (r4 : BitVec 64 × BitVec 64)  : Nat → BitVec 64 → BitVec 64 → BitVec 64 → BitVec 64 → Nat → Option (List (BitVec 8))
  | 0, _, _, _, _, _ => none
  | k14 + 1, s8, s9, s10, s11, i12 =>
    bif decide (((i12 : Nat) : Int) < 128) then
      bif decide (((i12 : Nat) : Int) ≥ 64) then
        BMul_j2 r4 s8 s9 s10 s11 i12 (fun (s8_ : BitVec 64) (s9_ : BitVec 64) (s10_ : BitVec 64) (s11_ : BitVec 64) (i12_ : Nat) => BMul_l1 r4 k14 s8_ s9_ s10_ s11_ i12_) r4.2 true
      else
        BMul_j2 r4 s8 s9 s10 s11 i12 (fun (s8_ : BitVec 64) (s9_ : BitVec 64) (s10_ : BitVec 64) (s11_ : BitVec 64) (i12_ : Nat) => BMul_l1 r4 k14 s8_ s9_ s10_ s11_ i12_) r4.1 false
    else
      (Whole s10 s11).bind fun r21 =>
      some (r21)
theorem BMul_l1_pos {r4 : BitVec 64 × BitVec 64}  {fu_ : Nat} {s8 : BitVec 64} {s9 : BitVec 64} {s10 : BitVec 64} {s11 : BitVec 64} {i12 : Nat} {r : List (BitVec 8)} (h : BMul_l1 r4 fu_ s8 s9 s10 s11 i12 = some r) : ∃ j, fu_ = j + 1 := by
  cases fu_ with
  | zero => cases (show (none : Option (List (BitVec 8))) = some r from h)
  | succ j => exact ⟨j, rfl⟩
def BMul (t : List (BitVec 8)) (o : List (BitVec 8)) : Option (List (BitVec 8)) :=
  (Halves t).bind fun r4 =>
  (Halves o).bind fun r6 =>
  BMul_l1 r4 1099511627776 r6.1 r6.2 (0#64) (0#64) 0
theorem BMul_C {p : Pers} {w : World} {R : List Assn}  (t : List (BitVec 8)) (hl_t : t.length = 16) (o : List (BitVec 8)) (hl_o : o.length = 16) (r : List (BitVec 8)) (hF : BMul t o = some r) (hst : St p w (R)) :
    Calls Try.prog 106 #[.agg ((t.map bu8)).toArray, .agg ((o.map bu8)).toArray] w fun e w => e = .returned (.agg ((r.map bu8)).toArray) ∧ r.length = 16 ∧ St p w (R) := by
  unfold BMul at hF
  refine enter Try.func106 rfl (by simp) (n := 66) rfl fun τ hτ => ?_
  have hs0 : τ 0 = .agg ((t.map bu8)).toArray := hτ 0 (by simp)
  have hs1 : τ 1 = .agg ((o.map bu8)).toArray := hτ 1 (by simp)
  clear hτ
  refine CW.seq ?_
  refine CW.region ?_
  refine RW.hard Wd.a ?_
  refine H.box (v := .agg ((t.map bu8)).toArray) (AF_ev rfl hs0) hst fun b1 w hst => ?_
  refine RW.hard Wd.a ?_
  refine H.box (v := .agg ((o.map bu8)).toArray) (AF_ev rfl (up rfl hs1)) hst fun b2 w hst => ?_
  refine RW.hard Wd.a ?_
  refine H.alloc zs119 hst fun b3 w hst => ?_
  refine RW.fin (fun τ => τ 0 = .agg ((t.map bu8)).toArray ∧ τ 1 = .agg ((o.map bu8)).toArray ∧ τ 2 = .pointer (some ⟨b1, 0, none⟩) ∧ τ 3 = .pointer (some ⟨b2, 0, none⟩) ∧ τ 4 = .pointer (some ⟨b3, 0, none⟩)) ⟨up rfl (up rfl (up rfl hs0)), up rfl (up rfl (up rfl hs1)), up rfl (up rfl tp), up rfl tp, tp⟩ ?_
  rintro τ ⟨hs0, hs1, hs2, hs3, hs4⟩
  refine CW.seq ?_
  refine CW.region ?_
  refine RW.soft Wd.a (v := .agg ((t.map bu8)).toArray) (by exact E.loadN (b := b1) (o := 0) (cs := (t.map bu8)) Try.underlying119 rfl sz119 (AF_ev rfl hs2) ((List.length_map _).trans hl_t) (St.cellsOf hst (.there (.there .here)) allF)) ?_
  obtain ⟨r4, h_r4, hF⟩ := bd hF
  refine RW.hard Wd.a ?_
  refine H.call0 Try.func120 nm120 rfl (map1 (AF_ev rfl tp)) (Calls.mono (Halves_C t hl_t r4 h_r4 hst) ?_)
  rintro _ w ⟨rfl, hst⟩
  refine ⟨_, rfl, ?_⟩
  show RW _ _ _ _ _ _ _
  refine RW.soft Wd.a (v := .tuple #[.int .u64 ((r4.1).toNat : Int), .int .u64 ((r4.2).toNat : Int)]) (by exact E.move (AF_ev rfl tp)) ?_
  refine RW.soft Wd.a (v := .int .u64 ((r4.1).toNat : Int)) (by exact E.extract (vs := #[.int .u64 ((r4.1).toNat : Int), .int .u64 ((r4.2).toNat : Int)]) (AF_ev rfl tp) rfl) ?_
  refine RW.soft Wd.a (v := .int .u64 ((r4.2).toNat : Int)) (by exact E.extract (vs := #[.int .u64 ((r4.1).toNat : Int), .int .u64 ((r4.2).toNat : Int)]) (AF_ev rfl (up rfl tp)) rfl) ?_
  refine RW.soft Wd.a (v := .int .u64 ((r4.1).toNat : Int)) (by exact E.assign (AF_ev rfl (up rfl tp))) ?_
  refine RW.soft Wd.a (v := .int .u64 ((r4.2).toNat : Int)) (by exact E.assign (AF_ev rfl (up rfl tp))) ?_
  refine RW.fin (fun τ => τ 0 = .agg ((t.map bu8)).toArray ∧ τ 1 = .agg ((o.map bu8)).toArray ∧ τ 2 = .pointer (some ⟨b1, 0, none⟩) ∧ τ 3 = .pointer (some ⟨b2, 0, none⟩) ∧ τ 4 = .pointer (some ⟨b3, 0, none⟩) ∧ τ 5 = .int .u64 ((r4.1).toNat : Int) ∧ τ 6 = .int .u64 ((r4.2).toNat : Int)) ⟨up rfl (up rfl (up rfl (up rfl (up rfl (up rfl (up rfl hs0)))))), up rfl (up rfl (up rfl (up rfl (up rfl (up rfl (up rfl hs1)))))), up rfl (up rfl (up rfl (up rfl (up rfl (up rfl (up rfl hs2)))))), up rfl (up rfl (up rfl (up rfl (up rfl (up rfl (up rfl hs3)))))), up rfl (up rfl (up rfl (up rfl (up rfl (up rfl (up rfl hs4)))))), up rfl tp, tp⟩ ?_
  rintro τ ⟨hs0, hs1, hs2, hs3, hs4, hs5, hs6⟩
  refine CW.seq ?_
  refine CW.region ?_
  refine RW.soft Wd.a (v := .agg ((o.map bu8)).toArray) (by exact E.loadN (b := b2) (o := 0) (cs := (o.map bu8)) Try.underlying119 rfl sz119 (AF_ev rfl hs3) ((List.length_map _).trans hl_o) (St.cellsOf hst (.there .here) allF)) ?_
  obtain ⟨r6, h_r6, hF⟩ := bd hF
  refine RW.hard Wd.a ?_
  refine H.call0 Try.func120 nm120 rfl (map1 (AF_ev rfl tp)) (Calls.mono (Halves_C o hl_o r6 h_r6 hst) ?_)
  rintro _ w ⟨rfl, hst⟩
  refine ⟨_, rfl, ?_⟩
  show RW _ _ _ _ _ _ _
  refine RW.soft Wd.a (v := .tuple #[.int .u64 ((r6.1).toNat : Int), .int .u64 ((r6.2).toNat : Int)]) (by exact E.move (AF_ev rfl tp)) ?_
  refine RW.soft Wd.a (v := .int .u64 ((r6.1).toNat : Int)) (by exact E.extract (vs := #[.int .u64 ((r6.1).toNat : Int), .int .u64 ((r6.2).toNat : Int)]) (AF_ev rfl tp) rfl) ?_
  refine RW.soft Wd.a (v := .int .u64 ((r6.2).toNat : Int)) (by exact E.extract (vs := #[.int .u64 ((r6.1).toNat : Int), .int .u64 ((r6.2).toNat : Int)]) (AF_ev rfl (up rfl tp)) rfl) ?_
  refine RW.soft Wd.a (v := .int .u64 ((r6.1).toNat : Int)) (by exact E.assign (AF_ev rfl (up rfl tp))) ?_
  refine RW.soft Wd.a (v := .int .u64 ((r6.2).toNat : Int)) (by exact E.assign (AF_ev rfl (up rfl tp))) ?_
  refine RW.fin (fun τ => τ 0 = .agg ((t.map bu8)).toArray ∧ τ 1 = .agg ((o.map bu8)).toArray ∧ τ 2 = .pointer (some ⟨b1, 0, none⟩) ∧ τ 3 = .pointer (some ⟨b2, 0, none⟩) ∧ τ 4 = .pointer (some ⟨b3, 0, none⟩) ∧ τ 5 = .int .u64 ((r4.1).toNat : Int) ∧ τ 6 = .int .u64 ((r4.2).toNat : Int) ∧ τ 7 = .int .u64 ((r6.1).toNat : Int) ∧ τ 8 = .int .u64 ((r6.2).toNat : Int)) ⟨up rfl (up rfl (up rfl (up rfl (up rfl (up rfl (up rfl hs0)))))), up rfl (up rfl (up rfl (up rfl (up rfl (up rfl (up rfl hs1)))))), up rfl (up rfl (up rfl (up rfl (up rfl (up rfl (up rfl hs2)))))), up rfl (up rfl (up rfl (up rfl (up rfl (up rfl (up rfl hs3)))))), up rfl (up rfl (up rfl (up rfl (up rfl (up rfl (up rfl hs4)))))), up rfl (up rfl (up rfl (up rfl (up rfl (up rfl (up rfl hs5)))))), up rfl (up rfl (up rfl (up rfl (up rfl (up rfl (up rfl hs6)))))), up rfl tp, tp⟩ ?_
  rintro τ ⟨hs0, hs1, hs2, hs3, hs4, hs5, hs6, hs7, hs8⟩
  refine CW.seq ?_
  refine CW.region ?_
  refine RW.soft Wd.a (v := .int .u64 ((0#64).toNat : Int)) (by exact E.assign rfl) ?_
  refine RW.soft Wd.a (v := .int .u64 ((0#64).toNat : Int)) (by exact E.assign rfl) ?_
  refine RW.fin (fun τ => τ 0 = .agg ((t.map bu8)).toArray ∧ τ 1 = .agg ((o.map bu8)).toArray ∧ τ 2 = .pointer (some ⟨b1, 0, none⟩) ∧ τ 3 = .pointer (some ⟨b2, 0, none⟩) ∧ τ 4 = .pointer (some ⟨b3, 0, none⟩) ∧ τ 5 = .int .u64 ((r4.1).toNat : Int) ∧ τ 6 = .int .u64 ((r4.2).toNat : Int) ∧ τ 7 = .int .u64 ((r6.1).toNat : Int) ∧ τ 8 = .int .u64 ((r6.2).toNat : Int) ∧ τ 9 = .int .u64 ((0#64).toNat : Int) ∧ τ 10 = .int .u64 ((0#64).toNat : Int)) ⟨up rfl (up rfl hs0), up rfl (up rfl hs1), up rfl (up rfl hs2), up rfl (up rfl hs3), up rfl (up rfl hs4), up rfl (up rfl hs5), up rfl (up rfl hs6), up rfl (up rfl hs7), up rfl (up rfl hs8), up rfl tp, tp⟩ ?_
  rintro τ ⟨hs0, hs1, hs2, hs3, hs4, hs5, hs6, hs7, hs8, hs9, hs10⟩
  refine CW.seq ?_
  refine CW.seq ?_
  refine CW.region ?_
  refine RW.soft Wd.a (v := .int .i64 0) (by exact E.move rfl) ?_
  refine RW.fin (fun τ => τ 0 = .agg ((t.map bu8)).toArray ∧ τ 1 = .agg ((o.map bu8)).toArray ∧ τ 2 = .pointer (some ⟨b1, 0, none⟩) ∧ τ 3 = .pointer (some ⟨b2, 0, none⟩) ∧ τ 4 = .pointer (some ⟨b3, 0, none⟩) ∧ τ 5 = .int .u64 ((r4.1).toNat : Int) ∧ τ 6 = .int .u64 ((r4.2).toNat : Int) ∧ τ 7 = .int .u64 ((r6.1).toNat : Int) ∧ τ 8 = .int .u64 ((r6.2).toNat : Int) ∧ τ 9 = .int .u64 ((0#64).toNat : Int) ∧ τ 10 = .int .u64 ((0#64).toNat : Int) ∧ τ 25 = .int .i64 0) ⟨up rfl hs0, up rfl hs1, up rfl hs2, up rfl hs3, up rfl hs4, up rfl hs5, up rfl hs6, up rfl hs7, up rfl hs8, up rfl hs9, up rfl hs10, tp⟩ ?_
  rintro τ ⟨hs0, hs1, hs2, hs3, hs4, hs5, hs6, hs7, hs8, hs9, hs10, hs25⟩
  refine CW.block ?_
  refine CW.loop (fun (k13 : Nat) (τ : Fr) (w : World) => ∃ (s8 : BitVec 64) (s9 : BitVec 64) (s10 : BitVec 64) (s11 : BitVec 64) (i12 : Nat), BMul_l1 r4 k13 s8 s9 s10 s11 i12 = some r ∧ τ 7 = .int .u64 ((s8).toNat : Int) ∧ τ 8 = .int .u64 ((s9).toNat : Int) ∧ τ 9 = .int .u64 ((s10).toNat : Int) ∧ τ 10 = .int .u64 ((s11).toNat : Int) ∧ τ 25 = .int .i64 ((i12 : Nat) : Int) ∧ τ 4 = .pointer (some ⟨b3, 0, none⟩) ∧ τ 5 = .int .u64 ((r4.1).toNat : Int) ∧ τ 6 = .int .u64 ((r4.2).toNat : Int) ∧ St p w (pt b3 (.cells (((List.replicate 16 0#8).map bu8)).toArray 119) :: R)) 1099511627776 ?_ ?_
  · skip
    have hst := (hst.take (.there .here)).drop
    have hst := (hst.take (.there .here)).drop
    exact ⟨r6.1, r6.2, (0#64), (0#64), 0, hF, hs7, hs8, hs9, hs10, (int_eq (a := 0) hs25 (by omega)), hs4, hs5, hs6, hst⟩
  clear hst hF
  rintro k13 τ w ⟨s8, s9, s10, s11, i12, hF, hs7, hs8, hs9, hs10, hs25, hs4, hs5, hs6, hst⟩
  obtain ⟨k14, rfl⟩ := BMul_l1_pos hF
  rw [BMul_l1] at hF
  refine CW.seq ?_
  refine CW.region ?_
  refine RW.soft Wd.a (v := .bool (decide (((i12 : Nat) : Int) < 128))) (by exact E.lss (k := .i64) (a := ((i12 : Nat) : Int)) (b := 128) (AF_ev rfl hs25) rfl) ?_
  refine RW.fin (fun τ => τ 4 = .pointer (some ⟨b3, 0, none⟩) ∧ τ 5 = .int .u64 ((r4.1).toNat : Int) ∧ τ 6 = .int .u64 ((r4.2).toNat : Int) ∧ τ 7 = .int .u64 ((s8).toNat : Int) ∧ τ 8 = .int .u64 ((s9).toNat : Int) ∧ τ 9 = .int .u64 ((s10).toNat : Int) ∧ τ 10 = .int .u64 ((s11).toNat : Int) ∧ τ 25 = .int .i64 ((i12 : Nat) : Int) ∧ τ 26 = .bool (decide (((i12 : Nat) : Int) < 128))) ⟨up rfl hs4, up rfl hs5, up rfl hs6, up rfl hs7, up rfl hs8, up rfl hs9, up rfl hs10, up rfl hs25, tp⟩ ?_
  rintro τ ⟨hs4, hs5, hs6, hs7, hs8, hs9, hs10, hs25, hs26⟩
  refine CW.seq ?_
  refine CW.cond (AF_ev rfl hs26) (fun hc15 => ?_) (fun hc15 => ?_)
  · have hF := ct hc15 hF
    have hc15_ := hc15
    try simp only [decide_eq_true_eq] at hc15_
    refine CW.skip ?_
    refine Th.n ?_
    refine CW.seq ?_
    refine CW.block ?_
    refine CW.seq ?_
    refine CW.region ?_
    refine RW.soft Wd.a (v := .int .i64 ((i12 : Nat) : Int)) (by exact E.move (AF_ev rfl hs25)) ?_
    refine RW.soft Wd.a (v := .int .i64 ((i12 : Nat) : Int)) (by exact E.assign (AF_ev rfl tp)) ?_
    refine RW.fin (fun τ => τ 4 = .pointer (some ⟨b3, 0, none⟩) ∧ τ 5 = .int .u64 ((r4.1).toNat : Int) ∧ τ 6 = .int .u64 ((r4.2).toNat : Int) ∧ τ 7 = .int .u64 ((s8).toNat : Int) ∧ τ 8 = .int .u64 ((s9).toNat : Int) ∧ τ 9 = .int .u64 ((s10).toNat : Int) ∧ τ 10 = .int .u64 ((s11).toNat : Int) ∧ τ 11 = .int .i64 ((i12 : Nat) : Int) ∧ τ 25 = .int .i64 ((i12 : Nat) : Int) ∧ τ 26 = .bool true) ⟨up rfl (up rfl hs4), up rfl (up rfl hs5), up rfl (up rfl hs6), up rfl (up rfl hs7), up rfl (up rfl hs8), up rfl (up rfl hs9), up rfl (up rfl hs10), tp, up rfl (up rfl hs25), up rfl (up rfl (Eq.trans hs26 (congrArg Value.bool hc15)))⟩ ?_
    rintro τ ⟨hs4, hs5, hs6, hs7, hs8, hs9, hs10, hs11, hs25, hs26⟩
    refine CW.seq ?_
    refine CW.region ?_
    refine RW.soft Wd.a (v := .int .u64 ((r4.1).toNat : Int)) (by exact E.move (AF_ev rfl hs5)) ?_
    refine RW.soft Wd.a (v := .int .u64 ((r4.1).toNat : Int)) (by exact E.assign (AF_ev rfl tp)) ?_
    refine RW.fin (fun τ => τ 4 = .pointer (some ⟨b3, 0, none⟩) ∧ τ 5 = .int .u64 ((r4.1).toNat : Int) ∧ τ 6 = .int .u64 ((r4.2).toNat : Int) ∧ τ 7 = .int .u64 ((s8).toNat : Int) ∧ τ 8 = .int .u64 ((s9).toNat : Int) ∧ τ 9 = .int .u64 ((s10).toNat : Int) ∧ τ 10 = .int .u64 ((s11).toNat : Int) ∧ τ 11 = .int .i64 ((i12 : Nat) : Int) ∧ τ 12 = .int .u64 ((r4.1).toNat : Int) ∧ τ 25 = .int .i64 ((i12 : Nat) : Int) ∧ τ 26 = .bool true) ⟨up rfl (up rfl hs4), up rfl (up rfl hs5), up rfl (up rfl hs6), up rfl (up rfl hs7), up rfl (up rfl hs8), up rfl (up rfl hs9), up rfl (up rfl hs10), up rfl (up rfl hs11), tp, up rfl (up rfl hs25), up rfl (up rfl hs26)⟩ ?_
    rintro τ ⟨hs4, hs5, hs6, hs7, hs8, hs9, hs10, hs11, hs12, hs25, hs26⟩
    refine CW.seqJ (fun τ w => ∃ (j16 : BitVec 64) (j17 : Bool), BMul_j2 r4 s8 s9 s10 s11 i12 (fun (s8_ : BitVec 64) (s9_ : BitVec 64) (s10_ : BitVec 64) (s11_ : BitVec 64) (i12_ : Nat) => BMul_l1 r4 k14 s8_ s9_ s10_ s11_ i12_) j16 j17 = some r ∧ τ 4 = .pointer (some ⟨b3, 0, none⟩) ∧ τ 5 = .int .u64 ((r4.1).toNat : Int) ∧ τ 6 = .int .u64 ((r4.2).toNat : Int) ∧ τ 7 = .int .u64 ((s8).toNat : Int) ∧ τ 8 = .int .u64 ((s9).toNat : Int) ∧ τ 9 = .int .u64 ((s10).toNat : Int) ∧ τ 10 = .int .u64 ((s11).toNat : Int) ∧ τ 11 = .int .i64 ((i12 : Nat) : Int) ∧ τ 12 = .int .u64 ((j16).toNat : Int) ∧ τ 25 = .int .i64 ((i12 : Nat) : Int) ∧ τ 26 = .bool true ∧ τ 30 = .bool j17 ∧ St p w (pt b3 (.cells (((List.replicate 16 0#8).map bu8)).toArray 119) :: R)) ?_ ?_
    · skip
      refine CW.seq ?_
      refine CW.region ?_
      refine RW.soft Wd.a (v := .int .i64 ((i12 : Nat) : Int)) (by exact E.move (AF_ev rfl hs11)) ?_
      refine RW.soft Wd.a (v := .bool (decide (((i12 : Nat) : Int) ≥ 64))) (by exact E.geq (k := .i64) (a := ((i12 : Nat) : Int)) (b := 64) (AF_ev rfl tp) rfl) ?_
      refine RW.fin (fun τ => τ 4 = .pointer (some ⟨b3, 0, none⟩) ∧ τ 5 = .int .u64 ((r4.1).toNat : Int) ∧ τ 6 = .int .u64 ((r4.2).toNat : Int) ∧ τ 7 = .int .u64 ((s8).toNat : Int) ∧ τ 8 = .int .u64 ((s9).toNat : Int) ∧ τ 9 = .int .u64 ((s10).toNat : Int) ∧ τ 10 = .int .u64 ((s11).toNat : Int) ∧ τ 11 = .int .i64 ((i12 : Nat) : Int) ∧ τ 12 = .int .u64 ((r4.1).toNat : Int) ∧ τ 25 = .int .i64 ((i12 : Nat) : Int) ∧ τ 26 = .bool true ∧ τ 30 = .bool (decide (((i12 : Nat) : Int) ≥ 64))) ⟨up rfl (up rfl hs4), up rfl (up rfl hs5), up rfl (up rfl hs6), up rfl (up rfl hs7), up rfl (up rfl hs8), up rfl (up rfl hs9), up rfl (up rfl hs10), up rfl (up rfl hs11), up rfl (up rfl hs12), up rfl (up rfl hs25), up rfl (up rfl hs26), tp⟩ ?_
      rintro τ ⟨hs4, hs5, hs6, hs7, hs8, hs9, hs10, hs11, hs12, hs25, hs26, hs30⟩
      refine CW.cond (AF_ev rfl hs30) (fun hc18 => ?_) (fun hc18 => ?_)
      · have hF := ct hc18 hF
        have hc18_ := hc18
        try simp only [decide_eq_true_eq, gt_iff_lt, ge_iff_le] at hc18_
        refine CW.region ?_
        refine RW.soft Wd.a (v := .int .u64 ((r4.2).toNat : Int)) (by exact E.move (AF_ev rfl hs6)) ?_
        refine RW.soft Wd.a (v := .int .u64 ((r4.2).toNat : Int)) (by exact E.assign (AF_ev rfl tp)) ?_
        refine RW.nil ?_
        refine Th.n ?_
        exact ⟨r4.2, true, hF, up rfl (up rfl hs4), up rfl (up rfl hs5), up rfl (up rfl hs6), up rfl (up rfl hs7), up rfl (up rfl hs8), up rfl (up rfl hs9), up rfl (up rfl hs10), up rfl (up rfl hs11), tp, up rfl (up rfl hs25), up rfl (up rfl hs26), up rfl (up rfl (Eq.trans hs30 (congrArg Value.bool hc18))), hst⟩
      · have hF := cf hc18 hF
        have hc18_ := hc18
        try simp only [decide_eq_false_iff_not, Int.not_lt, Int.not_le, gt_iff_lt, ge_iff_le] at hc18_
        refine CW.skip ?_
        refine Th.n ?_
        exact ⟨r4.1, false, hF, hs4, hs5, hs6, hs7, hs8, hs9, hs10, hs11, hs12, hs25, hs26, (Eq.trans hs30 (congrArg Value.bool hc18)), hst⟩
    rintro τ w ⟨j16, j17, hF, hs4, hs5, hs6, hs7, hs8, hs9, hs10, hs11, hs12, hs25, hs26, hs30, hst⟩
    unfold BMul_j2 at hF
    refine CW.seq ?_
    refine CW.region ?_
    refine RW.soft Wd.a (v := .int .u64 ((j16).toNat : Int)) (by exact E.move (AF_ev rfl hs12)) ?_
    refine RW.soft Wd.a (v := .int .i64 ((i12 : Nat) : Int)) (by exact E.move (AF_ev rfl (up rfl hs11))) ?_
    refine RW.soft Wd.a (v := .int .i64 (((i12 : Nat) : Int) % 64)) (by exact E.rem (k := .i64) (a := ((i12 : Nat) : Int)) (b := 64) (AF_ev rfl tp) rfl (by omega) (by exact Int.tmod_eq_emod_of_nonneg (by omega))) ?_
    refine RW.soft Wd.a (v := .int .i64 (63 - (((i12 : Nat) : Int) % 64))) (by exact E.sub (k := .i64) (a := 63) (b := ((i12 : Nat) : Int) % 64) rfl (AF_ev rfl tp) (show IntKind.i64.wrap (63 - (((i12 : Nat) : Int) % 64)) = 63 - (((i12 : Nat) : Int) % 64) from (by rw [IntWalk.i64_in _ (by omega)]))) ?_
    obtain ⟨u19, h_u19, hF⟩ := lp hF
    refine RW.soft Wd.a (v := .int .u64 ((u19).toNat : Int)) (by exact E.v (E.ushr (a := j16) (j := (63 - (((i12 : Nat) : Int) % 64)).toNat) UK.u64 (AF_ev rfl (up rfl (up rfl (up rfl tp)))) (AF_ev rfl tp) (by omega)) (by first | (rw [h_u19]; done) | (rw [h_u19]; rfl))) ?_
    refine RW.soft Wd.a (v := .int .u64 ((u19 &&& (1#64)).toNat : Int)) (by exact E.uand (a := u19) (b := 1#64) UK.u64 (AF_ev rfl tp) rfl) ?_
    refine RW.soft Wd.a (v := .int .u64 ((-(u19 &&& (1#64))).toNat : Int)) (by exact E.uneg (a := u19 &&& (1#64)) UK.u64 (AF_ev rfl tp)) ?_
    refine RW.soft Wd.a (v := .int .u64 ((-(u19 &&& (1#64))).toNat : Int)) (by exact E.assign (AF_ev rfl tp)) ?_
    refine RW.fin (fun τ => τ 4 = .pointer (some ⟨b3, 0, none⟩) ∧ τ 5 = .int .u64 ((r4.1).toNat : Int) ∧ τ 6 = .int .u64 ((r4.2).toNat : Int) ∧ τ 7 = .int .u64 ((s8).toNat : Int) ∧ τ 8 = .int .u64 ((s9).toNat : Int) ∧ τ 9 = .int .u64 ((s10).toNat : Int) ∧ τ 10 = .int .u64 ((s11).toNat : Int) ∧ τ 11 = .int .i64 ((i12 : Nat) : Int) ∧ τ 12 = .int .u64 ((j16).toNat : Int) ∧ τ 13 = .int .u64 ((-(u19 &&& (1#64))).toNat : Int) ∧ τ 25 = .int .i64 ((i12 : Nat) : Int) ∧ τ 26 = .bool true ∧ τ 30 = .bool j17) ⟨up rfl (up rfl (up rfl (up rfl (up rfl (up rfl (up rfl (up rfl hs4))))))), up rfl (up rfl (up rfl (up rfl (up rfl (up rfl (up rfl (up rfl hs5))))))), up rfl (up rfl (up rfl (up rfl (up rfl (up rfl (up rfl (up rfl hs6))))))), up rfl (up rfl (up rfl (up rfl (up rfl (up rfl (up rfl (up rfl hs7))))))), up rfl (up rfl (up rfl (up rfl (up rfl (up rfl (up rfl (up rfl hs8))))))), up rfl (up rfl (up rfl (up rfl (up rfl (up rfl (up rfl (up rfl hs9))))))), up rfl (up rfl (up rfl (up rfl (up rfl (up rfl (up rfl (up rfl hs10))))))), up rfl (up rfl (up rfl (up rfl (up rfl (up rfl (up rfl (up rfl hs11))))))), up rfl (up rfl (up rfl (up rfl (up rfl (up rfl (up rfl (up rfl hs12))))))), tp, up rfl (up rfl (up rfl (up rfl (up rfl (up rfl (up rfl (up rfl hs25))))))), up rfl (up rfl (up rfl (up rfl (up rfl (up rfl (up rfl (up rfl hs26))))))), up rfl (up rfl (up rfl (up rfl (up rfl (up rfl (up rfl (up rfl hs30)))))))⟩ ?_
    rintro τ ⟨hs4, hs5, hs6, hs7, hs8, hs9, hs10, hs11, hs12, hs13, hs25, hs26, hs30⟩
    refine CW.seq ?_
    refine CW.region ?_
    refine RW.soft Wd.a (v := .int .u64 ((s10).toNat : Int)) (by exact E.move (AF_ev rfl hs9)) ?_
    refine RW.soft Wd.a (v := .int .u64 ((s8).toNat : Int)) (by exact E.move (AF_ev rfl (up rfl hs7))) ?_
    refine RW.soft Wd.a (v := .int .u64 ((-(u19 &&& (1#64))).toNat : Int)) (by exact E.move (AF_ev rfl (up rfl (up rfl hs13)))) ?_
    refine RW.soft Wd.a (v := .int .u64 ((s8 &&& (-(u19 &&& (1#64)))).toNat : Int)) (by exact E.uand (a := s8) (b := -(u19 &&& (1#64))) UK.u64 (AF_ev rfl (up rfl tp)) (AF_ev rfl tp)) ?_
    refine RW.soft Wd.a (v := .int .u64 ((s10 ^^^ (s8 &&& (-(u19 &&& (1#64))))).toNat : Int)) (by exact E.uxor (a := s10) (b := s8 &&& (-(u19 &&& (1#64)))) UK.u64 (AF_ev rfl (up rfl (up rfl (up rfl tp)))) (AF_ev rfl tp)) ?_
    refine RW.soft Wd.a (v := .int .u64 ((s11).toNat : Int)) (by exact E.move (AF_ev rfl (up rfl (up rfl (up rfl (up rfl (up rfl hs10))))))) ?_
    refine RW.soft Wd.a (v := .int .u64 ((s9).toNat : Int)) (by exact E.move (AF_ev rfl (up rfl (up rfl (up rfl (up rfl (up rfl (up rfl hs8)))))))) ?_
    refine RW.soft Wd.a (v := .int .u64 ((-(u19 &&& (1#64))).toNat : Int)) (by exact E.move (AF_ev rfl (up rfl (up rfl (up rfl (up rfl (up rfl (up rfl (up rfl hs13))))))))) ?_
    refine RW.soft Wd.a (v := .int .u64 ((s9 &&& (-(u19 &&& (1#64)))).toNat : Int)) (by exact E.uand (a := s9) (b := -(u19 &&& (1#64))) UK.u64 (AF_ev rfl (up rfl tp)) (AF_ev rfl tp)) ?_
    refine RW.soft Wd.a (v := .int .u64 ((s11 ^^^ (s9 &&& (-(u19 &&& (1#64))))).toNat : Int)) (by exact E.uxor (a := s11) (b := s9 &&& (-(u19 &&& (1#64)))) UK.u64 (AF_ev rfl (up rfl (up rfl (up rfl tp)))) (AF_ev rfl tp)) ?_
    refine RW.soft Wd.a (v := .int .u64 ((s10 ^^^ (s8 &&& (-(u19 &&& (1#64))))).toNat : Int)) (by exact E.assign (AF_ev rfl (up rfl (up rfl (up rfl (up rfl (up rfl tp))))))) ?_
    refine RW.soft Wd.a (v := .int .u64 ((s11 ^^^ (s9 &&& (-(u19 &&& (1#64))))).toNat : Int)) (by exact E.assign (AF_ev rfl (up rfl tp))) ?_
    refine RW.fin (fun τ => τ 4 = .pointer (some ⟨b3, 0, none⟩) ∧ τ 5 = .int .u64 ((r4.1).toNat : Int) ∧ τ 6 = .int .u64 ((r4.2).toNat : Int) ∧ τ 7 = .int .u64 ((s8).toNat : Int) ∧ τ 8 = .int .u64 ((s9).toNat : Int) ∧ τ 9 = .int .u64 ((s10 ^^^ (s8 &&& (-(u19 &&& (1#64))))).toNat : Int) ∧ τ 10 = .int .u64 ((s11 ^^^ (s9 &&& (-(u19 &&& (1#64))))).toNat : Int) ∧ τ 11 = .int .i64 ((i12 : Nat) : Int) ∧ τ 12 = .int .u64 ((j16).toNat : Int) ∧ τ 13 = .int .u64 ((-(u19 &&& (1#64))).toNat : Int) ∧ τ 25 = .int .i64 ((i12 : Nat) : Int) ∧ τ 26 = .bool true ∧ τ 30 = .bool j17) ⟨up rfl (up rfl (up rfl (up rfl (up rfl (up rfl (up rfl (up rfl (up rfl (up rfl (up rfl (up rfl hs4))))))))))), up rfl (up rfl (up rfl (up rfl (up rfl (up rfl (up rfl (up rfl (up rfl (up rfl (up rfl (up rfl hs5))))))))))), up rfl (up rfl (up rfl (up rfl (up rfl (up rfl (up rfl (up rfl (up rfl (up rfl (up rfl (up rfl hs6))))))))))), up rfl (up rfl (up rfl (up rfl (up rfl (up rfl (up rfl (up rfl (up rfl (up rfl (up rfl (up rfl hs7))))))))))), up rfl (up rfl (up rfl (up rfl (up rfl (up rfl (up rfl (up rfl (up rfl (up rfl (up rfl (up rfl hs8))))))))))), up rfl tp, tp, up rfl (up rfl (up rfl (up rfl (up rfl (up rfl (up rfl (up rfl (up rfl (up rfl (up rfl (up rfl hs11))))))))))), up rfl (up rfl (up rfl (up rfl (up rfl (up rfl (up rfl (up rfl (up rfl (up rfl (up rfl (up rfl hs12))))))))))), up rfl (up rfl (up rfl (up rfl (up rfl (up rfl (up rfl (up rfl (up rfl (up rfl (up rfl (up rfl hs13))))))))))), up rfl (up rfl (up rfl (up rfl (up rfl (up rfl (up rfl (up rfl (up rfl (up rfl (up rfl (up rfl hs25))))))))))), up rfl (up rfl (up rfl (up rfl (up rfl (up rfl (up rfl (up rfl (up rfl (up rfl (up rfl (up rfl hs26))))))))))), up rfl (up rfl (up rfl (up rfl (up rfl (up rfl (up rfl (up rfl (up rfl (up rfl (up rfl (up rfl hs30)))))))))))⟩ ?_
    rintro τ ⟨hs4, hs5, hs6, hs7, hs8, hs9, hs10, hs11, hs12, hs13, hs25, hs26, hs30⟩
    refine CW.seq ?_
    refine CW.region ?_
    refine RW.soft Wd.a (v := .int .u64 ((s9).toNat : Int)) (by exact E.move (AF_ev rfl hs8)) ?_
    refine RW.soft Wd.a (v := .int .u64 ((s9 &&& (1#64)).toNat : Int)) (by exact E.uand (a := s9) (b := 1#64) UK.u64 (AF_ev rfl tp) rfl) ?_
    refine RW.soft Wd.a (v := .int .u64 ((-(s9 &&& (1#64))).toNat : Int)) (by exact E.uneg (a := s9 &&& (1#64)) UK.u64 (AF_ev rfl tp)) ?_
    refine RW.soft Wd.a (v := .int .u64 ((-(s9 &&& (1#64))).toNat : Int)) (by exact E.assign (AF_ev rfl tp)) ?_
    refine RW.fin (fun τ => τ 4 = .pointer (some ⟨b3, 0, none⟩) ∧ τ 5 = .int .u64 ((r4.1).toNat : Int) ∧ τ 6 = .int .u64 ((r4.2).toNat : Int) ∧ τ 7 = .int .u64 ((s8).toNat : Int) ∧ τ 8 = .int .u64 ((s9).toNat : Int) ∧ τ 9 = .int .u64 ((s10 ^^^ (s8 &&& (-(u19 &&& (1#64))))).toNat : Int) ∧ τ 10 = .int .u64 ((s11 ^^^ (s9 &&& (-(u19 &&& (1#64))))).toNat : Int) ∧ τ 11 = .int .i64 ((i12 : Nat) : Int) ∧ τ 12 = .int .u64 ((j16).toNat : Int) ∧ τ 13 = .int .u64 ((-(u19 &&& (1#64))).toNat : Int) ∧ τ 14 = .int .u64 ((-(s9 &&& (1#64))).toNat : Int) ∧ τ 25 = .int .i64 ((i12 : Nat) : Int) ∧ τ 26 = .bool true ∧ τ 30 = .bool j17) ⟨up rfl (up rfl (up rfl (up rfl hs4))), up rfl (up rfl (up rfl (up rfl hs5))), up rfl (up rfl (up rfl (up rfl hs6))), up rfl (up rfl (up rfl (up rfl hs7))), up rfl (up rfl (up rfl (up rfl hs8))), up rfl (up rfl (up rfl (up rfl hs9))), up rfl (up rfl (up rfl (up rfl hs10))), up rfl (up rfl (up rfl (up rfl hs11))), up rfl (up rfl (up rfl (up rfl hs12))), up rfl (up rfl (up rfl (up rfl hs13))), tp, up rfl (up rfl (up rfl (up rfl hs25))), up rfl (up rfl (up rfl (up rfl hs26))), up rfl (up rfl (up rfl (up rfl hs30)))⟩ ?_
    rintro τ ⟨hs4, hs5, hs6, hs7, hs8, hs9, hs10, hs11, hs12, hs13, hs14, hs25, hs26, hs30⟩
    refine CW.region ?_
    refine RW.soft Wd.a (v := .int .u64 ((s8).toNat : Int)) (by exact E.move (AF_ev rfl hs7)) ?_
    refine RW.soft Wd.a (v := .int .u64 ((s8 >>> 1).toNat : Int)) (by exact E.ushr (a := s8) (j := 1) UK.u64 (AF_ev rfl tp) rfl rfl) ?_
    refine RW.soft Wd.a (v := .int .u64 ((-(s9 &&& (1#64))).toNat : Int)) (by exact E.move (AF_ev rfl (up rfl (up rfl hs14)))) ?_
    refine RW.soft Wd.a (v := .int .u64 (((16212958658533785600#64) &&& (-(s9 &&& (1#64)))).toNat : Int)) (by exact E.uand (a := 16212958658533785600#64) (b := -(s9 &&& (1#64))) UK.u64 rfl (AF_ev rfl tp)) ?_
    obtain ⟨u20, h_u20, hF⟩ := lp hF
    refine RW.soft Wd.a (v := .int .u64 ((u20).toNat : Int)) (by exact E.v (E.uxor (a := s8 >>> 1) (b := (16212958658533785600#64) &&& (-(s9 &&& (1#64)))) UK.u64 (AF_ev rfl (up rfl (up rfl tp))) (AF_ev rfl tp)) (by first | (rw [h_u20]; done) | (rw [h_u20]; rfl))) ?_
    refine RW.soft Wd.a (v := .int .u64 ((s9).toNat : Int)) (by exact E.move (AF_ev rfl (up rfl (up rfl (up rfl (up rfl (up rfl hs8))))))) ?_
    refine RW.soft Wd.a (v := .int .u64 ((s9 >>> 1).toNat : Int)) (by exact E.ushr (a := s9) (j := 1) UK.u64 (AF_ev rfl tp) rfl rfl) ?_
    refine RW.soft Wd.a (v := .int .u64 ((s8).toNat : Int)) (by exact E.move (AF_ev rfl (up rfl (up rfl (up rfl (up rfl (up rfl (up rfl (up rfl hs7))))))))) ?_
    refine RW.soft Wd.a (v := .int .u64 ((s8 <<< 63).toNat : Int)) (by exact E.ushl (a := s8) (j := 63) UK.u64 (AF_ev rfl tp) rfl rfl) ?_
    refine RW.soft Wd.a (v := .int .u64 (((s9 >>> 1) ||| (s8 <<< 63)).toNat : Int)) (by exact E.uor (a := s9 >>> 1) (b := s8 <<< 63) UK.u64 (AF_ev rfl (up rfl (up rfl tp))) (AF_ev rfl tp)) ?_
    refine RW.soft Wd.a (v := .int .u64 ((u20).toNat : Int)) (by exact E.assign (AF_ev rfl (up rfl (up rfl (up rfl (up rfl (up rfl tp))))))) ?_
    refine RW.soft Wd.a (v := .int .u64 (((s9 >>> 1) ||| (s8 <<< 63)).toNat : Int)) (by exact E.assign (AF_ev rfl (up rfl tp))) ?_
    refine RW.nil ?_
    refine Bl.n ?_
    refine Th.n ?_
    refine CW.region ?_
    refine RW.soft Wd.a (v := .int .i64 (((i12 : Nat) : Int) + 1)) (by exact E.add (k := .i64) (a := ((i12 : Nat) : Int)) (b := 1) (AF_ev rfl (up rfl (up rfl (up rfl (up rfl (up rfl (up rfl (up rfl (up rfl (up rfl (up rfl (up rfl (up rfl hs25))))))))))))) rfl (show IntKind.i64.wrap (((i12 : Nat) : Int) + 1) = ((i12 : Nat) : Int) + 1 from (by rw [IntWalk.i64_in _ (by omega)]))) ?_
    refine RW.soft Wd.a (v := .int .i64 (((i12 : Nat) : Int) + 1)) (by exact E.move (AF_ev rfl tp)) ?_
    refine RW.nil ?_
    refine Th.n ?_
    exact ⟨k14, Nat.lt_succ_self _, u20, ((s9 >>> 1) ||| (s8 <<< 63)), (s10 ^^^ (s8 &&& (-(u19 &&& (1#64))))), (s11 ^^^ (s9 &&& (-(u19 &&& (1#64))))), (i12 + 1), hF, up rfl (up rfl (up rfl tp)), up rfl (up rfl tp), up rfl (up rfl (up rfl (up rfl (up rfl (up rfl (up rfl (up rfl (up rfl (up rfl (up rfl (up rfl (up rfl (up rfl hs9))))))))))))), up rfl (up rfl (up rfl (up rfl (up rfl (up rfl (up rfl (up rfl (up rfl (up rfl (up rfl (up rfl (up rfl (up rfl hs10))))))))))))), (int_eq (a := ((i12 : Nat) : Int) + 1) tp (by omega)), up rfl (up rfl (up rfl (up rfl (up rfl (up rfl (up rfl (up rfl (up rfl (up rfl (up rfl (up rfl (up rfl (up rfl hs4))))))))))))), up rfl (up rfl (up rfl (up rfl (up rfl (up rfl (up rfl (up rfl (up rfl (up rfl (up rfl (up rfl (up rfl (up rfl hs5))))))))))))), up rfl (up rfl (up rfl (up rfl (up rfl (up rfl (up rfl (up rfl (up rfl (up rfl (up rfl (up rfl (up rfl (up rfl hs6))))))))))))), hst⟩
  · have hF := cf hc15 hF
    have hc15_ := hc15
    try simp only [decide_eq_false_iff_not, Int.not_lt, Int.not_le, gt_iff_lt, ge_iff_le] at hc15_
    refine CW.exit ?_
    refine Th.x ?_
    refine Th.x ?_
    refine Bl.x ?_
    refine Th.n ?_
    refine CW.seq ?_
    refine CW.region ?_
    refine RW.soft Wd.a (v := .int .u64 ((s10).toNat : Int)) (by exact E.move (AF_ev rfl hs9)) ?_
    refine RW.soft Wd.a (v := .int .u64 ((s11).toNat : Int)) (by exact E.move (AF_ev rfl (up rfl hs10))) ?_
    obtain ⟨r21, h_r21, hF⟩ := bd hF
    refine RW.hard Wd.a ?_
    refine H.call0 Try.func121 nm121 rfl (map2 (AF_ev rfl (up rfl tp)) (AF_ev rfl tp)) (Calls.mono (Whole_C s10 s11 r21 h_r21 hst) ?_)
    rintro _ w ⟨rfl, hl_q22_0, hst⟩
    refine ⟨_, rfl, ?_⟩
    show RW _ _ _ _ _ _ _
    refine RW.hard Wd.a ?_
    refine H.storeL (b := b3) (o := 0) (m := 16) (v := .agg ((r21.map bu8)).toArray) (ys := (r21.map bu8)) (L' := (r21.map bu8)) (AF_ev rfl (up rfl (up rfl (up rfl hs4)))) (AF_ev rfl tp) hst .here sz119 rfl ((List.length_map _).trans hl_q22_0) (ones_map (fun _ => rfl)) (putW (Eq.trans (show (r21.map bu8).length = 16 from ((List.length_map _).trans hl_q22_0)) (Eq.symm (show ((List.replicate 16 0#8).map bu8).length = 16 from ((List.length_map _).trans (List.length_replicate)))))) fun w hst => ?_
    refine RW.fin (fun τ => τ 4 = .pointer (some ⟨b3, 0, none⟩) ∧ τ 5 = .int .u64 ((r4.1).toNat : Int) ∧ τ 6 = .int .u64 ((r4.2).toNat : Int) ∧ τ 7 = .int .u64 ((s8).toNat : Int) ∧ τ 8 = .int .u64 ((s9).toNat : Int) ∧ τ 9 = .int .u64 ((s10).toNat : Int) ∧ τ 10 = .int .u64 ((s11).toNat : Int) ∧ τ 25 = .int .i64 ((i12 : Nat) : Int) ∧ τ 26 = .bool false) ⟨u0 (up rfl (up rfl (up rfl hs4))), u0 (up rfl (up rfl (up rfl hs5))), u0 (up rfl (up rfl (up rfl hs6))), u0 (up rfl (up rfl (up rfl hs7))), u0 (up rfl (up rfl (up rfl hs8))), u0 (up rfl (up rfl (up rfl hs9))), u0 (up rfl (up rfl (up rfl hs10))), u0 (up rfl (up rfl (up rfl hs25))), u0 (up rfl (up rfl (up rfl (Eq.trans hs26 (congrArg Value.bool hc15)))))⟩ ?_
    rintro τ ⟨hs4, hs5, hs6, hs7, hs8, hs9, hs10, hs25, hs26⟩
    refine CW.ret ?_
    refine ret1 (v := .agg ((r21.map bu8)).toArray) rfl (by exact (.cell (AF_ev rfl hs4) (hst.blockAt .here) Try.underlying119 rfl (by rw [List.size_toArray, show ((r21.map bu8)).length = 16 from ((List.length_map _).trans hl_q22_0)]; exact sz119) .nil)) ?_
    have hst := (hst.take .here).drop
    rw [somE hF]
    exact ⟨rfl, hl_q22_0, hst⟩

def Next (b : List (BitVec 8)) : Option (List (BitVec 8)) :=
  lt_ ((((b.getD 12 0#8).setWidth 32) <<< 24) ||| (((b.getD 13 0#8).setWidth 32) <<< 16)) fun u3 =>
  lt_ ((u3 ||| (((b.getD 14 0#8).setWidth 32) <<< 8)) ||| ((b.getD 15 0#8).setWidth 32)) fun u4 =>
  lt_ (b.set 12 (((u4 + (1#32)) >>> 24).setWidth 8)) fun m5 =>
  lt_ (m5.set 13 (((u4 + (1#32)) >>> 16).setWidth 8)) fun m6 =>
  lt_ (m6.set 14 (((u4 + (1#32)) >>> 8).setWidth 8)) fun m7 =>
  lt_ (m7.set 15 ((u4 + (1#32)).setWidth 8)) fun m8 =>
  some (m8)
theorem Next_C {p : Pers} {w : World} {R : List Assn}  (b : List (BitVec 8)) (hl_b : b.length = 16) (r : List (BitVec 8)) (hF : Next b = some r) (hst : St p w (R)) :
    Calls Try.prog 86 #[.agg ((b.map bu8)).toArray] w fun e w => e = .returned (.agg ((r.map bu8)).toArray) ∧ r.length = 16 ∧ St p w (R) := by
  unfold Next at hF
  refine enter Try.func86 rfl (by simp) (n := 40) rfl fun τ hτ => ?_
  have hs0 : τ 0 = .agg ((b.map bu8)).toArray := hτ 0 (by simp)
  clear hτ
  refine CW.seq ?_
  refine CW.region ?_
  refine RW.hard Wd.a ?_
  refine H.box (v := .agg ((b.map bu8)).toArray) (AF_ev rfl hs0) hst fun b1 w hst => ?_
  refine RW.hard Wd.a ?_
  refine H.alloc zs119 hst fun b2 w hst => ?_
  refine RW.fin (fun τ => τ 0 = .agg ((b.map bu8)).toArray ∧ τ 1 = .pointer (some ⟨b1, 0, none⟩) ∧ τ 2 = .pointer (some ⟨b2, 0, none⟩)) ⟨up rfl (up rfl hs0), up rfl tp, tp⟩ ?_
  rintro τ ⟨hs0, hs1, hs2⟩
  refine CW.seq ?_
  refine CW.region ?_
  refine RW.soft Wd.a (v := .pointer (some ⟨b1, 12, none⟩)) (by exact E.indexAddrA (b := b1) (o := 0) (i := 12) Try.underlying119 sz5 (AF_ev rfl hs1) rfl (by omega) (by omega) (by omega)) ?_
  refine RW.soft Wd.a (v := .int .u8 ((b.getD 12 0#8).toNat : Int)) (by exact E.load (a := ⟨b1, 12, none⟩) Try.underlying5 rfl (AF_ev rfl tp) (hst.cellL (.there .here) (getF (f := bu8) (d := 0#8) (by rw [hl_b]; omega)))) ?_
  refine RW.soft Wd.a (v := .int .u32 (((b.getD 12 0#8).setWidth 32).toNat : Int)) (by exact E.cvUU (a := b.getD 12 0#8) (by rw [Try.underlying5]; rfl) Try.underlying117 UK.u32 (AF_ev rfl tp)) ?_
  refine RW.soft Wd.a (v := .int .u32 ((((b.getD 12 0#8).setWidth 32) <<< 24).toNat : Int)) (by exact E.ushl (a := (b.getD 12 0#8).setWidth 32) (j := 24) UK.u32 (AF_ev rfl tp) rfl rfl) ?_
  refine RW.soft Wd.a (v := .pointer (some ⟨b1, 13, none⟩)) (by exact E.indexAddrA (b := b1) (o := 0) (i := 13) Try.underlying119 sz5 (AF_ev rfl (up rfl (up rfl (up rfl (up rfl hs1))))) rfl (by omega) (by omega) (by omega)) ?_
  refine RW.soft Wd.a (v := .int .u8 ((b.getD 13 0#8).toNat : Int)) (by exact E.load (a := ⟨b1, 13, none⟩) Try.underlying5 rfl (AF_ev rfl tp) (hst.cellL (.there .here) (getF (f := bu8) (d := 0#8) (by rw [hl_b]; omega)))) ?_
  refine RW.soft Wd.a (v := .int .u32 (((b.getD 13 0#8).setWidth 32).toNat : Int)) (by exact E.cvUU (a := b.getD 13 0#8) (by rw [Try.underlying5]; rfl) Try.underlying117 UK.u32 (AF_ev rfl tp)) ?_
  refine RW.soft Wd.a (v := .int .u32 ((((b.getD 13 0#8).setWidth 32) <<< 16).toNat : Int)) (by exact E.ushl (a := (b.getD 13 0#8).setWidth 32) (j := 16) UK.u32 (AF_ev rfl tp) rfl rfl) ?_
  obtain ⟨u3, h_u3, hF⟩ := lp hF
  refine RW.soft Wd.a (v := .int .u32 ((u3).toNat : Int)) (by exact E.v (E.uor (a := ((b.getD 12 0#8).setWidth 32) <<< 24) (b := ((b.getD 13 0#8).setWidth 32) <<< 16) UK.u32 (AF_ev rfl (up rfl (up rfl (up rfl (up rfl tp))))) (AF_ev rfl tp)) (by first | (rw [h_u3]; done) | (rw [h_u3]; rfl))) ?_
  refine RW.soft Wd.a (v := .pointer (some ⟨b1, 14, none⟩)) (by exact E.indexAddrA (b := b1) (o := 0) (i := 14) Try.underlying119 sz5 (AF_ev rfl (up rfl (up rfl (up rfl (up rfl (up rfl (up rfl (up rfl (up rfl (up rfl hs1)))))))))) rfl (by omega) (by omega) (by omega)) ?_
  refine RW.soft Wd.a (v := .int .u8 ((b.getD 14 0#8).toNat : Int)) (by exact E.load (a := ⟨b1, 14, none⟩) Try.underlying5 rfl (AF_ev rfl tp) (hst.cellL (.there .here) (getF (f := bu8) (d := 0#8) (by rw [hl_b]; omega)))) ?_
  refine RW.soft Wd.a (v := .int .u32 (((b.getD 14 0#8).setWidth 32).toNat : Int)) (by exact E.cvUU (a := b.getD 14 0#8) (by rw [Try.underlying5]; rfl) Try.underlying117 UK.u32 (AF_ev rfl tp)) ?_
  refine RW.soft Wd.a (v := .int .u32 ((((b.getD 14 0#8).setWidth 32) <<< 8).toNat : Int)) (by exact E.ushl (a := (b.getD 14 0#8).setWidth 32) (j := 8) UK.u32 (AF_ev rfl tp) rfl rfl) ?_
  refine RW.soft Wd.a (v := .int .u32 ((u3 ||| (((b.getD 14 0#8).setWidth 32) <<< 8)).toNat : Int)) (by exact E.uor (a := u3) (b := ((b.getD 14 0#8).setWidth 32) <<< 8) UK.u32 (AF_ev rfl (up rfl (up rfl (up rfl (up rfl tp))))) (AF_ev rfl tp)) ?_
  refine RW.soft Wd.a (v := .pointer (some ⟨b1, 15, none⟩)) (by exact E.indexAddrA (b := b1) (o := 0) (i := 15) Try.underlying119 sz5 (AF_ev rfl (up rfl (up rfl (up rfl (up rfl (up rfl (up rfl (up rfl (up rfl (up rfl (up rfl (up rfl (up rfl (up rfl (up rfl hs1))))))))))))))) rfl (by omega) (by omega) (by omega)) ?_
  refine RW.soft Wd.a (v := .int .u8 ((b.getD 15 0#8).toNat : Int)) (by exact E.load (a := ⟨b1, 15, none⟩) Try.underlying5 rfl (AF_ev rfl tp) (hst.cellL (.there .here) (getF (f := bu8) (d := 0#8) (by rw [hl_b]; omega)))) ?_
  refine RW.soft Wd.a (v := .int .u32 (((b.getD 15 0#8).setWidth 32).toNat : Int)) (by exact E.cvUU (a := b.getD 15 0#8) (by rw [Try.underlying5]; rfl) Try.underlying117 UK.u32 (AF_ev rfl tp)) ?_
  obtain ⟨u4, h_u4, hF⟩ := lp hF
  refine RW.soft Wd.a (v := .int .u32 ((u4).toNat : Int)) (by exact E.v (E.uor (a := u3 ||| (((b.getD 14 0#8).setWidth 32) <<< 8)) (b := (b.getD 15 0#8).setWidth 32) UK.u32 (AF_ev rfl (up rfl (up rfl (up rfl tp)))) (AF_ev rfl tp)) (by first | (rw [h_u4]; done) | (rw [h_u4]; rfl))) ?_
  refine RW.soft Wd.a (v := .int .u32 ((u4).toNat : Int)) (by exact E.assign (AF_ev rfl tp)) ?_
  refine RW.fin (fun τ => τ 0 = .agg ((b.map bu8)).toArray ∧ τ 1 = .pointer (some ⟨b1, 0, none⟩) ∧ τ 2 = .pointer (some ⟨b2, 0, none⟩) ∧ τ 3 = .int .u32 ((u4).toNat : Int)) ⟨up rfl (up rfl (up rfl (up rfl (up rfl (up rfl (up rfl (up rfl (up rfl (up rfl (up rfl (up rfl (up rfl (up rfl (up rfl (up rfl (up rfl (up rfl (up rfl hs0)))))))))))))))))), up rfl (up rfl (up rfl (up rfl (up rfl (up rfl (up rfl (up rfl (up rfl (up rfl (up rfl (up rfl (up rfl (up rfl (up rfl (up rfl (up rfl (up rfl (up rfl hs1)))))))))))))))))), up rfl (up rfl (up rfl (up rfl (up rfl (up rfl (up rfl (up rfl (up rfl (up rfl (up rfl (up rfl (up rfl (up rfl (up rfl (up rfl (up rfl (up rfl (up rfl hs2)))))))))))))))))), tp⟩ ?_
  rintro τ ⟨hs0, hs1, hs2, hs3⟩
  refine CW.seq ?_
  refine CW.region ?_
  refine RW.soft Wd.a (v := .int .u32 ((u4).toNat : Int)) (by exact E.move (AF_ev rfl hs3)) ?_
  refine RW.soft Wd.a (v := .int .u32 ((u4 + (1#32)).toNat : Int)) (by exact E.uadd (a := u4) (b := 1#32) UK.u32 (AF_ev rfl tp) rfl) ?_
  refine RW.soft Wd.a (v := .int .u32 ((u4 + (1#32)).toNat : Int)) (by exact E.assign (AF_ev rfl tp)) ?_
  refine RW.fin (fun τ => τ 0 = .agg ((b.map bu8)).toArray ∧ τ 1 = .pointer (some ⟨b1, 0, none⟩) ∧ τ 2 = .pointer (some ⟨b2, 0, none⟩) ∧ τ 3 = .int .u32 ((u4 + (1#32)).toNat : Int)) ⟨up rfl (up rfl (up rfl hs0)), up rfl (up rfl (up rfl hs1)), up rfl (up rfl (up rfl hs2)), tp⟩ ?_
  rintro τ ⟨hs0, hs1, hs2, hs3⟩
  refine CW.seq ?_
  refine CW.region ?_
  refine RW.soft Wd.a (v := .int .u32 ((u4 + (1#32)).toNat : Int)) (by exact E.move (AF_ev rfl hs3)) ?_
  refine RW.soft Wd.a (v := .int .u32 (((u4 + (1#32)) >>> 24).toNat : Int)) (by exact E.ushr (a := u4 + (1#32)) (j := 24) UK.u32 (AF_ev rfl tp) rfl rfl) ?_
  refine RW.soft Wd.a (v := .int .u8 ((((u4 + (1#32)) >>> 24).setWidth 8).toNat : Int)) (by exact E.cvUU (a := (u4 + (1#32)) >>> 24) (by rw [Try.underlying117]; rfl) Try.underlying5 UK.u8 (AF_ev rfl tp)) ?_
  refine RW.soft Wd.a (v := .int .u32 ((u4 + (1#32)).toNat : Int)) (by exact E.move (AF_ev rfl (up rfl (up rfl (up rfl hs3))))) ?_
  refine RW.soft Wd.a (v := .int .u32 (((u4 + (1#32)) >>> 16).toNat : Int)) (by exact E.ushr (a := u4 + (1#32)) (j := 16) UK.u32 (AF_ev rfl tp) rfl rfl) ?_
  refine RW.soft Wd.a (v := .int .u8 ((((u4 + (1#32)) >>> 16).setWidth 8).toNat : Int)) (by exact E.cvUU (a := (u4 + (1#32)) >>> 16) (by rw [Try.underlying117]; rfl) Try.underlying5 UK.u8 (AF_ev rfl tp)) ?_
  refine RW.soft Wd.a (v := .int .u32 ((u4 + (1#32)).toNat : Int)) (by exact E.move (AF_ev rfl (up rfl (up rfl (up rfl (up rfl (up rfl (up rfl hs3)))))))) ?_
  refine RW.soft Wd.a (v := .int .u32 (((u4 + (1#32)) >>> 8).toNat : Int)) (by exact E.ushr (a := u4 + (1#32)) (j := 8) UK.u32 (AF_ev rfl tp) rfl rfl) ?_
  refine RW.soft Wd.a (v := .int .u8 ((((u4 + (1#32)) >>> 8).setWidth 8).toNat : Int)) (by exact E.cvUU (a := (u4 + (1#32)) >>> 8) (by rw [Try.underlying117]; rfl) Try.underlying5 UK.u8 (AF_ev rfl tp)) ?_
  refine RW.soft Wd.a (v := .int .u32 ((u4 + (1#32)).toNat : Int)) (by exact E.move (AF_ev rfl (up rfl (up rfl (up rfl (up rfl (up rfl (up rfl (up rfl (up rfl (up rfl hs3))))))))))) ?_
  refine RW.soft Wd.a (v := .int .u8 (((u4 + (1#32)).setWidth 8).toNat : Int)) (by exact E.cvUU (a := u4 + (1#32)) (by rw [Try.underlying117]; rfl) Try.underlying5 UK.u8 (AF_ev rfl tp)) ?_
  refine RW.soft Wd.a (v := .pointer (some ⟨b1, 12, none⟩)) (by exact E.indexAddrA (b := b1) (o := 0) (i := 12) Try.underlying119 sz5 (AF_ev rfl (up rfl (up rfl (up rfl (up rfl (up rfl (up rfl (up rfl (up rfl (up rfl (up rfl (up rfl hs1)))))))))))) rfl (by omega) (by omega) (by omega)) ?_
  obtain ⟨m5, h_m5, hF⟩ := lp hF
  have hl_m5 : m5.length = 16 := by rw [h_m5, List.length_set]; exact hl_b
  refine RW.hard Wd.a ?_
  refine H.storeL (b := b1) (o := 12) (m := 1) (v := .int .u8 ((((u4 + (1#32)) >>> 24).setWidth 8).toNat : Int)) (ys := [bu8 (((u4 + (1#32)) >>> 24).setWidth 8)]) (L' := (m5.map bu8)) (AF_ev rfl tp) (AF_ev rfl (up rfl (up rfl (up rfl (up rfl (up rfl (up rfl (up rfl (up rfl (up rfl tp)))))))))) hst (.there .here) sz5 rfl rfl (ones1 rfl) (by rw [h_m5]; exact putF (by rw [hl_b]; omega)) fun w hst => ?_
  refine RW.soft Wd.a (v := .pointer (some ⟨b1, 13, none⟩)) (by exact E.indexAddrA (b := b1) (o := 0) (i := 13) Try.underlying119 sz5 (AF_ev rfl (u0 (up rfl (up rfl (up rfl (up rfl (up rfl (up rfl (up rfl (up rfl (up rfl (up rfl (up rfl (up rfl hs1)))))))))))))) rfl (by omega) (by omega) (by omega)) ?_
  obtain ⟨m6, h_m6, hF⟩ := lp hF
  have hl_m6 : m6.length = 16 := by rw [h_m6, List.length_set]; exact hl_m5
  refine RW.hard Wd.a ?_
  refine H.storeL (b := b1) (o := 13) (m := 1) (v := .int .u8 ((((u4 + (1#32)) >>> 16).setWidth 8).toNat : Int)) (ys := [bu8 (((u4 + (1#32)) >>> 16).setWidth 8)]) (L' := (m6.map bu8)) (AF_ev rfl tp) (AF_ev rfl (up rfl (u0 (up rfl (up rfl (up rfl (up rfl (up rfl (up rfl tp))))))))) hst (.there .here) sz5 rfl rfl (ones1 rfl) (by rw [h_m6]; exact putF (by rw [hl_m5]; omega)) fun w hst => ?_
  refine RW.soft Wd.a (v := .pointer (some ⟨b1, 14, none⟩)) (by exact E.indexAddrA (b := b1) (o := 0) (i := 14) Try.underlying119 sz5 (AF_ev rfl (u0 (up rfl (u0 (up rfl (up rfl (up rfl (up rfl (up rfl (up rfl (up rfl (up rfl (up rfl (up rfl (up rfl (up rfl hs1)))))))))))))))) rfl (by omega) (by omega) (by omega)) ?_
  obtain ⟨m7, h_m7, hF⟩ := lp hF
  have hl_m7 : m7.length = 16 := by rw [h_m7, List.length_set]; exact hl_m6
  refine RW.hard Wd.a ?_
  refine H.storeL (b := b1) (o := 14) (m := 1) (v := .int .u8 ((((u4 + (1#32)) >>> 8).setWidth 8).toNat : Int)) (ys := [bu8 (((u4 + (1#32)) >>> 8).setWidth 8)]) (L' := (m7.map bu8)) (AF_ev rfl tp) (AF_ev rfl (up rfl (u0 (up rfl (u0 (up rfl (up rfl (up rfl tp)))))))) hst (.there .here) sz5 rfl rfl (ones1 rfl) (by rw [h_m7]; exact putF (by rw [hl_m6]; omega)) fun w hst => ?_
  refine RW.soft Wd.a (v := .pointer (some ⟨b1, 15, none⟩)) (by exact E.indexAddrA (b := b1) (o := 0) (i := 15) Try.underlying119 sz5 (AF_ev rfl (u0 (up rfl (u0 (up rfl (u0 (up rfl (up rfl (up rfl (up rfl (up rfl (up rfl (up rfl (up rfl (up rfl (up rfl (up rfl (up rfl hs1)))))))))))))))))) rfl (by omega) (by omega) (by omega)) ?_
  obtain ⟨m8, h_m8, hF⟩ := lp hF
  have hl_m8 : m8.length = 16 := by rw [h_m8, List.length_set]; exact hl_m7
  refine RW.hard Wd.a ?_
  refine H.storeL (b := b1) (o := 15) (m := 1) (v := .int .u8 (((u4 + (1#32)).setWidth 8).toNat : Int)) (ys := [bu8 ((u4 + (1#32)).setWidth 8)]) (L' := (m8.map bu8)) (AF_ev rfl tp) (AF_ev rfl (up rfl (u0 (up rfl (u0 (up rfl (u0 (up rfl tp)))))))) hst (.there .here) sz5 rfl rfl (ones1 rfl) (by rw [h_m8]; exact putF (by rw [hl_m7]; omega)) fun w hst => ?_
  refine RW.fin (fun τ => τ 0 = .agg ((b.map bu8)).toArray ∧ τ 1 = .pointer (some ⟨b1, 0, none⟩) ∧ τ 2 = .pointer (some ⟨b2, 0, none⟩) ∧ τ 3 = .int .u32 ((u4 + (1#32)).toNat : Int)) ⟨u0 (up rfl (u0 (up rfl (u0 (up rfl (u0 (up rfl (up rfl (up rfl (up rfl (up rfl (up rfl (up rfl (up rfl (up rfl (up rfl (up rfl (up rfl hs0)))))))))))))))))), u0 (up rfl (u0 (up rfl (u0 (up rfl (u0 (up rfl (up rfl (up rfl (up rfl (up rfl (up rfl (up rfl (up rfl (up rfl (up rfl (up rfl (up rfl hs1)))))))))))))))))), u0 (up rfl (u0 (up rfl (u0 (up rfl (u0 (up rfl (up rfl (up rfl (up rfl (up rfl (up rfl (up rfl (up rfl (up rfl (up rfl (up rfl (up rfl hs2)))))))))))))))))), u0 (up rfl (u0 (up rfl (u0 (up rfl (u0 (up rfl (up rfl (up rfl (up rfl (up rfl (up rfl (up rfl (up rfl (up rfl (up rfl (up rfl (up rfl hs3))))))))))))))))))⟩ ?_
  rintro τ ⟨hs0, hs1, hs2, hs3⟩
  refine CW.seq ?_
  refine CW.region ?_
  refine RW.soft Wd.a (v := .agg ((m8.map bu8)).toArray) (by exact E.loadN (b := b1) (o := 0) (cs := (m8.map bu8)) Try.underlying119 rfl sz119 (AF_ev rfl hs1) ((List.length_map _).trans hl_m8) (St.cellsOf hst (.there .here) allF)) ?_
  refine RW.hard Wd.a ?_
  refine H.storeL (b := b2) (o := 0) (m := 16) (v := .agg ((m8.map bu8)).toArray) (ys := (m8.map bu8)) (L' := (m8.map bu8)) (AF_ev rfl (up rfl hs2)) (AF_ev rfl tp) hst .here sz119 rfl ((List.length_map _).trans hl_m8) (ones_map (fun _ => rfl)) (putW (Eq.trans (show (m8.map bu8).length = 16 from ((List.length_map _).trans hl_m8)) (Eq.symm (show ((List.replicate 16 0#8).map bu8).length = 16 from ((List.length_map _).trans (List.length_replicate)))))) fun w hst => ?_
  refine RW.fin (fun τ => τ 0 = .agg ((b.map bu8)).toArray ∧ τ 1 = .pointer (some ⟨b1, 0, none⟩) ∧ τ 2 = .pointer (some ⟨b2, 0, none⟩) ∧ τ 3 = .int .u32 ((u4 + (1#32)).toNat : Int)) ⟨u0 (up rfl hs0), u0 (up rfl hs1), u0 (up rfl hs2), u0 (up rfl hs3)⟩ ?_
  rintro τ ⟨hs0, hs1, hs2, hs3⟩
  refine CW.ret ?_
  refine ret1 (v := .agg ((m8.map bu8)).toArray) rfl (by exact (.cell (AF_ev rfl hs2) (hst.blockAt .here) Try.underlying119 rfl (by rw [List.size_toArray, show ((m8.map bu8)).length = 16 from ((List.length_map _).trans hl_m8)]; exact sz119) .nil)) ?_
  have hst := (hst.take .here).drop
  have hst := (hst.take .here).drop
  rw [somE hF]
  exact ⟨rfl, hl_m8, hst⟩
end Go.Proofs.Ytjpjejldinpcnaa
