/- Functions that were walked through by a program: what each comes to, as a plain function, and the proof. -/
import Derived.Test.YtjpjejldinpcnaaX7
namespace Go.Proofs.Ytjpjejldinpcnaa
open Go.RowKit Go.SL Go.K13
attribute [local irreducible] Go.SL.RW Go.SL.CW Go.SL.RD Go.SL.Hd Go.SL.St
set_option linter.unusedVariables false
set_option linter.unusedSimpArgs false
set_option maxRecDepth 20000
set_option maxHeartbeats 4000000

theorem nm16 : (Try.f16.name == "runtime.NumGoroutine") = false := by kernel_rfl
theorem nm17 : (Try.f17.name == "runtime.NumGoroutine") = false := by kernel_rfl
def str3 : List (BitVec 8) := [120#8]
theorem str3_len : str3.length = 1 := by kernel_rfl
theorem str3_eq : ((⟨#[120]⟩ : ByteArray).data.toList.map UInt8.toBitVec) = str3 := by kernel_rfl

def Shown14_j1   (j21 : Bool) : Option (Bool) :=
  some (j21)
def Shown14  : Option (Bool) :=
  lt_ (bCreate ([] : RKB) ([1#8, 0#8, 0#8, 0#8, 0#8, 0#8, 0#8, 0#8, 0#8, 0#8, 0#8, 0#8, 0#8, 0#8, 0#8, 0#8, 0#8, 0#8, 0#8, 0#8, 0#8, 0#8, 0#8, 0#8, 0#8, 0#8, 0#8, 0#8, 0#8, 0#8, 0#8, 0#8] : List (BitVec 8))) fun r2 =>
  (Encrypt r2.2.2 1 ([120#8] : List (BitVec 8)) ([] : List (BitVec 8))).bind fun r5 =>
  (Decrypt r5.2.2.2 r5.1 ([] : List (BitVec 8))).bind fun r7 =>
  (Decrypt r7.2.2 r5.1 ([121#8] : List (BitVec 8))).bind fun r10 =>
  (Decrypt r10.2.2 ([] : List (BitVec 8)) ([] : List (BitVec 8))).bind fun r12 =>
  (Encrypt r12.2.2 2 ([] : List (BitVec 8)) ([] : List (BitVec 8))).bind fun r14 =>
  if 65 ≤ 1000000 then
    lt_ (List.replicate 65 0#8) fun l18 =>
    (Encrypt r14.2.2.2 1 l18 ([] : List (BitVec 8))).bind fun r19 =>
    bif ((r5.1.length : Nat) : Int) == 33 then
      bif r5.2.1 == 1 then
        bif r5.2.2.1 == 0 then
          bif r7.1 == str3 then
            bif r7.2.1 == 0 then
              bif r10.2.1 == 40 then
                bif r12.2.1 == 140 then
                  bif r14.2.2.1 == 130 then
                    Shown14_j1 (r19.2.2.1 == 2)
                  else
                    Shown14_j1 false
                else
                  Shown14_j1 false
              else
                Shown14_j1 false
            else
              Shown14_j1 false
          else
            Shown14_j1 false
        else
          Shown14_j1 false
      else
        Shown14_j1 false
    else
      Shown14_j1 false
  else none
theorem Shown14_C {p : Pers} {w : World} {R : List Assn}   (r : Bool) (hF : Shown14 = some r) (hst : St p w (R)) :
    Calls Try.prog 10 #[] w fun e w => e = .returned (.bool r) ∧ St p w (R) := by
  unfold Shown14 at hF
  refine enter Try.func10 rfl (by simp) (n := 99) rfl fun τ hτ => ?_
  clear hτ
  refine CW.seq ?_
  refine CW.region ?_
  refine RW.soft Wd.a (v := .bool false) (by exact E.assign rfl) ?_
  refine RW.fin (fun τ => τ 0 = .bool false) tp ?_
  rintro τ hs0
  refine CW.seq ?_
  refine CW.region ?_
  refine RW.hard Wd.a ?_
  refine H.call0 Try.func16 nm16 rfl map0 (Calls.mono (New_B hst) ?_)
  rintro _ w ⟨b1, rfl, hst⟩
  refine ⟨_, rfl, ?_⟩
  show RW _ _ _ _ _ _ _
  refine RW.soft Wd.a (v := .pointer (some ⟨b1, 0, none⟩)) (by exact E.assign (AF_ev rfl tp)) ?_
  refine RW.fin (fun τ => τ 0 = .bool false ∧ τ 1 = .pointer (some ⟨b1, 0, none⟩)) ⟨up rfl (up rfl hs0), tp⟩ ?_
  rintro τ ⟨hs0, hs1⟩
  refine CW.seq ?_
  refine CW.seq ?_
  refine CW.region ?_
  refine RW.soft Wd.a (v := .pointer (some ⟨b1, 0, none⟩)) (by exact E.move (AF_ev rfl hs1)) ?_
  refine RW.soft Wd.a (v := .bool false) (by exact E.eqlP (p := (some ⟨b1, 0, none⟩)) Try.underlying35 (AF_ev rfl tp) rfl) ?_
  refine RW.fin (fun τ => τ 0 = .bool false ∧ τ 1 = .pointer (some ⟨b1, 0, none⟩) ∧ τ 19 = .bool false) ⟨up rfl (up rfl hs0), up rfl (up rfl hs1), tp⟩ ?_
  rintro τ ⟨hs0, hs1, hs19⟩
  refine CW.condF (AF_ev rfl hs19) ?_
  refine CW.skip ?_
  refine Th.n ?_
  refine CW.seq ?_
  refine CW.region ?_
  refine RW.soft Wd.a (v := .pointer (some ⟨b1, 0, none⟩)) (by exact E.move (AF_ev rfl hs1)) ?_
  refine RW.soft Wd.a (v := .agg ((([1#8, 0#8, 0#8, 0#8, 0#8, 0#8, 0#8, 0#8, 0#8, 0#8, 0#8, 0#8, 0#8, 0#8, 0#8, 0#8, 0#8, 0#8, 0#8, 0#8, 0#8, 0#8, 0#8, 0#8, 0#8, 0#8, 0#8, 0#8, 0#8, 0#8, 0#8, 0#8] : List (BitVec 8)).map bu8)).toArray) (by exact E.build (vs := #[(0, .int .u8 ((1#8).toNat : Int))]) (bld1 rfl) (by kernel_rfl)) ?_
  obtain ⟨r2, h_r2, hF⟩ := lp hF
  refine RW.hard Wd.a ?_
  refine H.call0 Try.func17 nm17 rfl (map2 (AF_ev rfl (up rfl tp)) (AF_ev rfl tp)) (Calls.mono (Create_B   ([1#8, 0#8, 0#8, 0#8, 0#8, 0#8, 0#8, 0#8, 0#8, 0#8, 0#8, 0#8, 0#8, 0#8, 0#8, 0#8, 0#8, 0#8, 0#8, 0#8, 0#8, 0#8, 0#8, 0#8, 0#8, 0#8, 0#8, 0#8, 0#8, 0#8, 0#8, 0#8] : List (BitVec 8)) (show ([1#8, 0#8, 0#8, 0#8, 0#8, 0#8, 0#8, 0#8, 0#8, 0#8, 0#8, 0#8, 0#8, 0#8, 0#8, 0#8, 0#8, 0#8, 0#8, 0#8, 0#8, 0#8, 0#8, 0#8, 0#8, 0#8, 0#8, 0#8, 0#8, 0#8, 0#8, 0#8] : List (BitVec 8)).length = 32 from rfl) r2 h_r2 hst) ?_)
  rintro _ w ⟨rfl, h1q3, h2q3, hst⟩
  refine ⟨_, rfl, ?_⟩
  show RW _ _ _ _ _ _ _
  refine RW.fin (fun τ => τ 0 = .bool false ∧ τ 1 = .pointer (some ⟨b1, 0, none⟩) ∧ τ 19 = .bool false) ⟨up rfl (up rfl (up rfl hs0)), up rfl (up rfl (up rfl hs1)), up rfl (up rfl (up rfl hs19))⟩ ?_
  rintro τ ⟨hs0, hs1, hs19⟩
  refine CW.seq ?_
  refine CW.region ?_
  refine RW.soft Wd.a (v := .pointer (some ⟨b1, 0, none⟩)) (by exact E.move (AF_ev rfl hs1)) ?_
  refine RW.hard Wd.a ?_
  refine H.buildSlice (e := 5) (cs := ((([120#8] : List (BitVec 8)).map bu8)).toArray) (vs := #[(0, .int .u8 ((120#8).toNat : Int))]) (bld1 rfl) (fun _ => by kernel_rfl) hst fun b4 w hst => ?_
  refine RW.hard Wd.a ?_
  refine H.convS Try.underlying25 Try.underlying5 (AF_ev rfl tp) hst .here fun w hst => ?_
  obtain ⟨r5, h_r5, hF⟩ := bd hF
  have hst := hst.take (.there .here)
  refine RW.hard Wd.a ?_
  refine H.call0 Try.func18 nm18 rfl (map4 (AF_ev rfl (up rfl (up rfl tp))) rfl (AF_ev rfl tp) rfl) (Calls.mono (Encrypt_C (A := pt b4 (.cells ((([120#8] : List (BitVec 8)).map bu8)).toArray 5 (((([120#8] : List (BitVec 8)).map bu8)).toArray.size, ((([120#8] : List (BitVec 8)).map bu8)).toArray.size + 1))) r2.2.2 1 (by omega) ([120#8] : List (BitVec 8)) (by first | omega | (simp; done)) (fun w H s => (Src.ofL s ((List.length_map _).trans (show ([120#8] : List (BitVec 8)).length = 1 from rfl)) (by first | omega | (simp; done)) allF)) ([] : List (BitVec 8)) (by first | omega | (simp; done)) (fun w H s => Src.nil) r5 h_r5 hst) ?_)
  rintro _ w ⟨Xq6_0, cq6_0, rfl, hm_q6_0, hr_q6_1, hr_q6_2, hst⟩
  refine ⟨_, rfl, ?_⟩
  show RW _ _ _ _ _ _ _
  refine RW.soft Wd.a (v := .tuple #[.slice Xq6_0 r5.1.length cq6_0, .int .i64 r5.2.1, .int .i64 r5.2.2.1]) (by exact E.move (AF_ev rfl tp)) ?_
  refine RW.soft Wd.a (v := .slice Xq6_0 r5.1.length cq6_0) (by exact E.extract (vs := #[.slice Xq6_0 r5.1.length cq6_0, .int .i64 r5.2.1, .int .i64 r5.2.2.1]) (AF_ev rfl tp) rfl) ?_
  refine RW.soft Wd.a (v := .int .i64 r5.2.1) (by exact E.extract (vs := #[.slice Xq6_0 r5.1.length cq6_0, .int .i64 r5.2.1, .int .i64 r5.2.2.1]) (AF_ev rfl (up rfl tp)) rfl) ?_
  refine RW.soft Wd.a (v := .int .i64 r5.2.2.1) (by exact E.extract (vs := #[.slice Xq6_0 r5.1.length cq6_0, .int .i64 r5.2.1, .int .i64 r5.2.2.1]) (AF_ev rfl (up rfl (up rfl tp))) rfl) ?_
  refine RW.soft Wd.a (v := .slice Xq6_0 r5.1.length cq6_0) (by exact E.assign (AF_ev rfl (up rfl (up rfl tp)))) ?_
  refine RW.soft Wd.a (v := .int .i64 r5.2.1) (by exact E.assign (AF_ev rfl (up rfl (up rfl tp)))) ?_
  refine RW.soft Wd.a (v := .int .i64 r5.2.2.1) (by exact E.assign (AF_ev rfl (up rfl (up rfl tp)))) ?_
  refine RW.fin (fun τ => τ 0 = .bool false ∧ τ 1 = .pointer (some ⟨b1, 0, none⟩) ∧ τ 2 = .slice Xq6_0 r5.1.length cq6_0 ∧ τ 3 = .int .i64 r5.2.1 ∧ τ 4 = .int .i64 r5.2.2.1 ∧ τ 19 = .bool false) ⟨up rfl (up rfl (up rfl (up rfl (up rfl (up rfl (up rfl (up rfl (up rfl (up rfl (up rfl hs0)))))))))), up rfl (up rfl (up rfl (up rfl (up rfl (up rfl (up rfl (up rfl (up rfl (up rfl (up rfl hs1)))))))))), up rfl (up rfl tp), up rfl tp, tp, up rfl (up rfl (up rfl (up rfl (up rfl (up rfl (up rfl (up rfl (up rfl (up rfl (up rfl hs19))))))))))⟩ ?_
  rintro τ ⟨hs0, hs1, hs2, hs3, hs4, hs19⟩
  refine CW.seq ?_
  refine CW.region ?_
  refine RW.soft Wd.a (v := .pointer (some ⟨b1, 0, none⟩)) (by exact E.move (AF_ev rfl hs1)) ?_
  refine RW.soft Wd.a (v := .slice Xq6_0 r5.1.length cq6_0) (by exact E.move (AF_ev rfl (up rfl hs2))) ?_
  obtain ⟨r7, h_r7, hF⟩ := bd hF
  have hst := hst.take (.there .here)
  refine RW.hard Wd.a ?_
  refine H.call0 Try.func20 nm20 rfl (map3 (AF_ev rfl (up rfl tp)) (AF_ev rfl tp) rfl) (Calls.mono (Decrypt_C (A := SL.Own 5 1 (.slice Xq6_0 r5.1.length cq6_0) r5.1.length (r5.1.map bu8)) r5.2.2.2 r5.1 (by first | omega | (simp; done)) (fun w H s => (Own.src s)) ([] : List (BitVec 8)) (by first | omega | (simp; done)) (fun w H s => Src.nil) r7 h_r7 hst) ?_)
  rintro _ w ⟨Xq8_0, cq8_0, rfl, hm_q8_0, hr_q8_1, hst⟩
  refine ⟨_, rfl, ?_⟩
  show RW _ _ _ _ _ _ _
  refine RW.soft Wd.a (v := .tuple #[.slice Xq8_0 r7.1.length cq8_0, .int .i64 r7.2.1]) (by exact E.move (AF_ev rfl tp)) ?_
  refine RW.soft Wd.a (v := .slice Xq8_0 r7.1.length cq8_0) (by exact E.extract (vs := #[.slice Xq8_0 r7.1.length cq8_0, .int .i64 r7.2.1]) (AF_ev rfl tp) rfl) ?_
  refine RW.soft Wd.a (v := .int .i64 r7.2.1) (by exact E.extract (vs := #[.slice Xq8_0 r7.1.length cq8_0, .int .i64 r7.2.1]) (AF_ev rfl (up rfl tp)) rfl) ?_
  refine RW.soft Wd.a (v := .slice Xq8_0 r7.1.length cq8_0) (by exact E.assign (AF_ev rfl (up rfl tp))) ?_
  refine RW.soft Wd.a (v := .int .i64 r7.2.1) (by exact E.assign (AF_ev rfl (up rfl tp))) ?_
  refine RW.fin (fun τ => τ 0 = .bool false ∧ τ 1 = .pointer (some ⟨b1, 0, none⟩) ∧ τ 2 = .slice Xq6_0 r5.1.length cq6_0 ∧ τ 3 = .int .i64 r5.2.1 ∧ τ 4 = .int .i64 r5.2.2.1 ∧ τ 5 = .slice Xq8_0 r7.1.length cq8_0 ∧ τ 6 = .int .i64 r7.2.1 ∧ τ 19 = .bool false) ⟨up rfl (up rfl (up rfl (up rfl (up rfl (up rfl (up rfl (up rfl hs0))))))), up rfl (up rfl (up rfl (up rfl (up rfl (up rfl (up rfl (up rfl hs1))))))), up rfl (up rfl (up rfl (up rfl (up rfl (up rfl (up rfl (up rfl hs2))))))), up rfl (up rfl (up rfl (up rfl (up rfl (up rfl (up rfl (up rfl hs3))))))), up rfl (up rfl (up rfl (up rfl (up rfl (up rfl (up rfl (up rfl hs4))))))), up rfl tp, tp, up rfl (up rfl (up rfl (up rfl (up rfl (up rfl (up rfl (up rfl hs19)))))))⟩ ?_
  rintro τ ⟨hs0, hs1, hs2, hs3, hs4, hs5, hs6, hs19⟩
  refine CW.seq ?_
  refine CW.region ?_
  refine RW.soft Wd.a (v := .pointer (some ⟨b1, 0, none⟩)) (by exact E.move (AF_ev rfl hs1)) ?_
  refine RW.soft Wd.a (v := .slice Xq6_0 r5.1.length cq6_0) (by exact E.move (AF_ev rfl (up rfl hs2))) ?_
  refine RW.hard Wd.a ?_
  refine H.buildSlice (e := 5) (cs := ((([121#8] : List (BitVec 8)).map bu8)).toArray) (vs := #[(0, .int .u8 ((121#8).toNat : Int))]) (bld1 rfl) (fun _ => by kernel_rfl) hst fun b9 w hst => ?_
  refine RW.hard Wd.a ?_
  refine H.convS Try.underlying25 Try.underlying5 (AF_ev rfl tp) hst .here fun w hst => ?_
  obtain ⟨r10, h_r10, hF⟩ := bd hF
  have hst := hst.take (.there (.there (.there .here)))
  have hst := St.join (l := [SL.Own 5 1 (.slice Xq6_0 r5.1.length cq6_0) r5.1.length (r5.1.map bu8), pt b9 (.cells ((([121#8] : List (BitVec 8)).map bu8)).toArray 5 (((([121#8] : List (BitVec 8)).map bu8)).toArray.size, ((([121#8] : List (BitVec 8)).map bu8)).toArray.size + 1))]) hst
  have hst := hst.take (.there (.there .here))
  refine RW.hard Wd.a ?_
  refine H.call0 Try.func20 nm20 rfl (map3 (AF_ev rfl (up rfl (up rfl (up rfl tp)))) (AF_ev rfl (up rfl (up rfl tp))) (AF_ev rfl tp)) (Calls.mono (Decrypt_C (A := (all [SL.Own 5 1 (.slice Xq6_0 r5.1.length cq6_0) r5.1.length (r5.1.map bu8), pt b9 (.cells ((([121#8] : List (BitVec 8)).map bu8)).toArray 5 (((([121#8] : List (BitVec 8)).map bu8)).toArray.size, ((([121#8] : List (BitVec 8)).map bu8)).toArray.size + 1))])) r7.2.2 r5.1 (by first | omega | (simp; done)) (fun w H s => by have s := (show St _ _ (SL.Own 5 1 (.slice Xq6_0 r5.1.length cq6_0) r5.1.length (r5.1.map bu8) :: pt b9 (.cells ((([121#8] : List (BitVec 8)).map bu8)).toArray 5 (((([121#8] : List (BitVec 8)).map bu8)).toArray.size, ((([121#8] : List (BitVec 8)).map bu8)).toArray.size + 1)) :: H) from St.split s); exact (Own.src (s.take .here))) ([121#8] : List (BitVec 8)) (by first | omega | (simp; done)) (fun w H s => by have s := (show St _ _ (SL.Own 5 1 (.slice Xq6_0 r5.1.length cq6_0) r5.1.length (r5.1.map bu8) :: pt b9 (.cells ((([121#8] : List (BitVec 8)).map bu8)).toArray 5 (((([121#8] : List (BitVec 8)).map bu8)).toArray.size, ((([121#8] : List (BitVec 8)).map bu8)).toArray.size + 1)) :: H) from St.split s); exact (Src.ofL (s.take (.there .here)) ((List.length_map _).trans (show ([121#8] : List (BitVec 8)).length = 1 from rfl)) (by first | omega | (simp; done)) allF)) r10 h_r10 hst) ?_)
  rintro _ w ⟨Xq11_0, cq11_0, rfl, hm_q11_0, hr_q11_1, hst⟩
  have hst := (show St p w (SL.Own 5 1 (.slice Xq6_0 r5.1.length cq6_0) r5.1.length (r5.1.map bu8) :: pt b9 (.cells ((([121#8] : List (BitVec 8)).map bu8)).toArray 5 (((([121#8] : List (BitVec 8)).map bu8)).toArray.size, ((([121#8] : List (BitVec 8)).map bu8)).toArray.size + 1)) :: SL.Own 5 1 (.slice Xq11_0 r10.1.length cq11_0) r10.1.length (r10.1.map bu8) :: KeysB 103 b1 r10.2.2 :: _) from (hst.take (.there (.there .here))).split)
  refine ⟨_, rfl, ?_⟩
  show RW _ _ _ _ _ _ _
  refine RW.soft Wd.a (v := .tuple #[.slice Xq11_0 r10.1.length cq11_0, .int .i64 r10.2.1]) (by exact E.move (AF_ev rfl tp)) ?_
  refine RW.soft Wd.a (v := .slice Xq11_0 r10.1.length cq11_0) (by exact E.extract (vs := #[.slice Xq11_0 r10.1.length cq11_0, .int .i64 r10.2.1]) (AF_ev rfl tp) rfl) ?_
  refine RW.soft Wd.a (v := .int .i64 r10.2.1) (by exact E.extract (vs := #[.slice Xq11_0 r10.1.length cq11_0, .int .i64 r10.2.1]) (AF_ev rfl (up rfl tp)) rfl) ?_
  refine RW.soft Wd.a (v := .slice Xq11_0 r10.1.length cq11_0) (by exact E.assign (AF_ev rfl (up rfl tp))) ?_
  refine RW.soft Wd.a (v := .int .i64 r10.2.1) (by exact E.assign (AF_ev rfl (up rfl tp))) ?_
  refine RW.fin (fun τ => τ 0 = .bool false ∧ τ 1 = .pointer (some ⟨b1, 0, none⟩) ∧ τ 2 = .slice Xq6_0 r5.1.length cq6_0 ∧ τ 3 = .int .i64 r5.2.1 ∧ τ 4 = .int .i64 r5.2.2.1 ∧ τ 5 = .slice Xq8_0 r7.1.length cq8_0 ∧ τ 6 = .int .i64 r7.2.1 ∧ τ 8 = .int .i64 r10.2.1 ∧ τ 19 = .bool false) ⟨up rfl (up rfl (up rfl (up rfl (up rfl (up rfl (up rfl (up rfl (up rfl (up rfl hs0))))))))), up rfl (up rfl (up rfl (up rfl (up rfl (up rfl (up rfl (up rfl (up rfl (up rfl hs1))))))))), up rfl (up rfl (up rfl (up rfl (up rfl (up rfl (up rfl (up rfl (up rfl (up rfl hs2))))))))), up rfl (up rfl (up rfl (up rfl (up rfl (up rfl (up rfl (up rfl (up rfl (up rfl hs3))))))))), up rfl (up rfl (up rfl (up rfl (up rfl (up rfl (up rfl (up rfl (up rfl (up rfl hs4))))))))), up rfl (up rfl (up rfl (up rfl (up rfl (up rfl (up rfl (up rfl (up rfl (up rfl hs5))))))))), up rfl (up rfl (up rfl (up rfl (up rfl (up rfl (up rfl (up rfl (up rfl (up rfl hs6))))))))), tp, up rfl (up rfl (up rfl (up rfl (up rfl (up rfl (up rfl (up rfl (up rfl (up rfl hs19)))))))))⟩ ?_
  rintro τ ⟨hs0, hs1, hs2, hs3, hs4, hs5, hs6, hs8, hs19⟩
  refine CW.seq ?_
  refine CW.region ?_
  refine RW.soft Wd.a (v := .pointer (some ⟨b1, 0, none⟩)) (by exact E.move (AF_ev rfl hs1)) ?_
  obtain ⟨r12, h_r12, hF⟩ := bd hF
  have hst := hst.emp
  have hst := hst.take (.there (.there (.there (.there .here))))
  refine RW.hard Wd.a ?_
  refine H.call0 Try.func20 nm20 rfl (map3 (AF_ev rfl tp) rfl rfl) (Calls.mono (Decrypt_C (A := Emp) r10.2.2 ([] : List (BitVec 8)) (by first | omega | (simp; done)) (fun w H s => Src.nil) ([] : List (BitVec 8)) (by first | omega | (simp; done)) (fun w H s => Src.nil) r12 h_r12 hst) ?_)
  rintro _ w ⟨Xq13_0, cq13_0, rfl, hm_q13_0, hr_q13_1, hst⟩
  refine ⟨_, rfl, ?_⟩
  show RW _ _ _ _ _ _ _
  refine RW.soft Wd.a (v := .tuple #[.slice Xq13_0 r12.1.length cq13_0, .int .i64 r12.2.1]) (by exact E.move (AF_ev rfl tp)) ?_
  refine RW.soft Wd.a (v := .slice Xq13_0 r12.1.length cq13_0) (by exact E.extract (vs := #[.slice Xq13_0 r12.1.length cq13_0, .int .i64 r12.2.1]) (AF_ev rfl tp) rfl) ?_
  refine RW.soft Wd.a (v := .int .i64 r12.2.1) (by exact E.extract (vs := #[.slice Xq13_0 r12.1.length cq13_0, .int .i64 r12.2.1]) (AF_ev rfl (up rfl tp)) rfl) ?_
  refine RW.soft Wd.a (v := .slice Xq13_0 r12.1.length cq13_0) (by exact E.assign (AF_ev rfl (up rfl tp))) ?_
  refine RW.soft Wd.a (v := .int .i64 r12.2.1) (by exact E.assign (AF_ev rfl (up rfl tp))) ?_
  refine RW.fin (fun τ => τ 0 = .bool false ∧ τ 1 = .pointer (some ⟨b1, 0, none⟩) ∧ τ 2 = .slice Xq6_0 r5.1.length cq6_0 ∧ τ 3 = .int .i64 r5.2.1 ∧ τ 4 = .int .i64 r5.2.2.1 ∧ τ 5 = .slice Xq8_0 r7.1.length cq8_0 ∧ τ 6 = .int .i64 r7.2.1 ∧ τ 8 = .int .i64 r10.2.1 ∧ τ 10 = .int .i64 r12.2.1 ∧ τ 19 = .bool false) ⟨up rfl (up rfl (up rfl (up rfl (up rfl (up rfl (up rfl hs0)))))), up rfl (up rfl (up rfl (up rfl (up rfl (up rfl (up rfl hs1)))))), up rfl (up rfl (up rfl (up rfl (up rfl (up rfl (up rfl hs2)))))), up rfl (up rfl (up rfl (up rfl (up rfl (up rfl (up rfl hs3)))))), up rfl (up rfl (up rfl (up rfl (up rfl (up rfl (up rfl hs4)))))), up rfl (up rfl (up rfl (up rfl (up rfl (up rfl (up rfl hs5)))))), up rfl (up rfl (up rfl (up rfl (up rfl (up rfl (up rfl hs6)))))), up rfl (up rfl (up rfl (up rfl (up rfl (up rfl (up rfl hs8)))))), tp, up rfl (up rfl (up rfl (up rfl (up rfl (up rfl (up rfl hs19))))))⟩ ?_
  rintro τ ⟨hs0, hs1, hs2, hs3, hs4, hs5, hs6, hs8, hs10, hs19⟩
  refine CW.seq ?_
  refine CW.region ?_
  refine RW.soft Wd.a (v := .pointer (some ⟨b1, 0, none⟩)) (by exact E.move (AF_ev rfl hs1)) ?_
  obtain ⟨r14, h_r14, hF⟩ := bd hF
  have hst := hst.emp
  have hst := hst.take (.there (.there .here))
  refine RW.hard Wd.a ?_
  refine H.call0 Try.func18 nm18 rfl (map4 (AF_ev rfl tp) rfl rfl rfl) (Calls.mono (Encrypt_C (A := Emp) r12.2.2 2 (by omega) ([] : List (BitVec 8)) (by first | omega | (simp; done)) (fun w H s => Src.nil) ([] : List (BitVec 8)) (by first | omega | (simp; done)) (fun w H s => Src.nil) r14 h_r14 hst) ?_)
  rintro _ w ⟨Xq15_0, cq15_0, rfl, hm_q15_0, hr_q15_1, hr_q15_2, hst⟩
  refine ⟨_, rfl, ?_⟩
  show RW _ _ _ _ _ _ _
  refine RW.soft Wd.a (v := .tuple #[.slice Xq15_0 r14.1.length cq15_0, .int .i64 r14.2.1, .int .i64 r14.2.2.1]) (by exact E.move (AF_ev rfl tp)) ?_
  refine RW.soft Wd.a (v := .slice Xq15_0 r14.1.length cq15_0) (by exact E.extract (vs := #[.slice Xq15_0 r14.1.length cq15_0, .int .i64 r14.2.1, .int .i64 r14.2.2.1]) (AF_ev rfl tp) rfl) ?_
  refine RW.soft Wd.a (v := .int .i64 r14.2.1) (by exact E.extract (vs := #[.slice Xq15_0 r14.1.length cq15_0, .int .i64 r14.2.1, .int .i64 r14.2.2.1]) (AF_ev rfl (up rfl tp)) rfl) ?_
  refine RW.soft Wd.a (v := .int .i64 r14.2.2.1) (by exact E.extract (vs := #[.slice Xq15_0 r14.1.length cq15_0, .int .i64 r14.2.1, .int .i64 r14.2.2.1]) (AF_ev rfl (up rfl (up rfl tp))) rfl) ?_
  refine RW.soft Wd.a (v := .slice Xq15_0 r14.1.length cq15_0) (by exact E.assign (AF_ev rfl (up rfl (up rfl tp)))) ?_
  refine RW.soft Wd.a (v := .int .i64 r14.2.1) (by exact E.assign (AF_ev rfl (up rfl (up rfl tp)))) ?_
  refine RW.soft Wd.a (v := .int .i64 r14.2.2.1) (by exact E.assign (AF_ev rfl (up rfl (up rfl tp)))) ?_
  refine RW.fin (fun τ => τ 0 = .bool false ∧ τ 1 = .pointer (some ⟨b1, 0, none⟩) ∧ τ 2 = .slice Xq6_0 r5.1.length cq6_0 ∧ τ 3 = .int .i64 r5.2.1 ∧ τ 4 = .int .i64 r5.2.2.1 ∧ τ 5 = .slice Xq8_0 r7.1.length cq8_0 ∧ τ 6 = .int .i64 r7.2.1 ∧ τ 8 = .int .i64 r10.2.1 ∧ τ 10 = .int .i64 r12.2.1 ∧ τ 13 = .int .i64 r14.2.2.1 ∧ τ 19 = .bool false) ⟨up rfl (up rfl (up rfl (up rfl (up rfl (up rfl (up rfl (up rfl (up rfl hs0)))))))), up rfl (up rfl (up rfl (up rfl (up rfl (up rfl (up rfl (up rfl (up rfl hs1)))))))), up rfl (up rfl (up rfl (up rfl (up rfl (up rfl (up rfl (up rfl (up rfl hs2)))))))), up rfl (up rfl (up rfl (up rfl (up rfl (up rfl (up rfl (up rfl (up rfl hs3)))))))), up rfl (up rfl (up rfl (up rfl (up rfl (up rfl (up rfl (up rfl (up rfl hs4)))))))), up rfl (up rfl (up rfl (up rfl (up rfl (up rfl (up rfl (up rfl (up rfl hs5)))))))), up rfl (up rfl (up rfl (up rfl (up rfl (up rfl (up rfl (up rfl (up rfl hs6)))))))), up rfl (up rfl (up rfl (up rfl (up rfl (up rfl (up rfl (up rfl (up rfl hs8)))))))), up rfl (up rfl (up rfl (up rfl (up rfl (up rfl (up rfl (up rfl (up rfl hs10)))))))), tp, up rfl (up rfl (up rfl (up rfl (up rfl (up rfl (up rfl (up rfl (up rfl hs19))))))))⟩ ?_
  rintro τ ⟨hs0, hs1, hs2, hs3, hs4, hs5, hs6, hs8, hs10, hs13, hs19⟩
  refine CW.seq ?_
  refine CW.region ?_
  refine RW.soft Wd.a (v := .pointer (some ⟨b1, 0, none⟩)) (by exact E.move (AF_ev rfl hs1)) ?_
  obtain ⟨hg16, hF⟩ := pl hF
  obtain ⟨l18, h_l18, hF⟩ := lp hF
  have hl_l18 : l18.length = 65 := by rw [h_l18, List.length_replicate]
  refine RW.hard Wd.a ?_
  refine H.makeN (k := 65) (xs := (l18.map bu8)) hl_l18 (by rw [h_l18]; exact (rep_bu8 _).symm) Try.underlying25 inf5 rfl rfl rfl rfl rfl (by omega) (by omega) hst ?_
  intro g17 w hst
  obtain ⟨r19, h_r19, hF⟩ := bd hF
  have hst := hst.take (.there (.there .here))
  refine RW.hard Wd.a ?_
  refine H.call0 Try.func18 nm18 rfl (map4 (AF_ev rfl (up rfl tp)) rfl (AF_ev rfl tp) rfl) (Calls.mono (Encrypt_C (A := SL.Own 5 1 (.slice (some ⟨g17, 0, none⟩) l18.length l18.length) l18.length (l18.map bu8)) r14.2.2.2 1 (by omega) l18 (by first | omega | (simp; done)) (fun w H s => (Own.src s)) ([] : List (BitVec 8)) (by first | omega | (simp; done)) (fun w H s => Src.nil) r19 h_r19 hst) ?_)
  rintro _ w ⟨Xq20_0, cq20_0, rfl, hm_q20_0, hr_q20_1, hr_q20_2, hst⟩
  refine ⟨_, rfl, ?_⟩
  show RW _ _ _ _ _ _ _
  refine RW.soft Wd.a (v := .tuple #[.slice Xq20_0 r19.1.length cq20_0, .int .i64 r19.2.1, .int .i64 r19.2.2.1]) (by exact E.move (AF_ev rfl tp)) ?_
  refine RW.soft Wd.a (v := .slice Xq20_0 r19.1.length cq20_0) (by exact E.extract (vs := #[.slice Xq20_0 r19.1.length cq20_0, .int .i64 r19.2.1, .int .i64 r19.2.2.1]) (AF_ev rfl tp) rfl) ?_
  refine RW.soft Wd.a (v := .int .i64 r19.2.1) (by exact E.extract (vs := #[.slice Xq20_0 r19.1.length cq20_0, .int .i64 r19.2.1, .int .i64 r19.2.2.1]) (AF_ev rfl (up rfl tp)) rfl) ?_
  refine RW.soft Wd.a (v := .int .i64 r19.2.2.1) (by exact E.extract (vs := #[.slice Xq20_0 r19.1.length cq20_0, .int .i64 r19.2.1, .int .i64 r19.2.2.1]) (AF_ev rfl (up rfl (up rfl tp))) rfl) ?_
  refine RW.soft Wd.a (v := .slice Xq20_0 r19.1.length cq20_0) (by exact E.assign (AF_ev rfl (up rfl (up rfl tp)))) ?_
  refine RW.soft Wd.a (v := .int .i64 r19.2.1) (by exact E.assign (AF_ev rfl (up rfl (up rfl tp)))) ?_
  refine RW.soft Wd.a (v := .int .i64 r19.2.2.1) (by exact E.assign (AF_ev rfl (up rfl (up rfl tp)))) ?_
  refine RW.fin (fun τ => τ 0 = .bool false ∧ τ 1 = .pointer (some ⟨b1, 0, none⟩) ∧ τ 2 = .slice Xq6_0 r5.1.length cq6_0 ∧ τ 3 = .int .i64 r5.2.1 ∧ τ 4 = .int .i64 r5.2.2.1 ∧ τ 5 = .slice Xq8_0 r7.1.length cq8_0 ∧ τ 6 = .int .i64 r7.2.1 ∧ τ 8 = .int .i64 r10.2.1 ∧ τ 10 = .int .i64 r12.2.1 ∧ τ 13 = .int .i64 r14.2.2.1 ∧ τ 16 = .int .i64 r19.2.2.1 ∧ τ 19 = .bool false) ⟨up rfl (up rfl (up rfl (up rfl (up rfl (up rfl (up rfl (up rfl (up rfl (up rfl hs0))))))))), up rfl (up rfl (up rfl (up rfl (up rfl (up rfl (up rfl (up rfl (up rfl (up rfl hs1))))))))), up rfl (up rfl (up rfl (up rfl (up rfl (up rfl (up rfl (up rfl (up rfl (up rfl hs2))))))))), up rfl (up rfl (up rfl (up rfl (up rfl (up rfl (up rfl (up rfl (up rfl (up rfl hs3))))))))), up rfl (up rfl (up rfl (up rfl (up rfl (up rfl (up rfl (up rfl (up rfl (up rfl hs4))))))))), up rfl (up rfl (up rfl (up rfl (up rfl (up rfl (up rfl (up rfl (up rfl (up rfl hs5))))))))), up rfl (up rfl (up rfl (up rfl (up rfl (up rfl (up rfl (up rfl (up rfl (up rfl hs6))))))))), up rfl (up rfl (up rfl (up rfl (up rfl (up rfl (up rfl (up rfl (up rfl (up rfl hs8))))))))), up rfl (up rfl (up rfl (up rfl (up rfl (up rfl (up rfl (up rfl (up rfl (up rfl hs10))))))))), up rfl (up rfl (up rfl (up rfl (up rfl (up rfl (up rfl (up rfl (up rfl (up rfl hs13))))))))), tp, up rfl (up rfl (up rfl (up rfl (up rfl (up rfl (up rfl (up rfl (up rfl (up rfl hs19)))))))))⟩ ?_
  rintro τ ⟨hs0, hs1, hs2, hs3, hs4, hs5, hs6, hs8, hs10, hs13, hs16, hs19⟩
  refine CW.seqJ (fun τ w => ∃ (j21 : Bool), Shown14_j1 j21 = some r ∧ τ 0 = .bool j21 ∧ St p w (R)) ?_ ?_
  · skip
    refine CW.region ?_
    refine RW.soft Wd.a (v := .slice Xq6_0 r5.1.length cq6_0) (by exact E.move (AF_ev rfl hs2)) ?_
    refine RW.soft Wd.a (v := .int .i64 ((r5.1.length : Nat) : Int)) (by exact E.lenS (p := Xq6_0) (l := r5.1.length) (c := cq6_0) Try.underlying25 (AF_ev rfl tp)) ?_
    refine RW.soft Wd.a (v := .bool (((r5.1.length : Nat) : Int) == 33)) (by exact E.eql (k := .i64) (a := ((r5.1.length : Nat) : Int)) (b := 33) (AF_ev rfl tp) rfl) ?_
    refine RW.soft Wd.a (v := .bool (((r5.1.length : Nat) : Int) == 33)) (by exact E.move (AF_ev rfl tp)) ?_
    refine Or.elim (Bool.eq_false_or_eq_true (((r5.1.length : Nat) : Int) == 33)) (fun hw22 => ?_) (fun hw22 => ?_)
    · have hF := ct hw22 hF
      have hw22_ := hw22
      try simp only [beq_iff_eq] at hw22_
      refine RW.soft (by exact Wd.yes (x := 66) rfl (AF_ev rfl (Eq.trans tp (congrArg Value.bool hw22)))) (v := .int .i64 r5.2.1) (by exact E.move (AF_ev rfl (up rfl (up rfl (up rfl (up rfl hs3)))))) ?_
      refine RW.soft (by exact Wd.yes (x := 66) rfl (AF_ev rfl (up rfl (Eq.trans tp (congrArg Value.bool hw22))))) (v := .bool (r5.2.1 == 1)) (by exact E.eql (k := .i64) (a := r5.2.1) (b := 1) (AF_ev rfl tp) rfl) ?_
      refine RW.soft Wd.a (v := .bool (r5.2.1 == 1)) (by exact E.pickT (AF_ev rfl (up rfl (up rfl (Eq.trans tp (congrArg Value.bool hw22))))) (AF_ev rfl tp)) ?_
      refine RW.soft Wd.a (v := .bool (r5.2.1 == 1)) (by exact E.move (AF_ev rfl tp)) ?_
      refine Or.elim (Bool.eq_false_or_eq_true (r5.2.1 == 1)) (fun hw23 => ?_) (fun hw23 => ?_)
      · have hF := ct hw23 hF
        have hw23_ := hw23
        try simp only [beq_iff_eq] at hw23_
        refine RW.soft (by exact Wd.yes (x := 70) rfl (AF_ev rfl (Eq.trans tp (congrArg Value.bool hw23)))) (v := .int .i64 r5.2.2.1) (by exact E.move (AF_ev rfl (up rfl (up rfl (up rfl (up rfl (up rfl (up rfl (up rfl (up rfl hs4)))))))))) ?_
        refine RW.soft (by exact Wd.yes (x := 70) rfl (AF_ev rfl (up rfl (Eq.trans tp (congrArg Value.bool hw23))))) (v := .bool (r5.2.2.1 == 0)) (by exact E.eql (k := .i64) (a := r5.2.2.1) (b := 0) (AF_ev rfl tp) rfl) ?_
        refine RW.soft Wd.a (v := .bool (r5.2.2.1 == 0)) (by exact E.pickT (AF_ev rfl (up rfl (up rfl (Eq.trans tp (congrArg Value.bool hw23))))) (AF_ev rfl tp)) ?_
        refine RW.soft Wd.a (v := .bool (r5.2.2.1 == 0)) (by exact E.move (AF_ev rfl tp)) ?_
        refine Or.elim (Bool.eq_false_or_eq_true (r5.2.2.1 == 0)) (fun hw24 => ?_) (fun hw24 => ?_)
        · have hF := ct hw24 hF
          have hw24_ := hw24
          try simp only [beq_iff_eq] at hw24_
          refine RW.soft (by exact Wd.yes (x := 74) rfl (AF_ev rfl (Eq.trans tp (congrArg Value.bool hw24)))) (v := .slice Xq8_0 r7.1.length cq8_0) (by exact E.move (AF_ev rfl (up rfl (up rfl (up rfl (up rfl (up rfl (up rfl (up rfl (up rfl (up rfl (up rfl (up rfl (up rfl hs5)))))))))))))) ?_
          refine RW.soft (by exact Wd.yes (x := 74) rfl (AF_ev rfl (up rfl (Eq.trans tp (congrArg Value.bool hw24))))) (v := .string (sb r7.1)) (by exact E.strB (v := .slice Xq8_0 r7.1.length cq8_0) (m := r7.1.length) (l := r7.1) Try.underlying25 Try.underlying5 Try.underlying9 (AF_ev rfl tp) ((Own.src (hst.take (.there (.there (.there (.there (.there (.there (.there (.there (.there (.there .here)))))))))))))) ?_
          refine RW.soft (by exact Wd.yes (x := 74) rfl (AF_ev rfl (up rfl (up rfl (Eq.trans tp (congrArg Value.bool hw24)))))) (v := .bool (r7.1 == str3)) (by exact E.eqlSB (a := r7.1) (b := str3) (AF_ev rfl tp) (show _ = Value.string (sb str3) from by first | rfl | kernel_rfl)) ?_
          refine RW.soft Wd.a (v := .bool (r7.1 == str3)) (by exact E.pickT (AF_ev rfl (up rfl (up rfl (up rfl (Eq.trans tp (congrArg Value.bool hw24)))))) (AF_ev rfl tp)) ?_
          refine RW.soft Wd.a (v := .bool (r7.1 == str3)) (by exact E.move (AF_ev rfl tp)) ?_
          refine Or.elim (Bool.eq_false_or_eq_true (r7.1 == str3)) (fun hw25 => ?_) (fun hw25 => ?_)
          · have hF := ct hw25 hF
            have hw25_ := hw25
            try simp only [beq_iff_eq] at hw25_
            refine RW.soft (by exact Wd.yes (x := 79) rfl (AF_ev rfl (Eq.trans tp (congrArg Value.bool hw25)))) (v := .int .i64 r7.2.1) (by exact E.move (AF_ev rfl (up rfl (up rfl (up rfl (up rfl (up rfl (up rfl (up rfl (up rfl (up rfl (up rfl (up rfl (up rfl (up rfl (up rfl (up rfl (up rfl (up rfl hs6))))))))))))))))))) ?_
            refine RW.soft (by exact Wd.yes (x := 79) rfl (AF_ev rfl (up rfl (Eq.trans tp (congrArg Value.bool hw25))))) (v := .bool (r7.2.1 == 0)) (by exact E.eql (k := .i64) (a := r7.2.1) (b := 0) (AF_ev rfl tp) rfl) ?_
            refine RW.soft Wd.a (v := .bool (r7.2.1 == 0)) (by exact E.pickT (AF_ev rfl (up rfl (up rfl (Eq.trans tp (congrArg Value.bool hw25))))) (AF_ev rfl tp)) ?_
            refine RW.soft Wd.a (v := .bool (r7.2.1 == 0)) (by exact E.move (AF_ev rfl tp)) ?_
            refine Or.elim (Bool.eq_false_or_eq_true (r7.2.1 == 0)) (fun hw26 => ?_) (fun hw26 => ?_)
            · have hF := ct hw26 hF
              have hw26_ := hw26
              try simp only [beq_iff_eq] at hw26_
              refine RW.soft (by exact Wd.yes (x := 83) rfl (AF_ev rfl (Eq.trans tp (congrArg Value.bool hw26)))) (v := .int .i64 r10.2.1) (by exact E.move (AF_ev rfl (up rfl (up rfl (up rfl (up rfl (up rfl (up rfl (up rfl (up rfl (up rfl (up rfl (up rfl (up rfl (up rfl (up rfl (up rfl (up rfl (up rfl (up rfl (up rfl (up rfl (up rfl hs8))))))))))))))))))))))) ?_
              refine RW.soft (by exact Wd.yes (x := 83) rfl (AF_ev rfl (up rfl (Eq.trans tp (congrArg Value.bool hw26))))) (v := .bool (r10.2.1 == 40)) (by exact E.eql (k := .i64) (a := r10.2.1) (b := 40) (AF_ev rfl tp) rfl) ?_
              refine RW.soft Wd.a (v := .bool (r10.2.1 == 40)) (by exact E.pickT (AF_ev rfl (up rfl (up rfl (Eq.trans tp (congrArg Value.bool hw26))))) (AF_ev rfl tp)) ?_
              refine RW.soft Wd.a (v := .bool (r10.2.1 == 40)) (by exact E.move (AF_ev rfl tp)) ?_
              refine Or.elim (Bool.eq_false_or_eq_true (r10.2.1 == 40)) (fun hw27 => ?_) (fun hw27 => ?_)
              · have hF := ct hw27 hF
                have hw27_ := hw27
                try simp only [beq_iff_eq] at hw27_
                refine RW.soft (by exact Wd.yes (x := 87) rfl (AF_ev rfl (Eq.trans tp (congrArg Value.bool hw27)))) (v := .int .i64 r12.2.1) (by exact E.move (AF_ev rfl (up rfl (up rfl (up rfl (up rfl (up rfl (up rfl (up rfl (up rfl (up rfl (up rfl (up rfl (up rfl (up rfl (up rfl (up rfl (up rfl (up rfl (up rfl (up rfl (up rfl (up rfl (up rfl (up rfl (up rfl (up rfl hs10))))))))))))))))))))))))))) ?_
                refine RW.soft (by exact Wd.yes (x := 87) rfl (AF_ev rfl (up rfl (Eq.trans tp (congrArg Value.bool hw27))))) (v := .bool (r12.2.1 == 140)) (by exact E.eql (k := .i64) (a := r12.2.1) (b := 140) (AF_ev rfl tp) rfl) ?_
                refine RW.soft Wd.a (v := .bool (r12.2.1 == 140)) (by exact E.pickT (AF_ev rfl (up rfl (up rfl (Eq.trans tp (congrArg Value.bool hw27))))) (AF_ev rfl tp)) ?_
                refine RW.soft Wd.a (v := .bool (r12.2.1 == 140)) (by exact E.move (AF_ev rfl tp)) ?_
                refine Or.elim (Bool.eq_false_or_eq_true (r12.2.1 == 140)) (fun hw28 => ?_) (fun hw28 => ?_)
                · have hF := ct hw28 hF
                  have hw28_ := hw28
                  try simp only [beq_iff_eq] at hw28_
                  refine RW.soft (by exact Wd.yes (x := 91) rfl (AF_ev rfl (Eq.trans tp (congrArg Value.bool hw28)))) (v := .int .i64 r14.2.2.1) (by exact E.move (AF_ev rfl (up rfl (up rfl (up rfl (up rfl (up rfl (up rfl (up rfl (up rfl (up rfl (up rfl (up rfl (up rfl (up rfl (up rfl (up rfl (up rfl (up rfl (up rfl (up rfl (up rfl (up rfl (up rfl (up rfl (up rfl (up rfl (up rfl (up rfl (up rfl (up rfl hs13))))))))))))))))))))))))))))))) ?_
                  refine RW.soft (by exact Wd.yes (x := 91) rfl (AF_ev rfl (up rfl (Eq.trans tp (congrArg Value.bool hw28))))) (v := .bool (r14.2.2.1 == 130)) (by exact E.eql (k := .i64) (a := r14.2.2.1) (b := 130) (AF_ev rfl tp) rfl) ?_
                  refine RW.soft Wd.a (v := .bool (r14.2.2.1 == 130)) (by exact E.pickT (AF_ev rfl (up rfl (up rfl (Eq.trans tp (congrArg Value.bool hw28))))) (AF_ev rfl tp)) ?_
                  refine RW.soft Wd.a (v := .bool (r14.2.2.1 == 130)) (by exact E.move (AF_ev rfl tp)) ?_
                  refine Or.elim (Bool.eq_false_or_eq_true (r14.2.2.1 == 130)) (fun hw29 => ?_) (fun hw29 => ?_)
                  · have hF := ct hw29 hF
                    have hw29_ := hw29
                    try simp only [beq_iff_eq] at hw29_
                    refine RW.soft (by exact Wd.yes (x := 95) rfl (AF_ev rfl (Eq.trans tp (congrArg Value.bool hw29)))) (v := .int .i64 r19.2.2.1) (by exact E.move (AF_ev rfl (up rfl (up rfl (up rfl (up rfl (up rfl (up rfl (up rfl (up rfl (up rfl (up rfl (up rfl (up rfl (up rfl (up rfl (up rfl (up rfl (up rfl (up rfl (up rfl (up rfl (up rfl (up rfl (up rfl (up rfl (up rfl (up rfl (up rfl (up rfl (up rfl (up rfl (up rfl (up rfl (up rfl hs16))))))))))))))))))))))))))))))))))) ?_
                    refine RW.soft (by exact Wd.yes (x := 95) rfl (AF_ev rfl (up rfl (Eq.trans tp (congrArg Value.bool hw29))))) (v := .bool (r19.2.2.1 == 2)) (by exact E.eql (k := .i64) (a := r19.2.2.1) (b := 2) (AF_ev rfl tp) rfl) ?_
                    refine RW.soft Wd.a (v := .bool (r19.2.2.1 == 2)) (by exact E.pickT (AF_ev rfl (up rfl (up rfl (Eq.trans tp (congrArg Value.bool hw29))))) (AF_ev rfl tp)) ?_
                    refine RW.soft Wd.a (v := .bool (r19.2.2.1 == 2)) (by exact E.assign (AF_ev rfl tp)) ?_
                    refine RW.nil ?_
                    refine Th.n ?_
                    have hst := (hst.take .here).drop
                    have hst := (hst.take .here).drop
                    have hst := (hst.take .here).drop
                    have hst := (hst.take .here).drop
                    have hst := (hst.take .here).drop
                    have hst := (hst.take .here).drop
                    have hst := (hst.take .here).drop
                    have hst := (hst.take .here).drop
                    have hst := (hst.take .here).drop
                    have hst := (hst.take .here).drop
                    have hst := (hst.take .here).drop
                    have hst := (hst.take .here).drop
                    exact ⟨(r19.2.2.1 == 2), hF, tp, hst⟩
                  · have hF := cf hw29 hF
                    have hw29_ := hw29
                    try simp only [beq_eq_false_iff_ne, ne_eq] at hw29_
                    refine RW.pass (by exact Wd.no (x := 95) (b := false) rfl (AF_ev rfl (Eq.trans tp (congrArg Value.bool hw29))) rfl) ?_
                    refine RW.pass (by exact Wd.no (x := 95) (b := false) rfl (AF_ev rfl (up rfl (Eq.trans tp (congrArg Value.bool hw29)))) rfl) ?_
                    refine RW.soft Wd.a (v := .bool false) (by exact E.pickF (AF_ev rfl (up rfl (up rfl (Eq.trans tp (congrArg Value.bool hw29))))) rfl) ?_
                    refine RW.soft Wd.a (v := .bool false) (by exact E.assign (AF_ev rfl tp)) ?_
                    refine RW.nil ?_
                    refine Th.n ?_
                    have hst := (hst.take .here).drop
                    have hst := (hst.take .here).drop
                    have hst := (hst.take .here).drop
                    have hst := (hst.take .here).drop
                    have hst := (hst.take .here).drop
                    have hst := (hst.take .here).drop
                    have hst := (hst.take .here).drop
                    have hst := (hst.take .here).drop
                    have hst := (hst.take .here).drop
                    have hst := (hst.take .here).drop
                    have hst := (hst.take .here).drop
                    have hst := (hst.take .here).drop
                    exact ⟨false, hF, tp, hst⟩
                · have hF := cf hw28 hF
                  have hw28_ := hw28
                  try simp only [beq_eq_false_iff_ne, ne_eq] at hw28_
                  refine RW.pass (by exact Wd.no (x := 91) (b := false) rfl (AF_ev rfl (Eq.trans tp (congrArg Value.bool hw28))) rfl) ?_
                  refine RW.pass (by exact Wd.no (x := 91) (b := false) rfl (AF_ev rfl (up rfl (Eq.trans tp (congrArg Value.bool hw28)))) rfl) ?_
                  refine RW.soft Wd.a (v := .bool false) (by exact E.pickF (AF_ev rfl (up rfl (up rfl (Eq.trans tp (congrArg Value.bool hw28))))) rfl) ?_
                  refine RW.soft Wd.a (v := .bool false) (by exact E.move (AF_ev rfl tp)) ?_
                  refine RW.pass (by exact Wd.no (x := 95) (b := false) rfl (AF_ev rfl tp) rfl) ?_
                  refine RW.pass (by exact Wd.no (x := 95) (b := false) rfl (AF_ev rfl (up rfl tp)) rfl) ?_
                  refine RW.soft Wd.a (v := .bool false) (by exact E.pickF (AF_ev rfl (up rfl (up rfl tp))) rfl) ?_
                  refine RW.soft Wd.a (v := .bool false) (by exact E.assign (AF_ev rfl tp)) ?_
                  refine RW.nil ?_
                  refine Th.n ?_
                  have hst := (hst.take .here).drop
                  have hst := (hst.take .here).drop
                  have hst := (hst.take .here).drop
                  have hst := (hst.take .here).drop
                  have hst := (hst.take .here).drop
                  have hst := (hst.take .here).drop
                  have hst := (hst.take .here).drop
                  have hst := (hst.take .here).drop
                  have hst := (hst.take .here).drop
                  have hst := (hst.take .here).drop
                  have hst := (hst.take .here).drop
                  have hst := (hst.take .here).drop
                  exact ⟨false, hF, tp, hst⟩
              · have hF := cf hw27 hF
                have hw27_ := hw27
                try simp only [beq_eq_false_iff_ne, ne_eq] at hw27_
                refine RW.pass (by exact Wd.no (x := 87) (b := false) rfl (AF_ev rfl (Eq.trans tp (congrArg Value.bool hw27))) rfl) ?_
                refine RW.pass (by exact Wd.no (x := 87) (b := false) rfl (AF_ev rfl (up rfl (Eq.trans tp (congrArg Value.bool hw27)))) rfl) ?_
                refine RW.soft Wd.a (v := .bool false) (by exact E.pickF (AF_ev rfl (up rfl (up rfl (Eq.trans tp (congrArg Value.bool hw27))))) rfl) ?_
                refine RW.soft Wd.a (v := .bool false) (by exact E.move (AF_ev rfl tp)) ?_
                refine RW.pass (by exact Wd.no (x := 91) (b := false) rfl (AF_ev rfl tp) rfl) ?_
                refine RW.pass (by exact Wd.no (x := 91) (b := false) rfl (AF_ev rfl (up rfl tp)) rfl) ?_
                refine RW.soft Wd.a (v := .bool false) (by exact E.pickF (AF_ev rfl (up rfl (up rfl tp))) rfl) ?_
                refine RW.soft Wd.a (v := .bool false) (by exact E.move (AF_ev rfl tp)) ?_
                refine RW.pass (by exact Wd.no (x := 95) (b := false) rfl (AF_ev rfl tp) rfl) ?_
                refine RW.pass (by exact Wd.no (x := 95) (b := false) rfl (AF_ev rfl (up rfl tp)) rfl) ?_
                refine RW.soft Wd.a (v := .bool false) (by exact E.pickF (AF_ev rfl (up rfl (up rfl tp))) rfl) ?_
                refine RW.soft Wd.a (v := .bool false) (by exact E.assign (AF_ev rfl tp)) ?_
                refine RW.nil ?_
                refine Th.n ?_
                have hst := (hst.take .here).drop
                have hst := (hst.take .here).drop
                have hst := (hst.take .here).drop
                have hst := (hst.take .here).drop
                have hst := (hst.take .here).drop
                have hst := (hst.take .here).drop
                have hst := (hst.take .here).drop
                have hst := (hst.take .here).drop
                have hst := (hst.take .here).drop
                have hst := (hst.take .here).drop
                have hst := (hst.take .here).drop
                have hst := (hst.take .here).drop
                exact ⟨false, hF, tp, hst⟩
            · have hF := cf hw26 hF
              have hw26_ := hw26
              try simp only [beq_eq_false_iff_ne, ne_eq] at hw26_
              refine RW.pass (by exact Wd.no (x := 83) (b := false) rfl (AF_ev rfl (Eq.trans tp (congrArg Value.bool hw26))) rfl) ?_
              refine RW.pass (by exact Wd.no (x := 83) (b := false) rfl (AF_ev rfl (up rfl (Eq.trans tp (congrArg Value.bool hw26)))) rfl) ?_
              refine RW.soft Wd.a (v := .bool false) (by exact E.pickF (AF_ev rfl (up rfl (up rfl (Eq.trans tp (congrArg Value.bool hw26))))) rfl) ?_
              refine RW.soft Wd.a (v := .bool false) (by exact E.move (AF_ev rfl tp)) ?_
              refine RW.pass (by exact Wd.no (x := 87) (b := false) rfl (AF_ev rfl tp) rfl) ?_
              refine RW.pass (by exact Wd.no (x := 87) (b := false) rfl (AF_ev rfl (up rfl tp)) rfl) ?_
              refine RW.soft Wd.a (v := .bool false) (by exact E.pickF (AF_ev rfl (up rfl (up rfl tp))) rfl) ?_
              refine RW.soft Wd.a (v := .bool false) (by exact E.move (AF_ev rfl tp)) ?_
              refine RW.pass (by exact Wd.no (x := 91) (b := false) rfl (AF_ev rfl tp) rfl) ?_
              refine RW.pass (by exact Wd.no (x := 91) (b := false) rfl (AF_ev rfl (up rfl tp)) rfl) ?_
              refine RW.soft Wd.a (v := .bool false) (by exact E.pickF (AF_ev rfl (up rfl (up rfl tp))) rfl) ?_
              refine RW.soft Wd.a (v := .bool false) (by exact E.move (AF_ev rfl tp)) ?_
              refine RW.pass (by exact Wd.no (x := 95) (b := false) rfl (AF_ev rfl tp) rfl) ?_
              refine RW.pass (by exact Wd.no (x := 95) (b := false) rfl (AF_ev rfl (up rfl tp)) rfl) ?_
              refine RW.soft Wd.a (v := .bool false) (by exact E.pickF (AF_ev rfl (up rfl (up rfl tp))) rfl) ?_
              refine RW.soft Wd.a (v := .bool false) (by exact E.assign (AF_ev rfl tp)) ?_
              refine RW.nil ?_
              refine Th.n ?_
              have hst := (hst.take .here).drop
              have hst := (hst.take .here).drop
              have hst := (hst.take .here).drop
              have hst := (hst.take .here).drop
              have hst := (hst.take .here).drop
              have hst := (hst.take .here).drop
              have hst := (hst.take .here).drop
              have hst := (hst.take .here).drop
              have hst := (hst.take .here).drop
              have hst := (hst.take .here).drop
              have hst := (hst.take .here).drop
              have hst := (hst.take .here).drop
              exact ⟨false, hF, tp, hst⟩
          · have hF := cf hw25 hF
            have hw25_ := hw25
            try simp only [beq_eq_false_iff_ne, ne_eq] at hw25_
            refine RW.pass (by exact Wd.no (x := 79) (b := false) rfl (AF_ev rfl (Eq.trans tp (congrArg Value.bool hw25))) rfl) ?_
            refine RW.pass (by exact Wd.no (x := 79) (b := false) rfl (AF_ev rfl (up rfl (Eq.trans tp (congrArg Value.bool hw25)))) rfl) ?_
            refine RW.soft Wd.a (v := .bool false) (by exact E.pickF (AF_ev rfl (up rfl (up rfl (Eq.trans tp (congrArg Value.bool hw25))))) rfl) ?_
            refine RW.soft Wd.a (v := .bool false) (by exact E.move (AF_ev rfl tp)) ?_
            refine RW.pass (by exact Wd.no (x := 83) (b := false) rfl (AF_ev rfl tp) rfl) ?_
            refine RW.pass (by exact Wd.no (x := 83) (b := false) rfl (AF_ev rfl (up rfl tp)) rfl) ?_
            refine RW.soft Wd.a (v := .bool false) (by exact E.pickF (AF_ev rfl (up rfl (up rfl tp))) rfl) ?_
            refine RW.soft Wd.a (v := .bool false) (by exact E.move (AF_ev rfl tp)) ?_
            refine RW.pass (by exact Wd.no (x := 87) (b := false) rfl (AF_ev rfl tp) rfl) ?_
            refine RW.pass (by exact Wd.no (x := 87) (b := false) rfl (AF_ev rfl (up rfl tp)) rfl) ?_
            refine RW.soft Wd.a (v := .bool false) (by exact E.pickF (AF_ev rfl (up rfl (up rfl tp))) rfl) ?_
            refine RW.soft Wd.a (v := .bool false) (by exact E.move (AF_ev rfl tp)) ?_
            refine RW.pass (by exact Wd.no (x := 91) (b := false) rfl (AF_ev rfl tp) rfl) ?_
            refine RW.pass (by exact Wd.no (x := 91) (b := false) rfl (AF_ev rfl (up rfl tp)) rfl) ?_
            refine RW.soft Wd.a (v := .bool false) (by exact E.pickF (AF_ev rfl (up rfl (up rfl tp))) rfl) ?_
            refine RW.soft Wd.a (v := .bool false) (by exact E.move (AF_ev rfl tp)) ?_
            refine RW.pass (by exact Wd.no (x := 95) (b := false) rfl (AF_ev rfl tp) rfl) ?_
            refine RW.pass (by exact Wd.no (x := 95) (b := false) rfl (AF_ev rfl (up rfl tp)) rfl) ?_
            refine RW.soft Wd.a (v := .bool false) (by exact E.pickF (AF_ev rfl (up rfl (up rfl tp))) rfl) ?_
            refine RW.soft Wd.a (v := .bool false) (by exact E.assign (AF_ev rfl tp)) ?_
            refine RW.nil ?_
            refine Th.n ?_
            have hst := (hst.take .here).drop
            have hst := (hst.take .here).drop
            have hst := (hst.take .here).drop
            have hst := (hst.take .here).drop
            have hst := (hst.take .here).drop
            have hst := (hst.take .here).drop
            have hst := (hst.take .here).drop
            have hst := (hst.take .here).drop
            have hst := (hst.take .here).drop
            have hst := (hst.take .here).drop
            have hst := (hst.take .here).drop
            have hst := (hst.take .here).drop
            exact ⟨false, hF, tp, hst⟩
        · have hF := cf hw24 hF
          have hw24_ := hw24
          try simp only [beq_eq_false_iff_ne, ne_eq] at hw24_
          refine RW.pass (by exact Wd.no (x := 74) (b := false) rfl (AF_ev rfl (Eq.trans tp (congrArg Value.bool hw24))) rfl) ?_
          refine RW.pass (by exact Wd.no (x := 74) (b := false) rfl (AF_ev rfl (up rfl (Eq.trans tp (congrArg Value.bool hw24)))) rfl) ?_
          refine RW.pass (by exact Wd.no (x := 74) (b := false) rfl (AF_ev rfl (up rfl (up rfl (Eq.trans tp (congrArg Value.bool hw24))))) rfl) ?_
          refine RW.soft Wd.a (v := .bool false) (by exact E.pickF (AF_ev rfl (up rfl (up rfl (up rfl (Eq.trans tp (congrArg Value.bool hw24)))))) rfl) ?_
          refine RW.soft Wd.a (v := .bool false) (by exact E.move (AF_ev rfl tp)) ?_
          refine RW.pass (by exact Wd.no (x := 79) (b := false) rfl (AF_ev rfl tp) rfl) ?_
          refine RW.pass (by exact Wd.no (x := 79) (b := false) rfl (AF_ev rfl (up rfl tp)) rfl) ?_
          refine RW.soft Wd.a (v := .bool false) (by exact E.pickF (AF_ev rfl (up rfl (up rfl tp))) rfl) ?_
          refine RW.soft Wd.a (v := .bool false) (by exact E.move (AF_ev rfl tp)) ?_
          refine RW.pass (by exact Wd.no (x := 83) (b := false) rfl (AF_ev rfl tp) rfl) ?_
          refine RW.pass (by exact Wd.no (x := 83) (b := false) rfl (AF_ev rfl (up rfl tp)) rfl) ?_
          refine RW.soft Wd.a (v := .bool false) (by exact E.pickF (AF_ev rfl (up rfl (up rfl tp))) rfl) ?_
          refine RW.soft Wd.a (v := .bool false) (by exact E.move (AF_ev rfl tp)) ?_
          refine RW.pass (by exact Wd.no (x := 87) (b := false) rfl (AF_ev rfl tp) rfl) ?_
          refine RW.pass (by exact Wd.no (x := 87) (b := false) rfl (AF_ev rfl (up rfl tp)) rfl) ?_
          refine RW.soft Wd.a (v := .bool false) (by exact E.pickF (AF_ev rfl (up rfl (up rfl tp))) rfl) ?_
          refine RW.soft Wd.a (v := .bool false) (by exact E.move (AF_ev rfl tp)) ?_
          refine RW.pass (by exact Wd.no (x := 91) (b := false) rfl (AF_ev rfl tp) rfl) ?_
          refine RW.pass (by exact Wd.no (x := 91) (b := false) rfl (AF_ev rfl (up rfl tp)) rfl) ?_
          refine RW.soft Wd.a (v := .bool false) (by exact E.pickF (AF_ev rfl (up rfl (up rfl tp))) rfl) ?_
          refine RW.soft Wd.a (v := .bool false) (by exact E.move (AF_ev rfl tp)) ?_
          refine RW.pass (by exact Wd.no (x := 95) (b := false) rfl (AF_ev rfl tp) rfl) ?_
          refine RW.pass (by exact Wd.no (x := 95) (b := false) rfl (AF_ev rfl (up rfl tp)) rfl) ?_
          refine RW.soft Wd.a (v := .bool false) (by exact E.pickF (AF_ev rfl (up rfl (up rfl tp))) rfl) ?_
          refine RW.soft Wd.a (v := .bool false) (by exact E.assign (AF_ev rfl tp)) ?_
          refine RW.nil ?_
          refine Th.n ?_
          have hst := (hst.take .here).drop
          have hst := (hst.take .here).drop
          have hst := (hst.take .here).drop
          have hst := (hst.take .here).drop
          have hst := (hst.take .here).drop
          have hst := (hst.take .here).drop
          have hst := (hst.take .here).drop
          have hst := (hst.take .here).drop
          have hst := (hst.take .here).drop
          have hst := (hst.take .here).drop
          have hst := (hst.take .here).drop
          have hst := (hst.take .here).drop
          exact ⟨false, hF, tp, hst⟩
      · have hF := cf hw23 hF
        have hw23_ := hw23
        try simp only [beq_eq_false_iff_ne, ne_eq] at hw23_
        refine RW.pass (by exact Wd.no (x := 70) (b := false) rfl (AF_ev rfl (Eq.trans tp (congrArg Value.bool hw23))) rfl) ?_
        refine RW.pass (by exact Wd.no (x := 70) (b := false) rfl (AF_ev rfl (up rfl (Eq.trans tp (congrArg Value.bool hw23)))) rfl) ?_
        refine RW.soft Wd.a (v := .bool false) (by exact E.pickF (AF_ev rfl (up rfl (up rfl (Eq.trans tp (congrArg Value.bool hw23))))) rfl) ?_
        refine RW.soft Wd.a (v := .bool false) (by exact E.move (AF_ev rfl tp)) ?_
        refine RW.pass (by exact Wd.no (x := 74) (b := false) rfl (AF_ev rfl tp) rfl) ?_
        refine RW.pass (by exact Wd.no (x := 74) (b := false) rfl (AF_ev rfl (up rfl tp)) rfl) ?_
        refine RW.pass (by exact Wd.no (x := 74) (b := false) rfl (AF_ev rfl (up rfl (up rfl tp))) rfl) ?_
        refine RW.soft Wd.a (v := .bool false) (by exact E.pickF (AF_ev rfl (up rfl (up rfl (up rfl tp)))) rfl) ?_
        refine RW.soft Wd.a (v := .bool false) (by exact E.move (AF_ev rfl tp)) ?_
        refine RW.pass (by exact Wd.no (x := 79) (b := false) rfl (AF_ev rfl tp) rfl) ?_
        refine RW.pass (by exact Wd.no (x := 79) (b := false) rfl (AF_ev rfl (up rfl tp)) rfl) ?_
        refine RW.soft Wd.a (v := .bool false) (by exact E.pickF (AF_ev rfl (up rfl (up rfl tp))) rfl) ?_
        refine RW.soft Wd.a (v := .bool false) (by exact E.move (AF_ev rfl tp)) ?_
        refine RW.pass (by exact Wd.no (x := 83) (b := false) rfl (AF_ev rfl tp) rfl) ?_
        refine RW.pass (by exact Wd.no (x := 83) (b := false) rfl (AF_ev rfl (up rfl tp)) rfl) ?_
        refine RW.soft Wd.a (v := .bool false) (by exact E.pickF (AF_ev rfl (up rfl (up rfl tp))) rfl) ?_
        refine RW.soft Wd.a (v := .bool false) (by exact E.move (AF_ev rfl tp)) ?_
        refine RW.pass (by exact Wd.no (x := 87) (b := false) rfl (AF_ev rfl tp) rfl) ?_
        refine RW.pass (by exact Wd.no (x := 87) (b := false) rfl (AF_ev rfl (up rfl tp)) rfl) ?_
        refine RW.soft Wd.a (v := .bool false) (by exact E.pickF (AF_ev rfl (up rfl (up rfl tp))) rfl) ?_
        refine RW.soft Wd.a (v := .bool false) (by exact E.move (AF_ev rfl tp)) ?_
        refine RW.pass (by exact Wd.no (x := 91) (b := false) rfl (AF_ev rfl tp) rfl) ?_
        refine RW.pass (by exact Wd.no (x := 91) (b := false) rfl (AF_ev rfl (up rfl tp)) rfl) ?_
        refine RW.soft Wd.a (v := .bool false) (by exact E.pickF (AF_ev rfl (up rfl (up rfl tp))) rfl) ?_
        refine RW.soft Wd.a (v := .bool false) (by exact E.move (AF_ev rfl tp)) ?_
        refine RW.pass (by exact Wd.no (x := 95) (b := false) rfl (AF_ev rfl tp) rfl) ?_
        refine RW.pass (by exact Wd.no (x := 95) (b := false) rfl (AF_ev rfl (up rfl tp)) rfl) ?_
        refine RW.soft Wd.a (v := .bool false) (by exact E.pickF (AF_ev rfl (up rfl (up rfl tp))) rfl) ?_
        refine RW.soft Wd.a (v := .bool false) (by exact E.assign (AF_ev rfl tp)) ?_
        refine RW.nil ?_
        refine Th.n ?_
        have hst := (hst.take .here).drop
        have hst := (hst.take .here).drop
        have hst := (hst.take .here).drop
        have hst := (hst.take .here).drop
        have hst := (hst.take .here).drop
        have hst := (hst.take .here).drop
        have hst := (hst.take .here).drop
        have hst := (hst.take .here).drop
        have hst := (hst.take .here).drop
        have hst := (hst.take .here).drop
        have hst := (hst.take .here).drop
        have hst := (hst.take .here).drop
        exact ⟨false, hF, tp, hst⟩
    · have hF := cf hw22 hF
      have hw22_ := hw22
      try simp only [beq_eq_false_iff_ne, ne_eq] at hw22_
      refine RW.pass (by exact Wd.no (x := 66) (b := false) rfl (AF_ev rfl (Eq.trans tp (congrArg Value.bool hw22))) rfl) ?_
      refine RW.pass (by exact Wd.no (x := 66) (b := false) rfl (AF_ev rfl (up rfl (Eq.trans tp (congrArg Value.bool hw22)))) rfl) ?_
      refine RW.soft Wd.a (v := .bool false) (by exact E.pickF (AF_ev rfl (up rfl (up rfl (Eq.trans tp (congrArg Value.bool hw22))))) rfl) ?_
      refine RW.soft Wd.a (v := .bool false) (by exact E.move (AF_ev rfl tp)) ?_
      refine RW.pass (by exact Wd.no (x := 70) (b := false) rfl (AF_ev rfl tp) rfl) ?_
      refine RW.pass (by exact Wd.no (x := 70) (b := false) rfl (AF_ev rfl (up rfl tp)) rfl) ?_
      refine RW.soft Wd.a (v := .bool false) (by exact E.pickF (AF_ev rfl (up rfl (up rfl tp))) rfl) ?_
      refine RW.soft Wd.a (v := .bool false) (by exact E.move (AF_ev rfl tp)) ?_
      refine RW.pass (by exact Wd.no (x := 74) (b := false) rfl (AF_ev rfl tp) rfl) ?_
      refine RW.pass (by exact Wd.no (x := 74) (b := false) rfl (AF_ev rfl (up rfl tp)) rfl) ?_
      refine RW.pass (by exact Wd.no (x := 74) (b := false) rfl (AF_ev rfl (up rfl (up rfl tp))) rfl) ?_
      refine RW.soft Wd.a (v := .bool false) (by exact E.pickF (AF_ev rfl (up rfl (up rfl (up rfl tp)))) rfl) ?_
      refine RW.soft Wd.a (v := .bool false) (by exact E.move (AF_ev rfl tp)) ?_
      refine RW.pass (by exact Wd.no (x := 79) (b := false) rfl (AF_ev rfl tp) rfl) ?_
      refine RW.pass (by exact Wd.no (x := 79) (b := false) rfl (AF_ev rfl (up rfl tp)) rfl) ?_
      refine RW.soft Wd.a (v := .bool false) (by exact E.pickF (AF_ev rfl (up rfl (up rfl tp))) rfl) ?_
      refine RW.soft Wd.a (v := .bool false) (by exact E.move (AF_ev rfl tp)) ?_
      refine RW.pass (by exact Wd.no (x := 83) (b := false) rfl (AF_ev rfl tp) rfl) ?_
      refine RW.pass (by exact Wd.no (x := 83) (b := false) rfl (AF_ev rfl (up rfl tp)) rfl) ?_
      refine RW.soft Wd.a (v := .bool false) (by exact E.pickF (AF_ev rfl (up rfl (up rfl tp))) rfl) ?_
      refine RW.soft Wd.a (v := .bool false) (by exact E.move (AF_ev rfl tp)) ?_
      refine RW.pass (by exact Wd.no (x := 87) (b := false) rfl (AF_ev rfl tp) rfl) ?_
      refine RW.pass (by exact Wd.no (x := 87) (b := false) rfl (AF_ev rfl (up rfl tp)) rfl) ?_
      refine RW.soft Wd.a (v := .bool false) (by exact E.pickF (AF_ev rfl (up rfl (up rfl tp))) rfl) ?_
      refine RW.soft Wd.a (v := .bool false) (by exact E.move (AF_ev rfl tp)) ?_
      refine RW.pass (by exact Wd.no (x := 91) (b := false) rfl (AF_ev rfl tp) rfl) ?_
      refine RW.pass (by exact Wd.no (x := 91) (b := false) rfl (AF_ev rfl (up rfl tp)) rfl) ?_
      refine RW.soft Wd.a (v := .bool false) (by exact E.pickF (AF_ev rfl (up rfl (up rfl tp))) rfl) ?_
      refine RW.soft Wd.a (v := .bool false) (by exact E.move (AF_ev rfl tp)) ?_
      refine RW.pass (by exact Wd.no (x := 95) (b := false) rfl (AF_ev rfl tp) rfl) ?_
      refine RW.pass (by exact Wd.no (x := 95) (b := false) rfl (AF_ev rfl (up rfl tp)) rfl) ?_
      refine RW.soft Wd.a (v := .bool false) (by exact E.pickF (AF_ev rfl (up rfl (up rfl tp))) rfl) ?_
      refine RW.soft Wd.a (v := .bool false) (by exact E.assign (AF_ev rfl tp)) ?_
      refine RW.nil ?_
      refine Th.n ?_
      have hst := (hst.take .here).drop
      have hst := (hst.take .here).drop
      have hst := (hst.take .here).drop
      have hst := (hst.take .here).drop
      have hst := (hst.take .here).drop
      have hst := (hst.take .here).drop
      have hst := (hst.take .here).drop
      have hst := (hst.take .here).drop
      have hst := (hst.take .here).drop
      have hst := (hst.take .here).drop
      have hst := (hst.take .here).drop
      have hst := (hst.take .here).drop
      exact ⟨false, hF, tp, hst⟩
  rintro τ w ⟨j21, hF, hs0, hst⟩
  unfold Shown14_j1 at hF
  refine CW.ret ?_
  refine ret1 (v := .bool j21) rfl (by exact (.tmp (AF_ev rfl hs0) .nil)) ?_
  rw [somE hF]
  exact ⟨rfl, hst⟩

def Few14 (b : List (BitVec 8)) : Option (List (BitVec 8)) :=
  bif decide (((b.length : Nat) : Int) > 200) then
    if 200 ≤ b.length then
      lt_ (sl 0 (200) b) fun t4 =>
      some (t4)
    else none
  else
    some (b)
theorem Few14_C {p : Pers} {w : World} {R : List Assn} {A : Assn} {X_b : Option Addr} {c_b : Nat} (b : List (BitVec 8)) (hm_b : b.length ≤ 9223372036854775807) (hS_b : ∀ w H, St p w (A :: H) → SL.Src w 1 (.slice X_b b.length c_b) b.length (b.map bu8)) (r : List (BitVec 8)) (hF : Few14 b = some r) (hst : St p w (A :: R)) :
    Calls Try.prog 11 #[.slice X_b b.length c_b] w fun e w => ∃ (X0 : Option Addr) (c0 : Nat), e = .returned (.slice X0 r.length c0) ∧ (∀ w H, St p w (A :: H) → SL.Src w 1 (.slice X0 r.length c0) r.length (r.map bu8)) ∧ r.length ≤ 1000000 ∧ St p w (A :: R) := by
  unfold Few14 at hF
  refine enter Try.func11 rfl (by simp) (n := 9) rfl fun τ hτ => ?_
  have hs0 : τ 0 = .slice X_b b.length c_b := hτ 0 (by simp)
  clear hτ
  refine CW.seq ?_
  refine CW.region ?_
  refine RW.soft Wd.a (v := .slice none 0 0) (by exact E.assign rfl) ?_
  refine RW.fin (fun τ => τ 0 = .slice X_b b.length c_b ∧ τ 2 = .slice none 0 0) ⟨up rfl hs0, tp⟩ ?_
  rintro τ ⟨hs0, hs2⟩
  refine CW.seq ?_
  refine CW.seq ?_
  refine CW.region ?_
  refine RW.soft Wd.a (v := .slice X_b b.length c_b) (by exact E.move (AF_ev rfl hs0)) ?_
  refine RW.soft Wd.a (v := .int .i64 ((b.length : Nat) : Int)) (by exact E.lenS (p := X_b) (l := b.length) (c := c_b) Try.underlying25 (AF_ev rfl tp)) ?_
  refine RW.soft Wd.a (v := .bool (decide (((b.length : Nat) : Int) > 200))) (by exact E.gtr (k := .i64) (a := ((b.length : Nat) : Int)) (b := 200) (AF_ev rfl tp) rfl) ?_
  refine RW.fin (fun τ => τ 0 = .slice X_b b.length c_b ∧ τ 2 = .slice none 0 0 ∧ τ 5 = .bool (decide (((b.length : Nat) : Int) > 200))) ⟨up rfl (up rfl (up rfl hs0)), up rfl (up rfl (up rfl hs2)), tp⟩ ?_
  rintro τ ⟨hs0, hs2, hs5⟩
  refine CW.cond (AF_ev rfl hs5) (fun hc1 => ?_) (fun hc1 => ?_)
  · have hF := ct hc1 hF
    have hc1_ := hc1
    try simp only [decide_eq_true_eq, gt_iff_lt, ge_iff_le] at hc1_
    refine CW.seq ?_
    refine CW.region ?_
    refine RW.soft Wd.a (v := .slice X_b b.length c_b) (by exact E.move (AF_ev rfl hs0)) ?_
    obtain ⟨hg2, hF⟩ := pl hF
    have hcap_c_b : b.length ≤ c_b := (show SL.Src w 1 (.slice X_b b.length c_b) b.length (b.map bu8) from (hS_b _ _ (hst.take .here))).len.2.1
    obtain ⟨t4, h_t4, hF⟩ := lp hF
    have hl_t4 : t4.length = 200 := by rw [h_t4]; exact sl_len rfl (by omega)
    obtain ⟨c6, hc_c6⟩ : ∃ z, z = c_b := ⟨_, rfl⟩
    obtain ⟨X5, hX_X5⟩ : ∃ z, z = sbA X_b c_b 0 1 := ⟨_, rfl⟩
    have hS_X5 : ∀ w H, St p w (A :: H) → SL.Src w 1 (.slice X5 t4.length c6) t4.length (t4.map bu8) := fun w H s => (show SL.Src w 1 (.slice X5 t4.length c6) t4.length (t4.map bu8) from by have h_ := Src.sub ((hS_b _ _ s)) (i := 0) (j := 200) (by omega) (by omega); rw [← hX_X5] at h_; exact h_.cast (by omega) (by omega) (by first | (rw [h_t4, map_sl]; done) | (rw [h_t4, map_sl]; rfl)))
    refine RW.soft Wd.a (v := .slice X5 t4.length c6) (by exact E.v (run_slice (X := X_b) (m := b.length) (c := c_b) (i := 0) (j := 200) (k := c_b) Try.underlying25 sz5 _ (AF_ev rfl tp) rfl rfl rfl (by omega) (by omega) (by omega)) (by first | (rw [hX_X5, hc_c6, hl_t4]; done) | (rw [hX_X5, hc_c6, hl_t4]; rfl) | (rw [hX_X5, hc_c6, hl_t4]; simp))) ?_
    refine RW.soft Wd.a (v := .slice X5 t4.length c6) (by exact E.assign (AF_ev rfl tp)) ?_
    refine RW.fin (fun τ => τ 0 = .slice X_b b.length c_b ∧ τ 2 = .slice X5 t4.length c6 ∧ τ 5 = .bool true) ⟨up rfl (up rfl (up rfl hs0)), tp, up rfl (up rfl (up rfl (Eq.trans hs5 (congrArg Value.bool hc1))))⟩ ?_
    rintro τ ⟨hs0, hs2, hs5⟩
    refine CW.ret ?_
    refine Th.r ?_
    refine ret1 (v := .slice X5 t4.length c6) rfl (by exact (.tmp (AF_ev rfl hs2) .nil)) ?_
    rw [somE hF]
    exact ⟨X5, c6, rfl, (fun w H s => (hS_X5 _ _ s)), (by (try dsimp only); omega), hst⟩
  · have hF := cf hc1 hF
    have hc1_ := hc1
    try simp only [decide_eq_false_iff_not, Int.not_lt, Int.not_le, gt_iff_lt, ge_iff_le] at hc1_
    refine CW.skip ?_
    refine Th.n ?_
    refine CW.seq ?_
    refine CW.region ?_
    refine RW.soft Wd.a (v := .slice X_b b.length c_b) (by exact E.move (AF_ev rfl hs0)) ?_
    refine RW.soft Wd.a (v := .slice X_b b.length c_b) (by exact E.assign (AF_ev rfl tp)) ?_
    refine RW.fin (fun τ => τ 0 = .slice X_b b.length c_b ∧ τ 2 = .slice X_b b.length c_b ∧ τ 5 = .bool false) ⟨up rfl (up rfl hs0), tp, up rfl (up rfl (Eq.trans hs5 (congrArg Value.bool hc1)))⟩ ?_
    rintro τ ⟨hs0, hs2, hs5⟩
    refine CW.ret ?_
    refine ret1 (v := .slice X_b b.length c_b) rfl (by exact (.tmp (AF_ev rfl hs2) .nil)) ?_
    rw [somE hF]
    exact ⟨X_b, c_b, rfl, (fun w H s => (hS_b _ _ s)), (by (try dsimp only); omega), hst⟩

def Kind14_j1 (n : Int)  (j1 : Int) : Option (Int) :=
  if n ≠ 0 then
    some (j1.tmod n)
  else none
def Kind14 (c : Int) (n : Int) : Option (Int) :=
  bif decide (c < 0) then
    Kind14_j1 n (w64 (0 - (w64 (c + 1))))
  else
    Kind14_j1 n c
theorem Kind14_C {p : Pers} {w : World} {R : List Assn}  (c : Int) (hr_c : -9223372036854775808 ≤ c ∧ c ≤ 9223372036854775807) (n : Int) (hr_n : -9223372036854775808 ≤ n ∧ n ≤ 9223372036854775807) (r : Int) (hF : Kind14 c n = some r) (hst : St p w (R)) :
    Calls Try.prog 19 #[.int .i64 c, .int .i64 n] w fun e w => e = .returned (.int .i64 r) ∧ (-9223372036854775808 ≤ r ∧ r ≤ 9223372036854775807) ∧ St p w (R) := by
  unfold Kind14 at hF
  refine enter Try.func19 rfl (by simp) (n := 13) rfl fun τ hτ => ?_
  have hs0 : τ 0 = .int .i64 c := hτ 0 (by simp)
  have hs1 : τ 1 = .int .i64 n := hτ 1 (by simp)
  clear hτ
  refine CW.seq ?_
  refine CW.region ?_
  refine RW.soft Wd.a (v := .int .i64 0) (by exact E.assign rfl) ?_
  refine RW.fin (fun τ => τ 0 = .int .i64 c ∧ τ 1 = .int .i64 n ∧ τ 4 = .int .i64 0) ⟨up rfl hs0, up rfl hs1, tp⟩ ?_
  rintro τ ⟨hs0, hs1, hs4⟩
  refine CW.seqJ (fun τ w => ∃ (j1 : Int), (-9223372036854775808 ≤ j1 ∧ j1 ≤ 9223372036854775807) ∧ Kind14_j1 n j1 = some r ∧ τ 0 = .int .i64 j1 ∧ τ 1 = .int .i64 n ∧ τ 4 = .int .i64 0 ∧ St p w (R)) ?_ ?_
  · skip
    refine CW.seq ?_
    refine CW.region ?_
    refine RW.soft Wd.a (v := .int .i64 c) (by exact E.move (AF_ev rfl hs0)) ?_
    refine RW.soft Wd.a (v := .bool (decide (c < 0))) (by exact E.lss (k := .i64) (a := c) (b := 0) (AF_ev rfl tp) rfl) ?_
    refine RW.fin (fun τ => τ 0 = .int .i64 c ∧ τ 1 = .int .i64 n ∧ τ 4 = .int .i64 0 ∧ τ 6 = .bool (decide (c < 0))) ⟨up rfl (up rfl hs0), up rfl (up rfl hs1), up rfl (up rfl hs4), tp⟩ ?_
    rintro τ ⟨hs0, hs1, hs4, hs6⟩
    refine CW.cond (AF_ev rfl hs6) (fun hc2 => ?_) (fun hc2 => ?_)
    · have hF := ct hc2 hF
      have hc2_ := hc2
      try simp only [decide_eq_true_eq] at hc2_
      refine CW.region ?_
      refine RW.soft Wd.a (v := .int .i64 c) (by exact E.move (AF_ev rfl hs0)) ?_
      refine RW.soft Wd.a (v := .int .i64 (w64 (c + 1))) (by exact E.add (k := .i64) (a := c) (b := 1) (AF_ev rfl tp) rfl rfl) ?_
      refine RW.soft Wd.a (v := .int .i64 (w64 (0 - (w64 (c + 1))))) (by exact E.neg (k := .i64) (a := w64 (c + 1)) (AF_ev rfl tp) rfl) ?_
      refine RW.soft Wd.a (v := .int .i64 (w64 (0 - (w64 (c + 1))))) (by exact E.assign (AF_ev rfl tp)) ?_
      refine RW.nil ?_
      refine Th.n ?_
      exact ⟨(w64 (0 - (w64 (c + 1)))), (w64_rng _), hF, tp, up rfl (up rfl (up rfl (up rfl hs1))), up rfl (up rfl (up rfl (up rfl hs4))), hst⟩
    · have hF := cf hc2 hF
      have hc2_ := hc2
      try simp only [decide_eq_false_iff_not, Int.not_lt, Int.not_le, gt_iff_lt, ge_iff_le] at hc2_
      refine CW.skip ?_
      refine Th.n ?_
      exact ⟨c, (by omega), hF, hs0, hs1, hs4, hst⟩
  rintro τ w ⟨j1, hr_j1, hF, hs0, hs1, hs4, hst⟩
  unfold Kind14_j1 at hF
  refine CW.seq ?_
  refine CW.region ?_
  refine RW.soft Wd.a (v := .int .i64 j1) (by exact E.move (AF_ev rfl hs0)) ?_
  refine RW.soft Wd.a (v := .int .i64 n) (by exact E.move (AF_ev rfl (up rfl hs1))) ?_
  obtain ⟨hg3, hF⟩ := pl hF
  refine RW.soft Wd.a (v := .int .i64 (j1.tmod n)) (by exact E.rem (k := .i64) (a := j1) (b := n) (AF_ev rfl (up rfl tp)) (AF_ev rfl tp) hg3 rfl) ?_
  refine RW.soft Wd.a (v := .int .i64 (j1.tmod n)) (by exact E.assign (AF_ev rfl tp)) ?_
  refine RW.fin (fun τ => τ 0 = .int .i64 j1 ∧ τ 1 = .int .i64 n ∧ τ 4 = .int .i64 (j1.tmod n)) ⟨up rfl (up rfl (up rfl (up rfl hs0))), up rfl (up rfl (up rfl (up rfl hs1))), tp⟩ ?_
  rintro τ ⟨hs0, hs1, hs4⟩
  refine CW.ret ?_
  refine ret1 (v := .int .i64 (j1.tmod n)) rfl (by exact (.tmp (AF_ev rfl hs4) .nil)) ?_
  rw [somE hF]
  exact ⟨rfl, (by (try dsimp only); first | omega | exact (tmod_rng2 _ (by omega))), hst⟩
end Go.Proofs.Ytjpjejldinpcnaa
