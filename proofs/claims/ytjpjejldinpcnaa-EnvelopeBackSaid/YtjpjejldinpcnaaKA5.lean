/- Keys of 32 bytes in the program: how they are put together and compared. -/
import Derived.Test.YtjpjejldinpcnaaKA4
import Derived.Test.YtjpjejldinpcnaaProg
import Derived.ChangeKeysEq
namespace Go.Proofs.Ytjpjejldinpcnaa
open Go.RowKit Go.SL Go.K13
set_option linter.unusedVariables false
set_option linter.unusedSimpArgs false
theorem build34 (a : Int) (w : World) : (Instr.build 34 #[(0, .int .u8 a)]).run Try.prog w = .ok (.agg (bk (kc a)).toArray) w := by kernel_rfl
theorem build34z (w : World) : (Instr.build 34 #[]).run Try.prog w = .ok (.agg (bk kz).toArray) w := by kernel_rfl
theorem build105u (u : Int) (w : World) : (Instr.build 105 #[(1, .int .i64 u)]).run Try.prog w = .ok (.agg (Ver.mk kz u false).enc.toArray) w := by kernel_rfl
theorem build105 (m : K32) (w : World) : (Instr.build 105 #[(0, .agg (bk m).toArray)]).run Try.prog w = .ok (.agg (Ver.mk m 0 false).enc.toArray) w :=
  k32_ind (C := fun m => (Instr.build 105 #[(0, .agg (bk m).toArray)]).run Try.prog w = .ok (.agg (Ver.mk m 0 false).enc.toArray) w) (fun a0 a1 a2 a3 a4 a5 a6 a7 a8 a9 a10 a11 a12 a13 a14 a15 a16 a17 a18 a19 a20 a21 a22 a23 a24 a25 a26 a27 a28 a29 a30 a31 => by kernel_rfl) m
theorem bslice106 (x : Ver) (w : World) : (Instr.buildSlice 106 1 #[(0, .agg x.enc.toArray)]).run Try.prog w = .ok (.slice (some ⟨w.heap.size, 0, none⟩) 1 1) (w.alloc (.cells x.enc.toArray 105)) := by
  obtain ⟨m, u, g⟩ := x
  exact k32_ind (C := fun m => (Instr.buildSlice 106 1 #[(0, .agg (Ver.mk m u g).enc.toArray)]).run Try.prog w = .ok (.slice (some ⟨w.heap.size, 0, none⟩) 1 1) (w.alloc (.cells (Ver.mk m u g).enc.toArray 105))) (fun a0 a1 a2 a3 a4 a5 a6 a7 a8 a9 a10 a11 a12 a13 a14 a15 a16 a17 a18 a19 a20 a21 a22 a23 a24 a25 a26 a27 a28 a29 a30 a31 => by kernel_rfl) m
theorem zr34k : (Try.prog.info? 34).bind (·.zero) = some (.agg (bk kz).toArray) := by kernel_rfl
theorem zr105k : (Try.prog.info? 105).bind (·.zero) = some (.agg (Ver.mk kz 0 false).enc.toArray) := by kernel_rfl
end Go.Proofs.Ytjpjejldinpcnaa
