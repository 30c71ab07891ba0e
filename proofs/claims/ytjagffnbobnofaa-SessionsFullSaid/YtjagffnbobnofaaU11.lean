/- Seats, by plain lists. -/
import Derived.Test.YtjagffnbobnofaaU10
namespace Go.Proofs.Ytjagffnbobnofaa
open Go.RowKit Go.SL Go.S15 Go.Q18
set_option linter.unusedVariables false
set_option linter.unusedSimpArgs false
theorem Seats_L {p : Pers} {w : World} {R : List Assn} {t : Nat} {L : Ses} {next : Int} (hl : L.length ≤ 12) (hk : ∀ x ∈ L, I64 x.1) (hst : St p w (Tab p t L next :: R)) :
    Calls Try.prog 17 #[.pointer (some ⟨t, 0, none⟩)] w fun e w' => ∃ q v K S, p.le q ∧ e = .returned (.tuple #[v, .int .i64 next]) ∧ List.Perm K (L.map (·.1)) ∧ K.Pairwise (· ≤ ·) ∧ SeatsOf L K S ∧ SeatsOk q S ∧ St q w' (SL.Own 51 6 v S.length (S.flatMap SeatM.enc) :: Tab q t L next :: R) := by
  obtain ⟨mm, ks, hTR, hst⟩ := tabOpen hst
  have hkeys := TR.keys hTR
  refine Calls.mono (seats_K (L := L) (by rw [hTR.length]; exact hl) (fun q hq => ?_) hTR p.le_refl hst) ?_
  · have : q.1 ∈ L.map (·.1) := by rw [← hkeys]; exact List.mem_map.2 ⟨q, hq, rfl⟩
    obtain ⟨x, hx, e⟩ := List.mem_map.1 this
    rw [← e]; exact hk x hx
  · rintro e w' ⟨q, v, K, S, hle, he, hP, hW, hS, hSok, hTR2, hst⟩
    have h1 := hst.take (.there (.there .here))
    have h2 := h1.take (.there (.there .here))
    exact ⟨q, v, K, S, hle, he, hkeys ▸ hP, hW, hS, hSok, (tabClose hTR2 h2).swap⟩
theorem SeatsOf.len {L : Ses} {K : List Int} {S : List SeatM} (h : SeatsOf L K S) : S.length = K.length := by
  rw [← h.1, List.length_map]
end Go.Proofs.Ytjagffnbobnofaa
