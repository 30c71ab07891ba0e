/- Held memory whose cells are told by lists: versions. -/
import Derived.Test.YtjpjejldinpcnaaKA5
import Derived.Test.YtjpjejldinpcnaaSK
namespace Go.K13
open Go.SL
theorem ownVer {p : Pers} {w : World} {H : List Assn} {g : Nat} {x : Ver} (s : St p w (pt g (.cells (Ver.enc x).toArray 105) :: H)) : St p w (Own 105 34 (.slice (some ⟨g, 0, none⟩) 1 1) 1 ([x].flatMap Ver.enc) :: H) :=
  s.ownNew (by omega) (by simp [maxLen]) (by rw [Ver.enc_size]) (by have := x.enc_len; simp [this, List.take_of_length_le])
end Go.K13
