/- Reading a map by ints without asking whether the key is there; the keys of a table of sessions. -/
import Derived.Test.YtjagffnbobnofaaU8
namespace Go.SL
open Go.RowKit
set_option linter.unusedVariables false
set_option linter.unusedSimpArgs false
theorem E.lookupP {P : Program} {p : Pers} {w : World} {H H' : List Assn} {dst : Option Tmp} {ty : TypeId} {pos : String} {af : Array Edge} {gd : Option (Nat × Bool)} {ρ : Operand → Value} {x y : Operand} {t kt et : TypeId} {b : Nat} {ks : List (Int × Value)} {k : Int} {z v : Value} (hg : aget ks k = some v) (ht : P.underlying t = some (.map kt et)) (hk : P.underlying kt = some (.int .i64)) (hz : (P.info? et).bind (·.zero) = some z)
    (hx : ρ x = .map (some b)) (hy : ρ y = .int .i64 k) (s : St p w H) (d : Del (MapI b ks) H H') : Ev P ρ ⟨dst, .lookup t x y false, ty, pos, af, gd⟩ w v := by
  obtain ⟨es, cl, s2, he, _⟩ := (s.take d).mapOpen
  have hg2 := run_getObj_map (P := P) s2.block
  have hf := findKey_ints (P := P) (w := w) hk he k
  have hc := checkKey_int (P := P) (w := w) hk es.isEmpty k
  have hs := aget_some (ks := ks) (k := k)
  rw [hg] at hs
  cases hi : ks.findIdx? fun q => q.1 == k with
  | none => rw [hi] at hs; simp at hs
  | some j =>
    rw [hi] at hf
    simp [Ev, execOp, Instr.lookup, run_underlying ht, hx, hy, hg2, hc, hf, hg]
end Go.SL
namespace Go.Proofs.Ytjagffnbobnofaa
open Go.RowKit Go.SL Go.S15 Go.Q18
theorem TR.keys {p : Pers} : ∀ {ks : List (Int × Value)} {L : Ses}, TR p ks L → ks.map (·.1) = L.map (·.1)
  | [], [], _ => rfl
  | q :: ks, x :: L, h => by
    show q.1 :: ks.map (·.1) = x.1 :: L.map (·.1)
    rw [h.1, TR.keys h.2.2]
  | [], _ :: _, h => h.elim
  | _ :: _, [], h => h.elim
theorem lget_mem : ∀ {L : Ses} {k : Int}, k ∈ L.map (·.1) → ∃ s, lget L k = some s
  | [], k, h => by cases h
  | x :: L, k, h => by
    unfold lget
    split
    · exact ⟨_, rfl⟩
    · rename_i hx
      rcases List.mem_cons.1 h with e | h2
      · exact absurd e.symm hx
      · exact lget_mem h2
/-- a seat that is handed out -/
structure SeatM where
  id : Int
  sq : Int
  c0 : Int
  c1 : Int
  c2 : Int
  X : Option Addr
  cap : Nat
  ns : List Int
def SeatM.enc (s : SeatM) : List Value := [.int .i64 s.id, .int .i64 s.sq, .int .i64 s.c0, .int .i64 s.c1, .int .i64 s.c2, .slice s.X s.ns.length s.cap]
theorem SeatM.enc_len (s : SeatM) : s.enc.length = 6 := rfl
theorem SeatM.ones (l : List SeatM) : ∀ u ∈ l.flatMap SeatM.enc, u.oneCell' = true := fun u hu => by
  obtain ⟨s, _, h⟩ := List.mem_flatMap.1 hu
  simp only [SeatM.enc, List.mem_cons, List.not_mem_nil, or_false] at h
  rcases h with rfl | rfl | rfl | rfl | rfl | rfl <;> rfl
def SeatM.rp (s : SeatM) : Rp := ⟨s.c0, s.c1, s.c2, s.ns⟩
/-- their bytes last -/
def SeatsOk (p : Pers) (S : List SeatM) : Prop := ∀ s ∈ S, Las p 1 (.slice s.X s.ns.length s.cap) s.ns.length (bv s.ns)
theorem SeatsOk.le {p q : Pers} {S : List SeatM} (h : SeatsOk p S) (l : p.le q) : SeatsOk q S := fun s hs => (h s hs).le l
theorem SeatsOk.nil {p : Pers} : SeatsOk p [] := fun s hs => by cases hs
theorem SeatsOk.more {p : Pers} {S : List SeatM} {s : SeatM} (h : SeatsOk p S) (hs : Las p 1 (.slice s.X s.ns.length s.cap) s.ns.length (bv s.ns)) : SeatsOk p (S ++ [s]) := fun z hz => by
  rcases List.mem_append.1 hz with hz | hz
  · exact h z hz
  · rw [List.mem_singleton.1 hz]; exact hs
/-- the seats of a table, by the keys in K -/
def SeatsOf (L : Ses) (K : List Int) (S : List SeatM) : Prop := S.map (·.id) = K ∧ ∀ s ∈ S, lget L s.id = some (s.sq, s.rp)
theorem SeatsOf.more {L : Ses} {K : List Int} {S : List SeatM} {j : Nat} {x : Int} {s : SeatM} (h : SeatsOf L (K.take j) S) (hx : K[j]? = some x) (hi : s.id = x) (hg : lget L x = some (s.sq, s.rp)) : SeatsOf L (K.take (j + 1)) (S ++ [s]) := by
  refine ⟨by rw [List.map_append, h.1, List.take_add_one, hx, ← hi]; rfl, fun z hz => ?_⟩
  rcases List.mem_append.1 hz with hz | hz
  · exact h.2 z hz
  · rw [List.mem_singleton.1 hz, hi]; exact hg
end Go.Proofs.Ytjagffnbobnofaa
