/- Sessions, as plain lists: what the calls on a table of sessions tell, and what they leave. -/
namespace Go.S15
structure Rp where
  c : Int
  a : Int
  b : Int
  bs : List Int
def Rp.zero : Rp := ⟨0, 0, 0, []⟩
abbrev Ses := List (Int × Int × Rp)
def lget : Ses → Int → Option (Int × Rp)
  | [], _ => none
  | x :: L, k => if x.1 = k then some x.2 else lget L k
def lput : Ses → Int → Int × Rp → Ses
  | [], k, v => [(k, v)]
  | x :: L, k, v => if x.1 = k then (k, v) :: L else x :: lput L k v
def ldel : Ses → Int → Ses
  | [], _ => []
  | x :: L, k => if x.1 = k then L else x :: ldel L k
def openFull (L : Ses) (next : Int) : Bool := decide ((L.length : Int) ≥ 8) || decide (next ≥ 1099511627776)
def openL (L : Ses) (next : Int) : Ses := if openFull L next then L else lput L next (0, Rp.zero)
def openN (L : Ses) (next : Int) : Int := if openFull L next then next else next + 1
def openA (L : Ses) (next : Int) : Int := if openFull L next then 0 else next
def openE (L : Ses) (next : Int) : Int := if openFull L next then 134 else 0
def expL (L : Ses) (id : Int) : Ses := match lget L id with | none => L | some _ => ldel L id
def expE (L : Ses) (id : Int) : Int := match lget L id with | none => 150 | some _ => 0
def askE (L : Ses) (id seq : Int) : Int := match lget L id with | none => 150 | some s => if seq < max 1 s.1 then 151 else 0
def askS (L : Ses) (id seq : Int) : Bool := match lget L id with | none => false | some s => if seq < max 1 s.1 then false else decide (seq = s.1)
def askR (L : Ses) (id seq : Int) : Rp := match lget L id with | none => Rp.zero | some s => if seq < max 1 s.1 then Rp.zero else if seq = s.1 then s.2 else Rp.zero
def doneE (L : Ses) (id seq : Int) : Int := match lget L id with | none => 150 | some s => if seq ≤ s.1 then 151 else 0
def doneL (L : Ses) (id seq : Int) (r : Rp) : Ses := match lget L id with | none => L | some s => if seq ≤ s.1 then L else lput L id (seq, r)
end Go.S15
