/- The calls of the package entries, walked through operation by operation. -/
import Derived.Test.YtdlcjoonhojpfaaE0
import Derived.Test.YtdlcjoonhojpfaaT1
import Derived.Test.YtdlcjoonhojpfaaE1
import Derived.Test.YtdlcjoonhojpfaaE2
import Derived.Test.YtdlcjoonhojpfaaE3
import Derived.Test.YtdlcjoonhojpfaaE4
import Derived.Test.YtdlcjoonhojpfaaE5
import Derived.Test.YtdlcjoonhojpfaaE6
import Derived.Test.YtdlcjoonhojpfaaE9
import Derived.Test.YtdlcjoonhojpfaaE10
import Derived.Test.YtdlcjoonhojpfaaE11
import Derived.Test.YtdlcjoonhojpfaaE14
namespace Go.Proofs.Ytdlcjoonhojpfaa
open Go.RowKit Go.SL Go.E17
attribute [local irreducible] Go.SL.RW Go.SL.CW Go.SL.RD Go.SL.Hd Go.SL.St
set_option linter.unusedVariables false
set_option linter.unusedSimpArgs false



theorem vs_one {es : List Ent} {x : Ent} (h : vs es = vs [x]) : ∃ y, es = [y] ∧ y.view = x.view := by
  cases es with
  | nil => simp [vs] at h
  | cons y es =>
    cases es with
    | nil => simp [vs] at h; exact ⟨y, rfl, h⟩
    | cons z es => simp [vs] at h
theorem drop_one {es : List Ent} {K : Nat} {x : Ent} (hx : es[K]? = some x) : (es.drop K).take 1 = [x] := by
  obtain ⟨h, he⟩ := List.getElem?_eq_some_iff.1 hx
  rw [List.drop_eq_getElem_cons h, he]; rfl
theorem own_part {p : Pers} {e n c : Nat} {b K M : Nat} {es : List Ent} {off : Nat} (hn : n = es.length) (hK : K ≤ n) (hM : M ≤ n - K) (hoff : off = if K = c then 0 else 0 + K * 4) :
    Tells p (Own e 4 (.slice (some ⟨b, 0, none⟩) n c) n (flat es)) 4 (.slice (some ⟨b, off, none⟩) M (c - K)) M (flat ((es.drop K).take M)) := fun q w H l s => by
  have z := (Own.src s).lower (k := K) hK
  rw [flat_drop, ← hoff] at z
  have z2 := z.take (k := M) hM
  rw [flat_take] at z2; exact z2
theorem ent_withinT {p : Pers} {w : World} {R : List Assn} {X : Option Addr} {n c b : Nat} {i t : Int} (hi : 0 ≤ i ∧ i ≤ 1099511627776) (hn : n ≤ 1000000) (k : Int) (hk : i < k ∧ k ≤ i + n) (hst : St p w (pt b (.cells #[.int .i64 i, .int .i64 t, .slice X n c] 122) :: R)) :
    Calls Try.prog 70 #[.pointer (some ⟨b, 0, none⟩), .int .i64 k] w fun e w => e = .returned (.bool true) ∧ St p w (pt b (.cells #[.int .i64 i, .int .i64 t, .slice X n c] 122) :: R) := by
  have h := ent_within hi hn k hst
  rw [decide_eq_true hk] at h; exact h

theorem ent_At {p : Pers} {w : World} {R : List Assn} {b : Nat} {i t : Int} {es : List Ent} {x : Ent} (k : Int) (hk : i < k ∧ k ≤ i + ((es.length : Nat) : Int)) (hx : es[(k - (i + 1)).toNat]? = some x) (hst : St p w (LogB p b i t es :: R)) :
    Calls Try.prog 35 #[.pointer (some ⟨b, 0, none⟩), .int .i64 k] w fun e w => ∃ q y, p.le q ∧ y.view = x.view ∧ EOk q y ∧ e = .returned (.tuple #[.agg #[.int .i64 y.term, .int .i64 y.kind, .slice y.X y.ns.length y.xc, .slice y.Y y.ms.length y.yc], .int .i64 0]) ∧ St q w (LogB q b i t es :: R) := by
  obtain ⟨X, c, hi, hn, hE, hcc, hX, hst⟩ := logOpen hst
  refine enter Try.func35 rfl (by simp) (n := 29) rfl fun τ hτ => ?_
  have hs0 : τ 0 = .pointer (some ⟨b, 0, none⟩) := hτ 0 (by simp)
  have hs1 : τ 1 = .int .i64 k := hτ 1 (by simp)
  clear hτ
  refine CW.seq ?_
  obtain ⟨g, rfl⟩ := hX (by omega)
  obtain ⟨off, hoff⟩ : ∃ z, z = if (k - (i + 1)).toNat = c then 0 else 0 + (k - (i + 1)).toNat * 4 := ⟨_, rfl⟩
  have hEx : EsOk p [x] := fun y hy => by rw [List.mem_singleton.1 hy]; exact hE x (List.mem_of_getElem? hx)
  have hp0 := p.le_refl
  refine CW.region ?_
  refine RW.hard Wd.a ?_
  refine H.alloc zr58 hst fun b1 w hst => ?_
  refine RW.soft Wd.a (v := .int .i64 0) (by exact E.assign rfl) ?_
  refine RW.fin (fun τ => τ 0 = .pointer (some ⟨b, 0, none⟩) ∧ τ 1 = .int .i64 k ∧ τ 4 = .pointer (some ⟨b1, 0, none⟩) ∧ τ 5 = .int .i64 0) ⟨up rfl (up rfl hs0), up rfl (up rfl hs1), up rfl tp, tp⟩ ?_
  rintro τ ⟨hs0, hs1, hs4, hs5⟩
  refine CW.seq ?_
  refine CW.seq ?_
  refine CW.region ?_
  refine RW.soft Wd.a (v := .pointer (some ⟨b, 0, none⟩)) (by exact E.move (AF_ev rfl hs0)) ?_
  refine RW.soft Wd.a (v := .int .i64 k) (by exact E.move (AF_ev rfl (up rfl hs1))) ?_
  have hst := hst.take (.there .here)
  refine RW.hard Wd.a ?_
  refine H.call0 Try.func70 nm70 rfl (map2 (AF_ev rfl (up rfl tp)) (AF_ev rfl tp)) (Calls.mono (ent_withinT hi hn k hk hst) ?_)
  rintro _ w ⟨rfl, hst⟩
  refine ⟨_, rfl, ?_⟩
  show RW _ _ _ _ _ _ _
  refine RW.soft Wd.a (v := .bool false) (by exact E.not (b := true) (AF_ev rfl tp)) ?_
  refine RW.fin (fun τ => τ 0 = .pointer (some ⟨b, 0, none⟩) ∧ τ 1 = .int .i64 k ∧ τ 4 = .pointer (some ⟨b1, 0, none⟩) ∧ τ 5 = .int .i64 0 ∧ τ 9 = .bool false) ⟨up rfl (up rfl (up rfl (up rfl hs0))), up rfl (up rfl (up rfl (up rfl hs1))), up rfl (up rfl (up rfl (up rfl hs4))), up rfl (up rfl (up rfl (up rfl hs5))), tp⟩ ?_
  rintro τ ⟨hs0, hs1, hs4, hs5, hs9⟩
  refine CW.condF (AF_ev rfl hs9) ?_
  refine CW.skip ?_
  refine Th.n ?_
  refine CW.seq ?_
  have hlow : Tells p (Own 58 4 (.slice (some ⟨g, 0, none⟩) es.length c) es.length (flat es)) 4 (.slice (some ⟨g, off, none⟩) [x].length (c - (k - (i + 1)).toNat)) [x].length (flat [x]) := by
    have z := own_part (p := p) (e := 58) (b := g) (c := c) (M := 1) (off := off) (es := es) rfl (K := (k - (i + 1)).toNat) (by omega) (by omega) hoff
    rw [drop_one hx] at z; exact z
  refine CW.regionD [0, 1, 2, 3, 4, 5, 8, 9, 10, 11, 12, 13] (fun w => w.cell? ⟨b, 2, none⟩ = some (.slice (some ⟨g, 0, none⟩) es.length c) ∧ w.cell? ⟨b, 0, none⟩ = some (.int .i64 i)) mixed ?_
  have hst := hst.drew
  generalize w.drew = w at hst ⊢
  have hS : w.cell? ⟨b, 2, none⟩ = some (.slice (some ⟨g, 0, none⟩) es.length c) ∧ w.cell? ⟨b, 0, none⟩ = some (.int .i64 i) := ⟨hst.cell .here rfl, hst.cell .here rfl⟩
  refine RD.take 0 rfl (by kernel_rfl) Wd.a (v := .pointer (some ⟨b, 0, none⟩)) (fun w hS => by exact E.move (AF_ev rfl hs0)) hS ?_
  refine RD.take 1 rfl (by kernel_rfl) Wd.a (v := .pointer (some ⟨b, 0, none⟩)) (fun w hS => by exact E.nilCheck (a := ⟨b, 0, none⟩) (AF_ev rfl tp)) hS ?_
  refine RD.take 2 rfl (by kernel_rfl) Wd.a (v := .pointer (some ⟨b, 2, none⟩)) (fun w hS => by exact E.fieldAddr (b := b) (o := 0) (f := { name := "l", type := 44, offset := 2, embedded := false, tag := "", pkgPath := "strongroom/entries", byteOffset := 16 }) (AF_ev rfl tp) Try.underlying122 rfl sz44 rfl) hS ?_
  refine RD.take 3 rfl (by kernel_rfl) Wd.a (v := .slice (some ⟨g, 0, none⟩) es.length c) (fun w hS => by exact E.load (a := ⟨b, 2, none⟩) Try.underlying44 rfl (AF_ev rfl tp) hS.1) hS ?_
  refine RD.take 4 rfl (by kernel_rfl) Wd.a (v := .int .i64 k) (fun w hS => by exact E.move (AF_ev rfl (up rfl (up rfl (up rfl (up rfl hs1)))))) hS ?_
  refine RD.take 5 rfl (by kernel_rfl) Wd.a (v := .pointer (some ⟨b, 0, none⟩)) (fun w hS => by exact E.move (AF_ev rfl (up rfl (up rfl (up rfl (up rfl (up rfl hs0))))))) hS ?_
  refine RD.take 8 rfl (by kernel_rfl) Wd.a (v := .int .i64 k) (fun w hS => by exact E.move (AF_ev rfl (up rfl (up rfl (up rfl (up rfl (up rfl (up rfl hs1)))))))) hS ?_
  refine RD.take 9 rfl (by kernel_rfl) Wd.a (v := .pointer (some ⟨b, 0, none⟩)) (fun w hS => by exact E.move (AF_ev rfl (up rfl (up rfl (up rfl (up rfl (up rfl (up rfl (up rfl hs0))))))))) hS ?_
  refine RD.take 10 rfl (by kernel_rfl) Wd.a (v := .pointer (some ⟨b, 0, none⟩)) (fun w hS => by exact E.nilCheck (a := ⟨b, 0, none⟩) (AF_ev rfl tp)) hS ?_
  refine RD.take 11 rfl (by kernel_rfl) Wd.a (v := .pointer (some ⟨b, 0, none⟩)) (fun w hS => by exact E.fieldAddr (b := b) (o := 0) (f := { name := "index", type := 3, offset := 0, embedded := false, tag := "", pkgPath := "strongroom/entries", byteOffset := 0 }) (AF_ev rfl tp) Try.underlying122 rfl sz3 rfl) hS ?_
  refine RD.take 12 rfl (by kernel_rfl) Wd.a (v := .int .i64 i) (fun w hS => by exact E.load (a := ⟨b, 0, none⟩) Try.underlying3 rfl (AF_ev rfl tp) hS.2) hS ?_
  refine RD.take 13 rfl (by kernel_rfl) Wd.a (v := .int .i64 (k - i)) (fun w hS => by exact E.sub (k := .i64) (a := k) (b := i) (AF_ev rfl (up rfl (up rfl (up rfl (up rfl tp))))) (AF_ev rfl tp) (show IntKind.i64.wrap (k - i) = k - i from (by rw [IntWalk.i64_in _ (by omega)]))) hS ?_
  refine RD.only 6 rfl (by kernel_rfl) Wd.a ?_
  refine H.call0 Try.func31 nm31 rfl (map1 (AF_ev rfl (up rfl (up rfl (up rfl (up rfl (up rfl (up rfl tp)))))))) (Calls.mono (ent_First (by omega) (by omega) hst) ?_)
  rintro _ w ⟨rfl, hst⟩
  refine ⟨_, rfl, ?_⟩
  have hS : w.cell? ⟨b, 2, none⟩ = some (.slice (some ⟨g, 0, none⟩) es.length c) ∧ w.cell? ⟨b, 0, none⟩ = some (.int .i64 i) := ⟨hst.cell .here rfl, hst.cell .here rfl⟩
  refine ⟨fun _ => hS, ?_⟩
  refine RD.only 7 rfl (by kernel_rfl) Wd.a (Hd.value (v := .int .i64 (k - (i + 1))) (by exact E.sub (k := .i64) (a := k) (b := i + 1) (AF_ev rfl (up rfl (up rfl (up rfl (up rfl (up rfl (up rfl (up rfl (up rfl tp))))))))) (AF_ev rfl tp) (show IntKind.i64.wrap (k - (i + 1)) = k - (i + 1) from (by rw [IntWalk.i64_in _ (by omega)]))) ⟨fun _ => hS, ?_⟩)
  refine RD.only 14 rfl (by kernel_rfl) Wd.a (Hd.value (v := .slice (some ⟨g, off, none⟩) ([x].length) (c - (k - (i + 1)).toNat)) (by exact E.slice (i := (k - (i + 1)).toNat) (j := (k - (i + 1)).toNat + 1) Try.underlying44 sz58 (AF_ev rfl (up rfl (up rfl (up rfl (up rfl (up rfl (up rfl (up rfl (up rfl (up rfl (up rfl tp))))))))))) (int_eq (a := k - (i + 1)) (AF_ev rfl tp) (by omega)) (int_eq (a := k - i) (AF_ev rfl (up rfl (up rfl tp))) (by omega)) (by omega) (by omega) (by rw [hoff, Nat.add_sub_cancel_left]; rfl)) ⟨fun _ => hS, ?_⟩)
  refine RD.only 15 rfl (by kernel_rfl) Wd.a ?_
  have hst := hst.take (.there (.there .here))
  refine H.call0 Try.func66 nm66 rfl (map1 (AF_ev rfl tp)) (Calls.mono (ent_own_ hlow hEx (by simp) p.le_refl hst) ?_)
  rintro _ w ⟨p, vX2, es4, hle, rfl, hokes4, hvses4, hst⟩
  obtain ⟨X2, c3, rfl, hcX2, hmX2, hlX2, hbX2⟩ := hst.shape
  have hE := hE.le hle
  have hEx := hEx.le hle
  have hp0 := hp0.le hle
  have hvles4 := vs_len hvses4
  have hoky := hokes4
  obtain ⟨y, rfl, hvy⟩ := vs_one hvses4
  obtain ⟨g2, rfl⟩ := hbX2 (by simp)
  skip
  refine ⟨_, rfl, ?_⟩
  have hS : w.cell? ⟨b, 2, none⟩ = some (.slice (some ⟨g, 0, none⟩) es.length c) ∧ w.cell? ⟨b, 0, none⟩ = some (.int .i64 i) := ⟨hst.cell (.there (.there .here)) rfl, hst.cell (.there (.there .here)) rfl⟩
  refine ⟨fun _ => hS, ?_⟩
  refine RD.only 16 rfl (by kernel_rfl) Wd.a (Hd.value (v := .pointer (some ⟨g2, 0, none⟩)) (by exact E.indexAddr (b := g2) (o := 0) (l := 1) (c := c3) (i := 0) Try.underlying44 sz58 (AF_ev rfl tp) rfl (by omega) (by omega) (by simp)) ⟨fun _ => hS, ?_⟩)
  refine RD.only 17 rfl (by kernel_rfl) Wd.a (Hd.value (v := .agg #[.int .i64 y.term, .int .i64 y.kind, .slice y.X y.ns.length y.xc, .slice y.Y y.ms.length y.yc]) (by exact E.loadN (cs := y.enc) Try.underlying58 rfl sz58 (AF_ev rfl tp) rfl (fun j u hu => by rw [Nat.zero_add]; exact hst.ocell .here (by have q := flat_get (sz := 4) Ent.enc_len (l := [y]) (i := 0) rfl hu; rwa [Nat.zero_mul, Nat.zero_add] at q))) ⟨fun _ => hS, ?_⟩)
  refine RD.only 18 rfl (by kernel_rfl) Wd.a ?_
  refine H.store (b := b1) (o := 0) (v := .agg #[.int .i64 y.term, .int .i64 y.kind, .slice y.X y.ns.length y.xc, .slice y.Y y.ms.length y.yc]) (c' := #[.int .i64 y.term, .int .i64 y.kind, .slice y.X y.ns.length y.xc, .slice y.Y y.ms.length y.yc]) (AF_ev rfl (up rfl (up rfl (up rfl (up rfl (up rfl (up rfl (up rfl (up rfl (up rfl (up rfl (up rfl (up rfl (up rfl (up rfl (up rfl (up rfl (up rfl (up rfl hs4))))))))))))))))))) (AF_ev rfl tp) hst (.there (.there (.there .here))) sz58 (by simp [Value.cells]) (by simp [Value.cells, Value.oneCell']) rfl fun w hst => ?_
  refine ⟨fun h => Bool.noConfusion ((show needs _ _ _ = false by kernel_rfl).symm.trans h), ?_⟩
  refine RD.only 19 rfl (by kernel_rfl) Wd.a (Hd.value (v := .int .i64 0) (by exact E.assign rfl) ⟨fun h => Bool.noConfusion ((show needs _ _ _ = false by kernel_rfl).symm.trans h), ?_⟩)
  refine RD.fin (by kernel_rfl) (fun τ => τ 0 = .pointer (some ⟨b, 0, none⟩) ∧ τ 1 = .int .i64 k ∧ τ 4 = .pointer (some ⟨b1, 0, none⟩) ∧ τ 5 = .int .i64 0 ∧ τ 9 = .bool false) ⟨up rfl (u0 (up rfl (up rfl (up rfl (up rfl (up rfl (up rfl (up rfl (up rfl (up rfl (up rfl (up rfl (up rfl (up rfl (up rfl (up rfl (up rfl (up rfl (up rfl hs0))))))))))))))))))), up rfl (u0 (up rfl (up rfl (up rfl (up rfl (up rfl (up rfl (up rfl (up rfl (up rfl (up rfl (up rfl (up rfl (up rfl (up rfl (up rfl (up rfl (up rfl (up rfl hs1))))))))))))))))))), up rfl (u0 (up rfl (up rfl (up rfl (up rfl (up rfl (up rfl (up rfl (up rfl (up rfl (up rfl (up rfl (up rfl (up rfl (up rfl (up rfl (up rfl (up rfl (up rfl hs4))))))))))))))))))), tp, up rfl (u0 (up rfl (up rfl (up rfl (up rfl (up rfl (up rfl (up rfl (up rfl (up rfl (up rfl (up rfl (up rfl (up rfl (up rfl (up rfl (up rfl (up rfl (up rfl hs9)))))))))))))))))))⟩ ?_
  rintro τ ⟨hs0, hs1, hs4, hs5, hs9⟩
  refine CW.ret ?_
  refine retN (rs := [.cell 4 58, .tmp 5]) (vs := [.agg #[.int .i64 y.term, .int .i64 y.kind, .slice y.X y.ns.length y.xc, .slice y.Y y.ms.length y.yc], .int .i64 0]) rfl (by exact (.cell (AF_ev rfl hs4) (hst.blockAt (.there (.there (.there .here)))) Try.underlying58 rfl sz58 (.tmp (AF_ev rfl hs5) .nil))) (by simp) ?_
  have hst := hst.take (.there .here)
  have hst := hst.take (.there (.there .here))
  have hst := (hst.take (.there (.there .here))).drop
  have hst := (hst.take (.there (.there .here))).drop
  exact ⟨p, y, hp0, hvy, hoky y (List.mem_singleton.2 rfl), rfl, logClose hi hn hE hst⟩

def fromL {α : Type} (i : Int) (es : List α) (k most : Int) : List α :=
  if max k (i + 1) > i + (es.length : Nat) ∨ most < 1 then [] else (es.drop (max k (i + 1) - (i + 1)).toNat).take (min (((es.drop (max k (i + 1) - (i + 1)).toNat).length : Nat) : Int) most).toNat
theorem fromL_vs {i k most : Int} {es : List Ent} : vs (fromL i es k most) = fromL i (vs es) k most := by
  unfold fromL
  have h : (vs es).length = es.length := by simp [vs]
  rw [h]
  split
  · rfl
  · simp [vs, List.map_take, List.map_drop]

theorem ent_From {p : Pers} {w : World} {R : List Assn} {b : Nat} {i t : Int} {es : List Ent} (k most : Int) (hk : -9223372036854775808 ≤ k ∧ k ≤ 9223372036854775807) (hst : St p w (LogB p b i t es :: R)) :
    Calls Try.prog 34 #[.pointer (some ⟨b, 0, none⟩), .int .i64 k, .int .i64 most] w fun e w => ∃ q v es2, p.le q ∧ e = .returned v ∧ EsOk q es2 ∧ vs es2 = vs (fromL i es k most) ∧ St q w (Own 58 4 v es2.length (flat es2) :: LogB q b i t es :: R) := by
  obtain ⟨X, c, hi, hn, hE, hcc, hX, hst⟩ := logOpen hst
  refine enter Try.func34 rfl (by simp) (n := 36) rfl fun τ hτ => ?_
  have hs0 : τ 0 = .pointer (some ⟨b, 0, none⟩) := hτ 0 (by simp)
  have hs1 : τ 1 = .int .i64 k := hτ 1 (by simp)
  have hs2 : τ 2 = .int .i64 most := hτ 2 (by simp)
  clear hτ
  refine CW.seq ?_
  have hp0 := p.le_refl
  refine CW.region ?_
  refine RW.soft Wd.a (v := .slice none 0 0) (by exact E.assign rfl) ?_
  refine RW.fin (fun τ => τ 0 = .pointer (some ⟨b, 0, none⟩) ∧ τ 1 = .int .i64 k ∧ τ 2 = .int .i64 most ∧ τ 6 = .slice none 0 0) ⟨up rfl hs0, up rfl hs1, up rfl hs2, tp⟩ ?_
  rintro τ ⟨hs0, hs1, hs2, hs6⟩
  refine CW.seq ?_
  refine CW.region ?_
  refine RW.soft Wd.a (v := .int .i64 k) (by exact E.move (AF_ev rfl hs1)) ?_
  refine RW.soft Wd.a (v := .pointer (some ⟨b, 0, none⟩)) (by exact E.move (AF_ev rfl (up rfl hs0))) ?_
  refine RW.hard Wd.a ?_
  refine H.call0 Try.func31 nm31 rfl (map1 (AF_ev rfl tp)) (Calls.mono (ent_First (by omega) (by omega) hst) ?_)
  rintro _ w ⟨rfl, hst⟩
  refine ⟨_, rfl, ?_⟩
  show RW _ _ _ _ _ _ _
  refine RW.soft Wd.a (v := .int .i64 (max k (i + 1))) (by exact E.max (k := .i64) (a := k) (b := i + 1) (AF_ev rfl (up rfl (up rfl tp))) (AF_ev rfl tp) (by rw [Int.max_def]; split <;> split <;> omega)) ?_
  refine RW.soft Wd.a (v := .int .i64 (max k (i + 1))) (by exact E.assign (AF_ev rfl tp)) ?_
  refine RW.fin (fun τ => τ 0 = .pointer (some ⟨b, 0, none⟩) ∧ τ 1 = .int .i64 (max k (i + 1)) ∧ τ 2 = .int .i64 most ∧ τ 6 = .slice none 0 0) ⟨up rfl (up rfl (up rfl (up rfl (up rfl hs0)))), tp, up rfl (up rfl (up rfl (up rfl (up rfl hs2)))), up rfl (up rfl (up rfl (up rfl (up rfl hs6))))⟩ ?_
  rintro τ ⟨hs0, hs1, hs2, hs6⟩
  refine CW.seq ?_
  refine CW.seq ?_
  refine Or.elim (Bool.eq_false_or_eq_true (decide ((max k (i + 1)) > (i + ((es.length : Nat) : Int))))) (fun hf1 => ?_) (fun hf1 => ?_)
  · skip
    refine CW.region ?_
    refine RW.soft Wd.a (v := .int .i64 (max k (i + 1))) (by exact E.move (AF_ev rfl hs1)) ?_
    refine RW.soft Wd.a (v := .pointer (some ⟨b, 0, none⟩)) (by exact E.move (AF_ev rfl (up rfl hs0))) ?_
    refine RW.hard Wd.a ?_
    refine H.call0 Try.func30 nm30 rfl (map1 (AF_ev rfl tp)) (Calls.mono (ent_Last (by omega) (by omega) hst) ?_)
    rintro _ w ⟨rfl, hst⟩
    refine ⟨_, rfl, ?_⟩
    show RW _ _ _ _ _ _ _
    refine RW.soft Wd.a (v := .bool true) (by exact E.b (a := decide ((max k (i + 1)) > (i + ((es.length : Nat) : Int)))) (E.gtr (k := .i64) (a := max k (i + 1)) (b := i + ((es.length : Nat) : Int)) (AF_ev rfl (up rfl (up rfl tp))) (AF_ev rfl tp)) hf1) ?_
    refine RW.soft Wd.a (v := .bool true) (by exact E.move (AF_ev rfl tp)) ?_
    refine RW.pass (by exact Wd.no (x := 16) (b := true) rfl (AF_ev rfl tp) rfl) ?_
    refine RW.pass (by exact Wd.no (x := 16) (b := true) rfl (AF_ev rfl (up rfl tp)) rfl) ?_
    refine RW.soft Wd.a (v := .bool true) (by exact E.pickT (AF_ev rfl (up rfl (up rfl tp))) rfl) ?_
    refine RW.fin (fun τ => τ 0 = .pointer (some ⟨b, 0, none⟩) ∧ τ 1 = .int .i64 (max k (i + 1)) ∧ τ 2 = .int .i64 most ∧ τ 6 = .slice none 0 0 ∧ τ 19 = .bool true) ⟨up rfl (up rfl (up rfl (up rfl (up rfl (up rfl (up rfl (up rfl hs0))))))), up rfl (up rfl (up rfl (up rfl (up rfl (up rfl (up rfl (up rfl hs1))))))), up rfl (up rfl (up rfl (up rfl (up rfl (up rfl (up rfl (up rfl hs2))))))), up rfl (up rfl (up rfl (up rfl (up rfl (up rfl (up rfl (up rfl hs6))))))), tp⟩ ?_
    rintro τ ⟨hs0, hs1, hs2, hs6, hs19⟩
    refine CW.condT (AF_ev rfl hs19) ?_
    refine CW.seq ?_
    refine CW.region ?_
    refine RW.soft Wd.a (v := .slice none 0 0) (by exact E.assign rfl) ?_
    refine RW.fin (fun τ => τ 0 = .pointer (some ⟨b, 0, none⟩) ∧ τ 1 = .int .i64 (max k (i + 1)) ∧ τ 2 = .int .i64 most ∧ τ 6 = .slice none 0 0 ∧ τ 19 = .bool true) ⟨up rfl hs0, up rfl hs1, up rfl hs2, tp, up rfl hs19⟩ ?_
    rintro τ ⟨hs0, hs1, hs2, hs6, hs19⟩
    refine CW.ret ?_
    refine Th.r ?_
    refine ret1 (v := .slice none 0 0) rfl (by exact (.tmp (AF_ev rfl hs6) .nil)) ?_
    have hst := hst.take (.there .here)
    have hst := hst.take (.there .here)
    exact ⟨p, _, [], hp0, rfl, EsOk.nil, by unfold fromL; rw [if_pos (.inl (of_decide_eq_true hf1))], (logClose hi hn hE hst).ownNil none⟩
  · skip
    refine Or.elim (Bool.eq_false_or_eq_true (decide (most < 1))) (fun hf2 => ?_) (fun hf2 => ?_)
    · skip
      refine CW.region ?_
      refine RW.soft Wd.a (v := .int .i64 (max k (i + 1))) (by exact E.move (AF_ev rfl hs1)) ?_
      refine RW.soft Wd.a (v := .pointer (some ⟨b, 0, none⟩)) (by exact E.move (AF_ev rfl (up rfl hs0))) ?_
      refine RW.hard Wd.a ?_
      refine H.call0 Try.func30 nm30 rfl (map1 (AF_ev rfl tp)) (Calls.mono (ent_Last (by omega) (by omega) hst) ?_)
      rintro _ w ⟨rfl, hst⟩
      refine ⟨_, rfl, ?_⟩
      show RW _ _ _ _ _ _ _
      refine RW.soft Wd.a (v := .bool false) (by exact E.b (a := decide ((max k (i + 1)) > (i + ((es.length : Nat) : Int)))) (E.gtr (k := .i64) (a := max k (i + 1)) (b := i + ((es.length : Nat) : Int)) (AF_ev rfl (up rfl (up rfl tp))) (AF_ev rfl tp)) hf1) ?_
      refine RW.soft Wd.a (v := .bool false) (by exact E.move (AF_ev rfl tp)) ?_
      refine RW.soft (by exact Wd.yes (x := 16) rfl (AF_ev rfl tp)) (v := .int .i64 most) (by exact E.move (AF_ev rfl (up rfl (up rfl (up rfl (up rfl (up rfl hs2))))))) ?_
      refine RW.soft (by exact Wd.yes (x := 16) rfl (AF_ev rfl (up rfl tp))) (v := .bool true) (by exact E.b (a := decide (most < 1)) (E.lss (k := .i64) (a := most) (b := 1) (AF_ev rfl tp) rfl) hf2) ?_
      refine RW.soft Wd.a (v := .bool true) (by exact E.pickF (AF_ev rfl (up rfl (up rfl tp))) (AF_ev rfl tp)) ?_
      refine RW.fin (fun τ => τ 0 = .pointer (some ⟨b, 0, none⟩) ∧ τ 1 = .int .i64 (max k (i + 1)) ∧ τ 2 = .int .i64 most ∧ τ 6 = .slice none 0 0 ∧ τ 19 = .bool true) ⟨up rfl (up rfl (up rfl (up rfl (up rfl (up rfl (up rfl (up rfl hs0))))))), up rfl (up rfl (up rfl (up rfl (up rfl (up rfl (up rfl (up rfl hs1))))))), up rfl (up rfl (up rfl (up rfl (up rfl (up rfl (up rfl (up rfl hs2))))))), up rfl (up rfl (up rfl (up rfl (up rfl (up rfl (up rfl (up rfl hs6))))))), tp⟩ ?_
      rintro τ ⟨hs0, hs1, hs2, hs6, hs19⟩
      refine CW.condT (AF_ev rfl hs19) ?_
      refine CW.seq ?_
      refine CW.region ?_
      refine RW.soft Wd.a (v := .slice none 0 0) (by exact E.assign rfl) ?_
      refine RW.fin (fun τ => τ 0 = .pointer (some ⟨b, 0, none⟩) ∧ τ 1 = .int .i64 (max k (i + 1)) ∧ τ 2 = .int .i64 most ∧ τ 6 = .slice none 0 0 ∧ τ 19 = .bool true) ⟨up rfl hs0, up rfl hs1, up rfl hs2, tp, up rfl hs19⟩ ?_
      rintro τ ⟨hs0, hs1, hs2, hs6, hs19⟩
      refine CW.ret ?_
      refine Th.r ?_
      refine ret1 (v := .slice none 0 0) rfl (by exact (.tmp (AF_ev rfl hs6) .nil)) ?_
      have hst := hst.take (.there .here)
      have hst := hst.take (.there .here)
      exact ⟨p, _, [], hp0, rfl, EsOk.nil, by unfold fromL; rw [if_pos (.inr (of_decide_eq_true hf2))], (logClose hi hn hE hst).ownNil none⟩
    · skip
      refine CW.region ?_
      refine RW.soft Wd.a (v := .int .i64 (max k (i + 1))) (by exact E.move (AF_ev rfl hs1)) ?_
      refine RW.soft Wd.a (v := .pointer (some ⟨b, 0, none⟩)) (by exact E.move (AF_ev rfl (up rfl hs0))) ?_
      refine RW.hard Wd.a ?_
      refine H.call0 Try.func30 nm30 rfl (map1 (AF_ev rfl tp)) (Calls.mono (ent_Last (by omega) (by omega) hst) ?_)
      rintro _ w ⟨rfl, hst⟩
      refine ⟨_, rfl, ?_⟩
      show RW _ _ _ _ _ _ _
      refine RW.soft Wd.a (v := .bool false) (by exact E.b (a := decide ((max k (i + 1)) > (i + ((es.length : Nat) : Int)))) (E.gtr (k := .i64) (a := max k (i + 1)) (b := i + ((es.length : Nat) : Int)) (AF_ev rfl (up rfl (up rfl tp))) (AF_ev rfl tp)) hf1) ?_
      refine RW.soft Wd.a (v := .bool false) (by exact E.move (AF_ev rfl tp)) ?_
      refine RW.soft (by exact Wd.yes (x := 16) rfl (AF_ev rfl tp)) (v := .int .i64 most) (by exact E.move (AF_ev rfl (up rfl (up rfl (up rfl (up rfl (up rfl hs2))))))) ?_
      refine RW.soft (by exact Wd.yes (x := 16) rfl (AF_ev rfl (up rfl tp))) (v := .bool false) (by exact E.b (a := decide (most < 1)) (E.lss (k := .i64) (a := most) (b := 1) (AF_ev rfl tp) rfl) hf2) ?_
      refine RW.soft Wd.a (v := .bool false) (by exact E.pickF (AF_ev rfl (up rfl (up rfl tp))) (AF_ev rfl tp)) ?_
      refine RW.fin (fun τ => τ 0 = .pointer (some ⟨b, 0, none⟩) ∧ τ 1 = .int .i64 (max k (i + 1)) ∧ τ 2 = .int .i64 most ∧ τ 6 = .slice none 0 0 ∧ τ 19 = .bool false) ⟨up rfl (up rfl (up rfl (up rfl (up rfl (up rfl (up rfl (up rfl hs0))))))), up rfl (up rfl (up rfl (up rfl (up rfl (up rfl (up rfl (up rfl hs1))))))), up rfl (up rfl (up rfl (up rfl (up rfl (up rfl (up rfl (up rfl hs2))))))), up rfl (up rfl (up rfl (up rfl (up rfl (up rfl (up rfl (up rfl hs6))))))), tp⟩ ?_
      rintro τ ⟨hs0, hs1, hs2, hs6, hs19⟩
      refine CW.condF (AF_ev rfl hs19) ?_
      refine CW.skip ?_
      refine Th.n ?_
      refine CW.seq ?_
      have hf1_ := of_decide_eq_false hf1
      have hf2_ := of_decide_eq_false hf2
      obtain ⟨g, rfl⟩ := hX (by omega)
      obtain ⟨off, hoff⟩ : ∃ z, z = if (max k (i + 1) - (i + 1)).toNat = c then 0 else 0 + (max k (i + 1) - (i + 1)).toNat * 4 := ⟨_, rfl⟩
      have hld : (es.drop (max k (i + 1) - (i + 1)).toNat).length = es.length - (max k (i + 1) - (i + 1)).toNat := List.length_drop
      obtain ⟨M, hM⟩ : ∃ z, z = (min (((es.drop (max k (i + 1) - (i + 1)).toNat).length : Nat) : Int) most).toNat := ⟨_, rfl⟩
      have hlm : ((es.drop (max k (i + 1) - (i + 1)).toNat).take M).length = M := by rw [List.length_take]; omega
      refine CW.regionD [0, 1, 2, 3, 4, 5] (fun w => w.cell? ⟨b, 2, none⟩ = some (.slice (some ⟨g, 0, none⟩) es.length c)) mixed ?_
      have hst := hst.drew
      generalize w.drew = w at hst ⊢
      have hS : w.cell? ⟨b, 2, none⟩ = some (.slice (some ⟨g, 0, none⟩) es.length c) := hst.cell .here rfl
      refine RD.take 0 rfl (by kernel_rfl) Wd.a (v := .pointer (some ⟨b, 0, none⟩)) (fun w hS => by exact E.move (AF_ev rfl hs0)) hS ?_
      refine RD.take 1 rfl (by kernel_rfl) Wd.a (v := .pointer (some ⟨b, 0, none⟩)) (fun w hS => by exact E.nilCheck (a := ⟨b, 0, none⟩) (AF_ev rfl tp)) hS ?_
      refine RD.take 2 rfl (by kernel_rfl) Wd.a (v := .pointer (some ⟨b, 2, none⟩)) (fun w hS => by exact E.fieldAddr (b := b) (o := 0) (f := { name := "l", type := 44, offset := 2, embedded := false, tag := "", pkgPath := "strongroom/entries", byteOffset := 16 }) (AF_ev rfl tp) Try.underlying122 rfl sz44 rfl) hS ?_
      refine RD.take 3 rfl (by kernel_rfl) Wd.a (v := .slice (some ⟨g, 0, none⟩) es.length c) (fun w hS => by exact E.load (a := ⟨b, 2, none⟩) Try.underlying44 rfl (AF_ev rfl tp) hS) hS ?_
      refine RD.take 4 rfl (by kernel_rfl) Wd.a (v := .int .i64 (max k (i + 1))) (fun w hS => by exact E.move (AF_ev rfl (up rfl (up rfl (up rfl (up rfl hs1)))))) hS ?_
      refine RD.take 5 rfl (by kernel_rfl) Wd.a (v := .pointer (some ⟨b, 0, none⟩)) (fun w hS => by exact E.move (AF_ev rfl (up rfl (up rfl (up rfl (up rfl (up rfl hs0))))))) hS ?_
      refine RD.only 6 rfl (by kernel_rfl) Wd.a ?_
      refine H.call0 Try.func31 nm31 rfl (map1 (AF_ev rfl tp)) (Calls.mono (ent_First (by omega) (by omega) hst) ?_)
      rintro _ w ⟨rfl, hst⟩
      refine ⟨_, rfl, ?_⟩
      have hS : w.cell? ⟨b, 2, none⟩ = some (.slice (some ⟨g, 0, none⟩) es.length c) := hst.cell .here rfl
      refine ⟨fun _ => hS, ?_⟩
      refine RD.only 7 rfl (by kernel_rfl) Wd.a (Hd.value (v := .int .i64 (max k (i + 1) - (i + 1))) (by exact E.sub (k := .i64) (a := max k (i + 1)) (b := i + 1) (AF_ev rfl (up rfl (up rfl tp))) (AF_ev rfl tp) (show IntKind.i64.wrap ((max k (i + 1)) - (i + 1)) = max k (i + 1) - (i + 1) from (by rw [IntWalk.i64_in _ (by omega)] <;> omega))) ⟨fun _ => hS, ?_⟩)
      refine RD.only 8 rfl (by kernel_rfl) Wd.a (Hd.value (v := .slice (some ⟨g, off, none⟩) ((es.drop (max k (i + 1) - (i + 1)).toNat).length) (c - (max k (i + 1) - (i + 1)).toNat)) (by exact E.slice (i := (max k (i + 1) - (i + 1)).toNat) (j := es.length) Try.underlying44 sz58 (AF_ev rfl (up rfl (up rfl (up rfl (up rfl tp))))) (int_eq (a := max k (i + 1) - (i + 1)) (AF_ev rfl tp) (by omega)) rfl (by omega) (by omega) (by rw [hoff, List.length_drop])) ⟨fun _ => hS, ?_⟩)
      refine RD.only 9 rfl (by kernel_rfl) Wd.a (Hd.value (v := .slice (some ⟨g, off, none⟩) ((es.drop (max k (i + 1) - (i + 1)).toNat).length) (c - (max k (i + 1) - (i + 1)).toNat)) (by exact E.assign (AF_ev rfl tp)) ⟨fun h => Bool.noConfusion ((show needs _ _ _ = false by kernel_rfl).symm.trans h), ?_⟩)
      refine RD.fin (by kernel_rfl) (fun τ => τ 0 = .pointer (some ⟨b, 0, none⟩) ∧ τ 1 = .int .i64 (max k (i + 1)) ∧ τ 2 = .int .i64 most ∧ τ 6 = .slice none 0 0 ∧ τ 7 = .slice (some ⟨g, off, none⟩) ((es.drop (max k (i + 1) - (i + 1)).toNat).length) (c - (max k (i + 1) - (i + 1)).toNat) ∧ τ 19 = .bool false) ⟨up rfl (up rfl (up rfl (up rfl (up rfl (up rfl (up rfl (up rfl (up rfl (up rfl hs0))))))))), up rfl (up rfl (up rfl (up rfl (up rfl (up rfl (up rfl (up rfl (up rfl (up rfl hs1))))))))), up rfl (up rfl (up rfl (up rfl (up rfl (up rfl (up rfl (up rfl (up rfl (up rfl hs2))))))))), up rfl (up rfl (up rfl (up rfl (up rfl (up rfl (up rfl (up rfl (up rfl (up rfl hs6))))))))), tp, up rfl (up rfl (up rfl (up rfl (up rfl (up rfl (up rfl (up rfl (up rfl (up rfl hs19)))))))))⟩ ?_
      rintro τ ⟨hs0, hs1, hs2, hs6, hs7, hs19⟩
      refine CW.seq ?_
      have hlow : Tells p (Own 58 4 (.slice (some ⟨g, 0, none⟩) es.length c) es.length (flat es)) 4 (.slice (some ⟨g, off, none⟩) ((es.drop (max k (i + 1) - (i + 1)).toNat).take M).length (c - (max k (i + 1) - (i + 1)).toNat)) ((es.drop (max k (i + 1) - (i + 1)).toNat).take M).length (flat ((es.drop (max k (i + 1) - (i + 1)).toNat).take M)) := by rw [hlm]; exact own_part rfl (by omega) (by omega) hoff
      have hEl : EsOk p ((es.drop (max k (i + 1) - (i + 1)).toNat).take M) := (hE.drop _).take _
      refine CW.region ?_
      refine RW.soft Wd.a (v := .slice (some ⟨g, off, none⟩) ((es.drop (max k (i + 1) - (i + 1)).toNat).length) (c - (max k (i + 1) - (i + 1)).toNat)) (by exact E.move (AF_ev rfl hs7)) ?_
      refine RW.soft Wd.a (v := .slice (some ⟨g, off, none⟩) ((es.drop (max k (i + 1) - (i + 1)).toNat).length) (c - (max k (i + 1) - (i + 1)).toNat)) (by exact E.move (AF_ev rfl (up rfl hs7))) ?_
      refine RW.soft Wd.a (v := .int .i64 (((es.drop (max k (i + 1) - (i + 1)).toNat).length : Nat) : Int)) (by exact E.lenS (p := (some ⟨g, off, none⟩)) (l := (es.drop (max k (i + 1) - (i + 1)).toNat).length) (c := c - (max k (i + 1) - (i + 1)).toNat) Try.underlying44 (AF_ev rfl tp)) ?_
      refine RW.soft Wd.a (v := .int .i64 most) (by exact E.move (AF_ev rfl (up rfl (up rfl (up rfl hs2))))) ?_
      refine RW.soft Wd.a (v := .int .i64 (min (((es.drop (max k (i + 1) - (i + 1)).toNat).length : Nat) : Int) most)) (by exact E.min (k := .i64) (a := (((es.drop (max k (i + 1) - (i + 1)).toNat).length : Nat) : Int)) (b := most) (AF_ev rfl (up rfl tp)) (AF_ev rfl tp) (by rw [Int.min_def]; split <;> split <;> omega)) ?_
      refine RW.soft Wd.a (v := .slice (some ⟨g, off, none⟩) (((es.drop (max k (i + 1) - (i + 1)).toNat).take M).length) (c - (max k (i + 1) - (i + 1)).toNat)) (by exact E.slice (i := 0) (j := ((es.drop (max k (i + 1) - (i + 1)).toNat).take M).length) Try.underlying44 sz58 (AF_ev rfl (up rfl (up rfl (up rfl (up rfl tp))))) rfl (int_eq (a := min (((es.drop (max k (i + 1) - (i + 1)).toNat).length : Nat) : Int) most) (AF_ev rfl tp) (by omega)) (by omega) (by omega) (by simp)) ?_
      have hst := hst.take (.there .here)
      refine RW.hard Wd.a ?_
      refine H.call0 Try.func66 nm66 rfl (map1 (AF_ev rfl tp)) (Calls.mono (ent_own_ hlow hEl (by omega) p.le_refl hst) ?_)
      rintro _ w ⟨p, vX1, es3, hle, rfl, hokes3, hvses3, hst⟩
      obtain ⟨X1, c2, rfl, hcX1, hmX1, hlX1, hbX1⟩ := hst.shape
      have hE := hE.le hle
      have hp0 := hp0.le hle
      have hvles3 := vs_len hvses3
      refine ⟨_, rfl, ?_⟩
      show RW _ _ _ _ _ _ _
      refine RW.soft Wd.a (v := .slice X1 es3.length c2) (by exact E.assign (AF_ev rfl tp)) ?_
      refine RW.fin (fun τ => τ 0 = .pointer (some ⟨b, 0, none⟩) ∧ τ 1 = .int .i64 (max k (i + 1)) ∧ τ 2 = .int .i64 most ∧ τ 6 = .slice X1 es3.length c2 ∧ τ 7 = .slice (some ⟨g, off, none⟩) ((es.drop (max k (i + 1) - (i + 1)).toNat).length) (c - (max k (i + 1) - (i + 1)).toNat) ∧ τ 19 = .bool false) ⟨up rfl (up rfl (up rfl (up rfl (up rfl (up rfl (up rfl (up rfl hs0))))))), up rfl (up rfl (up rfl (up rfl (up rfl (up rfl (up rfl (up rfl hs1))))))), up rfl (up rfl (up rfl (up rfl (up rfl (up rfl (up rfl (up rfl hs2))))))), tp, up rfl (up rfl (up rfl (up rfl (up rfl (up rfl (up rfl (up rfl hs7))))))), up rfl (up rfl (up rfl (up rfl (up rfl (up rfl (up rfl (up rfl hs19)))))))⟩ ?_
      rintro τ ⟨hs0, hs1, hs2, hs6, hs7, hs19⟩
      refine CW.ret ?_
      refine ret1 (v := .slice X1 es3.length c2) rfl (by exact (.tmp (AF_ev rfl hs6) .nil)) ?_
      have hst := hst.take (.there .here)
      have hst := hst.take (.there (.there .here))
      exact ⟨p, _, es3, hp0, rfl, hokes3, by rw [hvses3]; unfold fromL; rw [if_neg (by omega), hM], (logClose hi hn hE hst).take (.there .here)⟩
end Go.Proofs.Ytdlcjoonhojpfaa
