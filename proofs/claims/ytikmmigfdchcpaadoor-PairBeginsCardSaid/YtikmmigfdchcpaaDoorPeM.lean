/-
  Proved: a part of the proof of the claim's statement (text M of it).
  Conditions: none of ours.
-/
import Derived.Test.YtikmmigfdchcpaaDoorPeQ0
namespace Go.Proofs.YtikmmigfdchcpaaDoor.PP
open Go.RowKit Go.Proofs.YtikmmigfdchcpaaDoorW.PrintWords Go.Proofs.YtikmmigfdchcpaaDoorW.PrintLast Go.Proofs.YtikmmigfdchcpaaDoorW.PrintMore
set_option linter.unusedVariables false
set_option linter.unusedSimpArgs false
open Go.Maps (Keyed IsMap)
theorem laidOut : laidOutB Tryd.prog = true := by kernel_rfl
theorem row38 : 38 < Tryd.prog.types.size := of_decide_eq_true (by kernel_rfl)
theorem wide38 : (match Tryd.prog.underlying 38 with | some (.array _ _) | some (.struct _) => true | _ => false) = true := by kernel_rfl
theorem law38 : Maps.Keyed Tryd.prog 38 := Maps.Keyed.of_law (deep_law_laid laidOut (m := 4) (by omega) row38 (by kernel_rfl) wide38)
theorem zero3 (w : World) : (zeroValue 3).run Tryd.prog w = .ok (.int .i64 0) w := by kernel_rfl
theorem keyType38 : Tryd.prog.keyType 38 = true := by kernel_rfl
theorem size_types : ∃ n, Tryd.prog.types.size = n + 3 := ⟨Tryd.prog.types.size - 3, by have : 3 ≤ Tryd.prog.types.size := of_decide_eq_true (by kernel_rfl); omega⟩
theorem cells38 : Tryd.prog.cellsOf 38 = 3 := by kernel_rfl
theorem cells3 : Tryd.prog.cellsOf 3 = 1 := by kernel_rfl
theorem cells2 : Tryd.prog.cellsOf 2 = 1 := by kernel_rfl
theorem cells9 : Tryd.prog.cellsOf 9 = 1 := by kernel_rfl
def zbd (x : S38) : Lit := .string (keyBytes [.int .i64 x.f0, .int .i64 x.f1, .string x.f2.data.toList])
def keyOk (x : S38) : Bool := (Lit.int .i64 x.f0).wf && (Lit.int .i64 x.f1).wf && decide (x.f2.size ≤ maxLen)
theorem lits38 (d : Nat) (a b : Int) (s : ByteArray) (ha : (Lit.int .i64 a).wf = true) (hb : (Lit.int .i64 b).wf = true) (hs : s.size ≤ maxLen) :
  Tryd.prog.keyLits (d + 3) 38 [.int .i64 a, .int .i64 b, .string s] = some [.int .i64 a, .int .i64 b, .string s.data.toList] := by
 simp [Program.keyLits, Tryd.underlying38, Tryd.underlying3, Tryd.underlying2, Tryd.underlying9, cells38, cells3, cells2, cells9, ha, hb, hs]
theorem key38 (x : S38) (h : keyOk x = true) : keyOf Tryd.prog 38 (.agg #[.int .i64 x.f0, .int .i64 x.f1, .string x.f2]) = some (zbd x) := by
 simp only [keyOk, Bool.and_eq_true, decide_eq_true_eq] at h
 unfold keyOf
 rw [Tryd.underlying38]
 obtain ⟨n, hn⟩ := size_types
 have h1 := lits38 (n + 1) x.f0 x.f1 x.f2 h.1.1 h.1.2 h.2
 have h2 : Value.formed Tryd.prog 38 (.agg #[.int .i64 x.f0, .int .i64 x.f1, .string x.f2]) = true := by
  simp [Value.formed, Tryd.underlying38, cells38]
 simp only [keyType38, hn, h2]
 show Option.map _ (Tryd.prog.keyLits (n + 1 + 3) 38 [.int .i64 x.f0, .int .i64 x.f1, .string x.f2]) = _
 rw [h1]
 rfl
theorem keyLit_key (x : S38) : WideAt.IsKeyLit (zbd x) := by
 unfold zbd
 simp [WideAt.IsKeyLit]
theorem keyLit_inj {x y : S38} (hx : keyOk x = true) (hy : keyOk y = true) (h : zbd x = zbd y) : x.f0 = y.f0 ∧ x.f1 = y.f1 ∧ x.f2.data.toList = y.f2.data.toList := by
 simp only [keyOk, Bool.and_eq_true, decide_eq_true_eq] at hx hy
 have h1 := lits38 0 x.f0 x.f1 x.f2 hx.1.1 hx.1.2 hx.2
 have h2 := lits38 0 y.f0 y.f1 y.f2 hy.1.1 hy.1.2 hy.2
 unfold zbd at h
 injection h with e
 have := keyBytes_inj (keyLits_alike h1 h2) (keyLits_wf h1) (keyLits_wf h2) e
 simpa using this
def MapIs (w : World) (b n : Nat) (m : Lit → Option Int) : Prop :=
 ∃ D : DataW Unit, w.ownsMap Tryd.prog 38 (plainElem Tryd.prog 3) b n D ∧
  ∀ kl, WideAt.IsKeyLit kl → Maps.has D kl = (m kl).isSome ∧ D.atKey kl (.lit (.int .i64 0)) = .lit (.int .i64 ((m kl).getD 0))
open Classical in
noncomputable def upd (m : Lit → Option Int) (k : Lit) (v : Option Int) : Lit → Option Int := fun x => if x = k then v else m x
theorem upd_same (m : Lit → Option Int) (k : Lit) (v : Option Int) : upd m k v k = v := by simp [upd]
theorem upd_other (m : Lit → Option Int) {k x : Lit} (v : Option Int) (h : x ≠ k) : upd m k v x = m x := by simp [upd, h]
theorem MapIs.made (w : World) : MapIs (w.alloc (.map #[] 0)) w.heap.size 0 (fun _ => none) :=
 ⟨.map [], World.ownsMap_made _ _ _ _, fun kl _ => ⟨rfl, rfl⟩⟩
theorem MapIs.kept {w w' : World} {b n : Nat} {m : Lit → Option Int} {row : Option Nat} (h : MapIs w b n m) (hg : w.grownBy w' row) (hne : some b ≠ row) : MapIs w' b n m := by
 obtain ⟨D, h1, h2⟩ := h
 exact ⟨D, h1.kept hg hne, h2⟩
theorem MapIs.below {w w' : World} {b n : Nat} {m : Lit → Option Int} (h : MapIs w b n m) (hb : Below w.heap.size w w') : MapIs w' b n m :=
 h.kept (grown_of_below hb none) (by simp)
theorem MapIs.lt {w : World} {b n : Nat} {m : Lit → Option Int} (h : MapIs w b n m) : b < w.heap.size := by
 obtain ⟨D, h1, h2⟩ := h
 exact h1.lt
theorem MapIs.set {w : World} {b n : Nat} {m : Lit → Option Int} (h : MapIs w b n m) {a : Addr} (ha : b ≠ a.block) (u : Value) : MapIs (w.setCell a u) b n m := by
 obtain ⟨D, h1, h2⟩ := h
 exact ⟨D, h1.setCell ha u, h2⟩
theorem MapIs.look {w : World} {b n : Nat} {m : Lit → Option Int} (h : MapIs w b n m) {x : S38} (hx : keyOk x = true) :
  (Instr.lookup 56 (.map (some b)) (.agg #[.int .i64 x.f0, .int .i64 x.f1, .string x.f2]) true).run Tryd.prog w = .ok (.tuple #[.int .i64 ((m (zbd x)).getD 0), .bool (m (zbd x)).isSome]) w := by
 obtain ⟨D, h1, h2⟩ := h
 obtain ⟨v, ps, hr, hv⟩ := h1.look_ok law38 Tryd.underlying56 (zero3 w) (plainElem_int Tryd.underlying3 (by decide)) (key38 x hx)
 obtain ⟨h3, h4⟩ := h2 _ (keyLit_key x)
 obtain ⟨c, rfl, hc, _⟩ := plainElem_int_inv Tryd.underlying3 hv
 have hc : D.atKey (zbd x) (.lit (.int .i64 0)) = .lit (.int .i64 c) := congrArg Prod.fst hc
 rw [h4] at hc
 injection hc with hc
 injection hc with _ hc
 rw [hr, h3, hc]
theorem MapIs.store {w : World} {b n : Nat} {m : Lit → Option Int} (h : MapIs w b n m) (hn : n < maxLen) {x : S38} (hx : keyOk x = true) {v : Int} (hv : (Lit.int .i64 v).wf = true) :
  ∃ w', (Instr.mapUpdate 56 (.map (some b)) (.agg #[.int .i64 x.f0, .int .i64 x.f1, .string x.f2]) (.int .i64 v)).run Tryd.prog w = .ok () w' ∧ MapIs w' b (n + 1) (upd m (zbd x) (some v)) ∧ w.grownBy w' (some b) := by
 obtain ⟨D, h1, h2⟩ := h
 obtain ⟨w', hr, ho, ht⟩ := h1.store law38 Tryd.underlying56 hn (key38 x hx) (plainElem_int Tryd.underlying3 hv)
 refine ⟨w', hr, ⟨_, ho, fun kl hk => ?_⟩, ht.grown⟩
 by_cases e : kl = zbd x
 ·subst e
  rw [Maps.has_put_same h1.isMap (keyLit_key x), Maps.atKey_put_same h1.isMap (keyLit_key x), upd_same]
  exact ⟨rfl, rfl⟩
 ·rw [Maps.has_put_other e, Maps.atKey_put_other e, upd_other m _ e]
  exact h2 kl hk
theorem MapIs.drop {w : World} {b n : Nat} {m : Lit → Option Int} (h : MapIs w b n m) {x : S38} (hx : keyOk x = true) (ty : TypeId) :
  ∃ w', (Builtin.delete_ #[56, 38] ty #[.map (some b), .agg #[.int .i64 x.f0, .int .i64 x.f1, .string x.f2]]).run Tryd.prog w = .ok (.tuple #[]) w' ∧ MapIs w' b n (upd m (zbd x) none) ∧ w.grownBy w' (some b) := by
 obtain ⟨D, h1, h2⟩ := h
 obtain ⟨w', hr, ho, ht⟩ := h1.drop law38 Tryd.underlying56 (key38 x hx) ty
 refine ⟨w', hr, ⟨_, ho, fun kl hk => ?_⟩, ht.grown⟩
 by_cases e : kl = zbd x
 ·subst e
  rw [Maps.has_del_same, Maps.atKey_del_same, upd_same]
  exact ⟨rfl, rfl⟩
 ·rw [Maps.has_del_other e, Maps.atKey_del_other e, upd_other m _ e]
  exact h2 kl hk
end Go.Proofs.YtikmmigfdchcpaaDoor.PP
