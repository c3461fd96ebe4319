/-
  Proved: a part of the proof of the claim's statement (text C of it).
  Conditions: none of ours.
-/
import Derived.Test.YtikmmigfdchcpaaDoorPeQ0
import Derived.Test.YtikmmigfdchcpaaDoorPeM
namespace Go.Proofs.YtikmmigfdchcpaaDoor.PP
open Go.RowKit Go.Proofs.YtikmmigfdchcpaaDoorW.PrintWords Go.Proofs.YtikmmigfdchcpaaDoorW.PrintLast Go.Proofs.YtikmmigfdchcpaaDoorW.PrintMore
set_option linter.unusedVariables false
set_option linter.unusedSimpArgs false
structure St where
 busy : Lit → Option Int
 lost : Lit → Option Int
 last : Int
 gone : List Int
 ends : List Int
structure Cl (w : World) (base g bm lm n1 n2 : Nat) (vg ve : Value) (s : St) : Prop where
 blk : w.heap[g]? = some (.cells #[.map (some bm), .map (some lm), .int .i64 s.last, vg, ve] 58 (0, 0))
 busy : MapIs w bm n1 s.busy
 lost : MapIs w lm n2 s.lost
 gone : Kd.R (Kd.int .i64) 3 w base (fun k => some k ≠ ve.ownBlock) vg s.gone
 ends : Kd.R (Kd.int .i64) 3 w base (fun _ => True) ve s.ends
 hg : base ≤ g
 hb : base ≤ bm
 hl : base ≤ lm
 ne : bm ≠ lm
 gb : g ≠ bm
 gl : g ≠ lm
theorem Cl.below {w w' : World} {base g bm lm n1 n2 : Nat} {vg ve : Value} {s : St} (h : Cl w base g bm lm n1 n2 vg ve s) (hb : Below w.heap.size w w') : Cl w' base g bm lm n1 n2 vg ve s :=
 ⟨zaw h.blk hb, h.busy.below hb, h.lost.below hb, Kd.zbv h.gone hb, Kd.zbv h.ends hb, h.hg, h.hb, h.hl, h.ne, h.gb, h.gl⟩
def st0 (n : Int) : St := ⟨fun _ => none, fun _ => none, 0, [], List.replicate n.toNat 0⟩
set_option maxHeartbeats 8000000 in
set_option maxRecDepth 100000 in
theorem begun.calls (n : Int) (h0 : 0 ≤ n) (h1 : n ≤ 1000) (w : World) :
  Calls Tryd.prog 27 #[.int .i64 n] w fun e w' => ∃ (g bm lm : Nat) (vg ve : Value), e = .returned (.pointer (some ⟨g, 0, none⟩)) ∧ Cl w' w.heap.size g bm lm 0 0 vg ve (st0 n) ∧ Below w.heap.size w w' := by
 have hu58 := Tryd.underlying58
 have hmm := @run_makeMap Tryd.prog
 have H0 := zab.mk h0
 have H1 := zab.mk h1
 clear h0 h1
 obtain ⟨W2, hW2⟩ : ∃ W2, W2 = (w.alloc (.map #[] 0)).alloc (.map #[] 0) := ⟨_, rfl⟩
 have b2 : Below w.heap.size w W2 := by rw [hW2]; exact zac (zac (Below.refl _ _) _) _
 have m1 : MapIs W2 w.heap.size 0 (fun _ => none) := by rw [hW2]; exact (MapIs.made w).below (zac (Below.refl _ _) _)
 have m2 : MapIs W2 (w.heap.size + 1) 0 (fun _ => none) := by rw [hW2]; have := MapIs.made (w.alloc (.map #[] 0)); simpa using this
 have HB := zab.mk b2
 have M1 := zab.mk m1
 have M2 := zab.mk m2
 clear b2 m1 m2
 go_enter Tryd.func27, Tryd.ntmps27
 subst hW2
 go_wp2_with (first
  | ((with_reducible refine za2 (N := 6) rfl ?_); refine Kd.R_make (w0 := w) (Kd.int .i64) w.heap.size 3 ?hg (N := 6) ?hd 55 (.tmp 5) (.tmp 5) rfl n rfl rfl Tryd.underlying55 (.int .i64 0) 8 info3 rfl (by decide) (by decide) (0 : Int) (ok := fun _ => True) (okp := fun _ => True) rfl (fun _ h => h) trivial H0.out (by have := H1.out; omega) HB.out HB.out.size ?_; (case hd => rfl); (case hg => rfl); intro v1 w1 ho hb hg hnew; obtain ⟨A1, c1, hv⟩ := Kd.R_slice ho; rw [List.length_replicate] at hv; subst hv; have HO1 := zab.mk ho; have HB1 := zab.mk hb; have M11 := zab.mk (M1.out.kept hg (by simp)); have M21 := zab.mk (M2.out.kept hg (by simp)); clear ho hb hg hnew)
  | ((with_reducible refine za2 (N := 8) rfl ?_); refine zay ?hg (N := 8) ?hd (cs := #[.map (some w.heap.size), .map (some (w.heap.size + 1)), .int .i64 0, .slice none 0 0, .slice A1 n.toNat c1]) (t := 58) ?hr ?_; (case hd => rfl); (case hg => rfl); (case hr => first | (go_simp; done) | (go_simp; rfl)); intro g hg w2 hbox hb; have BK := zab.mk hbox; have HB2 := zab.mk (zal HB1.out hb); have HO2 := zab.mk (Kd.zbv HO1.out hb); have M12 := zab.mk (M11.out.below hb); have M22 := zab.mk (M21.out.below hb); have GE := zab.mk (show w.heap.size ≤ g by rw [hg]; exact HB1.out.size); have L1 := zab.mk (show w.heap.size < g by rw [hg]; exact M11.out.lt); have L2 := zab.mk (show w.heap.size + 1 < g by rw [hg]; exact M21.out.lt); clear hbox hb hg))
 go_ret
 exact ⟨g, w.heap.size, w.heap.size + 1, .slice none 0 0, .slice A1 n.toNat c1, rfl, ⟨BK.out, M12.out, M22.out, Kd.R_nil _ _ _ _ _, HO2.out, GE.out, Nat.le_refl _, Nat.le_succ _, by omega, by have := L1.out; omega, by have := L2.out; omega⟩, HB2.out⟩
theorem Cl.drewN {w : World} {base g bm lm n1 n2 : Nat} {vg ve : Value} {s : St} (h : Cl w base g bm lm n1 n2 vg ve s) (m : Nat) : Cl (w.drewN m) base g bm lm n1 n2 vg ve s := h.below (zaa (Below.refl _ _) m)
theorem E_int : ∀ q, q ∈ 3 :: (Kd.int .i64).E → q ≠ 58 := by
 intro q hq
 have : q = 3 := by simpa [Kd.int, Kd.scalar] using hq
 omega
theorem Cl.setLast {w : World} {base g bm lm n1 n2 : Nat} {vg ve : Value} {s : St} (h : Cl w base g bm lm n1 n2 vg ve s) (v : Int) : Cl (w.setCell ⟨g, 2, none⟩ (.int .i64 v)) base g bm lm n1 n2 vg ve ⟨s.busy, s.lost, v, s.gone, s.ends⟩ :=
 ⟨zaz (cs := #[.map (some bm), .map (some lm), .int .i64 s.last, vg, ve]) h.blk 2 _ rfl, h.busy.set (fun e => h.gb e.symm) _, h.lost.set (fun e => h.gl e.symm) _, Kd.R_set h.gone h.blk E_int 2 _, Kd.R_set h.ends h.blk E_int 2 _, h.hg, h.hb, h.hl, h.ne, h.gb, h.gl⟩
theorem blk_off {w : World} {g gx : Nat} {o : Obj} (h : w.heap[gx]? = some o) (hne : gx ≠ g) (j : Nat) (v : Value) : (w.setCell ⟨g, j, none⟩ v).heap[gx]? = some o := (Below.heap_setCell w ⟨g, j, none⟩ v gx hne).trans h
theorem zb9 {w : World} {base bm n : Nat} {m : Lit → Option Int} {ok : Nat → Prop} {v : Value} {xs : List Int} (h : Kd.R (Kd.int .i64) 3 w base ok v xs) (hm : MapIs w bm n m) : some bm ≠ v.ownBlock := by
 intro e
 obtain ⟨D, ⟨es, cl, hb, _⟩, _⟩ := hm
 obtain ⟨inner, ho⟩ := Kd.R_own h
 rcases ho.2 with ⟨rfl, _⟩ | ⟨g, cap', cur, rfl, hg⟩
 ·simp [Value.ownBlock] at e
 ·have e2 : bm = g := by simpa [Value.ownBlock] using e
  subst e2
  simp [hb] at hg
theorem Cl.turn {w w' : World} {base g bm lm n1 n2 n1' : Nat} {vg ve : Value} {s : St} {m : Lit → Option Int} (h : Cl w base g bm lm n1 n2 vg ve s) (hg : w.grownBy w' (some bm)) (hm : MapIs w' bm n1' m) : Cl w' base g bm lm n1' n2 vg ve ⟨m, s.lost, s.last, s.gone, s.ends⟩ :=
 ⟨(hg.block g (zbp h.blk) (fun e => h.gb (Option.some.inj e))).trans h.blk, hm, h.lost.kept hg (fun e => h.ne (Option.some.inj e).symm), Kd.R_grown1 h.gone rfl hg (zb9 h.gone h.busy), Kd.R_grown1 h.ends rfl hg (zb9 h.ends h.busy), h.hg, h.hb, h.hl, h.ne, h.gb, h.gl⟩
theorem Cl.turnLost {w w' : World} {base g bm lm n1 n2 n2' : Nat} {vg ve : Value} {s : St} {m : Lit → Option Int} (h : Cl w base g bm lm n1 n2 vg ve s) (hg : w.grownBy w' (some lm)) (hm : MapIs w' lm n2' m) : Cl w' base g bm lm n1 n2' vg ve ⟨s.busy, m, s.last, s.gone, s.ends⟩ :=
 ⟨(hg.block g (zbp h.blk) (fun e => h.gl (Option.some.inj e))).trans h.blk, h.busy.kept hg (fun e => h.ne (Option.some.inj e)), hm, Kd.R_grown1 h.gone rfl hg (zb9 h.gone h.lost), Kd.R_grown1 h.ends rfl hg (zb9 h.ends h.lost), h.hg, h.hb, h.hl, h.ne, h.gb, h.gl⟩
theorem wp_store {P : Program} {o : Oper} {a : Act} {w w' : World} {K : Act → World → Prop} {Q : Exit → Act → World → Prop} (m x v : Operand) (t : TypeId) (hop : o.op = Op.mapUpdate t m x v) {vm vx vv : Value}
  (hm : a.eval m = vm) (hx : a.eval x = vx) (hv : a.eval v = vv) (hr : (Instr.mapUpdate t vm vx vv).run P w = .ok () w') (h : K (a.put o.dst undef) w') : Oper.wp P o a w K Q := by
 unfold Oper.wp
 simp [execOp, hop, hm, hx, hv, hr, Result.andThen]
 exact h
theorem wp_drop {P : Program} {o : Oper} {a : Act} {w w' : World} {K : Act → World → Prop} {Q : Exit → Act → World → Prop} (m x : Operand) (t k : TypeId) (hop : o.op = Op.call { callee := Callee.builtin Builtin.delete, args := #[m, x], argTypes := #[t, k] }) {vm vx : Value}
  (hm : a.eval m = vm) (hx : a.eval x = vx) (hr : (Builtin.delete_ #[t, k] o.type #[vm, vx]).run P w = .ok (.tuple #[]) w') (h : K (a.put o.dst (.tuple #[])) w') : Oper.wp P o a w K Q := by
 unfold Oper.wp
 simp [execOp, hop, resolve, invoke, builtin, hm, hx, hr, Result.andThen]
 exact h
theorem blk_no_map {w : World} {g b n : Nat} {m : Lit → Option Int} {cs : Array Value} {t : TypeId} {fr : Nat × Nat} (h : w.heap[g]? = some (.cells cs t fr)) (hm : MapIs w b n m) : g ≠ b := by
 rintro rfl
 obtain ⟨D, ⟨es, cl, hb, _⟩, _⟩ := hm
 simp [hb] at h
theorem own_some {g n c : Nat} : (Value.slice (some ⟨g, 0, none⟩) n c).ownBlock = some g := by simp [Value.ownBlock]
theorem Cl.setEnd {w : World} {base g bm lm n1 n2 ge ce : Nat} {vg : Value} {s : St} (h : Cl w base g bm lm n1 n2 vg (.slice (some ⟨ge, 0, none⟩) s.ends.length ce) s) (i v : Int) :
  Cl (w.setCell ⟨ge, i.toNat, none⟩ (.int .i64 v)) base g bm lm n1 n2 vg (.slice (some ⟨ge, 0, none⟩) s.ends.length ce) ⟨s.busy, s.lost, s.last, s.gone, s.ends.set i.toNat v⟩ := by
 obtain ⟨cells, hge⟩ := Kd.R_typed h.ends ge own_some
 have hgg : g ≠ ge := blk_ne h.blk hge (by decide)
 exact ⟨blk_off h.blk hgg _ _, h.busy.set (fun e => zb9 h.ends h.busy (by rw [own_some, e])) _, h.lost.set (fun e => zb9 h.ends h.lost (by rw [own_some, e])) _,
  Kd.R_far h.gone (p := ⟨ge, i.toNat, none⟩) (fun k hk e => hk (by rw [own_some]; exact congrArg some e)) _, (Kd.R_put h.ends i v).1, h.hg, h.hb, h.hl, h.ne, h.gb, h.gl⟩
theorem Cl.push {w w1 : World} {base g bm lm n1 n2 ge ce m : Nat} {vg v1 : Value} {s : St} {x : Int} (h : Cl w base g bm lm n1 n2 vg (.slice (some ⟨ge, 0, none⟩) m ce) s) (hg : w.grownBy w1 vg.ownBlock)
  (hR : Kd.R (Kd.int .i64) 3 w1 base (fun k => some k ≠ (Value.slice (some ⟨ge, 0, none⟩) m ce).ownBlock) v1 (s.gone ++ [x])) :
  Cl (w1.setCell ⟨g, 3, none⟩ v1) base g bm lm n1 n2 v1 (.slice (some ⟨ge, 0, none⟩) m ce) ⟨s.busy, s.lost, s.last, s.gone ++ [x], s.ends⟩ := by
 have b1 : w1.heap[g]? = some (.cells #[.map (some bm), .map (some lm), .int .i64 s.last, vg, (.slice (some ⟨ge, 0, none⟩) m ce)] 58 (0, 0)) := blk_grown h.blk hg (Kd.R_ne h.gone h.blk (by decide))
 have m1 := h.busy.kept hg (zb9 h.gone h.busy)
 have m2 := h.lost.kept hg (zb9 h.gone h.lost)
 have e1 := Kd.R_grown1 h.ends rfl hg (fun e => h.gone.1 ge (by rw [e, own_some]) (by rw [own_some]))
 exact ⟨zaz (cs := #[.map (some bm), .map (some lm), .int .i64 s.last, vg, (.slice (some ⟨ge, 0, none⟩) m ce)]) b1 3 _ rfl, m1.set (fun e => h.gb e.symm) _, m2.set (fun e => h.gl e.symm) _,
  Kd.R_set hR b1 E_int 3 _, Kd.R_set e1 b1 E_int 3 _, h.hg, h.hb, h.hl, h.ne, h.gb, h.gl⟩
theorem Cl.fresh {w : World} {base g bm lm n1 n2 : Nat} {vg ve : Value} {s : St} (h : Cl w base g bm lm n1 n2 vg ve s) : ∀ k, w.heap.size ≤ k → some k ≠ ve.ownBlock := fun k hk e => by
 have := Kd.R_lt h.ends k e.symm
 omega
theorem E_int27 : ∀ q, q ∈ 3 :: (Kd.int .i64).E → q ≠ 27 := by
 intro q hq
 have : q = 3 := by simpa [Kd.int, Kd.scalar] using hq
 omega
theorem Cl.far {w : World} {base g bm lm n1 n2 r : Nat} {vg ve : Value} {s : St} {cs : Array Value} (h : Cl w base g bm lm n1 n2 vg ve s) (hb : w.heap[r]? = some (.cells cs 27 (0, 0))) (j : Nat) (u : Value) : Cl (w.setCell ⟨r, j, none⟩ u) base g bm lm n1 n2 vg ve s :=
 ⟨blk_off h.blk (blk_ne h.blk hb (by decide)) _ _, h.busy.set (fun e => blk_no_map hb h.busy e.symm) _, h.lost.set (fun e => blk_no_map hb h.lost e.symm) _, Kd.R_set h.gone hb E_int27 j _, Kd.R_set h.ends hb E_int27 j _, h.hg, h.hb, h.hl, h.ne, h.gb, h.gl⟩
theorem Cl.lower {w : World} {base base' g bm lm n1 n2 : Nat} {vg ve : Value} {s : St} (h : Cl w base g bm lm n1 n2 vg ve s) (hb : base' ≤ base) : Cl w base' g bm lm n1 n2 vg ve s :=
 ⟨h.blk, h.busy, h.lost, Kd.zcd h.gone hb, Kd.zcd h.ends hb, Nat.le_trans hb h.hg, Nat.le_trans hb h.hb, Nat.le_trans hb h.hl, h.ne, h.gb, h.gl⟩
end Go.Proofs.YtikmmigfdchcpaaDoor.PP
