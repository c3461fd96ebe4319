/-
  Proved: a part of the proof of the claim's statement (text Q63 of it).
  Conditions: none of ours.
-/
import Derived.Test.YtikmmigfdchcpaaDoorPeQ0
import Derived.Test.YtikmmigfdchcpaaDoorPeQ62
import Derived.Test.YtikmmigfdchcpaaDoorPeQ31
import Derived.Test.YtikmmigfdchcpaaDoorPeO
import Derived.Test.YtikmmigfdchcpaaDoorPeK
namespace Go.Proofs.YtikmmigfdchcpaaDoor.PP
open Go.RowKit Go.Proofs.YtikmmigfdchcpaaDoorW.PrintWords Go.Proofs.YtikmmigfdchcpaaDoorW.PrintLast Go.Proofs.YtikmmigfdchcpaaDoorW.PrintMore
set_option linter.unusedVariables false
set_option linter.unusedSimpArgs false
attribute [local go_sem high] eqA27
def wkA : S47 := ⟨0, ⟨2, 0, ⟨#[97]⟩⟩, 1, 1, ⟨2, 0, ⟨#[97]⟩⟩, 2, [], [], false, ⟨#[]⟩⟩
def wkB : S47 := ⟨0, ⟨2, 0, ⟨#[97]⟩⟩, 2, 0, ⟨0, 0, ⟨#[]⟩⟩, 0, [], [], false, ⟨#[]⟩⟩
def wkOp : S41 := ⟨⟨2, 0, ⟨#[97]⟩⟩, 1, ⟨2, 0, ⟨#[97]⟩⟩, 2, [], [], 0, -1⟩
theorem C_blk {α : Type} {d : Kd α} {W : World} {g t : Nat} {cs : Array Value} {xs : List α} (hb : W.heap[g]? = some (.cells cs t (0, 0))) (hr : Reps (d.K W) d.sz xs cs.toList) (hm : xs.length ≤ 9223372036854775807) :
  d.C W (some ⟨g, 0, none⟩) xs.length xs := by
 refine ⟨rfl, hm, fun _ => ⟨_, rfl, fun j p hj => ⟨(cs.toList.drop (j * d.sz)).take d.sz, ?_, hr.2 j p hj, fun i u hu => ?_⟩⟩⟩
 ·exact d.K_len (hr.2 j p hj)
 ·rw [add_plain]
  refine (zae hb (j * d.sz + i)).trans ?_
  have hi : i < d.sz := by
   rcases Nat.lt_or_ge i d.sz with h | h
   ·exact h
   ·rw [List.getElem?_eq_none (by rw [List.length_take]; omega)] at hu
    cases hu
  rw [List.getElem?_take_of_lt hi, List.getElem?_drop] at hu
  rw [← hu]
  simp
open Classical in
noncomputable def zbm.f (k : Nat) : Option Bool := if zby.f k [wkA] = some ([wkOp], 0, 0) ∧ zb5.f k [wkB] = some (4, 1) then some true else none
theorem wkA_C (w : World) {A1 : Option Addr} {c1 : Nat} {A2 : Option Addr} {c2 : Nat} (h1 : Kd.C k38 w A1 0 []) (h2 : Kd.C k38 w A2 0 []) :
  Kd.C k47 (w.alloc (.cells #[.int .i64 0, .int .i64 2, .int .i64 0, .string ⟨#[97]⟩, .int .i64 1, .int .i64 1, .int .i64 2, .int .i64 0, .string ⟨#[97]⟩, .int .i64 2, .slice A1 0 c1, .slice A2 0 c2, .bool false, .string ⟨#[]⟩] 47)) (some ⟨w.heap.size, 0, none⟩) 1 [wkA] :=
 C_blk (xs := [wkA]) (blk_new _ _) ((Reps.none (k47.K _) k47.sz).snoc (k47_mk _ wkA (Nat.zero_le _) (Kd.zbn h1 _) (Nat.zero_le _) (Kd.zbn h2 _)) rfl) (by decide)
theorem wkB_C (w : World) : Kd.C k47 (w.alloc (.cells #[.int .i64 0, .int .i64 2, .int .i64 0, .string ⟨#[97]⟩, .int .i64 2, .int .i64 0, .int .i64 0, .int .i64 0, .string ⟨#[]⟩, .int .i64 0, .slice none 0 0, .slice none 0 0, .bool false, .string ⟨#[]⟩] 47)) (some ⟨w.heap.size, 0, none⟩) 1 [wkB] :=
 C_blk (xs := [wkB]) (blk_new _ _) ((Reps.none (k47.K _) k47.sz).snoc (k47_mk _ wkB (A10 := none) (c10 := 0) (Nat.zero_le _) (Kd.C_nil _ _) (A11 := none) (c11 := 0) (Nat.zero_le _) (Kd.C_nil _ _)) rfl) (by decide)
set_option maxHeartbeats 4000000 in
set_option maxRecDepth 100000 in
theorem wakes_true (k : Nat) (w : World) (hG : Glob w) (hO : zby.f k [wkA] = some ([wkOp], 0, 0)) (hC : zb5.f k [wkB] = some (4, 1)) :
  Calls Tryd.prog 8 #[] w fun e w' => e = .returned (.bool true) ∧ Below w.heap.size w w' := by
 have hu27 := Tryd.underlying27
 have hu38 := Tryd.underlying38
 have hu41 := Tryd.underlying41
 have hu47 := Tryd.underlying47
 have HG := zab.mk hG
 have PO := zab.mk hO
 have PC := zab.mk hC
 clear hG hO hC
 go_enter Tryd.func8, Tryd.ntmps8
 go_wp2_with fail
 refine (zb8.calls (⟨#[97]⟩ : ByteArray) 0 2 0 ⟨#[97]⟩ 1 1 2 0 ⟨#[97]⟩ 2 [] [] false ⟨#[]⟩ _ rfl).mono ?_
 rintro e w1 ⟨v1, v2, rfl, h1, h2, hb1⟩
 obtain ⟨A1, c1, e1⟩ := Kd.R_slice h1
 obtain ⟨A2, c2, e2⟩ := Kd.R_slice h2
 subst e1
 subst e2
 have C1 := zab.mk (Kd.R_reads' h1).2.2
 have C2 := zab.mk (Kd.R_reads' h2).2.2
 have HB1 := zab.mk hb1
 clear h1 h2 hb1
 go_wp2_with fail
 refine (zby.calls k _ _ [wkA] [wkOp] 0 0 _ ?g ?c ?h PO.out).mono ?_
 case g => exact za7 HG.out (zac HB1.out _)
 case c => exact wkA_C w1 C1.out C2.out
 case h => exact Nat.le_refl _
 rintro e w2 ⟨v2, rfl, hS, hb2⟩
 have HB2 := zab.mk (za1 (zac HB1.out _) (zac HB1.out _).size hb2)
 obtain ⟨A3, c3, e3⟩ := Kd.S_slice hS
 subst e3
 have CS := zab.mk (Kd.S_reads' hS).2.2
 clear hS hb2 C1 C2 HB1
 go_upto_region 2 with (((with_reducible refine za2 (N := 2) rfl ?_); refine zay ?hg (N := 2) ?hd (cs := #[.int .i64 0, .int .i64 0]) (t := 27) ?hr ?_; (case hd => rfl); (case hg => rfl); (case hr => first | (go_simp; done) | (go_simp; rfl)); intro gb hg w3 hbox hb; have HB3 := zab.mk (za1 HB2.out HB2.out.size hb); have BX := zab.mk hbox; have CS3 := zab.mk (Kd.za9 CS.out hb); have GE := zab.mk (show w.heap.size ≤ gb by rw [hg]; exact HB2.out.size); have GE2 := zab.mk (show w2.heap.size ≤ gb by rw [hg]; exact Nat.le_refl _); have HBX := zab.mk hb; clear hb hbox hg; have x0 : w3.cell? ⟨gb, 0, none⟩ = some (.int .i64 0) := (zae BX.out 0).trans rfl; have x1 : w3.cell? ⟨gb, 1, none⟩ = some (.int .i64 0) := (zae BX.out 1).trans rfl; have f0 := zah BX.out 0; have f1 := zah BX.out 1))
 refine zb0 (G := fun W => Code.wp _ _ _ _ W) _ (fun W4 hW4 => ?_)
 have BX4 := zab.mk (show W4.heap[gb]? = some (.cells #[.int .i64 0, .int .i64 0] 27 (0, 0)) by rw [hW4]; exact zaz (cs := #[.int .i64 0, .int .i64 0]) (zaz (cs := #[.int .i64 0, .int .i64 0]) (cs' := #[.int .i64 0, .int .i64 0]) BX.out 0 (.int .i64 0) rfl) 1 (.int .i64 0) rfl)
 have HBX4 := show Below w2.heap.size w2 W4 by rw [hW4]; exact (HBX.out.setCell (p := ⟨gb, 0, none⟩) GE2.out _).setCell (p := ⟨gb, 1, none⟩) GE2.out _
 have HB4 := zab.mk (za1 HB2.out HB2.out.size HBX4)
 have CS4 := zab.mk (Kd.za9 CS.out HBX4)
 clear hW4 x0 x1 f0 f1 BX CS3 HB3 HBX HBX4 CS HB2
 go_wp2_with fail
 refine (zb5.calls k _ _ [wkB] 4 1 _ ?g ?c ?h PC.out).mono ?_
 case g => exact za7 HG.out (zac HB4.out _)
 case c => exact wkB_C W4
 case h => exact Nat.le_refl _
 rintro e w5 ⟨rfl, hb5⟩
 have HB5 := zab.mk (za1 (zac HB4.out _) (zac HB4.out _).size hb5)
 have BX5 := zab.mk (zaw (zak BX4.out _) hb5)
 have CS5 := zab.mk (Kd.za9 (Kd.zbn CS4.out _) hb5)
 clear hb5 HB4 BX4 CS4
 go_upto_region 3 with (((with_reducible refine za2 (N := 3) rfl ?_); refine zay ?hg (N := 3) ?hd (cs := #[.int .i64 0, .int .i64 0]) (t := 27) ?hr ?_; (case hd => rfl); (case hg => rfl); (case hr => first | (go_simp; done) | (go_simp; rfl)); intro gc hg w6 hbox hb; have HB6 := zab.mk (za1 HB5.out HB5.out.size hb); have BY := zab.mk hbox; have BX6 := zab.mk (zaw BX5.out hb); have GD := zab.mk (show w5.heap.size ≤ gc by rw [hg]; exact Nat.le_refl _); have HBY := zab.mk hb; clear hb hbox hg; have x0 : w6.cell? ⟨gc, 0, none⟩ = some (.int .i64 0) := (zae BY.out 0).trans rfl; have x1 : w6.cell? ⟨gc, 1, none⟩ = some (.int .i64 0) := (zae BY.out 1).trans rfl; have f0 := zah BY.out 0; have f1 := zah BY.out 1))
 refine zb0 (G := fun W => Code.wp _ _ _ _ W) _ (fun W7 hW7 => ?_)
 have BY7 := zab.mk (show W7.heap[gc]? = some (.cells #[.int .i64 4, .int .i64 1] 27 (0, 0)) by rw [hW7]; exact zaz (cs := #[.int .i64 4, .int .i64 0]) (zaz (cs := #[.int .i64 0, .int .i64 0]) (cs' := #[.int .i64 4, .int .i64 0]) BY.out 0 (.int .i64 4) rfl) 1 (.int .i64 1) rfl)
 have HBY7 := show Below w5.heap.size w5 W7 by rw [hW7]; exact (HBY.out.setCell (p := ⟨gc, 0, none⟩) GD.out _).setCell (p := ⟨gc, 1, none⟩) GD.out _
 have HB7 := zab.mk (za1 HB5.out HB5.out.size HBY7)
 have BX7 := zab.mk (zaw BX5.out HBY7)
 obtain ⟨ad, A8, c8, A9, c9, ea, _, _, _, _, _, _, _, _, _, _, _, hx11, _, _, _, _⟩ := at_T41 (Kd.za9 CS5.out HBY7) 0 (Int.le_refl _) (by decide)
 cases ea
 rw [show (zbx [wkOp] 0).f7 = -1 from rfl] at hx11
 rw [show (0 : Int).toNat * 12 = 0 from rfl, Addr.add_zero'] at hx11
 clear hW7 x0 x1 f0 f1 BY HB6 BX6 HBY HBY7 HB5 BX5 CS5
 have x0 : W7.cell? ⟨gb, 0, none⟩ = some (.int .i64 0) := (zae BX7.out 0).trans rfl
 have x1 : W7.cell? ⟨gb, 1, none⟩ = some (.int .i64 0) := (zae BX7.out 1).trans rfl
 have y0 : W7.cell? ⟨gc, 0, none⟩ = some (.int .i64 4) := (zae BY7.out 0).trans rfl
 have y1 : W7.cell? ⟨gc, 1, none⟩ = some (.int .i64 1) := (zae BY7.out 1).trans rfl
 go_wp2
 go_ret
 exact ⟨rfl, HB7.out⟩
theorem zbm.calls (k : Nat) (r : Bool) (w : World) (hG : Glob w) (h : zbm.f k = some r) :
  Calls Tryd.prog 8 #[] w fun e w' => e = .returned (.bool r) ∧ Below w.heap.size w w' := by
 unfold zbm.f at h
 split at h
 ·next hc =>
  obtain rfl := Option.some.inj h
  exact wakes_true k w hG hc.1 hc.2
 ·cases h
end Go.Proofs.YtikmmigfdchcpaaDoor.PP
