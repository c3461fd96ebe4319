/-
  Proved: a part of the proof of the claim's statement (text Q43 of it).
  Conditions: none of ours.
-/
import Derived.Test.YtikmmigfdchcpaaDoorPaQ0
import Derived.Test.YtikmmigfdchcpaaDoorPaQ41
import Derived.Test.YtikmmigfdchcpaaDoorPaQ42
namespace Go.Proofs.YtikmmigfdchcpaaDoor.PP
open Go.RowKit Go.Proofs.YtikmmigfdchcpaaDoorW.PrintWords Go.Proofs.YtikmmigfdchcpaaDoorW.PrintLast Go.Proofs.YtikmmigfdchcpaaDoorW.PrintMore
set_option linter.unusedVariables false
set_option linter.unusedSimpArgs false
/-! ### zau: function 36 -/
mutual
def zau.j0 : Nat → List (S38) → Bool → List Int → Int → Bool → Bool → Option (Bool)
 | 0, _, _, _, _, _, _ => none
 | k + 1, x2, x22, x246000, x246001, x246002, x246003 => if x22 = true then (some false) else (zau.l0 k x2 0 x246000 x246001 x246002 x246003)
def zau.l0 : Nat → List (S38) → Int → List Int → Int → Bool → Bool → Option (Bool)
 | 0, _, _, _, _, _, _ => none
 | k + 1, x2, x8, x246000, x246001, x246002, x246003 => if x8 < (x2.length : Int) then (if 0 ≤ x8 then (if x8 < (x246000.length : Int) then ((zaz.f k (rd x246000 x8) ((zap x2 x8).f0) ((zap x2 x8).f1) ((zap x2 x8).f2)).bind fun t248 => (if t248 = true then (zau.l0 k x2 (wrap64 (x8 + 1)) x246000 x246001 x246002 x246003) else (some false))) else (none)) else (none)) else (some true)
end
def zau.f (k : Nat) (a0 : Int) (a1 : Int) (l2 : List (S38)) : Option (Bool) := (zak.f k a0 a1).bind fun bt239 => (if bt239.2.2.2 = true then (zau.j0 k l2 ((l2.length : Int) != (bt239.1.length : Int)) bt239.1 bt239.2.1 bt239.2.2.1 bt239.2.2.2) else (zau.j0 k l2 true bt239.1 bt239.2.1 bt239.2.2.1 bt239.2.2.2))
def zau.T7 : Bool × List (List Nat × List Nat) := (true, [([], []), ([0], [0]), ([], []), ([1, 2], [1, 2]), ([3], [3]), ([], []), ([], []), ([5, 6], [5, 6]), ([7], [7]), ([4, 8], [4, 8]), ([9], [9])])
def zau.B7 : List Nat := [0, 1, 0, 7, 15, 0, 0, 96, 224, 511, 1023]
theorem zau.tab7 : rtab .any (opsOf Tryd.f36 7) = zau.T7 := by kernel_rfl
theorem zau.bits7 : waitsOk zau.T7.2 zau.B7 = true := by kernel_rfl
set_option maxHeartbeats 8000000 in
set_option maxRecDepth 100000 in
theorem zau.calls (k : Nat) (a0 : Int) (a1 : Int) (A2 : Option Addr) (c2 : Nat) (l2 : List (S38)) (r : Bool) (w : World) (hr2 : Kd.C k38 w A2 l2.length l2) (hc2 : l2.length ≤ c2) (h : zau.f k a0 a1 l2 = some r) :
  Calls Tryd.prog 36 #[.int .i64 a0, .int .i64 a1, .slice A2 l2.length c2] w fun e w' => e = .returned (.bool r) ∧ Below w.heap.size w w' := by
 have hu72 := Tryd.underlying72
 have hu38 := Tryd.underlying38
 have HR2 := zad.mk hr2
 have HC2 := zad.mk hc2
 clear hr2 hc2
 have HB := zad.mk (Below.refl w.heap.size w)
 have H : ((zak.f k a0 a1).bind fun bt239 => (if bt239.2.2.2 = true then (zau.j0 k l2 ((l2.length : Int) != (bt239.1.length : Int)) bt239.1 bt239.2.1 bt239.2.2.1 bt239.2.2.2) else (zau.j0 k l2 true bt239.1 bt239.2.1 bt239.2.2.1 bt239.2.2.2))) = some r := h
 clear h
 replace H := Option.bind_eq_some_iff.mp H
 obtain ⟨⟨t239, t242, t243, t244⟩, A40, H⟩ := H
 replace H : (if t244 = true then (zau.j0 k l2 ((l2.length : Int) != (t239.length : Int)) t239 t242 t243 t244) else (zau.j0 k l2 true t239 t242 t243 t244)) = some r := H
 have A4 := zad.mk A40
 clear A40
 have HC5 := zad.mk H
 clear H
 go_enter Tryd.func36, Tryd.ntmps36
 go_upto_region 2 with (first | ((with_reducible refine za0 (f := 38) rfl ?_); refine zbq (some 11) rfl rfl Tryd.func38 (by kernel_rfl) rfl #[.int .i64 a0, .int .i64 a1] rfl (by (try simp only [List.map_toArray, List.map_cons, List.map_nil]); first | done | rfl | (simp only [List.length_drop, List.length_take]; rfl)) ?_; (with_reducible refine (zak.calls k a0 a1 t239 t242 t243 t244 _ A4.out).mono ?_); rintro e w6 ⟨v240, rfl, ho0, hb⟩; refine ⟨_, rfl, ?_⟩; have n0_ := zad.mk (Kd.zb5 ho0 (zas (by repeat (first | (with_reducible first | exact HB.out | apply zac | apply zaa | apply zab) | exact HB.out)))); have n1_ := zad.mk (zaq (by repeat (first | (with_reducible first | exact HB.out | apply zac | apply zaa | apply zab) | exact HB.out)) hb); clear HB; have HO241 := n0_; have HB := n1_; clear n0_ n1_; (try clear hb); (try clear hb2); (try clear hk); (try clear hi); (try clear ho0)) | ((with_reducible refine za7 (N := 7) rfl ?_); (try (refine zb6 (by rfl) ?_; dsimp only)); refine za8 ?hg (N := 7) ?hd (cs := #[.slice none 0 0, .int .i64 0, .bool false, .bool false]) (t := 72) ?hr ?_; (case hd => rfl); (case hg => rfl); (case hr => first | (go_simp; done) | (go_simp; rfl)); intro gb245 hg w7 hbox hb; have n0_ := zad.mk (Kd.zb0 (by (with_reducible repeat (first | apply Kd.R_alloc | apply Kd.zbf | apply Kd.zbk)); exact HO241.out) hb); have n1_ := zad.mk (zaq (by repeat (first | (with_reducible first | exact HB.out | apply zac | apply zaa | apply zab) | exact HB.out)) hb); have n2_ := zad.mk (hbox); have n3_ := zad.mk ((by rw [hg]; exact (zas (by repeat (first | (with_reducible first | exact HB.out | apply zac | apply zaa | apply zab) | exact HB.out))) : w.heap.size ≤ gb245)); have n4_ := zad.mk ((by rw [hg]; exact (zas (by repeat (first | (with_reducible first | exact HB.out | apply zac | apply zaa | apply zab) | exact HB.out))) : w.heap.size ≤ gb245)); clear HO241; clear HB; have HO241 := n0_; have HB := n1_; have BK245 := n2_; have GW245 := n3_; have GE245 := n4_; clear n0_ n1_ n2_ n3_ n4_; clear hb hbox hg; obtain ⟨Ao8, co8, eo8⟩ := Kd.zb9 HO241.out; subst eo8; obtain ⟨hcz9_0, hcz9_1, hcz9_2, hcz9_3⟩ := cq4 BK245.out; obtain ⟨hfz9_0, hfz9_1, hfz9_2, hfz9_3⟩ := fq4 BK245.out))
 (try simp only [Act.put, List.setIfInBounds_toArray, List.set_cons_zero, List.set_cons_succ])
 go_cut [22] (fun v22 wc => ∃ (kq : Nat) (x22_4 : Bool), v22 = .bool x22_4 ∧ zad (zau.j0 kq l2 x22_4 t239 t242 t243 t244 = some r) ∧ zad (kq ≤ k) ∧ zad (Kd.R (Kd.int .i64) 3 wc w.heap.size (fun _ => True) (.slice Ao8 t239.length co8) t239) ∧ zad (wc.heap[gb245]? = some (.cells #[(.slice Ao8 t239.length co8), .int .i64 t242, .bool t243, .bool t244] 72 (0, 0))) ∧ zad (Below w.heap.size w wc))
 case first =>
  have H := HC5.out
  clear HC5
  by_cases c10 : t244 = true
  ·subst c10
   have H1 : (zau.j0 k l2 ((l2.length : Int) != (t239.length : Int)) t239 t242 t243 true) = some r := by rw [if_pos rfl] at H; exact H
   clear H
   have H := H1
   clear H1
   have H' := zad.mk H
   clear H
   obtain ⟨hcz11_0, hcz11_1, hcz11_2, hcz11_3⟩ := cq4 BK245.out
   obtain ⟨hfz11_0, hfz11_1, hfz11_2, hfz11_3⟩ := fq4 BK245.out
   go_wp2
   go_meet
   case rel => exact ⟨_, (((l2.length : Int) != (t239.length : Int))), (by first | rfl | (simp; done) | (simp [*]; done)), H', ⟨by first | omega | exact Nat.le_refl _⟩, ⟨by (with_reducible repeat (first | apply Kd.R_alloc | apply Kd.zbf | apply Kd.zbk)); exact Kd.zb2 (Kd.R_far (p := ⟨gb245, 3, none⟩) (Kd.R_far (p := ⟨gb245, 2, none⟩) (Kd.R_far (p := ⟨gb245, 1, none⟩) (Kd.R_far (p := ⟨gb245, 0, none⟩) (Kd.zca HO241.out BK245.out (by decide)) (fun _ hk => hk.2) (.slice Ao8 t239.length co8)) (fun _ hk => hk.2) (.int .i64 t242)) (fun _ hk => hk.2) (.bool t243)) (fun _ hk => hk.2) (.bool true)) (fun _ hk => trivial)⟩, ⟨by (with_reducible repeat (first | refine zah ?_ _ | refine zaj ?_ | refine zai ?_ _)); refine pq4 (.slice none 0 0) (.int .i64 0) (.bool false) (.bool false) ?_; (with_reducible repeat (first | refine zah ?_ _ | refine zaj ?_ | refine zai ?_ _)); exact BK245.out⟩, ⟨by repeat (first | (with_reducible first | exact HB.out | apply zac | apply zaa | apply zab | refine zaf ?_ GE245.out) | exact HB.out)⟩⟩
  ·replace c10 := Bool.eq_false_iff.mpr c10
   subst c10
   have H1 : (zau.j0 k l2 true t239 t242 t243 false) = some r := by rw [if_neg (show ¬ (false = true) by decide)] at H; exact H
   clear H
   have H := H1
   clear H1
   have H' := zad.mk H
   clear H
   obtain ⟨hcz12_0, hcz12_1, hcz12_2, hcz12_3⟩ := cq4 BK245.out
   obtain ⟨hfz12_0, hfz12_1, hfz12_2, hfz12_3⟩ := fq4 BK245.out
   go_wp2
   go_meet
   case rel => exact ⟨_, (true), (by first | rfl | (simp; done) | (simp [*]; done)), H', ⟨by first | omega | exact Nat.le_refl _⟩, ⟨by (with_reducible repeat (first | apply Kd.R_alloc | apply Kd.zbf | apply Kd.zbk)); exact Kd.zb2 (Kd.R_far (p := ⟨gb245, 3, none⟩) (Kd.R_far (p := ⟨gb245, 2, none⟩) (Kd.R_far (p := ⟨gb245, 1, none⟩) (Kd.R_far (p := ⟨gb245, 0, none⟩) (Kd.zca HO241.out BK245.out (by decide)) (fun _ hk => hk.2) (.slice Ao8 t239.length co8)) (fun _ hk => hk.2) (.int .i64 t242)) (fun _ hk => hk.2) (.bool t243)) (fun _ hk => hk.2) (.bool false)) (fun _ hk => trivial)⟩, ⟨by (with_reducible repeat (first | refine zah ?_ _ | refine zaj ?_ | refine zai ?_ _)); refine pq4 (.slice none 0 0) (.int .i64 0) (.bool false) (.bool false) ?_; (with_reducible repeat (first | refine zah ?_ _ | refine zaj ?_ | refine zai ?_ _)); exact BK245.out⟩, ⟨by repeat (first | (with_reducible first | exact HB.out | apply zac | apply zaa | apply zab | refine zaf ?_ GE245.out) | exact HB.out)⟩⟩
 case rest =>
  clear HC5
  try clear c1
  try clear c2
  try clear p2
  try clear c3
  try clear c10
  try clear hcz11_0 hcz11_1 hcz11_2 hcz11_3
  try clear hcz12_0 hcz12_1 hcz12_2 hcz12_3
  try clear hcz9_0 hcz9_1 hcz9_2 hcz9_3
  try clear hfz11_0 hfz11_1 hfz11_2 hfz11_3
  try clear hfz12_0 hfz12_1 hfz12_2 hfz12_3
  try clear hfz9_0 hfz9_1 hfz9_2 hfz9_3
  obtain ⟨kq, x22_4, rfl, HA, HJ4, HO_246000, BK245, HB⟩ := hcut
  cases kq with
  | zero => exact absurd HA.out (by simp [zau.j0])
  | succ kj4 =>
   have H := HA.out
   clear HA
   simp only [zau.j0] at H
   by_cases c13 : x22_4 = true
   ·subst c13
    have H1 : (some false) = some r := by rw [if_pos rfl] at H; exact H
    clear H
    have H := H1
    clear H1
    obtain rfl := Option.some.inj H
    go_wp2
    go_ret
    exact ⟨by first | rfl | (simp [zam, zal] <;> rfl) | (simp [*, zam, zal] <;> rfl), by repeat (first | (with_reducible first | exact HB.out | apply zac | apply zaa | apply zab | refine zaf ?_ GE245.out) | exact HB.out)⟩
   ·replace c13 := Bool.eq_false_iff.mpr c13
    subst c13
    have H1 : (zau.l0 kj4 l2 0 t239 t242 t243 t244) = some r := by rw [if_neg (show ¬ (false = true) by decide)] at H; exact H
    clear H
    have H := H1
    clear H1
    have H' := zad.mk H
    clear H
    go_wp2
    go_loopg [8] kj4 (fun kq v8 w' => ∃ (x8_2 : Int), v8 = .int .i64 x8_2 ∧ zad (zau.l0 kq l2 x8_2 t239 t242 t243 t244 = some r) ∧ zad (kq ≤ kj4) ∧ zad (Kd.R (Kd.int .i64) 3 w' w.heap.size (fun _ => True) (.slice Ao8 t239.length co8) t239) ∧ zad (w'.heap[gb245]? = some (.cells #[(.slice Ao8 t239.length co8), .int .i64 t242, .bool t243, .bool t244] 72 (0, 0))) ∧ zad (Below w.heap.size w w'))
    case atStart => exact ⟨(0), (by first | rfl | (simp; done) | (simp [*]; done)), H', ⟨Nat.le_refl _⟩, ⟨by (with_reducible repeat (first | apply Kd.R_alloc | apply Kd.zbf | apply Kd.zbk)); exact HO_246000.out⟩, ⟨by (with_reducible repeat (first | refine zah ?_ _ | refine zaj ?_ | refine zai ?_ _)); exact BK245.out⟩, ⟨by repeat (first | (with_reducible first | exact HB.out | apply zac | apply zaa | apply zab | refine zaf ?_ GE245.out) | exact HB.out)⟩⟩
    case round =>
     clear H'
     try clear c1
     try clear c2
     try clear p2 p2
     try clear c3
     try clear c10
     try clear c13
     try clear hcz11_0 hcz11_1 hcz11_2 hcz11_3
     try clear hcz12_0 hcz12_1 hcz12_2 hcz12_3
     try clear hcz9_0 hcz9_1 hcz9_2 hcz9_3
     try clear hfz11_0 hfz11_1 hfz11_2 hfz11_3
     try clear hfz12_0 hfz12_1 hfz12_2 hfz12_3
     try clear hfz9_0 hfz9_1 hfz9_2 hfz9_3
     obtain ⟨x8_2, rfl, HA, HK2, HO_246000, BK245, HB⟩ := hrel
     cases gk with
     | zero => exact absurd HA.out (by simp [zau.l0])
     | succ k2 =>
      have H := HA.out
      clear HA
      simp only [zau.l0] at H
      by_cases c14 : x8_2 < (l2.length : Int)
      ·rw [if_pos c14] at H
       have c14b0 : decide (x8_2 < (l2.length : Int)) = true := decide_eq_true c14
       clear c14
       by_cases c15 : 0 ≤ x8_2
       ·rw [if_pos c15] at H
        have c15b0 : decide (0 ≤ x8_2) = true := decide_eq_true c15
        clear c15
        by_cases c16 : x8_2 < (t239.length : Int)
        ·rw [if_pos c16] at H
         have c16b0 : decide (x8_2 < (t239.length : Int)) = true := decide_eq_true c16
         clear c16
         replace H := Option.bind_eq_some_iff.mp H
         obtain ⟨t248, A170, H⟩ := H
         replace H : (if t248 = true then (zau.l0 k2 l2 (wrap64 (x8_2 + 1)) t239 t242 t243 t244) else (some false)) = some r := H
         have A17 := zad.mk A170
         clear A170
         by_cases c18 : t248 = true
         ·subst c18
          have H1 : (zau.l0 k2 l2 (wrap64 (x8_2 + 1)) t239 t242 t243 t244) = some r := by rw [if_pos rfl] at H; exact H
          clear H
          have H := H1
          clear H1
          have H' := zad.mk H
          clear H
          try go_wp2
          have n0_ := zad.mk (Kd.zbk HO_246000.out)
          have n1_ := zad.mk (zaj BK245.out)
          have n2_ := zad.mk (zab HB.out)
          clear HO_246000
          clear BK245
          clear HB
          have HO_246000 := n0_
          have BK245 := n1_
          have HB := n2_
          clear n0_ n1_ n2_
          have p246 : 0 ≤ (x8_2 : Int) := of_decide_eq_true (by first | (with_reducible assumption) | assumption)
          have q246 : x8_2 < (t239.length : Int) := of_decide_eq_true (by first | (with_reducible assumption) | assumption)
          obtain ⟨ad246, e246, hx246_0⟩ := Kd.at_int (Kd.R_reads' HO_246000.out).2.2 x8_2 p246 q246
          cases e246
          replace p246 := eq_true p246
          replace q246 := eq_true q246
          have p247 : 0 ≤ (x8_2 : Int) := of_decide_eq_true (by first | (with_reducible assumption) | assumption)
          have q247 : x8_2 < (l2.length : Int) := of_decide_eq_true (by first | (with_reducible assumption) | assumption)
          obtain ⟨ad247, e247, hx247_0, hx247_1, hx247_2⟩ := zce HR2.out x8_2 p247 q247
          have hw247_2 := hx247_2
          have hw247_1 := hx247_1
          have hw247_0 := hx247_0
          cases e247
          replace hx247_0 := (HB.out.cell (World.block_lt_of_cell? w _ hx247_0)).trans hx247_0
          replace hx247_1 := (HB.out.cell (World.block_lt_of_cell? w _ hx247_1)).trans hx247_1
          replace hx247_2 := (HB.out.cell (World.block_lt_of_cell? w _ hx247_2)).trans hx247_2
          replace p247 := eq_true p247
          replace q247 := eq_true q247
          refine zcl (n := 11) (S := fun w' => w'.cell? ⟨gb245, 0, none⟩ = some (.slice (some ad246) t239.length co8) ∧ w'.cell? ⟨gb245, 1, none⟩ = some (.int .i64 t242) ∧ w'.cell? ⟨gb245, 2, none⟩ = some (.bool t243) ∧ w'.cell? ⟨gb245, 3, none⟩ = some (.bool t244) ∧ w'.cell? (ad246.add (x8_2).toNat) = some (.int .i64 (rd t239 x8_2)) ∧ w'.cell? (ad247.add ((x8_2).toNat * 3)) = some (.int .i64 ((zap l2 x8_2).f0)) ∧ w'.cell? ⟨(ad247.add ((x8_2).toNat * 3)).block, (ad247.add ((x8_2).toNat * 3)).off + 1, none⟩ = some (.int .i64 ((zap l2 x8_2).f1)) ∧ w'.cell? ⟨(ad247.add ((x8_2).toNat * 3)).block, (ad247.add ((x8_2).toNat * 3)).off + 2, none⟩ = some (.string ((zap l2 x8_2).f2))) (ds := []) #[false, false, false, false, false, false, false, false, false, false, false] (by kernel_rfl) rfl rfl ⟨(zae BK245.out 0).trans rfl, (zae BK245.out 1).trans rfl, (zae BK245.out 2).trans rfl, (zae BK245.out 3).trans rfl, hx246_0, ((HB.out.cell (World.block_lt_of_cell? w _ hw247_0)).trans hw247_0), ((HB.out.cell (World.block_lt_of_cell? w _ hw247_1)).trans hw247_1), ((HB.out.cell (World.block_lt_of_cell? w _ hw247_2)).trans hw247_2)⟩ (fun hHeld => ?_); refine zcc zau.tab7 zau.bits7 (fun HT_ HW_ => ?_)
          generalize wr.drew = w19 at HO_246000 BK245 HB hx246_0 hx247_0 hx247_1 hx247_2 hHeld ⊢
          refine pure_ (i := 0) (N := some 29) (v := ?_) (a' := ?_) #[true, false, false, false, false, false, false, false, false, false, false] rfl rfl (zax HT_.out (by kernel_rfl)) (fun _ _ _ h => h) (Or.inl ⟨by rfl, ?_⟩) ?_ ?_; rotate_left; (intro w'; go_simp; with_reducible rfl); rotate_left; (simp only [Act.put, List.setIfInBounds_toArray, List.set_cons_zero, List.set_cons_succ, i64_w]; rfl)
          refine pure_ (i := 2) (N := some 31) (v := ?_) (a' := ?_) #[true, false, true, false, false, false, false, false, false, false, false] rfl rfl (zax HT_.out (by kernel_rfl)) (fun _ _ _ h => h) (Or.inl ⟨by rfl, ?_⟩) ?_ ?_; rotate_left; (intro w'; go_simp; with_reducible rfl); rotate_left; (simp only [Act.put, List.setIfInBounds_toArray, List.set_cons_zero, List.set_cons_succ, i64_w]; rfl)
          refine pure_ (i := 5) (N := some 34) (v := ?_) (a' := ?_) #[true, false, true, false, false, true, false, false, false, false, false] rfl rfl (zax HT_.out (by kernel_rfl)) (fun _ _ _ h => h) (Or.inl ⟨by rfl, ?_⟩) ?_ ?_; rotate_left; (intro w'; go_simp; with_reducible rfl); rotate_left; (simp only [Act.put, List.setIfInBounds_toArray, List.set_cons_zero, List.set_cons_succ, i64_w]; rfl)
          refine pure_ (i := 6) (N := some 35) (v := ?_) (a' := ?_) #[true, false, true, false, false, true, true, false, false, false, false] rfl rfl (zax HT_.out (by kernel_rfl)) (fun _ _ _ h => h) (Or.inl ⟨by rfl, ?_⟩) ?_ ?_; rotate_left; (intro w'; go_simp; with_reducible rfl); rotate_left; (simp only [Act.put, List.setIfInBounds_toArray, List.set_cons_zero, List.set_cons_succ, i64_w]; rfl)
          refine pure_ (i := 7) (N := some 36) (v := ?_) (a' := ?_) #[true, false, true, false, false, true, true, true, false, false, false] rfl rfl (zax HT_.out (by kernel_rfl)) (fun _ _ _ h => h) (Or.inl ⟨by rfl, ?_⟩) ?_ ?_; rotate_left; (intro w'; go_simp; with_reducible rfl); rotate_left; (simp only [Act.put, List.setIfInBounds_toArray, List.set_cons_zero, List.set_cons_succ, i64_w]; rfl)
          refine take_ (i := 1) (N := some 30) (v := ?_) (a' := ?_) #[true, true, true, false, false, true, true, true, false, false, false] rfl rfl (zbo HT_.out HW_.out (by kernel_rfl)) (fun _ _ _ h => h) (Or.inl ⟨by rfl, ?_⟩) hHeld ?_ ?_; rotate_left; (rintro w' ⟨s0, s1, s2, s3, s4, s5, s6, s7⟩; go_simp; with_reducible rfl); rotate_left; (simp only [Act.put, List.setIfInBounds_toArray, List.set_cons_zero, List.set_cons_succ, i64_w]; rfl)
          refine pure_ (i := 3) (N := some 32) (v := ?_) (a' := ?_) #[true, true, true, true, false, true, true, true, false, false, false] rfl rfl (zax HT_.out (by kernel_rfl)) (fun _ _ _ h => h) (Or.inl ⟨by rfl, ?_⟩) ?_ ?_; rotate_left; (intro w'; go_simp; with_reducible rfl); rotate_left; (simp only [Act.put, List.setIfInBounds_toArray, List.set_cons_zero, List.set_cons_succ, i64_w]; rfl)
          refine take_ (i := 4) (N := some 33) (v := ?_) (a' := ?_) #[true, true, true, true, true, true, true, true, false, false, false] rfl rfl (zbo HT_.out HW_.out (by kernel_rfl)) (fun _ _ _ h => h) (Or.inl ⟨by rfl, ?_⟩) hHeld ?_ ?_; rotate_left; (rintro w' ⟨s0, s1, s2, s3, s4, s5, s6, s7⟩; go_simp; with_reducible rfl); rotate_left; (simp only [Act.put, List.setIfInBounds_toArray, List.set_cons_zero, List.set_cons_succ, i64_w]; rfl)
          refine take_ (i := 8) (N := some 37) (v := ?_) (a' := ?_) #[true, true, true, true, true, true, true, true, true, false, false] rfl rfl (zbo HT_.out HW_.out (by kernel_rfl)) (fun _ _ _ h => h) (Or.inl ⟨by rfl, ?_⟩) hHeld ?_ ?_; rotate_left; (rintro w' ⟨s0, s1, s2, s3, s4, s5, s6, s7⟩; go_simp; with_reducible rfl); rotate_left; (simp only [Act.put, List.setIfInBounds_toArray, List.set_cons_zero, List.set_cons_succ, i64_w]; rfl)
          refine one_ (i := 9) (N := some 38) #[true, true, true, true, true, true, true, true, true, true, false] rfl rfl (one_of HT_.out (by kernel_rfl)) (by decide) (fun K hK => ?_)
          refine goes_ Tryd.func39 (by kernel_rfl) rfl #[.int .i64 (rd t239 x8_2), .agg #[.int .i64 ((zap l2 x8_2).f0), .int .i64 ((zap l2 x8_2).f1), .string ((zap l2 x8_2).f2)]] (by rfl) rfl rfl (by (try simp only [List.map_toArray, List.map_cons, List.map_nil]); first | done | rfl | (simp only [List.length_drop, List.length_take]; rfl)) ?_
          with_reducible refine (zaz.calls k2 (rd t239 x8_2) ((zap l2 x8_2).f0) ((zap l2 x8_2).f1) ((zap l2 x8_2).f2) true _ A17.out).mono ?_
          rintro e w20 ⟨rfl, hb⟩
          have HS4_ := (hb.cell (World.block_lt_of_cell? _ _ (hHeld.2.2.2.2.1))).trans (hHeld.2.2.2.2.1)
          refine ⟨_, rfl, ?_⟩
          have n0_ := zad.mk (Kd.zb0 (by (with_reducible repeat (first | apply Kd.R_alloc | apply Kd.zbf | apply Kd.zbk)); exact HO_246000.out) hb)
          have n1_ := zad.mk (zav (g := gb245) (o := .cells #[.slice (some ad246) t239.length co8, .int .i64 t242, .bool t243, .bool t244] 72 (0, 0)) (by (with_reducible repeat (first | refine zah ?_ _ | refine zaj ?_ | refine zai ?_ _)); exact BK245.out) hb)
          have n2_ := zad.mk (zaq (by repeat (first | (with_reducible first | exact HB.out | apply zac | apply zaa | apply zab | refine zaf ?_ GE245.out) | exact HB.out)) hb)
          clear HO_246000
          clear BK245
          clear HB
          have HO_246000 := n0_
          have BK245 := n1_
          have HB := n2_
          clear n0_ n1_ n2_
          try clear hb
          try clear hb2
          try clear hk
          try clear hi
          refine hK.out _ _ ⟨(zae BK245.out 0).trans rfl, (zae BK245.out 1).trans rfl, (zae BK245.out 2).trans rfl, (zae BK245.out 3).trans rfl, HS4_, ((HB.out.cell (World.block_lt_of_cell? w _ hw247_0)).trans hw247_0), ((HB.out.cell (World.block_lt_of_cell? w _ hw247_1)).trans hw247_1), ((HB.out.cell (World.block_lt_of_cell? w _ hw247_2)).trans hw247_2)⟩ (fun hHeld => ?_)
          clear hK K
          refine norm_ (a' := ?_) ?_ ?_
          rotate_left
          ·show Act.put _ (some 38) _ = _
           simp only [Act.put, List.setIfInBounds_toArray, List.set_cons_zero, List.set_cons_succ, i64_w]
           rfl
          refine pure_ (i := 10) (N := some 39) (v := ?_) (a' := ?_) #[true, true, true, true, true, true, true, true, true, true, true] rfl rfl (zax HT_.out (by kernel_rfl)) (fun _ _ _ h => h) (Or.inl ⟨by rfl, ?_⟩) ?_ ?_; rotate_left; (intro w'; go_simp; with_reducible rfl); rotate_left; (simp only [Act.put, List.setIfInBounds_toArray, List.set_cons_zero, List.set_cons_succ, i64_w]; rfl)
          refine done_ (zcp HT_.out (by kernel_rfl)) ?_
          try go_wp2
          go_roundg k2
          case measure => have := HJ4.out; have := HK2.out; omega
          case rel => exact ⟨(wrap64 (x8_2 + 1)), (by first | rfl | (simp; done) | (simp [*]; done)), H', ⟨by have := HJ4.out; have := HK2.out; omega⟩, ⟨by (with_reducible repeat (first | apply Kd.R_alloc | apply Kd.zbf | apply Kd.zbk)); exact HO_246000.out⟩, ⟨by (with_reducible repeat (first | refine zah ?_ _ | refine zaj ?_ | refine zai ?_ _)); exact BK245.out⟩, ⟨by repeat (first | (with_reducible first | exact HB.out | apply zac | apply zaa | apply zab | refine zaf ?_ GE245.out) | exact HB.out)⟩⟩
         ·replace c18 := Bool.eq_false_iff.mpr c18
          subst c18
          have H1 : (some false) = some r := by rw [if_neg (show ¬ (false = true) by decide)] at H; exact H
          clear H
          have H := H1
          clear H1
          obtain rfl := Option.some.inj H
          try go_wp2
          have n0_ := zad.mk (Kd.zbk HO_246000.out)
          have n1_ := zad.mk (zaj BK245.out)
          have n2_ := zad.mk (zab HB.out)
          clear HO_246000
          clear BK245
          clear HB
          have HO_246000 := n0_
          have BK245 := n1_
          have HB := n2_
          clear n0_ n1_ n2_
          have p246 : 0 ≤ (x8_2 : Int) := of_decide_eq_true (by first | (with_reducible assumption) | assumption)
          have q246 : x8_2 < (t239.length : Int) := of_decide_eq_true (by first | (with_reducible assumption) | assumption)
          obtain ⟨ad246, e246, hx246_0⟩ := Kd.at_int (Kd.R_reads' HO_246000.out).2.2 x8_2 p246 q246
          cases e246
          replace p246 := eq_true p246
          replace q246 := eq_true q246
          have p247 : 0 ≤ (x8_2 : Int) := of_decide_eq_true (by first | (with_reducible assumption) | assumption)
          have q247 : x8_2 < (l2.length : Int) := of_decide_eq_true (by first | (with_reducible assumption) | assumption)
          obtain ⟨ad247, e247, hx247_0, hx247_1, hx247_2⟩ := zce HR2.out x8_2 p247 q247
          have hw247_2 := hx247_2
          have hw247_1 := hx247_1
          have hw247_0 := hx247_0
          cases e247
          replace hx247_0 := (HB.out.cell (World.block_lt_of_cell? w _ hx247_0)).trans hx247_0
          replace hx247_1 := (HB.out.cell (World.block_lt_of_cell? w _ hx247_1)).trans hx247_1
          replace hx247_2 := (HB.out.cell (World.block_lt_of_cell? w _ hx247_2)).trans hx247_2
          replace p247 := eq_true p247
          replace q247 := eq_true q247
          refine zcl (n := 11) (S := fun w' => w'.cell? ⟨gb245, 0, none⟩ = some (.slice (some ad246) t239.length co8) ∧ w'.cell? ⟨gb245, 1, none⟩ = some (.int .i64 t242) ∧ w'.cell? ⟨gb245, 2, none⟩ = some (.bool t243) ∧ w'.cell? ⟨gb245, 3, none⟩ = some (.bool t244) ∧ w'.cell? (ad246.add (x8_2).toNat) = some (.int .i64 (rd t239 x8_2)) ∧ w'.cell? (ad247.add ((x8_2).toNat * 3)) = some (.int .i64 ((zap l2 x8_2).f0)) ∧ w'.cell? ⟨(ad247.add ((x8_2).toNat * 3)).block, (ad247.add ((x8_2).toNat * 3)).off + 1, none⟩ = some (.int .i64 ((zap l2 x8_2).f1)) ∧ w'.cell? ⟨(ad247.add ((x8_2).toNat * 3)).block, (ad247.add ((x8_2).toNat * 3)).off + 2, none⟩ = some (.string ((zap l2 x8_2).f2))) (ds := []) #[false, false, false, false, false, false, false, false, false, false, false] (by kernel_rfl) rfl rfl ⟨(zae BK245.out 0).trans rfl, (zae BK245.out 1).trans rfl, (zae BK245.out 2).trans rfl, (zae BK245.out 3).trans rfl, hx246_0, ((HB.out.cell (World.block_lt_of_cell? w _ hw247_0)).trans hw247_0), ((HB.out.cell (World.block_lt_of_cell? w _ hw247_1)).trans hw247_1), ((HB.out.cell (World.block_lt_of_cell? w _ hw247_2)).trans hw247_2)⟩ (fun hHeld => ?_); refine zcc zau.tab7 zau.bits7 (fun HT_ HW_ => ?_)
          generalize wr.drew = w21 at HO_246000 BK245 HB hx246_0 hx247_0 hx247_1 hx247_2 hHeld ⊢
          refine pure_ (i := 0) (N := some 29) (v := ?_) (a' := ?_) #[true, false, false, false, false, false, false, false, false, false, false] rfl rfl (zax HT_.out (by kernel_rfl)) (fun _ _ _ h => h) (Or.inl ⟨by rfl, ?_⟩) ?_ ?_; rotate_left; (intro w'; go_simp; with_reducible rfl); rotate_left; (simp only [Act.put, List.setIfInBounds_toArray, List.set_cons_zero, List.set_cons_succ, i64_w]; rfl)
          refine pure_ (i := 2) (N := some 31) (v := ?_) (a' := ?_) #[true, false, true, false, false, false, false, false, false, false, false] rfl rfl (zax HT_.out (by kernel_rfl)) (fun _ _ _ h => h) (Or.inl ⟨by rfl, ?_⟩) ?_ ?_; rotate_left; (intro w'; go_simp; with_reducible rfl); rotate_left; (simp only [Act.put, List.setIfInBounds_toArray, List.set_cons_zero, List.set_cons_succ, i64_w]; rfl)
          refine pure_ (i := 5) (N := some 34) (v := ?_) (a' := ?_) #[true, false, true, false, false, true, false, false, false, false, false] rfl rfl (zax HT_.out (by kernel_rfl)) (fun _ _ _ h => h) (Or.inl ⟨by rfl, ?_⟩) ?_ ?_; rotate_left; (intro w'; go_simp; with_reducible rfl); rotate_left; (simp only [Act.put, List.setIfInBounds_toArray, List.set_cons_zero, List.set_cons_succ, i64_w]; rfl)
          refine pure_ (i := 6) (N := some 35) (v := ?_) (a' := ?_) #[true, false, true, false, false, true, true, false, false, false, false] rfl rfl (zax HT_.out (by kernel_rfl)) (fun _ _ _ h => h) (Or.inl ⟨by rfl, ?_⟩) ?_ ?_; rotate_left; (intro w'; go_simp; with_reducible rfl); rotate_left; (simp only [Act.put, List.setIfInBounds_toArray, List.set_cons_zero, List.set_cons_succ, i64_w]; rfl)
          refine pure_ (i := 7) (N := some 36) (v := ?_) (a' := ?_) #[true, false, true, false, false, true, true, true, false, false, false] rfl rfl (zax HT_.out (by kernel_rfl)) (fun _ _ _ h => h) (Or.inl ⟨by rfl, ?_⟩) ?_ ?_; rotate_left; (intro w'; go_simp; with_reducible rfl); rotate_left; (simp only [Act.put, List.setIfInBounds_toArray, List.set_cons_zero, List.set_cons_succ, i64_w]; rfl)
          refine take_ (i := 1) (N := some 30) (v := ?_) (a' := ?_) #[true, true, true, false, false, true, true, true, false, false, false] rfl rfl (zbo HT_.out HW_.out (by kernel_rfl)) (fun _ _ _ h => h) (Or.inl ⟨by rfl, ?_⟩) hHeld ?_ ?_; rotate_left; (rintro w' ⟨s0, s1, s2, s3, s4, s5, s6, s7⟩; go_simp; with_reducible rfl); rotate_left; (simp only [Act.put, List.setIfInBounds_toArray, List.set_cons_zero, List.set_cons_succ, i64_w]; rfl)
          refine pure_ (i := 3) (N := some 32) (v := ?_) (a' := ?_) #[true, true, true, true, false, true, true, true, false, false, false] rfl rfl (zax HT_.out (by kernel_rfl)) (fun _ _ _ h => h) (Or.inl ⟨by rfl, ?_⟩) ?_ ?_; rotate_left; (intro w'; go_simp; with_reducible rfl); rotate_left; (simp only [Act.put, List.setIfInBounds_toArray, List.set_cons_zero, List.set_cons_succ, i64_w]; rfl)
          refine take_ (i := 4) (N := some 33) (v := ?_) (a' := ?_) #[true, true, true, true, true, true, true, true, false, false, false] rfl rfl (zbo HT_.out HW_.out (by kernel_rfl)) (fun _ _ _ h => h) (Or.inl ⟨by rfl, ?_⟩) hHeld ?_ ?_; rotate_left; (rintro w' ⟨s0, s1, s2, s3, s4, s5, s6, s7⟩; go_simp; with_reducible rfl); rotate_left; (simp only [Act.put, List.setIfInBounds_toArray, List.set_cons_zero, List.set_cons_succ, i64_w]; rfl)
          refine take_ (i := 8) (N := some 37) (v := ?_) (a' := ?_) #[true, true, true, true, true, true, true, true, true, false, false] rfl rfl (zbo HT_.out HW_.out (by kernel_rfl)) (fun _ _ _ h => h) (Or.inl ⟨by rfl, ?_⟩) hHeld ?_ ?_; rotate_left; (rintro w' ⟨s0, s1, s2, s3, s4, s5, s6, s7⟩; go_simp; with_reducible rfl); rotate_left; (simp only [Act.put, List.setIfInBounds_toArray, List.set_cons_zero, List.set_cons_succ, i64_w]; rfl)
          refine one_ (i := 9) (N := some 38) #[true, true, true, true, true, true, true, true, true, true, false] rfl rfl (one_of HT_.out (by kernel_rfl)) (by decide) (fun K hK => ?_)
          refine goes_ Tryd.func39 (by kernel_rfl) rfl #[.int .i64 (rd t239 x8_2), .agg #[.int .i64 ((zap l2 x8_2).f0), .int .i64 ((zap l2 x8_2).f1), .string ((zap l2 x8_2).f2)]] (by rfl) rfl rfl (by (try simp only [List.map_toArray, List.map_cons, List.map_nil]); first | done | rfl | (simp only [List.length_drop, List.length_take]; rfl)) ?_
          with_reducible refine (zaz.calls k2 (rd t239 x8_2) ((zap l2 x8_2).f0) ((zap l2 x8_2).f1) ((zap l2 x8_2).f2) false _ A17.out).mono ?_
          rintro e w22 ⟨rfl, hb⟩
          have HS4_ := (hb.cell (World.block_lt_of_cell? _ _ (hHeld.2.2.2.2.1))).trans (hHeld.2.2.2.2.1)
          refine ⟨_, rfl, ?_⟩
          have n0_ := zad.mk (Kd.zb0 (by (with_reducible repeat (first | apply Kd.R_alloc | apply Kd.zbf | apply Kd.zbk)); exact HO_246000.out) hb)
          have n1_ := zad.mk (zav (g := gb245) (o := .cells #[.slice (some ad246) t239.length co8, .int .i64 t242, .bool t243, .bool t244] 72 (0, 0)) (by (with_reducible repeat (first | refine zah ?_ _ | refine zaj ?_ | refine zai ?_ _)); exact BK245.out) hb)
          have n2_ := zad.mk (zaq (by repeat (first | (with_reducible first | exact HB.out | apply zac | apply zaa | apply zab | refine zaf ?_ GE245.out) | exact HB.out)) hb)
          clear HO_246000
          clear BK245
          clear HB
          have HO_246000 := n0_
          have BK245 := n1_
          have HB := n2_
          clear n0_ n1_ n2_
          try clear hb
          try clear hb2
          try clear hk
          try clear hi
          refine hK.out _ _ ⟨(zae BK245.out 0).trans rfl, (zae BK245.out 1).trans rfl, (zae BK245.out 2).trans rfl, (zae BK245.out 3).trans rfl, HS4_, ((HB.out.cell (World.block_lt_of_cell? w _ hw247_0)).trans hw247_0), ((HB.out.cell (World.block_lt_of_cell? w _ hw247_1)).trans hw247_1), ((HB.out.cell (World.block_lt_of_cell? w _ hw247_2)).trans hw247_2)⟩ (fun hHeld => ?_)
          clear hK K
          refine norm_ (a' := ?_) ?_ ?_
          rotate_left
          ·show Act.put _ (some 38) _ = _
           simp only [Act.put, List.setIfInBounds_toArray, List.set_cons_zero, List.set_cons_succ, i64_w]
           rfl
          refine pure_ (i := 10) (N := some 39) (v := ?_) (a' := ?_) #[true, true, true, true, true, true, true, true, true, true, true] rfl rfl (zax HT_.out (by kernel_rfl)) (fun _ _ _ h => h) (Or.inl ⟨by rfl, ?_⟩) ?_ ?_; rotate_left; (intro w'; go_simp; with_reducible rfl); rotate_left; (simp only [Act.put, List.setIfInBounds_toArray, List.set_cons_zero, List.set_cons_succ, i64_w]; rfl)
          refine done_ (zcp HT_.out (by kernel_rfl)) ?_
          try go_wp2
          go_ret
          exact ⟨by first | rfl | (simp [zam, zal] <;> rfl) | (simp [*, zam, zal] <;> rfl), by repeat (first | (with_reducible first | exact HB.out | apply zac | apply zaa | apply zab | refine zaf ?_ GE245.out) | exact HB.out)⟩
        ·rw [if_neg c16] at H
         exact absurd H (by simp)
       ·rw [if_neg c15] at H
        exact absurd H (by simp)
      ·rw [if_neg c14] at H
       have c14b0 : decide (x8_2 < (l2.length : Int)) = false := decide_eq_false c14
       clear c14
       obtain rfl := Option.some.inj H
       go_wp2
       go_ret
       exact ⟨by first | rfl | (simp [zam, zal] <;> rfl) | (simp [*, zam, zal] <;> rfl), by repeat (first | (with_reducible first | exact HB.out | apply zac | apply zaa | apply zab | refine zaf ?_ GE245.out) | exact HB.out)⟩
end Go.Proofs.YtikmmigfdchcpaaDoor.PP
