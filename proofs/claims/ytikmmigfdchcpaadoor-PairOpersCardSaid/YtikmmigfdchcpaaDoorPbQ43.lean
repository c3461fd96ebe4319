/-
  Proved: a part of the proof of the claim's statement (text Q43 of it).
  Conditions: none of ours.
-/
import Derived.Test.YtikmmigfdchcpaaDoorPbQ0
import Derived.Test.YtikmmigfdchcpaaDoorPbQ41
import Derived.Test.YtikmmigfdchcpaaDoorPbQ42
namespace Go.Proofs.YtikmmigfdchcpaaDoor.PP
open Go.RowKit Go.Proofs.YtikmmigfdchcpaaDoorW.PrintWords Go.Proofs.YtikmmigfdchcpaaDoorW.PrintLast Go.Proofs.YtikmmigfdchcpaaDoorW.PrintMore
set_option linter.unusedVariables false
set_option linter.unusedSimpArgs false
/-! ### zaw: function 36 -/
mutual
def zaw.j0 : Nat → List (S38) → Bool → List Int → Int → Bool → Bool → Option (Bool)
 | 0, _, _, _, _, _, _ => none
 | k + 1, x2, x22, x246000, x246001, x246002, x246003 => if x22 = true then (some false) else (zaw.l0 k x2 0 x246000 x246001 x246002 x246003)
def zaw.l0 : Nat → List (S38) → Int → List Int → Int → Bool → Bool → Option (Bool)
 | 0, _, _, _, _, _, _ => none
 | k + 1, x2, x8, x246000, x246001, x246002, x246003 => if x8 < (x2.length : Int) then (if 0 ≤ x8 then (if x8 < (x246000.length : Int) then ((za1.f k (rd x246000 x8) ((zap x2 x8).f0) ((zap x2 x8).f1) ((zap x2 x8).f2)).bind fun t248 => (if t248 = true then (zaw.l0 k x2 (wrap64 (x8 + 1)) x246000 x246001 x246002 x246003) else (some false))) else (none)) else (none)) else (some true)
end
def zaw.f (k : Nat) (a0 : Int) (a1 : Int) (l2 : List (S38)) : Option (Bool) := (zan.f k a0 a1).bind fun bt239 => (if bt239.2.2.2 = true then (zaw.j0 k l2 ((l2.length : Int) != (bt239.1.length : Int)) bt239.1 bt239.2.1 bt239.2.2.1 bt239.2.2.2) else (zaw.j0 k l2 true bt239.1 bt239.2.1 bt239.2.2.1 bt239.2.2.2))
def zaw.T7 : Bool × List (List Nat × List Nat) := (true, [([], []), ([0], [0]), ([], []), ([1, 2], [1, 2]), ([3], [3]), ([], []), ([], []), ([5, 6], [5, 6]), ([7], [7]), ([4, 8], [4, 8]), ([9], [9])])
def zaw.B7 : List Nat := [0, 1, 0, 7, 15, 0, 0, 96, 224, 511, 1023]
theorem zaw.tab7 : rtab .any (opsOf Tryd.f36 7) = zaw.T7 := by kernel_rfl
theorem zaw.bits7 : waitsOk zaw.T7.2 zaw.B7 = true := by kernel_rfl
set_option maxHeartbeats 8000000 in
set_option maxRecDepth 100000 in
theorem zaw.calls (k : Nat) (a0 : Int) (a1 : Int) (A2 : Option Addr) (c2 : Nat) (l2 : List (S38)) (r : Bool) (w : World) (hr2 : Kd.C k38 w A2 l2.length l2) (hc2 : l2.length ≤ c2) (h : zaw.f k a0 a1 l2 = some r) :
  Calls Tryd.prog 36 #[.int .i64 a0, .int .i64 a1, .slice A2 l2.length c2] w fun e w' => e = .returned (.bool r) ∧ Below w.heap.size w w' := by
 have hu72 := Tryd.underlying72
 have hu38 := Tryd.underlying38
 have HR2 := zae.mk hr2
 have HC2 := zae.mk hc2
 clear hr2 hc2
 have HB := zae.mk (Below.refl w.heap.size w)
 have H : ((zan.f k a0 a1).bind fun bt239 => (if bt239.2.2.2 = true then (zaw.j0 k l2 ((l2.length : Int) != (bt239.1.length : Int)) bt239.1 bt239.2.1 bt239.2.2.1 bt239.2.2.2) else (zaw.j0 k l2 true bt239.1 bt239.2.1 bt239.2.2.1 bt239.2.2.2))) = some r := h
 clear h
 replace H := Option.bind_eq_some_iff.mp H
 obtain ⟨⟨t239, t242, t243, t244⟩, A40, H⟩ := H
 replace H : (if t244 = true then (zaw.j0 k l2 ((l2.length : Int) != (t239.length : Int)) t239 t242 t243 t244) else (zaw.j0 k l2 true t239 t242 t243 t244)) = some r := H
 have A4 := zae.mk A40
 clear A40
 have HC5 := zae.mk H
 clear H
 go_enter Tryd.func36, Tryd.ntmps36
 go_upto_region 2 with (first | ((with_reducible refine za3 (f := 38) rfl ?_); refine zbv (some 11) rfl rfl Tryd.func38 (by kernel_rfl) rfl #[.int .i64 a0, .int .i64 a1] rfl (by (try simp only [List.map_toArray, List.map_cons, List.map_nil]); first | done | rfl | (simp only [List.length_drop, List.length_take]; rfl)) ?_; (with_reducible refine (zan.calls k a0 a1 t239 t242 t243 t244 _ A4.out).mono ?_); rintro e w6 ⟨v240, rfl, ho0, hb⟩; refine ⟨_, rfl, ?_⟩; have n0_ := zae.mk (Kd.zcd ho0 (zav (by repeat with_reducible first | exact HB.out | apply zad | apply zaa | apply zac))); have n1_ := zae.mk (zaq (by repeat with_reducible first | exact HB.out | apply zad | apply zaa | apply zac) hb); clear HB; have HO241 := n0_; have HB := n1_; clear n0_ n1_; (try clear hb); (try clear hb2); (try clear hk); (try clear hi); (try clear ho0)) | ((with_reducible refine za8 (N := 7) rfl ?_); (try (refine zcg (by rfl) ?_; dsimp only)); refine za7 ?hg (N := 7) ?hd (cs := #[.slice none 0 0, .int .i64 0, .bool false, .bool false]) (t := 72) ?hr ?_; (case hd => rfl); (case hg => rfl); (case hr => first | (go_simp; done) | (go_simp; rfl)); intro gb245 hg w7 hbox hb; have n0_ := zae.mk (Kd.zb8 (by (with_reducible repeat (first | apply Kd.R_alloc | apply Kd.zbm | apply Kd.zbs)); exact HO241.out) hb); have n1_ := zae.mk (zaq (by repeat with_reducible first | exact HB.out | apply zad | apply zaa | apply zac) hb); have n2_ := zae.mk (hbox); have n3_ := zae.mk ((by rw [hg]; exact (zav (by repeat with_reducible first | exact HB.out | apply zad | apply zaa | apply zac)) : w.heap.size ≤ gb245)); have n4_ := zae.mk ((by rw [hg]; exact (zav (by repeat with_reducible first | exact HB.out | apply zad | apply zaa | apply zac)) : w.heap.size ≤ gb245)); clear HO241; clear HB; have HO241 := n0_; have HB := n1_; have BK245 := n2_; have GW245 := n3_; have GE245 := n4_; clear n0_ n1_ n2_ n3_ n4_; clear hb hbox hg; obtain ⟨Ao8, co8, eo8⟩ := Kd.zch HO241.out; subst eo8; obtain ⟨d9_0, d9_1, d9_2, d9_3⟩ := cq4 BK245.out; obtain ⟨e9_0, e9_1, e9_2, e9_3⟩ := fq4 BK245.out))
 (try simp only [Act.put, List.setIfInBounds_toArray, List.set_cons_zero, List.set_cons_succ])
 go_cut [22] (fun v22 wc => ∃ (kq : Nat) (x22_4 : Bool), v22 = .bool x22_4 ∧ zae (zaw.j0 kq l2 x22_4 t239 t242 t243 t244 = some r) ∧ zae (kq ≤ k) ∧ zae (Kd.R (Kd.int .i64) 3 wc w.heap.size (fun _ => True) (.slice Ao8 t239.length co8) t239) ∧ zae (wc.heap[gb245]? = some (.cells #[(.slice Ao8 t239.length co8), .int .i64 t242, .bool t243, .bool t244] 72 (0, 0))) ∧ zae (Below w.heap.size w wc))
 case first =>
  have H := HC5.out
  clear HC5
  by_cases c10 : t244 = true
  ·subst c10
   have H1 : (zaw.j0 k l2 ((l2.length : Int) != (t239.length : Int)) t239 t242 t243 true) = some r := by rw [if_pos rfl] at H; exact H
   clear H
   have H := H1
   clear H1
   have H' := zae.mk H
   clear H
   obtain ⟨d11_0, d11_1, d11_2, d11_3⟩ := cq4 BK245.out
   obtain ⟨e11_0, e11_1, e11_2, e11_3⟩ := fq4 BK245.out
   go_wp2
   go_meet
   case rel => exact ⟨_, (((l2.length : Int) != (t239.length : Int))), (by first | rfl | (simp; done) | (simp [*]; done)), H', ⟨by first | omega | exact Nat.le_refl _⟩, ⟨by (with_reducible repeat (first | apply Kd.R_alloc | apply Kd.zbm | apply Kd.zbs)); exact Kd.zcb (Kd.R_far (p := ⟨gb245, 3, none⟩) (Kd.R_far (p := ⟨gb245, 2, none⟩) (Kd.R_far (p := ⟨gb245, 1, none⟩) (Kd.R_far (p := ⟨gb245, 0, none⟩) (Kd.zck HO241.out BK245.out (by decide)) (fun _ hk => hk.2) (.slice Ao8 t239.length co8)) (fun _ hk => hk.2) (.int .i64 t242)) (fun _ hk => hk.2) (.bool t243)) (fun _ hk => hk.2) (.bool true)) (fun _ hk => trivial)⟩, ⟨by (with_reducible repeat (first | refine zai ?_ _ | refine zak ?_ | refine zaj ?_ _)); refine pq4 (.slice none 0 0) (.int .i64 0) (.bool false) (.bool false) ?_; (with_reducible repeat (first | refine zai ?_ _ | refine zak ?_ | refine zaj ?_ _)); exact BK245.out⟩, ⟨by repeat with_reducible first | exact HB.out | apply zad | apply zaa | apply zac | refine zag ?_ GE245.out⟩⟩
  ·replace c10 := Bool.eq_false_iff.mpr c10
   subst c10
   have H1 : (zaw.j0 k l2 true t239 t242 t243 false) = some r := by rw [if_neg (show ¬ (false = true) by decide)] at H; exact H
   clear H
   have H := H1
   clear H1
   have H' := zae.mk H
   clear H
   obtain ⟨d12_0, d12_1, d12_2, d12_3⟩ := cq4 BK245.out
   obtain ⟨e12_0, e12_1, e12_2, e12_3⟩ := fq4 BK245.out
   go_wp2
   go_meet
   case rel => exact ⟨_, (true), (by first | rfl | (simp; done) | (simp [*]; done)), H', ⟨by first | omega | exact Nat.le_refl _⟩, ⟨by (with_reducible repeat (first | apply Kd.R_alloc | apply Kd.zbm | apply Kd.zbs)); exact Kd.zcb (Kd.R_far (p := ⟨gb245, 3, none⟩) (Kd.R_far (p := ⟨gb245, 2, none⟩) (Kd.R_far (p := ⟨gb245, 1, none⟩) (Kd.R_far (p := ⟨gb245, 0, none⟩) (Kd.zck HO241.out BK245.out (by decide)) (fun _ hk => hk.2) (.slice Ao8 t239.length co8)) (fun _ hk => hk.2) (.int .i64 t242)) (fun _ hk => hk.2) (.bool t243)) (fun _ hk => hk.2) (.bool false)) (fun _ hk => trivial)⟩, ⟨by (with_reducible repeat (first | refine zai ?_ _ | refine zak ?_ | refine zaj ?_ _)); refine pq4 (.slice none 0 0) (.int .i64 0) (.bool false) (.bool false) ?_; (with_reducible repeat (first | refine zai ?_ _ | refine zak ?_ | refine zaj ?_ _)); exact BK245.out⟩, ⟨by repeat with_reducible first | exact HB.out | apply zad | apply zaa | apply zac | refine zag ?_ GE245.out⟩⟩
 case rest =>
  clear HC5
  try clear c1
  try clear c2
  try clear p2
  try clear c3
  try clear c10
  try clear d11_0 d11_1 d11_2 d11_3
  try clear d12_0 d12_1 d12_2 d12_3
  try clear d9_0 d9_1 d9_2 d9_3
  try clear e11_0 e11_1 e11_2 e11_3
  try clear e12_0 e12_1 e12_2 e12_3
  try clear e9_0 e9_1 e9_2 e9_3
  obtain ⟨kq, x22_4, rfl, HA, HJ4, HO_246000, BK245, HB⟩ := hcut
  cases kq with
  | zero => exact absurd HA.out (by simp [zaw.j0])
  | succ kj4 =>
   have H := HA.out
   clear HA
   simp only [zaw.j0] at H
   by_cases c13 : x22_4 = true
   ·subst c13
    have H1 : (some false) = some r := by rw [if_pos rfl] at H; exact H
    clear H
    have H := H1
    clear H1
    obtain rfl := Option.some.inj H
    go_wp2
    go_ret
    exact ⟨by first | rfl | (simp [zam, zal] <;> rfl) | (simp [*, zam, zal] <;> rfl), by repeat with_reducible first | exact HB.out | apply zad | apply zaa | apply zac | refine zag ?_ GE245.out⟩
   ·replace c13 := Bool.eq_false_iff.mpr c13
    subst c13
    have H1 : (zaw.l0 kj4 l2 0 t239 t242 t243 t244) = some r := by rw [if_neg (show ¬ (false = true) by decide)] at H; exact H
    clear H
    have H := H1
    clear H1
    have H' := zae.mk H
    clear H
    go_wp2
    go_loopg [8] kj4 (fun kq v8 w' => ∃ (x8_2 : Int), v8 = .int .i64 x8_2 ∧ zae (zaw.l0 kq l2 x8_2 t239 t242 t243 t244 = some r) ∧ zae (kq ≤ kj4) ∧ zae (Kd.R (Kd.int .i64) 3 w' w.heap.size (fun _ => True) (.slice Ao8 t239.length co8) t239) ∧ zae (w'.heap[gb245]? = some (.cells #[(.slice Ao8 t239.length co8), .int .i64 t242, .bool t243, .bool t244] 72 (0, 0))) ∧ zae (Below w.heap.size w w'))
    case atStart => exact ⟨(0), (by first | rfl | (simp; done) | (simp [*]; done)), H', ⟨Nat.le_refl _⟩, ⟨by (with_reducible repeat (first | apply Kd.R_alloc | apply Kd.zbm | apply Kd.zbs)); exact HO_246000.out⟩, ⟨by (with_reducible repeat (first | refine zai ?_ _ | refine zak ?_ | refine zaj ?_ _)); exact BK245.out⟩, ⟨by repeat with_reducible first | exact HB.out | apply zad | apply zaa | apply zac | refine zag ?_ GE245.out⟩⟩
    case round =>
     clear H'
     try clear c1
     try clear c2
     try clear p2 p2
     try clear c3
     try clear c10
     try clear c13
     try clear d11_0 d11_1 d11_2 d11_3
     try clear d12_0 d12_1 d12_2 d12_3
     try clear d9_0 d9_1 d9_2 d9_3
     try clear e11_0 e11_1 e11_2 e11_3
     try clear e12_0 e12_1 e12_2 e12_3
     try clear e9_0 e9_1 e9_2 e9_3
     obtain ⟨x8_2, rfl, HA, HK2, HO_246000, BK245, HB⟩ := hrel
     cases gk with
     | zero => exact absurd HA.out (by simp [zaw.l0])
     | succ k2 =>
      have H := HA.out
      clear HA
      simp only [zaw.l0] at H
      by_cases c14 : x8_2 < (l2.length : Int)
      ·rw [if_pos c14] at H
       have c14b0 : decide (x8_2 < (l2.length : Int)) = true := decide_eq_true c14
       clear c14
       by_cases c15 : 0 ≤ x8_2
       ·rw [if_pos c15] at H
        have c15b0 : decide (0 ≤ x8_2) = true := decide_eq_true c15
        clear c15
        by_cases c16 : x8_2 < (t239.length : Int)
        ·rw [if_pos c16] at H
         have c16b0 : decide (x8_2 < (t239.length : Int)) = true := decide_eq_true c16
         clear c16
         replace H := Option.bind_eq_some_iff.mp H
         obtain ⟨t248, A170, H⟩ := H
         replace H : (if t248 = true then (zaw.l0 k2 l2 (wrap64 (x8_2 + 1)) t239 t242 t243 t244) else (some false)) = some r := H
         have A17 := zae.mk A170
         clear A170
         by_cases c18 : t248 = true
         ·subst c18
          have H1 : (zaw.l0 k2 l2 (wrap64 (x8_2 + 1)) t239 t242 t243 t244) = some r := by rw [if_pos rfl] at H; exact H
          clear H
          have H := H1
          clear H1
          have H' := zae.mk H
          clear H
          try go_wp2
          have n0_ := zae.mk (Kd.zbs HO_246000.out)
          have n1_ := zae.mk (zak BK245.out)
          have n2_ := zae.mk (zac HB.out)
          clear HO_246000
          clear BK245
          clear HB
          have HO_246000 := n0_
          have BK245 := n1_
          have HB := n2_
          clear n0_ n1_ n2_
          have p246 : 0 ≤ (x8_2 : Int) := of_decide_eq_true (by first | (with_reducible assumption) | assumption)
          have q246 : x8_2 < (t239.length : Int) := of_decide_eq_true (by first | (with_reducible assumption) | assumption)
          obtain ⟨ad246, e246, hx246_0⟩ := Kd.at_int (Kd.zc5 HO_246000.out).2.2 x8_2 p246 q246
          cases e246
          replace p246 := eq_true p246
          replace q246 := eq_true q246
          have p247 : 0 ≤ (x8_2 : Int) := of_decide_eq_true (by first | (with_reducible assumption) | assumption)
          have q247 : x8_2 < (l2.length : Int) := of_decide_eq_true (by first | (with_reducible assumption) | assumption)
          obtain ⟨ad247, e247, hx247_0, hx247_1, hx247_2⟩ := zcm HR2.out x8_2 p247 q247
          have hw247_2 := hx247_2
          have hw247_1 := hx247_1
          have hw247_0 := hx247_0
          cases e247
          replace hx247_0 := zab HB.out hx247_0
          replace hx247_1 := zab HB.out hx247_1
          replace hx247_2 := zab HB.out hx247_2
          replace p247 := eq_true p247
          replace q247 := eq_true q247
          refine zcp (n := 11) (S := fun w' => w'.cell? ⟨gb245, 0, none⟩ = some (.slice (some ad246) t239.length co8) ∧ w'.cell? ⟨gb245, 1, none⟩ = some (.int .i64 t242) ∧ w'.cell? ⟨gb245, 2, none⟩ = some (.bool t243) ∧ w'.cell? ⟨gb245, 3, none⟩ = some (.bool t244) ∧ w'.cell? (ad246.add (x8_2).toNat) = some (.int .i64 (rd t239 x8_2)) ∧ w'.cell? (ad247.add ((x8_2).toNat * 3)) = some (.int .i64 ((zap l2 x8_2).f0)) ∧ w'.cell? ⟨(ad247.add ((x8_2).toNat * 3)).block, (ad247.add ((x8_2).toNat * 3)).off + 1, none⟩ = some (.int .i64 ((zap l2 x8_2).f1)) ∧ w'.cell? ⟨(ad247.add ((x8_2).toNat * 3)).block, (ad247.add ((x8_2).toNat * 3)).off + 2, none⟩ = some (.string ((zap l2 x8_2).f2))) (ds := []) #[false, false, false, false, false, false, false, false, false, false, false] (by kernel_rfl) rfl rfl ⟨(zaf BK245.out 0).trans rfl, (zaf BK245.out 1).trans rfl, (zaf BK245.out 2).trans rfl, (zaf BK245.out 3).trans rfl, hx246_0, (zab HB.out hw247_0), (zab HB.out hw247_1), (zab HB.out hw247_2)⟩ (fun hHeld => ?_); refine zci zaw.tab7 zaw.bits7 (fun HT_ HW_ => ?_)
          generalize wr.drew = w19 at HO_246000 BK245 HB hx246_0 hx247_0 hx247_1 hx247_2 hHeld ⊢
          refine pz_ 0 29 ?_ ?_ (bz 11 1) rfl rfl (zay HT_.out (by kernel_rfl)) (fun _ _ _ h => h) (Or.inl ⟨by rfl, ?_⟩) ?_ ?_; rotate_left 2; (intro w'; go_simp; with_reducible rfl); (simp only [zps]; rfl)
          refine pz_ 2 31 ?_ ?_ (bz 11 5) rfl rfl (zay HT_.out (by kernel_rfl)) (fun _ _ _ h => h) (Or.inl ⟨by rfl, ?_⟩) ?_ ?_; rotate_left 2; (intro w'; go_simp; with_reducible rfl); (simp only [zps]; rfl)
          refine pz_ 5 34 ?_ ?_ (bz 11 37) rfl rfl (zay HT_.out (by kernel_rfl)) (fun _ _ _ h => h) (Or.inl ⟨by rfl, ?_⟩) ?_ ?_; rotate_left 2; (intro w'; go_simp; with_reducible rfl); (simp only [zps]; rfl)
          refine pz_ 6 35 ?_ ?_ (bz 11 101) rfl rfl (zay HT_.out (by kernel_rfl)) (fun _ _ _ h => h) (Or.inl ⟨by rfl, ?_⟩) ?_ ?_; rotate_left 2; (intro w'; go_simp; with_reducible rfl); (simp only [zps]; rfl)
          refine pz_ 7 36 ?_ ?_ (bz 11 229) rfl rfl (zay HT_.out (by kernel_rfl)) (fun _ _ _ h => h) (Or.inl ⟨by rfl, ?_⟩) ?_ ?_; rotate_left 2; (intro w'; go_simp; with_reducible rfl); (simp only [zps]; rfl)
          refine tz_ 1 30 ?_ ?_ (bz 11 231) rfl rfl (zbt HT_.out HW_.out (by kernel_rfl)) (fun _ _ _ h => h) (Or.inl ⟨by rfl, ?_⟩) hHeld ?_ ?_; rotate_left 2; (rintro w' ⟨s0, s1, s2, s3, s4, s5, s6, s7⟩; go_simp; with_reducible rfl); (simp only [zps]; rfl)
          refine pz_ 3 32 ?_ ?_ (bz 11 239) rfl rfl (zay HT_.out (by kernel_rfl)) (fun _ _ _ h => h) (Or.inl ⟨by rfl, ?_⟩) ?_ ?_; rotate_left 2; (intro w'; go_simp; with_reducible rfl); (simp only [zps]; rfl)
          refine tz_ 4 33 ?_ ?_ (bz 11 255) rfl rfl (zbt HT_.out HW_.out (by kernel_rfl)) (fun _ _ _ h => h) (Or.inl ⟨by rfl, ?_⟩) hHeld ?_ ?_; rotate_left 2; (rintro w' ⟨s0, s1, s2, s3, s4, s5, s6, s7⟩; go_simp; with_reducible rfl); (simp only [zps]; rfl)
          refine tz_ 8 37 ?_ ?_ (bz 11 511) rfl rfl (zbt HT_.out HW_.out (by kernel_rfl)) (fun _ _ _ h => h) (Or.inl ⟨by rfl, ?_⟩) hHeld ?_ ?_; rotate_left 2; (rintro w' ⟨s0, s1, s2, s3, s4, s5, s6, s7⟩; go_simp; with_reducible rfl); (simp only [zps]; rfl)
          refine one_ (i := 9) (N := some 38) (bz 11 1023) rfl rfl (one_of HT_.out (by kernel_rfl)) (by decide) (fun K hK => ?_)
          refine goes_ Tryd.func39 (by kernel_rfl) rfl #[.int .i64 (rd t239 x8_2), .agg #[.int .i64 ((zap l2 x8_2).f0), .int .i64 ((zap l2 x8_2).f1), .string ((zap l2 x8_2).f2)]] (by rfl) rfl rfl (by (try simp only [List.map_toArray, List.map_cons, List.map_nil]); first | done | rfl | (simp only [List.length_drop, List.length_take]; rfl)) ?_
          with_reducible refine (za1.calls k2 (rd t239 x8_2) ((zap l2 x8_2).f0) ((zap l2 x8_2).f1) ((zap l2 x8_2).f2) true _ A17.out).mono ?_
          rintro e w20 ⟨rfl, hb⟩
          have HS4_ := (hb.cell (World.block_lt_of_cell? _ _ (hHeld.2.2.2.2.1))).trans (hHeld.2.2.2.2.1)
          refine ⟨_, rfl, ?_⟩
          have n0_ := zae.mk (Kd.zb8 (by (with_reducible repeat (first | apply Kd.R_alloc | apply Kd.zbm | apply Kd.zbs)); exact HO_246000.out) hb)
          have n1_ := zae.mk (zau (g := gb245) (o := .cells #[.slice (some ad246) t239.length co8, .int .i64 t242, .bool t243, .bool t244] 72 (0, 0)) (by (with_reducible repeat (first | refine zai ?_ _ | refine zak ?_ | refine zaj ?_ _)); exact BK245.out) hb)
          have n2_ := zae.mk (zaq (by repeat with_reducible first | exact HB.out | apply zad | apply zaa | apply zac | refine zag ?_ GE245.out) hb)
          clear HO_246000
          clear BK245
          clear HB
          have HO_246000 := n0_
          have BK245 := n1_
          have HB := n2_
          clear n0_ n1_ n2_
          try clear hb
          try clear hb2
          try clear hk
          try clear hi
          refine hK.out _ _ ⟨(zaf BK245.out 0).trans rfl, (zaf BK245.out 1).trans rfl, (zaf BK245.out 2).trans rfl, (zaf BK245.out 3).trans rfl, HS4_, (zab HB.out hw247_0), (zab HB.out hw247_1), (zab HB.out hw247_2)⟩ (fun hHeld => ?_)
          clear hK K
          refine norm_ (a' := ?_) ?_ ?_
          rotate_left
          ·show Act.put _ (some 38) _ = _
           simp only [zps]
           rfl
          refine pz_ 10 39 ?_ ?_ (bz 11 2047) rfl rfl (zay HT_.out (by kernel_rfl)) (fun _ _ _ h => h) (Or.inl ⟨by rfl, ?_⟩) ?_ ?_; rotate_left 2; (intro w'; go_simp; with_reducible rfl); (simp only [zps]; rfl)
          refine done_ (zcv HT_.out (by kernel_rfl)) ?_
          try go_wp2
          go_roundg k2
          case measure => have := HJ4.out; have := HK2.out; omega
          case rel => exact ⟨(wrap64 (x8_2 + 1)), (by first | rfl | (simp; done) | (simp [*]; done)), H', ⟨by have := HJ4.out; have := HK2.out; omega⟩, ⟨by (with_reducible repeat (first | apply Kd.R_alloc | apply Kd.zbm | apply Kd.zbs)); exact HO_246000.out⟩, ⟨by (with_reducible repeat (first | refine zai ?_ _ | refine zak ?_ | refine zaj ?_ _)); exact BK245.out⟩, ⟨by repeat with_reducible first | exact HB.out | apply zad | apply zaa | apply zac | refine zag ?_ GE245.out⟩⟩
         ·replace c18 := Bool.eq_false_iff.mpr c18
          subst c18
          have H1 : (some false) = some r := by rw [if_neg (show ¬ (false = true) by decide)] at H; exact H
          clear H
          have H := H1
          clear H1
          obtain rfl := Option.some.inj H
          try go_wp2
          have n0_ := zae.mk (Kd.zbs HO_246000.out)
          have n1_ := zae.mk (zak BK245.out)
          have n2_ := zae.mk (zac HB.out)
          clear HO_246000
          clear BK245
          clear HB
          have HO_246000 := n0_
          have BK245 := n1_
          have HB := n2_
          clear n0_ n1_ n2_
          have p246 : 0 ≤ (x8_2 : Int) := of_decide_eq_true (by first | (with_reducible assumption) | assumption)
          have q246 : x8_2 < (t239.length : Int) := of_decide_eq_true (by first | (with_reducible assumption) | assumption)
          obtain ⟨ad246, e246, hx246_0⟩ := Kd.at_int (Kd.zc5 HO_246000.out).2.2 x8_2 p246 q246
          cases e246
          replace p246 := eq_true p246
          replace q246 := eq_true q246
          have p247 : 0 ≤ (x8_2 : Int) := of_decide_eq_true (by first | (with_reducible assumption) | assumption)
          have q247 : x8_2 < (l2.length : Int) := of_decide_eq_true (by first | (with_reducible assumption) | assumption)
          obtain ⟨ad247, e247, hx247_0, hx247_1, hx247_2⟩ := zcm HR2.out x8_2 p247 q247
          have hw247_2 := hx247_2
          have hw247_1 := hx247_1
          have hw247_0 := hx247_0
          cases e247
          replace hx247_0 := zab HB.out hx247_0
          replace hx247_1 := zab HB.out hx247_1
          replace hx247_2 := zab HB.out hx247_2
          replace p247 := eq_true p247
          replace q247 := eq_true q247
          refine zcp (n := 11) (S := fun w' => w'.cell? ⟨gb245, 0, none⟩ = some (.slice (some ad246) t239.length co8) ∧ w'.cell? ⟨gb245, 1, none⟩ = some (.int .i64 t242) ∧ w'.cell? ⟨gb245, 2, none⟩ = some (.bool t243) ∧ w'.cell? ⟨gb245, 3, none⟩ = some (.bool t244) ∧ w'.cell? (ad246.add (x8_2).toNat) = some (.int .i64 (rd t239 x8_2)) ∧ w'.cell? (ad247.add ((x8_2).toNat * 3)) = some (.int .i64 ((zap l2 x8_2).f0)) ∧ w'.cell? ⟨(ad247.add ((x8_2).toNat * 3)).block, (ad247.add ((x8_2).toNat * 3)).off + 1, none⟩ = some (.int .i64 ((zap l2 x8_2).f1)) ∧ w'.cell? ⟨(ad247.add ((x8_2).toNat * 3)).block, (ad247.add ((x8_2).toNat * 3)).off + 2, none⟩ = some (.string ((zap l2 x8_2).f2))) (ds := []) #[false, false, false, false, false, false, false, false, false, false, false] (by kernel_rfl) rfl rfl ⟨(zaf BK245.out 0).trans rfl, (zaf BK245.out 1).trans rfl, (zaf BK245.out 2).trans rfl, (zaf BK245.out 3).trans rfl, hx246_0, (zab HB.out hw247_0), (zab HB.out hw247_1), (zab HB.out hw247_2)⟩ (fun hHeld => ?_); refine zci zaw.tab7 zaw.bits7 (fun HT_ HW_ => ?_)
          generalize wr.drew = w21 at HO_246000 BK245 HB hx246_0 hx247_0 hx247_1 hx247_2 hHeld ⊢
          refine pz_ 0 29 ?_ ?_ (bz 11 1) rfl rfl (zay HT_.out (by kernel_rfl)) (fun _ _ _ h => h) (Or.inl ⟨by rfl, ?_⟩) ?_ ?_; rotate_left 2; (intro w'; go_simp; with_reducible rfl); (simp only [zps]; rfl)
          refine pz_ 2 31 ?_ ?_ (bz 11 5) rfl rfl (zay HT_.out (by kernel_rfl)) (fun _ _ _ h => h) (Or.inl ⟨by rfl, ?_⟩) ?_ ?_; rotate_left 2; (intro w'; go_simp; with_reducible rfl); (simp only [zps]; rfl)
          refine pz_ 5 34 ?_ ?_ (bz 11 37) rfl rfl (zay HT_.out (by kernel_rfl)) (fun _ _ _ h => h) (Or.inl ⟨by rfl, ?_⟩) ?_ ?_; rotate_left 2; (intro w'; go_simp; with_reducible rfl); (simp only [zps]; rfl)
          refine pz_ 6 35 ?_ ?_ (bz 11 101) rfl rfl (zay HT_.out (by kernel_rfl)) (fun _ _ _ h => h) (Or.inl ⟨by rfl, ?_⟩) ?_ ?_; rotate_left 2; (intro w'; go_simp; with_reducible rfl); (simp only [zps]; rfl)
          refine pz_ 7 36 ?_ ?_ (bz 11 229) rfl rfl (zay HT_.out (by kernel_rfl)) (fun _ _ _ h => h) (Or.inl ⟨by rfl, ?_⟩) ?_ ?_; rotate_left 2; (intro w'; go_simp; with_reducible rfl); (simp only [zps]; rfl)
          refine tz_ 1 30 ?_ ?_ (bz 11 231) rfl rfl (zbt HT_.out HW_.out (by kernel_rfl)) (fun _ _ _ h => h) (Or.inl ⟨by rfl, ?_⟩) hHeld ?_ ?_; rotate_left 2; (rintro w' ⟨s0, s1, s2, s3, s4, s5, s6, s7⟩; go_simp; with_reducible rfl); (simp only [zps]; rfl)
          refine pz_ 3 32 ?_ ?_ (bz 11 239) rfl rfl (zay HT_.out (by kernel_rfl)) (fun _ _ _ h => h) (Or.inl ⟨by rfl, ?_⟩) ?_ ?_; rotate_left 2; (intro w'; go_simp; with_reducible rfl); (simp only [zps]; rfl)
          refine tz_ 4 33 ?_ ?_ (bz 11 255) rfl rfl (zbt HT_.out HW_.out (by kernel_rfl)) (fun _ _ _ h => h) (Or.inl ⟨by rfl, ?_⟩) hHeld ?_ ?_; rotate_left 2; (rintro w' ⟨s0, s1, s2, s3, s4, s5, s6, s7⟩; go_simp; with_reducible rfl); (simp only [zps]; rfl)
          refine tz_ 8 37 ?_ ?_ (bz 11 511) rfl rfl (zbt HT_.out HW_.out (by kernel_rfl)) (fun _ _ _ h => h) (Or.inl ⟨by rfl, ?_⟩) hHeld ?_ ?_; rotate_left 2; (rintro w' ⟨s0, s1, s2, s3, s4, s5, s6, s7⟩; go_simp; with_reducible rfl); (simp only [zps]; rfl)
          refine one_ (i := 9) (N := some 38) (bz 11 1023) rfl rfl (one_of HT_.out (by kernel_rfl)) (by decide) (fun K hK => ?_)
          refine goes_ Tryd.func39 (by kernel_rfl) rfl #[.int .i64 (rd t239 x8_2), .agg #[.int .i64 ((zap l2 x8_2).f0), .int .i64 ((zap l2 x8_2).f1), .string ((zap l2 x8_2).f2)]] (by rfl) rfl rfl (by (try simp only [List.map_toArray, List.map_cons, List.map_nil]); first | done | rfl | (simp only [List.length_drop, List.length_take]; rfl)) ?_
          with_reducible refine (za1.calls k2 (rd t239 x8_2) ((zap l2 x8_2).f0) ((zap l2 x8_2).f1) ((zap l2 x8_2).f2) false _ A17.out).mono ?_
          rintro e w22 ⟨rfl, hb⟩
          have HS4_ := (hb.cell (World.block_lt_of_cell? _ _ (hHeld.2.2.2.2.1))).trans (hHeld.2.2.2.2.1)
          refine ⟨_, rfl, ?_⟩
          have n0_ := zae.mk (Kd.zb8 (by (with_reducible repeat (first | apply Kd.R_alloc | apply Kd.zbm | apply Kd.zbs)); exact HO_246000.out) hb)
          have n1_ := zae.mk (zau (g := gb245) (o := .cells #[.slice (some ad246) t239.length co8, .int .i64 t242, .bool t243, .bool t244] 72 (0, 0)) (by (with_reducible repeat (first | refine zai ?_ _ | refine zak ?_ | refine zaj ?_ _)); exact BK245.out) hb)
          have n2_ := zae.mk (zaq (by repeat with_reducible first | exact HB.out | apply zad | apply zaa | apply zac | refine zag ?_ GE245.out) hb)
          clear HO_246000
          clear BK245
          clear HB
          have HO_246000 := n0_
          have BK245 := n1_
          have HB := n2_
          clear n0_ n1_ n2_
          try clear hb
          try clear hb2
          try clear hk
          try clear hi
          refine hK.out _ _ ⟨(zaf BK245.out 0).trans rfl, (zaf BK245.out 1).trans rfl, (zaf BK245.out 2).trans rfl, (zaf BK245.out 3).trans rfl, HS4_, (zab HB.out hw247_0), (zab HB.out hw247_1), (zab HB.out hw247_2)⟩ (fun hHeld => ?_)
          clear hK K
          refine norm_ (a' := ?_) ?_ ?_
          rotate_left
          ·show Act.put _ (some 38) _ = _
           simp only [zps]
           rfl
          refine pz_ 10 39 ?_ ?_ (bz 11 2047) rfl rfl (zay HT_.out (by kernel_rfl)) (fun _ _ _ h => h) (Or.inl ⟨by rfl, ?_⟩) ?_ ?_; rotate_left 2; (intro w'; go_simp; with_reducible rfl); (simp only [zps]; rfl)
          refine done_ (zcv HT_.out (by kernel_rfl)) ?_
          try go_wp2
          go_ret
          exact ⟨by first | rfl | (simp [zam, zal] <;> rfl) | (simp [*, zam, zal] <;> rfl), by repeat with_reducible first | exact HB.out | apply zad | apply zaa | apply zac | refine zag ?_ GE245.out⟩
        ·rw [if_neg c16] at H
         exact absurd H (by simp)
       ·rw [if_neg c15] at H
        exact absurd H (by simp)
      ·rw [if_neg c14] at H
       have c14b0 : decide (x8_2 < (l2.length : Int)) = false := decide_eq_false c14
       clear c14
       obtain rfl := Option.some.inj H
       go_wp2
       go_ret
       exact ⟨by first | rfl | (simp [zam, zal] <;> rfl) | (simp [*, zam, zal] <;> rfl), by repeat with_reducible first | exact HB.out | apply zad | apply zaa | apply zac | refine zag ?_ GE245.out⟩
end Go.Proofs.YtikmmigfdchcpaaDoor.PP
