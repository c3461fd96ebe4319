/-
  Proved: a part of the proof of the claim's statement (text Q22 of it).
  Conditions: none of ours.
-/
import Derived.Test.YtikmmigfdchcpaaDoorPeQ0
import Derived.Test.YtikmmigfdchcpaaDoorPeQ4
import Derived.Test.YtikmmigfdchcpaaDoorPeQ5
namespace Go.Proofs.YtikmmigfdchcpaaDoor.PP
open Go.RowKit Go.Proofs.YtikmmigfdchcpaaDoorW.PrintWords Go.Proofs.YtikmmigfdchcpaaDoorW.PrintLast Go.Proofs.YtikmmigfdchcpaaDoorW.PrintMore
set_option linter.unusedVariables false
set_option linter.unusedSimpArgs false
def za8.l0 : Nat → List Int → List (S38) → Int → Int → Option (List Int × Bool)
 | 0, _, _, _, _ => none
 | k + 1, x4, x12, x13, x14 => if x14 < x13 then (if 0 ≤ x14 then (if x14 < (x12.length : Int) then (if (Int.tmod x14 2) = 1 then ((zas.f k 2 ((zai x12 x14).f0) ((zai x12 x14).f1) ((zai x12 x14).f2)).bind fun t135 => (if t135 = true then (if x4.length < 17592186044416 then (za8.l0 k (x4 ++ [2]) x12 x13 (wrap64 (x14 + 1))) else (none)) else (some (([] : List Int), false)))) else ((zas.f k 4 ((zai x12 x14).f0) ((zai x12 x14).f1) ((zai x12 x14).f2)).bind fun t139 => (if t139 = true then (if x4.length < 17592186044416 then (za8.l0 k (x4 ++ [4]) x12 x13 (wrap64 (x14 + 1))) else (none)) else (some (([] : List Int), false))))) else (none)) else (none)) else (some (x4, true))
def za8.f (k : Nat) (l0 : List (S38)) : Option (List Int × Bool) := if ((l0.length : Int) % 2) = 0 then (za8.l0 k ([] : List Int) l0 (l0.length : Int) 0) else (some (([] : List Int), false))
set_option maxHeartbeats 8000000 in
set_option maxRecDepth 100000 in
theorem za8.calls (k : Nat) (A0 : Option Addr) (c0 : Nat) (l0 : List (S38)) (r1 : List Int) (r2 : Bool) (w : World) (hG : Glob w) (hr0 : Kd.C k38 w A0 l0.length l0) (hc0 : l0.length ≤ c0) (h : za8.f k l0 = some (r1, r2)) :
  Calls Tryd.prog 46 #[.slice A0 l0.length c0] w fun e w' => ∃ v0_ : Value, e = .returned (.tuple #[v0_, .bool r2]) ∧ Kd.R (Kd.int .i64) 3 w' w.heap.size (fun _ => True) v0_ r1 ∧ Below w.heap.size w w' := by
 have hu38 := Tryd.underlying38
 have HR0 := zab.mk hr0
 have HC0 := zab.mk hc0
 clear hr0 hc0
 have HB := zab.mk (Below.refl w.heap.size w)
 have HG := zab.mk hG
 clear hG
 have H : (if ((l0.length : Int) % 2) = 0 then (za8.l0 k ([] : List Int) l0 (l0.length : Int) 0) else (some (([] : List Int), false))) = some (r1, r2) := h
 clear h
 by_cases c2 : ((l0.length : Int) % 2) = 0
 ·rw [if_pos c2] at H
  have c2b0 : (((l0.length : Int) % 2) == 0) = true := beq_iff_eq.mpr c2
  have c2b1 : (((l0.length : Int) % 2) != 0) = false := bne_eq_false_iff_eq.mpr c2
  clear c2
  have H' := zab.mk H
  clear H
  go_enter Tryd.func46, Tryd.ntmps46
  go_wp2
  go_loopg [4, 14] k (fun kq v4 v14 w' => ∃ (x4_1 : List Int) (x14_1 : Int), v14 = .int .i64 x14_1 ∧ zab (za8.l0 kq x4_1 l0 (l0.length : Int) x14_1 = some (r1, r2)) ∧ zab (kq ≤ k) ∧ zab (Kd.R (Kd.int .i64) 3 w' w.heap.size (fun _ => True) v4 x4_1) ∧ zab (Below w.heap.size w w'))
  case atStart => exact ⟨(([] : List Int)), (0), (by first | rfl | (simp; done) | (simp [*]; done)), H', ⟨Nat.le_refl _⟩, ⟨by first | exact Kd.R_nil _ _ _ _ _ | exact Kd.N_nil _ _ _ _ _ | exact Kd.V_nil _ _ _ _ _ | exact Kd.Q_nil _ _ _ _ _ | exact Kd.S_nil _ _ _ _ _⟩, ⟨by repeat with_reducible first | exact HB.out | apply zac | apply zaa | apply zad⟩⟩
  case round =>
   clear H'
   try clear c2
   try clear c2b0
   try clear c2b1
   try clear p2
   obtain ⟨x4_1, x14_1, rfl, HA, HK1, HO_4, HB⟩ := hrel
   cases gk with
   | zero => exact absurd HA.out (by simp [za8.l0])
   | succ k1 =>
    have H := HA.out
    clear HA
    simp only [za8.l0] at H
    by_cases c3 : x14_1 < (l0.length : Int)
    ·rw [if_pos c3] at H
     have c3b0 : decide (x14_1 < (l0.length : Int)) = true := decide_eq_true c3
     clear c3
     by_cases c4 : 0 ≤ x14_1
     ·rw [if_pos c4] at H
      have c4b0 : decide (0 ≤ x14_1) = true := decide_eq_true c4
      clear c4
      by_cases c5 : x14_1 < (l0.length : Int)
      ·rw [if_pos c5] at H
       have c5b0 : decide (x14_1 < (l0.length : Int)) = true := decide_eq_true c5
       clear c5
       by_cases c6 : (Int.tmod x14_1 2) = 1
       ·rw [if_pos c6] at H
        have c6b0 : ((Int.tmod x14_1 2) == 1) = true := beq_iff_eq.mpr c6
        have c6b1 : ((Int.tmod x14_1 2) != 1) = false := bne_eq_false_iff_eq.mpr c6
        clear c6
        replace H := Option.bind_eq_some_iff.mp H
        obtain ⟨t135, A70, H⟩ := H
        replace H : (if t135 = true then (if x4_1.length < 17592186044416 then (za8.l0 k1 (x4_1 ++ [2]) l0 (l0.length : Int) (wrap64 (x14_1 + 1))) else (none)) else (some (([] : List Int), false))) = some (r1, r2) := H
        have A7 := zab.mk A70
        clear A70
        by_cases c8 : t135 = true
        ·subst c8
         have H1 : (if x4_1.length < 17592186044416 then (za8.l0 k1 (x4_1 ++ [2]) l0 (l0.length : Int) (wrap64 (x14_1 + 1))) else (none)) = some (r1, r2) := by rw [if_pos rfl] at H; exact H
         clear H
         have H := H1
         clear H1
         by_cases c9 : x4_1.length < 17592186044416
         ·rw [if_pos c9] at H
          have LMc9 := zab.mk c9
          clear c9
          obtain ⟨y136, hy136⟩ : ∃ y_ : List Int, y_ = (x4_1 ++ [2]) := ⟨_, rfl⟩
          replace H : (za8.l0 k1 y136 l0 (l0.length : Int) (wrap64 (x14_1 + 1))) = some (r1, r2) := by first | (rw [hy136]; with_reducible exact H) | (have H2_ := (Option.bind_some _ _).symm.trans H; rw [hy136]; with_reducible exact H2_) | (have H2_ := (Option.bind_some _ _).symm.trans H; with_reducible exact H2_) | with_reducible exact H | (rw [hy136]; exact H) | exact H
          have Ny136 := zab.mk hy136
          clear hy136
          have H' := zab.mk H
          clear H
          have p133 : 0 ≤ (x14_1 : Int) := of_decide_eq_true (by first | (with_reducible assumption) | assumption)
          have q133 : x14_1 < (l0.length : Int) := of_decide_eq_true (by first | (with_reducible assumption) | assumption)
          obtain ⟨ad133, e133, hx133_0, hx133_1, hx133_2⟩ := zcb HR0.out x14_1 p133 q133
          cases e133
          replace hx133_0 := zaf HB.out hx133_0
          replace hx133_1 := zaf HB.out hx133_1
          replace hx133_2 := zaf HB.out hx133_2
          replace p133 := eq_true p133
          replace q133 := eq_true q133
          go_wp2_with (first | ((with_reducible refine za2 (N := 6) rfl ?_); refine zay ?hg (N := 6) ?hd (cs := #[.int .i64 0, .int .i64 0, .string (⟨#[]⟩ : ByteArray)]) (t := 38) ?hr ?_; (case hd => rfl); (case hg => rfl); (case hr => first | (go_simp; done) | (go_simp; rfl)); intro gb134 hg w10 hbox hb; have n0_ := zab.mk (Kd.zbv (by (with_reducible repeat (first | apply Kd.R_alloc | apply Kd.zbs | apply Kd.R_drew)); exact HO_4.out) hb); have n1_ := zab.mk (zal (by repeat with_reducible first | exact HB.out | apply zac | apply zaa | apply zad) hb); have n2_ := zab.mk (hbox); have n3_ := zab.mk ((by rw [hg]; exact (zaq (by repeat with_reducible first | exact HB.out | apply zac | apply zaa | apply zad)) : w.heap.size ≤ gb134)); have n4_ := zab.mk ((by rw [hg]; exact (zaq (by repeat with_reducible first | exact HB.out | apply zac | apply zaa | apply zad)) : w.heap.size ≤ gb134)); clear HO_4; clear HB; have HO_4 := n0_; have HB := n1_; have BK134 := n2_; have GW134 := n3_; have GE134 := n4_; clear n0_ n1_ n2_ n3_ n4_; clear hb hbox hg; obtain ⟨d11_0, d11_1, d11_2⟩ := cq3 BK134.out; obtain ⟨e11_0, e11_1, e11_2⟩ := fq3 BK134.out) | ((with_reducible refine za6 (f := 40) rfl ?_); refine zbo (some 24) rfl rfl Tryd.func40 (by kernel_rfl) rfl #[.int .i64 2, .agg #[.int .i64 ((zai l0 x14_1).f0), .int .i64 ((zai l0 x14_1).f1), .string ((zai l0 x14_1).f2)]] rfl (by (try simp only [List.map_toArray, List.map_cons, List.map_nil]); first | done | rfl | (simp only [List.length_drop, List.length_take]; rfl)) ?_; (with_reducible refine (zas.calls k1 2 ((zai l0 x14_1).f0) ((zai l0 x14_1).f1) ((zai l0 x14_1).f2) true _ ?side0 A7.out).mono ?_); (case side0 => exact za7 HG.out (by repeat with_reducible first | exact HB.out | apply zac | apply zaa | apply zad | refine zag ?_ GE134.out)); rintro e w12 ⟨rfl, hb⟩; refine ⟨_, rfl, ?_⟩; have n0_ := zab.mk (Kd.zbv (by (with_reducible repeat (first | apply Kd.R_alloc | apply Kd.zbs | apply Kd.R_drew)); exact (Kd.R_mono (Kd.R_far (p := ⟨gb134, 2, none⟩) (Kd.R_far (p := ⟨gb134, 1, none⟩) (Kd.R_far (p := ⟨gb134, 0, none⟩) (Kd.R_types HO_4.out BK134.out (by decide)) (fun _ hk => hk.2) (.int .i64 ((zai l0 x14_1).f0))) (fun _ hk => hk.2) (.int .i64 ((zai l0 x14_1).f1))) (fun _ hk => hk.2) (.string ((zai l0 x14_1).f2))) (fun _ h_ => h_.1))) hb); have n1_ := zab.mk (zaw (g := gb134) (o := .cells #[.int .i64 ((zai l0 x14_1).f0), .int .i64 ((zai l0 x14_1).f1), .string ((zai l0 x14_1).f2)] 38 (0, 0)) (by (with_reducible repeat (first | refine zaj ?_ _ | refine zam ?_ | refine zak ?_ _)); refine pq3 (.int .i64 0) (.int .i64 0) (.string (⟨#[]⟩ : ByteArray)) ?_; (with_reducible repeat (first | refine zaj ?_ _ | refine zam ?_ | refine zak ?_ _)); exact BK134.out) hb); have n2_ := zab.mk (zal (by repeat with_reducible first | exact HB.out | apply zac | apply zaa | apply zad | refine zag ?_ GE134.out) hb); clear HO_4; clear BK134; clear HB; have HO_4 := n0_; have BK134 := n1_; have HB := n2_; clear n0_ n1_ n2_; (try clear hb); (try clear hb2); (try clear hk); (try clear hi)) | ((with_reducible refine zb2 (b := .append) (xs := #[.tmp 26, .tmp 28]) rfl ?_); at_builtin; refine Kd.R_append (Kd.int .i64) (w0 := w) w.heap.size rfl (.tmp 26) (.tmp 28) 55 3 (.int .i64 0) 8 rfl Tryd.underlying55 info3 rfl (by decide) (by omega) u4 x4_1 2 [.int .i64 2] (fun _ => True) (fun _ => False) rfl rfl ?aP (fun _ hk => hk.elim) ?aF ?aO ?aB ?aS ?aL ?_; (case aP => exact rfl); (case aB => exact (by repeat with_reducible first | exact HB.out | apply zac | apply zaa | apply zad | refine zag ?_ GE134.out)); (case aF => exact (fun _ _ => trivial)); (case aO => exact (by (with_reducible repeat (first | apply Kd.R_alloc | apply Kd.zbs | apply Kd.R_drew)); exact HO_4.out)); (case aS => exact (zaq (by repeat with_reducible first | exact HB.out | apply zac | apply zaa | apply zad | refine zag ?_ GE134.out))); (case aL => have := LMc9.out; omega); intro v137 w13 ho hb hg hat; rw [← Ny136.out] at ho; have n0_ := zab.mk (blk_grown (g := gb134) (o := .cells #[.int .i64 ((zai l0 x14_1).f0), .int .i64 ((zai l0 x14_1).f1), .string ((zai l0 x14_1).f2)] 38 (0, 0)) (by (with_reducible repeat (first | refine zaj ?_ _ | refine zam ?_ | refine zak ?_ _)); exact BK134.out) hg (Kd.R_ne HO_4.out BK134.out (by decide))); have n1_ := zab.mk (hb); have n2_ := zab.mk (ho); clear BK134; clear HB; clear HO_4; have BK134 := n0_; have HB := n1_; have HO138 := n2_; clear n0_ n1_ n2_; clear ho hb hg hat))
          go_roundg k1
          case measure => have := HK1.out; omega
          case rel => exact ⟨(y136), (wrap64 (x14_1 + 1)), (by first | rfl | (simp; done) | (simp [*]; done)), H', ⟨by have := HK1.out; omega⟩, ⟨by (with_reducible repeat (first | apply Kd.R_alloc | apply Kd.zbs | apply Kd.R_drew)); exact HO138.out⟩, ⟨by repeat with_reducible first | exact HB.out | apply zac | apply zaa | apply zad | refine zag ?_ GE134.out⟩⟩
         ·rw [if_neg c9] at H
          exact absurd H (by simp)
        ·replace c8 := Bool.eq_false_iff.mpr c8
         subst c8
         have H1 : (some (([] : List Int), false)) = some (r1, r2) := by rw [if_neg (show ¬ (false = true) by decide)] at H; exact H
         clear H
         have H := H1
         clear H1
         simp only [Option.some.injEq, Prod.mk.injEq] at H
         obtain ⟨rfl, rfl⟩ := H
         have p133 : 0 ≤ (x14_1 : Int) := of_decide_eq_true (by first | (with_reducible assumption) | assumption)
         have q133 : x14_1 < (l0.length : Int) := of_decide_eq_true (by first | (with_reducible assumption) | assumption)
         obtain ⟨ad133, e133, hx133_0, hx133_1, hx133_2⟩ := zcb HR0.out x14_1 p133 q133
         cases e133
         replace hx133_0 := zaf HB.out hx133_0
         replace hx133_1 := zaf HB.out hx133_1
         replace hx133_2 := zaf HB.out hx133_2
         replace p133 := eq_true p133
         replace q133 := eq_true q133
         go_wp2_with (first | ((with_reducible refine za2 (N := 6) rfl ?_); refine zay ?hg (N := 6) ?hd (cs := #[.int .i64 0, .int .i64 0, .string (⟨#[]⟩ : ByteArray)]) (t := 38) ?hr ?_; (case hd => rfl); (case hg => rfl); (case hr => first | (go_simp; done) | (go_simp; rfl)); intro gb134 hg w14 hbox hb; have n0_ := zab.mk (Kd.zbv (by (with_reducible repeat (first | apply Kd.R_alloc | apply Kd.zbs | apply Kd.R_drew)); exact HO_4.out) hb); have n1_ := zab.mk (zal (by repeat with_reducible first | exact HB.out | apply zac | apply zaa | apply zad) hb); have n2_ := zab.mk (hbox); have n3_ := zab.mk ((by rw [hg]; exact (zaq (by repeat with_reducible first | exact HB.out | apply zac | apply zaa | apply zad)) : w.heap.size ≤ gb134)); have n4_ := zab.mk ((by rw [hg]; exact (zaq (by repeat with_reducible first | exact HB.out | apply zac | apply zaa | apply zad)) : w.heap.size ≤ gb134)); clear HO_4; clear HB; have HO_4 := n0_; have HB := n1_; have BK134 := n2_; have GW134 := n3_; have GE134 := n4_; clear n0_ n1_ n2_ n3_ n4_; clear hb hbox hg; obtain ⟨d15_0, d15_1, d15_2⟩ := cq3 BK134.out; obtain ⟨e15_0, e15_1, e15_2⟩ := fq3 BK134.out) | ((with_reducible refine za6 (f := 40) rfl ?_); refine zbo (some 24) rfl rfl Tryd.func40 (by kernel_rfl) rfl #[.int .i64 2, .agg #[.int .i64 ((zai l0 x14_1).f0), .int .i64 ((zai l0 x14_1).f1), .string ((zai l0 x14_1).f2)]] rfl (by (try simp only [List.map_toArray, List.map_cons, List.map_nil]); first | done | rfl | (simp only [List.length_drop, List.length_take]; rfl)) ?_; (with_reducible refine (zas.calls k1 2 ((zai l0 x14_1).f0) ((zai l0 x14_1).f1) ((zai l0 x14_1).f2) false _ ?side0 A7.out).mono ?_); (case side0 => exact za7 HG.out (by repeat with_reducible first | exact HB.out | apply zac | apply zaa | apply zad | refine zag ?_ GE134.out)); rintro e w16 ⟨rfl, hb⟩; refine ⟨_, rfl, ?_⟩; have n0_ := zab.mk (Kd.zbv (by (with_reducible repeat (first | apply Kd.R_alloc | apply Kd.zbs | apply Kd.R_drew)); exact (Kd.R_mono (Kd.R_far (p := ⟨gb134, 2, none⟩) (Kd.R_far (p := ⟨gb134, 1, none⟩) (Kd.R_far (p := ⟨gb134, 0, none⟩) (Kd.R_types HO_4.out BK134.out (by decide)) (fun _ hk => hk.2) (.int .i64 ((zai l0 x14_1).f0))) (fun _ hk => hk.2) (.int .i64 ((zai l0 x14_1).f1))) (fun _ hk => hk.2) (.string ((zai l0 x14_1).f2))) (fun _ h_ => h_.1))) hb); have n1_ := zab.mk (zaw (g := gb134) (o := .cells #[.int .i64 ((zai l0 x14_1).f0), .int .i64 ((zai l0 x14_1).f1), .string ((zai l0 x14_1).f2)] 38 (0, 0)) (by (with_reducible repeat (first | refine zaj ?_ _ | refine zam ?_ | refine zak ?_ _)); refine pq3 (.int .i64 0) (.int .i64 0) (.string (⟨#[]⟩ : ByteArray)) ?_; (with_reducible repeat (first | refine zaj ?_ _ | refine zam ?_ | refine zak ?_ _)); exact BK134.out) hb); have n2_ := zab.mk (zal (by repeat with_reducible first | exact HB.out | apply zac | apply zaa | apply zad | refine zag ?_ GE134.out) hb); clear HO_4; clear BK134; clear HB; have HO_4 := n0_; have BK134 := n1_; have HB := n2_; clear n0_ n1_ n2_; (try clear hb); (try clear hb2); (try clear hk); (try clear hi)))
         go_ret2
         exact ⟨_, by first | rfl | (simp [zao, zan] <;> rfl) | (simp [*, zao, zan] <;> rfl), by first | exact Kd.R_nil _ _ _ _ _ | exact Kd.N_nil _ _ _ _ _ | exact Kd.V_nil _ _ _ _ _ | exact Kd.Q_nil _ _ _ _ _ | exact Kd.S_nil _ _ _ _ _, by repeat with_reducible first | exact HB.out | apply zac | apply zaa | apply zad | refine zag ?_ GE134.out⟩
       ·rw [if_neg c6] at H
        have c6b0 : ((Int.tmod x14_1 2) == 1) = false := beq_eq_false_iff_ne.mpr c6
        have c6b1 : ((Int.tmod x14_1 2) != 1) = true := bne_iff_ne.mpr c6
        replace H := Option.bind_eq_some_iff.mp H
        obtain ⟨t139, A170, H⟩ := H
        replace H : (if t139 = true then (if x4_1.length < 17592186044416 then (za8.l0 k1 (x4_1 ++ [4]) l0 (l0.length : Int) (wrap64 (x14_1 + 1))) else (none)) else (some (([] : List Int), false))) = some (r1, r2) := H
        have A17 := zab.mk A170
        clear A170
        by_cases c18 : t139 = true
        ·subst c18
         have H1 : (if x4_1.length < 17592186044416 then (za8.l0 k1 (x4_1 ++ [4]) l0 (l0.length : Int) (wrap64 (x14_1 + 1))) else (none)) = some (r1, r2) := by rw [if_pos rfl] at H; exact H
         clear H
         have H := H1
         clear H1
         by_cases c19 : x4_1.length < 17592186044416
         ·rw [if_pos c19] at H
          have LMc19 := zab.mk c19
          clear c19
          obtain ⟨y140, hy140⟩ : ∃ y_ : List Int, y_ = (x4_1 ++ [4]) := ⟨_, rfl⟩
          replace H : (za8.l0 k1 y140 l0 (l0.length : Int) (wrap64 (x14_1 + 1))) = some (r1, r2) := by first | (rw [hy140]; with_reducible exact H) | (have H2_ := (Option.bind_some _ _).symm.trans H; rw [hy140]; with_reducible exact H2_) | (have H2_ := (Option.bind_some _ _).symm.trans H; with_reducible exact H2_) | with_reducible exact H | (rw [hy140]; exact H) | exact H
          have Ny140 := zab.mk hy140
          clear hy140
          have H' := zab.mk H
          clear H
          have p133 : 0 ≤ (x14_1 : Int) := of_decide_eq_true (by first | (with_reducible assumption) | assumption)
          have q133 : x14_1 < (l0.length : Int) := of_decide_eq_true (by first | (with_reducible assumption) | assumption)
          obtain ⟨ad133, e133, hx133_0, hx133_1, hx133_2⟩ := zcb HR0.out x14_1 p133 q133
          cases e133
          replace hx133_0 := zaf HB.out hx133_0
          replace hx133_1 := zaf HB.out hx133_1
          replace hx133_2 := zaf HB.out hx133_2
          replace p133 := eq_true p133
          replace q133 := eq_true q133
          go_wp2_with (first | ((with_reducible refine za2 (N := 6) rfl ?_); refine zay ?hg (N := 6) ?hd (cs := #[.int .i64 0, .int .i64 0, .string (⟨#[]⟩ : ByteArray)]) (t := 38) ?hr ?_; (case hd => rfl); (case hg => rfl); (case hr => first | (go_simp; done) | (go_simp; rfl)); intro gb134 hg w20 hbox hb; have n0_ := zab.mk (Kd.zbv (by (with_reducible repeat (first | apply Kd.R_alloc | apply Kd.zbs | apply Kd.R_drew)); exact HO_4.out) hb); have n1_ := zab.mk (zal (by repeat with_reducible first | exact HB.out | apply zac | apply zaa | apply zad) hb); have n2_ := zab.mk (hbox); have n3_ := zab.mk ((by rw [hg]; exact (zaq (by repeat with_reducible first | exact HB.out | apply zac | apply zaa | apply zad)) : w.heap.size ≤ gb134)); have n4_ := zab.mk ((by rw [hg]; exact (zaq (by repeat with_reducible first | exact HB.out | apply zac | apply zaa | apply zad)) : w.heap.size ≤ gb134)); clear HO_4; clear HB; have HO_4 := n0_; have HB := n1_; have BK134 := n2_; have GW134 := n3_; have GE134 := n4_; clear n0_ n1_ n2_ n3_ n4_; clear hb hbox hg; obtain ⟨d21_0, d21_1, d21_2⟩ := cq3 BK134.out; obtain ⟨e21_0, e21_1, e21_2⟩ := fq3 BK134.out) | ((with_reducible refine za6 (f := 40) rfl ?_); refine zbo (some 24) rfl rfl Tryd.func40 (by kernel_rfl) rfl #[.int .i64 4, .agg #[.int .i64 ((zai l0 x14_1).f0), .int .i64 ((zai l0 x14_1).f1), .string ((zai l0 x14_1).f2)]] rfl (by (try simp only [List.map_toArray, List.map_cons, List.map_nil]); first | done | rfl | (simp only [List.length_drop, List.length_take]; rfl)) ?_; (with_reducible refine (zas.calls k1 4 ((zai l0 x14_1).f0) ((zai l0 x14_1).f1) ((zai l0 x14_1).f2) true _ ?side0 A17.out).mono ?_); (case side0 => exact za7 HG.out (by repeat with_reducible first | exact HB.out | apply zac | apply zaa | apply zad | refine zag ?_ GE134.out)); rintro e w22 ⟨rfl, hb⟩; refine ⟨_, rfl, ?_⟩; have n0_ := zab.mk (Kd.zbv (by (with_reducible repeat (first | apply Kd.R_alloc | apply Kd.zbs | apply Kd.R_drew)); exact (Kd.R_mono (Kd.R_far (p := ⟨gb134, 2, none⟩) (Kd.R_far (p := ⟨gb134, 1, none⟩) (Kd.R_far (p := ⟨gb134, 0, none⟩) (Kd.R_types HO_4.out BK134.out (by decide)) (fun _ hk => hk.2) (.int .i64 ((zai l0 x14_1).f0))) (fun _ hk => hk.2) (.int .i64 ((zai l0 x14_1).f1))) (fun _ hk => hk.2) (.string ((zai l0 x14_1).f2))) (fun _ h_ => h_.1))) hb); have n1_ := zab.mk (zaw (g := gb134) (o := .cells #[.int .i64 ((zai l0 x14_1).f0), .int .i64 ((zai l0 x14_1).f1), .string ((zai l0 x14_1).f2)] 38 (0, 0)) (by (with_reducible repeat (first | refine zaj ?_ _ | refine zam ?_ | refine zak ?_ _)); refine pq3 (.int .i64 0) (.int .i64 0) (.string (⟨#[]⟩ : ByteArray)) ?_; (with_reducible repeat (first | refine zaj ?_ _ | refine zam ?_ | refine zak ?_ _)); exact BK134.out) hb); have n2_ := zab.mk (zal (by repeat with_reducible first | exact HB.out | apply zac | apply zaa | apply zad | refine zag ?_ GE134.out) hb); clear HO_4; clear BK134; clear HB; have HO_4 := n0_; have BK134 := n1_; have HB := n2_; clear n0_ n1_ n2_; (try clear hb); (try clear hb2); (try clear hk); (try clear hi)) | ((with_reducible refine zb2 (b := .append) (xs := #[.tmp 26, .tmp 28]) rfl ?_); at_builtin; refine Kd.R_append (Kd.int .i64) (w0 := w) w.heap.size rfl (.tmp 26) (.tmp 28) 55 3 (.int .i64 0) 8 rfl Tryd.underlying55 info3 rfl (by decide) (by omega) u4 x4_1 4 [.int .i64 4] (fun _ => True) (fun _ => False) rfl rfl ?aP (fun _ hk => hk.elim) ?aF ?aO ?aB ?aS ?aL ?_; (case aP => exact rfl); (case aB => exact (by repeat with_reducible first | exact HB.out | apply zac | apply zaa | apply zad | refine zag ?_ GE134.out)); (case aF => exact (fun _ _ => trivial)); (case aO => exact (by (with_reducible repeat (first | apply Kd.R_alloc | apply Kd.zbs | apply Kd.R_drew)); exact HO_4.out)); (case aS => exact (zaq (by repeat with_reducible first | exact HB.out | apply zac | apply zaa | apply zad | refine zag ?_ GE134.out))); (case aL => have := LMc19.out; omega); intro v141 w23 ho hb hg hat; rw [← Ny140.out] at ho; have n0_ := zab.mk (blk_grown (g := gb134) (o := .cells #[.int .i64 ((zai l0 x14_1).f0), .int .i64 ((zai l0 x14_1).f1), .string ((zai l0 x14_1).f2)] 38 (0, 0)) (by (with_reducible repeat (first | refine zaj ?_ _ | refine zam ?_ | refine zak ?_ _)); exact BK134.out) hg (Kd.R_ne HO_4.out BK134.out (by decide))); have n1_ := zab.mk (hb); have n2_ := zab.mk (ho); clear BK134; clear HB; clear HO_4; have BK134 := n0_; have HB := n1_; have HO142 := n2_; clear n0_ n1_ n2_; clear ho hb hg hat))
          go_roundg k1
          case measure => have := HK1.out; omega
          case rel => exact ⟨(y140), (wrap64 (x14_1 + 1)), (by first | rfl | (simp; done) | (simp [*]; done)), H', ⟨by have := HK1.out; omega⟩, ⟨by (with_reducible repeat (first | apply Kd.R_alloc | apply Kd.zbs | apply Kd.R_drew)); exact HO142.out⟩, ⟨by repeat with_reducible first | exact HB.out | apply zac | apply zaa | apply zad | refine zag ?_ GE134.out⟩⟩
         ·rw [if_neg c19] at H
          exact absurd H (by simp)
        ·replace c18 := Bool.eq_false_iff.mpr c18
         subst c18
         have H1 : (some (([] : List Int), false)) = some (r1, r2) := by rw [if_neg (show ¬ (false = true) by decide)] at H; exact H
         clear H
         have H := H1
         clear H1
         simp only [Option.some.injEq, Prod.mk.injEq] at H
         obtain ⟨rfl, rfl⟩ := H
         have p133 : 0 ≤ (x14_1 : Int) := of_decide_eq_true (by first | (with_reducible assumption) | assumption)
         have q133 : x14_1 < (l0.length : Int) := of_decide_eq_true (by first | (with_reducible assumption) | assumption)
         obtain ⟨ad133, e133, hx133_0, hx133_1, hx133_2⟩ := zcb HR0.out x14_1 p133 q133
         cases e133
         replace hx133_0 := zaf HB.out hx133_0
         replace hx133_1 := zaf HB.out hx133_1
         replace hx133_2 := zaf HB.out hx133_2
         replace p133 := eq_true p133
         replace q133 := eq_true q133
         go_wp2_with (first | ((with_reducible refine za2 (N := 6) rfl ?_); refine zay ?hg (N := 6) ?hd (cs := #[.int .i64 0, .int .i64 0, .string (⟨#[]⟩ : ByteArray)]) (t := 38) ?hr ?_; (case hd => rfl); (case hg => rfl); (case hr => first | (go_simp; done) | (go_simp; rfl)); intro gb134 hg w24 hbox hb; have n0_ := zab.mk (Kd.zbv (by (with_reducible repeat (first | apply Kd.R_alloc | apply Kd.zbs | apply Kd.R_drew)); exact HO_4.out) hb); have n1_ := zab.mk (zal (by repeat with_reducible first | exact HB.out | apply zac | apply zaa | apply zad) hb); have n2_ := zab.mk (hbox); have n3_ := zab.mk ((by rw [hg]; exact (zaq (by repeat with_reducible first | exact HB.out | apply zac | apply zaa | apply zad)) : w.heap.size ≤ gb134)); have n4_ := zab.mk ((by rw [hg]; exact (zaq (by repeat with_reducible first | exact HB.out | apply zac | apply zaa | apply zad)) : w.heap.size ≤ gb134)); clear HO_4; clear HB; have HO_4 := n0_; have HB := n1_; have BK134 := n2_; have GW134 := n3_; have GE134 := n4_; clear n0_ n1_ n2_ n3_ n4_; clear hb hbox hg; obtain ⟨d25_0, d25_1, d25_2⟩ := cq3 BK134.out; obtain ⟨e25_0, e25_1, e25_2⟩ := fq3 BK134.out) | ((with_reducible refine za6 (f := 40) rfl ?_); refine zbo (some 24) rfl rfl Tryd.func40 (by kernel_rfl) rfl #[.int .i64 4, .agg #[.int .i64 ((zai l0 x14_1).f0), .int .i64 ((zai l0 x14_1).f1), .string ((zai l0 x14_1).f2)]] rfl (by (try simp only [List.map_toArray, List.map_cons, List.map_nil]); first | done | rfl | (simp only [List.length_drop, List.length_take]; rfl)) ?_; (with_reducible refine (zas.calls k1 4 ((zai l0 x14_1).f0) ((zai l0 x14_1).f1) ((zai l0 x14_1).f2) false _ ?side0 A17.out).mono ?_); (case side0 => exact za7 HG.out (by repeat with_reducible first | exact HB.out | apply zac | apply zaa | apply zad | refine zag ?_ GE134.out)); rintro e w26 ⟨rfl, hb⟩; refine ⟨_, rfl, ?_⟩; have n0_ := zab.mk (Kd.zbv (by (with_reducible repeat (first | apply Kd.R_alloc | apply Kd.zbs | apply Kd.R_drew)); exact (Kd.R_mono (Kd.R_far (p := ⟨gb134, 2, none⟩) (Kd.R_far (p := ⟨gb134, 1, none⟩) (Kd.R_far (p := ⟨gb134, 0, none⟩) (Kd.R_types HO_4.out BK134.out (by decide)) (fun _ hk => hk.2) (.int .i64 ((zai l0 x14_1).f0))) (fun _ hk => hk.2) (.int .i64 ((zai l0 x14_1).f1))) (fun _ hk => hk.2) (.string ((zai l0 x14_1).f2))) (fun _ h_ => h_.1))) hb); have n1_ := zab.mk (zaw (g := gb134) (o := .cells #[.int .i64 ((zai l0 x14_1).f0), .int .i64 ((zai l0 x14_1).f1), .string ((zai l0 x14_1).f2)] 38 (0, 0)) (by (with_reducible repeat (first | refine zaj ?_ _ | refine zam ?_ | refine zak ?_ _)); refine pq3 (.int .i64 0) (.int .i64 0) (.string (⟨#[]⟩ : ByteArray)) ?_; (with_reducible repeat (first | refine zaj ?_ _ | refine zam ?_ | refine zak ?_ _)); exact BK134.out) hb); have n2_ := zab.mk (zal (by repeat with_reducible first | exact HB.out | apply zac | apply zaa | apply zad | refine zag ?_ GE134.out) hb); clear HO_4; clear BK134; clear HB; have HO_4 := n0_; have BK134 := n1_; have HB := n2_; clear n0_ n1_ n2_; (try clear hb); (try clear hb2); (try clear hk); (try clear hi)))
         go_ret2
         exact ⟨_, by first | rfl | (simp [zao, zan] <;> rfl) | (simp [*, zao, zan] <;> rfl), by first | exact Kd.R_nil _ _ _ _ _ | exact Kd.N_nil _ _ _ _ _ | exact Kd.V_nil _ _ _ _ _ | exact Kd.Q_nil _ _ _ _ _ | exact Kd.S_nil _ _ _ _ _, by repeat with_reducible first | exact HB.out | apply zac | apply zaa | apply zad | refine zag ?_ GE134.out⟩
      ·rw [if_neg c5] at H
       exact absurd H (by simp)
     ·rw [if_neg c4] at H
      exact absurd H (by simp)
    ·rw [if_neg c3] at H
     have c3b0 : decide (x14_1 < (l0.length : Int)) = false := decide_eq_false c3
     clear c3
     simp only [Option.some.injEq, Prod.mk.injEq] at H
     obtain ⟨rfl, rfl⟩ := H
     go_wp2
     go_ret2
     exact ⟨_, by first | rfl | (simp [zao, zan] <;> rfl) | (simp [*, zao, zan] <;> rfl), by (with_reducible repeat (first | apply Kd.R_alloc | apply Kd.zbs | apply Kd.R_drew)); exact HO_4.out, by repeat with_reducible first | exact HB.out | apply zac | apply zaa | apply zad⟩
 ·rw [if_neg c2] at H
  have c2b0 : (((l0.length : Int) % 2) == 0) = false := beq_eq_false_iff_ne.mpr c2
  have c2b1 : (((l0.length : Int) % 2) != 0) = true := bne_iff_ne.mpr c2
  simp only [Option.some.injEq, Prod.mk.injEq] at H
  obtain ⟨rfl, rfl⟩ := H
  go_enter Tryd.func46, Tryd.ntmps46
  go_wp2
  go_ret2
  exact ⟨_, by first | rfl | (simp [zao, zan] <;> rfl) | (simp [*, zao, zan] <;> rfl), by first | exact Kd.R_nil _ _ _ _ _ | exact Kd.N_nil _ _ _ _ _ | exact Kd.V_nil _ _ _ _ _ | exact Kd.Q_nil _ _ _ _ _ | exact Kd.S_nil _ _ _ _ _, by repeat with_reducible first | exact HB.out | apply zac | apply zaa | apply zad⟩
end Go.Proofs.YtikmmigfdchcpaaDoor.PP
