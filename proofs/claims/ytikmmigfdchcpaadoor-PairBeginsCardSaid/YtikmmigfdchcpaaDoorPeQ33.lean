/-
  Proved: a part of the proof of the claim's statement (text Q33 of it).
  Conditions: none of ours.
-/
import Derived.Test.YtikmmigfdchcpaaDoorPeQ0
namespace Go.Proofs.YtikmmigfdchcpaaDoor.PP
open Go.RowKit Go.Proofs.YtikmmigfdchcpaaDoorW.PrintWords Go.Proofs.YtikmmigfdchcpaaDoorW.PrintLast Go.Proofs.YtikmmigfdchcpaaDoorW.PrintMore
set_option linter.unusedVariables false
set_option linter.unusedSimpArgs false
/-! ### zap: function 19 -/
mutual
def zap.j1 : Nat → Int → Int → Int → Int → ByteArray → Int → Int → Int → Int → ByteArray → Int → List (S38) → List (S38) → Bool → ByteArray → Option (Bool)
 | 0, _, _, _, _, _, _, _, _, _, _, _, _, _, _, _ => none
 | k + 1, x3, x191000, x191001, x191002, x191003, x191004, x191005, x191006, x191007, x191008, x191009, x191010, x191011, x191012, x191013 => zap.l1 k x3 0 x191000 x191001 x191002 x191003 x191004 x191005 x191006 x191007 x191008 x191009 x191010 x191011 x191012 x191013
def zap.l1 : Nat → Int → Int → Int → Int → Int → ByteArray → Int → Int → Int → Int → ByteArray → Int → List (S38) → List (S38) → Bool → ByteArray → Option (Bool)
 | 0, _, _, _, _, _, _, _, _, _, _, _, _, _, _, _, _ => none
 | k + 1, x3, x5, x191000, x191001, x191002, x191003, x191004, x191005, x191006, x191007, x191008, x191009, x191010, x191011, x191012, x191013 => if x5 < (x191011.length : Int) then (if x3 ≤ 2000 then (if 0 ≤ x5 then (zap.l1 k (wrap64 ((wrap64 (x3 + 1)) + (((zai x191011 x5).f2).size : Int))) (wrap64 (x5 + 1)) x191000 x191001 x191002 x191003 x191004 x191005 x191006 x191007 x191008 x191009 x191010 x191011 x191012 x191013) else (none)) else (some (decide (x3 > 2000)))) else (some (decide (x3 > 2000)))
def zap.l0 : Nat → Int → Int → Int → Int → Int → ByteArray → Int → Int → Int → Int → ByteArray → Int → List (S38) → List (S38) → Bool → ByteArray → Option (Bool)
 | 0, _, _, _, _, _, _, _, _, _, _, _, _, _, _, _, _ => none
 | k + 1, x3, x4, x191000, x191001, x191002, x191003, x191004, x191005, x191006, x191007, x191008, x191009, x191010, x191011, x191012, x191013 => if x4 < (x191010.length : Int) then (if x3 ≤ 2000 then (if 0 ≤ x4 then (zap.l0 k (wrap64 ((wrap64 (x3 + 1)) + (((zai x191010 x4).f2).size : Int))) (wrap64 (x4 + 1)) x191000 x191001 x191002 x191003 x191004 x191005 x191006 x191007 x191008 x191009 x191010 x191011 x191012 x191013) else (none)) else (zap.j1 k x3 x191000 x191001 x191002 x191003 x191004 x191005 x191006 x191007 x191008 x191009 x191010 x191011 x191012 x191013)) else (zap.j1 k x3 x191000 x191001 x191002 x191003 x191004 x191005 x191006 x191007 x191008 x191009 x191010 x191011 x191012 x191013)
end
def zap.f (k : Nat) (a0_0 : Int) (a0_1 : Int) (a0_2 : Int) (a0_3 : ByteArray) (a0_4 : Int) (a0_5 : Int) (a0_6 : Int) (a0_7 : Int) (a0_8 : ByteArray) (a0_9 : Int) (l0_10 : List (S38)) (l0_11 : List (S38)) (a0_12 : Bool) (a0_13 : ByteArray) : Option (Bool) := zap.l0 k (wrap64 ((wrap64 ((a0_3.size : Int) + (a0_8.size : Int))) + (a0_13.size : Int))) 0 a0_0 a0_1 a0_2 a0_3 a0_4 a0_5 a0_6 a0_7 a0_8 a0_9 l0_10 l0_11 a0_12 a0_13
set_option maxHeartbeats 8000000 in
set_option maxRecDepth 100000 in
theorem zap.calls (k : Nat) (a0_0 : Int) (a0_1 : Int) (a0_2 : Int) (a0_3 : ByteArray) (a0_4 : Int) (a0_5 : Int) (a0_6 : Int) (a0_7 : Int) (a0_8 : ByteArray) (a0_9 : Int) (A0_10 : Option Addr) (c0_10 : Nat) (l0_10 : List (S38)) (A0_11 : Option Addr) (c0_11 : Nat) (l0_11 : List (S38)) (a0_12 : Bool) (a0_13 : ByteArray) (r : Bool) (w : World) (hr0_10 : Kd.C k38 w A0_10 l0_10.length l0_10) (hc0_10 : l0_10.length ≤ c0_10) (hr0_11 : Kd.C k38 w A0_11 l0_11.length l0_11) (hc0_11 : l0_11.length ≤ c0_11) (h : zap.f k a0_0 a0_1 a0_2 a0_3 a0_4 a0_5 a0_6 a0_7 a0_8 a0_9 l0_10 l0_11 a0_12 a0_13 = some r) :
  Calls Tryd.prog 19 #[.agg #[.int .i64 a0_0, .int .i64 a0_1, .int .i64 a0_2, .string a0_3, .int .i64 a0_4, .int .i64 a0_5, .int .i64 a0_6, .int .i64 a0_7, .string a0_8, .int .i64 a0_9, .slice A0_10 l0_10.length c0_10, .slice A0_11 l0_11.length c0_11, .bool a0_12, .string a0_13]] w fun e w' => e = .returned (.bool r) ∧ Below w.heap.size w w' := by
 have hu47 := Tryd.underlying47
 have HR0_10 := zab.mk hr0_10
 have HC0_10 := zab.mk hc0_10
 clear hr0_10 hc0_10
 have HR0_11 := zab.mk hr0_11
 have HC0_11 := zab.mk hc0_11
 clear hr0_11 hc0_11
 have HB := zab.mk (Below.refl w.heap.size w)
 have H : (zap.l0 k (wrap64 ((wrap64 ((a0_3.size : Int) + (a0_8.size : Int))) + (a0_13.size : Int))) 0 a0_0 a0_1 a0_2 a0_3 a0_4 a0_5 a0_6 a0_7 a0_8 a0_9 l0_10 l0_11 a0_12 a0_13) = some r := h
 clear h
 have HC2 := zab.mk H
 clear H
 go_enter Tryd.func19, Tryd.ntmps19
 go_upto_block 0 with (first | ((with_reducible refine za2 (N := 1) rfl ?_); refine zay ?hg (N := 1) ?hd (cs := #[.int .i64 a0_0, .int .i64 a0_1, .int .i64 a0_2, .string a0_3, .int .i64 a0_4, .int .i64 a0_5, .int .i64 a0_6, .int .i64 a0_7, .string a0_8, .int .i64 a0_9, .slice A0_10 l0_10.length c0_10, .slice A0_11 l0_11.length c0_11, .bool a0_12, .string a0_13]) (t := 47) ?hr ?_; (case hd => rfl); (case hg => rfl); (case hr => first | (go_simp; done) | (go_simp; rfl)); intro gb190 hg w3 hbox hb; have n0_ := zab.mk (zal (by repeat with_reducible first | exact HB.out | apply zac | apply zaa | apply zad) hb); have n1_ := zab.mk (hbox); have n2_ := zab.mk ((by rw [hg]; exact (zaq (by repeat with_reducible first | exact HB.out | apply zac | apply zaa | apply zad)) : w.heap.size ≤ gb190)); have n3_ := n2_; clear HB; have HB := n0_; have BK190 := n1_; have GW190 := n2_; have GE190 := n3_; clear n0_ n1_ n2_ n3_; clear hb hbox hg; obtain ⟨d4_0, d4_1, d4_2, d4_3, d4_4, d4_5, d4_6, d4_7, d4_8, d4_9, d4_10, d4_11, d4_12, d4_13⟩ := cq14 BK190.out; obtain ⟨e4_0, e4_1, e4_2, e4_3, e4_4, e4_5, e4_6, e4_7, e4_8, e4_9, e4_10, e4_11, e4_12, e4_13⟩ := fq14 BK190.out))
 (try simp only [Act.put, List.setIfInBounds_toArray, List.set_cons_zero, List.set_cons_succ])
 go_cut [3] (fun v3 wc => ∃ (kq : Nat) (x3_1 : Int), v3 = .int .i64 x3_1 ∧ zab (zap.j1 kq x3_1 a0_0 a0_1 a0_2 a0_3 a0_4 a0_5 a0_6 a0_7 a0_8 a0_9 l0_10 l0_11 a0_12 a0_13 = some r) ∧ zab (kq ≤ k) ∧ zab (wc.heap[gb190]? = some (.cells #[.int .i64 a0_0, .int .i64 a0_1, .int .i64 a0_2, .string a0_3, .int .i64 a0_4, .int .i64 a0_5, .int .i64 a0_6, .int .i64 a0_7, .string a0_8, .int .i64 a0_9, (.slice A0_10 l0_10.length c0_10), (.slice A0_11 l0_11.length c0_11), .bool a0_12, .string a0_13] 47 (0, 0))) ∧ zab (Below w.heap.size w wc))
 case first =>
  have H := HC2.out
  clear HC2
  have H' := zab.mk H
  clear H
  go_wp2
  go_loopg [3, 4] k (fun kq v3 v4 w' => ∃ (x3_1 : Int) (x4_1 : Int), v3 = .int .i64 x3_1 ∧ v4 = .int .i64 x4_1 ∧ zab (zap.l0 kq x3_1 x4_1 a0_0 a0_1 a0_2 a0_3 a0_4 a0_5 a0_6 a0_7 a0_8 a0_9 l0_10 l0_11 a0_12 a0_13 = some r) ∧ zab (kq ≤ k) ∧ zab (w'.heap[gb190]? = some (.cells #[.int .i64 a0_0, .int .i64 a0_1, .int .i64 a0_2, .string a0_3, .int .i64 a0_4, .int .i64 a0_5, .int .i64 a0_6, .int .i64 a0_7, .string a0_8, .int .i64 a0_9, (.slice A0_10 l0_10.length c0_10), (.slice A0_11 l0_11.length c0_11), .bool a0_12, .string a0_13] 47 (0, 0))) ∧ zab (Below w.heap.size w w'))
  case atStart => exact ⟨(wrap64 ((wrap64 ((a0_3.size : Int) + (a0_8.size : Int))) + (a0_13.size : Int))), (0), (by first | rfl | (simp; done) | (simp [*]; done)), (by first | rfl | (simp; done) | (simp [*]; done)), H', ⟨Nat.le_refl _⟩, ⟨by (with_reducible repeat (first | refine zaj ?_ _ | refine zam ?_ | refine zak ?_ _)); exact BK190.out⟩, ⟨by repeat with_reducible first | exact HB.out | apply zac | apply zaa | apply zad | refine zag ?_ GE190.out⟩⟩
  case round =>
   clear H'
   try clear c1
   try clear p2
   try clear d4_0 d4_1 d4_10 d4_11 d4_12 d4_13 d4_2 d4_3 d4_4 d4_5 d4_6 d4_7 d4_8 d4_9
   try clear e4_0 e4_1 e4_10 e4_11 e4_12 e4_13 e4_2 e4_3 e4_4 e4_5 e4_6 e4_7 e4_8 e4_9
   obtain ⟨x3_1, x4_1, rfl, rfl, HA, HK1, BK190, HB⟩ := hrel
   cases gk with
   | zero => exact absurd HA.out (by simp [zap.l0])
   | succ k1 =>
    have H := HA.out
    clear HA
    simp only [zap.l0] at H
    by_cases c5 : x4_1 < (l0_10.length : Int)
    ·rw [if_pos c5] at H
     have c5b0 : decide (x4_1 < (l0_10.length : Int)) = true := decide_eq_true c5
     clear c5
     (first | rw [c5b0] | (simp only [i64_w]; rw [c5b0]) | skip)
     by_cases c6 : x3_1 ≤ 2000
     ·rw [if_pos c6] at H
      have c6b0 : decide (x3_1 ≤ 2000) = true := decide_eq_true c6
      clear c6
      by_cases c7 : 0 ≤ x4_1
      ·rw [if_pos c7] at H
       have c7b0 : decide (0 ≤ x4_1) = true := decide_eq_true c7
       clear c7
       have H' := zab.mk H
       clear H
       obtain ⟨d8_0, d8_1, d8_2, d8_3, d8_4, d8_5, d8_6, d8_7, d8_8, d8_9, d8_10, d8_11, d8_12, d8_13⟩ := cq14 BK190.out
       obtain ⟨e8_0, e8_1, e8_2, e8_3, e8_4, e8_5, e8_6, e8_7, e8_8, e8_9, e8_10, e8_11, e8_12, e8_13⟩ := fq14 BK190.out
       have p191 : 0 ≤ (x4_1 : Int) := of_decide_eq_true (by first | (with_reducible assumption) | assumption)
       have q191 : x4_1 < (l0_10.length : Int) := of_decide_eq_true (by first | (with_reducible assumption) | assumption)
       obtain ⟨ad191, e191, hx191_0, hx191_1, hx191_2⟩ := zcb HR0_10.out x4_1 p191 q191
       cases e191
       replace hx191_0 := zaf HB.out hx191_0
       replace hx191_1 := zaf HB.out hx191_1
       replace hx191_2 := zaf HB.out hx191_2
       replace p191 := eq_true p191
       replace q191 := eq_true q191
       go_wp2
       go_roundg k1
       case measure => have := HK1.out; omega
       case rel => exact ⟨(wrap64 ((wrap64 (x3_1 + 1)) + (((zai l0_10 x4_1).f2).size : Int))), (wrap64 (x4_1 + 1)), (by first | rfl | (simp; done) | (simp [*]; done)), (by first | rfl | (simp; done) | (simp [*]; done)), H', ⟨by have := HK1.out; omega⟩, ⟨by (with_reducible repeat (first | refine zaj ?_ _ | refine zam ?_ | refine zak ?_ _)); exact BK190.out⟩, ⟨by repeat with_reducible first | exact HB.out | apply zac | apply zaa | apply zad | refine zag ?_ GE190.out⟩⟩
      ·rw [if_neg c7] at H
       exact absurd H (by simp)
     ·rw [if_neg c6] at H
      have c6b0 : decide (x3_1 ≤ 2000) = false := decide_eq_false c6
      clear c6
      have H' := zab.mk H
      clear H
      obtain ⟨d9_0, d9_1, d9_2, d9_3, d9_4, d9_5, d9_6, d9_7, d9_8, d9_9, d9_10, d9_11, d9_12, d9_13⟩ := cq14 BK190.out
      obtain ⟨e9_0, e9_1, e9_2, e9_3, e9_4, e9_5, e9_6, e9_7, e9_8, e9_9, e9_10, e9_11, e9_12, e9_13⟩ := fq14 BK190.out
      go_wp2
      go_meet
      case rel => exact ⟨_, (x3_1), (by first | rfl | (simp; done) | (simp [*]; done)), H', ⟨by have := HK1.out; first | omega | exact Nat.le_refl _⟩, ⟨by (with_reducible repeat (first | refine zaj ?_ _ | refine zam ?_ | refine zak ?_ _)); exact BK190.out⟩, ⟨by repeat with_reducible first | exact HB.out | apply zac | apply zaa | apply zad | refine zag ?_ GE190.out⟩⟩
    ·rw [if_neg c5] at H
     have c5b0 : decide (x4_1 < (l0_10.length : Int)) = false := decide_eq_false c5
     clear c5
     (first | rw [c5b0] | (simp only [i64_w]; rw [c5b0]) | skip)
     have H' := zab.mk H
     clear H
     obtain ⟨d10_0, d10_1, d10_2, d10_3, d10_4, d10_5, d10_6, d10_7, d10_8, d10_9, d10_10, d10_11, d10_12, d10_13⟩ := cq14 BK190.out
     obtain ⟨e10_0, e10_1, e10_2, e10_3, e10_4, e10_5, e10_6, e10_7, e10_8, e10_9, e10_10, e10_11, e10_12, e10_13⟩ := fq14 BK190.out
     go_wp2
     go_meet
     case rel => exact ⟨_, (x3_1), (by first | rfl | (simp; done) | (simp [*]; done)), H', ⟨by have := HK1.out; first | omega | exact Nat.le_refl _⟩, ⟨by (with_reducible repeat (first | refine zaj ?_ _ | refine zam ?_ | refine zak ?_ _)); exact BK190.out⟩, ⟨by repeat with_reducible first | exact HB.out | apply zac | apply zaa | apply zad | refine zag ?_ GE190.out⟩⟩
 case rest =>
  clear HC2
  try clear c1
  try clear p1
  try clear q1
  try clear hx1
  try clear p2 p2
  try clear c5
  try clear c5b0
  try clear c6
  try clear c6b0
  try clear p6
  try clear c7
  try clear c7b0
  try clear d10_0 d10_1 d10_10 d10_11 d10_12 d10_13 d10_2 d10_3 d10_4 d10_5 d10_6 d10_7 d10_8 d10_9
  try clear d4_0 d4_1 d4_10 d4_11 d4_12 d4_13 d4_2 d4_3 d4_4 d4_5 d4_6 d4_7 d4_8 d4_9
  try clear d8_0 d8_1 d8_10 d8_11 d8_12 d8_13 d8_2 d8_3 d8_4 d8_5 d8_6 d8_7 d8_8 d8_9
  try clear d9_0 d9_1 d9_10 d9_11 d9_12 d9_13 d9_2 d9_3 d9_4 d9_5 d9_6 d9_7 d9_8 d9_9
  try clear e10_0 e10_1 e10_10 e10_11 e10_12 e10_13 e10_2 e10_3 e10_4 e10_5 e10_6 e10_7 e10_8 e10_9
  try clear e4_0 e4_1 e4_10 e4_11 e4_12 e4_13 e4_2 e4_3 e4_4 e4_5 e4_6 e4_7 e4_8 e4_9
  try clear e8_0 e8_1 e8_10 e8_11 e8_12 e8_13 e8_2 e8_3 e8_4 e8_5 e8_6 e8_7 e8_8 e8_9
  try clear e9_0 e9_1 e9_10 e9_11 e9_12 e9_13 e9_2 e9_3 e9_4 e9_5 e9_6 e9_7 e9_8 e9_9
  try clear hx191_0
  try clear hx191_1
  try clear hx191_2
  try clear p191
  try clear q191
  obtain ⟨kq, x3_1, rfl, HA, HJ1, BK190, HB⟩ := hcut
  cases kq with
  | zero => exact absurd HA.out (by simp [zap.j1])
  | succ kj1 =>
   have H := HA.out
   clear HA
   simp only [zap.j1] at H
   have H' := zab.mk H
   clear H
   go_wp2
   go_loopg [3, 5] kj1 (fun kq v3 v5 w' => ∃ (x3_2 : Int) (x5_2 : Int), v3 = .int .i64 x3_2 ∧ v5 = .int .i64 x5_2 ∧ zab (zap.l1 kq x3_2 x5_2 a0_0 a0_1 a0_2 a0_3 a0_4 a0_5 a0_6 a0_7 a0_8 a0_9 l0_10 l0_11 a0_12 a0_13 = some r) ∧ zab (kq ≤ kj1) ∧ zab (w'.heap[gb190]? = some (.cells #[.int .i64 a0_0, .int .i64 a0_1, .int .i64 a0_2, .string a0_3, .int .i64 a0_4, .int .i64 a0_5, .int .i64 a0_6, .int .i64 a0_7, .string a0_8, .int .i64 a0_9, (.slice A0_10 l0_10.length c0_10), (.slice A0_11 l0_11.length c0_11), .bool a0_12, .string a0_13] 47 (0, 0))) ∧ zab (Below w.heap.size w w'))
   case atStart => exact ⟨(x3_1), (0), (by first | rfl | (simp; done) | (simp [*]; done)), (by first | rfl | (simp; done) | (simp [*]; done)), H', ⟨Nat.le_refl _⟩, ⟨by (with_reducible repeat (first | refine zaj ?_ _ | refine zam ?_ | refine zak ?_ _)); exact BK190.out⟩, ⟨by repeat with_reducible first | exact HB.out | apply zac | apply zaa | apply zad | refine zag ?_ GE190.out⟩⟩
   case round =>
    clear H'
    try clear c1
    try clear p1 p1
    try clear q1 q1
    try clear hx1
    try clear p2 p2
    try clear c5
    try clear c5b0
    try clear c6
    try clear c6b0
    try clear p6 p6
    try clear c7
    try clear c7b0
    try clear d10_0 d10_1 d10_10 d10_11 d10_12 d10_13 d10_2 d10_3 d10_4 d10_5 d10_6 d10_7 d10_8 d10_9
    try clear d4_0 d4_1 d4_10 d4_11 d4_12 d4_13 d4_2 d4_3 d4_4 d4_5 d4_6 d4_7 d4_8 d4_9
    try clear d8_0 d8_1 d8_10 d8_11 d8_12 d8_13 d8_2 d8_3 d8_4 d8_5 d8_6 d8_7 d8_8 d8_9
    try clear d9_0 d9_1 d9_10 d9_11 d9_12 d9_13 d9_2 d9_3 d9_4 d9_5 d9_6 d9_7 d9_8 d9_9
    try clear e10_0 e10_1 e10_10 e10_11 e10_12 e10_13 e10_2 e10_3 e10_4 e10_5 e10_6 e10_7 e10_8 e10_9
    try clear e4_0 e4_1 e4_10 e4_11 e4_12 e4_13 e4_2 e4_3 e4_4 e4_5 e4_6 e4_7 e4_8 e4_9
    try clear e8_0 e8_1 e8_10 e8_11 e8_12 e8_13 e8_2 e8_3 e8_4 e8_5 e8_6 e8_7 e8_8 e8_9
    try clear e9_0 e9_1 e9_10 e9_11 e9_12 e9_13 e9_2 e9_3 e9_4 e9_5 e9_6 e9_7 e9_8 e9_9
    try clear hx191_0
    try clear hx191_1
    try clear hx191_2
    try clear p191
    try clear q191
    obtain ⟨x3_2, x5_2, rfl, rfl, HA, HK2, BK190, HB⟩ := hrel
    cases gk with
    | zero => exact absurd HA.out (by simp [zap.l1])
    | succ k2 =>
     have H := HA.out
     clear HA
     simp only [zap.l1] at H
     by_cases c11 : x5_2 < (l0_11.length : Int)
     ·rw [if_pos c11] at H
      have c11b0 : decide (x5_2 < (l0_11.length : Int)) = true := decide_eq_true c11
      clear c11
      by_cases c12 : x3_2 ≤ 2000
      ·rw [if_pos c12] at H
       have c12b0 : decide (x3_2 ≤ 2000) = true := decide_eq_true c12
       clear c12
       by_cases c13 : 0 ≤ x5_2
       ·rw [if_pos c13] at H
        have c13b0 : decide (0 ≤ x5_2) = true := decide_eq_true c13
        clear c13
        have H' := zab.mk H
        clear H
        obtain ⟨d14_0, d14_1, d14_2, d14_3, d14_4, d14_5, d14_6, d14_7, d14_8, d14_9, d14_10, d14_11, d14_12, d14_13⟩ := cq14 BK190.out
        obtain ⟨e14_0, e14_1, e14_2, e14_3, e14_4, e14_5, e14_6, e14_7, e14_8, e14_9, e14_10, e14_11, e14_12, e14_13⟩ := fq14 BK190.out
        have p192 : 0 ≤ (x5_2 : Int) := of_decide_eq_true (by first | (with_reducible assumption) | assumption)
        have q192 : x5_2 < (l0_11.length : Int) := of_decide_eq_true (by first | (with_reducible assumption) | assumption)
        obtain ⟨ad192, e192, hx192_0, hx192_1, hx192_2⟩ := zcb HR0_11.out x5_2 p192 q192
        cases e192
        replace hx192_0 := zaf HB.out hx192_0
        replace hx192_1 := zaf HB.out hx192_1
        replace hx192_2 := zaf HB.out hx192_2
        replace p192 := eq_true p192
        replace q192 := eq_true q192
        go_wp2
        go_roundg k2
        case measure => have := HJ1.out; have := HK2.out; omega
        case rel => exact ⟨(wrap64 ((wrap64 (x3_2 + 1)) + (((zai l0_11 x5_2).f2).size : Int))), (wrap64 (x5_2 + 1)), (by first | rfl | (simp; done) | (simp [*]; done)), (by first | rfl | (simp; done) | (simp [*]; done)), H', ⟨by have := HJ1.out; have := HK2.out; omega⟩, ⟨by (with_reducible repeat (first | refine zaj ?_ _ | refine zam ?_ | refine zak ?_ _)); exact BK190.out⟩, ⟨by repeat with_reducible first | exact HB.out | apply zac | apply zaa | apply zad | refine zag ?_ GE190.out⟩⟩
       ·rw [if_neg c13] at H
        exact absurd H (by simp)
      ·rw [if_neg c12] at H
       have c12b0 : decide (x3_2 ≤ 2000) = false := decide_eq_false c12
       clear c12
       obtain rfl := Option.some.inj H
       obtain ⟨d15_0, d15_1, d15_2, d15_3, d15_4, d15_5, d15_6, d15_7, d15_8, d15_9, d15_10, d15_11, d15_12, d15_13⟩ := cq14 BK190.out
       obtain ⟨e15_0, e15_1, e15_2, e15_3, e15_4, e15_5, e15_6, e15_7, e15_8, e15_9, e15_10, e15_11, e15_12, e15_13⟩ := fq14 BK190.out
       go_wp2
       go_ret
       exact ⟨by first | rfl | (simp [zao, zan] <;> rfl) | (simp [*, zao, zan] <;> rfl), by repeat with_reducible first | exact HB.out | apply zac | apply zaa | apply zad | refine zag ?_ GE190.out⟩
     ·rw [if_neg c11] at H
      have c11b0 : decide (x5_2 < (l0_11.length : Int)) = false := decide_eq_false c11
      clear c11
      obtain rfl := Option.some.inj H
      obtain ⟨d16_0, d16_1, d16_2, d16_3, d16_4, d16_5, d16_6, d16_7, d16_8, d16_9, d16_10, d16_11, d16_12, d16_13⟩ := cq14 BK190.out
      obtain ⟨e16_0, e16_1, e16_2, e16_3, e16_4, e16_5, e16_6, e16_7, e16_8, e16_9, e16_10, e16_11, e16_12, e16_13⟩ := fq14 BK190.out
      go_wp2
      go_ret
      exact ⟨by first | rfl | (simp [zao, zan] <;> rfl) | (simp [*, zao, zan] <;> rfl), by repeat with_reducible first | exact HB.out | apply zac | apply zaa | apply zad | refine zag ?_ GE190.out⟩
end Go.Proofs.YtikmmigfdchcpaaDoor.PP
