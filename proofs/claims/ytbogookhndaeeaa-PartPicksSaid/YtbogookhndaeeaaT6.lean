/-
  Proved: the walk of incognitolaw19.PartPicks over plain rows.
  Conditions: none of ours (the form's own reach alone).
-/
import Derived.Test.YtbogookhndaeeaaT5
import Derived.Outline
import Derived.Deep.QuietTactic
import Derived.BigQuiet
namespace Go.Proofs.Ytbogookhndaeeaa.PP
open Go.RowKit Go.Proofs.YtbogookhndaeeaaW.PrintWords Go.Proofs.YtbogookhndaeeaaW.PrintLast Go.Proofs.YtbogookhndaeeaaW.PrintMore
set_option linter.unusedVariables false
structure Inv (w : World) (go gw capw B2 B3 : Nat) (R : List S32) (W : World) : Prop where
  o : OutOK go w.heap.size B2 R W
  n : Kd.N k32 32 W B3 (fun k => k < w.heap.size ∨ B3 ≤ k) (.slice (some ⟨gw, 0, none⟩) R.length capw) R
  b : Below w.heap.size w W
  z : B2 ≤ W.heap.size
  l : B2 ≤ B3
theorem Inv.below {w : World} {go gw capw B2 B3 : Nat} {R : List S32} {W W' : World} (h : Inv w go gw capw B2 B3 R W) (hb : Below W.heap.size W W') : Inv w go gw capw B2 B3 R W' :=
  ⟨h.o.below (hb.mono h.z), Kd.N_below h.n hb, below_then h.b h.b.size hb, Nat.le_trans h.z hb.size, h.l⟩
theorem Inv.set {w : World} {go gw capw B2 B3 : Nat} {R : List S32} {W : World} (h : Inv w go gw capw B2 B3 R W) {g j : Nat} (h1 : w.heap.size ≤ g) (h2 : g < B2) (h3 : g ≠ go) (y : Int) : Inv w go gw capw B2 B3 R (W.setCell ⟨g, j, none⟩ (.int .i64 y)) :=
  ⟨h.o.set h3 y, Kd.N_far h.n (p := ⟨g, j, none⟩) (fun k hk => by have := h.l; show k ≠ g; omega) _, h.b.setCell (by simpa using h1) _, by simpa using h.z, h.l⟩
/-- What is wanted at a place: its cells. -/
theorem Inv.want {w : World} {go gw capw B2 B3 : Nat} {R : List S32} {W : World} (h : Inv w go gw capw B2 B3 R W) (i k : Nat) (hi : i < R.length) (hk : k < (rd_T32 R (i : Int)).f4.length) :
    ∃ A c, W.cell? ⟨gw, i * 12 + 8, none⟩ = some (.slice A (rd_T32 R (i : Int)).f4.length c) ∧ (rd_T32 R (i : Int)).f4.length ≤ c := by
  have hC := (Kd.N_reads' h.n).2.2
  obtain ⟨ad, A8, c8, A9, c9, e, _, _, _, _, _, _, _, _, h8, _, _, _, hl8, _, _, _⟩ := at_T32 hC (i : Int) (by omega) (by omega)
  injection e with e
  subst e
  rw [Int.toNat_natCast, add_plain] at h8
  exact ⟨A8, c8, h8, hl8⟩
theorem Inv.cells {w : World} {go gw capw B2 B3 : Nat} {R : List S32} {W : World} (h : Inv w go gw capw B2 B3 R W) (i k : Nat) (hi : i < R.length) (hk : k < (rd_T32 R (i : Int)).f4.length) :
    ∃ ad c, W.cell? ⟨gw, i * 12 + 8, none⟩ = some (.slice (some ad) (rd_T32 R (i : Int)).f4.length c) ∧ (rd_T32 R (i : Int)).f4.length ≤ c ∧
      W.cell? (ad.add (k * 3)) = some (.int .i64 (rd_T29 (rd_T32 R (i : Int)).f4 (k : Int)).f0) ∧ W.cell? ⟨(ad.add (k * 3)).block, (ad.add (k * 3)).off + 1, none⟩ = some (.int .i64 (rd_T29 (rd_T32 R (i : Int)).f4 (k : Int)).f1) ∧ W.cell? ⟨(ad.add (k * 3)).block, (ad.add (k * 3)).off + 2, none⟩ = some (.string (rd_T29 (rd_T32 R (i : Int)).f4 (k : Int)).f2) := by
  have hC := (Kd.N_reads' h.n).2.2
  obtain ⟨ad, A8, c8, A9, c9, e, _, _, _, _, _, _, _, _, h8, _, _, _, hl8, hi8, _, _⟩ := at_T32 hC (i : Int) (by omega) (by omega)
  injection e with e
  subst e
  rw [Int.toNat_natCast, add_plain] at h8
  obtain ⟨ad8, e8, h0, h1, h2⟩ := at_T29 hi8 (k : Int) (by omega) (by omega)
  subst e8
  rw [Int.toNat_natCast] at h0 h1 h2
  exact ⟨ad8, c8, h8, hl8, h0, h1, h2⟩
theorem letter1 {wr : World} {cs1 : Array Value} {t1 : TypeId} {G : World → Prop} (h : ∀ W : World, Below wr.heap.size wr W → W.heap[wr.heap.size]? = some (.cells cs1 t1 (0, 0)) → G W) : G (wr.alloc (.cells cs1 t1 (0, 0))) :=
  h _ ((Below.refl _ _).alloc (Nat.le_refl _) _) (heap_alloc_new _ _)
theorem neq29 (w : World) (x0 x1 : Int) (x2 : ByteArray) : (binOp .neq 29 (.agg #[.int .i64 x0, .int .i64 x1, .string x2]) (.agg #[.int .i64 x0, .int .i64 x1, .string x2])).run Try.prog w = .ok (.bool false) w := by
  simp only [binOp]
  simp [Op.equal, Op.maxDepth, eqA29 9998 w]
set_option maxHeartbeats 4000000 in
set_option maxRecDepth 100000 in
theorem picks_main (w : World) (A0 : Option Addr) (c0 : Nat) (l0 : List S32) (A1 : Option Addr) (c1 : Nat) (l1 : List Int) (hr0 : Kd.C k32 w A0 l0.length l0) (hc0 : l0.length ≤ c0) (hr1 : Kd.C (Kd.int .i64) w A1 l1.length l1) (hc1 : l1.length ≤ c1)
    (hs : Small l0) (h60 : l0.length ≤ 60) (h100 : l1.length ≤ 100) :
    Calls Try.prog 3 #[.slice A0 l0.length c0, .slice A1 l1.length c1] w fun e w' => e = .returned (.bool true) ∧ Below w.heap.size w w' := by
  have HF := Aside0.mk (Kd.C_F heap_k32 hr0)
  have HR1 := Aside0.mk hr1
  have HC0 := Aside0.mk hc0
  have HC1 := Aside0.mk hc1
  have HS := Aside0.mk hs
  obtain ⟨R, hR⟩ : ∃ R, R = picks l0 l1 := ⟨_, rfl⟩
  have HSR := Aside0.mk (show Small R from hR ▸ picks_small hs l1)
  have HLR := Aside0.mk (show R.length ≤ 100 from hR ▸ Nat.le_trans (picks_len l0 l1) h100)
  have HRE := Aside0.mk hR
  clear hR
  have H60 := Aside0.mk h60
  have H100 := Aside0.mk h100
  clear hr0 hr1 hc0 hc1 hs
  have t60 : decide ((60 : Int) < (l0.length : Int)) = false := decide_eq_false (by omega)
  have t100 : decide ((100 : Int) < (l1.length : Int)) = false := decide_eq_false (by omega)
  go_enter Try.func3, Try.ntmps3
  go_wp2_with (first
    | (go_at_call 4
       refine (wakes_true _).mono ?_
       rintro e w1 ⟨rfl, hb1⟩
       have HB1 := Aside0.mk hb1
       clear hb1)
    | ((with_reducible refine gate_dst (N := 21) rfl ?_); refine Kd.N_lit k32 w1.heap.size 32 ?hg (N' := 21) ?hd (xs := ([] : List (S32))) (inner := []) (ok := fun _ => True) (okp := fun _ => True) ?hr ?hp (fun _ hk => hk) trivial (Below.refl _ _) (Nat.le_refl _) (by simp) ?_; (case hd => rfl); (case hg => rfl); (case hr => first | (go_simp; done) | (go_simp; rfl)); (case hp => exact (Reps.none _ _)); intro v2 w2 ho hb hg_ hnew_; have HO2 := Aside0.mk ho; have HB2 := Aside0.mk (below_then HB1.out HB1.out.size hb); have HN2 := Aside0.mk hnew_; have HZ2 := Aside0.mk hb.size; clear ho hb hg_ hnew_)
    | ((with_reducible refine gate_builtin (b := .append) (xs := #[.tmp 21, .tmp 22]) rfl ?_); at_builtin; refine Kd.N_append_rows k32 (w0 := w2) w1.heap.size rfl (.tmp 21) (.tmp 22) 22 32 (.agg #[(.int .i64 0), (.int .i64 0), (.string ⟨#[]⟩), (.int .i64 0), (.int .i64 0), (.int .i64 0), (.string ⟨#[]⟩), (.int .i64 0), (.slice none 0 0), (.slice none 0 0), (.int .i64 0), (.int .i64 0)]) 144 rfl Try.underlying22 info32 rfl (by decide) (by omega) v2 [] l0 _ _ _ (fun _ => True) (fun k_ => k_ < w.heap.size) rfl rfl ?aO ?aR ?aK ?aF ?aB ?aS ?aL ?_; (case aO => exact HO2.out); (case aR => exact Kd.F_below HF.out HB2.out); (case aK => exact fun k_ hk_ => ⟨trivial, fun e_ => by obtain ⟨b_, hb_, hle_⟩ := HN2.out; rw [hb_] at e_; have e2 := Option.some.inj e_; have := HB1.out.size; omega⟩); (case aF => exact (fun _ _ => trivial)); (case aB => exact Below.refl _ _); (case aS => exact HZ2.out); (case aL => have := H60.out; simp; omega); intro v3 w3 ho hb hg hat; have HB3 := Aside0.mk (HB2.out.trans (hb.mono HB1.out.size)); have HR3 := Aside0.mk (Kd.N_reads ho); clear ho hb hg hat; obtain ⟨A3, c3, e3, HC3⟩ := HR3.out; subst e3; simp only [List.nil_append] at HC3; have HC3 := Aside0.mk HC3)
    )
  refine (c_pick _ _ _ _ _ l0 l1 HC3.out.2 HC3.out.1 (Kd.C_below HR1.out HB3.out) HC1.out HS.out h100).mono ?_
  rintro e w4 ⟨v4, rfl, ho4, hb4⟩
  rw [← HRE.out] at ho4
  have HB4 := Aside0.mk (below_then HB3.out HB3.out.size hb4)
  have HO4 := Aside0.mk (Kd.S_lower ho4 HB3.out.size)
  clear ho4 hb4
  obtain ⟨A4, c4, e4⟩ := Kd.S_slice HO4.out
  subst e4
  go_wp2_with fail
  refine (c_ref _ (fun k => k < w.heap.size) _ _ _ _ l0 l1 (Kd.V_mk HC0.out (Kd.F_below HF.out HB4.out)) (Kd.C_below HR1.out HB4.out) HC1.out h100).mono ?_
  rintro e w5 ⟨v5, rfl, ho5, hb5⟩
  rw [← HRE.out] at ho5
  have HB5 := Aside0.mk (below_then HB4.out HB4.out.size hb5)
  have HK5 := Aside0.mk hb5
  have HO5 := Aside0.mk (Kd.S_below HO4.out hb5)
  obtain ⟨A5, c5, e5, hc5, hC5⟩ := Kd.N_reads ho5
  subst e5
  have HC5 := Aside0.mk hC5
  have HL5 := Aside0.mk hc5
  clear ho5 hb5 hC5 hc5
  go_wp2_with fail
  refine (c_same _ _ _ _ _ R (Kd.S_reads' HO5.out).2.2 (Kd.S_reads' HO5.out).2.1 HC5.out HL5.out HSR.out HLR.out).mono ?_
  rintro e w6 ⟨rfl, hb6⟩
  have HB6 := Aside0.mk (below_then HB5.out HB5.out.size hb6)
  have HK6 := Aside0.mk (below_then HK5.out HK5.out.size hb6)
  have HO6 := Aside0.mk (Kd.S_below HO5.out hb6)
  clear hb6
  clear HC3 HR3 HC5 HL5 HN2 HO2
  go_wp2_with fail
  refine (c_ref _ (fun k => k < w.heap.size) _ _ _ _ l0 l1 (Kd.V_mk HC0.out (Kd.F_below HF.out HB6.out)) (Kd.C_below HR1.out HB6.out) HC1.out h100).mono ?_
  rintro e w7 ⟨v7, rfl, ho7, hb7⟩
  rw [← HRE.out] at ho7
  have HB7 := Aside0.mk (below_then HB6.out HB6.out.size hb7)
  have HK7 := Aside0.mk (below_then HK6.out HK6.out.size hb7)
  have HO7 := Aside0.mk (Kd.S_below HO6.out hb7)
  have HN7 := Aside0.mk ho7
  have HZ7 := Aside0.mk hb7.size
  have HX7 := Aside0.mk hb7
  clear ho7 hb7
  obtain ⟨A7, c7, e7⟩ := Kd.N_slice HN7.out
  subst e7
  rcases Nat.eq_zero_or_pos R.length with hz | hpos
  · have HZ := Aside0.mk hz
    clear hz
    go_wp2
    go_loopw [38] (fun v wr => ∃ i : Nat, v = .int .i64 (i : Int) ∧ Aside0 (Below w.heap.size w wr)) (fun v _ => 0)
    case atStart => exact ⟨0, rfl, HB7⟩
    case round =>
      obtain ⟨i, rfl, HB⟩ := hrel
      have t1 : ¬ i < R.length := by have := HZ.out; omega
      go_wp2
      go_ret
      exact ⟨rfl, HB.out⟩
  · obtain ⟨go, cap, hv, hgb, hgl, _⟩ := Kd.S_form HO4.out hpos
    cases hv
    obtain ⟨gw, capw, hvw, hwb, hwl, _⟩ := Kd.N_form HN7.out hpos
    cases hvw
    have HI : Aside0 (Inv w go gw c7 w4.heap.size w6.heap.size R w7) := ⟨⟨(OutOK.of_S HO4.out).below HK7.out, HN7.out, HB7.out, HK7.out.size, HK6.out.size⟩⟩
    have HM := HLR
    clear hpos hgb hgl hwb hwl
    clear HO4 HO7 HN7 HK5 HK6 HK7 HX7 HZ7 HB1 HB2 HB3 HB4 HB5 HB6 HB7 HO6 HO5
    go_wp2
    go_loopw [38] (fun v wr => ∃ i : Nat, v = .int .i64 (i : Int) ∧ i ≤ R.length ∧ Aside0 (Inv w go gw c7 w4.heap.size w6.heap.size R wr)) (fun v _ => R.length - (intOf v).toNat)
    case atStart => exact ⟨0, rfl, Nat.zero_le _, HI⟩
    case round =>
      clear HI
      obtain ⟨i, rfl, hi, HI⟩ := hrel
      by_cases hlt : i < R.length
      · have t1 : decide ((i : Int) < (R.length : Int)) = true := decide_eq_true (by omega)
        have hmx := HM.out
        have hwn : wrap64 ((i : Int) + 1) = ((i + 1 : Nat) : Int) := by unfold wrap64; omega
        have HWN := Aside0.mk hwn
        clear hwn
        obtain ⟨Ai, ci, hc8, hle8, _⟩ := HI.out.o.2 i hlt
        obtain ⟨n4, hn4⟩ : ∃ n4, n4 = (rd_T32 R (i : Int)).f4.length := ⟨_, rfl⟩
        rw [← hn4] at hc8
        have HN4 := Aside0.mk hn4
        clear hn4 hle8
        have hci := HI.out
        go_wp2
        obtain ⟨wo, hwo⟩ : ∃ wo : World, wo = wr := ⟨_, rfl⟩
        cases hwo
        clear hc8 hci
        go_loopw [47] (fun v wr => ∃ k : Nat, v = .int .i64 (k : Int) ∧ k ≤ n4 ∧ Aside0 (Inv w go gw c7 w4.heap.size w6.heap.size R wr)) (fun v _ => n4 - (intOf v).toNat)
        case atStart => exact ⟨0, rfl, Nat.zero_le _, HI⟩
        case round =>
          clear HI
          obtain ⟨k, rfl, hk, HI⟩ := hrel
          by_cases hkl : k < n4
          · obtain ⟨ad, cw, hw8, hwl8, hw0, hw1, hw2⟩ := HI.out.cells i k hlt (by rw [← HN4.out]; exact hkl)
            obtain ⟨Ai2, ci2, hc8, hle8, hcell⟩ := HI.out.o.2 i hlt
            obtain ⟨gi, x, rfl, hg1, hg2, hg3, hx, hf⟩ := hcell k (by rw [← HN4.out]; exact hkl)
            rw [← HN4.out] at hw8 hwl8 hc8 hle8
            obtain ⟨e0, he0⟩ : ∃ e0, e0 = (rd_T29 (rd_T32 R (i : Int)).f4 (k : Int)).f0 := ⟨_, rfl⟩
            obtain ⟨e1, he1⟩ : ∃ e1, e1 = (rd_T29 (rd_T32 R (i : Int)).f4 (k : Int)).f1 := ⟨_, rfl⟩
            obtain ⟨e2, he2⟩ : ∃ e2, e2 = (rd_T29 (rd_T32 R (i : Int)).f4 (k : Int)).f2 := ⟨_, rfl⟩
            rw [← he0] at hw0
            rw [← he1] at hw1
            rw [← he2] at hw2
            have HE := Aside0.mk (And.intro he0 (And.intro he1 he2))
            clear he0 he1 he2
            have HG := Aside0.mk (And.intro hg1 (And.intro hg2 hg3))
            clear hg1 hg2 hg3
            have HL := Aside0.mk (And.intro hwl8 hle8)
            clear hwl8 hle8
            go_upto_region 17 with (fail)
            refine letter1 (G := fun W => Code.wp _ _ _ _ W) ?_
            intro W hb hblk
            have HIW := Aside0.mk (HI.out.below hb)
            have HZW := Aside0.mk (Nat.lt_of_lt_of_le HG.out.2.1 HI.out.z)
            have hc8' := pw_cell_below hb hc8
            have hx' := pw_cell_below hb hx
            have hf' := (hb.frozen (p := ⟨gi, k * 3 + 1, none⟩) (World.block_lt_of_cell? wr _ hx)).trans hf
            have HB0 := Aside0.mk ((blk_cell hblk 0).trans rfl)
            have HB1 := Aside0.mk ((blk_cell hblk 1).trans rfl)
            have HB2 := Aside0.mk ((blk_cell hblk 2).trans rfl)
            clear hc8 hx hf hw8 hw0 hw1 hw2 hb hblk HI
            go_wp2
            obtain ⟨W2, hw⟩ : ∃ W2, W2 = W.setCell ⟨gi, k * 3 + 1, none⟩ (.int .i64 (wrap64 (x + 1))) := ⟨_, rfl⟩
            rw [← hw]
            have HI2 : Aside0 (Inv w go gw c7 w4.heap.size w6.heap.size R W2) := ⟨by rw [hw]; exact HIW.out.set HG.out.1 HG.out.2.1 HG.out.2.2 _⟩
            have hne : ∀ j, (⟨gi, k * 3 + 1, none⟩ : Addr) ≠ ⟨wr.heap.size, j, none⟩ := fun j e => by injection e with e1; have := HZW.out; omega
            have hb0 : W2.cell? ⟨wr.heap.size, 0, none⟩ = some (.int .i64 e0) := by rw [hw, World.cell?_setCell_other _ _ _ _ (hne 0)]; exact HB0.out
            have hb1 : W2.cell? ⟨wr.heap.size, 1, none⟩ = some (.int .i64 e1) := by rw [hw, World.cell?_setCell_other _ _ _ _ (hne 1)]; exact HB1.out
            have hb2 : W2.cell? ⟨wr.heap.size, 2, none⟩ = some (.string e2) := by rw [hw, World.cell?_setCell_other _ _ _ _ (hne 2)]; exact HB2.out
            clear hw hne hc8' hx' hf' HIW HB0 HB1 HB2
            obtain ⟨ad', cw', hw8, hwl8, hw0, hw1, hw2⟩ := HI2.out.cells i k hlt (by rw [← HN4.out]; exact hkl)
            rw [← HN4.out] at hw8 hwl8
            rw [← HE.out.1] at hw0
            rw [← HE.out.2.1] at hw1
            rw [← HE.out.2.2] at hw2
            have hneq := fun W : World => neq29 W e0 e1 e2
            have hi0 : (0 : Int) ≤ (i : Int) := by omega
            have hi1 : (i : Int) < (R.length : Int) := by omega
            have hk0 : (0 : Int) ≤ (k : Int) := by omega
            have hk1 : (k : Int) < (n4 : Int) := by omega
            go_quiet (fail)
            have hn4 : n4 < 4398046511104 := by rw [HN4.out]; exact (HSR.out _ (rd_mem (by omega) (by omega))).1
            go_wp2
            go_roundw
            case rel => exact ⟨k + 1, by go_num, by omega, ⟨HI2.out.below (pw_below_drewN (Below.refl _ _) _)⟩⟩
            case measure => simp [intOf]; omega
          · have t1 : decide ((k : Int) < (n4 : Int)) = false := decide_eq_false (by omega)
            go_wp2
            go_roundw
            case rel => exact ⟨i + 1, by go_num, by omega, HI⟩
            case measure => simp [intOf]; omega
      · have t1 : decide ((i : Int) < (R.length : Int)) = false := decide_eq_false (by omega)
        go_wp2
        go_ret
        exact ⟨rfl, HI.out.b⟩
end Go.Proofs.Ytbogookhndaeeaa.PP
