/-
  Proved: a part of the proof of the claim's statement (text T7 of it).
  Conditions: none of ours.
-/
import Derived.IntWalk
import Derived.Test.YtikmmigfdchcpaaDoorPdQ0
import Derived.Test.YtikmmigfdchcpaaDoorPdL8
import Derived.Test.YtikmmigfdchcpaaDoorPdQ34
import Derived.Test.YtikmmigfdchcpaaDoorPdQ1
import Derived.Test.YtikmmigfdchcpaaDoorPdQ62
import Derived.Test.YtikmmigfdchcpaaDoorPdO
import Derived.Test.YtikmmigfdchcpaaDoorPdK
namespace Go.Proofs.YtikmmigfdchcpaaDoor.PP
open Go.RowKit Go.Proofs.YtikmmigfdchcpaaDoorW.PrintWords Go.Proofs.YtikmmigfdchcpaaDoorW.PrintLast Go.Proofs.YtikmmigfdchcpaaDoorW.PrintMore
set_option linter.unusedVariables false
set_option linter.unusedSimpArgs false
attribute [local go_sem high] eqA38 eqA27
set_option maxHeartbeats 16000000 in
set_option maxRecDepth 100000 in
theorem pairKeeps_any (w : World) (A : Option Addr) (c : Nat) (l : List S47) (hG : Glob w) (hC : Kd.C k47 w A l.length l) (hc : l.length ≤ c) (hd : DataOk l) :
  Calls Tryd.prog 7 #[.slice A l.length c] w fun e w' => e = .returned (.bool true) ∧ Below w.heap.size w w' := by
 have hu27 := Tryd.underlying27
 have hu38 := Tryd.underlying38
 have hu41 := Tryd.underlying41
 have hu47 := Tryd.underlying47
 obtain ⟨k1, hk1⟩ := ev_wakes.rounds
 obtain ⟨b, hb, hlen⟩ := ev_great l hd
 obtain ⟨k2, hk2⟩ := hb.rounds
 have HG := zab.mk hG
 have HC := zab.mk hC
 have HL := zab.mk hc
 have K1 := zab.mk hk1
 have K2 := zab.mk hk2
 have HD := zab.mk hd
 have HLEN := zab.mk hlen
 clear hG hC hc hk1 hk2 hb hd hlen
 go_enter Tryd.func7, Tryd.ntmps7
 go_wp2_with fail
 refine (zbp.calls k1 true w HG.out K1.out).mono ?_
 rintro e w1 ⟨rfl, hb1⟩
 have HB1 := zab.mk hb1
 clear hb1
 go_wp2_with fail
 refine (za1.calls k2 _ _ l 60 b _ (Kd.zba HC.out HB1.out) HL.out K2.out).mono ?_
 rintro e w2 ⟨rfl, hb2⟩
 have HB2 := zab.mk (za4 HB1.out HB1.out.size hb2)
 clear hb2 HB1
 cases b with
 | true =>
  go_wp2
  go_ret
  exact ⟨rfl, HB2.out⟩
 | false =>
  have hl60 := HLEN.out rfl
  have hg : Good l := ⟨by omega, HD.out⟩
  obtain ⟨k3, hk3⟩ := (ev_copy hg).rounds
  obtain ⟨k4, hk4⟩ := (ev_opers l hg).rounds
  obtain ⟨k6, hk6⟩ := (ev_check l hg).rounds
  rw [← opsS_end] at hk6
  obtain ⟨O, e0, at0, hO⟩ : ∃ O e0 at0, opsS l = (O, e0, at0) := ⟨_, _, _, rfl⟩
  rw [hO] at hk4 hk6
  replace hk6 : zb1.f k6 l = some (e0, at0) := hk6
  have K3 := zab.mk hk3
  have K4 := zab.mk hk4
  have K6 := zab.mk hk6
  have HGO := zab.mk hg
  have H60 := zab.mk hl60
  clear hO hk3 hk4 hk6 hg hl60
  go_wp2_with fail
  refine (za7.calls k3 _ _ l l _ (Kd.zba HC.out HB2.out) HL.out K3.out).mono ?_
  rintro e w3 ⟨v3, rfl, hS, hb3⟩
  obtain ⟨A3, c3, e3⟩ := Kd.S_slice hS
  subst e3
  have CIN := zab.mk (Kd.S_reads' hS).2.2
  have CLI := zab.mk (Kd.S_reads' hS).2.1
  have HB3 := zab.mk (za4 HB2.out HB2.out.size hb3)
  clear hS hb3 HB2
  go_wp2_with fail
  refine (zb6.calls k4 _ _ l O e0 at0 _ (za8 HG.out HB3.out) CIN.out CLI.out K4.out).mono ?_
  rintro e w4 ⟨v4, rfl, hS, hb4⟩
  obtain ⟨A4, c4, e4⟩ := Kd.S_slice hS
  subst e4
  have HS4 := zab.mk hS
  have OMX := zab.mk (Kd.C_max (Kd.S_reads' hS).2.2)
  have HB4 := zab.mk hb4
  clear hS hb4
  go_upto_region 7 with (((with_reducible refine za0 (N := 5) rfl ?_); refine zay ?hg (N := 5) ?hd (cs := #[.int .i64 0, .int .i64 0]) (t := 27) ?hr ?_; (case hd => rfl); (case hg => rfl); (case hr => first | (go_simp; done) | (go_simp; rfl)); intro gb hg w5 hbox hb; have BX := zab.mk hbox; have GE2 := zab.mk (show w4.heap.size ≤ gb by rw [hg]; exact Nat.le_refl _); have HBX := zab.mk hb; clear hb hbox hg; have x0 : w5.cell? ⟨gb, 0, none⟩ = some (.int .i64 0) := (zae BX.out 0).trans rfl; have x1 : w5.cell? ⟨gb, 1, none⟩ = some (.int .i64 0) := (zae BX.out 1).trans rfl; have f0 := zah BX.out 0; have f1 := zah BX.out 1))
  refine zcf (G := fun W => Code.wp _ _ _ _ W) _ (fun W5 hW5 => ?_)
  have BX5 := zab.mk (show W5.heap[gb]? = some (.cells #[.int .i64 e0, .int .i64 at0] 27 (0, 0)) by rw [hW5]; exact zaz (cs := #[.int .i64 e0, .int .i64 0]) (zaz (cs := #[.int .i64 0, .int .i64 0]) (cs' := #[.int .i64 e0, .int .i64 0]) BX.out 0 (.int .i64 e0) rfl) 1 (.int .i64 at0) rfl)
  have HBX5 := show Below w4.heap.size w4 W5 by rw [hW5]; exact (HBX.out.setCell (p := ⟨gb, 0, none⟩) GE2.out _).setCell (p := ⟨gb, 1, none⟩) GE2.out _
  have B35 := zab.mk (za4 HB4.out HB4.out.size HBX5)
  have ROWS := zab.mk (rows_of_S (Kd.S_below HS4.out HBX5))
  clear hW5 x0 x1 f0 f1 BX HBX HBX5 GE2 HS4
  go_wp2_with fail
  go_loopw [23] (fun v wr => ∃ i : Int, v = .int .i64 i ∧ zab (0 ≤ i ∧ i ≤ (O.length : Int)) ∧ zab (Kp 38 w3.heap.size W5 wr)) (fun v _ => O.length - (intOf v).toNat)
  case atStart => exact ⟨0, rfl, ⟨⟨Int.le_refl _, by omega⟩⟩, ⟨Kp.refl _ _ _⟩⟩
  case round =>
   obtain ⟨i, rfl, HI, HK⟩ := hrel
   by_cases hlt : i < (O.length : Int)
   ·have ci : decide (i < (O.length : Int)) = true := decide_eq_true hlt
    have hi0 := HI.out.1
    have p0 := eq_true HI.out.1
    have q0 := eq_true hlt
    have CI0 := zab.mk hlt
    have hi3 : i < 9223372036854775807 := by have := OMX.out; omega
    obtain ⟨x, hx⟩ : ∃ x, O[i.toNat]? = some x := ⟨_, List.getElem?_eq_getElem (show i.toNat < O.length by omega)⟩
    obtain h0 | ⟨g, cap, cur, ev4, hg41, hrow⟩ := ROWS.out
    ·exfalso
     rw [h0] at hlt
     simp at hlt
     omega
    obtain ⟨v8, v9, h8, h9, ⟨m8, B8, d8, e8, s8⟩, ⟨m9, B9, d9, e9, s9⟩⟩ := hrow _ _ hx
    subst e8
    subst e9
    injection ev4 with ea en4 ec4
    clear en4 ec4
    obtain ⟨ad, had⟩ : ∃ ad : Addr, ad = ⟨g, 0, none⟩ := ⟨_, rfl⟩
    rw [← had] at ea
    subst ea
    have HAD := zab.mk had
    have H41 := zab.mk hg41
    have C8 := zab.mk h8
    have C9 := zab.mk h9
    have S8 := zab.mk s8
    have S9 := zab.mk s9
    have M8 := zab.mk m8
    have M9 := zab.mk m9
    clear hlt hx h8 h9 s8 s9 m8 m9 had hg41 hrow
    have hc8 := HK.out.cell H41.out (by decide) HAD.out (i.toNat * 12) 8 C8.out
    have hc9 := HK.out.cell H41.out (by decide) HAD.out (i.toNat * 12) 9 C9.out
    go_wp2_with fail
    go_loopw [32] (fun v wr => ∃ j : Int, v = .int .i64 j ∧ zab (0 ≤ j ∧ j ≤ ((x.f4.length : Nat) : Int)) ∧ zab (Kp 38 w3.heap.size W5 wr)) (fun v _ => x.f4.length - (intOf v).toNat)
    case atStart => exact ⟨0, rfl, ⟨⟨Int.le_refl _, by omega⟩⟩, HK⟩
    case round =>
     clear HK
     obtain ⟨j, rfl, HJ, HK1⟩ := hrel
     have hc8 := HK1.out.cell H41.out (by decide) HAD.out (i.toNat * 12) 8 C8.out
     have hc9 := HK1.out.cell H41.out (by decide) HAD.out (i.toNat * 12) 9 C9.out
     by_cases hlj : j < ((x.f4.length : Nat) : Int)
     ·have cj : decide (j < ((x.f4.length : Nat) : Int)) = true := decide_eq_true hlj
      have hj0 := HJ.out.1
      have q3 := eq_true hj0
      have q4 := eq_true hlj
      have CJ := zab.mk hlj
      obtain ⟨adi, gi, csi, eai, hadi, hbi, hhi, hsi⟩ := S8.out (by omega)
      subst eai
      obtain ⟨⟨u, hz⟩, hfz⟩ := HK1.out.can hhi hadi (j.toNat * 3) (by omega)
      have hj3 : j < 9223372036854775807 := by have := M8.out; omega
      have HI5 := zab.mk (And.intro hadi (And.intro hbi hhi))
      clear hlj hadi hbi hhi hsi
      go_wp2_with fail
      have hw7 := IntWalk.wrap64_in (j + 1) (by omega)
      first | rw [hw7] | skip
      exact ⟨⟨j + 1, rfl, ⟨⟨by omega, by have := CJ.out; omega⟩⟩, ⟨HK1.out.put HI5.out.2.2 HI5.out.2.1 HI5.out.1 _ _⟩⟩, by show x.f4.length - (j + 1).toNat < x.f4.length - j.toNat; have := CJ.out; omega⟩
     ·have cj : decide (j < ((x.f4.length : Nat) : Int)) = false := decide_eq_false hlj
      clear hlj
      go_wp2_with fail
      go_loopw [50] (fun v wr => ∃ j : Int, v = .int .i64 j ∧ zab (0 ≤ j ∧ j ≤ ((x.f5.length : Nat) : Int)) ∧ zab (Kp 38 w3.heap.size W5 wr)) (fun v _ => x.f5.length - (intOf v).toNat)
      case atStart => exact ⟨0, rfl, ⟨⟨Int.le_refl _, by omega⟩⟩, HK1⟩
      case round =>
       clear HK1
       obtain ⟨j, rfl, HJ, HK2⟩ := hrel
       have hc8 := HK2.out.cell H41.out (by decide) HAD.out (i.toNat * 12) 8 C8.out
       have hc9 := HK2.out.cell H41.out (by decide) HAD.out (i.toNat * 12) 9 C9.out
       by_cases hlj : j < ((x.f5.length : Nat) : Int)
       ·have cj : decide (j < ((x.f5.length : Nat) : Int)) = true := decide_eq_true hlj
        have hj0 := HJ.out.1
        have q3 := eq_true hj0
        have q4 := eq_true hlj
        have CJ := zab.mk hlj
        obtain ⟨adi, gi, csi, eai, hadi, hbi, hhi, hsi⟩ := S9.out (by omega)
        subst eai
        obtain ⟨⟨u, hz⟩, hfz⟩ := HK2.out.can hhi hadi (j.toNat * 3) (by omega)
        have hj3 : j < 9223372036854775807 := by have := M9.out; omega
        have HI5 := zab.mk (And.intro hadi (And.intro hbi hhi))
        clear hlj hadi hbi hhi hsi
        go_wp2_with fail
        have hw7 := IntWalk.wrap64_in (j + 1) (by omega)
        first | rw [hw7] | skip
        exact ⟨⟨j + 1, rfl, ⟨⟨by omega, by have := CJ.out; omega⟩⟩, ⟨HK2.out.put HI5.out.2.2 HI5.out.2.1 HI5.out.1 _ _⟩⟩, by show x.f5.length - (j + 1).toNat < x.f5.length - j.toNat; have := CJ.out; omega⟩
       ·have cj : decide (j < ((x.f5.length : Nat) : Int)) = false := decide_eq_false hlj
        clear hlj
        go_wp2_with fail
        go_roundw
        case rel => exact ⟨i + 1, rfl, ⟨⟨by omega, by have := CI0.out; omega⟩⟩, HK2⟩
        case measure => show O.length - (i + 1).toNat < O.length - i.toNat; have := CI0.out; omega
   ·have ci : decide (i < (O.length : Int)) = false := decide_eq_false hlt
    clear hlt
    have BWR := zab.mk (below_less (below_less HB3.out B35.out HB3.out.size) HK.out.1 HB3.out.size)
    have B3R := zab.mk (B35.out.trans HK.out.1)
    have CIR := zab.mk (Kd.zba CIN.out B3R.out)
    have CHR := zab.mk (Kd.zba HC.out BWR.out)
    have BXR := zab.mk (show wr.heap[gb]? = some (.cells #[.int .i64 e0, .int .i64 at0] 27 (0, 0)) by obtain ⟨c1, h1, _, h3⟩ := HK.out.2 _ _ _ BX5.out; rw [h3 (by decide)] at h1; exact h1)
    clear HK BX5 B35 B3R ROWS
    go_wp2_with fail
    go_loopw [70] (fun v wk => ∃ k : Int, v = .int .i64 k ∧ zab (0 ≤ k ∧ k ≤ (l.length : Int)) ∧ zab (Below w.heap.size w wk) ∧ zab (Kd.C k47 wk A3 l.length l) ∧ zab (wk.heap[gb]? = some (.cells #[.int .i64 e0, .int .i64 at0] 27 (0, 0)))) (fun v _ => l.length - (intOf v).toNat)
    case atStart => exact ⟨0, rfl, ⟨⟨Int.le_refl _, by omega⟩⟩, BWR, CIR, BXR⟩
    case round =>
     clear BWR CIR BXR CHR
     obtain ⟨k, rfl, HKK, BWR, CIR, BXR⟩ := hrel
     have HBK := zab.mk (Below.refl wr.heap.size wr)
     have CHR := zab.mk (Kd.zba HC.out BWR.out)
     by_cases hlk : k < (l.length : Int)
     ·have ck : decide (k < (l.length : Int)) = true := decide_eq_true hlk
      have hk0 := HKK.out.1
      have q3 := eq_true hk0
      have q4 := eq_true hlk
      have CK := zab.mk hlk
      clear hlk
      obtain ⟨x, hx⟩ : ∃ x, x = zar l k := ⟨_, rfl⟩
      obtain ⟨k5, hk5⟩ := (ev_same10 x (by rw [hx]; have hm := ev_mem (l := l) (i := k.toNat) (by have := CK.out; omega); unfold ev at hm; rw [Int.toNat_of_nonneg hk0] at hm; exact (HGO.out.2 _ hm).1)).rounds
      have K5 := zab.mk hk5
      obtain ⟨adn, P10, p10, P11, p11, ea, hn0, hn1, hn2, hn3, hn4, hn5, hn6, hn7, hn8, hn9, hn10, hn11, hn12, hn13, hnl10, hni10, hnl11, hni11⟩ := at_T47 CIR.out k HKK.out.1 CK.out
      cases ea
      obtain ⟨adh, Q10, q10, Q11, q11, ea, hh0, hh1, hh2, hh3, hh4, hh5, hh6, hh7, hh8, hh9, hh10, hh11, hh12, hh13, hhl10, hhi10, hhl11, hhi11⟩ := at_T47 CHR.out k HKK.out.1 CK.out
      cases ea
      rw [← hx] at hn0 hn1 hn2 hn3 hn4 hn5 hn6 hn7 hn8 hn9 hn10 hn11 hn12 hn13 hnl10 hni10 hnl11 hni11 hh0 hh1 hh2 hh3 hh4 hh5 hh6 hh7 hh8 hh9 hh10 hh11 hh12 hh13 hhl10 hhi10 hhl11 hhi11
      have N10 := zab.mk hni10
      have N11 := zab.mk hni11
      have NL10 := zab.mk hnl10
      have NL11 := zab.mk hnl11
      have H10 := zab.mk hhi10
      have H11 := zab.mk hhi11
      have HL10 := zab.mk hhl10
      have HL11 := zab.mk hhl11
      clear hx hk5 hnl10 hni10 hnl11 hni11 hhl10 hhi10 hhl11 hhi11
      go_upto_region 26 with fail
      refine start_ (n := 10) (ds := []) (S := fun w' => w'.cell? (adn.add (k.toNat * 14)) = some (.int .i64 x.f0) ∧ w'.cell? ⟨(adn.add (k.toNat * 14)).block, (adn.add (k.toNat * 14)).off + 1, none⟩ = some (.int .i64 x.f1.f0) ∧ w'.cell? ⟨(adn.add (k.toNat * 14)).block, (adn.add (k.toNat * 14)).off + 2, none⟩ = some (.int .i64 x.f1.f1) ∧ w'.cell? ⟨(adn.add (k.toNat * 14)).block, (adn.add (k.toNat * 14)).off + 3, none⟩ = some (.string x.f1.f2) ∧ w'.cell? ⟨(adn.add (k.toNat * 14)).block, (adn.add (k.toNat * 14)).off + 4, none⟩ = some (.int .i64 x.f2) ∧ w'.cell? ⟨(adn.add (k.toNat * 14)).block, (adn.add (k.toNat * 14)).off + 5, none⟩ = some (.int .i64 x.f3) ∧ w'.cell? ⟨(adn.add (k.toNat * 14)).block, (adn.add (k.toNat * 14)).off + 6, none⟩ = some (.int .i64 x.f4.f0) ∧ w'.cell? ⟨(adn.add (k.toNat * 14)).block, (adn.add (k.toNat * 14)).off + 7, none⟩ = some (.int .i64 x.f4.f1) ∧ w'.cell? ⟨(adn.add (k.toNat * 14)).block, (adn.add (k.toNat * 14)).off + 8, none⟩ = some (.string x.f4.f2) ∧ w'.cell? ⟨(adn.add (k.toNat * 14)).block, (adn.add (k.toNat * 14)).off + 9, none⟩ = some (.int .i64 x.f5) ∧ w'.cell? ⟨(adn.add (k.toNat * 14)).block, (adn.add (k.toNat * 14)).off + 10, none⟩ = some (.slice P10 x.f6.length p10) ∧ w'.cell? ⟨(adn.add (k.toNat * 14)).block, (adn.add (k.toNat * 14)).off + 11, none⟩ = some (.slice P11 x.f7.length p11) ∧ w'.cell? ⟨(adn.add (k.toNat * 14)).block, (adn.add (k.toNat * 14)).off + 12, none⟩ = some (.bool x.f8) ∧ w'.cell? ⟨(adn.add (k.toNat * 14)).block, (adn.add (k.toNat * 14)).off + 13, none⟩ = some (.string x.f9) ∧ w'.cell? (adh.add (k.toNat * 14)) = some (.int .i64 x.f0) ∧ w'.cell? ⟨(adh.add (k.toNat * 14)).block, (adh.add (k.toNat * 14)).off + 1, none⟩ = some (.int .i64 x.f1.f0) ∧ w'.cell? ⟨(adh.add (k.toNat * 14)).block, (adh.add (k.toNat * 14)).off + 2, none⟩ = some (.int .i64 x.f1.f1) ∧ w'.cell? ⟨(adh.add (k.toNat * 14)).block, (adh.add (k.toNat * 14)).off + 3, none⟩ = some (.string x.f1.f2) ∧ w'.cell? ⟨(adh.add (k.toNat * 14)).block, (adh.add (k.toNat * 14)).off + 4, none⟩ = some (.int .i64 x.f2) ∧ w'.cell? ⟨(adh.add (k.toNat * 14)).block, (adh.add (k.toNat * 14)).off + 5, none⟩ = some (.int .i64 x.f3) ∧ w'.cell? ⟨(adh.add (k.toNat * 14)).block, (adh.add (k.toNat * 14)).off + 6, none⟩ = some (.int .i64 x.f4.f0) ∧ w'.cell? ⟨(adh.add (k.toNat * 14)).block, (adh.add (k.toNat * 14)).off + 7, none⟩ = some (.int .i64 x.f4.f1) ∧ w'.cell? ⟨(adh.add (k.toNat * 14)).block, (adh.add (k.toNat * 14)).off + 8, none⟩ = some (.string x.f4.f2) ∧ w'.cell? ⟨(adh.add (k.toNat * 14)).block, (adh.add (k.toNat * 14)).off + 9, none⟩ = some (.int .i64 x.f5) ∧ w'.cell? ⟨(adh.add (k.toNat * 14)).block, (adh.add (k.toNat * 14)).off + 10, none⟩ = some (.slice Q10 x.f6.length q10) ∧ w'.cell? ⟨(adh.add (k.toNat * 14)).block, (adh.add (k.toNat * 14)).off + 11, none⟩ = some (.slice Q11 x.f7.length q11) ∧ w'.cell? ⟨(adh.add (k.toNat * 14)).block, (adh.add (k.toNat * 14)).off + 12, none⟩ = some (.bool x.f8) ∧ w'.cell? ⟨(adh.add (k.toNat * 14)).block, (adh.add (k.toNat * 14)).off + 13, none⟩ = some (.string x.f9)) #[false, false, false, false, false, false, false, false, false, false] (by rfl) rfl rfl ⟨hn0, hn1, hn2, hn3, hn4, hn5, hn6, hn7, hn8, hn9, hn10, hn11, hn12, hn13, hh0, hh1, hh2, hh3, hh4, hh5, hh6, hh7, hh8, hh9, hh10, hh11, hh12, hh13⟩ (fun hHeld => ?_)
      have HB9 := zab.mk (zad HBK.out)
      generalize hW9 : wr.drew = W9 at HB9 hHeld ⊢
      clear hW9 hn0 hh0 hn1 hh1 hn2 hh2 hn3 hh3 hn4 hh4 hn5 hh5 hn6 hh6 hn7 hh7 hn8 hh8 hn9 hh9 hn10 hh10 hn11 hh11 hn12 hh12 hn13 hh13
      refine pz_ 0 73 ?_ ?_ (bz 10 1) rfl rfl (by kernel_rfl) (fun _ _ _ h => h) (Or.inl ⟨by rfl, ?_⟩) ?_ ?_; rotate_left 2; (intro w'; go_simp; with_reducible rfl); (simp only [zps]; rfl)
      refine pz_ 1 74 ?_ ?_ (bz 10 3) rfl rfl (by kernel_rfl) (fun _ _ _ h => h) (Or.inl ⟨by rfl, ?_⟩) ?_ ?_; rotate_left 2; (intro w'; go_simp; with_reducible rfl); (simp only [zps]; rfl)
      refine pz_ 2 75 ?_ ?_ (bz 10 7) rfl rfl (by kernel_rfl) (fun _ _ _ h => h) (Or.inl ⟨by rfl, ?_⟩) ?_ ?_; rotate_left 2; (intro w'; go_simp; with_reducible rfl); (simp only [zps]; rfl)
      refine tz_ 3 76 ?_ ?_ (bz 10 15) rfl rfl (by kernel_rfl) (fun _ _ _ h => h) (Or.inl ⟨by rfl, ?_⟩) hHeld ?_ ?_; rotate_left 2; (rintro w' ⟨s0, s1, s2, s3, s4, s5, s6, s7, s8, s9, s10, s11, s12, s13, s14, s15, s16, s17, s18, s19, s20, s21, s22, s23, s24, s25, s26, s27⟩; go_simp; with_reducible rfl); (simp only [zps]; rfl)
      refine pz_ 4 77 ?_ ?_ (bz 10 31) rfl rfl (by kernel_rfl) (fun _ _ _ h => h) (Or.inl ⟨by rfl, ?_⟩) ?_ ?_; rotate_left 2; (intro w'; go_simp; with_reducible rfl); (simp only [zps]; rfl)
      refine pz_ 5 78 ?_ ?_ (bz 10 63) rfl rfl (by kernel_rfl) (fun _ _ _ h => h) (Or.inl ⟨by rfl, ?_⟩) ?_ ?_; rotate_left 2; (intro w'; go_simp; with_reducible rfl); (simp only [zps]; rfl)
      refine pz_ 6 79 ?_ ?_ (bz 10 127) rfl rfl (by kernel_rfl) (fun _ _ _ h => h) (Or.inl ⟨by rfl, ?_⟩) ?_ ?_; rotate_left 2; (intro w'; go_simp; with_reducible rfl); (simp only [zps]; rfl)
      refine tz_ 7 80 ?_ ?_ (bz 10 255) rfl rfl (by kernel_rfl) (fun _ _ _ h => h) (Or.inl ⟨by rfl, ?_⟩) hHeld ?_ ?_; rotate_left 2; (rintro w' ⟨s0, s1, s2, s3, s4, s5, s6, s7, s8, s9, s10, s11, s12, s13, s14, s15, s16, s17, s18, s19, s20, s21, s22, s23, s24, s25, s26, s27⟩; go_simp; with_reducible rfl); (simp only [zps]; rfl)
      refine one_ (i := 8) (N := some 81) (bz 10 511) rfl rfl (by kernel_rfl) (by decide) (fun K hK => ?_)
      refine goes_ Tryd.func17 (by kernel_rfl) rfl #[.agg #[.int .i64 x.f0, .int .i64 x.f1.f0, .int .i64 x.f1.f1, .string x.f1.f2, .int .i64 x.f2, .int .i64 x.f3, .int .i64 x.f4.f0, .int .i64 x.f4.f1, .string x.f4.f2, .int .i64 x.f5, .slice P10 x.f6.length p10, .slice P11 x.f7.length p11, .bool x.f8, .string x.f9], .agg #[.int .i64 x.f0, .int .i64 x.f1.f0, .int .i64 x.f1.f1, .string x.f1.f2, .int .i64 x.f2, .int .i64 x.f3, .int .i64 x.f4.f0, .int .i64 x.f4.f1, .string x.f4.f2, .int .i64 x.f5, .slice Q10 x.f6.length q10, .slice Q11 x.f7.length q11, .bool x.f8, .string x.f9]] (by rfl) rfl rfl (by (try simp only [List.map_toArray, List.map_cons, List.map_nil]); first | done | rfl) ?_
      with_reducible refine (zbw.calls k5 x.f0 x.f1.f0 x.f1.f1 x.f1.f2 x.f2 x.f3 x.f4.f0 x.f4.f1 x.f4.f2 x.f5 P10 p10 x.f6 P11 p11 x.f7 x.f8 x.f9 x.f0 x.f1.f0 x.f1.f1 x.f1.f2 x.f2 x.f3 x.f4.f0 x.f4.f1 x.f4.f2 x.f5 Q10 q10 x.f6 Q11 q11 x.f7 x.f8 x.f9 true _ ?s1 NL10.out ?s2 NL11.out ?s3 HL10.out ?s4 HL11.out K5.out).mono ?_
      (case s1 => exact Kd.zba N10.out HB9.out)
      (case s2 => exact Kd.zba N11.out HB9.out)
      (case s3 => exact Kd.zba H10.out HB9.out)
      (case s4 => exact Kd.zba H11.out HB9.out)
      rintro e w10 ⟨rfl, hb10⟩
      refine ⟨_, rfl, ?_⟩
      refine hK.out _ _ ⟨(hb10.cell (World.block_lt_of_cell? W9 _ hHeld.1)).trans hHeld.1, (hb10.cell (World.block_lt_of_cell? W9 _ hHeld.2.1)).trans hHeld.2.1, (hb10.cell (World.block_lt_of_cell? W9 _ hHeld.2.2.1)).trans hHeld.2.2.1, (hb10.cell (World.block_lt_of_cell? W9 _ hHeld.2.2.2.1)).trans hHeld.2.2.2.1, (hb10.cell (World.block_lt_of_cell? W9 _ hHeld.2.2.2.2.1)).trans hHeld.2.2.2.2.1, (hb10.cell (World.block_lt_of_cell? W9 _ hHeld.2.2.2.2.2.1)).trans hHeld.2.2.2.2.2.1, (hb10.cell (World.block_lt_of_cell? W9 _ hHeld.2.2.2.2.2.2.1)).trans hHeld.2.2.2.2.2.2.1, (hb10.cell (World.block_lt_of_cell? W9 _ hHeld.2.2.2.2.2.2.2.1)).trans hHeld.2.2.2.2.2.2.2.1, (hb10.cell (World.block_lt_of_cell? W9 _ hHeld.2.2.2.2.2.2.2.2.1)).trans hHeld.2.2.2.2.2.2.2.2.1, (hb10.cell (World.block_lt_of_cell? W9 _ hHeld.2.2.2.2.2.2.2.2.2.1)).trans hHeld.2.2.2.2.2.2.2.2.2.1, (hb10.cell (World.block_lt_of_cell? W9 _ hHeld.2.2.2.2.2.2.2.2.2.2.1)).trans hHeld.2.2.2.2.2.2.2.2.2.2.1, (hb10.cell (World.block_lt_of_cell? W9 _ hHeld.2.2.2.2.2.2.2.2.2.2.2.1)).trans hHeld.2.2.2.2.2.2.2.2.2.2.2.1, (hb10.cell (World.block_lt_of_cell? W9 _ hHeld.2.2.2.2.2.2.2.2.2.2.2.2.1)).trans hHeld.2.2.2.2.2.2.2.2.2.2.2.2.1, (hb10.cell (World.block_lt_of_cell? W9 _ hHeld.2.2.2.2.2.2.2.2.2.2.2.2.2.1)).trans hHeld.2.2.2.2.2.2.2.2.2.2.2.2.2.1, (hb10.cell (World.block_lt_of_cell? W9 _ hHeld.2.2.2.2.2.2.2.2.2.2.2.2.2.2.1)).trans hHeld.2.2.2.2.2.2.2.2.2.2.2.2.2.2.1, (hb10.cell (World.block_lt_of_cell? W9 _ hHeld.2.2.2.2.2.2.2.2.2.2.2.2.2.2.2.1)).trans hHeld.2.2.2.2.2.2.2.2.2.2.2.2.2.2.2.1, (hb10.cell (World.block_lt_of_cell? W9 _ hHeld.2.2.2.2.2.2.2.2.2.2.2.2.2.2.2.2.1)).trans hHeld.2.2.2.2.2.2.2.2.2.2.2.2.2.2.2.2.1, (hb10.cell (World.block_lt_of_cell? W9 _ hHeld.2.2.2.2.2.2.2.2.2.2.2.2.2.2.2.2.2.1)).trans hHeld.2.2.2.2.2.2.2.2.2.2.2.2.2.2.2.2.2.1, (hb10.cell (World.block_lt_of_cell? W9 _ hHeld.2.2.2.2.2.2.2.2.2.2.2.2.2.2.2.2.2.2.1)).trans hHeld.2.2.2.2.2.2.2.2.2.2.2.2.2.2.2.2.2.2.1, (hb10.cell (World.block_lt_of_cell? W9 _ hHeld.2.2.2.2.2.2.2.2.2.2.2.2.2.2.2.2.2.2.2.1)).trans hHeld.2.2.2.2.2.2.2.2.2.2.2.2.2.2.2.2.2.2.2.1, (hb10.cell (World.block_lt_of_cell? W9 _ hHeld.2.2.2.2.2.2.2.2.2.2.2.2.2.2.2.2.2.2.2.2.1)).trans hHeld.2.2.2.2.2.2.2.2.2.2.2.2.2.2.2.2.2.2.2.2.1, (hb10.cell (World.block_lt_of_cell? W9 _ hHeld.2.2.2.2.2.2.2.2.2.2.2.2.2.2.2.2.2.2.2.2.2.1)).trans hHeld.2.2.2.2.2.2.2.2.2.2.2.2.2.2.2.2.2.2.2.2.2.1, (hb10.cell (World.block_lt_of_cell? W9 _ hHeld.2.2.2.2.2.2.2.2.2.2.2.2.2.2.2.2.2.2.2.2.2.2.1)).trans hHeld.2.2.2.2.2.2.2.2.2.2.2.2.2.2.2.2.2.2.2.2.2.2.1, (hb10.cell (World.block_lt_of_cell? W9 _ hHeld.2.2.2.2.2.2.2.2.2.2.2.2.2.2.2.2.2.2.2.2.2.2.2.1)).trans hHeld.2.2.2.2.2.2.2.2.2.2.2.2.2.2.2.2.2.2.2.2.2.2.2.1, (hb10.cell (World.block_lt_of_cell? W9 _ hHeld.2.2.2.2.2.2.2.2.2.2.2.2.2.2.2.2.2.2.2.2.2.2.2.2.1)).trans hHeld.2.2.2.2.2.2.2.2.2.2.2.2.2.2.2.2.2.2.2.2.2.2.2.2.1, (hb10.cell (World.block_lt_of_cell? W9 _ hHeld.2.2.2.2.2.2.2.2.2.2.2.2.2.2.2.2.2.2.2.2.2.2.2.2.2.1)).trans hHeld.2.2.2.2.2.2.2.2.2.2.2.2.2.2.2.2.2.2.2.2.2.2.2.2.2.1, (hb10.cell (World.block_lt_of_cell? W9 _ hHeld.2.2.2.2.2.2.2.2.2.2.2.2.2.2.2.2.2.2.2.2.2.2.2.2.2.2.1)).trans hHeld.2.2.2.2.2.2.2.2.2.2.2.2.2.2.2.2.2.2.2.2.2.2.2.2.2.2.1, (hb10.cell (World.block_lt_of_cell? W9 _ hHeld.2.2.2.2.2.2.2.2.2.2.2.2.2.2.2.2.2.2.2.2.2.2.2.2.2.2.2)).trans hHeld.2.2.2.2.2.2.2.2.2.2.2.2.2.2.2.2.2.2.2.2.2.2.2.2.2.2.2⟩ (fun hHeld2 => ?_)
      clear hK K
      refine norm_ (a' := ?_) ?_ ?_
      rotate_left
      ·show Act.put _ (some 81) _ = _
       simp only [zps]
       rfl
      refine pz_ 9 82 ?_ ?_ (bz 10 1023) rfl rfl (by kernel_rfl) (fun _ _ _ h => h) (Or.inl ⟨by rfl, ?_⟩) ?_ ?_; rotate_left 2; (intro w'; go_simp; with_reducible rfl); (simp only [zps]; rfl)
      refine done_ (by kernel_rfl) ?_
      have HB10 := zab.mk (za4 HB9.out HB9.out.size hb10)
      clear hHeld hHeld2 hb10
      go_wp2_with fail
      have hw8 := IntWalk.wrap64_in (k + 1) (by have := H60.out; have := CK.out; omega)
      first | rw [hw8] | skip
      exact ⟨⟨k + 1, rfl, ⟨⟨by omega, by have := CK.out; omega⟩⟩, ⟨za4 BWR.out BWR.out.size HB10.out⟩, ⟨Kd.zba CIR.out HB10.out⟩, ⟨(HB10.out.block gb (zbo BXR.out)).trans BXR.out⟩⟩, by show l.length - (k + 1).toNat < l.length - k.toNat; have := CK.out; omega⟩
     ·have ck : decide (k < (l.length : Int)) = false := decide_eq_false hlk
      clear hlk
      have b0 : wr.cell? ⟨gb, 0, none⟩ = some (.int .i64 e0) := (zae BXR.out 0).trans rfl
      have b1 : wr.cell? ⟨gb, 1, none⟩ = some (.int .i64 at0) := (zae BXR.out 1).trans rfl
      go_upto_region 29 with fail
      refine start_ (n := 5) (ds := []) (S := fun w' => w'.cell? ⟨gb, 0, none⟩ = some (.int .i64 e0) ∧ w'.cell? ⟨gb, 1, none⟩ = some (.int .i64 at0)) #[false, false, false, false, false] (by rfl) rfl rfl ⟨b0, b1⟩ (fun hHeld => ?_)
      have HB9 := zab.mk (zad HBK.out)
      generalize hW9 : wr.drew = W9 at HB9 hHeld ⊢
      clear hW9 b0 b1
      refine pz_ 0 84 ?_ ?_ (bz 5 1) rfl rfl (by kernel_rfl) (fun _ _ _ h => h) (Or.inl ⟨by rfl, ?_⟩) ?_ ?_; rotate_left 2; (intro w'; go_simp; with_reducible rfl); (simp only [zps]; rfl)
      refine tz_ 2 86 ?_ ?_ (bz 5 5) rfl rfl (by kernel_rfl) (fun _ _ _ h => h) (Or.inl ⟨by rfl, ?_⟩) hHeld ?_ ?_; rotate_left 2; (rintro w' ⟨s0, s1⟩; go_simp; with_reducible rfl); (simp only [zps]; rfl)
      refine one_ (i := 1) (N := some 85) (bz 5 7) rfl rfl (by kernel_rfl) (by decide) (fun K hK => ?_)
      refine goes_ Tryd.func10 (by kernel_rfl) rfl #[.slice A3 l.length c3] (by rfl) rfl rfl (by (try simp only [List.map_toArray, List.map_cons, List.map_nil]); first | done | rfl) ?_
      with_reducible refine (zb1.calls k6 _ _ l e0 at0 _ ?s1 ?s2 CLI.out K6.out).mono ?_
      (case s1 => exact za8 (za8 HG.out BWR.out) HB9.out)
      (case s2 => exact Kd.zba CIR.out HB9.out)
      rintro e w10 ⟨rfl, hb10⟩
      refine ⟨_, rfl, ?_⟩
      refine hK.out _ _ ⟨(hb10.cell (World.block_lt_of_cell? W9 _ hHeld.1)).trans hHeld.1, (hb10.cell (World.block_lt_of_cell? W9 _ hHeld.2)).trans hHeld.2⟩ (fun hHeld2 => ?_)
      clear hK K
      refine norm_ (a' := ?_) ?_ ?_
      rotate_left
      ·show Act.put _ (some 85) _ = _
       simp only [zps]
       rfl
      refine pz_ 3 87 ?_ ?_ (bz 5 15) rfl rfl (by kernel_rfl) (fun _ _ _ h => h) (Or.inl ⟨by rfl, ?_⟩) ?_ ?_; rotate_left 2; (intro w'; go_simp; with_reducible rfl); (simp only [zps]; rfl)
      refine pz_ 4 2 ?_ ?_ (bz 5 31) rfl rfl (by kernel_rfl) (fun _ _ _ h => h) (Or.inl ⟨by rfl, ?_⟩) ?_ ?_; rotate_left 2; (intro w'; go_simp; with_reducible rfl); (simp only [zps]; rfl)
      refine done_ (by kernel_rfl) ?_
      have HB10 := zab.mk (za4 HB9.out HB9.out.size hb10)
      clear hHeld hHeld2 hb10
      go_wp2_with fail
      go_ret
      exact ⟨by simp, za4 BWR.out BWR.out.size HB10.out⟩
end Go.Proofs.YtikmmigfdchcpaaDoor.PP
