/- EdgeCounts: the last of a row; the law, walked. -/
import Derived.Test.YtlakjninlpiedaaHEdgeCounts
set_option linter.unusedVariables false
set_option linter.unusedSimpArgs false
namespace Go.Proofs.Ytlakjninlpiedaa.Fw
open Go Go.RowKit Go.Proofs.YtlakjninlpiedaaW.PrintWords Go.Proofs.YtlakjninlpiedaaW.PrintLast Go.Proofs.YtlakjninlpiedaaW.PrintMore Go.Proofs.Ytlakjninlpiedaa.Fl
set_option maxHeartbeats 4000000
set_option maxRecDepth 100000
attribute [local go_sem] run_f64bits run_frombits max2_int min2_int

/-- Numbers, as a kind. -/
abbrev KF : Kd Nat := Kd.scalar (fun b => .float .f64 b) (fun _ => rfl)
theorem C_cell {w : World} {ad : Addr} {l : List Nat} (h : KF.C w (some ad) l.length l) (i : Nat) (hi : i < l.length) : w.cell? (ad.add i) = some (.float .f64 l[i]) := by
  obtain ⟨_, _, h3⟩ := h
  obtain ⟨ad', e, h4⟩ := h3 (by omega)
  cases e
  obtain ⟨c, hc1, hc2, hc3⟩ := h4 i _ (List.getElem?_eq_getElem hi)
  have hc2' : c = [Value.float .f64 l[i]] := hc2
  subst hc2'
  have := hc3 0 _ rfl
  rw [show ad.add (i * KF.sz + 0) = ad.add i from by show ad.add (i * 1 + 0) = _; rw [Nat.mul_one, Nat.add_zero]] at this
  exact this
theorem C_some {w : World} {A : Option Addr} {l : List Nat} (h : KF.C w A l.length l) (hi : 0 < l.length) : ∃ ad, A = some ad := by
  obtain ⟨_, _, h3⟩ := h
  obtain ⟨ad', e, _⟩ := h3 hi
  exact ⟨ad', e⟩

/-- The last of the first ones. -/
def Lst (l : List Nat) (i r : Nat) : Prop := r < 18446744073709551616 ∧ (i = 0 → nan r) ∧ (∀ j, j < i → ∀ h : j < l.length, keyv l[j] ≤ keyv r) ∧ (0 < i → ∃ j, j < i ∧ ∃ h : j < l.length, l[j] = r)
theorem Lst.step {l : List Nat} {i r : Nat} (h : Lst l i r) (hi : i < l.length) (hl : ∀ x ∈ l, x < 18446744073709551616) :
    ((i = 0 ∨ (i ≠ 0 ∧ 0 < cmpi (keyv l[i]) (keyv r))) → Lst l (i + 1) l[i]) ∧ (i ≠ 0 → ¬ 0 < cmpi (keyv l[i]) (keyv r) → Lst l (i + 1) r) := by
  obtain ⟨h1, h2, h3, h4⟩ := h
  constructor
  · intro hc
    refine ⟨hl _ (List.getElem_mem hi), fun h => by omega, ?_, fun _ => ⟨i, by omega, hi, rfl⟩⟩
    intro j hj hjl
    by_cases hji : j = i
    · subst hji; exact Nat.le_refl _
    · rcases hc with hc | ⟨_, hc⟩
      · omega
      · have := h3 j (by omega) hjl
        unfold cmpi at hc
        split at hc <;> (try split at hc) <;> omega
  · intro h0 hc
    refine ⟨h1, fun h => by omega, ?_, fun _ => ?_⟩
    · intro j hj hjl
      by_cases hji : j = i
      · subst hji
        unfold cmpi at hc
        split at hc <;> (try split at hc) <;> omega
      · exact h3 j (by omega) hjl
    · obtain ⟨j, a, b, c⟩ := h4 (by omega)
      exact ⟨j, by omega, b, c⟩

theorem edge_Most (A : Option Addr) (cp : Nat) (l : List Nat) (w : World) (hC : KF.C w A l.length l) (hx : ∀ x ∈ l, x < 18446744073709551616) :
    Calls Try.prog 44 #[.slice A l.length cp] w fun e w' => (∃ r, e = .returned (.float .f64 r) ∧ Lst l l.length r) ∧ w' = w := by
  have hCA := Aside0.mk hC
  have hxA := Aside0.mk hx
  have hmax := Aside0.mk (Kd.C_max hC)
  clear hC hx
  have h0 : Aside0 (Lst l 0 9221120237041090561) := ⟨by decide, fun _ => by decide, fun j h => by omega, fun h => by omega⟩
  go_enter Try.func44, Try.ntmps44
  go_wp2_with (fail)
  refine (math_NaN _).mono ?_
  rintro e w1 ⟨rfl, hw1⟩
  have hwA := Aside0.mk hw1
  clear hw1
  go_wp2_with (fail)
  go_loopg [3, 9] l.length (fun kq v3 v9 w' => ∃ (i r : Nat), v3 = .float .f64 r ∧ v9 = .int .i64 (i : Int) ∧ Aside0 (i + kq = l.length) ∧ Aside0 (Lst l i r) ∧ Aside0 (w' = w))
  case atStart => exact ⟨0, _, rfl, rfl, ⟨by omega⟩, h0, hwA⟩
  case round =>
    obtain ⟨i, r, rfl, rfl, hA, hL, hwA⟩ := hrel
    by_cases hil : i < l.length
    · obtain ⟨k1, rfl⟩ : ∃ k1, gk = k1 + 1 := ⟨gk - 1, by have := hA.out; omega⟩
      have hd : decide ((i : Int) < (l.length : Int)) = true := decide_eq_true (by omega)
      have hd2 : decide (i < l.length) = true := decide_eq_true hil
      obtain ⟨ad, e0⟩ := C_some hCA.out (by omega)
      have hc0 := C_cell (e0 ▸ hCA.out) i hil
      rw [← hwA.out] at hc0
      have p0 : ((0 : Int) ≤ (i : Int)) = True := eq_true (by omega)
      have q0 : ((i : Int) < (l.length : Int)) = True := eq_true (by omega)
      have hmx := hmax.out
      have hw1 : wrap64 ((i : Int) + 1) = ((i + 1 : Nat) : Int) := by rw [show ((i : Int) + 1) = ((i + 1 : Nat) : Int) from rfl]; unfold wrap64; omega
      obtain ⟨s1, s2⟩ := hL.out.step hil hxA.out
      obtain ⟨x, hxx⟩ : ∃ x, l[i] = x := ⟨_, rfl⟩
      rw [hxx] at hc0 s1 s2
      have hxb : x < 18446744073709551616 := by rw [← hxx]; exact hxA.out _ (List.getElem_mem hil)
      have cc := edge_Compare x r hxb hL.out.1
      generalize cmpi (keyv x) (keyv r) = c at *
      subst e0
      have hA' : Aside0 (i + 1 + k1 = l.length) := ⟨by have := hA.out; omega⟩
      by_cases hi0 : i = 0
      · have hs := Aside0.mk (s1 (.inl hi0))
        have hi1 : ((i : Int) == 0) = true := by rw [hi0]; rfl
        clear hxx hxb hmx s1 s2 hil hi0
        go_wp2_with (fail)
        go_roundg k1
        case measure => omega
        case rel => exact ⟨i + 1, x, rfl, by rw [hw1], hA', hs, hwA⟩
      · have hi1 : ((i : Int) == 0) = false := beq_false_of_ne (by omega)
        by_cases hcp : 0 < c
        · have hs := Aside0.mk (s1 (.inr ⟨hi0, hcp⟩))
          have hd3 : decide (0 < c) = true := decide_eq_true hcp
          clear hxx hxb hmx s1 s2 hil hi0
          go_wp2_with (fail)
          refine (cc _).mono ?_
          intro ef_ wf_ hf_
          obtain ⟨h1f_, h2f_⟩ := hf_
          subst h1f_
          subst h2f_
          go_wp2_with (fail)
          go_roundg k1
          case measure => omega
          case rel => exact ⟨i + 1, x, rfl, by rw [hw1], hA', hs, hwA⟩
        · have hs := Aside0.mk (s2 hi0 hcp)
          have hd3 : decide (0 < c) = false := decide_eq_false hcp
          clear hxx hxb hmx s1 s2 hil hi0
          go_wp2_with (fail)
          refine (cc _).mono ?_
          intro ef_ wf_ hf_
          obtain ⟨h1f_, h2f_⟩ := hf_
          subst h1f_
          subst h2f_
          go_wp2_with (fail)
          go_roundg k1
          case measure => omega
          case rel => exact ⟨i + 1, r, rfl, by rw [hw1], hA', hs, hwA⟩
    · have hd : decide ((i : Int) < (l.length : Int)) = false := decide_eq_false (by omega)
      have hd2 : decide (i < l.length) = false := decide_eq_false hil
      have hi : i = l.length := by have := hA.out; omega
      have hs := Aside0.mk (hi ▸ hL.out : Lst l l.length r)
      clear hil hi
      go_wp2_with (fail)
      go_ret
      exact ⟨⟨r, rfl, hs.out⟩, hwA.out⟩

theorem edgeCounts_call (part all most x lo hi : Nat) (A : Option Addr) (cp : Nat) (l : List Nat) (hp : part < 18446744073709551616) (ha : all < 18446744073709551616) (hm : most < 18446744073709551616)
    (hx : x < 18446744073709551616) (hlo : lo < 18446744073709551616) (hhi : hi < 18446744073709551616) (hl : ∀ y ∈ l, y < 18446744073709551616) (w : World) (hC : KF.C w A l.length l) :
    Calls Try.prog 9 #[.int .u64 part, .int .u64 all, .int .u64 most, .float .f64 x, .float .f64 lo, .float .f64 hi, .slice A l.length cp] w fun e w' => e = .returned (.bool true) ∧ w' = w := by
  have c1 := edge_Ratio part all hp ha
  have c2 := ref_Ratio part all hp ha
  have c3 := law_same (ratiov part all) (ratiov part all)
  have c4 := edge_Clamp x lo hi hx hlo hhi
  have c5 := ref_Clamp x lo hi hx hlo hhi
  have c6 := law_same (clampv x lo hi) (clampv x lo hi)
  have c7 := edge_Whole x most hx hm
  have c8 := ref_Whole x most hx hm
  rw [decide_eq_true rfl] at c3 c6
  generalize ratiov part all = r1 at *
  generalize clampv x lo hi = r2 at *
  generalize wholev x most = r3 at *
  have hCA := Aside0.mk hC
  have hxA := Aside0.mk hl
  have hmax := Aside0.mk (Kd.C_max hC)
  have hwn : ((r3 : Int) != (r3 : Int)) = false := by simp
  clear hC hl hp ha hm hx hlo hhi
  go_enter Try.func9, Try.ntmps9
  by_cases h30 : 30 < l.length
  · have hd : decide ((l.length : Int) > 30) = true := decide_eq_true (by omega)
    have hd2 : decide ((30 : Int) < (l.length : Int)) = true := decide_eq_true (by omega)
    have hd3 : decide (30 < l.length) = true := decide_eq_true h30
    clear h30
    go_wp2_with (fail)
    refine (law_lives _).mono ?_
    intro ef_ wf_ hf_
    obtain ⟨h1f_, h2f_⟩ := hf_
    subst h1f_
    subst h2f_
    go_wp2_with (fail)
    refine (law_lives _).mono ?_
    intro ef_ wf_ hf_
    obtain ⟨h1f_, h2f_⟩ := hf_
    subst h1f_
    subst h2f_
    go_wp2_with (fail)
    go_ret
    exact ⟨rfl, rfl⟩
  · have hd : decide ((l.length : Int) > 30) = false := decide_eq_false (by omega)
    have hd2 : decide ((30 : Int) < (l.length : Int)) = false := decide_eq_false (by omega)
    have hd3 : decide (30 < l.length) = false := decide_eq_false h30
    have h30A := Aside0.mk h30
    clear h30
    go_wp2_with (fail)
    refine (law_lives _).mono ?_
    rintro e w1 ⟨rfl, hw1⟩
    have hwA := Aside0.mk hw1
    clear hw1
    go_wp2_with (fail)
    refine (c1 _).mono ?_
    intro ef_ wf_ hf_
    obtain ⟨h1f_, h2f_⟩ := hf_
    subst h1f_
    subst h2f_
    go_wp2_with (fail)
    refine (c2 _).mono ?_
    intro ef_ wf_ hf_
    obtain ⟨h1f_, h2f_⟩ := hf_
    subst h1f_
    subst h2f_
    go_wp2_with (fail)
    refine (c3 _).mono ?_
    intro ef_ wf_ hf_
    obtain ⟨h1f_, h2f_⟩ := hf_
    subst h1f_
    subst h2f_
    go_wp2_with (fail)
    refine (c4 _).mono ?_
    intro ef_ wf_ hf_
    obtain ⟨h1f_, h2f_⟩ := hf_
    subst h1f_
    subst h2f_
    go_wp2_with (fail)
    refine (c5 _).mono ?_
    intro ef_ wf_ hf_
    obtain ⟨h1f_, h2f_⟩ := hf_
    subst h1f_
    subst h2f_
    go_wp2_with (fail)
    refine (c6 _).mono ?_
    intro ef_ wf_ hf_
    obtain ⟨h1f_, h2f_⟩ := hf_
    subst h1f_
    subst h2f_
    go_wp2_with (fail)
    refine (c7 _).mono ?_
    intro ef_ wf_ hf_
    obtain ⟨h1f_, h2f_⟩ := hf_
    subst h1f_
    subst h2f_
    go_wp2_with (fail)
    refine (c8 _).mono ?_
    intro ef_ wf_ hf_
    obtain ⟨h1f_, h2f_⟩ := hf_
    subst h1f_
    subst h2f_
    go_wp2_with (fail)
    refine (edge_Most A cp l _ (by rw [hwA.out]; exact hCA.out) hxA.out).mono ?_
    rintro e w2 ⟨⟨r, rfl, hL⟩, hw2⟩
    have hwA2 := Aside0.mk (hw2.trans hwA.out)
    have hLA := Aside0.mk hL
    clear hw2 hL
    have hcn := math_IsNaN r
    by_cases hz : l.length = 0
    · have hn := hLA.out.2.1 hz
      rw [decide_eq_true hn] at hcn
      have hz1 : ((l.length : Int) == 0) = true := by rw [hz]; rfl
      clear hz hn
      go_wp2_with (fail)
      refine (hcn _).mono ?_
      rintro e w3 ⟨rfl, hw3⟩
      have hwA3 := Aside0.mk (hw3.trans hwA2.out)
      clear hw3
      go_wp2_with (fail)
      go_loopg [16, 67] l.length (fun kq v16 v67 w' => ∃ (i : Nat) (b : Bool), v16 = .bool b ∧ v67 = .int .i64 (i : Int) ∧ Aside0 (i + kq = l.length) ∧ Aside0 ((l.length = 0 → b = true) ∧ ((∃ j, j < i ∧ ∃ h : j < l.length, l[j] = r) → b = true)) ∧ Aside0 (w' = w))
      case atStart => exact ⟨0, _, rfl, rfl, ⟨by omega⟩, ⟨fun _ => rfl, fun ⟨j, h, _⟩ => by omega⟩, hwA3⟩
      case round =>
        obtain ⟨i, b, rfl, rfl, hA, hB, hwA⟩ := hrel
        by_cases hil : i < l.length
        · obtain ⟨k1, rfl⟩ : ∃ k1, gk = k1 + 1 := ⟨gk - 1, by have := hA.out; omega⟩
          have hd : decide ((i : Int) < (l.length : Int)) = true := decide_eq_true (by omega)
          have hd2 : decide (i < l.length) = true := decide_eq_true hil
          obtain ⟨ad, e0⟩ := C_some hCA.out (by omega)
          have hc0 := C_cell (e0 ▸ hCA.out) i hil
          rw [← hwA.out] at hc0
          have p0 : ((0 : Int) ≤ (i : Int)) = True := eq_true (by omega)
          have q0 : ((i : Int) < (l.length : Int)) = True := eq_true (by omega)
          have hmx := hmax.out
          have hw1 : wrap64 ((i : Int) + 1) = ((i + 1 : Nat) : Int) := by rw [show ((i : Int) + 1) = ((i + 1 : Nat) : Int) from rfl]; unfold wrap64; omega
          obtain ⟨y, hyy⟩ : ∃ y, l[i] = y := ⟨_, rfl⟩
          have hle := hLA.out.2.2.1 i hil hil
          rw [hyy] at hc0 hle
          have hyb : y < 18446744073709551616 := by rw [← hyy]; exact hxA.out _ (List.getElem_mem hil)
          have cc := ref_Compare y r hyb hLA.out.1
          have hcp : decide (0 < cmpi (keyv y) (keyv r)) = false := by
            refine decide_eq_false ?_
            unfold cmpi
            split <;> (try split) <;> omega
          have cs := law_same y r
          generalize cmpi (keyv y) (keyv r) = c at *
          subst e0
          have hA' : Aside0 (i + 1 + k1 = l.length) := ⟨by have := hA.out; omega⟩
          have hyA := Aside0.mk (show (∃ j, j < i + 1 ∧ ∃ h : j < l.length, l[j] = r) → (∃ j, j < i ∧ ∃ h : j < l.length, l[j] = r) ∨ y = r from fun ⟨j, h1, h2, h3⟩ => by
            by_cases hji : j = i
            · subst hji; exact .inr (by rw [← hyy]; exact h3)
            · exact .inl ⟨j, by omega, h2, h3⟩)
          have hpos := Aside0.mk (show l.length ≠ 0 by omega)
          clear hyy hyb hmx hil hle
          cases b with
          | true =>
            go_wp2_with (fail)
            refine (cc _).mono ?_
            intro ef_ wf_ hf_
            obtain ⟨h1f_, h2f_⟩ := hf_
            subst h1f_
            subst h2f_
            go_wp2_with (fail)
            go_roundg k1
            case measure => omega
            case rel => exact ⟨i + 1, true, rfl, by rw [hw1], hA', ⟨fun _ => rfl, fun _ => rfl⟩, hwA⟩
          | false =>
            have hnj := Aside0.mk (show ¬ ∃ j, j < i ∧ ∃ h : j < l.length, l[j] = r from fun h => by have := hB.out.2 h; contradiction)
            generalize hsb : decide (bitsv y = bitsv r) = sb at cs
            have hsA := Aside0.mk hsb
            clear hsb
            go_wp2_with (fail)
            refine (cc _).mono ?_
            intro ef_ wf_ hf_
            obtain ⟨h1f_, h2f_⟩ := hf_
            subst h1f_
            subst h2f_
            go_wp2_with (fail)
            refine (cs _).mono ?_
            intro ef_ wf_ hf_
            obtain ⟨h1f_, h2f_⟩ := hf_
            subst h1f_
            subst h2f_
            go_wp2_with (fail)
            go_roundg k1
            case measure => omega
            case rel =>
              refine ⟨i + 1, sb, rfl, by rw [hw1], hA', ⟨fun h => absurd h hpos.out, fun h => ?_⟩, hwA⟩
              rcases hyA.out h with h' | h'
              · exact absurd h' hnj.out
              · rw [← hsA.out, h']; exact decide_eq_true rfl
        · have hd : decide ((i : Int) < (l.length : Int)) = false := decide_eq_false (by omega)
          have hd2 : decide (i < l.length) = false := decide_eq_false hil
          have hb : b = true := by
            by_cases h0 : l.length = 0
            · exact hB.out.1 h0
            · obtain ⟨j, h1, h2, h3⟩ := hLA.out.2.2.2 (by omega)
              exact hB.out.2 ⟨j, by have := hA.out; omega, h2, h3⟩
          subst hb
          clear hil
          go_wp2_with (fail)
          go_ret
          exact ⟨rfl, hwA.out⟩
    · have hz1 : ((l.length : Int) == 0) = false := beq_false_of_ne (by omega)
      have hzA := Aside0.mk hz
      clear hz
      go_wp2_with (fail)
      go_loopg [16, 67] l.length (fun kq v16 v67 w' => ∃ (i : Nat) (b : Bool), v16 = .bool b ∧ v67 = .int .i64 (i : Int) ∧ Aside0 (i + kq = l.length) ∧ Aside0 ((l.length = 0 → b = true) ∧ ((∃ j, j < i ∧ ∃ h : j < l.length, l[j] = r) → b = true)) ∧ Aside0 (w' = w))
      case atStart => exact ⟨0, _, rfl, rfl, ⟨by omega⟩, ⟨fun h => absurd h hzA.out, fun ⟨j, h, _⟩ => by omega⟩, hwA2⟩
      case round =>
        obtain ⟨i, b, rfl, rfl, hA, hB, hwA⟩ := hrel
        by_cases hil : i < l.length
        · obtain ⟨k1, rfl⟩ : ∃ k1, gk = k1 + 1 := ⟨gk - 1, by have := hA.out; omega⟩
          have hd : decide ((i : Int) < (l.length : Int)) = true := decide_eq_true (by omega)
          have hd2 : decide (i < l.length) = true := decide_eq_true hil
          obtain ⟨ad, e0⟩ := C_some hCA.out (by omega)
          have hc0 := C_cell (e0 ▸ hCA.out) i hil
          rw [← hwA.out] at hc0
          have p0 : ((0 : Int) ≤ (i : Int)) = True := eq_true (by omega)
          have q0 : ((i : Int) < (l.length : Int)) = True := eq_true (by omega)
          have hmx := hmax.out
          have hw1 : wrap64 ((i : Int) + 1) = ((i + 1 : Nat) : Int) := by rw [show ((i : Int) + 1) = ((i + 1 : Nat) : Int) from rfl]; unfold wrap64; omega
          obtain ⟨y, hyy⟩ : ∃ y, l[i] = y := ⟨_, rfl⟩
          have hle := hLA.out.2.2.1 i hil hil
          rw [hyy] at hc0 hle
          have hyb : y < 18446744073709551616 := by rw [← hyy]; exact hxA.out _ (List.getElem_mem hil)
          have cc := ref_Compare y r hyb hLA.out.1
          have hcp : decide (0 < cmpi (keyv y) (keyv r)) = false := by
            refine decide_eq_false ?_
            unfold cmpi
            split <;> (try split) <;> omega
          have cs := law_same y r
          generalize cmpi (keyv y) (keyv r) = c at *
          subst e0
          have hA' : Aside0 (i + 1 + k1 = l.length) := ⟨by have := hA.out; omega⟩
          have hyA := Aside0.mk (show (∃ j, j < i + 1 ∧ ∃ h : j < l.length, l[j] = r) → (∃ j, j < i ∧ ∃ h : j < l.length, l[j] = r) ∨ y = r from fun ⟨j, h1, h2, h3⟩ => by
            by_cases hji : j = i
            · subst hji; exact .inr (by rw [← hyy]; exact h3)
            · exact .inl ⟨j, by omega, h2, h3⟩)
          have hpos := Aside0.mk (show l.length ≠ 0 by omega)
          clear hyy hyb hmx hil hle
          cases b with
          | true =>
            go_wp2_with (fail)
            refine (cc _).mono ?_
            intro ef_ wf_ hf_
            obtain ⟨h1f_, h2f_⟩ := hf_
            subst h1f_
            subst h2f_
            go_wp2_with (fail)
            go_roundg k1
            case measure => omega
            case rel => exact ⟨i + 1, true, rfl, by rw [hw1], hA', ⟨fun _ => rfl, fun _ => rfl⟩, hwA⟩
          | false =>
            have hnj := Aside0.mk (show ¬ ∃ j, j < i ∧ ∃ h : j < l.length, l[j] = r from fun h => by have := hB.out.2 h; contradiction)
            generalize hsb : decide (bitsv y = bitsv r) = sb at cs
            have hsA := Aside0.mk hsb
            clear hsb
            go_wp2_with (fail)
            refine (cc _).mono ?_
            intro ef_ wf_ hf_
            obtain ⟨h1f_, h2f_⟩ := hf_
            subst h1f_
            subst h2f_
            go_wp2_with (fail)
            refine (cs _).mono ?_
            intro ef_ wf_ hf_
            obtain ⟨h1f_, h2f_⟩ := hf_
            subst h1f_
            subst h2f_
            go_wp2_with (fail)
            go_roundg k1
            case measure => omega
            case rel =>
              refine ⟨i + 1, sb, rfl, by rw [hw1], hA', ⟨fun h => absurd h hpos.out, fun h => ?_⟩, hwA⟩
              rcases hyA.out h with h' | h'
              · exact absurd h' hnj.out
              · rw [← hsA.out, h']; exact decide_eq_true rfl
        · have hd : decide ((i : Int) < (l.length : Int)) = false := decide_eq_false (by omega)
          have hd2 : decide (i < l.length) = false := decide_eq_false hil
          have hb : b = true := by
            by_cases h0 : l.length = 0
            · exact hB.out.1 h0
            · obtain ⟨j, h1, h2, h3⟩ := hLA.out.2.2.2 (by omega)
              exact hB.out.2 ⟨j, by have := hA.out; omega, h2, h3⟩
          subst hb
          clear hil
          go_wp2_with (fail)
          go_ret
          exact ⟨rfl, hwA.out⟩
end Go.Proofs.Ytlakjninlpiedaa.Fw
