/- fence.Get: the next fences of a cursor. -/
import Derived.Test.YtnmdckgaljldhaaMCur
import Derived.Test.YtnmdckgaljldhaaLFGet
set_option linter.unusedVariables false
set_option linter.unusedSimpArgs false
namespace Go.Proofs.Ytnmdckgaljldhaa.Tb
open Go Go.RowKit Go.Proofs.YtnmdckgaljldhaaW.PrintWords Go.Proofs.YtnmdckgaljldhaaW.PrintLast Go.Proofs.YtnmdckgaljldhaaW.PrintMore Go.Proofs.Ytnmdckgaljldhaa.PureKit Go.Proofs.Ytnmdckgaljldhaa.Sep Go.Proofs.Ytnmdckgaljldhaa.G
set_option maxHeartbeats 4000000
set_option maxRecDepth 100000
attribute [local go_sem] max2_int min2_int max_two min_two

theorem fence_Get_short (w0 w : World) (g at_ : Nat) (l : List Int) (ps : List HP) (n : Int) (hs : Sep.Sep w0 w (cur g l at_ true :: ps)) (hat : at_ ≤ l.length) (hl : l.length ≤ 1000000) (hn : 0 < n) (hsh : n > ((l.length : Int) - at_) / 8) :
    Calls Try.prog 22 #[.pointer (some ⟨g, 0, none⟩), .int .i64 n] w fun e w' => e = .panicked [fault g 2] ∧ Sep.Sep w0 w' (cur g l at_ true :: ps) := by
  have hS := Aside0.mk hs
  have hA := Aside0.mk (And.intro hat hl)
  have hm : (if 0 < n then n else 0) = n := if_pos hn
  have hd0 : decide (0 < n) = true := decide_eq_true hn
  obtain ⟨q, hq⟩ : ∃ q, Int.tdiv ((l.length : Int) - at_) 8 = q := ⟨_, rfl⟩
  have hqe : q = ((l.length : Int) - at_) / 8 := by rw [← hq, Int.tdiv_eq_ediv_of_nonneg (by omega)]
  have hd : decide (n > q) = true := decide_eq_true (by omega)
  have hd2 : decide (q < n) = true := decide_eq_true (by omega)
  have hwq : wrap64 q = q := w64 (by omega) (by omega)
  clear hs hat hl hsh hqe
  go_enter Try.func22, Try.ntmps22
  go_wp2_with (fail)
  refine (cur_Left w0 _ g at_ l _ hS.out hA.out.1 (by have := hA.out.2; omega)).mono ?_
  rintro e w1 ⟨rfl, h1⟩
  have hS1 := Aside0.mk h1
  clear h1
  go_wp2_with (fail)
  refine (cur_Fail w0 _ g at_ l _ 2 hS1.out (by decide)).mono ?_
  rintro e w2 ⟨rfl, h2⟩
  exact ⟨rfl, rfl, h2⟩

theorem fence_Get_some (w0 w : World) (g at_ : Nat) (l : List Int) (ps : List HP) (n : Int) (m : Nat) (hm : (if 0 < n then n else 0) = (m : Int)) (hs : Sep.Sep w0 w (cur g l at_ true :: ps)) (hb : Bytes l) (hl : l.length ≤ 1000000) (hsh : at_ + 8 * m ≤ l.length) :
    Calls Try.prog 22 #[.pointer (some ⟨g, 0, none⟩), .int .i64 n] w fun e w' =>
      (risesF (fensAt l at_ m) = true ∧ ∃ (A : Option Addr) (c : Nat), e = .returned (.slice A m c) ∧ Sep.Sep w0 w' (row (Kd.int .u64) 39 (.slice A m c) (fensAt l at_ m) :: cur g l (at_ + 8 * m) true :: ps)) ∨
      (risesF (fensAt l at_ m) = false ∧ e = .panicked [fault g 8] ∧ Sep.Sep w0 w' (cur g l (at_ + 8 * m) true :: ps)) := by
  have hS := Aside0.mk hs
  have hbA := Aside0.mk hb
  have hA := Aside0.mk (And.intro hsh hl)
  obtain ⟨q, hq⟩ : ∃ q, Int.tdiv ((l.length : Int) - at_) 8 = q := ⟨_, rfl⟩
  have hqe : q = ((l.length : Int) - at_) / 8 := by rw [← hq, Int.tdiv_eq_ediv_of_nonneg (by omega)]
  have hwq : wrap64 q = q := w64 (by omega) (by omega)
  have hqm : (m : Int) ≤ q := by omega
  have hd : decide ((m : Int) > q) = false := decide_eq_false (by omega)
  have hd2 : decide (q < (m : Int)) = false := decide_eq_false (by omega)
  have hqA := Aside0.mk hqm
  clear hs hb hl hsh hqe hqm
  go_enter Try.func22, Try.ntmps22
  go_wp2_with (fail)
  refine (cur_Left w0 _ g at_ l _ hS.out (by have := hA.out; omega) (by have := hA.out.2; omega)).mono ?_
  rintro e w1 ⟨rfl, h1⟩
  have hS1 := Aside0.mk (Sep.row_nil (Kd.int .u64) 39 h1)
  clear h1
  go_wp2_with (fail)
  go_loopg [5, 16] m (fun kq v5 v16 w' => ∃ (i c5 : Nat) (A5 : Option Addr), v5 = .slice A5 i c5 ∧ v16 = .int .i64 i ∧ Aside0 (i + kq = m) ∧ Aside0 (Sep.Sep w0 w' (row (Kd.int .u64) 39 (.slice A5 i c5) (fensAt l at_ i) :: cur g l (at_ + 8 * i) true :: ps)))
  case atStart => exact ⟨0, 0, none, rfl, rfl, ⟨by omega⟩, hS1⟩
  case round =>
    clear hS hS1 hwq
    obtain ⟨i, c5, A5, rfl, rfl, hI, hS⟩ := hrel
    by_cases him : i < m
    · obtain ⟨k1, rfl⟩ : ∃ k1, gk = k1 + 1 := ⟨gk - 1, by have := hI.out; omega⟩
      have e1 : decide ((i : Int) < (m : Int)) = true := decide_eq_true (by omega)
      have e2 : decide (i < m) = true := decide_eq_true him
      have hq1 : wrap64 ((i : Int) + 1) = ((i + 1 : Nat) : Int) := by rw [w64 (by omega) (by have := hA.out; omega)]; omega
      have hI' : Aside0 (i + 1 + k1 = m) := ⟨by have := hI.out; omega⟩
      have hp := Aside0.mk (show at_ + 8 * i + 8 ≤ l.length by have := hA.out; omega)
      have hll := Aside0.mk (show l.length ≤ 1000000000000 by have := hA.out; omega)
      have hil := Aside0.mk (show ((fensAt l at_ i).length + 1) * 8 ≤ 140737488355328 by rw [fensAt_len]; have := hA.out; omega)
      have hsucc := Aside0.mk (fensAt_succ l at_ i)
      obtain ⟨f0, hf0⟩ : ∃ f0, lev ((l.take (at_ + 8 * i + 8)).drop (at_ + 8 * i)) = f0 := ⟨_, rfl⟩
      have hent : Aside0 (fenAt l (at_ + 8 * i) = f0) := ⟨by unfold fenAt; rw [hf0]⟩
      have hE8 := Aside0.mk (fun W (h : Sep.Sep w0 W (cur g l (at_ + 8 * i) true :: row (Kd.int .u64) 39 (.slice A5 i c5) (fensAt l at_ i) :: ps)) => cur_Eight_some w0 W g (at_ + 8 * i) l _ h hbA.out hll.out (by have := hp.out; omega))
      rw [hf0] at hE8
      have hAl : Aside0 (i = (fensAt l at_ i).length) := ⟨(fensAt_len l at_ i).symm⟩
      clear him hf0
      go_wp2_with (fail)
      refine (hE8.out _ hS.out.pick1).mono ?_
      rintro e w6 ⟨rfl, h6⟩
      obtain ⟨bs, hRr, hGr⟩ := h6.pick1.row_open
      have hR := Aside0.mk hRr
      have hG := Aside0.mk hGr
      clear h6 hRr hGr
      go_wp2_with (first | ((with_reducible refine gate_builtin (b := .append) (xs := #[.tmp 18, .tmp 21]) rfl ?_); at_builtin; refine Kd.R_append (Kd.int .u64) (w0 := w6) 0 rfl (.tmp 18) (.tmp 21) 26 39 (.int .u64 0) 8 rfl Try.underlying26 (by kernel_rfl) rfl (by decide) (by decide) (.slice A5 i c5) (fensAt l at_ i) f0 [.int .u64 f0] (fun k => k ∈ bs ∨ w6.heap.size ≤ k) (fun _ => False) rfl rfl rfl (fun _ h => h.elim) (fun _ h => .inr h) ?aO ?aB ?aS ?aL ?_; (case aO => exact Kd.R_mono hR.out (fun _ h => .inl h)); (case aB => exact Below.refl _ _); (case aS => exact Nat.zero_le _); (case aL => exact hil.out); intro v7 w7 ho7 hb7 hg7 hat7; obtain ⟨A7, c7, rfl⟩ := Kd.R_slice ho7; have hS7 := Aside0.mk (hG.out w7 _ _ ho7 hg7); clear ho7 hb7 hg7 hat7))
      have hS8 : Aside0 (Sep.Sep w0 w7 (row (Kd.int .u64) 39 (.slice A7 (i + 1) c7) (fensAt l at_ (i + 1)) :: cur g l (at_ + 8 * (i + 1)) true :: ps)) := ⟨by
        have h := hS7.out
        rw [show fensAt l at_ i ++ [f0] = fensAt l at_ (i + 1) by rw [hsucc.out, hent.out], fensAt_len] at h
        rw [show at_ + 8 * (i + 1) = at_ + 8 * i + 8 by omega]
        exact h⟩
      have hlen7 : Aside0 ((fensAt l at_ i).length + 1 = i + 1) := ⟨by rw [fensAt_len]⟩
      clear hS hS7 hR hG hE8
      go_roundg k1
      case measure => omega
      case rel => exact ⟨i + 1, c7, A7, by first | rfl | (rw [← hlen7.out]; rfl) | (simp [fensAt_len]), by first | rw [hq1] | rfl, hI', hS8⟩
    · have e1 : decide ((i : Int) < (m : Int)) = false := decide_eq_false (by omega)
      have e2 : decide (i < m) = false := decide_eq_false him
      have hie : i = m := by have := hI.out; omega
      subst hie
      have hel := fensAt_len l at_ i
      obtain ⟨kr, hkr⟩ := (isSorted_ev (fensAt l at_ i) (by rw [hel]; have := hA.out; omega)).rounds
      obtain ⟨-, hc5, hC5⟩ := row_C hS.out
      have hcall := Aside0.mk (slices_IsSorted_uint64_uint64.calls kr A5 c5 (fensAt l at_ i) _ wr hC5 hc5 hkr)
      rw [hel] at hcall
      obtain ⟨R, hRe⟩ : ∃ R, risesF (fensAt l at_ i) = R := ⟨_, rfl⟩
      rw [hRe] at hcall
      have hReA := Aside0.mk hRe
      clear him hel hkr hc5 hC5 hRe
      go_wp2_with (fail)
      refine hcall.out.mono ?_
      rintro e w8 ⟨rfl, hb8⟩
      have hS8 := Aside0.mk (hS.out.below hb8.below)
      clear hb8
      cases R with
      | true =>
        go_wp2_with (fail)
        go_ret
        exact .inl ⟨hReA.out, A5, c5, rfl, hS8.out⟩
      | false =>
        go_wp2_with (fail)
        refine (cur_Fail w0 _ g _ l _ 8 hS8.out.tail (by decide)).mono ?_
        rintro e w9 ⟨rfl, h9⟩
        exact ⟨rfl, .inr ⟨hReA.out, rfl, h9⟩⟩
end Go.Proofs.Ytnmdckgaljldhaa.Tb
