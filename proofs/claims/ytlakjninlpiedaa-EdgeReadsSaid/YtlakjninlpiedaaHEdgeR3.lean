/- EdgeReads: the closure that reads a row of numbers. -/
import Derived.Test.YtlakjninlpiedaaHEdgeR2
import Derived.Test.YtlakjninlpiedaaHRun2
import Derived.Test.YtlakjninlpiedaaHEdgeLaws
set_option linter.unusedVariables false
set_option linter.unusedSimpArgs false
namespace Go.Proofs.Ytlakjninlpiedaa.Fw
open Go Go.RowKit Go.Proofs.YtlakjninlpiedaaW.PrintWords Go.Proofs.YtlakjninlpiedaaW.PrintLast Go.Proofs.YtlakjninlpiedaaW.PrintMore Go.Proofs.Ytlakjninlpiedaa.PureKit Go.Proofs.Ytlakjninlpiedaa.Fl Go.Proofs.Ytlakjninlpiedaa.Sep Go.Proofs.Ytlakjninlpiedaa.G
set_option maxHeartbeats 4000000
set_option maxRecDepth 100000
attribute [local go_sem] run_f64bits run_frombits run_store_float

/-- Numbers, as they are written. -/
def efs (l : List Nat) : List Int := l.flatMap fun x => nbytes 8 (bitsv x : Int)
theorem efs_len : ∀ l : List Nat, (efs l).length = 8 * l.length
  | [] => rfl
  | x :: s => by
    have := efs_len s
    simp only [efs, List.flatMap_cons, List.length_append, List.length_cons, nbytes_len] at *
    omega
theorem efs_bytes : ∀ l : List Nat, Bytes (efs l)
  | [] => Bytes.nil
  | x :: s => Bytes.append (nbytes_bytes 8 _) (efs_bytes s)
theorem efs_append (a b : List Nat) : efs (a ++ b) = efs a ++ efs b := List.flatMap_append ..
theorem efs_snoc (l : List Nat) (i : Nat) (h : i < l.length) : efs (l.take (i + 1)) = efs (l.take i) ++ nbytes 8 (bitsv l[i] : Int) := by
  rw [List.take_add_one, List.getElem?_eq_getElem h, Option.toList_some, efs_append]
  exact congrArg (_ ++ ·) (List.append_nil _)
theorem efs_drop (l : List Nat) (i : Nat) (h : i < l.length) : (efs l).drop (8 * i) = nbytes 8 (bitsv l[i] : Int) ++ efs (l.drop (i + 1)) := by
  have h1 : efs l = efs (l.take i) ++ efs (l.drop i) := by rw [← efs_append, List.take_append_drop]
  have h2 : (efs (l.take i)).length = 8 * i := by rw [efs_len, List.length_take]; congr 1; omega
  rw [h1, List.drop_left' h2, List.drop_eq_getElem_cons h]
  rfl

abbrev cps (gl gr : Nat) (A : Option Addr) (c : Nat) (l : List Nat) : List HP := [blk gl #[.slice A l.length c] 52, blk gr #[.bool true] 4]

theorem clos_row (w0 w : World) (g gl gr : Nat) (A : Option Addr) (c : Nat) (l : List Nat) (ps : List HP) (hs : Sep.Sep w0 w (cur g (efs l) 0 true :: (cps gl gr A c l ++ ps)))
    (hC : KF.C w0 A l.length l) (hx : ∀ x ∈ l, x < 18446744073709551616) (hl : l.length ≤ 30) :
    Calls Try.prog 60 #[.pointer (some ⟨g, 0, none⟩), .pointer (some ⟨gl, 0, none⟩), .pointer (some ⟨gr, 0, none⟩)] w fun e w2 =>
      e = .returned (.tuple #[]) ∧ Sep.Sep w0 w2 (cur g (efs l) (efs l).length true :: (cps gl gr A c l ++ ps)) := by
  have hS := Aside0.mk hs
  have hCA := Aside0.mk hC
  have hxA := Aside0.mk hx
  have hlen := efs_len l
  have hcl_0 : w.cell? ⟨gl, 0, none⟩ = some (.slice A l.length c) := ((hs.pick1).cell 0).trans rfl
  clear hs hC hx
  go_enter Try.func60, Try.ntmps60
  go_wp2_with (fail)
  go_loopg [8] l.length (fun kq v8 w' => ∃ (i : Nat), v8 = .int .i64 (i : Int) ∧ Aside0 (i + kq = l.length) ∧ Aside0 (Sep.Sep w0 w' (cur g (efs l) (8 * i) true :: (cps gl gr A c l ++ ps))))
  case atStart => exact ⟨0, rfl, ⟨by omega⟩, hS⟩
  case round =>
    obtain ⟨i, rfl, hA, hS⟩ := hrel
    by_cases hil : i < l.length
    · obtain ⟨k1, rfl⟩ : ∃ k1, gk = k1 + 1 := ⟨gk - 1, by have := hA.out; omega⟩
      have hd : decide ((i : Int) < (l.length : Int)) = true := decide_eq_true (by omega)
      have hd2 : decide (i < l.length) = true := decide_eq_true hil
      have hCw := Kd.C_below hCA.out hS.out.1
      obtain ⟨ad, e0⟩ := C_some hCw (by omega)
      subst e0
      have hc0 := C_cell hCw i hil
      have p0 : ((0 : Int) ≤ (i : Int)) = True := eq_true (by omega)
      have q0 : ((i : Int) < (l.length : Int)) = True := eq_true (by omega)
      have hw1 : wrap64 ((i : Int) + 1) = ((i + 1 : Nat) : Int) := by rw [show ((i : Int) + 1) = ((i + 1 : Nat) : Int) from rfl]; unfold wrap64; omega
      obtain ⟨x, hxx⟩ : ∃ x, l[i] = x := ⟨_, rfl⟩
      have hxb : x < 18446744073709551616 := by rw [← hxx]; exact hxA.out _ (List.getElem_mem hil)
      have hlt := bitsv_lt hxb
      have hdr := efs_drop l i hil
      rw [hxx] at hc0 hdr
      have hlev : lev (((efs l).take (8 * i + 8)).drop (8 * i)) = ((bitsv x : Nat) : Int) := by
        have := tkdrop hdr
        rw [nbytes_len] at this
        rw [this, lev_nbytes 8 _ (by omega)]
        have : ((256 ^ 8 : Nat) : Int) = 18446744073709551616 := by decide
        rw [this]; omega
      have hG := Aside0.mk (fun W hW => edge_Get_ok w0 W g (8 * i) (bitsv x) (efs l) (cps gl gr (some ad) c l ++ ps) hW (efs_bytes l) (by omega) (by omega) hlev (bits_bits x))
      have cs := law_same (bitsv x) x
      rw [bits_bits, decide_eq_true rfl] at cs
      have h1 := hS.out
      have hcr_0 : wr.cell? ⟨gr, 0, none⟩ = some (.bool true) := ((h1.pick2).cell 0).trans rfl
      have hA' : Aside0 (i + 1 + k1 = l.length) := ⟨by have := hA.out; omega⟩
      generalize bitsv x = b at *
      clear h1 hxx hxb hlt hdr hlev hil
      go_wp2_with (fail)
      refine (hG.out _ hS.out).mono ?_
      rintro e w2 ⟨rfl, h2⟩
      have hcr2_0 : w2.cell? ⟨gr, 0, none⟩ = some (.bool true) := ((h2.pick2).cell 0).trans rfl
      have hf2 := h2.pick2.frozen 0
      have hS2 := Aside0.mk h2
      have h3 : Sep.Sep w0 (w2.setCell ⟨gr, 0, none⟩ (.bool true)) (cur g (efs l) (8 * i + 8) true :: (cps gl gr (some ad) c l ++ ps)) := by
        have := (h2.pick2.set 0 (.bool true)).put2
        simpa using this
      have hS3 := Aside0.mk h3
      clear h2 h3 hcr_0
      go_wp2_with (fail)
      refine (cs _).mono ?_
      rintro e w3 ⟨rfl, hw3⟩
      subst hw3
      go_wp2_with (fail)
      go_roundg k1
      case measure => omega
      case rel => exact ⟨i + 1, by rw [hw1], hA', hS3⟩
    · have hd : decide ((i : Int) < (l.length : Int)) = false := decide_eq_false (by omega)
      have hd2 : decide (i < l.length) = false := decide_eq_false hil
      have hi : 8 * i = (efs l).length := by have := hA.out; omega
      rw [hi] at hS
      clear hil hi
      go_wp2_with (fail)
      refine (cur_End_ok w0 _ g _ (efs l) _ hS.out rfl (by omega)).mono ?_
      rintro e w2 ⟨rfl, h2⟩
      have hS2 := Aside0.mk h2
      clear h2
      go_wp2_with (fail)
      go_end0
      exact ⟨rfl, hS2.out⟩
end Go.Proofs.Ytlakjninlpiedaa.Fw
