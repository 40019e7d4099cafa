/- frame.Seal. -/
import Derived.Test.YtekanmieppnpeaaMBuf
import Derived.Test.YtekanmieppnpeaaMWide
import Derived.Test.YtekanmieppnpeaaMCobs
import Derived.Test.YtekanmieppnpeaaWFoot
set_option linter.unusedVariables false
set_option linter.unusedSimpArgs false
namespace Go.Proofs.Ytekanmieppnpeaa.G
open Go Go.RowKit Go.Proofs.YtekanmieppnpeaaW.PrintWords Go.Proofs.YtekanmieppnpeaaW.PrintLast Go.Proofs.YtekanmieppnpeaaW.PrintMore Go.Proofs.Ytekanmieppnpeaa.PureKit Go.Proofs.Ytekanmieppnpeaa.Sep Go.Proofs.Ytekanmieppnpeaa.Rol Go.Proofs.Ytekanmieppnpeaa.LCobs

/-- A body with its sum. -/
def summed (l : List Int) : List Int := l ++ nbytes 8 ((wsum 0 l : Nat) : Int)
theorem summed_len (l : List Int) : (summed l).length = l.length + 8 := by unfold summed; rw [List.length_append, nbytes_len]
theorem nbytes_bytes : ∀ (n : Nat) (x : Int), 0 ≤ x → Bytes (nbytes n x)
  | 0, _, _ => Bytes.nil
  | n + 1, x, h => Bytes.cons (by omega) (nbytes_bytes n (x / 256) (by omega))
theorem summed_bytes (l : List Int) (h : Bytes l) : Bytes (summed l) := fun x hx => by
  rcases List.mem_append.1 hx with h1 | h1
  · exact h x h1
  · exact nbytes_bytes 8 _ (by omega) x h1
/-- A body's chunk. -/
def sealed (l : List Int) : List Int := stf (summed l) []

set_option maxHeartbeats 4000000 in
set_option maxRecDepth 100000 in
theorem frame_seal (w : World) (A : Option Addr) (c n : Nat) (l : List Int) (hn : n = l.length) (hC : Kd.C (Kd.int .u8) w A l.length l) (hc : l.length ≤ c) (hb : Bytes l) (hl : l.length ≤ 90000) :
    Calls Try.prog 21 #[.slice A n c] w fun e w' => ∃ v : Value, e = .returned v ∧ Kd.R (Kd.int .u8) 5 w' w.heap.size (fun _ => True) v (sealed l ++ [0]) ∧ Below w.heap.size w w' := by
  subst hn
  have hS0 := Aside0.mk (Sep.buf_new (Sep.start w))
  have hCA := Aside0.mk hC
  have hcA := Aside0.mk hc
  have hlA := Aside0.mk hl
  have hsl := wsum_lt 0 l
  obtain ⟨k, hk⟩ := (stuff_f (summed l) (summed_bytes l hb) (by rw [summed_len]; omega)).rounds
  have hkA := Aside0.mk hk
  have hsumlen := summed_len l
  have hslen : (sealed l).length ≤ 200000 := by
    have := stf_len (summed l) [] (by simp)
    rw [List.length_nil, Nat.zero_add, hsumlen] at this
    unfold sealed
    omega
  have hslA := Aside0.mk hslen
  have hsuA := Aside0.mk hsumlen
  clear hC hc hl hk hslen hsumlen
  go_enter Try.func21, Try.ntmps21
  go_wp2_with (fail)
  refine (buf_Raw w _ w.heap.size [] [] A l.length c l hS0.out (Kd.C_alloc hCA.out _) rfl (by simp) (by have := hlA.out; omega)).mono ?_
  rintro e w1 ⟨rfl, hS1⟩
  have hS1 := Aside0.mk hS1
  go_wp2_with (fail)
  refine (wide_Sum_calls _ A c l 0 _ rfl (Kd.C_below hCA.out hS1.out.1) hcA.out hb (by decide) (by have := hlA.out; omega)).mono ?_
  rintro e w2 ⟨rfl, hB2⟩
  have hS2 := Aside0.mk (hS1.out.below hB2)
  clear hB2
  go_wp2_with (fail)
  refine (buf_Eight w _ w.heap.size _ [] _ hS2.out (by omega) (by omega) (by have := hlA.out; simp; omega)).mono ?_
  rintro e w3 ⟨rfl, hS3⟩
  have hS3 := Aside0.mk hS3
  go_wp2_with (fail)
  refine (buf_Bytes w _ w.heap.size _ [] hS3.out (by have := hlA.out; simp [nbytes_len]; omega)).mono ?_
  rintro e w4 ⟨v4, rfl, hS4⟩
  rw [show [] ++ l ++ nbytes 8 ((wsum 0 l : Nat) : Int) = summed l from rfl] at hS4
  obtain ⟨bs4, hR4⟩ := hS4.row_R
  obtain ⟨A4, c4, rfl⟩ := Kd.R_slice hR4
  have hr4 := Aside0.mk (Kd.R_reads' hR4)
  have hS4 := Aside0.mk hS4
  clear hR4
  go_wp2_with (fail)
  refine (cobs_Stuff.calls k (fun k_ => k_ < w4.heap.size) A4 c4 (summed l) _ _ (Kd.V_mk hr4.out.2.1 (Kd.C_F (Kd.heap_int .u8) hr4.out.2.2)) hkA.out).mono ?_
  rintro e w5 ⟨v5, rfl, ho5, hb5⟩
  have hS5 := (Sep.row_new hS4.out hb5 ho5)
  obtain ⟨A5, c5, rfl⟩ := Kd.R_slice ho5
  obtain ⟨bs, hRr, hGr⟩ := hS5.row_open
  have hR := Aside0.mk hRr
  have hG := Aside0.mk hGr
  clear ho5 hb5 hRr hGr hS5
  go_wp2_with (first | ((with_reducible refine gate_builtin (b := .append) (xs := #[.tmp 10, .tmp 11]) rfl ?_); at_builtin; refine Kd.R_append (Kd.int .u8) (w0 := w5) 0 rfl (.tmp 10) (.tmp 11) 39 5 (.int .u8 0) 1 rfl Try.underlying39 (by kernel_rfl) rfl (by decide) (by decide) (.slice A5 (stf (summed l) []).length c5) (stf (summed l) []) 0 [.int .u8 0] (fun k => k ∈ bs ∨ w5.heap.size ≤ k) (fun _ => False) rfl rfl rfl (fun _ h => h.elim) (fun _ h => .inr h) ?aO ?aB ?aS ?aL ?_; (case aO => exact Kd.R_mono hR.out (fun _ h => .inl h)); (case aB => exact Below.refl _ _); (case aS => exact Nat.zero_le _); (case aL => have := hslA.out; unfold sealed at this; omega); intro v6 w6 ho6 hb6 hg6 hat6; have hS6 := Aside0.mk (hG.out w6 _ _ ho6 hg6); clear ho6 hb6 hg6 hat6))
  go_ret
  obtain ⟨h1, h2⟩ := hS6.out.row_out
  exact ⟨_, rfl, h1, h2⟩

def frame_Seal.f (l0 : List Int) : Option (List Int) := if wbytesOK l0 = true ∧ l0.length ≤ 90000 then some (sealed l0 ++ [0]) else none
theorem frame_Seal.calls (A0 : Option Addr) (c0 : Nat) (l0 : List Int) (r : List Int) (w : World) (hr0 : Kd.C (Kd.int .u8) w A0 l0.length l0) (hc0 : l0.length ≤ c0) (h : frame_Seal.f l0 = some r) :
    Calls Try.prog 21 #[.slice A0 l0.length c0] w fun e w' => ∃ v0_ : Value, e = .returned (v0_) ∧ Kd.R (Kd.int .u8) 5 w' w.heap.size (fun _ => True) v0_ r ∧ Below w.heap.size w w' := by
  unfold frame_Seal.f at h
  split at h
  · rename_i hh
    cases h
    exact frame_seal w A0 c0 _ l0 rfl hr0 hc0 ((wbytesOK_iff l0).1 hh.1) hh.2
  · cases h

end Go.Proofs.Ytekanmieppnpeaa.G
