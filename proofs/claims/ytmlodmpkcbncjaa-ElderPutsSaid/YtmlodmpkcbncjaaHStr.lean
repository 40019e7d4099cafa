/- What []byte(s) lays, as a piece; cursor.Buffer: Four; Raw of such a piece. -/
import Derived.Test.YtmlodmpkcbncjaaHRaw
set_option linter.unusedVariables false
set_option linter.unusedSimpArgs false
namespace Go.Proofs.Ytmlodmpkcbncjaa.Sep
open Go Go.RowKit Go.Proofs.YtmlodmpkcbncjaaW.PrintWords Go.Proofs.YtmlodmpkcbncjaaW.PrintLast Go.Proofs.YtmlodmpkcbncjaaW.PrintMore Go.Proofs.Ytmlodmpkcbncjaa.PureKit

def strp (v : Value) (s : ByteArray) : HP where
  p := fun w bs => ∃ g cap e n, bs = [g] ∧ v = .slice (some ⟨g, 0, none⟩) s.size cap ∧ w.heap[g]? = some (.cells (bytesRow s cap) e n)
  loc := fun {w w' bs} ⟨g, cap, e, n, h1, h2, h3⟩ hm => ⟨g, cap, e, n, h1, h2, by rw [hm g (by rw [h1]; exact List.mem_singleton.2 rfl)]; exact h3⟩

theorem Sep.str_new {w0 w : World} {ps : List HP} (h : Sep w0 w ps) (s : ByteArray) (cap : Nat) (e : TypeId) (n : Nat × Nat) :
    Sep w0 (w.drew.alloc (.cells (bytesRow s cap) e n)) (strp (.slice (some ⟨w.heap.size, 0, none⟩) s.size cap) s :: ps) := by
  have hb := below_alloc (below_drew (Below.refl w.heap.size w)) (.cells (bytesRow s cap) e n)
  have := Sep.step (ps := []) (qs := [strp (.slice (some ⟨w.heap.size, 0, none⟩) s.size cap) s]) (rs := ps) h ⟨hb.os, hb.tape, hb.output, hb.size, fun j hj => absurd hj (Nat.not_lt_zero j)⟩
    (fun b1 h1 _ _ => ⟨[w.heap.size], ⟨[w.heap.size], [], rfl, ⟨w.heap.size, cap, e, n, rfl, rfl, (show (w.heap.push _)[w.heap.size]? = _ from by simp)⟩, rfl⟩, by simp, fun b hb => by
      rw [List.mem_singleton.1 hb]; exact ⟨.inr (Nat.le_refl _), (show w.heap.size < (w.heap.push _).size from by simp)⟩, fun j hj _ => hb.block j hj⟩)
  exact this
theorem Sep.str_new2 {w0 w : World} {ps : List HP} (h : Sep w0 w ps) (s : ByteArray) (e : TypeId) :
    Sep w0 (w.alloc (.cells (bytesRow s (grownCap w s.size 0 e)) e ((bytesRow s (grownCap w s.size 0 e)).size, (bytesRow s (grownCap w s.size 0 e)).size + 1))).drew (strp (.slice (some ⟨w.heap.size, 0, none⟩) s.size (grownCap w s.size 0 e)) s :: ps) := h.str_new s _ _ _
theorem Sep.str_C {w0 w : World} {v : Value} {s : ByteArray} {ps : List HP} (h : Sep w0 w (strp v s :: ps)) (hs : s.size ≤ 9223372036854775807) :
    ∃ A c, v = .slice A s.size c ∧ Kd.C (Kd.int .u8) w A (sby s).length (sby s) := by
  obtain ⟨_, bs, ⟨b1, b2, e1, ⟨g, cap, e, n, h1, h2, h3⟩, _⟩, _, _⟩ := h
  refine ⟨_, _, h2, rfl, by rw [sby_len]; exact hs, fun _ => ⟨_, rfl, fun j p hj => ⟨[.int .u8 p], rfl, rfl, fun i u hu => ?_⟩⟩⟩
  have hi : i = 0 := by
    rcases i with _ | i
    · rfl
    · simp at hu
  subst hi
  simp only [List.getElem?_cons_zero, Option.some.injEq] at hu
  subst hu
  have hl : j < (sby s).length := (List.getElem?_eq_some_iff.1 hj).1
  rw [sby_len] at hl
  have ha : (⟨g, 0, none⟩ : Addr).add (j * 1 + 0) = ⟨g, j, none⟩ := by unfold Addr.add; split <;> simp_all
  show World.cell? _ ((⟨g, 0, none⟩ : Addr).add (j * 1 + 0)) = _
  rw [ha]
  simp only [World.cell?, h3]
  have h2 : (sby s)[j]? = some p := hj
  simp only [sby, List.getElem?_map, Option.map_eq_some_iff] at h2
  obtain ⟨b, hb2, rfl⟩ := h2
  have hb3 : s.data[j]? = some b := by rw [← Array.getElem?_toList]; exact hb2
  obtain ⟨hl3, hb4⟩ := Array.getElem?_eq_some_iff.1 hb3
  have hl2 : j < s.data.size := hl3
  simp [bytesRow, Array.getElem?_append, hl, hb4, hl2]

set_option maxHeartbeats 4000000 in
theorem buf_Four (w0 w : World) (g : Nat) (l : List Int) (ps : List HP) (x : Int) (hs : Sep w0 w (buf g l :: ps)) (hx : 0 ≤ x) (hx' : x ≤ 4294967295) (hl : l.length ≤ 1000000000000) :
    Calls Try.prog 27 #[.pointer (some ⟨g, 0, none⟩), .int .u32 x] w fun e w' => e = .returned (.pointer (some ⟨g, 0, none⟩)) ∧ Sep w0 w' (buf g (l ++ nbytes 4 x) :: ps) := by
  have hS := Aside0.mk hs
  clear hs
  go_enter Try.func27, Try.ntmps27
  go_wp2_with (first | ((with_reducible refine gate_callee (f := 64) rfl ?_); refine goesL_ (some 8) rfl rfl Try.func64 (by kernel_rfl) rfl #[.pointer (some ⟨g, 0, none⟩), .int .u64 x, .int .i64 4] rfl (by (try simp only [List.map_toArray, List.map_cons, List.map_nil]); first | done | rfl) ?_; (with_reducible refine (buf_num w0 _ g l ps x 4 4 rfl hS.out hx (by omega) (by decide) hl).mono ?_); rintro e w1 ⟨rfl, h1⟩; refine ⟨_, rfl, ?_⟩; have hS1 := Aside0.mk h1; clear h1))
  go_ret
  exact ⟨rfl, hS1.out⟩

theorem buf_RawS (w0 w : World) (g : Nat) (l : List Int) (ps : List HP) (v : Value) (s : ByteArray) (hs : Sep w0 w (buf g l :: strp v s :: ps)) (hl : l.length ≤ 1000000000000) (hx : s.size ≤ 100000000000) :
    Calls Try.prog 29 #[.pointer (some ⟨g, 0, none⟩), v] w fun e w' => e = .returned (.pointer (some ⟨g, 0, none⟩)) ∧ Sep w0 w' (buf g (l ++ sby s) :: ps) := by
  obtain ⟨A, c, rfl, hC⟩ := hs.pick1.str_C (by omega)
  refine (buf_Raw w0 w g l _ A s.size c (sby s) hs hC (sby_len s).symm hl (by rw [sby_len]; exact hx)).mono ?_
  rintro e w1 ⟨rfl, h1⟩
  exact ⟨rfl, h1.pick1.tail⟩

end Go.Proofs.Ytmlodmpkcbncjaa.Sep
