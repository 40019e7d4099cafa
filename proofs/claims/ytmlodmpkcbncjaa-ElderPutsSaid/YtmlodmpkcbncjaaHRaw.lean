/- cursor.Buffer: Raw; a text's bytes; varint.PutText. -/
import Derived.Test.YtmlodmpkcbncjaaHVarint
import Derived.Laws.IdiomStrings
set_option linter.unusedVariables false
set_option linter.unusedSimpArgs false
namespace Go.Proofs.Ytmlodmpkcbncjaa.Sep
open Go Go.RowKit Go.Proofs.YtmlodmpkcbncjaaW.PrintWords Go.Proofs.YtmlodmpkcbncjaaW.PrintLast Go.Proofs.YtmlodmpkcbncjaaW.PrintMore Go.Proofs.Ytmlodmpkcbncjaa.PureKit

/-- A text's bytes. -/
def sby (s : ByteArray) : List Int := s.data.toList.map fun b => (b.toNat : Int)
theorem sby_len (s : ByteArray) : (sby s).length = s.size := by
  unfold sby
  rw [List.length_map, Array.length_toList]
  rfl
theorem sby_bytes (s : ByteArray) : Bytes (sby s) := by
  intro x hx
  obtain ⟨b, _, rfl⟩ := List.mem_map.1 hx
  have := b.toNat_lt
  omega
theorem nums_sby (s : ByteArray) : strOfNums (sby s) = s := by
  apply ext_bytes
  rw [nums_bytes, sby, List.map_map]
  conv => rhs; rw [← List.map_id s.data.toList]
  apply List.map_congr_left
  intro b _
  simp
theorem sby_nums (l : List Int) (h : Bytes l) : sby (strOfNums l) = l := by
  unfold sby
  rw [nums_bytes, List.map_map]
  conv => rhs; rw [← List.map_id l]
  apply List.map_congr_left
  intro x hx
  have := h x hx
  simp only [Function.comp, id, UInt8.toNat_ofNat']
  omega
theorem sby_inj {s t : ByteArray} (h : sby s = sby t) : s = t := by rw [← nums_sby s, ← nums_sby t, h]

/-- What []byte(s) lays is read as s. -/
theorem str_row (w : World) (s : ByteArray) (cap : Nat) (e : TypeId) (n : Nat × Nat) (hs : s.size ≤ 9223372036854775807) :
    Kd.C (Kd.int .u8) (w.drew.alloc (.cells (bytesRow s cap) e n)) (some ⟨w.heap.size, 0, none⟩) (sby s).length (sby s) ∧ Below w.heap.size w (w.drew.alloc (.cells (bytesRow s cap) e n)) := by
  refine ⟨⟨rfl, by rw [sby_len]; exact hs, fun _ => ⟨_, rfl, fun j p hj => ⟨[.int .u8 p], rfl, rfl, fun i u hu => ?_⟩⟩⟩, below_alloc (below_drew (Below.refl _ _)) _⟩
  have hi : i = 0 := by
    rcases i with _ | i
    · rfl
    · simp at hu
  subst hi
  simp only [List.getElem?_cons_zero, Option.some.injEq] at hu
  subst hu
  have hb : (w.drew.alloc (.cells (bytesRow s cap) e n)).heap[w.heap.size]? = some (.cells (bytesRow s cap) e n) := by
    show (w.heap.push _)[w.heap.size]? = _
    simp
  have hl : j < (sby s).length := (List.getElem?_eq_some_iff.1 hj).1
  rw [sby_len] at hl
  have ha : (⟨w.heap.size, 0, none⟩ : Addr).add (j * 1 + 0) = ⟨w.heap.size, j, none⟩ := by unfold Addr.add; split <;> simp_all
  show World.cell? _ ((⟨w.heap.size, 0, none⟩ : Addr).add (j * 1 + 0)) = _
  rw [ha]
  simp only [World.cell?, hb]
  have h2 : (sby s)[j]? = some p := hj
  simp only [sby, List.getElem?_map, Option.map_eq_some_iff] at h2
  obtain ⟨b, hb2, rfl⟩ := h2
  have hb3 : s.data[j]? = some b := by rw [← Array.getElem?_toList]; exact hb2
  obtain ⟨hl3, hb4⟩ := Array.getElem?_eq_some_iff.1 hb3
  have hl2 : j < s.data.size := hl3
  simp [bytesRow, Array.getElem?_append, hl, hb4, hl2]

set_option maxHeartbeats 4000000 in
set_option maxRecDepth 100000 in
theorem buf_Raw (w0 w : World) (g : Nat) (l : List Int) (ps : List HP) (A : Option Addr) (n c : Nat) (xs : List Int) (hs : Sep w0 w (buf g l :: ps)) (hr : Kd.C (Kd.int .u8) w A xs.length xs) (hn : n = xs.length) (hl : l.length ≤ 1000000000000) (hx : xs.length ≤ 100000000000) :
    Calls Try.prog 29 #[.pointer (some ⟨g, 0, none⟩), .slice A n c] w fun e w' => e = .returned (.pointer (some ⟨g, 0, none⟩)) ∧ Sep w0 w' (buf g (l ++ xs) :: ps) := by
  subst hn
  have hS := Aside0.mk hs
  obtain ⟨v, hO⟩ := Sep.buf_open hs
  obtain ⟨bs, hR, hG⟩ := hO.tail.row_open
  obtain ⟨Av, cv, rfl⟩ := Kd.R_slice hR
  have hc : w.cell? ⟨g, 0, none⟩ = some (.slice Av l.length cv) := (hO.cell 0).trans rfl
  obtain ⟨bs, hR, hG⟩ := (hO.perm (List.Perm.swap _ _ _)).row_open
  have hR := Aside0.mk hR
  have hG := Aside0.mk hG
  have hO := Aside0.mk hO
  have hX := Aside0.mk hr
  clear hs hr
  go_enter Try.func29, Try.ntmps29
  go_wp2_with (first | ((with_reducible refine gate_builtin (b := .append) (xs := #[.tmp 9, .tmp 10]) rfl ?_); at_builtin; refine Kd.R_append_rows (Kd.int .u8) (w0 := w) 0 rfl (.tmp 9) (.tmp 10) 22 5 (.int .u8 0) 1 rfl Try.underlying22 (by kernel_rfl) rfl (by decide) (by decide) (.slice Av l.length cv) l xs A xs.length c (fun k => k ∈ bs ∨ w.heap.size ≤ k) (fun _ => False) rfl rfl ?aO ?aR (fun _ _ h => h) (fun _ h => h.elim) (fun _ h => .inr h) ?aB ?aS ?aL ?_; (case aO => exact Kd.R_mono hR.out (fun _ h => .inl h)); (case aR => exact hX.out); (case aB => exact Below.refl _ _); (case aS => exact Nat.zero_le _); (case aL => omega); intro v1 w1 ho hb hg hat; obtain ⟨A1, c1, e1⟩ := Kd.R_slice ho; subst e1; have hO1 := Aside0.mk ((hG.out w1 _ _ ho hg).perm (List.Perm.swap _ _ _)); clear ho hb hg hat hc; have hc := (hO1.out.cell 0).trans rfl; have hz := hO1.out.frozen 0))
  go_ret
  refine ⟨rfl, ?_⟩
  refine Sep.buf_close (v := .slice A1 (l ++ xs).length c1) ?_
  have := hO1.out.set 0 (.slice A1 (l ++ xs).length c1)
  simpa using this

set_option maxHeartbeats 4000000 in
set_option maxRecDepth 100000 in
theorem varint_PutText (w0 w : World) (g : Nat) (l : List Int) (ps : List HP) (s : ByteArray) (hs : Sep w0 w (buf g l :: ps)) (hx : s.size ≤ 10000000000) (hl : l.length ≤ 10000000000) :
    Calls Try.prog 79 #[.pointer (some ⟨g, 0, none⟩), .string s] w fun e w' => e = .returned (.tuple #[]) ∧ Sep w0 w' (buf g (l ++ venc s.size ++ sby s) :: ps) := by
  have hS := Aside0.mk hs
  clear hs
  have hvl : (venc s.size).length ≤ 10 := venc_len 10 s.size (by omega) (by decide)
  have hcv := fun (W : World) => run_bytes_of_string (P := Try.prog) W 9 22 5 s Try.underlying9 Try.underlying22 Try.underlying5
  have hwx : IntKind.u64.wrap (s.size : Int) = (s.size : Int) := wu64 (by omega) (by omega)
  go_enter Try.func79, Try.ntmps79
  go_wp2_with (first | ((with_reducible refine gate_callee (f := 78) rfl ?_); refine goesL_ (some 8) rfl rfl Try.func78 (by kernel_rfl) rfl #[.pointer (some ⟨g, 0, none⟩), .int .u64 (s.size : Int)] rfl (by (try simp only [List.map_toArray, List.map_cons, List.map_nil]); first | done | rfl) ?_; (with_reducible refine (varint_Put w0 _ g l ps s.size s.size rfl hS.out (by omega) (by omega)).mono ?_); rintro e w1 ⟨rfl, h1⟩; refine ⟨_, rfl, ?_⟩; have hS1 := Aside0.mk h1; clear h1) | ((with_reducible refine gate_callee (f := 29) rfl ?_); refine goesL_ (some 12) rfl rfl Try.func29 (by kernel_rfl) rfl #[.pointer (some ⟨g, 0, none⟩), .slice (some ⟨w1.heap.size, 0, none⟩) s.size (grownCap w1 s.size 0 5)] rfl (by (try simp only [List.map_toArray, List.map_cons, List.map_nil]); first | done | rfl) ?_; (refine (buf_Raw w0 _ g (l ++ venc s.size) ps (some ⟨w1.heap.size, 0, none⟩) s.size (grownCap w1 s.size 0 5) (sby s) (hS1.out.below (str_row w1 s _ _ _ (by omega)).2) (str_row w1 s _ _ _ (by omega)).1 (sby_len s).symm (by simp; omega) (by rw [sby_len]; omega)).mono ?_); rintro e w2 ⟨rfl, h2⟩; refine ⟨_, rfl, ?_⟩; have hS2 := Aside0.mk h2; clear h2))
  go_end0
  exact ⟨rfl, hS2.out⟩

end Go.Proofs.Ytmlodmpkcbncjaa.Sep
