/- cursor.Buffer: bytes that grow. -/
import Derived.Test.YtlakjninlpiedaaHSep
import Derived.Test.YtlakjninlpiedaaPureKit
import Derived.Test.YtlakjninlpiedaaHBytes
import Derived.Tactics
import Derived.Tactics2
set_option linter.unusedVariables false
namespace Go.Proofs.Ytlakjninlpiedaa.Sep
open Go Go.RowKit Go.Proofs.YtlakjninlpiedaaW.PrintWords Go.Proofs.YtlakjninlpiedaaW.PrintLast Go.Proofs.YtlakjninlpiedaaW.PrintMore Go.Proofs.Ytlakjninlpiedaa.PureKit

/-- A buffer at g that holds these bytes. -/
def buf (g : Nat) (l : List Int) : HP where
  p := fun w bs => ∃ v bs', bs = g :: bs' ∧ w.heap[g]? = some (.cells #[v] 72 (0, 0)) ∧ Kd.R (Kd.int .u8) 5 w 0 (fun k => k ∈ bs') v l
  loc := by
    rintro w w' bs ⟨v, bs', e, h1, h2⟩ hm
    exact ⟨v, bs', e, by rw [hm g (by rw [e]; simp)]; exact h1, Kd.R_move h2 (fun k hk => hm k (by rw [e]; exact List.mem_cons_of_mem _ hk))⟩

theorem Sep.buf_open {w0 w : World} {g : Nat} {l : List Int} {ps : List HP} (h : Sep w0 w (buf g l :: ps)) : ∃ v, Sep w0 w (blk g #[v] 72 :: row (Kd.int .u8) 5 v l :: ps) := by
  obtain ⟨hb, bs, ⟨b1, b2, e, ⟨v, bs', e1, h1, h2⟩, hs⟩, hn, hr⟩ := h
  exact ⟨v, hb, bs, ⟨[g], bs' ++ b2, by rw [e, e1]; simp, ⟨rfl, h1⟩, bs', b2, rfl, h2, hs⟩, hn, hr⟩
theorem Sep.buf_close {w0 w : World} {g : Nat} {l : List Int} {v : Value} {ps : List HP} (h : Sep w0 w (blk g #[v] 72 :: row (Kd.int .u8) 5 v l :: ps)) : Sep w0 w (buf g l :: ps) := by
  obtain ⟨hb, bs, ⟨b1, b2, e, ⟨e1, h1⟩, b3, b4, e2, h2, hs⟩, hn, hr⟩ := h
  exact ⟨hb, bs, ⟨g :: b3, b4, by rw [e, e1, e2]; simp, ⟨v, b3, rfl, h1, h2⟩, hs⟩, hn, hr⟩
/-- A buffer that has just been made. -/
theorem Sep.buf_new {w0 w : World} {ps : List HP} (h : Sep w0 w ps) : Sep w0 (w.alloc (.cells #[.slice none 0 0] 72 (0, 0))) (buf w.heap.size [] :: ps) :=
  Sep.buf_close (((h.alloc #[.slice none 0 0] 72).row_nil (Kd.int .u8) 5).perm (List.Perm.swap _ _ _))

/-- A number's bytes, the least one first. -/
def nbytes : Nat → Int → List Int
  | 0, _ => []
  | n + 1, x => x % 256 :: nbytes n (x / 256)
theorem nbytes_len : ∀ (n : Nat) (x : Int), (nbytes n x).length = n
  | 0, _ => rfl
  | n + 1, x => by simp [nbytes, nbytes_len n]

set_option maxHeartbeats 4000000 in
set_option maxRecDepth 100000 in
theorem buf_num (w0 w : World) (g : Nat) (l : List Int) (ps : List HP) (x m : Int) (n : Nat) (hm : m = n) (hs : Sep w0 w (buf g l :: ps)) (hx : 0 ≤ x) (hx' : x < 18446744073709551616) (hn : n ≤ 8) (hl : l.length ≤ 1000000000000) :
    Calls Try.prog 104 #[.pointer (some ⟨g, 0, none⟩), .int .u64 x, .int .i64 m] w fun e w' => e = .returned (.pointer (some ⟨g, 0, none⟩)) ∧ Sep w0 w' (buf g (l ++ nbytes n x) :: ps) := by
  subst hm
  have hS := Aside0.mk hs
  clear hs
  go_enter Try.func104, Try.ntmps104
  go_wp2
  go_loopg [1, 8] n (fun kq v1 v8 w' => ∃ (i : Nat) (y : Int) (l1 : List Int), v8 = .int .i64 i ∧ v1 = .int .u64 y ∧ Aside0 (0 ≤ y ∧ y < 18446744073709551616 ∧ i + kq = n ∧ l1.length = l.length + i ∧ l ++ nbytes n x = l1 ++ nbytes kq y) ∧ Aside0 (Sep w0 w' (buf g l1 :: ps)))
  case atStart => exact ⟨0, x, l, rfl, rfl, ⟨⟨hx, hx', by omega, by omega, rfl⟩⟩, hS⟩
  case round =>
    obtain ⟨i, y, l1, rfl, rfl, hA, hS⟩ := hrel
    by_cases hin : i < n
    · obtain ⟨k1, rfl⟩ : ∃ k1, gk = k1 + 1 := ⟨gk - 1, by have := hA.out; omega⟩
      have hd : decide ((i : Int) < (n : Int)) = true := decide_eq_true (by omega)
      obtain ⟨v, hO⟩ := Sep.buf_open hS.out
      obtain ⟨bs, hR, hG⟩ := hO.tail.row_open
      obtain ⟨Av, cv, rfl⟩ := Kd.R_slice hR
      have hR := Aside0.mk hR
      have hc : wr.cell? ⟨g, 0, none⟩ = some (.slice Av l1.length cv) := (hO.cell 0).trans rfl
      obtain ⟨bs, hR, hG⟩ := (hO.perm (List.Perm.swap _ _ _)).row_open
      have hR := Aside0.mk hR
      have hG := Aside0.mk hG
      have hO := Aside0.mk hO
      go_wp2_with (first | ((with_reducible refine gate_builtin (b := .append) (xs := #[.tmp 14, .tmp 17]) rfl ?_); at_builtin; refine Kd.R_append (Kd.int .u8) (w0 := wr) 0 rfl (.tmp 14) (.tmp 17) 70 5 (.int .u8 0) 1 rfl Try.underlying70 (by kernel_rfl) rfl (by decide) (by decide) (.slice Av l1.length cv) l1 (y % 256) [.int .u8 (y % 256)] (fun k => k ∈ bs ∨ wr.heap.size ≤ k) (fun _ => False) rfl rfl rfl (fun _ h => h.elim) (fun _ h => .inr h) ?aO ?aB ?aS ?aL ?_; (case aO => exact Kd.R_mono hR.out (fun _ h => .inl h)); (case aB => exact Below.refl _ _); (case aS => exact Nat.zero_le _); (case aL => have := hA.out; omega); intro v1 w1 ho hb hg hat; obtain ⟨A1, c1, e1⟩ := Kd.R_slice ho; subst e1; have hO1 := Aside0.mk ((hG.out w1 _ _ ho hg).perm (List.Perm.swap _ _ _)); clear ho hb hg hat hc; have hc := (hO1.out.cell 0).trans rfl; have hz := hO1.out.frozen 0))
      go_roundg k1
      case measure => omega
      case rel =>
        refine ⟨i + 1, y / 256, l1 ++ [y % 256], by simp, rfl, ⟨?_⟩, ⟨?_⟩⟩
        · obtain ⟨h0, h1, h2, h3, h4⟩ := hA.out
          refine ⟨by omega, by omega, by omega, by simp; omega, ?_⟩
          rw [h4]
          simp [nbytes]
        · refine Sep.buf_close (v := .slice A1 (l1.length + 1) c1) ?_
          have := hO1.out.set 0 (.slice A1 (l1.length + 1) c1)
          simpa using this
    · have hA' := hA.out
      obtain ⟨h0, h1, h2, h3, h4⟩ := hA'
      obtain rfl : gk = 0 := by omega
      have hd : decide ((i : Int) < (n : Int)) = false := decide_eq_false (by omega)
      rw [show nbytes 0 y = [] from rfl, List.append_nil] at h4
      go_wp2
      go_ret
      exact ⟨rfl, by rw [h4]; exact hS.out⟩

set_option maxHeartbeats 4000000 in
set_option maxHeartbeats 4000000 in
theorem buf_Bytes (w0 w : World) (g : Nat) (l : List Int) (ps : List HP) (hs : Sep w0 w (buf g l :: ps)) (hl : l.length ≤ 1000000000000) :
    Calls Try.prog 59 #[.pointer (some ⟨g, 0, none⟩)] w fun e w' => ∃ v, e = .returned v ∧ Sep w0 w' (row (Kd.int .u8) 5 v l :: buf g l :: ps) := by
  obtain ⟨v, hO⟩ := Sep.buf_open hs
  obtain ⟨bs, hR⟩ := hO.tail.row_R
  obtain ⟨Av, cv, rfl⟩ := Kd.R_slice hR
  have hr := Kd.R_reads' hR
  have hS := Aside0.mk hs
  have hc : w.cell? ⟨g, 0, none⟩ = some (.slice Av l.length cv) := (hO.cell 0).trans rfl
  have hr := Aside0.mk hr
  clear hs hO hR
  go_enter Try.func59, Try.ntmps59
  go_wp2_with (first | ((with_reducible refine gate_callee (f := 86) rfl ?_); refine goesL_ (some 7) rfl rfl Try.func86 (by kernel_rfl) rfl #[.slice Av l.length cv] rfl (by (try simp only [List.map_toArray, List.map_cons, List.map_nil]); first | done | rfl) ?_; (with_reducible refine (G.bytes_Clone.calls Av cv l l _ hr.out.2.2 hr.out.2.1 (by unfold G.bytes_Clone.f; exact if_pos (by omega)) rfl).mono ?_); rintro e w1 ⟨v1, rfl, ho, hb⟩; refine ⟨_, rfl, ?_⟩; have hS1 := Aside0.mk (Sep.row_new hS.out hb ho); clear ho hb))
  go_ret
  exact ⟨_, rfl, hS1.out⟩

end Go.Proofs.Ytlakjninlpiedaa.Sep
