/- HBuf HBufEight HVarint HRaw, in one text (merge.py). -/
import Derived.Test.YtnmdckgaljldhaaHSep
import Derived.Test.YtnmdckgaljldhaaPureKit
import Derived.Test.YtnmdckgaljldhaaHBytes
import Derived.Tactics
import Derived.Tactics2
import Derived.Test.YtnmdckgaljldhaaLSby
import Derived.Laws.IdiomStrings
/- cursor.Buffer: bytes that grow. -/
set_option linter.unusedVariables false
namespace Go.Proofs.Ytnmdckgaljldhaa.Sep
open Go Go.RowKit Go.Proofs.YtnmdckgaljldhaaW.PrintWords Go.Proofs.YtnmdckgaljldhaaW.PrintLast Go.Proofs.YtnmdckgaljldhaaW.PrintMore Go.Proofs.Ytnmdckgaljldhaa.PureKit

/-- A buffer at g that holds these bytes. -/
def buf (g : Nat) (l : List Int) : HP where
  p := fun w bs => ∃ v bs', bs = g :: bs' ∧ w.heap[g]? = some (.cells #[v] 29 (0, 0)) ∧ Kd.R (Kd.int .u8) 5 w 0 (fun k => k ∈ bs') v l
  loc := by
    rintro w w' bs ⟨v, bs', e, h1, h2⟩ hm
    exact ⟨v, bs', e, by rw [hm g (by rw [e]; simp)]; exact h1, Kd.R_move h2 (fun k hk => hm k (by rw [e]; exact List.mem_cons_of_mem _ hk))⟩

theorem Sep.buf_open {w0 w : World} {g : Nat} {l : List Int} {ps : List HP} (h : Sep w0 w (buf g l :: ps)) : ∃ v, Sep w0 w (blk g #[v] 29 :: row (Kd.int .u8) 5 v l :: ps) := by
  obtain ⟨hb, bs, ⟨b1, b2, e, ⟨v, bs', e1, h1, h2⟩, hs⟩, hn, hr⟩ := h
  exact ⟨v, hb, bs, ⟨[g], bs' ++ b2, by rw [e, e1]; simp, ⟨rfl, h1⟩, bs', b2, rfl, h2, hs⟩, hn, hr⟩
theorem Sep.buf_close {w0 w : World} {g : Nat} {l : List Int} {v : Value} {ps : List HP} (h : Sep w0 w (blk g #[v] 29 :: row (Kd.int .u8) 5 v l :: ps)) : Sep w0 w (buf g l :: ps) := by
  obtain ⟨hb, bs, ⟨b1, b2, e, ⟨e1, h1⟩, b3, b4, e2, h2, hs⟩, hn, hr⟩ := h
  exact ⟨hb, bs, ⟨g :: b3, b4, by rw [e, e1, e2]; simp, ⟨v, b3, rfl, h1, h2⟩, hs⟩, hn, hr⟩
/-- A buffer that has just been made. -/
theorem Sep.buf_new {w0 w : World} {ps : List HP} (h : Sep w0 w ps) : Sep w0 (w.alloc (.cells #[.slice none 0 0] 29 (0, 0))) (buf w.heap.size [] :: ps) :=
  Sep.buf_close (((h.alloc #[.slice none 0 0] 29).row_nil (Kd.int .u8) 5).perm (List.Perm.swap _ _ _))

/-- A number's bytes, the least one first. -/
def nbytes : Nat → Int → List Int
  | 0, _ => []
  | n + 1, x => x % 256 :: nbytes n (x / 256)
theorem nbytes_len : ∀ (n : Nat) (x : Int), (nbytes n x).length = n
  | 0, _ => rfl
  | n + 1, x => by simp [nbytes, nbytes_len n]

set_option maxHeartbeats 4000000 in
set_option maxRecDepth 100000 in
theorem buf_num (w0 w : World) (g : Nat) (l : List Int) (ps : List HP) (x m : Int) (n : Nat) (hm : m = n) (hs : Sep w0 w (buf g l :: ps)) (hx : 0 ≤ x) (hx' : x < 18446744073709551616) (hn : n ≤ 8) (hl : l.length ≤ 1000000000000) :
    Calls Try.prog 107 #[.pointer (some ⟨g, 0, none⟩), .int .u64 x, .int .i64 m] w fun e w' => e = .returned (.pointer (some ⟨g, 0, none⟩)) ∧ Sep w0 w' (buf g (l ++ nbytes n x) :: ps) := by
  subst hm
  have hS := Aside0.mk hs
  clear hs
  go_enter Try.func107, Try.ntmps107
  go_wp2
  go_loopg [1, 8] n (fun kq v1 v8 w' => ∃ (i : Nat) (y : Int) (l1 : List Int), v8 = .int .i64 i ∧ v1 = .int .u64 y ∧ Aside0 (0 ≤ y ∧ y < 18446744073709551616 ∧ i + kq = n ∧ l1.length = l.length + i ∧ l ++ nbytes n x = l1 ++ nbytes kq y) ∧ Aside0 (Sep w0 w' (buf g l1 :: ps)))
  case atStart => exact ⟨0, x, l, rfl, rfl, ⟨⟨hx, hx', by omega, by omega, rfl⟩⟩, hS⟩
  case round =>
    obtain ⟨i, y, l1, rfl, rfl, hA, hS⟩ := hrel
    by_cases hin : i < n
    · obtain ⟨k1, rfl⟩ : ∃ k1, gk = k1 + 1 := ⟨gk - 1, by have := hA.out; omega⟩
      have hd : decide ((i : Int) < (n : Int)) = true := decide_eq_true (by omega)
      obtain ⟨v, hO⟩ := Sep.buf_open hS.out
      obtain ⟨bs, hR, hG⟩ := hO.tail.row_open
      obtain ⟨Av, cv, rfl⟩ := Kd.R_slice hR
      have hR := Aside0.mk hR
      have hc : wr.cell? ⟨g, 0, none⟩ = some (.slice Av l1.length cv) := (hO.cell 0).trans rfl
      obtain ⟨bs, hR, hG⟩ := (hO.perm (List.Perm.swap _ _ _)).row_open
      have hR := Aside0.mk hR
      have hG := Aside0.mk hG
      have hO := Aside0.mk hO
      go_wp2_with (first | ((with_reducible refine gate_builtin (b := .append) (xs := #[.tmp 14, .tmp 17]) rfl ?_); at_builtin; refine Kd.R_append (Kd.int .u8) (w0 := wr) 0 rfl (.tmp 14) (.tmp 17) 27 5 (.int .u8 0) 1 rfl Try.underlying27 (by kernel_rfl) rfl (by decide) (by decide) (.slice Av l1.length cv) l1 (y % 256) [.int .u8 (y % 256)] (fun k => k ∈ bs ∨ wr.heap.size ≤ k) (fun _ => False) rfl rfl rfl (fun _ h => h.elim) (fun _ h => .inr h) ?aO ?aB ?aS ?aL ?_; (case aO => exact Kd.R_mono hR.out (fun _ h => .inl h)); (case aB => exact Below.refl _ _); (case aS => exact Nat.zero_le _); (case aL => have := hA.out; omega); intro v1 w1 ho hb hg hat; obtain ⟨A1, c1, e1⟩ := Kd.R_slice ho; subst e1; have hO1 := Aside0.mk ((hG.out w1 _ _ ho hg).perm (List.Perm.swap _ _ _)); clear ho hb hg hat hc; have hc := (hO1.out.cell 0).trans rfl; have hz := hO1.out.frozen 0))
      go_roundg k1
      case measure => omega
      case rel =>
        refine ⟨i + 1, y / 256, l1 ++ [y % 256], by simp, rfl, ⟨?_⟩, ⟨?_⟩⟩
        · obtain ⟨h0, h1, h2, h3, h4⟩ := hA.out
          refine ⟨by omega, by omega, by omega, by simp; omega, ?_⟩
          rw [h4]
          simp [nbytes]
        · refine Sep.buf_close (v := .slice A1 (l1.length + 1) c1) ?_
          have := hO1.out.set 0 (.slice A1 (l1.length + 1) c1)
          simpa using this
    · have hA' := hA.out
      obtain ⟨h0, h1, h2, h3, h4⟩ := hA'
      obtain rfl : gk = 0 := by omega
      have hd : decide ((i : Int) < (n : Int)) = false := decide_eq_false (by omega)
      rw [show nbytes 0 y = [] from rfl, List.append_nil] at h4
      go_wp2
      go_ret
      exact ⟨rfl, by rw [h4]; exact hS.out⟩

set_option maxHeartbeats 4000000 in
theorem buf_Byte (w0 w : World) (g : Nat) (l : List Int) (ps : List HP) (x : Int) (hs : Sep w0 w (buf g l :: ps)) (hx : 0 ≤ x) (hx' : x ≤ 255) (hl : l.length ≤ 1000000000000) :
    Calls Try.prog 113 #[.pointer (some ⟨g, 0, none⟩), .int .u8 x] w fun e w' => e = .returned (.pointer (some ⟨g, 0, none⟩)) ∧ Sep w0 w' (buf g (l ++ [x]) :: ps) := by
  have hS := Aside0.mk hs
  clear hs
  go_enter Try.func113, Try.ntmps113
  go_wp2_with (first | ((with_reducible refine gate_callee (f := 107) rfl ?_); refine goesL_ (some 8) rfl rfl Try.func107 (by kernel_rfl) rfl #[.pointer (some ⟨g, 0, none⟩), .int .u64 x, .int .i64 1] rfl (by (try simp only [List.map_toArray, List.map_cons, List.map_nil]); first | done | rfl) ?_; (with_reducible refine (buf_num w0 _ g l ps x 1 1 rfl hS.out hx (by omega) (by decide) hl).mono ?_); rintro e w1 ⟨rfl, h1⟩; refine ⟨_, rfl, ?_⟩; have hS1 := Aside0.mk h1; clear h1))
  go_ret
  have h2 := hS1.out
  rw [show nbytes 1 x = [x] by simp [nbytes]; omega] at h2
  exact ⟨rfl, h2⟩

set_option maxHeartbeats 4000000 in
theorem buf_Bytes (w0 w : World) (g : Nat) (l : List Int) (ps : List HP) (hs : Sep w0 w (buf g l :: ps)) (hl : l.length ≤ 1000000000000) :
    Calls Try.prog 20 #[.pointer (some ⟨g, 0, none⟩)] w fun e w' => ∃ v, e = .returned v ∧ Sep w0 w' (row (Kd.int .u8) 5 v l :: buf g l :: ps) := by
  obtain ⟨v, hO⟩ := Sep.buf_open hs
  obtain ⟨bs, hR⟩ := hO.tail.row_R
  obtain ⟨Av, cv, rfl⟩ := Kd.R_slice hR
  have hr := Kd.R_reads' hR
  have hS := Aside0.mk hs
  have hc : w.cell? ⟨g, 0, none⟩ = some (.slice Av l.length cv) := (hO.cell 0).trans rfl
  have hr := Aside0.mk hr
  clear hs hO hR
  go_enter Try.func20, Try.ntmps20
  go_wp2_with (first | ((with_reducible refine gate_callee (f := 70) rfl ?_); refine goesL_ (some 7) rfl rfl Try.func70 (by kernel_rfl) rfl #[.slice Av l.length cv] rfl (by (try simp only [List.map_toArray, List.map_cons, List.map_nil]); first | done | rfl) ?_; (with_reducible refine (G.bytes_Clone.calls Av cv l l _ hr.out.2.2 hr.out.2.1 (by unfold G.bytes_Clone.f; exact if_pos (by omega)) rfl).mono ?_); rintro e w1 ⟨v1, rfl, ho, hb⟩; refine ⟨_, rfl, ?_⟩; have hS1 := Aside0.mk (Sep.row_new hS.out hb ho); clear ho hb))
  go_ret
  exact ⟨_, rfl, hS1.out⟩

end Go.Proofs.Ytnmdckgaljldhaa.Sep

/- cursor.Buffer: Eight. -/
set_option linter.unusedVariables false
set_option linter.unusedSimpArgs false
namespace Go.Proofs.Ytnmdckgaljldhaa.G
open Go Go.RowKit Go.Proofs.YtnmdckgaljldhaaW.PrintWords Go.Proofs.YtnmdckgaljldhaaW.PrintLast Go.Proofs.YtnmdckgaljldhaaW.PrintMore Go.Proofs.Ytnmdckgaljldhaa.PureKit Go.Proofs.Ytnmdckgaljldhaa.Sep

set_option maxHeartbeats 4000000 in
theorem buf_Eight (w0 w : World) (g : Nat) (l : List Int) (ps : List HP) (x : Int) (hs : Sep.Sep w0 w (buf g l :: ps)) (hx : 0 ≤ x) (hx' : x < 18446744073709551616) (hl : l.length ≤ 1000000000000) :
    Calls Try.prog 69 #[.pointer (some ⟨g, 0, none⟩), .int .u64 x] w fun e w' => e = .returned (.pointer (some ⟨g, 0, none⟩)) ∧ Sep.Sep w0 w' (buf g (l ++ nbytes 8 x) :: ps) := by
  have hS := Aside0.mk hs
  clear hs
  go_enter Try.func69, Try.ntmps69
  go_wp2_with (first | ((with_reducible refine gate_callee (f := 107) rfl ?_); refine goesL_ (some 7) rfl rfl Try.func107 (by kernel_rfl) rfl #[.pointer (some ⟨g, 0, none⟩), .int .u64 x, .int .i64 8] rfl (by (try simp only [List.map_toArray, List.map_cons, List.map_nil]); first | done | rfl) ?_; (with_reducible refine (buf_num w0 _ g l ps x 8 8 rfl hS.out hx hx' (by decide) hl).mono ?_); rintro e w1 ⟨rfl, h1⟩; refine ⟨_, rfl, ?_⟩; have hS1 := Aside0.mk h1; clear h1))
  go_ret
  exact ⟨rfl, hS1.out⟩

end Go.Proofs.Ytnmdckgaljldhaa.G

/- varint.Put: a number, written. -/
set_option linter.unusedVariables false
namespace Go.Proofs.Ytnmdckgaljldhaa.Sep
open Go Go.RowKit Go.Proofs.YtnmdckgaljldhaaW.PrintWords Go.Proofs.YtnmdckgaljldhaaW.PrintLast Go.Proofs.YtnmdckgaljldhaaW.PrintMore Go.Proofs.Ytnmdckgaljldhaa.PureKit

/-- A number in as few bytes as can be. -/
def venc (x : Nat) : List Int := if x < 128 then [(x : Int)] else ((x % 128 + 128 : Nat) : Int) :: venc (x / 128)
theorem venc_small {x : Nat} (h : x < 128) : venc x = [(x : Int)] := by rw [venc, if_pos h]
theorem venc_big {x : Nat} (h : ¬ x < 128) : venc x = ((x % 128 + 128 : Nat) : Int) :: venc (x / 128) := by rw [venc, if_neg h]
theorem venc_len : ∀ (n x : Nat), x < 128 ^ n → 0 < n → (venc x).length ≤ n := by
  intro n
  induction n with
  | zero => intro x _ h; omega
  | succ n ih =>
    intro x hx _
    by_cases h : x < 128
    · rw [venc_small h]; simp
    · rw [venc_big h]
      have h1 : x / 128 < 128 ^ n := by rw [Nat.div_lt_iff_lt_mul (by omega), ← Nat.pow_succ]; exact hx
      have h2 : 0 < n := by
        rcases Nat.eq_zero_or_pos n with h0 | h0
        · subst h0; simp at hx; omega
        · exact h0
      have := ih (x / 128) h1 h2
      simp; omega

theorem or128_all : ∀ z : Fin 256, bits BinOp.or IntKind.u8 ((z.val : Nat) : Int) 128 = ((z.val % 128 + 128 : Nat) : Int) := by decide +kernel
theorem or128 (y : Nat) : bits BinOp.or IntKind.u8 ((y : Int) % 256) 128 = ((y % 128 + 128 : Nat) : Int) := by
  have h := or128_all ⟨y % 256, by omega⟩
  simp only at h
  rw [show ((y : Int) % 256) = ((y % 256 : Nat) : Int) by omega, h]
  congr 2
  omega

set_option maxHeartbeats 4000000 in
set_option maxRecDepth 100000 in
theorem varint_Put (w0 w : World) (g : Nat) (l : List Int) (ps : List HP) (x : Nat) (m : Int) (hm : m = x) (hs : Sep w0 w (buf g l :: ps)) (hx : x < 18446744073709551616) (hl : l.length ≤ 100000000000) :
    Calls Try.prog 114 #[.pointer (some ⟨g, 0, none⟩), .int .u64 m] w fun e w' => e = .returned (.tuple #[]) ∧ Sep w0 w' (buf g (l ++ venc x) :: ps) := by
  subst hm
  have hS := Aside0.mk hs
  clear hs
  go_enter Try.func114, Try.ntmps114
  go_wp2
  have hvl : (venc x).length ≤ 10 := venc_len 10 x (Nat.lt_of_lt_of_le hx (by decide)) (by decide)
  go_loopg [1] x (fun kq v1 w' => ∃ (y : Nat) (l1 : List Int), v1 = .int .u64 y ∧ Aside0 (y ≤ kq ∧ y < 18446744073709551616 ∧ l1.length ≤ l.length + 10 ∧ l ++ venc x = l1 ++ venc y) ∧ Aside0 (Sep w0 w' (buf g l1 :: ps)))
  case atStart => exact ⟨x, l, rfl, ⟨⟨Nat.le_refl _, hx, by omega, rfl⟩⟩, hS⟩
  case round =>
    obtain ⟨y, l1, rfl, hA, hS⟩ := hrel
    by_cases hy : y < 128
    · have hd : decide ((y : Int) ≥ 128) = false := decide_eq_false (by omega)
      go_wp2_with (first | ((with_reducible refine gate_callee (f := 113) rfl ?_); refine goesL_ (some 16) rfl rfl Try.func113 (by kernel_rfl) rfl #[.pointer (some ⟨g, 0, none⟩), .int .u8 y] rfl (by (try simp only [List.map_toArray, List.map_cons, List.map_nil]); first | done | rfl) ?_; (with_reducible refine (buf_Byte w0 _ g l1 ps y hS.out (by omega) (by omega) (by have := hA.out; omega)).mono ?_); rintro e w1 ⟨rfl, h1⟩; refine ⟨_, rfl, ?_⟩; have hS1 := Aside0.mk h1; clear h1))
      go_end0
      refine ⟨rfl, ?_⟩
      have h4 := hA.out.2.2.2
      rw [venc_small hy] at h4
      rw [h4]; exact hS1.out
    · have hd : decide ((y : Int) ≥ 128) = true := decide_eq_true (by omega)
      go_wp2_with (first | ((with_reducible refine gate_callee (f := 113) rfl ?_); refine goesL_ (some 10) rfl rfl Try.func113 (by kernel_rfl) rfl #[.pointer (some ⟨g, 0, none⟩), .int .u8 (bits BinOp.or IntKind.u8 ((y : Int) % 256) 128)] rfl (by (try simp only [List.map_toArray, List.map_cons, List.map_nil]); first | done | rfl) ?_; (with_reducible refine (buf_Byte w0 _ g l1 ps (bits BinOp.or IntKind.u8 ((y : Int) % 256) 128) hS.out (by rw [or128]; omega) (by rw [or128]; omega) (by have := hA.out; omega)).mono ?_); rintro e w1 ⟨rfl, h1⟩; refine ⟨_, rfl, ?_⟩; have hS1 := Aside0.mk h1; clear h1))
      go_roundg (gk - 1)
      case measure => have := hA.out; omega
      case rel =>
        refine ⟨y / 128, l1 ++ [((y % 128 + 128 : Nat) : Int)], by simp, ⟨?_⟩, ⟨?_⟩⟩
        · obtain ⟨h0, h1, h2, h3⟩ := hA.out
          rw [venc_big hy] at h3
          have h5 : l ++ venc x = (l1 ++ [((y % 128 + 128 : Nat) : Int)]) ++ venc (y / 128) := by rw [h3]; simp
          refine ⟨by omega, by omega, ?_, h5⟩
          have := congrArg List.length h5
          simp only [List.length_append] at this ⊢
          omega
        · have := hS1.out
          rw [or128] at this
          exact this

end Go.Proofs.Ytnmdckgaljldhaa.Sep

/- cursor.Buffer: Raw; a text's bytes; varint.PutText. -/
set_option linter.unusedVariables false
set_option linter.unusedSimpArgs false
namespace Go.Proofs.Ytnmdckgaljldhaa.Sep
open Go Go.RowKit Go.Proofs.YtnmdckgaljldhaaW.PrintWords Go.Proofs.YtnmdckgaljldhaaW.PrintLast Go.Proofs.YtnmdckgaljldhaaW.PrintMore Go.Proofs.Ytnmdckgaljldhaa.PureKit

/-- What []byte(s) lays is read as s. -/
theorem str_row (w : World) (s : ByteArray) (cap : Nat) (e : TypeId) (n : Nat × Nat) (hs : s.size ≤ 9223372036854775807) :
    Kd.C (Kd.int .u8) (w.drew.alloc (.cells (bytesRow s cap) e n)) (some ⟨w.heap.size, 0, none⟩) (sby s).length (sby s) ∧ Below w.heap.size w (w.drew.alloc (.cells (bytesRow s cap) e n)) := by
  refine ⟨⟨rfl, by rw [sby_len]; exact hs, fun _ => ⟨_, rfl, fun j p hj => ⟨[.int .u8 p], rfl, rfl, fun i u hu => ?_⟩⟩⟩, below_alloc (below_drew (Below.refl _ _)) _⟩
  have hi : i = 0 := by
    rcases i with _ | i
    · rfl
    · simp at hu
  subst hi
  simp only [List.getElem?_cons_zero, Option.some.injEq] at hu
  subst hu
  have hb : (w.drew.alloc (.cells (bytesRow s cap) e n)).heap[w.heap.size]? = some (.cells (bytesRow s cap) e n) := by
    show (w.heap.push _)[w.heap.size]? = _
    simp
  have hl : j < (sby s).length := (List.getElem?_eq_some_iff.1 hj).1
  rw [sby_len] at hl
  have ha : (⟨w.heap.size, 0, none⟩ : Addr).add (j * 1 + 0) = ⟨w.heap.size, j, none⟩ := by unfold Addr.add; split <;> simp_all
  show World.cell? _ ((⟨w.heap.size, 0, none⟩ : Addr).add (j * 1 + 0)) = _
  rw [ha]
  simp only [World.cell?, hb]
  have h2 : (sby s)[j]? = some p := hj
  simp only [sby, List.getElem?_map, Option.map_eq_some_iff] at h2
  obtain ⟨b, hb2, rfl⟩ := h2
  have hb3 : s.data[j]? = some b := by rw [← Array.getElem?_toList]; exact hb2
  obtain ⟨hl3, hb4⟩ := Array.getElem?_eq_some_iff.1 hb3
  have hl2 : j < s.data.size := hl3
  simp [bytesRow, Array.getElem?_append, hl, hb4, hl2]

set_option maxHeartbeats 4000000 in
set_option maxRecDepth 100000 in
theorem buf_Raw (w0 w : World) (g : Nat) (l : List Int) (ps : List HP) (A : Option Addr) (n c : Nat) (xs : List Int) (hs : Sep w0 w (buf g l :: ps)) (hr : Kd.C (Kd.int .u8) w A xs.length xs) (hn : n = xs.length) (hl : l.length ≤ 1000000000000) (hx : xs.length ≤ 100000000000) :
    Calls Try.prog 127 #[.pointer (some ⟨g, 0, none⟩), .slice A n c] w fun e w' => e = .returned (.pointer (some ⟨g, 0, none⟩)) ∧ Sep w0 w' (buf g (l ++ xs) :: ps) := by
  subst hn
  have hS := Aside0.mk hs
  obtain ⟨v, hO⟩ := Sep.buf_open hs
  obtain ⟨bs, hR, hG⟩ := hO.tail.row_open
  obtain ⟨Av, cv, rfl⟩ := Kd.R_slice hR
  have hc : w.cell? ⟨g, 0, none⟩ = some (.slice Av l.length cv) := (hO.cell 0).trans rfl
  obtain ⟨bs, hR, hG⟩ := (hO.perm (List.Perm.swap _ _ _)).row_open
  have hR := Aside0.mk hR
  have hG := Aside0.mk hG
  have hO := Aside0.mk hO
  have hX := Aside0.mk hr
  clear hs hr
  go_enter Try.func127, Try.ntmps127
  go_wp2_with (first | ((with_reducible refine gate_builtin (b := .append) (xs := #[.tmp 9, .tmp 10]) rfl ?_); at_builtin; refine Kd.R_append_rows (Kd.int .u8) (w0 := w) 0 rfl (.tmp 9) (.tmp 10) 27 5 (.int .u8 0) 1 rfl Try.underlying27 (by kernel_rfl) rfl (by decide) (by decide) (.slice Av l.length cv) l xs A xs.length c (fun k => k ∈ bs ∨ w.heap.size ≤ k) (fun _ => False) rfl rfl ?aO ?aR (fun _ _ h => h) (fun _ h => h.elim) (fun _ h => .inr h) ?aB ?aS ?aL ?_; (case aO => exact Kd.R_mono hR.out (fun _ h => .inl h)); (case aR => exact hX.out); (case aB => exact Below.refl _ _); (case aS => exact Nat.zero_le _); (case aL => omega); intro v1 w1 ho hb hg hat; obtain ⟨A1, c1, e1⟩ := Kd.R_slice ho; subst e1; have hO1 := Aside0.mk ((hG.out w1 _ _ ho hg).perm (List.Perm.swap _ _ _)); clear ho hb hg hat hc; have hc := (hO1.out.cell 0).trans rfl; have hz := hO1.out.frozen 0))
  go_ret
  refine ⟨rfl, ?_⟩
  refine Sep.buf_close (v := .slice A1 (l ++ xs).length c1) ?_
  have := hO1.out.set 0 (.slice A1 (l ++ xs).length c1)
  simpa using this

end Go.Proofs.Ytnmdckgaljldhaa.Sep
