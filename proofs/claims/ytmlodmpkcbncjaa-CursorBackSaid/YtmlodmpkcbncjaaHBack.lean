/- fasciclelaw01.CursorBack: its closure; numbers of 4 and of 8 bytes. -/
import Derived.Test.YtmlodmpkcbncjaaHCurFour
import Derived.Test.YtmlodmpkcbncjaaHRaw
import Derived.Test.YtmlodmpkcbncjaaHRun2
import Derived.Test.YtmlodmpkcbncjaaGx3
set_option linter.unusedVariables false
set_option linter.unusedSimpArgs false
namespace Go.Proofs.Ytmlodmpkcbncjaa.G
open Go Go.RowKit Go.Proofs.YtmlodmpkcbncjaaW.PrintWords Go.Proofs.YtmlodmpkcbncjaaW.PrintLast Go.Proofs.YtmlodmpkcbncjaaW.PrintMore Go.Proofs.Ytmlodmpkcbncjaa.PureKit Go.Proofs.Ytmlodmpkcbncjaa.Sep

set_option maxHeartbeats 4000000 in
theorem buf_Four (w0 w : World) (g : Nat) (l : List Int) (ps : List HP) (x : Int) (hs : Sep.Sep w0 w (buf g l :: ps)) (hx : 0 ≤ x) (hx' : x ≤ 4294967295) (hl : l.length ≤ 1000000000000) :
    Calls Try.prog 27 #[.pointer (some ⟨g, 0, none⟩), .int .u32 x] w fun e w' => e = .returned (.pointer (some ⟨g, 0, none⟩)) ∧ Sep.Sep w0 w' (buf g (l ++ nbytes 4 x) :: ps) := by
  have hS := Aside0.mk hs
  clear hs
  go_enter Try.func27, Try.ntmps27
  go_wp2_with (first | ((with_reducible refine gate_callee (f := 64) rfl ?_); refine goesL_ (some 8) rfl rfl Try.func64 (by kernel_rfl) rfl #[.pointer (some ⟨g, 0, none⟩), .int .u64 x, .int .i64 4] rfl (by (try simp only [List.map_toArray, List.map_cons, List.map_nil]); first | done | rfl) ?_; (with_reducible refine (buf_num w0 _ g l ps x 4 4 rfl hS.out hx (by omega) (by decide) hl).mono ?_); rintro e w1 ⟨rfl, h1⟩; refine ⟨_, rfl, ?_⟩; have hS1 := Aside0.mk h1; clear h1))
  go_ret
  exact ⟨rfl, hS1.out⟩
set_option maxHeartbeats 4000000 in
theorem buf_Eight (w0 w : World) (g : Nat) (l : List Int) (ps : List HP) (x : Int) (hs : Sep.Sep w0 w (buf g l :: ps)) (hx : 0 ≤ x) (hx' : x < 18446744073709551616) (hl : l.length ≤ 1000000000000) :
    Calls Try.prog 28 #[.pointer (some ⟨g, 0, none⟩), .int .u64 x] w fun e w' => e = .returned (.pointer (some ⟨g, 0, none⟩)) ∧ Sep.Sep w0 w' (buf g (l ++ nbytes 8 x) :: ps) := by
  have hS := Aside0.mk hs
  clear hs
  go_enter Try.func28, Try.ntmps28
  go_wp2_with (first | ((with_reducible refine gate_callee (f := 64) rfl ?_); refine goesL_ (some 7) rfl rfl Try.func64 (by kernel_rfl) rfl #[.pointer (some ⟨g, 0, none⟩), .int .u64 x, .int .i64 8] rfl (by (try simp only [List.map_toArray, List.map_cons, List.map_nil]); first | done | rfl) ?_; (with_reducible refine (buf_num w0 _ g l ps x 8 8 rfl hS.out hx hx' (by decide) hl).mono ?_); rintro e w1 ⟨rfl, h1⟩; refine ⟨_, rfl, ?_⟩; have hS1 := Aside0.mk h1; clear h1))
  go_ret
  exact ⟨rfl, hS1.out⟩
set_option maxHeartbeats 4000000 in
theorem buf_Len (w0 w : World) (g : Nat) (l : List Int) (ps : List HP) (hs : Sep.Sep w0 w (buf g l :: ps)) :
    Calls Try.prog 37 #[.pointer (some ⟨g, 0, none⟩)] w fun e w' => e = .returned (.int .i64 (l.length : Int)) ∧ Sep.Sep w0 w' (buf g l :: ps) := by
  obtain ⟨v, hO⟩ := Sep.buf_open hs
  obtain ⟨bs, hR⟩ := hO.tail.row_R
  obtain ⟨Av, cv, rfl⟩ := Kd.R_slice hR
  have hS := Aside0.mk hs
  have hc : w.cell? ⟨g, 0, none⟩ = some (.slice Av l.length cv) := (hO.cell 0).trans rfl
  clear hs hO hR
  go_enter Try.func37, Try.ntmps37
  go_wp2
  go_ret
  exact ⟨rfl, hS.out⟩

theorem nbytes_bytes : ∀ (n : Nat) (x : Int), Bytes (nbytes n x)
  | 0, _ => Bytes.nil
  | n + 1, x => Bytes.cons (by omega) (nbytes_bytes n _)
theorem nbytes_modN : ∀ (n y : Nat), nbytes n ((y % 256 ^ n : Nat) : Int) = nbytes n (y : Int)
  | 0, _ => rfl
  | n + 1, y => by
    have hp : 256 ^ (n + 1) = 256 * 256 ^ n := by rw [Nat.pow_succ, Nat.mul_comm]
    have e1 : y % (256 * 256 ^ n) % 256 = y % 256 := Nat.mod_mul_right_mod _ _ _
    have e2 : y % (256 * 256 ^ n) / 256 = y / 256 % 256 ^ n := Nat.mod_mul_right_div_self _ _ _
    have e3 := nbytes_modN n (y / 256)
    simp only [nbytes, List.cons.injEq]
    rw [hp]
    generalize 256 ^ n = P at *
    refine ⟨by omega, ?_⟩
    rw [show ((y % (256 * P) : Nat) : Int) / 256 = ((y % (256 * P) / 256 : Nat) : Int) by omega, e2, e3]
    congr 1
theorem nbytes_mod (n : Nat) (x : Int) (h : 0 ≤ x) : nbytes n (x % ((256 ^ n : Nat) : Int)) = nbytes n x := by
  obtain ⟨y, rfl⟩ := Int.eq_ofNat_of_zero_le h
  rw [← nbytes_modN n y]
  congr 1
theorem lev_nbytesN : ∀ (n y : Nat), lev (nbytes n (y : Int)) = ((y % 256 ^ n : Nat) : Int)
  | 0, y => by simp [nbytes, lev]
  | n + 1, y => by
    have hp : 256 ^ (n + 1) = 256 * 256 ^ n := by rw [Nat.pow_succ, Nat.mul_comm]
    have e := lev_nbytesN n (y / 256)
    have e4 : y % (256 * 256 ^ n) = y % 256 + 256 * (y / 256 % 256 ^ n) := Nat.mod_mul
    simp only [nbytes, lev]
    rw [show (y : Int) / 256 = ((y / 256 : Nat) : Int) by omega, e, hp, e4]
    generalize y / 256 % 256 ^ n = q
    omega
theorem lev_nbytes (n : Nat) (x : Int) (h : 0 ≤ x) : lev (nbytes n x) = x % ((256 ^ n : Nat) : Int) := by
  obtain ⟨y, rfl⟩ := Int.eq_ofNat_of_zero_le h
  have := lev_nbytesN n y
  rw [show ((y % 256 ^ n : Nat) : Int) = (y : Int) % ((256 ^ n : Nat) : Int) from rfl] at this
  exact this
theorem tkdrop {L a r : List Int} {p : Nat} (h : L.drop p = a ++ r) : (L.take (p + a.length)).drop p = a := by
  rw [← List.take_drop, h, List.take_left]

/-- The document's bytes of a number. -/
theorem refn_l0 (n : Nat) (hn : n ≤ 8) : ∀ (d i : Nat) (x : Int) (a : List Int), i + d = n → 0 ≤ x → x < 18446744073709551616 → a.length + d ≤ 100 → Ev (fun k => fascicleref01_Num.l0 k x (strOfNums a) (n : Int) (i : Int)) (strOfNums (a ++ nbytes d x)) := by
  intro d
  induction d with
  | zero =>
    intro i x a hi h0 h1 ha
    refine Ev.step (f := fun _ => some (strOfNums (a ++ nbytes 0 x))) (fun k => ?_) (Ev.now _)
    simp only [fascicleref01_Num.l0]
    rw [if_neg (by omega), nbytes, List.append_nil]
  | succ d ih =>
    intro i x a hi h0 h1 ha
    refine Ev.step (fun k => ?_) (Ev.eq (ih (i + 1) (x / 256) (a ++ [x % 256]) (by omega) (by omega) (by omega) (by simp; omega)) (by simp [nbytes]))
    simp only [fascicleref01_Num.l0]
    rw [if_pos (by omega), Int.tmod_eq_emod_of_nonneg h0, Int.tdiv_eq_ediv_of_nonneg h0]
    simp only [Option.bind_some]
    rw [if_pos (by rw [nums_size, nums_size]; simp only [List.length_cons, List.length_nil]; omega), PureKit.nums_append, wu64 (by omega) (by omega), w64 (by omega) (by omega), show x % 256 % 256 = x % 256 by omega]
    rfl
theorem refn (n : Nat) (x : Int) (hn : n ≤ 8) (h0 : 0 ≤ x) (h1 : x < 18446744073709551616) : Ev (fun k => fascicleref01_Num.f k x (n : Int)) (strOfNums (nbytes n x)) := by
  have := refn_l0 n hn n 0 x [] (by omega) h0 h1 (by simp; omega)
  exact this

/-- One number's bytes, and the raw ones behind it; of all. -/
def item (raw : List Int) (x : Int) : List Int := [x % 256] ++ (nbytes 4 x ++ (nbytes 8 x ++ raw))
def items (raw : List Int) (l : List Int) : List Int := l.flatMap (item raw)
theorem item_len (raw : List Int) (x : Int) : (item raw x).length = 13 + raw.length := by
  simp only [item, List.length_append, nbytes_len, List.length_cons, List.length_nil]
  omega
theorem items_len (raw : List Int) : ∀ l : List Int, (items raw l).length = l.length * (13 + raw.length)
  | [] => by simp [items]
  | x :: l => by
    have := items_len raw l
    simp only [items, List.flatMap_cons, List.length_append, item_len, List.length_cons] at this ⊢
    rw [this, Nat.add_mul]
    omega
theorem item_bytes (raw : List Int) (hr : Bytes raw) (x : Int) : Bytes (item raw x) :=
  (Bytes.cons (by omega) Bytes.nil).append ((nbytes_bytes _ _).append ((nbytes_bytes _ _).append hr))
theorem items_bytes (raw : List Int) (hr : Bytes raw) : ∀ l : List Int, Bytes (items raw l)
  | [] => Bytes.nil
  | x :: l => by
    simp only [items, List.flatMap_cons]
    exact (item_bytes raw hr x).append (items_bytes raw hr l)
theorem items_take (raw l : List Int) (i : Nat) (h : i < l.length) : items raw (l.take (i + 1)) = items raw (l.take i) ++ item raw l[i] := by
  rw [List.take_succ_eq_append_getElem h]
  simp only [items, List.flatMap_append, List.flatMap_cons, List.flatMap_nil, List.append_nil]
theorem items_drop (raw l : List Int) (i : Nat) (h : i < l.length) : (items raw l).drop (items raw (l.take i)).length = item raw l[i] ++ items raw (l.drop (i + 1)) := by
  have h1 : items raw l = items raw (l.take i) ++ (item raw l[i] ++ items raw (l.drop (i + 1))) := by
    conv => lhs; rw [← List.take_append_drop i l, List.drop_eq_getElem_cons h]
    simp only [items, List.flatMap_append, List.flatMap_cons]
  conv => lhs; rw [h1]
  rw [List.drop_left]

end Go.Proofs.Ytmlodmpkcbncjaa.G
