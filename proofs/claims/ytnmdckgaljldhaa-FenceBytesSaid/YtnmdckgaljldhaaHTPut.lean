/- table.Put, fence.Put: entries and fences are written. -/
import Derived.Test.YtnmdckgaljldhaaMBuf
import Derived.Test.YtnmdckgaljldhaaHTable11
set_option linter.unusedVariables false
set_option linter.unusedSimpArgs false
namespace Go.Proofs.Ytnmdckgaljldhaa.Tb
open Go Go.RowKit Go.Proofs.YtnmdckgaljldhaaW.PrintWords Go.Proofs.YtnmdckgaljldhaaW.PrintLast Go.Proofs.YtnmdckgaljldhaaW.PrintMore Go.Proofs.Ytnmdckgaljldhaa.PureKit Go.Proofs.Ytnmdckgaljldhaa.Sep Go.Proofs.Ytnmdckgaljldhaa.G
set_option maxHeartbeats 4000000
set_option maxRecDepth 100000

theorem buf_FourT (w0 w : World) (g : Nat) (l : List Int) (ps : List HP) (x : Int) (hs : Sep.Sep w0 w (buf g l :: ps)) (hx : 0 ≤ x) (hx' : x ≤ 4294967295) (hl : l.length ≤ 1000000000000) :
    Calls Try.prog 105 #[.pointer (some ⟨g, 0, none⟩), .int .u32 x] w fun e w' => e = .returned (.pointer (some ⟨g, 0, none⟩)) ∧ Sep.Sep w0 w' (buf g (l ++ nbytes 4 x) :: ps) := by
  have hS := Aside0.mk hs
  clear hs
  go_enter Try.func105, Try.ntmps105
  go_wp2_with (first | ((with_reducible refine gate_callee (f := 107) rfl ?_); refine goesL_ (some 8) rfl rfl Try.func107 (by kernel_rfl) rfl #[.pointer (some ⟨g, 0, none⟩), .int .u64 x, .int .i64 4] rfl (by (try simp only [List.map_toArray, List.map_cons, List.map_nil]); first | done | rfl) ?_; (with_reducible refine (buf_num w0 _ g l ps x 4 4 rfl hS.out hx (by omega) (by decide) hl).mono ?_); rintro e w1 ⟨rfl, h1⟩; refine ⟨_, rfl, ?_⟩; have hS1 := Aside0.mk h1; clear h1))
  go_ret
  exact ⟨rfl, hS1.out⟩

/-- Entries that may be. -/
def OkE (x : E1) : Prop := 0 ≤ x.f0 ∧ x.f0 < 18446744073709551616 ∧ 0 ≤ x.f1 ∧ x.f1 ≤ 4294967295
def tbytes (l : List E1) : List Int := l.flatMap fun x => nbytes 8 x.f0 ++ nbytes 4 x.f1
def fbytes (l : List Int) : List Int := l.flatMap fun x => nbytes 8 x
theorem tbytes_len (l : List E1) : (tbytes l).length = 12 * l.length := by
  induction l with
  | nil => rfl
  | cons x l ih => unfold tbytes at *; rw [List.flatMap_cons, List.length_append, List.length_append, nbytes_len, nbytes_len, ih, List.length_cons]; omega
theorem fbytes_len (l : List Int) : (fbytes l).length = 8 * l.length := by
  induction l with
  | nil => rfl
  | cons x l ih => unfold fbytes at *; rw [List.flatMap_cons, List.length_append, nbytes_len, ih, List.length_cons]; omega
theorem tbytes_snoc (l : List E1) (i : Nat) (x : E1) (hx : l[i]? = some x) : tbytes (l.take (i + 1)) = tbytes (l.take i) ++ nbytes 8 x.f0 ++ nbytes 4 x.f1 := by
  rw [List.take_add_one, hx]; simp [tbytes]
theorem fbytes_snoc (l : List Int) (i : Nat) (x : Int) (hx : l[i]? = some x) : fbytes (l.take (i + 1)) = fbytes (l.take i) ++ nbytes 8 x := by
  rw [List.take_add_one, hx]; simp [fbytes]
theorem rdT (l : List E1) (i : Nat) (x : E1) (h : l[i]? = some x) : rd_T81 l (i : Int) = x := by
  unfold rd_T81
  rw [Int.toNat_natCast, List.getD_eq_getElem?_getD, h]; rfl

theorem table_Put (w0 w : World) (g : Nat) (b : List Int) (A : Option Addr) (c : Nat) (l : List E1) (ps : List HP) (hs : Sep.Sep w0 w (buf g b :: ps)) (hC : kE.C w0 A l.length l) (hl : l.length ≤ 1000000) (hb : b.length ≤ 1000000) (hok : ∀ x ∈ l, OkE x) :
    Calls Try.prog 62 #[.pointer (some ⟨g, 0, none⟩), .slice A l.length c] w fun e w' => e = .returned (.tuple #[]) ∧ Sep.Sep w0 w' (buf g (b ++ tbytes l) :: ps) := by
  have hS := Aside0.mk hs
  have hCA := Aside0.mk hC
  have hlA := Aside0.mk hl
  have hbA := Aside0.mk hb
  have hoA := Aside0.mk hok
  clear hs hC hl hb hok
  go_enter Try.func62, Try.ntmps62
  go_wp2_with (fail)
  go_loopg [8] l.length (fun kq v8 w' => ∃ (i : Nat), v8 = .int .i64 i ∧ Aside0 (i + kq = l.length) ∧ Aside0 (Sep.Sep w0 w' (buf g (b ++ tbytes (l.take i)) :: ps)))
  case atStart => exact ⟨0, rfl, ⟨by omega⟩, ⟨by have := hS.out; simpa [tbytes] using this⟩⟩
  case round =>
    clear hS
    obtain ⟨i, rfl, hA, hS⟩ := hrel
    by_cases hil : i < l.length
    · obtain ⟨k1, rfl⟩ : ∃ k1, gk = k1 + 1 := ⟨gk - 1, by have := hA.out; omega⟩
      have hd : decide ((i : Int) < (l.length : Int)) = true := decide_eq_true (by omega)
      have hd2 : decide (i < l.length) = true := decide_eq_true hil
      obtain ⟨ad, e0, hx0, hx1⟩ := at_T81 (Kd.C_below hCA.out hS.out.1) (i : Int) (by omega) (by omega)
      subst e0
      rw [Int.toNat_natCast] at hx0 hx1
      obtain ⟨x, hx⟩ : ∃ x, l[i]? = some x := ⟨_, List.getElem?_eq_getElem hil⟩
      rw [rdT l i x hx] at hx0 hx1
      have p0 : (0 : Int) ≤ (i : Int) := by omega
      have q0 : (i : Int) < (l.length : Int) := by omega
      have hq1 : wrap64 ((i : Int) + 1) = ((i + 1 : Nat) : Int) := by rw [w64 (by omega) (by have := hlA.out; omega)]; omega
      have hA' : Aside0 (i + 1 + k1 = l.length) := ⟨by have := hA.out; omega⟩
      have hox := Aside0.mk (hoA.out x (List.mem_of_getElem? hx))
      have hlen : Aside0 ((b ++ tbytes (l.take i)).length + 8 ≤ 1000000000000) := ⟨by rw [List.length_append, tbytes_len, List.length_take]; have := hbA.out; have := hlA.out; omega⟩
      have hsn := Aside0.mk (tbytes_snoc l i x hx)
      have hS2 := Aside0.mk (hS.out.alloc #[.int .u64 x.f0, .int .u32 x.f1] 81).pick1
      clear hil hx
      go_wp2_with (fail)
      generalize wr.alloc (.cells #[.int .u64 x.f0, .int .u32 x.f1] 81) = wq at hS2 ⊢
      generalize hge : wr.heap.size = ge at *
      have hc_0 : wq.cell? ⟨ge, 0, none⟩ = some (.int .u64 x.f0) := (hS2.out.pick1.cell 0).trans rfl
      have hc_1 : wq.cell? ⟨ge, 1, none⟩ = some (.int .u32 x.f1) := (hS2.out.pick1.cell 1).trans rfl
      have hS := Aside0.mk hS2.out.drew
      clear hS2 hge hx0 hx1
      refine start_ (n := 7) (S := fun w' => w'.cell? ⟨ge, 0, none⟩ = some (.int .u64 x.f0) ∧ w'.cell? ⟨ge, 1, none⟩ = some (.int .u32 x.f1)) (ds := []) #[false, false, false, false, false, false, false] (by kernel_rfl) rfl rfl ⟨hc_0, hc_1⟩ (fun hHeld => ?_)
      generalize wq.drew = wq at hS hHeld ⊢
      refine pure_ (i := 0) (N := some 12) (v := ?_) (a' := ?_) #[true, false, false, false, false, false, false] rfl rfl (by kernel_rfl) (fun _ _ _ h => h) (Or.inl ⟨by rfl, ?_⟩) ?_ ?_
      rotate_left
      · intro w'
        go_simp
        with_reducible rfl
      rotate_left
      · simp only [Act.put, List.setIfInBounds_toArray, List.set_cons_zero, List.set_cons_succ, i64_w, i32_w]
        rfl
      refine pure_ (i := 1) (N := some 13) (v := ?_) (a' := ?_) #[true, true, false, false, false, false, false] rfl rfl (by kernel_rfl) (fun _ _ _ h => h) (Or.inl ⟨by rfl, ?_⟩) ?_ ?_
      rotate_left
      · intro w'
        go_simp
        with_reducible rfl
      rotate_left
      · simp only [Act.put, List.setIfInBounds_toArray, List.set_cons_zero, List.set_cons_succ, i64_w, i32_w]
        rfl
      refine pure_ (i := 4) (N := some 16) (v := ?_) (a' := ?_) #[true, true, false, false, true, false, false] rfl rfl (by kernel_rfl) (fun _ _ _ h => h) (Or.inl ⟨by rfl, ?_⟩) ?_ ?_
      rotate_left
      · intro w'
        go_simp
        with_reducible rfl
      rotate_left
      · simp only [Act.put, List.setIfInBounds_toArray, List.set_cons_zero, List.set_cons_succ, i64_w, i32_w]
        rfl
      refine take_ (i := 2) (N := some 14) (v := ?_) (a' := ?_) #[true, true, true, false, true, false, false] rfl rfl (by kernel_rfl) (fun _ _ _ h => h) (Or.inl ⟨by rfl, ?_⟩) hHeld ?_ ?_
      rotate_left
      · rintro w' ⟨s0, s1⟩
        go_simp
        with_reducible rfl
      rotate_left
      · simp only [Act.put, List.setIfInBounds_toArray, List.set_cons_zero, List.set_cons_succ, i64_w, i32_w]
        rfl
      refine take_ (i := 5) (N := some 17) (v := ?_) (a' := ?_) #[true, true, true, false, true, true, false] rfl rfl (by kernel_rfl) (fun _ _ _ h => h) (Or.inl ⟨by rfl, ?_⟩) hHeld ?_ ?_
      rotate_left
      · rintro w' ⟨s0, s1⟩
        go_simp
        with_reducible rfl
      rotate_left
      · simp only [Act.put, List.setIfInBounds_toArray, List.set_cons_zero, List.set_cons_succ, i64_w, i32_w]
        rfl
      refine one_ (i := 3) (N := some 15) #[true, true, true, true, true, true, false] rfl rfl (by kernel_rfl) (by decide) (fun K hK => ?_)
      refine goes_ Try.func69 (by kernel_rfl) rfl #[.pointer (some ⟨g, 0, none⟩), .int .u64 x.f0] (by rfl) rfl rfl (by (try simp only [List.map_toArray, List.map_cons, List.map_nil]); first | done | rfl) ?_
      refine (buf_Eight w0 _ g _ _ _ hS.out hox.out.1 hox.out.2.1 (by have := hlen.out; omega)).mono ?_
      rintro e wq ⟨rfl, h1⟩
      refine ⟨_, rfl, ?_⟩
      have hS := Aside0.mk h1
      clear h1
      refine hK.out _ _ ⟨(hS.out.pick1.cell 0).trans rfl, (hS.out.pick1.cell 1).trans rfl⟩ (fun hHeld => ?_)
      clear hK K
      refine norm_ (a' := ?_) ?_ ?_
      rotate_left
      · show Act.put _ (some 15) _ = _
        simp only [Act.put, List.setIfInBounds_toArray, List.set_cons_zero, List.set_cons_succ, i64_w, i32_w]
        rfl
      refine one_ (i := 6) (N := some 18) #[true, true, true, true, true, true, true] rfl rfl (by kernel_rfl) (by decide) (fun K hK => ?_)
      refine goes_ Try.func105 (by kernel_rfl) rfl #[.pointer (some ⟨g, 0, none⟩), .int .u32 x.f1] (by rfl) rfl rfl (by (try simp only [List.map_toArray, List.map_cons, List.map_nil]); first | done | rfl) ?_
      refine (buf_FourT w0 _ g _ _ _ hS.out hox.out.2.2.1 hox.out.2.2.2 (by have := hlen.out; rw [List.length_append, nbytes_len]; omega)).mono ?_
      rintro e wq ⟨rfl, h1⟩
      refine ⟨_, rfl, ?_⟩
      have hS := Aside0.mk h1
      clear h1
      refine hK.out _ _ ⟨(hS.out.pick1.cell 0).trans rfl, (hS.out.pick1.cell 1).trans rfl⟩ (fun hHeld => ?_)
      clear hK K
      refine norm_ (a' := ?_) ?_ ?_
      rotate_left
      · show Act.put _ (some 18) _ = _
        simp only [Act.put, List.setIfInBounds_toArray, List.set_cons_zero, List.set_cons_succ, i64_w, i32_w]
        rfl
      refine done_ (by kernel_rfl) ?_
      have hS3 : Aside0 (Sep.Sep w0 wq (buf g (b ++ tbytes (l.take (i + 1))) :: ps)) := ⟨by
        have := hS.out.pick1.tail
        rw [hsn.out]
        simpa [List.append_assoc] using this⟩
      clear hc_0 hc_1
      go_wp2_with (fail)
      go_roundg k1
      case measure => omega
      case rel => exact ⟨i + 1, by first | rw [hq1] | rfl, hA', hS3⟩
    · have hd : decide ((i : Int) < (l.length : Int)) = false := decide_eq_false (by omega)
      have hd2 : decide (i < l.length) = false := decide_eq_false hil
      have hil2 : l.take i = l := List.take_of_length_le (by omega)
      clear hil
      go_wp2_with (fail)
      go_end0
      exact ⟨rfl, by have := hS.out; rw [hil2] at this; exact this⟩

theorem fence_Put (w0 w : World) (g : Nat) (b : List Int) (A : Option Addr) (c n : Nat) (l : List Int) (hn : n = l.length) (ps : List HP) (hs : Sep.Sep w0 w (buf g b :: ps)) (hC : ∀ W, Sep.Sep w0 W ps → Kd.C (Kd.int .u64) W A l.length l) (hl : l.length ≤ 1000000) (hb : b.length ≤ 100000000) (hok : ∀ x ∈ l, 0 ≤ x ∧ x < 18446744073709551616) :
    Calls Try.prog 18 #[.pointer (some ⟨g, 0, none⟩), .slice A n c] w fun e w' => e = .returned (.tuple #[]) ∧ Sep.Sep w0 w' (buf g (b ++ fbytes l) :: ps) := by
  subst hn
  have hS := Aside0.mk hs
  have hCA := Aside0.mk hC
  have hlA := Aside0.mk hl
  have hbA := Aside0.mk hb
  have hoA := Aside0.mk hok
  clear hs hC hl hb hok
  go_enter Try.func18, Try.ntmps18
  go_wp2_with (fail)
  go_loopg [8] l.length (fun kq v8 w' => ∃ (i : Nat), v8 = .int .i64 i ∧ Aside0 (i + kq = l.length) ∧ Aside0 (Sep.Sep w0 w' (buf g (b ++ fbytes (l.take i)) :: ps)))
  case atStart => exact ⟨0, rfl, ⟨by omega⟩, ⟨by have := hS.out; simpa [fbytes] using this⟩⟩
  case round =>
    clear hS
    obtain ⟨i, rfl, hA, hS⟩ := hrel
    by_cases hil : i < l.length
    · obtain ⟨k1, rfl⟩ : ∃ k1, gk = k1 + 1 := ⟨gk - 1, by have := hA.out; omega⟩
      have hd : decide ((i : Int) < (l.length : Int)) = true := decide_eq_true (by omega)
      have hd2 : decide (i < l.length) = true := decide_eq_true hil
      obtain ⟨ad, e0, hx0⟩ := Kd.at_int (hCA.out _ hS.out.tail) (i : Int) (by omega) (by omega)
      subst e0
      rw [Int.toNat_natCast] at hx0
      obtain ⟨x, hx⟩ : ∃ x, l[i]? = some x := ⟨_, List.getElem?_eq_getElem hil⟩
      have hrx : rd l (i : Int) = x := by rw [rd_at l i hil]; exact (List.getElem?_eq_some_iff.1 hx).2
      rw [hrx] at hx0
      have p0 : (0 : Int) ≤ (i : Int) := by omega
      have q0 : (i : Int) < (l.length : Int) := by omega
      have hq1 : wrap64 ((i : Int) + 1) = ((i + 1 : Nat) : Int) := by rw [w64 (by omega) (by have := hlA.out; omega)]; omega
      have hA' : Aside0 (i + 1 + k1 = l.length) := ⟨by have := hA.out; omega⟩
      have hox := Aside0.mk (hoA.out x (List.mem_of_getElem? hx))
      have hlen : Aside0 ((b ++ fbytes (l.take i)).length + 8 ≤ 1000000000000) := ⟨by rw [List.length_append, fbytes_len, List.length_take]; have := hbA.out; have := hlA.out; omega⟩
      have hsn := Aside0.mk (fbytes_snoc l i x hx)
      clear hil hx hrx
      go_wp2_with (first | ((with_reducible refine gate_callee (f := 69) rfl ?_); refine goesL_ (some 14) rfl rfl Try.func69 (by kernel_rfl) rfl #[.pointer (some ⟨g, 0, none⟩), .int .u64 x] rfl (by (try simp only [List.map_toArray, List.map_cons, List.map_nil]); first | done | rfl) ?_; (with_reducible refine (buf_Eight w0 _ g _ _ _ hS.out hox.out.1 hox.out.2 (by have := hlen.out; omega)).mono ?_); rintro e w1 ⟨rfl, h1⟩; refine ⟨_, rfl, ?_⟩; have hS1 : Aside0 (Sep.Sep w0 w1 (buf g (b ++ fbytes (l.take (i + 1))) :: ps)) := ⟨by rw [hsn.out, ← List.append_assoc]; exact h1⟩; clear h1))
      go_roundg k1
      case measure => omega
      case rel => exact ⟨i + 1, by first | rw [hq1] | rfl, hA', hS1⟩
    · have hd : decide ((i : Int) < (l.length : Int)) = false := decide_eq_false (by omega)
      have hd2 : decide (i < l.length) = false := decide_eq_false hil
      have hil2 : l.take i = l := List.take_of_length_le (by omega)
      clear hil
      go_wp2_with (fail)
      go_end0
      exact ⟨rfl, by have := hS.out; rw [hil2] at this; exact this⟩
end Go.Proofs.Ytnmdckgaljldhaa.Tb
