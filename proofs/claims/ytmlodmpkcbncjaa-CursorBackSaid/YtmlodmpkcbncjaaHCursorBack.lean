/- fasciclelaw01.CursorBack, walked. -/
import Derived.Test.YtmlodmpkcbncjaaHBackClos
import Derived.Test.YtmlodmpkcbncjaaHLives01
set_option linter.unusedVariables false
set_option linter.unusedSimpArgs false
namespace Go.Proofs.Ytmlodmpkcbncjaa.G
open Go Go.RowKit Go.Proofs.YtmlodmpkcbncjaaW.PrintWords Go.Proofs.YtmlodmpkcbncjaaW.PrintLast Go.Proofs.YtmlodmpkcbncjaaW.PrintMore Go.Proofs.Ytmlodmpkcbncjaa.PureKit Go.Proofs.Ytmlodmpkcbncjaa.Sep

open Classical in
noncomputable def fasciclelaw01_CursorBack.f (l0 : List Int) (l1 : List Int) : Option Bool := if U64s l0 ∧ Bytes l1 then some true else none
def fasciclelaw01_CursorBack.Pure : Prop := ∀ (l0 : List Int) (l1 : List Int), l0.length ≤ maxLen → l0.length * 8 ≤ 140737488351232 → (∀ y ∈ l0, ((Lit.int .u64 y).wf = true)) → l1.length ≤ maxLen → l1.length * 1 ≤ 140737488351232 → (∀ y ∈ l1, ((Lit.int .u8 y).wf = true)) → fasciclelaw01_CursorBack.f l0 l1 = some true

set_option maxHeartbeats 8000000 in
set_option maxRecDepth 100000 in
theorem fasciclelaw01_CursorBack.calls (A0 : Option Addr) (c0 : Nat) (l0 : List Int) (A1 : Option Addr) (c1 : Nat) (l1 : List Int) (r : Bool) (w : World) (hr0 : Kd.C (Kd.int .u64) w A0 l0.length l0) (hc0 : l0.length ≤ c0) (hr1 : Kd.C (Kd.int .u8) w A1 l1.length l1) (hc1 : l1.length ≤ c1) (h : fasciclelaw01_CursorBack.f l0 l1 = some r) :
    Calls Try.prog 6 #[.slice A0 l0.length c0, .slice A1 l1.length c1] w fun e w' => e = .returned (.bool r) ∧ Below w.heap.size w w' := by
  obtain ⟨hU, hb, rfl⟩ : U64s l0 ∧ Bytes l1 ∧ r = true := by
    unfold fasciclelaw01_CursorBack.f at h
    split at h
    · rename_i hh
      exact ⟨hh.1, hh.2, (Option.some.inj h).symm⟩
    · cases h
  clear h
  have HR0 := Aside0.mk hr0
  have HR1 := Aside0.mk hr1
  clear hr0 hr1
  have hS := Aside0.mk (Sep.start w)
  by_cases hbig : ¬ (l0.length ≤ 40 ∧ l1.length ≤ 500)
  · by_cases h1 : (l0.length : Int) > 40
    · have h0b : decide ((l0.length : Int) > 40) = true := decide_eq_true h1
      go_enter Try.func6, Try.ntmps6
      go_wp2_with (first | ((with_reducible refine gate_dst (N := 2) rfl ?_); refine Sep.box_event ?hg (N := 2) ?hd (cs := #[.slice A0 l0.length c0]) (t := 46) hS.out ?hr ?_; (case hd => rfl); (case hg => rfl); (case hr => first | (go_simp; done) | (go_simp; rfl)); intro g2 wb2 hsb2; have hcb2_0 : wb2.cell? ⟨g2, 0, none⟩ = some (.slice A0 l0.length c0) := ((hsb2).cell 0).trans rfl; have hSb2 := Aside0.mk hsb2; clear hsb2) | ((with_reducible refine gate_dst (N := 3) rfl ?_); refine Sep.box_event ?hg (N := 3) ?hd (cs := #[.slice A1 l1.length c1]) (t := 22) hSb2.out ?hr ?_; (case hd => rfl); (case hg => rfl); (case hr => first | (go_simp; done) | (go_simp; rfl)); intro g3 wb3 hsb3; have hcb3_0 : wb3.cell? ⟨g3, 0, none⟩ = some (.slice A1 l1.length c1) := ((hsb3).cell 0).trans rfl; have hSb3 := Aside0.mk hsb3; clear hsb3) | ((with_reducible refine gate_callee (f := 15) rfl ?_); refine goesL_ (some 12) rfl rfl Try.func15 (by kernel_rfl) rfl #[] rfl (by (try simp only [List.map_toArray, List.map_cons, List.map_nil]); first | done | rfl) ?_; (with_reducible refine (fasciclelaw01_lives.calls true _ rfl).mono ?_); rintro e w1 ⟨rfl, h1⟩; refine ⟨_, rfl, ?_⟩; have hS1 := Aside0.mk (hSb3.out.below h1); have hq := hS1.out; have hc3_0 : w1.cell? ⟨g3, 0, none⟩ = some (.slice A1 l1.length c1) := ((hq).cell 0).trans rfl; have hc2_0 : w1.cell? ⟨g2, 0, none⟩ = some (.slice A0 l0.length c0) := ((hq.pick1).cell 0).trans rfl; have hqb := hS1.out.buf_new; have hdb_0 : (w1.alloc (.cells #[.slice none 0 0] 48 (0, 0))).cell? ⟨g2, 0, none⟩ = some (.slice A0 l0.length c0) := ((hqb.pick2).cell 0).trans rfl; clear h1 hq hqb) | ((with_reducible refine gate_callee (f := 15) rfl ?_); refine goesL_ (some 24) rfl rfl Try.func15 (by kernel_rfl) rfl #[] rfl (by (try simp only [List.map_toArray, List.map_cons, List.map_nil]); first | done | rfl) ?_; (with_reducible refine (fasciclelaw01_lives.calls true _ rfl).mono ?_); rintro e w2 ⟨rfl, h1⟩; refine ⟨_, rfl, ?_⟩; have hS2 := Aside0.mk (hS1.out.below h1); clear h1))
      go_ret
      exact ⟨rfl, hS2.out.1⟩
    · have h0b : decide ((l0.length : Int) > 40) = false := decide_eq_false h1
      have h1b : decide ((l1.length : Int) > 500) = true := decide_eq_true (by omega)
      go_enter Try.func6, Try.ntmps6
      go_wp2_with (first | ((with_reducible refine gate_dst (N := 2) rfl ?_); refine Sep.box_event ?hg (N := 2) ?hd (cs := #[.slice A0 l0.length c0]) (t := 46) hS.out ?hr ?_; (case hd => rfl); (case hg => rfl); (case hr => first | (go_simp; done) | (go_simp; rfl)); intro g2 wb2 hsb2; have hcb2_0 : wb2.cell? ⟨g2, 0, none⟩ = some (.slice A0 l0.length c0) := ((hsb2).cell 0).trans rfl; have hSb2 := Aside0.mk hsb2; clear hsb2) | ((with_reducible refine gate_dst (N := 3) rfl ?_); refine Sep.box_event ?hg (N := 3) ?hd (cs := #[.slice A1 l1.length c1]) (t := 22) hSb2.out ?hr ?_; (case hd => rfl); (case hg => rfl); (case hr => first | (go_simp; done) | (go_simp; rfl)); intro g3 wb3 hsb3; have hcb3_0 : wb3.cell? ⟨g3, 0, none⟩ = some (.slice A1 l1.length c1) := ((hsb3).cell 0).trans rfl; have hSb3 := Aside0.mk hsb3; clear hsb3) | ((with_reducible refine gate_callee (f := 15) rfl ?_); refine goesL_ (some 12) rfl rfl Try.func15 (by kernel_rfl) rfl #[] rfl (by (try simp only [List.map_toArray, List.map_cons, List.map_nil]); first | done | rfl) ?_; (with_reducible refine (fasciclelaw01_lives.calls true _ rfl).mono ?_); rintro e w1 ⟨rfl, h1⟩; refine ⟨_, rfl, ?_⟩; have hS1 := Aside0.mk (hSb3.out.below h1); have hq := hS1.out; have hc3_0 : w1.cell? ⟨g3, 0, none⟩ = some (.slice A1 l1.length c1) := ((hq).cell 0).trans rfl; have hc2_0 : w1.cell? ⟨g2, 0, none⟩ = some (.slice A0 l0.length c0) := ((hq.pick1).cell 0).trans rfl; have hqb := hS1.out.buf_new; have hdb_0 : (w1.alloc (.cells #[.slice none 0 0] 48 (0, 0))).cell? ⟨g2, 0, none⟩ = some (.slice A0 l0.length c0) := ((hqb.pick2).cell 0).trans rfl; clear h1 hq hqb) | ((with_reducible refine gate_callee (f := 15) rfl ?_); refine goesL_ (some 24) rfl rfl Try.func15 (by kernel_rfl) rfl #[] rfl (by (try simp only [List.map_toArray, List.map_cons, List.map_nil]); first | done | rfl) ?_; (with_reducible refine (fasciclelaw01_lives.calls true _ rfl).mono ?_); rintro e w2 ⟨rfl, h1⟩; refine ⟨_, rfl, ?_⟩; have hS2 := Aside0.mk (hS1.out.below h1); clear h1))
      go_ret
      exact ⟨rfl, hS2.out.1⟩
  have h0b : decide ((l0.length : Int) > 40) = false := decide_eq_false (by omega)
  have h1b : decide ((l1.length : Int) > 500) = false := decide_eq_false (by omega)
  have hle : l0.length ≤ 40 ∧ l1.length ≤ 500 := by omega
  clear hbig
  have hmf : ∀ (fn : Fn) (first cap : Array Value) (w : World), (Instr.makeFunc fn first cap).run Try.prog w = .ok (.func fn first cap) w := fun _ _ _ _ => rfl
  have hsz : ∀ (W : World) (o : Obj), (W.alloc o).heap.size = W.heap.size + 1 := fun W o => by show (W.heap.push _).size = _; simp
  have hent := Try.call32
  have hLt : ∀ i, (items l1 (l0.take i)).length ≤ 20520 := fun i => by
    rw [items_len]
    have h1 : (l0.take i).length ≤ 40 := by rw [List.length_take]; omega
    have := Nat.mul_le_mul h1 (show 13 + l1.length ≤ 513 by omega)
    omega
  have hst : ∀ W, Below w.heap.size w W → (convert 22 9 (.slice A1 l1.length c1)).run Try.prog W = .ok (.string (strOfNums l1)) W := fun W hW =>
    Kd.C_string (P := Try.prog) (A := A1) (c := c1) Try.underlying22 Try.underlying5 Try.underlying9 (Kd.C_below HR1.out hW)
  have hstA := Aside0.mk hst
  clear hst
  obtain ⟨j_, hj_⟩ : ∃ j, Try.prog.info? 48 = some j := Option.isSome_iff_exists.mp (by kernel_rfl)
  have hne := fun W (a : Addr) => run_neq_ptr_same (P := Try.prog) W a Try.underlying49 hj_
  go_enter Try.func6, Try.ntmps6
  go_wp2_with (first | ((with_reducible refine gate_dst (N := 2) rfl ?_); refine Sep.box_event ?hg (N := 2) ?hd (cs := #[.slice A0 l0.length c0]) (t := 46) hS.out ?hr ?_; (case hd => rfl); (case hg => rfl); (case hr => first | (go_simp; done) | (go_simp; rfl)); intro g2 wb2 hsb2; have hcb2_0 : wb2.cell? ⟨g2, 0, none⟩ = some (.slice A0 l0.length c0) := ((hsb2).cell 0).trans rfl; have hSb2 := Aside0.mk hsb2; clear hsb2) | ((with_reducible refine gate_dst (N := 3) rfl ?_); refine Sep.box_event ?hg (N := 3) ?hd (cs := #[.slice A1 l1.length c1]) (t := 22) hSb2.out ?hr ?_; (case hd => rfl); (case hg => rfl); (case hr => first | (go_simp; done) | (go_simp; rfl)); intro g3 wb3 hsb3; have hcb3_0 : wb3.cell? ⟨g3, 0, none⟩ = some (.slice A1 l1.length c1) := ((hsb3).cell 0).trans rfl; have hSb3 := Aside0.mk hsb3; clear hsb3) | ((with_reducible refine gate_callee (f := 15) rfl ?_); refine goesL_ (some 12) rfl rfl Try.func15 (by kernel_rfl) rfl #[] rfl (by (try simp only [List.map_toArray, List.map_cons, List.map_nil]); first | done | rfl) ?_; (with_reducible refine (fasciclelaw01_lives.calls true _ rfl).mono ?_); rintro e w1 ⟨rfl, h1⟩; refine ⟨_, rfl, ?_⟩; have hS1 := Aside0.mk (hSb3.out.below h1); have hq := hS1.out; have hc3_0 : w1.cell? ⟨g3, 0, none⟩ = some (.slice A1 l1.length c1) := ((hq).cell 0).trans rfl; have hc2_0 : w1.cell? ⟨g2, 0, none⟩ = some (.slice A0 l0.length c0) := ((hq.pick1).cell 0).trans rfl; have hqb := hS1.out.buf_new; have hdb_0 : (w1.alloc (.cells #[.slice none 0 0] 48 (0, 0))).cell? ⟨g2, 0, none⟩ = some (.slice A0 l0.length c0) := ((hqb.pick2).cell 0).trans rfl; clear h1 hq hqb))
  have hSb := Aside0.mk hS1.out.buf_new
  go_loopg [6, 27] l0.length (fun kq v6 v27 w' => ∃ (i : Nat), v6 = .string (strOfNums (items l1 (l0.take i))) ∧ v27 = .int .i64 i ∧ Aside0 (i + kq = l0.length) ∧ Aside0 (Sep.Sep w w' [buf w1.heap.size (items l1 (l0.take i)), blk g3 #[.slice A1 l1.length c1] 22, blk g2 #[.slice A0 l0.length c0] 46]))
  case atStart => exact ⟨0, rfl, rfl, ⟨Nat.zero_add _⟩, by simpa [items] using hSb⟩
  case round =>
    obtain ⟨i, rfl, rfl, hA, hS⟩ := hrel
    by_cases hin : i < l0.length
    · have hd : decide ((i : Int) < (l0.length : Int)) = true := decide_eq_true (by omega)
      obtain ⟨k1, rfl⟩ : ∃ k1, gk = k1 + 1 := ⟨gk - 1, by have := hA.out; omega⟩
      have hC0 := Kd.C_below HR0.out hS.out.1
      obtain ⟨ad0, e0, hx0⟩ := Kd.at_int hC0 (i : Int) (by omega) (by omega)
      cases e0
      simp only [Int.toNat_natCast] at hx0
      rw [rd_at l0 i hin] at hx0
      have hUx := hU l0[i] (List.getElem_mem hin)
      have hit := items_take l1 l0 i hin
      obtain ⟨y, hy⟩ : ∃ y, l0[i] = y := ⟨_, rfl⟩
      rw [hy] at hx0 hUx hit
      clear hy
      obtain ⟨K1, hK1⟩ := (refn 1 y (by decide) hUx.1 hUx.2).rounds
      obtain ⟨K4, hK4⟩ := (refn 4 y (by decide) hUx.1 hUx.2).rounds
      obtain ⟨K8, hK8⟩ := (refn 8 y (by decide) hUx.1 hUx.2).rounds
      have hK1 : fascicleref01_Num.f K1 y 1 = some (strOfNums (nbytes 1 y)) := hK1
      have hK4 : fascicleref01_Num.f K4 y 4 = some (strOfNums (nbytes 4 y)) := hK4
      have hK8 : fascicleref01_Num.f K8 y 8 = some (strOfNums (nbytes 8 y)) := hK8
      have hTl := hLt i
      have hw8 : IntKind.u8.wrap y = y % 256 := IntKind.wrap_u8 y
      have hw32 : IntKind.u32.wrap y = y % 4294967296 := IntKind.wrap_u32 y
      have hm4 : nbytes 4 (y % 4294967296) = nbytes 4 y := nbytes_mod 4 y hUx.1
      have hcatA : (strOfNums (items l1 (l0.take i))) ++ (((strOfNums (nbytes 1 y) ++ strOfNums (nbytes 4 y)) ++ strOfNums (nbytes 8 y)) ++ strOfNums l1) = strOfNums (items l1 (l0.take (i + 1))) := by
        rw [hit, PureKit.nums_append, PureKit.nums_append, PureKit.nums_append, PureKit.nums_append]
        congr 1
        try simp [item, nbytes]
      have z1 : (strOfNums (nbytes 1 y)).size = 1 := by rw [nums_size, nbytes_len]
      have z4 : (strOfNums (nbytes 4 y)).size = 4 := by rw [nums_size, nbytes_len]
      have z8 : (strOfNums (nbytes 8 y)).size = 8 := by rw [nums_size, nbytes_len]
      have zr : (strOfNums l1).size = l1.length := nums_size _
      have zT : (strOfNums (items l1 (l0.take i))).size = (items l1 (l0.take i)).length := nums_size _
      have hitA := Aside0.mk hit
      have hcatA := Aside0.mk hcatA
      clear hit
      obtain ⟨T, hT⟩ : ∃ T, strOfNums (items l1 (l0.take i)) = T := ⟨_, rfl⟩
      obtain ⟨N1, hN1⟩ : ∃ N, strOfNums (nbytes 1 y) = N := ⟨_, rfl⟩
      obtain ⟨N4, hN4⟩ : ∃ N, strOfNums (nbytes 4 y) = N := ⟨_, rfl⟩
      obtain ⟨N8, hN8⟩ : ∃ N, strOfNums (nbytes 8 y) = N := ⟨_, rfl⟩
      obtain ⟨SR, hSR⟩ : ∃ N, strOfNums l1 = N := ⟨_, rfl⟩
      have hcat := hcatA.out
      rw [hT, hN1, hN4, hN8, hSR] at hcat
      have hcat := Aside0.mk hcat
      rw [hT] at zT
      rw [hN1] at hK1 z1
      rw [hN4] at hK4 z4
      rw [hN8] at hK8 z8
      rw [hSR] at zr
      have hst := hstA.out
      rw [hSR] at hst
      have hstA := Aside0.mk hst
      have c1_ : (9223372036854775807 < N1.size + N4.size) = False := eq_false (by omega)
      have c2_ : (9223372036854775807 < N1.size + N4.size + N8.size) = False := eq_false (by omega)
      have c3_ : (9223372036854775807 < N1.size + N4.size + N8.size + SR.size) = False := eq_false (by omega)
      have c4_ : (9223372036854775807 < T.size + (N1.size + N4.size + N8.size + SR.size)) = False := eq_false (by omega)
      have hTA := Aside0.mk hT
      have hN := Aside0.mk (And.intro hN1 (And.intro hN4 hN8))
      have hK1 := Aside0.mk hK1
      have hK4 := Aside0.mk hK4
      have hK8 := Aside0.mk hK8
      have hm4 := Aside0.mk hm4
      clear hst hN1 hN4 hN8 hSR z1 z4 z8 zr zT
      rw [hT]
      clear hT
      have p0 : ((0 : Int) ≤ (i : Int)) = True := eq_true (by omega)
      have q0 : ((i : Int) < (l0.length : Int)) = True := eq_true (by omega)
      go_wp2
      have hSd := hS.out.drew
      have hcw_0 : wr.drew.cell? ⟨g3, 0, none⟩ = some (.slice A1 l1.length c1) := ((hSd.pick1).cell 0).trans rfl
      have hSd := Aside0.mk hSd
      refine start_ (n := 11) (S := fun w' => w'.cell? ⟨g3, 0, none⟩ = some (.slice A1 l1.length c1)) (ds := []) #[false, false, false, false, false, false, false, false, false, false, false] (by kernel_rfl) rfl rfl (hcw_0) (fun hHeld => ?_)
      refine pure_ (i := 0) (N := some 31) (v := ?_) (a' := ?_) #[true, false, false, false, false, false, false, false, false, false, false] rfl rfl (by kernel_rfl) (fun _ _ _ h => h) (Or.inl ⟨by rfl, ?_⟩) ?_ ?_
      rotate_left
      · intro w'
        go_simp
        with_reducible rfl
      rotate_left
      · simp only [Act.put, List.setIfInBounds_toArray, List.set_cons_zero, List.set_cons_succ, i64_w, i32_w]
        rfl
      refine pure_ (i := 1) (N := some 32) (v := ?_) (a' := ?_) #[true, true, false, false, false, false, false, false, false, false, false] rfl rfl (by kernel_rfl) (fun _ _ _ h => h) (Or.inl ⟨by rfl, ?_⟩) ?_ ?_
      rotate_left
      · intro w'
        go_simp
        with_reducible rfl
      rotate_left
      · simp only [Act.put, List.setIfInBounds_toArray, List.set_cons_zero, List.set_cons_succ, i64_w, i32_w]
        rfl
      refine pure_ (i := 3) (N := some 34) (v := ?_) (a' := ?_) #[true, true, false, true, false, false, false, false, false, false, false] rfl rfl (by kernel_rfl) (fun _ _ _ h => h) (Or.inl ⟨by rfl, ?_⟩) ?_ ?_
      rotate_left
      · intro w'
        go_simp
        with_reducible rfl
      rotate_left
      · simp only [Act.put, List.setIfInBounds_toArray, List.set_cons_zero, List.set_cons_succ, i64_w, i32_w]
        rfl
      refine pure_ (i := 4) (N := some 35) (v := ?_) (a' := ?_) #[true, true, false, true, true, false, false, false, false, false, false] rfl rfl (by kernel_rfl) (fun _ _ _ h => h) (Or.inl ⟨by rfl, ?_⟩) ?_ ?_
      rotate_left
      · intro w'
        go_simp
        with_reducible rfl
      rotate_left
      · simp only [Act.put, List.setIfInBounds_toArray, List.set_cons_zero, List.set_cons_succ, i64_w, i32_w]
        rfl
      refine pure_ (i := 6) (N := some 37) (v := ?_) (a' := ?_) #[true, true, false, true, true, false, true, false, false, false, false] rfl rfl (by kernel_rfl) (fun _ _ _ h => h) (Or.inl ⟨by rfl, ?_⟩) ?_ ?_
      rotate_left
      · intro w'
        go_simp
        with_reducible rfl
      rotate_left
      · simp only [Act.put, List.setIfInBounds_toArray, List.set_cons_zero, List.set_cons_succ, i64_w, i32_w]
        rfl
      refine take_ (i := 8) (N := some 39) (v := ?_) (a' := ?_) #[true, true, false, true, true, false, true, false, true, false, false] rfl rfl (by kernel_rfl) (fun _ _ _ h => h) (Or.inl ⟨by rfl, ?_⟩) hHeld ?_ ?_
      rotate_left
      · intro w' s0
        go_simp
        with_reducible rfl
      rotate_left
      · simp only [Act.put, List.setIfInBounds_toArray, List.set_cons_zero, List.set_cons_succ, i64_w, i32_w]
        rfl
      refine one_ (i := 2) (N := some 33) #[true, true, true, true, true, false, true, false, true, false, false] rfl rfl (by kernel_rfl) (by decide) (fun K hK => ?_)
      refine goes_ Try.func26 (by kernel_rfl) rfl #[.pointer (some ⟨w1.heap.size, 0, none⟩), .int .u8 (y % 256)] (by rfl) rfl rfl (by (try simp only [List.map_toArray, List.map_cons, List.map_nil]); first | done | rfl) ?_
      refine (buf_Byte w _ w1.heap.size _ _ (y % 256) hSd.out (by omega) (by omega) (by omega)).mono ?_
      rintro e w2 ⟨rfl, h2⟩
      refine ⟨_, rfl, ?_⟩
      have hy2 : w2.cell? ⟨g3, 0, none⟩ = some (.slice A1 l1.length c1) := ((h2.pick1).cell 0).trans rfl
      have hS2 := Aside0.mk h2
      clear h2
      refine hK.out _ _ (hy2) (fun hHeld => ?_)
      clear hK K
      refine norm_ (a' := ?_) ?_ ?_
      rotate_left
      · show Act.put _ (some 33) _ = _
        simp only [Act.put, List.setIfInBounds_toArray, List.set_cons_zero, List.set_cons_succ, i64_w, i32_w]
        rfl
      refine one_ (i := 5) (N := some 36) #[true, true, true, true, true, true, true, false, true, false, false] rfl rfl (by kernel_rfl) (by decide) (fun K hK => ?_)
      refine goes_ Try.func27 (by kernel_rfl) rfl #[.pointer (some ⟨w1.heap.size, 0, none⟩), .int .u32 (y % 4294967296)] (by rfl) rfl rfl (by (try simp only [List.map_toArray, List.map_cons, List.map_nil]); first | done | rfl) ?_
      refine (buf_Four w _ w1.heap.size _ _ (y % 4294967296) hS2.out (by omega) (by omega) (by simp; omega)).mono ?_
      rintro e w3 ⟨rfl, h3⟩
      refine ⟨_, rfl, ?_⟩
      have hy3 : w3.cell? ⟨g3, 0, none⟩ = some (.slice A1 l1.length c1) := ((h3.pick1).cell 0).trans rfl
      have hS3 := Aside0.mk h3
      clear h3
      refine hK.out _ _ (hy3) (fun hHeld => ?_)
      clear hK K
      refine norm_ (a' := ?_) ?_ ?_
      rotate_left
      · show Act.put _ (some 36) _ = _
        simp only [Act.put, List.setIfInBounds_toArray, List.set_cons_zero, List.set_cons_succ, i64_w, i32_w]
        rfl
      refine one_ (i := 7) (N := some 38) #[true, true, true, true, true, true, true, true, true, false, false] rfl rfl (by kernel_rfl) (by decide) (fun K hK => ?_)
      refine goes_ Try.func28 (by kernel_rfl) rfl #[.pointer (some ⟨w1.heap.size, 0, none⟩), .int .u64 y] (by rfl) rfl rfl (by (try simp only [List.map_toArray, List.map_cons, List.map_nil]); first | done | rfl) ?_
      refine (buf_Eight w _ w1.heap.size _ _ y hS3.out (by omega) (by omega) (by simp [nbytes_len]; omega)).mono ?_
      rintro e w4 ⟨rfl, h4⟩
      refine ⟨_, rfl, ?_⟩
      have hy4 : w4.cell? ⟨g3, 0, none⟩ = some (.slice A1 l1.length c1) := ((h4.pick1).cell 0).trans rfl
      have hS4 := Aside0.mk h4
      clear h4
      refine hK.out _ _ (hy4) (fun hHeld => ?_)
      clear hK K
      refine norm_ (a' := ?_) ?_ ?_
      rotate_left
      · show Act.put _ (some 38) _ = _
        simp only [Act.put, List.setIfInBounds_toArray, List.set_cons_zero, List.set_cons_succ, i64_w, i32_w]
        rfl
      refine one_ (i := 9) (N := some 40) #[true, true, true, true, true, true, true, true, true, true, false] rfl rfl (by kernel_rfl) (by decide) (fun K hK => ?_)
      refine goes_ Try.func29 (by kernel_rfl) rfl #[.pointer (some ⟨w1.heap.size, 0, none⟩), .slice A1 l1.length c1] (by rfl) rfl rfl (by (try simp only [List.map_toArray, List.map_cons, List.map_nil]); first | done | rfl) ?_
      refine (buf_Raw w _ w1.heap.size _ _ A1 l1.length c1 l1 hS4.out (Kd.C_below HR1.out hS4.out.1) rfl (by simp [nbytes_len]; omega) (by omega)).mono ?_
      rintro e w5 ⟨rfl, h5⟩
      refine ⟨_, rfl, ?_⟩
      have hy5 : w5.cell? ⟨g3, 0, none⟩ = some (.slice A1 l1.length c1) := ((h5.pick1).cell 0).trans rfl
      have hS5 := Aside0.mk h5
      clear h5
      refine hK.out _ _ (hy5) (fun hHeld => ?_)
      clear hK K
      refine norm_ (a' := ?_) ?_ ?_
      rotate_left
      · show Act.put _ (some 40) _ = _
        simp only [Act.put, List.setIfInBounds_toArray, List.set_cons_zero, List.set_cons_succ, i64_w, i32_w]
        rfl
      refine pure_ (i := 10) (N := some 41) (v := ?_) (a' := ?_) #[true, true, true, true, true, true, true, true, true, true, true] rfl rfl (by kernel_rfl) (fun _ _ _ h => h) (Or.inl ⟨by rfl, ?_⟩) ?_ ?_
      rotate_left
      · intro w'
        go_simp
        with_reducible rfl
      rotate_left
      · simp only [Act.put, List.setIfInBounds_toArray, List.set_cons_zero, List.set_cons_succ, i64_w, i32_w]
        rfl
      refine done_ (by kernel_rfl) ?_
      go_wp2
      have hSe := hS5.out.drew
      have hcx_0 : w5.drew.cell? ⟨g3, 0, none⟩ = some (.slice A1 l1.length c1) := ((hSe.pick1).cell 0).trans rfl
      have hcvx := hstA.out _ hSe.1
      have hSe := Aside0.mk hSe
      refine start_ (n := 14) (S := fun w' => w'.cell? ⟨g3, 0, none⟩ = some (.slice A1 l1.length c1) ∧ (convert 22 9 (.slice A1 l1.length c1)).run Try.prog w' = .ok (.string SR) w') (ds := []) #[false, false, false, false, false, false, false, false, false, false, false, false, false, false] (by kernel_rfl) rfl rfl ⟨hcx_0, hcvx⟩ (fun hHeld => ?_)
      refine pure_ (i := 0) (N := some 42) (v := ?_) (a' := ?_) #[true, false, false, false, false, false, false, false, false, false, false, false, false, false] rfl rfl (by kernel_rfl) (fun _ _ _ h => h) (Or.inl ⟨by rfl, ?_⟩) ?_ ?_
      rotate_left
      · intro w'
        go_simp
        with_reducible rfl
      rotate_left
      · simp only [Act.put, List.setIfInBounds_toArray, List.set_cons_zero, List.set_cons_succ, i64_w, i32_w]
        rfl
      refine pure_ (i := 1) (N := some 43) (v := ?_) (a' := ?_) #[true, true, false, false, false, false, false, false, false, false, false, false, false, false] rfl rfl (by kernel_rfl) (fun _ _ _ h => h) (Or.inl ⟨by rfl, ?_⟩) ?_ ?_
      rotate_left
      · intro w'
        go_simp
        with_reducible rfl
      rotate_left
      · simp only [Act.put, List.setIfInBounds_toArray, List.set_cons_zero, List.set_cons_succ, i64_w, i32_w]
        rfl
      refine pure_ (i := 3) (N := some 45) (v := ?_) (a' := ?_) #[true, true, false, true, false, false, false, false, false, false, false, false, false, false] rfl rfl (by kernel_rfl) (fun _ _ _ h => h) (Or.inl ⟨by rfl, ?_⟩) ?_ ?_
      rotate_left
      · intro w'
        go_simp
        with_reducible rfl
      rotate_left
      · simp only [Act.put, List.setIfInBounds_toArray, List.set_cons_zero, List.set_cons_succ, i64_w, i32_w]
        rfl
      refine pure_ (i := 6) (N := some 48) (v := ?_) (a' := ?_) #[true, true, false, true, false, false, true, false, false, false, false, false, false, false] rfl rfl (by kernel_rfl) (fun _ _ _ h => h) (Or.inl ⟨by rfl, ?_⟩) ?_ ?_
      rotate_left
      · intro w'
        go_simp
        with_reducible rfl
      rotate_left
      · simp only [Act.put, List.setIfInBounds_toArray, List.set_cons_zero, List.set_cons_succ, i64_w, i32_w]
        rfl
      refine take_ (i := 9) (N := some 51) (v := ?_) (a' := ?_) #[true, true, false, true, false, false, true, false, false, true, false, false, false, false] rfl rfl (by kernel_rfl) (fun _ _ _ h => h) (Or.inl ⟨by rfl, ?_⟩) hHeld ?_ ?_
      rotate_left
      · rintro w' ⟨s0, s1⟩
        go_simp
        with_reducible rfl
      rotate_left
      · simp only [Act.put, List.setIfInBounds_toArray, List.set_cons_zero, List.set_cons_succ, i64_w, i32_w]
        rfl
      refine take_ (i := 10) (N := some 52) (v := ?_) (a' := ?_) #[true, true, false, true, false, false, true, false, false, true, true, false, false, false] rfl rfl (by kernel_rfl) (fun _ _ _ h => h) (Or.inl ⟨by rfl, ?_⟩) hHeld ?_ ?_
      rotate_left
      · rintro w' ⟨s0, s1⟩
        go_simp
        with_reducible rfl
      rotate_left
      · simp only [Act.put, List.setIfInBounds_toArray, List.set_cons_zero, List.set_cons_succ, i64_w, i32_w]
        rfl
      refine one_ (i := 2) (N := some 44) #[true, true, true, true, false, false, true, false, false, true, true, false, false, false] rfl rfl (by kernel_rfl) (by decide) (fun K hK => ?_)
      refine goes_ Try.func30 (by kernel_rfl) rfl #[.int .u64 y, .int .i64 1] (by rfl) rfl rfl (by (try simp only [List.map_toArray, List.map_cons, List.map_nil]); first | done | rfl) ?_
      refine (fascicleref01_Num.calls K1 y 1 N1 _ hK1.out).mono ?_
      rintro e w6 ⟨rfl, h6⟩
      refine ⟨_, rfl, ?_⟩
      have h6 := hSe.out.below h6
      have hy6 : w6.cell? ⟨g3, 0, none⟩ = some (.slice A1 l1.length c1) := ((h6.pick1).cell 0).trans rfl
      have hz6 := hstA.out _ h6.1
      have hS6 := Aside0.mk h6
      clear h6
      refine hK.out _ _ ⟨hy6, hz6⟩ (fun hHeld => ?_)
      clear hK K
      refine norm_ (a' := ?_) ?_ ?_
      rotate_left
      · show Act.put _ (some 44) _ = _
        simp only [Act.put, List.setIfInBounds_toArray, List.set_cons_zero, List.set_cons_succ, i64_w, i32_w]
        rfl
      refine one_ (i := 4) (N := some 46) #[true, true, true, true, true, false, true, false, false, true, true, false, false, false] rfl rfl (by kernel_rfl) (by decide) (fun K hK => ?_)
      refine goes_ Try.func30 (by kernel_rfl) rfl #[.int .u64 y, .int .i64 4] (by rfl) rfl rfl (by (try simp only [List.map_toArray, List.map_cons, List.map_nil]); first | done | rfl) ?_
      refine (fascicleref01_Num.calls K4 y 4 N4 _ hK4.out).mono ?_
      rintro e w7 ⟨rfl, h7⟩
      refine ⟨_, rfl, ?_⟩
      have h7 := hS6.out.below h7
      have hy7 : w7.cell? ⟨g3, 0, none⟩ = some (.slice A1 l1.length c1) := ((h7.pick1).cell 0).trans rfl
      have hz7 := hstA.out _ h7.1
      have hS7 := Aside0.mk h7
      clear h7
      refine hK.out _ _ ⟨hy7, hz7⟩ (fun hHeld => ?_)
      clear hK K
      refine norm_ (a' := ?_) ?_ ?_
      rotate_left
      · show Act.put _ (some 46) _ = _
        simp only [Act.put, List.setIfInBounds_toArray, List.set_cons_zero, List.set_cons_succ, i64_w, i32_w]
        rfl
      refine pure_ (i := 5) (N := some 47) (v := ?_) (a' := ?_) #[true, true, true, true, true, true, true, false, false, true, true, false, false, false] rfl rfl (by kernel_rfl) (fun _ _ _ h => h) (Or.inl ⟨by rfl, ?_⟩) ?_ ?_
      rotate_left
      · intro w'
        go_simp
        with_reducible rfl
      rotate_left
      · simp only [Act.put, List.setIfInBounds_toArray, List.set_cons_zero, List.set_cons_succ, i64_w, i32_w]
        rfl
      refine one_ (i := 7) (N := some 49) #[true, true, true, true, true, true, true, true, false, true, true, false, false, false] rfl rfl (by kernel_rfl) (by decide) (fun K hK => ?_)
      refine goes_ Try.func30 (by kernel_rfl) rfl #[.int .u64 y, .int .i64 8] (by rfl) rfl rfl (by (try simp only [List.map_toArray, List.map_cons, List.map_nil]); first | done | rfl) ?_
      refine (fascicleref01_Num.calls K8 y 8 N8 _ hK8.out).mono ?_
      rintro e w8 ⟨rfl, h8⟩
      refine ⟨_, rfl, ?_⟩
      have h8 := hS7.out.below h8
      have hy8 : w8.cell? ⟨g3, 0, none⟩ = some (.slice A1 l1.length c1) := ((h8.pick1).cell 0).trans rfl
      have hz8 := hstA.out _ h8.1
      have hS8 := Aside0.mk h8
      clear h8
      refine hK.out _ _ ⟨hy8, hz8⟩ (fun hHeld => ?_)
      clear hK K
      refine norm_ (a' := ?_) ?_ ?_
      rotate_left
      · show Act.put _ (some 49) _ = _
        simp only [Act.put, List.setIfInBounds_toArray, List.set_cons_zero, List.set_cons_succ, i64_w, i32_w]
        rfl
      refine pure_ (i := 8) (N := some 50) (v := ?_) (a' := ?_) #[true, true, true, true, true, true, true, true, true, true, true, false, false, false] rfl rfl (by kernel_rfl) (fun _ _ _ h => h) (Or.inl ⟨by rfl, ?_⟩) ?_ ?_
      rotate_left
      · intro w'
        go_simp
        with_reducible rfl
      rotate_left
      · simp only [Act.put, List.setIfInBounds_toArray, List.set_cons_zero, List.set_cons_succ, i64_w, i32_w]
        rfl
      refine pure_ (i := 11) (N := some 53) (v := ?_) (a' := ?_) #[true, true, true, true, true, true, true, true, true, true, true, true, false, false] rfl rfl (by kernel_rfl) (fun _ _ _ h => h) (Or.inl ⟨by rfl, ?_⟩) ?_ ?_
      rotate_left
      · intro w'
        go_simp
        with_reducible rfl
      rotate_left
      · simp only [Act.put, List.setIfInBounds_toArray, List.set_cons_zero, List.set_cons_succ, i64_w, i32_w]
        rfl
      refine pure_ (i := 12) (N := some 54) (v := ?_) (a' := ?_) #[true, true, true, true, true, true, true, true, true, true, true, true, true, false] rfl rfl (by kernel_rfl) (fun _ _ _ h => h) (Or.inl ⟨by rfl, ?_⟩) ?_ ?_
      rotate_left
      · intro w'
        go_simp
        with_reducible rfl
      rotate_left
      · simp only [Act.put, List.setIfInBounds_toArray, List.set_cons_zero, List.set_cons_succ, i64_w, i32_w]
        rfl
      refine pure_ (i := 13) (N := some 6) (v := ?_) (a' := ?_) #[true, true, true, true, true, true, true, true, true, true, true, true, true, true] rfl rfl (by kernel_rfl) (fun _ _ _ h => h) (Or.inl ⟨by rfl, ?_⟩) ?_ ?_
      rotate_left
      · intro w'
        go_simp
        with_reducible rfl
      rotate_left
      · simp only [Act.put, List.setIfInBounds_toArray, List.set_cons_zero, List.set_cons_succ, i64_w, i32_w]
        rfl
      refine done_ (by kernel_rfl) ?_
      go_wp2
      go_roundg k1
      case measure => omega
      case rel =>
        refine ⟨i + 1, ?_, by simp, ⟨by have := hA.out; omega⟩, ⟨?_⟩⟩
        · rw [← hcat.out]
        · have h9 := hS8.out
          rw [hm4.out] at h9
          rw [hitA.out]
          simp only [item, List.append_assoc] at h9 ⊢
          exact h9
    · have hil : i = l0.length := by have := hA.out; omega
      subst hil
      have hd : decide ((l0.length : Int) < (l0.length : Int)) = false := decide_eq_false (by omega)
      have hL : (items l1 l0).length ≤ 20520 := by have := hLt l0.length; rw [List.take_length] at this; exact this
      rw [List.take_length] at hS ⊢
      have hSa := Aside0.mk (hS.out.alloc #[.bool true] 4).pick1
      go_wp2_with (first | ((with_reducible refine gate_callee (f := 31) rfl ?_); refine goesL_ (some 57) rfl rfl Try.func31 (by kernel_rfl) rfl #[.pointer (some ⟨w1.heap.size, 0, none⟩)] rfl (by (try simp only [List.map_toArray, List.map_cons, List.map_nil]); first | done | rfl) ?_; (refine (buf_Bytes w _ w1.heap.size _ _ hSa.out (by omega)).mono ?_); rintro e w7 ⟨v7, rfl, h7⟩; refine ⟨_, rfl, ?_⟩; have hS7 := Aside0.mk h7; obtain ⟨bs7, hR7⟩ := h7.row_R; obtain ⟨A7, c7, e7⟩ := Kd.R_slice hR7; subst e7; have hR7 := Aside0.mk (Kd.R_reads' hR7); clear h7) | fail)
      have hS8 : Sep.Sep w w7 (bp g2 wr.heap.size g3 A0 A1 c0 c1 l0 l1 ++ [row (Kd.int .u8) 5 (.slice A7 (items l1 l0).length c7) (items l1 l0), buf w1.heap.size (items l1 l0)]) :=
        (hS7.out.perm (List.perm_append_comm (l₁ := [_, _]) (l₂ := [_, _, _]))).pick2
      refine (run_calls w _ A7 c7 (items l1 l0) 32 #[.pointer (some ⟨g2, 0, none⟩), .pointer (some ⟨wr.heap.size, 0, none⟩), .pointer (some ⟨g3, 0, none⟩)] _ _ (fun at2 x qs => at2 = (items l1 l0).length ∧ x = 0 ∧ qs = bp g2 wr.heap.size g3 A0 A1 c0 c1 l0 l1)
        hent hS8 hR7.out.2.2 hR7.out.2.1 (by omega) (fun w1 g ps' h1 => (clos_cback w w1 g g2 wr.heap.size g3 A0 A1 c0 c1 l0 l1 ps' h1 HR0.out HR1.out hb hU hle.1 hle.2).mono ?_)).mono ?_
      · rintro e w2 ⟨rfl, h2⟩
        exact ⟨(items l1 l0).length, 0, _, ⟨rfl, rfl, rfl⟩, h2, .inl ⟨rfl, rfl⟩⟩
      clear hS8 hSa
      rintro e w9 ⟨at2, x, qs, ⟨rfl, rfl, rfl⟩, rfl, h9⟩
      have hS9 : Sep.Sep w w9 (buf w1.heap.size (items l1 l0) :: (bp g2 wr.heap.size g3 A0 A1 c0 c1 l0 l1 ++ [row (Kd.int .u8) 5 (.slice A7 (items l1 l0).length c7) (items l1 l0)])) := h9.pick4
      have hS9 := Aside0.mk hS9
      have hc9_0 : w9.cell? ⟨wr.heap.size, 0, none⟩ = some (.bool true) := ((h9.pick1).cell 0).trans rfl
      have hzs : (strOfNums (items l1 l0)).size = (items l1 l0).length := nums_size _
      clear h9
      go_wp2_with (first | ((with_reducible refine gate_callee (f := 31) rfl ?_); (try (refine gate_guard (by rfl) ?_; dsimp only)); refine goesL_ (some 64) rfl rfl Try.func31 (by kernel_rfl) rfl #[.pointer (some ⟨w1.heap.size, 0, none⟩)] rfl (by (try simp only [List.map_toArray, List.map_cons, List.map_nil]); first | done | rfl) ?_; (refine (buf_Bytes w _ w1.heap.size _ _ hS9.out (by omega)).mono ?_); rintro e w10 ⟨v10, rfl, h10⟩; refine ⟨_, rfl, ?_⟩; have hS10 := Aside0.mk h10.tail; obtain ⟨bs10, hR10⟩ := h10.row_R; have hcv := own_string (P := Try.prog) Try.underlying22 Try.underlying5 Try.underlying9 (Kd.own_of_R hR10); clear h10) | ((with_reducible refine gate_callee (f := 37) rfl ?_); (try (refine gate_guard (by rfl) ?_; dsimp only)); refine goesL_ (some 70) rfl rfl Try.func37 (by kernel_rfl) rfl #[.pointer (some ⟨w1.heap.size, 0, none⟩)] rfl (by (try simp only [List.map_toArray, List.map_cons, List.map_nil]); first | done | rfl) ?_; (refine (buf_Len w _ w1.heap.size _ _ hS10.out).mono ?_); rintro e w11 ⟨rfl, h11⟩; refine ⟨_, rfl, ?_⟩; have hS11 := Aside0.mk h11; clear h11) | ((with_reducible refine gate_callee (f := 37) rfl ?_); (try (refine gate_guard (by rfl) ?_; dsimp only)); refine goesL_ (some 81) rfl rfl Try.func37 (by kernel_rfl) rfl #[.pointer (some ⟨w1.heap.size, 0, none⟩)] rfl (by (try simp only [List.map_toArray, List.map_cons, List.map_nil]); first | done | rfl) ?_; (refine (buf_Len w _ w1.heap.size _ _ hS11.out).mono ?_); rintro e w12 ⟨rfl, h12⟩; refine ⟨_, rfl, ?_⟩; have hS12 := Aside0.mk h12; clear h12))
      go_ret
      exact ⟨by first | rfl | simp, hS12.out.1⟩

end Go.Proofs.Ytmlodmpkcbncjaa.G
