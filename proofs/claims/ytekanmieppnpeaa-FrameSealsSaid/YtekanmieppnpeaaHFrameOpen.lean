/- frame.Open. -/
import Derived.Test.YtekanmieppnpeaaMRun
import Derived.Test.YtekanmieppnpeaaHFrameSeal
import Derived.Test.YtekanmieppnpeaaMCobs
set_option linter.unusedVariables false
set_option linter.unusedSimpArgs false
namespace Go.Proofs.Ytekanmieppnpeaa.G
open Go Go.RowKit Go.Proofs.YtekanmieppnpeaaW.PrintWords Go.Proofs.YtekanmieppnpeaaW.PrintLast Go.Proofs.YtekanmieppnpeaaW.PrintMore Go.Proofs.Ytekanmieppnpeaa.PureKit Go.Proofs.Ytekanmieppnpeaa.Sep Go.Proofs.Ytekanmieppnpeaa.Rol Go.Proofs.Ytekanmieppnpeaa.LCobs

theorem cut_full {P : Program} (t e : TypeId) (kh km : IntKind) {i : TypeInfo} (ht : P.underlying t = some (.slice e)) (hi : P.info? e = some i) (A : Option Addr) (n c : Nat) (j : Int) (h0 : 0 ≤ j) (hm : j ≤ n) (hc : n ≤ c) :
    ∀ W : World, (Instr.slice t (.slice A n c) none (some (.int kh j)) (some (.int km j))).run P W = .ok (.slice A j.toNat j.toNat) W := by
  intro W
  have hel : P.elem t = e := by simp [Program.elem, ht]
  have hu : P.underlying t = some (.slice (P.elem t)) := by rw [hel]; exact ht
  have ha : (A.map fun x => x.add 0) = A := by cases A <;> simp [Addr.add]
  rw [run_slice_hm W t A n c hu kh km j j h0 (by omega) (by omega), hel]
  simp [sizeOf, typeInfo, hi, sliced, Result.andThen, ha]

open Classical in
/-- Unstuffed, or what is wrong. -/
noncomputable def unst (b : List Int) : List Int × Int := if ¬ NoZ b then ([], 4) else if b = [] then ([], 2) else fin b (unl b.length [] b)
theorem unl_bytes : ∀ (d : Nat) (out rest o : List Int), Bytes out → Bytes rest → unl d out rest = some o → Bytes o ∧ o.length ≤ out.length + rest.length
  | 0, out, rest, o, h1, h2, e => by cases e; exact ⟨h1, by omega⟩
  | d + 1, out, [], o, h1, h2, e => by cases e; exact ⟨h1, by simp⟩
  | d + 1, out, n :: rest, o, h1, h2, e => by
    simp only [unl] at e
    split at e
    · cases e
    · have hz : Bytes (if n < 255 ∧ rest.drop (n.toNat - 1) ≠ [] then [0] else []) ∧ (if n < 255 ∧ rest.drop (n.toNat - 1) ≠ [] then [(0 : Int)] else []).length ≤ 1 := by
        split
        · exact ⟨Bytes.cons (by decide) Bytes.nil, by simp⟩
        · exact ⟨Bytes.nil, by simp⟩
      have := unl_bytes d _ _ o (fun x hx => by
        rcases List.mem_append.1 hx with hx | hx
        · rcases List.mem_append.1 hx with hx | hx
          · exact h1 x hx
          · exact h2.tail x (List.mem_of_mem_take hx)
        · exact hz.1 x hx) (h2.tail.drop _) e
      refine ⟨this.1, ?_⟩
      have h3 := this.2
      simp only [List.length_append, List.length_take, List.length_drop, List.length_cons] at h3 ⊢
      have := hz.2
      omega
theorem unst_facts (b : List Int) (hb : Bytes b) : Bytes (unst b).1 ∧ (unst b).1.length ≤ b.length ∧ ((unst b).2 = 0 → stf (unst b).1 [] = b) ∧ ((unst b).2 ≠ 0 → (unst b).1 = []) := by
  unfold unst
  split
  · exact ⟨Bytes.nil, by simp, (fun h => by cases h), fun _ => rfl⟩
  · split
    · exact ⟨Bytes.nil, by simp, (fun h => by cases h), fun _ => rfl⟩
    · rcases hu : unl b.length [] b with _ | o
      · exact ⟨Bytes.nil, by simp [fin], (fun h => by cases h), fun _ => rfl⟩
      · have := unl_bytes _ _ _ _ Bytes.nil hb hu
        unfold fin
        dsimp only
        split
        · rename_i he
          exact ⟨this.1, by simpa using this.2, fun _ => he, fun h => absurd rfl h⟩
        · exact ⟨Bytes.nil, by simp, (fun h => by cases h), fun _ => rfl⟩
theorem unst_stf (a : List Int) : unst (stf a []) = (a, 0) := by
  unfold unst
  rw [if_neg (by simpa using stf_nz a), if_neg (stf_ne _ _), unl_stf a [] [] _ (by simp) (Nat.le_refl _)]
  simp [fin]
/-- A chunk's body, or what is wrong. -/
noncomputable def opnb (l : List Int) : List Int × Int :=
  if (unst l).2 ≠ 0 then ([], (unst l).2) else if (unst l).1.length < 8 then ([], 2)
  else if lev ((unst l).1.drop ((unst l).1.length - 8)) ≠ ((wsum 0 ((unst l).1.take ((unst l).1.length - 8)) : Nat) : Int) then ([], 5) else ((unst l).1.take ((unst l).1.length - 8), 0)

set_option maxHeartbeats 4000000 in
theorem clos_told (w0 w : World) (g gx : Nat) (l : List Int) (ps : List HP) (hs : Sep.Sep w0 w (cur g l 0 true :: blk gx #[.int .u64 0] 30 :: ps)) (hb : Bytes l) (hl : l.length = 8) :
    Calls Try.prog 52 #[.pointer (some ⟨g, 0, none⟩), .pointer (some ⟨gx, 0, none⟩)] w fun e w2 =>
      ∃ (at2 : Nat) (x : Int) (qs : List HP), (x = 0 ∧ qs = [blk gx #[.int .u64 (lev l)] 30]) ∧ Sep.Sep w0 w2 (cur g l at2 true :: (qs ++ ps)) ∧ ((e = .returned (.tuple #[]) ∧ x = 0) ∨ e = .panicked [fault g x]) := by
  have hS := Aside0.mk hs
  clear hs
  go_enter Try.func52, Try.ntmps52
  go_wp2_with (fail)
  refine (cur_Eight_some w0 _ g 0 l _ hS.out hb (by omega) (by omega)).mono ?_
  rw [show (l.take (0 + 8)).drop 0 = l by rw [List.drop_zero, List.take_of_length_le (by omega)]]
  obtain ⟨z, hz⟩ : ∃ z, lev l = z := ⟨_, rfl⟩
  rw [hz]
  have hzA := Aside0.mk hz
  clear hz
  rintro e w2 ⟨rfl, h2⟩
  have hc2_0 : w2.cell? ⟨gx, 0, none⟩ = some (.int .u64 0) := ((h2.pick1).cell 0).trans rfl
  have hz2 := h2.pick1.frozen 0
  have hS2 : Sep.Sep w0 (w2.setCell ⟨gx, 0, none⟩ (.int .u64 z)) (cur g l (0 + 8) true :: blk gx #[.int .u64 z] 30 :: ps) := by
    have := (h2.pick1.set 0 (.int .u64 z)).put1
    simpa using this
  have hS2A := Aside0.mk hS2
  clear h2 hS2
  go_wp2
  go_end0
  exact ⟨0 + 8, 0, [blk gx #[.int .u64 z] 30], ⟨rfl, by rw [hzA.out]⟩, hS2A.out, .inl ⟨rfl, rfl⟩⟩

theorem finfo8 : (Try.prog.info? 5).map (fun i => (i.zero, i.size, i.bytes)) = some (some (.int .u8 0), 1, 1) := by kernel_rfl
set_option maxHeartbeats 8000000 in
set_option maxRecDepth 100000 in
theorem frame_open (w : World) (A : Option Addr) (c n : Nat) (l : List Int) (hn : n = l.length) (hC : Kd.C (Kd.int .u8) w A l.length l) (hc : l.length ≤ c) (hb : Bytes l) (hl : l.length ≤ 90000) :
    Calls Try.prog 19 #[.slice A n c] w fun e w' => ∃ (A2 : Option Addr) (c2 : Nat), e = .returned (.tuple #[.slice A2 (opnb l).1.length c2, .int .i64 (opnb l).2]) ∧ Kd.C (Kd.int .u8) w' A2 (opnb l).1.length (opnb l).1 ∧ (opnb l).1.length ≤ c2 ∧ Below w.heap.size w w' := by
  subst hn
  have hCA := Aside0.mk hC
  have hcA := Aside0.mk hc
  have hlA := Aside0.mk hl
  obtain ⟨k, hk⟩ := (unstuff_f l hb (by omega)).rounds
  have hk : cobs_Unstuff.f k l = some (unst l) := hk
  obtain ⟨hub, hul, hu0, hu1⟩ := unst_facts l hb
  obtain ⟨r1, r2, hu⟩ : ∃ r1 r2, unst l = (r1, r2) := ⟨_, _, rfl⟩
  have ho : opnb l = if r2 ≠ 0 then ([], r2) else if r1.length < 8 then ([], 2) else if lev (r1.drop (r1.length - 8)) ≠ ((wsum 0 (r1.take (r1.length - 8)) : Nat) : Int) then ([], 5) else (r1.take (r1.length - 8), 0) := by unfold opnb; rw [hu]
  rw [hu] at hk hub hul hu0 hu1
  have hkA := Aside0.mk hk
  have hoA := Aside0.mk ho
  have hulA := Aside0.mk hul
  have hmf : ∀ (fn : Fn) (first cap : Array Value) (w : World), (Instr.makeFunc fn first cap).run Try.prog w = .ok (.func fn first cap) w := fun _ _ _ _ => rfl
  clear hC hc hl hk ho hul hu hu0 hu1
  go_enter Try.func19, Try.ntmps19
  go_wp2_with (fail)
  refine (cobs_Unstuff.calls k (fun k_ => k_ < w.heap.size) A c l r1 r2 _ (Kd.V_mk hcA.out (Kd.C_F (Kd.heap_int .u8) hCA.out)) hkA.out).mono ?_
  rintro e w1 ⟨v1, rfl, ho1, hb1⟩
  have hS1 := Aside0.mk (Sep.row_new (Sep.start w) hb1 ho1)
  obtain ⟨A1, c1, rfl⟩ := Kd.R_slice ho1
  have hr1 := Aside0.mk (Kd.R_reads' ho1)
  clear ho1 hb1
  by_cases c0 : r2 = 0
  · subst c0
    by_cases c8 : r1.length < 8
    · have hd8 : decide (wrap64 ((r1.length : Int) - 8) < 0) = true := decide_eq_true (by rw [w64 (by omega) (by omega)]; omega)
      have hd8' : decide ((r1.length : Int) - 8 < 0) = true := decide_eq_true (by omega)
      go_wp2_with (fail)
      go_ret2
      rw [hoA.out, if_neg (by simp), if_pos c8]
      exact ⟨none, 0, rfl, Kd.C_nil _ _, Nat.le_refl _, hS1.out.1⟩
    · have hw8 : wrap64 ((r1.length : Int) - 8) = (r1.length : Int) - 8 := w64 (by omega) (by have := hulA.out; have := hlA.out; omega)
      have hd8 : decide ((r1.length : Int) - 8 < 0) = false := decide_eq_false (by omega)
      obtain ⟨i0, hi0, _, hsz, _⟩ := info_parts finfo8
      obtain ⟨m, hm⟩ : ∃ m : Nat, r1.length = m + 8 := ⟨r1.length - 8, by omega⟩
      have hmi : (r1.length : Int) - 8 = (m : Int) := by omega
      have hcut := cut_from (P := Try.prog) 39 5 .i64 Try.underlying39 hi0 1 hsz A1 r1.length c1 (m : Int) (by omega) (by omega)
      obtain ⟨A4, hA4⟩ : ∃ A4, A4 = (if c1 = m then A1 else A1.map (·.add (m * 1))) := ⟨_, rfl⟩
      rw [Int.toNat_natCast, ← hA4] at hcut
      have hC4 : Aside0 (∀ W, Kd.C (Kd.int .u8) W A1 r1.length r1 → Kd.C (Kd.int .u8) W A4 (r1.drop m).length (r1.drop m)) := ⟨fun W h => by
        rw [hA4]
        exact Kd.C_drop (m := m) (c := c1) h (by omega) hr1.out.2.1⟩
      have hcutT := cut_to (P := Try.prog) 39 5 .i64 Try.underlying39 hi0 A1 r1.length c1 (m : Int) (by omega) (by omega) hr1.out.2.1
      have hcutF := cut_full (P := Try.prog) 39 5 .i64 .i64 Try.underlying39 hi0 A1 r1.length c1 (m : Int) (by omega) (by omega) hr1.out.2.1
      rw [Int.toNat_natCast] at hcutT hcutF
      have hdl : (r1.drop m).length = 8 := by rw [List.length_drop]; omega
      have htl : (r1.take m).length = m := by rw [List.length_take]; omega
      have hm2 : r1.length - 8 = m := by omega
      have hm3 : r1.length - m = 8 := by omega
      have hmA := Aside0.mk hm
      have hdlA := Aside0.mk hdl
      have htlA := Aside0.mk htl
      have ho2 : Aside0 (opnb l = if lev (r1.drop m) ≠ ((wsum 0 (r1.take m) : Nat) : Int) then ([], 5) else (r1.take m, 0)) := ⟨by rw [hoA.out, if_neg (by simp), if_neg c8, hm2]⟩
      have hmle : m ≤ 90000 := by have := hulA.out; have := hlA.out; omega
      have hsl := wsum_lt 0 (r1.take m)
      have hm3A := Aside0.mk hm3
      clear hA4 hdl htl hm hoA hm2 hm3
      go_wp2_with (fail)
      have hrun := run_calls w _ A4 (c1 - m) (r1.drop m) 52 #[.pointer (some ⟨w1.heap.size, 0, none⟩)] [blk w1.heap.size #[.int .u64 0] 30] [row (Kd.int .u8) 5 (.slice A1 r1.length c1) r1] (fun at2 x qs => x = 0 ∧ qs = [blk w1.heap.size #[.int .u64 (lev (r1.drop m))] 30])
        Try.call52 (hS1.out.alloc #[.int .u64 0] 30) (hC4.out _ (Kd.C_alloc hr1.out.2.2 _)) (by rw [hdlA.out]; have := hr1.out.2.1; omega) (by rw [hdlA.out]; decide) (fun wq g ps' h => clos_told w wq g w1.heap.size (r1.drop m) ps' h (hub.drop m) hdlA.out)
      rw [show (r1.drop m).length = r1.length - m from List.length_drop] at hrun
      obtain ⟨z, hz⟩ : ∃ z, lev (r1.drop m) = z := ⟨_, rfl⟩
      rw [hz] at hrun ho2
      obtain ⟨y, hy⟩ : ∃ y, wsum 0 (r1.take m) = y := ⟨_, rfl⟩
      have hyA := Aside0.mk hy
      rw [hy] at ho2 hsl
      clear hz hy
      refine hrun.mono ?_
      clear hrun
      rintro e w2 ⟨at2, x, qs, ⟨rfl, rfl⟩, rfl, h2⟩
      have hS2 := Aside0.mk h2
      clear h2
      go_wp2_with (fail)
      have hc0 : w2.drew.cell? ⟨w1.heap.size, 0, none⟩ = some (.int .u64 z) := (hS2.out.drew.cell 0).trans rfl
      refine start_ (n := 6) (S := fun w' => w'.cell? ⟨w1.heap.size, 0, none⟩ = some (.int .u64 z)) (ds := []) #[false, false, false, false, false, false] (by kernel_rfl) rfl rfl (hc0) (fun hHeld => ?_)
      refine pure_ (i := 1) (N := some 27) (v := ?_) (a' := ?_) #[false, true, false, false, false, false] rfl rfl (by kernel_rfl) (fun _ _ _ h => h) (Or.inl ⟨by rfl, ?_⟩) ?_ ?_
      rotate_left
      · intro w'
        go_simp
        with_reducible rfl
      rotate_left
      · simp only [Act.put, List.setIfInBounds_toArray, List.set_cons_zero, List.set_cons_succ, i64_w, i32_w]
        rfl
      refine pure_ (i := 2) (N := some 28) (v := ?_) (a' := ?_) #[false, true, true, false, false, false] rfl rfl (by kernel_rfl) (fun _ _ _ h => h) (Or.inl ⟨by rfl, ?_⟩) ?_ ?_
      rotate_left
      · intro w'
        go_simp
        with_reducible rfl
      rotate_left
      · simp only [Act.put, List.setIfInBounds_toArray, List.set_cons_zero, List.set_cons_succ, i64_w, i32_w]
        rfl
      refine pure_ (i := 3) (N := some 29) (v := ?_) (a' := ?_) #[false, true, true, true, false, false] rfl rfl (by kernel_rfl) (fun _ _ _ h => h) (Or.inl ⟨by rfl, ?_⟩) ?_ ?_
      rotate_left
      · intro w'
        go_simp
        with_reducible rfl
      rotate_left
      · simp only [Act.put, List.setIfInBounds_toArray, List.set_cons_zero, List.set_cons_succ, i64_w, i32_w]
        rfl
      refine take_ (i := 0) (N := some 26) (v := ?_) (a' := ?_) #[true, true, true, true, false, false] rfl rfl (by kernel_rfl) (fun _ _ _ h => h) (Or.inl ⟨by rfl, ?_⟩) hHeld ?_ ?_
      rotate_left
      · intro w' s0
        go_simp
        with_reducible rfl
      rotate_left
      · simp only [Act.put, List.setIfInBounds_toArray, List.set_cons_zero, List.set_cons_succ, i64_w, i32_w]
        rfl
      refine one_ (i := 4) (N := some 30) #[true, true, true, true, true, false] rfl rfl (by kernel_rfl) (by decide) (fun K hK => ?_)
      refine goes_ Try.func54 (by kernel_rfl) rfl #[.int .u64 0, .slice A1 m c1] (by rfl) rfl rfl (by (try simp only [List.map_toArray, List.map_cons, List.map_nil]); first | done | rfl) ?_
      have hCt := Kd.C_take (m := m) (Kd.R_reads' hS2.out.drew.tail.row_R.choose_spec).2.2 (by have := hmA.out; omega)
      have hws := wide_Sum_calls w2.drew A1 c1 (r1.take m) 0 _ rfl hCt (by rw [htlA.out]; have := hr1.out.2.1; have := hmA.out; omega) (hub.take m) (by decide) (by rw [htlA.out]; omega)
      rw [htlA.out, hyA.out] at hws
      refine hws.mono ?_
      clear hws hCt
      rintro e w3 ⟨rfl, hb3⟩
      refine ⟨_, rfl, ?_⟩
      have hS3 := Aside0.mk (hS2.out.drew.below hb3)
      clear hb3
      refine hK.out _ _ ((hS3.out.cell 0).trans rfl) (fun hHeld => ?_)
      clear hK K
      refine norm_ (a' := ?_) ?_ ?_
      rotate_left
      · show Act.put _ (some 30) _ = _
        simp only [Act.put, List.setIfInBounds_toArray, List.set_cons_zero, List.set_cons_succ, i64_w, i32_w]
        rfl
      refine pure_ (i := 5) (N := some 31) (v := ?_) (a' := ?_) #[true, true, true, true, true, true] rfl rfl (by kernel_rfl) (fun _ _ _ h => h) (Or.inl ⟨by rfl, ?_⟩) ?_ ?_
      rotate_left
      · intro w'
        go_simp
        with_reducible rfl
      rotate_left
      · simp only [Act.put, List.setIfInBounds_toArray, List.set_cons_zero, List.set_cons_succ, i64_w, i32_w]
        rfl
      refine done_ (by kernel_rfl) ?_
      by_cases hzy : z = (y : Int)
      · have hne : (z != (y : Int)) = false := by rw [hzy]; simp
        have hne2 : decide (z ≠ (y : Int)) = false := decide_eq_false (by simpa using hzy)
        go_wp2_with (fail)
        go_ret2
        rw [ho2.out, if_neg (by simpa using hzy)]
        refine ⟨A1, m, by rw [htlA.out]; rfl, ?_, by rw [htlA.out]; exact Nat.le_refl _, hS3.out.1⟩
        exact Kd.C_take (m := m) (Kd.R_reads' hS3.out.tail.row_R.choose_spec).2.2 (by have := hmA.out; omega)
      · have hne : (z != (y : Int)) = true := bne_iff_ne.2 hzy
        have hne2 : decide (z ≠ (y : Int)) = true := decide_eq_true hzy
        go_wp2_with (fail)
        go_ret2
        rw [ho2.out, if_pos hzy]
        exact ⟨none, 0, rfl, Kd.C_nil _ _, Nat.le_refl _, hS3.out.1⟩
  · have hx : (r2 != 0) = true := bne_iff_ne.2 c0
    have hx2 : decide (r2 ≠ 0) = true := decide_eq_true c0
    go_wp2_with (fail)
    go_ret2
    rw [hoA.out, if_pos c0]
    exact ⟨none, 0, rfl, Kd.C_nil _ _, Nat.le_refl _, hS1.out.1⟩

end Go.Proofs.Ytekanmieppnpeaa.G
