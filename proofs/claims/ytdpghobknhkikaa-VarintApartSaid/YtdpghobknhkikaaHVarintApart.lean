/- fasciclelaw02.VarintApart, walked. -/
import Derived.Test.YtdpghobknhkikaaHLives02
set_option linter.unusedVariables false
set_option linter.unusedSimpArgs false
namespace Go.Proofs.Ytdpghobknhkikaa.G
open Go Go.RowKit Go.Proofs.YtdpghobknhkikaaW.PrintWords Go.Proofs.YtdpghobknhkikaaW.PrintLast Go.Proofs.YtdpghobknhkikaaW.PrintMore Go.Proofs.Ytdpghobknhkikaa.PureKit Go.Proofs.Ytdpghobknhkikaa.Sep

def vencs (l : List Int) : List Int := l.flatMap fun x => venc x.toNat
def U64s (l : List Int) : Prop := ∀ x ∈ l, 0 ≤ x ∧ x < 18446744073709551616
theorem rot3 (a b c : HP) : [a, b, c].Perm [c, a, b] := List.perm_append_comm (l₁ := [a, b]) (l₂ := [c])
theorem int_beq (a b : Nat) : ((a : Int) == (b : Int)) = decide (a = b) := by
  by_cases h : a = b
  · simp [h]
  · rw [decide_eq_false h]; exact beq_eq_false_iff_ne.2 (by omega)
theorem vencs_len : ∀ (l : List Int), l.length ≤ 20 → (∀ x ∈ l, 0 ≤ x ∧ x < 18446744073709551616) → (vencs l).length ≤ 10 * l.length
  | [], _, _ => by simp [vencs]
  | x :: xs, hl, h => by
    have h1 := venc_len 10 x.toNat (Nat.lt_of_lt_of_le (show x.toNat < 18446744073709551616 by have := h x List.mem_cons_self; omega) (by decide)) (by decide)
    have h2 := vencs_len xs (by rw [List.length_cons] at hl; omega) (fun y hy => h y (List.mem_cons_of_mem _ hy))
    simp only [vencs, List.flatMap_cons, List.length_append, List.length_cons] at h2 ⊢
    omega
theorem venc_split : ∀ (N x y : Nat) (a b : List Int), x ≤ N → venc x ++ a = venc y ++ b → x = y ∧ a = b := by
  intro N
  induction N using Nat.strongRecOn with
  | _ N ih =>
  intro x y a b hx h
  by_cases h1 : x < 128
  · by_cases h2 : y < 128
    · rw [venc_small h1, venc_small h2] at h
      simp only [List.cons_append, List.nil_append, List.cons.injEq] at h
      exact ⟨by omega, h.2⟩
    · rw [venc_small h1, venc_big h2] at h
      simp only [List.cons_append, List.cons.injEq] at h
      omega
  · by_cases h2 : y < 128
    · rw [venc_big h1, venc_small h2] at h
      simp only [List.cons_append, List.cons.injEq] at h
      omega
    · rw [venc_big h1, venc_big h2] at h
      simp only [List.cons_append, List.cons.injEq] at h
      have := ih (x / 128) (by omega) (x / 128) (y / 128) a b (Nat.le_refl _) h.2
      exact ⟨by omega, this.2⟩
theorem venc_ne (x : Nat) : venc x ≠ [] := by
  by_cases h : x < 128
  · rw [venc_small h]; simp
  · rw [venc_big h]; simp
theorem vencs_inj : ∀ (l m : List Int), U64s l → U64s m → vencs l = vencs m → l = m
  | [], [], _, _, _ => rfl
  | [], y :: m, _, _, h => by
    simp only [vencs, List.flatMap_nil, List.flatMap_cons] at h
    exact absurd (List.append_eq_nil_iff.1 h.symm).1 (venc_ne _)
  | x :: l, [], _, _, h => by
    simp only [vencs, List.flatMap_nil, List.flatMap_cons] at h
    exact absurd (List.append_eq_nil_iff.1 h).1 (venc_ne _)
  | x :: l, y :: m, hl, hm, h => by
    simp only [vencs, List.flatMap_cons] at h
    obtain ⟨h1, h2⟩ := venc_split x.toNat x.toNat y.toNat _ _ (Nat.le_refl _) h
    have hx := hl x List.mem_cons_self
    have hy := hm y List.mem_cons_self
    rw [show x = y by omega, vencs_inj l m (fun z hz => hl z (List.mem_cons_of_mem _ hz)) (fun z hz => hm z (List.mem_cons_of_mem _ hz)) h2]
theorem venc_bytes : ∀ (N x : Nat), x ≤ N → Bytes (venc x) := by
  intro N
  induction N using Nat.strongRecOn with
  | _ N ih =>
  intro x hx
  by_cases h : x < 128
  · rw [venc_small h]; exact Bytes.cons (by omega) Bytes.nil
  · rw [venc_big h]; exact Bytes.cons (by omega) (ih (x / 128) (by omega) (x / 128) (Nat.le_refl _))
theorem vencs_bytes : ∀ (l : List Int), Bytes (vencs l)
  | [] => Bytes.nil
  | x :: l => by
    simp only [vencs, List.flatMap_cons]
    exact (venc_bytes _ _ (Nat.le_refl _)).append (vencs_bytes l)
theorem vencs_eq (l m : List Int) (hl : U64s l) (hm : U64s m) : ((strOfNums (vencs l)).toList == (strOfNums (vencs m)).toList) = decide (l = m) := by
  rw [nums_beq (vencs_bytes l) (vencs_bytes m)]
  by_cases h : l = m
  · rw [h]; simp
  · rw [decide_eq_false h, decide_eq_false (fun e => h (vencs_inj l m hl hm e))]
open Classical in
noncomputable def fasciclelaw02_VarintApart.f (l0 l1 : List Int) : Option Bool := if U64s l0 ∧ U64s l1 then some true else none
def fasciclelaw02_VarintApart.Pure : Prop := ∀ (l0 : List Int) (l1 : List Int), l0.length ≤ maxLen → l0.length * 8 ≤ 140737488351232 → (∀ y ∈ l0, ((Lit.int .u64 y).wf = true)) → l1.length ≤ maxLen → l1.length * 8 ≤ 140737488351232 → (∀ y ∈ l1, ((Lit.int .u64 y).wf = true)) → fasciclelaw02_VarintApart.f l0 l1 = some true

set_option maxHeartbeats 4000000 in
set_option maxRecDepth 100000 in
theorem fasciclelaw02_VarintApart.calls (A0 : Option Addr) (c0 : Nat) (l0 : List Int) (A1 : Option Addr) (c1 : Nat) (l1 : List Int) (r : Bool) (w : World) (hr0 : Kd.C (Kd.int .u64) w A0 l0.length l0) (hc0 : l0.length ≤ c0) (hr1 : Kd.C (Kd.int .u64) w A1 l1.length l1) (hc1 : l1.length ≤ c1) (h : fasciclelaw02_VarintApart.f l0 l1 = some r) :
    Calls Try.prog 5 #[.slice A0 l0.length c0, .slice A1 l1.length c1] w fun e w' => e = .returned (.bool r) ∧ Below w.heap.size w w' := by
  obtain ⟨hU, rfl⟩ : (U64s l0 ∧ U64s l1) ∧ r = true := by
    unfold fasciclelaw02_VarintApart.f at h
    split at h
    · exact ⟨by assumption, (Option.some.inj h).symm⟩
    · cases h
  have HR0 := Aside0.mk hr0
  have HR1 := Aside0.mk hr1
  clear h hr0 hr1
  have HB := Aside0.mk (Below.refl w.heap.size w)
  by_cases hbig : ¬ (l0.length ≤ 20 ∧ l1.length ≤ 20)
  · go_enter Try.func5, Try.ntmps5
    by_cases h0 : (l0.length : Int) > 20
    · have h0b : decide ((l0.length : Int) > 20) = true := decide_eq_true h0
      go_wp2_with (first | ((with_reducible refine gate_callee (f := 22) rfl ?_); refine goesL_ (some 12) rfl rfl Try.func22 (by kernel_rfl) rfl #[] rfl (by (try simp only [List.map_toArray, List.map_cons, List.map_nil]); first | done | rfl) ?_; (with_reducible refine (fasciclelaw02_lives.calls true _ rfl).mono ?_); rintro e w1 ⟨rfl, h1⟩; refine ⟨_, rfl, ?_⟩; have hB1 := Aside0.mk (below_step HB.out h1); clear h1) | ((with_reducible refine gate_callee (f := 22) rfl ?_); refine goesL_ (some 24) rfl rfl Try.func22 (by kernel_rfl) rfl #[] rfl (by (try simp only [List.map_toArray, List.map_cons, List.map_nil]); first | done | rfl) ?_; (with_reducible refine (fasciclelaw02_lives.calls true _ rfl).mono ?_); rintro e w1 ⟨rfl, h1⟩; refine ⟨_, rfl, ?_⟩; have hB2 := Aside0.mk (below_step hB1.out h1); clear h1))
      go_ret
      exact ⟨rfl, hB2.out⟩
    · have h0b : decide ((l0.length : Int) > 20) = false := decide_eq_false h0
      have h1b : decide ((l1.length : Int) > 20) = true := decide_eq_true (by omega)
      go_wp2_with (first | ((with_reducible refine gate_callee (f := 22) rfl ?_); refine goesL_ (some 12) rfl rfl Try.func22 (by kernel_rfl) rfl #[] rfl (by (try simp only [List.map_toArray, List.map_cons, List.map_nil]); first | done | rfl) ?_; (with_reducible refine (fasciclelaw02_lives.calls true _ rfl).mono ?_); rintro e w1 ⟨rfl, h1⟩; refine ⟨_, rfl, ?_⟩; have hB1 := Aside0.mk (below_step HB.out h1); clear h1) | ((with_reducible refine gate_callee (f := 22) rfl ?_); refine goesL_ (some 24) rfl rfl Try.func22 (by kernel_rfl) rfl #[] rfl (by (try simp only [List.map_toArray, List.map_cons, List.map_nil]); first | done | rfl) ?_; (with_reducible refine (fasciclelaw02_lives.calls true _ rfl).mono ?_); rintro e w1 ⟨rfl, h1⟩; refine ⟨_, rfl, ?_⟩; have hB2 := Aside0.mk (below_step hB1.out h1); clear h1))
      go_ret
      exact ⟨rfl, hB2.out⟩
  · have h0b : decide ((l0.length : Int) > 20) = false := decide_eq_false (by omega)
    have h1b : decide ((l1.length : Int) > 20) = false := decide_eq_false (by omega)
    go_enter Try.func5, Try.ntmps5
    go_wp2_with (first | ((with_reducible refine gate_callee (f := 22) rfl ?_); refine goesL_ (some 12) rfl rfl Try.func22 (by kernel_rfl) rfl #[] rfl (by (try simp only [List.map_toArray, List.map_cons, List.map_nil]); first | done | rfl) ?_; (with_reducible refine (fasciclelaw02_lives.calls true _ rfl).mono ?_); rintro e w1 ⟨rfl, h1⟩; refine ⟨_, rfl, ?_⟩; have hB1 := Aside0.mk (below_step HB.out h1); clear h1))
    have hsz : (w1.alloc (.cells #[.slice none 0 0] 43 (0, 0))).heap.size = w1.heap.size + 1 := by show (w1.heap.push _).size = _; simp
    have hS := (((Sep.start w).below hB1.out).buf_new).buf_new
    rw [hsz] at hS
    have hS := Aside0.mk hS
    have hxl0 : ∀ i, (vencs (l0.take i)).length ≤ 200 := fun i => by
      have h1 := List.length_take_le i l0
      have h2 := vencs_len (l0.take i) (by have := List.length_take_le' i l0; omega) (fun x hx => hU.1 x (List.mem_of_mem_take hx))
      have h3 := List.length_take_le' i l0
      omega
    go_loopg [7, 32] l0.length (fun kq v7 v32 w' => ∃ (i : Nat), v32 = .int .i64 i ∧ v7 = .bool (decide (l0.length = l1.length ∧ l0.take i = l1.take i)) ∧ Aside0 (i + kq = l0.length) ∧ Aside0 (Sep w w' [buf (w1.heap.size + 1) [], buf w1.heap.size (vencs (l0.take i))]))
    case atStart => exact ⟨0, rfl, by simp [int_beq], ⟨Nat.zero_add _⟩, by simpa [vencs] using hS⟩
    case round =>
      obtain ⟨i, rfl, rfl, hA, hS⟩ := hrel
      by_cases hin : i < l0.length
      · have hd : decide ((i : Int) < (l0.length : Int)) = true := decide_eq_true (by omega)
        obtain ⟨k1, rfl⟩ : ∃ k1, gk = k1 + 1 := ⟨gk - 1, by have := hA.out; omega⟩
        have hC0 := Kd.C_below HR0.out hS.out.1
        have hC1 := Kd.C_below HR1.out hS.out.1
        obtain ⟨ad0, e0, hx0⟩ := Kd.at_int hC0 (i : Int) (by omega) (by omega)
        cases e0
        simp only [Int.toNat_natCast] at hx0
        rw [rd_at l0 i hin] at hx0
        have hUx := hU.1 l0[i] (List.getElem_mem hin)
        obtain ⟨y, hy⟩ : ∃ y, l0[i] = y := ⟨_, rfl⟩
        rw [hy] at hx0 hUx
        have hy := Aside0.mk hy
        have hxn := Aside0.mk (show y = (y.toNat : Int) by omega)
        have hx64 : y.toNat < 18446744073709551616 := by omega
        have hxl : (vencs (l0.take i)).length ≤ 100000000000 := by have := hxl0 i; omega
        have hS2 := Aside0.mk (hS.out.perm (List.Perm.swap _ _ _))
        have p0 : ((0 : Int) ≤ (i : Int)) = True := eq_true (by omega)
        have q0 : ((i : Int) < (l0.length : Int)) = True := eq_true (by omega)
        by_cases hb : l0.length = l1.length ∧ l0.take i = l1.take i
        · have hb' := decide_eq_true hb
          have hi1 : i < l1.length := by omega
          have hbb := Aside0.mk hb
          clear hb
          have hb := hbb
          clear hbb
          obtain ⟨ad1, e1, hx1⟩ := Kd.at_int hC1 (i : Int) (by omega) (by omega)
          cases e1
          simp only [Int.toNat_natCast] at hx1
          rw [rd_at l1 i hi1] at hx1
          obtain ⟨z, hz⟩ : ∃ z, l1[i] = z := ⟨_, rfl⟩
          rw [hz] at hx1
          have hz := Aside0.mk hz
          have q1 : ((i : Int) < (l1.length : Int)) = True := eq_true (by omega)
          go_wp2_with (first | ((with_reducible refine gate_callee (f := 23) rfl ?_); refine goesL_ (some 38) rfl rfl Try.func23 (by kernel_rfl) rfl #[.pointer (some ⟨w1.heap.size, 0, none⟩), .int .u64 y] rfl (by (try simp only [List.map_toArray, List.map_cons, List.map_nil]); first | done | rfl) ?_; (with_reducible refine (varint_Put w _ w1.heap.size (vencs (l0.take i)) [buf (w1.heap.size + 1) []] y.toNat y hxn.out hS2.out hx64 hxl).mono ?_); rintro e w2 ⟨rfl, h1⟩; refine ⟨_, rfl, ?_⟩; have hS3 := Aside0.mk h1; clear h1; clear hx1; obtain ⟨ad1_, e1_, hx1⟩ := Kd.at_int (Kd.C_below HR1.out hS3.out.1) (i : Int) (by omega) (by omega); cases e1_; simp only [Int.toNat_natCast] at hx1; rw [rd_at l1 i hi1, hz.out] at hx1))
          go_roundg k1
          case measure => omega
          case rel =>
            refine ⟨i + 1, by simp, congrArg Value.bool ?_, ⟨by have := hA.out; omega⟩, ⟨?_⟩⟩
            · have t0 := List.take_succ_eq_append_getElem hin
              rw [hy.out] at t0
              have t1 := List.take_succ_eq_append_getElem hi1
              rw [hz.out] at t1
              rw [t0, t1, hb.out.2, hb.out.1]
              by_cases hyz : y = z
              · subst hyz; simp
              · rw [beq_eq_false_iff_ne.2 hyz, decide_eq_false (by simp [hyz])]
            · have t0 := List.take_succ_eq_append_getElem hin
              rw [hy.out] at t0
              have hv : vencs (l0.take (i + 1)) = vencs (l0.take i) ++ venc y.toNat := by rw [t0]; simp [vencs]
              rw [hv]
              exact hS3.out.perm (List.Perm.swap _ _ _)
        · have hb' := decide_eq_false hb
          go_wp2_with (first | ((with_reducible refine gate_callee (f := 23) rfl ?_); refine goesL_ (some 38) rfl rfl Try.func23 (by kernel_rfl) rfl #[.pointer (some ⟨w1.heap.size, 0, none⟩), .int .u64 y] rfl (by (try simp only [List.map_toArray, List.map_cons, List.map_nil]); first | done | rfl) ?_; (with_reducible refine (varint_Put w _ w1.heap.size (vencs (l0.take i)) [buf (w1.heap.size + 1) []] y.toNat y hxn.out hS2.out hx64 hxl).mono ?_); rintro e w2 ⟨rfl, h1⟩; refine ⟨_, rfl, ?_⟩; have hS3 := Aside0.mk h1; clear h1))
          go_roundg k1
          case measure => omega
          case rel =>
            refine ⟨i + 1, by simp, congrArg Value.bool ?_, ⟨by have := hA.out; omega⟩, ⟨?_⟩⟩
            · have t0 := List.take_succ_eq_append_getElem hin
              rw [hy.out] at t0
              rw [decide_eq_false]
              rintro ⟨hl, ht⟩
              exact hb ⟨hl, by have := congrArg (List.take i) ht; simpa [List.take_take, Nat.min_eq_left (Nat.le_succ i)] using this⟩
            · have t0 := List.take_succ_eq_append_getElem hin
              rw [hy.out] at t0
              have hv : vencs (l0.take (i + 1)) = vencs (l0.take i) ++ venc y.toNat := by rw [t0]; simp [vencs]
              rw [hv]
              exact hS3.out.perm (List.Perm.swap _ _ _)
      · have hil : i = l0.length := by have := hA.out; omega
        subst hil
        have hd : decide ((l0.length : Int) < (l0.length : Int)) = false := decide_eq_false (by omega)
        have hb7 : decide (l0.length = l1.length ∧ l0.take l0.length = l1.take l0.length) = decide (l0 = l1) := by
          by_cases h : l0 = l1
          · subst h; simp
          · rw [decide_eq_false h, decide_eq_false]
            rintro ⟨hl, ht⟩
            rw [List.take_length, hl, List.take_length] at ht
            exact h ht
        rw [hb7]
        rw [List.take_length] at hS
        generalize hbq : decide (l0 = l1) = bq
        have hbq := Aside0.mk hbq
        clear hb7 hxl0
        go_wp2
        go_loopg [51] l1.length (fun kq v51 w' => ∃ (j : Nat), v51 = .int .i64 j ∧ Aside0 (j + kq = l1.length) ∧ Aside0 (Sep w w' [buf (w1.heap.size + 1) (vencs (l1.take j)), buf w1.heap.size (vencs l0)]))
        case atStart => exact ⟨0, rfl, ⟨Nat.zero_add _⟩, by simpa [vencs] using hS⟩
        case round =>
          obtain ⟨j, rfl, hA, hS⟩ := hrel
          have hxl1 : ∀ j, (vencs (l1.take j)).length ≤ 200 := fun j => by
            have h1 := List.length_take_le j l1
            have h2 := vencs_len (l1.take j) (by have := List.length_take_le' j l1; omega) (fun x hx => hU.2 x (List.mem_of_mem_take hx))
            have h3 := List.length_take_le' j l1
            omega
          have hxl := hxl1 j
          by_cases hjn : j < l1.length
          · have hd : decide ((j : Int) < (l1.length : Int)) = true := decide_eq_true (by omega)
            obtain ⟨k1, rfl⟩ : ∃ k1, gk = k1 + 1 := ⟨gk - 1, by have := hA.out; omega⟩
            have hC1 := Kd.C_below HR1.out hS.out.1
            obtain ⟨ad1, e1, hx1⟩ := Kd.at_int hC1 (j : Int) (by omega) (by omega)
            cases e1
            simp only [Int.toNat_natCast] at hx1
            rw [rd_at l1 j hjn] at hx1
            have hUx := hU.2 l1[j] (List.getElem_mem hjn)
            obtain ⟨y, hy⟩ : ∃ y, l1[j] = y := ⟨_, rfl⟩
            rw [hy] at hx1 hUx
            have hy := Aside0.mk hy
            have hxn := Aside0.mk (show y = (y.toNat : Int) by omega)
            have hx64 : y.toNat < 18446744073709551616 := by omega
            have hxl : (vencs (l1.take j)).length ≤ 100000000000 := by omega
            have p0 : ((0 : Int) ≤ (j : Int)) = True := eq_true (by omega)
            have q0 : ((j : Int) < (l1.length : Int)) = True := eq_true (by omega)
            go_wp2_with (first | ((with_reducible refine gate_callee (f := 23) rfl ?_); refine goesL_ (some 56) rfl rfl Try.func23 (by kernel_rfl) rfl #[.pointer (some ⟨w1.heap.size + 1, 0, none⟩), .int .u64 y] rfl (by (try simp only [List.map_toArray, List.map_cons, List.map_nil]); first | done | rfl) ?_; (with_reducible refine (varint_Put w _ (w1.heap.size + 1) (vencs (l1.take j)) [buf w1.heap.size (vencs l0)] y.toNat y hxn.out hS.out hx64 hxl).mono ?_); rintro e w2 ⟨rfl, h1⟩; refine ⟨_, rfl, ?_⟩; have hS3 := Aside0.mk h1; clear h1))
            go_roundg k1
            case measure => omega
            case rel =>
              refine ⟨j + 1, by simp, ⟨by have := hA.out; omega⟩, ⟨?_⟩⟩
              have t0 := List.take_succ_eq_append_getElem hjn
              rw [hy.out] at t0
              have hv : vencs (l1.take (j + 1)) = vencs (l1.take j) ++ venc y.toNat := by rw [t0]; simp [vencs]
              rw [hv]
              exact hS3.out
          · have hjl : j = l1.length := by have := hA.out; omega
            subst hjl
            have hd : decide ((l1.length : Int) < (l1.length : Int)) = false := decide_eq_false (by omega)
            rw [List.take_length] at hS hxl
            have hl1 : (vencs l1).length ≤ 1000000000000 := by omega
            have hl0 : (vencs l0).length ≤ 1000000000000 := by
              have := vencs_len l0 (by omega) hU.1
              omega
            have hS := Aside0.mk (hS.out.drew.perm (List.Perm.swap _ _ _))
            go_wp2
            refine start_ (n := 8) (S := fun w' => True) (ds := []) #[false, false, false, false, false, false, false, false] (by kernel_rfl) rfl rfl trivial (fun hHeld => ?_)
            generalize wr.drew = wd at hS hHeld ⊢
            refine pure_ (i := 5) (N := some 63) (v := ?_) (a' := ?_) #[false, false, false, false, false, true, false, false] rfl rfl (by kernel_rfl) (fun _ _ _ h => h) (Or.inl ⟨by rfl, ?_⟩) ?_ ?_
            rotate_left
            · intro w'
              go_simp
              with_reducible rfl
            rotate_left
            · simp only [Act.put, List.setIfInBounds_toArray, List.set_cons_zero, List.set_cons_succ, i64_w, i32_w]
              rfl
            refine one_ (i := 0) (N := some 58) #[true, false, false, false, false, true, false, false] rfl rfl (by kernel_rfl) (by decide) (fun K hK => ?_)
            refine goes_ Try.func24 (by kernel_rfl) rfl #[.pointer (some ⟨w1.heap.size, 0, none⟩)] (by rfl) rfl rfl (by (try simp only [List.map_toArray, List.map_cons, List.map_nil]); first | done | rfl) ?_
            with_reducible refine (buf_Bytes w _ w1.heap.size (vencs l0) [buf (w1.heap.size + 1) (vencs l1)] hS.out hl0).mono ?_
            rintro e w58 ⟨v58, rfl, h1⟩
            refine ⟨_, rfl, ?_⟩
            have hS58 := Aside0.mk h1
            clear h1
            refine hK.out _ _ trivial (fun hHeld => ?_)
            clear hK K
            refine norm_ (a' := ?_) ?_ ?_
            rotate_left
            · show Act.put _ (some 58) _ = _
              simp only [Act.put, List.setIfInBounds_toArray, List.set_cons_zero, List.set_cons_succ, i64_w, i32_w]
              rfl
            refine two_ (i := 1) (j := 2) (Ni := some 59) (Nj := some 60) #[true, true, false, false, false, true, false, false] #[true, false, true, false, false, true, false, false] rfl rfl rfl rfl (by kernel_rfl) (by decide) (by decide) (fun K hK => ?_) (fun K hK => ?_)
            · skip
              first | obtain ⟨bs_, hR_⟩ := hS60.out.tail.tail.row_R | obtain ⟨bs_, hR_⟩ := hS58.out.row_R
              have hcv := own_string (P := Try.prog) Try.underlying22 Try.underlying5 Try.underlying9 (Kd.own_of_R hR_)
              refine value_ (w1 := ?_) (v := ?_) (by rfl) rfl ?_ ?_
              rotate_left 2
              · go_simp
                constructor
                · rfl
                · rfl
              clear hcv
              refine hK.out _ _ trivial (fun hHeld => ?_)
              clear hK K
              refine norm_ (a' := ?_) ?_ ?_
              rotate_left
              · show Act.put _ (some 59) _ = _
                simp only [Act.put, List.setIfInBounds_toArray, List.set_cons_zero, List.set_cons_succ, i64_w, i32_w]
                rfl
              refine one_ (i := 2) (N := some 60) #[true, true, true, false, false, true, false, false] rfl rfl (by kernel_rfl) (by decide) (fun K hK => ?_)
              refine goes_ Try.func24 (by kernel_rfl) rfl #[.pointer (some ⟨w1.heap.size + 1, 0, none⟩)] (by rfl) rfl rfl (by (try simp only [List.map_toArray, List.map_cons, List.map_nil]); first | done | rfl) ?_
              with_reducible refine (buf_Bytes w _ (w1.heap.size + 1) (vencs l1) [row (Kd.int .u8) 5 v58 (vencs l0), buf w1.heap.size (vencs l0)] (hS58.out.perm (rot3 _ _ _)) hl1).mono ?_
              rintro e w60 ⟨v60, rfl, h1⟩
              refine ⟨_, rfl, ?_⟩
              have hS60 := Aside0.mk h1
              clear h1
              refine hK.out _ _ trivial (fun hHeld => ?_)
              clear hK K
              refine norm_ (a' := ?_) ?_ ?_
              rotate_left
              · show Act.put _ (some 60) _ = _
                simp only [Act.put, List.setIfInBounds_toArray, List.set_cons_zero, List.set_cons_succ, i64_w, i32_w]
                rfl
              refine one_ (i := 3) (N := some 61) #[true, true, true, true, false, true, false, false] rfl rfl (by kernel_rfl) (by decide) (fun K hK => ?_)
              obtain ⟨bs_, hR_⟩ := hS60.out.row_R
              have hcv := own_string (P := Try.prog) Try.underlying22 Try.underlying5 Try.underlying9 (Kd.own_of_R hR_)
              refine value_ (w1 := ?_) (v := ?_) (by rfl) rfl ?_ ?_
              rotate_left 2
              · go_simp
                constructor
                · rfl
                · rfl
              clear hcv
              refine hK.out _ _ trivial (fun hHeld => ?_)
              clear hK K
              refine norm_ (a' := ?_) ?_ ?_
              rotate_left
              · show Act.put _ (some 61) _ = _
                simp only [Act.put, List.setIfInBounds_toArray, List.set_cons_zero, List.set_cons_succ, i64_w, i32_w]
                rfl
              refine pure_ (i := 4) (N := some 62) (v := ?_) (a' := ?_) #[true, true, true, true, true, true, false, false] rfl rfl (by kernel_rfl) (fun _ _ _ h => h) (Or.inl ⟨by rfl, ?_⟩) ?_ ?_
              rotate_left
              · intro w'
                go_simp
                with_reducible rfl
              rotate_left
              · simp only [Act.put, List.setIfInBounds_toArray, List.set_cons_zero, List.set_cons_succ, i64_w, i32_w]
                rfl
              refine pure_ (i := 6) (N := some 64) (v := ?_) (a' := ?_) #[true, true, true, true, true, true, true, false] rfl rfl (by kernel_rfl) (fun _ _ _ h => h) (Or.inl ⟨by rfl, ?_⟩) ?_ ?_
              rotate_left
              · intro w'
                go_simp
                with_reducible rfl
              rotate_left
              · simp only [Act.put, List.setIfInBounds_toArray, List.set_cons_zero, List.set_cons_succ, i64_w, i32_w]
                rfl
              refine pure_ (i := 7) (N := some 4) (v := ?_) (a' := ?_) #[true, true, true, true, true, true, true, true] rfl rfl (by kernel_rfl) (fun _ _ _ h => h) (Or.inl ⟨by rfl, ?_⟩) ?_ ?_
              rotate_left
              · intro w'
                go_simp
                with_reducible rfl
              rotate_left
              · simp only [Act.put, List.setIfInBounds_toArray, List.set_cons_zero, List.set_cons_succ, i64_w, i32_w]
                rfl
              refine done_ (by kernel_rfl) ?_
              go_wp2
              go_ret
              refine ⟨?_, hS60.out.1⟩
              have hfin := vencs_eq l0 l1 hU.1 hU.2
              show Ending.returned (Value.bool (((strOfNums (vencs l0)).toList == (strOfNums (vencs l1)).toList) == bq)) = _
              rw [hfin, hbq.out, beq_self_eq_true]
            · skip
              refine goes_ Try.func24 (by kernel_rfl) rfl #[.pointer (some ⟨w1.heap.size + 1, 0, none⟩)] (by rfl) rfl rfl (by (try simp only [List.map_toArray, List.map_cons, List.map_nil]); first | done | rfl) ?_
              with_reducible refine (buf_Bytes w _ (w1.heap.size + 1) (vencs l1) [row (Kd.int .u8) 5 v58 (vencs l0), buf w1.heap.size (vencs l0)] (hS58.out.perm (rot3 _ _ _)) hl1).mono ?_
              rintro e w60 ⟨v60, rfl, h1⟩
              refine ⟨_, rfl, ?_⟩
              have hS60 := Aside0.mk h1
              clear h1
              refine hK.out _ _ trivial (fun hHeld => ?_)
              clear hK K
              refine norm_ (a' := ?_) ?_ ?_
              rotate_left
              · show Act.put _ (some 60) _ = _
                simp only [Act.put, List.setIfInBounds_toArray, List.set_cons_zero, List.set_cons_succ, i64_w, i32_w]
                rfl
              refine two_ (i := 1) (j := 3) (Ni := some 59) (Nj := some 61) #[true, true, true, false, false, true, false, false] #[true, false, true, true, false, true, false, false] rfl rfl rfl rfl (by kernel_rfl) (by decide) (by decide) (fun K hK => ?_) (fun K hK => ?_)
              · skip
                first | obtain ⟨bs_, hR_⟩ := hS60.out.tail.tail.row_R | obtain ⟨bs_, hR_⟩ := hS58.out.row_R
                have hcv := own_string (P := Try.prog) Try.underlying22 Try.underlying5 Try.underlying9 (Kd.own_of_R hR_)
                refine value_ (w1 := ?_) (v := ?_) (by rfl) rfl ?_ ?_
                rotate_left 2
                · go_simp
                  constructor
                  · rfl
                  · rfl
                clear hcv
                refine hK.out _ _ trivial (fun hHeld => ?_)
                clear hK K
                refine norm_ (a' := ?_) ?_ ?_
                rotate_left
                · show Act.put _ (some 59) _ = _
                  simp only [Act.put, List.setIfInBounds_toArray, List.set_cons_zero, List.set_cons_succ, i64_w, i32_w]
                  rfl
                refine one_ (i := 3) (N := some 61) #[true, true, true, true, false, true, false, false] rfl rfl (by kernel_rfl) (by decide) (fun K hK => ?_)
                obtain ⟨bs_, hR_⟩ := hS60.out.row_R
                have hcv := own_string (P := Try.prog) Try.underlying22 Try.underlying5 Try.underlying9 (Kd.own_of_R hR_)
                refine value_ (w1 := ?_) (v := ?_) (by rfl) rfl ?_ ?_
                rotate_left 2
                · go_simp
                  constructor
                  · rfl
                  · rfl
                clear hcv
                refine hK.out _ _ trivial (fun hHeld => ?_)
                clear hK K
                refine norm_ (a' := ?_) ?_ ?_
                rotate_left
                · show Act.put _ (some 61) _ = _
                  simp only [Act.put, List.setIfInBounds_toArray, List.set_cons_zero, List.set_cons_succ, i64_w, i32_w]
                  rfl
                refine pure_ (i := 4) (N := some 62) (v := ?_) (a' := ?_) #[true, true, true, true, true, true, false, false] rfl rfl (by kernel_rfl) (fun _ _ _ h => h) (Or.inl ⟨by rfl, ?_⟩) ?_ ?_
                rotate_left
                · intro w'
                  go_simp
                  with_reducible rfl
                rotate_left
                · simp only [Act.put, List.setIfInBounds_toArray, List.set_cons_zero, List.set_cons_succ, i64_w, i32_w]
                  rfl
                refine pure_ (i := 6) (N := some 64) (v := ?_) (a' := ?_) #[true, true, true, true, true, true, true, false] rfl rfl (by kernel_rfl) (fun _ _ _ h => h) (Or.inl ⟨by rfl, ?_⟩) ?_ ?_
                rotate_left
                · intro w'
                  go_simp
                  with_reducible rfl
                rotate_left
                · simp only [Act.put, List.setIfInBounds_toArray, List.set_cons_zero, List.set_cons_succ, i64_w, i32_w]
                  rfl
                refine pure_ (i := 7) (N := some 4) (v := ?_) (a' := ?_) #[true, true, true, true, true, true, true, true] rfl rfl (by kernel_rfl) (fun _ _ _ h => h) (Or.inl ⟨by rfl, ?_⟩) ?_ ?_
                rotate_left
                · intro w'
                  go_simp
                  with_reducible rfl
                rotate_left
                · simp only [Act.put, List.setIfInBounds_toArray, List.set_cons_zero, List.set_cons_succ, i64_w, i32_w]
                  rfl
                refine done_ (by kernel_rfl) ?_
                go_wp2
                go_ret
                refine ⟨?_, hS60.out.1⟩
                have hfin := vencs_eq l0 l1 hU.1 hU.2
                show Ending.returned (Value.bool (((strOfNums (vencs l0)).toList == (strOfNums (vencs l1)).toList) == bq)) = _
                rw [hfin, hbq.out, beq_self_eq_true]
              · skip
                obtain ⟨bs_, hR_⟩ := hS60.out.row_R
                have hcv := own_string (P := Try.prog) Try.underlying22 Try.underlying5 Try.underlying9 (Kd.own_of_R hR_)
                refine value_ (w1 := ?_) (v := ?_) (by rfl) rfl ?_ ?_
                rotate_left 2
                · go_simp
                  constructor
                  · rfl
                  · rfl
                clear hcv
                refine hK.out _ _ trivial (fun hHeld => ?_)
                clear hK K
                refine norm_ (a' := ?_) ?_ ?_
                rotate_left
                · show Act.put _ (some 61) _ = _
                  simp only [Act.put, List.setIfInBounds_toArray, List.set_cons_zero, List.set_cons_succ, i64_w, i32_w]
                  rfl
                refine one_ (i := 1) (N := some 59) #[true, true, true, true, false, true, false, false] rfl rfl (by kernel_rfl) (by decide) (fun K hK => ?_)
                first | obtain ⟨bs_, hR_⟩ := hS60.out.tail.tail.row_R | obtain ⟨bs_, hR_⟩ := hS58.out.row_R
                have hcv := own_string (P := Try.prog) Try.underlying22 Try.underlying5 Try.underlying9 (Kd.own_of_R hR_)
                refine value_ (w1 := ?_) (v := ?_) (by rfl) rfl ?_ ?_
                rotate_left 2
                · go_simp
                  constructor
                  · rfl
                  · rfl
                clear hcv
                refine hK.out _ _ trivial (fun hHeld => ?_)
                clear hK K
                refine norm_ (a' := ?_) ?_ ?_
                rotate_left
                · show Act.put _ (some 59) _ = _
                  simp only [Act.put, List.setIfInBounds_toArray, List.set_cons_zero, List.set_cons_succ, i64_w, i32_w]
                  rfl
                refine pure_ (i := 4) (N := some 62) (v := ?_) (a' := ?_) #[true, true, true, true, true, true, false, false] rfl rfl (by kernel_rfl) (fun _ _ _ h => h) (Or.inl ⟨by rfl, ?_⟩) ?_ ?_
                rotate_left
                · intro w'
                  go_simp
                  with_reducible rfl
                rotate_left
                · simp only [Act.put, List.setIfInBounds_toArray, List.set_cons_zero, List.set_cons_succ, i64_w, i32_w]
                  rfl
                refine pure_ (i := 6) (N := some 64) (v := ?_) (a' := ?_) #[true, true, true, true, true, true, true, false] rfl rfl (by kernel_rfl) (fun _ _ _ h => h) (Or.inl ⟨by rfl, ?_⟩) ?_ ?_
                rotate_left
                · intro w'
                  go_simp
                  with_reducible rfl
                rotate_left
                · simp only [Act.put, List.setIfInBounds_toArray, List.set_cons_zero, List.set_cons_succ, i64_w, i32_w]
                  rfl
                refine pure_ (i := 7) (N := some 4) (v := ?_) (a' := ?_) #[true, true, true, true, true, true, true, true] rfl rfl (by kernel_rfl) (fun _ _ _ h => h) (Or.inl ⟨by rfl, ?_⟩) ?_ ?_
                rotate_left
                · intro w'
                  go_simp
                  with_reducible rfl
                rotate_left
                · simp only [Act.put, List.setIfInBounds_toArray, List.set_cons_zero, List.set_cons_succ, i64_w, i32_w]
                  rfl
                refine done_ (by kernel_rfl) ?_
                go_wp2
                go_ret
                refine ⟨?_, hS60.out.1⟩
                have hfin := vencs_eq l0 l1 hU.1 hU.2
                show Ending.returned (Value.bool (((strOfNums (vencs l0)).toList == (strOfNums (vencs l1)).toList) == bq)) = _
                rw [hfin, hbq.out, beq_self_eq_true]

end Go.Proofs.Ytdpghobknhkikaa.G
