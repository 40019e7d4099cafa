/- fasciclelaw02.VarintBack, walked. -/
import Derived.Test.YtdpghobknhkikaaHGetFacts
import Derived.Test.YtdpghobknhkikaaHRun2
import Derived.Test.YtdpghobknhkikaaHLives02
import Derived.Test.YtdpghobknhkikaaLVencs
import Derived.Test.YtdpghobknhkikaaLNum
import Derived.Test.YtdpghobknhkikaaHSizeV
set_option linter.unusedVariables false
set_option linter.unusedSimpArgs false
namespace Go.Proofs.Ytdpghobknhkikaa.G
open Go Go.RowKit Go.Proofs.YtdpghobknhkikaaW.PrintWords Go.Proofs.YtdpghobknhkikaaW.PrintLast Go.Proofs.YtdpghobknhkikaaW.PrintMore Go.Proofs.Ytdpghobknhkikaa.PureKit Go.Proofs.Ytdpghobknhkikaa.Sep

theorem vencs_take (l : List Int) (i : Nat) (h : i < l.length) : vencs (l.take (i + 1)) = vencs (l.take i) ++ venc (l[i]).toNat := by
  rw [List.take_succ_eq_append_getElem h]
  simp only [vencs, List.flatMap_append, List.flatMap_cons, List.flatMap_nil, List.append_nil]
theorem vencs_drop (l : List Int) (i : Nat) (h : i < l.length) : (vencs l).drop (vencs (l.take i)).length = venc (l[i]).toNat ++ vencs (l.drop (i + 1)) := by
  have h1 : vencs l = vencs (l.take i) ++ (venc (l[i]).toNat ++ vencs (l.drop (i + 1))) := by
    conv => lhs; rw [← List.take_append_drop i l, List.drop_eq_getElem_cons h]
    simp only [vencs, List.flatMap_append, List.flatMap_cons]
  conv => lhs; rw [h1]
  rw [List.drop_left]

set_option maxHeartbeats 4000000 in
set_option maxRecDepth 100000 in
theorem clos_back (w0 w : World) (g gl gr : Nat) (A0 : Option Addr) (c0 : Nat) (l : List Int) (ps : List HP) (hs : Sep w0 w (cur g (vencs l) 0 true :: blk gl #[.slice A0 l.length c0] 41 :: blk gr #[.bool true] 4 :: ps)) (hr : Kd.C (Kd.int .u64) w0 A0 l.length l) (hU : U64s l) (hl : l.length ≤ 40) :
    Calls Try.prog 41 #[.pointer (some ⟨g, 0, none⟩), .pointer (some ⟨gl, 0, none⟩), .pointer (some ⟨gr, 0, none⟩)] w fun e w2 =>
      e = .returned (.tuple #[]) ∧ Sep w0 w2 (cur g (vencs l) (vencs l).length true :: blk gl #[.slice A0 l.length c0] 41 :: blk gr #[.bool true] 4 :: ps) := by
  have hS := Aside0.mk hs
  have HR := Aside0.mk hr
  have hcl_0 : w.cell? ⟨gl, 0, none⟩ = some (.slice A0 l.length c0) := ((hs.pick1).cell 0).trans rfl
  clear hs hr
  have hbs := vencs_bytes l
  have hlen : (vencs l).length ≤ 400 := by
    have : ∀ m : List Int, U64s m → (vencs m).length ≤ 10 * m.length := fun m => by
      induction m with
      | nil => intro _; simp [vencs]
      | cons x m ih =>
        intro h
        have h1 := venc_len10' x.toNat (by have := h x List.mem_cons_self; omega)
        have h2 := ih (fun y hy => h y (List.mem_cons_of_mem _ hy))
        simp only [vencs, List.flatMap_cons, List.length_append, List.length_cons] at h2 ⊢
        omega
    have := this l hU
    omega
  go_enter Try.func41, Try.ntmps41
  go_wp2
  go_loopg [8] l.length (fun kq v8 w' => ∃ (i : Nat), v8 = .int .i64 i ∧ Aside0 (i + kq = l.length) ∧ Aside0 (Sep w0 w' (cur g (vencs l) (vencs (l.take i)).length true :: blk gl #[.slice A0 l.length c0] 41 :: blk gr #[.bool true] 4 :: ps)))
  case atStart => exact ⟨0, rfl, ⟨Nat.zero_add _⟩, by simpa [vencs] using hS⟩
  case round =>
    obtain ⟨i, rfl, hA, hS⟩ := hrel
    by_cases hin : i < l.length
    · have hd : decide ((i : Int) < (l.length : Int)) = true := decide_eq_true (by omega)
      obtain ⟨k1, rfl⟩ : ∃ k1, gk = k1 + 1 := ⟨gk - 1, by have := hA.out; omega⟩
      have hC0 := Kd.C_below HR.out hS.out.1
      obtain ⟨ad0, e0, hx0⟩ := Kd.at_int hC0 (i : Int) (by omega) (by omega)
      cases e0
      simp only [Int.toNat_natCast] at hx0
      rw [rd_at l i hin] at hx0
      have hUx := hU l[i] (List.getElem_mem hin)
      have hvt := vencs_take l i hin
      have hvd := vencs_drop l i hin
      obtain ⟨y, hy⟩ : ∃ y, l[i] = y := ⟨_, rfl⟩
      rw [hy] at hx0 hUx hvt hvd
      have hvg := vget_at hvd (by omega)
      rw [show ((y.toNat : Nat) : Int) = y by omega, ← List.length_append, ← hvt] at hvg
      have hplen : (vencs (l.take i)).length ≤ (vencs l).length := by
        have := congrArg List.length hvd
        simp only [List.length_drop, List.length_append] at this
        have h2 : 0 < (venc y.toNat).length := List.length_pos_iff.2 (venc_ne _)
        omega
      have hvgA := Aside0.mk hvg
      have hyA := Aside0.mk hy
      clear hy hvg hvd hvt
      have hq := hS.out
      have hcr_0 : wr.cell? ⟨gr, 0, none⟩ = some (.bool true) := ((hq.pick2).cell 0).trans rfl
      clear hq
      have p0 : ((0 : Int) ≤ (i : Int)) = True := eq_true (by omega)
      have q0 : ((i : Int) < (l.length : Int)) = True := eq_true (by omega)
      go_wp2_with (first | ((with_reducible refine gate_callee (f := 38) rfl ?_); (try (refine gate_guard (by rfl) ?_; dsimp only)); refine goesL_ (some 15) rfl rfl Try.func38 (by kernel_rfl) rfl #[.pointer (some ⟨g, 0, none⟩)] rfl (by (try simp only [List.map_toArray, List.map_cons, List.map_nil]); first | done | rfl) ?_; (with_reducible refine (varint_Get w0 _ g _ (vencs l) _ hS.out hbs hplen (by omega)).mono ?_); intro e w2 hpost; rw [hvgA.out] at hpost; obtain ⟨he, h2⟩ := hpost; refine ⟨_, he, ?_⟩; clear he; have hS2 := Aside0.mk h2; have hcr2_0 : w2.cell? ⟨gr, 0, none⟩ = some (.bool true) := ((h2.pick2).cell 0).trans rfl; have hz2 := h2.pick2.frozen 0; clear h2))
      go_roundg k1
      case measure => omega
      case rel =>
        refine ⟨i + 1, by simp, ⟨by have := hA.out; omega⟩, ⟨?_⟩⟩
        have := (hS2.out.pick2.set 0 (.bool true)).put2
        simpa using this
    · have hil : i = l.length := by have := hA.out; omega
      subst hil
      have hd : decide ((l.length : Int) < (l.length : Int)) = false := decide_eq_false (by omega)
      rw [List.take_length] at hS
      go_wp2_with (first | ((with_reducible refine gate_callee (f := 42) rfl ?_); refine goesL_ (some 21) rfl rfl Try.func42 (by kernel_rfl) rfl #[.pointer (some ⟨g, 0, none⟩)] rfl (by (try simp only [List.map_toArray, List.map_cons, List.map_nil]); first | done | rfl) ?_; (with_reducible refine (cur_End_ok w0 _ g _ (vencs l) _ hS.out rfl (by omega)).mono ?_); rintro e w2 ⟨rfl, h2⟩; refine ⟨_, rfl, ?_⟩; have hS2 := Aside0.mk h2; clear h2))
      go_end0
      exact ⟨rfl, hS2.out⟩

theorem vencs_len400 (l : List Int) (hU : U64s l) (hl : l.length ≤ 40) : (vencs l).length ≤ 400 := by
  have : ∀ m : List Int, U64s m → (vencs m).length ≤ 10 * m.length := fun m => by
    induction m with
    | nil => intro _; simp [vencs]
    | cons x m ih =>
      intro h
      have h1 := venc_len10' x.toNat (by have := h x List.mem_cons_self; omega)
      have h2 := ih (fun y hy => h y (List.mem_cons_of_mem _ hy))
      simp only [vencs, List.flatMap_cons, List.length_append, List.length_cons] at h2 ⊢
      omega
  have := this l hU
  omega
open Classical in
noncomputable def fasciclelaw02_VarintBack.f (l0 : List Int) : Option Bool := if U64s l0 then some true else none
def fasciclelaw02_VarintBack.Pure : Prop := ∀ (l0 : List Int), l0.length ≤ maxLen → l0.length * 8 ≤ 140737488351232 → (∀ y ∈ l0, ((Lit.int .u64 y).wf = true)) → fasciclelaw02_VarintBack.f l0 = some true

set_option maxHeartbeats 4000000 in
set_option maxRecDepth 100000 in
theorem fasciclelaw02_VarintBack.calls (A0 : Option Addr) (c0 : Nat) (l0 : List Int) (r : Bool) (w : World) (hr0 : Kd.C (Kd.int .u64) w A0 l0.length l0) (hc0 : l0.length ≤ c0) (h : fasciclelaw02_VarintBack.f l0 = some r) :
    Calls Try.prog 13 #[.slice A0 l0.length c0] w fun e w' => e = .returned (.bool r) ∧ Below w.heap.size w w' := by
  obtain ⟨hU, rfl⟩ : U64s l0 ∧ r = true := by
    unfold fasciclelaw02_VarintBack.f at h
    split at h
    · exact ⟨by assumption, (Option.some.inj h).symm⟩
    · cases h
  clear h
  have HR := Aside0.mk hr0
  clear hr0
  have hS := Aside0.mk (Sep.start w)
  by_cases hbig : (l0.length : Int) > 40
  · have h0b : decide ((l0.length : Int) > 40) = true := decide_eq_true hbig
    go_enter Try.func13, Try.ntmps13
    go_wp2_with (first | ((with_reducible refine gate_dst (N := 1) rfl ?_); refine Sep.box_event ?hg (N := 1) ?hd (cs := #[.slice A0 l0.length c0]) (t := 41) hS.out ?hr ?_; (case hd => rfl); (case hg => rfl); (case hr => first | (go_simp; done) | (go_simp; rfl)); intro g0 wb0 hsb0; have hcb0_0 : wb0.cell? ⟨g0, 0, none⟩ = some (.slice A0 l0.length c0) := ((hsb0).cell 0).trans rfl; have hSb0 := Aside0.mk hsb0; clear hsb0) | ((with_reducible refine gate_callee (f := 22) rfl ?_); refine goesL_ (some 10) rfl rfl Try.func22 (by kernel_rfl) rfl #[] rfl (by (try simp only [List.map_toArray, List.map_cons, List.map_nil]); first | done | rfl) ?_; (with_reducible refine (fasciclelaw02_lives.calls true _ rfl).mono ?_); rintro e w1 ⟨rfl, h1⟩; refine ⟨_, rfl, ?_⟩; have hS1 := Aside0.mk (hSb0.out.below h1); have hq := hS1.out; have hc1_0 : w1.cell? ⟨g0, 0, none⟩ = some (.slice A0 l0.length c0) := ((hq).cell 0).trans rfl; clear h1 hq) | ((with_reducible refine gate_callee (f := 22) rfl ?_); refine goesL_ (some 17) rfl rfl Try.func22 (by kernel_rfl) rfl #[] rfl (by (try simp only [List.map_toArray, List.map_cons, List.map_nil]); first | done | rfl) ?_; (with_reducible refine (fasciclelaw02_lives.calls true _ rfl).mono ?_); rintro e w2 ⟨rfl, h1⟩; refine ⟨_, rfl, ?_⟩; have hS2 := Aside0.mk (hS1.out.below h1); clear h1))
    go_ret
    exact ⟨rfl, hS2.out.1⟩
  have h0b : decide ((l0.length : Int) > 40) = false := decide_eq_false hbig
  have hlen : l0.length ≤ 40 := by omega
  have hL := vencs_len400 l0 hU hlen
  have hLt : ∀ i, (vencs (l0.take i)).length ≤ 400 := fun i => vencs_len400 _ (fun x hx => hU x (List.mem_of_mem_take hx)) (by rw [List.length_take]; omega)
  have hmf : ∀ (fn : Fn) (first cap : Array Value) (w : World), (Instr.makeFunc fn first cap).run Try.prog w = .ok (.func fn first cap) w := fun _ _ _ _ => rfl
  go_enter Try.func13, Try.ntmps13
  go_wp2_with (first | ((with_reducible refine gate_dst (N := 1) rfl ?_); refine Sep.box_event ?hg (N := 1) ?hd (cs := #[.slice A0 l0.length c0]) (t := 41) hS.out ?hr ?_; (case hd => rfl); (case hg => rfl); (case hr => first | (go_simp; done) | (go_simp; rfl)); intro g0 wb0 hsb0; have hcb0_0 : wb0.cell? ⟨g0, 0, none⟩ = some (.slice A0 l0.length c0) := ((hsb0).cell 0).trans rfl; have hSb0 := Aside0.mk hsb0; clear hsb0) | ((with_reducible refine gate_callee (f := 22) rfl ?_); refine goesL_ (some 10) rfl rfl Try.func22 (by kernel_rfl) rfl #[] rfl (by (try simp only [List.map_toArray, List.map_cons, List.map_nil]); first | done | rfl) ?_; (with_reducible refine (fasciclelaw02_lives.calls true _ rfl).mono ?_); rintro e w1 ⟨rfl, h1⟩; refine ⟨_, rfl, ?_⟩; have hS1 := Aside0.mk ((hSb0.out.below h1).buf_new); have hq := hSb0.out.below h1; have hc1_0 : w1.cell? ⟨g0, 0, none⟩ = some (.slice A0 l0.length c0) := ((hq).cell 0).trans rfl; have hq1 := hS1.out.pick1; have hd1_0 : (w1.alloc (.cells #[.slice none 0 0] 43 (0, 0))).cell? ⟨g0, 0, none⟩ = some (.slice A0 l0.length c0) := ((hq1).cell 0).trans rfl; clear h1 hq hq1))
  go_loopg [4, 20] l0.length (fun kq v4 v20 w' => ∃ (i : Nat), v4 = .string (strOfNums (vencs (l0.take i))) ∧ v20 = .int .i64 i ∧ Aside0 (i + kq = l0.length) ∧ Aside0 (Sep.Sep w w' [buf w1.heap.size (vencs (l0.take i)), blk g0 #[.slice A0 l0.length c0] 41]))
  case atStart => exact ⟨0, rfl, rfl, ⟨Nat.zero_add _⟩, by simpa [vencs] using hS1⟩
  case round =>
    obtain ⟨i, rfl, rfl, hA, hS⟩ := hrel
    by_cases hin : i < l0.length
    · have hd : decide ((i : Int) < (l0.length : Int)) = true := decide_eq_true (by omega)
      obtain ⟨k1, rfl⟩ : ∃ k1, gk = k1 + 1 := ⟨gk - 1, by have := hA.out; omega⟩
      have hC0 := Kd.C_below HR.out hS.out.1
      obtain ⟨ad0, e0, hx0⟩ := Kd.at_int hC0 (i : Int) (by omega) (by omega)
      cases e0
      simp only [Int.toNat_natCast] at hx0
      rw [rd_at l0 i hin] at hx0
      have hUx := hU l0[i] (List.getElem_mem hin)
      have hvt := vencs_take l0 i hin
      obtain ⟨y, hy⟩ : ∃ y, l0[i] = y := ⟨_, rfl⟩
      rw [hy] at hx0 hUx hvt
      have hyn := Aside0.mk (show y = ((y.toNat : Nat) : Int) by omega)
      obtain ⟨KN, hKN⟩ := (refnum0 y.toNat (by omega)).rounds
      have hsv := vsize_ev y.toNat (by omega)
      rw [← hyn.out] at hKN hsv
      have hTl := hLt i
      have hvl := venc_len10' y.toNat (by omega)
      have hy64 : y.toNat < 18446744073709551616 := by omega
      have hTs : (strOfNums (vencs (l0.take i))).size = (vencs (l0.take i)).length := nums_size _
      have hNs : (strOfNums (venc y.toNat)).size = (venc y.toNat).length := nums_size _
      have hcat2 : strOfNums (vencs (l0.take i)) ++ strOfNums (venc y.toNat) = strOfNums (vencs (l0.take (i + 1))) := by rw [hvt, PureKit.nums_append]
      rw [← hNs] at hsv
      have hvtA := Aside0.mk hvt
      have hyA := Aside0.mk hy
      clear hvt hy
      obtain ⟨T, hT⟩ : ∃ T, strOfNums (vencs (l0.take i)) = T := ⟨_, rfl⟩
      obtain ⟨N, hN⟩ : ∃ N, strOfNums (venc y.toNat) = N := ⟨_, rfl⟩
      rw [hT] at hTs hcat2 ⊢
      rw [hN] at hNs hKN hsv hcat2
      have hT := Aside0.mk hT
      have hN := Aside0.mk hN
      have hcat : (9223372036854775807 < T.size + N.size) = False := eq_false (by omega)
      have hN10 : decide ((N.size : Int) > 10) = false := decide_eq_false (by omega)
      have hN10' : (10 < N.size) = False := eq_false (by omega)
      have hTsA := Aside0.mk hTs
      have hNsA := Aside0.mk hNs
      have hcatA := Aside0.mk hcat2
      have hKNA := Aside0.mk hKN
      have hsvA := Aside0.mk hsv
      clear hTs hNs hcat2 hKN hsv
      have p0 : ((0 : Int) ≤ (i : Int)) = True := eq_true (by omega)
      have q0 : ((i : Int) < (l0.length : Int)) = True := eq_true (by omega)
      go_wp2_with (first | ((with_reducible refine gate_callee (f := 23) rfl ?_); refine goesL_ (some 25) rfl rfl Try.func23 (by kernel_rfl) rfl #[.pointer (some ⟨w1.heap.size, 0, none⟩), .int .u64 y] rfl (by (try simp only [List.map_toArray, List.map_cons, List.map_nil]); first | done | rfl) ?_; (with_reducible refine (varint_Put w _ w1.heap.size _ _ y.toNat y hyn.out hS.out hy64 (by omega)).mono ?_); rintro e w2 ⟨rfl, h1⟩; refine ⟨_, rfl, ?_⟩; have hS2 := Aside0.mk h1; clear h1) | ((with_reducible refine gate_callee (f := 40) rfl ?_); refine goesL_ (some 28) rfl rfl Try.func40 (by kernel_rfl) rfl #[.int .u64 y] rfl (by (try simp only [List.map_toArray, List.map_cons, List.map_nil]); first | done | rfl) ?_; (with_reducible refine (fascicleref02_Num.calls KN y N _ hKNA.out).mono ?_); rintro e w3 ⟨rfl, h1⟩; refine ⟨_, rfl, ?_⟩; have hS3 := Aside0.mk (hS2.out.below h1); clear h1) | ((with_reducible refine gate_callee (f := 29) rfl ?_); refine goesL_ (some 31) rfl rfl Try.func29 (by kernel_rfl) rfl #[.int .u64 y] rfl (by (try simp only [List.map_toArray, List.map_cons, List.map_nil]); first | done | rfl) ?_; (with_reducible refine (varint_Size.calls 11 y _ _ hsvA.out).mono ?_); rintro e w4 ⟨rfl, h1⟩; refine ⟨_, rfl, ?_⟩; have hS4 := Aside0.mk (hS3.out.below h1.below); clear h1) | ((with_reducible refine gate_callee (f := 40) rfl ?_); refine goesL_ (some 33) rfl rfl Try.func40 (by kernel_rfl) rfl #[.int .u64 y] rfl (by (try simp only [List.map_toArray, List.map_cons, List.map_nil]); first | done | rfl) ?_; (with_reducible refine (fascicleref02_Num.calls KN y N _ hKNA.out).mono ?_); rintro e w5 ⟨rfl, h1⟩; refine ⟨_, rfl, ?_⟩; have hS5 := Aside0.mk (hS4.out.below h1); clear h1) | ((with_reducible refine gate_callee (f := 29) rfl ?_); (try (refine gate_guard (by rfl) ?_; dsimp only)); refine goesL_ (some 38) rfl rfl Try.func29 (by kernel_rfl) rfl #[.int .u64 y] rfl (by (try simp only [List.map_toArray, List.map_cons, List.map_nil]); first | done | rfl) ?_; (with_reducible refine (varint_Size.calls 11 y _ _ hsvA.out).mono ?_); rintro e w6 ⟨rfl, h1⟩; refine ⟨_, rfl, ?_⟩; have hS6 := Aside0.mk (hS5.out.below h1.below); clear h1))
      go_roundg k1
      case measure => omega
      case rel =>
        refine ⟨i + 1, ?_, by simp, ⟨by have := hA.out; omega⟩, ⟨?_⟩⟩
        · rw [hcatA.out]
        · rw [hvtA.out]
          exact hS6.out
    · have hil : i = l0.length := by have := hA.out; omega
      subst hil
      have hd : decide ((l0.length : Int) < (l0.length : Int)) = false := decide_eq_false (by omega)
      rw [List.take_length] at hS ⊢
      have hsz : ∀ (W : World) (o : Obj), (W.alloc o).heap.size = W.heap.size + 1 := fun W o => by show (W.heap.push _).size = _; simp
      have hSa := Aside0.mk (hS.out.alloc #[.bool true] 4).pick1
      go_wp2_with (first | ((with_reducible refine gate_callee (f := 24) rfl ?_); refine goesL_ (some 43) rfl rfl Try.func24 (by kernel_rfl) rfl #[.pointer (some ⟨w1.heap.size, 0, none⟩)] rfl (by (try simp only [List.map_toArray, List.map_cons, List.map_nil]); first | done | rfl) ?_; (refine (buf_Bytes w _ w1.heap.size _ _ hSa.out (by omega)).mono ?_); rintro e w7 ⟨v7, rfl, h7⟩; refine ⟨_, rfl, ?_⟩; have hS7 := Aside0.mk h7; obtain ⟨bs7, hR7⟩ := h7.row_R; obtain ⟨A7, c7, e7⟩ := Kd.R_slice hR7; subst e7; have hR7 := Aside0.mk (Kd.R_reads' hR7); clear h7) | fail)
      have hS8 : Sep.Sep w w7 ([blk g0 #[.slice A0 l0.length c0] 41, blk wr.heap.size #[.bool true] 4] ++ [row (Kd.int .u8) 5 (.slice A7 (vencs l0).length c7) (vencs l0), buf w1.heap.size (vencs l0)]) :=
        hS7.out.pick3.perm (List.Perm.cons _ (List.perm_append_comm (l₁ := [_, _]) (l₂ := [_])))
      refine (run_calls w _ A7 c7 (vencs l0) 41 #[.pointer (some ⟨g0, 0, none⟩), .pointer (some ⟨wr.heap.size, 0, none⟩)] _ _ (fun at2 x qs => x = 0 ∧ qs = [blk g0 #[.slice A0 l0.length c0] 41, blk wr.heap.size #[.bool true] 4])
        Try.call41 hS8 hR7.out.2.2 hR7.out.2.1 (by omega) (fun w1 g ps' h1 => (clos_back w w1 g g0 wr.heap.size A0 c0 l0 ps' h1 HR.out hU hlen).mono ?_)).mono ?_
      · rintro e w2 ⟨rfl, h2⟩
        exact ⟨(vencs l0).length, 0, _, ⟨rfl, rfl⟩, h2, .inl ⟨rfl, rfl⟩⟩
      clear hS8 hSa
      rintro e w9 ⟨at2, x, qs, ⟨rfl, rfl⟩, rfl, h9⟩
      have hS9 : Sep.Sep w w9 (buf w1.heap.size (vencs l0) :: [blk g0 #[.slice A0 l0.length c0] 41, blk wr.heap.size #[.bool true] 4, row (Kd.int .u8) 5 (.slice A7 (vencs l0).length c7) (vencs l0)]) := h9.pick3
      have hS9 := Aside0.mk hS9
      have hc9_0 : w9.cell? ⟨wr.heap.size, 0, none⟩ = some (.bool true) := ((h9.pick1).cell 0).trans rfl
      clear h9
      go_wp2_with (first | ((with_reducible refine gate_callee (f := 24) rfl ?_); (try (refine gate_guard (by rfl) ?_; dsimp only)); refine goesL_ (some 54) rfl rfl Try.func24 (by kernel_rfl) rfl #[.pointer (some ⟨w1.heap.size, 0, none⟩)] rfl (by (try simp only [List.map_toArray, List.map_cons, List.map_nil]); first | done | rfl) ?_; (refine (buf_Bytes w _ w1.heap.size _ _ hS9.out (by omega)).mono ?_); rintro e w10 ⟨v10, rfl, h10⟩; refine ⟨_, rfl, ?_⟩; have hS10 := Aside0.mk h10; obtain ⟨bs10, hR10⟩ := h10.row_R; have hcv := own_string (P := Try.prog) Try.underlying22 Try.underlying5 Try.underlying9 (Kd.own_of_R hR10); clear h10))
      go_ret
      exact ⟨by first | rfl | simp, hS10.out.1⟩

end Go.Proofs.Ytdpghobknhkikaa.G
