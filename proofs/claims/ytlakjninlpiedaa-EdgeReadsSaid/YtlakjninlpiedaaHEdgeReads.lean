/- EdgeReads, walked. -/
import Derived.Test.YtlakjninlpiedaaHEdgeR3
set_option linter.unusedVariables false
set_option linter.unusedSimpArgs false
namespace Go.Proofs.Ytlakjninlpiedaa.Fw
open Go Go.RowKit Go.Proofs.YtlakjninlpiedaaW.PrintWords Go.Proofs.YtlakjninlpiedaaW.PrintLast Go.Proofs.YtlakjninlpiedaaW.PrintMore Go.Proofs.Ytlakjninlpiedaa.PureKit Go.Proofs.Ytlakjninlpiedaa.Fl Go.Proofs.Ytlakjninlpiedaa.Sep Go.Proofs.Ytlakjninlpiedaa.G
set_option maxHeartbeats 8000000
set_option maxRecDepth 100000
attribute [local go_sem] run_f64bits run_frombits run_store_float

theorem edgeReads_call (A : Option Addr) (c : Nat) (l : List Nat) (B : Option Addr) (cb : Nat) (b : List Int) (hx : ∀ x ∈ l, x < 18446744073709551616) (hb : Bytes b) (w : World) (hC : KF.C w A l.length l) (hD : Kd.C (Kd.int .u8) w B b.length b) (hcb : b.length ≤ cb) :
    Calls Try.prog 12 #[.slice A l.length c, .slice B b.length cb] w fun e w' => e = .returned (.bool true) ∧ Below w.heap.size w w' := by
  have hu := Try.underlying83
  have hsz : ∀ (W : World) (o : Obj), (W.alloc o).heap.size = W.heap.size + 1 := fun W o => by show (W.heap.push _).size = _; simp
  have hmf : ∀ (fn : Fn) (first cap : Array Value) (w : World), (Instr.makeFunc fn first cap).run Try.prog w = .ok (.func fn first cap) w := fun _ _ _ _ => rfl
  have hS0 := Aside0.mk ((Sep.start w).alloc #[.slice A l.length c] 52)
  have hCA := Aside0.mk hC
  have hDA := Aside0.mk hD
  have hxA := Aside0.mk hx
  have hbA := Aside0.mk hb
  have hcA := Aside0.mk hcb
  clear hC hD hx hb hcb
  by_cases hbig : 30 < l.length
  · have hd : decide ((l.length : Int) > 30) = true := decide_eq_true (by omega)
    have hd3 : decide (30 < l.length) = true := decide_eq_true hbig
    clear hbig
    go_enter Try.func12, Try.ntmps12
    go_wp2_with (fail)
    refine (law_lives _).mono ?_
    rintro e w1 ⟨rfl, hw1⟩
    rw [← hw1] at hS0
    have h1 := hS0.out
    have hc_0 : w1.cell? ⟨w.heap.size, 0, none⟩ = some (.slice A l.length c) := ((h1).cell 0).trans rfl
    clear hw1 h1
    go_wp2_with (fail)
    refine (law_lives _).mono ?_
    rintro e w2 ⟨rfl, hw2⟩
    rw [← hw2] at hS0
    clear hw2 hc_0
    go_wp2_with (fail)
    go_ret
    exact ⟨rfl, hS0.out.1⟩
  have hd : decide ((l.length : Int) > 30) = false := decide_eq_false (by omega)
  have hd3 : decide (30 < l.length) = false := decide_eq_false hbig
  by_cases hbb : 100 < b.length
  · have he : decide ((b.length : Int) > 100) = true := decide_eq_true (by omega)
    have he3 : decide (100 < b.length) = true := decide_eq_true hbb
    clear hbig hbb
    go_enter Try.func12, Try.ntmps12
    go_wp2_with (fail)
    refine (law_lives _).mono ?_
    rintro e w1 ⟨rfl, hw1⟩
    rw [← hw1] at hS0
    have h1 := hS0.out
    have hc_0 : w1.cell? ⟨w.heap.size, 0, none⟩ = some (.slice A l.length c) := ((h1).cell 0).trans rfl
    clear hw1 h1
    go_wp2_with (fail)
    refine (law_lives _).mono ?_
    rintro e w2 ⟨rfl, hw2⟩
    rw [← hw2] at hS0
    clear hw2 hc_0
    go_wp2_with (fail)
    go_ret
    exact ⟨rfl, hS0.out.1⟩
  have he : decide ((b.length : Int) > 100) = false := decide_eq_false (by omega)
  have he3 : decide (100 < b.length) = false := decide_eq_false hbb
  have hle := Aside0.mk (show l.length ≤ 30 ∧ b.length ≤ 100 by omega)
  clear hbig hbb
  go_enter Try.func12, Try.ntmps12
  go_wp2_with (fail)
  refine (law_lives _).mono ?_
  rintro e w1 ⟨rfl, hw1⟩
  rw [← hw1] at hS0
  have h1 := hS0.out
  have hc_0 : w1.cell? ⟨w.heap.size, 0, none⟩ = some (.slice A l.length c) := ((h1).cell 0).trans rfl
  have hq := h1.buf_new
  have hd_0 : (w1.alloc (.cells #[.slice none 0 0] 72 (0, 0))).cell? ⟨w.heap.size, 0, none⟩ = some (.slice A l.length c) := ((hq.pick1).cell 0).trans rfl
  have hSb := Aside0.mk hq
  clear hw1 h1 hq
  generalize hgl : w.heap.size = gl at *
  generalize hgb : w1.heap.size = gb at *
  go_wp2_with (fail)
  go_loopg [6, 32] l.length (fun kq v6 v32 w' => ∃ (i : Nat), v6 = .string (strOfNums (efs (l.take i))) ∧ v32 = .int .i64 (i : Int) ∧ Aside0 (i + kq = l.length) ∧ Aside0 (Sep.Sep w w' [buf gb (efs (l.take i)), blk gl #[.slice A l.length c] 52]))
  case atStart => exact ⟨0, rfl, rfl, ⟨by omega⟩, hSb⟩
  case round =>
    clear hS0 hc_0 hd_0 hSb
    obtain ⟨i, rfl, rfl, hA, hS⟩ := hrel
    by_cases hil : i < l.length
    · obtain ⟨k1, rfl⟩ : ∃ k1, gk = k1 + 1 := ⟨gk - 1, by have := hA.out; omega⟩
      have hd : decide ((i : Int) < (l.length : Int)) = true := decide_eq_true (by omega)
      have hd2 : decide (i < l.length) = true := decide_eq_true hil
      have hCw := Kd.C_below hCA.out hS.out.1
      obtain ⟨ad, e0⟩ := C_some hCw (by omega)
      subst e0
      have hc0 := C_cell hCw i hil
      have p0 : ((0 : Int) ≤ (i : Int)) = True := eq_true (by omega)
      have q0 : ((i : Int) < (l.length : Int)) = True := eq_true (by omega)
      have hw1 : wrap64 ((i : Int) + 1) = ((i + 1 : Nat) : Int) := by rw [show ((i : Int) + 1) = ((i + 1 : Nat) : Int) from rfl]; unfold wrap64; have := hle.out; omega
      have hsn := efs_snoc l i hil
      obtain ⟨x, hxx⟩ : ∃ x, l[i] = x := ⟨_, rfl⟩
      have hxb : x < 18446744073709551616 := by rw [← hxx]; exact hxA.out _ (List.getElem_mem hil)
      have hlt := bitsv_lt hxb
      rw [hxx] at hc0 hsn
      have hlen : (efs (l.take i)).length ≤ 240 := by rw [efs_len, List.length_take]; have := hle.out; omega
      have hP := Aside0.mk (fun W hW => edge_Put w W gb x (efs (l.take i)) [blk gl #[.slice (some ad) l.length c] 52] hW hxb (by omega))
      have cB := ref_Bits x
      obtain ⟨K8, hK8⟩ := (refn 8 (bitsv x : Int) (by decide) (by omega) (by omega)).rounds
      have hK8 : fascicleref01_Num.f K8 ((bitsv x : Nat) : Int) 8 = some (strOfNums (nbytes 8 (bitsv x : Int))) := hK8
      have hcat : strOfNums (efs (l.take i)) ++ strOfNums (nbytes 8 (bitsv x : Int)) = strOfNums (efs (l.take (i + 1))) := by rw [hsn, PureKit.nums_append]
      have z8 : (strOfNums (nbytes 8 (bitsv x : Int))).size = 8 := by rw [nums_size, nbytes_len]
      have zT : (strOfNums (efs (l.take i))).size ≤ 240 := by rw [nums_size]; exact hlen
      rw [← hsn] at hP
      obtain ⟨T2, hT2⟩ : ∃ T2, strOfNums (efs (l.take (i + 1))) = T2 := ⟨_, rfl⟩
      rw [hT2] at hcat
      have hT2A := Aside0.mk hT2
      clear hT2
      generalize strOfNums (efs (l.take i)) = T at *
      generalize strOfNums (nbytes 8 (bitsv x : Int)) = N8 at *
      have c1_ : (9223372036854775807 < T.size + N8.size) = False := eq_false (by omega)
      have hcatA := Aside0.mk hcat
      have hKA := Aside0.mk hK8
      have hA' : Aside0 (i + 1 + k1 = l.length) := ⟨by have := hA.out; omega⟩
      generalize bitsv x = y at *
      clear hxx hxb hlt hsn hlen hcat z8 zT hK8 hil
      go_wp2_with (fail)
      refine (hP.out _ hS.out).mono ?_
      rintro e w2 ⟨rfl, h2⟩
      have hS2 := Aside0.mk h2
      clear h2
      go_wp2_with (fail)
      refine (cB _).mono ?_
      rintro e w3 ⟨rfl, hw3⟩
      subst hw3
      go_wp2_with (fail)
      refine (fascicleref01_Num.calls K8 (y : Int) 8 N8 _ hKA.out).mono ?_
      rintro e w4 ⟨rfl, hb4⟩
      have hS4 := Aside0.mk (hS2.out.below hb4)
      clear hb4
      go_wp2_with (fail)
      go_roundg k1
      case measure => omega
      case rel => exact ⟨i + 1, by rw [hcatA.out, hT2A.out], by rw [hw1], hA', hS4⟩
    · have hd : decide ((i : Int) < (l.length : Int)) = false := decide_eq_false (by omega)
      have hd2 : decide (i < l.length) = false := decide_eq_false hil
      have hi : l.take i = l := List.take_of_length_le (by omega)
      rw [hi] at hS ⊢
      clear hil hi
      have hSa := Aside0.mk (hS.out.alloc #[.bool true] 4).pick1
      go_wp2_with (fail)
      have hL : (efs l).length ≤ 240 := by rw [efs_len]; have := hle.out; omega
      obtain ⟨gr, hgr⟩ : ∃ gr, wr.heap.size = gr := ⟨_, rfl⟩
      rw [hgr] at hSa ⊢
      refine (buf_Bytes w _ gb _ _ hSa.out (by omega)).mono ?_
      rintro e w7 ⟨v7, rfl, h7⟩
      have hS7 := Aside0.mk h7
      obtain ⟨bs7, hR7⟩ := h7.row_R
      obtain ⟨A7, c7, e7⟩ := Kd.R_slice hR7
      subst e7
      have hR7 := Aside0.mk (Kd.R_reads' hR7)
      clear h7 hSa
      have hS8 : Sep.Sep w w7 (cps gl gr A c l ++ [row (Kd.int .u8) 5 (.slice A7 (efs l).length c7) (efs l), buf gb (efs l)]) :=
        (hS7.out.perm (List.perm_append_comm (l₁ := [_, _]) (l₂ := [_, _]))).pick1
      go_wp2_with (fail)
      refine (run_calls w _ A7 c7 (efs l) 60 #[.pointer (some ⟨gl, 0, none⟩), .pointer (some ⟨gr, 0, none⟩)] _ _ (fun at2 x qs => at2 = (efs l).length ∧ x = 0 ∧ qs = cps gl gr A c l)
        Try.call60 hS8 hR7.out.2.2 hR7.out.2.1 (by omega) (fun w1 g ps' h1 => (clos_row w w1 g gl gr A c l ps' h1 hCA.out hxA.out hle.out.1).mono ?_)).mono ?_
      · rintro e w2 ⟨rfl, h2⟩
        exact ⟨(efs l).length, 0, _, ⟨rfl, rfl, rfl⟩, h2, .inl ⟨rfl, rfl⟩⟩
      clear hS8 hS7
      rintro e w9 ⟨at2, x, qs, ⟨rfl, rfl, rfl⟩, rfl, h9⟩
      have hS9 : Sep.Sep w w9 (buf gb (efs l) :: (cps gl gr A c l ++ [row (Kd.int .u8) 5 (.slice A7 (efs l).length c7) (efs l)])) := h9.pick3
      have hS9 := Aside0.mk hS9
      have hc9_0 : w9.cell? ⟨gr, 0, none⟩ = some (.bool true) := ((h9.pick1).cell 0).trans rfl
      clear h9
      go_wp2_with (fail)
      refine (buf_Bytes w _ gb _ _ hS9.out (by omega)).mono ?_
      rintro e w10 ⟨v10, rfl, h10⟩
      have hSx := Aside0.mk h10.tail
      obtain ⟨bs10, hR10⟩ := h10.row_R
      obtain ⟨A10, c10, e10⟩ := Kd.R_slice hR10
      subst e10
      have hcv := own_string (P := Try.prog) Try.underlying70 Try.underlying5 Try.underlying9 (Kd.own_of_R hR10)
      clear h10 hR10 hc9_0
      have hSy := Aside0.mk (hSx.out.alloc #[.float .f64 0] 38)
      go_upto_region 15 with (fail)
      clear hcv
      go_wp2_with (fail)
      obtain ⟨gx, hgx⟩ : ∃ gx, w10.heap.size = gx := ⟨_, rfl⟩
      rw [hgx] at hSy ⊢
      have hlb : b.length ≤ 1000000000000 := by have := hle.out; omega
      refine (run_calls w _ B cb b 63 #[.pointer (some ⟨gx, 0, none⟩)] [blk gx #[.float .f64 0] 38] _ (fun at2 x qs => at2 = (eread b).1 ∧ x = (eread b).2.1 ∧ qs = [blk gx #[.float .f64 (eread b).2.2] 38])
        Try.call63 hSy.out (Kd.C_below hDA.out hSy.out.1) hcA.out hlb (fun w1 g ps' h1 => clos_one w w1 g gx b ps' h1 hbA.out hlb)).mono ?_
      rintro e w11 ⟨at2, x, qs, ⟨rfl, rfl, rfl⟩, rfl, h11⟩
      clear hSy hSx
      have hS11 := Aside0.mk h11
      clear h11
      have hrg := Aside0.mk (fun W => ref_Get W b hbA.out (by have := hle.out; omega))
      have hea : (eread b).2.2 < 18446744073709551616 := by
        unfold eread
        split
        · rename_i h8
          obtain ⟨n, -, h2, h3⟩ := lev8 hbA.out h8
          rw [h2]
          split
          · exact h3
          · decide
        · decide
      have hcs := law_same (eread b).2.2 (eread b).2.2
      rw [decide_eq_true rfl] at hcs
      obtain ⟨ea, hea1⟩ : ∃ ea, (eread b).1 = ea := ⟨_, rfl⟩
      obtain ⟨ee, hee1⟩ : ∃ ee, (eread b).2.1 = ee := ⟨_, rfl⟩
      obtain ⟨ex, hex1⟩ : ∃ ex, (eread b).2.2 = ex := ⟨_, rfl⟩
      rw [hea1, hee1, hex1] at hrg
      rw [hex1] at hS11 hcs hea
      rw [hea1, hee1]
      have hcv := Kd.C_string (P := Try.prog) (A := B) (c := cb) Try.underlying70 Try.underlying5 Try.underlying9 (Kd.C_below hDA.out hS11.out.1)
      clear hea1 hee1 hex1 hea hgx
      go_wp2_with (fail)
      refine (hrg.out _).mono ?_
      rintro e w12 ⟨⟨S, rfl⟩, hb12⟩
      have h12 := hS11.out.below hb12
      clear hcv hb12
      have h13 := h12.alloc #[.string S, .int .i64 (ea : Int), .int .i64 ee] 83
      have hcx_0 : (w12.alloc (.cells #[.string S, .int .i64 (ea : Int), .int .i64 ee] 83 (0, 0))).cell? ⟨gx, 0, none⟩ = some (.float .f64 ex) := ((h13.pick1).cell 0).trans rfl
      have hS13 := Aside0.mk h13
      clear h12 h13
      go_wp2_with (fail)
      refine (hcs _).mono ?_
      rintro e w14 ⟨rfl, hw14⟩
      rw [← hw14] at hS13
      have h14 := hS13.out
      have hcy_0 : w14.cell? ⟨w12.heap.size, 0, none⟩ = some (.string S) := ((h14).cell 0).trans rfl; have hcy_1 : w14.cell? ⟨w12.heap.size, 1, none⟩ = some (.int .i64 (ea : Int)) := ((h14).cell 1).trans rfl; have hcy_2 : w14.cell? ⟨w12.heap.size, 2, none⟩ = some (.int .i64 ee) := ((h14).cell 2).trans rfl
      clear hcx_0 hw14 h14
      go_wp2_with (fail)
      go_ret
      exact ⟨by first | rfl | simp, hS13.out.1⟩
theorem edgeReads_row (A : Option Addr) (c : Nat) (l : List Nat) (B : Option Addr) (cb : Nat) (b : List Int) (hx : ∀ x ∈ l, x < 18446744073709551616) (hb : ∀ y ∈ b, (Lit.int .u8 y).wf = true) (w : World) (hC : KF.C w A l.length l) (hc : l.length ≤ c) (hD : Kd.C (Kd.int .u8) w B b.length b) (hcb : b.length ≤ cb) :
    Calls Try.prog 12 #[.slice A l.length c, .slice B b.length cb] w fun e w' => e = .returned (.bool true) ∧ Below w.heap.size w w' :=
  edgeReads_call A c l B cb b hx (Bytes.of_wf hb) w hC hD hcb
end Go.Proofs.Ytlakjninlpiedaa.Fw
