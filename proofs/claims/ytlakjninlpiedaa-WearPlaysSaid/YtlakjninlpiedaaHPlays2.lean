/- wear: the document's Note; a gauge's copy. -/
import Derived.Test.YtlakjninlpiedaaHPlays1
import Derived.Shelf.SlMaps.Clone
set_option linter.unusedVariables false
set_option linter.unusedSimpArgs false
namespace Go.Proofs.Ytlakjninlpiedaa.Fw
open Go Go.RowKit Go.Proofs.YtlakjninlpiedaaW.PrintWords Go.Proofs.YtlakjninlpiedaaW.PrintLast Go.Proofs.YtlakjninlpiedaaW.PrintMore Go.Proofs.Ytlakjninlpiedaa.Fl Go.Proofs.Ytlakjninlpiedaa.Sep Go.Proofs.Ytlakjninlpiedaa.G Go.Proofs.Ytlakjninlpiedaa.GY
set_option maxHeartbeats 4000000
set_option maxRecDepth 100000
attribute [local go_sem] run_f64bits run_frombits max2_int min2_int

theorem ref_Note_arg (A : Option Addr) (c : Nat) (s k x : Nat) (w : World) (hs : s ≤ 65536) (hk : s ≤ k) (hk2 : k < 4294967296) :
    Calls Try.prog 49 #[.slice A s c, .int .u32 (k : Int), .int .u64 (x : Int)] w fun r w' => r = .returned (.tuple #[.slice A s c, .int .i64 1]) ∧ w' = w := by
  have q1 : IntKind.u64.wrap (k : Int) = (k : Int) := by rw [IntKind.wrap_u64]; omega
  have q2 : IntKind.u64.wrap (s : Int) = (s : Int) := by rw [IntKind.wrap_u64]; omega
  have d1 : decide ((s : Int) ≤ (k : Int)) = true := decide_eq_true (by omega)
  have d2 : decide (s ≤ k) = true := decide_eq_true hk
  clear hs hk hk2
  go_enter Try.func49, Try.ntmps49
  go_wp2_with (fail)
  go_ret2
  exact ⟨rfl, rfl⟩
theorem ref_Note_full (A : Option Addr) (c : Nat) (xs : List Int) (f : Nat → Nat) (s t k x : Nat) (w : World) (hC : Kd.C (Kd.int .u64) w A s xs) (hR : Rw xs f s) (hc : s ≤ c) (hs : s ≤ 65536) (hJ : Cs f s t) (hk : k < s) (hx : 9007199254740992 < t + x) :
    Calls Try.prog 49 #[.slice A s c, .int .u32 (k : Int), .int .u64 (x : Int)] w fun r w' => r = .returned (.tuple #[.slice A s c, .int .i64 7]) ∧ Drawn0 w w' := by
  have hT := Aside0.mk (tot_f hR hs hJ)
  have q1 : IntKind.u64.wrap (k : Int) = (k : Int) := by rw [IntKind.wrap_u64]; omega
  have q2 : IntKind.u64.wrap (s : Int) = (s : Int) := by rw [IntKind.wrap_u64]; omega
  have d1 : decide ((s : Int) ≤ (k : Int)) = false := decide_eq_false (by omega)
  have d2 : decide (s ≤ k) = false := decide_eq_false (by omega)
  have hl := hR.1
  have ht := hJ.2.2
  have hCA := Aside0.mk hC
  have hcA := Aside0.mk hc
  by_cases hx1 : 9007199254740992 < x
  · have d3 : decide ((x : Int) > 9007199254740992) = true := decide_eq_true (by omega)
    have d4 : decide ((9007199254740992 : Int) < (x : Int)) = true := decide_eq_true (by omega)
    have d5 : decide (9007199254740992 < x) = true := decide_eq_true hx1
    clear hC hR hc hs hJ hk hx hx1 hl ht
    go_enter Try.func49, Try.ntmps49
    go_wp2_with (fail)
    go_ret2
    exact ⟨rfl, Drawn0.refl _⟩
  · have d3 : decide ((x : Int) > 9007199254740992) = false := decide_eq_false (by omega)
    have d4 : decide ((9007199254740992 : Int) < (x : Int)) = false := decide_eq_false (by omega)
    have d5 : decide (9007199254740992 < x) = false := decide_eq_false hx1
    have q3 : IntKind.u64.wrap ((t : Int) + (x : Int)) = ((t + x : Nat) : Int) := by rw [IntKind.wrap_u64]; omega
    have d6 : decide (((t + x : Nat) : Int) > 9007199254740992) = true := decide_eq_true (by omega)
    have d7 : decide ((9007199254740992 : Int) < ((t + x : Nat) : Int)) = true := decide_eq_true (by omega)
    have d8 : decide (9007199254740992 < t + x) = true := decide_eq_true hx
    subst hl
    clear hC hR hc hs hJ hk hx hx1 ht
    generalize t + x = y at *
    go_enter Try.func49, Try.ntmps49
    go_wp2_with (fail)
    refine (fascicleref29_Total.calls _ A c xs t _ hCA.out hcA.out hT.out).mono ?_
    rintro r w1 ⟨rfl, hd⟩
    have hdA := Aside0.mk hd
    clear hd
    go_wp2_with (fail)
    go_ret2
    exact ⟨rfl, hdA.out⟩
theorem ref_Note_ok (A : Option Addr) (c : Nat) (xs : List Int) (f : Nat → Nat) (s t k x : Nat) (w : World) (hC : Kd.C (Kd.int .u64) w A s xs) (hR : Rw xs f s) (hc : s ≤ c) (hs : s ≤ 65536) (hJ : Cs f s t) (hk : k < s) (hx : t + x ≤ 9007199254740992) :
    Calls Try.prog 49 #[.slice A s c, .int .u32 (k : Int), .int .u64 (x : Int)] w fun r w' => ∃ v, r = .returned (.tuple #[v, .int .i64 0]) ∧ (Kd.int .u64).R 32 w' w.heap.size (fun _ => True) v (xs.set k ((f k + x : Nat) : Int)) ∧ Below w.heap.size w w' := by
  have hT := Aside0.mk (tot_f hR hs hJ)
  have q1 : IntKind.u64.wrap (k : Int) = (k : Int) := by rw [IntKind.wrap_u64]; omega
  have q2 : IntKind.u64.wrap (s : Int) = (s : Int) := by rw [IntKind.wrap_u64]; omega
  have d1 : decide ((s : Int) ≤ (k : Int)) = false := decide_eq_false (by omega)
  have d2 : decide (s ≤ k) = false := decide_eq_false (by omega)
  have hl := hR.1
  have ht := hJ.2.2
  have hfk := hJ.le k
  have hrd : rdOf 0 xs (k : Int) = (f k : Int) := hR.2 k hk
  have hCA := Aside0.mk hC
  have hcA := Aside0.mk hc
  have hkA := Aside0.mk hk
  have hsA := Aside0.mk hs
  have d3 : decide ((x : Int) > 9007199254740992) = false := decide_eq_false (by omega)
  have d4 : decide ((9007199254740992 : Int) < (x : Int)) = false := decide_eq_false (by omega)
  have d5 : decide (9007199254740992 < x) = false := decide_eq_false (by omega)
  have q3 : IntKind.u64.wrap ((t : Int) + (x : Int)) = ((t + x : Nat) : Int) := by rw [IntKind.wrap_u64]; omega
  have q4 : IntKind.u64.wrap ((f k : Int) + (x : Int)) = ((f k + x : Nat) : Int) := by rw [IntKind.wrap_u64]; omega
  have d6 : decide (((t + x : Nat) : Int) > 9007199254740992) = false := decide_eq_false (by omega)
  have d7 : decide ((9007199254740992 : Int) < ((t + x : Nat) : Int)) = false := decide_eq_false (by omega)
  have d8 : decide (9007199254740992 < t + x) = false := decide_eq_false (by omega)
  subst hl
  clear hC hR hc hs hJ hx ht hfk
  generalize t + x = y at *
  generalize f k + x = z at *
  generalize f k = fk at *
  have p1 : ((0 : Int) ≤ (k : Int)) = True := eq_true (by omega)
  have p2 : ((k : Int) < (xs.length : Int)) = True := eq_true (by omega)
  clear hk
  go_enter Try.func49, Try.ntmps49
  go_wp2_with (fail)
  refine (fascicleref29_Total.calls _ A c xs t _ hCA.out hcA.out hT.out).mono ?_
  rintro r w1 ⟨rfl, hd⟩
  have hb1 := Aside0.mk hd.below
  have hC1 := Aside0.mk (Kd.C_below hCA.out hd.below)
  clear hd hCA
  go_wp2_with (first
    | ((with_reducible refine gate_dst (N := 26) rfl ?_); refine Kd.R_lit (Kd.int .u64) w.heap.size 32 ?hg (N := 26) ?hd (w0 := w) (xs := ([] : List Int)) (inner := []) (ok := fun _ => True) (okp := fun _ => True) ?hr ?hp (fun _ hk => hk) trivial hb1.out hb1.out.size (by simp) ?_; (case hd => rfl); (case hg => rfl); (case hr => first | (go_simp; done) | (go_simp; rfl)); (case hp => exact (Reps.none _ _)); intro v2 w2 ho2 hb2 hg2 hn2; have hC2 := Aside0.mk (Kd.C_below hC1.out (show Below w1.heap.size w1 w2 from ⟨hg2.os, hg2.tape, hg2.output, hg2.size, fun j hj => hg2.block j hj (by simp)⟩)); have ho2A := Aside0.mk ho2; have hb2A := Aside0.mk hb2; clear hg2 hn2 ho2 hb2)
    | ((with_reducible refine gate_builtin (b := .append) (xs := #[.tmp 26, .tmp 27]) rfl ?_); at_builtin; refine Kd.R_append_rows (Kd.int .u64) (w0 := w) w.heap.size rfl (.tmp 26) (.tmp 27) 62 32 (.int .u64 0) 8 rfl Try.underlying62 (by kernel_rfl) rfl (by decide) (by omega) v2 ([] : List Int) xs _ _ _ (fun _ => True) (fun _ => False) rfl rfl ?aO ?aR (fun _ _ h => h) (fun _ h => h.elim) ?aF ?aB ?aS ?aL ?_; (case aR => exact hC2.out); (case aO => exact ho2A.out); (case aF => exact fun _ _ => trivial); (case aB => exact hb2A.out); (case aS => exact hb2A.out.size); (case aL => (have := hsA.out; simp only [List.length_nil]; omega)); intro v3 w3 ho3 hb3 hg3 hat3; clear hg3 hat3; rw [List.nil_append] at ho3; obtain ⟨go3, co3, eo3, gb3, gl3, cl3, HG3⟩ := Kd.R_form ho3 (by have := hkA.out; omega); subst eo3; obtain ⟨hx3, hf3⟩ := Kd.R_celln 0 ho3 (k : Int) (of_eq_true p1) (of_eq_true p2); rw [hrd] at hx3; have HP3_ := (Kd.R_putg ho3 (k : Int) (z : Int)).1; rw [Int.toNat_natCast] at HP3_ hx3 hf3; have HP3 := Aside0.mk HP3_; clear HP3_; have hb3A := Aside0.mk (below_set hb3 gb3 : Below w.heap.size w (w3.setCell ⟨go3, k, none⟩ (.int .u64 (z : Int)))); clear ho3 hb3 gb3 gl3 HG3))
  go_ret2
  exact ⟨_, rfl, HP3.out, hb3A.out⟩
end Go.Proofs.Ytlakjninlpiedaa.Fw
