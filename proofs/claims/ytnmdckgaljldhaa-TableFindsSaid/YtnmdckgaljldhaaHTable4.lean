/- table: slices.Clone. -/
import Derived.Test.YtnmdckgaljldhaaHTable3
import Derived.Lib.SliceRun
set_option linter.unusedVariables false
set_option linter.unusedSimpArgs false
namespace Go.Proofs.Ytnmdckgaljldhaa.Tb
open Go Go.RowKit Go.Proofs.YtnmdckgaljldhaaW.PrintWords Go.Proofs.YtnmdckgaljldhaaW.PrintLast Go.Proofs.YtnmdckgaljldhaaW.PrintMore Go.Proofs.Ytnmdckgaljldhaa.Sep Go.Proofs.Ytnmdckgaljldhaa.G
set_option maxHeartbeats 4000000
set_option maxRecDepth 100000

theorem clone_nil (c : Nat) (w : World) : Calls Try.prog 85 #[.slice none 0 c] w fun r w' => r = .returned (.slice none 0 0) ∧ w' = w := by
  have hq := fun W => Go.Lib.run_eql_slice_nil (P := Try.prog) W 77 _ none 0 c 0 0 Try.underlying77
  go_enter Try.func85, Try.ntmps85
  go_wp2_with (fail)
  go_ret
  exact ⟨rfl, rfl⟩
theorem clone_some (ad : Addr) (c : Nat) (l : List E1) (w : World) (hC : kE.C w (some ad) l.length l) (hl : l.length ≤ 1000000) :
    Calls Try.prog 85 #[.slice (some ad) l.length c] w fun r w' => (∃ g cap, r = .returned (.slice (some ⟨g, 0, none⟩) l.length cap) ∧ kE.R 81 w' w.heap.size (fun _ => True) (.slice (some ⟨g, 0, none⟩) l.length cap) l) ∧ Below w.heap.size w w' := by
  have hq := fun W => Go.Lib.run_eql_slice_nil (P := Try.prog) W 77 _ (some ad) l.length c 0 0 Try.underlying77
  have hC1 := Aside0.mk hC
  have hlA := Aside0.mk hl
  clear hC hl
  go_enter Try.func85, Try.ntmps85
  go_wp2_with (first
    | ((with_reducible refine gate_dst (N := 5) rfl ?_); refine Kd.R_lit kE w.heap.size 81 ?hg (N := 5) ?hd (w0 := w) (xs := ([] : List E1)) (inner := []) (ok := fun _ => True) (okp := fun _ => True) ?hr ?hp (fun _ hk => hk) trivial (Below.refl _ _) (Nat.le_refl _) (by simp) ?_; (case hd => rfl); (case hg => rfl); (case hr => first | (go_simp; done) | (go_simp; rfl)); (case hp => exact (Reps.none _ _)); intro v2 w2 ho2 hb2 hg2 hn2; have hC2 := Aside0.mk (Kd.C_below hC1.out (show Below w.heap.size w w2 from hb2)); have ho2A := Aside0.mk ho2; have hb2A := Aside0.mk hb2; have hn2A := Aside0.mk hn2; clear hg2 hn2 ho2 hb2)
    | ((with_reducible refine gate_builtin (b := .append) (xs := #[.tmp 5, .tmp 6]) rfl ?_); at_builtin; refine Kd.R_append_rows kE (Rr := fun x cs => kE.K w2 x cs) (w0 := w) w.heap.size rfl (.tmp 5) (.tmp 6) 77 81 (.agg #[.int .u64 0, .int .u32 0]) 16 rfl Try.underlying77 (by kernel_rfl) rfl (by decide) (by omega) v2 ([] : List E1) l _ _ _ (fun _ => True) (fun _ => False) rfl rfl ?aO ?aR ?aM (fun _ h => h.elim) ?aF ?aB ?aS ?aL ?_; (case aR => exact hC2.out); (case aM => (intro x_ cs_ h_; obtain rfl := k81_open h_; exact k81_mkM _ _ _ _)); (case aO => exact ho2A.out); (case aF => exact fun _ _ => trivial); (case aB => exact hb2A.out); (case aS => exact hb2A.out.size); (case aL => (have := hlA.out; simp only [List.length_nil]; omega)); intro v3 w3 ho3 hb3 hg3 hat3; have ho3A := Aside0.mk ho3; have hb3A := Aside0.mk hb3; have hat3A := Aside0.mk hat3; clear ho3 hb3 hg3 hat3))
  go_ret
  have ho := ho3A.out
  rw [List.nil_append] at ho
  have hown : ∃ b, v3.ownBlock = some b := by
    rcases hat3A.out with h | ⟨b, h, _⟩
    · obtain ⟨b, hb, _⟩ := hn2A.out
      exact ⟨b, h.trans hb⟩
    · exact ⟨b, h⟩
  obtain ⟨b, hb⟩ := hown
  obtain ⟨A, cap, rfl⟩ := Kd.R_slice ho
  obtain ⟨_, inner, ⟨_, hor⟩, _⟩ := id ho
  rcases hor with ⟨hv, _⟩ | ⟨g, cap', cur, hv, _⟩
  · rw [hv] at hb; simp [Value.ownBlock] at hb
  · injection hv with e1 e2 e3
    subst e1
    exact ⟨⟨g, cap, rfl, ho⟩, hb3A.out⟩
end Go.Proofs.Ytnmdckgaljldhaa.Tb
