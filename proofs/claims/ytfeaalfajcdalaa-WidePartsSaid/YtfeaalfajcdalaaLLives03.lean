/- fasciclelaw03.lives holds; thin.Sum of bytes. -/
import Derived.Test.YtfeaalfajcdalaaMThin
import Derived.Lib.SlBytesConst
set_option linter.unusedVariables false
set_option linter.unusedSimpArgs false
namespace Go.Proofs.Ytfeaalfajcdalaa.G
open Go Go.RowKit Go.Proofs.YtfeaalfajcdalaaW.PrintWords Go.Proofs.YtfeaalfajcdalaaW.PrintLast Go.Proofs.YtfeaalfajcdalaaW.PrintMore Go.Proofs.Ytfeaalfajcdalaa.PureKit Go.Proofs.Ytfeaalfajcdalaa.Sep Go.Proofs.Ytfeaalfajcdalaa.Rol

theorem thin_ev (a0 : Int) (l : List Int) (h0 : 0 ≤ a0) (h1 : a0 < 4294967296) (hb : Bytes l) : thin_Sum.f a0 l = some ((tsum a0.toNat l : Nat) : Int) := by
  unfold thin_Sum.f
  rw [if_pos ⟨h0, h1, (bytesOK_iff l).2 hb⟩]
theorem sum_none : tsum 0 [] = 46947589 := by decide +kernel
theorem sum_abc : tsum 0 [97, 98, 99] = 852579327 := by decide +kernel
def fasciclelaw03_lives.f : Option Bool := some true
theorem lives03 : fasciclelaw03_lives.f = some true := rfl
theorem row_C3 {W : World} {g : Nat} {cs : Array Value} {T : TypeId} {n : Nat × Nat} (l : List Int) (hb : W.heap[g]? = some (.cells cs T n)) (hc : cs = (l.map (Value.int .u8)).toArray) (hl : l.length ≤ 9223372036854775807) :
    Kd.C (Kd.int .u8) W (some ⟨g, 0, none⟩) l.length l := by
  refine ⟨rfl, hl, fun _ => ⟨_, rfl, fun j p hj => ⟨[.int .u8 p], rfl, rfl, fun i u hu => ?_⟩⟩⟩
  have hi : i = 0 := by
    rcases i with _ | i
    · rfl
    · simp at hu
  subst hi
  simp only [List.getElem?_cons_zero, Option.some.injEq] at hu
  subst hu
  have ha : (⟨g, 0, none⟩ : Addr).add (j * 1 + 0) = ⟨g, j, none⟩ := by unfold Addr.add; split <;> simp_all
  show World.cell? _ ((⟨g, 0, none⟩ : Addr).add (j * 1 + 0)) = _
  rw [ha]
  simp only [World.cell?, hb]
  rw [hc]
  simp [hj]
set_option maxHeartbeats 1000000 in
set_option maxRecDepth 100000 in
theorem fasciclelaw03_lives.calls (r : Bool) (w : World) (h : fasciclelaw03_lives.f = some r) :
    Calls Try.prog 21 #[] w fun e w' => e = .returned (.bool r) ∧ Below w.heap.size w w' := by
  obtain rfl := Option.some.inj h
  have h1 : thin_Sum.f 0 [] = some 46947589 := by
    rw [thin_ev 0 [] (by decide) (by decide) Bytes.nil, show (0 : Int).toNat = 0 from rfl, sum_none]
    rfl
  have h2 : thin_Sum.f 0 [97, 98, 99] = some 852579327 := by
    rw [thin_ev 0 [97, 98, 99] (by decide) (by decide) (Bytes.cons (by decide) (Bytes.cons (by decide) (Bytes.cons (by decide) Bytes.nil))), show (0 : Int).toNat = 0 from rfl, sum_abc]
    rfl
  have h1 := Aside0.mk h1
  have h2 := Aside0.mk h2
  have hcc := fun (W : World) => Lib.run_convert_bytes_const (P := Try.prog) W 42 5 #[.int .u8 97, .int .u8 98, .int .u8 99] 3 3 Try.underlying42 Try.underlying5
  go_enter Try.func21, Try.ntmps21
  go_wp2_with (fail)
  refine (thin_Sum.calls 0 none 0 [] _ _ (Kd.C_nil _ _) (Nat.le_refl _) h1.out).mono ?_
  rintro e w1 ⟨rfl, hb1⟩
  have hB1 := Aside0.mk hb1
  clear hb1
  go_wp2_with (fail)
  refine (thin_Sum.calls 0 (some ⟨w1.heap.size, 0, none⟩) 3 [97, 98, 99] _ _ (row_C3 (n := (3, 4)) (cs := #[.int .u8 97, .int .u8 98, .int .u8 99]) (T := 5) [97, 98, 99] (by show (w1.heap.push _)[w1.heap.size]? = _; simp) rfl (by decide)) (Nat.le_refl _) h2.out).mono ?_
  rintro e w2 ⟨rfl, hb2⟩
  have hB2 := Aside0.mk hb2
  clear hb2
  go_wp2_with (fail)
  go_ret
  refine ⟨rfl, ?_⟩
  exact (Sep.Sep.below (ps := []) ⟨below_alloc hB1.out _, [], rfl, List.nodup_nil, fun b hb => by cases hb⟩ hB2.out).1
theorem u32_wf {x : Int} (h : (Lit.int .u32 x).wf = true) : 0 ≤ x ∧ x < 4294967296 := by
  simp [Lit.wf] at h
  rw [show IntKind.u32.min = 0 by decide, show IntKind.u32.max = 4294967295 by decide] at h
  omega

end Go.Proofs.Ytfeaalfajcdalaa.G
