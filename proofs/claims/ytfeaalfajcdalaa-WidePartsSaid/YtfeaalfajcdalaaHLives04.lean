/- fasciclelaw04.lives holds. -/
import Derived.Test.YtfeaalfajcdalaaMWide
import Derived.Lib.SlBytesConst
import Derived.LaidEqlPtr
set_option linter.unusedVariables false
set_option linter.unusedSimpArgs false
namespace Go.Proofs.Ytfeaalfajcdalaa.G
open Go Go.RowKit Go.Proofs.YtfeaalfajcdalaaW.PrintWords Go.Proofs.YtfeaalfajcdalaaW.PrintLast Go.Proofs.YtfeaalfajcdalaaW.PrintMore Go.Proofs.Ytfeaalfajcdalaa.PureKit Go.Proofs.Ytfeaalfajcdalaa.Sep Go.Proofs.Ytfeaalfajcdalaa.Rol

theorem wsum_none : wsum 0 [] = 17241709254077376921 := by decide +kernel
theorem wsum_abc : wsum 0 [97, 98, 99] = 4952883123889572249 := by decide +kernel
def fasciclelaw04_lives.f : Option Bool := some true
theorem lives04 : fasciclelaw04_lives.f = some true := rfl
theorem row_C4 {W : World} {g : Nat} {cs : Array Value} {T : TypeId} {n : Nat × Nat} (l : List Int) (hb : W.heap[g]? = some (.cells cs T n)) (hc : cs = (l.map (Value.int .u8)).toArray) (hl : l.length ≤ 9223372036854775807) :
    Kd.C (Kd.int .u8) W (some ⟨g, 0, none⟩) l.length l := by
  refine ⟨rfl, hl, fun _ => ⟨_, rfl, fun j p hj => ⟨[.int .u8 p], rfl, rfl, fun i u hu => ?_⟩⟩⟩
  have hi : i = 0 := by
    rcases i with _ | i
    · rfl
    · simp at hu
  subst hi
  simp only [List.getElem?_cons_zero, Option.some.injEq] at hu
  subst hu
  have ha : (⟨g, 0, none⟩ : Addr).add (j * 1 + 0) = ⟨g, j, none⟩ := by unfold Addr.add; split <;> simp_all
  show World.cell? _ ((⟨g, 0, none⟩ : Addr).add (j * 1 + 0)) = _
  rw [ha]
  simp only [World.cell?, hb]
  rw [hc]
  simp [hj]
theorem bytes_abc : Bytes [97, 98, 99] := Bytes.cons (by decide) (Bytes.cons (by decide) (Bytes.cons (by decide) Bytes.nil))
set_option maxHeartbeats 2000000 in
set_option maxRecDepth 100000 in
theorem fasciclelaw04_lives.calls (r : Bool) (w : World) (h : fasciclelaw04_lives.f = some r) :
    Calls Try.prog 26 #[] w fun e w' => e = .returned (.bool r) ∧ Below w.heap.size w w' := by
  obtain rfl := Option.some.inj h
  have h1 := Aside0.mk wsum_none
  have h2 := Aside0.mk wsum_abc
  have hcc := fun (W : World) => Lib.run_convert_bytes_const (P := Try.prog) W 42 5 #[.int .u8 97, .int .u8 98, .int .u8 99] 3 3 Try.underlying42 Try.underlying5
  go_enter Try.func26, Try.ntmps26
  go_wp2_with (fail)
  refine (wide_new w _ [] 0 _ rfl (Sep.start w) (by decide)).mono ?_
  rintro e w1 ⟨g, rfl, hS1⟩
  have hS1 := Aside0.mk hS1
  go_wp2_with (fail)
  refine (wide_Sum_calls _ none 0 [] 0 _ rfl (Kd.C_nil _ _) (Nat.le_refl _) Bytes.nil (by decide) (by decide)).mono ?_
  rw [h1.out]
  rintro e w2 ⟨rfl, hb2⟩
  have hS2 := Aside0.mk (hS1.out.below hb2)
  clear hb2
  go_wp2_with (fail)
  have hSa := Aside0.mk (hS2.out.below (below_alloc (Below.refl w2.heap.size w2) (.cells #[.int .u8 97, .int .u8 98, .int .u8 99] 5 (3, 4))))
  refine (wide_Sum_calls _ (some ⟨w2.heap.size, 0, none⟩) 3 [97, 98, 99] 0 _ rfl (row_C4 (n := (3, 4)) (cs := #[.int .u8 97, .int .u8 98, .int .u8 99]) (T := 5) [97, 98, 99] (by show (w2.heap.push _)[w2.heap.size]? = _; simp) rfl (by decide)) (Nat.le_refl _) bytes_abc (by decide) (by decide)).mono ?_
  rw [h2.out]
  rintro e w3 ⟨rfl, hb3⟩
  have hS3 := Aside0.mk (hSa.out.below hb3)
  clear hb3
  go_wp2_with (fail)
  have hSb := Aside0.mk (hS3.out.below (below_alloc (Below.refl w3.heap.size w3) (.cells #[.int .u8 97, .int .u8 98, .int .u8 99] 5 (3, 4))))
  obtain ⟨v9, hO9⟩ := wst_open hS3.out
  have hgl := Aside0.mk hO9.blk_at.2.2
  refine (wide_write w _ g 0 [] [97, 98, 99] [] (some ⟨w3.heap.size, 0, none⟩) 3 3 rfl hSb.out (fun w' _ hk => row_C4 (n := (3, 4)) (cs := #[.int .u8 97, .int .u8 98, .int .u8 99]) (T := 5) [97, 98, 99] (by rw [hk _ (by have := hgl.out; omega)]; show (w3.heap.push _)[w3.heap.size]? = _; simp) rfl (by decide)) (Nat.le_refl _) Bytes.nil bytes_abc (by decide) (by decide) (by decide)).mono ?_
  rintro e w4 ⟨rfl, hS4⟩
  have hS4 := Aside0.mk hS4
  obtain ⟨j0, hj0⟩ : ∃ j, Try.prog.info? 72 = some j := Option.isSome_iff_exists.1 (by kernel_rfl)
  have heq := fun W => run_eql_ptr_same (P := Try.prog) W ⟨g, 0, none⟩ Try.underlying55 hj0
  go_wp2_with (fail)
  refine (wide_sum w _ g 0 _ [] hS4.out (by exact bytes_abc) (by decide) (by decide)).mono ?_
  rw [List.nil_append, h2.out]
  rintro e w5 ⟨rfl, hb5⟩
  have hS5 := Aside0.mk (hS4.out.below hb5)
  clear hb5
  go_wp2_with (fail)
  go_ret
  exact ⟨rfl, hS5.out.1⟩

end Go.Proofs.Ytfeaalfajcdalaa.G
