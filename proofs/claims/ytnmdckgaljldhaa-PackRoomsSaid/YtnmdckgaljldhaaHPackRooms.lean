/- fasciclelaw14.PackRooms, walked. -/
import Derived.Test.YtnmdckgaljldhaaHLives14
import Derived.Test.YtnmdckgaljldhaaLPackRef
import Derived.Test.YtnmdckgaljldhaaGx5
import Derived.Test.YtnmdckgaljldhaaGx9
set_option linter.unusedVariables false
set_option linter.unusedSimpArgs false
namespace Go.Proofs.Ytnmdckgaljldhaa.G
open Go Go.RowKit Go.Proofs.YtnmdckgaljldhaaW.PrintWords Go.Proofs.YtnmdckgaljldhaaW.PrintLast Go.Proofs.YtnmdckgaljldhaaW.PrintMore Go.Proofs.Ytnmdckgaljldhaa.PureKit Go.Proofs.Ytnmdckgaljldhaa.Sep Go.Proofs.Ytnmdckgaljldhaa.Rol Go.Proofs.Ytnmdckgaljldhaa.LCobs Go.Proofs.Ytnmdckgaljldhaa.LPack
open Go.Proofs.Ytnmdckgaljldhaa.LConfig (Pair pair_of size_ok size_no may_ok may_no rsize_ok pair_S)

def i64sOK (l : List Int) : Bool := l.all fun x => decide (-9223372036854775808 ≤ x ∧ x ≤ 9223372036854775807)
theorem i64sOK_iff (l : List Int) : i64sOK l = true ↔ ∀ x ∈ l, -9223372036854775808 ≤ x ∧ x ≤ 9223372036854775807 := by
  unfold i64sOK
  rw [List.all_eq_true]
  exact ⟨fun h x hx => of_decide_eq_true (h x hx), fun h x hx => decide_eq_true (h x hx)⟩
def fasciclelaw14_PackRooms.f (a0_0 a0_1 a1 : Int) (l2 : List Int) : Option Bool := if 0 ≤ a0_0 ∧ a0_0 ≤ 255 ∧ 0 ≤ a0_1 ∧ a0_1 < 4294967296 ∧ 0 ≤ a1 ∧ a1 < 4294967296 ∧ i64sOK l2 = true then some true else none
def fasciclelaw14_PackRooms.Pure : Prop := ∀ (a0_0 : Int) (a0_1 : Int) (a1 : Int) (l2 : List Int), (Lit.int .u8 a0_0).wf = true → (Lit.int .u32 a0_1).wf = true → (Lit.int .u32 a1).wf = true → l2.length ≤ maxLen → l2.length * 8 ≤ 140737488351232 → (∀ y ∈ l2, ((Lit.int .i64 y).wf = true)) → fasciclelaw14_PackRooms.f a0_0 a0_1 a1 l2 = some true
theorem rmay_ok {e S : Int} {s : Nat} (h : Cfg e s S) (n : Nat) (hn : n < s) : fascicleref09_May.f e (s : Int) (n : Int) = some true := by
  have hS := pair_S h.p
  have h1 := h.s1
  have h2 := h.s2
  unfold fascicleref09_May.f
  rw [may_ok (by omega) (by omega) (by omega) (by omega), Option.bind_some, if_pos rfl, wu64 (by omega) (by omega), decide_eq_true (by omega)]
theorem rmay_no {e s n : Int} (h : ¬ (12 ≤ e ∧ e ≤ 24 ∧ 1 ≤ s ∧ s ≤ 65536 ∧ n < s)) (hs : 0 ≤ s) (hs2 : s < 4294967296) : fascicleref09_May.f e s n = some false := by
  unfold fascicleref09_May.f
  by_cases hc : 12 ≤ e ∧ e ≤ 24 ∧ 1 ≤ s ∧ s ≤ 65536
  · rw [may_ok hc.1 hc.2.1 hc.2.2.1 hc.2.2.2, Option.bind_some, if_pos rfl, wu64 (by omega) (by omega), decide_eq_false (by omega)]
  · rw [may_no hc, Option.bind_some, if_neg (by decide)]
theorem empty_none {e s n : Int} (h : ¬ (12 ≤ e ∧ e ≤ 24 ∧ 1 ≤ s ∧ s ≤ 65536 ∧ n < s)) (h0 : 0 ≤ e ∧ e ≤ 255 ∧ 0 ≤ s ∧ s < 4294967296 ∧ 0 ≤ n ∧ n < 4294967296) : pack_Empty.f e s n = some (0, 0, 0, 0, 0, 1) := by
  unfold pack_Empty.f frame_PutHead.f
  rw [if_pos h0, if_neg h, Option.bind_some, if_neg (by decide)]
theorem rtake_ok (e s n u c x : Int) (h1 : -9223372036854775808 ≤ u + x) (h2 : u + x ≤ 9223372036854775807) (h3 : -9223372036854775808 ≤ c + 1) (h4 : c + 1 ≤ 9223372036854775807) : fascicleref14_Take.f e s n u c x = some (e, s, n, u + x, c + 1) := by
  unfold fascicleref14_Take.f
  rw [w64 h1 h2, w64 h3 h4]
theorem left_facts {S u c : Int} (hS : S ≤ 100000000) (hu : 0 ≤ u) (hc : 0 ≤ c) : ∃ L : Int, mx 0 (S - u - most (c + 1)) = L ∧ 0 ≤ L ∧ L ≤ 100000000 ∧ (0 < L → fitsb S u c L = true) ∧ fitsb S u c (L + 1) = false := by
  have hm := most_pos (n := c + 1) (by omega)
  refine ⟨_, rfl, ?_⟩
  unfold mx fitsb
  split
  · exact ⟨by omega, by omega, fun _ => decide_eq_true (by omega), decide_eq_false (by omega)⟩
  · exact ⟨by omega, by omega, fun h => by omega, decide_eq_false (by omega)⟩

set_option maxHeartbeats 8000000 in
set_option maxRecDepth 100000 in
theorem pack_rooms (w : World) (A : Option Addr) (cp : Nat) (e : Int) (s n : Nat) (l : List Int) (hC : Kd.C (Kd.int .i64) w A l.length l) (hc : l.length ≤ cp) (he0 : 0 ≤ e) (he1 : e ≤ 255) (hs : s < 4294967296) (hn : n < 4294967296) (hx : ∀ x ∈ l, -9223372036854775808 ≤ x ∧ x ≤ 9223372036854775807) :
    Calls Try.prog 5 #[.agg #[.int .u8 e, .int .u32 (s : Int)], .int .u32 (n : Int), .slice A l.length cp] w fun e w' => e = .returned (.bool true) ∧ Below w.heap.size w w' := by
  have hu49 := Try.underlying49
  have hu52 := Try.underlying52
  have hu57 := Try.underlying57
  have hCA := Aside0.mk hC
  have hcA := Aside0.mk hc
  have hxA := Aside0.mk hx
  have hmax := Aside0.mk (Kd.C_max hC)
  have hS0 := Aside0.mk ((Sep.start w).alloc #[.int .u8 e, .int .u32 (s : Int)] 49)
  have hBN := Aside0.mk (And.intro he0 (And.intro he1 (And.intro hs hn)))
  clear hC hc hx he0 he1 hs hn
  go_enter Try.func5, Try.ntmps5
  by_cases hl : 200 < l.length
  · have hd : decide ((l.length : Int) > 200) = true := decide_eq_true (by omega)
    go_wp2_with (fail)
    refine (fasciclelaw14_lives.calls true _ lives14h).mono ?_
    rintro e1 w1 ⟨rfl, hb1⟩
    have hS1 := Aside0.mk (hS0.out.below hb1)
    clear hb1
    go_wp2_with (fail)
    refine (fasciclelaw14_lives.calls true _ lives14h).mono ?_
    rintro e2 w2 ⟨rfl, hb2⟩
    have hS2 := Aside0.mk (hS1.out.below hb2)
    clear hb2
    go_wp2_with (fail)
    go_ret
    exact ⟨rfl, hS2.out.1⟩
  · have hd : decide ((l.length : Int) > 200) = false := decide_eq_false (by omega)
    have hlA : Aside0 (l.length ≤ 200) := ⟨by omega⟩
    clear hl
    go_wp2_with (fail)
    refine (fasciclelaw14_lives.calls true _ lives14h).mono ?_
    rintro e1 w1 ⟨rfl, hb1⟩
    have h1 := hS0.out.below hb1
    have hcc_0 : w1.cell? ⟨w.heap.size, 0, none⟩ = some (.int .u8 e) := ((h1).cell 0).trans rfl; have hcc_1 : w1.cell? ⟨w.heap.size, 1, none⟩ = some (.int .u32 (s : Int)) := ((h1).cell 1).trans rfl
    have hS1 := Aside0.mk h1
    clear hb1 h1
    obtain ⟨b0, b1, b2, b3⟩ := hBN.out
    by_cases hmay : 12 ≤ e ∧ e ≤ 24 ∧ 1 ≤ (s : Int) ∧ (s : Int) ≤ 65536 ∧ (n : Int) < (s : Int)
    · obtain ⟨S, hCf⟩ := cfg_of (s := s) ⟨hmay.1, hmay.2.1, hmay.2.2.1, hmay.2.2.2.1⟩
      have hns : n < s := by omega
      have hSb := pair_S hCf.p
      have hHL := HL_small (s := s) (n := n) (by omega) (by omega)
      have hem := Aside0.mk (empty_ok hCf n hns)
      have hmy := Aside0.mk (rmay_ok hCf n hns)
      obtain ⟨k1, hre⟩ := (rempty_ok hCf n (by omega)).rounds
      have hre := Aside0.mk hre
      have wn : IntKind.u64.wrap (n : Int) = (n : Int) := wu64 (by omega) (by omega)
      have hCfA := Aside0.mk hCf
      have hSbA := Aside0.mk hSb
      have hHLA := Aside0.mk hHL
      clear b0 b1 b2 b3 hmay hCf hns hSb hHL
      go_wp2_with (fail)
      refine (pack_Empty.calls e (s : Int) (n : Int) _ _ _ _ _ _ _ hem.out).mono ?_
      rintro e2 w2 ⟨rfl, hb2⟩
      have hS2 := hS1.out.below hb2
      clear hb2 hcc_0 hcc_1
      obtain ⟨gr, hgr⟩ : ∃ gr, w2.heap.size = gr := ⟨_, rfl⟩
      go_upto_region 4 with (fail)
      have h3 := hS2.alloc #[.int .u8 e, .int .u32 (s : Int), .int .u32 (n : Int), .int .i64 (HL s n : Int), .int .i64 0] 52
      rw [hgr] at h3
      generalize w2.alloc (.cells #[.int .u8 e, .int .u32 (s : Int), .int .u32 (n : Int), .int .i64 (HL s n : Int), .int .i64 0] 52 (0, 0)) = w3 at h3 ⊢
      have hcc_0 : w3.cell? ⟨w.heap.size, 0, none⟩ = some (.int .u8 e) := ((h3.pick1).cell 0).trans rfl; have hcc_1 : w3.cell? ⟨w.heap.size, 1, none⟩ = some (.int .u32 (s : Int)) := ((h3.pick1).cell 1).trans rfl
      have hS3 := Aside0.mk h3
      clear h3 hgr hS2
      go_wp2_with (fail)
      refine (fascicleref09_May.calls e (s : Int) (n : Int) true _ hmy.out).mono ?_
      rintro e3 w4 ⟨rfl, hb4⟩
      have h4 := hS3.out.below hb4
      clear hb4 hcc_0 hcc_1
      have hcc_0 : w4.cell? ⟨w.heap.size, 0, none⟩ = some (.int .u8 e) := ((h4.pick1).cell 0).trans rfl; have hcc_1 : w4.cell? ⟨w.heap.size, 1, none⟩ = some (.int .u32 (s : Int)) := ((h4.pick1).cell 1).trans rfl
      have hS4 := Aside0.mk h4
      clear h4
      go_wp2_with (fail)
      refine (fascicleref14_Empty.calls k1 e (s : Int) (n : Int) _ _ _ _ _ _ hre.out).mono ?_
      rintro e4 w5 ⟨rfl, hb5⟩
      have h5 := hS4.out.below hb5
      clear hb5 hcc_0 hcc_1
      obtain ⟨gw, hgw⟩ : ∃ gw, w5.heap.size = gw := ⟨_, rfl⟩
      go_upto_region 7 with (fail)
      have h6 := h5.alloc #[.int .u8 e, .int .u32 (s : Int), .int .u64 (n : Int), .int .i64 (HL s n : Int), .int .i64 0] 57
      rw [hgw] at h6
      generalize w5.alloc (.cells #[.int .u8 e, .int .u32 (s : Int), .int .u64 (n : Int), .int .i64 (HL s n : Int), .int .i64 0] 57 (0, 0)) = w6 at h6 ⊢
      have hS6 := Aside0.mk h6
      clear h6 h5 hgw hS1 hS3 hS4
      go_wp2_with (fail)
      go_loopg [8, 47] l.length (fun kq v8 v47 w' => ∃ (i : Nat) (u c : Int), v8 = .int .i64 0 ∧ v47 = .int .i64 i ∧ Aside0 (i + kq = l.length ∧ 0 ≤ u ∧ u ≤ S ∧ 0 ≤ c ∧ c ≤ i) ∧ Aside0 (Sep.Sep w w' (blk gw #[.int .u8 e, .int .u32 (s : Int), .int .u64 (n : Int), .int .i64 u, .int .i64 c] 57 :: blk gr #[.int .u8 e, .int .u32 (s : Int), .int .u32 (n : Int), .int .i64 u, .int .i64 c] 52 :: blk w.heap.size #[.int .u8 e, .int .u32 (s : Int)] 49 :: [])))
      case atStart => exact ⟨0, (HL s n : Int), 0, rfl, rfl, ⟨by omega, by omega, by have := hHLA.out; have := hSbA.out; omega, by omega, by omega⟩, hS6⟩
      case round =>
        obtain ⟨i, u, c, rfl, rfl, hA, hS⟩ := hrel
        by_cases hin : i < l.length
        · have hd2 : decide ((i : Int) < (l.length : Int)) = true := decide_eq_true (by omega)
          obtain ⟨kk, rfl⟩ : ∃ kk, gk = kk + 1 := ⟨gk - 1, by have := hA.out.1; omega⟩
          have hC0 := Kd.C_below hCA.out hS.out.1
          obtain ⟨ad0, e0, hx0⟩ := Kd.at_int hC0 (i : Int) (by omega) (by omega)
          cases e0
          simp only [Int.toNat_natCast] at hx0
          rw [rd_at l i hin] at hx0
          have hxx := hxA.out l[i] (List.getElem_mem hin)
          obtain ⟨x, hxe⟩ : ∃ x, l[i] = x := ⟨_, rfl⟩
          rw [hxe] at hx0 hxx
          clear hxe
          obtain ⟨a0, a1, a2, a3, a4⟩ := hA.out
          have hSb := hSbA.out
          have hll := hlA.out
          have hft := Aside0.mk (fits_ok hCfA.out (n : Int) u c x a1 (by omega) a3 (by omega))
          obtain ⟨kf, hrf⟩ := (rfits_ok hCfA.out (n : Int) u c x a1 (by omega) a3 (by omega) hxx.2).rounds
          have hrf := Aside0.mk hrf
          obtain ⟨LL, hL0, hL1, hL2, hL3, hL4⟩ := left_facts (S := S) (u := u) (c := c) (by omega) a1 a3
          have hlf := left_ok hCfA.out (n : Int) u c a1 (by omega) a3 (by omega)
          rw [hL0] at hlf
          have hlf := Aside0.mk hlf
          have hL1A := Aside0.mk hL1
          have hL2A := Aside0.mk hL2
          obtain ⟨kl, hrl⟩ := (rfits_ok hCfA.out (n : Int) u c LL a1 (by omega) a3 (by omega) (by omega)).rounds
          obtain ⟨km, hrm⟩ := (rfits_ok hCfA.out (n : Int) u c (LL + 1) a1 (by omega) a3 (by omega) (by omega)).rounds
          rw [hL4] at hrm
          have hrl := Aside0.mk hrl
          have hrm := Aside0.mk hrm
          have hL3A := Aside0.mk hL3
          have wL1 : wrap64 (LL + 1) = LL + 1 := w64 (by omega) (by omega)
          have dL : decide (LL < 0) = false := decide_eq_false (by omega)
          have p0 : ((0 : Int) ≤ (i : Int)) = True := eq_true (by omega)
          have q0 : ((i : Int) < (l.length : Int)) = True := eq_true (by omega)
          have hxA2 := Aside0.mk hxx
          clear hL0 hL1 hL2 hL3 hL4 a0 a1 a2 a3 a4 hSb hll hxx hC0
          go_upto_region 10 with (fail)
          have hSd := hS.out.drew
          clear p0 q0 hx0
          have hgw_0 : wr.drew.cell? ⟨gw, 0, none⟩ = some (.int .u8 e) := (hSd.cell 0).trans rfl
          have hgw_1 : wr.drew.cell? ⟨gw, 1, none⟩ = some (.int .u32 (s : Int)) := (hSd.cell 1).trans rfl
          have hgw_2 : wr.drew.cell? ⟨gw, 2, none⟩ = some (.int .u64 (n : Int)) := (hSd.cell 2).trans rfl
          have hgw_3 : wr.drew.cell? ⟨gw, 3, none⟩ = some (.int .i64 u) := (hSd.cell 3).trans rfl
          have hgw_4 : wr.drew.cell? ⟨gw, 4, none⟩ = some (.int .i64 c) := (hSd.cell 4).trans rfl
          have hgr_0 : wr.drew.cell? ⟨gr, 0, none⟩ = some (.int .u8 e) := (hSd.pick1.cell 0).trans rfl
          have hgr_1 : wr.drew.cell? ⟨gr, 1, none⟩ = some (.int .u32 (s : Int)) := (hSd.pick1.cell 1).trans rfl
          have hgr_2 : wr.drew.cell? ⟨gr, 2, none⟩ = some (.int .u32 (n : Int)) := (hSd.pick1.cell 2).trans rfl
          have hgr_3 : wr.drew.cell? ⟨gr, 3, none⟩ = some (.int .i64 u) := (hSd.pick1.cell 3).trans rfl
          have hgr_4 : wr.drew.cell? ⟨gr, 4, none⟩ = some (.int .i64 c) := (hSd.pick1.cell 4).trans rfl
          have hgc_0 : wr.drew.cell? ⟨w.heap.size, 0, none⟩ = some (.int .u8 e) := (hSd.pick2.cell 0).trans rfl
          have hgc_1 : wr.drew.cell? ⟨w.heap.size, 1, none⟩ = some (.int .u32 (s : Int)) := (hSd.pick2.cell 1).trans rfl
          have hS := Aside0.mk hSd
          clear hSd
          go_wp2_with (fail)
          refine start_ (n := 39) (S := fun w' => w'.cell? ⟨gw, 0, none⟩ = some (.int .u8 e) ∧ w'.cell? ⟨gw, 1, none⟩ = some (.int .u32 (s : Int)) ∧ w'.cell? ⟨gw, 2, none⟩ = some (.int .u64 (n : Int)) ∧ w'.cell? ⟨gw, 3, none⟩ = some (.int .i64 u) ∧ w'.cell? ⟨gw, 4, none⟩ = some (.int .i64 c) ∧ w'.cell? ⟨gr, 0, none⟩ = some (.int .u8 e) ∧ w'.cell? ⟨gr, 1, none⟩ = some (.int .u32 (s : Int)) ∧ w'.cell? ⟨gr, 2, none⟩ = some (.int .u32 (n : Int)) ∧ w'.cell? ⟨gr, 3, none⟩ = some (.int .i64 u) ∧ w'.cell? ⟨gr, 4, none⟩ = some (.int .i64 c) ∧ w'.cell? ⟨w.heap.size, 0, none⟩ = some (.int .u8 e) ∧ w'.cell? ⟨w.heap.size, 1, none⟩ = some (.int .u32 (s : Int))) (ds := []) #[false, false, false, false, false, false, false, false, false, false, false, false, false, false, false, false, false, false, false, false, false, false, false, false, false, false, false, false, false, false, false, false, false, false, false, false, false, false, false] (by kernel_rfl) rfl rfl ⟨hgw_0, hgw_1, hgw_2, hgw_3, hgw_4, hgr_0, hgr_1, hgr_2, hgr_3, hgr_4, hgc_0, hgc_1⟩ (fun hHeld => ?_)
          obtain ⟨wq, hwq⟩ : ∃ wq, wr.drew = wq := ⟨_, rfl⟩
          rw [hwq] at hS hHeld ⊢
          clear hgw_0 hgw_1 hgw_2 hgw_3 hgw_4 hgr_0 hgr_1 hgr_2 hgr_3 hgr_4 hgc_0 hgc_1
          clear hwq
          refine pure_ (i := 0) (N := some 51) (v := ?_) (a' := ?_) #[true, false, false, false, false, false, false, false, false, false, false, false, false, false, false, false, false, false, false, false, false, false, false, false, false, false, false, false, false, false, false, false, false, false, false, false, false, false, false] rfl rfl (by kernel_rfl) (fun _ _ _ h => h) (Or.inl ⟨by rfl, ?_⟩) ?_ ?_
          rotate_left
          · intro w'
            go_simp
            with_reducible rfl
          rotate_left
          · simp only [Act.put, List.setIfInBounds_toArray, List.set_cons_zero, List.set_cons_succ, i64_w, i32_w]
            rfl
          refine pure_ (i := 1) (N := some 52) (v := ?_) (a' := ?_) #[true, true, false, false, false, false, false, false, false, false, false, false, false, false, false, false, false, false, false, false, false, false, false, false, false, false, false, false, false, false, false, false, false, false, false, false, false, false, false] rfl rfl (by kernel_rfl) (fun _ _ _ h => h) (Or.inl ⟨by rfl, ?_⟩) ?_ ?_
          rotate_left
          · intro w'
            go_simp
            with_reducible rfl
          rotate_left
          · simp only [Act.put, List.setIfInBounds_toArray, List.set_cons_zero, List.set_cons_succ, i64_w, i32_w]
            rfl
          refine pure_ (i := 2) (N := some 53) (v := ?_) (a' := ?_) #[true, true, true, false, false, false, false, false, false, false, false, false, false, false, false, false, false, false, false, false, false, false, false, false, false, false, false, false, false, false, false, false, false, false, false, false, false, false, false] rfl rfl (by kernel_rfl) (fun _ _ _ h => h) (Or.inl ⟨by rfl, ?_⟩) ?_ ?_
          rotate_left
          · intro w'
            go_simp
            with_reducible rfl
          rotate_left
          · simp only [Act.put, List.setIfInBounds_toArray, List.set_cons_zero, List.set_cons_succ, i64_w, i32_w]
            rfl
          refine pure_ (i := 3) (N := some 54) (v := ?_) (a' := ?_) #[true, true, true, true, false, false, false, false, false, false, false, false, false, false, false, false, false, false, false, false, false, false, false, false, false, false, false, false, false, false, false, false, false, false, false, false, false, false, false] rfl rfl (by kernel_rfl) (fun _ _ _ h => h) (Or.inl ⟨by rfl, ?_⟩) ?_ ?_
          rotate_left
          · intro w'
            go_simp
            with_reducible rfl
          rotate_left
          · simp only [Act.put, List.setIfInBounds_toArray, List.set_cons_zero, List.set_cons_succ, i64_w, i32_w]
            rfl
          refine take_ (i := 4) (N := some 55) (v := ?_) (a' := ?_) #[true, true, true, true, true, false, false, false, false, false, false, false, false, false, false, false, false, false, false, false, false, false, false, false, false, false, false, false, false, false, false, false, false, false, false, false, false, false, false] rfl rfl (by kernel_rfl) (fun _ _ _ h => h) (Or.inl ⟨by rfl, ?_⟩) hHeld ?_ ?_
          rotate_left
          · rintro w' ⟨s0, s1, s2, s3, s4, s5, s6, s7, s8, s9, s10, s11⟩
            go_simp
            with_reducible rfl
          rotate_left
          · simp only [Act.put, List.setIfInBounds_toArray, List.set_cons_zero, List.set_cons_succ, i64_w, i32_w]
            rfl
          refine take_ (i := 5) (N := some 56) (v := ?_) (a' := ?_) #[true, true, true, true, true, true, false, false, false, false, false, false, false, false, false, false, false, false, false, false, false, false, false, false, false, false, false, false, false, false, false, false, false, false, false, false, false, false, false] rfl rfl (by kernel_rfl) (fun _ _ _ h => h) (Or.inl ⟨by rfl, ?_⟩) hHeld ?_ ?_
          rotate_left
          · rintro w' ⟨s0, s1, s2, s3, s4, s5, s6, s7, s8, s9, s10, s11⟩
            go_simp
            with_reducible rfl
          rotate_left
          · simp only [Act.put, List.setIfInBounds_toArray, List.set_cons_zero, List.set_cons_succ, i64_w, i32_w]
            rfl
          refine pure_ (i := 6) (N := some 57) (v := ?_) (a' := ?_) #[true, true, true, true, true, true, true, false, false, false, false, false, false, false, false, false, false, false, false, false, false, false, false, false, false, false, false, false, false, false, false, false, false, false, false, false, false, false, false] rfl rfl (by kernel_rfl) (fun _ _ _ h => h) (Or.inl ⟨by rfl, ?_⟩) ?_ ?_
          rotate_left
          · intro w'
            go_simp
            with_reducible rfl
          rotate_left
          · simp only [Act.put, List.setIfInBounds_toArray, List.set_cons_zero, List.set_cons_succ, i64_w, i32_w]
            rfl
          refine pure_ (i := 7) (N := some 58) (v := ?_) (a' := ?_) #[true, true, true, true, true, true, true, true, false, false, false, false, false, false, false, false, false, false, false, false, false, false, false, false, false, false, false, false, false, false, false, false, false, false, false, false, false, false, false] rfl rfl (by kernel_rfl) (fun _ _ _ h => h) (Or.inl ⟨by rfl, ?_⟩) ?_ ?_
          rotate_left
          · intro w'
            go_simp
            with_reducible rfl
          rotate_left
          · simp only [Act.put, List.setIfInBounds_toArray, List.set_cons_zero, List.set_cons_succ, i64_w, i32_w]
            rfl
          refine pure_ (i := 8) (N := some 59) (v := ?_) (a' := ?_) #[true, true, true, true, true, true, true, true, true, false, false, false, false, false, false, false, false, false, false, false, false, false, false, false, false, false, false, false, false, false, false, false, false, false, false, false, false, false, false] rfl rfl (by kernel_rfl) (fun _ _ _ h => h) (Or.inl ⟨by rfl, ?_⟩) ?_ ?_
          rotate_left
          · intro w'
            go_simp
            with_reducible rfl
          rotate_left
          · simp only [Act.put, List.setIfInBounds_toArray, List.set_cons_zero, List.set_cons_succ, i64_w, i32_w]
            rfl
          refine pure_ (i := 9) (N := some 60) (v := ?_) (a' := ?_) #[true, true, true, true, true, true, true, true, true, true, false, false, false, false, false, false, false, false, false, false, false, false, false, false, false, false, false, false, false, false, false, false, false, false, false, false, false, false, false] rfl rfl (by kernel_rfl) (fun _ _ _ h => h) (Or.inl ⟨by rfl, ?_⟩) ?_ ?_
          rotate_left
          · intro w'
            go_simp
            with_reducible rfl
          rotate_left
          · simp only [Act.put, List.setIfInBounds_toArray, List.set_cons_zero, List.set_cons_succ, i64_w, i32_w]
            rfl
          refine pure_ (i := 12) (N := some 63) (v := ?_) (a' := ?_) #[true, true, true, true, true, true, true, true, true, true, false, false, true, false, false, false, false, false, false, false, false, false, false, false, false, false, false, false, false, false, false, false, false, false, false, false, false, false, false] rfl rfl (by kernel_rfl) (fun _ _ _ h => h) (Or.inl ⟨by rfl, ?_⟩) ?_ ?_
          rotate_left
          · intro w'
            go_simp
            with_reducible rfl
          rotate_left
          · simp only [Act.put, List.setIfInBounds_toArray, List.set_cons_zero, List.set_cons_succ, i64_w, i32_w]
            rfl
          refine take_ (i := 10) (N := some 61) (v := ?_) (a' := ?_) #[true, true, true, true, true, true, true, true, true, true, true, false, true, false, false, false, false, false, false, false, false, false, false, false, false, false, false, false, false, false, false, false, false, false, false, false, false, false, false] rfl rfl (by kernel_rfl) (fun _ _ _ h => h) (Or.inl ⟨by rfl, ?_⟩) hHeld ?_ ?_
          rotate_left
          · rintro w' ⟨s0, s1, s2, s3, s4, s5, s6, s7, s8, s9, s10, s11⟩
            go_simp
            with_reducible rfl
          rotate_left
          · simp only [Act.put, List.setIfInBounds_toArray, List.set_cons_zero, List.set_cons_succ, i64_w, i32_w]
            rfl
          refine pure_ (i := 11) (N := some 62) (v := ?_) (a' := ?_) #[true, true, true, true, true, true, true, true, true, true, true, true, true, false, false, false, false, false, false, false, false, false, false, false, false, false, false, false, false, false, false, false, false, false, false, false, false, false, false] rfl rfl (by kernel_rfl) (fun _ _ _ h => h) (Or.inl ⟨by rfl, ?_⟩) ?_ ?_
          rotate_left
          · intro w'
            go_simp
            with_reducible rfl
          rotate_left
          · simp only [Act.put, List.setIfInBounds_toArray, List.set_cons_zero, List.set_cons_succ, i64_w, i32_w]
            rfl
          refine take_ (i := 13) (N := some 64) (v := ?_) (a' := ?_) #[true, true, true, true, true, true, true, true, true, true, true, true, true, true, false, false, false, false, false, false, false, false, false, false, false, false, false, false, false, false, false, false, false, false, false, false, false, false, false] rfl rfl (by kernel_rfl) (fun _ _ _ h => h) (Or.inl ⟨by rfl, ?_⟩) hHeld ?_ ?_
          rotate_left
          · rintro w' ⟨s0, s1, s2, s3, s4, s5, s6, s7, s8, s9, s10, s11⟩
            go_simp
            with_reducible rfl
          rotate_left
          · simp only [Act.put, List.setIfInBounds_toArray, List.set_cons_zero, List.set_cons_succ, i64_w, i32_w]
            rfl
          refine pure_ (i := 14) (N := some 65) (v := ?_) (a' := ?_) #[true, true, true, true, true, true, true, true, true, true, true, true, true, true, true, false, false, false, false, false, false, false, false, false, false, false, false, false, false, false, false, false, false, false, false, false, false, false, false] rfl rfl (by kernel_rfl) (fun _ _ _ h => h) (Or.inl ⟨by rfl, ?_⟩) ?_ ?_
          rotate_left
          · intro w'
            go_simp
            with_reducible rfl
          rotate_left
          · simp only [Act.put, List.setIfInBounds_toArray, List.set_cons_zero, List.set_cons_succ, i64_w, i32_w]
            rfl
          refine pure_ (i := 15) (N := some 66) (v := ?_) (a' := ?_) #[true, true, true, true, true, true, true, true, true, true, true, true, true, true, true, true, false, false, false, false, false, false, false, false, false, false, false, false, false, false, false, false, false, false, false, false, false, false, false] rfl rfl (by kernel_rfl) (fun _ _ _ h => h) (Or.inl ⟨by rfl, ?_⟩) ?_ ?_
          rotate_left
          · intro w'
            go_simp
            with_reducible rfl
          rotate_left
          · simp only [Act.put, List.setIfInBounds_toArray, List.set_cons_zero, List.set_cons_succ, i64_w, i32_w]
            rfl
          refine pure_ (i := 16) (N := some 67) (v := ?_) (a' := ?_) #[true, true, true, true, true, true, true, true, true, true, true, true, true, true, true, true, true, false, false, false, false, false, false, false, false, false, false, false, false, false, false, false, false, false, false, false, false, false, false] rfl rfl (by kernel_rfl) (fun _ _ _ h => h) (Or.inl ⟨by rfl, ?_⟩) ?_ ?_
          rotate_left
          · intro w'
            go_simp
            with_reducible rfl
          rotate_left
          · simp only [Act.put, List.setIfInBounds_toArray, List.set_cons_zero, List.set_cons_succ, i64_w, i32_w]
            rfl
          refine pure_ (i := 17) (N := some 68) (v := ?_) (a' := ?_) #[true, true, true, true, true, true, true, true, true, true, true, true, true, true, true, true, true, true, false, false, false, false, false, false, false, false, false, false, false, false, false, false, false, false, false, false, false, false, false] rfl rfl (by kernel_rfl) (fun _ _ _ h => h) (Or.inl ⟨by rfl, ?_⟩) ?_ ?_
          rotate_left
          · intro w'
            go_simp
            with_reducible rfl
          rotate_left
          · simp only [Act.put, List.setIfInBounds_toArray, List.set_cons_zero, List.set_cons_succ, i64_w, i32_w]
            rfl
          refine pure_ (i := 19) (N := some 70) (v := ?_) (a' := ?_) #[true, true, true, true, true, true, true, true, true, true, true, true, true, true, true, true, true, true, false, true, false, false, false, false, false, false, false, false, false, false, false, false, false, false, false, false, false, false, false] rfl rfl (by kernel_rfl) (fun _ _ _ h => h) (Or.inl ⟨by rfl, ?_⟩) ?_ ?_
          rotate_left
          · intro w'
            go_simp
            with_reducible rfl
          rotate_left
          · simp only [Act.put, List.setIfInBounds_toArray, List.set_cons_zero, List.set_cons_succ, i64_w, i32_w]
            rfl
          refine take_ (i := 18) (N := some 69) (v := ?_) (a' := ?_) #[true, true, true, true, true, true, true, true, true, true, true, true, true, true, true, true, true, true, true, true, false, false, false, false, false, false, false, false, false, false, false, false, false, false, false, false, false, false, false] rfl rfl (by kernel_rfl) (fun _ _ _ h => h) (Or.inl ⟨by rfl, ?_⟩) hHeld ?_ ?_
          rotate_left
          · rintro w' ⟨s0, s1, s2, s3, s4, s5, s6, s7, s8, s9, s10, s11⟩
            go_simp
            with_reducible rfl
          rotate_left
          · simp only [Act.put, List.setIfInBounds_toArray, List.set_cons_zero, List.set_cons_succ, i64_w, i32_w]
            rfl
          refine take_ (i := 20) (N := some 71) (v := ?_) (a' := ?_) #[true, true, true, true, true, true, true, true, true, true, true, true, true, true, true, true, true, true, true, true, true, false, false, false, false, false, false, false, false, false, false, false, false, false, false, false, false, false, false] rfl rfl (by kernel_rfl) (fun _ _ _ h => h) (Or.inl ⟨by rfl, ?_⟩) hHeld ?_ ?_
          rotate_left
          · rintro w' ⟨s0, s1, s2, s3, s4, s5, s6, s7, s8, s9, s10, s11⟩
            go_simp
            with_reducible rfl
          rotate_left
          · simp only [Act.put, List.setIfInBounds_toArray, List.set_cons_zero, List.set_cons_succ, i64_w, i32_w]
            rfl
          refine pure_ (i := 21) (N := some 72) (v := ?_) (a' := ?_) #[true, true, true, true, true, true, true, true, true, true, true, true, true, true, true, true, true, true, true, true, true, true, false, false, false, false, false, false, false, false, false, false, false, false, false, false, false, false, false] rfl rfl (by kernel_rfl) (fun _ _ _ h => h) (Or.inl ⟨by rfl, ?_⟩) ?_ ?_
          rotate_left
          · intro w'
            go_simp
            with_reducible rfl
          rotate_left
          · simp only [Act.put, List.setIfInBounds_toArray, List.set_cons_zero, List.set_cons_succ, i64_w, i32_w]
            rfl
          refine pure_ (i := 22) (N := some 73) (v := ?_) (a' := ?_) #[true, true, true, true, true, true, true, true, true, true, true, true, true, true, true, true, true, true, true, true, true, true, true, false, false, false, false, false, false, false, false, false, false, false, false, false, false, false, false] rfl rfl (by kernel_rfl) (fun _ _ _ h => h) (Or.inl ⟨by rfl, ?_⟩) ?_ ?_
          rotate_left
          · intro w'
            go_simp
            with_reducible rfl
          rotate_left
          · simp only [Act.put, List.setIfInBounds_toArray, List.set_cons_zero, List.set_cons_succ, i64_w, i32_w]
            rfl
          refine pure_ (i := 23) (N := some 74) (v := ?_) (a' := ?_) #[true, true, true, true, true, true, true, true, true, true, true, true, true, true, true, true, true, true, true, true, true, true, true, true, false, false, false, false, false, false, false, false, false, false, false, false, false, false, false] rfl rfl (by kernel_rfl) (fun _ _ _ h => h) (Or.inl ⟨by rfl, ?_⟩) ?_ ?_
          rotate_left
          · intro w'
            go_simp
            with_reducible rfl
          rotate_left
          · simp only [Act.put, List.setIfInBounds_toArray, List.set_cons_zero, List.set_cons_succ, i64_w, i32_w]
            rfl
          refine pure_ (i := 24) (N := some 75) (v := ?_) (a' := ?_) #[true, true, true, true, true, true, true, true, true, true, true, true, true, true, true, true, true, true, true, true, true, true, true, true, true, false, false, false, false, false, false, false, false, false, false, false, false, false, false] rfl rfl (by kernel_rfl) (fun _ _ _ h => h) (Or.inl ⟨by rfl, ?_⟩) ?_ ?_
          rotate_left
          · intro w'
            go_simp
            with_reducible rfl
          rotate_left
          · simp only [Act.put, List.setIfInBounds_toArray, List.set_cons_zero, List.set_cons_succ, i64_w, i32_w]
            rfl
          refine pure_ (i := 26) (N := some 77) (v := ?_) (a' := ?_) #[true, true, true, true, true, true, true, true, true, true, true, true, true, true, true, true, true, true, true, true, true, true, true, true, true, false, true, false, false, false, false, false, false, false, false, false, false, false, false] rfl rfl (by kernel_rfl) (fun _ _ _ h => h) (Or.inl ⟨by rfl, ?_⟩) ?_ ?_
          rotate_left
          · intro w'
            go_simp
            with_reducible rfl
          rotate_left
          · simp only [Act.put, List.setIfInBounds_toArray, List.set_cons_zero, List.set_cons_succ, i64_w, i32_w]
            rfl
          refine take_ (i := 25) (N := some 76) (v := ?_) (a' := ?_) #[true, true, true, true, true, true, true, true, true, true, true, true, true, true, true, true, true, true, true, true, true, true, true, true, true, true, true, false, false, false, false, false, false, false, false, false, false, false, false] rfl rfl (by kernel_rfl) (fun _ _ _ h => h) (Or.inl ⟨by rfl, ?_⟩) hHeld ?_ ?_
          rotate_left
          · rintro w' ⟨s0, s1, s2, s3, s4, s5, s6, s7, s8, s9, s10, s11⟩
            go_simp
            with_reducible rfl
          rotate_left
          · simp only [Act.put, List.setIfInBounds_toArray, List.set_cons_zero, List.set_cons_succ, i64_w, i32_w]
            rfl
          refine take_ (i := 27) (N := some 78) (v := ?_) (a' := ?_) #[true, true, true, true, true, true, true, true, true, true, true, true, true, true, true, true, true, true, true, true, true, true, true, true, true, true, true, true, false, false, false, false, false, false, false, false, false, false, false] rfl rfl (by kernel_rfl) (fun _ _ _ h => h) (Or.inl ⟨by rfl, ?_⟩) hHeld ?_ ?_
          rotate_left
          · rintro w' ⟨s0, s1, s2, s3, s4, s5, s6, s7, s8, s9, s10, s11⟩
            go_simp
            with_reducible rfl
          rotate_left
          · simp only [Act.put, List.setIfInBounds_toArray, List.set_cons_zero, List.set_cons_succ, i64_w, i32_w]
            rfl
          refine pure_ (i := 28) (N := some 79) (v := ?_) (a' := ?_) #[true, true, true, true, true, true, true, true, true, true, true, true, true, true, true, true, true, true, true, true, true, true, true, true, true, true, true, true, true, false, false, false, false, false, false, false, false, false, false] rfl rfl (by kernel_rfl) (fun _ _ _ h => h) (Or.inl ⟨by rfl, ?_⟩) ?_ ?_
          rotate_left
          · intro w'
            go_simp
            with_reducible rfl
          rotate_left
          · simp only [Act.put, List.setIfInBounds_toArray, List.set_cons_zero, List.set_cons_succ, i64_w, i32_w]
            rfl
          refine pure_ (i := 29) (N := some 80) (v := ?_) (a' := ?_) #[true, true, true, true, true, true, true, true, true, true, true, true, true, true, true, true, true, true, true, true, true, true, true, true, true, true, true, true, true, true, false, false, false, false, false, false, false, false, false] rfl rfl (by kernel_rfl) (fun _ _ _ h => h) (Or.inl ⟨by rfl, ?_⟩) ?_ ?_
          rotate_left
          · intro w'
            go_simp
            with_reducible rfl
          rotate_left
          · simp only [Act.put, List.setIfInBounds_toArray, List.set_cons_zero, List.set_cons_succ, i64_w, i32_w]
            rfl
          refine pure_ (i := 30) (N := some 81) (v := ?_) (a' := ?_) #[true, true, true, true, true, true, true, true, true, true, true, true, true, true, true, true, true, true, true, true, true, true, true, true, true, true, true, true, true, true, true, false, false, false, false, false, false, false, false] rfl rfl (by kernel_rfl) (fun _ _ _ h => h) (Or.inl ⟨by rfl, ?_⟩) ?_ ?_
          rotate_left
          · intro w'
            go_simp
            with_reducible rfl
          rotate_left
          · simp only [Act.put, List.setIfInBounds_toArray, List.set_cons_zero, List.set_cons_succ, i64_w, i32_w]
            rfl
          refine pure_ (i := 32) (N := some 83) (v := ?_) (a' := ?_) #[true, true, true, true, true, true, true, true, true, true, true, true, true, true, true, true, true, true, true, true, true, true, true, true, true, true, true, true, true, true, true, false, true, false, false, false, false, false, false] rfl rfl (by kernel_rfl) (fun _ _ _ h => h) (Or.inl ⟨by rfl, ?_⟩) ?_ ?_
          rotate_left
          · intro w'
            go_simp
            with_reducible rfl
          rotate_left
          · simp only [Act.put, List.setIfInBounds_toArray, List.set_cons_zero, List.set_cons_succ, i64_w, i32_w]
            rfl
          refine pure_ (i := 35) (N := some 86) (v := ?_) (a' := ?_) #[true, true, true, true, true, true, true, true, true, true, true, true, true, true, true, true, true, true, true, true, true, true, true, true, true, true, true, true, true, true, true, false, true, false, false, true, false, false, false] rfl rfl (by kernel_rfl) (fun _ _ _ h => h) (Or.inl ⟨by rfl, ?_⟩) ?_ ?_
          rotate_left
          · intro w'
            go_simp
            with_reducible rfl
          rotate_left
          · simp only [Act.put, List.setIfInBounds_toArray, List.set_cons_zero, List.set_cons_succ, i64_w, i32_w]
            rfl
          refine take_ (i := 31) (N := some 82) (v := ?_) (a' := ?_) #[true, true, true, true, true, true, true, true, true, true, true, true, true, true, true, true, true, true, true, true, true, true, true, true, true, true, true, true, true, true, true, true, true, false, false, true, false, false, false] rfl rfl (by kernel_rfl) (fun _ _ _ h => h) (Or.inl ⟨by rfl, ?_⟩) hHeld ?_ ?_
          rotate_left
          · rintro w' ⟨s0, s1, s2, s3, s4, s5, s6, s7, s8, s9, s10, s11⟩
            go_simp
            with_reducible rfl
          rotate_left
          · simp only [Act.put, List.setIfInBounds_toArray, List.set_cons_zero, List.set_cons_succ, i64_w, i32_w]
            rfl
          refine take_ (i := 34) (N := some 85) (v := ?_) (a' := ?_) #[true, true, true, true, true, true, true, true, true, true, true, true, true, true, true, true, true, true, true, true, true, true, true, true, true, true, true, true, true, true, true, true, true, false, true, true, false, false, false] rfl rfl (by kernel_rfl) (fun _ _ _ h => h) (Or.inl ⟨by rfl, ?_⟩) hHeld ?_ ?_
          rotate_left
          · rintro w' ⟨s0, s1, s2, s3, s4, s5, s6, s7, s8, s9, s10, s11⟩
            go_simp
            with_reducible rfl
          rotate_left
          · simp only [Act.put, List.setIfInBounds_toArray, List.set_cons_zero, List.set_cons_succ, i64_w, i32_w]
            rfl
          refine one_ (i := 33) (N := some 84) #[true, true, true, true, true, true, true, true, true, true, true, true, true, true, true, true, true, true, true, true, true, true, true, true, true, true, true, true, true, true, true, true, true, true, true, true, false, false, false] rfl rfl (by kernel_rfl) (by decide) (fun K hK => ?_)
          refine goes_ Try.func32 (by kernel_rfl) rfl #[.agg #[.int .u8 e, .int .u32 (s : Int), .int .u32 (n : Int), .int .i64 u, .int .i64 c], .int .i64 x] (by rfl) rfl rfl (by (try simp only [List.map_toArray, List.map_cons, List.map_nil]); first | done | rfl) ?_
          refine (pack_Room_Fits.calls e (s : Int) (n : Int) u c x _ _ hft.out).mono ?_
          rintro ee wq ⟨rfl, hbq⟩
          refine ⟨_, rfl, ?_⟩
          have hS := Aside0.mk (hS.out.below hbq)
          clear hbq
          refine hK.out _ _ ⟨(hS.out.cell 0).trans rfl, (hS.out.cell 1).trans rfl, (hS.out.cell 2).trans rfl, (hS.out.cell 3).trans rfl, (hS.out.cell 4).trans rfl, (hS.out.pick1.cell 0).trans rfl, (hS.out.pick1.cell 1).trans rfl, (hS.out.pick1.cell 2).trans rfl, (hS.out.pick1.cell 3).trans rfl, (hS.out.pick1.cell 4).trans rfl, (hS.out.pick2.cell 0).trans rfl, (hS.out.pick2.cell 1).trans rfl⟩ (fun hHeld => ?_)
          clear hK K
          refine norm_ (a' := ?_) ?_ ?_
          rotate_left
          · show Act.put _ (some 84) _ = _
            simp only [Act.put, List.setIfInBounds_toArray, List.set_cons_zero, List.set_cons_succ, i64_w, i32_w]
            rfl
          refine one_ (i := 36) (N := some 87) #[true, true, true, true, true, true, true, true, true, true, true, true, true, true, true, true, true, true, true, true, true, true, true, true, true, true, true, true, true, true, true, true, true, true, true, true, true, false, false] rfl rfl (by kernel_rfl) (by decide) (fun K hK => ?_)
          refine goes_ Try.func33 (by kernel_rfl) rfl #[.agg #[.int .u8 e, .int .u32 (s : Int), .int .u64 (n : Int), .int .i64 u, .int .i64 c], .int .i64 x] (by rfl) rfl rfl (by (try simp only [List.map_toArray, List.map_cons, List.map_nil]); first | done | rfl) ?_
          refine (fascicleref14_Fits.calls kf e (s : Int) (n : Int) u c x _ _ hrf.out).mono ?_
          rintro ee wq ⟨rfl, hbq⟩
          refine ⟨_, rfl, ?_⟩
          have hS := Aside0.mk (hS.out.below hbq)
          clear hbq
          refine hK.out _ _ ⟨(hS.out.cell 0).trans rfl, (hS.out.cell 1).trans rfl, (hS.out.cell 2).trans rfl, (hS.out.cell 3).trans rfl, (hS.out.cell 4).trans rfl, (hS.out.pick1.cell 0).trans rfl, (hS.out.pick1.cell 1).trans rfl, (hS.out.pick1.cell 2).trans rfl, (hS.out.pick1.cell 3).trans rfl, (hS.out.pick1.cell 4).trans rfl, (hS.out.pick2.cell 0).trans rfl, (hS.out.pick2.cell 1).trans rfl⟩ (fun hHeld => ?_)
          clear hK K
          refine norm_ (a' := ?_) ?_ ?_
          rotate_left
          · show Act.put _ (some 87) _ = _
            simp only [Act.put, List.setIfInBounds_toArray, List.set_cons_zero, List.set_cons_succ, i64_w, i32_w]
            rfl
          refine pure_ (i := 37) (N := some 88) (v := ?_) (a' := ?_) #[true, true, true, true, true, true, true, true, true, true, true, true, true, true, true, true, true, true, true, true, true, true, true, true, true, true, true, true, true, true, true, true, true, true, true, true, true, true, false] rfl rfl (by kernel_rfl) (fun _ _ _ h => h) (Or.inl ⟨by rfl, ?_⟩) ?_ ?_
          rotate_left
          · intro w'
            go_simp
            with_reducible rfl
          rotate_left
          · simp only [Act.put, List.setIfInBounds_toArray, List.set_cons_zero, List.set_cons_succ, i64_w, i32_w]
            rfl
          refine pure_ (i := 38) (N := some 89) (v := ?_) (a' := ?_) #[true, true, true, true, true, true, true, true, true, true, true, true, true, true, true, true, true, true, true, true, true, true, true, true, true, true, true, true, true, true, true, true, true, true, true, true, true, true, true] rfl rfl (by kernel_rfl) (fun _ _ _ h => h) (Or.inl ⟨by rfl, ?_⟩) ?_ ?_
          rotate_left
          · intro w'
            go_simp
            with_reducible rfl
          rotate_left
          · simp only [Act.put, List.setIfInBounds_toArray, List.set_cons_zero, List.set_cons_succ, i64_w, i32_w]
            rfl
          refine done_ (by kernel_rfl) ?_
          have hgw_0 : wq.cell? ⟨gw, 0, none⟩ = some (.int .u8 e) := (hS.out.cell 0).trans rfl
          have hgw_1 : wq.cell? ⟨gw, 1, none⟩ = some (.int .u32 (s : Int)) := (hS.out.cell 1).trans rfl
          have hgw_2 : wq.cell? ⟨gw, 2, none⟩ = some (.int .u64 (n : Int)) := (hS.out.cell 2).trans rfl
          have hgw_3 : wq.cell? ⟨gw, 3, none⟩ = some (.int .i64 u) := (hS.out.cell 3).trans rfl
          have hgw_4 : wq.cell? ⟨gw, 4, none⟩ = some (.int .i64 c) := (hS.out.cell 4).trans rfl
          have hgr_0 : wq.cell? ⟨gr, 0, none⟩ = some (.int .u8 e) := (hS.out.pick1.cell 0).trans rfl
          have hgr_1 : wq.cell? ⟨gr, 1, none⟩ = some (.int .u32 (s : Int)) := (hS.out.pick1.cell 1).trans rfl
          have hgr_2 : wq.cell? ⟨gr, 2, none⟩ = some (.int .u32 (n : Int)) := (hS.out.pick1.cell 2).trans rfl
          have hgr_3 : wq.cell? ⟨gr, 3, none⟩ = some (.int .i64 u) := (hS.out.pick1.cell 3).trans rfl
          have hgr_4 : wq.cell? ⟨gr, 4, none⟩ = some (.int .i64 c) := (hS.out.pick1.cell 4).trans rfl
          have hgc_0 : wq.cell? ⟨w.heap.size, 0, none⟩ = some (.int .u8 e) := (hS.out.pick2.cell 0).trans rfl
          have hgc_1 : wq.cell? ⟨w.heap.size, 1, none⟩ = some (.int .u32 (s : Int)) := (hS.out.pick2.cell 1).trans rfl
          go_wp2_with (fail)
          refine (pack_Room_Left.calls e (s : Int) (n : Int) u c LL _ hlf.out).mono ?_
          rintro e5 w7 ⟨rfl, hb7⟩
          have h7 := hS.out.below hb7
          clear hb7 hgw_0 hgw_1 hgw_2 hgw_3 hgw_4 hgr_0 hgr_1 hgr_2 hgr_3 hgr_4 hgc_0 hgc_1
          have hgw_0 : w7.cell? ⟨gw, 0, none⟩ = some (.int .u8 e) := (h7.cell 0).trans rfl
          have hgw_1 : w7.cell? ⟨gw, 1, none⟩ = some (.int .u32 (s : Int)) := (h7.cell 1).trans rfl
          have hgw_2 : w7.cell? ⟨gw, 2, none⟩ = some (.int .u64 (n : Int)) := (h7.cell 2).trans rfl
          have hgw_3 : w7.cell? ⟨gw, 3, none⟩ = some (.int .i64 u) := (h7.cell 3).trans rfl
          have hgw_4 : w7.cell? ⟨gw, 4, none⟩ = some (.int .i64 c) := (h7.cell 4).trans rfl
          have hgr_0 : w7.cell? ⟨gr, 0, none⟩ = some (.int .u8 e) := (h7.pick1.cell 0).trans rfl
          have hgr_1 : w7.cell? ⟨gr, 1, none⟩ = some (.int .u32 (s : Int)) := (h7.pick1.cell 1).trans rfl
          have hgr_2 : w7.cell? ⟨gr, 2, none⟩ = some (.int .u32 (n : Int)) := (h7.pick1.cell 2).trans rfl
          have hgr_3 : w7.cell? ⟨gr, 3, none⟩ = some (.int .i64 u) := (h7.pick1.cell 3).trans rfl
          have hgr_4 : w7.cell? ⟨gr, 4, none⟩ = some (.int .i64 c) := (h7.pick1.cell 4).trans rfl
          have hgc_0 : w7.cell? ⟨w.heap.size, 0, none⟩ = some (.int .u8 e) := (h7.pick2.cell 0).trans rfl
          have hgc_1 : w7.cell? ⟨w.heap.size, 1, none⟩ = some (.int .u32 (s : Int)) := (h7.pick2.cell 1).trans rfl
          have hS7 := Aside0.mk h7
          clear h7
          by_cases hp : 0 < LL
          · have dG : decide (LL > 0) = true := decide_eq_true hp
            have hrl2 := hrl.out
            rw [hL3A.out hp] at hrl2
            have hrl2 := Aside0.mk hrl2
            clear hp
            go_wp2_with (fail)
            refine (fascicleref14_Fits.calls kl e (s : Int) (n : Int) u c LL true _ hrl2.out).mono ?_
            rintro e6 w8 ⟨rfl, hb8⟩
            have h8 := hS7.out.below hb8
            clear hb8 hgw_0 hgw_1 hgw_2 hgw_3 hgw_4 hgr_0 hgr_1 hgr_2 hgr_3 hgr_4 hgc_0 hgc_1
            have hgw_0 : w8.cell? ⟨gw, 0, none⟩ = some (.int .u8 e) := (h8.cell 0).trans rfl
            have hgw_1 : w8.cell? ⟨gw, 1, none⟩ = some (.int .u32 (s : Int)) := (h8.cell 1).trans rfl
            have hgw_2 : w8.cell? ⟨gw, 2, none⟩ = some (.int .u64 (n : Int)) := (h8.cell 2).trans rfl
            have hgw_3 : w8.cell? ⟨gw, 3, none⟩ = some (.int .i64 u) := (h8.cell 3).trans rfl
            have hgw_4 : w8.cell? ⟨gw, 4, none⟩ = some (.int .i64 c) := (h8.cell 4).trans rfl
            have hgr_0 : w8.cell? ⟨gr, 0, none⟩ = some (.int .u8 e) := (h8.pick1.cell 0).trans rfl
            have hgr_1 : w8.cell? ⟨gr, 1, none⟩ = some (.int .u32 (s : Int)) := (h8.pick1.cell 1).trans rfl
            have hgr_2 : w8.cell? ⟨gr, 2, none⟩ = some (.int .u32 (n : Int)) := (h8.pick1.cell 2).trans rfl
            have hgr_3 : w8.cell? ⟨gr, 3, none⟩ = some (.int .i64 u) := (h8.pick1.cell 3).trans rfl
            have hgr_4 : w8.cell? ⟨gr, 4, none⟩ = some (.int .i64 c) := (h8.pick1.cell 4).trans rfl
            have hgc_0 : w8.cell? ⟨w.heap.size, 0, none⟩ = some (.int .u8 e) := (h8.pick2.cell 0).trans rfl
            have hgc_1 : w8.cell? ⟨w.heap.size, 1, none⟩ = some (.int .u32 (s : Int)) := (h8.pick2.cell 1).trans rfl
            have hS8 := Aside0.mk h8
            clear h8
            go_wp2_with (fail)
            refine (fascicleref14_Fits.calls km e (s : Int) (n : Int) u c (LL + 1) false _ hrm.out).mono ?_
            rintro e7 w9 ⟨rfl, hb9⟩
            have h9 := hS8.out.below hb9
            clear hb9 hgw_0 hgw_1 hgw_2 hgw_3 hgw_4 hgr_0 hgr_1 hgr_2 hgr_3 hgr_4 hgc_0 hgc_1
            have hgw_0 : w9.cell? ⟨gw, 0, none⟩ = some (.int .u8 e) := (h9.cell 0).trans rfl
            have hgw_1 : w9.cell? ⟨gw, 1, none⟩ = some (.int .u32 (s : Int)) := (h9.cell 1).trans rfl
            have hgw_2 : w9.cell? ⟨gw, 2, none⟩ = some (.int .u64 (n : Int)) := (h9.cell 2).trans rfl
            have hgw_3 : w9.cell? ⟨gw, 3, none⟩ = some (.int .i64 u) := (h9.cell 3).trans rfl
            have hgw_4 : w9.cell? ⟨gw, 4, none⟩ = some (.int .i64 c) := (h9.cell 4).trans rfl
            have hgr_0 : w9.cell? ⟨gr, 0, none⟩ = some (.int .u8 e) := (h9.pick1.cell 0).trans rfl
            have hgr_1 : w9.cell? ⟨gr, 1, none⟩ = some (.int .u32 (s : Int)) := (h9.pick1.cell 1).trans rfl
            have hgr_2 : w9.cell? ⟨gr, 2, none⟩ = some (.int .u32 (n : Int)) := (h9.pick1.cell 2).trans rfl
            have hgr_3 : w9.cell? ⟨gr, 3, none⟩ = some (.int .i64 u) := (h9.pick1.cell 3).trans rfl
            have hgr_4 : w9.cell? ⟨gr, 4, none⟩ = some (.int .i64 c) := (h9.pick1.cell 4).trans rfl
            have hgc_0 : w9.cell? ⟨w.heap.size, 0, none⟩ = some (.int .u8 e) := (h9.pick2.cell 0).trans rfl
            have hgc_1 : w9.cell? ⟨w.heap.size, 1, none⟩ = some (.int .u32 (s : Int)) := (h9.pick2.cell 1).trans rfl
            have hS9 := Aside0.mk h9
            clear h9 wL1 dL dG
            cases hfb : fitsb S u c x with
            | true =>
              rw [hfb] at hft
              obtain ⟨a0, a1, a2, a3, a4⟩ := hA.out
              have hSb := hSbA.out
              have hll := hlA.out
              have htk := Aside0.mk (take_ok hCfA.out (n : Int) u c x a1 (by omega) a3 (by omega) hfb)
              have hus := fits_used hfb a3
              have hrt := Aside0.mk (rtake_ok e (s : Int) (n : Int) u c x (by omega) (by omega) (by omega) (by omega))
              have hnew : Aside0 (i + 1 + kk = l.length ∧ 0 ≤ u + x ∧ u + x ≤ S ∧ 0 ≤ c + 1 ∧ c + 1 ≤ (i + 1 : Nat)) := ⟨by omega⟩
              have hw1 : wrap64 ((i : Int) + 1) = ((i + 1 : Nat) : Int) := by rw [w64 (by omega) (by omega)]; omega
              clear a0 a1 a2 a3 a4 hSb hll hus hfb
              go_wp2_with (fail)
              refine (pack_Room_Take.calls e (s : Int) (n : Int) u c x _ _ _ _ _ _ _ htk.out).mono ?_
              rintro ea wa ⟨rfl, hba⟩
              have ha := hS9.out.below hba
              clear hba hgw_0 hgw_1 hgw_2 hgw_3 hgw_4 hgr_0 hgr_1 hgr_2 hgr_3 hgr_4 hgc_0 hgc_1
              obtain ⟨gx, hgx⟩ : ∃ gx, wa.heap.size = gx := ⟨_, rfl⟩
              go_upto_region 16 with (fail)
              have hb := ha.alloc #[.int .u8 e, .int .u32 (s : Int), .int .u32 (n : Int), .int .i64 (u + x), .int .i64 (c + 1)] 52
              rw [hgx] at hb
              generalize wa.alloc (.cells #[.int .u8 e, .int .u32 (s : Int), .int .u32 (n : Int), .int .i64 (u + x), .int .i64 (c + 1)] 52 (0, 0)) = wb at hb ⊢
              clear ha hgx
              have hgw_0 : wb.cell? ⟨gw, 0, none⟩ = some (.int .u8 e) := (hb.pick1.cell 0).trans rfl
              have hgw_1 : wb.cell? ⟨gw, 1, none⟩ = some (.int .u32 (s : Int)) := (hb.pick1.cell 1).trans rfl
              have hgw_2 : wb.cell? ⟨gw, 2, none⟩ = some (.int .u64 (n : Int)) := (hb.pick1.cell 2).trans rfl
              have hgw_3 : wb.cell? ⟨gw, 3, none⟩ = some (.int .i64 u) := (hb.pick1.cell 3).trans rfl
              have hgw_4 : wb.cell? ⟨gw, 4, none⟩ = some (.int .i64 c) := (hb.pick1.cell 4).trans rfl
              have hgr_0 : wb.cell? ⟨gr, 0, none⟩ = some (.int .u8 e) := (hb.pick2.cell 0).trans rfl
              have hgr_1 : wb.cell? ⟨gr, 1, none⟩ = some (.int .u32 (s : Int)) := (hb.pick2.cell 1).trans rfl
              have hgr_2 : wb.cell? ⟨gr, 2, none⟩ = some (.int .u32 (n : Int)) := (hb.pick2.cell 2).trans rfl
              have hgr_3 : wb.cell? ⟨gr, 3, none⟩ = some (.int .i64 u) := (hb.pick2.cell 3).trans rfl
              have hgr_4 : wb.cell? ⟨gr, 4, none⟩ = some (.int .i64 c) := (hb.pick2.cell 4).trans rfl
              have hgc_0 : wb.cell? ⟨w.heap.size, 0, none⟩ = some (.int .u8 e) := (hb.pick3.cell 0).trans rfl
              have hgc_1 : wb.cell? ⟨w.heap.size, 1, none⟩ = some (.int .u32 (s : Int)) := (hb.pick3.cell 1).trans rfl
              have hSB := Aside0.mk hb
              clear hb
              go_wp2_with (fail)
              refine (pack_Room_Fits.calls e (s : Int) (n : Int) u c x true _ hft.out).mono ?_
              rintro eb wc ⟨rfl, hbc⟩
              have hc := hSB.out.below hbc
              clear hbc hgw_0 hgw_1 hgw_2 hgw_3 hgw_4 hgr_0 hgr_1 hgr_2 hgr_3 hgr_4 hgc_0 hgc_1
              have hnx_0 : wc.cell? ⟨gx, 0, none⟩ = some (.int .u8 e) := (hc.cell 0).trans rfl
              have hnx_1 : wc.cell? ⟨gx, 1, none⟩ = some (.int .u32 (s : Int)) := (hc.cell 1).trans rfl
              have hnx_2 : wc.cell? ⟨gx, 2, none⟩ = some (.int .u32 (n : Int)) := (hc.cell 2).trans rfl
              have hnx_3 : wc.cell? ⟨gx, 3, none⟩ = some (.int .i64 (u + x)) := (hc.cell 3).trans rfl
              have hnx_4 : wc.cell? ⟨gx, 4, none⟩ = some (.int .i64 (c + 1)) := (hc.cell 4).trans rfl
              have hgw_0 : wc.cell? ⟨gw, 0, none⟩ = some (.int .u8 e) := (hc.pick1.cell 0).trans rfl
              have hgw_1 : wc.cell? ⟨gw, 1, none⟩ = some (.int .u32 (s : Int)) := (hc.pick1.cell 1).trans rfl
              have hgw_2 : wc.cell? ⟨gw, 2, none⟩ = some (.int .u64 (n : Int)) := (hc.pick1.cell 2).trans rfl
              have hgw_3 : wc.cell? ⟨gw, 3, none⟩ = some (.int .i64 u) := (hc.pick1.cell 3).trans rfl
              have hgw_4 : wc.cell? ⟨gw, 4, none⟩ = some (.int .i64 c) := (hc.pick1.cell 4).trans rfl
              have hgr_0 : wc.cell? ⟨gr, 0, none⟩ = some (.int .u8 e) := (hc.pick2.cell 0).trans rfl
              have hgr_1 : wc.cell? ⟨gr, 1, none⟩ = some (.int .u32 (s : Int)) := (hc.pick2.cell 1).trans rfl
              have hgr_2 : wc.cell? ⟨gr, 2, none⟩ = some (.int .u32 (n : Int)) := (hc.pick2.cell 2).trans rfl
              have hgr_3 : wc.cell? ⟨gr, 3, none⟩ = some (.int .i64 u) := (hc.pick2.cell 3).trans rfl
              have hgr_4 : wc.cell? ⟨gr, 4, none⟩ = some (.int .i64 c) := (hc.pick2.cell 4).trans rfl
              have hgc_0 : wc.cell? ⟨w.heap.size, 0, none⟩ = some (.int .u8 e) := (hc.pick3.cell 0).trans rfl
              have hgc_1 : wc.cell? ⟨w.heap.size, 1, none⟩ = some (.int .u32 (s : Int)) := (hc.pick3.cell 1).trans rfl
              have hzr_0 := hc.pick2.frozen 0
              have hzr_1 := hc.pick2.frozen 1
              have hzr_2 := hc.pick2.frozen 2
              have hzr_3 := hc.pick2.frozen 3
              have hzr_4 := hc.pick2.frozen 4
              have hSC := Aside0.mk hc
              clear hc
              go_upto_region 20 with (fail)
              have hs1 := (((((hSC.out.pick2.set 0 (.int .u8 e)).set 1 (.int .u32 (s : Int))).set 2 (.int .u32 (n : Int))).set 3 (.int .i64 (u + x))).set 4 (.int .i64 (c + 1)))
              simp only [List.setIfInBounds_toArray, List.set_cons_zero, List.set_cons_succ] at hs1
              have hs2 := hs1.put2
              generalize ((((wc.setCell ⟨gr, 0, none⟩ (.int .u8 e)).setCell ⟨gr, 1, none⟩ (.int .u32 (s : Int))).setCell ⟨gr, 2, none⟩ (.int .u32 (n : Int))).setCell ⟨gr, 3, none⟩ (.int .i64 (u + x))).setCell ⟨gr, 4, none⟩ (.int .i64 (c + 1)) = wd at hs2 ⊢
              clear hs1 hgw_0 hgw_1 hgw_2 hgw_3 hgw_4 hgr_0 hgr_1 hgr_2 hgr_3 hgr_4 hgc_0 hgc_1 hnx_0 hnx_1 hnx_2 hnx_3 hnx_4 hzr_0 hzr_1 hzr_2 hzr_3 hzr_4
              have hgw_0 : wd.cell? ⟨gw, 0, none⟩ = some (.int .u8 e) := (hs2.pick1.cell 0).trans rfl
              have hgw_1 : wd.cell? ⟨gw, 1, none⟩ = some (.int .u32 (s : Int)) := (hs2.pick1.cell 1).trans rfl
              have hgw_2 : wd.cell? ⟨gw, 2, none⟩ = some (.int .u64 (n : Int)) := (hs2.pick1.cell 2).trans rfl
              have hgw_3 : wd.cell? ⟨gw, 3, none⟩ = some (.int .i64 u) := (hs2.pick1.cell 3).trans rfl
              have hgw_4 : wd.cell? ⟨gw, 4, none⟩ = some (.int .i64 c) := (hs2.pick1.cell 4).trans rfl
              have hSD := Aside0.mk hs2
              clear hs2
              go_wp2_with (fail)
              refine (fascicleref14_Take.calls e (s : Int) (n : Int) u c x _ _ _ _ _ _ hrt.out).mono ?_
              rintro ed we ⟨rfl, hbe⟩
              have he := hSD.out.below hbe
              clear hbe hgw_0 hgw_1 hgw_2 hgw_3 hgw_4
              have hgw_0 : we.cell? ⟨gw, 0, none⟩ = some (.int .u8 e) := (he.pick1.cell 0).trans rfl
              have hgw_1 : we.cell? ⟨gw, 1, none⟩ = some (.int .u32 (s : Int)) := (he.pick1.cell 1).trans rfl
              have hgw_2 : we.cell? ⟨gw, 2, none⟩ = some (.int .u64 (n : Int)) := (he.pick1.cell 2).trans rfl
              have hgw_3 : we.cell? ⟨gw, 3, none⟩ = some (.int .i64 u) := (he.pick1.cell 3).trans rfl
              have hgw_4 : we.cell? ⟨gw, 4, none⟩ = some (.int .i64 c) := (he.pick1.cell 4).trans rfl
              have hzw_0 := he.pick1.frozen 0
              have hzw_1 := he.pick1.frozen 1
              have hzw_2 := he.pick1.frozen 2
              have hzw_3 := he.pick1.frozen 3
              have hzw_4 := he.pick1.frozen 4
              have hs3 := (((((he.pick1.set 0 (.int .u8 e)).set 1 (.int .u32 (s : Int))).set 2 (.int .u64 (n : Int))).set 3 (.int .i64 (u + x))).set 4 (.int .i64 (c + 1)))
              simp only [List.setIfInBounds_toArray, List.set_cons_zero, List.set_cons_succ] at hs3
              have hSE := Aside0.mk hs3.put1.tail
              clear hs3 he
              go_wp2_with (fail)
              go_roundg kk
              case measure => omega
              case rel => exact ⟨i + 1, u + x, c + 1, rfl, by first | rfl | simp [hw1] | simp, hnew, hSE⟩
            | false =>
              rw [hfb] at hft
              obtain ⟨a0, a1, a2, a3, a4⟩ := hA.out
              have hSb := hSbA.out
              have hll := hlA.out
              have htk := Aside0.mk (take_no hCfA.out (n : Int) u c x a1 (by omega) a3 (by omega) hfb)
              have hnew : Aside0 (i + 1 + kk = l.length ∧ 0 ≤ u ∧ u ≤ S ∧ 0 ≤ c ∧ c ≤ (i + 1 : Nat)) := ⟨by omega⟩
              have hw1 : wrap64 ((i : Int) + 1) = ((i + 1 : Nat) : Int) := by rw [w64 (by omega) (by omega)]; omega
              clear a0 a1 a2 a3 a4 hSb hll hfb
              go_wp2_with (fail)
              refine (pack_Room_Take.calls e (s : Int) (n : Int) u c x _ _ _ _ _ _ _ htk.out).mono ?_
              rintro ea wa ⟨rfl, hba⟩
              have ha := hS9.out.below hba
              clear hba hgw_0 hgw_1 hgw_2 hgw_3 hgw_4 hgr_0 hgr_1 hgr_2 hgr_3 hgr_4 hgc_0 hgc_1
              obtain ⟨gx, hgx⟩ : ∃ gx, wa.heap.size = gx := ⟨_, rfl⟩
              go_upto_region 16 with (fail)
              have hb := ha.alloc #[.int .u8 0, .int .u32 0, .int .u32 0, .int .i64 0, .int .i64 0] 52
              rw [hgx] at hb
              generalize wa.alloc (.cells #[.int .u8 0, .int .u32 0, .int .u32 0, .int .i64 0, .int .i64 0] 52 (0, 0)) = wb at hb ⊢
              clear ha hgx
              have hgw_0 : wb.cell? ⟨gw, 0, none⟩ = some (.int .u8 e) := (hb.pick1.cell 0).trans rfl
              have hgw_1 : wb.cell? ⟨gw, 1, none⟩ = some (.int .u32 (s : Int)) := (hb.pick1.cell 1).trans rfl
              have hgw_2 : wb.cell? ⟨gw, 2, none⟩ = some (.int .u64 (n : Int)) := (hb.pick1.cell 2).trans rfl
              have hgw_3 : wb.cell? ⟨gw, 3, none⟩ = some (.int .i64 u) := (hb.pick1.cell 3).trans rfl
              have hgw_4 : wb.cell? ⟨gw, 4, none⟩ = some (.int .i64 c) := (hb.pick1.cell 4).trans rfl
              have hgr_0 : wb.cell? ⟨gr, 0, none⟩ = some (.int .u8 e) := (hb.pick2.cell 0).trans rfl
              have hgr_1 : wb.cell? ⟨gr, 1, none⟩ = some (.int .u32 (s : Int)) := (hb.pick2.cell 1).trans rfl
              have hgr_2 : wb.cell? ⟨gr, 2, none⟩ = some (.int .u32 (n : Int)) := (hb.pick2.cell 2).trans rfl
              have hgr_3 : wb.cell? ⟨gr, 3, none⟩ = some (.int .i64 u) := (hb.pick2.cell 3).trans rfl
              have hgr_4 : wb.cell? ⟨gr, 4, none⟩ = some (.int .i64 c) := (hb.pick2.cell 4).trans rfl
              have hgc_0 : wb.cell? ⟨w.heap.size, 0, none⟩ = some (.int .u8 e) := (hb.pick3.cell 0).trans rfl
              have hgc_1 : wb.cell? ⟨w.heap.size, 1, none⟩ = some (.int .u32 (s : Int)) := (hb.pick3.cell 1).trans rfl
              have hSB := Aside0.mk hb
              clear hb
              go_wp2_with (fail)
              refine (pack_Room_Fits.calls e (s : Int) (n : Int) u c x false _ hft.out).mono ?_
              rintro eb wc ⟨rfl, hbc⟩
              have hc := hSB.out.below hbc
              clear hbc hgw_0 hgw_1 hgw_2 hgw_3 hgw_4 hgr_0 hgr_1 hgr_2 hgr_3 hgr_4 hgc_0 hgc_1
              have hnx_0 : wc.cell? ⟨gx, 0, none⟩ = some (.int .u8 0) := (hc.cell 0).trans rfl
              have hnx_1 : wc.cell? ⟨gx, 1, none⟩ = some (.int .u32 0) := (hc.cell 1).trans rfl
              have hnx_2 : wc.cell? ⟨gx, 2, none⟩ = some (.int .u32 0) := (hc.cell 2).trans rfl
              have hnx_3 : wc.cell? ⟨gx, 3, none⟩ = some (.int .i64 0) := (hc.cell 3).trans rfl
              have hnx_4 : wc.cell? ⟨gx, 4, none⟩ = some (.int .i64 0) := (hc.cell 4).trans rfl
              have hSC := Aside0.mk hc.tail
              clear hc
              go_wp2_with (fail)
              go_roundg kk
              case measure => omega
              case rel => exact ⟨i + 1, u, c, rfl, by first | rfl | simp [hw1] | simp, hnew, hSC⟩
          · have dG : decide (LL > 0) = false := decide_eq_false hp
            clear hp
            go_wp2_with (fail)
            refine (fascicleref14_Fits.calls km e (s : Int) (n : Int) u c (LL + 1) false _ hrm.out).mono ?_
            rintro e7 w9 ⟨rfl, hb9⟩
            have h9 := hS7.out.below hb9
            clear hb9 hgw_0 hgw_1 hgw_2 hgw_3 hgw_4 hgr_0 hgr_1 hgr_2 hgr_3 hgr_4 hgc_0 hgc_1
            have hgw_0 : w9.cell? ⟨gw, 0, none⟩ = some (.int .u8 e) := (h9.cell 0).trans rfl
            have hgw_1 : w9.cell? ⟨gw, 1, none⟩ = some (.int .u32 (s : Int)) := (h9.cell 1).trans rfl
            have hgw_2 : w9.cell? ⟨gw, 2, none⟩ = some (.int .u64 (n : Int)) := (h9.cell 2).trans rfl
            have hgw_3 : w9.cell? ⟨gw, 3, none⟩ = some (.int .i64 u) := (h9.cell 3).trans rfl
            have hgw_4 : w9.cell? ⟨gw, 4, none⟩ = some (.int .i64 c) := (h9.cell 4).trans rfl
            have hgr_0 : w9.cell? ⟨gr, 0, none⟩ = some (.int .u8 e) := (h9.pick1.cell 0).trans rfl
            have hgr_1 : w9.cell? ⟨gr, 1, none⟩ = some (.int .u32 (s : Int)) := (h9.pick1.cell 1).trans rfl
            have hgr_2 : w9.cell? ⟨gr, 2, none⟩ = some (.int .u32 (n : Int)) := (h9.pick1.cell 2).trans rfl
            have hgr_3 : w9.cell? ⟨gr, 3, none⟩ = some (.int .i64 u) := (h9.pick1.cell 3).trans rfl
            have hgr_4 : w9.cell? ⟨gr, 4, none⟩ = some (.int .i64 c) := (h9.pick1.cell 4).trans rfl
            have hgc_0 : w9.cell? ⟨w.heap.size, 0, none⟩ = some (.int .u8 e) := (h9.pick2.cell 0).trans rfl
            have hgc_1 : w9.cell? ⟨w.heap.size, 1, none⟩ = some (.int .u32 (s : Int)) := (h9.pick2.cell 1).trans rfl
            have hS9 := Aside0.mk h9
            clear h9 wL1 dL dG
            cases hfb : fitsb S u c x with
            | true =>
              rw [hfb] at hft
              obtain ⟨a0, a1, a2, a3, a4⟩ := hA.out
              have hSb := hSbA.out
              have hll := hlA.out
              have htk := Aside0.mk (take_ok hCfA.out (n : Int) u c x a1 (by omega) a3 (by omega) hfb)
              have hus := fits_used hfb a3
              have hrt := Aside0.mk (rtake_ok e (s : Int) (n : Int) u c x (by omega) (by omega) (by omega) (by omega))
              have hnew : Aside0 (i + 1 + kk = l.length ∧ 0 ≤ u + x ∧ u + x ≤ S ∧ 0 ≤ c + 1 ∧ c + 1 ≤ (i + 1 : Nat)) := ⟨by omega⟩
              have hw1 : wrap64 ((i : Int) + 1) = ((i + 1 : Nat) : Int) := by rw [w64 (by omega) (by omega)]; omega
              clear a0 a1 a2 a3 a4 hSb hll hus hfb
              go_wp2_with (fail)
              refine (pack_Room_Take.calls e (s : Int) (n : Int) u c x _ _ _ _ _ _ _ htk.out).mono ?_
              rintro ea wa ⟨rfl, hba⟩
              have ha := hS9.out.below hba
              clear hba hgw_0 hgw_1 hgw_2 hgw_3 hgw_4 hgr_0 hgr_1 hgr_2 hgr_3 hgr_4 hgc_0 hgc_1
              obtain ⟨gx, hgx⟩ : ∃ gx, wa.heap.size = gx := ⟨_, rfl⟩
              go_upto_region 16 with (fail)
              have hb := ha.alloc #[.int .u8 e, .int .u32 (s : Int), .int .u32 (n : Int), .int .i64 (u + x), .int .i64 (c + 1)] 52
              rw [hgx] at hb
              generalize wa.alloc (.cells #[.int .u8 e, .int .u32 (s : Int), .int .u32 (n : Int), .int .i64 (u + x), .int .i64 (c + 1)] 52 (0, 0)) = wb at hb ⊢
              clear ha hgx
              have hgw_0 : wb.cell? ⟨gw, 0, none⟩ = some (.int .u8 e) := (hb.pick1.cell 0).trans rfl
              have hgw_1 : wb.cell? ⟨gw, 1, none⟩ = some (.int .u32 (s : Int)) := (hb.pick1.cell 1).trans rfl
              have hgw_2 : wb.cell? ⟨gw, 2, none⟩ = some (.int .u64 (n : Int)) := (hb.pick1.cell 2).trans rfl
              have hgw_3 : wb.cell? ⟨gw, 3, none⟩ = some (.int .i64 u) := (hb.pick1.cell 3).trans rfl
              have hgw_4 : wb.cell? ⟨gw, 4, none⟩ = some (.int .i64 c) := (hb.pick1.cell 4).trans rfl
              have hgr_0 : wb.cell? ⟨gr, 0, none⟩ = some (.int .u8 e) := (hb.pick2.cell 0).trans rfl
              have hgr_1 : wb.cell? ⟨gr, 1, none⟩ = some (.int .u32 (s : Int)) := (hb.pick2.cell 1).trans rfl
              have hgr_2 : wb.cell? ⟨gr, 2, none⟩ = some (.int .u32 (n : Int)) := (hb.pick2.cell 2).trans rfl
              have hgr_3 : wb.cell? ⟨gr, 3, none⟩ = some (.int .i64 u) := (hb.pick2.cell 3).trans rfl
              have hgr_4 : wb.cell? ⟨gr, 4, none⟩ = some (.int .i64 c) := (hb.pick2.cell 4).trans rfl
              have hgc_0 : wb.cell? ⟨w.heap.size, 0, none⟩ = some (.int .u8 e) := (hb.pick3.cell 0).trans rfl
              have hgc_1 : wb.cell? ⟨w.heap.size, 1, none⟩ = some (.int .u32 (s : Int)) := (hb.pick3.cell 1).trans rfl
              have hSB := Aside0.mk hb
              clear hb
              go_wp2_with (fail)
              refine (pack_Room_Fits.calls e (s : Int) (n : Int) u c x true _ hft.out).mono ?_
              rintro eb wc ⟨rfl, hbc⟩
              have hc := hSB.out.below hbc
              clear hbc hgw_0 hgw_1 hgw_2 hgw_3 hgw_4 hgr_0 hgr_1 hgr_2 hgr_3 hgr_4 hgc_0 hgc_1
              have hnx_0 : wc.cell? ⟨gx, 0, none⟩ = some (.int .u8 e) := (hc.cell 0).trans rfl
              have hnx_1 : wc.cell? ⟨gx, 1, none⟩ = some (.int .u32 (s : Int)) := (hc.cell 1).trans rfl
              have hnx_2 : wc.cell? ⟨gx, 2, none⟩ = some (.int .u32 (n : Int)) := (hc.cell 2).trans rfl
              have hnx_3 : wc.cell? ⟨gx, 3, none⟩ = some (.int .i64 (u + x)) := (hc.cell 3).trans rfl
              have hnx_4 : wc.cell? ⟨gx, 4, none⟩ = some (.int .i64 (c + 1)) := (hc.cell 4).trans rfl
              have hgw_0 : wc.cell? ⟨gw, 0, none⟩ = some (.int .u8 e) := (hc.pick1.cell 0).trans rfl
              have hgw_1 : wc.cell? ⟨gw, 1, none⟩ = some (.int .u32 (s : Int)) := (hc.pick1.cell 1).trans rfl
              have hgw_2 : wc.cell? ⟨gw, 2, none⟩ = some (.int .u64 (n : Int)) := (hc.pick1.cell 2).trans rfl
              have hgw_3 : wc.cell? ⟨gw, 3, none⟩ = some (.int .i64 u) := (hc.pick1.cell 3).trans rfl
              have hgw_4 : wc.cell? ⟨gw, 4, none⟩ = some (.int .i64 c) := (hc.pick1.cell 4).trans rfl
              have hgr_0 : wc.cell? ⟨gr, 0, none⟩ = some (.int .u8 e) := (hc.pick2.cell 0).trans rfl
              have hgr_1 : wc.cell? ⟨gr, 1, none⟩ = some (.int .u32 (s : Int)) := (hc.pick2.cell 1).trans rfl
              have hgr_2 : wc.cell? ⟨gr, 2, none⟩ = some (.int .u32 (n : Int)) := (hc.pick2.cell 2).trans rfl
              have hgr_3 : wc.cell? ⟨gr, 3, none⟩ = some (.int .i64 u) := (hc.pick2.cell 3).trans rfl
              have hgr_4 : wc.cell? ⟨gr, 4, none⟩ = some (.int .i64 c) := (hc.pick2.cell 4).trans rfl
              have hgc_0 : wc.cell? ⟨w.heap.size, 0, none⟩ = some (.int .u8 e) := (hc.pick3.cell 0).trans rfl
              have hgc_1 : wc.cell? ⟨w.heap.size, 1, none⟩ = some (.int .u32 (s : Int)) := (hc.pick3.cell 1).trans rfl
              have hzr_0 := hc.pick2.frozen 0
              have hzr_1 := hc.pick2.frozen 1
              have hzr_2 := hc.pick2.frozen 2
              have hzr_3 := hc.pick2.frozen 3
              have hzr_4 := hc.pick2.frozen 4
              have hSC := Aside0.mk hc
              clear hc
              go_upto_region 20 with (fail)
              have hs1 := (((((hSC.out.pick2.set 0 (.int .u8 e)).set 1 (.int .u32 (s : Int))).set 2 (.int .u32 (n : Int))).set 3 (.int .i64 (u + x))).set 4 (.int .i64 (c + 1)))
              simp only [List.setIfInBounds_toArray, List.set_cons_zero, List.set_cons_succ] at hs1
              have hs2 := hs1.put2
              generalize ((((wc.setCell ⟨gr, 0, none⟩ (.int .u8 e)).setCell ⟨gr, 1, none⟩ (.int .u32 (s : Int))).setCell ⟨gr, 2, none⟩ (.int .u32 (n : Int))).setCell ⟨gr, 3, none⟩ (.int .i64 (u + x))).setCell ⟨gr, 4, none⟩ (.int .i64 (c + 1)) = wd at hs2 ⊢
              clear hs1 hgw_0 hgw_1 hgw_2 hgw_3 hgw_4 hgr_0 hgr_1 hgr_2 hgr_3 hgr_4 hgc_0 hgc_1 hnx_0 hnx_1 hnx_2 hnx_3 hnx_4 hzr_0 hzr_1 hzr_2 hzr_3 hzr_4
              have hgw_0 : wd.cell? ⟨gw, 0, none⟩ = some (.int .u8 e) := (hs2.pick1.cell 0).trans rfl
              have hgw_1 : wd.cell? ⟨gw, 1, none⟩ = some (.int .u32 (s : Int)) := (hs2.pick1.cell 1).trans rfl
              have hgw_2 : wd.cell? ⟨gw, 2, none⟩ = some (.int .u64 (n : Int)) := (hs2.pick1.cell 2).trans rfl
              have hgw_3 : wd.cell? ⟨gw, 3, none⟩ = some (.int .i64 u) := (hs2.pick1.cell 3).trans rfl
              have hgw_4 : wd.cell? ⟨gw, 4, none⟩ = some (.int .i64 c) := (hs2.pick1.cell 4).trans rfl
              have hSD := Aside0.mk hs2
              clear hs2
              go_wp2_with (fail)
              refine (fascicleref14_Take.calls e (s : Int) (n : Int) u c x _ _ _ _ _ _ hrt.out).mono ?_
              rintro ed we ⟨rfl, hbe⟩
              have he := hSD.out.below hbe
              clear hbe hgw_0 hgw_1 hgw_2 hgw_3 hgw_4
              have hgw_0 : we.cell? ⟨gw, 0, none⟩ = some (.int .u8 e) := (he.pick1.cell 0).trans rfl
              have hgw_1 : we.cell? ⟨gw, 1, none⟩ = some (.int .u32 (s : Int)) := (he.pick1.cell 1).trans rfl
              have hgw_2 : we.cell? ⟨gw, 2, none⟩ = some (.int .u64 (n : Int)) := (he.pick1.cell 2).trans rfl
              have hgw_3 : we.cell? ⟨gw, 3, none⟩ = some (.int .i64 u) := (he.pick1.cell 3).trans rfl
              have hgw_4 : we.cell? ⟨gw, 4, none⟩ = some (.int .i64 c) := (he.pick1.cell 4).trans rfl
              have hzw_0 := he.pick1.frozen 0
              have hzw_1 := he.pick1.frozen 1
              have hzw_2 := he.pick1.frozen 2
              have hzw_3 := he.pick1.frozen 3
              have hzw_4 := he.pick1.frozen 4
              have hs3 := (((((he.pick1.set 0 (.int .u8 e)).set 1 (.int .u32 (s : Int))).set 2 (.int .u64 (n : Int))).set 3 (.int .i64 (u + x))).set 4 (.int .i64 (c + 1)))
              simp only [List.setIfInBounds_toArray, List.set_cons_zero, List.set_cons_succ] at hs3
              have hSE := Aside0.mk hs3.put1.tail
              clear hs3 he
              go_wp2_with (fail)
              go_roundg kk
              case measure => omega
              case rel => exact ⟨i + 1, u + x, c + 1, rfl, by first | rfl | simp [hw1] | simp, hnew, hSE⟩
            | false =>
              rw [hfb] at hft
              obtain ⟨a0, a1, a2, a3, a4⟩ := hA.out
              have hSb := hSbA.out
              have hll := hlA.out
              have htk := Aside0.mk (take_no hCfA.out (n : Int) u c x a1 (by omega) a3 (by omega) hfb)
              have hnew : Aside0 (i + 1 + kk = l.length ∧ 0 ≤ u ∧ u ≤ S ∧ 0 ≤ c ∧ c ≤ (i + 1 : Nat)) := ⟨by omega⟩
              have hw1 : wrap64 ((i : Int) + 1) = ((i + 1 : Nat) : Int) := by rw [w64 (by omega) (by omega)]; omega
              clear a0 a1 a2 a3 a4 hSb hll hfb
              go_wp2_with (fail)
              refine (pack_Room_Take.calls e (s : Int) (n : Int) u c x _ _ _ _ _ _ _ htk.out).mono ?_
              rintro ea wa ⟨rfl, hba⟩
              have ha := hS9.out.below hba
              clear hba hgw_0 hgw_1 hgw_2 hgw_3 hgw_4 hgr_0 hgr_1 hgr_2 hgr_3 hgr_4 hgc_0 hgc_1
              obtain ⟨gx, hgx⟩ : ∃ gx, wa.heap.size = gx := ⟨_, rfl⟩
              go_upto_region 16 with (fail)
              have hb := ha.alloc #[.int .u8 0, .int .u32 0, .int .u32 0, .int .i64 0, .int .i64 0] 52
              rw [hgx] at hb
              generalize wa.alloc (.cells #[.int .u8 0, .int .u32 0, .int .u32 0, .int .i64 0, .int .i64 0] 52 (0, 0)) = wb at hb ⊢
              clear ha hgx
              have hgw_0 : wb.cell? ⟨gw, 0, none⟩ = some (.int .u8 e) := (hb.pick1.cell 0).trans rfl
              have hgw_1 : wb.cell? ⟨gw, 1, none⟩ = some (.int .u32 (s : Int)) := (hb.pick1.cell 1).trans rfl
              have hgw_2 : wb.cell? ⟨gw, 2, none⟩ = some (.int .u64 (n : Int)) := (hb.pick1.cell 2).trans rfl
              have hgw_3 : wb.cell? ⟨gw, 3, none⟩ = some (.int .i64 u) := (hb.pick1.cell 3).trans rfl
              have hgw_4 : wb.cell? ⟨gw, 4, none⟩ = some (.int .i64 c) := (hb.pick1.cell 4).trans rfl
              have hgr_0 : wb.cell? ⟨gr, 0, none⟩ = some (.int .u8 e) := (hb.pick2.cell 0).trans rfl
              have hgr_1 : wb.cell? ⟨gr, 1, none⟩ = some (.int .u32 (s : Int)) := (hb.pick2.cell 1).trans rfl
              have hgr_2 : wb.cell? ⟨gr, 2, none⟩ = some (.int .u32 (n : Int)) := (hb.pick2.cell 2).trans rfl
              have hgr_3 : wb.cell? ⟨gr, 3, none⟩ = some (.int .i64 u) := (hb.pick2.cell 3).trans rfl
              have hgr_4 : wb.cell? ⟨gr, 4, none⟩ = some (.int .i64 c) := (hb.pick2.cell 4).trans rfl
              have hgc_0 : wb.cell? ⟨w.heap.size, 0, none⟩ = some (.int .u8 e) := (hb.pick3.cell 0).trans rfl
              have hgc_1 : wb.cell? ⟨w.heap.size, 1, none⟩ = some (.int .u32 (s : Int)) := (hb.pick3.cell 1).trans rfl
              have hSB := Aside0.mk hb
              clear hb
              go_wp2_with (fail)
              refine (pack_Room_Fits.calls e (s : Int) (n : Int) u c x false _ hft.out).mono ?_
              rintro eb wc ⟨rfl, hbc⟩
              have hc := hSB.out.below hbc
              clear hbc hgw_0 hgw_1 hgw_2 hgw_3 hgw_4 hgr_0 hgr_1 hgr_2 hgr_3 hgr_4 hgc_0 hgc_1
              have hnx_0 : wc.cell? ⟨gx, 0, none⟩ = some (.int .u8 0) := (hc.cell 0).trans rfl
              have hnx_1 : wc.cell? ⟨gx, 1, none⟩ = some (.int .u32 0) := (hc.cell 1).trans rfl
              have hnx_2 : wc.cell? ⟨gx, 2, none⟩ = some (.int .u32 0) := (hc.cell 2).trans rfl
              have hnx_3 : wc.cell? ⟨gx, 3, none⟩ = some (.int .i64 0) := (hc.cell 3).trans rfl
              have hnx_4 : wc.cell? ⟨gx, 4, none⟩ = some (.int .i64 0) := (hc.cell 4).trans rfl
              have hSC := Aside0.mk hc.tail
              clear hc
              go_wp2_with (fail)
              go_roundg kk
              case measure => omega
              case rel => exact ⟨i + 1, u, c, rfl, by first | rfl | simp [hw1] | simp, hnew, hSC⟩
        · have hie : i = l.length := by have := hA.out.1; omega
          have hd2 : decide ((i : Int) < (l.length : Int)) = false := decide_eq_false (by omega)
          clear hie
          go_wp2_with (fail)
          go_ret
          exact ⟨rfl, hS.out.1⟩
    · have hem := empty_none hmay ⟨b0, b1, by omega, by omega, by omega, by omega⟩
      have hmy := rmay_no hmay (by omega) (by omega)
      have wn : IntKind.u64.wrap (n : Int) = (n : Int) := wu64 (by omega) (by omega)
      have hem := Aside0.mk hem
      have hmy := Aside0.mk hmy
      clear b0 b1 b2 b3 hmay
      go_wp2_with (fail)
      refine (pack_Empty.calls e (s : Int) (n : Int) _ _ _ _ _ _ _ hem.out).mono ?_
      rintro e2 w2 ⟨rfl, hb2⟩
      have hS2 := Aside0.mk (hS1.out.below hb2)
      clear hb2 hcc_0 hcc_1
      obtain ⟨gr, hgr⟩ : ∃ gr, w2.heap.size = gr := ⟨_, rfl⟩
      go_upto_region 4 with (fail)
      have h3 := hS2.out.alloc #[.int .u8 0, .int .u32 0, .int .u32 0, .int .i64 0, .int .i64 0] 52
      rw [hgr] at h3
      generalize w2.alloc (.cells #[.int .u8 0, .int .u32 0, .int .u32 0, .int .i64 0, .int .i64 0] 52 (0, 0)) = w3 at h3 ⊢
      have hcc_0 : w3.cell? ⟨w.heap.size, 0, none⟩ = some (.int .u8 e) := ((h3.pick1).cell 0).trans rfl; have hcc_1 : w3.cell? ⟨w.heap.size, 1, none⟩ = some (.int .u32 (s : Int)) := ((h3.pick1).cell 1).trans rfl
      have hS3 := Aside0.mk h3
      clear h3 hgr hS2
      go_wp2_with (fail)
      refine (fascicleref09_May.calls e (s : Int) (n : Int) false _ hmy.out).mono ?_
      rintro e3 w4 ⟨rfl, hb4⟩
      have h4 := hS3.out.below hb4
      clear hb4 hcc_0 hcc_1
      have hnx_0 : w4.cell? ⟨gr, 0, none⟩ = some (.int .u8 0) := ((h4).cell 0).trans rfl; have hnx_1 : w4.cell? ⟨gr, 1, none⟩ = some (.int .u32 0) := ((h4).cell 1).trans rfl; have hnx_2 : w4.cell? ⟨gr, 2, none⟩ = some (.int .u32 0) := ((h4).cell 2).trans rfl; have hnx_3 : w4.cell? ⟨gr, 3, none⟩ = some (.int .i64 0) := ((h4).cell 3).trans rfl; have hnx_4 : w4.cell? ⟨gr, 4, none⟩ = some (.int .i64 0) := ((h4).cell 4).trans rfl
      have hS4 := Aside0.mk h4
      clear h4
      go_wp2_with (fail)
      go_ret
      exact ⟨rfl, hS4.out.1⟩

theorem fasciclelaw14_PackRooms.calls (a0_0 a0_1 a1 : Int) (A2 : Option Addr) (c2 : Nat) (l2 : List Int) (r : Bool) (w : World) (hr2 : Kd.C (Kd.int .i64) w A2 l2.length l2) (hc2 : l2.length ≤ c2) (h : fasciclelaw14_PackRooms.f a0_0 a0_1 a1 l2 = some r) :
    Calls Try.prog 5 #[.agg #[.int .u8 a0_0, .int .u32 a0_1], .int .u32 a1, .slice A2 l2.length c2] w fun e w' => e = .returned (.bool r) ∧ Below w.heap.size w w' := by
  unfold fasciclelaw14_PackRooms.f at h
  split at h
  · rename_i hh
    cases h
    obtain ⟨s, rfl⟩ : ∃ s : Nat, a0_1 = s := ⟨a0_1.toNat, by omega⟩
    obtain ⟨n, rfl⟩ : ∃ n : Nat, a1 = n := ⟨a1.toNat, by omega⟩
    exact pack_rooms w A2 c2 a0_0 s n l2 hr2 hc2 hh.1 hh.2.1 (by omega) (by omega) ((i64sOK_iff l2).1 hh.2.2.2.2.2.2)
  · cases h

end Go.Proofs.Ytnmdckgaljldhaa.G
