/- HElderPut HElderEnd HElderOne HElderGet HElderPutAll, in one text (merge.py). -/
import Derived.Test.YtmlodmpkcbncjaaMBuf
import Derived.Test.YtmlodmpkcbncjaaMThin
import Derived.Test.YtmlodmpkcbncjaaGx3
import Derived.Test.YtmlodmpkcbncjaaMCur
import Derived.Test.YtmlodmpkcbncjaaMRun
/- elder.Put: a pair's bytes. -/
set_option linter.unusedVariables false
set_option linter.unusedSimpArgs false
namespace Go.Proofs.Ytmlodmpkcbncjaa.G
open Go Go.RowKit Go.Proofs.YtmlodmpkcbncjaaW.PrintWords Go.Proofs.YtmlodmpkcbncjaaW.PrintLast Go.Proofs.YtmlodmpkcbncjaaW.PrintMore Go.Proofs.Ytmlodmpkcbncjaa.PureKit Go.Proofs.Ytmlodmpkcbncjaa.Sep Go.Proofs.Ytmlodmpkcbncjaa.Rol

def echeck (k v : ByteArray) : Int := if k.size = 0 then 4 else if k.size > 4096 then 3 else if v.size > 1048576 then 3 else 0
def ehead (k v : ByteArray) : List Int := nbytes 4 k.size ++ nbytes 4 v.size ++ sby k ++ sby v
def ebytes (k v : ByteArray) : List Int := ehead k v ++ nbytes 4 ((tsum 0 (ehead k v) : Nat) : Int)
def elder_Put.f (a0_0 a0_1 : ByteArray) : Option (List Int × Int) :=
  if a0_0.size ≤ 9223372036854775807 ∧ a0_1.size ≤ 9223372036854775807 then (if echeck a0_0 a0_1 = 0 then some (ebytes a0_0 a0_1, 0) else some ([], echeck a0_0 a0_1)) else none
theorem elder_Check_ev (k v : ByteArray) (hk : k.size ≤ 9223372036854775807) (hv : v.size ≤ 9223372036854775807) : elder_Check.f k v = some (echeck k v) := by
  unfold elder_Check.f elder_lengths.f echeck
  rw [wu64 (by omega) (by omega), wu64 (by omega) (by omega)]
  by_cases h0 : k.size = 0
  · rw [if_pos h0, if_pos (by omega)]; rfl
  rw [if_neg h0, if_neg (by omega)]
  by_cases h1 : k.size > 4096
  · rw [if_pos h1, if_pos (by omega)]; rfl
  rw [if_neg h1, if_neg (by omega)]
  by_cases h2 : v.size > 1048576
  · rw [if_pos h2, if_pos (by omega)]; rfl
  · rw [if_neg h2, if_neg (by omega)]; rfl
theorem nbytes_bytes : ∀ (n : Nat) (x : Int), Bytes (nbytes n x)
  | 0, _ => fun y hy => by cases hy
  | n + 1, x => fun y hy => by
    rw [nbytes] at hy
    rcases List.mem_cons.1 hy with rfl | hy
    · omega
    · exact nbytes_bytes n _ y hy
theorem Bytes.app {a b : List Int} (ha : Bytes a) (hb : Bytes b) : Bytes (a ++ b) := fun y hy => (List.mem_append.1 hy).elim (ha y) (hb y)
theorem ehead_len (k v : ByteArray) : (ehead k v).length = 8 + k.size + v.size := by
  unfold ehead
  simp only [List.length_append, nbytes_len, sby_len]
theorem ehead_bytes (k v : ByteArray) : Bytes (ehead k v) := Bytes.app (Bytes.app (Bytes.app (nbytes_bytes 4 _) (nbytes_bytes 4 _)) (sby_bytes k)) (sby_bytes v)
theorem echeck_sizes {k v : ByteArray} (h : echeck k v = 0) : 0 < k.size ∧ k.size ≤ 4096 ∧ v.size ≤ 1048576 := by
  unfold echeck at h
  split at h
  · omega
  · split at h
    · omega
    · split at h <;> omega

set_option maxHeartbeats 4000000 in
set_option maxRecDepth 100000 in
theorem elder_Put.calls (a0_0 a0_1 : ByteArray) (r0 : List Int) (r1 : Int) (w : World) (h : elder_Put.f a0_0 a0_1 = some (r0, r1)) :
    Calls Try.prog 40 #[.agg #[.string a0_0, .string a0_1]] w fun e w' => ∃ v0_ : Value, e = .returned (.tuple #[v0_, .int .i64 r1]) ∧ Kd.R (Kd.int .u8) 5 w' w.heap.size (fun _ => True) v0_ r0 ∧ Below w.heap.size w w' := by
  have hu62 := Try.underlying62
  have hS := Aside0.mk (Sep.start w)
  by_cases hU : a0_0.size ≤ 9223372036854775807 ∧ a0_1.size ≤ 9223372036854775807
  case neg =>
    unfold elder_Put.f at h
    rw [if_neg hU] at h
    cases h
  have hev := elder_Check_ev a0_0 a0_1 hU.1 hU.2
  by_cases hck : echeck a0_0 a0_1 = 0
  case neg =>
    obtain ⟨rfl, rfl⟩ : r0 = [] ∧ r1 = echeck a0_0 a0_1 := by
      unfold elder_Put.f at h
      rw [if_pos hU, if_neg hck] at h
      cases h
      exact ⟨rfl, rfl⟩
    clear h
    have hb2 : (echeck a0_0 a0_1 != 0) = true := bne_iff_ne.2 hck
    have hb3 : (echeck a0_0 a0_1 == 0) = false := beq_eq_false_iff_ne.2 hck
    generalize echeck a0_0 a0_1 = rc at *
    go_enter Try.func40, Try.ntmps40
    go_wp2_with (first | ((with_reducible refine gate_dst (N := 1) rfl ?_); refine Sep.box_event ?hg (N := 1) ?hd (cs := #[.string a0_0, .string a0_1]) (t := 62) hS.out ?hr ?_; (case hd => rfl); (case hg => rfl); (case hr => first | (go_simp; done) | (go_simp; rfl)); intro g0 wb0 hsb0; have hcb0_0 : wb0.cell? ⟨g0, 0, none⟩ = some (.string a0_0) := ((hsb0).cell 0).trans rfl; have hcb0_1 : wb0.cell? ⟨g0, 1, none⟩ = some (.string a0_1) := ((hsb0).cell 1).trans rfl; have hSb0 := Aside0.mk hsb0; clear hsb0) | ((with_reducible refine gate_callee (f := 42) rfl ?_); refine goesL_ (some 7) rfl rfl Try.func42 (by kernel_rfl) rfl #[.agg #[.string a0_0, .string a0_1]] rfl (by (try simp only [List.map_toArray, List.map_cons, List.map_nil]); first | done | rfl) ?_; (with_reducible refine (elder_Check.calls a0_0 a0_1 _ _ hev).mono ?_); rintro e w1 ⟨rfl, h1⟩; refine ⟨_, rfl, ?_⟩; have hS1 := Aside0.mk (hSb0.out.below h1); clear h1))
    go_ret2
    exact ⟨_, rfl, Kd.R_nil _ _ _ _ _, hS1.out.1⟩
  · obtain ⟨rfl, rfl⟩ : r0 = ebytes a0_0 a0_1 ∧ r1 = 0 := by
      unfold elder_Put.f at h
      rw [if_pos hU, if_pos hck] at h
      cases h
      exact ⟨rfl, rfl⟩
    clear h
    have hz := echeck_sizes hck
    obtain ⟨_, hks, hvs⟩ := hz
    rw [hck] at hev
    clear hck hU
    have hwk : IntKind.u32.wrap (a0_0.size : Int) = (a0_0.size : Int) := by rw [IntKind.wrap_u32]; omega
    have hwv : IntKind.u32.wrap (a0_1.size : Int) = (a0_1.size : Int) := by rw [IntKind.wrap_u32]; omega
    have hmk : (a0_0.size : Int) % 4294967296 = (a0_0.size : Int) := by omega
    have hmv : (a0_1.size : Int) % 4294967296 = (a0_1.size : Int) := by omega
    have hcv := fun (W : World) (s : ByteArray) => run_bytes_of_string (P := Try.prog) W 9 22 5 s Try.underlying9 Try.underlying22 Try.underlying5
    go_enter Try.func40, Try.ntmps40
    go_wp2_with (first | ((with_reducible refine gate_dst (N := 1) rfl ?_); refine Sep.box_event ?hg (N := 1) ?hd (cs := #[.string a0_0, .string a0_1]) (t := 62) hS.out ?hr ?_; (case hd => rfl); (case hg => rfl); (case hr => first | (go_simp; done) | (go_simp; rfl)); intro g0 wb0 hsb0; have hcb0_0 : wb0.cell? ⟨g0, 0, none⟩ = some (.string a0_0) := ((hsb0).cell 0).trans rfl; have hcb0_1 : wb0.cell? ⟨g0, 1, none⟩ = some (.string a0_1) := ((hsb0).cell 1).trans rfl; have hSb0 := Aside0.mk hsb0; clear hsb0) | ((with_reducible refine gate_callee (f := 42) rfl ?_); refine goesL_ (some 7) rfl rfl Try.func42 (by kernel_rfl) rfl #[.agg #[.string a0_0, .string a0_1]] rfl (by (try simp only [List.map_toArray, List.map_cons, List.map_nil]); first | done | rfl) ?_; (with_reducible refine (elder_Check.calls a0_0 a0_1 _ _ hev).mono ?_); rintro e w1 ⟨rfl, h1⟩; refine ⟨_, rfl, ?_⟩; have hS1 := Aside0.mk ((hSb0.out.below h1).buf_new); clear h1))
    generalize w1.alloc (.cells #[.slice none 0 0] 48 (0, 0)) = wq at hS1 ⊢
    have hS := Aside0.mk hS1.out.put1.drew
    clear hS1 hSb0
    refine start_ (n := 18) (S := fun w' => w'.cell? ⟨g0, 0, none⟩ = some (.string a0_0) ∧ w'.cell? ⟨g0, 1, none⟩ = some (.string a0_1)) (ds := []) #[false, false, false, false, false, false, false, false, false, false, false, false, false, false, false, false, false, false] (by kernel_rfl) rfl rfl ⟨(hS.out.cell 0).trans rfl, (hS.out.cell 1).trans rfl⟩ (fun hHeld => ?_)
    generalize wq.drew = wq at hS hHeld ⊢
    refine pure_ (i := 0) (N := some 11) (v := ?_) (a' := ?_) #[true, false, false, false, false, false, false, false, false, false, false, false, false, false, false, false, false, false] rfl rfl (by kernel_rfl) (fun _ _ _ h => h) (Or.inl ⟨by rfl, ?_⟩) ?_ ?_
    rotate_left
    · intro w'
      go_simp
      with_reducible rfl
    rotate_left
    · simp only [Act.put, List.setIfInBounds_toArray, List.set_cons_zero, List.set_cons_succ, i64_w, i32_w]
      rfl
    refine pure_ (i := 5) (N := some 16) (v := ?_) (a' := ?_) #[true, false, false, false, false, true, false, false, false, false, false, false, false, false, false, false, false, false] rfl rfl (by kernel_rfl) (fun _ _ _ h => h) (Or.inl ⟨by rfl, ?_⟩) ?_ ?_
    rotate_left
    · intro w'
      go_simp
      with_reducible rfl
    rotate_left
    · simp only [Act.put, List.setIfInBounds_toArray, List.set_cons_zero, List.set_cons_succ, i64_w, i32_w]
      rfl
    refine pure_ (i := 10) (N := some 21) (v := ?_) (a' := ?_) #[true, false, false, false, false, true, false, false, false, false, true, false, false, false, false, false, false, false] rfl rfl (by kernel_rfl) (fun _ _ _ h => h) (Or.inl ⟨by rfl, ?_⟩) ?_ ?_
    rotate_left
    · intro w'
      go_simp
      with_reducible rfl
    rotate_left
    · simp only [Act.put, List.setIfInBounds_toArray, List.set_cons_zero, List.set_cons_succ, i64_w, i32_w]
      rfl
    refine pure_ (i := 14) (N := some 25) (v := ?_) (a' := ?_) #[true, false, false, false, false, true, false, false, false, false, true, false, false, false, true, false, false, false] rfl rfl (by kernel_rfl) (fun _ _ _ h => h) (Or.inl ⟨by rfl, ?_⟩) ?_ ?_
    rotate_left
    · intro w'
      go_simp
      with_reducible rfl
    rotate_left
    · simp only [Act.put, List.setIfInBounds_toArray, List.set_cons_zero, List.set_cons_succ, i64_w, i32_w]
      rfl
    refine take_ (i := 1) (N := some 12) (v := ?_) (a' := ?_) #[true, true, false, false, false, true, false, false, false, false, true, false, false, false, true, false, false, false] rfl rfl (by kernel_rfl) (fun _ _ _ h => h) (Or.inl ⟨by rfl, ?_⟩) hHeld ?_ ?_
    rotate_left
    · rintro w' ⟨s0, s1⟩
      go_simp
      with_reducible rfl
    rotate_left
    · simp only [Act.put, List.setIfInBounds_toArray, List.set_cons_zero, List.set_cons_succ, i64_w, i32_w]
      rfl
    refine pure_ (i := 2) (N := some 13) (v := ?_) (a' := ?_) #[true, true, true, false, false, true, false, false, false, false, true, false, false, false, true, false, false, false] rfl rfl (by kernel_rfl) (fun _ _ _ h => h) (Or.inl ⟨by rfl, ?_⟩) ?_ ?_
    rotate_left
    · intro w'
      go_simp
      with_reducible rfl
    rotate_left
    · simp only [Act.put, List.setIfInBounds_toArray, List.set_cons_zero, List.set_cons_succ, i64_w, i32_w]
      rfl
    refine pure_ (i := 3) (N := some 14) (v := ?_) (a' := ?_) #[true, true, true, true, false, true, false, false, false, false, true, false, false, false, true, false, false, false] rfl rfl (by kernel_rfl) (fun _ _ _ h => h) (Or.inl ⟨by rfl, ?_⟩) ?_ ?_
    rotate_left
    · intro w'
      go_simp
      with_reducible rfl
    rotate_left
    · simp only [Act.put, List.setIfInBounds_toArray, List.set_cons_zero, List.set_cons_succ, i64_w, i32_w]
      rfl
    refine take_ (i := 6) (N := some 17) (v := ?_) (a' := ?_) #[true, true, true, true, false, true, true, false, false, false, true, false, false, false, true, false, false, false] rfl rfl (by kernel_rfl) (fun _ _ _ h => h) (Or.inl ⟨by rfl, ?_⟩) hHeld ?_ ?_
    rotate_left
    · rintro w' ⟨s0, s1⟩
      go_simp
      with_reducible rfl
    rotate_left
    · simp only [Act.put, List.setIfInBounds_toArray, List.set_cons_zero, List.set_cons_succ, i64_w, i32_w]
      rfl
    refine pure_ (i := 7) (N := some 18) (v := ?_) (a' := ?_) #[true, true, true, true, false, true, true, true, false, false, true, false, false, false, true, false, false, false] rfl rfl (by kernel_rfl) (fun _ _ _ h => h) (Or.inl ⟨by rfl, ?_⟩) ?_ ?_
    rotate_left
    · intro w'
      go_simp
      with_reducible rfl
    rotate_left
    · simp only [Act.put, List.setIfInBounds_toArray, List.set_cons_zero, List.set_cons_succ, i64_w, i32_w]
      rfl
    refine pure_ (i := 8) (N := some 19) (v := ?_) (a' := ?_) #[true, true, true, true, false, true, true, true, true, false, true, false, false, false, true, false, false, false] rfl rfl (by kernel_rfl) (fun _ _ _ h => h) (Or.inl ⟨by rfl, ?_⟩) ?_ ?_
    rotate_left
    · intro w'
      go_simp
      with_reducible rfl
    rotate_left
    · simp only [Act.put, List.setIfInBounds_toArray, List.set_cons_zero, List.set_cons_succ, i64_w, i32_w]
      rfl
    refine take_ (i := 11) (N := some 22) (v := ?_) (a' := ?_) #[true, true, true, true, false, true, true, true, true, false, true, true, false, false, true, false, false, false] rfl rfl (by kernel_rfl) (fun _ _ _ h => h) (Or.inl ⟨by rfl, ?_⟩) hHeld ?_ ?_
    rotate_left
    · rintro w' ⟨s0, s1⟩
      go_simp
      with_reducible rfl
    rotate_left
    · simp only [Act.put, List.setIfInBounds_toArray, List.set_cons_zero, List.set_cons_succ, i64_w, i32_w]
      rfl
    refine take_ (i := 15) (N := some 26) (v := ?_) (a' := ?_) #[true, true, true, true, false, true, true, true, true, false, true, true, false, false, true, true, false, false] rfl rfl (by kernel_rfl) (fun _ _ _ h => h) (Or.inl ⟨by rfl, ?_⟩) hHeld ?_ ?_
    rotate_left
    · rintro w' ⟨s0, s1⟩
      go_simp
      with_reducible rfl
    rotate_left
    · simp only [Act.put, List.setIfInBounds_toArray, List.set_cons_zero, List.set_cons_succ, i64_w, i32_w]
      rfl
    refine join_ (σ := Value × Value) 1 #[true, true, true, true, true, true, true, true, true, true, true, true, true, true, true, true, true, false] (fun s => [(15, .pointer (some ⟨w1.heap.size, 0, none⟩)), (20, .pointer (some ⟨w1.heap.size, 0, none⟩)), (23, s.1), (24, .pointer (some ⟨w1.heap.size, 0, none⟩)), (27, s.2)]) (fun s w' => Sep.Sep w w' [blk g0 #[.string a0_0, .string a0_1] 62, buf w1.heap.size ([] ++ nbytes 4 a0_0.size ++ nbytes 4 a0_1.size ++ sby a0_0), strp s.2 a0_1]) ?_ ?_
    rotate_left
    · intro hCont
      refine three_ (i := 4) (j := 12) (k := 16) (Ni := some 15) (Nj := some 23) (Nk := some 27) #[true, true, true, true, true, true, true, true, true, false, true, true, false, false, true, true, false, false] #[true, true, true, true, false, true, true, true, true, false, true, true, true, false, true, true, false, false] #[true, true, true, true, false, true, true, true, true, false, true, true, false, false, true, true, true, false] rfl rfl rfl rfl rfl rfl (by kernel_rfl) (by decide) (by decide) (by decide) (fun K hK => ?_) (fun K hK => ?_) (fun K hK => ?_)
      · skip
        refine goes_ Try.func27 (by kernel_rfl) rfl #[.pointer (some ⟨w1.heap.size, 0, none⟩), .int .u32 (a0_0.size : Int)] (by rfl) rfl rfl (by (try simp only [List.map_toArray, List.map_cons, List.map_nil]); first | done | rfl) ?_
        refine (buf_Four w _ w1.heap.size _ _ _ hS.out.pick1 (by omega) (by omega) (by simp)).mono ?_
        rintro e wq ⟨rfl, h1⟩
        refine ⟨_, rfl, ?_⟩
        have hS := Aside0.mk h1.put1
        clear h1
        refine hK.out _ _ ⟨(hS.out.cell 0).trans rfl, (hS.out.cell 1).trans rfl⟩ (fun hHeld => ?_)
        clear hK K
        refine norm_ (a' := ?_) ?_ ?_
        rotate_left
        · show Act.put _ (some 15) _ = _
          simp only [Act.put, List.setIfInBounds_toArray, List.set_cons_zero, List.set_cons_succ, i64_w, i32_w]
          rfl
        refine three_ (i := 9) (j := 12) (k := 16) (Ni := some 20) (Nj := some 23) (Nk := some 27) #[true, true, true, true, true, true, true, true, true, true, true, true, false, false, true, true, false, false] #[true, true, true, true, true, true, true, true, true, false, true, true, true, false, true, true, false, false] #[true, true, true, true, true, true, true, true, true, false, true, true, false, false, true, true, true, false] rfl rfl rfl rfl rfl rfl (by kernel_rfl) (by decide) (by decide) (by decide) (fun K hK => ?_) (fun K hK => ?_) (fun K hK => ?_)
        · skip
          refine goes_ Try.func27 (by kernel_rfl) rfl #[.pointer (some ⟨w1.heap.size, 0, none⟩), .int .u32 (a0_1.size : Int)] (by rfl) rfl rfl (by (try simp only [List.map_toArray, List.map_cons, List.map_nil]); first | done | rfl) ?_
          refine (buf_Four w _ w1.heap.size _ _ _ hS.out.pick1 (by omega) (by omega) (by simp [nbytes_len])).mono ?_
          rintro e wq ⟨rfl, h1⟩
          refine ⟨_, rfl, ?_⟩
          have hS := Aside0.mk h1.put1
          clear h1
          refine hK.out _ _ ⟨(hS.out.cell 0).trans rfl, (hS.out.cell 1).trans rfl⟩ (fun hHeld => ?_)
          clear hK K
          refine norm_ (a' := ?_) ?_ ?_
          rotate_left
          · show Act.put _ (some 20) _ = _
            simp only [Act.put, List.setIfInBounds_toArray, List.set_cons_zero, List.set_cons_succ, i64_w, i32_w]
            rfl
          refine two_ (i := 12) (j := 16) (Ni := some 23) (Nj := some 27) #[true, true, true, true, true, true, true, true, true, true, true, true, true, false, true, true, false, false] #[true, true, true, true, true, true, true, true, true, true, true, true, false, false, true, true, true, false] rfl rfl rfl rfl (by kernel_rfl) (by decide) (by decide) (fun K hK => ?_) (fun K hK => ?_)
          · skip
            refine value_ (w1 := ?_) (v := ?_) (by rfl) rfl ?_ ?_
            rotate_left 2
            · go_simp
              constructor
              · rfl
              · rfl
            have hS := Aside0.mk (hS.out.str_new2 a0_0 5).put2
            generalize (Value.slice (some ⟨wq.heap.size, 0, none⟩) a0_0.size (grownCap wq a0_0.size 0 5)) = v12 at hS ⊢
            generalize (wq.alloc (.cells (bytesRow a0_0 (grownCap wq a0_0.size 0 5)) 5 ((bytesRow a0_0 (grownCap wq a0_0.size 0 5)).size, (bytesRow a0_0 (grownCap wq a0_0.size 0 5)).size + 1))).drew = wq at hS ⊢
            refine hK.out _ _ ⟨(hS.out.cell 0).trans rfl, (hS.out.cell 1).trans rfl⟩ (fun hHeld => ?_)
            clear hK K
            refine norm_ (a' := ?_) ?_ ?_
            rotate_left
            · show Act.put _ (some 23) _ = _
              simp only [Act.put, List.setIfInBounds_toArray, List.set_cons_zero, List.set_cons_succ, i64_w, i32_w]
              rfl
            refine two_ (i := 13) (j := 16) (Ni := some 24) (Nj := some 27) #[true, true, true, true, true, true, true, true, true, true, true, true, true, true, true, true, false, false] #[true, true, true, true, true, true, true, true, true, true, true, true, true, false, true, true, true, false] rfl rfl rfl rfl (by kernel_rfl) (by decide) (by decide) (fun K hK => ?_) (fun K hK => ?_)
            · skip
              refine goes_ Try.func29 (by kernel_rfl) rfl #[.pointer (some ⟨w1.heap.size, 0, none⟩), v12] (by rfl) rfl rfl (by (try simp only [List.map_toArray, List.map_cons, List.map_nil]); first | done | rfl) ?_
              refine (buf_RawS w _ w1.heap.size _ _ _ a0_0 hS.out.pick2.pick2 (by simp [nbytes_len]) (by omega)).mono ?_
              rintro e wq ⟨rfl, h1⟩
              refine ⟨_, rfl, ?_⟩
              have hS := Aside0.mk h1.put1
              clear h1
              refine hK.out _ _ ⟨(hS.out.cell 0).trans rfl, (hS.out.cell 1).trans rfl⟩ (fun hHeld => ?_)
              clear hK K
              refine norm_ (a' := ?_) ?_ ?_
              rotate_left
              · show Act.put _ (some 24) _ = _
                simp only [Act.put, List.setIfInBounds_toArray, List.set_cons_zero, List.set_cons_succ, i64_w, i32_w]
                rfl
              refine one_ (i := 16) (N := some 27) #[true, true, true, true, true, true, true, true, true, true, true, true, true, true, true, true, true, false] rfl rfl (by kernel_rfl) (by decide) (fun K hK => ?_)
              refine value_ (w1 := ?_) (v := ?_) (by rfl) rfl ?_ ?_
              rotate_left 2
              · go_simp
                constructor
                · rfl
                · rfl
              have hS := Aside0.mk (hS.out.str_new2 a0_1 5).put2
              generalize (Value.slice (some ⟨wq.heap.size, 0, none⟩) a0_1.size (grownCap wq a0_1.size 0 5)) = v16 at hS ⊢
              generalize (wq.alloc (.cells (bytesRow a0_1 (grownCap wq a0_1.size 0 5)) 5 ((bytesRow a0_1 (grownCap wq a0_1.size 0 5)).size, (bytesRow a0_1 (grownCap wq a0_1.size 0 5)).size + 1))).drew = wq at hS ⊢
              refine hK.out _ _ ⟨(hS.out.cell 0).trans rfl, (hS.out.cell 1).trans rfl⟩ (fun hHeld => ?_)
              clear hK K
              refine norm_ (a' := ?_) ?_ ?_
              rotate_left
              · show Act.put _ (some 27) _ = _
                simp only [Act.put, List.setIfInBounds_toArray, List.set_cons_zero, List.set_cons_succ, i64_w, i32_w]
                rfl
              exact norm_ (by first | (simp only [putAll, Act.put, List.setIfInBounds_toArray, List.set_cons_zero, List.set_cons_succ]; done) | (simp only [putAll, Act.put, List.setIfInBounds_toArray, List.set_cons_zero, List.set_cons_succ]; rfl)) (hCont (_, _) _ hS.out)
            · skip
              refine value_ (w1 := ?_) (v := ?_) (by rfl) rfl ?_ ?_
              rotate_left 2
              · go_simp
                constructor
                · rfl
                · rfl
              have hS := Aside0.mk (hS.out.str_new2 a0_1 5).put2
              generalize (Value.slice (some ⟨wq.heap.size, 0, none⟩) a0_1.size (grownCap wq a0_1.size 0 5)) = v16 at hS ⊢
              generalize (wq.alloc (.cells (bytesRow a0_1 (grownCap wq a0_1.size 0 5)) 5 ((bytesRow a0_1 (grownCap wq a0_1.size 0 5)).size, (bytesRow a0_1 (grownCap wq a0_1.size 0 5)).size + 1))).drew = wq at hS ⊢
              refine hK.out _ _ ⟨(hS.out.cell 0).trans rfl, (hS.out.cell 1).trans rfl⟩ (fun hHeld => ?_)
              clear hK K
              refine norm_ (a' := ?_) ?_ ?_
              rotate_left
              · show Act.put _ (some 27) _ = _
                simp only [Act.put, List.setIfInBounds_toArray, List.set_cons_zero, List.set_cons_succ, i64_w, i32_w]
                rfl
              refine one_ (i := 13) (N := some 24) #[true, true, true, true, true, true, true, true, true, true, true, true, true, true, true, true, true, false] rfl rfl (by kernel_rfl) (by decide) (fun K hK => ?_)
              refine goes_ Try.func29 (by kernel_rfl) rfl #[.pointer (some ⟨w1.heap.size, 0, none⟩), v12] (by rfl) rfl rfl (by (try simp only [List.map_toArray, List.map_cons, List.map_nil]); first | done | rfl) ?_
              refine (buf_RawS w _ w1.heap.size _ _ _ a0_0 hS.out.pick3.pick2 (by simp [nbytes_len]) (by omega)).mono ?_
              rintro e wq ⟨rfl, h1⟩
              refine ⟨_, rfl, ?_⟩
              have hS := Aside0.mk h1.put1
              clear h1
              refine hK.out _ _ ⟨(hS.out.cell 0).trans rfl, (hS.out.cell 1).trans rfl⟩ (fun hHeld => ?_)
              clear hK K
              refine norm_ (a' := ?_) ?_ ?_
              rotate_left
              · show Act.put _ (some 24) _ = _
                simp only [Act.put, List.setIfInBounds_toArray, List.set_cons_zero, List.set_cons_succ, i64_w, i32_w]
                rfl
              exact norm_ (by first | (simp only [putAll, Act.put, List.setIfInBounds_toArray, List.set_cons_zero, List.set_cons_succ]; done) | (simp only [putAll, Act.put, List.setIfInBounds_toArray, List.set_cons_zero, List.set_cons_succ]; rfl)) (hCont (_, _) _ hS.out)
          · skip
            refine value_ (w1 := ?_) (v := ?_) (by rfl) rfl ?_ ?_
            rotate_left 2
            · go_simp
              constructor
              · rfl
              · rfl
            have hS := Aside0.mk (hS.out.str_new2 a0_1 5).put2
            generalize (Value.slice (some ⟨wq.heap.size, 0, none⟩) a0_1.size (grownCap wq a0_1.size 0 5)) = v16 at hS ⊢
            generalize (wq.alloc (.cells (bytesRow a0_1 (grownCap wq a0_1.size 0 5)) 5 ((bytesRow a0_1 (grownCap wq a0_1.size 0 5)).size, (bytesRow a0_1 (grownCap wq a0_1.size 0 5)).size + 1))).drew = wq at hS ⊢
            refine hK.out _ _ ⟨(hS.out.cell 0).trans rfl, (hS.out.cell 1).trans rfl⟩ (fun hHeld => ?_)
            clear hK K
            refine norm_ (a' := ?_) ?_ ?_
            rotate_left
            · show Act.put _ (some 27) _ = _
              simp only [Act.put, List.setIfInBounds_toArray, List.set_cons_zero, List.set_cons_succ, i64_w, i32_w]
              rfl
            refine one_ (i := 12) (N := some 23) #[true, true, true, true, true, true, true, true, true, true, true, true, true, false, true, true, true, false] rfl rfl (by kernel_rfl) (by decide) (fun K hK => ?_)
            refine value_ (w1 := ?_) (v := ?_) (by rfl) rfl ?_ ?_
            rotate_left 2
            · go_simp
              constructor
              · rfl
              · rfl
            have hS := Aside0.mk (hS.out.str_new2 a0_0 5).put2
            generalize (Value.slice (some ⟨wq.heap.size, 0, none⟩) a0_0.size (grownCap wq a0_0.size 0 5)) = v12 at hS ⊢
            generalize (wq.alloc (.cells (bytesRow a0_0 (grownCap wq a0_0.size 0 5)) 5 ((bytesRow a0_0 (grownCap wq a0_0.size 0 5)).size, (bytesRow a0_0 (grownCap wq a0_0.size 0 5)).size + 1))).drew = wq at hS ⊢
            refine hK.out _ _ ⟨(hS.out.cell 0).trans rfl, (hS.out.cell 1).trans rfl⟩ (fun hHeld => ?_)
            clear hK K
            refine norm_ (a' := ?_) ?_ ?_
            rotate_left
            · show Act.put _ (some 23) _ = _
              simp only [Act.put, List.setIfInBounds_toArray, List.set_cons_zero, List.set_cons_succ, i64_w, i32_w]
              rfl
            refine one_ (i := 13) (N := some 24) #[true, true, true, true, true, true, true, true, true, true, true, true, true, true, true, true, true, false] rfl rfl (by kernel_rfl) (by decide) (fun K hK => ?_)
            refine goes_ Try.func29 (by kernel_rfl) rfl #[.pointer (some ⟨w1.heap.size, 0, none⟩), v12] (by rfl) rfl rfl (by (try simp only [List.map_toArray, List.map_cons, List.map_nil]); first | done | rfl) ?_
            refine (buf_RawS w _ w1.heap.size _ _ _ a0_0 hS.out.pick2.pick2 (by simp [nbytes_len]) (by omega)).mono ?_
            rintro e wq ⟨rfl, h1⟩
            refine ⟨_, rfl, ?_⟩
            have hS := Aside0.mk h1.put1
            clear h1
            refine hK.out _ _ ⟨(hS.out.cell 0).trans rfl, (hS.out.cell 1).trans rfl⟩ (fun hHeld => ?_)
            clear hK K
            refine norm_ (a' := ?_) ?_ ?_
            rotate_left
            · show Act.put _ (some 24) _ = _
              simp only [Act.put, List.setIfInBounds_toArray, List.set_cons_zero, List.set_cons_succ, i64_w, i32_w]
              rfl
            exact norm_ (by first | (simp only [putAll, Act.put, List.setIfInBounds_toArray, List.set_cons_zero, List.set_cons_succ]; done) | (simp only [putAll, Act.put, List.setIfInBounds_toArray, List.set_cons_zero, List.set_cons_succ]; rfl)) (hCont (_, _) _ hS.out)
        · skip
          refine value_ (w1 := ?_) (v := ?_) (by rfl) rfl ?_ ?_
          rotate_left 2
          · go_simp
            constructor
            · rfl
            · rfl
          have hS := Aside0.mk (hS.out.str_new2 a0_0 5).put2
          generalize (Value.slice (some ⟨wq.heap.size, 0, none⟩) a0_0.size (grownCap wq a0_0.size 0 5)) = v12 at hS ⊢
          generalize (wq.alloc (.cells (bytesRow a0_0 (grownCap wq a0_0.size 0 5)) 5 ((bytesRow a0_0 (grownCap wq a0_0.size 0 5)).size, (bytesRow a0_0 (grownCap wq a0_0.size 0 5)).size + 1))).drew = wq at hS ⊢
          refine hK.out _ _ ⟨(hS.out.cell 0).trans rfl, (hS.out.cell 1).trans rfl⟩ (fun hHeld => ?_)
          clear hK K
          refine norm_ (a' := ?_) ?_ ?_
          rotate_left
          · show Act.put _ (some 23) _ = _
            simp only [Act.put, List.setIfInBounds_toArray, List.set_cons_zero, List.set_cons_succ, i64_w, i32_w]
            rfl
          refine two_ (i := 9) (j := 16) (Ni := some 20) (Nj := some 27) #[true, true, true, true, true, true, true, true, true, true, true, true, true, false, true, true, false, false] #[true, true, true, true, true, true, true, true, true, false, true, true, true, false, true, true, true, false] rfl rfl rfl rfl (by kernel_rfl) (by decide) (by decide) (fun K hK => ?_) (fun K hK => ?_)
          · skip
            refine goes_ Try.func27 (by kernel_rfl) rfl #[.pointer (some ⟨w1.heap.size, 0, none⟩), .int .u32 (a0_1.size : Int)] (by rfl) rfl rfl (by (try simp only [List.map_toArray, List.map_cons, List.map_nil]); first | done | rfl) ?_
            refine (buf_Four w _ w1.heap.size _ _ _ hS.out.pick1 (by omega) (by omega) (by simp [nbytes_len])).mono ?_
            rintro e wq ⟨rfl, h1⟩
            refine ⟨_, rfl, ?_⟩
            have hS := Aside0.mk h1.put1
            clear h1
            refine hK.out _ _ ⟨(hS.out.cell 0).trans rfl, (hS.out.cell 1).trans rfl⟩ (fun hHeld => ?_)
            clear hK K
            refine norm_ (a' := ?_) ?_ ?_
            rotate_left
            · show Act.put _ (some 20) _ = _
              simp only [Act.put, List.setIfInBounds_toArray, List.set_cons_zero, List.set_cons_succ, i64_w, i32_w]
              rfl
            refine two_ (i := 13) (j := 16) (Ni := some 24) (Nj := some 27) #[true, true, true, true, true, true, true, true, true, true, true, true, true, true, true, true, false, false] #[true, true, true, true, true, true, true, true, true, true, true, true, true, false, true, true, true, false] rfl rfl rfl rfl (by kernel_rfl) (by decide) (by decide) (fun K hK => ?_) (fun K hK => ?_)
            · skip
              refine goes_ Try.func29 (by kernel_rfl) rfl #[.pointer (some ⟨w1.heap.size, 0, none⟩), v12] (by rfl) rfl rfl (by (try simp only [List.map_toArray, List.map_cons, List.map_nil]); first | done | rfl) ?_
              refine (buf_RawS w _ w1.heap.size _ _ _ a0_0 hS.out.pick2.pick2 (by simp [nbytes_len]) (by omega)).mono ?_
              rintro e wq ⟨rfl, h1⟩
              refine ⟨_, rfl, ?_⟩
              have hS := Aside0.mk h1.put1
              clear h1
              refine hK.out _ _ ⟨(hS.out.cell 0).trans rfl, (hS.out.cell 1).trans rfl⟩ (fun hHeld => ?_)
              clear hK K
              refine norm_ (a' := ?_) ?_ ?_
              rotate_left
              · show Act.put _ (some 24) _ = _
                simp only [Act.put, List.setIfInBounds_toArray, List.set_cons_zero, List.set_cons_succ, i64_w, i32_w]
                rfl
              refine one_ (i := 16) (N := some 27) #[true, true, true, true, true, true, true, true, true, true, true, true, true, true, true, true, true, false] rfl rfl (by kernel_rfl) (by decide) (fun K hK => ?_)
              refine value_ (w1 := ?_) (v := ?_) (by rfl) rfl ?_ ?_
              rotate_left 2
              · go_simp
                constructor
                · rfl
                · rfl
              have hS := Aside0.mk (hS.out.str_new2 a0_1 5).put2
              generalize (Value.slice (some ⟨wq.heap.size, 0, none⟩) a0_1.size (grownCap wq a0_1.size 0 5)) = v16 at hS ⊢
              generalize (wq.alloc (.cells (bytesRow a0_1 (grownCap wq a0_1.size 0 5)) 5 ((bytesRow a0_1 (grownCap wq a0_1.size 0 5)).size, (bytesRow a0_1 (grownCap wq a0_1.size 0 5)).size + 1))).drew = wq at hS ⊢
              refine hK.out _ _ ⟨(hS.out.cell 0).trans rfl, (hS.out.cell 1).trans rfl⟩ (fun hHeld => ?_)
              clear hK K
              refine norm_ (a' := ?_) ?_ ?_
              rotate_left
              · show Act.put _ (some 27) _ = _
                simp only [Act.put, List.setIfInBounds_toArray, List.set_cons_zero, List.set_cons_succ, i64_w, i32_w]
                rfl
              exact norm_ (by first | (simp only [putAll, Act.put, List.setIfInBounds_toArray, List.set_cons_zero, List.set_cons_succ]; done) | (simp only [putAll, Act.put, List.setIfInBounds_toArray, List.set_cons_zero, List.set_cons_succ]; rfl)) (hCont (_, _) _ hS.out)
            · skip
              refine value_ (w1 := ?_) (v := ?_) (by rfl) rfl ?_ ?_
              rotate_left 2
              · go_simp
                constructor
                · rfl
                · rfl
              have hS := Aside0.mk (hS.out.str_new2 a0_1 5).put2
              generalize (Value.slice (some ⟨wq.heap.size, 0, none⟩) a0_1.size (grownCap wq a0_1.size 0 5)) = v16 at hS ⊢
              generalize (wq.alloc (.cells (bytesRow a0_1 (grownCap wq a0_1.size 0 5)) 5 ((bytesRow a0_1 (grownCap wq a0_1.size 0 5)).size, (bytesRow a0_1 (grownCap wq a0_1.size 0 5)).size + 1))).drew = wq at hS ⊢
              refine hK.out _ _ ⟨(hS.out.cell 0).trans rfl, (hS.out.cell 1).trans rfl⟩ (fun hHeld => ?_)
              clear hK K
              refine norm_ (a' := ?_) ?_ ?_
              rotate_left
              · show Act.put _ (some 27) _ = _
                simp only [Act.put, List.setIfInBounds_toArray, List.set_cons_zero, List.set_cons_succ, i64_w, i32_w]
                rfl
              refine one_ (i := 13) (N := some 24) #[true, true, true, true, true, true, true, true, true, true, true, true, true, true, true, true, true, false] rfl rfl (by kernel_rfl) (by decide) (fun K hK => ?_)
              refine goes_ Try.func29 (by kernel_rfl) rfl #[.pointer (some ⟨w1.heap.size, 0, none⟩), v12] (by rfl) rfl rfl (by (try simp only [List.map_toArray, List.map_cons, List.map_nil]); first | done | rfl) ?_
              refine (buf_RawS w _ w1.heap.size _ _ _ a0_0 hS.out.pick3.pick2 (by simp [nbytes_len]) (by omega)).mono ?_
              rintro e wq ⟨rfl, h1⟩
              refine ⟨_, rfl, ?_⟩
              have hS := Aside0.mk h1.put1
              clear h1
              refine hK.out _ _ ⟨(hS.out.cell 0).trans rfl, (hS.out.cell 1).trans rfl⟩ (fun hHeld => ?_)
              clear hK K
              refine norm_ (a' := ?_) ?_ ?_
              rotate_left
              · show Act.put _ (some 24) _ = _
                simp only [Act.put, List.setIfInBounds_toArray, List.set_cons_zero, List.set_cons_succ, i64_w, i32_w]
                rfl
              exact norm_ (by first | (simp only [putAll, Act.put, List.setIfInBounds_toArray, List.set_cons_zero, List.set_cons_succ]; done) | (simp only [putAll, Act.put, List.setIfInBounds_toArray, List.set_cons_zero, List.set_cons_succ]; rfl)) (hCont (_, _) _ hS.out)
          · skip
            refine value_ (w1 := ?_) (v := ?_) (by rfl) rfl ?_ ?_
            rotate_left 2
            · go_simp
              constructor
              · rfl
              · rfl
            have hS := Aside0.mk (hS.out.str_new2 a0_1 5).put2
            generalize (Value.slice (some ⟨wq.heap.size, 0, none⟩) a0_1.size (grownCap wq a0_1.size 0 5)) = v16 at hS ⊢
            generalize (wq.alloc (.cells (bytesRow a0_1 (grownCap wq a0_1.size 0 5)) 5 ((bytesRow a0_1 (grownCap wq a0_1.size 0 5)).size, (bytesRow a0_1 (grownCap wq a0_1.size 0 5)).size + 1))).drew = wq at hS ⊢
            refine hK.out _ _ ⟨(hS.out.cell 0).trans rfl, (hS.out.cell 1).trans rfl⟩ (fun hHeld => ?_)
            clear hK K
            refine norm_ (a' := ?_) ?_ ?_
            rotate_left
            · show Act.put _ (some 27) _ = _
              simp only [Act.put, List.setIfInBounds_toArray, List.set_cons_zero, List.set_cons_succ, i64_w, i32_w]
              rfl
            refine one_ (i := 9) (N := some 20) #[true, true, true, true, true, true, true, true, true, true, true, true, true, false, true, true, true, false] rfl rfl (by kernel_rfl) (by decide) (fun K hK => ?_)
            refine goes_ Try.func27 (by kernel_rfl) rfl #[.pointer (some ⟨w1.heap.size, 0, none⟩), .int .u32 (a0_1.size : Int)] (by rfl) rfl rfl (by (try simp only [List.map_toArray, List.map_cons, List.map_nil]); first | done | rfl) ?_
            refine (buf_Four w _ w1.heap.size _ _ _ hS.out.pick1 (by omega) (by omega) (by simp [nbytes_len])).mono ?_
            rintro e wq ⟨rfl, h1⟩
            refine ⟨_, rfl, ?_⟩
            have hS := Aside0.mk h1.put1
            clear h1
            refine hK.out _ _ ⟨(hS.out.cell 0).trans rfl, (hS.out.cell 1).trans rfl⟩ (fun hHeld => ?_)
            clear hK K
            refine norm_ (a' := ?_) ?_ ?_
            rotate_left
            · show Act.put _ (some 20) _ = _
              simp only [Act.put, List.setIfInBounds_toArray, List.set_cons_zero, List.set_cons_succ, i64_w, i32_w]
              rfl
            refine one_ (i := 13) (N := some 24) #[true, true, true, true, true, true, true, true, true, true, true, true, true, true, true, true, true, false] rfl rfl (by kernel_rfl) (by decide) (fun K hK => ?_)
            refine goes_ Try.func29 (by kernel_rfl) rfl #[.pointer (some ⟨w1.heap.size, 0, none⟩), v12] (by rfl) rfl rfl (by (try simp only [List.map_toArray, List.map_cons, List.map_nil]); first | done | rfl) ?_
            refine (buf_RawS w _ w1.heap.size _ _ _ a0_0 hS.out.pick3.pick2 (by simp [nbytes_len]) (by omega)).mono ?_
            rintro e wq ⟨rfl, h1⟩
            refine ⟨_, rfl, ?_⟩
            have hS := Aside0.mk h1.put1
            clear h1
            refine hK.out _ _ ⟨(hS.out.cell 0).trans rfl, (hS.out.cell 1).trans rfl⟩ (fun hHeld => ?_)
            clear hK K
            refine norm_ (a' := ?_) ?_ ?_
            rotate_left
            · show Act.put _ (some 24) _ = _
              simp only [Act.put, List.setIfInBounds_toArray, List.set_cons_zero, List.set_cons_succ, i64_w, i32_w]
              rfl
            exact norm_ (by first | (simp only [putAll, Act.put, List.setIfInBounds_toArray, List.set_cons_zero, List.set_cons_succ]; done) | (simp only [putAll, Act.put, List.setIfInBounds_toArray, List.set_cons_zero, List.set_cons_succ]; rfl)) (hCont (_, _) _ hS.out)
        · skip
          refine value_ (w1 := ?_) (v := ?_) (by rfl) rfl ?_ ?_
          rotate_left 2
          · go_simp
            constructor
            · rfl
            · rfl
          have hS := Aside0.mk (hS.out.str_new2 a0_1 5).put2
          generalize (Value.slice (some ⟨wq.heap.size, 0, none⟩) a0_1.size (grownCap wq a0_1.size 0 5)) = v16 at hS ⊢
          generalize (wq.alloc (.cells (bytesRow a0_1 (grownCap wq a0_1.size 0 5)) 5 ((bytesRow a0_1 (grownCap wq a0_1.size 0 5)).size, (bytesRow a0_1 (grownCap wq a0_1.size 0 5)).size + 1))).drew = wq at hS ⊢
          refine hK.out _ _ ⟨(hS.out.cell 0).trans rfl, (hS.out.cell 1).trans rfl⟩ (fun hHeld => ?_)
          clear hK K
          refine norm_ (a' := ?_) ?_ ?_
          rotate_left
          · show Act.put _ (some 27) _ = _
            simp only [Act.put, List.setIfInBounds_toArray, List.set_cons_zero, List.set_cons_succ, i64_w, i32_w]
            rfl
          refine two_ (i := 9) (j := 12) (Ni := some 20) (Nj := some 23) #[true, true, true, true, true, true, true, true, true, true, true, true, false, false, true, true, true, false] #[true, true, true, true, true, true, true, true, true, false, true, true, true, false, true, true, true, false] rfl rfl rfl rfl (by kernel_rfl) (by decide) (by decide) (fun K hK => ?_) (fun K hK => ?_)
          · skip
            refine goes_ Try.func27 (by kernel_rfl) rfl #[.pointer (some ⟨w1.heap.size, 0, none⟩), .int .u32 (a0_1.size : Int)] (by rfl) rfl rfl (by (try simp only [List.map_toArray, List.map_cons, List.map_nil]); first | done | rfl) ?_
            refine (buf_Four w _ w1.heap.size _ _ _ hS.out.pick1 (by omega) (by omega) (by simp [nbytes_len])).mono ?_
            rintro e wq ⟨rfl, h1⟩
            refine ⟨_, rfl, ?_⟩
            have hS := Aside0.mk h1.put1
            clear h1
            refine hK.out _ _ ⟨(hS.out.cell 0).trans rfl, (hS.out.cell 1).trans rfl⟩ (fun hHeld => ?_)
            clear hK K
            refine norm_ (a' := ?_) ?_ ?_
            rotate_left
            · show Act.put _ (some 20) _ = _
              simp only [Act.put, List.setIfInBounds_toArray, List.set_cons_zero, List.set_cons_succ, i64_w, i32_w]
              rfl
            refine one_ (i := 12) (N := some 23) #[true, true, true, true, true, true, true, true, true, true, true, true, true, false, true, true, true, false] rfl rfl (by kernel_rfl) (by decide) (fun K hK => ?_)
            refine value_ (w1 := ?_) (v := ?_) (by rfl) rfl ?_ ?_
            rotate_left 2
            · go_simp
              constructor
              · rfl
              · rfl
            have hS := Aside0.mk (hS.out.str_new2 a0_0 5).put2
            generalize (Value.slice (some ⟨wq.heap.size, 0, none⟩) a0_0.size (grownCap wq a0_0.size 0 5)) = v12 at hS ⊢
            generalize (wq.alloc (.cells (bytesRow a0_0 (grownCap wq a0_0.size 0 5)) 5 ((bytesRow a0_0 (grownCap wq a0_0.size 0 5)).size, (bytesRow a0_0 (grownCap wq a0_0.size 0 5)).size + 1))).drew = wq at hS ⊢
            refine hK.out _ _ ⟨(hS.out.cell 0).trans rfl, (hS.out.cell 1).trans rfl⟩ (fun hHeld => ?_)
            clear hK K
            refine norm_ (a' := ?_) ?_ ?_
            rotate_left
            · show Act.put _ (some 23) _ = _
              simp only [Act.put, List.setIfInBounds_toArray, List.set_cons_zero, List.set_cons_succ, i64_w, i32_w]
              rfl
            refine one_ (i := 13) (N := some 24) #[true, true, true, true, true, true, true, true, true, true, true, true, true, true, true, true, true, false] rfl rfl (by kernel_rfl) (by decide) (fun K hK => ?_)
            refine goes_ Try.func29 (by kernel_rfl) rfl #[.pointer (some ⟨w1.heap.size, 0, none⟩), v12] (by rfl) rfl rfl (by (try simp only [List.map_toArray, List.map_cons, List.map_nil]); first | done | rfl) ?_
            refine (buf_RawS w _ w1.heap.size _ _ _ a0_0 hS.out.pick2.pick2 (by simp [nbytes_len]) (by omega)).mono ?_
            rintro e wq ⟨rfl, h1⟩
            refine ⟨_, rfl, ?_⟩
            have hS := Aside0.mk h1.put1
            clear h1
            refine hK.out _ _ ⟨(hS.out.cell 0).trans rfl, (hS.out.cell 1).trans rfl⟩ (fun hHeld => ?_)
            clear hK K
            refine norm_ (a' := ?_) ?_ ?_
            rotate_left
            · show Act.put _ (some 24) _ = _
              simp only [Act.put, List.setIfInBounds_toArray, List.set_cons_zero, List.set_cons_succ, i64_w, i32_w]
              rfl
            exact norm_ (by first | (simp only [putAll, Act.put, List.setIfInBounds_toArray, List.set_cons_zero, List.set_cons_succ]; done) | (simp only [putAll, Act.put, List.setIfInBounds_toArray, List.set_cons_zero, List.set_cons_succ]; rfl)) (hCont (_, _) _ hS.out)
          · skip
            refine value_ (w1 := ?_) (v := ?_) (by rfl) rfl ?_ ?_
            rotate_left 2
            · go_simp
              constructor
              · rfl
              · rfl
            have hS := Aside0.mk (hS.out.str_new2 a0_0 5).put2
            generalize (Value.slice (some ⟨wq.heap.size, 0, none⟩) a0_0.size (grownCap wq a0_0.size 0 5)) = v12 at hS ⊢
            generalize (wq.alloc (.cells (bytesRow a0_0 (grownCap wq a0_0.size 0 5)) 5 ((bytesRow a0_0 (grownCap wq a0_0.size 0 5)).size, (bytesRow a0_0 (grownCap wq a0_0.size 0 5)).size + 1))).drew = wq at hS ⊢
            refine hK.out _ _ ⟨(hS.out.cell 0).trans rfl, (hS.out.cell 1).trans rfl⟩ (fun hHeld => ?_)
            clear hK K
            refine norm_ (a' := ?_) ?_ ?_
            rotate_left
            · show Act.put _ (some 23) _ = _
              simp only [Act.put, List.setIfInBounds_toArray, List.set_cons_zero, List.set_cons_succ, i64_w, i32_w]
              rfl
            refine one_ (i := 9) (N := some 20) #[true, true, true, true, true, true, true, true, true, true, true, true, true, false, true, true, true, false] rfl rfl (by kernel_rfl) (by decide) (fun K hK => ?_)
            refine goes_ Try.func27 (by kernel_rfl) rfl #[.pointer (some ⟨w1.heap.size, 0, none⟩), .int .u32 (a0_1.size : Int)] (by rfl) rfl rfl (by (try simp only [List.map_toArray, List.map_cons, List.map_nil]); first | done | rfl) ?_
            refine (buf_Four w _ w1.heap.size _ _ _ hS.out.pick1 (by omega) (by omega) (by simp [nbytes_len])).mono ?_
            rintro e wq ⟨rfl, h1⟩
            refine ⟨_, rfl, ?_⟩
            have hS := Aside0.mk h1.put1
            clear h1
            refine hK.out _ _ ⟨(hS.out.cell 0).trans rfl, (hS.out.cell 1).trans rfl⟩ (fun hHeld => ?_)
            clear hK K
            refine norm_ (a' := ?_) ?_ ?_
            rotate_left
            · show Act.put _ (some 20) _ = _
              simp only [Act.put, List.setIfInBounds_toArray, List.set_cons_zero, List.set_cons_succ, i64_w, i32_w]
              rfl
            refine one_ (i := 13) (N := some 24) #[true, true, true, true, true, true, true, true, true, true, true, true, true, true, true, true, true, false] rfl rfl (by kernel_rfl) (by decide) (fun K hK => ?_)
            refine goes_ Try.func29 (by kernel_rfl) rfl #[.pointer (some ⟨w1.heap.size, 0, none⟩), v12] (by rfl) rfl rfl (by (try simp only [List.map_toArray, List.map_cons, List.map_nil]); first | done | rfl) ?_
            refine (buf_RawS w _ w1.heap.size _ _ _ a0_0 hS.out.pick2.pick2 (by simp [nbytes_len]) (by omega)).mono ?_
            rintro e wq ⟨rfl, h1⟩
            refine ⟨_, rfl, ?_⟩
            have hS := Aside0.mk h1.put1
            clear h1
            refine hK.out _ _ ⟨(hS.out.cell 0).trans rfl, (hS.out.cell 1).trans rfl⟩ (fun hHeld => ?_)
            clear hK K
            refine norm_ (a' := ?_) ?_ ?_
            rotate_left
            · show Act.put _ (some 24) _ = _
              simp only [Act.put, List.setIfInBounds_toArray, List.set_cons_zero, List.set_cons_succ, i64_w, i32_w]
              rfl
            exact norm_ (by first | (simp only [putAll, Act.put, List.setIfInBounds_toArray, List.set_cons_zero, List.set_cons_succ]; done) | (simp only [putAll, Act.put, List.setIfInBounds_toArray, List.set_cons_zero, List.set_cons_succ]; rfl)) (hCont (_, _) _ hS.out)
      · skip
        refine value_ (w1 := ?_) (v := ?_) (by rfl) rfl ?_ ?_
        rotate_left 2
        · go_simp
          constructor
          · rfl
          · rfl
        have hS := Aside0.mk (hS.out.str_new2 a0_0 5).put2
        generalize (Value.slice (some ⟨wq.heap.size, 0, none⟩) a0_0.size (grownCap wq a0_0.size 0 5)) = v12 at hS ⊢
        generalize (wq.alloc (.cells (bytesRow a0_0 (grownCap wq a0_0.size 0 5)) 5 ((bytesRow a0_0 (grownCap wq a0_0.size 0 5)).size, (bytesRow a0_0 (grownCap wq a0_0.size 0 5)).size + 1))).drew = wq at hS ⊢
        refine hK.out _ _ ⟨(hS.out.cell 0).trans rfl, (hS.out.cell 1).trans rfl⟩ (fun hHeld => ?_)
        clear hK K
        refine norm_ (a' := ?_) ?_ ?_
        rotate_left
        · show Act.put _ (some 23) _ = _
          simp only [Act.put, List.setIfInBounds_toArray, List.set_cons_zero, List.set_cons_succ, i64_w, i32_w]
          rfl
        refine two_ (i := 4) (j := 16) (Ni := some 15) (Nj := some 27) #[true, true, true, true, true, true, true, true, true, false, true, true, true, false, true, true, false, false] #[true, true, true, true, false, true, true, true, true, false, true, true, true, false, true, true, true, false] rfl rfl rfl rfl (by kernel_rfl) (by decide) (by decide) (fun K hK => ?_) (fun K hK => ?_)
        · skip
          refine goes_ Try.func27 (by kernel_rfl) rfl #[.pointer (some ⟨w1.heap.size, 0, none⟩), .int .u32 (a0_0.size : Int)] (by rfl) rfl rfl (by (try simp only [List.map_toArray, List.map_cons, List.map_nil]); first | done | rfl) ?_
          refine (buf_Four w _ w1.heap.size _ _ _ hS.out.pick1 (by omega) (by omega) (by simp)).mono ?_
          rintro e wq ⟨rfl, h1⟩
          refine ⟨_, rfl, ?_⟩
          have hS := Aside0.mk h1.put1
          clear h1
          refine hK.out _ _ ⟨(hS.out.cell 0).trans rfl, (hS.out.cell 1).trans rfl⟩ (fun hHeld => ?_)
          clear hK K
          refine norm_ (a' := ?_) ?_ ?_
          rotate_left
          · show Act.put _ (some 15) _ = _
            simp only [Act.put, List.setIfInBounds_toArray, List.set_cons_zero, List.set_cons_succ, i64_w, i32_w]
            rfl
          refine two_ (i := 9) (j := 16) (Ni := some 20) (Nj := some 27) #[true, true, true, true, true, true, true, true, true, true, true, true, true, false, true, true, false, false] #[true, true, true, true, true, true, true, true, true, false, true, true, true, false, true, true, true, false] rfl rfl rfl rfl (by kernel_rfl) (by decide) (by decide) (fun K hK => ?_) (fun K hK => ?_)
          · skip
            refine goes_ Try.func27 (by kernel_rfl) rfl #[.pointer (some ⟨w1.heap.size, 0, none⟩), .int .u32 (a0_1.size : Int)] (by rfl) rfl rfl (by (try simp only [List.map_toArray, List.map_cons, List.map_nil]); first | done | rfl) ?_
            refine (buf_Four w _ w1.heap.size _ _ _ hS.out.pick1 (by omega) (by omega) (by simp [nbytes_len])).mono ?_
            rintro e wq ⟨rfl, h1⟩
            refine ⟨_, rfl, ?_⟩
            have hS := Aside0.mk h1.put1
            clear h1
            refine hK.out _ _ ⟨(hS.out.cell 0).trans rfl, (hS.out.cell 1).trans rfl⟩ (fun hHeld => ?_)
            clear hK K
            refine norm_ (a' := ?_) ?_ ?_
            rotate_left
            · show Act.put _ (some 20) _ = _
              simp only [Act.put, List.setIfInBounds_toArray, List.set_cons_zero, List.set_cons_succ, i64_w, i32_w]
              rfl
            refine two_ (i := 13) (j := 16) (Ni := some 24) (Nj := some 27) #[true, true, true, true, true, true, true, true, true, true, true, true, true, true, true, true, false, false] #[true, true, true, true, true, true, true, true, true, true, true, true, true, false, true, true, true, false] rfl rfl rfl rfl (by kernel_rfl) (by decide) (by decide) (fun K hK => ?_) (fun K hK => ?_)
            · skip
              refine goes_ Try.func29 (by kernel_rfl) rfl #[.pointer (some ⟨w1.heap.size, 0, none⟩), v12] (by rfl) rfl rfl (by (try simp only [List.map_toArray, List.map_cons, List.map_nil]); first | done | rfl) ?_
              refine (buf_RawS w _ w1.heap.size _ _ _ a0_0 hS.out.pick2.pick2 (by simp [nbytes_len]) (by omega)).mono ?_
              rintro e wq ⟨rfl, h1⟩
              refine ⟨_, rfl, ?_⟩
              have hS := Aside0.mk h1.put1
              clear h1
              refine hK.out _ _ ⟨(hS.out.cell 0).trans rfl, (hS.out.cell 1).trans rfl⟩ (fun hHeld => ?_)
              clear hK K
              refine norm_ (a' := ?_) ?_ ?_
              rotate_left
              · show Act.put _ (some 24) _ = _
                simp only [Act.put, List.setIfInBounds_toArray, List.set_cons_zero, List.set_cons_succ, i64_w, i32_w]
                rfl
              refine one_ (i := 16) (N := some 27) #[true, true, true, true, true, true, true, true, true, true, true, true, true, true, true, true, true, false] rfl rfl (by kernel_rfl) (by decide) (fun K hK => ?_)
              refine value_ (w1 := ?_) (v := ?_) (by rfl) rfl ?_ ?_
              rotate_left 2
              · go_simp
                constructor
                · rfl
                · rfl
              have hS := Aside0.mk (hS.out.str_new2 a0_1 5).put2
              generalize (Value.slice (some ⟨wq.heap.size, 0, none⟩) a0_1.size (grownCap wq a0_1.size 0 5)) = v16 at hS ⊢
              generalize (wq.alloc (.cells (bytesRow a0_1 (grownCap wq a0_1.size 0 5)) 5 ((bytesRow a0_1 (grownCap wq a0_1.size 0 5)).size, (bytesRow a0_1 (grownCap wq a0_1.size 0 5)).size + 1))).drew = wq at hS ⊢
              refine hK.out _ _ ⟨(hS.out.cell 0).trans rfl, (hS.out.cell 1).trans rfl⟩ (fun hHeld => ?_)
              clear hK K
              refine norm_ (a' := ?_) ?_ ?_
              rotate_left
              · show Act.put _ (some 27) _ = _
                simp only [Act.put, List.setIfInBounds_toArray, List.set_cons_zero, List.set_cons_succ, i64_w, i32_w]
                rfl
              exact norm_ (by first | (simp only [putAll, Act.put, List.setIfInBounds_toArray, List.set_cons_zero, List.set_cons_succ]; done) | (simp only [putAll, Act.put, List.setIfInBounds_toArray, List.set_cons_zero, List.set_cons_succ]; rfl)) (hCont (_, _) _ hS.out)
            · skip
              refine value_ (w1 := ?_) (v := ?_) (by rfl) rfl ?_ ?_
              rotate_left 2
              · go_simp
                constructor
                · rfl
                · rfl
              have hS := Aside0.mk (hS.out.str_new2 a0_1 5).put2
              generalize (Value.slice (some ⟨wq.heap.size, 0, none⟩) a0_1.size (grownCap wq a0_1.size 0 5)) = v16 at hS ⊢
              generalize (wq.alloc (.cells (bytesRow a0_1 (grownCap wq a0_1.size 0 5)) 5 ((bytesRow a0_1 (grownCap wq a0_1.size 0 5)).size, (bytesRow a0_1 (grownCap wq a0_1.size 0 5)).size + 1))).drew = wq at hS ⊢
              refine hK.out _ _ ⟨(hS.out.cell 0).trans rfl, (hS.out.cell 1).trans rfl⟩ (fun hHeld => ?_)
              clear hK K
              refine norm_ (a' := ?_) ?_ ?_
              rotate_left
              · show Act.put _ (some 27) _ = _
                simp only [Act.put, List.setIfInBounds_toArray, List.set_cons_zero, List.set_cons_succ, i64_w, i32_w]
                rfl
              refine one_ (i := 13) (N := some 24) #[true, true, true, true, true, true, true, true, true, true, true, true, true, true, true, true, true, false] rfl rfl (by kernel_rfl) (by decide) (fun K hK => ?_)
              refine goes_ Try.func29 (by kernel_rfl) rfl #[.pointer (some ⟨w1.heap.size, 0, none⟩), v12] (by rfl) rfl rfl (by (try simp only [List.map_toArray, List.map_cons, List.map_nil]); first | done | rfl) ?_
              refine (buf_RawS w _ w1.heap.size _ _ _ a0_0 hS.out.pick3.pick2 (by simp [nbytes_len]) (by omega)).mono ?_
              rintro e wq ⟨rfl, h1⟩
              refine ⟨_, rfl, ?_⟩
              have hS := Aside0.mk h1.put1
              clear h1
              refine hK.out _ _ ⟨(hS.out.cell 0).trans rfl, (hS.out.cell 1).trans rfl⟩ (fun hHeld => ?_)
              clear hK K
              refine norm_ (a' := ?_) ?_ ?_
              rotate_left
              · show Act.put _ (some 24) _ = _
                simp only [Act.put, List.setIfInBounds_toArray, List.set_cons_zero, List.set_cons_succ, i64_w, i32_w]
                rfl
              exact norm_ (by first | (simp only [putAll, Act.put, List.setIfInBounds_toArray, List.set_cons_zero, List.set_cons_succ]; done) | (simp only [putAll, Act.put, List.setIfInBounds_toArray, List.set_cons_zero, List.set_cons_succ]; rfl)) (hCont (_, _) _ hS.out)
          · skip
            refine value_ (w1 := ?_) (v := ?_) (by rfl) rfl ?_ ?_
            rotate_left 2
            · go_simp
              constructor
              · rfl
              · rfl
            have hS := Aside0.mk (hS.out.str_new2 a0_1 5).put2
            generalize (Value.slice (some ⟨wq.heap.size, 0, none⟩) a0_1.size (grownCap wq a0_1.size 0 5)) = v16 at hS ⊢
            generalize (wq.alloc (.cells (bytesRow a0_1 (grownCap wq a0_1.size 0 5)) 5 ((bytesRow a0_1 (grownCap wq a0_1.size 0 5)).size, (bytesRow a0_1 (grownCap wq a0_1.size 0 5)).size + 1))).drew = wq at hS ⊢
            refine hK.out _ _ ⟨(hS.out.cell 0).trans rfl, (hS.out.cell 1).trans rfl⟩ (fun hHeld => ?_)
            clear hK K
            refine norm_ (a' := ?_) ?_ ?_
            rotate_left
            · show Act.put _ (some 27) _ = _
              simp only [Act.put, List.setIfInBounds_toArray, List.set_cons_zero, List.set_cons_succ, i64_w, i32_w]
              rfl
            refine one_ (i := 9) (N := some 20) #[true, true, true, true, true, true, true, true, true, true, true, true, true, false, true, true, true, false] rfl rfl (by kernel_rfl) (by decide) (fun K hK => ?_)
            refine goes_ Try.func27 (by kernel_rfl) rfl #[.pointer (some ⟨w1.heap.size, 0, none⟩), .int .u32 (a0_1.size : Int)] (by rfl) rfl rfl (by (try simp only [List.map_toArray, List.map_cons, List.map_nil]); first | done | rfl) ?_
            refine (buf_Four w _ w1.heap.size _ _ _ hS.out.pick1 (by omega) (by omega) (by simp [nbytes_len])).mono ?_
            rintro e wq ⟨rfl, h1⟩
            refine ⟨_, rfl, ?_⟩
            have hS := Aside0.mk h1.put1
            clear h1
            refine hK.out _ _ ⟨(hS.out.cell 0).trans rfl, (hS.out.cell 1).trans rfl⟩ (fun hHeld => ?_)
            clear hK K
            refine norm_ (a' := ?_) ?_ ?_
            rotate_left
            · show Act.put _ (some 20) _ = _
              simp only [Act.put, List.setIfInBounds_toArray, List.set_cons_zero, List.set_cons_succ, i64_w, i32_w]
              rfl
            refine one_ (i := 13) (N := some 24) #[true, true, true, true, true, true, true, true, true, true, true, true, true, true, true, true, true, false] rfl rfl (by kernel_rfl) (by decide) (fun K hK => ?_)
            refine goes_ Try.func29 (by kernel_rfl) rfl #[.pointer (some ⟨w1.heap.size, 0, none⟩), v12] (by rfl) rfl rfl (by (try simp only [List.map_toArray, List.map_cons, List.map_nil]); first | done | rfl) ?_
            refine (buf_RawS w _ w1.heap.size _ _ _ a0_0 hS.out.pick3.pick2 (by simp [nbytes_len]) (by omega)).mono ?_
            rintro e wq ⟨rfl, h1⟩
            refine ⟨_, rfl, ?_⟩
            have hS := Aside0.mk h1.put1
            clear h1
            refine hK.out _ _ ⟨(hS.out.cell 0).trans rfl, (hS.out.cell 1).trans rfl⟩ (fun hHeld => ?_)
            clear hK K
            refine norm_ (a' := ?_) ?_ ?_
            rotate_left
            · show Act.put _ (some 24) _ = _
              simp only [Act.put, List.setIfInBounds_toArray, List.set_cons_zero, List.set_cons_succ, i64_w, i32_w]
              rfl
            exact norm_ (by first | (simp only [putAll, Act.put, List.setIfInBounds_toArray, List.set_cons_zero, List.set_cons_succ]; done) | (simp only [putAll, Act.put, List.setIfInBounds_toArray, List.set_cons_zero, List.set_cons_succ]; rfl)) (hCont (_, _) _ hS.out)
        · skip
          refine value_ (w1 := ?_) (v := ?_) (by rfl) rfl ?_ ?_
          rotate_left 2
          · go_simp
            constructor
            · rfl
            · rfl
          have hS := Aside0.mk (hS.out.str_new2 a0_1 5).put2
          generalize (Value.slice (some ⟨wq.heap.size, 0, none⟩) a0_1.size (grownCap wq a0_1.size 0 5)) = v16 at hS ⊢
          generalize (wq.alloc (.cells (bytesRow a0_1 (grownCap wq a0_1.size 0 5)) 5 ((bytesRow a0_1 (grownCap wq a0_1.size 0 5)).size, (bytesRow a0_1 (grownCap wq a0_1.size 0 5)).size + 1))).drew = wq at hS ⊢
          refine hK.out _ _ ⟨(hS.out.cell 0).trans rfl, (hS.out.cell 1).trans rfl⟩ (fun hHeld => ?_)
          clear hK K
          refine norm_ (a' := ?_) ?_ ?_
          rotate_left
          · show Act.put _ (some 27) _ = _
            simp only [Act.put, List.setIfInBounds_toArray, List.set_cons_zero, List.set_cons_succ, i64_w, i32_w]
            rfl
          refine one_ (i := 4) (N := some 15) #[true, true, true, true, true, true, true, true, true, false, true, true, true, false, true, true, true, false] rfl rfl (by kernel_rfl) (by decide) (fun K hK => ?_)
          refine goes_ Try.func27 (by kernel_rfl) rfl #[.pointer (some ⟨w1.heap.size, 0, none⟩), .int .u32 (a0_0.size : Int)] (by rfl) rfl rfl (by (try simp only [List.map_toArray, List.map_cons, List.map_nil]); first | done | rfl) ?_
          refine (buf_Four w _ w1.heap.size _ _ _ hS.out.pick1 (by omega) (by omega) (by simp)).mono ?_
          rintro e wq ⟨rfl, h1⟩
          refine ⟨_, rfl, ?_⟩
          have hS := Aside0.mk h1.put1
          clear h1
          refine hK.out _ _ ⟨(hS.out.cell 0).trans rfl, (hS.out.cell 1).trans rfl⟩ (fun hHeld => ?_)
          clear hK K
          refine norm_ (a' := ?_) ?_ ?_
          rotate_left
          · show Act.put _ (some 15) _ = _
            simp only [Act.put, List.setIfInBounds_toArray, List.set_cons_zero, List.set_cons_succ, i64_w, i32_w]
            rfl
          refine one_ (i := 9) (N := some 20) #[true, true, true, true, true, true, true, true, true, true, true, true, true, false, true, true, true, false] rfl rfl (by kernel_rfl) (by decide) (fun K hK => ?_)
          refine goes_ Try.func27 (by kernel_rfl) rfl #[.pointer (some ⟨w1.heap.size, 0, none⟩), .int .u32 (a0_1.size : Int)] (by rfl) rfl rfl (by (try simp only [List.map_toArray, List.map_cons, List.map_nil]); first | done | rfl) ?_
          refine (buf_Four w _ w1.heap.size _ _ _ hS.out.pick1 (by omega) (by omega) (by simp [nbytes_len])).mono ?_
          rintro e wq ⟨rfl, h1⟩
          refine ⟨_, rfl, ?_⟩
          have hS := Aside0.mk h1.put1
          clear h1
          refine hK.out _ _ ⟨(hS.out.cell 0).trans rfl, (hS.out.cell 1).trans rfl⟩ (fun hHeld => ?_)
          clear hK K
          refine norm_ (a' := ?_) ?_ ?_
          rotate_left
          · show Act.put _ (some 20) _ = _
            simp only [Act.put, List.setIfInBounds_toArray, List.set_cons_zero, List.set_cons_succ, i64_w, i32_w]
            rfl
          refine one_ (i := 13) (N := some 24) #[true, true, true, true, true, true, true, true, true, true, true, true, true, true, true, true, true, false] rfl rfl (by kernel_rfl) (by decide) (fun K hK => ?_)
          refine goes_ Try.func29 (by kernel_rfl) rfl #[.pointer (some ⟨w1.heap.size, 0, none⟩), v12] (by rfl) rfl rfl (by (try simp only [List.map_toArray, List.map_cons, List.map_nil]); first | done | rfl) ?_
          refine (buf_RawS w _ w1.heap.size _ _ _ a0_0 hS.out.pick3.pick2 (by simp [nbytes_len]) (by omega)).mono ?_
          rintro e wq ⟨rfl, h1⟩
          refine ⟨_, rfl, ?_⟩
          have hS := Aside0.mk h1.put1
          clear h1
          refine hK.out _ _ ⟨(hS.out.cell 0).trans rfl, (hS.out.cell 1).trans rfl⟩ (fun hHeld => ?_)
          clear hK K
          refine norm_ (a' := ?_) ?_ ?_
          rotate_left
          · show Act.put _ (some 24) _ = _
            simp only [Act.put, List.setIfInBounds_toArray, List.set_cons_zero, List.set_cons_succ, i64_w, i32_w]
            rfl
          exact norm_ (by first | (simp only [putAll, Act.put, List.setIfInBounds_toArray, List.set_cons_zero, List.set_cons_succ]; done) | (simp only [putAll, Act.put, List.setIfInBounds_toArray, List.set_cons_zero, List.set_cons_succ]; rfl)) (hCont (_, _) _ hS.out)
      · skip
        refine value_ (w1 := ?_) (v := ?_) (by rfl) rfl ?_ ?_
        rotate_left 2
        · go_simp
          constructor
          · rfl
          · rfl
        have hS := Aside0.mk (hS.out.str_new2 a0_1 5).put2
        generalize (Value.slice (some ⟨wq.heap.size, 0, none⟩) a0_1.size (grownCap wq a0_1.size 0 5)) = v16 at hS ⊢
        generalize (wq.alloc (.cells (bytesRow a0_1 (grownCap wq a0_1.size 0 5)) 5 ((bytesRow a0_1 (grownCap wq a0_1.size 0 5)).size, (bytesRow a0_1 (grownCap wq a0_1.size 0 5)).size + 1))).drew = wq at hS ⊢
        refine hK.out _ _ ⟨(hS.out.cell 0).trans rfl, (hS.out.cell 1).trans rfl⟩ (fun hHeld => ?_)
        clear hK K
        refine norm_ (a' := ?_) ?_ ?_
        rotate_left
        · show Act.put _ (some 27) _ = _
          simp only [Act.put, List.setIfInBounds_toArray, List.set_cons_zero, List.set_cons_succ, i64_w, i32_w]
          rfl
        refine two_ (i := 4) (j := 12) (Ni := some 15) (Nj := some 23) #[true, true, true, true, true, true, true, true, true, false, true, true, false, false, true, true, true, false] #[true, true, true, true, false, true, true, true, true, false, true, true, true, false, true, true, true, false] rfl rfl rfl rfl (by kernel_rfl) (by decide) (by decide) (fun K hK => ?_) (fun K hK => ?_)
        · skip
          refine goes_ Try.func27 (by kernel_rfl) rfl #[.pointer (some ⟨w1.heap.size, 0, none⟩), .int .u32 (a0_0.size : Int)] (by rfl) rfl rfl (by (try simp only [List.map_toArray, List.map_cons, List.map_nil]); first | done | rfl) ?_
          refine (buf_Four w _ w1.heap.size _ _ _ hS.out.pick1 (by omega) (by omega) (by simp)).mono ?_
          rintro e wq ⟨rfl, h1⟩
          refine ⟨_, rfl, ?_⟩
          have hS := Aside0.mk h1.put1
          clear h1
          refine hK.out _ _ ⟨(hS.out.cell 0).trans rfl, (hS.out.cell 1).trans rfl⟩ (fun hHeld => ?_)
          clear hK K
          refine norm_ (a' := ?_) ?_ ?_
          rotate_left
          · show Act.put _ (some 15) _ = _
            simp only [Act.put, List.setIfInBounds_toArray, List.set_cons_zero, List.set_cons_succ, i64_w, i32_w]
            rfl
          refine two_ (i := 9) (j := 12) (Ni := some 20) (Nj := some 23) #[true, true, true, true, true, true, true, true, true, true, true, true, false, false, true, true, true, false] #[true, true, true, true, true, true, true, true, true, false, true, true, true, false, true, true, true, false] rfl rfl rfl rfl (by kernel_rfl) (by decide) (by decide) (fun K hK => ?_) (fun K hK => ?_)
          · skip
            refine goes_ Try.func27 (by kernel_rfl) rfl #[.pointer (some ⟨w1.heap.size, 0, none⟩), .int .u32 (a0_1.size : Int)] (by rfl) rfl rfl (by (try simp only [List.map_toArray, List.map_cons, List.map_nil]); first | done | rfl) ?_
            refine (buf_Four w _ w1.heap.size _ _ _ hS.out.pick1 (by omega) (by omega) (by simp [nbytes_len])).mono ?_
            rintro e wq ⟨rfl, h1⟩
            refine ⟨_, rfl, ?_⟩
            have hS := Aside0.mk h1.put1
            clear h1
            refine hK.out _ _ ⟨(hS.out.cell 0).trans rfl, (hS.out.cell 1).trans rfl⟩ (fun hHeld => ?_)
            clear hK K
            refine norm_ (a' := ?_) ?_ ?_
            rotate_left
            · show Act.put _ (some 20) _ = _
              simp only [Act.put, List.setIfInBounds_toArray, List.set_cons_zero, List.set_cons_succ, i64_w, i32_w]
              rfl
            refine one_ (i := 12) (N := some 23) #[true, true, true, true, true, true, true, true, true, true, true, true, true, false, true, true, true, false] rfl rfl (by kernel_rfl) (by decide) (fun K hK => ?_)
            refine value_ (w1 := ?_) (v := ?_) (by rfl) rfl ?_ ?_
            rotate_left 2
            · go_simp
              constructor
              · rfl
              · rfl
            have hS := Aside0.mk (hS.out.str_new2 a0_0 5).put2
            generalize (Value.slice (some ⟨wq.heap.size, 0, none⟩) a0_0.size (grownCap wq a0_0.size 0 5)) = v12 at hS ⊢
            generalize (wq.alloc (.cells (bytesRow a0_0 (grownCap wq a0_0.size 0 5)) 5 ((bytesRow a0_0 (grownCap wq a0_0.size 0 5)).size, (bytesRow a0_0 (grownCap wq a0_0.size 0 5)).size + 1))).drew = wq at hS ⊢
            refine hK.out _ _ ⟨(hS.out.cell 0).trans rfl, (hS.out.cell 1).trans rfl⟩ (fun hHeld => ?_)
            clear hK K
            refine norm_ (a' := ?_) ?_ ?_
            rotate_left
            · show Act.put _ (some 23) _ = _
              simp only [Act.put, List.setIfInBounds_toArray, List.set_cons_zero, List.set_cons_succ, i64_w, i32_w]
              rfl
            refine one_ (i := 13) (N := some 24) #[true, true, true, true, true, true, true, true, true, true, true, true, true, true, true, true, true, false] rfl rfl (by kernel_rfl) (by decide) (fun K hK => ?_)
            refine goes_ Try.func29 (by kernel_rfl) rfl #[.pointer (some ⟨w1.heap.size, 0, none⟩), v12] (by rfl) rfl rfl (by (try simp only [List.map_toArray, List.map_cons, List.map_nil]); first | done | rfl) ?_
            refine (buf_RawS w _ w1.heap.size _ _ _ a0_0 hS.out.pick2.pick2 (by simp [nbytes_len]) (by omega)).mono ?_
            rintro e wq ⟨rfl, h1⟩
            refine ⟨_, rfl, ?_⟩
            have hS := Aside0.mk h1.put1
            clear h1
            refine hK.out _ _ ⟨(hS.out.cell 0).trans rfl, (hS.out.cell 1).trans rfl⟩ (fun hHeld => ?_)
            clear hK K
            refine norm_ (a' := ?_) ?_ ?_
            rotate_left
            · show Act.put _ (some 24) _ = _
              simp only [Act.put, List.setIfInBounds_toArray, List.set_cons_zero, List.set_cons_succ, i64_w, i32_w]
              rfl
            exact norm_ (by first | (simp only [putAll, Act.put, List.setIfInBounds_toArray, List.set_cons_zero, List.set_cons_succ]; done) | (simp only [putAll, Act.put, List.setIfInBounds_toArray, List.set_cons_zero, List.set_cons_succ]; rfl)) (hCont (_, _) _ hS.out)
          · skip
            refine value_ (w1 := ?_) (v := ?_) (by rfl) rfl ?_ ?_
            rotate_left 2
            · go_simp
              constructor
              · rfl
              · rfl
            have hS := Aside0.mk (hS.out.str_new2 a0_0 5).put2
            generalize (Value.slice (some ⟨wq.heap.size, 0, none⟩) a0_0.size (grownCap wq a0_0.size 0 5)) = v12 at hS ⊢
            generalize (wq.alloc (.cells (bytesRow a0_0 (grownCap wq a0_0.size 0 5)) 5 ((bytesRow a0_0 (grownCap wq a0_0.size 0 5)).size, (bytesRow a0_0 (grownCap wq a0_0.size 0 5)).size + 1))).drew = wq at hS ⊢
            refine hK.out _ _ ⟨(hS.out.cell 0).trans rfl, (hS.out.cell 1).trans rfl⟩ (fun hHeld => ?_)
            clear hK K
            refine norm_ (a' := ?_) ?_ ?_
            rotate_left
            · show Act.put _ (some 23) _ = _
              simp only [Act.put, List.setIfInBounds_toArray, List.set_cons_zero, List.set_cons_succ, i64_w, i32_w]
              rfl
            refine one_ (i := 9) (N := some 20) #[true, true, true, true, true, true, true, true, true, true, true, true, true, false, true, true, true, false] rfl rfl (by kernel_rfl) (by decide) (fun K hK => ?_)
            refine goes_ Try.func27 (by kernel_rfl) rfl #[.pointer (some ⟨w1.heap.size, 0, none⟩), .int .u32 (a0_1.size : Int)] (by rfl) rfl rfl (by (try simp only [List.map_toArray, List.map_cons, List.map_nil]); first | done | rfl) ?_
            refine (buf_Four w _ w1.heap.size _ _ _ hS.out.pick1 (by omega) (by omega) (by simp [nbytes_len])).mono ?_
            rintro e wq ⟨rfl, h1⟩
            refine ⟨_, rfl, ?_⟩
            have hS := Aside0.mk h1.put1
            clear h1
            refine hK.out _ _ ⟨(hS.out.cell 0).trans rfl, (hS.out.cell 1).trans rfl⟩ (fun hHeld => ?_)
            clear hK K
            refine norm_ (a' := ?_) ?_ ?_
            rotate_left
            · show Act.put _ (some 20) _ = _
              simp only [Act.put, List.setIfInBounds_toArray, List.set_cons_zero, List.set_cons_succ, i64_w, i32_w]
              rfl
            refine one_ (i := 13) (N := some 24) #[true, true, true, true, true, true, true, true, true, true, true, true, true, true, true, true, true, false] rfl rfl (by kernel_rfl) (by decide) (fun K hK => ?_)
            refine goes_ Try.func29 (by kernel_rfl) rfl #[.pointer (some ⟨w1.heap.size, 0, none⟩), v12] (by rfl) rfl rfl (by (try simp only [List.map_toArray, List.map_cons, List.map_nil]); first | done | rfl) ?_
            refine (buf_RawS w _ w1.heap.size _ _ _ a0_0 hS.out.pick2.pick2 (by simp [nbytes_len]) (by omega)).mono ?_
            rintro e wq ⟨rfl, h1⟩
            refine ⟨_, rfl, ?_⟩
            have hS := Aside0.mk h1.put1
            clear h1
            refine hK.out _ _ ⟨(hS.out.cell 0).trans rfl, (hS.out.cell 1).trans rfl⟩ (fun hHeld => ?_)
            clear hK K
            refine norm_ (a' := ?_) ?_ ?_
            rotate_left
            · show Act.put _ (some 24) _ = _
              simp only [Act.put, List.setIfInBounds_toArray, List.set_cons_zero, List.set_cons_succ, i64_w, i32_w]
              rfl
            exact norm_ (by first | (simp only [putAll, Act.put, List.setIfInBounds_toArray, List.set_cons_zero, List.set_cons_succ]; done) | (simp only [putAll, Act.put, List.setIfInBounds_toArray, List.set_cons_zero, List.set_cons_succ]; rfl)) (hCont (_, _) _ hS.out)
        · skip
          refine value_ (w1 := ?_) (v := ?_) (by rfl) rfl ?_ ?_
          rotate_left 2
          · go_simp
            constructor
            · rfl
            · rfl
          have hS := Aside0.mk (hS.out.str_new2 a0_0 5).put2
          generalize (Value.slice (some ⟨wq.heap.size, 0, none⟩) a0_0.size (grownCap wq a0_0.size 0 5)) = v12 at hS ⊢
          generalize (wq.alloc (.cells (bytesRow a0_0 (grownCap wq a0_0.size 0 5)) 5 ((bytesRow a0_0 (grownCap wq a0_0.size 0 5)).size, (bytesRow a0_0 (grownCap wq a0_0.size 0 5)).size + 1))).drew = wq at hS ⊢
          refine hK.out _ _ ⟨(hS.out.cell 0).trans rfl, (hS.out.cell 1).trans rfl⟩ (fun hHeld => ?_)
          clear hK K
          refine norm_ (a' := ?_) ?_ ?_
          rotate_left
          · show Act.put _ (some 23) _ = _
            simp only [Act.put, List.setIfInBounds_toArray, List.set_cons_zero, List.set_cons_succ, i64_w, i32_w]
            rfl
          refine one_ (i := 4) (N := some 15) #[true, true, true, true, true, true, true, true, true, false, true, true, true, false, true, true, true, false] rfl rfl (by kernel_rfl) (by decide) (fun K hK => ?_)
          refine goes_ Try.func27 (by kernel_rfl) rfl #[.pointer (some ⟨w1.heap.size, 0, none⟩), .int .u32 (a0_0.size : Int)] (by rfl) rfl rfl (by (try simp only [List.map_toArray, List.map_cons, List.map_nil]); first | done | rfl) ?_
          refine (buf_Four w _ w1.heap.size _ _ _ hS.out.pick1 (by omega) (by omega) (by simp)).mono ?_
          rintro e wq ⟨rfl, h1⟩
          refine ⟨_, rfl, ?_⟩
          have hS := Aside0.mk h1.put1
          clear h1
          refine hK.out _ _ ⟨(hS.out.cell 0).trans rfl, (hS.out.cell 1).trans rfl⟩ (fun hHeld => ?_)
          clear hK K
          refine norm_ (a' := ?_) ?_ ?_
          rotate_left
          · show Act.put _ (some 15) _ = _
            simp only [Act.put, List.setIfInBounds_toArray, List.set_cons_zero, List.set_cons_succ, i64_w, i32_w]
            rfl
          refine one_ (i := 9) (N := some 20) #[true, true, true, true, true, true, true, true, true, true, true, true, true, false, true, true, true, false] rfl rfl (by kernel_rfl) (by decide) (fun K hK => ?_)
          refine goes_ Try.func27 (by kernel_rfl) rfl #[.pointer (some ⟨w1.heap.size, 0, none⟩), .int .u32 (a0_1.size : Int)] (by rfl) rfl rfl (by (try simp only [List.map_toArray, List.map_cons, List.map_nil]); first | done | rfl) ?_
          refine (buf_Four w _ w1.heap.size _ _ _ hS.out.pick1 (by omega) (by omega) (by simp [nbytes_len])).mono ?_
          rintro e wq ⟨rfl, h1⟩
          refine ⟨_, rfl, ?_⟩
          have hS := Aside0.mk h1.put1
          clear h1
          refine hK.out _ _ ⟨(hS.out.cell 0).trans rfl, (hS.out.cell 1).trans rfl⟩ (fun hHeld => ?_)
          clear hK K
          refine norm_ (a' := ?_) ?_ ?_
          rotate_left
          · show Act.put _ (some 20) _ = _
            simp only [Act.put, List.setIfInBounds_toArray, List.set_cons_zero, List.set_cons_succ, i64_w, i32_w]
            rfl
          refine one_ (i := 13) (N := some 24) #[true, true, true, true, true, true, true, true, true, true, true, true, true, true, true, true, true, false] rfl rfl (by kernel_rfl) (by decide) (fun K hK => ?_)
          refine goes_ Try.func29 (by kernel_rfl) rfl #[.pointer (some ⟨w1.heap.size, 0, none⟩), v12] (by rfl) rfl rfl (by (try simp only [List.map_toArray, List.map_cons, List.map_nil]); first | done | rfl) ?_
          refine (buf_RawS w _ w1.heap.size _ _ _ a0_0 hS.out.pick2.pick2 (by simp [nbytes_len]) (by omega)).mono ?_
          rintro e wq ⟨rfl, h1⟩
          refine ⟨_, rfl, ?_⟩
          have hS := Aside0.mk h1.put1
          clear h1
          refine hK.out _ _ ⟨(hS.out.cell 0).trans rfl, (hS.out.cell 1).trans rfl⟩ (fun hHeld => ?_)
          clear hK K
          refine norm_ (a' := ?_) ?_ ?_
          rotate_left
          · show Act.put _ (some 24) _ = _
            simp only [Act.put, List.setIfInBounds_toArray, List.set_cons_zero, List.set_cons_succ, i64_w, i32_w]
            rfl
          exact norm_ (by first | (simp only [putAll, Act.put, List.setIfInBounds_toArray, List.set_cons_zero, List.set_cons_succ]; done) | (simp only [putAll, Act.put, List.setIfInBounds_toArray, List.set_cons_zero, List.set_cons_succ]; rfl)) (hCont (_, _) _ hS.out)
    rintro ⟨v12, v16⟩ wq hF
    have hHeld : wq.cell? ⟨g0, 0, none⟩ = some (.string a0_0) ∧ wq.cell? ⟨g0, 1, none⟩ = some (.string a0_1) := ⟨(hF.cell 0).trans rfl, (hF.cell 1).trans rfl⟩
    have hS := Aside0.mk hF
    clear hF
    refine norm_ (a' := ?_) ?_ ?_
    rotate_left
    · simp only [putAll, Act.put, List.setIfInBounds_toArray, List.set_cons_zero, List.set_cons_succ]
      rfl
    refine one_ (i := 17) (N := some 28) #[true, true, true, true, true, true, true, true, true, true, true, true, true, true, true, true, true, true] rfl rfl (by kernel_rfl) (by decide) (fun K hK => ?_)
    refine goes_ Try.func29 (by kernel_rfl) rfl #[.pointer (some ⟨w1.heap.size, 0, none⟩), v16] (by rfl) rfl rfl (by (try simp only [List.map_toArray, List.map_cons, List.map_nil]); first | done | rfl) ?_
    refine (buf_RawS w _ w1.heap.size _ _ _ a0_1 hS.out.pick2.pick2 (by simp [nbytes_len, sby_len]; omega) (by omega)).mono ?_
    rintro e wq ⟨rfl, h1⟩
    refine ⟨_, rfl, ?_⟩
    have hS := Aside0.mk h1.put1
    clear h1
    refine hK.out _ _ ⟨(hS.out.cell 0).trans rfl, (hS.out.cell 1).trans rfl⟩ (fun hHeld => ?_)
    clear hK K
    refine norm_ (a' := ?_) ?_ ?_
    rotate_left
    · show Act.put _ (some 28) _ = _
      simp only [Act.put, List.setIfInBounds_toArray, List.set_cons_zero, List.set_cons_succ, i64_w, i32_w]
      rfl
    refine done_ (by kernel_rfl) ?_
    obtain ⟨L, hL⟩ : ∃ L, ehead a0_0 a0_1 = L := ⟨_, rfl⟩
    have hLl : L.length ≤ 2000000 := by rw [← hL, ehead_len]; omega
    have hLb : Bytes L := by rw [← hL]; exact ehead_bytes _ _
    have hS : Aside0 (Sep.Sep w wq [blk g0 #[.string a0_0, .string a0_1] 62, buf w1.heap.size L]) := ⟨by have := hS.out; rw [← hL]; simpa [ehead] using this⟩
    obtain ⟨ts, hts⟩ : ∃ ts, tsum 0 L = ts := ⟨_, rfl⟩
    have htsl : ts < 4294967296 := by rw [← hts]; exact tsum_lt 0 L
    have hTS : thin_Sum.f 0 L = some (ts : Int) := by
      unfold thin_Sum.f
      rw [if_pos ⟨by omega, by omega, (bytesOK_iff L).2 hLb⟩, ← hts]
      rfl
    have hTS := Aside0.mk hTS
    have htsA := Aside0.mk hts
    have hLA := Aside0.mk hL
    have hLlA := Aside0.mk hLl
    clear hts hL hHeld hLl
    go_wp2_with (first | ((with_reducible refine gate_callee (f := 31) rfl ?_); refine goesL_ (some 29) rfl rfl Try.func31 (by kernel_rfl) rfl #[.pointer (some ⟨w1.heap.size, 0, none⟩)] rfl (by (try simp only [List.map_toArray, List.map_cons, List.map_nil]); first | done | rfl) ?_; (refine (buf_Bytes w _ w1.heap.size L _ hS.out.pick1 (by have := hLlA.out; omega)).mono ?_); rintro e w29 ⟨v29, rfl, h1⟩; refine ⟨_, rfl, ?_⟩; obtain ⟨bs, hR⟩ := h1.row_R; obtain ⟨A29, c29, rfl⟩ := Kd.R_slice hR; have hC29 := Aside0.mk (Kd.R_reads' hR); have hS29 := Aside0.mk h1.tail; clear h1 hR) | ((with_reducible refine gate_callee (f := 66) rfl ?_); refine goesL_ (some 30) rfl rfl Try.func66 (by kernel_rfl) rfl #[.int .u32 0, .slice A29 L.length c29] rfl (by (try simp only [List.map_toArray, List.map_cons, List.map_nil]); first | done | rfl) ?_; (refine (thin_Sum.calls 0 A29 c29 L _ _ hC29.out.2.2 hC29.out.2.1 hTS.out).mono ?_); rintro e w30 ⟨rfl, h1⟩; refine ⟨_, rfl, ?_⟩; have hS30 := Aside0.mk (hS29.out.below h1); clear h1) | ((with_reducible refine gate_callee (f := 27) rfl ?_); refine goesL_ (some 31) rfl rfl Try.func27 (by kernel_rfl) rfl #[.pointer (some ⟨w1.heap.size, 0, none⟩), .int .u32 (ts : Int)] rfl (by (try simp only [List.map_toArray, List.map_cons, List.map_nil]); first | done | rfl) ?_; (refine (buf_Four w _ w1.heap.size L _ _ hS30.out (by omega) (by omega) (by have := hLlA.out; omega)).mono ?_); rintro e w31 ⟨rfl, h1⟩; refine ⟨_, rfl, ?_⟩; have hS31 := Aside0.mk h1; clear h1) | ((with_reducible refine gate_callee (f := 31) rfl ?_); refine goesL_ (some 32) rfl rfl Try.func31 (by kernel_rfl) rfl #[.pointer (some ⟨w1.heap.size, 0, none⟩)] rfl (by (try simp only [List.map_toArray, List.map_cons, List.map_nil]); first | done | rfl) ?_; (refine (buf_Bytes w _ w1.heap.size (L ++ nbytes 4 (ts : Int)) _ hS31.out (by have := hLlA.out; rw [List.length_append, nbytes_len]; omega)).mono ?_); rintro e w32 ⟨v32, rfl, h1⟩; refine ⟨_, rfl, ?_⟩; have hS32 := Aside0.mk h1; clear h1))
    go_ret2
    refine ⟨_, rfl, ?_⟩
    have := hS32.out.row_out
    unfold ebytes
    rw [hLA.out, htsA.out]
    exact this

end Go.Proofs.Ytmlodmpkcbncjaa.G

/- elder.one: where there are bytes enough. -/
set_option linter.unusedVariables false
set_option linter.unusedSimpArgs false
namespace Go.Proofs.Ytmlodmpkcbncjaa.G
open Go Go.RowKit Go.Proofs.YtmlodmpkcbncjaaW.PrintWords Go.Proofs.YtmlodmpkcbncjaaW.PrintLast Go.Proofs.YtmlodmpkcbncjaaW.PrintMore Go.Proofs.Ytmlodmpkcbncjaa.PureKit Go.Proofs.Ytmlodmpkcbncjaa.Sep Go.Proofs.Ytmlodmpkcbncjaa.Rol

set_option maxHeartbeats 4000000 in
theorem cur_Fail_zero (w0 w : World) (g at_ : Nat) (l : List Int) (ps : List HP) (hs : Sep.Sep w0 w (cur g l at_ true :: ps)) :
    Calls Try.prog 61 #[.pointer (some ⟨g, 0, none⟩), .int .i64 0] w fun e w' => e = .returned (.tuple #[]) ∧ Sep.Sep w0 w' (cur g l at_ true :: ps) := by
  have hS := Aside0.mk hs
  clear hs
  have hd : ((0 : Int) != 0) = false := rfl
  go_enter Try.func61, Try.ntmps61
  go_wp2_with (first | ((with_reducible refine gate_callee (f := 60) rfl ?_); refine goesL_ (some 5) rfl rfl Try.func60 (by kernel_rfl) rfl #[.pointer (some ⟨g, 0, none⟩)] rfl (by (try simp only [List.map_toArray, List.map_cons, List.map_nil]); first | done | rfl) ?_; (with_reducible refine (cur_dead w0 _ g at_ l true ps hS.out).mono ?_); rintro e w1 ⟨rfl, h1⟩; refine ⟨_, rfl, ?_⟩; have hS1 := Aside0.mk h1; clear h1))
  go_end0
  exact ⟨rfl, hS1.out⟩
theorem cur_Take_any (w0 w : World) (g at_ : Nat) (l : List Int) (ps : List HP) (m : Nat) (n : Int) (hm : n = m) (hs : Sep.Sep w0 w (cur g l at_ true :: ps)) (hl : l.length ≤ 1000000000000) (hsh : at_ + m ≤ l.length) :
    Calls Try.prog 19 #[.pointer (some ⟨g, 0, none⟩), .int .i64 n] w fun e w' => ∃ v, e = .returned v ∧ Sep.Sep w0 w' (row (Kd.int .u8) 5 v ((l.take (at_ + m)).drop at_) :: cur g l (at_ + m) true :: ps) := by
  by_cases h0 : m = 0
  · subst h0
    refine (cur_Take_none w0 w g at_ l ps n hs (by omega)).mono ?_
    rintro e w1 ⟨rfl, h1⟩
    refine ⟨_, rfl, ?_⟩
    rw [Nat.add_zero, show (l.take at_).drop at_ = [] from List.drop_eq_nil_of_le (by rw [List.length_take]; omega)]
    exact Sep.row_nil (Kd.int .u8) _ h1
  · exact cur_Take_some w0 w g at_ l ps m n hm hs (by omega) hl hsh

theorem thin_check (w : World) (A : Option Addr) (c : Nat) (l : List Int) (a0 : Int) (ts : Nat) (x : Int) (q : Bool) (hC : Kd.C (Kd.int .u8) w A l.length l) (hc : l.length ≤ c) (hT : thin_Sum.f a0 l = some (ts : Int)) (hq : ((ts : Int) == x) = q) :
    Calls Try.prog 88 #[.int .u32 a0, .slice A l.length c, .int .u32 x] w fun e w' => e = .returned (.bool q) ∧ Below w.heap.size w w' := by
  have hC := Aside0.mk hC
  have hc := Aside0.mk hc
  have hT := Aside0.mk hT
  go_enter Try.func88, Try.ntmps88
  go_wp2_with (first | ((with_reducible refine gate_callee (f := 66) rfl ?_); refine goesL_ (some 9) rfl rfl Try.func66 (by kernel_rfl) rfl #[.int .u32 a0, .slice A l.length c] rfl (by (try simp only [List.map_toArray, List.map_cons, List.map_nil]); first | done | rfl) ?_; (refine (thin_Sum.calls a0 A c l _ _ hC.out hc.out hT.out).mono ?_); rintro e w1 ⟨rfl, h1⟩; refine ⟨_, rfl, ?_⟩; have hB1 := Aside0.mk h1; clear h1))
  go_ret
  exact ⟨rfl, hB1.out⟩

theorem room_ok (L a k v : Nat) (h : a + (k + v + 4) ≤ L) : decide ((L : Int) - (a : Int) < (k : Int) + (v : Int) + 4) = false := decide_eq_false (by omega)
theorem room_no (L a k v : Nat) (h : L < a + (k + v + 4)) : decide ((L : Int) - (a : Int) < (k : Int) + (v : Int) + 4) = true := decide_eq_true (by omega)
theorem results_c {P : Program} {fn : Func} {p : Tmp} {ty : TypeId} (h : fn.results = #[.cell p ty]) (tmps : Array Value) (w : World) (g : Nat) (t : TypeId) (cs : Array Value) (fr : Nat × Nat) (d : TypeDesc)
    (hp : tmps.getD p undef = .pointer (some ⟨g, 0, none⟩)) (hg : w.heap[g]? = some (.cells cs t fr))
    (hu : P.underlying ty = some d) (hd : (match d with | .struct _ | .array _ _ => true | _ => false) = true) (hi : (P.info? ty).map (·.size) = some cs.size) :
    (results fn tmps).run P w = .ok (.agg cs) w := by
  have hp' : tmps[p]?.getD undef = .pointer (some ⟨g, 0, none⟩) := by simpa using hp
  simp [results, h, hp', asAddr, run_loadVar_row w g t ty cs fr d hg hu hd hi]
def elen (k v : Nat) : Int := if k = 0 then 4 else if k > 4096 then 3 else if v > 1048576 then 3 else 0
theorem elen_ev (k v : Nat) : elder_lengths.f (k : Int) (v : Int) = some (elen k v) := by
  unfold elder_lengths.f elen
  by_cases h0 : k = 0
  · rw [if_pos h0, if_pos (by omega)]
  rw [if_neg h0, if_neg (by omega)]
  by_cases h1 : k > 4096
  · rw [if_pos h1, if_pos (by omega)]
  rw [if_neg h1, if_neg (by omega)]
  by_cases h2 : v > 1048576
  · rw [if_pos h2, if_pos (by omega)]
  · rw [if_neg h2, if_neg (by omega)]
theorem elen_sizes {k v : Nat} (h : elen k v = 0) : 0 < k ∧ k ≤ 4096 ∧ v ≤ 1048576 := by
  unfold elen at h
  split at h
  · omega
  · split at h
    · omega
    · split at h <;> omega
def cut (l : List Int) (a n : Nat) : List Int := (l.take (a + n)).drop a
theorem cut_len (l : List Int) (a n : Nat) (h : a + n ≤ l.length) : (cut l a n).length = n := by
  unfold cut
  rw [List.length_drop, List.length_take]
  omega
theorem cut_bytes {l : List Int} (h : Bytes l) (a n : Nat) : Bytes (cut l a n) := (h.take _).drop _
def eend (l : List Int) (a k v : Nat) : Res (ByteArray × ByteArray) :=
  if ((tsum 0 (ehead (strOfNums (cut l (a + 8) k)) (strOfNums (cut l (a + 8 + k) v))) : Nat) : Int) = lev (cut l (a + 8 + k + v) 4) then .ok (strOfNums (cut l (a + 8) k), strOfNums (cut l (a + 8 + k) v)) (a + 8 + k + v + 4) else .bad 5 (a + 8 + k + v + 4)
def emid (l : List Int) (a k v : Nat) : Res (ByteArray × ByteArray) :=
  if elen k v ≠ 0 then .bad (elen k v) (a + 8) else if l.length < a + 8 + (k + v + 4) then .bad 2 (a + 8) else eend l a k v
/-- The pair with which the bytes go on behind a. -/
def eone (l : List Int) (a : Nat) : Res (ByteArray × ByteArray) :=
  if l.length < a + 8 then .bad 2 a else emid l a (lev (cut l a 4)).toNat (lev (cut l (a + 4) 4)).toNat

def epair (x : ByteArray × ByteArray) : Value := .agg #[.string x.1, .string x.2]

set_option maxHeartbeats 4000000 in
set_option maxRecDepth 100000 in
theorem elder_one_end (w0 w : World) (g at_ a8 k v : Nat) (l : List Int) (ps : List HP) (hs : Sep.Sep w0 w (cur g l at_ true :: ps)) (hb : Bytes l) (hat : at_ ≤ l.length) (hl : l.length ≤ 1000000000000)
    (hk4 : at_ + 4 ≤ l.length) (hv4 : at_ + 4 + 4 ≤ l.length) (hkA : Aside0 (lev ((l.take (at_ + 4)).drop at_) = (k : Int))) (hvA : Aside0 (lev ((l.take (at_ + 4 + 4)).drop (at_ + 4)) = (v : Int))) (hev : elder_lengths.f (k : Int) (v : Int) = some 0) (hk0 : 0 < k) (hks : k ≤ 4096) (hvs : v ≤ 1048576) (ha8A : Aside0 (at_ + 4 + 4 = a8)) (ha8l : a8 ≤ l.length) (c12 : a8 + (k + v + 4) ≤ l.length) :
    Calls Try.prog 69 #[.pointer (some ⟨g, 0, none⟩)] w fun e w' => (eend l at_ k v).post epair w0 g l ps e w' := by
  have hu62 := Try.underlying62
  obtain ⟨RE, hRE⟩ : ∃ RE, eend l at_ k v = RE := ⟨_, rfl⟩
  rw [hRE]
  have hREA := Aside0.mk hRE
  clear hRE
  have hS := Aside0.mk (Sep.put1 (hs.alloc #[.string ⟨#[]⟩, .string ⟨#[]⟩] 62))
  clear hs
  have htk : Aside0 (a8 + k ≤ l.length) := ⟨by clear hat hk4 hv4 hl hks hvs ha8l hk0; omega⟩
  have htv : Aside0 (a8 + k + v ≤ l.length) := ⟨by clear hat hk4 hv4 hl hks hvs ha8l hk0; omega⟩
  have htf : Aside0 (a8 + k + v + 4 ≤ l.length) := ⟨by clear hat hk4 hv4 hl hks hvs ha8l hk0; omega⟩
  have e1 : decide ((l.length : Int) - (at_ : Int) < 8) = false := decide_eq_false (by omega)
  have hkl : k < 4294967296 := by omega
  have hvl : v < 4294967296 := by omega
  have hB := Aside0.mk (And.intro hk0 (And.intro hks (And.intro hvs (And.intro ha8l c12))))
  clear hk0 hks hvs ha8l c12
  go_enter Try.func69, Try.ntmps69
  go_wp2_with (first | ((with_reducible refine gate_callee (f := 62) rfl ?_); refine goesL_ (some 8) rfl rfl Try.func62 (by kernel_rfl) rfl #[.pointer (some ⟨g, 0, none⟩)] rfl (by (try simp only [List.map_toArray, List.map_cons, List.map_nil]); first | done | rfl) ?_; (refine (cur_Left w0 _ g at_ l _ hS.out hat hl).mono ?_); rintro e w1 ⟨rfl, h1⟩; refine ⟨_, rfl, ?_⟩; have hS1 := Aside0.mk h1; clear h1) | ((with_reducible refine gate_callee (f := 34) rfl ?_); refine goesL_ (some 13) rfl rfl Try.func34 (by kernel_rfl) rfl #[.pointer (some ⟨g, 0, none⟩)] rfl (by (try simp only [List.map_toArray, List.map_cons, List.map_nil]); first | done | rfl) ?_; (refine (cur_Four_some w0 _ g at_ l _ hS1.out hb hl hk4).mono ?_); rw [hkA.out]; rintro e w2 ⟨rfl, h1⟩; refine ⟨_, rfl, ?_⟩; have hS2 := Aside0.mk h1; clear h1) | ((with_reducible refine gate_callee (f := 34) rfl ?_); refine goesL_ (some 15) rfl rfl Try.func34 (by kernel_rfl) rfl #[.pointer (some ⟨g, 0, none⟩)] rfl (by (try simp only [List.map_toArray, List.map_cons, List.map_nil]); first | done | rfl) ?_; (refine (cur_Four_some w0 _ g (at_ + 4) l _ hS2.out hb hl hv4).mono ?_); rw [hvA.out, ha8A.out]; rintro e w3 ⟨rfl, h1⟩; refine ⟨_, rfl, ?_⟩; have hS3 := Aside0.mk h1; clear h1) | ((with_reducible refine gate_callee (f := 67) rfl ?_); refine goesL_ (some 21) rfl rfl Try.func67 (by kernel_rfl) rfl #[.int .u64 (k : Int), .int .u64 (v : Int)] rfl (by (try simp only [List.map_toArray, List.map_cons, List.map_nil]); first | done | rfl) ?_; (refine (elder_lengths.calls (k : Int) (v : Int) 0 _ hev).mono ?_); rintro e w4 ⟨rfl, ⟨n4, rfl⟩⟩; refine ⟨_, rfl, ?_⟩; have hS4 := Aside0.mk (hS3.out.drewN n4)))
  refine (cur_Fail_zero w0 _ g a8 l _ hS4.out).mono ?_
  rintro e w5 ⟨rfl, h1⟩
  have hS5 := Aside0.mk h1
  clear h1
  obtain ⟨hk0, hks, hvs, ha8l, c12⟩ := hB.out
  have wk : IntKind.i64.wrap (k : Int) = (k : Int) := by rw [i64_w, w64 (by omega) (by omega)]
  have wv : IntKind.i64.wrap (v : Int) = (v : Int) := by rw [i64_w, w64 (by omega) (by omega)]
  have wk2 : wrap64 (k : Int) = (k : Int) := w64 (by omega) (by omega)
  have wv2 : wrap64 (v : Int) = (v : Int) := w64 (by omega) (by omega)
  have wkv : wrap64 ((k : Int) + (v : Int)) = (k : Int) + (v : Int) := w64 (by omega) (by omega)
  have wkv4 : wrap64 ((k : Int) + (v : Int) + 4) = (k : Int) + (v : Int) + 4 := w64 (by omega) (by omega)
  have e2 := room_ok l.length a8 k v c12
  clear hk0 hks hvs ha8l c12
  go_wp2_with (fail)
  refine (cur_Left w0 _ g a8 l _ hS5.out hB.out.2.2.2.1 hl).mono ?_
  rintro e w6 ⟨rfl, h1⟩
  have hS6 := Aside0.mk h1
  clear h1
  go_wp2_with (fail)
  have hS := Aside0.mk hS6.out.drew
  clear hS1 hS2 hS3 hS4 hS5 hS6
  refine start_ (n := 13) (S := fun w' => True) (ds := []) #[false, false, false, false, false, false, false, false, false, false, false, false, false] (by kernel_rfl) rfl rfl trivial (fun hHeld => ?_)
  obtain ⟨wq, hwq⟩ : ∃ wq, w6.drew = wq := ⟨_, rfl⟩
  rw [hwq] at hS ⊢
  clear hwq hHeld
  refine pure_ (i := 0) (N := some 34) (v := ?_) (a' := ?_) #[true, false, false, false, false, false, false, false, false, false, false, false, false] rfl rfl (by kernel_rfl) (fun _ _ _ h => h) (Or.inl ⟨by rfl, ?_⟩) ?_ ?_
  rotate_left
  · intro w'
    go_simp
    with_reducible rfl
  rotate_left
  · simp only [Act.put, List.setIfInBounds_toArray, List.set_cons_zero, List.set_cons_succ, i64_w, i32_w]
    rfl
  refine pure_ (i := 1) (N := some 35) (v := ?_) (a' := ?_) #[true, true, false, false, false, false, false, false, false, false, false, false, false] rfl rfl (by kernel_rfl) (fun _ _ _ h => h) (Or.inl ⟨by rfl, ?_⟩) ?_ ?_
  rotate_left
  · intro w'
    go_simp
    with_reducible rfl
  rotate_left
  · simp only [Act.put, List.setIfInBounds_toArray, List.set_cons_zero, List.set_cons_succ, i64_w, i32_w]
    rfl
  refine pure_ (i := 2) (N := some 36) (v := ?_) (a' := ?_) #[true, true, true, false, false, false, false, false, false, false, false, false, false] rfl rfl (by kernel_rfl) (fun _ _ _ h => h) (Or.inl ⟨by rfl, ?_⟩) ?_ ?_
  rotate_left
  · intro w'
    go_simp
    with_reducible rfl
  rotate_left
  · simp only [Act.put, List.setIfInBounds_toArray, List.set_cons_zero, List.set_cons_succ, i64_w, i32_w]
    rfl
  refine pure_ (i := 5) (N := some 39) (v := ?_) (a' := ?_) #[true, true, true, false, false, true, false, false, false, false, false, false, false] rfl rfl (by kernel_rfl) (fun _ _ _ h => h) (Or.inl ⟨by rfl, ?_⟩) ?_ ?_
  rotate_left
  · intro w'
    go_simp
    with_reducible rfl
  rotate_left
  · simp only [Act.put, List.setIfInBounds_toArray, List.set_cons_zero, List.set_cons_succ, i64_w, i32_w]
    rfl
  refine pure_ (i := 6) (N := some 40) (v := ?_) (a' := ?_) #[true, true, true, false, false, true, true, false, false, false, false, false, false] rfl rfl (by kernel_rfl) (fun _ _ _ h => h) (Or.inl ⟨by rfl, ?_⟩) ?_ ?_
  rotate_left
  · intro w'
    go_simp
    with_reducible rfl
  rotate_left
  · simp only [Act.put, List.setIfInBounds_toArray, List.set_cons_zero, List.set_cons_succ, i64_w, i32_w]
    rfl
  refine pure_ (i := 7) (N := some 41) (v := ?_) (a' := ?_) #[true, true, true, false, false, true, true, true, false, false, false, false, false] rfl rfl (by kernel_rfl) (fun _ _ _ h => h) (Or.inl ⟨by rfl, ?_⟩) ?_ ?_
  rotate_left
  · intro w'
    go_simp
    with_reducible rfl
  rotate_left
  · simp only [Act.put, List.setIfInBounds_toArray, List.set_cons_zero, List.set_cons_succ, i64_w, i32_w]
    rfl
  refine join_ (σ := Value × Value × Nat) 1 #[true, true, true, true, true, true, true, true, true, true, true, true, false] (fun s => [(37, s.1), (38, .string (strOfNums (cut l a8 k))), (42, s.2.1), (43, .string (strOfNums (cut l (a8 + k) v))), (44, .agg #[.string (strOfNums (cut l a8 k)), .string (strOfNums (cut l (a8 + k) v))]), (5, .pointer (some ⟨s.2.2, 0, none⟩))]) (fun s w' => Sep.Sep w0 w' (blk s.2.2 #[.string ⟨#[]⟩, .string ⟨#[]⟩] 62 :: cur g l (a8 + k + v) true :: blk w.heap.size #[.string ⟨#[]⟩, .string ⟨#[]⟩] 62 :: ps)) ?_ ?_
  rotate_left
  · intro hCont
    refine two_ (i := 3) (j := 11) (Ni := some 37) (Nj := some 5) #[true, true, true, true, false, true, true, true, false, false, false, false, false] #[true, true, true, false, false, true, true, true, false, false, false, true, false] rfl rfl rfl rfl (by kernel_rfl) (by decide) (by decide) (fun K hK => ?_) (fun K hK => ?_)
    · skip
      refine goes_ Try.func19 (by kernel_rfl) rfl #[.pointer (some ⟨g, 0, none⟩), .int .i64 (k : Int)] (by rfl) rfl rfl (by (try simp only [List.map_toArray, List.map_cons, List.map_nil]); first | done | rfl) ?_
      refine (cur_Take_any w0 _ g a8 l _ k _ rfl hS.out hl htk.out).mono ?_
      rintro e wq ⟨v37, rfl, h1⟩ 
      refine ⟨_, rfl, ?_⟩
      have hS := Aside0.mk h1.put1
      clear h1
      refine hK.out _ _ trivial (fun hHeld => ?_)
      clear hK K
      refine norm_ (a' := ?_) ?_ ?_
      rotate_left
      · show Act.put _ (some 37) _ = _
        simp only [Act.put, List.setIfInBounds_toArray, List.set_cons_zero, List.set_cons_succ, i64_w, i32_w]
        rfl
      refine three_ (i := 4) (j := 8) (k := 11) (Ni := some 38) (Nj := some 42) (Nk := some 5) #[true, true, true, true, true, true, true, true, false, false, false, false, false] #[true, true, true, true, false, true, true, true, true, false, false, false, false] #[true, true, true, true, false, true, true, true, false, false, false, true, false] rfl rfl rfl rfl rfl rfl (by kernel_rfl) (by decide) (by decide) (by decide) (fun K hK => ?_) (fun K hK => ?_) (fun K hK => ?_)
      · skip
        obtain ⟨bs_, hR_⟩ := (hS.out.pick1).row_R
        have hcv : (Go.convert 22 9 v37).run Try.prog wq = .ok (.string (strOfNums (cut l a8 k))) wq := own_string (P := Try.prog) Try.underlying22 Try.underlying5 Try.underlying9 (Kd.own_of_R hR_)
        refine value_ (w1 := ?_) (v := ?_) (by rfl) rfl ?_ ?_
        rotate_left 2
        · go_simp
          constructor
          · rfl
          · rfl
        clear hcv hR_
        refine hK.out _ _ trivial (fun hHeld => ?_)
        clear hK K
        refine norm_ (a' := ?_) ?_ ?_
        rotate_left
        · show Act.put _ (some 38) _ = _
          simp only [Act.put, List.setIfInBounds_toArray, List.set_cons_zero, List.set_cons_succ, i64_w, i32_w]
          rfl
        refine two_ (i := 8) (j := 11) (Ni := some 42) (Nj := some 5) #[true, true, true, true, true, true, true, true, true, false, false, false, false] #[true, true, true, true, true, true, true, true, false, false, false, true, false] rfl rfl rfl rfl (by kernel_rfl) (by decide) (by decide) (fun K hK => ?_) (fun K hK => ?_)
        · skip
          refine goes_ Try.func19 (by kernel_rfl) rfl #[.pointer (some ⟨g, 0, none⟩), .int .i64 (v : Int)] (by rfl) rfl rfl (by (try simp only [List.map_toArray, List.map_cons, List.map_nil]); first | done | rfl) ?_
          refine (cur_Take_any w0 _ g (a8 + k) l _ v _ rfl hS.out hl htv.out).mono ?_
          rintro e wq ⟨v42, rfl, h1⟩ 
          refine ⟨_, rfl, ?_⟩
          have hS := Aside0.mk h1.put1
          clear h1
          refine hK.out _ _ trivial (fun hHeld => ?_)
          clear hK K
          refine norm_ (a' := ?_) ?_ ?_
          rotate_left
          · show Act.put _ (some 42) _ = _
            simp only [Act.put, List.setIfInBounds_toArray, List.set_cons_zero, List.set_cons_succ, i64_w, i32_w]
            rfl
          refine two_ (i := 9) (j := 11) (Ni := some 43) (Nj := some 5) #[true, true, true, true, true, true, true, true, true, true, false, false, false] #[true, true, true, true, true, true, true, true, true, false, false, true, false] rfl rfl rfl rfl (by kernel_rfl) (by decide) (by decide) (fun K hK => ?_) (fun K hK => ?_)
          · skip
            obtain ⟨bs_, hR_⟩ := (hS.out.pick1).row_R
            have hcv : (Go.convert 22 9 v42).run Try.prog wq = .ok (.string (strOfNums (cut l (a8 + k) v))) wq := own_string (P := Try.prog) Try.underlying22 Try.underlying5 Try.underlying9 (Kd.own_of_R hR_)
            refine value_ (w1 := ?_) (v := ?_) (by rfl) rfl ?_ ?_
            rotate_left 2
            · go_simp
              constructor
              · rfl
              · rfl
            clear hcv hR_
            refine hK.out _ _ trivial (fun hHeld => ?_)
            clear hK K
            refine norm_ (a' := ?_) ?_ ?_
            rotate_left
            · show Act.put _ (some 43) _ = _
              simp only [Act.put, List.setIfInBounds_toArray, List.set_cons_zero, List.set_cons_succ, i64_w, i32_w]
              rfl
            refine pure_ (i := 10) (N := some 44) (v := ?_) (a' := ?_) #[true, true, true, true, true, true, true, true, true, true, true, false, false] rfl rfl (by kernel_rfl) (fun _ _ _ h => h) (Or.inl ⟨by rfl, ?_⟩) ?_ ?_
            rotate_left
            · intro w'
              go_simp
              with_reducible rfl
            rotate_left
            · simp only [Act.put, List.setIfInBounds_toArray, List.set_cons_zero, List.set_cons_succ, i64_w, i32_w]
              rfl
            refine one_ (i := 11) (N := some 5) #[true, true, true, true, true, true, true, true, true, true, true, true, false] rfl rfl (by kernel_rfl) (by decide) (fun K hK => ?_)
            refine value_ (w1 := ?_) (v := ?_) (by rfl) rfl ?_ ?_
            rotate_left 2
            · go_simp
              constructor
              · rfl
              · rfl
            have hS := Aside0.mk (hS.out.alloc #[.string ⟨#[]⟩, .string ⟨#[]⟩] 62).put1 
            obtain ⟨g5, hg5⟩ : ∃ g5, wq.heap.size = g5 := ⟨_, rfl⟩
            rw [hg5] at hS ⊢
            generalize (wq.alloc (.cells #[.string ⟨#[]⟩, .string ⟨#[]⟩] 62 (0, 0))) = wq at hS ⊢
            clear hg5
            refine hK.out _ _ trivial (fun hHeld => ?_)
            clear hK K
            refine norm_ (a' := ?_) ?_ ?_
            rotate_left
            · show Act.put _ (some 5) _ = _
              simp only [Act.put, List.setIfInBounds_toArray, List.set_cons_zero, List.set_cons_succ, i64_w, i32_w]
              rfl
            exact norm_ (by first | (simp only [putAll, Act.put, List.setIfInBounds_toArray, List.set_cons_zero, List.set_cons_succ]; done) | (simp only [putAll, Act.put, List.setIfInBounds_toArray, List.set_cons_zero, List.set_cons_succ]; rfl)) (hCont (v37, v42, g5) _ (hS.out.pick1).pick2.tail.pick2.tail)
          · skip
            refine value_ (w1 := ?_) (v := ?_) (by rfl) rfl ?_ ?_
            rotate_left 2
            · go_simp
              constructor
              · rfl
              · rfl
            have hS := Aside0.mk (hS.out.alloc #[.string ⟨#[]⟩, .string ⟨#[]⟩] 62).put1 
            obtain ⟨g5, hg5⟩ : ∃ g5, wq.heap.size = g5 := ⟨_, rfl⟩
            rw [hg5] at hS ⊢
            generalize (wq.alloc (.cells #[.string ⟨#[]⟩, .string ⟨#[]⟩] 62 (0, 0))) = wq at hS ⊢
            clear hg5
            refine hK.out _ _ trivial (fun hHeld => ?_)
            clear hK K
            refine norm_ (a' := ?_) ?_ ?_
            rotate_left
            · show Act.put _ (some 5) _ = _
              simp only [Act.put, List.setIfInBounds_toArray, List.set_cons_zero, List.set_cons_succ, i64_w, i32_w]
              rfl
            refine one_ (i := 9) (N := some 43) #[true, true, true, true, true, true, true, true, true, true, false, true, false] rfl rfl (by kernel_rfl) (by decide) (fun K hK => ?_)
            obtain ⟨bs_, hR_⟩ := (hS.out.pick2).row_R
            have hcv : (Go.convert 22 9 v42).run Try.prog wq = .ok (.string (strOfNums (cut l (a8 + k) v))) wq := own_string (P := Try.prog) Try.underlying22 Try.underlying5 Try.underlying9 (Kd.own_of_R hR_)
            refine value_ (w1 := ?_) (v := ?_) (by rfl) rfl ?_ ?_
            rotate_left 2
            · go_simp
              constructor
              · rfl
              · rfl
            clear hcv hR_
            refine hK.out _ _ trivial (fun hHeld => ?_)
            clear hK K
            refine norm_ (a' := ?_) ?_ ?_
            rotate_left
            · show Act.put _ (some 43) _ = _
              simp only [Act.put, List.setIfInBounds_toArray, List.set_cons_zero, List.set_cons_succ, i64_w, i32_w]
              rfl
            refine pure_ (i := 10) (N := some 44) (v := ?_) (a' := ?_) #[true, true, true, true, true, true, true, true, true, true, true, true, false] rfl rfl (by kernel_rfl) (fun _ _ _ h => h) (Or.inl ⟨by rfl, ?_⟩) ?_ ?_
            rotate_left
            · intro w'
              go_simp
              with_reducible rfl
            rotate_left
            · simp only [Act.put, List.setIfInBounds_toArray, List.set_cons_zero, List.set_cons_succ, i64_w, i32_w]
              rfl
            exact norm_ (by first | (simp only [putAll, Act.put, List.setIfInBounds_toArray, List.set_cons_zero, List.set_cons_succ]; done) | (simp only [putAll, Act.put, List.setIfInBounds_toArray, List.set_cons_zero, List.set_cons_succ]; rfl)) (hCont (v37, v42, g5) _ (hS.out.pick1).pick2.tail.pick2.tail)
        · skip
          refine value_ (w1 := ?_) (v := ?_) (by rfl) rfl ?_ ?_
          rotate_left 2
          · go_simp
            constructor
            · rfl
            · rfl
          have hS := Aside0.mk (hS.out.alloc #[.string ⟨#[]⟩, .string ⟨#[]⟩] 62).put1 
          obtain ⟨g5, hg5⟩ : ∃ g5, wq.heap.size = g5 := ⟨_, rfl⟩
          rw [hg5] at hS ⊢
          generalize (wq.alloc (.cells #[.string ⟨#[]⟩, .string ⟨#[]⟩] 62 (0, 0))) = wq at hS ⊢
          clear hg5
          refine hK.out _ _ trivial (fun hHeld => ?_)
          clear hK K
          refine norm_ (a' := ?_) ?_ ?_
          rotate_left
          · show Act.put _ (some 5) _ = _
            simp only [Act.put, List.setIfInBounds_toArray, List.set_cons_zero, List.set_cons_succ, i64_w, i32_w]
            rfl
          refine one_ (i := 8) (N := some 42) #[true, true, true, true, true, true, true, true, true, false, false, true, false] rfl rfl (by kernel_rfl) (by decide) (fun K hK => ?_)
          refine goes_ Try.func19 (by kernel_rfl) rfl #[.pointer (some ⟨g, 0, none⟩), .int .i64 (v : Int)] (by rfl) rfl rfl (by (try simp only [List.map_toArray, List.map_cons, List.map_nil]); first | done | rfl) ?_
          refine (cur_Take_any w0 _ g (a8 + k) l _ v _ rfl hS.out hl htv.out).mono ?_
          rintro e wq ⟨v42, rfl, h1⟩ 
          refine ⟨_, rfl, ?_⟩
          have hS := Aside0.mk h1.put1
          clear h1
          refine hK.out _ _ trivial (fun hHeld => ?_)
          clear hK K
          refine norm_ (a' := ?_) ?_ ?_
          rotate_left
          · show Act.put _ (some 42) _ = _
            simp only [Act.put, List.setIfInBounds_toArray, List.set_cons_zero, List.set_cons_succ, i64_w, i32_w]
            rfl
          refine one_ (i := 9) (N := some 43) #[true, true, true, true, true, true, true, true, true, true, false, true, false] rfl rfl (by kernel_rfl) (by decide) (fun K hK => ?_)
          obtain ⟨bs_, hR_⟩ := (hS.out.pick1).row_R
          have hcv : (Go.convert 22 9 v42).run Try.prog wq = .ok (.string (strOfNums (cut l (a8 + k) v))) wq := own_string (P := Try.prog) Try.underlying22 Try.underlying5 Try.underlying9 (Kd.own_of_R hR_)
          refine value_ (w1 := ?_) (v := ?_) (by rfl) rfl ?_ ?_
          rotate_left 2
          · go_simp
            constructor
            · rfl
            · rfl
          clear hcv hR_
          refine hK.out _ _ trivial (fun hHeld => ?_)
          clear hK K
          refine norm_ (a' := ?_) ?_ ?_
          rotate_left
          · show Act.put _ (some 43) _ = _
            simp only [Act.put, List.setIfInBounds_toArray, List.set_cons_zero, List.set_cons_succ, i64_w, i32_w]
            rfl
          refine pure_ (i := 10) (N := some 44) (v := ?_) (a' := ?_) #[true, true, true, true, true, true, true, true, true, true, true, true, false] rfl rfl (by kernel_rfl) (fun _ _ _ h => h) (Or.inl ⟨by rfl, ?_⟩) ?_ ?_
          rotate_left
          · intro w'
            go_simp
            with_reducible rfl
          rotate_left
          · simp only [Act.put, List.setIfInBounds_toArray, List.set_cons_zero, List.set_cons_succ, i64_w, i32_w]
            rfl
          exact norm_ (by first | (simp only [putAll, Act.put, List.setIfInBounds_toArray, List.set_cons_zero, List.set_cons_succ]; done) | (simp only [putAll, Act.put, List.setIfInBounds_toArray, List.set_cons_zero, List.set_cons_succ]; rfl)) (hCont (v37, v42, g5) _ (hS.out.pick2).pick2.tail.pick2.tail)
      · skip
        refine goes_ Try.func19 (by kernel_rfl) rfl #[.pointer (some ⟨g, 0, none⟩), .int .i64 (v : Int)] (by rfl) rfl rfl (by (try simp only [List.map_toArray, List.map_cons, List.map_nil]); first | done | rfl) ?_
        refine (cur_Take_any w0 _ g (a8 + k) l _ v _ rfl hS.out hl htv.out).mono ?_
        rintro e wq ⟨v42, rfl, h1⟩ 
        refine ⟨_, rfl, ?_⟩
        have hS := Aside0.mk h1.put1
        clear h1
        refine hK.out _ _ trivial (fun hHeld => ?_)
        clear hK K
        refine norm_ (a' := ?_) ?_ ?_
        rotate_left
        · show Act.put _ (some 42) _ = _
          simp only [Act.put, List.setIfInBounds_toArray, List.set_cons_zero, List.set_cons_succ, i64_w, i32_w]
          rfl
        refine three_ (i := 4) (j := 9) (k := 11) (Ni := some 38) (Nj := some 43) (Nk := some 5) #[true, true, true, true, true, true, true, true, true, false, false, false, false] #[true, true, true, true, false, true, true, true, true, true, false, false, false] #[true, true, true, true, false, true, true, true, true, false, false, true, false] rfl rfl rfl rfl rfl rfl (by kernel_rfl) (by decide) (by decide) (by decide) (fun K hK => ?_) (fun K hK => ?_) (fun K hK => ?_)
        · skip
          obtain ⟨bs_, hR_⟩ := (hS.out.pick2).row_R
          have hcv : (Go.convert 22 9 v37).run Try.prog wq = .ok (.string (strOfNums (cut l a8 k))) wq := own_string (P := Try.prog) Try.underlying22 Try.underlying5 Try.underlying9 (Kd.own_of_R hR_)
          refine value_ (w1 := ?_) (v := ?_) (by rfl) rfl ?_ ?_
          rotate_left 2
          · go_simp
            constructor
            · rfl
            · rfl
          clear hcv hR_
          refine hK.out _ _ trivial (fun hHeld => ?_)
          clear hK K
          refine norm_ (a' := ?_) ?_ ?_
          rotate_left
          · show Act.put _ (some 38) _ = _
            simp only [Act.put, List.setIfInBounds_toArray, List.set_cons_zero, List.set_cons_succ, i64_w, i32_w]
            rfl
          refine two_ (i := 9) (j := 11) (Ni := some 43) (Nj := some 5) #[true, true, true, true, true, true, true, true, true, true, false, false, false] #[true, true, true, true, true, true, true, true, true, false, false, true, false] rfl rfl rfl rfl (by kernel_rfl) (by decide) (by decide) (fun K hK => ?_) (fun K hK => ?_)
          · skip
            obtain ⟨bs_, hR_⟩ := (hS.out.pick1).row_R
            have hcv : (Go.convert 22 9 v42).run Try.prog wq = .ok (.string (strOfNums (cut l (a8 + k) v))) wq := own_string (P := Try.prog) Try.underlying22 Try.underlying5 Try.underlying9 (Kd.own_of_R hR_)
            refine value_ (w1 := ?_) (v := ?_) (by rfl) rfl ?_ ?_
            rotate_left 2
            · go_simp
              constructor
              · rfl
              · rfl
            clear hcv hR_
            refine hK.out _ _ trivial (fun hHeld => ?_)
            clear hK K
            refine norm_ (a' := ?_) ?_ ?_
            rotate_left
            · show Act.put _ (some 43) _ = _
              simp only [Act.put, List.setIfInBounds_toArray, List.set_cons_zero, List.set_cons_succ, i64_w, i32_w]
              rfl
            refine pure_ (i := 10) (N := some 44) (v := ?_) (a' := ?_) #[true, true, true, true, true, true, true, true, true, true, true, false, false] rfl rfl (by kernel_rfl) (fun _ _ _ h => h) (Or.inl ⟨by rfl, ?_⟩) ?_ ?_
            rotate_left
            · intro w'
              go_simp
              with_reducible rfl
            rotate_left
            · simp only [Act.put, List.setIfInBounds_toArray, List.set_cons_zero, List.set_cons_succ, i64_w, i32_w]
              rfl
            refine one_ (i := 11) (N := some 5) #[true, true, true, true, true, true, true, true, true, true, true, true, false] rfl rfl (by kernel_rfl) (by decide) (fun K hK => ?_)
            refine value_ (w1 := ?_) (v := ?_) (by rfl) rfl ?_ ?_
            rotate_left 2
            · go_simp
              constructor
              · rfl
              · rfl
            have hS := Aside0.mk (hS.out.alloc #[.string ⟨#[]⟩, .string ⟨#[]⟩] 62).put1 
            obtain ⟨g5, hg5⟩ : ∃ g5, wq.heap.size = g5 := ⟨_, rfl⟩
            rw [hg5] at hS ⊢
            generalize (wq.alloc (.cells #[.string ⟨#[]⟩, .string ⟨#[]⟩] 62 (0, 0))) = wq at hS ⊢
            clear hg5
            refine hK.out _ _ trivial (fun hHeld => ?_)
            clear hK K
            refine norm_ (a' := ?_) ?_ ?_
            rotate_left
            · show Act.put _ (some 5) _ = _
              simp only [Act.put, List.setIfInBounds_toArray, List.set_cons_zero, List.set_cons_succ, i64_w, i32_w]
              rfl
            exact norm_ (by first | (simp only [putAll, Act.put, List.setIfInBounds_toArray, List.set_cons_zero, List.set_cons_succ]; done) | (simp only [putAll, Act.put, List.setIfInBounds_toArray, List.set_cons_zero, List.set_cons_succ]; rfl)) (hCont (v37, v42, g5) _ (hS.out.pick1).pick2.tail.pick2.tail)
          · skip
            refine value_ (w1 := ?_) (v := ?_) (by rfl) rfl ?_ ?_
            rotate_left 2
            · go_simp
              constructor
              · rfl
              · rfl
            have hS := Aside0.mk (hS.out.alloc #[.string ⟨#[]⟩, .string ⟨#[]⟩] 62).put1 
            obtain ⟨g5, hg5⟩ : ∃ g5, wq.heap.size = g5 := ⟨_, rfl⟩
            rw [hg5] at hS ⊢
            generalize (wq.alloc (.cells #[.string ⟨#[]⟩, .string ⟨#[]⟩] 62 (0, 0))) = wq at hS ⊢
            clear hg5
            refine hK.out _ _ trivial (fun hHeld => ?_)
            clear hK K
            refine norm_ (a' := ?_) ?_ ?_
            rotate_left
            · show Act.put _ (some 5) _ = _
              simp only [Act.put, List.setIfInBounds_toArray, List.set_cons_zero, List.set_cons_succ, i64_w, i32_w]
              rfl
            refine one_ (i := 9) (N := some 43) #[true, true, true, true, true, true, true, true, true, true, false, true, false] rfl rfl (by kernel_rfl) (by decide) (fun K hK => ?_)
            obtain ⟨bs_, hR_⟩ := (hS.out.pick2).row_R
            have hcv : (Go.convert 22 9 v42).run Try.prog wq = .ok (.string (strOfNums (cut l (a8 + k) v))) wq := own_string (P := Try.prog) Try.underlying22 Try.underlying5 Try.underlying9 (Kd.own_of_R hR_)
            refine value_ (w1 := ?_) (v := ?_) (by rfl) rfl ?_ ?_
            rotate_left 2
            · go_simp
              constructor
              · rfl
              · rfl
            clear hcv hR_
            refine hK.out _ _ trivial (fun hHeld => ?_)
            clear hK K
            refine norm_ (a' := ?_) ?_ ?_
            rotate_left
            · show Act.put _ (some 43) _ = _
              simp only [Act.put, List.setIfInBounds_toArray, List.set_cons_zero, List.set_cons_succ, i64_w, i32_w]
              rfl
            refine pure_ (i := 10) (N := some 44) (v := ?_) (a' := ?_) #[true, true, true, true, true, true, true, true, true, true, true, true, false] rfl rfl (by kernel_rfl) (fun _ _ _ h => h) (Or.inl ⟨by rfl, ?_⟩) ?_ ?_
            rotate_left
            · intro w'
              go_simp
              with_reducible rfl
            rotate_left
            · simp only [Act.put, List.setIfInBounds_toArray, List.set_cons_zero, List.set_cons_succ, i64_w, i32_w]
              rfl
            exact norm_ (by first | (simp only [putAll, Act.put, List.setIfInBounds_toArray, List.set_cons_zero, List.set_cons_succ]; done) | (simp only [putAll, Act.put, List.setIfInBounds_toArray, List.set_cons_zero, List.set_cons_succ]; rfl)) (hCont (v37, v42, g5) _ (hS.out.pick1).pick2.tail.pick2.tail)
        · skip
          obtain ⟨bs_, hR_⟩ := (hS.out.pick1).row_R
          have hcv : (Go.convert 22 9 v42).run Try.prog wq = .ok (.string (strOfNums (cut l (a8 + k) v))) wq := own_string (P := Try.prog) Try.underlying22 Try.underlying5 Try.underlying9 (Kd.own_of_R hR_)
          refine value_ (w1 := ?_) (v := ?_) (by rfl) rfl ?_ ?_
          rotate_left 2
          · go_simp
            constructor
            · rfl
            · rfl
          clear hcv hR_
          refine hK.out _ _ trivial (fun hHeld => ?_)
          clear hK K
          refine norm_ (a' := ?_) ?_ ?_
          rotate_left
          · show Act.put _ (some 43) _ = _
            simp only [Act.put, List.setIfInBounds_toArray, List.set_cons_zero, List.set_cons_succ, i64_w, i32_w]
            rfl
          refine two_ (i := 4) (j := 11) (Ni := some 38) (Nj := some 5) #[true, true, true, true, true, true, true, true, true, true, false, false, false] #[true, true, true, true, false, true, true, true, true, true, false, true, false] rfl rfl rfl rfl (by kernel_rfl) (by decide) (by decide) (fun K hK => ?_) (fun K hK => ?_)
          · skip
            obtain ⟨bs_, hR_⟩ := (hS.out.pick2).row_R
            have hcv : (Go.convert 22 9 v37).run Try.prog wq = .ok (.string (strOfNums (cut l a8 k))) wq := own_string (P := Try.prog) Try.underlying22 Try.underlying5 Try.underlying9 (Kd.own_of_R hR_)
            refine value_ (w1 := ?_) (v := ?_) (by rfl) rfl ?_ ?_
            rotate_left 2
            · go_simp
              constructor
              · rfl
              · rfl
            clear hcv hR_
            refine hK.out _ _ trivial (fun hHeld => ?_)
            clear hK K
            refine norm_ (a' := ?_) ?_ ?_
            rotate_left
            · show Act.put _ (some 38) _ = _
              simp only [Act.put, List.setIfInBounds_toArray, List.set_cons_zero, List.set_cons_succ, i64_w, i32_w]
              rfl
            refine pure_ (i := 10) (N := some 44) (v := ?_) (a' := ?_) #[true, true, true, true, true, true, true, true, true, true, true, false, false] rfl rfl (by kernel_rfl) (fun _ _ _ h => h) (Or.inl ⟨by rfl, ?_⟩) ?_ ?_
            rotate_left
            · intro w'
              go_simp
              with_reducible rfl
            rotate_left
            · simp only [Act.put, List.setIfInBounds_toArray, List.set_cons_zero, List.set_cons_succ, i64_w, i32_w]
              rfl
            refine one_ (i := 11) (N := some 5) #[true, true, true, true, true, true, true, true, true, true, true, true, false] rfl rfl (by kernel_rfl) (by decide) (fun K hK => ?_)
            refine value_ (w1 := ?_) (v := ?_) (by rfl) rfl ?_ ?_
            rotate_left 2
            · go_simp
              constructor
              · rfl
              · rfl
            have hS := Aside0.mk (hS.out.alloc #[.string ⟨#[]⟩, .string ⟨#[]⟩] 62).put1 
            obtain ⟨g5, hg5⟩ : ∃ g5, wq.heap.size = g5 := ⟨_, rfl⟩
            rw [hg5] at hS ⊢
            generalize (wq.alloc (.cells #[.string ⟨#[]⟩, .string ⟨#[]⟩] 62 (0, 0))) = wq at hS ⊢
            clear hg5
            refine hK.out _ _ trivial (fun hHeld => ?_)
            clear hK K
            refine norm_ (a' := ?_) ?_ ?_
            rotate_left
            · show Act.put _ (some 5) _ = _
              simp only [Act.put, List.setIfInBounds_toArray, List.set_cons_zero, List.set_cons_succ, i64_w, i32_w]
              rfl
            exact norm_ (by first | (simp only [putAll, Act.put, List.setIfInBounds_toArray, List.set_cons_zero, List.set_cons_succ]; done) | (simp only [putAll, Act.put, List.setIfInBounds_toArray, List.set_cons_zero, List.set_cons_succ]; rfl)) (hCont (v37, v42, g5) _ (hS.out.pick1).pick2.tail.pick2.tail)
          · skip
            refine value_ (w1 := ?_) (v := ?_) (by rfl) rfl ?_ ?_
            rotate_left 2
            · go_simp
              constructor
              · rfl
              · rfl
            have hS := Aside0.mk (hS.out.alloc #[.string ⟨#[]⟩, .string ⟨#[]⟩] 62).put1 
            obtain ⟨g5, hg5⟩ : ∃ g5, wq.heap.size = g5 := ⟨_, rfl⟩
            rw [hg5] at hS ⊢
            generalize (wq.alloc (.cells #[.string ⟨#[]⟩, .string ⟨#[]⟩] 62 (0, 0))) = wq at hS ⊢
            clear hg5
            refine hK.out _ _ trivial (fun hHeld => ?_)
            clear hK K
            refine norm_ (a' := ?_) ?_ ?_
            rotate_left
            · show Act.put _ (some 5) _ = _
              simp only [Act.put, List.setIfInBounds_toArray, List.set_cons_zero, List.set_cons_succ, i64_w, i32_w]
              rfl
            refine one_ (i := 4) (N := some 38) #[true, true, true, true, true, true, true, true, true, true, false, true, false] rfl rfl (by kernel_rfl) (by decide) (fun K hK => ?_)
            obtain ⟨bs_, hR_⟩ := (hS.out.pick3).row_R
            have hcv : (Go.convert 22 9 v37).run Try.prog wq = .ok (.string (strOfNums (cut l a8 k))) wq := own_string (P := Try.prog) Try.underlying22 Try.underlying5 Try.underlying9 (Kd.own_of_R hR_)
            refine value_ (w1 := ?_) (v := ?_) (by rfl) rfl ?_ ?_
            rotate_left 2
            · go_simp
              constructor
              · rfl
              · rfl
            clear hcv hR_
            refine hK.out _ _ trivial (fun hHeld => ?_)
            clear hK K
            refine norm_ (a' := ?_) ?_ ?_
            rotate_left
            · show Act.put _ (some 38) _ = _
              simp only [Act.put, List.setIfInBounds_toArray, List.set_cons_zero, List.set_cons_succ, i64_w, i32_w]
              rfl
            refine pure_ (i := 10) (N := some 44) (v := ?_) (a' := ?_) #[true, true, true, true, true, true, true, true, true, true, true, true, false] rfl rfl (by kernel_rfl) (fun _ _ _ h => h) (Or.inl ⟨by rfl, ?_⟩) ?_ ?_
            rotate_left
            · intro w'
              go_simp
              with_reducible rfl
            rotate_left
            · simp only [Act.put, List.setIfInBounds_toArray, List.set_cons_zero, List.set_cons_succ, i64_w, i32_w]
              rfl
            exact norm_ (by first | (simp only [putAll, Act.put, List.setIfInBounds_toArray, List.set_cons_zero, List.set_cons_succ]; done) | (simp only [putAll, Act.put, List.setIfInBounds_toArray, List.set_cons_zero, List.set_cons_succ]; rfl)) (hCont (v37, v42, g5) _ (hS.out.pick1).pick2.tail.pick2.tail)
        · skip
          refine value_ (w1 := ?_) (v := ?_) (by rfl) rfl ?_ ?_
          rotate_left 2
          · go_simp
            constructor
            · rfl
            · rfl
          have hS := Aside0.mk (hS.out.alloc #[.string ⟨#[]⟩, .string ⟨#[]⟩] 62).put1 
          obtain ⟨g5, hg5⟩ : ∃ g5, wq.heap.size = g5 := ⟨_, rfl⟩
          rw [hg5] at hS ⊢
          generalize (wq.alloc (.cells #[.string ⟨#[]⟩, .string ⟨#[]⟩] 62 (0, 0))) = wq at hS ⊢
          clear hg5
          refine hK.out _ _ trivial (fun hHeld => ?_)
          clear hK K
          refine norm_ (a' := ?_) ?_ ?_
          rotate_left
          · show Act.put _ (some 5) _ = _
            simp only [Act.put, List.setIfInBounds_toArray, List.set_cons_zero, List.set_cons_succ, i64_w, i32_w]
            rfl
          refine two_ (i := 4) (j := 9) (Ni := some 38) (Nj := some 43) #[true, true, true, true, true, true, true, true, true, false, false, true, false] #[true, true, true, true, false, true, true, true, true, true, false, true, false] rfl rfl rfl rfl (by kernel_rfl) (by decide) (by decide) (fun K hK => ?_) (fun K hK => ?_)
          · skip
            obtain ⟨bs_, hR_⟩ := (hS.out.pick3).row_R
            have hcv : (Go.convert 22 9 v37).run Try.prog wq = .ok (.string (strOfNums (cut l a8 k))) wq := own_string (P := Try.prog) Try.underlying22 Try.underlying5 Try.underlying9 (Kd.own_of_R hR_)
            refine value_ (w1 := ?_) (v := ?_) (by rfl) rfl ?_ ?_
            rotate_left 2
            · go_simp
              constructor
              · rfl
              · rfl
            clear hcv hR_
            refine hK.out _ _ trivial (fun hHeld => ?_)
            clear hK K
            refine norm_ (a' := ?_) ?_ ?_
            rotate_left
            · show Act.put _ (some 38) _ = _
              simp only [Act.put, List.setIfInBounds_toArray, List.set_cons_zero, List.set_cons_succ, i64_w, i32_w]
              rfl
            refine one_ (i := 9) (N := some 43) #[true, true, true, true, true, true, true, true, true, true, false, true, false] rfl rfl (by kernel_rfl) (by decide) (fun K hK => ?_)
            obtain ⟨bs_, hR_⟩ := (hS.out.pick2).row_R
            have hcv : (Go.convert 22 9 v42).run Try.prog wq = .ok (.string (strOfNums (cut l (a8 + k) v))) wq := own_string (P := Try.prog) Try.underlying22 Try.underlying5 Try.underlying9 (Kd.own_of_R hR_)
            refine value_ (w1 := ?_) (v := ?_) (by rfl) rfl ?_ ?_
            rotate_left 2
            · go_simp
              constructor
              · rfl
              · rfl
            clear hcv hR_
            refine hK.out _ _ trivial (fun hHeld => ?_)
            clear hK K
            refine norm_ (a' := ?_) ?_ ?_
            rotate_left
            · show Act.put _ (some 43) _ = _
              simp only [Act.put, List.setIfInBounds_toArray, List.set_cons_zero, List.set_cons_succ, i64_w, i32_w]
              rfl
            refine pure_ (i := 10) (N := some 44) (v := ?_) (a' := ?_) #[true, true, true, true, true, true, true, true, true, true, true, true, false] rfl rfl (by kernel_rfl) (fun _ _ _ h => h) (Or.inl ⟨by rfl, ?_⟩) ?_ ?_
            rotate_left
            · intro w'
              go_simp
              with_reducible rfl
            rotate_left
            · simp only [Act.put, List.setIfInBounds_toArray, List.set_cons_zero, List.set_cons_succ, i64_w, i32_w]
              rfl
            exact norm_ (by first | (simp only [putAll, Act.put, List.setIfInBounds_toArray, List.set_cons_zero, List.set_cons_succ]; done) | (simp only [putAll, Act.put, List.setIfInBounds_toArray, List.set_cons_zero, List.set_cons_succ]; rfl)) (hCont (v37, v42, g5) _ (hS.out.pick1).pick2.tail.pick2.tail)
          · skip
            obtain ⟨bs_, hR_⟩ := (hS.out.pick2).row_R
            have hcv : (Go.convert 22 9 v42).run Try.prog wq = .ok (.string (strOfNums (cut l (a8 + k) v))) wq := own_string (P := Try.prog) Try.underlying22 Try.underlying5 Try.underlying9 (Kd.own_of_R hR_)
            refine value_ (w1 := ?_) (v := ?_) (by rfl) rfl ?_ ?_
            rotate_left 2
            · go_simp
              constructor
              · rfl
              · rfl
            clear hcv hR_
            refine hK.out _ _ trivial (fun hHeld => ?_)
            clear hK K
            refine norm_ (a' := ?_) ?_ ?_
            rotate_left
            · show Act.put _ (some 43) _ = _
              simp only [Act.put, List.setIfInBounds_toArray, List.set_cons_zero, List.set_cons_succ, i64_w, i32_w]
              rfl
            refine one_ (i := 4) (N := some 38) #[true, true, true, true, true, true, true, true, true, true, false, true, false] rfl rfl (by kernel_rfl) (by decide) (fun K hK => ?_)
            obtain ⟨bs_, hR_⟩ := (hS.out.pick3).row_R
            have hcv : (Go.convert 22 9 v37).run Try.prog wq = .ok (.string (strOfNums (cut l a8 k))) wq := own_string (P := Try.prog) Try.underlying22 Try.underlying5 Try.underlying9 (Kd.own_of_R hR_)
            refine value_ (w1 := ?_) (v := ?_) (by rfl) rfl ?_ ?_
            rotate_left 2
            · go_simp
              constructor
              · rfl
              · rfl
            clear hcv hR_
            refine hK.out _ _ trivial (fun hHeld => ?_)
            clear hK K
            refine norm_ (a' := ?_) ?_ ?_
            rotate_left
            · show Act.put _ (some 38) _ = _
              simp only [Act.put, List.setIfInBounds_toArray, List.set_cons_zero, List.set_cons_succ, i64_w, i32_w]
              rfl
            refine pure_ (i := 10) (N := some 44) (v := ?_) (a' := ?_) #[true, true, true, true, true, true, true, true, true, true, true, true, false] rfl rfl (by kernel_rfl) (fun _ _ _ h => h) (Or.inl ⟨by rfl, ?_⟩) ?_ ?_
            rotate_left
            · intro w'
              go_simp
              with_reducible rfl
            rotate_left
            · simp only [Act.put, List.setIfInBounds_toArray, List.set_cons_zero, List.set_cons_succ, i64_w, i32_w]
              rfl
            exact norm_ (by first | (simp only [putAll, Act.put, List.setIfInBounds_toArray, List.set_cons_zero, List.set_cons_succ]; done) | (simp only [putAll, Act.put, List.setIfInBounds_toArray, List.set_cons_zero, List.set_cons_succ]; rfl)) (hCont (v37, v42, g5) _ (hS.out.pick1).pick2.tail.pick2.tail)
      · skip
        refine value_ (w1 := ?_) (v := ?_) (by rfl) rfl ?_ ?_
        rotate_left 2
        · go_simp
          constructor
          · rfl
          · rfl
        have hS := Aside0.mk (hS.out.alloc #[.string ⟨#[]⟩, .string ⟨#[]⟩] 62).put1 
        obtain ⟨g5, hg5⟩ : ∃ g5, wq.heap.size = g5 := ⟨_, rfl⟩
        rw [hg5] at hS ⊢
        generalize (wq.alloc (.cells #[.string ⟨#[]⟩, .string ⟨#[]⟩] 62 (0, 0))) = wq at hS ⊢
        clear hg5
        refine hK.out _ _ trivial (fun hHeld => ?_)
        clear hK K
        refine norm_ (a' := ?_) ?_ ?_
        rotate_left
        · show Act.put _ (some 5) _ = _
          simp only [Act.put, List.setIfInBounds_toArray, List.set_cons_zero, List.set_cons_succ, i64_w, i32_w]
          rfl
        refine two_ (i := 4) (j := 8) (Ni := some 38) (Nj := some 42) #[true, true, true, true, true, true, true, true, false, false, false, true, false] #[true, true, true, true, false, true, true, true, true, false, false, true, false] rfl rfl rfl rfl (by kernel_rfl) (by decide) (by decide) (fun K hK => ?_) (fun K hK => ?_)
        · skip
          obtain ⟨bs_, hR_⟩ := (hS.out.pick2).row_R
          have hcv : (Go.convert 22 9 v37).run Try.prog wq = .ok (.string (strOfNums (cut l a8 k))) wq := own_string (P := Try.prog) Try.underlying22 Try.underlying5 Try.underlying9 (Kd.own_of_R hR_)
          refine value_ (w1 := ?_) (v := ?_) (by rfl) rfl ?_ ?_
          rotate_left 2
          · go_simp
            constructor
            · rfl
            · rfl
          clear hcv hR_
          refine hK.out _ _ trivial (fun hHeld => ?_)
          clear hK K
          refine norm_ (a' := ?_) ?_ ?_
          rotate_left
          · show Act.put _ (some 38) _ = _
            simp only [Act.put, List.setIfInBounds_toArray, List.set_cons_zero, List.set_cons_succ, i64_w, i32_w]
            rfl
          refine one_ (i := 8) (N := some 42) #[true, true, true, true, true, true, true, true, true, false, false, true, false] rfl rfl (by kernel_rfl) (by decide) (fun K hK => ?_)
          refine goes_ Try.func19 (by kernel_rfl) rfl #[.pointer (some ⟨g, 0, none⟩), .int .i64 (v : Int)] (by rfl) rfl rfl (by (try simp only [List.map_toArray, List.map_cons, List.map_nil]); first | done | rfl) ?_
          refine (cur_Take_any w0 _ g (a8 + k) l _ v _ rfl hS.out hl htv.out).mono ?_
          rintro e wq ⟨v42, rfl, h1⟩ 
          refine ⟨_, rfl, ?_⟩
          have hS := Aside0.mk h1.put1
          clear h1
          refine hK.out _ _ trivial (fun hHeld => ?_)
          clear hK K
          refine norm_ (a' := ?_) ?_ ?_
          rotate_left
          · show Act.put _ (some 42) _ = _
            simp only [Act.put, List.setIfInBounds_toArray, List.set_cons_zero, List.set_cons_succ, i64_w, i32_w]
            rfl
          refine one_ (i := 9) (N := some 43) #[true, true, true, true, true, true, true, true, true, true, false, true, false] rfl rfl (by kernel_rfl) (by decide) (fun K hK => ?_)
          obtain ⟨bs_, hR_⟩ := (hS.out.pick1).row_R
          have hcv : (Go.convert 22 9 v42).run Try.prog wq = .ok (.string (strOfNums (cut l (a8 + k) v))) wq := own_string (P := Try.prog) Try.underlying22 Try.underlying5 Try.underlying9 (Kd.own_of_R hR_)
          refine value_ (w1 := ?_) (v := ?_) (by rfl) rfl ?_ ?_
          rotate_left 2
          · go_simp
            constructor
            · rfl
            · rfl
          clear hcv hR_
          refine hK.out _ _ trivial (fun hHeld => ?_)
          clear hK K
          refine norm_ (a' := ?_) ?_ ?_
          rotate_left
          · show Act.put _ (some 43) _ = _
            simp only [Act.put, List.setIfInBounds_toArray, List.set_cons_zero, List.set_cons_succ, i64_w, i32_w]
            rfl
          refine pure_ (i := 10) (N := some 44) (v := ?_) (a' := ?_) #[true, true, true, true, true, true, true, true, true, true, true, true, false] rfl rfl (by kernel_rfl) (fun _ _ _ h => h) (Or.inl ⟨by rfl, ?_⟩) ?_ ?_
          rotate_left
          · intro w'
            go_simp
            with_reducible rfl
          rotate_left
          · simp only [Act.put, List.setIfInBounds_toArray, List.set_cons_zero, List.set_cons_succ, i64_w, i32_w]
            rfl
          exact norm_ (by first | (simp only [putAll, Act.put, List.setIfInBounds_toArray, List.set_cons_zero, List.set_cons_succ]; done) | (simp only [putAll, Act.put, List.setIfInBounds_toArray, List.set_cons_zero, List.set_cons_succ]; rfl)) (hCont (v37, v42, g5) _ (hS.out.pick2).pick2.tail.pick2.tail)
        · skip
          refine goes_ Try.func19 (by kernel_rfl) rfl #[.pointer (some ⟨g, 0, none⟩), .int .i64 (v : Int)] (by rfl) rfl rfl (by (try simp only [List.map_toArray, List.map_cons, List.map_nil]); first | done | rfl) ?_
          refine (cur_Take_any w0 _ g (a8 + k) l _ v _ rfl hS.out hl htv.out).mono ?_
          rintro e wq ⟨v42, rfl, h1⟩ 
          refine ⟨_, rfl, ?_⟩
          have hS := Aside0.mk h1.put1
          clear h1
          refine hK.out _ _ trivial (fun hHeld => ?_)
          clear hK K
          refine norm_ (a' := ?_) ?_ ?_
          rotate_left
          · show Act.put _ (some 42) _ = _
            simp only [Act.put, List.setIfInBounds_toArray, List.set_cons_zero, List.set_cons_succ, i64_w, i32_w]
            rfl
          refine two_ (i := 4) (j := 9) (Ni := some 38) (Nj := some 43) #[true, true, true, true, true, true, true, true, true, false, false, true, false] #[true, true, true, true, false, true, true, true, true, true, false, true, false] rfl rfl rfl rfl (by kernel_rfl) (by decide) (by decide) (fun K hK => ?_) (fun K hK => ?_)
          · skip
            obtain ⟨bs_, hR_⟩ := (hS.out.pick3).row_R
            have hcv : (Go.convert 22 9 v37).run Try.prog wq = .ok (.string (strOfNums (cut l a8 k))) wq := own_string (P := Try.prog) Try.underlying22 Try.underlying5 Try.underlying9 (Kd.own_of_R hR_)
            refine value_ (w1 := ?_) (v := ?_) (by rfl) rfl ?_ ?_
            rotate_left 2
            · go_simp
              constructor
              · rfl
              · rfl
            clear hcv hR_
            refine hK.out _ _ trivial (fun hHeld => ?_)
            clear hK K
            refine norm_ (a' := ?_) ?_ ?_
            rotate_left
            · show Act.put _ (some 38) _ = _
              simp only [Act.put, List.setIfInBounds_toArray, List.set_cons_zero, List.set_cons_succ, i64_w, i32_w]
              rfl
            refine one_ (i := 9) (N := some 43) #[true, true, true, true, true, true, true, true, true, true, false, true, false] rfl rfl (by kernel_rfl) (by decide) (fun K hK => ?_)
            obtain ⟨bs_, hR_⟩ := (hS.out.pick1).row_R
            have hcv : (Go.convert 22 9 v42).run Try.prog wq = .ok (.string (strOfNums (cut l (a8 + k) v))) wq := own_string (P := Try.prog) Try.underlying22 Try.underlying5 Try.underlying9 (Kd.own_of_R hR_)
            refine value_ (w1 := ?_) (v := ?_) (by rfl) rfl ?_ ?_
            rotate_left 2
            · go_simp
              constructor
              · rfl
              · rfl
            clear hcv hR_
            refine hK.out _ _ trivial (fun hHeld => ?_)
            clear hK K
            refine norm_ (a' := ?_) ?_ ?_
            rotate_left
            · show Act.put _ (some 43) _ = _
              simp only [Act.put, List.setIfInBounds_toArray, List.set_cons_zero, List.set_cons_succ, i64_w, i32_w]
              rfl
            refine pure_ (i := 10) (N := some 44) (v := ?_) (a' := ?_) #[true, true, true, true, true, true, true, true, true, true, true, true, false] rfl rfl (by kernel_rfl) (fun _ _ _ h => h) (Or.inl ⟨by rfl, ?_⟩) ?_ ?_
            rotate_left
            · intro w'
              go_simp
              with_reducible rfl
            rotate_left
            · simp only [Act.put, List.setIfInBounds_toArray, List.set_cons_zero, List.set_cons_succ, i64_w, i32_w]
              rfl
            exact norm_ (by first | (simp only [putAll, Act.put, List.setIfInBounds_toArray, List.set_cons_zero, List.set_cons_succ]; done) | (simp only [putAll, Act.put, List.setIfInBounds_toArray, List.set_cons_zero, List.set_cons_succ]; rfl)) (hCont (v37, v42, g5) _ (hS.out.pick2).pick2.tail.pick2.tail)
          · skip
            obtain ⟨bs_, hR_⟩ := (hS.out.pick1).row_R
            have hcv : (Go.convert 22 9 v42).run Try.prog wq = .ok (.string (strOfNums (cut l (a8 + k) v))) wq := own_string (P := Try.prog) Try.underlying22 Try.underlying5 Try.underlying9 (Kd.own_of_R hR_)
            refine value_ (w1 := ?_) (v := ?_) (by rfl) rfl ?_ ?_
            rotate_left 2
            · go_simp
              constructor
              · rfl
              · rfl
            clear hcv hR_
            refine hK.out _ _ trivial (fun hHeld => ?_)
            clear hK K
            refine norm_ (a' := ?_) ?_ ?_
            rotate_left
            · show Act.put _ (some 43) _ = _
              simp only [Act.put, List.setIfInBounds_toArray, List.set_cons_zero, List.set_cons_succ, i64_w, i32_w]
              rfl
            refine one_ (i := 4) (N := some 38) #[true, true, true, true, true, true, true, true, true, true, false, true, false] rfl rfl (by kernel_rfl) (by decide) (fun K hK => ?_)
            obtain ⟨bs_, hR_⟩ := (hS.out.pick3).row_R
            have hcv : (Go.convert 22 9 v37).run Try.prog wq = .ok (.string (strOfNums (cut l a8 k))) wq := own_string (P := Try.prog) Try.underlying22 Try.underlying5 Try.underlying9 (Kd.own_of_R hR_)
            refine value_ (w1 := ?_) (v := ?_) (by rfl) rfl ?_ ?_
            rotate_left 2
            · go_simp
              constructor
              · rfl
              · rfl
            clear hcv hR_
            refine hK.out _ _ trivial (fun hHeld => ?_)
            clear hK K
            refine norm_ (a' := ?_) ?_ ?_
            rotate_left
            · show Act.put _ (some 38) _ = _
              simp only [Act.put, List.setIfInBounds_toArray, List.set_cons_zero, List.set_cons_succ, i64_w, i32_w]
              rfl
            refine pure_ (i := 10) (N := some 44) (v := ?_) (a' := ?_) #[true, true, true, true, true, true, true, true, true, true, true, true, false] rfl rfl (by kernel_rfl) (fun _ _ _ h => h) (Or.inl ⟨by rfl, ?_⟩) ?_ ?_
            rotate_left
            · intro w'
              go_simp
              with_reducible rfl
            rotate_left
            · simp only [Act.put, List.setIfInBounds_toArray, List.set_cons_zero, List.set_cons_succ, i64_w, i32_w]
              rfl
            exact norm_ (by first | (simp only [putAll, Act.put, List.setIfInBounds_toArray, List.set_cons_zero, List.set_cons_succ]; done) | (simp only [putAll, Act.put, List.setIfInBounds_toArray, List.set_cons_zero, List.set_cons_succ]; rfl)) (hCont (v37, v42, g5) _ (hS.out.pick2).pick2.tail.pick2.tail)
    · skip
      refine value_ (w1 := ?_) (v := ?_) (by rfl) rfl ?_ ?_
      rotate_left 2
      · go_simp
        constructor
        · rfl
        · rfl
      have hS := Aside0.mk (hS.out.alloc #[.string ⟨#[]⟩, .string ⟨#[]⟩] 62).put1 
      obtain ⟨g5, hg5⟩ : ∃ g5, wq.heap.size = g5 := ⟨_, rfl⟩
      rw [hg5] at hS ⊢
      generalize (wq.alloc (.cells #[.string ⟨#[]⟩, .string ⟨#[]⟩] 62 (0, 0))) = wq at hS ⊢
      clear hg5
      refine hK.out _ _ trivial (fun hHeld => ?_)
      clear hK K
      refine norm_ (a' := ?_) ?_ ?_
      rotate_left
      · show Act.put _ (some 5) _ = _
        simp only [Act.put, List.setIfInBounds_toArray, List.set_cons_zero, List.set_cons_succ, i64_w, i32_w]
        rfl
      refine one_ (i := 3) (N := some 37) #[true, true, true, true, false, true, true, true, false, false, false, true, false] rfl rfl (by kernel_rfl) (by decide) (fun K hK => ?_)
      refine goes_ Try.func19 (by kernel_rfl) rfl #[.pointer (some ⟨g, 0, none⟩), .int .i64 (k : Int)] (by rfl) rfl rfl (by (try simp only [List.map_toArray, List.map_cons, List.map_nil]); first | done | rfl) ?_
      refine (cur_Take_any w0 _ g a8 l _ k _ rfl hS.out hl htk.out).mono ?_
      rintro e wq ⟨v37, rfl, h1⟩ 
      refine ⟨_, rfl, ?_⟩
      have hS := Aside0.mk h1.put1
      clear h1
      refine hK.out _ _ trivial (fun hHeld => ?_)
      clear hK K
      refine norm_ (a' := ?_) ?_ ?_
      rotate_left
      · show Act.put _ (some 37) _ = _
        simp only [Act.put, List.setIfInBounds_toArray, List.set_cons_zero, List.set_cons_succ, i64_w, i32_w]
        rfl
      refine two_ (i := 4) (j := 8) (Ni := some 38) (Nj := some 42) #[true, true, true, true, true, true, true, true, false, false, false, true, false] #[true, true, true, true, false, true, true, true, true, false, false, true, false] rfl rfl rfl rfl (by kernel_rfl) (by decide) (by decide) (fun K hK => ?_) (fun K hK => ?_)
      · skip
        obtain ⟨bs_, hR_⟩ := (hS.out.pick1).row_R
        have hcv : (Go.convert 22 9 v37).run Try.prog wq = .ok (.string (strOfNums (cut l a8 k))) wq := own_string (P := Try.prog) Try.underlying22 Try.underlying5 Try.underlying9 (Kd.own_of_R hR_)
        refine value_ (w1 := ?_) (v := ?_) (by rfl) rfl ?_ ?_
        rotate_left 2
        · go_simp
          constructor
          · rfl
          · rfl
        clear hcv hR_
        refine hK.out _ _ trivial (fun hHeld => ?_)
        clear hK K
        refine norm_ (a' := ?_) ?_ ?_
        rotate_left
        · show Act.put _ (some 38) _ = _
          simp only [Act.put, List.setIfInBounds_toArray, List.set_cons_zero, List.set_cons_succ, i64_w, i32_w]
          rfl
        refine one_ (i := 8) (N := some 42) #[true, true, true, true, true, true, true, true, true, false, false, true, false] rfl rfl (by kernel_rfl) (by decide) (fun K hK => ?_)
        refine goes_ Try.func19 (by kernel_rfl) rfl #[.pointer (some ⟨g, 0, none⟩), .int .i64 (v : Int)] (by rfl) rfl rfl (by (try simp only [List.map_toArray, List.map_cons, List.map_nil]); first | done | rfl) ?_
        refine (cur_Take_any w0 _ g (a8 + k) l _ v _ rfl hS.out hl htv.out).mono ?_
        rintro e wq ⟨v42, rfl, h1⟩ 
        refine ⟨_, rfl, ?_⟩
        have hS := Aside0.mk h1.put1
        clear h1
        refine hK.out _ _ trivial (fun hHeld => ?_)
        clear hK K
        refine norm_ (a' := ?_) ?_ ?_
        rotate_left
        · show Act.put _ (some 42) _ = _
          simp only [Act.put, List.setIfInBounds_toArray, List.set_cons_zero, List.set_cons_succ, i64_w, i32_w]
          rfl
        refine one_ (i := 9) (N := some 43) #[true, true, true, true, true, true, true, true, true, true, false, true, false] rfl rfl (by kernel_rfl) (by decide) (fun K hK => ?_)
        obtain ⟨bs_, hR_⟩ := (hS.out.pick1).row_R
        have hcv : (Go.convert 22 9 v42).run Try.prog wq = .ok (.string (strOfNums (cut l (a8 + k) v))) wq := own_string (P := Try.prog) Try.underlying22 Try.underlying5 Try.underlying9 (Kd.own_of_R hR_)
        refine value_ (w1 := ?_) (v := ?_) (by rfl) rfl ?_ ?_
        rotate_left 2
        · go_simp
          constructor
          · rfl
          · rfl
        clear hcv hR_
        refine hK.out _ _ trivial (fun hHeld => ?_)
        clear hK K
        refine norm_ (a' := ?_) ?_ ?_
        rotate_left
        · show Act.put _ (some 43) _ = _
          simp only [Act.put, List.setIfInBounds_toArray, List.set_cons_zero, List.set_cons_succ, i64_w, i32_w]
          rfl
        refine pure_ (i := 10) (N := some 44) (v := ?_) (a' := ?_) #[true, true, true, true, true, true, true, true, true, true, true, true, false] rfl rfl (by kernel_rfl) (fun _ _ _ h => h) (Or.inl ⟨by rfl, ?_⟩) ?_ ?_
        rotate_left
        · intro w'
          go_simp
          with_reducible rfl
        rotate_left
        · simp only [Act.put, List.setIfInBounds_toArray, List.set_cons_zero, List.set_cons_succ, i64_w, i32_w]
          rfl
        exact norm_ (by first | (simp only [putAll, Act.put, List.setIfInBounds_toArray, List.set_cons_zero, List.set_cons_succ]; done) | (simp only [putAll, Act.put, List.setIfInBounds_toArray, List.set_cons_zero, List.set_cons_succ]; rfl)) (hCont (v37, v42, g5) _ (hS.out.pick3).pick2.tail.pick2.tail)
      · skip
        refine goes_ Try.func19 (by kernel_rfl) rfl #[.pointer (some ⟨g, 0, none⟩), .int .i64 (v : Int)] (by rfl) rfl rfl (by (try simp only [List.map_toArray, List.map_cons, List.map_nil]); first | done | rfl) ?_
        refine (cur_Take_any w0 _ g (a8 + k) l _ v _ rfl hS.out hl htv.out).mono ?_
        rintro e wq ⟨v42, rfl, h1⟩ 
        refine ⟨_, rfl, ?_⟩
        have hS := Aside0.mk h1.put1
        clear h1
        refine hK.out _ _ trivial (fun hHeld => ?_)
        clear hK K
        refine norm_ (a' := ?_) ?_ ?_
        rotate_left
        · show Act.put _ (some 42) _ = _
          simp only [Act.put, List.setIfInBounds_toArray, List.set_cons_zero, List.set_cons_succ, i64_w, i32_w]
          rfl
        refine two_ (i := 4) (j := 9) (Ni := some 38) (Nj := some 43) #[true, true, true, true, true, true, true, true, true, false, false, true, false] #[true, true, true, true, false, true, true, true, true, true, false, true, false] rfl rfl rfl rfl (by kernel_rfl) (by decide) (by decide) (fun K hK => ?_) (fun K hK => ?_)
        · skip
          obtain ⟨bs_, hR_⟩ := (hS.out.pick2).row_R
          have hcv : (Go.convert 22 9 v37).run Try.prog wq = .ok (.string (strOfNums (cut l a8 k))) wq := own_string (P := Try.prog) Try.underlying22 Try.underlying5 Try.underlying9 (Kd.own_of_R hR_)
          refine value_ (w1 := ?_) (v := ?_) (by rfl) rfl ?_ ?_
          rotate_left 2
          · go_simp
            constructor
            · rfl
            · rfl
          clear hcv hR_
          refine hK.out _ _ trivial (fun hHeld => ?_)
          clear hK K
          refine norm_ (a' := ?_) ?_ ?_
          rotate_left
          · show Act.put _ (some 38) _ = _
            simp only [Act.put, List.setIfInBounds_toArray, List.set_cons_zero, List.set_cons_succ, i64_w, i32_w]
            rfl
          refine one_ (i := 9) (N := some 43) #[true, true, true, true, true, true, true, true, true, true, false, true, false] rfl rfl (by kernel_rfl) (by decide) (fun K hK => ?_)
          obtain ⟨bs_, hR_⟩ := (hS.out.pick1).row_R
          have hcv : (Go.convert 22 9 v42).run Try.prog wq = .ok (.string (strOfNums (cut l (a8 + k) v))) wq := own_string (P := Try.prog) Try.underlying22 Try.underlying5 Try.underlying9 (Kd.own_of_R hR_)
          refine value_ (w1 := ?_) (v := ?_) (by rfl) rfl ?_ ?_
          rotate_left 2
          · go_simp
            constructor
            · rfl
            · rfl
          clear hcv hR_
          refine hK.out _ _ trivial (fun hHeld => ?_)
          clear hK K
          refine norm_ (a' := ?_) ?_ ?_
          rotate_left
          · show Act.put _ (some 43) _ = _
            simp only [Act.put, List.setIfInBounds_toArray, List.set_cons_zero, List.set_cons_succ, i64_w, i32_w]
            rfl
          refine pure_ (i := 10) (N := some 44) (v := ?_) (a' := ?_) #[true, true, true, true, true, true, true, true, true, true, true, true, false] rfl rfl (by kernel_rfl) (fun _ _ _ h => h) (Or.inl ⟨by rfl, ?_⟩) ?_ ?_
          rotate_left
          · intro w'
            go_simp
            with_reducible rfl
          rotate_left
          · simp only [Act.put, List.setIfInBounds_toArray, List.set_cons_zero, List.set_cons_succ, i64_w, i32_w]
            rfl
          exact norm_ (by first | (simp only [putAll, Act.put, List.setIfInBounds_toArray, List.set_cons_zero, List.set_cons_succ]; done) | (simp only [putAll, Act.put, List.setIfInBounds_toArray, List.set_cons_zero, List.set_cons_succ]; rfl)) (hCont (v37, v42, g5) _ (hS.out.pick3).pick2.tail.pick2.tail)
        · skip
          obtain ⟨bs_, hR_⟩ := (hS.out.pick1).row_R
          have hcv : (Go.convert 22 9 v42).run Try.prog wq = .ok (.string (strOfNums (cut l (a8 + k) v))) wq := own_string (P := Try.prog) Try.underlying22 Try.underlying5 Try.underlying9 (Kd.own_of_R hR_)
          refine value_ (w1 := ?_) (v := ?_) (by rfl) rfl ?_ ?_
          rotate_left 2
          · go_simp
            constructor
            · rfl
            · rfl
          clear hcv hR_
          refine hK.out _ _ trivial (fun hHeld => ?_)
          clear hK K
          refine norm_ (a' := ?_) ?_ ?_
          rotate_left
          · show Act.put _ (some 43) _ = _
            simp only [Act.put, List.setIfInBounds_toArray, List.set_cons_zero, List.set_cons_succ, i64_w, i32_w]
            rfl
          refine one_ (i := 4) (N := some 38) #[true, true, true, true, true, true, true, true, true, true, false, true, false] rfl rfl (by kernel_rfl) (by decide) (fun K hK => ?_)
          obtain ⟨bs_, hR_⟩ := (hS.out.pick2).row_R
          have hcv : (Go.convert 22 9 v37).run Try.prog wq = .ok (.string (strOfNums (cut l a8 k))) wq := own_string (P := Try.prog) Try.underlying22 Try.underlying5 Try.underlying9 (Kd.own_of_R hR_)
          refine value_ (w1 := ?_) (v := ?_) (by rfl) rfl ?_ ?_
          rotate_left 2
          · go_simp
            constructor
            · rfl
            · rfl
          clear hcv hR_
          refine hK.out _ _ trivial (fun hHeld => ?_)
          clear hK K
          refine norm_ (a' := ?_) ?_ ?_
          rotate_left
          · show Act.put _ (some 38) _ = _
            simp only [Act.put, List.setIfInBounds_toArray, List.set_cons_zero, List.set_cons_succ, i64_w, i32_w]
            rfl
          refine pure_ (i := 10) (N := some 44) (v := ?_) (a' := ?_) #[true, true, true, true, true, true, true, true, true, true, true, true, false] rfl rfl (by kernel_rfl) (fun _ _ _ h => h) (Or.inl ⟨by rfl, ?_⟩) ?_ ?_
          rotate_left
          · intro w'
            go_simp
            with_reducible rfl
          rotate_left
          · simp only [Act.put, List.setIfInBounds_toArray, List.set_cons_zero, List.set_cons_succ, i64_w, i32_w]
            rfl
          exact norm_ (by first | (simp only [putAll, Act.put, List.setIfInBounds_toArray, List.set_cons_zero, List.set_cons_succ]; done) | (simp only [putAll, Act.put, List.setIfInBounds_toArray, List.set_cons_zero, List.set_cons_succ]; rfl)) (hCont (v37, v42, g5) _ (hS.out.pick3).pick2.tail.pick2.tail)
  rintro ⟨v37, v42, g5⟩ wq hF
  have hHeld : True := trivial
  have hS := Aside0.mk hF
  clear hF
  refine norm_ (a' := ?_) ?_ ?_
  rotate_left
  · simp only [putAll, Act.put, List.setIfInBounds_toArray, List.set_cons_zero, List.set_cons_succ]
    rfl
  refine one_ (i := 12) (N := none) #[true, true, true, true, true, true, true, true, true, true, true, true, true] rfl rfl (by kernel_rfl) (by decide) (fun K hK => ?_)
  have hs0 := hS.out.set 0 (.string (strOfNums (cut l a8 k)))
  have hs1 := hs0.set 1 (.string (strOfNums (cut l (a8 + k) v)))
  have hc0 : wq.cell? ⟨g5, 0, none⟩ = some (.string ⟨#[]⟩) := (hS.out.cell 0).trans rfl
  have hc1 : wq.cell? ⟨g5, 1, none⟩ = some (.string ⟨#[]⟩) := (hS.out.cell 1).trans rfl
  have hd1 : (wq.setCell ⟨g5, 0, none⟩ (.string (strOfNums (cut l a8 k)))).cell? ⟨g5, 1, none⟩ = some (.string ⟨#[]⟩) := (hs0.cell 1).trans rfl
  have hz0 := hS.out.frozen 0
  have hz1 := hS.out.frozen 1
  have hy1 := hs0.frozen 1
  refine skip_ (w1 := ?_) (by kernel_rfl) rfl ?_ ?_
  rotate_left
  · go_simp
    rfl
  clear hc0 hc1 hd1 hz0 hz1 hy1
  refine hK.out _ _ trivial (fun hHeld => ?_)
  clear hK K
  refine done_ (by kernel_rfl) ?_
  have hS : Aside0 (Sep.Sep w0 ((wq.setCell ⟨g5, 0, none⟩ (.string (strOfNums (cut l a8 k)))).setCell ⟨g5, 1, none⟩ (.string (strOfNums (cut l (a8 + k) v)))) (blk g5 #[.string (strOfNums (cut l a8 k)), .string (strOfNums (cut l (a8 + k) v))] 62 :: cur g l (a8 + k + v) true :: blk w.heap.size #[.string ⟨#[]⟩, .string ⟨#[]⟩] 62 :: ps)) := ⟨by simpa using hs1⟩
  generalize (wq.setCell ⟨g5, 0, none⟩ (.string (strOfNums (cut l a8 k)))).setCell ⟨g5, 1, none⟩ (.string (strOfNums (cut l (a8 + k) v))) = wq at hS ⊢
  obtain ⟨KB, hK⟩ : ∃ KB, strOfNums (cut l a8 k) = KB := ⟨_, rfl⟩
  obtain ⟨VB, hV⟩ : ∃ VB, strOfNums (cut l (a8 + k) v) = VB := ⟨_, rfl⟩
  rw [hK, hV] at hS ⊢
  clear hs0 hs1
  have hKs : Aside0 (KB.size = k) := ⟨by rw [← hK, nums_size, cut_len _ _ _ htk.out]⟩
  have hVs : Aside0 (VB.size = v) := ⟨by rw [← hV, nums_size, cut_len _ _ _ htv.out]⟩
  have hKA := Aside0.mk hK
  have hVA := Aside0.mk hV
  clear hK hV
  have hcv := fun (W : World) (s : ByteArray) => run_bytes_of_string (P := Try.prog) W 9 22 5 s Try.underlying9 Try.underlying22 Try.underlying5
  go_wp2_with (fail)
  obtain ⟨gb, hgb⟩ : ∃ gb, wq.heap.size = gb := ⟨_, rfl⟩
  have hS := hS.out.buf_new
  rw [hgb] at hS ⊢
  have hS := Aside0.mk hS.put1.drew
  generalize wq.alloc (.cells #[.slice none 0 0] 48 (0, 0)) = wp at hS ⊢
  clear hgb
  refine start_ (n := 12) (S := fun w' => w'.cell? ⟨g5, 0, none⟩ = some (.string KB) ∧ w'.cell? ⟨g5, 1, none⟩ = some (.string VB)) (ds := []) #[false, false, false, false, false, false, false, false, false, false, false, false] (by kernel_rfl) rfl rfl ⟨(hS.out.cell 0).trans rfl, (hS.out.cell 1).trans rfl⟩ (fun hHeld => ?_)
  generalize wp.drew = wq at hS hHeld ⊢
  refine pure_ (i := 0) (N := some 45) (v := ?_) (a' := ?_) #[true, false, false, false, false, false, false, false, false, false, false, false] rfl rfl (by kernel_rfl) (fun _ _ _ h => h) (Or.inl ⟨by rfl, ?_⟩) ?_ ?_
  rotate_left
  · intro w'
    go_simp
    with_reducible rfl
  rotate_left
  · simp only [Act.put, List.setIfInBounds_toArray, List.set_cons_zero, List.set_cons_succ, i64_w, i32_w]
    rfl
  refine pure_ (i := 2) (N := some 47) (v := ?_) (a' := ?_) #[true, false, true, false, false, false, false, false, false, false, false, false] rfl rfl (by kernel_rfl) (fun _ _ _ h => h) (Or.inl ⟨by rfl, ?_⟩) ?_ ?_
  rotate_left
  · intro w'
    go_simp
    with_reducible rfl
  rotate_left
  · simp only [Act.put, List.setIfInBounds_toArray, List.set_cons_zero, List.set_cons_succ, i64_w, i32_w]
    rfl
  refine pure_ (i := 4) (N := some 49) (v := ?_) (a' := ?_) #[true, false, true, false, true, false, false, false, false, false, false, false] rfl rfl (by kernel_rfl) (fun _ _ _ h => h) (Or.inl ⟨by rfl, ?_⟩) ?_ ?_
  rotate_left
  · intro w'
    go_simp
    with_reducible rfl
  rotate_left
  · simp only [Act.put, List.setIfInBounds_toArray, List.set_cons_zero, List.set_cons_succ, i64_w, i32_w]
    rfl
  refine pure_ (i := 8) (N := some 53) (v := ?_) (a' := ?_) #[true, false, true, false, true, false, false, false, true, false, false, false] rfl rfl (by kernel_rfl) (fun _ _ _ h => h) (Or.inl ⟨by rfl, ?_⟩) ?_ ?_
  rotate_left
  · intro w'
    go_simp
    with_reducible rfl
  rotate_left
  · simp only [Act.put, List.setIfInBounds_toArray, List.set_cons_zero, List.set_cons_succ, i64_w, i32_w]
    rfl
  refine take_ (i := 5) (N := some 50) (v := ?_) (a' := ?_) #[true, false, true, false, true, true, false, false, true, false, false, false] rfl rfl (by kernel_rfl) (fun _ _ _ h => h) (Or.inl ⟨by rfl, ?_⟩) hHeld ?_ ?_
  rotate_left
  · rintro w' ⟨s0, s1⟩
    go_simp
    with_reducible rfl
  rotate_left
  · simp only [Act.put, List.setIfInBounds_toArray, List.set_cons_zero, List.set_cons_succ, i64_w, i32_w]
    rfl
  refine take_ (i := 9) (N := some 54) (v := ?_) (a' := ?_) #[true, false, true, false, true, true, false, false, true, true, false, false] rfl rfl (by kernel_rfl) (fun _ _ _ h => h) (Or.inl ⟨by rfl, ?_⟩) hHeld ?_ ?_
  rotate_left
  · rintro w' ⟨s0, s1⟩
    go_simp
    with_reducible rfl
  rotate_left
  · simp only [Act.put, List.setIfInBounds_toArray, List.set_cons_zero, List.set_cons_succ, i64_w, i32_w]
    rfl
  refine join_ (σ := Value × Value) 1 #[true, true, true, true, true, true, true, true, true, true, true, false] (fun s => [(46, .pointer (some ⟨gb, 0, none⟩)), (48, .pointer (some ⟨gb, 0, none⟩)), (51, s.1), (52, .pointer (some ⟨gb, 0, none⟩)), (55, s.2)]) (fun s w' => Sep.Sep w0 w' (blk g5 #[.string KB, .string VB] 62 :: buf gb ([] ++ nbytes 4 k ++ nbytes 4 v ++ sby KB) :: strp s.2 VB :: cur g l (a8 + k + v) true :: blk w.heap.size #[.string ⟨#[]⟩, .string ⟨#[]⟩] 62 :: ps)) ?_ ?_
  rotate_left
  · intro hCont
    refine three_ (i := 1) (j := 6) (k := 10) (Ni := some 46) (Nj := some 51) (Nk := some 55) #[true, true, true, false, true, true, false, false, true, true, false, false] #[true, false, true, false, true, true, true, false, true, true, false, false] #[true, false, true, false, true, true, false, false, true, true, true, false] rfl rfl rfl rfl rfl rfl (by kernel_rfl) (by decide) (by decide) (by decide) (fun K hK => ?_) (fun K hK => ?_) (fun K hK => ?_)
    · skip
      refine goes_ Try.func27 (by kernel_rfl) rfl #[.pointer (some ⟨gb, 0, none⟩), .int .u32 (k : Int)] (by rfl) rfl rfl (by (try simp only [List.map_toArray, List.map_cons, List.map_nil]); first | done | rfl) ?_
      refine (buf_Four w0 _ gb _ _ _ hS.out.pick1 (by clear hS hHeld; omega) (by clear hS hHeld; omega) (by simp)).mono ?_
      rintro e wq ⟨rfl, h1⟩
      refine ⟨_, rfl, ?_⟩
      have hS := Aside0.mk h1.put1
      clear h1
      refine hK.out _ _ ⟨(hS.out.cell 0).trans rfl, (hS.out.cell 1).trans rfl⟩ (fun hHeld => ?_)
      clear hK K
      refine norm_ (a' := ?_) ?_ ?_
      rotate_left
      · show Act.put _ (some 46) _ = _
        simp only [Act.put, List.setIfInBounds_toArray, List.set_cons_zero, List.set_cons_succ, i64_w, i32_w]
        rfl
      refine three_ (i := 3) (j := 6) (k := 10) (Ni := some 48) (Nj := some 51) (Nk := some 55) #[true, true, true, true, true, true, false, false, true, true, false, false] #[true, true, true, false, true, true, true, false, true, true, false, false] #[true, true, true, false, true, true, false, false, true, true, true, false] rfl rfl rfl rfl rfl rfl (by kernel_rfl) (by decide) (by decide) (by decide) (fun K hK => ?_) (fun K hK => ?_) (fun K hK => ?_)
      · skip
        refine goes_ Try.func27 (by kernel_rfl) rfl #[.pointer (some ⟨gb, 0, none⟩), .int .u32 (v : Int)] (by rfl) rfl rfl (by (try simp only [List.map_toArray, List.map_cons, List.map_nil]); first | done | rfl) ?_
        refine (buf_Four w0 _ gb _ _ _ hS.out.pick1 (by clear hS hHeld; omega) (by clear hS hHeld; omega) (by simp [nbytes_len])).mono ?_
        rintro e wq ⟨rfl, h1⟩
        refine ⟨_, rfl, ?_⟩
        have hS := Aside0.mk h1.put1
        clear h1
        refine hK.out _ _ ⟨(hS.out.cell 0).trans rfl, (hS.out.cell 1).trans rfl⟩ (fun hHeld => ?_)
        clear hK K
        refine norm_ (a' := ?_) ?_ ?_
        rotate_left
        · show Act.put _ (some 48) _ = _
          simp only [Act.put, List.setIfInBounds_toArray, List.set_cons_zero, List.set_cons_succ, i64_w, i32_w]
          rfl
        refine two_ (i := 6) (j := 10) (Ni := some 51) (Nj := some 55) #[true, true, true, true, true, true, true, false, true, true, false, false] #[true, true, true, true, true, true, false, false, true, true, true, false] rfl rfl rfl rfl (by kernel_rfl) (by decide) (by decide) (fun K hK => ?_) (fun K hK => ?_)
        · skip
          refine value_ (w1 := ?_) (v := ?_) (by rfl) rfl ?_ ?_
          rotate_left 2
          · go_simp
            constructor
            · rfl
            · rfl
          have hS := Aside0.mk (hS.out.str_new2 KB 5).put2
          generalize (Value.slice (some ⟨wq.heap.size, 0, none⟩) KB.size (grownCap wq KB.size 0 5)) = v51 at hS ⊢
          generalize (wq.alloc (.cells (bytesRow KB (grownCap wq KB.size 0 5)) 5 ((bytesRow KB (grownCap wq KB.size 0 5)).size, (bytesRow KB (grownCap wq KB.size 0 5)).size + 1))).drew = wq at hS ⊢
          refine hK.out _ _ ⟨(hS.out.cell 0).trans rfl, (hS.out.cell 1).trans rfl⟩ (fun hHeld => ?_)
          clear hK K
          refine norm_ (a' := ?_) ?_ ?_
          rotate_left
          · show Act.put _ (some 51) _ = _
            simp only [Act.put, List.setIfInBounds_toArray, List.set_cons_zero, List.set_cons_succ, i64_w, i32_w]
            rfl
          refine two_ (i := 7) (j := 10) (Ni := some 52) (Nj := some 55) #[true, true, true, true, true, true, true, true, true, true, false, false] #[true, true, true, true, true, true, true, false, true, true, true, false] rfl rfl rfl rfl (by kernel_rfl) (by decide) (by decide) (fun K hK => ?_) (fun K hK => ?_)
          · skip
            refine goes_ Try.func29 (by kernel_rfl) rfl #[.pointer (some ⟨gb, 0, none⟩), v51] (by rfl) rfl rfl (by (try simp only [List.map_toArray, List.map_cons, List.map_nil]); first | done | rfl) ?_
            refine (buf_RawS w0 _ gb _ _ _ KB hS.out.pick2.pick2 (by simp [nbytes_len]) (by have := hKs.out; have := hB.out.2.1; clear hS hHeld; omega)).mono ?_
            rintro e wq ⟨rfl, h1⟩
            refine ⟨_, rfl, ?_⟩
            have hS := Aside0.mk h1.put1
            clear h1
            refine hK.out _ _ ⟨(hS.out.cell 0).trans rfl, (hS.out.cell 1).trans rfl⟩ (fun hHeld => ?_)
            clear hK K
            refine norm_ (a' := ?_) ?_ ?_
            rotate_left
            · show Act.put _ (some 52) _ = _
              simp only [Act.put, List.setIfInBounds_toArray, List.set_cons_zero, List.set_cons_succ, i64_w, i32_w]
              rfl
            refine one_ (i := 10) (N := some 55) #[true, true, true, true, true, true, true, true, true, true, true, false] rfl rfl (by kernel_rfl) (by decide) (fun K hK => ?_)
            refine value_ (w1 := ?_) (v := ?_) (by rfl) rfl ?_ ?_
            rotate_left 2
            · go_simp
              constructor
              · rfl
              · rfl
            have hS := Aside0.mk (hS.out.str_new2 VB 5).put2
            generalize (Value.slice (some ⟨wq.heap.size, 0, none⟩) VB.size (grownCap wq VB.size 0 5)) = v55 at hS ⊢
            generalize (wq.alloc (.cells (bytesRow VB (grownCap wq VB.size 0 5)) 5 ((bytesRow VB (grownCap wq VB.size 0 5)).size, (bytesRow VB (grownCap wq VB.size 0 5)).size + 1))).drew = wq at hS ⊢
            refine hK.out _ _ ⟨(hS.out.cell 0).trans rfl, (hS.out.cell 1).trans rfl⟩ (fun hHeld => ?_)
            clear hK K
            refine norm_ (a' := ?_) ?_ ?_
            rotate_left
            · show Act.put _ (some 55) _ = _
              simp only [Act.put, List.setIfInBounds_toArray, List.set_cons_zero, List.set_cons_succ, i64_w, i32_w]
              rfl
            exact norm_ (by first | (simp only [putAll, Act.put, List.setIfInBounds_toArray, List.set_cons_zero, List.set_cons_succ]; done) | (simp only [putAll, Act.put, List.setIfInBounds_toArray, List.set_cons_zero, List.set_cons_succ]; rfl)) (hCont (_, _) _ hS.out)
          · skip
            refine value_ (w1 := ?_) (v := ?_) (by rfl) rfl ?_ ?_
            rotate_left 2
            · go_simp
              constructor
              · rfl
              · rfl
            have hS := Aside0.mk (hS.out.str_new2 VB 5).put2
            generalize (Value.slice (some ⟨wq.heap.size, 0, none⟩) VB.size (grownCap wq VB.size 0 5)) = v55 at hS ⊢
            generalize (wq.alloc (.cells (bytesRow VB (grownCap wq VB.size 0 5)) 5 ((bytesRow VB (grownCap wq VB.size 0 5)).size, (bytesRow VB (grownCap wq VB.size 0 5)).size + 1))).drew = wq at hS ⊢
            refine hK.out _ _ ⟨(hS.out.cell 0).trans rfl, (hS.out.cell 1).trans rfl⟩ (fun hHeld => ?_)
            clear hK K
            refine norm_ (a' := ?_) ?_ ?_
            rotate_left
            · show Act.put _ (some 55) _ = _
              simp only [Act.put, List.setIfInBounds_toArray, List.set_cons_zero, List.set_cons_succ, i64_w, i32_w]
              rfl
            refine one_ (i := 7) (N := some 52) #[true, true, true, true, true, true, true, true, true, true, true, false] rfl rfl (by kernel_rfl) (by decide) (fun K hK => ?_)
            refine goes_ Try.func29 (by kernel_rfl) rfl #[.pointer (some ⟨gb, 0, none⟩), v51] (by rfl) rfl rfl (by (try simp only [List.map_toArray, List.map_cons, List.map_nil]); first | done | rfl) ?_
            refine (buf_RawS w0 _ gb _ _ _ KB hS.out.pick3.pick2 (by simp [nbytes_len]) (by have := hKs.out; have := hB.out.2.1; clear hS hHeld; omega)).mono ?_
            rintro e wq ⟨rfl, h1⟩
            refine ⟨_, rfl, ?_⟩
            have hS := Aside0.mk h1.put1
            clear h1
            refine hK.out _ _ ⟨(hS.out.cell 0).trans rfl, (hS.out.cell 1).trans rfl⟩ (fun hHeld => ?_)
            clear hK K
            refine norm_ (a' := ?_) ?_ ?_
            rotate_left
            · show Act.put _ (some 52) _ = _
              simp only [Act.put, List.setIfInBounds_toArray, List.set_cons_zero, List.set_cons_succ, i64_w, i32_w]
              rfl
            exact norm_ (by first | (simp only [putAll, Act.put, List.setIfInBounds_toArray, List.set_cons_zero, List.set_cons_succ]; done) | (simp only [putAll, Act.put, List.setIfInBounds_toArray, List.set_cons_zero, List.set_cons_succ]; rfl)) (hCont (_, _) _ hS.out)
        · skip
          refine value_ (w1 := ?_) (v := ?_) (by rfl) rfl ?_ ?_
          rotate_left 2
          · go_simp
            constructor
            · rfl
            · rfl
          have hS := Aside0.mk (hS.out.str_new2 VB 5).put2
          generalize (Value.slice (some ⟨wq.heap.size, 0, none⟩) VB.size (grownCap wq VB.size 0 5)) = v55 at hS ⊢
          generalize (wq.alloc (.cells (bytesRow VB (grownCap wq VB.size 0 5)) 5 ((bytesRow VB (grownCap wq VB.size 0 5)).size, (bytesRow VB (grownCap wq VB.size 0 5)).size + 1))).drew = wq at hS ⊢
          refine hK.out _ _ ⟨(hS.out.cell 0).trans rfl, (hS.out.cell 1).trans rfl⟩ (fun hHeld => ?_)
          clear hK K
          refine norm_ (a' := ?_) ?_ ?_
          rotate_left
          · show Act.put _ (some 55) _ = _
            simp only [Act.put, List.setIfInBounds_toArray, List.set_cons_zero, List.set_cons_succ, i64_w, i32_w]
            rfl
          refine one_ (i := 6) (N := some 51) #[true, true, true, true, true, true, true, false, true, true, true, false] rfl rfl (by kernel_rfl) (by decide) (fun K hK => ?_)
          refine value_ (w1 := ?_) (v := ?_) (by rfl) rfl ?_ ?_
          rotate_left 2
          · go_simp
            constructor
            · rfl
            · rfl
          have hS := Aside0.mk (hS.out.str_new2 KB 5).put2
          generalize (Value.slice (some ⟨wq.heap.size, 0, none⟩) KB.size (grownCap wq KB.size 0 5)) = v51 at hS ⊢
          generalize (wq.alloc (.cells (bytesRow KB (grownCap wq KB.size 0 5)) 5 ((bytesRow KB (grownCap wq KB.size 0 5)).size, (bytesRow KB (grownCap wq KB.size 0 5)).size + 1))).drew = wq at hS ⊢
          refine hK.out _ _ ⟨(hS.out.cell 0).trans rfl, (hS.out.cell 1).trans rfl⟩ (fun hHeld => ?_)
          clear hK K
          refine norm_ (a' := ?_) ?_ ?_
          rotate_left
          · show Act.put _ (some 51) _ = _
            simp only [Act.put, List.setIfInBounds_toArray, List.set_cons_zero, List.set_cons_succ, i64_w, i32_w]
            rfl
          refine one_ (i := 7) (N := some 52) #[true, true, true, true, true, true, true, true, true, true, true, false] rfl rfl (by kernel_rfl) (by decide) (fun K hK => ?_)
          refine goes_ Try.func29 (by kernel_rfl) rfl #[.pointer (some ⟨gb, 0, none⟩), v51] (by rfl) rfl rfl (by (try simp only [List.map_toArray, List.map_cons, List.map_nil]); first | done | rfl) ?_
          refine (buf_RawS w0 _ gb _ _ _ KB hS.out.pick2.pick2 (by simp [nbytes_len]) (by have := hKs.out; have := hB.out.2.1; clear hS hHeld; omega)).mono ?_
          rintro e wq ⟨rfl, h1⟩
          refine ⟨_, rfl, ?_⟩
          have hS := Aside0.mk h1.put1
          clear h1
          refine hK.out _ _ ⟨(hS.out.cell 0).trans rfl, (hS.out.cell 1).trans rfl⟩ (fun hHeld => ?_)
          clear hK K
          refine norm_ (a' := ?_) ?_ ?_
          rotate_left
          · show Act.put _ (some 52) _ = _
            simp only [Act.put, List.setIfInBounds_toArray, List.set_cons_zero, List.set_cons_succ, i64_w, i32_w]
            rfl
          exact norm_ (by first | (simp only [putAll, Act.put, List.setIfInBounds_toArray, List.set_cons_zero, List.set_cons_succ]; done) | (simp only [putAll, Act.put, List.setIfInBounds_toArray, List.set_cons_zero, List.set_cons_succ]; rfl)) (hCont (_, _) _ hS.out)
      · skip
        refine value_ (w1 := ?_) (v := ?_) (by rfl) rfl ?_ ?_
        rotate_left 2
        · go_simp
          constructor
          · rfl
          · rfl
        have hS := Aside0.mk (hS.out.str_new2 KB 5).put2
        generalize (Value.slice (some ⟨wq.heap.size, 0, none⟩) KB.size (grownCap wq KB.size 0 5)) = v51 at hS ⊢
        generalize (wq.alloc (.cells (bytesRow KB (grownCap wq KB.size 0 5)) 5 ((bytesRow KB (grownCap wq KB.size 0 5)).size, (bytesRow KB (grownCap wq KB.size 0 5)).size + 1))).drew = wq at hS ⊢
        refine hK.out _ _ ⟨(hS.out.cell 0).trans rfl, (hS.out.cell 1).trans rfl⟩ (fun hHeld => ?_)
        clear hK K
        refine norm_ (a' := ?_) ?_ ?_
        rotate_left
        · show Act.put _ (some 51) _ = _
          simp only [Act.put, List.setIfInBounds_toArray, List.set_cons_zero, List.set_cons_succ, i64_w, i32_w]
          rfl
        refine two_ (i := 3) (j := 10) (Ni := some 48) (Nj := some 55) #[true, true, true, true, true, true, true, false, true, true, false, false] #[true, true, true, false, true, true, true, false, true, true, true, false] rfl rfl rfl rfl (by kernel_rfl) (by decide) (by decide) (fun K hK => ?_) (fun K hK => ?_)
        · skip
          refine goes_ Try.func27 (by kernel_rfl) rfl #[.pointer (some ⟨gb, 0, none⟩), .int .u32 (v : Int)] (by rfl) rfl rfl (by (try simp only [List.map_toArray, List.map_cons, List.map_nil]); first | done | rfl) ?_
          refine (buf_Four w0 _ gb _ _ _ hS.out.pick1 (by clear hS hHeld; omega) (by clear hS hHeld; omega) (by simp [nbytes_len])).mono ?_
          rintro e wq ⟨rfl, h1⟩
          refine ⟨_, rfl, ?_⟩
          have hS := Aside0.mk h1.put1
          clear h1
          refine hK.out _ _ ⟨(hS.out.cell 0).trans rfl, (hS.out.cell 1).trans rfl⟩ (fun hHeld => ?_)
          clear hK K
          refine norm_ (a' := ?_) ?_ ?_
          rotate_left
          · show Act.put _ (some 48) _ = _
            simp only [Act.put, List.setIfInBounds_toArray, List.set_cons_zero, List.set_cons_succ, i64_w, i32_w]
            rfl
          refine two_ (i := 7) (j := 10) (Ni := some 52) (Nj := some 55) #[true, true, true, true, true, true, true, true, true, true, false, false] #[true, true, true, true, true, true, true, false, true, true, true, false] rfl rfl rfl rfl (by kernel_rfl) (by decide) (by decide) (fun K hK => ?_) (fun K hK => ?_)
          · skip
            refine goes_ Try.func29 (by kernel_rfl) rfl #[.pointer (some ⟨gb, 0, none⟩), v51] (by rfl) rfl rfl (by (try simp only [List.map_toArray, List.map_cons, List.map_nil]); first | done | rfl) ?_
            refine (buf_RawS w0 _ gb _ _ _ KB hS.out.pick2.pick2 (by simp [nbytes_len]) (by have := hKs.out; have := hB.out.2.1; clear hS hHeld; omega)).mono ?_
            rintro e wq ⟨rfl, h1⟩
            refine ⟨_, rfl, ?_⟩
            have hS := Aside0.mk h1.put1
            clear h1
            refine hK.out _ _ ⟨(hS.out.cell 0).trans rfl, (hS.out.cell 1).trans rfl⟩ (fun hHeld => ?_)
            clear hK K
            refine norm_ (a' := ?_) ?_ ?_
            rotate_left
            · show Act.put _ (some 52) _ = _
              simp only [Act.put, List.setIfInBounds_toArray, List.set_cons_zero, List.set_cons_succ, i64_w, i32_w]
              rfl
            refine one_ (i := 10) (N := some 55) #[true, true, true, true, true, true, true, true, true, true, true, false] rfl rfl (by kernel_rfl) (by decide) (fun K hK => ?_)
            refine value_ (w1 := ?_) (v := ?_) (by rfl) rfl ?_ ?_
            rotate_left 2
            · go_simp
              constructor
              · rfl
              · rfl
            have hS := Aside0.mk (hS.out.str_new2 VB 5).put2
            generalize (Value.slice (some ⟨wq.heap.size, 0, none⟩) VB.size (grownCap wq VB.size 0 5)) = v55 at hS ⊢
            generalize (wq.alloc (.cells (bytesRow VB (grownCap wq VB.size 0 5)) 5 ((bytesRow VB (grownCap wq VB.size 0 5)).size, (bytesRow VB (grownCap wq VB.size 0 5)).size + 1))).drew = wq at hS ⊢
            refine hK.out _ _ ⟨(hS.out.cell 0).trans rfl, (hS.out.cell 1).trans rfl⟩ (fun hHeld => ?_)
            clear hK K
            refine norm_ (a' := ?_) ?_ ?_
            rotate_left
            · show Act.put _ (some 55) _ = _
              simp only [Act.put, List.setIfInBounds_toArray, List.set_cons_zero, List.set_cons_succ, i64_w, i32_w]
              rfl
            exact norm_ (by first | (simp only [putAll, Act.put, List.setIfInBounds_toArray, List.set_cons_zero, List.set_cons_succ]; done) | (simp only [putAll, Act.put, List.setIfInBounds_toArray, List.set_cons_zero, List.set_cons_succ]; rfl)) (hCont (_, _) _ hS.out)
          · skip
            refine value_ (w1 := ?_) (v := ?_) (by rfl) rfl ?_ ?_
            rotate_left 2
            · go_simp
              constructor
              · rfl
              · rfl
            have hS := Aside0.mk (hS.out.str_new2 VB 5).put2
            generalize (Value.slice (some ⟨wq.heap.size, 0, none⟩) VB.size (grownCap wq VB.size 0 5)) = v55 at hS ⊢
            generalize (wq.alloc (.cells (bytesRow VB (grownCap wq VB.size 0 5)) 5 ((bytesRow VB (grownCap wq VB.size 0 5)).size, (bytesRow VB (grownCap wq VB.size 0 5)).size + 1))).drew = wq at hS ⊢
            refine hK.out _ _ ⟨(hS.out.cell 0).trans rfl, (hS.out.cell 1).trans rfl⟩ (fun hHeld => ?_)
            clear hK K
            refine norm_ (a' := ?_) ?_ ?_
            rotate_left
            · show Act.put _ (some 55) _ = _
              simp only [Act.put, List.setIfInBounds_toArray, List.set_cons_zero, List.set_cons_succ, i64_w, i32_w]
              rfl
            refine one_ (i := 7) (N := some 52) #[true, true, true, true, true, true, true, true, true, true, true, false] rfl rfl (by kernel_rfl) (by decide) (fun K hK => ?_)
            refine goes_ Try.func29 (by kernel_rfl) rfl #[.pointer (some ⟨gb, 0, none⟩), v51] (by rfl) rfl rfl (by (try simp only [List.map_toArray, List.map_cons, List.map_nil]); first | done | rfl) ?_
            refine (buf_RawS w0 _ gb _ _ _ KB hS.out.pick3.pick2 (by simp [nbytes_len]) (by have := hKs.out; have := hB.out.2.1; clear hS hHeld; omega)).mono ?_
            rintro e wq ⟨rfl, h1⟩
            refine ⟨_, rfl, ?_⟩
            have hS := Aside0.mk h1.put1
            clear h1
            refine hK.out _ _ ⟨(hS.out.cell 0).trans rfl, (hS.out.cell 1).trans rfl⟩ (fun hHeld => ?_)
            clear hK K
            refine norm_ (a' := ?_) ?_ ?_
            rotate_left
            · show Act.put _ (some 52) _ = _
              simp only [Act.put, List.setIfInBounds_toArray, List.set_cons_zero, List.set_cons_succ, i64_w, i32_w]
              rfl
            exact norm_ (by first | (simp only [putAll, Act.put, List.setIfInBounds_toArray, List.set_cons_zero, List.set_cons_succ]; done) | (simp only [putAll, Act.put, List.setIfInBounds_toArray, List.set_cons_zero, List.set_cons_succ]; rfl)) (hCont (_, _) _ hS.out)
        · skip
          refine value_ (w1 := ?_) (v := ?_) (by rfl) rfl ?_ ?_
          rotate_left 2
          · go_simp
            constructor
            · rfl
            · rfl
          have hS := Aside0.mk (hS.out.str_new2 VB 5).put2
          generalize (Value.slice (some ⟨wq.heap.size, 0, none⟩) VB.size (grownCap wq VB.size 0 5)) = v55 at hS ⊢
          generalize (wq.alloc (.cells (bytesRow VB (grownCap wq VB.size 0 5)) 5 ((bytesRow VB (grownCap wq VB.size 0 5)).size, (bytesRow VB (grownCap wq VB.size 0 5)).size + 1))).drew = wq at hS ⊢
          refine hK.out _ _ ⟨(hS.out.cell 0).trans rfl, (hS.out.cell 1).trans rfl⟩ (fun hHeld => ?_)
          clear hK K
          refine norm_ (a' := ?_) ?_ ?_
          rotate_left
          · show Act.put _ (some 55) _ = _
            simp only [Act.put, List.setIfInBounds_toArray, List.set_cons_zero, List.set_cons_succ, i64_w, i32_w]
            rfl
          refine one_ (i := 3) (N := some 48) #[true, true, true, true, true, true, true, false, true, true, true, false] rfl rfl (by kernel_rfl) (by decide) (fun K hK => ?_)
          refine goes_ Try.func27 (by kernel_rfl) rfl #[.pointer (some ⟨gb, 0, none⟩), .int .u32 (v : Int)] (by rfl) rfl rfl (by (try simp only [List.map_toArray, List.map_cons, List.map_nil]); first | done | rfl) ?_
          refine (buf_Four w0 _ gb _ _ _ hS.out.pick1 (by clear hS hHeld; omega) (by clear hS hHeld; omega) (by simp [nbytes_len])).mono ?_
          rintro e wq ⟨rfl, h1⟩
          refine ⟨_, rfl, ?_⟩
          have hS := Aside0.mk h1.put1
          clear h1
          refine hK.out _ _ ⟨(hS.out.cell 0).trans rfl, (hS.out.cell 1).trans rfl⟩ (fun hHeld => ?_)
          clear hK K
          refine norm_ (a' := ?_) ?_ ?_
          rotate_left
          · show Act.put _ (some 48) _ = _
            simp only [Act.put, List.setIfInBounds_toArray, List.set_cons_zero, List.set_cons_succ, i64_w, i32_w]
            rfl
          refine one_ (i := 7) (N := some 52) #[true, true, true, true, true, true, true, true, true, true, true, false] rfl rfl (by kernel_rfl) (by decide) (fun K hK => ?_)
          refine goes_ Try.func29 (by kernel_rfl) rfl #[.pointer (some ⟨gb, 0, none⟩), v51] (by rfl) rfl rfl (by (try simp only [List.map_toArray, List.map_cons, List.map_nil]); first | done | rfl) ?_
          refine (buf_RawS w0 _ gb _ _ _ KB hS.out.pick3.pick2 (by simp [nbytes_len]) (by have := hKs.out; have := hB.out.2.1; clear hS hHeld; omega)).mono ?_
          rintro e wq ⟨rfl, h1⟩
          refine ⟨_, rfl, ?_⟩
          have hS := Aside0.mk h1.put1
          clear h1
          refine hK.out _ _ ⟨(hS.out.cell 0).trans rfl, (hS.out.cell 1).trans rfl⟩ (fun hHeld => ?_)
          clear hK K
          refine norm_ (a' := ?_) ?_ ?_
          rotate_left
          · show Act.put _ (some 52) _ = _
            simp only [Act.put, List.setIfInBounds_toArray, List.set_cons_zero, List.set_cons_succ, i64_w, i32_w]
            rfl
          exact norm_ (by first | (simp only [putAll, Act.put, List.setIfInBounds_toArray, List.set_cons_zero, List.set_cons_succ]; done) | (simp only [putAll, Act.put, List.setIfInBounds_toArray, List.set_cons_zero, List.set_cons_succ]; rfl)) (hCont (_, _) _ hS.out)
      · skip
        refine value_ (w1 := ?_) (v := ?_) (by rfl) rfl ?_ ?_
        rotate_left 2
        · go_simp
          constructor
          · rfl
          · rfl
        have hS := Aside0.mk (hS.out.str_new2 VB 5).put2
        generalize (Value.slice (some ⟨wq.heap.size, 0, none⟩) VB.size (grownCap wq VB.size 0 5)) = v55 at hS ⊢
        generalize (wq.alloc (.cells (bytesRow VB (grownCap wq VB.size 0 5)) 5 ((bytesRow VB (grownCap wq VB.size 0 5)).size, (bytesRow VB (grownCap wq VB.size 0 5)).size + 1))).drew = wq at hS ⊢
        refine hK.out _ _ ⟨(hS.out.cell 0).trans rfl, (hS.out.cell 1).trans rfl⟩ (fun hHeld => ?_)
        clear hK K
        refine norm_ (a' := ?_) ?_ ?_
        rotate_left
        · show Act.put _ (some 55) _ = _
          simp only [Act.put, List.setIfInBounds_toArray, List.set_cons_zero, List.set_cons_succ, i64_w, i32_w]
          rfl
        refine two_ (i := 3) (j := 6) (Ni := some 48) (Nj := some 51) #[true, true, true, true, true, true, false, false, true, true, true, false] #[true, true, true, false, true, true, true, false, true, true, true, false] rfl rfl rfl rfl (by kernel_rfl) (by decide) (by decide) (fun K hK => ?_) (fun K hK => ?_)
        · skip
          refine goes_ Try.func27 (by kernel_rfl) rfl #[.pointer (some ⟨gb, 0, none⟩), .int .u32 (v : Int)] (by rfl) rfl rfl (by (try simp only [List.map_toArray, List.map_cons, List.map_nil]); first | done | rfl) ?_
          refine (buf_Four w0 _ gb _ _ _ hS.out.pick1 (by clear hS hHeld; omega) (by clear hS hHeld; omega) (by simp [nbytes_len])).mono ?_
          rintro e wq ⟨rfl, h1⟩
          refine ⟨_, rfl, ?_⟩
          have hS := Aside0.mk h1.put1
          clear h1
          refine hK.out _ _ ⟨(hS.out.cell 0).trans rfl, (hS.out.cell 1).trans rfl⟩ (fun hHeld => ?_)
          clear hK K
          refine norm_ (a' := ?_) ?_ ?_
          rotate_left
          · show Act.put _ (some 48) _ = _
            simp only [Act.put, List.setIfInBounds_toArray, List.set_cons_zero, List.set_cons_succ, i64_w, i32_w]
            rfl
          refine one_ (i := 6) (N := some 51) #[true, true, true, true, true, true, true, false, true, true, true, false] rfl rfl (by kernel_rfl) (by decide) (fun K hK => ?_)
          refine value_ (w1 := ?_) (v := ?_) (by rfl) rfl ?_ ?_
          rotate_left 2
          · go_simp
            constructor
            · rfl
            · rfl
          have hS := Aside0.mk (hS.out.str_new2 KB 5).put2
          generalize (Value.slice (some ⟨wq.heap.size, 0, none⟩) KB.size (grownCap wq KB.size 0 5)) = v51 at hS ⊢
          generalize (wq.alloc (.cells (bytesRow KB (grownCap wq KB.size 0 5)) 5 ((bytesRow KB (grownCap wq KB.size 0 5)).size, (bytesRow KB (grownCap wq KB.size 0 5)).size + 1))).drew = wq at hS ⊢
          refine hK.out _ _ ⟨(hS.out.cell 0).trans rfl, (hS.out.cell 1).trans rfl⟩ (fun hHeld => ?_)
          clear hK K
          refine norm_ (a' := ?_) ?_ ?_
          rotate_left
          · show Act.put _ (some 51) _ = _
            simp only [Act.put, List.setIfInBounds_toArray, List.set_cons_zero, List.set_cons_succ, i64_w, i32_w]
            rfl
          refine one_ (i := 7) (N := some 52) #[true, true, true, true, true, true, true, true, true, true, true, false] rfl rfl (by kernel_rfl) (by decide) (fun K hK => ?_)
          refine goes_ Try.func29 (by kernel_rfl) rfl #[.pointer (some ⟨gb, 0, none⟩), v51] (by rfl) rfl rfl (by (try simp only [List.map_toArray, List.map_cons, List.map_nil]); first | done | rfl) ?_
          refine (buf_RawS w0 _ gb _ _ _ KB hS.out.pick2.pick2 (by simp [nbytes_len]) (by have := hKs.out; have := hB.out.2.1; clear hS hHeld; omega)).mono ?_
          rintro e wq ⟨rfl, h1⟩
          refine ⟨_, rfl, ?_⟩
          have hS := Aside0.mk h1.put1
          clear h1
          refine hK.out _ _ ⟨(hS.out.cell 0).trans rfl, (hS.out.cell 1).trans rfl⟩ (fun hHeld => ?_)
          clear hK K
          refine norm_ (a' := ?_) ?_ ?_
          rotate_left
          · show Act.put _ (some 52) _ = _
            simp only [Act.put, List.setIfInBounds_toArray, List.set_cons_zero, List.set_cons_succ, i64_w, i32_w]
            rfl
          exact norm_ (by first | (simp only [putAll, Act.put, List.setIfInBounds_toArray, List.set_cons_zero, List.set_cons_succ]; done) | (simp only [putAll, Act.put, List.setIfInBounds_toArray, List.set_cons_zero, List.set_cons_succ]; rfl)) (hCont (_, _) _ hS.out)
        · skip
          refine value_ (w1 := ?_) (v := ?_) (by rfl) rfl ?_ ?_
          rotate_left 2
          · go_simp
            constructor
            · rfl
            · rfl
          have hS := Aside0.mk (hS.out.str_new2 KB 5).put2
          generalize (Value.slice (some ⟨wq.heap.size, 0, none⟩) KB.size (grownCap wq KB.size 0 5)) = v51 at hS ⊢
          generalize (wq.alloc (.cells (bytesRow KB (grownCap wq KB.size 0 5)) 5 ((bytesRow KB (grownCap wq KB.size 0 5)).size, (bytesRow KB (grownCap wq KB.size 0 5)).size + 1))).drew = wq at hS ⊢
          refine hK.out _ _ ⟨(hS.out.cell 0).trans rfl, (hS.out.cell 1).trans rfl⟩ (fun hHeld => ?_)
          clear hK K
          refine norm_ (a' := ?_) ?_ ?_
          rotate_left
          · show Act.put _ (some 51) _ = _
            simp only [Act.put, List.setIfInBounds_toArray, List.set_cons_zero, List.set_cons_succ, i64_w, i32_w]
            rfl
          refine one_ (i := 3) (N := some 48) #[true, true, true, true, true, true, true, false, true, true, true, false] rfl rfl (by kernel_rfl) (by decide) (fun K hK => ?_)
          refine goes_ Try.func27 (by kernel_rfl) rfl #[.pointer (some ⟨gb, 0, none⟩), .int .u32 (v : Int)] (by rfl) rfl rfl (by (try simp only [List.map_toArray, List.map_cons, List.map_nil]); first | done | rfl) ?_
          refine (buf_Four w0 _ gb _ _ _ hS.out.pick1 (by clear hS hHeld; omega) (by clear hS hHeld; omega) (by simp [nbytes_len])).mono ?_
          rintro e wq ⟨rfl, h1⟩
          refine ⟨_, rfl, ?_⟩
          have hS := Aside0.mk h1.put1
          clear h1
          refine hK.out _ _ ⟨(hS.out.cell 0).trans rfl, (hS.out.cell 1).trans rfl⟩ (fun hHeld => ?_)
          clear hK K
          refine norm_ (a' := ?_) ?_ ?_
          rotate_left
          · show Act.put _ (some 48) _ = _
            simp only [Act.put, List.setIfInBounds_toArray, List.set_cons_zero, List.set_cons_succ, i64_w, i32_w]
            rfl
          refine one_ (i := 7) (N := some 52) #[true, true, true, true, true, true, true, true, true, true, true, false] rfl rfl (by kernel_rfl) (by decide) (fun K hK => ?_)
          refine goes_ Try.func29 (by kernel_rfl) rfl #[.pointer (some ⟨gb, 0, none⟩), v51] (by rfl) rfl rfl (by (try simp only [List.map_toArray, List.map_cons, List.map_nil]); first | done | rfl) ?_
          refine (buf_RawS w0 _ gb _ _ _ KB hS.out.pick2.pick2 (by simp [nbytes_len]) (by have := hKs.out; have := hB.out.2.1; clear hS hHeld; omega)).mono ?_
          rintro e wq ⟨rfl, h1⟩
          refine ⟨_, rfl, ?_⟩
          have hS := Aside0.mk h1.put1
          clear h1
          refine hK.out _ _ ⟨(hS.out.cell 0).trans rfl, (hS.out.cell 1).trans rfl⟩ (fun hHeld => ?_)
          clear hK K
          refine norm_ (a' := ?_) ?_ ?_
          rotate_left
          · show Act.put _ (some 52) _ = _
            simp only [Act.put, List.setIfInBounds_toArray, List.set_cons_zero, List.set_cons_succ, i64_w, i32_w]
            rfl
          exact norm_ (by first | (simp only [putAll, Act.put, List.setIfInBounds_toArray, List.set_cons_zero, List.set_cons_succ]; done) | (simp only [putAll, Act.put, List.setIfInBounds_toArray, List.set_cons_zero, List.set_cons_succ]; rfl)) (hCont (_, _) _ hS.out)
    · skip
      refine value_ (w1 := ?_) (v := ?_) (by rfl) rfl ?_ ?_
      rotate_left 2
      · go_simp
        constructor
        · rfl
        · rfl
      have hS := Aside0.mk (hS.out.str_new2 KB 5).put2
      generalize (Value.slice (some ⟨wq.heap.size, 0, none⟩) KB.size (grownCap wq KB.size 0 5)) = v51 at hS ⊢
      generalize (wq.alloc (.cells (bytesRow KB (grownCap wq KB.size 0 5)) 5 ((bytesRow KB (grownCap wq KB.size 0 5)).size, (bytesRow KB (grownCap wq KB.size 0 5)).size + 1))).drew = wq at hS ⊢
      refine hK.out _ _ ⟨(hS.out.cell 0).trans rfl, (hS.out.cell 1).trans rfl⟩ (fun hHeld => ?_)
      clear hK K
      refine norm_ (a' := ?_) ?_ ?_
      rotate_left
      · show Act.put _ (some 51) _ = _
        simp only [Act.put, List.setIfInBounds_toArray, List.set_cons_zero, List.set_cons_succ, i64_w, i32_w]
        rfl
      refine two_ (i := 1) (j := 10) (Ni := some 46) (Nj := some 55) #[true, true, true, false, true, true, true, false, true, true, false, false] #[true, false, true, false, true, true, true, false, true, true, true, false] rfl rfl rfl rfl (by kernel_rfl) (by decide) (by decide) (fun K hK => ?_) (fun K hK => ?_)
      · skip
        refine goes_ Try.func27 (by kernel_rfl) rfl #[.pointer (some ⟨gb, 0, none⟩), .int .u32 (k : Int)] (by rfl) rfl rfl (by (try simp only [List.map_toArray, List.map_cons, List.map_nil]); first | done | rfl) ?_
        refine (buf_Four w0 _ gb _ _ _ hS.out.pick1 (by clear hS hHeld; omega) (by clear hS hHeld; omega) (by simp)).mono ?_
        rintro e wq ⟨rfl, h1⟩
        refine ⟨_, rfl, ?_⟩
        have hS := Aside0.mk h1.put1
        clear h1
        refine hK.out _ _ ⟨(hS.out.cell 0).trans rfl, (hS.out.cell 1).trans rfl⟩ (fun hHeld => ?_)
        clear hK K
        refine norm_ (a' := ?_) ?_ ?_
        rotate_left
        · show Act.put _ (some 46) _ = _
          simp only [Act.put, List.setIfInBounds_toArray, List.set_cons_zero, List.set_cons_succ, i64_w, i32_w]
          rfl
        refine two_ (i := 3) (j := 10) (Ni := some 48) (Nj := some 55) #[true, true, true, true, true, true, true, false, true, true, false, false] #[true, true, true, false, true, true, true, false, true, true, true, false] rfl rfl rfl rfl (by kernel_rfl) (by decide) (by decide) (fun K hK => ?_) (fun K hK => ?_)
        · skip
          refine goes_ Try.func27 (by kernel_rfl) rfl #[.pointer (some ⟨gb, 0, none⟩), .int .u32 (v : Int)] (by rfl) rfl rfl (by (try simp only [List.map_toArray, List.map_cons, List.map_nil]); first | done | rfl) ?_
          refine (buf_Four w0 _ gb _ _ _ hS.out.pick1 (by clear hS hHeld; omega) (by clear hS hHeld; omega) (by simp [nbytes_len])).mono ?_
          rintro e wq ⟨rfl, h1⟩
          refine ⟨_, rfl, ?_⟩
          have hS := Aside0.mk h1.put1
          clear h1
          refine hK.out _ _ ⟨(hS.out.cell 0).trans rfl, (hS.out.cell 1).trans rfl⟩ (fun hHeld => ?_)
          clear hK K
          refine norm_ (a' := ?_) ?_ ?_
          rotate_left
          · show Act.put _ (some 48) _ = _
            simp only [Act.put, List.setIfInBounds_toArray, List.set_cons_zero, List.set_cons_succ, i64_w, i32_w]
            rfl
          refine two_ (i := 7) (j := 10) (Ni := some 52) (Nj := some 55) #[true, true, true, true, true, true, true, true, true, true, false, false] #[true, true, true, true, true, true, true, false, true, true, true, false] rfl rfl rfl rfl (by kernel_rfl) (by decide) (by decide) (fun K hK => ?_) (fun K hK => ?_)
          · skip
            refine goes_ Try.func29 (by kernel_rfl) rfl #[.pointer (some ⟨gb, 0, none⟩), v51] (by rfl) rfl rfl (by (try simp only [List.map_toArray, List.map_cons, List.map_nil]); first | done | rfl) ?_
            refine (buf_RawS w0 _ gb _ _ _ KB hS.out.pick2.pick2 (by simp [nbytes_len]) (by have := hKs.out; have := hB.out.2.1; clear hS hHeld; omega)).mono ?_
            rintro e wq ⟨rfl, h1⟩
            refine ⟨_, rfl, ?_⟩
            have hS := Aside0.mk h1.put1
            clear h1
            refine hK.out _ _ ⟨(hS.out.cell 0).trans rfl, (hS.out.cell 1).trans rfl⟩ (fun hHeld => ?_)
            clear hK K
            refine norm_ (a' := ?_) ?_ ?_
            rotate_left
            · show Act.put _ (some 52) _ = _
              simp only [Act.put, List.setIfInBounds_toArray, List.set_cons_zero, List.set_cons_succ, i64_w, i32_w]
              rfl
            refine one_ (i := 10) (N := some 55) #[true, true, true, true, true, true, true, true, true, true, true, false] rfl rfl (by kernel_rfl) (by decide) (fun K hK => ?_)
            refine value_ (w1 := ?_) (v := ?_) (by rfl) rfl ?_ ?_
            rotate_left 2
            · go_simp
              constructor
              · rfl
              · rfl
            have hS := Aside0.mk (hS.out.str_new2 VB 5).put2
            generalize (Value.slice (some ⟨wq.heap.size, 0, none⟩) VB.size (grownCap wq VB.size 0 5)) = v55 at hS ⊢
            generalize (wq.alloc (.cells (bytesRow VB (grownCap wq VB.size 0 5)) 5 ((bytesRow VB (grownCap wq VB.size 0 5)).size, (bytesRow VB (grownCap wq VB.size 0 5)).size + 1))).drew = wq at hS ⊢
            refine hK.out _ _ ⟨(hS.out.cell 0).trans rfl, (hS.out.cell 1).trans rfl⟩ (fun hHeld => ?_)
            clear hK K
            refine norm_ (a' := ?_) ?_ ?_
            rotate_left
            · show Act.put _ (some 55) _ = _
              simp only [Act.put, List.setIfInBounds_toArray, List.set_cons_zero, List.set_cons_succ, i64_w, i32_w]
              rfl
            exact norm_ (by first | (simp only [putAll, Act.put, List.setIfInBounds_toArray, List.set_cons_zero, List.set_cons_succ]; done) | (simp only [putAll, Act.put, List.setIfInBounds_toArray, List.set_cons_zero, List.set_cons_succ]; rfl)) (hCont (_, _) _ hS.out)
          · skip
            refine value_ (w1 := ?_) (v := ?_) (by rfl) rfl ?_ ?_
            rotate_left 2
            · go_simp
              constructor
              · rfl
              · rfl
            have hS := Aside0.mk (hS.out.str_new2 VB 5).put2
            generalize (Value.slice (some ⟨wq.heap.size, 0, none⟩) VB.size (grownCap wq VB.size 0 5)) = v55 at hS ⊢
            generalize (wq.alloc (.cells (bytesRow VB (grownCap wq VB.size 0 5)) 5 ((bytesRow VB (grownCap wq VB.size 0 5)).size, (bytesRow VB (grownCap wq VB.size 0 5)).size + 1))).drew = wq at hS ⊢
            refine hK.out _ _ ⟨(hS.out.cell 0).trans rfl, (hS.out.cell 1).trans rfl⟩ (fun hHeld => ?_)
            clear hK K
            refine norm_ (a' := ?_) ?_ ?_
            rotate_left
            · show Act.put _ (some 55) _ = _
              simp only [Act.put, List.setIfInBounds_toArray, List.set_cons_zero, List.set_cons_succ, i64_w, i32_w]
              rfl
            refine one_ (i := 7) (N := some 52) #[true, true, true, true, true, true, true, true, true, true, true, false] rfl rfl (by kernel_rfl) (by decide) (fun K hK => ?_)
            refine goes_ Try.func29 (by kernel_rfl) rfl #[.pointer (some ⟨gb, 0, none⟩), v51] (by rfl) rfl rfl (by (try simp only [List.map_toArray, List.map_cons, List.map_nil]); first | done | rfl) ?_
            refine (buf_RawS w0 _ gb _ _ _ KB hS.out.pick3.pick2 (by simp [nbytes_len]) (by have := hKs.out; have := hB.out.2.1; clear hS hHeld; omega)).mono ?_
            rintro e wq ⟨rfl, h1⟩
            refine ⟨_, rfl, ?_⟩
            have hS := Aside0.mk h1.put1
            clear h1
            refine hK.out _ _ ⟨(hS.out.cell 0).trans rfl, (hS.out.cell 1).trans rfl⟩ (fun hHeld => ?_)
            clear hK K
            refine norm_ (a' := ?_) ?_ ?_
            rotate_left
            · show Act.put _ (some 52) _ = _
              simp only [Act.put, List.setIfInBounds_toArray, List.set_cons_zero, List.set_cons_succ, i64_w, i32_w]
              rfl
            exact norm_ (by first | (simp only [putAll, Act.put, List.setIfInBounds_toArray, List.set_cons_zero, List.set_cons_succ]; done) | (simp only [putAll, Act.put, List.setIfInBounds_toArray, List.set_cons_zero, List.set_cons_succ]; rfl)) (hCont (_, _) _ hS.out)
        · skip
          refine value_ (w1 := ?_) (v := ?_) (by rfl) rfl ?_ ?_
          rotate_left 2
          · go_simp
            constructor
            · rfl
            · rfl
          have hS := Aside0.mk (hS.out.str_new2 VB 5).put2
          generalize (Value.slice (some ⟨wq.heap.size, 0, none⟩) VB.size (grownCap wq VB.size 0 5)) = v55 at hS ⊢
          generalize (wq.alloc (.cells (bytesRow VB (grownCap wq VB.size 0 5)) 5 ((bytesRow VB (grownCap wq VB.size 0 5)).size, (bytesRow VB (grownCap wq VB.size 0 5)).size + 1))).drew = wq at hS ⊢
          refine hK.out _ _ ⟨(hS.out.cell 0).trans rfl, (hS.out.cell 1).trans rfl⟩ (fun hHeld => ?_)
          clear hK K
          refine norm_ (a' := ?_) ?_ ?_
          rotate_left
          · show Act.put _ (some 55) _ = _
            simp only [Act.put, List.setIfInBounds_toArray, List.set_cons_zero, List.set_cons_succ, i64_w, i32_w]
            rfl
          refine one_ (i := 3) (N := some 48) #[true, true, true, true, true, true, true, false, true, true, true, false] rfl rfl (by kernel_rfl) (by decide) (fun K hK => ?_)
          refine goes_ Try.func27 (by kernel_rfl) rfl #[.pointer (some ⟨gb, 0, none⟩), .int .u32 (v : Int)] (by rfl) rfl rfl (by (try simp only [List.map_toArray, List.map_cons, List.map_nil]); first | done | rfl) ?_
          refine (buf_Four w0 _ gb _ _ _ hS.out.pick1 (by clear hS hHeld; omega) (by clear hS hHeld; omega) (by simp [nbytes_len])).mono ?_
          rintro e wq ⟨rfl, h1⟩
          refine ⟨_, rfl, ?_⟩
          have hS := Aside0.mk h1.put1
          clear h1
          refine hK.out _ _ ⟨(hS.out.cell 0).trans rfl, (hS.out.cell 1).trans rfl⟩ (fun hHeld => ?_)
          clear hK K
          refine norm_ (a' := ?_) ?_ ?_
          rotate_left
          · show Act.put _ (some 48) _ = _
            simp only [Act.put, List.setIfInBounds_toArray, List.set_cons_zero, List.set_cons_succ, i64_w, i32_w]
            rfl
          refine one_ (i := 7) (N := some 52) #[true, true, true, true, true, true, true, true, true, true, true, false] rfl rfl (by kernel_rfl) (by decide) (fun K hK => ?_)
          refine goes_ Try.func29 (by kernel_rfl) rfl #[.pointer (some ⟨gb, 0, none⟩), v51] (by rfl) rfl rfl (by (try simp only [List.map_toArray, List.map_cons, List.map_nil]); first | done | rfl) ?_
          refine (buf_RawS w0 _ gb _ _ _ KB hS.out.pick3.pick2 (by simp [nbytes_len]) (by have := hKs.out; have := hB.out.2.1; clear hS hHeld; omega)).mono ?_
          rintro e wq ⟨rfl, h1⟩
          refine ⟨_, rfl, ?_⟩
          have hS := Aside0.mk h1.put1
          clear h1
          refine hK.out _ _ ⟨(hS.out.cell 0).trans rfl, (hS.out.cell 1).trans rfl⟩ (fun hHeld => ?_)
          clear hK K
          refine norm_ (a' := ?_) ?_ ?_
          rotate_left
          · show Act.put _ (some 52) _ = _
            simp only [Act.put, List.setIfInBounds_toArray, List.set_cons_zero, List.set_cons_succ, i64_w, i32_w]
            rfl
          exact norm_ (by first | (simp only [putAll, Act.put, List.setIfInBounds_toArray, List.set_cons_zero, List.set_cons_succ]; done) | (simp only [putAll, Act.put, List.setIfInBounds_toArray, List.set_cons_zero, List.set_cons_succ]; rfl)) (hCont (_, _) _ hS.out)
      · skip
        refine value_ (w1 := ?_) (v := ?_) (by rfl) rfl ?_ ?_
        rotate_left 2
        · go_simp
          constructor
          · rfl
          · rfl
        have hS := Aside0.mk (hS.out.str_new2 VB 5).put2
        generalize (Value.slice (some ⟨wq.heap.size, 0, none⟩) VB.size (grownCap wq VB.size 0 5)) = v55 at hS ⊢
        generalize (wq.alloc (.cells (bytesRow VB (grownCap wq VB.size 0 5)) 5 ((bytesRow VB (grownCap wq VB.size 0 5)).size, (bytesRow VB (grownCap wq VB.size 0 5)).size + 1))).drew = wq at hS ⊢
        refine hK.out _ _ ⟨(hS.out.cell 0).trans rfl, (hS.out.cell 1).trans rfl⟩ (fun hHeld => ?_)
        clear hK K
        refine norm_ (a' := ?_) ?_ ?_
        rotate_left
        · show Act.put _ (some 55) _ = _
          simp only [Act.put, List.setIfInBounds_toArray, List.set_cons_zero, List.set_cons_succ, i64_w, i32_w]
          rfl
        refine one_ (i := 1) (N := some 46) #[true, true, true, false, true, true, true, false, true, true, true, false] rfl rfl (by kernel_rfl) (by decide) (fun K hK => ?_)
        refine goes_ Try.func27 (by kernel_rfl) rfl #[.pointer (some ⟨gb, 0, none⟩), .int .u32 (k : Int)] (by rfl) rfl rfl (by (try simp only [List.map_toArray, List.map_cons, List.map_nil]); first | done | rfl) ?_
        refine (buf_Four w0 _ gb _ _ _ hS.out.pick1 (by clear hS hHeld; omega) (by clear hS hHeld; omega) (by simp)).mono ?_
        rintro e wq ⟨rfl, h1⟩
        refine ⟨_, rfl, ?_⟩
        have hS := Aside0.mk h1.put1
        clear h1
        refine hK.out _ _ ⟨(hS.out.cell 0).trans rfl, (hS.out.cell 1).trans rfl⟩ (fun hHeld => ?_)
        clear hK K
        refine norm_ (a' := ?_) ?_ ?_
        rotate_left
        · show Act.put _ (some 46) _ = _
          simp only [Act.put, List.setIfInBounds_toArray, List.set_cons_zero, List.set_cons_succ, i64_w, i32_w]
          rfl
        refine one_ (i := 3) (N := some 48) #[true, true, true, true, true, true, true, false, true, true, true, false] rfl rfl (by kernel_rfl) (by decide) (fun K hK => ?_)
        refine goes_ Try.func27 (by kernel_rfl) rfl #[.pointer (some ⟨gb, 0, none⟩), .int .u32 (v : Int)] (by rfl) rfl rfl (by (try simp only [List.map_toArray, List.map_cons, List.map_nil]); first | done | rfl) ?_
        refine (buf_Four w0 _ gb _ _ _ hS.out.pick1 (by clear hS hHeld; omega) (by clear hS hHeld; omega) (by simp [nbytes_len])).mono ?_
        rintro e wq ⟨rfl, h1⟩
        refine ⟨_, rfl, ?_⟩
        have hS := Aside0.mk h1.put1
        clear h1
        refine hK.out _ _ ⟨(hS.out.cell 0).trans rfl, (hS.out.cell 1).trans rfl⟩ (fun hHeld => ?_)
        clear hK K
        refine norm_ (a' := ?_) ?_ ?_
        rotate_left
        · show Act.put _ (some 48) _ = _
          simp only [Act.put, List.setIfInBounds_toArray, List.set_cons_zero, List.set_cons_succ, i64_w, i32_w]
          rfl
        refine one_ (i := 7) (N := some 52) #[true, true, true, true, true, true, true, true, true, true, true, false] rfl rfl (by kernel_rfl) (by decide) (fun K hK => ?_)
        refine goes_ Try.func29 (by kernel_rfl) rfl #[.pointer (some ⟨gb, 0, none⟩), v51] (by rfl) rfl rfl (by (try simp only [List.map_toArray, List.map_cons, List.map_nil]); first | done | rfl) ?_
        refine (buf_RawS w0 _ gb _ _ _ KB hS.out.pick3.pick2 (by simp [nbytes_len]) (by have := hKs.out; have := hB.out.2.1; clear hS hHeld; omega)).mono ?_
        rintro e wq ⟨rfl, h1⟩
        refine ⟨_, rfl, ?_⟩
        have hS := Aside0.mk h1.put1
        clear h1
        refine hK.out _ _ ⟨(hS.out.cell 0).trans rfl, (hS.out.cell 1).trans rfl⟩ (fun hHeld => ?_)
        clear hK K
        refine norm_ (a' := ?_) ?_ ?_
        rotate_left
        · show Act.put _ (some 52) _ = _
          simp only [Act.put, List.setIfInBounds_toArray, List.set_cons_zero, List.set_cons_succ, i64_w, i32_w]
          rfl
        exact norm_ (by first | (simp only [putAll, Act.put, List.setIfInBounds_toArray, List.set_cons_zero, List.set_cons_succ]; done) | (simp only [putAll, Act.put, List.setIfInBounds_toArray, List.set_cons_zero, List.set_cons_succ]; rfl)) (hCont (_, _) _ hS.out)
    · skip
      refine value_ (w1 := ?_) (v := ?_) (by rfl) rfl ?_ ?_
      rotate_left 2
      · go_simp
        constructor
        · rfl
        · rfl
      have hS := Aside0.mk (hS.out.str_new2 VB 5).put2
      generalize (Value.slice (some ⟨wq.heap.size, 0, none⟩) VB.size (grownCap wq VB.size 0 5)) = v55 at hS ⊢
      generalize (wq.alloc (.cells (bytesRow VB (grownCap wq VB.size 0 5)) 5 ((bytesRow VB (grownCap wq VB.size 0 5)).size, (bytesRow VB (grownCap wq VB.size 0 5)).size + 1))).drew = wq at hS ⊢
      refine hK.out _ _ ⟨(hS.out.cell 0).trans rfl, (hS.out.cell 1).trans rfl⟩ (fun hHeld => ?_)
      clear hK K
      refine norm_ (a' := ?_) ?_ ?_
      rotate_left
      · show Act.put _ (some 55) _ = _
        simp only [Act.put, List.setIfInBounds_toArray, List.set_cons_zero, List.set_cons_succ, i64_w, i32_w]
        rfl
      refine two_ (i := 1) (j := 6) (Ni := some 46) (Nj := some 51) #[true, true, true, false, true, true, false, false, true, true, true, false] #[true, false, true, false, true, true, true, false, true, true, true, false] rfl rfl rfl rfl (by kernel_rfl) (by decide) (by decide) (fun K hK => ?_) (fun K hK => ?_)
      · skip
        refine goes_ Try.func27 (by kernel_rfl) rfl #[.pointer (some ⟨gb, 0, none⟩), .int .u32 (k : Int)] (by rfl) rfl rfl (by (try simp only [List.map_toArray, List.map_cons, List.map_nil]); first | done | rfl) ?_
        refine (buf_Four w0 _ gb _ _ _ hS.out.pick1 (by clear hS hHeld; omega) (by clear hS hHeld; omega) (by simp)).mono ?_
        rintro e wq ⟨rfl, h1⟩
        refine ⟨_, rfl, ?_⟩
        have hS := Aside0.mk h1.put1
        clear h1
        refine hK.out _ _ ⟨(hS.out.cell 0).trans rfl, (hS.out.cell 1).trans rfl⟩ (fun hHeld => ?_)
        clear hK K
        refine norm_ (a' := ?_) ?_ ?_
        rotate_left
        · show Act.put _ (some 46) _ = _
          simp only [Act.put, List.setIfInBounds_toArray, List.set_cons_zero, List.set_cons_succ, i64_w, i32_w]
          rfl
        refine two_ (i := 3) (j := 6) (Ni := some 48) (Nj := some 51) #[true, true, true, true, true, true, false, false, true, true, true, false] #[true, true, true, false, true, true, true, false, true, true, true, false] rfl rfl rfl rfl (by kernel_rfl) (by decide) (by decide) (fun K hK => ?_) (fun K hK => ?_)
        · skip
          refine goes_ Try.func27 (by kernel_rfl) rfl #[.pointer (some ⟨gb, 0, none⟩), .int .u32 (v : Int)] (by rfl) rfl rfl (by (try simp only [List.map_toArray, List.map_cons, List.map_nil]); first | done | rfl) ?_
          refine (buf_Four w0 _ gb _ _ _ hS.out.pick1 (by clear hS hHeld; omega) (by clear hS hHeld; omega) (by simp [nbytes_len])).mono ?_
          rintro e wq ⟨rfl, h1⟩
          refine ⟨_, rfl, ?_⟩
          have hS := Aside0.mk h1.put1
          clear h1
          refine hK.out _ _ ⟨(hS.out.cell 0).trans rfl, (hS.out.cell 1).trans rfl⟩ (fun hHeld => ?_)
          clear hK K
          refine norm_ (a' := ?_) ?_ ?_
          rotate_left
          · show Act.put _ (some 48) _ = _
            simp only [Act.put, List.setIfInBounds_toArray, List.set_cons_zero, List.set_cons_succ, i64_w, i32_w]
            rfl
          refine one_ (i := 6) (N := some 51) #[true, true, true, true, true, true, true, false, true, true, true, false] rfl rfl (by kernel_rfl) (by decide) (fun K hK => ?_)
          refine value_ (w1 := ?_) (v := ?_) (by rfl) rfl ?_ ?_
          rotate_left 2
          · go_simp
            constructor
            · rfl
            · rfl
          have hS := Aside0.mk (hS.out.str_new2 KB 5).put2
          generalize (Value.slice (some ⟨wq.heap.size, 0, none⟩) KB.size (grownCap wq KB.size 0 5)) = v51 at hS ⊢
          generalize (wq.alloc (.cells (bytesRow KB (grownCap wq KB.size 0 5)) 5 ((bytesRow KB (grownCap wq KB.size 0 5)).size, (bytesRow KB (grownCap wq KB.size 0 5)).size + 1))).drew = wq at hS ⊢
          refine hK.out _ _ ⟨(hS.out.cell 0).trans rfl, (hS.out.cell 1).trans rfl⟩ (fun hHeld => ?_)
          clear hK K
          refine norm_ (a' := ?_) ?_ ?_
          rotate_left
          · show Act.put _ (some 51) _ = _
            simp only [Act.put, List.setIfInBounds_toArray, List.set_cons_zero, List.set_cons_succ, i64_w, i32_w]
            rfl
          refine one_ (i := 7) (N := some 52) #[true, true, true, true, true, true, true, true, true, true, true, false] rfl rfl (by kernel_rfl) (by decide) (fun K hK => ?_)
          refine goes_ Try.func29 (by kernel_rfl) rfl #[.pointer (some ⟨gb, 0, none⟩), v51] (by rfl) rfl rfl (by (try simp only [List.map_toArray, List.map_cons, List.map_nil]); first | done | rfl) ?_
          refine (buf_RawS w0 _ gb _ _ _ KB hS.out.pick2.pick2 (by simp [nbytes_len]) (by have := hKs.out; have := hB.out.2.1; clear hS hHeld; omega)).mono ?_
          rintro e wq ⟨rfl, h1⟩
          refine ⟨_, rfl, ?_⟩
          have hS := Aside0.mk h1.put1
          clear h1
          refine hK.out _ _ ⟨(hS.out.cell 0).trans rfl, (hS.out.cell 1).trans rfl⟩ (fun hHeld => ?_)
          clear hK K
          refine norm_ (a' := ?_) ?_ ?_
          rotate_left
          · show Act.put _ (some 52) _ = _
            simp only [Act.put, List.setIfInBounds_toArray, List.set_cons_zero, List.set_cons_succ, i64_w, i32_w]
            rfl
          exact norm_ (by first | (simp only [putAll, Act.put, List.setIfInBounds_toArray, List.set_cons_zero, List.set_cons_succ]; done) | (simp only [putAll, Act.put, List.setIfInBounds_toArray, List.set_cons_zero, List.set_cons_succ]; rfl)) (hCont (_, _) _ hS.out)
        · skip
          refine value_ (w1 := ?_) (v := ?_) (by rfl) rfl ?_ ?_
          rotate_left 2
          · go_simp
            constructor
            · rfl
            · rfl
          have hS := Aside0.mk (hS.out.str_new2 KB 5).put2
          generalize (Value.slice (some ⟨wq.heap.size, 0, none⟩) KB.size (grownCap wq KB.size 0 5)) = v51 at hS ⊢
          generalize (wq.alloc (.cells (bytesRow KB (grownCap wq KB.size 0 5)) 5 ((bytesRow KB (grownCap wq KB.size 0 5)).size, (bytesRow KB (grownCap wq KB.size 0 5)).size + 1))).drew = wq at hS ⊢
          refine hK.out _ _ ⟨(hS.out.cell 0).trans rfl, (hS.out.cell 1).trans rfl⟩ (fun hHeld => ?_)
          clear hK K
          refine norm_ (a' := ?_) ?_ ?_
          rotate_left
          · show Act.put _ (some 51) _ = _
            simp only [Act.put, List.setIfInBounds_toArray, List.set_cons_zero, List.set_cons_succ, i64_w, i32_w]
            rfl
          refine one_ (i := 3) (N := some 48) #[true, true, true, true, true, true, true, false, true, true, true, false] rfl rfl (by kernel_rfl) (by decide) (fun K hK => ?_)
          refine goes_ Try.func27 (by kernel_rfl) rfl #[.pointer (some ⟨gb, 0, none⟩), .int .u32 (v : Int)] (by rfl) rfl rfl (by (try simp only [List.map_toArray, List.map_cons, List.map_nil]); first | done | rfl) ?_
          refine (buf_Four w0 _ gb _ _ _ hS.out.pick1 (by clear hS hHeld; omega) (by clear hS hHeld; omega) (by simp [nbytes_len])).mono ?_
          rintro e wq ⟨rfl, h1⟩
          refine ⟨_, rfl, ?_⟩
          have hS := Aside0.mk h1.put1
          clear h1
          refine hK.out _ _ ⟨(hS.out.cell 0).trans rfl, (hS.out.cell 1).trans rfl⟩ (fun hHeld => ?_)
          clear hK K
          refine norm_ (a' := ?_) ?_ ?_
          rotate_left
          · show Act.put _ (some 48) _ = _
            simp only [Act.put, List.setIfInBounds_toArray, List.set_cons_zero, List.set_cons_succ, i64_w, i32_w]
            rfl
          refine one_ (i := 7) (N := some 52) #[true, true, true, true, true, true, true, true, true, true, true, false] rfl rfl (by kernel_rfl) (by decide) (fun K hK => ?_)
          refine goes_ Try.func29 (by kernel_rfl) rfl #[.pointer (some ⟨gb, 0, none⟩), v51] (by rfl) rfl rfl (by (try simp only [List.map_toArray, List.map_cons, List.map_nil]); first | done | rfl) ?_
          refine (buf_RawS w0 _ gb _ _ _ KB hS.out.pick2.pick2 (by simp [nbytes_len]) (by have := hKs.out; have := hB.out.2.1; clear hS hHeld; omega)).mono ?_
          rintro e wq ⟨rfl, h1⟩
          refine ⟨_, rfl, ?_⟩
          have hS := Aside0.mk h1.put1
          clear h1
          refine hK.out _ _ ⟨(hS.out.cell 0).trans rfl, (hS.out.cell 1).trans rfl⟩ (fun hHeld => ?_)
          clear hK K
          refine norm_ (a' := ?_) ?_ ?_
          rotate_left
          · show Act.put _ (some 52) _ = _
            simp only [Act.put, List.setIfInBounds_toArray, List.set_cons_zero, List.set_cons_succ, i64_w, i32_w]
            rfl
          exact norm_ (by first | (simp only [putAll, Act.put, List.setIfInBounds_toArray, List.set_cons_zero, List.set_cons_succ]; done) | (simp only [putAll, Act.put, List.setIfInBounds_toArray, List.set_cons_zero, List.set_cons_succ]; rfl)) (hCont (_, _) _ hS.out)
      · skip
        refine value_ (w1 := ?_) (v := ?_) (by rfl) rfl ?_ ?_
        rotate_left 2
        · go_simp
          constructor
          · rfl
          · rfl
        have hS := Aside0.mk (hS.out.str_new2 KB 5).put2
        generalize (Value.slice (some ⟨wq.heap.size, 0, none⟩) KB.size (grownCap wq KB.size 0 5)) = v51 at hS ⊢
        generalize (wq.alloc (.cells (bytesRow KB (grownCap wq KB.size 0 5)) 5 ((bytesRow KB (grownCap wq KB.size 0 5)).size, (bytesRow KB (grownCap wq KB.size 0 5)).size + 1))).drew = wq at hS ⊢
        refine hK.out _ _ ⟨(hS.out.cell 0).trans rfl, (hS.out.cell 1).trans rfl⟩ (fun hHeld => ?_)
        clear hK K
        refine norm_ (a' := ?_) ?_ ?_
        rotate_left
        · show Act.put _ (some 51) _ = _
          simp only [Act.put, List.setIfInBounds_toArray, List.set_cons_zero, List.set_cons_succ, i64_w, i32_w]
          rfl
        refine one_ (i := 1) (N := some 46) #[true, true, true, false, true, true, true, false, true, true, true, false] rfl rfl (by kernel_rfl) (by decide) (fun K hK => ?_)
        refine goes_ Try.func27 (by kernel_rfl) rfl #[.pointer (some ⟨gb, 0, none⟩), .int .u32 (k : Int)] (by rfl) rfl rfl (by (try simp only [List.map_toArray, List.map_cons, List.map_nil]); first | done | rfl) ?_
        refine (buf_Four w0 _ gb _ _ _ hS.out.pick1 (by clear hS hHeld; omega) (by clear hS hHeld; omega) (by simp)).mono ?_
        rintro e wq ⟨rfl, h1⟩
        refine ⟨_, rfl, ?_⟩
        have hS := Aside0.mk h1.put1
        clear h1
        refine hK.out _ _ ⟨(hS.out.cell 0).trans rfl, (hS.out.cell 1).trans rfl⟩ (fun hHeld => ?_)
        clear hK K
        refine norm_ (a' := ?_) ?_ ?_
        rotate_left
        · show Act.put _ (some 46) _ = _
          simp only [Act.put, List.setIfInBounds_toArray, List.set_cons_zero, List.set_cons_succ, i64_w, i32_w]
          rfl
        refine one_ (i := 3) (N := some 48) #[true, true, true, true, true, true, true, false, true, true, true, false] rfl rfl (by kernel_rfl) (by decide) (fun K hK => ?_)
        refine goes_ Try.func27 (by kernel_rfl) rfl #[.pointer (some ⟨gb, 0, none⟩), .int .u32 (v : Int)] (by rfl) rfl rfl (by (try simp only [List.map_toArray, List.map_cons, List.map_nil]); first | done | rfl) ?_
        refine (buf_Four w0 _ gb _ _ _ hS.out.pick1 (by clear hS hHeld; omega) (by clear hS hHeld; omega) (by simp [nbytes_len])).mono ?_
        rintro e wq ⟨rfl, h1⟩
        refine ⟨_, rfl, ?_⟩
        have hS := Aside0.mk h1.put1
        clear h1
        refine hK.out _ _ ⟨(hS.out.cell 0).trans rfl, (hS.out.cell 1).trans rfl⟩ (fun hHeld => ?_)
        clear hK K
        refine norm_ (a' := ?_) ?_ ?_
        rotate_left
        · show Act.put _ (some 48) _ = _
          simp only [Act.put, List.setIfInBounds_toArray, List.set_cons_zero, List.set_cons_succ, i64_w, i32_w]
          rfl
        refine one_ (i := 7) (N := some 52) #[true, true, true, true, true, true, true, true, true, true, true, false] rfl rfl (by kernel_rfl) (by decide) (fun K hK => ?_)
        refine goes_ Try.func29 (by kernel_rfl) rfl #[.pointer (some ⟨gb, 0, none⟩), v51] (by rfl) rfl rfl (by (try simp only [List.map_toArray, List.map_cons, List.map_nil]); first | done | rfl) ?_
        refine (buf_RawS w0 _ gb _ _ _ KB hS.out.pick2.pick2 (by simp [nbytes_len]) (by have := hKs.out; have := hB.out.2.1; clear hS hHeld; omega)).mono ?_
        rintro e wq ⟨rfl, h1⟩
        refine ⟨_, rfl, ?_⟩
        have hS := Aside0.mk h1.put1
        clear h1
        refine hK.out _ _ ⟨(hS.out.cell 0).trans rfl, (hS.out.cell 1).trans rfl⟩ (fun hHeld => ?_)
        clear hK K
        refine norm_ (a' := ?_) ?_ ?_
        rotate_left
        · show Act.put _ (some 52) _ = _
          simp only [Act.put, List.setIfInBounds_toArray, List.set_cons_zero, List.set_cons_succ, i64_w, i32_w]
          rfl
        exact norm_ (by first | (simp only [putAll, Act.put, List.setIfInBounds_toArray, List.set_cons_zero, List.set_cons_succ]; done) | (simp only [putAll, Act.put, List.setIfInBounds_toArray, List.set_cons_zero, List.set_cons_succ]; rfl)) (hCont (_, _) _ hS.out)
  rintro ⟨v51, v55⟩ wq hF
  have hHeld : wq.cell? ⟨g5, 0, none⟩ = some (.string KB) ∧ wq.cell? ⟨g5, 1, none⟩ = some (.string VB) := ⟨(hF.cell 0).trans rfl, (hF.cell 1).trans rfl⟩
  have hS := Aside0.mk hF
  clear hF
  refine norm_ (a' := ?_) ?_ ?_
  rotate_left
  · simp only [putAll, Act.put, List.setIfInBounds_toArray, List.set_cons_zero, List.set_cons_succ]
    rfl
  refine one_ (i := 11) (N := some 56) #[true, true, true, true, true, true, true, true, true, true, true, true] rfl rfl (by kernel_rfl) (by decide) (fun K hK => ?_)
  refine goes_ Try.func29 (by kernel_rfl) rfl #[.pointer (some ⟨gb, 0, none⟩), v55] (by rfl) rfl rfl (by (try simp only [List.map_toArray, List.map_cons, List.map_nil]); first | done | rfl) ?_
  refine (buf_RawS w0 _ gb _ _ _ VB hS.out.pick2.pick2 (by have := hKs.out; have := hB.out.2.1; simp [nbytes_len, sby_len]; clear hS hHeld; omega) (by have := hVs.out; have := hB.out.2.2.1; clear hS hHeld; omega)).mono ?_
  rintro e wq ⟨rfl, h1⟩
  refine ⟨_, rfl, ?_⟩
  have hS := Aside0.mk h1.put1
  clear h1
  refine hK.out _ _ ⟨(hS.out.cell 0).trans rfl, (hS.out.cell 1).trans rfl⟩ (fun hHeld => ?_)
  clear hK K
  refine norm_ (a' := ?_) ?_ ?_
  rotate_left
  · show Act.put _ (some 56) _ = _
    simp only [Act.put, List.setIfInBounds_toArray, List.set_cons_zero, List.set_cons_succ, i64_w, i32_w]
    rfl
  refine done_ (by kernel_rfl) ?_
  clear hHeld hcv
  obtain ⟨L, hL⟩ : ∃ L, ehead KB VB = L := ⟨_, rfl⟩
  have hLl : Aside0 (L.length ≤ 2000000) := ⟨by have h1 := hKs.out; have h2 := hVs.out; have h3 := hB.out.2.1; have h4 := hB.out.2.2.1; clear hS; rw [← hL, ehead_len]; omega⟩
  have hLb : Bytes L := by rw [← hL]; exact ehead_bytes _ _
  have hS : Aside0 (Sep.Sep w0 wq (blk g5 #[.string KB, .string VB] 62 :: buf gb L :: cur g l (a8 + k + v) true :: blk w.heap.size #[.string ⟨#[]⟩, .string ⟨#[]⟩] 62 :: ps)) := ⟨by
    have := hS.out
    rw [← hL]
    unfold ehead
    rw [hKs.out, hVs.out]
    simpa using this⟩
  obtain ⟨ts, hts⟩ : ∃ ts, tsum 0 L = ts := ⟨_, rfl⟩
  have hTS : thin_Sum.f 0 L = some (ts : Int) := by
    unfold thin_Sum.f
    rw [if_pos ⟨by decide, by decide, (bytesOK_iff L).2 hLb⟩, ← hts]
    rfl
  have hTS := Aside0.mk hTS
  obtain ⟨y, hy⟩ : ∃ y, lev ((l.take (a8 + k + v + 4)).drop (a8 + k + v)) = y := ⟨_, rfl⟩
  obtain ⟨q, hq⟩ : ∃ q, ((ts : Int) == y) = q := ⟨_, rfl⟩
  have hRE : RE = if q = true then .ok (KB, VB) (a8 + k + v + 4) else .bad 5 (a8 + k + v + 4) := by
    rw [← hREA.out]
    unfold eend
    rw [show at_ + 8 = a8 from ha8A.out, hKA.out, hVA.out, hL, hts]
    have hy' : lev (cut l (a8 + k + v) 4) = y := hy
    rw [hy', ← hq]
    by_cases h : (ts : Int) = y
    · rw [if_pos h, if_pos (beq_iff_eq.2 h)]
    · rw [if_neg h, if_neg (by simpa using h)]
  have hREA := Aside0.mk hRE
  have hq := Aside0.mk hq
  have hy := Aside0.mk hy
  clear hL hts hRE hLb
  go_wp2_with (first | ((with_reducible refine gate_callee (f := 31) rfl ?_); refine goesL_ (some 57) rfl rfl Try.func31 (by kernel_rfl) rfl #[.pointer (some ⟨gb, 0, none⟩)] rfl (by (try simp only [List.map_toArray, List.map_cons, List.map_nil]); first | done | rfl) ?_; (refine (buf_Bytes w0 _ gb L _ hS.out.pick1 (by have h1 := hLl.out; clear hS; omega)).mono ?_); rintro e w57 ⟨v57, rfl, h1⟩; refine ⟨_, rfl, ?_⟩; obtain ⟨bs, hR⟩ := h1.row_R; obtain ⟨A57, c57, rfl⟩ := Kd.R_slice hR; have hS57 := Aside0.mk h1.pick3; clear h1 hR) | ((with_reducible refine gate_callee (f := 34) rfl ?_); refine goesL_ (some 59) rfl rfl Try.func34 (by kernel_rfl) rfl #[.pointer (some ⟨g, 0, none⟩)] rfl (by (try simp only [List.map_toArray, List.map_cons, List.map_nil]); first | done | rfl) ?_; (refine (cur_Four_some w0 _ g (a8 + k + v) l _ hS57.out hb hl htf.out).mono ?_); rw [hy.out]; rintro e w59 ⟨rfl, h1⟩; refine ⟨_, rfl, ?_⟩; have hS59 := Aside0.mk h1.pick1; obtain ⟨bs, hR⟩ := hS59.out.row_R; have hC59 := Aside0.mk (Kd.R_reads' hR); clear h1 hR))
  refine (thin_check _ A57 c57 L _ ts y q hC59.out.2.2 hC59.out.2.1 hTS.out hq.out).mono ?_
  rintro e w60 ⟨rfl, h1⟩
  have hS60 := Aside0.mk (hS59.out.below h1).pick1
  clear h1
  cases q
  · have hRb : Aside0 (RE = .bad 5 (a8 + k + v + 4)) := ⟨hREA.out⟩
    go_wp2_with (fail)
    refine (cur_Fail w0 _ g (a8 + k + v + 4) l _ 5 hS60.out (by decide)).mono ?_
    rintro e w61 ⟨rfl, h2⟩
    refine ⟨rfl, ?_⟩
    rw [hRb.out]
    exact ⟨rfl, h2.pickR0 [_, _, _, _]⟩
  · have hRb : Aside0 (RE = .ok (KB, VB) (a8 + k + v + 4)) := ⟨hREA.out⟩
    have hg5 := hS60.out.pick3
    have hc0 : w60.cell? ⟨g5, 0, none⟩ = some (.string KB) := (hg5.cell 0).trans rfl
    have hc1 : w60.cell? ⟨g5, 1, none⟩ = some (.string VB) := (hg5.cell 1).trans rfl
    have hgr := hS60.out.pick4
    have hd0 : w60.cell? ⟨w.heap.size, 0, none⟩ = some (.string ⟨#[]⟩) := (hgr.cell 0).trans rfl
    have hd1 : w60.cell? ⟨w.heap.size, 1, none⟩ = some (.string ⟨#[]⟩) := (hgr.cell 1).trans rfl
    have hz0 := hgr.frozen 0
    have hz1 := hgr.frozen 1
    have hs0 := hgr.set 0 (.string KB)
    have hd2 : (w60.setCell ⟨w.heap.size, 0, none⟩ (.string KB)).cell? ⟨w.heap.size, 1, none⟩ = some (.string ⟨#[]⟩) := (hs0.cell 1).trans rfl
    have hz2 := hs0.frozen 1
    have hs1 := Aside0.mk (hs0.set 1 (.string VB))
    clear hg5 hgr hs0
    go_wp2
    have h3 := hs1.out
    simp only [List.setIfInBounds_toArray, List.set_cons_zero, List.set_cons_succ] at h3
    refine bodyPost_ret (results_c (P := Try.prog) Try.results69 _ _ w.heap.size 62 _ (0, 0) _ rfl h3.blk_at.1 hu62 rfl (by kernel_rfl)) rfl ?_
    rw [hRb.out]
    exact ⟨rfl, h3.pick1.pickR0 [_, _, _, _]⟩

end Go.Proofs.Ytmlodmpkcbncjaa.G

/- elder.one: the next pair. -/
set_option linter.unusedVariables false
set_option linter.unusedSimpArgs false
namespace Go.Proofs.Ytmlodmpkcbncjaa.G
open Go Go.RowKit Go.Proofs.YtmlodmpkcbncjaaW.PrintWords Go.Proofs.YtmlodmpkcbncjaaW.PrintLast Go.Proofs.YtmlodmpkcbncjaaW.PrintMore Go.Proofs.Ytmlodmpkcbncjaa.PureKit Go.Proofs.Ytmlodmpkcbncjaa.Sep Go.Proofs.Ytmlodmpkcbncjaa.Rol

theorem ew (k : Nat) (h : k ≤ 10000000) : IntKind.i64.wrap (k : Int) = (k : Int) ∧ wrap64 (k : Int) = (k : Int) ∧ IntKind.u64.wrap (k : Int) = (k : Int) :=
  ⟨by rw [i64_w, w64 (by omega) (by omega)], w64 (by omega) (by omega), wu64 (by omega) (by omega)⟩

set_option maxHeartbeats 1000000 in
set_option maxRecDepth 100000 in
theorem elder_one (w0 w : World) (g at_ : Nat) (l : List Int) (ps : List HP) (hs : Sep.Sep w0 w (cur g l at_ true :: ps)) (hb : Bytes l) (hat : at_ ≤ l.length) (hl : l.length ≤ 1000000000000) :
    Calls Try.prog 69 #[.pointer (some ⟨g, 0, none⟩)] w fun e w' => (eone l at_).post epair w0 g l ps e w' := by
  have hu62 := Try.underlying62
  have hs0 := Aside0.mk hs
  have hS := Aside0.mk (Sep.put1 (hs.alloc #[.string ⟨#[]⟩, .string ⟨#[]⟩] 62))
  clear hs
  unfold eone
  by_cases c8 : l.length < at_ + 8
  · rw [if_pos c8]
    have e1 : decide ((l.length : Int) - (at_ : Int) < 8) = true := decide_eq_true (by omega)
    go_enter Try.func69, Try.ntmps69
    go_wp2_with (first | ((with_reducible refine gate_callee (f := 62) rfl ?_); refine goesL_ (some 8) rfl rfl Try.func62 (by kernel_rfl) rfl #[.pointer (some ⟨g, 0, none⟩)] rfl (by (try simp only [List.map_toArray, List.map_cons, List.map_nil]); first | done | rfl) ?_; (refine (cur_Left w0 _ g at_ l _ hS.out hat hl).mono ?_); rintro e w1 ⟨rfl, h1⟩; refine ⟨_, rfl, ?_⟩; have hS1 := Aside0.mk h1; clear h1))
    refine (cur_Fail w0 _ g at_ l _ 2 hS1.out (by decide)).mono ?_
    rintro e w2 ⟨rfl, h2⟩
    exact ⟨rfl, rfl, h2.pick1.tail⟩
  rw [if_neg c8]
  have e1 : decide ((l.length : Int) - (at_ : Int) < 8) = false := decide_eq_false (by omega)
  have hk4 : at_ + 4 ≤ l.length := by omega
  have hv4 : at_ + 4 + 4 ≤ l.length := by omega
  have hkb := lev_lt l at_ 4 hb hk4
  have hvb := lev_lt l (at_ + 4) 4 hb hv4
  have h4 : (256 : Int) ^ 4 = 4294967296 := by decide
  rw [h4] at hkb hvb
  obtain ⟨k, hk⟩ : ∃ k : Nat, lev ((l.take (at_ + 4)).drop at_) = (k : Int) := ⟨_, (Int.toNat_of_nonneg hkb.1).symm⟩
  obtain ⟨v, hv⟩ : ∃ v : Nat, lev ((l.take (at_ + 4 + 4)).drop (at_ + 4)) = (v : Int) := ⟨_, (Int.toNat_of_nonneg hvb.1).symm⟩
  have hkA := Aside0.mk hk
  have hvA := Aside0.mk hv
  have hk' : lev (cut l at_ 4) = (k : Int) := hk
  have hv' : lev (cut l (at_ + 4) 4) = (v : Int) := hv
  rw [hk', hv', Int.toNat_natCast, Int.toNat_natCast]
  have hkl : k < 4294967296 := by rw [hk] at hkb; omega
  have hvl : v < 4294967296 := by rw [hv] at hvb; omega
  have hev := elen_ev k v
  clear hk hv hk' hv' hkb hvb h4 c8
  unfold emid
  by_cases cE : elen k v = 0
  case neg =>
    rw [if_pos cE]
    generalize elen k v = er at *
    go_enter Try.func69, Try.ntmps69
    go_wp2_with (first | ((with_reducible refine gate_callee (f := 62) rfl ?_); refine goesL_ (some 8) rfl rfl Try.func62 (by kernel_rfl) rfl #[.pointer (some ⟨g, 0, none⟩)] rfl (by (try simp only [List.map_toArray, List.map_cons, List.map_nil]); first | done | rfl) ?_; (refine (cur_Left w0 _ g at_ l _ hS.out hat hl).mono ?_); rintro e w1 ⟨rfl, h1⟩; refine ⟨_, rfl, ?_⟩; have hS1 := Aside0.mk h1; clear h1) | ((with_reducible refine gate_callee (f := 34) rfl ?_); refine goesL_ (some 13) rfl rfl Try.func34 (by kernel_rfl) rfl #[.pointer (some ⟨g, 0, none⟩)] rfl (by (try simp only [List.map_toArray, List.map_cons, List.map_nil]); first | done | rfl) ?_; (refine (cur_Four_some w0 _ g at_ l _ hS1.out hb hl hk4).mono ?_); rw [hkA.out]; rintro e w2 ⟨rfl, h1⟩; refine ⟨_, rfl, ?_⟩; have hS2 := Aside0.mk h1; clear h1) | ((with_reducible refine gate_callee (f := 34) rfl ?_); refine goesL_ (some 15) rfl rfl Try.func34 (by kernel_rfl) rfl #[.pointer (some ⟨g, 0, none⟩)] rfl (by (try simp only [List.map_toArray, List.map_cons, List.map_nil]); first | done | rfl) ?_; (refine (cur_Four_some w0 _ g (at_ + 4) l _ hS2.out hb hl hv4).mono ?_); rw [hvA.out]; rintro e w3 ⟨rfl, h1⟩; refine ⟨_, rfl, ?_⟩; have hS3 := Aside0.mk h1; clear h1) | ((with_reducible refine gate_callee (f := 67) rfl ?_); refine goesL_ (some 21) rfl rfl Try.func67 (by kernel_rfl) rfl #[.int .u64 (k : Int), .int .u64 (v : Int)] rfl (by (try simp only [List.map_toArray, List.map_cons, List.map_nil]); first | done | rfl) ?_; (refine (elder_lengths.calls (k : Int) (v : Int) er _ hev).mono ?_); rintro e w4 ⟨rfl, ⟨n4, rfl⟩⟩; refine ⟨_, rfl, ?_⟩; have hS4 := Aside0.mk (hS3.out.drewN n4)))
    refine (cur_Fail w0 _ g (at_ + 4 + 4) l _ er hS4.out cE).mono ?_
    rintro e w2 ⟨rfl, h2⟩
    exact ⟨rfl, rfl, h2.pick1.tail⟩
  rw [if_neg (by rw [cE]; simp)]
  have hz := elen_sizes cE
  rw [cE] at hev
  obtain ⟨hk0, hks, hvs⟩ := hz
  obtain ⟨a8, ha8⟩ : ∃ a8, at_ + 4 + 4 = a8 := ⟨_, rfl⟩
  have ha8' : at_ + 8 = a8 := ha8
  rw [ha8']
  have ha8l : a8 ≤ l.length := ha8 ▸ hv4
  have ha8A := Aside0.mk ha8
  clear cE ha8 ha8'
  by_cases c12 : l.length < a8 + (k + v + 4)
  · rw [if_pos c12]
    have hB := Aside0.mk (And.intro hks (And.intro hvs c12))
    have ha8lA := Aside0.mk ha8l
    clear hk0 hks hvs c12 ha8l
    go_enter Try.func69, Try.ntmps69
    go_wp2_with (first | ((with_reducible refine gate_callee (f := 62) rfl ?_); refine goesL_ (some 8) rfl rfl Try.func62 (by kernel_rfl) rfl #[.pointer (some ⟨g, 0, none⟩)] rfl (by (try simp only [List.map_toArray, List.map_cons, List.map_nil]); first | done | rfl) ?_; (refine (cur_Left w0 _ g at_ l _ hS.out hat hl).mono ?_); rintro e w1 ⟨rfl, h1⟩; refine ⟨_, rfl, ?_⟩; have hS1 := Aside0.mk h1; clear h1) | ((with_reducible refine gate_callee (f := 34) rfl ?_); refine goesL_ (some 13) rfl rfl Try.func34 (by kernel_rfl) rfl #[.pointer (some ⟨g, 0, none⟩)] rfl (by (try simp only [List.map_toArray, List.map_cons, List.map_nil]); first | done | rfl) ?_; (refine (cur_Four_some w0 _ g at_ l _ hS1.out hb hl hk4).mono ?_); rw [hkA.out]; rintro e w2 ⟨rfl, h1⟩; refine ⟨_, rfl, ?_⟩; have hS2 := Aside0.mk h1; clear h1) | ((with_reducible refine gate_callee (f := 34) rfl ?_); refine goesL_ (some 15) rfl rfl Try.func34 (by kernel_rfl) rfl #[.pointer (some ⟨g, 0, none⟩)] rfl (by (try simp only [List.map_toArray, List.map_cons, List.map_nil]); first | done | rfl) ?_; (refine (cur_Four_some w0 _ g (at_ + 4) l _ hS2.out hb hl hv4).mono ?_); rw [hvA.out, ha8A.out]; rintro e w3 ⟨rfl, h1⟩; refine ⟨_, rfl, ?_⟩; have hS3 := Aside0.mk h1; clear h1) | ((with_reducible refine gate_callee (f := 67) rfl ?_); refine goesL_ (some 21) rfl rfl Try.func67 (by kernel_rfl) rfl #[.int .u64 (k : Int), .int .u64 (v : Int)] rfl (by (try simp only [List.map_toArray, List.map_cons, List.map_nil]); first | done | rfl) ?_; (refine (elder_lengths.calls (k : Int) (v : Int) 0 _ hev).mono ?_); rintro e w4 ⟨rfl, ⟨n4, rfl⟩⟩; refine ⟨_, rfl, ?_⟩; have hS4 := Aside0.mk (hS3.out.drewN n4)))
    refine (cur_Fail_zero w0 _ g a8 l _ hS4.out).mono ?_
    rintro e w5 ⟨rfl, h1⟩
    have hS5 := Aside0.mk h1
    clear h1
    obtain ⟨hks, hvs, c12⟩ := hB.out
    have e2 := room_no l.length a8 k v c12
    obtain ⟨wk, wk2, uk⟩ := ew k (Nat.le_trans hks (by decide))
    obtain ⟨wv, wv2, uv⟩ := ew v (Nat.le_trans hvs (by decide))
    have wkv : wrap64 ((k : Int) + (v : Int)) = (k : Int) + (v : Int) := (ew (k + v) (Nat.le_trans (Nat.add_le_add hks hvs) (by decide))).2.1
    have wkv4 : wrap64 ((k : Int) + (v : Int) + 4) = (k : Int) + (v : Int) + 4 := (ew (k + v + 4) (Nat.le_trans (Nat.add_le_add_right (Nat.add_le_add hks hvs) 4) (by decide))).2.1
    clear hks hvs c12
    go_wp2_with (fail)
    refine (cur_Left w0 _ g a8 l _ hS5.out ha8lA.out hl).mono ?_
    rintro e w6 ⟨rfl, h1⟩
    have hS6 := Aside0.mk h1
    clear h1
    clear hat hk4 hv4 hl e1 hev hkl hvl
    go_wp2_with (fail)
    refine (cur_Fail w0 _ g a8 l _ 2 hS6.out (by decide)).mono ?_
    rintro e w2 ⟨rfl, h2⟩
    exact ⟨rfl, rfl, h2.pick1.tail⟩
  rw [if_neg c12]
  exact elder_one_end w0 w g at_ a8 k v l ps hs0.out hb hat hl hk4 hv4 hkA hvA hev hk0 hks hvs ha8A ha8l (Nat.le_of_not_lt c12)

end Go.Proofs.Ytmlodmpkcbncjaa.G

/- elder.Get: the first pair of bytes. -/
set_option linter.unusedVariables false
set_option linter.unusedSimpArgs false
namespace Go.Proofs.Ytmlodmpkcbncjaa.G
open Go Go.RowKit Go.Proofs.YtmlodmpkcbncjaaW.PrintWords Go.Proofs.YtmlodmpkcbncjaaW.PrintLast Go.Proofs.YtmlodmpkcbncjaaW.PrintMore Go.Proofs.Ytmlodmpkcbncjaa.PureKit Go.Proofs.Ytmlodmpkcbncjaa.Sep Go.Proofs.Ytmlodmpkcbncjaa.Rol

theorem eone_bad {l : List Int} {a : Nat} {e : Int} {a2 : Nat} (h : eone l a = .bad e a2) : e ≠ 0 := by
  unfold eone at h
  split at h
  · cases h; decide
  · unfold emid at h
    split at h
    · rename_i hne
      cases h
      exact hne
    · split at h
      · cases h; decide
      · unfold eend at h
        split at h
        · cases h
        · cases h; decide
def eget1 (gr : Nat) (r : Res (ByteArray × ByteArray)) (at2 : Nat) (x : Int) (qs : List HP) : Prop :=
  ∃ k v, qs = [blk gr #[.string k, .string v] 62] ∧ match r with | .ok y a => x = 0 ∧ at2 = a ∧ (k, v) = y | .bad er a => x = er ∧ at2 = a

def egpost (w0 : World) (g gr : Nat) (l : List Int) (ps : List HP) (r : Res (ByteArray × ByteArray)) (e : Ending) (w2 : World) : Prop :=
  ∃ (at2 : Nat) (x : Int) (qs : List HP), eget1 gr r at2 x qs ∧ Sep.Sep w0 w2 (cur g l at2 true :: (qs ++ ps)) ∧ ((e = .returned (.tuple #[]) ∧ x = 0) ∨ e = .panicked [fault g x])

set_option maxHeartbeats 1000000 in
set_option maxRecDepth 100000 in
theorem elder_Get1 (w0 w : World) (g gr : Nat) (l : List Int) (ps : List HP) (hs : Sep.Sep w0 w (cur g l 0 true :: blk gr #[.string ⟨#[]⟩, .string ⟨#[]⟩] 62 :: ps)) (hb : Bytes l) (hl : l.length ≤ 1000000000000) :
    Calls Try.prog 68 #[.pointer (some ⟨g, 0, none⟩), .pointer (some ⟨gr, 0, none⟩)] w fun e w2 => egpost w0 g gr l ps (eone l 0) e w2 := by
  have hS := Aside0.mk hs
  clear hs
  have hu62 := Try.underlying62
  have hone := Aside0.mk (fun W (h : Sep.Sep w0 W (cur g l 0 true :: blk gr #[.string ⟨#[]⟩, .string ⟨#[]⟩] 62 :: ps)) => elder_one w0 W g 0 l _ h hb (Nat.zero_le _) hl)
  clear hb hl
  cases hr : eone l 0 with
  | bad er a =>
    rw [hr] at hone
    go_enter Try.func68, Try.ntmps68
    go_wp2_with (fail)
    refine (hone.out _ hS.out).mono ?_
    rintro e w1 ⟨rfl, h1⟩
    exact ⟨rfl, a, er, _, ⟨_, _, rfl, rfl, rfl⟩, h1, .inr rfl⟩
  | ok y a =>
    rw [hr] at hone
    obtain ⟨k, v⟩ := y
    go_enter Try.func68, Try.ntmps68
    go_wp2_with (fail)
    refine (hone.out _ hS.out).mono ?_
    rintro e w1 ⟨rfl, h1⟩
    unfold epair
    have hg := h1.pick1
    have hd0 : w1.cell? ⟨gr, 0, none⟩ = some (.string ⟨#[]⟩) := (hg.cell 0).trans rfl
    have hd1 : w1.cell? ⟨gr, 1, none⟩ = some (.string ⟨#[]⟩) := (hg.cell 1).trans rfl
    have hz0 := hg.frozen 0
    have hz1 := hg.frozen 1
    have hs0 := hg.set 0 (.string k)
    have hd2 : (w1.setCell ⟨gr, 0, none⟩ (.string k)).cell? ⟨gr, 1, none⟩ = some (.string ⟨#[]⟩) := (hs0.cell 1).trans rfl
    have hz2 := hs0.frozen 1
    have hs1 := hs0.set 1 (.string v)
    simp only [List.setIfInBounds_toArray, List.set_cons_zero, List.set_cons_succ] at hs1
    have hs1 := Aside0.mk hs1.put1
    clear hg h1 hs0
    go_wp2_with (fail)
    go_end0
    exact ⟨a, 0, _, ⟨k, v, rfl, rfl, rfl, rfl⟩, hs1.out, .inl ⟨rfl, rfl⟩⟩

def ebytesb (l : List Int) : Bool := l.all fun x => decide (0 ≤ x ∧ x ≤ 255)
theorem ebytesb_iff (l : List Int) : ebytesb l = true ↔ Bytes l := by
  unfold ebytesb
  rw [List.all_eq_true]
  exact ⟨fun h x hx => of_decide_eq_true (h x hx), fun h x hx => decide_eq_true (h x hx)⟩
def eout (r : Res (ByteArray × ByteArray)) : ByteArray × ByteArray × Int × Int :=
  match r with
  | .ok (k, v) a => (k, v, (a : Int), 0)
  | .bad e _ => (⟨#[]⟩, ⟨#[]⟩, 0, e)
def elder_Get.f (l0 : List Int) : Option (ByteArray × ByteArray × Int × Int) := if ebytesb l0 = true ∧ l0.length ≤ 1000000000000 then some (eout (eone l0 0)) else none

set_option maxHeartbeats 2000000 in
set_option maxRecDepth 100000 in
theorem elder_Get.calls (A0 : Option Addr) (c0 : Nat) (l0 : List Int) (r1 r2 : ByteArray) (r3 r4 : Int) (w : World) (hr0 : Kd.C (Kd.int .u8) w A0 l0.length l0) (hc0 : l0.length ≤ c0) (h : elder_Get.f l0 = some (r1, r2, r3, r4)) :
    Calls Try.prog 43 #[.slice A0 l0.length c0] w fun e w' => e = .returned (.tuple #[.agg #[.string r1, .string r2], .int .i64 r3, .int .i64 r4]) ∧ Below w.heap.size w w' := by
  have hu62 := Try.underlying62
  obtain ⟨hb, hl, hro⟩ : Bytes l0 ∧ l0.length ≤ 1000000000000 ∧ eout (eone l0 0) = (r1, r2, r3, r4) := by
    unfold elder_Get.f at h
    split at h
    · rename_i hh
      exact ⟨(ebytesb_iff l0).1 hh.1, hh.2, Option.some.inj h⟩
    · cases h
  clear h
  have hS := Aside0.mk ((Sep.start w).alloc #[.string ⟨#[]⟩, .string ⟨#[]⟩] 62)
  have hR := Aside0.mk hr0
  clear hr0
  have hmf : ∀ (fn : Fn) (first cap : Array Value) (w : World), (Instr.makeFunc fn first cap).run Try.prog w = .ok (.func fn first cap) w := fun _ _ _ _ => rfl
  go_enter Try.func43, Try.ntmps43
  go_wp2_with (fail)
  refine (run_calls w _ A0 c0 l0 68 #[.pointer (some ⟨w.heap.size, 0, none⟩)] [blk w.heap.size #[.string ⟨#[]⟩, .string ⟨#[]⟩] 62] []
    (fun at2 x qs => eget1 w.heap.size (eone l0 0) at2 x qs)
    Try.call68 hS.out (Kd.C_alloc hR.out _) hc0 hl (fun w1 g ps' h1 => elder_Get1 w w1 g w.heap.size l0 ps' h1 hb hl)).mono ?_
  rintro e w2 ⟨at2, x, qs, ⟨k, v, rfl, hm⟩, rfl, h2⟩
  have h2A := Aside0.mk h2
  have hc2_0 : w2.cell? ⟨w.heap.size, 0, none⟩ = some (.string k) := ((h2).cell 0).trans rfl; have hc2_1 : w2.cell? ⟨w.heap.size, 1, none⟩ = some (.string v) := ((h2).cell 1).trans rfl
  have hz0 := h2.frozen 0
  have hz1 := h2.frozen 1
  clear h2 hS hR
  cases hrr : eone l0 0 with
  | bad er a =>
    rw [hrr] at hm hro
    obtain ⟨rfl, rfl⟩ := hm
    have hx := eone_bad hrr
    have e1 : (x != 0) = true := bne_iff_ne.2 hx
    clear hrr
    go_wp2
    have h3 := ((h2A.out.set 0 (.string ⟨#[]⟩)).set 1 (.string ⟨#[]⟩))
    simp only [List.setIfInBounds_toArray, List.set_cons_zero, List.set_cons_succ] at h3
    try simp only [Exit.inBlock, Exit.then]
    refine bodyPost_ret (results_ctt (P := Try.prog) Try.results43 _ _ w.heap.size 62 _ (0, 0) _ rfl h3.blk_at.1 hu62 rfl (by kernel_rfl)) rfl ?_
    refine ⟨?_, h3.1⟩
    cases hro
    rfl
  | ok y a =>
    rw [hrr] at hm hro
    obtain ⟨rfl, rfl, rfl⟩ := hm
    clear hrr
    go_wp2
    have h3 := ((h2A.out.set 0 (.string k)).set 1 (.string v))
    simp only [List.setIfInBounds_toArray, List.set_cons_zero, List.set_cons_succ] at h3
    try simp only [Exit.inBlock, Exit.then]
    refine bodyPost_ret (results_ctt (P := Try.prog) Try.results43 _ _ w.heap.size 62 _ (0, 0) _ rfl h3.blk_at.1 hu62 rfl (by kernel_rfl)) rfl ?_
    refine ⟨?_, h3.1⟩
    cases hro
    rfl

end Go.Proofs.Ytmlodmpkcbncjaa.G

/- elder.PutAll: pairs, one behind the other. -/
set_option linter.unusedVariables false
set_option linter.unusedSimpArgs false
namespace Go.Proofs.Ytmlodmpkcbncjaa.G
open Go Go.RowKit Go.Proofs.YtmlodmpkcbncjaaW.PrintWords Go.Proofs.YtmlodmpkcbncjaaW.PrintLast Go.Proofs.YtmlodmpkcbncjaaW.PrintMore Go.Proofs.Ytmlodmpkcbncjaa.PureKit Go.Proofs.Ytmlodmpkcbncjaa.Sep Go.Proofs.Ytmlodmpkcbncjaa.Rol

def epa : List S62 → List Int → List Int × Int
  | [], acc => (acc, 0)
  | p :: ps, acc => if echeck p.f0 p.f1 = 0 then epa ps (acc ++ ebytes p.f0 p.f1) else ([], echeck p.f0 p.f1)
def eok (l : List S62) : Bool := l.all fun p => decide (p.f0.size ≤ 9223372036854775807 ∧ p.f1.size ≤ 9223372036854775807)
def elder_PutAll.f (l0 : List S62) : Option (List Int × Int) := if l0.length ≤ 100000 ∧ eok l0 = true then some (epa l0 []) else none
theorem ebytes_small {k v : ByteArray} (h : echeck k v = 0) : (ebytes k v).length ≤ 1060000 := by
  have hz := echeck_sizes h
  unfold ebytes
  rw [List.length_append, ehead_len, nbytes_len]
  omega
theorem ebytes_bts (k v : ByteArray) : Bytes (ebytes k v) := Bytes.app (ehead_bytes k v) (nbytes_bytes 4 _)

set_option maxHeartbeats 1000000 in
set_option maxRecDepth 100000 in
theorem elder_PutAll.calls (A0 : Option Addr) (c0 : Nat) (l0 : List S62) (r0 : List Int) (r1 : Int) (w : World) (hr0 : Kd.C k62 w A0 l0.length l0) (hc0 : l0.length ≤ c0) (h : elder_PutAll.f l0 = some (r0, r1)) :
    Calls Try.prog 49 #[.slice A0 l0.length c0] w fun e w' => ∃ v0_ : Value, e = .returned (.tuple #[v0_, .int .i64 r1]) ∧ Kd.R (Kd.int .u8) 5 w' w.heap.size (fun _ => True) v0_ r0 ∧ Below w.heap.size w w' := by
  have hu62 := Try.underlying62
  obtain ⟨hl, hok, hro⟩ : l0.length ≤ 100000 ∧ eok l0 = true ∧ epa l0 [] = (r0, r1) := by
    unfold elder_PutAll.f at h
    split at h
    · rename_i hh
      exact ⟨hh.1, hh.2, Option.some.inj h⟩
    · cases h
  clear h
  have hok := Aside0.mk (show ∀ p ∈ l0, p.f0.size ≤ 9223372036854775807 ∧ p.f1.size ≤ 9223372036854775807 from fun p hp => of_decide_eq_true (List.all_eq_true.1 hok p hp))
  have hR := Aside0.mk hr0
  have hS := Aside0.mk (Sep.start w).buf_new
  have hro := Aside0.mk hro
  have hl := Aside0.mk hl
  clear hr0 hc0
  go_enter Try.func49, Try.ntmps49
  go_wp2_with (fail)
  generalize hw1 : w.alloc (.cells #[.slice none 0 0] 48 (0, 0)) = w1 at hS ⊢
  clear hw1
  go_loopg [11] l0.length (fun kq v11 w' => ∃ (i : Nat) (acc : List Int), v11 = .int .i64 i ∧ Aside0 (i + kq = l0.length ∧ acc.length ≤ 1060000 * i ∧ epa (l0.drop i) acc = (r0, r1)) ∧ Aside0 (Sep.Sep w w' [buf w.heap.size acc]))
  case atStart => exact ⟨0, [], rfl, ⟨by omega, by simp, hro.out⟩, hS⟩
  case round =>
    obtain ⟨i, acc, rfl, hA, hS⟩ := hrel
    by_cases hin : i < l0.length
    · have hd : decide ((i : Int) < (l0.length : Int)) = true := decide_eq_true (by omega)
      obtain ⟨k1, rfl⟩ : ∃ k1, gk = k1 + 1 := ⟨gk - 1, by have := hA.out.1; omega⟩
      obtain ⟨ad, e0, hx0, hx1⟩ := at_T62 hR.out (i : Int) (by omega) (by omega)
      cases e0
      have hxe : rd_T62 l0 (i : Int) = l0[i] := by
        unfold rd_T62
        rw [Int.toNat_natCast, List.getD_eq_getElem?_getD, List.getElem?_eq_getElem hin]
        rfl
      rw [hxe, Int.toNat_natCast] at hx0 hx1
      replace hx0 := (hS.out.1.cell (World.block_lt_of_cell? w _ hx0)).trans hx0
      replace hx1 := (hS.out.1.cell (World.block_lt_of_cell? w _ hx1)).trans hx1
      have hp := hok.out l0[i] (List.getElem_mem hin)
      have hdr : l0.drop i = l0[i] :: l0.drop (i + 1) := List.drop_eq_getElem_cons hin
      obtain ⟨p, hpe⟩ : ∃ p, l0[i] = p := ⟨_, rfl⟩
      rw [hpe] at hx0 hx1 hp hdr
      obtain ⟨KB, VB⟩ := p
      obtain ⟨h1, h2, h3⟩ := hA.out
      rw [hdr] at h3
      have h3 : (if echeck KB VB = 0 then epa (l0.drop (i + 1)) (acc ++ ebytes KB VB) else ([], echeck KB VB)) = (r0, r1) := h3
      have hacc : Aside0 (acc.length ≤ 106000000000) := ⟨by have := hl.out; omega⟩
      have hput : ∃ x5, elder_Put.f KB VB = some (x5, echeck KB VB) ∧ (echeck KB VB = 0 → x5 = ebytes KB VB) := by
        unfold elder_Put.f
        rw [if_pos hp]
        by_cases hc : echeck KB VB = 0
        · rw [if_pos hc]
          exact ⟨_, by rw [hc], fun _ => rfl⟩
        · rw [if_neg hc]
          exact ⟨_, rfl, fun h => absurd h hc⟩
      obtain ⟨x5, hput, hx5⟩ := hput
      have hput := Aside0.mk hput
      have p0 : ((0 : Int) ≤ (i : Int)) = True := eq_true (by omega)
      have q0 : ((i : Int) < (l0.length : Int)) = True := eq_true (by omega)
      have h1A := Aside0.mk h1
      have h2A := Aside0.mk h2
      have h3A := Aside0.mk h3
      have hx5 := Aside0.mk hx5
      clear hdr hxe hp hpe h1 h2 h3
      go_wp2_with (fail)
      have hS2 := Aside0.mk (hS.out.alloc #[.string KB, .string VB] 62)
      generalize wr.alloc (.cells #[.string KB, .string VB] 62 (0, 0)) = w2 at hS2 ⊢
      refine (elder_Put.calls KB VB _ _ _ hput.out).mono ?_
      rintro e w3 ⟨v3, rfl, hR3, hB3⟩
      obtain ⟨A3, c3, rfl⟩ := Kd.R_slice hR3
      have hS3 := Aside0.mk (hS2.out.row_new hB3 hR3)
      have hC3 := Aside0.mk (Kd.R_reads' hR3)
      clear hx0 hx1 hR3 hB3
      by_cases hc : echeck KB VB = 0
      · rw [if_pos hc] at h3A
        have h5 := hx5.out hc
        have h5l : Aside0 (x5.length ≤ 1060000) := ⟨by rw [h5]; exact ebytes_small hc⟩
        have h5A := Aside0.mk h5
        rw [hc]
        clear h5 hc
        go_wp2_with (fail)
        refine (buf_Raw w _ w.heap.size acc _ A3 x5.length c3 x5 hS3.out.pick2 hC3.out.2.2 rfl (by have := hacc.out; clear hS hS2 hS3; omega) (by have := h5l.out; clear hS hS2 hS3; omega)).mono ?_
        rintro e w4 ⟨rfl, h4⟩
        have hS4 := Aside0.mk h4
        clear h4
        go_wp2_with (fail)
        go_roundg k1
        case measure => omega
        case rel =>
          refine ⟨i + 1, acc ++ x5, by simp, ⟨by have := h1A.out; omega, ?_, ?_⟩, ⟨hS4.out.pickR0 [_, _]⟩⟩
          · rw [List.length_append]
            have := h2A.out
            have := h5l.out
            omega
          · rw [h5A.out]
            exact h3A.out
      · rw [if_neg hc] at h3A
        obtain ⟨rfl, rfl⟩ : ([] : List Int) = r0 ∧ echeck KB VB = r1 := by
          have := h3A.out
          cases this
          exact ⟨rfl, rfl⟩
        have e1 : (echeck KB VB != 0) = true := bne_iff_ne.2 hc
        clear hc
        go_wp2_with (fail)
        go_ret2
        exact ⟨_, rfl, Kd.R_nil _ _ _ _ _, hS3.out.1⟩
    · have hie : i = l0.length := by have := hA.out.1; omega
      have hd : decide ((i : Int) < (l0.length : Int)) = false := decide_eq_false (by omega)
      obtain ⟨h1, h2, h3⟩ := hA.out
      rw [hie, List.drop_length] at h3
      obtain ⟨rfl, rfl⟩ : acc = r0 ∧ (0 : Int) = r1 := by
        cases h3
        exact ⟨rfl, rfl⟩
      have hacc : Aside0 (acc.length ≤ 1000000000000) := ⟨by have := hl.out; omega⟩
      clear h1 h2 h3
      go_wp2_with (fail)
      refine (buf_Bytes w _ w.heap.size acc _ hS.out hacc.out).mono ?_
      rintro e w4 ⟨v4, rfl, h4⟩
      have hS4 := Aside0.mk h4
      clear h4
      go_wp2_with (fail)
      go_ret2
      refine ⟨_, rfl, ?_⟩
      exact hS4.out.row_out

end Go.Proofs.Ytmlodmpkcbncjaa.G
