/- TableBytes, walked. -/
import Derived.Test.YtnmdckgaljldhaaHTBytes
import Derived.Test.YtnmdckgaljldhaaHTSorted
set_option linter.unusedVariables false
set_option linter.unusedSimpArgs false
namespace Go.Proofs.Ytnmdckgaljldhaa.Fw
open Go Go.RowKit Go.Proofs.YtnmdckgaljldhaaW.PrintWords Go.Proofs.YtnmdckgaljldhaaW.PrintLast Go.Proofs.YtnmdckgaljldhaaW.PrintMore Go.Proofs.Ytnmdckgaljldhaa.PureKit Go.Proofs.Ytnmdckgaljldhaa.Sep Go.Proofs.Ytnmdckgaljldhaa.G Go.Proofs.Ytnmdckgaljldhaa.Tb
set_option maxHeartbeats 8000000
set_option maxRecDepth 100000

abbrev kR := k130
theorem tableBytes_call (A : Option Addr) (c : Nat) (l : List E1) (B : Option Addr) (cb : Nat) (b : List Int) (n : Int) (w : World) (hok : ∀ x ∈ l, OkE x) (hb : Bytes b) (hC : kE.C w A l.length l) (hc : l.length ≤ c) (hD : Kd.C (Kd.int .u8) w B b.length b) (hcb : b.length ≤ cb) :
    Calls Try.prog 15 #[.slice A l.length c, .slice B b.length cb, .int .i64 n] w fun e w' => e = .returned (.bool true) ∧ Below w.heap.size w w' := by
  have hu := Try.underlying43
  have hsz : ∀ (W : World) (o : Obj), (W.alloc o).heap.size = W.heap.size + 1 := fun W o => by show (W.heap.push _).size = _; simp
  have hmf : ∀ (fn : Fn) (first cap : Array Value) (w : World), (Instr.makeFunc fn first cap).run Try.prog w = .ok (.func fn first cap) w := fun _ _ _ _ => rfl
  have hS0 := ((Sep.start w).alloc #[.slice A l.length c] 77).alloc #[.int .i64 n] 3
  rw [hsz] at hS0
  have hS0 := Aside0.mk hS0
  have hCA := Aside0.mk hC
  have hDA := Aside0.mk hD
  have hoA := Aside0.mk hok
  have hbA := Aside0.mk hb
  have hcA := Aside0.mk (And.intro hc hcb)
  clear hC hD hok hb hc hcb
  by_cases hbig : 60 < l.length
  · have hd : decide ((l.length : Int) > 60) = true := decide_eq_true (by omega)
    have hd3 : decide (60 < l.length) = true := decide_eq_true hbig
    clear hbig
    go_enter Try.func15, Try.ntmps15
    go_wp2_with (fail)
    refine (lives11 _).mono ?_
    rintro e w1 ⟨rfl, hw1⟩
    have h1 := hS0.out.below hw1
    have hc_0 : w1.cell? ⟨w.heap.size, 0, none⟩ = some (.slice A l.length c) := ((h1.pick1).cell 0).trans rfl
    clear hw1
    go_wp2_with (fail)
    refine (lives11 _).mono ?_
    rintro e w2 ⟨rfl, hw2⟩
    have h2 := Aside0.mk (h1.below hw2)
    clear hw2 hc_0 h1
    go_wp2_with (fail)
    go_ret
    exact ⟨rfl, h2.out.1⟩
  have hd : decide ((l.length : Int) > 60) = false := decide_eq_false (by omega)
  have hd3 : decide (60 < l.length) = false := decide_eq_false hbig
  by_cases hbb : 600 < b.length
  · have he : decide ((b.length : Int) > 600) = true := decide_eq_true (by omega)
    have he3 : decide (600 < b.length) = true := decide_eq_true hbb
    clear hbig hbb
    go_enter Try.func15, Try.ntmps15
    go_wp2_with (fail)
    refine (lives11 _).mono ?_
    rintro e w1 ⟨rfl, hw1⟩
    have h1 := hS0.out.below hw1
    have hc_0 : w1.cell? ⟨w.heap.size, 0, none⟩ = some (.slice A l.length c) := ((h1.pick1).cell 0).trans rfl
    clear hw1
    go_wp2_with (fail)
    refine (lives11 _).mono ?_
    rintro e w2 ⟨rfl, hw2⟩
    have h2 := Aside0.mk (h1.below hw2)
    clear hw2 hc_0 h1
    go_wp2_with (fail)
    go_ret
    exact ⟨rfl, h2.out.1⟩
  have he : decide ((b.length : Int) > 600) = false := decide_eq_false (by omega)
  have he3 : decide (600 < b.length) = false := decide_eq_false hbb
  have hle := Aside0.mk (show l.length ≤ 60 ∧ b.length ≤ 600 by omega)
  clear hbig hbb
  go_enter Try.func15, Try.ntmps15
  go_wp2_with (fail)
  refine (lives11 _).mono ?_
  rintro e w1 ⟨rfl, hw1⟩
  have h1 := hS0.out.below hw1
  have hc_0 : w1.cell? ⟨w.heap.size, 0, none⟩ = some (.slice A l.length c) := ((h1.pick1).cell 0).trans rfl
  have hq := h1.buf_new
  have hd_0 : (w1.alloc (.cells #[.slice none 0 0] 29 (0, 0))).cell? ⟨w.heap.size, 0, none⟩ = some (.slice A l.length c) := ((hq.pick2).cell 0).trans rfl
  have hSb := Aside0.mk hq
  clear hw1 h1 hq hS0
  generalize hgl : w.heap.size = gl at *
  generalize hgb : w1.heap.size = gw at *
  go_wp2_with (fail)
  refine (table_Put w _ gw [] A c l _ hSb.out hCA.out (by have := hle.out; omega) (by decide) hoA.out).mono ?_
  rintro e w2 ⟨rfl, h2⟩
  rw [List.nil_append] at h2
  have hlen : (tbytes l).length ≤ 720 := by rw [tbytes_len]; have := hle.out; omega
  have hlA := Aside0.mk hlen
  have h3 := (h2.alloc #[.slice none 0 0] 77).pick1
  have hS3 := Aside0.mk h3
  clear h2 h3 hSb hc_0 hd_0 hlen
  go_wp2_with (fail)
  generalize hgk : w2.heap.size = gk at *
  refine (buf_Bytes w _ gw _ _ hS3.out (by have := hlA.out; omega)).mono ?_
  rintro e w4 ⟨v4, rfl, h4⟩
  obtain ⟨A4, c4, rfl, hc4, hC4⟩ := row_S h4
  have hR4 := Aside0.mk (And.intro hc4 hC4)
  have hS4 : Sep.Sep w w4 (capB gl gk A l.length c none 0 0 ++ [buf gw (tbytes l), blk (gl + 1) #[.int .i64 n] 3]) := h4.tail.pick1.pick3
  have hS4 := Aside0.mk hS4
  clear hc4 hC4 h4 hS3
  go_wp2_with (fail)
  refine (run_calls w _ A4 c4 (tbytes l) 63 #[.pointer (some ⟨gl, 0, none⟩), .pointer (some ⟨gk, 0, none⟩)] _ _ (fun at2 x qs => x = (backE l).1 ∧ ∃ (A' : Option Addr) (m c' : Nat), qs = capB gl gk A l.length c A' m c' ++ [row kE 81 (.slice A' m c') (backE l).2])
    Try.call63 hS4.out hR4.out.2 hR4.out.1 (by have := hlA.out; omega) (fun w1 g ps' h1 => clos_back w w1 g gl gk A c l ps' h1 hoA.out (by have := hle.out; omega))).mono ?_
  clear hS4 hR4
  rintro e w9 ⟨at2, x, qs, ⟨hx, A', m, c', rfl⟩, rfl, h9⟩
  have h9 : Sep.Sep w w9 [buf gw (tbytes l), blk gl #[.slice A l.length c] 77, blk gk #[.slice A' m c'] 77, row kE 81 (.slice A' m c') (backE l).2, blk (gl + 1) #[.int .i64 n] 3] := h9.pick3
  have hS := Aside0.mk h9.drew
  obtain ⟨kf, hkf⟩ := (refs_ev l (by have := hle.out; omega)).rounds
  obtain ⟨kt, hkt⟩ := (text11_ev l (by have := hle.out; omega) hoA.out).rounds
  obtain ⟨kr, hkr⟩ := (refrise_ev l (by have := hle.out; omega)).rounds
  obtain ⟨ks, hks⟩ := (same_ev l (by have := hle.out; omega)).rounds
  have hkA := Aside0.mk (And.intro hkf (And.intro hkt (And.intro hkr hks)))
  clear hkf hkt hkr hks h9
  cases hR : riseE l
  case' false =>
    rw [backE_f hR] at hx hS
    subst hx
    rw [hR] at hkA
    clear hR
    go_wp2_with (fail)
    refine start_ (n := 25) (S := fun w' => w'.cell? ⟨gl, 0, none⟩ = some (.slice A l.length c) ∧ w'.cell? ⟨gk, 0, none⟩ = some (.slice A' m c')) (ds := []) #[false, false, false, false, false, false, false, false, false, false, false, false, false, false, false, false, false, false, false, false, false, false, false, false, false] (by kernel_rfl) rfl rfl ⟨(hS.out.pick1.cell 0).trans rfl, (hS.out.pick2.cell 0).trans rfl⟩ (fun hHeld => ?_)
    generalize w9.drew = wq at hS hHeld ⊢
    refine take_ (i := 2) (N := some 39) (v := ?_) (a' := ?_) #[false, false, true, false, false, false, false, false, false, false, false, false, false, false, false, false, false, false, false, false, false, false, false, false, false] rfl rfl (by kernel_rfl) (fun _ _ _ h => h) (Or.inl ⟨by rfl, ?_⟩) hHeld ?_ ?_
    rotate_left
    · rintro w' ⟨s0, s1⟩
      go_simp
      with_reducible rfl
    rotate_left
    · simp only [Act.put, List.setIfInBounds_toArray, List.set_cons_zero, List.set_cons_succ, i64_w, i32_w]
      rfl
    refine one_ (i := 0) (N := some 37) #[true, false, true, false, false, false, false, false, false, false, false, false, false, false, false, false, false, false, false, false, false, false, false, false, false] rfl rfl (by kernel_rfl) (by decide) (fun K hK => ?_)
    refine goes_ Try.func20 (by kernel_rfl) rfl #[.pointer (some ⟨gw, 0, none⟩)] (by rfl) rfl rfl (by (try simp only [List.map_toArray, List.map_cons, List.map_nil]); first | done | rfl) ?_
    refine (buf_Bytes w _ gw _ _ hS.out (by have := hlA.out; omega)).mono ?_
    rintro e wq ⟨v37, rfl, h1⟩
    refine ⟨_, rfl, ?_⟩
    obtain ⟨A37, c37, rfl, -, -⟩ := row_S h1
    have hS := Aside0.mk h1
    clear h1
    refine hK.out _ _ ⟨(hS.out.pick2.cell 0).trans rfl, (hS.out.pick3.cell 0).trans rfl⟩ (fun hHeld => ?_)
    clear hK K
    refine norm_ (a' := ?_) ?_ ?_
    rotate_left
    · show Act.put _ (some 37) _ = _
      simp only [Act.put, List.setIfInBounds_toArray, List.set_cons_zero, List.set_cons_succ, i64_w, i32_w]
      rfl
    refine join_ (σ := Value) 20 #[true, true, true, true, true, false, false, false, false, false, false, false, false, false, false, false, false, false, false, false, false, false, false, false, false] (fun s => [(38, .string (strOfNums (tbytes l))), (40, s), (41, .string (strOfNums (tbytes l)))]) (fun s w' => Sep.Sep w w' [row (Kd.int .u8) 5 (.slice A37 (tbytes l).length c37) (tbytes l), buf gw (tbytes l), blk gl #[.slice A l.length c] 77, blk gk #[.slice A' m c'] 77, row kE 81 (.slice A' m c') [], blk (gl + 1) #[.int .i64 n] 3]) ?_ ?_
    rotate_left
    · intro hCont
      refine two_ (i := 1) (j := 3) (Ni := some 38) (Nj := some 40) #[true, true, true, false, false, false, false, false, false, false, false, false, false, false, false, false, false, false, false, false, false, false, false, false, false] #[true, false, true, true, false, false, false, false, false, false, false, false, false, false, false, false, false, false, false, false, false, false, false, false, false] rfl rfl rfl rfl (by kernel_rfl) (by decide) (by decide) (fun K hK => ?_) (fun K hK => ?_)
      · skip
        obtain ⟨bs_, hR_⟩ := hS.out.row_R
        have hcv : (Go.convert 27 9 (.slice A37 (tbytes l).length c37)).run Try.prog wq = .ok (.string (strOfNums (tbytes l))) wq := own_string (P := Try.prog) Try.underlying27 Try.underlying5 Try.underlying9 (Kd.own_of_R hR_)
        refine value_ (w1 := ?_) (v := ?_) (by rfl) rfl ?_ ?_
        rotate_left 2
        · go_simp
          constructor
          · rfl
          · rfl
        clear hcv hR_
        refine hK.out _ _ ⟨(hS.out.pick2.cell 0).trans rfl, (hS.out.pick3.cell 0).trans rfl⟩ (fun hHeld => ?_)
        clear hK K
        refine norm_ (a' := ?_) ?_ ?_
        rotate_left
        · show Act.put _ (some 38) _ = _
          simp only [Act.put, List.setIfInBounds_toArray, List.set_cons_zero, List.set_cons_succ, i64_w, i32_w]
          rfl
        refine one_ (i := 3) (N := some 40) #[true, true, true, true, false, false, false, false, false, false, false, false, false, false, false, false, false, false, false, false, false, false, false, false, false] rfl rfl (by kernel_rfl) (by decide) (fun K hK => ?_)
        refine goes_ Try.func50 (by kernel_rfl) rfl #[.slice A l.length c] (by rfl) rfl rfl (by (try simp only [List.map_toArray, List.map_cons, List.map_nil]); first | done | rfl) ?_
        refine (fasciclelaw11_Refs.calls kf A c l (refsE l) _ (Kd.C_below hCA.out hS.out.1) hcA.out.1 hkA.out.1).mono ?_
        rintro e wq ⟨v40, rfl, ho, hb⟩
        refine ⟨_, rfl, ?_⟩
        obtain ⟨A40, c40, rfl, hc40, hC40⟩ := Kd.R_reads ho
        have hC40 := Aside0.mk (And.intro hc40 hC40)
        have hS := Aside0.mk (hS.out.below hb)
        clear ho hb hc40
        refine hK.out _ _ ⟨(hS.out.pick2.cell 0).trans rfl, (hS.out.pick3.cell 0).trans rfl⟩ (fun hHeld => ?_)
        clear hK K
        refine norm_ (a' := ?_) ?_ ?_
        rotate_left
        · show Act.put _ (some 40) _ = _
          simp only [Act.put, List.setIfInBounds_toArray, List.set_cons_zero, List.set_cons_succ, i64_w, i32_w]
          rfl
        refine one_ (i := 4) (N := some 41) #[true, true, true, true, true, false, false, false, false, false, false, false, false, false, false, false, false, false, false, false, false, false, false, false, false] rfl rfl (by kernel_rfl) (by decide) (fun K hK => ?_)
        refine goes_ Try.func65 (by kernel_rfl) rfl #[.slice A40 (refsE l).length c40] (by rfl) rfl rfl (by (try simp only [List.map_toArray, List.map_cons, List.map_nil]); first | done | rfl) ?_
        refine (fascicleref11_Text.calls kt A40 c40 (refsE l) _ _ hC40.out.2 hC40.out.1 hkA.out.2.1).mono ?_
        rintro e wq ⟨rfl, hb⟩
        refine ⟨_, rfl, ?_⟩
        have hS := Aside0.mk (hS.out.below hb)
        clear hb
        refine hK.out _ _ ⟨(hS.out.pick2.cell 0).trans rfl, (hS.out.pick3.cell 0).trans rfl⟩ (fun hHeld => ?_)
        clear hK K
        refine norm_ (a' := ?_) ?_ ?_
        rotate_left
        · show Act.put _ (some 41) _ = _
          simp only [Act.put, List.setIfInBounds_toArray, List.set_cons_zero, List.set_cons_succ, i64_w, i32_w]
          rfl
        exact norm_ (by first | (simp only [putAll, Act.put, List.setIfInBounds_toArray, List.set_cons_zero, List.set_cons_succ]; done) | (simp only [putAll, Act.put, List.setIfInBounds_toArray, List.set_cons_zero, List.set_cons_succ]; rfl)) (hCont (_) _ hS.out)
      · skip
        refine goes_ Try.func50 (by kernel_rfl) rfl #[.slice A l.length c] (by rfl) rfl rfl (by (try simp only [List.map_toArray, List.map_cons, List.map_nil]); first | done | rfl) ?_
        refine (fasciclelaw11_Refs.calls kf A c l (refsE l) _ (Kd.C_below hCA.out hS.out.1) hcA.out.1 hkA.out.1).mono ?_
        rintro e wq ⟨v40, rfl, ho, hb⟩
        refine ⟨_, rfl, ?_⟩
        obtain ⟨A40, c40, rfl, hc40, hC40⟩ := Kd.R_reads ho
        have hC40 := Aside0.mk (And.intro hc40 hC40)
        have hS := Aside0.mk (hS.out.below hb)
        clear ho hb hc40
        refine hK.out _ _ ⟨(hS.out.pick2.cell 0).trans rfl, (hS.out.pick3.cell 0).trans rfl⟩ (fun hHeld => ?_)
        clear hK K
        refine norm_ (a' := ?_) ?_ ?_
        rotate_left
        · show Act.put _ (some 40) _ = _
          simp only [Act.put, List.setIfInBounds_toArray, List.set_cons_zero, List.set_cons_succ, i64_w, i32_w]
          rfl
        refine two_ (i := 1) (j := 4) (Ni := some 38) (Nj := some 41) #[true, true, true, true, false, false, false, false, false, false, false, false, false, false, false, false, false, false, false, false, false, false, false, false, false] #[true, false, true, true, true, false, false, false, false, false, false, false, false, false, false, false, false, false, false, false, false, false, false, false, false] rfl rfl rfl rfl (by kernel_rfl) (by decide) (by decide) (fun K hK => ?_) (fun K hK => ?_)
        · skip
          obtain ⟨bs_, hR_⟩ := hS.out.row_R
          have hcv : (Go.convert 27 9 (.slice A37 (tbytes l).length c37)).run Try.prog wq = .ok (.string (strOfNums (tbytes l))) wq := own_string (P := Try.prog) Try.underlying27 Try.underlying5 Try.underlying9 (Kd.own_of_R hR_)
          refine value_ (w1 := ?_) (v := ?_) (by rfl) rfl ?_ ?_
          rotate_left 2
          · go_simp
            constructor
            · rfl
            · rfl
          clear hcv hR_
          refine hK.out _ _ ⟨(hS.out.pick2.cell 0).trans rfl, (hS.out.pick3.cell 0).trans rfl⟩ (fun hHeld => ?_)
          clear hK K
          refine norm_ (a' := ?_) ?_ ?_
          rotate_left
          · show Act.put _ (some 38) _ = _
            simp only [Act.put, List.setIfInBounds_toArray, List.set_cons_zero, List.set_cons_succ, i64_w, i32_w]
            rfl
          refine one_ (i := 4) (N := some 41) #[true, true, true, true, true, false, false, false, false, false, false, false, false, false, false, false, false, false, false, false, false, false, false, false, false] rfl rfl (by kernel_rfl) (by decide) (fun K hK => ?_)
          refine goes_ Try.func65 (by kernel_rfl) rfl #[.slice A40 (refsE l).length c40] (by rfl) rfl rfl (by (try simp only [List.map_toArray, List.map_cons, List.map_nil]); first | done | rfl) ?_
          refine (fascicleref11_Text.calls kt A40 c40 (refsE l) _ _ hC40.out.2 hC40.out.1 hkA.out.2.1).mono ?_
          rintro e wq ⟨rfl, hb⟩
          refine ⟨_, rfl, ?_⟩
          have hS := Aside0.mk (hS.out.below hb)
          clear hb
          refine hK.out _ _ ⟨(hS.out.pick2.cell 0).trans rfl, (hS.out.pick3.cell 0).trans rfl⟩ (fun hHeld => ?_)
          clear hK K
          refine norm_ (a' := ?_) ?_ ?_
          rotate_left
          · show Act.put _ (some 41) _ = _
            simp only [Act.put, List.setIfInBounds_toArray, List.set_cons_zero, List.set_cons_succ, i64_w, i32_w]
            rfl
          exact norm_ (by first | (simp only [putAll, Act.put, List.setIfInBounds_toArray, List.set_cons_zero, List.set_cons_succ]; done) | (simp only [putAll, Act.put, List.setIfInBounds_toArray, List.set_cons_zero, List.set_cons_succ]; rfl)) (hCont (_) _ hS.out)
        · skip
          refine goes_ Try.func65 (by kernel_rfl) rfl #[.slice A40 (refsE l).length c40] (by rfl) rfl rfl (by (try simp only [List.map_toArray, List.map_cons, List.map_nil]); first | done | rfl) ?_
          refine (fascicleref11_Text.calls kt A40 c40 (refsE l) _ _ hC40.out.2 hC40.out.1 hkA.out.2.1).mono ?_
          rintro e wq ⟨rfl, hb⟩
          refine ⟨_, rfl, ?_⟩
          have hS := Aside0.mk (hS.out.below hb)
          clear hb
          refine hK.out _ _ ⟨(hS.out.pick2.cell 0).trans rfl, (hS.out.pick3.cell 0).trans rfl⟩ (fun hHeld => ?_)
          clear hK K
          refine norm_ (a' := ?_) ?_ ?_
          rotate_left
          · show Act.put _ (some 41) _ = _
            simp only [Act.put, List.setIfInBounds_toArray, List.set_cons_zero, List.set_cons_succ, i64_w, i32_w]
            rfl
          refine one_ (i := 1) (N := some 38) #[true, true, true, true, true, false, false, false, false, false, false, false, false, false, false, false, false, false, false, false, false, false, false, false, false] rfl rfl (by kernel_rfl) (by decide) (fun K hK => ?_)
          obtain ⟨bs_, hR_⟩ := hS.out.row_R
          have hcv : (Go.convert 27 9 (.slice A37 (tbytes l).length c37)).run Try.prog wq = .ok (.string (strOfNums (tbytes l))) wq := own_string (P := Try.prog) Try.underlying27 Try.underlying5 Try.underlying9 (Kd.own_of_R hR_)
          refine value_ (w1 := ?_) (v := ?_) (by rfl) rfl ?_ ?_
          rotate_left 2
          · go_simp
            constructor
            · rfl
            · rfl
          clear hcv hR_
          refine hK.out _ _ ⟨(hS.out.pick2.cell 0).trans rfl, (hS.out.pick3.cell 0).trans rfl⟩ (fun hHeld => ?_)
          clear hK K
          refine norm_ (a' := ?_) ?_ ?_
          rotate_left
          · show Act.put _ (some 38) _ = _
            simp only [Act.put, List.setIfInBounds_toArray, List.set_cons_zero, List.set_cons_succ, i64_w, i32_w]
            rfl
          exact norm_ (by first | (simp only [putAll, Act.put, List.setIfInBounds_toArray, List.set_cons_zero, List.set_cons_succ]; done) | (simp only [putAll, Act.put, List.setIfInBounds_toArray, List.set_cons_zero, List.set_cons_succ]; rfl)) (hCont (_) _ hS.out)
    rintro v40 wq hF
    have hHeld := And.intro ((hF.pick2.cell 0).trans rfl : wq.cell? ⟨gl, 0, none⟩ = some (.slice A l.length c)) ((hF.pick3.cell 0).trans rfl : wq.cell? ⟨gk, 0, none⟩ = some (.slice A' m c'))
    have hS := Aside0.mk hF
    clear hF
    refine norm_ (a' := ?_) ?_ ?_
    rotate_left
    · simp only [putAll, Act.put, List.setIfInBounds_toArray, List.set_cons_zero, List.set_cons_succ]
      rfl
    refine pure_ (i := 5) (N := some 42) (v := ?_) (a' := ?_) #[true, true, true, true, true, true, false, false, false, false, false, false, false, false, false, false, false, false, false, false, false, false, false, false, false] rfl rfl (by kernel_rfl) (fun _ _ _ h => h) (Or.inl ⟨by rfl, ?_⟩) ?_ ?_
    rotate_left
    · intro w'
      go_simp
      with_reducible rfl
    rotate_left
    · simp only [Act.put, List.setIfInBounds_toArray, List.set_cons_zero, List.set_cons_succ, i64_w, i32_w]
      rfl
    refine pure_ (i := 6) (N := some 43) (v := ?_) (a' := ?_) #[true, true, true, true, true, true, true, false, false, false, false, false, false, false, false, false, false, false, false, false, false, false, false, false, false] rfl rfl (by kernel_rfl) (fun _ _ _ h => h) (Or.inl ⟨by rfl, ?_⟩) ?_ ?_
    rotate_left
    · intro w'
      go_simp
      with_reducible rfl
    rotate_left
    · simp only [Act.put, List.setIfInBounds_toArray, List.set_cons_zero, List.set_cons_succ, i64_w, i32_w]
      rfl
    refine pure_ (i := 7) (N := some 44) (v := ?_) (a' := ?_) #[true, true, true, true, true, true, true, true, false, false, false, false, false, false, false, false, false, false, false, false, false, false, false, false, false] rfl rfl (by kernel_rfl) (fun _ _ _ h => h) (Or.inl ⟨by rfl, ?_⟩) ?_ ?_
    rotate_left
    · intro w'
      go_simp
      with_reducible rfl
    rotate_left
    · simp only [Act.put, List.setIfInBounds_toArray, List.set_cons_zero, List.set_cons_succ, i64_w, i32_w]
      rfl
    refine pure_ (i := 8) (N := some 45) (v := ?_) (a' := ?_) #[true, true, true, true, true, true, true, true, true, false, false, false, false, false, false, false, false, false, false, false, false, false, false, false, false] rfl rfl (by kernel_rfl) (fun _ _ _ h => h) (Or.inl ⟨by rfl, ?_⟩) ?_ ?_
    rotate_left
    · intro w'
      go_simp
      with_reducible rfl
    rotate_left
    · simp only [Act.put, List.setIfInBounds_toArray, List.set_cons_zero, List.set_cons_succ, i64_w, i32_w]
      rfl
    refine take_ (i := 9) (N := some 46) (v := ?_) (a' := ?_) #[true, true, true, true, true, true, true, true, true, true, false, false, false, false, false, false, false, false, false, false, false, false, false, false, false] rfl rfl (by kernel_rfl) (fun _ _ _ h => h) (Or.inl ⟨by rfl, ?_⟩) hHeld ?_ ?_
    rotate_left
    · rintro w' ⟨s0, s1⟩
      go_simp
      with_reducible rfl
    rotate_left
    · simp only [Act.put, List.setIfInBounds_toArray, List.set_cons_zero, List.set_cons_succ, i64_w, i32_w]
      rfl
    refine one_ (i := 10) (N := some 47) #[true, true, true, true, true, true, true, true, true, true, true, false, false, false, false, false, false, false, false, false, false, false, false, false, false] rfl rfl (by kernel_rfl) (by decide) (fun K hK => ?_)
    refine goes_ Try.func50 (by kernel_rfl) rfl #[.slice A l.length c] (by rfl) rfl rfl (by (try simp only [List.map_toArray, List.map_cons, List.map_nil]); first | done | rfl) ?_
    refine (fasciclelaw11_Refs.calls kf A c l (refsE l) _ (Kd.C_below hCA.out hS.out.1) hcA.out.1 hkA.out.1).mono ?_
    rintro e wq ⟨v47, rfl, ho, hb⟩
    refine ⟨_, rfl, ?_⟩
    obtain ⟨A47, c47, rfl, hc47, hC47⟩ := Kd.R_reads ho
    have hC47 := Aside0.mk (And.intro hc47 hC47)
    have hS := Aside0.mk (hS.out.below hb)
    clear ho hb hc47
    refine hK.out _ _ ⟨(hS.out.pick2.cell 0).trans rfl, (hS.out.pick3.cell 0).trans rfl⟩ (fun hHeld => ?_)
    clear hK K
    refine norm_ (a' := ?_) ?_ ?_
    rotate_left
    · show Act.put _ (some 47) _ = _
      simp only [Act.put, List.setIfInBounds_toArray, List.set_cons_zero, List.set_cons_succ, i64_w, i32_w]
      rfl
    refine one_ (i := 11) (N := some 48) #[true, true, true, true, true, true, true, true, true, true, true, true, false, false, false, false, false, false, false, false, false, false, false, false, false] rfl rfl (by kernel_rfl) (by decide) (fun K hK => ?_)
    refine goes_ Try.func52 (by kernel_rfl) rfl #[.slice A47 (refsE l).length c47] (by rfl) rfl rfl (by (try simp only [List.map_toArray, List.map_cons, List.map_nil]); first | done | rfl) ?_
    refine (fascicleref11_Rising.calls kr A47 c47 (refsE l) _ _ hC47.out.2 hC47.out.1 hkA.out.2.2.1).mono ?_
    rintro e wq ⟨rfl, hb⟩
    refine ⟨_, rfl, ?_⟩
    have hS := Aside0.mk (hS.out.below hb)
    clear hb
    refine hK.out _ _ ⟨(hS.out.pick2.cell 0).trans rfl, (hS.out.pick3.cell 0).trans rfl⟩ (fun hHeld => ?_)
    clear hK K
    refine norm_ (a' := ?_) ?_ ?_
    rotate_left
    · show Act.put _ (some 48) _ = _
      simp only [Act.put, List.setIfInBounds_toArray, List.set_cons_zero, List.set_cons_succ, i64_w, i32_w]
      rfl
    refine pure_ (i := 12) (N := some 49) (v := ?_) (a' := ?_) #[true, true, true, true, true, true, true, true, true, true, true, true, true, false, false, false, false, false, false, false, false, false, false, false, false] rfl rfl (by kernel_rfl) (fun _ _ _ h => h) (Or.inl ⟨by rfl, ?_⟩) ?_ ?_
    rotate_left
    · intro w'
      go_simp
      with_reducible rfl
    rotate_left
    · simp only [Act.put, List.setIfInBounds_toArray, List.set_cons_zero, List.set_cons_succ, i64_w, i32_w]
      rfl
    refine pure_ (i := 13) (N := some 50) (v := ?_) (a' := ?_) #[true, true, true, true, true, true, true, true, true, true, true, true, true, true, false, false, false, false, false, false, false, false, false, false, false] rfl rfl (by kernel_rfl) (fun _ _ _ h => h) (Or.inl ⟨by rfl, ?_⟩) ?_ ?_
    rotate_left
    · intro w'
      go_simp
      with_reducible rfl
    rotate_left
    · simp only [Act.put, List.setIfInBounds_toArray, List.set_cons_zero, List.set_cons_succ, i64_w, i32_w]
      rfl
    refine pure_ (i := 14) (N := some 51) (v := ?_) (a' := ?_) #[true, true, true, true, true, true, true, true, true, true, true, true, true, true, true, false, false, false, false, false, false, false, false, false, false] rfl rfl (by kernel_rfl) (fun _ _ _ h => h) (Or.inl ⟨by rfl, ?_⟩) ?_ ?_
    rotate_left
    · intro w'
      go_simp
      with_reducible rfl
    rotate_left
    · simp only [Act.put, List.setIfInBounds_toArray, List.set_cons_zero, List.set_cons_succ, i64_w, i32_w]
      rfl
    refine pure_ (i := 15) (N := some 52) (v := ?_) (a' := ?_) #[true, true, true, true, true, true, true, true, true, true, true, true, true, true, true, true, false, false, false, false, false, false, false, false, false] rfl rfl (by kernel_rfl) (fun _ _ _ h => h) (Or.inl ⟨by rfl, ?_⟩) ?_ ?_
    rotate_left
    · intro w'
      go_simp
      with_reducible rfl
    rotate_left
    · simp only [Act.put, List.setIfInBounds_toArray, List.set_cons_zero, List.set_cons_succ, i64_w, i32_w]
      rfl
    refine pure_ (i := 16) (N := some 53) (v := ?_) (a' := ?_) #[true, true, true, true, true, true, true, true, true, true, true, true, true, true, true, true, true, false, false, false, false, false, false, false, false] rfl rfl (by kernel_rfl) (fun _ _ _ h => h) (Or.inl ⟨by rfl, ?_⟩) ?_ ?_
    rotate_left
    · intro w'
      go_simp
      with_reducible rfl
    rotate_left
    · simp only [Act.put, List.setIfInBounds_toArray, List.set_cons_zero, List.set_cons_succ, i64_w, i32_w]
      rfl
    refine pure_ (i := 17) (N := some 54) (v := ?_) (a' := ?_) #[true, true, true, true, true, true, true, true, true, true, true, true, true, true, true, true, true, true, false, false, false, false, false, false, false] rfl rfl (by kernel_rfl) (fun _ _ _ h => h) (Or.inl ⟨by rfl, ?_⟩) ?_ ?_
    rotate_left
    · intro w'
      go_simp
      with_reducible rfl
    rotate_left
    · simp only [Act.put, List.setIfInBounds_toArray, List.set_cons_zero, List.set_cons_succ, i64_w, i32_w]
      rfl
    refine pure_ (i := 18) (N := some 55) (v := undef) (a' := ?_) #[true, true, true, true, true, true, true, true, true, true, true, true, true, true, true, true, true, true, true, false, false, false, false, false, false] rfl rfl (by kernel_rfl) (fun _ _ _ h => h) (Or.inr ⟨by rfl, rfl⟩) ?_ ?_
    rotate_left
    · simp only [Act.put, List.setIfInBounds_toArray, List.set_cons_zero, List.set_cons_succ, i64_w, i32_w]
      rfl
    refine pure_ (i := 19) (N := some 56) (v := undef) (a' := ?_) #[true, true, true, true, true, true, true, true, true, true, true, true, true, true, true, true, true, true, true, true, false, false, false, false, false] rfl rfl (by kernel_rfl) (fun _ _ _ h => h) (Or.inr ⟨by rfl, rfl⟩) ?_ ?_
    rotate_left
    · simp only [Act.put, List.setIfInBounds_toArray, List.set_cons_zero, List.set_cons_succ, i64_w, i32_w]
      rfl
    refine pure_ (i := 20) (N := some 57) (v := undef) (a' := ?_) #[true, true, true, true, true, true, true, true, true, true, true, true, true, true, true, true, true, true, true, true, true, false, false, false, false] rfl rfl (by kernel_rfl) (fun _ _ _ h => h) (Or.inr ⟨by rfl, rfl⟩) ?_ ?_
    rotate_left
    · simp only [Act.put, List.setIfInBounds_toArray, List.set_cons_zero, List.set_cons_succ, i64_w, i32_w]
      rfl
    refine pure_ (i := 21) (N := some 58) (v := undef) (a' := ?_) #[true, true, true, true, true, true, true, true, true, true, true, true, true, true, true, true, true, true, true, true, true, true, false, false, false] rfl rfl (by kernel_rfl) (fun _ _ _ h => h) (Or.inr ⟨by rfl, rfl⟩) ?_ ?_
    rotate_left
    · simp only [Act.put, List.setIfInBounds_toArray, List.set_cons_zero, List.set_cons_succ, i64_w, i32_w]
      rfl
    refine pure_ (i := 22) (N := some 59) (v := undef) (a' := ?_) #[true, true, true, true, true, true, true, true, true, true, true, true, true, true, true, true, true, true, true, true, true, true, true, false, false] rfl rfl (by kernel_rfl) (fun _ _ _ h => h) (Or.inr ⟨by rfl, rfl⟩) ?_ ?_
    rotate_left
    · simp only [Act.put, List.setIfInBounds_toArray, List.set_cons_zero, List.set_cons_succ, i64_w, i32_w]
      rfl
    refine pure_ (i := 23) (N := some 60) (v := ?_) (a' := ?_) #[true, true, true, true, true, true, true, true, true, true, true, true, true, true, true, true, true, true, true, true, true, true, true, true, false] rfl rfl (by kernel_rfl) (fun _ _ _ h => h) (Or.inl ⟨by rfl, ?_⟩) ?_ ?_
    rotate_left
    · intro w'
      go_simp
      with_reducible rfl
    rotate_left
    · simp only [Act.put, List.setIfInBounds_toArray, List.set_cons_zero, List.set_cons_succ, i64_w, i32_w]
      rfl
    refine pure_ (i := 24) (N := some 61) (v := ?_) (a' := ?_) #[true, true, true, true, true, true, true, true, true, true, true, true, true, true, true, true, true, true, true, true, true, true, true, true, true] rfl rfl (by kernel_rfl) (fun _ _ _ h => h) (Or.inl ⟨by rfl, ?_⟩) ?_ ?_
    rotate_left
    · intro w'
      go_simp
      with_reducible rfl
    rotate_left
    · simp only [Act.put, List.setIfInBounds_toArray, List.set_cons_zero, List.set_cons_succ, i64_w, i32_w]
      rfl
    refine done_ (by kernel_rfl) ?_
    have hT := Aside0.mk (show Sep.Sep w wq [blk (gl + 1) #[.int .i64 n] 3] from hS.out.tail.tail.tail.tail.tail)
    clear hS hHeld
  case' true =>
    rw [backE_t hR] at hx hS
    subst hx
    rw [hR] at hkA
    clear hR
    obtain rfl := (row_C hS.out.pick3).1
    go_wp2_with (fail)
    refine start_ (n := 25) (S := fun w' => w'.cell? ⟨gl, 0, none⟩ = some (.slice A l.length c) ∧ w'.cell? ⟨gk, 0, none⟩ = some (.slice A' l.length c')) (ds := []) #[false, false, false, false, false, false, false, false, false, false, false, false, false, false, false, false, false, false, false, false, false, false, false, false, false] (by kernel_rfl) rfl rfl ⟨(hS.out.pick1.cell 0).trans rfl, (hS.out.pick2.cell 0).trans rfl⟩ (fun hHeld => ?_)
    generalize w9.drew = wq at hS hHeld ⊢
    refine take_ (i := 2) (N := some 39) (v := ?_) (a' := ?_) #[false, false, true, false, false, false, false, false, false, false, false, false, false, false, false, false, false, false, false, false, false, false, false, false, false] rfl rfl (by kernel_rfl) (fun _ _ _ h => h) (Or.inl ⟨by rfl, ?_⟩) hHeld ?_ ?_
    rotate_left
    · rintro w' ⟨s0, s1⟩
      go_simp
      with_reducible rfl
    rotate_left
    · simp only [Act.put, List.setIfInBounds_toArray, List.set_cons_zero, List.set_cons_succ, i64_w, i32_w]
      rfl
    refine one_ (i := 0) (N := some 37) #[true, false, true, false, false, false, false, false, false, false, false, false, false, false, false, false, false, false, false, false, false, false, false, false, false] rfl rfl (by kernel_rfl) (by decide) (fun K hK => ?_)
    refine goes_ Try.func20 (by kernel_rfl) rfl #[.pointer (some ⟨gw, 0, none⟩)] (by rfl) rfl rfl (by (try simp only [List.map_toArray, List.map_cons, List.map_nil]); first | done | rfl) ?_
    refine (buf_Bytes w _ gw _ _ hS.out (by have := hlA.out; omega)).mono ?_
    rintro e wq ⟨v37, rfl, h1⟩
    refine ⟨_, rfl, ?_⟩
    obtain ⟨A37, c37, rfl, -, -⟩ := row_S h1
    have hS := Aside0.mk h1
    clear h1
    refine hK.out _ _ ⟨(hS.out.pick2.cell 0).trans rfl, (hS.out.pick3.cell 0).trans rfl⟩ (fun hHeld => ?_)
    clear hK K
    refine norm_ (a' := ?_) ?_ ?_
    rotate_left
    · show Act.put _ (some 37) _ = _
      simp only [Act.put, List.setIfInBounds_toArray, List.set_cons_zero, List.set_cons_succ, i64_w, i32_w]
      rfl
    refine join_ (σ := Value) 20 #[true, true, true, true, true, false, false, false, false, false, false, false, false, false, false, false, false, false, false, false, false, false, false, false, false] (fun s => [(38, .string (strOfNums (tbytes l))), (40, s), (41, .string (strOfNums (tbytes l)))]) (fun s w' => Sep.Sep w w' [row (Kd.int .u8) 5 (.slice A37 (tbytes l).length c37) (tbytes l), buf gw (tbytes l), blk gl #[.slice A l.length c] 77, blk gk #[.slice A' l.length c'] 77, row kE 81 (.slice A' l.length c') l, blk (gl + 1) #[.int .i64 n] 3]) ?_ ?_
    rotate_left
    · intro hCont
      refine two_ (i := 1) (j := 3) (Ni := some 38) (Nj := some 40) #[true, true, true, false, false, false, false, false, false, false, false, false, false, false, false, false, false, false, false, false, false, false, false, false, false] #[true, false, true, true, false, false, false, false, false, false, false, false, false, false, false, false, false, false, false, false, false, false, false, false, false] rfl rfl rfl rfl (by kernel_rfl) (by decide) (by decide) (fun K hK => ?_) (fun K hK => ?_)
      · skip
        obtain ⟨bs_, hR_⟩ := hS.out.row_R
        have hcv : (Go.convert 27 9 (.slice A37 (tbytes l).length c37)).run Try.prog wq = .ok (.string (strOfNums (tbytes l))) wq := own_string (P := Try.prog) Try.underlying27 Try.underlying5 Try.underlying9 (Kd.own_of_R hR_)
        refine value_ (w1 := ?_) (v := ?_) (by rfl) rfl ?_ ?_
        rotate_left 2
        · go_simp
          constructor
          · rfl
          · rfl
        clear hcv hR_
        refine hK.out _ _ ⟨(hS.out.pick2.cell 0).trans rfl, (hS.out.pick3.cell 0).trans rfl⟩ (fun hHeld => ?_)
        clear hK K
        refine norm_ (a' := ?_) ?_ ?_
        rotate_left
        · show Act.put _ (some 38) _ = _
          simp only [Act.put, List.setIfInBounds_toArray, List.set_cons_zero, List.set_cons_succ, i64_w, i32_w]
          rfl
        refine one_ (i := 3) (N := some 40) #[true, true, true, true, false, false, false, false, false, false, false, false, false, false, false, false, false, false, false, false, false, false, false, false, false] rfl rfl (by kernel_rfl) (by decide) (fun K hK => ?_)
        refine goes_ Try.func50 (by kernel_rfl) rfl #[.slice A l.length c] (by rfl) rfl rfl (by (try simp only [List.map_toArray, List.map_cons, List.map_nil]); first | done | rfl) ?_
        refine (fasciclelaw11_Refs.calls kf A c l (refsE l) _ (Kd.C_below hCA.out hS.out.1) hcA.out.1 hkA.out.1).mono ?_
        rintro e wq ⟨v40, rfl, ho, hb⟩
        refine ⟨_, rfl, ?_⟩
        obtain ⟨A40, c40, rfl, hc40, hC40⟩ := Kd.R_reads ho
        have hC40 := Aside0.mk (And.intro hc40 hC40)
        have hS := Aside0.mk (hS.out.below hb)
        clear ho hb hc40
        refine hK.out _ _ ⟨(hS.out.pick2.cell 0).trans rfl, (hS.out.pick3.cell 0).trans rfl⟩ (fun hHeld => ?_)
        clear hK K
        refine norm_ (a' := ?_) ?_ ?_
        rotate_left
        · show Act.put _ (some 40) _ = _
          simp only [Act.put, List.setIfInBounds_toArray, List.set_cons_zero, List.set_cons_succ, i64_w, i32_w]
          rfl
        refine one_ (i := 4) (N := some 41) #[true, true, true, true, true, false, false, false, false, false, false, false, false, false, false, false, false, false, false, false, false, false, false, false, false] rfl rfl (by kernel_rfl) (by decide) (fun K hK => ?_)
        refine goes_ Try.func65 (by kernel_rfl) rfl #[.slice A40 (refsE l).length c40] (by rfl) rfl rfl (by (try simp only [List.map_toArray, List.map_cons, List.map_nil]); first | done | rfl) ?_
        refine (fascicleref11_Text.calls kt A40 c40 (refsE l) _ _ hC40.out.2 hC40.out.1 hkA.out.2.1).mono ?_
        rintro e wq ⟨rfl, hb⟩
        refine ⟨_, rfl, ?_⟩
        have hS := Aside0.mk (hS.out.below hb)
        clear hb
        refine hK.out _ _ ⟨(hS.out.pick2.cell 0).trans rfl, (hS.out.pick3.cell 0).trans rfl⟩ (fun hHeld => ?_)
        clear hK K
        refine norm_ (a' := ?_) ?_ ?_
        rotate_left
        · show Act.put _ (some 41) _ = _
          simp only [Act.put, List.setIfInBounds_toArray, List.set_cons_zero, List.set_cons_succ, i64_w, i32_w]
          rfl
        exact norm_ (by first | (simp only [putAll, Act.put, List.setIfInBounds_toArray, List.set_cons_zero, List.set_cons_succ]; done) | (simp only [putAll, Act.put, List.setIfInBounds_toArray, List.set_cons_zero, List.set_cons_succ]; rfl)) (hCont (_) _ hS.out)
      · skip
        refine goes_ Try.func50 (by kernel_rfl) rfl #[.slice A l.length c] (by rfl) rfl rfl (by (try simp only [List.map_toArray, List.map_cons, List.map_nil]); first | done | rfl) ?_
        refine (fasciclelaw11_Refs.calls kf A c l (refsE l) _ (Kd.C_below hCA.out hS.out.1) hcA.out.1 hkA.out.1).mono ?_
        rintro e wq ⟨v40, rfl, ho, hb⟩
        refine ⟨_, rfl, ?_⟩
        obtain ⟨A40, c40, rfl, hc40, hC40⟩ := Kd.R_reads ho
        have hC40 := Aside0.mk (And.intro hc40 hC40)
        have hS := Aside0.mk (hS.out.below hb)
        clear ho hb hc40
        refine hK.out _ _ ⟨(hS.out.pick2.cell 0).trans rfl, (hS.out.pick3.cell 0).trans rfl⟩ (fun hHeld => ?_)
        clear hK K
        refine norm_ (a' := ?_) ?_ ?_
        rotate_left
        · show Act.put _ (some 40) _ = _
          simp only [Act.put, List.setIfInBounds_toArray, List.set_cons_zero, List.set_cons_succ, i64_w, i32_w]
          rfl
        refine two_ (i := 1) (j := 4) (Ni := some 38) (Nj := some 41) #[true, true, true, true, false, false, false, false, false, false, false, false, false, false, false, false, false, false, false, false, false, false, false, false, false] #[true, false, true, true, true, false, false, false, false, false, false, false, false, false, false, false, false, false, false, false, false, false, false, false, false] rfl rfl rfl rfl (by kernel_rfl) (by decide) (by decide) (fun K hK => ?_) (fun K hK => ?_)
        · skip
          obtain ⟨bs_, hR_⟩ := hS.out.row_R
          have hcv : (Go.convert 27 9 (.slice A37 (tbytes l).length c37)).run Try.prog wq = .ok (.string (strOfNums (tbytes l))) wq := own_string (P := Try.prog) Try.underlying27 Try.underlying5 Try.underlying9 (Kd.own_of_R hR_)
          refine value_ (w1 := ?_) (v := ?_) (by rfl) rfl ?_ ?_
          rotate_left 2
          · go_simp
            constructor
            · rfl
            · rfl
          clear hcv hR_
          refine hK.out _ _ ⟨(hS.out.pick2.cell 0).trans rfl, (hS.out.pick3.cell 0).trans rfl⟩ (fun hHeld => ?_)
          clear hK K
          refine norm_ (a' := ?_) ?_ ?_
          rotate_left
          · show Act.put _ (some 38) _ = _
            simp only [Act.put, List.setIfInBounds_toArray, List.set_cons_zero, List.set_cons_succ, i64_w, i32_w]
            rfl
          refine one_ (i := 4) (N := some 41) #[true, true, true, true, true, false, false, false, false, false, false, false, false, false, false, false, false, false, false, false, false, false, false, false, false] rfl rfl (by kernel_rfl) (by decide) (fun K hK => ?_)
          refine goes_ Try.func65 (by kernel_rfl) rfl #[.slice A40 (refsE l).length c40] (by rfl) rfl rfl (by (try simp only [List.map_toArray, List.map_cons, List.map_nil]); first | done | rfl) ?_
          refine (fascicleref11_Text.calls kt A40 c40 (refsE l) _ _ hC40.out.2 hC40.out.1 hkA.out.2.1).mono ?_
          rintro e wq ⟨rfl, hb⟩
          refine ⟨_, rfl, ?_⟩
          have hS := Aside0.mk (hS.out.below hb)
          clear hb
          refine hK.out _ _ ⟨(hS.out.pick2.cell 0).trans rfl, (hS.out.pick3.cell 0).trans rfl⟩ (fun hHeld => ?_)
          clear hK K
          refine norm_ (a' := ?_) ?_ ?_
          rotate_left
          · show Act.put _ (some 41) _ = _
            simp only [Act.put, List.setIfInBounds_toArray, List.set_cons_zero, List.set_cons_succ, i64_w, i32_w]
            rfl
          exact norm_ (by first | (simp only [putAll, Act.put, List.setIfInBounds_toArray, List.set_cons_zero, List.set_cons_succ]; done) | (simp only [putAll, Act.put, List.setIfInBounds_toArray, List.set_cons_zero, List.set_cons_succ]; rfl)) (hCont (_) _ hS.out)
        · skip
          refine goes_ Try.func65 (by kernel_rfl) rfl #[.slice A40 (refsE l).length c40] (by rfl) rfl rfl (by (try simp only [List.map_toArray, List.map_cons, List.map_nil]); first | done | rfl) ?_
          refine (fascicleref11_Text.calls kt A40 c40 (refsE l) _ _ hC40.out.2 hC40.out.1 hkA.out.2.1).mono ?_
          rintro e wq ⟨rfl, hb⟩
          refine ⟨_, rfl, ?_⟩
          have hS := Aside0.mk (hS.out.below hb)
          clear hb
          refine hK.out _ _ ⟨(hS.out.pick2.cell 0).trans rfl, (hS.out.pick3.cell 0).trans rfl⟩ (fun hHeld => ?_)
          clear hK K
          refine norm_ (a' := ?_) ?_ ?_
          rotate_left
          · show Act.put _ (some 41) _ = _
            simp only [Act.put, List.setIfInBounds_toArray, List.set_cons_zero, List.set_cons_succ, i64_w, i32_w]
            rfl
          refine one_ (i := 1) (N := some 38) #[true, true, true, true, true, false, false, false, false, false, false, false, false, false, false, false, false, false, false, false, false, false, false, false, false] rfl rfl (by kernel_rfl) (by decide) (fun K hK => ?_)
          obtain ⟨bs_, hR_⟩ := hS.out.row_R
          have hcv : (Go.convert 27 9 (.slice A37 (tbytes l).length c37)).run Try.prog wq = .ok (.string (strOfNums (tbytes l))) wq := own_string (P := Try.prog) Try.underlying27 Try.underlying5 Try.underlying9 (Kd.own_of_R hR_)
          refine value_ (w1 := ?_) (v := ?_) (by rfl) rfl ?_ ?_
          rotate_left 2
          · go_simp
            constructor
            · rfl
            · rfl
          clear hcv hR_
          refine hK.out _ _ ⟨(hS.out.pick2.cell 0).trans rfl, (hS.out.pick3.cell 0).trans rfl⟩ (fun hHeld => ?_)
          clear hK K
          refine norm_ (a' := ?_) ?_ ?_
          rotate_left
          · show Act.put _ (some 38) _ = _
            simp only [Act.put, List.setIfInBounds_toArray, List.set_cons_zero, List.set_cons_succ, i64_w, i32_w]
            rfl
          exact norm_ (by first | (simp only [putAll, Act.put, List.setIfInBounds_toArray, List.set_cons_zero, List.set_cons_succ]; done) | (simp only [putAll, Act.put, List.setIfInBounds_toArray, List.set_cons_zero, List.set_cons_succ]; rfl)) (hCont (_) _ hS.out)
    rintro v40 wq hF
    have hHeld := And.intro ((hF.pick2.cell 0).trans rfl : wq.cell? ⟨gl, 0, none⟩ = some (.slice A l.length c)) ((hF.pick3.cell 0).trans rfl : wq.cell? ⟨gk, 0, none⟩ = some (.slice A' l.length c'))
    have hS := Aside0.mk hF
    clear hF
    refine norm_ (a' := ?_) ?_ ?_
    rotate_left
    · simp only [putAll, Act.put, List.setIfInBounds_toArray, List.set_cons_zero, List.set_cons_succ]
      rfl
    refine pure_ (i := 5) (N := some 42) (v := ?_) (a' := ?_) #[true, true, true, true, true, true, false, false, false, false, false, false, false, false, false, false, false, false, false, false, false, false, false, false, false] rfl rfl (by kernel_rfl) (fun _ _ _ h => h) (Or.inl ⟨by rfl, ?_⟩) ?_ ?_
    rotate_left
    · intro w'
      go_simp
      with_reducible rfl
    rotate_left
    · simp only [Act.put, List.setIfInBounds_toArray, List.set_cons_zero, List.set_cons_succ, i64_w, i32_w]
      rfl
    refine pure_ (i := 6) (N := some 43) (v := ?_) (a' := ?_) #[true, true, true, true, true, true, true, false, false, false, false, false, false, false, false, false, false, false, false, false, false, false, false, false, false] rfl rfl (by kernel_rfl) (fun _ _ _ h => h) (Or.inl ⟨by rfl, ?_⟩) ?_ ?_
    rotate_left
    · intro w'
      go_simp
      with_reducible rfl
    rotate_left
    · simp only [Act.put, List.setIfInBounds_toArray, List.set_cons_zero, List.set_cons_succ, i64_w, i32_w]
      rfl
    refine pure_ (i := 7) (N := some 44) (v := ?_) (a' := ?_) #[true, true, true, true, true, true, true, true, false, false, false, false, false, false, false, false, false, false, false, false, false, false, false, false, false] rfl rfl (by kernel_rfl) (fun _ _ _ h => h) (Or.inl ⟨by rfl, ?_⟩) ?_ ?_
    rotate_left
    · intro w'
      go_simp
      with_reducible rfl
    rotate_left
    · simp only [Act.put, List.setIfInBounds_toArray, List.set_cons_zero, List.set_cons_succ, i64_w, i32_w]
      rfl
    refine pure_ (i := 8) (N := some 45) (v := ?_) (a' := ?_) #[true, true, true, true, true, true, true, true, true, false, false, false, false, false, false, false, false, false, false, false, false, false, false, false, false] rfl rfl (by kernel_rfl) (fun _ _ _ h => h) (Or.inl ⟨by rfl, ?_⟩) ?_ ?_
    rotate_left
    · intro w'
      go_simp
      with_reducible rfl
    rotate_left
    · simp only [Act.put, List.setIfInBounds_toArray, List.set_cons_zero, List.set_cons_succ, i64_w, i32_w]
      rfl
    refine take_ (i := 9) (N := some 46) (v := ?_) (a' := ?_) #[true, true, true, true, true, true, true, true, true, true, false, false, false, false, false, false, false, false, false, false, false, false, false, false, false] rfl rfl (by kernel_rfl) (fun _ _ _ h => h) (Or.inl ⟨by rfl, ?_⟩) hHeld ?_ ?_
    rotate_left
    · rintro w' ⟨s0, s1⟩
      go_simp
      with_reducible rfl
    rotate_left
    · simp only [Act.put, List.setIfInBounds_toArray, List.set_cons_zero, List.set_cons_succ, i64_w, i32_w]
      rfl
    refine one_ (i := 10) (N := some 47) #[true, true, true, true, true, true, true, true, true, true, true, false, false, false, false, false, false, false, false, false, false, false, false, false, false] rfl rfl (by kernel_rfl) (by decide) (fun K hK => ?_)
    refine goes_ Try.func50 (by kernel_rfl) rfl #[.slice A l.length c] (by rfl) rfl rfl (by (try simp only [List.map_toArray, List.map_cons, List.map_nil]); first | done | rfl) ?_
    refine (fasciclelaw11_Refs.calls kf A c l (refsE l) _ (Kd.C_below hCA.out hS.out.1) hcA.out.1 hkA.out.1).mono ?_
    rintro e wq ⟨v47, rfl, ho, hb⟩
    refine ⟨_, rfl, ?_⟩
    obtain ⟨A47, c47, rfl, hc47, hC47⟩ := Kd.R_reads ho
    have hC47 := Aside0.mk (And.intro hc47 hC47)
    have hS := Aside0.mk (hS.out.below hb)
    clear ho hb hc47
    refine hK.out _ _ ⟨(hS.out.pick2.cell 0).trans rfl, (hS.out.pick3.cell 0).trans rfl⟩ (fun hHeld => ?_)
    clear hK K
    refine norm_ (a' := ?_) ?_ ?_
    rotate_left
    · show Act.put _ (some 47) _ = _
      simp only [Act.put, List.setIfInBounds_toArray, List.set_cons_zero, List.set_cons_succ, i64_w, i32_w]
      rfl
    refine one_ (i := 11) (N := some 48) #[true, true, true, true, true, true, true, true, true, true, true, true, false, false, false, false, false, false, false, false, false, false, false, false, false] rfl rfl (by kernel_rfl) (by decide) (fun K hK => ?_)
    refine goes_ Try.func52 (by kernel_rfl) rfl #[.slice A47 (refsE l).length c47] (by rfl) rfl rfl (by (try simp only [List.map_toArray, List.map_cons, List.map_nil]); first | done | rfl) ?_
    refine (fascicleref11_Rising.calls kr A47 c47 (refsE l) _ _ hC47.out.2 hC47.out.1 hkA.out.2.2.1).mono ?_
    rintro e wq ⟨rfl, hb⟩
    refine ⟨_, rfl, ?_⟩
    have hS := Aside0.mk (hS.out.below hb)
    clear hb
    refine hK.out _ _ ⟨(hS.out.pick2.cell 0).trans rfl, (hS.out.pick3.cell 0).trans rfl⟩ (fun hHeld => ?_)
    clear hK K
    refine norm_ (a' := ?_) ?_ ?_
    rotate_left
    · show Act.put _ (some 48) _ = _
      simp only [Act.put, List.setIfInBounds_toArray, List.set_cons_zero, List.set_cons_succ, i64_w, i32_w]
      rfl
    refine pure_ (i := 12) (N := some 49) (v := ?_) (a' := ?_) #[true, true, true, true, true, true, true, true, true, true, true, true, true, false, false, false, false, false, false, false, false, false, false, false, false] rfl rfl (by kernel_rfl) (fun _ _ _ h => h) (Or.inl ⟨by rfl, ?_⟩) ?_ ?_
    rotate_left
    · intro w'
      go_simp
      with_reducible rfl
    rotate_left
    · simp only [Act.put, List.setIfInBounds_toArray, List.set_cons_zero, List.set_cons_succ, i64_w, i32_w]
      rfl
    refine pure_ (i := 13) (N := some 50) (v := ?_) (a' := ?_) #[true, true, true, true, true, true, true, true, true, true, true, true, true, true, false, false, false, false, false, false, false, false, false, false, false] rfl rfl (by kernel_rfl) (fun _ _ _ h => h) (Or.inl ⟨by rfl, ?_⟩) ?_ ?_
    rotate_left
    · intro w'
      go_simp
      with_reducible rfl
    rotate_left
    · simp only [Act.put, List.setIfInBounds_toArray, List.set_cons_zero, List.set_cons_succ, i64_w, i32_w]
      rfl
    refine pure_ (i := 14) (N := some 51) (v := ?_) (a' := ?_) #[true, true, true, true, true, true, true, true, true, true, true, true, true, true, true, false, false, false, false, false, false, false, false, false, false] rfl rfl (by kernel_rfl) (fun _ _ _ h => h) (Or.inl ⟨by rfl, ?_⟩) ?_ ?_
    rotate_left
    · intro w'
      go_simp
      with_reducible rfl
    rotate_left
    · simp only [Act.put, List.setIfInBounds_toArray, List.set_cons_zero, List.set_cons_succ, i64_w, i32_w]
      rfl
    refine pure_ (i := 15) (N := some 52) (v := ?_) (a' := ?_) #[true, true, true, true, true, true, true, true, true, true, true, true, true, true, true, true, false, false, false, false, false, false, false, false, false] rfl rfl (by kernel_rfl) (fun _ _ _ h => h) (Or.inl ⟨by rfl, ?_⟩) ?_ ?_
    rotate_left
    · intro w'
      go_simp
      with_reducible rfl
    rotate_left
    · simp only [Act.put, List.setIfInBounds_toArray, List.set_cons_zero, List.set_cons_succ, i64_w, i32_w]
      rfl
    refine pure_ (i := 16) (N := some 53) (v := ?_) (a' := ?_) #[true, true, true, true, true, true, true, true, true, true, true, true, true, true, true, true, true, false, false, false, false, false, false, false, false] rfl rfl (by kernel_rfl) (fun _ _ _ h => h) (Or.inl ⟨by rfl, ?_⟩) ?_ ?_
    rotate_left
    · intro w'
      go_simp
      with_reducible rfl
    rotate_left
    · simp only [Act.put, List.setIfInBounds_toArray, List.set_cons_zero, List.set_cons_succ, i64_w, i32_w]
      rfl
    refine pure_ (i := 17) (N := some 54) (v := ?_) (a' := ?_) #[true, true, true, true, true, true, true, true, true, true, true, true, true, true, true, true, true, true, false, false, false, false, false, false, false] rfl rfl (by kernel_rfl) (fun _ _ _ h => h) (Or.inl ⟨by rfl, ?_⟩) ?_ ?_
    rotate_left
    · intro w'
      go_simp
      with_reducible rfl
    rotate_left
    · simp only [Act.put, List.setIfInBounds_toArray, List.set_cons_zero, List.set_cons_succ, i64_w, i32_w]
      rfl
    refine take_ (i := 18) (N := some 55) (v := ?_) (a' := ?_) #[true, true, true, true, true, true, true, true, true, true, true, true, true, true, true, true, true, true, true, false, false, false, false, false, false] rfl rfl (by kernel_rfl) (fun _ _ _ h => h) (Or.inl ⟨by rfl, ?_⟩) hHeld ?_ ?_
    rotate_left
    · rintro w' ⟨s0, s1⟩
      go_simp
      with_reducible rfl
    rotate_left
    · simp only [Act.put, List.setIfInBounds_toArray, List.set_cons_zero, List.set_cons_succ, i64_w, i32_w]
      rfl
    refine take_ (i := 19) (N := some 56) (v := ?_) (a' := ?_) #[true, true, true, true, true, true, true, true, true, true, true, true, true, true, true, true, true, true, true, true, false, false, false, false, false] rfl rfl (by kernel_rfl) (fun _ _ _ h => h) (Or.inl ⟨by rfl, ?_⟩) hHeld ?_ ?_
    rotate_left
    · rintro w' ⟨s0, s1⟩
      go_simp
      with_reducible rfl
    rotate_left
    · simp only [Act.put, List.setIfInBounds_toArray, List.set_cons_zero, List.set_cons_succ, i64_w, i32_w]
      rfl
    refine one_ (i := 20) (N := some 57) #[true, true, true, true, true, true, true, true, true, true, true, true, true, true, true, true, true, true, true, true, true, false, false, false, false] rfl rfl (by kernel_rfl) (by decide) (fun K hK => ?_)
    refine goes_ Try.func50 (by kernel_rfl) rfl #[.slice A l.length c] (by rfl) rfl rfl (by (try simp only [List.map_toArray, List.map_cons, List.map_nil]); first | done | rfl) ?_
    refine (fasciclelaw11_Refs.calls kf A c l (refsE l) _ (Kd.C_below hCA.out hS.out.1) hcA.out.1 hkA.out.1).mono ?_
    rintro e wq ⟨v57, rfl, ho, hb⟩
    refine ⟨_, rfl, ?_⟩
    obtain ⟨A57, c57, rfl, hc57, hC57⟩ := Kd.R_reads ho
    have hC57 := Aside0.mk (And.intro hc57 hC57)
    have hS := Aside0.mk (hS.out.below hb)
    clear ho hb hc57
    refine hK.out _ _ ⟨(hS.out.pick2.cell 0).trans rfl, (hS.out.pick3.cell 0).trans rfl⟩ (fun hHeld => ?_)
    clear hK K
    refine norm_ (a' := ?_) ?_ ?_
    rotate_left
    · show Act.put _ (some 57) _ = _
      simp only [Act.put, List.setIfInBounds_toArray, List.set_cons_zero, List.set_cons_succ, i64_w, i32_w]
      rfl
    refine one_ (i := 21) (N := some 58) #[true, true, true, true, true, true, true, true, true, true, true, true, true, true, true, true, true, true, true, true, true, true, false, false, false] rfl rfl (by kernel_rfl) (by decide) (fun K hK => ?_)
    refine goes_ Try.func48 (by kernel_rfl) rfl #[.slice A' l.length c', .slice A57 (refsE l).length c57] (by rfl) rfl rfl (by (try simp only [List.map_toArray, List.map_cons, List.map_nil]); first | done | rfl) ?_
    refine (fasciclelaw11_Same.calls ks A' c' l A57 c57 (refsE l) _ _ (row_C hS.out.pick4).2.2 (row_C hS.out.pick4).2.1 hC57.out.2 hC57.out.1 hkA.out.2.2.2).mono ?_
    rintro e wq ⟨rfl, hb⟩
    refine ⟨_, rfl, ?_⟩
    have hS := Aside0.mk (hS.out.below hb.below)
    clear hb
    refine hK.out _ _ ⟨(hS.out.pick2.cell 0).trans rfl, (hS.out.pick3.cell 0).trans rfl⟩ (fun hHeld => ?_)
    clear hK K
    refine norm_ (a' := ?_) ?_ ?_
    rotate_left
    · show Act.put _ (some 58) _ = _
      simp only [Act.put, List.setIfInBounds_toArray, List.set_cons_zero, List.set_cons_succ, i64_w, i32_w]
      rfl
    refine pure_ (i := 22) (N := some 59) (v := ?_) (a' := ?_) #[true, true, true, true, true, true, true, true, true, true, true, true, true, true, true, true, true, true, true, true, true, true, true, false, false] rfl rfl (by kernel_rfl) (fun _ _ _ h => h) (Or.inl ⟨by rfl, ?_⟩) ?_ ?_
    rotate_left
    · intro w'
      go_simp
      with_reducible rfl
    rotate_left
    · simp only [Act.put, List.setIfInBounds_toArray, List.set_cons_zero, List.set_cons_succ, i64_w, i32_w]
      rfl
    refine pure_ (i := 23) (N := some 60) (v := ?_) (a' := ?_) #[true, true, true, true, true, true, true, true, true, true, true, true, true, true, true, true, true, true, true, true, true, true, true, true, false] rfl rfl (by kernel_rfl) (fun _ _ _ h => h) (Or.inl ⟨by rfl, ?_⟩) ?_ ?_
    rotate_left
    · intro w'
      go_simp
      with_reducible rfl
    rotate_left
    · simp only [Act.put, List.setIfInBounds_toArray, List.set_cons_zero, List.set_cons_succ, i64_w, i32_w]
      rfl
    refine pure_ (i := 24) (N := some 61) (v := ?_) (a' := ?_) #[true, true, true, true, true, true, true, true, true, true, true, true, true, true, true, true, true, true, true, true, true, true, true, true, true] rfl rfl (by kernel_rfl) (fun _ _ _ h => h) (Or.inl ⟨by rfl, ?_⟩) ?_ ?_
    rotate_left
    · intro w'
      go_simp
      with_reducible rfl
    rotate_left
    · simp only [Act.put, List.setIfInBounds_toArray, List.set_cons_zero, List.set_cons_succ, i64_w, i32_w]
      rfl
    refine done_ (by kernel_rfl) ?_
    have hT := Aside0.mk (show Sep.Sep w wq [blk (gl + 1) #[.int .i64 n] 3] from hS.out.tail.tail.tail.tail.tail)
    clear hS hHeld
  all_goals (
    clear hkA
    have hSy := Aside0.mk (hT.out.alloc #[.slice none 0 0] 77).pick1
    clear hT
    go_wp2_with (fail)
    generalize hgx : wq.heap.size = gx at *
    refine (run_calls w _ B cb b 66 #[.pointer (some ⟨gl + 1, 0, none⟩), .pointer (some ⟨gx, 0, none⟩)] (capN (gl + 1) gx n none 0 0) [] (fun at2 x qs => at2 = (tget b n).1 ∧ x = (tget b n).2.1 ∧ ∃ (A' : Option Addr) (m c' : Nat), qs = capN (gl + 1) gx n A' m c' ++ [row kE 81 (.slice A' m c') (tget b n).2.2])
      Try.call66 hSy.out (Kd.C_below hDA.out hSy.out.1) hcA.out.2 (by have := hle.out; omega) (fun w1 g ps' h1 => clos_got w w1 g (gl + 1) gx n b ps' h1 hbA.out (by have := hle.out; omega))).mono ?_
    rintro e w11 ⟨at2, x, qs, ⟨rfl, rfl, A2, m2, c2, rfl⟩, rfl, h11⟩
    clear hSy
    obtain ⟨S, hSe⟩ := tget_ev b hbA.out (by have := hle.out; omega) n
    obtain ⟨kg, hkg⟩ := hSe.rounds
    have htl : (tget b n).2.2.length ≤ 1000000 := by
      unfold tget
      have := hle.out
      split
      · simp
      split
      · simp
      split
      · rw [entsAt_len]; omega
      · simp
    clear hSe
    generalize (tget b n).1 = ea at *
    generalize (tget b n).2.1 = ee at *
    generalize (tget b n).2.2 = er at *
    have hkg := Aside0.mk hkg
    have htl := Aside0.mk htl
    have h11 : Sep.Sep w w11 [blk (gl + 1) #[.int .i64 n] 3, blk gx #[.slice A2 m2 c2] 77, row kE 81 (.slice A2 m2 c2) er] := h11
    obtain ⟨rfl, hc2, -⟩ := row_C h11.pick2
    have hc2 := Aside0.mk hc2
    have hcn_0 : w11.cell? ⟨(gl + 1), 0, none⟩ = some (.int .i64 n) := ((h11).cell 0).trans rfl
    have hcv := Kd.C_string (P := Try.prog) (A := B) (c := cb) Try.underlying27 Try.underlying5 Try.underlying9 (Kd.C_below hDA.out h11.1)
    have hS11 := Aside0.mk h11
    clear h11 hgx
    go_wp2_with (fail)
    refine (fascicleref11_Get.calls kg (strOfNums b) 0 0 n S ea ee (refsE er) _ hkg.out).mono ?_
    rintro e w12 ⟨v12, rfl, ho12, hb12⟩
    have h12 := Sep.row_new hS11.out hb12 ho12
    obtain ⟨A12, c12, rfl, hc12, hC12⟩ := row_S h12
    have h13 := h12.alloc #[.string S, .int .i64 (ea : Int), .int .i64 ee] 43
    have hcx_0 : (w12.alloc (.cells #[.string S, .int .i64 (ea : Int), .int .i64 ee] 43 (0, 0))).cell? ⟨gx, 0, none⟩ = some (.slice A2 er.length c2) := ((h13.pick3).cell 0).trans rfl
    have hcy_0 : (w12.alloc (.cells #[.string S, .int .i64 (ea : Int), .int .i64 ee] 43 (0, 0))).cell? ⟨w12.heap.size, 0, none⟩ = some (.string S) := ((h13).cell 0).trans rfl; have hcy_1 : (w12.alloc (.cells #[.string S, .int .i64 (ea : Int), .int .i64 ee] 43 (0, 0))).cell? ⟨w12.heap.size, 1, none⟩ = some (.int .i64 (ea : Int)) := ((h13).cell 1).trans rfl; have hcy_2 : (w12.alloc (.cells #[.string S, .int .i64 (ea : Int), .int .i64 ee] 43 (0, 0))).cell? ⟨w12.heap.size, 2, none⟩ = some (.int .i64 ee) := ((h13).cell 2).trans rfl
    have hS13 := Aside0.mk h13
    obtain ⟨ks2, hks2⟩ := (same_ev er htl.out).rounds
    have hsame := Aside0.mk (fasciclelaw11_Same.calls ks2 A2 c2 er A12 c12 (refsE er) true _ (row_C h13.pick4).2.2 (row_C h13.pick4).2.1 (row_C h13.pick1).2.2 (row_C h13.pick1).2.1 hks2)
    clear h12 h13 hcv ho12 hb12 hc12 hC12 hks2 hcn_0
    by_cases hee : ee = 0
    · have hne : (ee != 0) = false := by rw [hee]; rfl
      clear hee
      go_wp2_with (fail)
      refine hsame.out.mono ?_
      rintro e w14 ⟨rfl, hw14⟩
      have h14 := Aside0.mk (hS13.out.below hw14.below)
      clear hw14
      go_wp2_with (fail)
      go_ret
      exact ⟨by first | rfl | simp, h14.out.1⟩
    · have hne : (ee != 0) = true := bne_iff_ne.2 hee
      clear hee
      go_wp2_with (fail)
      go_ret
      exact ⟨by first | rfl | simp, hS13.out.1⟩)
theorem tableBytes_row (A : Option Addr) (c : Nat) (l : List E1) (B : Option Addr) (cb : Nat) (b : List Int) (n : Int) (hw : ∀ x ∈ l, ((Lit.int .u64 x.f0).wf = true) ∧ ((Lit.int .u32 x.f1).wf = true)) (hb : ∀ y ∈ b, (Lit.int .u8 y).wf = true) (hn : (Lit.int .i64 n).wf = true) (w : World) (hC : kE.C w A l.length l) (hc : l.length ≤ c) (hD : Kd.C (Kd.int .u8) w B b.length b) (hcb : b.length ≤ cb) :
    Calls Try.prog 15 #[.slice A l.length c, .slice B b.length cb, .int .i64 n] w fun e w' => e = .returned (.bool true) ∧ Below w.heap.size w w' :=
  tableBytes_call A c l B cb b n w (fun x hx => by
    have h1 := bounds_u64 (hw x hx).1
    have h2 := bounds_u32 (hw x hx).2
    exact ⟨by omega, by omega, by omega, by omega⟩) (Bytes.of_wf hb) hC hc hD hcb
end Go.Proofs.Ytnmdckgaljldhaa.Fw
