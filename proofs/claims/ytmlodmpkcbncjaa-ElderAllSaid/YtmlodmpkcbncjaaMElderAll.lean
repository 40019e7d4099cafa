/- HPanic HElderGetAll LNbP LElderCut LElderBytes LElderAll, in one text (merge.py). -/
import Derived.Test.YtmlodmpkcbncjaaHSep
import Derived.Test.YtmlodmpkcbncjaaMElder
import Derived.Test.YtmlodmpkcbncjaaMCur
import Derived.Test.YtmlodmpkcbncjaaMBuf
import Derived.Test.YtmlodmpkcbncjaaMThin
/- A call that may panic, in a region that draws its order; a row of any kind as a printed contract tells it. -/
set_option linter.unusedVariables false
namespace Go.Proofs.Ytmlodmpkcbncjaa.Sep
open Go Go.RowKit Go.Proofs.YtmlodmpkcbncjaaW.PrintWords Go.Proofs.YtmlodmpkcbncjaaW.PrintLast Go.Proofs.YtmlodmpkcbncjaaW.PrintMore

theorem goesP_ {P : Program} {ops : Array Oper} {Q : Exit → Act → World → Prop} {oi : Oper} {N : Option Tmp} {a : Act} {w : World} {K : Act → World → Prop} {f : FuncId} {fn : Func} {asx : Array Operand} {ts : Array TypeId} (hf : P.funcs[f]? = some fn) (hname : (fn.name == "runtime.NumGoroutine") = false) (hb : fn.body.isSome = true) (args : Array Value)
    (hw : Region.wanted oi (yielded ops a.tmps) = true) (hN : oi.dst = N) (hop : oi.op = .call { callee := .value (.func f), args := asx, argTypes := ts }) (hargs : asx.map a.eval = args)
    (h : Calls P f args w fun e w' => (∃ v, e = .returned v ∧ K (a.put N v) w') ∨ ∃ ch, e = .panicked ch ∧ Q (.panic ch) a w') : if Region.wanted oi (yielded ops a.tmps) = true then Oper.wp P oi a w K Q else K (a.put N undef) w := by
  rw [if_pos hw]
  subst hN
  have he := enters_ hf hname hb args w
  have hrun : (execOp a.eval oi).run P w = .ok (.enter f args) w := by
    unfold execOp
    simp [hop, resolve, Deferred.ofValue, invoke, Act.eval, hargs, he]
  unfold Oper.wp
  rw [hrun, Oper.upon_enter]
  refine h.mono fun e w'' hh => ?_
  rcases hh with ⟨v, rfl, hk⟩ | ⟨ch, rfl, hk⟩
  · exact hk
  · exact hk

theorem Sep.row_outk {α : Type} {d : Kd α} (hM : ∀ (b b' : Nat) w ok x cs, d.M w b ok x cs → d.M w b' ok x cs) {w0 W : World} {e : Nat} {v : Value} {xs : List α} {ps : List HP} (h : Sep w0 W (row d e v xs :: ps)) : d.R e W w0.heap.size (fun _ => True) v xs ∧ Below w0.heap.size w0 W := by
  obtain ⟨hb, bs, ⟨b1, b2, e1, hp, hs⟩, hn, hr⟩ := h
  exact ⟨Kd.R_raise (b := 0) (fun _ _ _ _ hm => hM _ _ _ _ _ _ hm) (Kd.R_mono hp (fun _ _ => trivial)) (fun j hj => (hr j (by rw [e1]; exact List.mem_append_left _ (hp.1 j hj))).1), hb⟩

end Go.Proofs.Ytmlodmpkcbncjaa.Sep

/- elder.GetAll: pairs, as long as there is one. -/
set_option linter.unusedVariables false
set_option linter.unusedSimpArgs false
namespace Go.Proofs.Ytmlodmpkcbncjaa.G
open Go Go.RowKit Go.Proofs.YtmlodmpkcbncjaaW.PrintWords Go.Proofs.YtmlodmpkcbncjaaW.PrintLast Go.Proofs.YtmlodmpkcbncjaaW.PrintMore Go.Proofs.Ytmlodmpkcbncjaa.PureKit Go.Proofs.Ytmlodmpkcbncjaa.Sep Go.Proofs.Ytmlodmpkcbncjaa.Rol

/-- The pairs behind a, how far they go, and what is wrong there. -/
def gall (l : List Int) : Nat → Nat → List S62 → List S62 × Nat × Int
  | 0, a, acc => (acc, a, 0)
  | d + 1, a, acc => if l.length ≤ a then (acc, a, 0) else match eone l a with
    | .ok y a2 => gall l d a2 (acc ++ [⟨y.1, y.2⟩])
    | .bad e _ => (acc, a, e)
theorem eone_ok {l : List Int} {a : Nat} {y : ByteArray × ByteArray} {a2 : Nat} (h : eone l a = .ok y a2) : a + 12 ≤ a2 ∧ a2 ≤ l.length := by
  unfold eone at h
  split at h
  · cases h
  · unfold emid at h
    split at h
    · cases h
    · split at h
      · cases h
      · unfold eend at h
        split at h
        · cases h; omega
        · cases h

theorem cur_At (w0 w : World) (g at_ : Nat) (l : List Int) (ps : List HP) (hs : Sep.Sep w0 w (cur g l at_ true :: ps)) :
    Calls Try.prog 63 #[.pointer (some ⟨g, 0, none⟩)] w fun e w' => e = .returned (.int .i64 (at_ : Int)) ∧ Sep.Sep w0 w' (cur g l at_ true :: ps) := by
  have hS := Aside0.mk hs
  clear hs
  go_enter Try.func63, Try.ntmps63
  go_wp2_with (first | ((with_reducible refine gate_callee (f := 60) rfl ?_); refine goesL_ (some 4) rfl rfl Try.func60 (by kernel_rfl) rfl #[.pointer (some ⟨g, 0, none⟩)] rfl (by (try simp only [List.map_toArray, List.map_cons, List.map_nil]); first | done | rfl) ?_; (with_reducible refine (cur_dead w0 _ g at_ l true ps hS.out).mono ?_); rintro e w1 ⟨rfl, h1⟩; refine ⟨_, rfl, ?_⟩; have hS1 := Aside0.mk h1; obtain ⟨A, c, hO⟩ := Sep.cur_open h1; have hc0 : w1.cell? ⟨g, 0, none⟩ = some (.slice A l.length c) := (hO.cell 0).trans rfl; have hc1 : w1.cell? ⟨g, 1, none⟩ = some (.int .i64 at_) := (hO.cell 1).trans rfl; clear h1 hO))
  go_ret
  exact ⟨rfl, hS1.out⟩

def gapost (w0 : World) (g gl gn : Nat) (l : List Int) (ps : List HP) (R : List S62 × Nat × Int) (e : Ending) (w2 : World) : Prop :=
  ∃ (at2 : Nat) (v : Value), Sep.Sep w0 w2 (cur g l at2 true :: blk gl #[v] 64 :: blk gn #[.int .i64 (R.2.1 : Int)] 3 :: row k62 62 v R.1 :: ps) ∧ ((e = .returned (.tuple #[]) ∧ R.2.2 = 0) ∨ e = .panicked [fault g R.2.2])

set_option maxHeartbeats 4000000 in
set_option maxRecDepth 100000 in
theorem elder_GetAll1 (w0 w : World) (g gl gn : Nat) (l : List Int) (ps : List HP) (hs : Sep.Sep w0 w (cur g l 0 true :: blk gl #[.slice none 0 0] 64 :: blk gn #[.int .i64 0] 3 :: row k62 62 (.slice none 0 0) [] :: ps)) (hb : Bytes l) (hl : l.length ≤ 1000000000000) :
    Calls Try.prog 80 #[.pointer (some ⟨g, 0, none⟩), .pointer (some ⟨gl, 0, none⟩), .pointer (some ⟨gn, 0, none⟩)] w fun e w2 => gapost w0 g gl gn l ps (gall l l.length 0 []) e w2 := by
  have hS := Aside0.mk hs
  clear hs
  have hu62 := Try.underlying62
  have hbA := Aside0.mk hb
  have hlA := Aside0.mk hl
  clear hb hl
  obtain ⟨RR, hRR⟩ : ∃ RR, gall l l.length 0 [] = RR := ⟨_, rfl⟩
  rw [hRR]
  have hRA := Aside0.mk hRR
  clear hRR
  go_enter Try.func80, Try.ntmps80
  go_wp2_with (fail)
  go_loopg [] l.length (fun kq w' => ∃ (a : Nat) (acc : List S62) (v : Value), Aside0 (a ≤ l.length ∧ l.length ≤ a + kq ∧ acc.length ≤ a ∧ gall l kq a acc = RR) ∧ Aside0 (Sep.Sep w0 w' (cur g l a true :: blk gl #[v] 64 :: blk gn #[.int .i64 (a : Int)] 3 :: row k62 62 v acc :: ps)))
  case atStart => exact ⟨0, [], _, ⟨⟨Nat.zero_le _, by omega, Nat.le_refl _, hRA.out⟩⟩, hS⟩
  case round =>
    obtain ⟨a, acc, v, hA, hS⟩ := hrel
    by_cases hin : a < l.length
    · obtain ⟨k1, rfl⟩ : ∃ k1, gk = k1 + 1 := ⟨gk - 1, by have := hA.out.2.1; omega⟩
      have hd : decide ((l.length : Int) - (a : Int) > 0) = true := decide_eq_true (by omega)
      have hd2 : decide (a < l.length) = true := decide_eq_true hin
      have hone := Aside0.mk (fun W ps' (h : Sep.Sep w0 W (cur g l a true :: ps')) => elder_one w0 W g a l ps' h hbA.out hA.out.1 hlA.out)
      have hga := hA.out.2.2.2
      rw [show gall l (k1 + 1) a acc = (match eone l a with | .ok y a2 => gall l k1 a2 (acc ++ [⟨y.1, y.2⟩]) | .bad e _ => (acc, a, e)) by rw [gall, if_neg (by omega)]] at hga
      clear hin
      cases hr : eone l a with
      | bad er a2 =>
        rw [hr] at hone hga
        dsimp only at hga
        subst hga
        clear hr
        go_wp2_with (fail)
        refine (cur_Left w0 _ g a l _ hS.out hA.out.1 hlA.out).mono ?_
        rintro e w1 ⟨rfl, h1⟩
        have hS1 := Aside0.mk h1
        clear h1
        go_wp2_with (fail)
        have hSd := Aside0.mk hS1.out.drew
        have hc0 : w1.drew.cell? ⟨gl, 0, none⟩ = some v := (hSd.out.pick1.cell 0).trans rfl
        refine start_ (n := 6) (S := fun w' => True) (ds := []) #[false, false, false, false, false, false] (by kernel_rfl) rfl rfl trivial (fun hHeld => ?_)
        refine pure_ (i := 1) (N := some 8) (v := ?_) (a' := ?_) #[false, true, false, false, false, false] rfl rfl (by kernel_rfl) (fun _ _ _ h => h) (Or.inl ⟨by rfl, ?_⟩) ?_ ?_
        rotate_left
        · intro w'
          go_simp
          with_reducible rfl
        rotate_left
        · simp only [Act.put, List.setIfInBounds_toArray, List.set_cons_zero, List.set_cons_succ, i64_w, i32_w]
          rfl
        refine two_ (i := 0) (j := 2) (Ni := some 7) (Nj := some 9) #[true, true, false, false, false, false] #[false, true, true, false, false, false] rfl rfl rfl rfl (by kernel_rfl) (by decide) (by decide) (fun K hK => ?_) (fun K hK => ?_)
        · skip
          refine value_ (w1 := ?_) (v := ?_) (by rfl) rfl ?_ ?_
          rotate_left 2
          · go_simp
            constructor
            · rfl
            · rfl
          refine hK.out _ _ trivial (fun hHeld => ?_)
          clear hK K
          refine norm_ (a' := ?_) ?_ ?_
          rotate_left
          · show Act.put _ (some 7) _ = _
            simp only [Act.put, List.setIfInBounds_toArray, List.set_cons_zero, List.set_cons_succ, i64_w, i32_w]
            rfl
          refine one_ (i := 2) (N := some 9) #[true, true, true, false, false, false] rfl rfl (by kernel_rfl) (by decide) (fun K hK => ?_)
          refine goesP_ Try.func69 (by kernel_rfl) rfl #[.pointer (some ⟨g, 0, none⟩)] (by rfl) rfl rfl (by (try simp only [List.map_toArray, List.map_cons, List.map_nil]); first | done | rfl) ?_
          refine (hone.out _ _ hSd.out).mono ?_
          rintro e w2 ⟨rfl, h2⟩
          refine .inr ⟨_, rfl, ?_⟩
          exact ⟨rfl, a2, v, h2, .inr rfl⟩
        · skip
          refine goesP_ Try.func69 (by kernel_rfl) rfl #[.pointer (some ⟨g, 0, none⟩)] (by rfl) rfl rfl (by (try simp only [List.map_toArray, List.map_cons, List.map_nil]); first | done | rfl) ?_
          refine (hone.out _ _ hSd.out).mono ?_
          rintro e w2 ⟨rfl, h2⟩
          refine .inr ⟨_, rfl, ?_⟩
          exact ⟨rfl, a2, v, h2, .inr rfl⟩
      | ok y a2 =>
        rw [hr] at hone hga
        dsimp only at hga
        have hbd := Aside0.mk (eone_ok hr)
        have hgaA := Aside0.mk hga
        clear hr hga
        obtain ⟨KB, VB⟩ := y
        go_wp2_with (fail)
        refine (cur_Left w0 _ g a l _ hS.out hA.out.1 hlA.out).mono ?_
        rintro e w1 ⟨rfl, h1⟩
        have hS1 := Aside0.mk h1
        clear h1
        go_wp2_with (fail)
        have hSd := Aside0.mk hS1.out.drew
        have hc0 : w1.drew.cell? ⟨gl, 0, none⟩ = some v := (hSd.out.pick1.cell 0).trans rfl
        refine start_ (n := 6) (S := fun w' => w'.cell? ⟨gl, 0, none⟩ = some v) (ds := [5]) #[false, false, false, false, false, false] (by kernel_rfl) rfl rfl (hc0) (fun hHeld => ?_)
        refine pure_ (i := 1) (N := some 8) (v := ?_) (a' := ?_) #[false, true, false, false, false, false] rfl rfl (by kernel_rfl) (fun _ _ _ h => h) (Or.inl ⟨by rfl, ?_⟩) ?_ ?_
        rotate_left
        · intro w'
          go_simp
          with_reducible rfl
        rotate_left
        · simp only [Act.put, List.setIfInBounds_toArray, List.set_cons_zero, List.set_cons_succ, i64_w, i32_w]
          rfl
        refine take_ (i := 0) (N := some 7) (v := ?_) (a' := ?_) #[true, true, false, false, false, false] rfl rfl (by kernel_rfl) (fun _ _ _ h => h) (Or.inl ⟨by rfl, ?_⟩) hHeld ?_ ?_
        rotate_left
        · intro w' s0
          go_simp
          with_reducible rfl
        rotate_left
        · simp only [Act.put, List.setIfInBounds_toArray, List.set_cons_zero, List.set_cons_succ, i64_w, i32_w]
          rfl
        refine one_ (i := 2) (N := some 9) #[true, true, true, false, false, false] rfl rfl (by kernel_rfl) (by decide) (fun K hK => ?_)
        refine goes_ Try.func69 (by kernel_rfl) rfl #[.pointer (some ⟨g, 0, none⟩)] (by rfl) rfl rfl (by (try simp only [List.map_toArray, List.map_cons, List.map_nil]); first | done | rfl) ?_
        refine (hone.out _ _ hSd.out).mono ?_
        rintro e w2 ⟨rfl, h2⟩
        refine ⟨.agg #[.string KB, .string VB], rfl, ?_⟩
        have hS2 := Aside0.mk h2
        clear h2
        refine hK.out _ _ ((hS2.out.pick1.cell 0).trans rfl) (fun hHeld => ?_)
        clear hK K
        refine norm_ (a' := ?_) ?_ ?_
        rotate_left
        · show Act.put _ (some 9) _ = _
          simp only [Act.put, List.setIfInBounds_toArray, List.set_cons_zero, List.set_cons_succ, i64_w, i32_w]
          rfl
        refine one_ (i := 3) (N := some 10) #[true, true, true, true, false, false] rfl rfl (by kernel_rfl) (by decide) (fun K hK => ?_)
        refine value_ (w1 := ?_) (v := ?_) (by rfl) rfl ?_ ?_
        rotate_left 2
        · go_simp
          constructor
          · rfl
          · rfl
        have hS3 := Aside0.mk (hS2.out.pick3)
        obtain ⟨bs, hRr, hGr⟩ := hS3.out.row_open
        have hR := Aside0.mk hRr
        have hG := Aside0.mk hGr
        clear hRr hGr
        refine hK.out _ _ (((hS2.out.alloc #[.string KB, .string VB] 62).pick2.cell 0).trans rfl) (fun hHeld => ?_)
        clear hK K
        refine norm_ (a' := ?_) ?_ ?_
        rotate_left
        · show Act.put _ (some 10) _ = _
          simp only [Act.put, List.setIfInBounds_toArray, List.set_cons_zero, List.set_cons_succ, i64_w, i32_w]
          rfl
        refine one_ (i := 4) (N := some 11) #[true, true, true, true, true, false] rfl rfl (by kernel_rfl) (by decide) (fun K hK => ?_)
        refine Kd.R_append_step k62 (w0 := w2) 0 (by rfl) (.tmp 7) (.tmp 10) 64 62 (.agg #[(.string ⟨#[]⟩), (.string ⟨#[]⟩)]) 32 rfl Try.underlying64 info62 rfl (by decide) (by omega) v acc (⟨KB, VB⟩ : S62) [.string KB, .string VB] (fun k => k ∈ bs ∨ w2.heap.size ≤ k) (fun _ => False) rfl rfl (k62_mkM _ _ _ _) (fun _ h => h.elim) (fun _ h => .inr h) ?aO ?aB ?aS ?aL ?_
        case aO => exact Kd.R_mono hR.out (fun _ h => .inl h)
        case aB => exact Below.refl _ _
        case aS => exact Nat.zero_le _
        case aL => have := hA.out; have := hlA.out; omega
        intro v6 w6 ho6 hb6 hg6 hat6
        obtain ⟨A6, c6, rfl⟩ := Kd.R_slice ho6
        have hlen6 : (acc ++ [(⟨KB, VB⟩ : S62)]).length = acc.length + 1 := by simp
        rw [hlen6] at ho6 ⊢
        have hS6 := Aside0.mk (hG.out w6 _ _ ho6 hg6)
        clear ho6 hb6 hg6 hat6
        refine hK.out _ _ ((hS6.out.pick2.cell 0).trans rfl) (fun hHeld => ?_)
        clear hK K
        refine norm_ (a' := ?_) ?_ ?_
        rotate_left
        · show Act.put _ (some 11) _ = _
          simp only [Act.put, List.setIfInBounds_toArray, List.set_cons_zero, List.set_cons_succ, i64_w, i32_w]
          rfl
        refine last_ (i := 5) (N := none) #[true, true, true, true, true, true] rfl rfl (by kernel_rfl) (by decide) (fun K hK => ?_)
        have hz := hS6.out.pick2.frozen 0
        have hcx : w6.cell? ⟨gl, 0, none⟩ = some v := (hS6.out.pick2.cell 0).trans rfl
        have hset := hS6.out.pick2.set 0 (.slice A6 (acc.length + 1) c6)
        simp only [List.setIfInBounds_toArray, List.set_cons_zero] at hset
        have hS7 := Aside0.mk hset.put2.put3
        clear hset
        refine skip_ (w1 := ?_) (by kernel_rfl) rfl ?_ ?_
        rotate_left
        · go_simp
          rfl
        clear hz hcx
        refine hK.out _ _ ?_
        clear hK K
        refine done_ (by kernel_rfl) ?_
        generalize w6.setCell ⟨gl, 0, none⟩ (.slice A6 (acc.length + 1) c6) = w7 at hS7 ⊢
        go_wp2_with (fail)
        refine (cur_At w0 _ g a2 l _ hS7.out).mono ?_
        rintro e w8 ⟨rfl, h8⟩
        have hz8 := h8.pick2.frozen 0
        have hc8 : w8.cell? ⟨gn, 0, none⟩ = some (.int .i64 (a : Int)) := (h8.pick2.cell 0).trans rfl
        have hset := h8.pick2.set 0 (.int .i64 (a2 : Int))
        simp only [List.setIfInBounds_toArray, List.set_cons_zero] at hset
        have hS9 := Aside0.mk hset.put2
        clear hset h8
        go_wp2_with (fail)
        go_roundg k1
        case measure => omega
        case rel => exact ⟨a2, _, _, ⟨hbd.out.2, by have := hbd.out; have := hA.out; omega, by rw [List.length_append]; have := hbd.out; have := hA.out; simp only [List.length_cons, List.length_nil]; omega, hgaA.out⟩, hS9⟩
    · have hae : a = l.length := by have := hA.out.1; omega
      have hd : decide ((l.length : Int) - (a : Int) > 0) = false := decide_eq_false (by omega)
      have hd2 : decide (a < l.length) = false := decide_eq_false hin
      have hga := hA.out.2.2.2
      have hgr : RR = (acc, a, 0) := by
        rw [← hga]
        cases gk with
        | zero => rfl
        | succ k => rw [gall, if_pos (by omega)]
      subst hgr
      clear hga hae
      go_wp2_with (fail)
      refine (cur_Left w0 _ g a l _ hS.out hA.out.1 hlA.out).mono ?_
      rintro e w1 ⟨rfl, h1⟩
      have hS1 := Aside0.mk h1
      clear h1
      go_wp2_with (fail)
      go_end0
      exact ⟨a, v, hS1.out, .inl ⟨rfl, rfl⟩⟩

def elder_GetAll.f (l0 : List Int) : Option (List S62 × Int × Int) := if ebytesb l0 = true ∧ l0.length ≤ 1000000000000 then some ((gall l0 l0.length 0 []).1, (((gall l0 l0.length 0 []).2.1 : Nat) : Int), (gall l0 l0.length 0 []).2.2) else none

set_option maxHeartbeats 2000000 in
set_option maxRecDepth 100000 in
theorem elder_GetAll.calls (A0 : Option Addr) (c0 : Nat) (l0 : List Int) (r0 : List S62) (r1 r2 : Int) (w : World) (hr0 : Kd.C (Kd.int .u8) w A0 l0.length l0) (hc0 : l0.length ≤ c0) (h : elder_GetAll.f l0 = some (r0, r1, r2)) :
    Calls Try.prog 50 #[.slice A0 l0.length c0] w fun e w' => ∃ v0_ : Value, e = .returned (.tuple #[v0_, .int .i64 r1, .int .i64 r2]) ∧ Kd.R k62 62 w' w.heap.size (fun _ => True) v0_ r0 ∧ Below w.heap.size w w' := by
  have hu62 := Try.underlying62
  obtain ⟨hb, hl, a, hro⟩ : Bytes l0 ∧ l0.length ≤ 1000000000000 ∧ ∃ a : Nat, r1 = a ∧ gall l0 l0.length 0 [] = (r0, a, r2) := by
    unfold elder_GetAll.f at h
    split at h
    · rename_i hh
      refine ⟨(ebytesb_iff l0).1 hh.1, hh.2, (gall l0 l0.length 0 []).2.1, ?_⟩
      have := Option.some.inj h
      simp only [Prod.mk.injEq] at this
      exact ⟨this.2.1.symm, by rw [← this.1, ← this.2.2]⟩
    · cases h
  obtain ⟨rfl, hro⟩ := hro
  clear h
  have hsz : ∀ (W : World) (o : Obj), (W.alloc o).heap.size = W.heap.size + 1 := fun W o => by show (W.heap.push _).size = _; simp
  have hS0 := ((Sep.start w).alloc #[.slice none 0 0] 64).alloc #[.int .i64 0] 3
  rw [hsz] at hS0
  have hS : Aside0 (Sep.Sep w _ ([blk w.heap.size #[.slice none 0 0] 64, blk (w.heap.size + 1) #[.int .i64 0] 3, row k62 62 (.slice none 0 0) []] ++ [])) := ⟨(Sep.row_nil k62 62 hS0).pick2.put2.put1.pick2⟩
  have hR := Aside0.mk hr0
  have hroA := Aside0.mk hro
  clear hr0 hS0 hro
  have hmf : ∀ (fn : Fn) (first cap : Array Value) (w : World), (Instr.makeFunc fn first cap).run Try.prog w = .ok (.func fn first cap) w := fun _ _ _ _ => rfl
  go_enter Try.func50, Try.ntmps50
  go_wp2_with (fail)
  refine (run_calls w _ A0 c0 l0 80 #[.pointer (some ⟨w.heap.size, 0, none⟩), .pointer (some ⟨w.heap.size + 1, 0, none⟩)] [blk w.heap.size #[.slice none 0 0] 64, blk (w.heap.size + 1) #[.int .i64 0] 3, row k62 62 (.slice none 0 0) []] []
    (fun at2 x qs => x = r2 ∧ ∃ v, qs = [blk w.heap.size #[v] 64, blk (w.heap.size + 1) #[.int .i64 (a : Int)] 3, row k62 62 v r0])
    Try.call80 hS.out (Kd.C_alloc (Kd.C_alloc hR.out _) _) hc0 hl (fun w1 g ps' h1 => by
      have := elder_GetAll1 w w1 g w.heap.size (w.heap.size + 1) l0 ps' h1 hb hl
      rw [hroA.out] at this
      refine this.mono ?_
      rintro e w2 ⟨at2, v, h2, h3⟩
      exact ⟨at2, r2, _, ⟨rfl, v, rfl⟩, h2, h3⟩)).mono ?_
  rintro e w2 ⟨at2, x, qs, ⟨rfl, v, rfl⟩, rfl, h2⟩
  obtain ⟨bs, hRr⟩ := h2.pick2.row_R
  obtain ⟨A6, c6, rfl⟩ := Kd.R_slice hRr
  have hS2 := Aside0.mk h2
  clear hRr h2
  go_wp2_with (fail)
  have hc0 : w2.drew.cell? ⟨w.heap.size, 0, none⟩ = some (.slice A6 r0.length c6) := (hS2.out.drew.cell 0).trans rfl
  have hc1 : w2.drew.cell? ⟨w.heap.size + 1, 0, none⟩ = some (.int .i64 (a : Int)) := (hS2.out.drew.pick1.cell 0).trans rfl
  refine start_ (n := 6) (S := fun w' => w'.cell? ⟨w.heap.size, 0, none⟩ = some (.slice A6 r0.length c6) ∧ w'.cell? ⟨w.heap.size + 1, 0, none⟩ = some (.int .i64 (a : Int))) (ds := []) #[false, false, false, false, false, false] (by kernel_rfl) rfl rfl ⟨hc0, hc1⟩ (fun hHeld => ?_)
  refine pure_ (i := 2) (N := some 13) (v := ?_) (a' := ?_) #[false, false, true, false, false, false] rfl rfl (by kernel_rfl) (fun _ _ _ h => h) (Or.inl ⟨by rfl, ?_⟩) ?_ ?_
  rotate_left
  · intro w'
    go_simp
    with_reducible rfl
  rotate_left
  · simp only [Act.put, List.setIfInBounds_toArray, List.set_cons_zero, List.set_cons_succ, i64_w, i32_w]
    rfl
  refine take_ (i := 0) (N := some 11) (v := ?_) (a' := ?_) #[true, false, true, false, false, false] rfl rfl (by kernel_rfl) (fun _ _ _ h => h) (Or.inl ⟨by rfl, ?_⟩) hHeld ?_ ?_
  rotate_left
  · rintro w' ⟨s0, s1⟩
    go_simp
    with_reducible rfl
  rotate_left
  · simp only [Act.put, List.setIfInBounds_toArray, List.set_cons_zero, List.set_cons_succ, i64_w, i32_w]
    rfl
  refine take_ (i := 1) (N := some 12) (v := ?_) (a' := ?_) #[true, true, true, false, false, false] rfl rfl (by kernel_rfl) (fun _ _ _ h => h) (Or.inl ⟨by rfl, ?_⟩) hHeld ?_ ?_
  rotate_left
  · rintro w' ⟨s0, s1⟩
    go_simp
    with_reducible rfl
  rotate_left
  · simp only [Act.put, List.setIfInBounds_toArray, List.set_cons_zero, List.set_cons_succ, i64_w, i32_w]
    rfl
  refine one_ (i := 3) (N := none) #[true, true, true, true, false, false] rfl rfl (by kernel_rfl) (by decide) (fun K hK => ?_)
  have hz := hS2.out.drew.frozen 0
  have hcx : w2.drew.cell? ⟨w.heap.size, 0, none⟩ = some (.slice A6 r0.length c6) := hc0
  have hset := hS2.out.drew.set 0 (.slice A6 r0.length c6)
  simp only [List.setIfInBounds_toArray, List.set_cons_zero] at hset
  have hS7 := Aside0.mk hset
  clear hset
  refine skip_ (w1 := ?_) (by kernel_rfl) rfl ?_ ?_
  rotate_left
  · go_simp
    rfl
  clear hz hcx
  refine hK.out _ _ ⟨(hS7.out.cell 0).trans rfl, (hS7.out.pick1.cell 0).trans rfl⟩ (fun hHeld => ?_)
  clear hK K
  refine one_ (i := 4) (N := none) #[true, true, true, true, true, false] rfl rfl (by kernel_rfl) (by decide) (fun K hK => ?_)
  have hz := hS2.out.pick1.frozen 0
  have hcx : (w2.drew.setCell ⟨w.heap.size, 0, none⟩ (.slice A6 r0.length c6)).cell? ⟨w.heap.size + 1, 0, none⟩ = some (.int .i64 (a : Int)) := (hS7.out.pick1.cell 0).trans rfl
  have hset := hS7.out.pick1.set 0 (.int .i64 (a : Int))
  simp only [List.setIfInBounds_toArray, List.set_cons_zero] at hset
  have hS8 := Aside0.mk hset.put1
  clear hset
  refine skip_ (w1 := ?_) (by kernel_rfl) rfl ?_ ?_
  rotate_left
  · go_simp
    rfl
  clear hz hcx
  refine hK.out _ _ ⟨(hS8.out.cell 0).trans rfl, (hS8.out.pick1.cell 0).trans rfl⟩ (fun hHeld => ?_)
  clear hK K
  refine pure_ (i := 5) (N := some 4) (v := ?_) (a' := ?_) #[true, true, true, true, true, true] rfl rfl (by kernel_rfl) (fun _ _ _ h => h) (Or.inl ⟨by rfl, ?_⟩) ?_ ?_
  rotate_left
  · intro w'
    go_simp
    with_reducible rfl
  rotate_left
  · simp only [Act.put, List.setIfInBounds_toArray, List.set_cons_zero, List.set_cons_succ, i64_w, i32_w]
    rfl
  refine done_ (by kernel_rfl) ?_
  go_wp2_with (fail)
  try simp only [Exit.inBlock, Exit.then]
  have hSf1 := hS2.out.set 0 (.slice A6 r0.length c6)
  have hSf2 := hSf1.pick1.set 0 (.int .i64 (a : Int))
  simp only [List.setIfInBounds_toArray, List.set_cons_zero] at hSf2
  have hSf := Aside0.mk hSf2.put1.drew
  clear hSf1 hSf2
  have hce : ((w2.setCell ⟨w.heap.size, 0, none⟩ (.slice A6 r0.length c6)).setCell ⟨w.heap.size + 1, 0, none⟩ (.int .i64 (a : Int))).drew.cell? ⟨w.heap.size, 0, none⟩ = some (.slice A6 r0.length c6) := (hSf.out.cell 0).trans rfl
  have hca : ((w2.setCell ⟨w.heap.size, 0, none⟩ (.slice A6 r0.length c6)).setCell ⟨w.heap.size + 1, 0, none⟩ (.int .i64 (a : Int))).drew.cell? ⟨w.heap.size + 1, 0, none⟩ = some (.int .i64 (a : Int)) := (hSf.out.pick1.cell 0).trans rfl
  generalize ((w2.setCell ⟨w.heap.size, 0, none⟩ (.slice A6 r0.length c6)).setCell ⟨w.heap.size + 1, 0, none⟩ (.int .i64 (a : Int))).drew = w9 at hce hca hSf ⊢
  refine bodyPost_ret (v := .tuple #[.slice A6 r0.length c6, .int .i64 (a : Int), .int .i64 x]) ?_ rfl ?_
  · simp [results, Try.results50, asAddr, loadVar, isAgg, underlying, Try.underlying64, Try.underlying3, Result.andThen, hca, hce]
  · refine ⟨_, rfl, ?_⟩
    exact Sep.row_outk (fun _ _ _ _ _ _ h => h) hSf.out.tail.tail

end Go.Proofs.Ytmlodmpkcbncjaa.G

/- A number's bytes: read again. (From HBack.) -/
set_option linter.unusedVariables false
set_option linter.unusedSimpArgs false
namespace Go.Proofs.Ytmlodmpkcbncjaa.G
open Go Go.RowKit Go.Proofs.YtmlodmpkcbncjaaW.PrintWords Go.Proofs.YtmlodmpkcbncjaaW.PrintLast Go.Proofs.YtmlodmpkcbncjaaW.PrintMore Go.Proofs.Ytmlodmpkcbncjaa.PureKit Go.Proofs.Ytmlodmpkcbncjaa.Sep

theorem nbytes_modN : ∀ (n y : Nat), nbytes n ((y % 256 ^ n : Nat) : Int) = nbytes n (y : Int)
  | 0, _ => rfl
  | n + 1, y => by
    have hp : 256 ^ (n + 1) = 256 * 256 ^ n := by rw [Nat.pow_succ, Nat.mul_comm]
    have e1 : y % (256 * 256 ^ n) % 256 = y % 256 := Nat.mod_mul_right_mod _ _ _
    have e2 : y % (256 * 256 ^ n) / 256 = y / 256 % 256 ^ n := Nat.mod_mul_right_div_self _ _ _
    have e3 := nbytes_modN n (y / 256)
    simp only [nbytes, List.cons.injEq]
    rw [hp]
    generalize 256 ^ n = P at *
    refine ⟨by omega, ?_⟩
    rw [show ((y % (256 * P) : Nat) : Int) / 256 = ((y % (256 * P) / 256 : Nat) : Int) by omega, e2, e3]
    congr 1
theorem nbytes_mod (n : Nat) (x : Int) (h : 0 ≤ x) : nbytes n (x % ((256 ^ n : Nat) : Int)) = nbytes n x := by
  obtain ⟨y, rfl⟩ := Int.eq_ofNat_of_zero_le h
  rw [← nbytes_modN n y]
  congr 1
theorem lev_nbytesN : ∀ (n y : Nat), lev (nbytes n (y : Int)) = ((y % 256 ^ n : Nat) : Int)
  | 0, y => by simp [nbytes, lev]
  | n + 1, y => by
    have hp : 256 ^ (n + 1) = 256 * 256 ^ n := by rw [Nat.pow_succ, Nat.mul_comm]
    have e := lev_nbytesN n (y / 256)
    have e4 : y % (256 * 256 ^ n) = y % 256 + 256 * (y / 256 % 256 ^ n) := Nat.mod_mul
    simp only [nbytes, lev]
    rw [show (y : Int) / 256 = ((y / 256 : Nat) : Int) by omega, e, hp, e4]
    generalize y / 256 % 256 ^ n = q
    omega
theorem lev_nbytes (n : Nat) (x : Int) (h : 0 ≤ x) : lev (nbytes n x) = x % ((256 ^ n : Nat) : Int) := by
  obtain ⟨y, rfl⟩ := Int.eq_ofNat_of_zero_le h
  have := lev_nbytesN n y
  rw [show ((y % 256 ^ n : Nat) : Int) = (y : Int) % ((256 ^ n : Nat) : Int) from rfl] at this
  exact this
theorem tkdrop {L a r : List Int} {p : Nat} (h : L.drop p = a ++ r) : (L.take (p + a.length)).drop p = a := by
  rw [← List.take_drop, h, List.take_left]

theorem lev_leb : ∀ (l : List Int), Bytes l → lev l = ((Rol.leb l : Nat) : Int)
  | [], _ => rfl
  | b :: s, h => by
    have := lev_leb s h.tail
    have hb := h.head
    simp only [lev, Rol.leb]
    rw [this]
    omega
theorem nbytes_lev : ∀ (l : List Int), Bytes l → nbytes l.length (lev l) = l
  | [], _ => rfl
  | b :: s, h => by
    have := nbytes_lev s h.tail
    have hb := h.head
    simp only [List.length_cons, nbytes, lev]
    rw [show (b + 256 * lev s) % 256 = b by omega, show (b + 256 * lev s) / 256 = lev s by omega, this]

end Go.Proofs.Ytmlodmpkcbncjaa.G

/- elder: bytes, cut. -/
set_option linter.unusedVariables false
set_option linter.unusedSimpArgs false
namespace Go.Proofs.Ytmlodmpkcbncjaa.G
open Go Go.RowKit Go.Proofs.YtmlodmpkcbncjaaW.PrintWords Go.Proofs.YtmlodmpkcbncjaaW.PrintLast Go.Proofs.YtmlodmpkcbncjaaW.PrintMore Go.Proofs.Ytmlodmpkcbncjaa.PureKit Go.Proofs.Ytmlodmpkcbncjaa.Sep Go.Proofs.Ytmlodmpkcbncjaa.Rol

theorem cut_join (l : List Int) (a n : Nat) : l.take a ++ cut l a n = l.take (a + n) := by
  unfold cut
  rw [List.drop_take, Nat.add_sub_cancel_left, ← List.take_add]
theorem cut_zero (l : List Int) (n : Nat) : cut l 0 n = l.take n := by
  unfold cut
  rw [Nat.zero_add, List.drop_zero]
theorem nbytes_cut (l : List Int) (hb : Bytes l) (a n k : Nat) (h : a + n ≤ l.length) (hk : leb (cut l a n) = k) : nbytes n (k : Int) = cut l a n := by
  have h1 := nbytes_lev (cut l a n) (cut_bytes hb a n)
  rw [cut_len l a n h, lev_leb _ (cut_bytes hb a n), hk] at h1
  exact h1
theorem head_take (l : List Int) (hb : Bytes l) (k v : Nat) (hk : leb (cut l 0 4) = k) (hv : leb (cut l 4 4) = v) (h : 8 + k + v ≤ l.length) :
    ehead (strOfNums (cut l 8 k)) (strOfNums (cut l (8 + k) v)) = l.take (8 + k + v) := by
  unfold ehead
  rw [nums_size, nums_size, cut_len l 8 k (by omega), cut_len l (8 + k) v (by omega), sby_nums _ (cut_bytes hb 8 k), sby_nums _ (cut_bytes hb (8 + k) v),
    nbytes_cut l hb 0 4 k (by omega) hk, nbytes_cut l hb 4 4 v (by omega) hv, cut_zero, cut_join l 4 4, cut_join l 8 k, cut_join l (8 + k) v]
theorem end_iff (l : List Int) (hb : Bytes l) (n ts : Nat) (hts : ts < 4294967296) (h : n + 4 ≤ l.length) : (l.take n ++ nbytes 4 (ts : Int) = l.take (n + 4)) ↔ ((ts : Nat) : Int) = lev (cut l n 4) := by
  rw [← cut_join l n 4, List.append_cancel_left_eq]
  constructor
  · intro e
    rw [← e, lev_nbytes 4 (ts : Int) (by omega)]
    omega
  · intro e
    rw [e]
    have h1 := nbytes_lev (cut l n 4) (cut_bytes hb n 4)
    rw [cut_len l n 4 h] at h1
    exact h1

theorem toNats (k v : Nat) : (8 + (k : Int)).toNat = 8 + k ∧ (8 + (k : Int) + (v : Int)).toNat = 8 + k + v ∧ (8 + (k : Int) + (v : Int) + 4).toNat = 8 + k + v + 4 := ⟨by omega, by omega, by omega⟩
theorem wraps5 (k v : Nat) (hk : k ≤ 4096) (hv : v ≤ 1048576) : wrap64 (k : Int) = (k : Int) ∧ wrap64 (v : Int) = (v : Int) ∧ wrap64 (8 + (k : Int)) = 8 + (k : Int) ∧ wrap64 (8 + (k : Int) + (v : Int)) = 8 + (k : Int) + (v : Int) ∧ wrap64 (8 + (k : Int) + (v : Int) + 4) = 8 + (k : Int) + (v : Int) + 4 :=
  ⟨w64 (by omega) (by omega), w64 (by omega) (by omega), w64 (by omega) (by omega), w64 (by omega) (by omega), w64 (by omega) (by omega)⟩

end Go.Proofs.Ytmlodmpkcbncjaa.G

/- elder: a pair's bytes, read. -/
set_option linter.unusedVariables false
set_option linter.unusedSimpArgs false
namespace Go.Proofs.Ytmlodmpkcbncjaa.Pure
open Go Go.RowKit Go.Proofs.Ytmlodmpkcbncjaa.G Go.Proofs.YtmlodmpkcbncjaaW.PrintWords Go.Proofs.YtmlodmpkcbncjaaW.PrintLast Go.Proofs.Ytmlodmpkcbncjaa.PureKit Go.Proofs.Ytmlodmpkcbncjaa.Sep Go.Proofs.Ytmlodmpkcbncjaa.Rol

theorem cut_of {l a b c : List Int} {n m : Nat} (h : l = a ++ (b ++ c)) (ha : a.length = n) (hb : b.length = m) : cut l n m = b := by
  subst h
  subst ha
  subst hb
  unfold cut
  rw [← List.append_assoc, ← List.length_append, List.take_left, List.drop_left]
theorem ebytes_len (K V : ByteArray) : (ebytes K V).length = 12 + K.size + V.size := by
  unfold ebytes
  rw [List.length_append, ehead_len, nbytes_len]
  omega
theorem ebytes_bytes (K V : ByteArray) : Bytes (ebytes K V) := Bytes.append (ehead_bytes K V) (nbytes_bytes 4 _)
theorem lev4 (x : Nat) (h : x < 4294967296) : lev (nbytes 4 (x : Int)) = (x : Int) := by
  rw [lev_nbytes 4 (x : Int) (by omega)]
  omega
theorem eone_put (K V : ByteArray) (r : List Int) (h : echeck K V = 0) : eone (ebytes K V ++ r) 0 = .ok (K, V) (12 + K.size + V.size) := by
  have hz := echeck_sizes h
  obtain ⟨_, hks, hvs⟩ := hz
  obtain ⟨l, hl⟩ : ∃ l, ebytes K V ++ r = l := ⟨_, rfl⟩
  obtain ⟨ts, hts⟩ : ∃ ts, tsum 0 (ehead K V) = ts := ⟨_, rfl⟩
  have htsl : ts < 4294967296 := by rw [← hts]; exact tsum_lt 0 _
  have hll : l.length = 12 + K.size + V.size + r.length := by rw [← hl, List.length_append, ebytes_len]
  have he : l = nbytes 4 K.size ++ (nbytes 4 V.size ++ (sby K ++ (sby V ++ (nbytes 4 (ts : Int) ++ r)))) := by
    rw [← hl]
    unfold ebytes
    rw [hts]
    unfold ehead
    simp only [List.append_assoc]
  have c1 : cut l 0 4 = nbytes 4 K.size := cut_of (a := []) he rfl (nbytes_len 4 _)
  have c2 : cut l 4 4 = nbytes 4 V.size := cut_of he (nbytes_len 4 _) (nbytes_len 4 _)
  have c3 : cut l 8 K.size = sby K := cut_of (a := nbytes 4 K.size ++ nbytes 4 V.size) (c := sby V ++ (nbytes 4 (ts : Int) ++ r)) (by rw [he]; simp only [List.append_assoc]) (by rw [List.length_append, nbytes_len, nbytes_len]) (sby_len K)
  have c4 : cut l (8 + K.size) V.size = sby V := cut_of (a := nbytes 4 K.size ++ nbytes 4 V.size ++ sby K) (c := nbytes 4 (ts : Int) ++ r) (by rw [he]; simp only [List.append_assoc]) (by rw [List.length_append, List.length_append, nbytes_len, nbytes_len, sby_len]) (sby_len V)
  have c5 : cut l (8 + K.size + V.size) 4 = nbytes 4 (ts : Int) := cut_of (a := nbytes 4 K.size ++ nbytes 4 V.size ++ sby K ++ sby V) (c := r) (by rw [he]; simp only [List.append_assoc]) (by rw [List.length_append, List.length_append, List.length_append, nbytes_len, nbytes_len, sby_len, sby_len]) (nbytes_len 4 _)
  rw [hl]
  clear he hl
  unfold eone
  simp only [Nat.zero_add]
  rw [if_neg (by omega), c1, c2, lev4 _ (by omega), lev4 _ (by omega), Int.toNat_natCast, Int.toNat_natCast]
  unfold emid
  have hel : elen K.size V.size = 0 := h
  rw [if_neg (by rw [hel]; simp)]
  simp only [Nat.zero_add]
  rw [if_neg (by omega)]
  unfold eend
  simp only [Nat.zero_add]
  rw [c3, c4, c5, nums_sby, nums_sby, hts, lev4 _ htsl, if_pos rfl, show 8 + K.size + V.size + 4 = 12 + K.size + V.size by omega]

end Go.Proofs.Ytmlodmpkcbncjaa.Pure

/- elder: rows of pairs, plain. -/
set_option linter.unusedVariables false
set_option linter.unusedSimpArgs false
namespace Go.Proofs.Ytmlodmpkcbncjaa.Pure
open Go Go.RowKit Go.Proofs.Ytmlodmpkcbncjaa.G Go.Proofs.YtmlodmpkcbncjaaW.PrintWords Go.Proofs.YtmlodmpkcbncjaaW.PrintLast Go.Proofs.Ytmlodmpkcbncjaa.PureKit Go.Proofs.Ytmlodmpkcbncjaa.Sep Go.Proofs.Ytmlodmpkcbncjaa.Rol

abbrev EP := S62
def flat (ps : List EP) : List Int := ps.flatMap fun p => ebytes p.f0 p.f1
def allok (ps : List EP) : Prop := ∀ p ∈ ps, echeck p.f0 p.f1 = 0
theorem flat_cons (p : EP) (ps : List EP) : flat (p :: ps) = ebytes p.f0 p.f1 ++ flat ps := by simp [flat]
theorem flat_append (a b : List EP) : flat (a ++ b) = flat a ++ flat b := by simp [flat]
theorem flat_bytes : ∀ ps : List EP, Bytes (flat ps)
  | [] => Bytes.nil
  | p :: ps => by rw [flat_cons]; exact Bytes.append (ebytes_bytes _ _) (flat_bytes ps)
theorem rd_ep (ps : List EP) (i : Nat) (h : i < ps.length) : rd_T62 ps (i : Int) = ps[i] := by
  unfold rd_T62
  rw [Int.toNat_natCast, List.getD_eq_getElem?_getD, List.getElem?_eq_getElem h]
  rfl
theorem str_beq (s t : ByteArray) : (s.toList == t.toList) = decide (s = t) := by
  by_cases h : s = t
  · subst h; simp
  · rw [decide_eq_false h]
    refine beq_eq_false_iff_ne.2 (fun e => h ?_)
    rw [Lib.toList_data, Lib.toList_data] at e
    exact ext_bytes e

theorem cut_drop (l : List Int) (a b n : Nat) : cut (l.drop a) b n = cut l (a + b) n := by
  unfold cut
  rw [List.take_drop, List.drop_drop, Nat.add_assoc]
def shift {α : Type} (a : Nat) : Res α → Res α
  | .ok y c => .ok y (a + c)
  | .bad e c => .bad e (a + c)
theorem eone_shift (l : List Int) (a : Nat) (ha : a ≤ l.length) : eone l a = shift a (eone (l.drop a) 0) := by
  have hl : (l.drop a).length = l.length - a := List.length_drop
  unfold eone
  by_cases c8 : l.length < a + 8
  · rw [if_pos c8, if_pos (by omega)]; rfl
  rw [if_neg c8, if_neg (by omega)]
  simp only [cut_drop, Nat.zero_add, Nat.add_zero]
  generalize (lev (cut l a 4)).toNat = k
  generalize (lev (cut l (a + 4) 4)).toNat = v
  unfold emid
  by_cases ce : elen k v ≠ 0
  · rw [if_pos ce, if_pos ce]; rfl
  rw [if_neg ce, if_neg ce]
  by_cases cl : l.length < a + 8 + (k + v + 4)
  · rw [if_pos cl, if_pos (by omega)]; rfl
  rw [if_neg cl, if_neg (by omega)]
  unfold eend
  simp only [cut_drop, Nat.zero_add, ← Nat.add_assoc]
  split
  · simp only [shift, ← Nat.add_assoc]
  · simp only [shift, ← Nat.add_assoc]
theorem eone_back0 (l : List Int) (hb : Bytes l) (K V : ByteArray) (a2 : Nat) (h : eone l 0 = .ok (K, V) a2) : echeck K V = 0 ∧ ebytes K V = l.take a2 := by
  unfold eone at h
  split at h
  · cases h
  rename_i c8
  simp only [Nat.zero_add] at h c8
  rw [lev_leb _ (cut_bytes hb 0 4), lev_leb _ (cut_bytes hb 4 4), Int.toNat_natCast, Int.toNat_natCast] at h
  obtain ⟨k, hk⟩ : ∃ k, leb (cut l 0 4) = k := ⟨_, rfl⟩
  obtain ⟨v, hv⟩ : ∃ v, leb (cut l 4 4) = v := ⟨_, rfl⟩
  rw [hk, hv] at h
  unfold emid at h
  split at h
  · cases h
  rename_i ce
  split at h
  · cases h
  rename_i cl
  simp only [Nat.zero_add] at cl
  have hht := head_take l hb k v hk hv (by omega)
  unfold eend at h
  simp only [Nat.zero_add] at h
  rw [hht] at h
  split at h
  case isFalse => cases h
  rename_i hs
  obtain ⟨h1, rfl⟩ : (strOfNums (cut l 8 k), strOfNums (cut l (8 + k) v)) = (K, V) ∧ 8 + k + v + 4 = a2 := by
    cases h; exact ⟨rfl, rfl⟩
  cases h1
  have hk2 : (strOfNums (cut l 8 k)).size = k := by rw [nums_size, cut_len _ _ _ (by omega)]
  have hv2 : (strOfNums (cut l (8 + k) v)).size = v := by rw [nums_size, cut_len _ _ _ (by omega)]
  refine ⟨?_, ?_⟩
  · have : elen k v = 0 := Classical.not_not.1 ce
    rw [← this]
    unfold echeck elen
    rw [hk2, hv2]
  · unfold ebytes
    rw [hht]
    exact (end_iff l hb (8 + k + v) _ (tsum_lt 0 _) (by omega)).2 hs
theorem eone_back (l : List Int) (hb : Bytes l) (a : Nat) (ha : a ≤ l.length) (K V : ByteArray) (a2 : Nat) (h : eone l a = .ok (K, V) a2) : echeck K V = 0 ∧ ebytes K V = (l.take a2).drop a := by
  rw [eone_shift l a ha] at h
  cases hq : eone (l.drop a) 0 with
  | bad e c => rw [hq] at h; cases h
  | ok y c =>
    rw [hq] at h
    obtain ⟨rfl, rfl⟩ : y = (K, V) ∧ a + c = a2 := by cases h; exact ⟨rfl, rfl⟩
    have := eone_back0 (l.drop a) (hb.drop a) K V c hq
    exact ⟨this.1, by rw [this.2, List.take_drop]⟩

theorem gall_acc (l : List Int) : ∀ (d a : Nat) (acc : List EP), gall l d a acc = (acc ++ (gall l d a []).1, (gall l d a []).2)
  | 0, a, acc => by simp [gall]
  | d + 1, a, acc => by
    unfold gall
    split
    · simp
    · cases eone l a with
      | bad e c => simp
      | ok y c =>
        dsimp only
        rw [gall_acc l d c (acc ++ _), gall_acc l d c ([] ++ _)]
        simp
theorem gall_step (l : List Int) (d a : Nat) (K V : ByteArray) (a2 : Nat) (ha : a < l.length) (h : eone l a = .ok (K, V) a2) : gall l (d + 1) a [] = (⟨K, V⟩ :: (gall l d a2 []).1, (gall l d a2 []).2) := by
  rw [gall, if_neg (by omega), h]
  dsimp only
  rw [gall_acc]
  rfl
theorem gall_stop (l : List Int) (d a : Nat) (e : Int) (a2 : Nat) (ha : a < l.length) (h : eone l a = .bad e a2) : gall l (d + 1) a [] = ([], a, e) := by
  rw [gall, if_neg (by omega), h]
theorem gall_end (l : List Int) (d a : Nat) (ha : l.length ≤ a) : gall l d a [] = ([], a, 0) := by
  cases d with
  | zero => rfl
  | succ d => rw [gall, if_pos ha]
theorem gall_back (l : List Int) (hb : Bytes l) : ∀ (d a : Nat), a ≤ l.length → l.length ≤ a + d →
    a ≤ (gall l d a []).2.1 ∧ (gall l d a []).2.1 ≤ l.length ∧ flat (gall l d a []).1 = (l.take (gall l d a []).2.1).drop a ∧ allok (gall l d a []).1 ∧ ((gall l d a []).2.2 = 0 ↔ (gall l d a []).2.1 = l.length) ∧ (gall l d a []).1.length + a ≤ l.length := by
  intro d
  induction d with
  | zero =>
    intro a h1 h2
    have : a = l.length := by omega
    subst this
    refine ⟨Nat.le_refl _, Nat.le_refl _, ?_, (fun p hp => by cases hp), by simp [gall], by simp [gall]⟩
    simp [gall, flat]
  | succ d ih =>
    intro a h1 h2
    by_cases hin : l.length ≤ a
    · rw [gall_end l _ a hin]
      have : a = l.length := by omega
      subst this
      exact ⟨Nat.le_refl _, Nat.le_refl _, by simp [flat], (fun p hp => by cases hp), by simp, by simp⟩
    · cases hq : eone l a with
      | bad e c =>
        rw [gall_stop l d a e c (by omega) hq]
        have := eone_bad hq
        refine ⟨Nat.le_refl _, h1, by simp [flat], (fun p hp => by cases hp), ?_, by simpa using h1⟩
        constructor
        · intro h; exact absurd h this
        · intro h; have : a = l.length := h; omega
      | ok y c =>
        obtain ⟨K, V⟩ := y
        rw [gall_step l d a K V c (by omega) hq]
        obtain ⟨hc1, hc2⟩ := eone_ok hq
        obtain ⟨hk, hbk⟩ := eone_back l hb a h1 K V c hq
        obtain ⟨i1, i2, i3, i4, i5, i6⟩ := ih c hc2 (by omega)
        generalize gall l d c [] = R at i1 i2 i3 i4 i5 i6
        refine ⟨by dsimp only; omega, i2, ?_, ?_, i5, by simp only [List.length_cons]; omega⟩
        · dsimp only
          rw [flat_cons, i3, hbk]
          have h3 : (l.take R.2.1).drop a = ((l.take R.2.1).take c).drop a ++ (l.take R.2.1).drop c := by
            conv => lhs; rw [← List.take_append_drop c (l.take R.2.1)]
            rw [List.drop_append_of_le_length (by rw [List.length_take, List.length_take]; omega)]
          rw [h3, List.take_take, Nat.min_eq_left i1]
        · intro p hp
          rcases List.mem_cons.1 hp with rfl | hp
          · exact hk
          · exact i4 p hp

theorem epa_ok : ∀ (ps : List EP) (acc : List Int), allok ps → epa ps acc = (acc ++ flat ps, 0)
  | [], acc, _ => by simp [epa, flat]
  | p :: ps, acc, h => by
    rw [epa, if_pos (h p List.mem_cons_self), epa_ok ps _ (fun q hq => h q (List.mem_cons_of_mem _ hq)), flat_cons, List.append_assoc]
theorem flat_len : ∀ (ps : List EP), allok ps → (flat ps).length ≤ 1060000 * ps.length
  | [], _ => by simp [flat]
  | p :: ps, h => by
    rw [flat_cons, List.length_append, List.length_cons]
    have := flat_len ps (fun q hq => h q (List.mem_cons_of_mem _ hq))
    have := ebytes_small (h p List.mem_cons_self)
    omega
theorem allok_sizes {ps : List EP} (h : allok ps) : eok ps = true := by
  unfold eok
  rw [List.all_eq_true]
  intro p hp
  have := echeck_sizes (h p hp)
  exact decide_eq_true ⟨by omega, by omega⟩
theorem putall_ok (ps : List EP) (h : allok ps) (hl : ps.length ≤ 100000) : elder_PutAll.f ps = some (flat ps, 0) := by
  unfold elder_PutAll.f
  rw [if_pos ⟨hl, allok_sizes h⟩, epa_ok ps [] h, List.nil_append]
theorem getall_f (l : List Int) (hb : Bytes l) (hl : l.length ≤ 1000000000000) : elder_GetAll.f l = some ((gall l l.length 0 []).1, (((gall l l.length 0 []).2.1 : Nat) : Int), (gall l l.length 0 []).2.2) := by
  unfold elder_GetAll.f
  rw [if_pos ⟨(ebytesb_iff l).2 hb, hl⟩]

/-- Of bytes that begin as pairs' do the pairs are these. -/
theorem gall_flat (l : List Int) : ∀ (ps : List EP) (d a : Nat), allok ps → a ≤ l.length → l.length ≤ a + d → l.drop a = flat ps → gall l d a [] = (ps, l.length, 0)
  | [], d, a, _, h1, h2, h3 => by
    have : (l.drop a).length = 0 := by rw [h3]; rfl
    rw [List.length_drop] at this
    have : a = l.length := by omega
    subst this
    exact gall_end l d _ (Nat.le_refl _)
  | p :: ps, d, a, h, h1, h2, h3 => by
    rw [flat_cons] at h3
    have he := eone_put p.f0 p.f1 (flat ps) (h p List.mem_cons_self)
    rw [← h3] at he
    have hlen := congrArg List.length h3
    rw [List.length_drop, List.length_append, ebytes_len] at hlen
    have hs := eone_shift l a h1
    rw [he] at hs
    have hs2 : eone l a = .ok (p.f0, p.f1) (a + (12 + p.f0.size + p.f1.size)) := hs
    obtain ⟨d1, rfl⟩ : ∃ d1, d = d1 + 1 := ⟨d - 1, by omega⟩
    rw [gall_step l d1 a _ _ _ (by omega) hs2, gall_flat l ps d1 _ (fun q hq => h q (List.mem_cons_of_mem _ hq)) (by omega) (by omega) (by
      rw [← List.drop_drop, h3, List.drop_left' (by rw [ebytes_len])])]
theorem eone_short (K V : ByteArray) (t : Nat) (h : echeck K V = 0) (ht : t < (ebytes K V).length) : ∃ x, eone ((ebytes K V).take t) 0 = .bad 2 x := by
  have hz := echeck_sizes h
  obtain ⟨_, hks, hvs⟩ := hz
  rw [ebytes_len] at ht
  unfold eone
  simp only [Nat.zero_add, List.length_take, ebytes_len]
  by_cases c8 : min t (12 + K.size + V.size) < 8
  · rw [if_pos c8]; exact ⟨_, rfl⟩
  rw [if_neg c8]
  have hc : ∀ a n, a + n ≤ t → cut ((ebytes K V).take t) a n = cut (ebytes K V) a n := fun a n hn => by
    unfold cut
    rw [List.take_take, Nat.min_eq_left hn]
  obtain ⟨ts, hts⟩ : ∃ ts, tsum 0 (ehead K V) = ts := ⟨_, rfl⟩
  have he : ebytes K V = nbytes 4 K.size ++ (nbytes 4 V.size ++ (sby K ++ (sby V ++ (nbytes 4 (ts : Int))))) := by
    unfold ebytes
    rw [hts]
    unfold ehead
    simp only [List.append_assoc]
  have c1 : cut (ebytes K V) 0 4 = nbytes 4 K.size := cut_of (a := []) he rfl (nbytes_len 4 _)
  have c2 : cut (ebytes K V) 4 4 = nbytes 4 V.size := cut_of he (nbytes_len 4 _) (nbytes_len 4 _)
  rw [hc 0 4 (by omega), hc 4 4 (by omega), c1, c2, lev4 _ (by omega), lev4 _ (by omega), Int.toNat_natCast, Int.toNat_natCast]
  unfold emid
  have hel : elen K.size V.size = 0 := h
  rw [if_neg (by rw [hel]; simp), if_pos (by rw [List.length_take, ebytes_len]; omega)]
  exact ⟨_, rfl⟩
/-- Of the first bytes of pairs' the pairs are the first ones of these. -/
theorem gall_cut (l : List Int) : ∀ (ps : List EP) (d a j : Nat), allok ps → a ≤ l.length → l.length ≤ a + d → l.drop a = (flat ps).take j →
    ∃ qs n e, gall l d a [] = (qs, n, e) ∧ qs <+: ps ∧ n ≤ l.length ∧ (e = 0 ↔ n = l.length) ∧ (e = 0 ∨ e = 2)
  | [], d, a, j, _, h1, h2, h3 => by
    have : (l.drop a).length = 0 := by rw [h3]; simp [flat]
    rw [List.length_drop] at this
    have : a = l.length := by omega
    subst this
    exact ⟨[], l.length, 0, gall_end l d _ (Nat.le_refl _), List.nil_prefix, Nat.le_refl _, by simp, .inl rfl⟩
  | p :: ps, d, a, j, h, h1, h2, h3 => by
    by_cases hin : l.length ≤ a
    · have : a = l.length := by omega
      subst this
      exact ⟨[], l.length, 0, gall_end l d _ (Nat.le_refl _), List.nil_prefix, Nat.le_refl _, by simp, .inl rfl⟩
    have hs := eone_shift l a h1
    obtain ⟨d1, rfl⟩ : ∃ d1, d = d1 + 1 := ⟨d - 1, by omega⟩
    have hlen := congrArg List.length h3
    rw [List.length_drop, List.length_take, flat_cons, List.length_append] at hlen
    rw [flat_cons] at h3
    by_cases hj : (ebytes p.f0 p.f1).length ≤ j
    · rw [List.take_append, List.take_of_length_le hj] at h3
      have he := eone_put p.f0 p.f1 ((flat ps).take (j - (ebytes p.f0 p.f1).length)) (h p List.mem_cons_self)
      rw [← h3] at he
      rw [he] at hs
      have hs2 : eone l a = .ok (p.f0, p.f1) (a + (12 + p.f0.size + p.f1.size)) := hs
      have hok := eone_ok hs2
      obtain ⟨qs, n, e, i1, i2, i3, i4, i5⟩ := gall_cut l ps d1 (a + (12 + p.f0.size + p.f1.size)) (j - (ebytes p.f0 p.f1).length) (fun q hq => h q (List.mem_cons_of_mem _ hq)) hok.2 (by omega) (by
        rw [← List.drop_drop, h3, List.drop_left' (by rw [ebytes_len])])
      rw [gall_step l d1 a _ _ _ (by omega) hs2, i1]
      exact ⟨p :: qs, n, e, rfl, by simpa using i2, i3, i4, i5⟩
    · rw [List.take_append_of_le_length (by omega)] at h3
      obtain ⟨x, hx⟩ := eone_short p.f0 p.f1 j (h p List.mem_cons_self) (by omega)
      rw [← h3] at hx
      rw [hx] at hs
      have hs2 : eone l a = .bad 2 (a + x) := hs
      rw [gall_stop l d1 a 2 _ (by omega) hs2]
      exact ⟨[], a, 2, rfl, List.nil_prefix, h1, by constructor; (intro h; cases h); (intro h; omega), .inr rfl⟩

end Go.Proofs.Ytmlodmpkcbncjaa.Pure
