/- Texts of a claim, one behind the other (shake.py): what it does not use is left out. -/
import Derived.Test.YtekanmieppnpeaaX6
import Derived.Deep.Slices
import Derived.SizedLaws
import Derived.WideShapes
import Derived.ChangeArms
import Derived.DataReads
set_option linter.unusedVariables false
set_option linter.unusedSimpArgs false
set_option maxHeartbeats 16000000
set_option maxRecDepth 100000
section
namespace Go.Proofs.Ytekanmieppnpeaa.Sep
open Go Go.RowKit Go.Proofs.Ytekanmieppnpeaa.G Go.Proofs.YtekanmieppnpeaaW.PrintWords Go.Proofs.YtekanmieppnpeaaW.PrintLast Go.Proofs.YtekanmieppnpeaaW.PrintMore Go.Proofs.Ytekanmieppnpeaa.PureKit
def Res.shift {α : Type} (c : Nat) : Res α → Res α
 | .ok x a => .ok x (a + c)
 | .bad e a => .bad e (a + c)
theorem vgo_shift (c : Nat) : ∀ (k i : Nat) (s : List Int) (x : Int) (a : Nat), vgo k i s x (a + c) = (vgo k i s x a).shift c := by
 intro k
 induction k with
 | zero => intro i s x a; rfl
 | succ k ih =>
  intro i s x a
  rcases s with _ | ⟨b, s⟩
  ·
   rfl
  ·
   unfold vgo
   rw [show a + c + 1 = a + 1 + c by omega, ih]
   split
   ·
    rfl
   split
   ·
    rfl
   split <;> rfl
theorem vget_shift (b : Int) (t : List Int) (a : Nat) : vget (b :: t) (a + 1) = (vget t a).shift 1 := by
 unfold vget
 rw [List.drop_succ_cons, vgo_shift]
theorem vtext_shift (b : Int) (t : List Int) (a lo hi : Nat) : vtext (b :: t) (a + 1) lo hi = (vtext t a lo hi).shift 1 := by
 unfold vtext
 rw [vget_shift]
 cases vget t a with
 | bad e a1 => rfl
 | ok n a1 =>
  simp only [Res.shift]
  split
  ·
   rfl
  split
  ·
   rfl
  rw [show a1 + 1 + n.toNat = (a1 + n.toNat) + 1 by omega, List.length_cons, List.take_succ_cons, List.drop_succ_cons]
  by_cases h : a1 + n.toNat ≤ t.length
  ·
   rw [if_pos h, if_pos (by omega)]
  ·
   rw [if_neg h, if_neg (by omega)]
def endE (S : ByteArray) (e : Int) : Int := if S.toList = ([] : List UInt8) then e else if e = 0 then 3 else e
theorem refend (S : ByteArray) (at_ e : Int) : Ev (fun _ => fascicleref01_End.f S at_ e) (S, at_, endE S e) := by
 refine Ev.congr (fun _ => ?_) (Ev.now _)
 unfold fascicleref01_End.f fascicleref01_Fail.f endE
 split
 ·
  rfl
 ·
  split <;> rfl
theorem endE_nil (l : List Int) (a : Nat) : endE (strOfNums (l.drop a)) 0 = if a < l.length then 3 else 0 := by
 unfold endE
 by_cases h : a < l.length
 ·
  rw [if_pos h, if_neg (fun h2 => by have := congrArg List.length ((nums_nil _).1 h2); rw [List.length_drop] at this; simp at this; omega)]
  rfl
 ·
  rw [if_neg h, if_pos ((nums_nil _).2 (List.drop_eq_nil_of_le (by omega)))]
theorem endE_bad (S : ByteArray) {e : Int} (he : e ≠ 0) : endE S e = e := by
 unfold endE
 by_cases h : S.toList = ([] : List UInt8)
 ·
  rw [if_pos h]
 ·
  rw [if_neg h, if_neg he]
def reftail (n : Nat) (b : Int) (s : Int) (k : ByteArray) (S : ByteArray) (at_ e : Int) : Option (Bool × Int × ByteArray × ByteArray × Int) :=
 if b = 3 then ((fascicleref01_End.f S at_ e).bind fun t => (if t.2.2 = 0 then (some ((b == 3), s, k, (⟨#[]⟩ : ByteArray), 0)) else (some (false, 0, (⟨#[]⟩ : ByteArray), (⟨#[]⟩ : ByteArray), t.2.2))))
 else ((fascicleref02_GetText.f n S at_ e 0 1048576).bind fun u => ((fascicleref01_End.f u.1 u.2.1 u.2.2.1).bind fun t => (if t.2.2 = 0 then (some ((b == 3), s, k, u.2.2.2, 0)) else (some (false, 0, (⟨#[]⟩ : ByteArray), (⟨#[]⟩ : ByteArray), t.2.2)))))
theorem reftail_bad (b s : Int) (k S : ByteArray) (at_ e : Int) (he : e ≠ 0) : Ev (fun n => reftail n b s k S at_ e) (false, 0, ⟨#[]⟩, ⟨#[]⟩, e) := by
 unfold reftail
 by_cases hb : b = 3
 ·
  simp only [if_pos hb]
  refine Ev.bind (refend S at_ e) ?_
  refine Ev.congr (fun _ => ?_) (Ev.now _)
  dsimp only
  rw [endE_bad S he, if_neg he]
 ·
  simp only [if_neg hb]
  refine Ev.bind (refgett_bad S at_ e 0 1048576 he) ?_
  refine Ev.bind (refend S at_ e) ?_
  refine Ev.congr (fun _ => ?_) (Ev.now _)
  dsimp only
  rw [endE_bad S he, if_neg he]
theorem reftail_ok (b s : Int) (k : ByteArray) (t : List Int) (a : Nat) (hb : Bytes t) (hl : t.length ≤ 1000000000) (ha : a ≤ t.length) :
  Ev (fun n => reftail n b s k (strOfNums (t.drop a)) (a : Int) 0) (rout (rread1 (b :: t) (b == 3) s k (a + 1))) := by
 unfold reftail rread1
 by_cases h3 : b = 3
 ·
  simp only [if_pos h3]
  rw [if_pos (by simp [h3])]
  refine Ev.bind (refend _ _ _) ?_
  refine Ev.congr (fun _ => ?_) (Ev.now _)
  dsimp only
  rw [endE_nil, rread2, List.length_cons]
  by_cases h : a < t.length
  ·
   rw [if_pos h, if_neg (by decide), if_pos (by omega)]
   rfl
  ·
   rw [if_neg h, if_pos rfl, if_neg (by omega)]
   rfl
 ·
  simp only [if_neg h3]
  rw [if_neg (by simp [h3]), vtext_shift]
  have hg := refgett_f t a 0 1048576 hb (by omega) ha (by decide) (by decide)
  cases hv : vtext t a 0 1048576 with
  | bad e a1 =>
   have hg : Ev (fun n => fascicleref02_GetText.f n (strOfNums (t.drop a)) (a : Int) 0 0 1048576) (strOfNums (t.drop a1), (a1 : Int), e, strOfNums []) := by rw [hv] at hg; exact hg
   have he := (vtext_bad hb ha hv).1
   refine Ev.bind hg ?_
   refine Ev.bind (refend _ _ _) ?_
   refine Ev.congr (fun _ => ?_) (Ev.now _)
   dsimp only
   rw [endE_bad _ he, if_neg he]
   rfl
  | ok v a1 =>
   have hg : Ev (fun n => fascicleref02_GetText.f n (strOfNums (t.drop a)) (a : Int) 0 0 1048576) (strOfNums (t.drop a1), (a1 : Int), 0, v) := by rw [hv] at hg; exact hg
   refine Ev.bind hg ?_
   refine Ev.bind (refend _ _ _) ?_
   refine Ev.congr (fun _ => ?_) (Ev.now _)
   dsimp only
   simp only [Res.shift]
   rw [endE_nil, rread2, List.length_cons]
   by_cases h : a1 < t.length
   ·
    rw [if_pos h, if_neg (by decide), if_pos (by omega)]
    rfl
   ·
    rw [if_neg h, if_pos rfl, if_neg (by omega)]
    rfl
theorem refread (l : List Int) (hb : Bytes l) (hl : l.length ≤ 1000000000) : Ev (fun n => fascicleref07_Read.f n (strOfNums l)) (rout (rread l)) := by
 unfold fascicleref07_Read.f
 rcases l with _ | ⟨b, t⟩
 ·
  refine Ev.congr (fun n => ?_) (Ev.now _)
  rw [if_pos (by rw [nums_nil])]
  rfl
 have hbt : bt (strOfNums (b :: t)) 0 = b := bt_nums (b :: t) hb 0 (by simp)
 have hbb := hb.head
 have hlt : t.length ≤ 1000000000 := by rw [List.length_cons] at hl; omega
 have hex : (strOfNums (b :: t)).extract 1 (strOfNums (b :: t)).size = strOfNums (t.drop 0) := by
  rw [nums_size, nums_extract, List.take_length]
  rfl
 have hsz : (0 : Int) < ((strOfNums (b :: t)).size : Int) := by rw [nums_size, List.length_cons]; omega
 refine Ev.congr (f := fun n => fascicleref07_Read.j0 n (strOfNums (b :: t)) (decide (b ≠ 2 ∧ b ≠ 3))) (fun n => ?_) ?_
 ·
  rw [if_neg (by rw [nums_nil]; simp), if_pos hsz, hbt]
  by_cases h2 : b = 2
  ·
   rw [if_pos h2, decide_eq_false (by omega)]
  ·
   rw [if_neg h2]
   congr 1
   by_cases h3 : b = 3
   ·
    rw [decide_eq_false (by omega), h3]; rfl
   ·
    rw [decide_eq_true ⟨h2, h3⟩]; exact bne_iff_ne.2 h3
 simp only [rread]
 by_cases hk : b ≠ 2 ∧ b ≠ 3
 ·
  rw [decide_eq_true hk, if_pos hk]
  refine Ev.step (f := fun _ => some (rout (.bad 4 1))) (fun n => ?_) (Ev.now _)
  simp only [fascicleref07_Read.j0, if_true]
  rfl
 rw [decide_eq_false hk, if_neg hk]
 refine Ev.step (f := fun n => (fascicleref02_Get.f n (strOfNums (t.drop 0)) ((0 : Nat) : Int) 0).bind fun p => (fascicleref02_GetText.f n p.1 p.2.1 p.2.2.1 1 4096).bind fun q => reftail n b p.2.2.2 q.2.2.2 q.1 q.2.1 q.2.2.1) (fun n => ?_) ?_
 ·
  simp only [fascicleref07_Read.j0]
  rw [if_neg (by decide), if_pos hsz, if_pos (by omega), hex, hbt]
  rfl
 have hg := refget_f t 0 hb.tail (by omega) (Nat.zero_le _)
 rw [vget_shift b t 0]
 cases hv : vget t 0 with
 | bad e a1 =>
  have hg : Ev (fun n => fascicleref02_Get.f n (strOfNums (t.drop 0)) ((0 : Nat) : Int) 0) (strOfNums (t.drop a1), (a1 : Int), e, 0) := by rw [hv] at hg; exact hg
  have he := (vget_bad hb.tail (Nat.zero_le _) hv).1
  refine Ev.bind hg ?_
  refine Ev.bind (refgett_bad _ _ e 1 4096 he) ?_
  exact reftail_bad _ _ _ _ _ e he
 | ok s a1 =>
  have hok := vget_ok hb.tail (Nat.zero_le _) hv
  have hg : Ev (fun n => fascicleref02_Get.f n (strOfNums (t.drop 0)) ((0 : Nat) : Int) 0) (strOfNums (t.drop a1), (a1 : Int), 0, s) := by rw [hv] at hg; exact hg
  refine Ev.bind hg ?_
  simp only [Res.shift]
  have hg2 := refgett_f t a1 1 4096 hb.tail (by omega) hok.2.2.2 (by decide) (by decide)
  rw [vtext_shift]
  cases hv2 : vtext t a1 1 4096 with
  | bad e a2 =>
   have hg2 : Ev (fun n => fascicleref02_GetText.f n (strOfNums (t.drop a1)) (a1 : Int) 0 1 4096) (strOfNums (t.drop a2), (a2 : Int), e, strOfNums []) := by rw [hv2] at hg2; exact hg2
   have he := (vtext_bad hb.tail hok.2.2.2 hv2).1
   refine Ev.bind hg2 ?_
   exact reftail_bad _ _ _ _ _ e he
  | ok k a2 =>
   have hok2 := vtext_ok hb.tail hok.2.2.2 hv2
   have hg2 : Ev (fun n => fascicleref02_GetText.f n (strOfNums (t.drop a1)) (a1 : Int) 0 1 4096) (strOfNums (t.drop a2), (a2 : Int), 0, k) := by rw [hv2] at hg2; exact hg2
   refine Ev.bind hg2 ?_
   exact reftail_ok b s k t a2 hb.tail hlt hok2.2
end Go.Proofs.Ytekanmieppnpeaa.Sep
end
section
namespace Go.Proofs.Ytekanmieppnpeaa.Pure
open Go Go.RowKit Go.Proofs.Ytekanmieppnpeaa.G Go.Proofs.YtekanmieppnpeaaW.PrintWords Go.Proofs.YtekanmieppnpeaaW.PrintLast Go.Proofs.Ytekanmieppnpeaa.PureKit Go.Proofs.Ytekanmieppnpeaa.Sep Go.Proofs.Ytekanmieppnpeaa.Rol
theorem refgetrec (l : List Int) (hb : Bytes l) (hl : l.length ≤ 90000) : Ev (fun k => fascicleref09_GetRecord.f k (strOfNums l)) (gotrec l) := by
 obtain ⟨hob, hol⟩ := opnb_small l hb
 rw [gotrec_eq]
 unfold fascicleref09_GetRecord.f
 refine Ev.bind (ref_open l hb hl) ?_
 by_cases h : (opnb l).2 = 0
 ·
  rw [if_pos h]
  refine Ev.congr (f := fun k => (fascicleref07_Read.f k (strOfNums (opnb l).1)).bind fun bt384 => some (bt384.1, bt384.2.1, bt384.2.2.1, bt384.2.2.2.1, bt384.2.2.2.2)) (fun k => by rw [if_pos h]) ?_
  exact Ev.bind (refread (opnb l).1 hob (by omega)) (Ev.now _)
 ·
  rw [if_neg h]
  exact Ev.congr (f := fun _ => some (false, 0, ⟨#[]⟩, ⟨#[]⟩, (opnb l).2)) (fun k => by rw [if_neg h]) (Ev.now _)
theorem getrec_f (l : List Int) (hb : Bytes l) (hl : l.length ≤ 90000) : frame_GetRecord.f l = some (gotrec l) := by
 unfold frame_GetRecord.f
 rw [if_pos ⟨(wbytesOK_iff l).2 hb, hl⟩]
theorem same_rec (x : Bool × Int × ByteArray × ByteArray × Int) : (x.1 == x.1 && (x.2.1 == x.2.1 && (x.2.2.1.toList == x.2.2.1.toList && (x.2.2.2.1.toList == x.2.2.2.1.toList)))) = true := by simp
theorem recs_j1 (l : List Int) (hb : Bytes l) (hl : l.length ≤ 600) (x5 : List Int) : Ev (fun k => fasciclelaw09_FrameRecords.j1 k l x5 0 false) true := by
 obtain ⟨x, hx⟩ : ∃ x, gotrec l = x := ⟨_, rfl⟩
 have h1 := getrec_f l hb (by omega)
 have h2 := refgetrec l hb (by omega)
 rw [hx] at h1 h2
 refine Ev.step (f := fun k => (fascicleref09_GetRecord.f k (strOfNums l)).bind fun bt418 => (if (x.1 == bt418.1 && (x.2.1 == bt418.2.1 && (x.2.2.1.toList == bt418.2.2.1.toList && (x.2.2.2.1.toList == bt418.2.2.2.1.toList)))) = true then (if x.2.2.2.2 = bt418.2.2.2.2 then some true else some false) else some false)) (fun k => ?_) ?_
 ·
  simp only [fasciclelaw09_FrameRecords.j1]
  rw [if_neg (show ¬ (false = true) by decide), h1, Option.bind_some]
  rfl
 refine Ev.bind h2 ?_
 exact Ev.congr (f := fun _ => some true) (fun k => by rw [if_pos (same_rec x), if_pos rfl]) (Ev.now _)
theorem recs_true (l : List Int) (d : Bool) (s : Int) (kk v : ByteArray) : Ev (fun k => fasciclelaw09_FrameRecords.j0 k l true d s kk v) true := by
 refine Ev.step (f := fun _ => some true) (fun k => ?_) (Ev.now _)
 simp only [fasciclelaw09_FrameRecords.j0, if_true]
 rfl
theorem recs_false (l : List Int) (hb : Bytes l) (hl : l.length ≤ 600) (d : Bool) (s : Int) (kk v : ByteArray) (h0 : 0 ≤ s) (h1 : s < 18446744073709551616) (hk : kk.size ≤ 600) (hv : v.size ≤ 600) : Ev (fun k => fasciclelaw09_FrameRecords.j0 k l false d s kk v) true := by
 have hpr : frame_PutRecord.f d s kk v = if rcheck d kk v = 0 then some (sealed (rbody d s kk v) ++ [0], 0) else some ([], rcheck d kk v) := by
  unfold frame_PutRecord.f
  rw [if_pos ⟨h0, h1, by omega, by omega⟩]
 by_cases hc : rcheck d kk v = 0
 ·
  rw [if_pos hc] at hpr
  have hbl := rbody_len d s kk v h0 h1 (by omega) (by omega)
  have hbb := rbody_bytes d s kk v
  have hsl := sealed_len (rbody d s kk v)
  have hrd := rread_rbody d s kk v h0 h1 hc
  have hbd := refbody d s kk v h0 h1 (by omega) (by omega)
  have hck := refcheck d s kk v
  rw [hc] at hck
  obtain ⟨B, hB⟩ : ∃ B, rbody d s kk v = B := ⟨_, rfl⟩
  rw [hB] at hpr hbl hbb hsl hrd hbd
  have hse := ref_seal B hbb (by omega)
  have hgr : gotrec (sealed B) = (d, s, kk, v, 0) := by
   rw [gotrec_eq, opnb_sealed B]
   dsimp only
   rw [if_pos rfl, hrd]
   rfl
  have hg := getrec_f (sealed B) (sealed_bytes B hbb) (by omega)
  rw [hgr] at hg
  obtain ⟨n, hn⟩ : ∃ n, (sealed B).length = n := ⟨_, rfl⟩
  have hn1 : (sealed B ++ [0]).length = n + 1 := by rw [List.length_append, hn]; rfl
  have hm : mx 0 (wrap64 (((sealed B ++ [0]).length : Int) - 1)) = (n : Int) := by
   rw [hn1, w64 (by omega) (by omega)]
   unfold mx
   split <;> omega
  have htk : (sealed B ++ [0]).take n = sealed B := List.take_left' hn
  refine Ev.step (f := fun k => (fascicleref07_Check.f k d s kk v).bind fun t400 => (if (0 : Int) = t400 then ((fascicleref09_Record.f k d s kk v).bind fun t411 => (if (strOfNums (sealed B ++ [0])).toList = t411.toList then fasciclelaw09_FrameRecords.j1 k l (sealed B ++ [0]) 0 false else fasciclelaw09_FrameRecords.j1 k l (sealed B ++ [0]) 0 true)) else some false)) (fun k => ?_) ?_
  ·
   simp only [fasciclelaw09_FrameRecords.j0]
   rw [if_neg (show ¬ (false = true) by decide), hpr, Option.bind_some]
   dsimp only
   congr 1
   funext t400
   by_cases ht : (0 : Int) = t400
   ·
    rw [if_pos ht, if_pos ht, if_pos rfl, hm, if_pos (by omega), if_pos (by rw [hn1]; omega), Int.toNat_natCast, htk, hg, Option.bind_some]
    dsimp only
    congr 1
    funext t411
    by_cases hs : (strOfNums (sealed B ++ [0])).toList = t411.toList
    ·
     rw [if_pos hs, if_pos hs, if_pos rfl]
     simp
    ·
     rw [if_neg hs, if_neg hs]
   ·
    rw [if_neg ht, if_neg ht]
  refine Ev.bind hck ?_
  refine Ev.congr (f := fun k => (fascicleref09_Record.f k d s kk v).bind fun t411 => (if (strOfNums (sealed B ++ [0])).toList = t411.toList then fasciclelaw09_FrameRecords.j1 k l (sealed B ++ [0]) 0 false else fasciclelaw09_FrameRecords.j1 k l (sealed B ++ [0]) 0 true)) (fun k => by rw [if_pos rfl]) ?_
  have hrec : Ev (fun k => fascicleref09_Record.f k d s kk v) (strOfNums (sealed B ++ [0])) := by
   unfold fascicleref09_Record.f
   refine Ev.bind hbd ?_
   exact Ev.bind hse (Ev.now _)
  refine Ev.bind hrec ?_
  exact Ev.congr (f := fun k => fasciclelaw09_FrameRecords.j1 k l (sealed B ++ [0]) 0 false) (fun k => by rw [if_pos rfl]) (recs_j1 l hb hl _)
 ·
  rw [if_neg hc] at hpr
  have hck := refcheck d s kk v
  obtain ⟨E, hE⟩ : ∃ E, rcheck d kk v = E := ⟨_, rfl⟩
  rw [hE] at hpr hck hc
  obtain ⟨x, hx⟩ : ∃ x, gotrec l = x := ⟨_, rfl⟩
  have g1 := getrec_f l hb (by omega)
  have g2 := refgetrec l hb (by omega)
  rw [hx] at g1 g2
  refine Ev.step (f := fun k => (fascicleref07_Check.f k d s kk v).bind fun t400 => (if E = t400 then ((fascicleref09_GetRecord.f k (strOfNums l)).bind fun bt430 => (if (x.1 == bt430.1 && (x.2.1 == bt430.2.1 && (x.2.2.1.toList == bt430.2.2.1.toList && (x.2.2.2.1.toList == bt430.2.2.2.1.toList)))) = true then (if x.2.2.2.2 = bt430.2.2.2.2 then (some true) else (some false)) else (some false))) else some false)) (fun k => ?_) ?_
  ·
   simp only [fasciclelaw09_FrameRecords.j0]
   rw [if_neg (show ¬ (false = true) by decide), hpr, Option.bind_some]
   dsimp only
   congr 1
   funext t400
   by_cases ht : E = t400
   ·
    rw [if_pos ht, if_pos ht, if_neg hc, g1, Option.bind_some]
    rfl
   ·
    rw [if_neg ht, if_neg ht]
  refine Ev.bind hck ?_
  refine Ev.congr (f := fun k => (fascicleref09_GetRecord.f k (strOfNums l)).bind fun bt430 => (if (x.1 == bt430.1 && (x.2.1 == bt430.2.1 && (x.2.2.1.toList == bt430.2.2.1.toList && (x.2.2.2.1.toList == bt430.2.2.2.1.toList)))) = true then (if x.2.2.2.2 = bt430.2.2.2.2 then (some true) else (some false)) else (some false))) (fun k => by rw [if_pos rfl]) ?_
  refine Ev.bind g2 ?_
  exact Ev.congr (f := fun _ => some true) (fun k => by rw [if_pos (same_rec x), if_pos rfl]) (Ev.now _)
theorem few_one (d : Bool) (s : Int) (k v : ByteArray) (m : Int) : Ev (fun n => fasciclelaw07_Few.f n [⟨d, s, k, v⟩] 1 m) (decide ((k.size : Int) ≤ m ∧ (v.size : Int) ≤ m)) := by
 unfold fasciclelaw07_Few.f
 refine Ev.step (f := ?ff1) (fun n => ?hs1) ?ht1
 case hs1 =>
  simp only [fasciclelaw07_Few.l0]
  rw [if_pos (by simp), if_pos (by decide), if_pos (by simp)]
  try exact rfl
 have e2 : (rd_T59 [(⟨d, s, k, v⟩ : S59)] 0).f2 = k := rfl
 have e3 : (rd_T59 [(⟨d, s, k, v⟩ : S59)] 0).f3 = v := rfl
 simp only [e2, e3]
 by_cases h2 : (k.size : Int) > m
 ·
  refine Ev.congr (fun n => ?_) (Ev.now _)
  rw [if_pos h2, decide_eq_false (by omega)]
 by_cases h3 : (v.size : Int) > m
 ·
  refine Ev.congr (fun n => ?_) (Ev.now _)
  rw [if_neg h2, if_pos h3, decide_eq_false (by omega)]
 refine Ev.congr (f := fun n => fasciclelaw07_Few.l0 n [⟨d, s, k, v⟩] 1 m [⟨d, s, k, v⟩] 1 1) (fun n => ?_) ?_
 ·
  rw [if_neg h2, if_neg h3, w64 (by decide) (by decide)]
  rfl
 refine Ev.step (f := fun _ => some true) (fun n => ?_) (Ev.congr (fun _ => ?_) (Ev.now _))
 ·
  simp only [fasciclelaw07_Few.l0]
  rw [if_neg (by decide)]
  rfl
 ·
  rw [decide_eq_true ⟨by omega, by omega⟩]
theorem FrameRecords : fasciclelaw09_FrameRecords.Pure := by
 unfold fasciclelaw09_FrameRecords.Pure
 intro d s kk v l hs hk hv hm hm2 hwf
 have hs := bounds_u64 hs
 have hb := Bytes.of_wf hwf
 refine rounds_of (r := true) ?_
 unfold fasciclelaw09_FrameRecords.f
 refine Ev.congr (f := fun n => (fasciclelaw07_Few.f n [⟨d, s, kk, v⟩] 1 600).bind fun t394 => (if t394 = true then (fasciclelaw09_FrameRecords.j0 n l (decide ((l.length : Int) > 600)) d s kk v) else (fasciclelaw09_FrameRecords.j0 n l true d s kk v))) (fun k => ?_) ?_
 ·
  show (some true).bind _ = _
  rw [Option.bind_some, if_pos rfl]
 refine Ev.bind (few_one d s kk v 600) ?_
 by_cases hf : (kk.size : Int) ≤ 600 ∧ (v.size : Int) ≤ 600
 ·
  rw [decide_eq_true hf]
  refine Ev.congr (f := fun n => fasciclelaw09_FrameRecords.j0 n l (decide ((l.length : Int) > 600)) d s kk v) (fun k => by rw [if_pos rfl]) ?_
  by_cases hl : (l.length : Int) > 600
  ·
   rw [decide_eq_true hl]
   exact recs_true l d s kk v
  ·
   rw [decide_eq_false hl]
   exact recs_false l hb (by omega) d s kk v (by omega) (by omega) (by omega) (by omega)
 ·
  rw [decide_eq_false hf]
  exact Ev.congr (f := fun n => fasciclelaw09_FrameRecords.j0 n l true d s kk v) (fun k => by rw [if_neg (by decide)]) (recs_true l d s kk v)
end Go.Proofs.Ytekanmieppnpeaa.Pure
end
section
namespace Go.Proofs.Ytekanmieppnpeaa.Row
open Go.RowKit Go.Proofs.YtekanmieppnpeaaW.PrintWords Go.Proofs.YtekanmieppnpeaaW.PrintLast Go.Proofs.YtekanmieppnpeaaW.PrintMore
structure Opn {α : Type} (P : Program) (t : TypeId) (d : Kd α) (ok : α → Prop) : Prop where
 opn : ∀ {H : Type} {enc : TypeId × Value → H} {W : World} {base : Nat} {spare : Nat → Bool} {held : Bool} {fuel : Nat} {cs : List Value} {x : DataW H × List MemPlace},
  DataW.trod enc P W base spare held fuel t cs = some x → ∃ a : α, d.K W a cs ∧ ok a
theorem Opn.int {P : Program} {t : TypeId} {k : IntKind} (hu : P.underlying t = some (.int k)) : Opn P t (Kd.int k) (fun a => (Lit.int k a).wf = true) :=
 ⟨fun h => by
  obtain ⟨n, rfl, _, hw⟩ := DataW.trod_int hu h
  exact ⟨n, rfl, hw⟩⟩
theorem Opn.bool {P : Program} {t : TypeId} (hu : P.underlying t = some .bool) : Opn P t Kd.bool (fun _ => True) :=
 ⟨fun h => by
  obtain ⟨n, rfl, _⟩ := DataW.trod_bool hu h
  exact ⟨n, rfl, trivial⟩⟩
theorem Opn.string {P : Program} {t : TypeId} (hu : P.underlying t = some .string) : Opn P t Kd.string (fun a => a.size ≤ 9223372036854775807) :=
 ⟨fun h => by
  obtain ⟨n, rfl, _, hw⟩ := DataW.trod_string hu h
  exact ⟨n, rfl, hw⟩⟩
theorem cells_at {w : World} {base : Nat} {a : Addr} {n : Nat} {cs : List Value} (h : w.cells? base a n = some cs) {i : Nat} {u : Value} (hu : cs[i]? = some u) : w.cell? (a.add i) = some u := by
 obtain ⟨_, hl, hc⟩ := World.cells?_some h
 have hi : i < cs.length := (List.getElem?_eq_some_iff.1 hu).1
 exact (hc i (by omega)).trans hu
theorem add_add' (a : Addr) (i j : Nat) : (a.add i).add j = a.add (i + j) := Deep.add_add a i j
theorem open_row {α : Type} {P : Program} {t e : TypeId} {d : Kd α} {ok : α → Prop} (O : Opn P e d ok) (hu : P.underlying t = some (.slice e)) (hc : P.cellsOf e = d.sz)
  {H : Type} {enc : TypeId × Value → H} {W : World} {base : Nat} {spare : Nat → Bool} {held : Bool} {fuel : Nat} {cs : List Value} {x : DataW H × List MemPlace}
  (h : DataW.trod enc P W base spare held fuel t cs = some x) :
  ∃ (l : List α) (A : Option Addr) (c : Nat), cs = [.slice A l.length c] ∧ l.length ≤ c ∧ d.C W A l.length l ∧ l.length ≤ 9223372036854775807 ∧ (∀ y ∈ l, ok y) ∧
   ((x.1 = .nil ∧ l = []) ∨ ∃ es sp, x.1 = .slice es sp ∧ es.length = l.length) := by
 rcases Deep.open_slice hu h with ⟨rfl, rfl⟩ | ⟨a, len, cap, m, n, D, Pl, rfl, hb, hl, hm, hmm, rfl, hel⟩
 ·
  exact ⟨[], none, 0, rfl, Nat.le_refl _, Kd.C_nil _ _, by simp, by simp, .inl ⟨rfl, rfl⟩⟩
 ·
  have hlm : len ≤ m := by rw [hmm]; split <;> omega
  have hx : ∀ i, i < len → ∃ y : α, (∃ cs', W.cells? base (a.add (i * P.cellsOf e)) (P.cellsOf e) = some cs' ∧ d.K W y cs') ∧ ok y := by
   intro i hi
   obtain ⟨cs', h1, h2⟩ := hel i (by omega)
   obtain ⟨y, hk, ho⟩ := O.opn h2
   exact ⟨y, ⟨cs', h1, hk⟩, ho⟩
  have hf : ∃ l : List α, l.length = len ∧ ∀ (i : Nat) (y : α), l[i]? = some y → (∃ cs', W.cells? base (a.add (i * P.cellsOf e)) (P.cellsOf e) = some cs' ∧ d.K W y cs') ∧ ok y := by
   clear hel hmm hlm hl hm h
   induction len with
   | zero => exact ⟨[], rfl, fun i y hy => by simp at hy⟩
   | succ len ih =>
    obtain ⟨l, hl1, hl2⟩ := ih (fun i hi => hx i (by omega))
    obtain ⟨y, hy⟩ := hx len (by omega)
    refine ⟨l ++ [y], by simp [hl1], fun i z hz => ?_⟩
    rcases Nat.lt_or_ge i l.length with hi | hi
    ·
     rw [List.getElem?_append_left hi] at hz
     exact hl2 i z hz
    ·
     have hi2 : i = l.length := by
      have := (List.getElem?_eq_some_iff.1 hz).1
      simp at this; omega
     subst hi2
     have : y = z := by simpa using hz
     subst this
     rw [hl1]; exact hy
  obtain ⟨l, hl1, hl2⟩ := hf
  subst hl1
  have hmx : l.length ≤ 9223372036854775807 := by unfold maxLen at hm; omega
  refine ⟨l, some a, cap, rfl, hl, ⟨rfl, hmx, fun _ => ⟨a, rfl, fun j p hj => ?_⟩⟩, hmx, fun y hy => ?_, .inr ⟨_, _, rfl, by simp⟩⟩
  ·
   obtain ⟨⟨cs', h1, h2⟩, _⟩ := hl2 j p hj
   refine ⟨cs', d.K_len h2, h2, fun i u hu' => ?_⟩
   have := cells_at h1 hu'
   rw [add_add', hc] at this
   exact this
  ·
   obtain ⟨i, hi, rfl⟩ := List.mem_iff_getElem.1 hy
   exact (hl2 i _ (List.getElem?_eq_getElem hi)).2
theorem Opn.slice {α : Type} {P : Program} {t e : TypeId} {d : Kd α} {ok : α → Prop} (hu : P.underlying t = some (.slice e)) (O : Opn P e d ok) (hc : P.cellsOf e = d.sz) :
  Opn P t (Kd.slice e d) (fun l => l.length ≤ 9223372036854775807 ∧ ∀ y ∈ l, ok y) :=
 ⟨fun h => by
  obtain ⟨l, A, c, rfl, hlc, hC, hm, ho, _⟩ := open_row O hu hc h
  exact ⟨l, ⟨A, c, rfl, hlc, hC⟩, hm, ho⟩⟩
theorem open_top {α : Type} {P : Program} {t e : TypeId} {d : Kd α} {ok : α → Prop} (O : Opn P e d ok) (hu : P.underlying t = some (.slice e)) (hc : P.cellsOf e = d.sz)
  {H : Type} {enc : TypeId × Value → H} {W : World} {base : Nat} {spare : Nat → Bool} {held : Bool} {a : Option Addr} {len cap : Nat} {dd : DataW H} {ps : List MemPlace} {ts : List TypeId} {ds : List (DataW H)} {j : Nat}
  (hsz : (DataW.weightsEach P ts ds).all (· ≤ reachBytes) = true) (ht : ts[j]? = some t) (hd : ds[j]? = some dd) {B : Nat} (hB : P.bytesOf e = B)
  (h : DataW.Trod enc P W base spare held t (.slice a len cap) dd ps) :
  ∃ l : List α, len = l.length ∧ l.length ≤ cap ∧ d.C W a l.length l ∧ l.length ≤ maxLen ∧ l.length * B ≤ 140737488351232 ∧ ∀ y ∈ l, ok y := by
 obtain ⟨fuel, hf⟩ := h
 obtain ⟨l, A, c, hcs, hlc, hC, hm, ho, hx⟩ := open_row O hu hc hf
 simp only [Value.cells] at hcs
 have hcs' : Value.slice a len cap = .slice A l.length c := by simpa using hcs
 injection hcs' with h1 h2 h3
 subst h1; subst h3
 refine ⟨l, h2, hlc, hC, by unfold maxLen; omega, ?_, ho⟩
 rcases hx with ⟨hx, rfl⟩ | ⟨es, sp, hx, he⟩
 ·
  simp
 ·
  have hx' : dd = .slice es sp := hx
  subst hx'
  have z := sized_slice hsz ht hd hu
  rw [hB, he] at z
  have : l.length * B ≤ (l.length + sp.length) * B := Nat.mul_le_mul_right _ (Nat.le_add_right _ _)
  have hr : reachBytes = 140737488351232 := by decide
  omega
theorem get_lt {α : Type} {l : List α} {n i : Nat} (h : l.length = n) (hi : i < n) : ∃ y, l[i]? = some y := ⟨l[i], List.getElem?_eq_getElem (by omega)⟩
end Go.Proofs.Ytekanmieppnpeaa.Row
end
