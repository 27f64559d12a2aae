/- The least boxes over several boxes: the plain law. -/
import Derived.Test.YtjbfaaolfonmaaaGreatKFit
namespace Go.Proofs.YtjbfaaolfonmaaaGreat
open Go Go.Sort Go.RowKit

def mn (a c : Int) : Int := if c < a then c else a
def mx (b d : Int) : Int := if b < d then d else b
def overB (a b : Box) : Box := ⟨mn a.il b.il, mx a.ih b.ih, mn a.tl b.tl, mx a.th b.th, a.lo⟩
/-- Whether all losses are the same. -/
def lossOk : List Box → List Box → Bool
  | a :: o, b :: x => decide (b.lo = a.lo) && lossOk o x
  | _, _ => true
def hullGo : List Box → List (List Box) → Int × List Box
  | o, [] => (0, o)
  | o, x :: l => if checkQ x ≠ 0 then (checkQ x, []) else if x.length ≠ o.length then (12, []) else if lossOk o x = true then hullGo (List.zipWith overB o x) l else (14, [])
def hullM : List (List Box) → Int × List Box
  | [] => (12, [])
  | l :: ls => hullGo l (l :: ls)

/-- What is still to come. -/
def HidH (R : Int × List Box) (o : List Box) (LL : List (List Box)) (i : Nat) : Prop := hullGo o (LL.drop i) = R
def HidO (T : Bool) (o x : List Box) (k : Nat) : Prop := lossOk (o.drop k) (x.drop k) = T
theorem hidH_end {R : Int × List Box} {o : List Box} {LL : List (List Box)} (h : HidH R o LL LL.length) : R = (0, o) := by
  unfold HidH at h; rw [List.drop_length] at h; exact h.symm
theorem hidH_get {R : Int × List Box} {o x : List Box} {LL : List (List Box)} {i : Nat} (h : HidH R o LL i) (hx : LL[i]? = some x) :
    R = if checkQ x ≠ 0 then (checkQ x, []) else if x.length ≠ o.length then (12, []) else if lossOk o x = true then hullGo (List.zipWith overB o x) (LL.drop (i + 1)) else (14, []) := by
  obtain ⟨hl, e⟩ := List.getElem?_eq_some_iff.1 hx
  unfold HidH at h
  rw [List.drop_eq_getElem_cons hl, e] at h
  rw [← h]
  simp only [hullGo]
theorem hidH_bad {R : Int × List Box} {o x : List Box} {LL : List (List Box)} {i : Nat} (h : HidH R o LL i) (hx : LL[i]? = some x) (hq : ¬ checkQ x = 0) : R = (checkQ x, []) := by
  rw [hidH_get h hx, if_pos hq]
theorem hidH_len {R : Int × List Box} {o x : List Box} {LL : List (List Box)} {i : Nat} (h : HidH R o LL i) (hx : LL[i]? = some x) (hq : checkQ x = 0) (hn : ¬ x.length = o.length) : R = (12, []) := by
  rw [hidH_get h hx, if_neg (by simp [hq]), if_pos hn]
theorem hidH_clash {R : Int × List Box} {o x : List Box} {LL : List (List Box)} {i : Nat} (h : HidH R o LL i) (hx : LL[i]? = some x) (hq : checkQ x = 0) (hn : x.length = o.length) (hc : lossOk o x = false) : R = (14, []) := by
  rw [hidH_get h hx, if_neg (by simp [hq]), if_neg (by simp [hn]), if_neg (by simp [hc])]
theorem hidH_next {R : Int × List Box} {o x : List Box} {LL : List (List Box)} {i : Nat} (h : HidH R o LL i) (hx : LL[i]? = some x) (hq : checkQ x = 0) (hn : x.length = o.length) (hc : lossOk o x = true) : HidH R (List.zipWith overB o x) LL (i + 1) := by
  have := hidH_get h hx
  rw [if_neg (by simp [hq]), if_neg (by simp [hn]), if_pos hc] at this
  exact this.symm
theorem hidO_start (o x : List Box) : HidO (lossOk o x) o x 0 := rfl
theorem hidO_end {T : Bool} {o x : List Box} {k : Nat} (h : HidO T o x k) (hk : o.length ≤ k) : T = true := by
  unfold HidO at h; rw [List.drop_eq_nil_of_le hk] at h; rw [← h]; simp [lossOk]
theorem hidO_get {T : Bool} {o x : List Box} {k : Nat} {a b : Box} (h : HidO T o x k) (ha : o[k]? = some a) (hb : x[k]? = some b) : T = (decide (b.lo = a.lo) && lossOk (o.drop (k + 1)) (x.drop (k + 1))) := by
  obtain ⟨hl, e⟩ := List.getElem?_eq_some_iff.1 ha
  obtain ⟨hl2, e2⟩ := List.getElem?_eq_some_iff.1 hb
  unfold HidO at h
  rw [List.drop_eq_getElem_cons hl, List.drop_eq_getElem_cons hl2, e, e2] at h
  exact h.symm
theorem hidO_bad {T : Bool} {o x : List Box} {k : Nat} {a b : Box} (h : HidO T o x k) (ha : o[k]? = some a) (hb : x[k]? = some b) (hc : ¬ b.lo = a.lo) : T = false := by
  rw [hidO_get h ha hb]; simp [hc]
theorem hidO_next {T : Bool} {o x : List Box} {k : Nat} {a b : Box} (h : HidO T o x k) (ha : o[k]? = some a) (hb : x[k]? = some b) (hc : b.lo = a.lo) : HidO T o x (k + 1) := by
  have := hidO_get h ha hb
  rw [decide_eq_true hc, Bool.true_and] at this
  exact this.symm

/-- The boxes behind k steps. -/
def overs (o x : List Box) (k : Nat) : List Box := List.zipWith overB (o.take k) (x.take k) ++ o.drop k
theorem overs_zero (o x : List Box) : overs o x 0 = o := by simp [overs]
theorem overs_len {o x : List Box} (h : x.length = o.length) (k : Nat) : (overs o x k).length = o.length := by simp [overs]; omega
theorem overs_end {o x : List Box} (h : x.length = o.length) : overs o x o.length = List.zipWith overB o x := by
  unfold overs
  rw [List.take_length, List.drop_length, List.append_nil, ← h, List.take_length]
theorem overs_get {o x : List Box} (h : x.length = o.length) (k : Nat) : (overs o x k)[k]? = o[k]? := by
  unfold overs
  by_cases hk : k ≤ o.length
  · rw [List.getElem?_append_right (by simp; omega)]
    simp only [List.length_zipWith, List.length_take, List.getElem?_drop]
    congr 1
    omega
  · have e : (overs o x k)[k]? = none := List.getElem?_eq_none (by rw [overs_len h]; omega)
    unfold overs at e
    rw [e, List.getElem?_eq_none (by omega)]
theorem overs_next {o x : List Box} {k : Nat} {a b : Box} (ha : o[k]? = some a) (hb : x[k]? = some b) : overs o x (k + 1) = (overs o x k).set k (overB a b) := by
  obtain ⟨hl, e⟩ := List.getElem?_eq_some_iff.1 ha
  obtain ⟨hl2, e2⟩ := List.getElem?_eq_some_iff.1 hb
  unfold overs
  have hz : (List.zipWith overB (o.take k) (x.take k)).length = k := by simp; omega
  rw [List.take_add_one, List.take_add_one, ha, hb, List.zipWith_append (by simp; omega), List.set_append_right _ _ (by omega), hz, Nat.sub_self]
  have hd : o.drop k = a :: o.drop (k + 1) := by rw [List.drop_eq_getElem_cons hl, e]
  rw [hd]
  simp
end Go.Proofs.YtjbfaaolfonmaaaGreat
