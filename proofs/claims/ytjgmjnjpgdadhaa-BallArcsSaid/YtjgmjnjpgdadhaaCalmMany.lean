/- Regions that draw their order and lay several new variables beside their calls: calm operations in any order, allocations among them, then a forced tail. -/
import Derived.Test.YtjgmjnjpgdadhaaCalmNew
namespace Go.Proofs.Ytjgmjnjpgdadhaa
open Go Go.Sort Go.RowKit

section
variable {P : Program} {ops : Array Oper} {md : Region.Mode} {W : World}

/-- Whatever order is picked among the first k operations, where the allocations behind them are done. -/
def headC (P : Program) (md : Region.Mode) (ops : Array Oper) (W : World) (k : Nat) (L : Array Bool → Act → Prop) : Nat → Array Bool → Act → Prop
  | 0, listed, a => L listed a
  | f + 1, listed, a => Region.ready md ops listed ≠ [] ∧ ∀ i ∈ Region.ready md ops listed, i < k ∧ cOp P ops W i (headC P md ops W k L f (listed.setIfInBounds i true)) a

/-- The allocations are done. -/
def Laid (k n : Nat) (listed : Array Bool) : Prop := ∀ j, k ≤ j → j < n → listed.getD j true = true
theorem Laid.set {k n i : Nat} {listed : Array Bool} (h : Laid k n listed) (hi : i < k) : Laid k n (listed.setIfInBounds i true) := fun j h1 h2 => by
  rw [getD_set_ne true (by omega)]; exact h j h1 h2

theorem headC_first {k n i : Nat} {oi : Oper} {v : Value} {L : Array Bool → Act → Prop} (hi : ops[i]? = some oi) (hsel : ∀ (j : Nat) (o : Oper) cs b, ops[j]? = some o → o.op ≠ .select cs b)
    (hs : Region.sinkB md ops n = true) (hc : Region.chainB md ops n = true) (hn : n < ops.size) (hkn : k ≤ n) (hin : i < k)
    (hdone : ∀ listed a, L listed a → ∀ j ∈ Region.ready md ops listed, n ≤ j) (f : Nat) : ∀ (listed : Array Bool) (a : Act), HeadInv md ops n listed → Laid k n listed →
      (∀ j oj, ops[j]? = some oj → j ≠ i → listed.getD j true = false → (∀ e ∈ oj.after, Region.binds md e = true → e.on ≠ i) → oi.apart ops oj = true) →
      i ∈ Region.ready md ops listed → cYields P ops W oi v a →
      headC P md ops W k L f (listed.setIfInBounds i true) (a.put oi.dst v) → headC P md ops W k L (f + 1) listed a := by
  induction f with
  | zero =>
    intro listed a inv lay _ hr hy H
    refine ⟨fun h => by rw [h] at hr; exact absurd hr List.not_mem_nil, fun j hj => ?_⟩
    have hjn : j < n := Nat.lt_of_not_le fun h => tail_waits hs hc hn inv _ i rfl (by omega) (mem_ready.1 hr).1 j h hj
    have hjk : j < k := Nat.lt_of_not_le fun h => by have := lay j h hjn; rw [(mem_ready.1 hj).1] at this; cases this
    refine ⟨hjk, ?_⟩
    by_cases hji : j = i
    · subst hji; exact hy.cOp hi H
    · exact absurd (hdone _ _ H j (ready_mono hj hji)) (by omega)
  | succ f ih =>
    intro listed a inv lay hfree hr hy H
    have hun := (mem_ready.1 hr).1
    refine ⟨fun h => by rw [h] at hr; exact absurd hr List.not_mem_nil, fun j hj => ?_⟩
    have hjn : j < n := Nat.lt_of_not_le fun h => tail_waits hs hc hn inv _ i rfl (by omega) hun j h hj
    have hjk : j < k := Nat.lt_of_not_le fun h => by have := lay j h hjn; rw [(mem_ready.1 hj).1] at this; cases this
    refine ⟨hjk, ?_⟩
    by_cases hji : j = i
    · subst hji; exact hy.cOp hi H
    obtain ⟨hjun, oj, hoj, hall⟩ := mem_ready.1 hj
    have hnot : ∀ e ∈ oj.after, Region.binds md e = true → e.on ≠ i := fun e he hb heq => by
      have := hall e he hb
      rw [heq, getD_both hun] at this
      exact absurd this (by decide)
    obtain ⟨u, hyj, hK⟩ := cYields_of hoj (H.2 j (ready_mono hj hji)).2
    obtain ⟨a1, a2, a3⟩ := Oper.apart_spec (hfree j oj hoj hji hjun hnot)
    have hyj' : cYields P ops W oj u a := hyj.unput (fun cs b => hsel j oj cs b hoj) v a1
    refine hyj'.cOp hoj (ih (listed.setIfInBounds j true) _ (inv.set hj hjn) (lay.set hjk) (fun k' ok hk hki hu hno => ?_) (ready_mono hr (Ne.symm hji)) (hy.put (fun cs b => hsel i oi cs b hi) u a3) ?_)
    · refine hfree k' ok hk hki ?_ hno
      by_cases hjk' : j = k'
      · subst hjk'; exact hjun
      · rw [getD_set_ne true hjk'] at hu; exact hu
    · rw [Array.setIfInBounds_comm _ _ hji, ← Act.put_comm a v u a2]
      exact hK

/-- The look at the first k operations, where number n stands behind them. -/
def lexHeadN (md : Region.Mode) (ops : Array Oper) (g n : Nat) : Nat → Nat → Array Bool → Bool
  | 0, _, listed => Region.seqB md ops g n listed
  | f + 1, m, listed => (Region.ready md ops listed).contains m && Region.free md ops listed m && lexHeadN md ops g n f (m + 1) (listed.setIfInBounds m true)

theorem headC_lex {k n g : Nat} {Lq : Act → Prop} (hsel : Region.noSelect ops = true) (hs : Region.sinkB md ops n = true) (hc : Region.chainB md ops n = true) (hn : n < ops.size) (hkn : k ≤ n) (l : List Oper) :
    ∀ (m : Nat) (listed : Array Bool) (a : Act), (∀ j, j < l.length → l[j]? = ops[m + j]?) → m + l.length = k → HeadInv md ops n listed → Laid k n listed →
    lexHeadN md ops g n l.length m listed = true → wpCalm P ops W Lq l a →
    headC P md ops W k (fun listed' a' => Region.seqB md ops g n listed' = true ∧ Lq a') l.length listed a := by
  induction l with
  | nil =>
    intro m listed a _ hk _ _ hB h
    exact ⟨by simpa [lexHeadN] using hB, h⟩
  | cons o l ih =>
    intro m listed a hl hk inv lay hB h
    have h0 : ops[m]? = some o := by simpa using (hl 0 (by simp)).symm
    simp only [List.length_cons, lexHeadN, Bool.and_eq_true] at hB
    obtain ⟨⟨hr, hf⟩, hB'⟩ := hB
    have hmk : m < k := by simp only [List.length_cons] at hk; omega
    have hr' : m ∈ Region.ready md ops listed := by simpa using hr
    have hq : cOp P ops W m (wpCalm P ops W Lq l) a := by unfold cOp; simp only [h0]; exact h
    obtain ⟨v, hy, hK⟩ := cYields_of h0 hq
    exact headC_first h0 (Region.noSelect_spec hsel) hs hc hn hkn hmk (fun listed' a' hL => seqB_ready hL.1) l.length listed a inv lay (Region.free_spec h0 hf) hr' hy
      (ih (m + 1) _ _ (fun j hj => by have := hl (j + 1) (by simp; omega); simpa [Nat.add_assoc, Nat.add_comm 1 j] using this) (by simp only [List.length_cons] at hk; omega) (inv.set hr' (by omega)) (lay.set hmk) hB' hK)

/-- Which block each allocation has got. -/
def Got := Nat → Option Nat
def Got.set (β : Got) (i B : Nat) : Got := fun j => if j = i then some B else β j

/-- The pointers, in the frame. -/
def putF (ops : Array Oper) (β : Got) : List Nat → Act → Act
  | [], a => a
  | j :: js, a => putF ops β js (match β j with | none => a | some B => a.put ((ops[j]?).bind (·.dst)) (.pointer (some ⟨B, 0, none⟩)))

/-- The slots of two allocations are two. -/
def dstB (ops : Array Oper) (k n : Nat) : Bool := (List.range n).all fun i => (List.range n).all fun j => decide (i < k) || decide (j < k) || i == j || !(((ops[i]?).bind (·.dst)) == ((ops[j]?).bind (·.dst)))

theorem put_put {a : Act} {x y : Option Tmp} {v u : Value} (h : x ≠ y) : (a.put x v).put y u = (a.put y u).put x v :=
  Act.put_comm a v u (fun d hd e => h (by rw [hd, e]))

theorem putF_put {β : Got} {x : Option Tmp} {v : Value} : ∀ (js : List Nat) (a : Act), (∀ j ∈ js, β j ≠ none → (ops[j]?).bind (·.dst) ≠ x) → putF ops β js (a.put x v) = (putF ops β js a).put x v
  | [], _, _ => rfl
  | j :: js, a, h => by
    unfold putF
    cases hb : β j with
    | none => exact putF_put js a (fun j' hj' => h j' (by simp [hj']))
    | some B =>
      show putF ops β js ((a.put x v).put _ _) = _
      rw [← put_put (h j (by simp) (by rw [hb]; simp))]
      exact putF_put js _ (fun j' hj' => h j' (by simp [hj']))

theorem putF_same {β β' : Got} : ∀ (js : List Nat) (a : Act), (∀ j ∈ js, β j = β' j) → putF ops β js a = putF ops β' js a
  | [], _, _ => rfl
  | j :: js, a, h => by
    unfold putF
    rw [h j (by simp)]
    exact putF_same js _ (fun j' hj' => h j' (by simp [hj']))

theorem putF_set {β : Got} {i B : Nat} : ∀ (js : List Nat) (a : Act), i ∈ js → js.Nodup → β i = none → (∀ j ∈ js, j ≠ i → (ops[j]?).bind (·.dst) ≠ (ops[i]?).bind (·.dst)) →
    putF ops (β.set i B) js a = (putF ops β js a).put ((ops[i]?).bind (·.dst)) (.pointer (some ⟨B, 0, none⟩))
  | [], _, h, _, _, _ => absurd h (by simp)
  | j :: js, a, h, hd, hn, hx => by
    obtain ⟨hj, hd'⟩ := List.nodup_cons.1 hd
    by_cases hji : j = i
    · subst hji
      unfold putF
      rw [hn, show (β.set j B) j = some B from by unfold Got.set; rw [if_pos rfl]]
      simp only
      rw [putF_same (β := β.set j B) (β' := β) js _ (fun j' hj' => by unfold Got.set; rw [if_neg]; rintro rfl; exact hj hj')]
      exact putF_put js a (fun j' hj' _ => hx j' (by simp [hj']) (by rintro rfl; exact hj hj'))
    · unfold putF
      rw [show (β.set i B) j = β j from by unfold Got.set; rw [if_neg hji]]
      exact putF_set js _ (by simpa [Ne.symm hji] using h) hd' hn (fun j' hj' => hx j' (by simp [hj']))

/-- The worlds: the allocated blocks are known, and no two are one. -/
structure Cls (W : World) (css : Nat → Array Value) (β : Got) (w : World) : Prop where
  below : Below W.heap.size W w
  new : ∀ j B, β j = some B → NewVar W B (css j) w
  apart : ∀ i j B B', β i = some B → β j = some B' → i ≠ j → B ≠ B'

theorem Cls.later {css : Nat → Array Value} {β : Got} {w w' : World} (h : Cls W css β w) (hb : Below w.heap.size w w') : Cls W css β w' :=
  ⟨bl_call' h.below hb, fun j B hj => (h.new j B hj).later hb, h.apart⟩

theorem Cls.alloc {css : Nat → Array Value} {β : Got} {w : World} {i : Nat} {t : TypeId} (h : Cls W css β w) : Cls W css (β.set i w.heap.size) (w.alloc (.cells (css i) t)) := by
  have hb : Below w.heap.size w (w.alloc (.cells (css i) t)) := (Below.refl _ _).alloc (Nat.le_refl _) _
  refine ⟨bl_call' h.below hb, fun j B hj => ?_, fun i' j B B' hi hj hne => ?_⟩
  · unfold Got.set at hj
    by_cases e : j = i
    · subst e
      rw [if_pos rfl] at hj
      cases hj
      exact newVar_alloc h.below
    · rw [if_neg e] at hj
      exact (h.new j B hj).later hb
  · unfold Got.set at hi hj
    by_cases e1 : i' = i
    · rw [if_pos e1] at hi
      cases hi
      rw [if_neg (by omega)] at hj
      have := (h.new j B' hj).hi
      omega
    · rw [if_neg e1] at hi
      have := (h.new i' B hi).hi
      by_cases e2 : j = i
      · rw [if_pos e2] at hj
        cases hj
        omega
      · rw [if_neg e2] at hj
        exact h.apart i' j B B' hi hj hne

theorem cYields_putF {o : Oper} {v : Value} {β : Got} (hs : ∀ cs b, o.op ≠ .select cs b) : ∀ (js : List Nat) (a : Act), (∀ j ∈ js, ∀ d, (ops[j]?).bind (·.dst) = some d → d ∉ o.looksAt ops) → cYields P ops W o v a → cYields P ops W o v (putF ops β js a)
  | [], _, _, h => h
  | j :: js, a, hd, h => by
    unfold putF
    cases hb : β j with
    | none => exact cYields_putF hs js a (fun j' hj' => hd j' (by simp [hj'])) h
    | some B => exact cYields_putF hs js _ (fun j' hj' => hd j' (by simp [hj'])) (h.put hs _ (hd j (by simp)))

theorem wpAny_many {k n g : Nat} {css : Nat → Array Value} {L : Array Bool → Act → Prop} {Q : Exit → Act → World → Prop}
    (hkn : k ≤ n) (hn : n < ops.size)
    (hal : ∀ j, k ≤ j → j < n → ∃ oj, ops[j]? = some oj ∧ oj.guard = none ∧ (∀ e, e ∉ oj.after) ∧ oj.dst ≠ none ∧ ∃ t, ∀ a w, (execOp (Act.eval a) oj).run P w = .ok (.value (.pointer (some ⟨w.heap.size, 0, none⟩))) (w.alloc (.cells (css j) t)))
    (hsel : ∀ (j : Nat) (o : Oper) cs b, ops[j]? = some o → o.op ≠ .select cs b)
    (hs : Region.sinkB md ops n = true) (hc : Region.chainB md ops n = true)
    (hap : ∀ i oi j oj, i < k → k ≤ j → j < n → ops[i]? = some oi → ops[j]? = some oj → oj.apart ops oi = true ∧ ∀ e ∈ oi.after, Region.binds md e = true → e.on ≠ j)
    (hdst : ∀ i j, k ≤ i → i < n → k ≤ j → j < n → i ≠ j → (ops[i]?).bind (·.dst) ≠ (ops[j]?).bind (·.dst))
    (hdone : ∀ listed a, L listed a → ∀ j ∈ Region.ready md ops listed, n ≤ j)
    (hfin : ∀ (β : Got) listed a w, (∀ j, k ≤ j → j < n → ∃ B, β j = some B) → Cls W css β w → L listed a → wpAny P md ops Q g listed (putF ops β (List.range' k (n - k)) a) w) :
    ∀ (N f : Nat) (pend : List Nat) (listed listedA : Array Bool) (a : Act) (β : Got) (w : World), f + pend.length = N → pend.Nodup → (∀ j, j ∈ pend ↔ (k ≤ j ∧ j < n ∧ β j = none)) → (∀ j, β j ≠ none → k ≤ j ∧ j < n) →
      HeadInv md ops n listed → listedA.size = ops.size → Laid k n listedA → (∀ j, j ∈ pend → listed.getD j true = false) → (∀ j b, j ∉ pend → listed.getD j b = listedA.getD j b) →
      headC P md ops W k L f listedA a → Cls W css β w → wpAny P md ops Q (N + g) listed (putF ops β (List.range' k (n - k)) a) w := by
  have hr : ∀ j, j ∈ List.range' k (n - k) ↔ (k ≤ j ∧ j < n) := fun j => by rw [List.mem_range'_1]; omega
  intro N
  induction N with
  | zero =>
    intro f pend listed listedA a β w hN _ hp hβ inv hszA lay hpl heq h hw
    obtain rfl : f = 0 := by omega
    obtain rfl : pend = [] := List.length_eq_zero_iff.1 (by omega)
    have e : listed = listedA := by
      refine Array.ext (by rw [inv.size, hszA]) fun i h1 h2 => ?_
      have := heq i true (by simp)
      simpa [h1, h2] using this
    subst e
    rw [Nat.zero_add]
    refine hfin β listed a w (fun j h1 h2 => ?_) hw h
    cases hb : β j with
    | none => exact absurd ((hp j).2 ⟨h1, h2, hb⟩) (by simp)
    | some B => exact ⟨B, rfl⟩
  | succ N ih =>
    intro f pend listed listedA a β w hN hnd hp hβ inv hszA lay hpl heq h hw
    have hge : ∀ j, listed.getD j false = true → listedA.getD j false = true := fun j hj => by
      by_cases hjp : j ∈ pend
      · have := hpl j hjp
        rw [getD_both this] at hj; cases hj
      · rw [← heq j false hjp]; exact hj
    have hreadyA : ∀ i, i < k → i ∈ Region.ready md ops listed → i ∈ Region.ready md ops listedA := fun i hi hir => by
      obtain ⟨h0, o, ho, hall⟩ := mem_ready.1 hir
      exact mem_ready.2 ⟨by rw [← heq i true (fun h' => by have := ((hp i).1 h').1; omega)]; exact h0, o, ho, fun e he hb => hge _ (hall e he hb)⟩
    have hpready : ∀ j, j ∈ pend → j ∈ Region.ready md ops listed := fun j hj => by
      obtain ⟨h1, h2, _⟩ := (hp j).1 hj
      obtain ⟨oj, ho, _, ha, _⟩ := hal j h1 h2
      exact mem_ready.2 ⟨hpl j hj, oj, ho, fun e he => absurd he (ha e)⟩
    -- some operation of the head is not done
    have hsome : ∃ i ∈ Region.ready md ops listed, i < n := by
      by_cases hpe : pend = []
      · subst hpe
        have hfp : 0 < f := by simp at hN; omega
        obtain ⟨f', rfl⟩ : ∃ f', f = f' + 1 := ⟨f - 1, by omega⟩
        obtain ⟨hne, hall⟩ := h
        obtain ⟨i, hi⟩ := List.exists_mem_of_ne_nil _ hne
        have hik := (hall i hi).1
        obtain ⟨h0, o, ho, hal'⟩ := mem_ready.1 hi
        exact ⟨i, mem_ready.2 ⟨by rw [heq i true (by simp)]; exact h0, o, ho, fun e he hb => by rw [heq _ false (by simp)]; exact hal' e he hb⟩, by omega⟩
      · obtain ⟨j, hj⟩ := List.exists_mem_of_ne_nil _ hpe
        exact ⟨j, hpready j hj, ((hp j).1 hj).2.1⟩
    obtain ⟨i0, hi0, hi0n⟩ := hsome
    rw [show N + 1 + g = (N + g) + 1 from by omega]
    refine ⟨fun h0 => absurd hi0 (by rw [h0]; exact List.not_mem_nil), fun i hi => ?_⟩
    have hin : i < n := Nat.lt_of_not_le fun hh => tail_waits hs hc hn inv _ i0 rfl hi0n (mem_ready.1 hi0).1 i hh hi
    have hun := (mem_ready.1 hi).1
    by_cases hik : i < k
    · -- a calm operation
      have hiA := hreadyA i hik hi
      have hip : i ∉ pend := fun h' => by have := ((hp i).1 h').1; omega
      cases f with
      | zero => exact absurd (hdone _ _ h i hiA) (by omega)
      | succ f =>
        obtain ⟨_, o, ho, _⟩ := mem_ready.1 hi
        obtain ⟨v, hy, hK⟩ := cYields_of ho (h.2 i hiA).2
        have hapi : ∀ j, k ≤ j → j < n → ∃ oj, ops[j]? = some oj ∧ oj.apart ops o = true := fun j h1 h2 => by
          obtain ⟨oj, hoj, _⟩ := hal j h1 h2
          exact ⟨oj, hoj, (hap i o j oj hik h1 h2 ho hoj).1⟩
        have hyp : cYields P ops W o v (putF ops β (List.range' k (n - k)) a) := cYields_putF (fun cs b => hsel i o cs b ho) _ _ (fun j hj d hd => by
          obtain ⟨oj, hoj, hapj⟩ := hapi j ((hr j).1 hj).1 ((hr j).1 hj).2
          have h3 := (Oper.apart_spec hapj).1
          rw [hoj] at hd
          exact h3 d hd) hy
        have hput : (putF ops β (List.range' k (n - k)) a).put o.dst v = putF ops β (List.range' k (n - k)) (a.put o.dst v) := by
          refine (putF_put _ _ fun j hj _ => ?_).symm
          obtain ⟨oj, hoj, hapj⟩ := hapi j ((hr j).1 hj).1 ((hr j).1 hj).2
          have h3 := (Oper.apart_spec hapj).2.1
          rw [hoj]
          intro he
          have he' : oj.dst = o.dst := he
          cases hd : oj.dst with
          | none =>
            -- an allocation without a slot: nothing is put
            obtain ⟨oj', hoj', _, _, hdn, _⟩ := hal j ((hr j).1 hj).1 ((hr j).1 hj).2
            rw [hoj] at hoj'
            cases hoj'
            exact hdn hd
          | some d => exact h3 d hd (he'.symm.trans hd)
        refine wpOp_of_qOp (C := Cls W css β) hw (fun a' w' hw' h' => ?_) (cOp_quiet (fun w h => h.below) (fun w w' h hb => h.later hb) (hyp.cOp ho (K := fun a' => a' = putF ops β (List.range' k (n - k)) (a.put o.dst v)) hput))
        rw [h']
        exact ih f pend _ (listedA.setIfInBounds i true) (a.put o.dst v) β w' (by omega) hnd hp hβ (inv.set hi hin) (by simpa using hszA) (lay.set hik)
          (fun j hj => by rw [getD_set_ne true (by rintro rfl; exact hip hj)]; exact hpl j hj)
          (fun j b hj => by
            by_cases hij : i = j
            · subst hij
              have h1 : i < listed.size := by rw [inv.size]; exact (Array.getElem?_eq_some_iff.1 ho).1
              have h2 : i < listedA.size := by rw [hszA]; exact (Array.getElem?_eq_some_iff.1 ho).1
              simp [h1, h2]
            · rw [getD_set_ne b hij, getD_set_ne b hij]; exact heq j b hj)
          hK hw'
    · -- an allocation
      have hip : i ∈ pend := by
        by_cases h' : i ∈ pend
        · exact h'
        · have := lay i (by omega) hin
          rw [← heq i true h', hun] at this; cases this
      obtain ⟨oi, hoi, hg, _, _, t, hrun⟩ := hal i (by omega) hin
      obtain ⟨p1, p2, p3⟩ := (hp i).1 hip
      unfold wpOp
      simp only [hoi]
      rw [if_pos (by unfold Region.wanted; rw [hg])]
      refine .inl ?_
      unfold Oper.wp
      rw [hrun]
      have hset : (putF ops β (List.range' k (n - k)) a).put oi.dst (.pointer (some ⟨w.heap.size, 0, none⟩)) = putF ops (β.set i w.heap.size) (List.range' k (n - k)) a := by
        have := putF_set (ops := ops) (β := β) (i := i) (B := w.heap.size) (List.range' k (n - k)) a ((hr i).2 ⟨p1, p2⟩) List.nodup_range' p3 (fun j hj hji => hdst j i ((hr j).1 hj).1 ((hr j).1 hj).2 p1 p2 hji)
        rw [this, hoi]; rfl
      show wpAny P md ops Q (N + g) (listed.setIfInBounds i true) ((putF ops β (List.range' k (n - k)) a).put oi.dst _) _
      rw [hset]
      have hlen : 0 < pend.length := List.length_pos_of_mem hip
      have hmem : ∀ j, j ∈ pend.erase i ↔ (j ≠ i ∧ j ∈ pend) := fun j => hnd.mem_erase_iff
      refine ih f (pend.erase i) _ listedA a (β.set i w.heap.size) _ (by rw [List.length_erase_of_mem hip]; omega) (hnd.erase i) (fun j => ?_) (fun j hj => ?_) (inv.set hi hin) hszA lay (fun j hj => ?_) (fun j b hj => ?_) h hw.alloc
      · rw [hmem]
        unfold Got.set
        by_cases e : j = i
        · subst e; simp
        · rw [if_neg e]; simp [e]; exact hp j
      · unfold Got.set at hj
        by_cases e : j = i
        · subst e; exact ⟨p1, p2⟩
        · rw [if_neg e] at hj; exact hβ j hj
      · have := (hmem j).1 hj
        rw [getD_set_ne true (Ne.symm this.1)]; exact hpl j this.2
      · by_cases e : j = i
        · subst e
          have h1 : j < listed.size := by rw [inv.size]; omega
          have h2 : j < listedA.size := by rw [hszA]; omega
          have h3 := lay j p1 p2
          have h4 : listedA.getD j b = true := by simp [h2] at h3 ⊢; exact h3
          rw [h4]
          simp [h1]
        · rw [getD_set_ne b (Ne.symm e)]
          exact heq j b (fun h' => hj ((hmem j).2 ⟨e, h'⟩))

end

theorem getD_out {A : Array Bool} {j : Nat} (b : Bool) (h : A.size ≤ j) : A.getD j b = b := by unfold Array.getD; rw [dif_neg (by omega)]

/-- A contract that draws, met within a region. -/
theorem calm_drew {P : Program} {f : FuncId} {args : Array Value} {w : World} {d : Nat} {os : Array Obj} {v : Value} (h : ∀ w, Calls P f args w fun e w' => e = .returned v ∧ ∃ k, w' = w.drewN k) :
    Calls P f args (grow (redrawn w d) os) fun e w'' => e = .returned v ∧ ∃ p : Regrown, w'' = grow (redrawn w p.d) p.os :=
  calm_call (fun w => (h w).mono fun _ _ ⟨a, k, b⟩ => ⟨a, by
    subst b
    have : ∀ k, Below w.heap.size w (w.drewN k) := fun k => by
      induction k with
      | zero => exact Below.refl _ _
      | succ n ih => exact ih.drew
    exact this k⟩)
theorem cal_drew {P : Program} {f : FuncId} {args : Array Value} {w : World} {v : Value} (h : ∀ w, Calls P f args w fun e w' => e = .returned v ∧ ∃ k, w' = w.drewN k) :
    Calls P f args w fun e w'' => e = .returned v ∧ Bel w w'' :=
  (h w).mono fun _ _ ⟨a, k, b⟩ => ⟨a, by
    subst b
    have : ∀ k, Below w.heap.size w (w.drewN k) := fun k => by
      induction k with
      | zero => exact Below.refl _ _
      | succ n ih => exact ih.drew
    exact this k⟩

/-- The marks of the allocations. -/
def marks (s k n : Nat) : Array Bool := (Array.range s).map fun j => decide (k ≤ j) && decide (j < n)
theorem marks_get {s k n j : Nat} (h : j < s) (b : Bool) : (marks s k n).getD j b = (decide (k ≤ j) && decide (j < n)) := by
  unfold marks; simp [h]

/-- The look at the region: the kernel reckons it. -/
def manyB (md : Region.Mode) (ops : Array Oper) (k n : Nat) : Bool :=
  Region.noSelect ops && decide (n < ops.size) && decide (k ≤ n) && Region.sinkB md ops n && Region.chainB md ops n && lexHeadN md ops (ops.size - n) n k 0 (marks ops.size k n) && dstB ops k n &&
  (List.range n).all fun j => decide (j < k) || match ops[j]? with
    | some oj => oj.after.isEmpty && oj.guard.isNone && oj.dst.isSome && (List.range k).all fun i => match ops[i]? with | some oi => oj.apart ops oi && oi.after.all fun e => !(Region.binds md e && e.on == j) | none => true
    | none => false

/-- Whatever order the region is run in. -/
theorem many_any {P : Program} {Q : Exit → Act → World → Prop} {a : Act} {w : World} {l : List Oper} (k n : Nat) (css : Nat → Array Value) (hB : manyB .any l.toArray k n = true)
    (hal : ∀ j oj, k ≤ j → j < n → l[j]? = some oj → ∃ t, ∀ a w, (execOp (Act.eval a) oj).run P w = .ok (.value (.pointer (some ⟨w.heap.size, 0, none⟩))) (w.alloc (.cells (css j) t)))
    (h : wpCalm P l.toArray w (fun a' => ∀ (β : Got) w', (∀ j, k ≤ j → j < n → ∃ B, β j = some B) → Cls w css β w' → wpList P l.toArray Q (l.drop n) (putF l.toArray β (List.range' k (n - k)) a') w') (l.take k) a) :
    wpAny P .any l.toArray Q l.toArray.size (Array.replicate l.toArray.size false) a { w with drawn := w.drawn + 1 } := by
  unfold manyB at hB
  simp only [Bool.and_eq_true, decide_eq_true_eq] at hB
  obtain ⟨⟨⟨⟨⟨⟨⟨hsel, hn⟩, hkn⟩, hs⟩, hc⟩, hlex⟩, hdst⟩, hall⟩ := hB
  have hinfo : ∀ j, k ≤ j → j < n → ∃ oj, l.toArray[j]? = some oj ∧ oj.after.isEmpty = true ∧ oj.guard.isNone = true ∧ oj.dst.isSome = true ∧ ∀ i oi, i < k → l.toArray[i]? = some oi → oj.apart l.toArray oi = true ∧ ∀ e ∈ oi.after, Region.binds .any e = true → e.on ≠ j := fun j h1 h2 => by
    have h3 := List.all_eq_true.1 hall j (List.mem_range.2 h2)
    have h4 : ¬ j < k := by omega
    simp only [h4, decide_false, Bool.false_or] at h3
    cases ho : l.toArray[j]? with
    | none => simp only [ho] at h3; cases h3
    | some oj =>
      simp only [ho, Bool.and_eq_true] at h3
      obtain ⟨⟨⟨x1, x2⟩, x3⟩, x4⟩ := h3
      refine ⟨oj, rfl, x1, x2, x3, fun i oi hi hoi => ?_⟩
      have h5 := List.all_eq_true.1 x4 i (List.mem_range.2 hi)
      simp only [hoi, Bool.and_eq_true] at h5
      refine ⟨h5.1, fun e he hb hek => ?_⟩
      have h6 := Array.all_eq_true'.1 h5.2 e he
      rw [hb, hek] at h6
      simp at h6
  have hn' : n < l.length := by simpa using hn
  have htl : (l.take k).length = k := by simp; omega
  have hdl : (l.drop n).length = l.toArray.size - n := by simp
  have hnil : ∀ oj : Oper, oj.after.isEmpty = true → ∀ e, e ∉ oj.after := fun oj h e he => by rw [Array.isEmpty_iff] at h; rw [h] at he; simp at he
  have inv0 : HeadInv .any l.toArray n (Array.replicate l.toArray.size false) :=
    ⟨by simp, fun j oj _ hl => absurd hl (by rw [getD_replicate_false]; decide), fun t _ ht => getD_in (by simpa using ht) (getD_replicate_false _ _)⟩
  have szM : (marks l.toArray.size k n).size = l.toArray.size := by simp [marks]
  have invM : HeadInv .any l.toArray n (marks l.toArray.size k n) := by
    refine ⟨szM, fun j oj hj hl e he hb => ?_, fun t h1 h2 => by rw [marks_get h2]; simp; omega⟩
    have hjl : j < l.toArray.size := (Array.getElem?_eq_some_iff.1 hj).1
    rw [marks_get hjl] at hl
    simp only [Bool.and_eq_true, decide_eq_true_eq] at hl
    obtain ⟨oj', ho', ha, _⟩ := hinfo j hl.1 hl.2
    rw [hj] at ho'
    cases ho'
    exact absurd he (hnil _ ha e)
  have layM : Laid k n (marks l.toArray.size k n) := fun j h1 h2 => by rw [marks_get (by omega)]; simp [h1, h2]
  have H := headC_lex (md := .any) (g := l.toArray.size - n) (W := w) hsel hs hc hn hkn (l.take k) 0 _ a (fun j hj => by
    have hj' : j < k := by rw [htl] at hj; exact hj
    simp [hj']) (by simpa using htl) invM layM (by rw [htl]; exact hlex) h
  have := wpAny_many (md := .any) (Q := Q) (g := l.toArray.size - n) (css := css) (W := w) (k := k) (n := n) (L := fun listed' a' => Region.seqB .any l.toArray (l.toArray.size - n) n listed' = true ∧ ∀ (β : Got) w', (∀ j, k ≤ j → j < n → ∃ B, β j = some B) → Cls w css β w' → wpList P l.toArray Q (l.drop n) (putF l.toArray β (List.range' k (n - k)) a') w') hkn hn
    (fun j h1 h2 => by
      obtain ⟨oj, ho, x1, x2, x3, _⟩ := hinfo j h1 h2
      obtain ⟨t, ht⟩ := hal j oj h1 h2 (by simpa using ho)
      exact ⟨oj, ho, by simpa using x2, hnil oj x1, (by intro h; rw [h] at x3; cases x3), t, ht⟩)
    (Region.noSelect_spec hsel) hs hc
    (fun i oi j oj hi h1 h2 hoi hoj => by
      obtain ⟨oj', ho', _, _, _, x4⟩ := hinfo j h1 h2
      rw [hoj] at ho'
      cases ho'
      exact x4 i oi hi hoi)
    (fun i j i1 i2 j1 j2 hne he => by
      have h3 := List.all_eq_true.1 (List.all_eq_true.1 hdst i (List.mem_range.2 i2)) j (List.mem_range.2 j2)
      have h4 : ¬ i < k := by omega
      have h5 : ¬ j < k := by omega
      rw [he] at h3
      simp [h4, h5, hne] at h3)
    (fun listed a' hL => seqB_ready hL.1)
    (fun β listed a' w' hfull hw' hL => by
      have := wpAny_of_seq (md := .any) (Q' := Q) (l.drop n) n listed _ w' (fun j => by simp [List.getElem?_drop]) (by rw [hdl]; exact hL.1) (hL.2 β w' hfull hw')
      rwa [hdl] at this)
    n k (List.range' k (n - k)) _ _ a (fun _ => none) w.drew (by simp; omega) List.nodup_range' (fun j => by rw [List.mem_range'_1]; simp; omega) (fun j hj => absurd rfl hj) inv0 szM layM
    (fun j hj => by have := List.mem_range'_1.1 hj; exact getD_in (by simp at hn ⊢; omega) (getD_replicate_false _ _))
    (fun j b hj => by
      by_cases hjl : j < l.toArray.size
      · rw [marks_get hjl]
        have : ¬ (k ≤ j ∧ j < n) := fun h => hj (by rw [List.mem_range'_1]; omega)
        have e : (decide (k ≤ j) && decide (j < n)) = false := by simpa using this
        rw [e]
        simp at hjl
        simp [hjl]
      · rw [getD_out b (by simp at hjl ⊢; exact hjl), getD_out b (by rw [szM]; omega)])
    (by rw [htl] at H; exact H) ⟨(Below.refl _ _).drew, fun j B h => (by cases h), fun i j B B' h => (by cases h)⟩
  have e0 : ∀ js (a : Act), putF l.toArray (fun _ => none) js a = a := fun js => by
    induction js with
    | nil => intro a; rfl
    | cons j js ih => intro a; exact ih a
  rw [e0, show n + (l.toArray.size - n) = l.toArray.size by omega] at this
  exact this

/-- k calm operations, two allocations (numbers k and k + 1), then a forced tail. -/
theorem pair_alloc_any {P : Program} {Q : Exit → Act → World → Prop} {a : Act} {w : World} {l : List Oper} (k : Nat) (c0 c1 : Array Value) (t0 t1 : TypeId) (o0 o1 : Oper) (h0 : l[k]? = some o0) (h1 : l[k + 1]? = some o1) (hB : manyB .any l.toArray k (k + 2) = true)
    (hal0 : ∀ a w, (execOp (Act.eval a) o0).run P w = .ok (.value (.pointer (some ⟨w.heap.size, 0, none⟩))) (w.alloc (.cells c0 t0)))
    (hal1 : ∀ a w, (execOp (Act.eval a) o1).run P w = .ok (.value (.pointer (some ⟨w.heap.size, 0, none⟩))) (w.alloc (.cells c1 t1)))
    (h : wpCalm P l.toArray w (fun a' => ∀ B0 B1 w', NewVar w B0 c0 w' → NewVar w B1 c1 w' → B0 ≠ B1 → wpList P l.toArray Q (l.drop (k + 2)) ((a'.put o0.dst (.pointer (some ⟨B0, 0, none⟩))).put o1.dst (.pointer (some ⟨B1, 0, none⟩))) w') (l.take k) a) :
    wpAny P .any l.toArray Q l.toArray.size (Array.replicate l.toArray.size false) a { w with drawn := w.drawn + 1 } := by
  refine many_any k (k + 2) (fun j => if j = k then c0 else c1) hB (fun j oj j0 j1 hj => ?_) ?_
  · by_cases e : j = k
    · subst e
      rw [h0] at hj
      cases hj
      rw [if_pos rfl]; exact ⟨t0, hal0⟩
    · obtain rfl : j = k + 1 := by omega
      rw [h1] at hj
      cases hj
      rw [if_neg e]; exact ⟨t1, hal1⟩
  · have mono : ∀ (m : List Oper) (K K' : Act → Prop) (a : Act), (∀ a, K a → K' a) → wpCalm P l.toArray w K m a → wpCalm P l.toArray w K' m a := fun m => by
      induction m with
      | nil => intro K K' a hk h; exact hk a h
      | cons o m ih =>
        intro K K' a hk h
        unfold wpCalm at h ⊢
        split
        · rename_i hw
          rw [if_pos hw] at h
          obtain ⟨v, x1, x2⟩ := h
          exact ⟨v, x1, ih _ _ _ hk x2⟩
        · rename_i hw
          rw [if_neg hw] at h
          exact ih _ _ _ hk h
    refine mono _ _ _ _ (fun a' ha β w' hfull hw' => ?_) h
    obtain ⟨B0, b0⟩ := hfull k (by omega) (by omega)
    obtain ⟨B1, b1⟩ := hfull (k + 1) (by omega) (by omega)
    have n0 := hw'.new k B0 b0
    have n1 := hw'.new (k + 1) B1 b1
    rw [if_pos rfl] at n0
    rw [if_neg (by omega)] at n1
    have := ha B0 B1 w' n0 n1 (hw'.apart k (k + 1) B0 B1 b0 b1 (by omega))
    rw [show k + 2 - k = 2 by omega]
    show wpList P l.toArray Q (l.drop (k + 2)) (putF l.toArray β [k, k + 1] a') w'
    unfold putF putF putF
    rw [b0, b1]
    simpa [h0, h1] using this

theorem calm_two {P : Program} {id : Nat} {Q : Exit → Act → World → Prop} {a : Act} {w : World} {l : List Oper} (k : Nat) (c0 c1 : Array Value) (t0 t1 : TypeId) (o0 o1 : Oper) (h0 : l[k]? = some o0) (h1 : l[k + 1]? = some o1) (hm : P.follows .mixedOrders = true) (hB : manyB .any l.toArray k (k + 2) = true)
    (hal0 : ∀ a w, (execOp (Act.eval a) o0).run P w = .ok (.value (.pointer (some ⟨w.heap.size, 0, none⟩))) (w.alloc (.cells c0 t0)))
    (hal1 : ∀ a w, (execOp (Act.eval a) o1).run P w = .ok (.value (.pointer (some ⟨w.heap.size, 0, none⟩))) (w.alloc (.cells c1 t1)))
    (h : (∀ b, b < w.heap.size → ∀ d os o, (grow (redrawn w d) os).cell? ⟨b, o, none⟩ = w.cell? ⟨b, o, none⟩) →
      wpCalm P l.toArray w (fun a' => ∀ B0 B1 w', NewVar w B0 c0 w' → NewVar w B1 c1 w' → B0 ≠ B1 → wpList P l.toArray Q (l.drop (k + 2)) ((a'.put o0.dst (.pointer (some ⟨B0, 0, none⟩))).put o1.dst (.pointer (some ⟨B1, 0, none⟩))) w') (l.take k) a) : (Code.region id l.toArray true).wp P Q a w :=
  wp_region_any hm (pair_alloc_any k c0 c1 t0 t1 o0 o1 h0 h1 hB hal0 hal1 (h fun b hb d os o => (below_regrown w d os).cell (p := ⟨b, o, none⟩) hb))
end Go.Proofs.Ytjgmjnjpgdadhaa
