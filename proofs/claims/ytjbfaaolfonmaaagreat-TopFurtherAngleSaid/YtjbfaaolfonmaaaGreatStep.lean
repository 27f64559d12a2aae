/- Rows of settings, copied; an append inside a region that draws its order. -/
import Derived.Test.YtjbfaaolfonmaaaGreatReady
import Derived.Maps.AppendAt
namespace Go.Proofs.YtjbfaaolfonmaaaGreat
open Go Go.Sort Go.RowKit

theorem step_append_own {P : Program} {ops : Array Oper} {w : World} {o : Oper} {a : Act} {K : Act → World → Prop} {Q : Exit → Act → World → Prop} {E : Prop} (hgd : o.guard = none) (s x : Operand) (t : TypeId)
    (ho : o.op = .call { callee := .builtin .append, args := #[s, x], argTypes := #[t, t] })
    (base : Nat) (e : TypeId) (i : TypeInfo) (z : Value) (size bytes : Nat) (ht : P.underlying t = some (.slice e)) (hi : P.info? e = some i) (hz : i.zero = some z)
    (hsize : i.size = size) (hby : i.bytes = bytes) (hzs : z.cells.size = size) (hsz : 0 < size)
    (v : Value) (n : Nat) (xs : List Value) (hs : a.eval s = v) (hown : w.ownsRow base e size v n xs)
    (ad : Addr) (m c : Nat) (news : List Value) (hx : a.eval x = .slice (some ad) m c) (hl : news.length = m * size) (hnews : ∀ j u, news[j]? = some u → w.cell? (ad.add j) = some u) (h1 : ∀ u ∈ news, u.oneCell' = true)
    (h63 : n + m ≤ maxLen) (hbytes : (n + m) * bytes ≤ 140737488355328) (hbase : base ≤ w.heap.size)
    (h : ∀ v' w', w'.ownsRow base e size v' (n + m) (xs ++ news) → w.grownBy w' v.ownBlock → K (a.put o.dst v') w') :
    if Region.wanted o (yielded ops a.tmps) = true then Oper.wp P o a w K Q else E := by
  have hw : Region.wanted o (yielded ops a.tmps) = true := by simp [Region.wanted, hgd]
  rw [if_pos hw]
  obtain ⟨v', w', hr, h2, h3, _, _⟩ := run_append_own_at (P := P) w base t o.type e i z size bytes ht hi hz hsize hby hzs hsz v n xs hown ad m c news hl hnews h1 h63 hbytes hbase
  unfold Oper.wp execOp
  simp only [ho, resolve, invoke, builtin, Sem.run_bind, Sem.run_pure, Result.andThen_ok, List.map_toArray, List.map_cons, List.map_nil, hs, hx, hr]
  exact h v' w' h2 h3

/-- Settings in a row. -/
def flat3 (Z : Nat → Nat → Int) (k : Nat) : List Value := (List.range k).flatMap fun i => [Value.int .i64 (Z i 0), Value.int .i64 (Z i 1), Value.int .i64 (Z i 2)]
theorem flat3_next (Z : Nat → Nat → Int) (k : Nat) : flat3 Z (k + 1) = flat3 Z k ++ [.int .i64 (Z k 0), .int .i64 (Z k 1), .int .i64 (Z k 2)] := by
  unfold flat3
  rw [List.range_succ, List.flatMap_append]
  rfl
theorem flat3_len (Z : Nat → Nat → Int) (k : Nat) : (flat3 Z k).length = k * 3 := by
  induction k with
  | zero => rfl
  | succ k ih => rw [flat3_next, List.length_append, ih]; simp; omega
theorem flat3_get (Z : Nat → Nat → Int) (k i j : Nat) (hi : i < k) (hj : j < 3) : (flat3 Z k)[i * 3 + j]? = some (.int .i64 (Z i j)) := by
  induction k with
  | zero => omega
  | succ k ih =>
    have hl := flat3_len Z k
    rw [flat3_next]
    by_cases hk : i < k
    · rw [List.getElem?_append_left (by omega)]
      exact ih hk
    · obtain rfl : i = k := by omega
      rw [List.getElem?_append_right (by omega), hl, Nat.add_sub_cancel_left]
      match j, hj with
      | 0, _ => rfl
      | 1, _ => rfl
      | 2, _ => rfl
theorem flat3_inv {Z : Nat → Nat → Int} {k j : Nat} {u : Value} (h : (flat3 Z k)[j]? = some u) : j < k * 3 ∧ u = .int .i64 (Z (j / 3) (j % 3)) := by
  have hj : j < k * 3 := by
    have := (List.getElem?_eq_some_iff.1 h).1
    rw [flat3_len] at this
    exact this
  have := flat3_get Z k (j / 3) (j % 3) (by omega) (by omega)
  rw [show j / 3 * 3 + j % 3 = j by omega, h] at this
  exact ⟨hj, Option.some.inj this⟩
theorem flat3_one (Z : Nat → Nat → Int) (k : Nat) : ∀ u ∈ flat3 Z k, u.oneCell' = true := by
  intro u hu
  obtain ⟨j, hj⟩ := List.getElem?_of_mem hu
  rw [(flat3_inv hj).2]
  rfl
theorem Zs.cells3 {a : Addr} {n : Nat} {Z : Nat → Nat → Int} {w : World} (h : Zs (some a) n 3 Z w) : ∀ j u, (flat3 Z n)[j]? = some u → w.cell? (a.add j) = some u := by
  intro j u hj
  obtain ⟨hl, rfl⟩ := flat3_inv hj
  obtain ⟨_, e, hc⟩ := h.get (j / 3) (by omega)
  cases e
  have := hc (j % 3) (by omega)
  rw [show j / 3 * 3 + j % 3 = j by omega] at this
  exact this
theorem zs_own3 {w : World} {base : Nat} {V : Value} {k : Nat} {Z : Nat → Nat → Int} {t : TypeId} (h : w.ownsRow base t 3 V (0 + k) ([] ++ flat3 Z k)) : ∃ p c, V = .slice p k c ∧ Zs p k 3 Z w := by
  rw [List.nil_append, Nat.zero_add] at h
  have h' := h
  rcases h.2 with ⟨rfl, rfl⟩ | ⟨g, cap, cur, rfl, _⟩
  · exact ⟨none, 0, rfl, ⟨fun i hi => by omega⟩⟩
  · exact ⟨_, cap, rfl, ⟨fun i hi => ⟨_, rfl, fun j hj => h'.cells rfl _ _ (flat3_get Z k i j hi hj)⟩⟩⟩
theorem made_row {w : World} {g base size : Nat} {t : TypeId} (hg : w.heap.size = g) (hb : base ≤ g) : (w.alloc (.cells #[] t)).ownsRow base t size (.slice (some ⟨g, 0, none⟩) 0 0) 0 [] := by
  subst hg
  exact World.ownsRow_made w #[] 0 hb (by decide) (by simp)
theorem setting_row : ∃ i, (Tryz.prog.info? 25) = some i ∧ i.zero = some (.agg #[.int .i64 0, .int .i64 0, .int .i64 0]) ∧ i.size = 3 ∧ i.bytes = 24 := info_parts (by kernel_rfl)
theorem add_off2 (a : Addr) (k : Nat) : (⟨(a.add k).block, (a.add k).off + 2, none⟩ : Addr) = a.add (k + 2) := by
  unfold Addr.add
  by_cases h : k = 0
  · rw [h]; simp
  · simp [h]; omega
/-- A region that draws its order and makes a block: what is known behind it, whatever the order. -/
theorem wp_cut3 {P : Program} {c : Code} {Q : Exit → Act → World → Prop} {a : Act} {w : World} (F : Nat → Nat → Nat → Act → Act) (R : Nat → World → Prop)
    (h1 : c.wp P (fun e a' w' => e = .normal ∧ ∃ g k B, a' = F g k B a ∧ R B w') a w) (h2 : ∀ g k B w', R B w' → Q .normal (F g k B a) w') : c.wp P Q a w :=
  Code.wp_mono (fun e a' w' h => by obtain ⟨rfl, g, k, B, rfl, hR⟩ := h; exact h2 g k B w' hR) h1
theorem hv9 {p q : Prop} (hp : p) (hq : p → q) : q := hq hp
/-- What is known of a block that lay there. -/
theorem blx {w w' : World} {N : Nat} (h : Below N w w') (hw : N = w.heap.size) (b : Nat) (hb : b < N) : b < w'.heap.size ∧ b < w'.heap.size + 1 ∧ b < w'.heap.size + 1 + 1 ∧ (∀ o, w'.cell? ⟨b, o, none⟩ = w.cell? ⟨b, o, none⟩) ∧ (∀ o, w'.frozen? ⟨b, o, none⟩ = w.frozen? ⟨b, o, none⟩) := by
  subst hw
  exact bl5 h b hb
/-- What is apart is not inside. -/
theorem apart_not_inside {S T : Seen} (hS : SeenOk S) (hT : SeenOk T) (h : apartB S T = true) : insideB S T = false := by
  obtain ⟨h1, h2, h3⟩ := hS
  obtain ⟨g1, g2, g3⟩ := hT
  unfold apartB at h
  unfold insideB
  simp at h ⊢
  omega
theorem tells_yes {wv ix si oi ol : Int} {A B : List Box} (h : tellsB wv ix si A B oi ol = true) : (seenB wv ix si A oi ol).q = 0 ∧ (seenB wv ix si B oi ol).q = 0 ∧ apartB (seenB wv ix si A oi ol) (seenB wv ix si B oi ol) = true := by
  unfold tellsB at h
  simp only [Bool.and_eq_true, decide_eq_true_eq] at h
  exact ⟨h.1, h.2.1, h.2.2⟩
theorem predM_good {wv ix si oi ol : Int} {ls : List Box} (h1 : setQ wv ix si = 0) (h2 : checkQ ls = 0) (h3 : onQ oi ol = 0) : predM wv ix si ls oi ol = seenB wv ix si ls oi ol := by
  unfold predM
  rw [h1, h2, h3, fst3_c, if_pos rfl]
end Go.Proofs.YtjbfaaolfonmaaaGreat

