/- Misses: the reference's walk. -/
import Derived.Test.YtjbfaaolfonmaaaGreatMisses
import Derived.Test.YtjbfaaolfonmaaaGreatRSmallChange
namespace Go.Proofs.YtjbfaaolfonmaaaGreat
open Go Go.Sort Go.RowKit

set_option maxRecDepth 100000 in
set_option maxHeartbeats 8000000 in
theorem rMisses_any (p q : Option Addr) (n m cp cq : Nat) (Z Y : Nat → Nat → Int) (hn : n ≤ 1000000) (hm : m ≤ 1000000) (w : World) (hz : Zs p n 2 Z w) (hy : Zs q m 1 Y w) :
    Calls Tryz.prog 28 #[.slice p n cp, .slice q m cq] w fun E w' => MissRet (missQ (Z · 0) (Z · 1) (Y · 0) n m) (missC (Z · 0) (Z · 1) (Y · 0) n m) (missN (Z · 0) (Z · 1) (Y · 0) n) (missD (Z · 0) (Z · 1) (Y · 0) n) w E w' := by
  have CH := fun w' (h : Below w.heap.size w w') => rchangeOf_any p q n m cp cq Z Y hn hm w' (hz.bel h) (hy.bel h)
  unfold ChgRet at CH
  generalize hr : (Z · 0) = r at *
  generalize hs : (Z · 1) = s at *
  generalize hv : (Y · 0) = v at *
  have hr : ∀ i, Z i 0 = r i := fun i => congrFun hr i
  have hs : ∀ i, Z i 1 = s i := fun i => congrFun hs i
  have hv : ∀ i, Y i 0 = v i := fun i => congrFun hv i
  by_cases hq : chgQ r s v n m = 0
  case neg =>
    have eA : chgA r s v n m = 0 := by unfold chgA; rw [if_neg hq]
    have eB : chgB r s v n m = 0 := by unfold chgB; rw [if_neg hq]
    have eD : chgD r s v n m = 0 := by unfold chgD; rw [if_neg hq]
    rw [eA, eB, eD] at CH
    obtain ⟨e1, e2⟩ := miss_err rfl hq
    rw [e1, e2]
    have hq1 : (chgQ r s v n m != 0) = true := by simpa using hq
    generalize chgQ r s v n m = Q at *
    have CH := Lib.hid CH
    clear eA eB eD hq hz hy hr hs hv e1 e2
    go_enter Tryz.func28, Tryz.ntmps28
    go_wp2_with fail
    refine (CH.out _ blw).mono ?_
    rintro e w1 ⟨rfl, hb_w1⟩
    have hs_w1 := hb_w1.size
    (try simp at hs_w1)
    repeat' (first | go_values | go_skip | go_guarded | go_step | go_upon | (simp only []; go_simp))
    go_ret2
    exact missRet_none blw
  obtain ⟨n1, n20, rfl, hok, hd, eA, eB, eD⟩ := chg_good hq
  rw [hq, eA, eB, eD] at CH
  have RR := Lib.hid (fun h => miss_bad (m := m) hq h)
  have RO := Lib.hid (fun h => miss_ok (m := m) hq h)
  have BD := Lib.hid (fun i h => miss_bd (i := i) n20 h hok)
  have SM := Lib.hid (fun i (h : i < m) w => rsmall_any (miss r s v m i) (sums r s v m).den hd (by have := miss_bd n20 h hok; omega) (by have := miss_bd n20 h hok; unfold miss; omega) (by have := miss_bd n20 h hok; unfold miss; omega) w)
  have EM : Hid (∀ i, miss r s v m i = v i * (sums r s v m).den - (sums r s v m).a * r i - (sums r s v m).b * s i) := Lib.hid (fun i => rfl)
  have EN : Hid (∀ i, lowN (miss r s v m i) (sums r s v m).den = missN r s v m i) := Lib.hid (fun i => by unfold missN; rfl)
  have ED : Hid (∀ i, lowD (miss r s v m i) (sums r s v m).den = missD r s v m i) := Lib.hid (fun i => by unfold missD; rfl)
  have OB := Lib.hid (fun k (h : k < m) => okM_bad (r := r) (s := s) (v := v) (m := m) h)
  have OU := Lib.hid (fun k => okM_up (r := r) (s := s) (v := v) (n := m) (k := k))
  generalize (sums r s v m).a = A at *
  generalize (sums r s v m).b = B at *
  generalize (sums r s v m).den = D at *
  have CH := Lib.hid CH
  have HZ := Lib.hid (And.intro hz (And.intro hy (And.intro hr (And.intro hs hv))))
  have N20 := Lib.hid (And.intro n1 n20)
  clear hq hok hd eA eB eD hz hy hr hs hv n1 n20
  obtain ⟨Q, hQ⟩ : ∃ Q, missQ r s v m m = Q := ⟨_, rfl⟩
  obtain ⟨C, hC⟩ : ∃ C, missC r s v m m = C := ⟨_, rfl⟩
  rw [hQ, hC]
  rw [hQ, hC] at RR RO
  clear hQ hC
  obtain ⟨NN, hNN⟩ : ∃ f, missN r s v m = f := ⟨_, rfl⟩
  obtain ⟨DD, hDD⟩ : ∃ f, missD r s v m = f := ⟨_, rfl⟩
  have EN : Hid (∀ i, lowN (miss r s v m i) D = NN i) := Lib.hid (fun i => by rw [EN.out i, hNN])
  have ED : Hid (∀ i, lowD (miss r s v m i) D = DD i) := Lib.hid (fun i => by rw [ED.out i, hDD])
  rw [hNN, hDD]
  clear hNN hDD
  go_enter Tryz.func28, Tryz.ntmps28
  go_wp2_with fail
  refine (CH.out _ blw).mono ?_
  rintro e w1 ⟨rfl, hb_w1⟩
  have hs_w1 := hb_w1.size
  (try simp at hs_w1)
  repeat (first | (with_reducible refine wp_markr 6 ?_) | go_values | go_skip | go_guarded | go_step | go_upon | (simp only []; go_simp))
  refine wp_named (fun w2 hN_w2 => ?_)
  have hs_w2 := congrArg (fun w => w.heap.size) hN_w2
  (try simp at hs_w2)
  replace hs_w2 := Nat.le_of_eq hs_w2.symm
  have hb_w2 : Below w.heap.size w w2 := (by rw [hN_w2]; exact blw)
  have hz_w2_w1 : w1.heap.size < w2.heap.size := (by omega)
  have hy_w2_w1 : w1.heap.size < w2.heap.size + 1 := (by omega)
  have hx_w2_w1 : w1.heap.size < w2.heap.size + 1 + 1 := (by omega)
  have s0_w2_w1 : w2.cell? ⟨w1.heap.size, 0, none⟩ = some (.int .i64 A) := (by rw [hN_w2]; go_simp)
  have s1_w2_w1 : w2.cell? ⟨w1.heap.size, 1, none⟩ = some (.int .i64 B) := (by rw [hN_w2]; go_simp)
  have s2_w2_w1 : w2.cell? ⟨w1.heap.size, 2, none⟩ = some (.int .i64 D) := (by rw [hN_w2]; go_simp)
  have sf_w2_w1 : ∀ o, w2.frozen? ⟨w1.heap.size, o, none⟩ = false := (fun o => by rw [hN_w2]; go_simp)
  clear hN_w2
  skip
  go_loopw [8, 9] (fun V i wr => ∃ k : Nat, k ≤ m ∧ i = .int .i64 k ∧ wr.ownsRow w2.heap.size 53 2 V k (flat2 NN DD k) ∧ Hid (okM r s v m k = true) ∧ Below w2.heap.size w2 wr) (fun _ i _ => m - (intOf i).toNat)
  case atStart => exact ⟨0, by omega, rfl, World.ownsRow_nil _ _ _ _, Lib.hid rfl, blw⟩
  case round =>
    obtain ⟨k, hk, rfl, hown, HO, hb_wr⟩ := hrel
    have hs_wr := hb_wr.size
    (try simp at hs_wr)
    obtain ⟨hz_wr_w1, hy_wr_w1, hx_wr_w1, hc_wr_w1, hf_wr_w1⟩ := bl5 hb_wr (w1.heap.size)
    by_cases hlt : k < m
    · obtain ⟨hz, hy, hr, hs, hv⟩ := HZ.out
      obtain ⟨a, ha, ca⟩ := (hz.bel (show Below w.heap.size w wr from blw)).get k hlt
      obtain ⟨b, hb, cb⟩ := (hy.bel (show Below w.heap.size w wr from blw)).get k hlt
      have r0 := ca 0 (by omega)
      have r1 := ca 1 (by omega)
      have v0 := cb 0 (by omega)
      rw [hr] at r0
      rw [hs] at r1
      rw [hv] at v0
      have la := World.block_lt_of_cell? wr _ r0
      have lb := World.block_lt_of_cell? wr _ v0
      rw [Nat.add_zero] at r0 v0 la lb
      rw [Nat.mul_one] at v0 lb
      rw [← add_off] at r1
      have na : ¬ (a.add (k * 2)).block = wr.heap.size := by omega
      have nb : ¬ (b.add k).block = wr.heap.size := by omega
      have hlt2 : (k : Int) < m := by omega
      subst ha; subst hb
      have bd := BD.out k hlt
      have em := EM.out k
      have SM := Lib.hid (SM.out k hlt)
      unfold smallRet at SM
      rw [EN.out k, ED.out k] at SM
      have OB := Lib.hid (OB.out k hlt)
      have OU := Lib.hid (OU.out k HO.out)
      have FN := Lib.hid (flat2_next NN DD k)
      clear ca cb hz hy hr hs hv BD EM EN ED HZ
      generalize smallQ (miss r s v m k) D = t at *
      generalize miss r s v m k = M at *
      generalize r k = x at *
      generalize s k = y at *
      generalize v k = z at *
      generalize NN k = NK at *
      generalize DD k = DK at *
      subst em
      have W1 : IntKind.i64.wrap (z * D) = z * D := IntWalk.i64_in _ ⟨by omega, by omega⟩
      have W2 : IntKind.i64.wrap (A * x) = A * x := IntWalk.i64_in _ ⟨by omega, by omega⟩
      have W3 : IntKind.i64.wrap (B * y) = B * y := IntWalk.i64_in _ ⟨by omega, by omega⟩
      have W4 : IntKind.i64.wrap (z * D - A * x) = z * D - A * x := IntWalk.i64_in _ ⟨by omega, by omega⟩
      have W5 : IntKind.i64.wrap (z * D - A * x - B * y) = z * D - A * x - B * y := IntWalk.i64_in _ ⟨by omega, by omega⟩
      have hown := Lib.hid hown
      clear bd
      cases t
      case false =>
        rw [if_neg (by simp)] at SM
        go_wp2_with fail
        refine calm_late 31 30 #[.int .i64 0, .int .i64 0] 53 _ _ _ rfl rfl rfl (by kernel_rfl) (by kernel_rfl) (by kernel_rfl) (fun _ _ _ _ h => h) (fun a w => by kernel_rfl) fun hG => ?_
        have hg_v := hG_at hG (p := b.add k) (v := .int .i64 z) (by first | exact v0 | (simp [*, go_sem]; done))
        have hg_c := hG (w1.heap.size) lto
        have hg_r := hG_at hG (p := a.add (k * 2)) (v := .int .i64 x) (by first | exact r0 | (simp [*, go_sem]; done))
        have hg_s := hG_at hG (p := ⟨(a.add (k * 2)).block, (a.add (k * 2)).off + 1, none⟩) (v := .int .i64 y) (by first | exact r1 | (simp [*, go_sem]; done))
        clear hG
        skip
        simp only [List.take_succ_cons, List.take_zero, List.drop_succ_cons, List.drop_zero]
        repeat (refine wpCalm_step (fun K hK => ?_); go_simp; first | (refine hK _ ?_; clear hK K) | (apply Exists.intro; refine ⟨fun _ => ?_, hK _ ?_⟩; ((go_at_call 94; with_reducible exact cal_call SM.out)); clear hK K))
        refine wpCalm_nil ?_
        intro B1 w9 hN
        obtain ⟨hb_w9, hlo_B1, hhi_B1, hc_B1, hf_B1⟩ := hN
        (try simp at hlo_B1)
        clear hg_v hg_c hg_r hg_s
        have hs_w9 := hb_w9.size
        (try simp at hs_w9)
        obtain ⟨hz_w9_w1, hy_w9_w1, hx_w9_w1, hc_w9_w1, hf_w9_w1⟩ := bl5 hb_w9 (w1.heap.size)
        obtain ⟨rfl, rfl⟩ := RR.out (by have := OB.out; simpa using this)
        clear OU OB FN
        go_wp2
        (with_reducible show bodyPost _ _ _ _ _ _); refine bodyPost_ret (by simp [results, Tryz.results28, go_sem, *]; first | done | rfl) rfl ?_
        exact missRet_none blw
      case true =>
        rw [if_pos rfl] at SM
        go_wp2_with fail
        refine calm_late 31 30 #[.int .i64 0, .int .i64 0] 53 _ _ _ rfl rfl rfl (by kernel_rfl) (by kernel_rfl) (by kernel_rfl) (fun _ _ _ _ h => h) (fun a w => by kernel_rfl) fun hG => ?_
        have hg_v := hG_at hG (p := b.add k) (v := .int .i64 z) (by first | exact v0 | (simp [*, go_sem]; done))
        have hg_c := hG (w1.heap.size) lto
        have hg_r := hG_at hG (p := a.add (k * 2)) (v := .int .i64 x) (by first | exact r0 | (simp [*, go_sem]; done))
        have hg_s := hG_at hG (p := ⟨(a.add (k * 2)).block, (a.add (k * 2)).off + 1, none⟩) (v := .int .i64 y) (by first | exact r1 | (simp [*, go_sem]; done))
        clear hG
        skip
        simp only [List.take_succ_cons, List.take_zero, List.drop_succ_cons, List.drop_zero]
        repeat (refine wpCalm_step (fun K hK => ?_); go_simp; first | (refine hK _ ?_; clear hK K) | (apply Exists.intro; refine ⟨fun _ => ?_, hK _ ?_⟩; ((go_at_call 94; with_reducible exact cal_call SM.out)); clear hK K))
        refine wpCalm_nil ?_
        intro B1 w9 hN
        obtain ⟨hb_w9, hlo_B1, hhi_B1, hc_B1, hf_B1⟩ := hN
        (try simp at hlo_B1)
        clear hg_v hg_c hg_r hg_s
        have hs_w9 := hb_w9.size
        (try simp at hs_w9)
        obtain ⟨hz_w9_w1, hy_w9_w1, hx_w9_w1, hc_w9_w1, hf_w9_w1⟩ := bl5 hb_w9 (w1.heap.size)
        have OU := Lib.hid (show okM r s v m (k + 1) = true from by have := OU.out; simpa using this)
        obtain ⟨ii, hi0, hi1, hi2, hi3⟩ := frac_row
        have hkm : k + 1 ≤ maxLen := by have := N20.out; unfold maxLen; omega
        have hkb : (k + 1) * 16 ≤ 140737488355328 := by have := N20.out; omega
        have HC := Lib.hid (And.intro hkm hkb)
        clear OB hkm hkb
        go_wp2_with (at_builtin; refine wpList_mark ?_)
        refine wpList_append_own_at _ rfl _ _ 58 rfl w2.heap.size 53 ii _ 2 16 Tryz.underlying58 hi0 hi1 hi2 hi3 rfl (by decide) u8 k (flat2 NN DD k) rfl (hown.out.kept (grown_of_bel (show Below wr.heap.size wr _ from blw) none) (by cases u8.ownBlock <;> simp)) ⟨_, 0, none⟩ 1 1 [.int .i64 NK, .int .i64 DK] rfl rfl (cell_two_at (by first | rfl | (simp; done)) _ _ _) (two_cell _ _) HC.out.1 HC.out.2 (by have := hb_wr.size; have := hb_w9.size; first | omega | (simp; omega)) ?_
        intro V2 w10 hown2 hgrow hnil hloc
        have hown3 : w10.ownsRow w2.heap.size 53 2 V2 (k + 1) (flat2 NN DD (k + 1)) := by rw [FN.out]; exact hown2
        have hb_w10 : Below w2.heap.size w2 w10 := grown_bel (v := u8) (show Below w2.heap.size w2 _ from blw) hgrow (fun b hb => (hown.out.lt b hb).1)
        have hown3 := Lib.hid hown3
        clear hown2 hgrow hnil hloc hi0 hi1 hi2 hi3 HC FN
        go_wp2_with fail
        go_roundw
        case rel => exact ⟨k + 1, by omega, by first | (simp; done) | (simp; omega), hown3.out, Lib.hid (by have := OU.out; simpa using this), hb_w10⟩
        case measure => simp [intOf]; omega
    · obtain rfl : k = m := by omega
      have hlt2 : ¬ ((k : Int) < k) := by omega
      obtain ⟨rfl, rfl⟩ := RO.out HO.out
      obtain ⟨p', c', rfl, hF⟩ := fr_own hown
      have hF := Lib.hid hF
      clear hown
      go_wp2
      (with_reducible show bodyPost _ _ _ _ _ _); refine bodyPost_ret (by simp [results, Tryz.results28, go_sem, *]; first | done | rfl) rfl ?_
      exact ⟨p', c', rfl, hF.out.bel blw, blw⟩
end Go.Proofs.YtjbfaaolfonmaaaGreat

