/- What would be read of halves of boxes has numbers in common with what would be read of the boxes. No program in sight. -/
import Derived.Test.YtjbfaaolfonmaaaGreatTrueMeet
import Derived.Test.YtjbfaaolfonmaaaGreatKHalf
namespace Go.Proofs.YtjbfaaolfonmaaaGreat
structure Over (S T:Seen):Prop where
 n:S.n0≤T.n1∧T.n0≤S.n1
 c:S.c0≤T.c1∧T.c0≤S.c1
 s:S.s0≤T.s1∧T.s0≤S.s1
theorem touch_self {b:Box} (h:BoxOk b):Touch b b:=⟨rfl,h.i1,h.i1,h.t1,h.t1⟩
theorem touches_set:∀ {ls:List Box}{j:Nat}{b':Box},(∀b∈ls,BoxOk b)→(∀b,ls[j]?=some b→Touch b b')→Touches ls (ls.set j b')
 | [],j,b',_,_=>by simp;exact .nil
 | b::ls,0,b',h,ht=>by
  rw[List.set_cons_zero]
  refine .cons (ht b rfl) ?_
  have:=touches_set (j:=ls.length) (b':=b') (fun x hx=>h x (List.mem_cons_of_mem _ hx)) (fun x hx=>by simp at hx)
  rwa [List.set_eq_of_length_le (Nat.le_refl _)]at this
 | b::ls,j+1,b',h,ht=>by
  rw[List.set_cons_succ]
  exact .cons (touch_self (h b (List.mem_cons_self ..))) (touches_set (fun x hx=>h x (List.mem_cons_of_mem _ hx)) (fun x hx=>ht x (by simpa using hx)))
theorem touch_lo {b:Box} (h:BoxOk b) (d:Nat):Touch b (b.putHi d ((b.dlo d+b.dhi d)/2)):=by
 obtain⟨h0,h1,h2,h3,h4,h5,h6,h7⟩:=h
 by_cases hc:d%2=0
 ·simp only[Touch,Box.putHi,Box.dlo,Box.dhi,if_pos hc,true_and];omega
 ·simp only[Touch,Box.putHi,Box.dlo,Box.dhi,if_neg hc,true_and];omega
theorem touch_hi {b:Box} (h:BoxOk b) (d:Nat) (hd:b.dlo d<b.dhi d):Touch b (b.putLo d ((b.dlo d+b.dhi d)/2+1)):=by
 obtain⟨h0,h1,h2,h3,h4,h5,h6,h7⟩:=h
 by_cases hc:d%2=0
 ·simp only[Box.dlo,Box.dhi,if_pos hc]at hd;simp only[Touch,Box.putLo,Box.dlo,Box.dhi,if_pos hc,true_and];omega
 ·simp only[Box.dlo,Box.dhi,if_neg hc]at hd;simp only[Touch,Box.putLo,Box.dlo,Box.dhi,if_neg hc,true_and];omega
theorem pred_zero {wv ix si oi ol:Int}{ls:List Box} (h:(predM wv ix si ls oi ol).q=0):checkQ ls=0∧predM wv ix si ls oi ol=seenB wv ix si ls oi ol:=by
 unfold predM at h ⊢
 by_cases c:fst3 (setQ wv ix si) (checkQ ls) (onQ oi ol)=0
 ·rw[if_pos c];exact⟨(fst3_zero c).2.1,rfl⟩
 ·rw[if_neg c]at h;exact absurd h c
theorem over_law {wv ix si oi ol:Int}{A B:List Box} (hs:setQ wv ix si=0) (ha:checkQ A=0) (ho:onQ oi ol=0) (qa:(seenB wv ix si A oi ol).q=0) (h:Touches A B) (qb:(predM wv ix si B oi ol).q=0):Over (seenB wv ix si A oi ol) (predM wv ix si B oi ol):=by
 obtain⟨hb,e⟩:=pred_zero qb
 rw[e]at qb ⊢
 have oa:=fun po hp=>askF_ok (pa:=none) (cap:=0) hs ha ho po hp
 have ob:=fun po hp=>askF_ok (pa:=none) (cap:=0) hs hb ho po hp
 obtain⟨ps,hA,hB⟩:=touch_lays h (checkQ_zero ha).1 (checkQ_zero hb).1
 have h1:=seenB_le oa ob hA hB qa qb
 have h2:=seenB_le ob oa hB hA qb qa
 exact⟨⟨h1.1,h2.1⟩,⟨h1.2.1,h2.2.1⟩,⟨h1.2.2,h2.2.2⟩⟩
theorem narrow_law {wv ix si oi ol:Int}{ls:List Box}{d:Nat}{b:Box} (hs:setQ wv ix si=0) (hb:checkQ ls=0) (ho:onQ oi ol=0) (q:(seenB wv ix si ls oi ol).q=0) (hl:ls[d/2]?=some b) (hd:b.dlo d<b.dhi d) :
  ((predM wv ix si (lowHalf ls d) oi ol).q=0→Over (seenB wv ix si ls oi ol) (predM wv ix si (lowHalf ls d) oi ol))∧((predM wv ix si (highHalf ls d) oi ol).q=0→Over (seenB wv ix si ls oi ol) (predM wv ix si (highHalf ls d) oi ol)):=by
 have ok:=(checkQ_zero hb).1
 have kb:=ok b (List.mem_of_getElem? hl)
 refine⟨over_law hs hb ho q ?_,over_law hs hb ho q ?_⟩
 ·rw[lowHalf_is hl]
  exact touches_set ok fun b2 h2=>by rw[hl]at h2;cases h2;exact touch_lo kb d
 ·rw[highHalf_is hl]
  exact touches_set ok fun b2 h2=>by rw[hl]at h2;cases h2;exact touch_hi kb d hd
end Go.Proofs.YtjbfaaolfonmaaaGreat
