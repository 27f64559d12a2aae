/- What would be read of boxes that have layers in common is not apart. No program in sight. -/
import Derived.Test.YtllpncmpofhgmaaGreatTrueSeen
namespace Go.Proofs.YtllpncmpofhgmaaGreat
theorem Lays.all {ps:List PL}{bs:List Box} (h:Lays ps bs):AllAt ps bs:=by
 induction h with
 | nil=>exact .nil
 | cons h _ ih=>exact .cons h.i ih
theorem ask_ok {wv ix si po oi ol:Int}{A:List Box}{ps:List PL} (a:AskOk (askF wv ix si po A oi ol none 0)) (h:Lays ps A):(⟨ix,si,po,wv,ps,oi,ol⟩:PA).ok (askF wv ix si po A oi ol none 0) :=
 ⟨⟨rfl,Int.le_refl _,Int.le_refl _,rfl,Int.le_refl _,Int.le_refl _,h.all,rfl,rfl⟩,h,Int.le_trans (by decide) a.i0,Int.le_trans (by decide) a.w0,Int.le_trans (by decide) a.oi0,a.ol0⟩
theorem seenB_in {wv ix si oi ol:Int}{A:List Box}{ps:List PL} (a:∀po,po=0∨po=1→AskOk (askF wv ix si po A oi ol none 0)) (h:Lays ps A) (q:(seenB wv ix si A oi ol).q=0) :
  In (ampR (askF wv ix si 0 A oi ol none 0) false) (ampN ⟨ix,si,0,wv,ps,oi,ol⟩ false)∧In (ampR (askF wv ix si 1 A oi ol none 0) false) (ampN ⟨ix,si,1,wv,ps,oi,ol⟩ false):=by
 unfold seenB at q
 obtain⟨q0,q1,_⟩:=seen_val q
 exact⟨(in_amp (ask_ok (a 0 (.inl rfl)) h) q0).1,(in_amp (ask_ok (a 1 (.inr rfl)) h) q1).1⟩
theorem seenB_le {wv ix si oi ol:Int}{A B:List Box}{ps:List PL} (a:∀po,po=0∨po=1→AskOk (askF wv ix si po A oi ol none 0)) (b:∀po,po=0∨po=1→AskOk (askF wv ix si po B oi ol none 0))
  (hA:Lays ps A) (hB:Lays ps B) (qa:(seenB wv ix si A oi ol).q=0) (qb:(seenB wv ix si B oi ol).q=0) :
  (seenB wv ix si A oi ol).n0≤(seenB wv ix si B oi ol).n1∧(seenB wv ix si A oi ol).c0≤(seenB wv ix si B oi ol).c1∧(seenB wv ix si A oi ol).s0≤(seenB wv ix si B oi ol).s1:=by
 obtain⟨a0,a1⟩:=seenB_in a hA qa
 obtain⟨b0,b1⟩:=seenB_in b hB qb
 unfold seenB at qa qb ⊢
 exact seen_le a0 a1 b0 b1 (cj_good a0.1) (cj_good b0.1) qa qb
def Touch (a b:Box):Prop:=a.lo=b.lo∧a.il≤b.ih∧b.il≤a.ih∧a.tl≤b.th∧b.tl≤a.th
inductive Touches:List Box→List Box→Prop
 | nil:Touches [] []
 | cons {a b xs bs} (h:Touch a b) (t:Touches xs bs):Touches (a::xs) (b::bs)
theorem touch_lays {A B:List Box} (h:Touches A B) (ha:∀b∈A,BoxOk b) (hb:∀b∈B,BoxOk b):∃ps,Lays ps A∧Lays ps B:=by
 induction h with
 | nil=>exact⟨[],.nil,.nil⟩
 | @cons a b xs bs h _ ih =>
  obtain⟨ps,h1,h2⟩:=ih (fun x hx=>ha x (List.mem_cons_of_mem _ hx)) (fun x hx=>hb x (List.mem_cons_of_mem _ hx))
  have ka:=ha a (List.mem_cons_self ..)
  have kb:=hb b (List.mem_cons_self ..)
  obtain⟨t1,t2,t3,t4,t5⟩:=h
  have i1:=ka.i1
  have i2:=kb.i1
  have i3:=ka.t1
  have i4:=kb.t1
  have i5:=ka.i0
  have i6:=ka.l0
  have i7:=ka.t0
  have i8:=kb.t0
  refine⟨⟨max a.il b.il,max a.tl b.tl,a.lo⟩::ps,.cons ⟨⟨?_,?_,?_,?_,rfl⟩,?_,?_,?_⟩ h1,.cons ⟨⟨?_,?_,?_,?_,t1.symm⟩,?_,?_,?_⟩ h2⟩<;>(try dsimp only)<;>omega
theorem touch_refl:∀ {A B:List Box},Touches A B→Touches B A
 | _,_,.nil => .nil
 | _,_,.cons h t => .cons ⟨h.1.symm,h.2.2.1,h.2.1,h.2.2.2.2,h.2.2.2.1⟩ (touch_refl t)
theorem touch_apart {wv ix si oi ol:Int}{A B:List Box} (a:∀po,po=0∨po=1→AskOk (askF wv ix si po A oi ol none 0)) (b:∀po,po=0∨po=1→AskOk (askF wv ix si po B oi ol none 0))
  (h:Touches A B) (qa:(seenB wv ix si A oi ol).q=0) (qb:(seenB wv ix si B oi ol).q=0):apartB (seenB wv ix si A oi ol) (seenB wv ix si B oi ol)=false:=by
 obtain⟨ps,hA,hB⟩:=touch_lays h (a 0 (.inl rfl)).ls (b 0 (.inl rfl)).ls
 have h1:=seenB_le a b hA hB qa qb
 have h2:=seenB_le b a hB hA qb qa
 generalize seenB wv ix si A oi ol=S at *
 generalize seenB wv ix si B oi ol=T at *
 unfold apartB
 simp
 omega
end Go.Proofs.YtllpncmpofhgmaaGreat
