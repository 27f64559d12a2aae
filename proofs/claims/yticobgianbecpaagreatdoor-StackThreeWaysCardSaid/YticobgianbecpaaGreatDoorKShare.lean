/- Joined: SharesLaw CalmIdx Shares Stacked. -/
import Derived.Test.YticobgianbecpaaGreatDoorKYes
import Derived.Test.YticobgianbecpaaGreatDoorKFit
import Derived.Test.YticobgianbecpaaGreatDoorKMed
import Derived.Test.YticobgianbecpaaGreatDoorCalmTwo
import Derived.Test.YticobgianbecpaaGreatDoorKCalm
import Derived.Test.YticobgianbecpaaGreatDoorKBall
import Derived.Test.YticobgianbecpaaGreatDoorKCopy
import Derived.Test.YticobgianbecpaaGreatDoorKRef
namespace Go.Proofs.YticobgianbecpaaGreatDoor
open Go Go.Sort Go.RowKit
@[irreducible] def cutO (n:Int):Int:=if 1048576<n then 1048576 else n
theorem cutO_bd {n:Int} (h:0≤n):0≤cutO n∧cutO n≤1048576:=by unfold cutO;split<;>omega
set_option maxHeartbeats 2000000 in
theorem cut2_any (a b:Int) (w:World):Calls Tryz.prog 42 #[.agg #[.int .i64 a,.int .i64 b]] w fun E w'=>E = .returned (.agg #[.int .i64 (cutO a),.int .i64 (cutO b)])∧Below w.heap.size w w':=by
 unfold cutO
 go_enter Tryz.func42,Tryz.ntmps42
 by_cases ha:1048576<a
 all_goals by_cases hb:1048576<b
 all_goals go_wp2
 all_goals refine bodyPost_ret (by simp[results,Tryz.results42,go_sem, *];first|done|rfl) rfl ?_
 all_goals exact⟨by simp[*]<;>omega,blw⟩
set_option maxHeartbeats 4000000 in
theorem rest_any (a b c d:Int) (w:World) (a0:0≤a∧a≤1048576) (b0:0≤b∧b≤1048576) (c0:0≤c∧c≤1048576) (d0:0≤d∧d≤1048576) :
  Calls Tryz.prog 46 #[.agg #[.int .i64 a,.int .i64 b],.agg #[.int .i64 c,.int .i64 d]] w fun E w'=>E = .returned (.agg #[.int .i64 (pos (1048576-b-d)),.int .i64 (pos (1048576-a-c))])∧Below w.heap.size w w':=by
 unfold pos
 have k1:wrap64 (1048576-b)=1048576-b:=IntWalk.wrap64_in _ ⟨by omega,by omega⟩
 have k2:wrap64 (1048576-b-d)=1048576-b-d:=IntWalk.wrap64_in _ ⟨by omega,by omega⟩
 have k3:wrap64 (1048576-a)=1048576-a:=IntWalk.wrap64_in _ ⟨by omega,by omega⟩
 have k4:wrap64 (1048576-a-c)=1048576-a-c:=IntWalk.wrap64_in _ ⟨by omega,by omega⟩
 go_enter Tryz.func46,Tryz.ntmps46
 by_cases ha:1048576-b-d<0
 all_goals by_cases hb:1048576-a-c<0
 all_goals go_wp2
 all_goals refine bodyPost_ret (by simp[results,Tryz.results46,go_sem, *];first|done|rfl) rfl ?_
 all_goals exact⟨by simp[*]<;>omega,blw⟩
@[irreducible] def lossy (A:Ask):Bool:=(List.range (A.ls.length+2)).any fun k=>decide (¬(A.med k).lo=0)
theorem lossy_yes {A:Ask}{k:Nat} (hk:k<A.ls.length+2) (h:¬(A.med k).lo=0):lossy A=true:=by
 unfold lossy
 exact List.any_eq_true.2 ⟨k,List.mem_range.2 hk,decide_eq_true h⟩
def HidS (A:Ask) (k:Nat):Prop:=∀j,j<k→(A.med j).lo=0
theorem hids_zero (A:Ask):HidS A 0:=fun j hj=>absurd hj (by omega)
theorem hids_next {A:Ask}{k:Nat} (h:HidS A k) (c:(A.med k).lo=0):HidS A (k+1):=fun j hj=>by
 by_cases e:j=k
 ·rw[e];exact c
 ·exact h j (by omega)
theorem lossy_no {A:Ask} (h:HidS A (A.ls.length+2)):lossy A=false:=by
 unfold lossy
 rw[List.any_eq_false]
 intro k hk
 have:=h k (List.mem_range.1 hk)
 simp[this]
theorem med_any (A:Ask) (hA:AskOk A) (k:Nat) (hk:k<A.ls.length+2):Med A k (A.med k):=by
 match k,hk with
 | 0,_=>rw[med_zero];exact med_front A hA
 | j+1,hk =>
  by_cases c:j<A.ls.length
  ·have e:A.med (j+1)=A.ls[j]:=by unfold Ask.med;rw[if_neg (by omega)];simp[c]
   rw[e]
   exact med_layer A hA j _ (List.getElem?_eq_getElem c)
  ·obtain rfl:j=A.ls.length:=by omega
   rw[med_past]
   exact med_last A hA
set_option maxHeartbeats 2000000 in
theorem hasLoss_any (B:Nat) (e:Int) (A:Ask) (hA:AskOk A) (w:World) (D6:Lt B e A w) :
  Calls Tryz.prog 45 #[.pointer (some ⟨B,0,none⟩)] w fun E w'=>E = .returned (.bool (lossy A))∧Below w.heap.size w w':=by
 have hlen:=hA.len
 have ME:=Lib.hid (fun(k:Nat) hk=>med_any A hA k hk)
 have LY:=Lib.hid (fun k hk h=>lossy_yes (A:=A) (k:=k) hk h)
 have LN:=Lib.hid (fun h=>lossy_no (A:=A) h)
 have HL:=Lib.hid D6
 have q7:=D6.cells.q7
 have hz:=D6.st.lt
 clear hA D6
 generalize lossy A=R at *
 have hw1:wrap64 ((A.ls.length:Int)+2)=A.ls.length+2:=IntWalk.wrap64_in _ ⟨by omega,by omega⟩
 have hw2:IntKind.i64.wrap ((A.ls.length:Int)+2)=A.ls.length+2:=IntWalk.i64_in _ ⟨by omega,by omega⟩
 go_enter Tryz.func45,Tryz.ntmps45
 go_wp2_with fail
 go_loopw [13] (fun i wr=>∃k:Nat,k≤A.ls.length+2∧i = .int .i64 k∧Below w.heap.size w wr∧HidS A k) (fun i _=>A.ls.length+2-(intOf i).toNat)
 case atStart=>exact⟨0,by omega,rfl,blw,hids_zero A⟩
 case round =>
  obtain⟨k,hk,rfl,Dm,HS⟩:=hrel
  by_cases hlt:k<A.ls.length+2
  ·have M:=ME.out k hlt
   have SY:=Lib.hid (fun w h=>M.says B e w h)
   clear M
   have hlt2:(k:Int)<A.ls.length+2:=by omega
   by_cases c:(A.med k).lo=0
   ·have HC:=Lib.hid c
    rw[c]at SY
    clear c
    go_wp2_with fail
    refine(SY.out _ (HL.out.bel blw)).mono ?_
    rintro e w21 ⟨rfl,A2⟩
    have A9:=A2.size
    (try simp at A9)
    go_wp2_with fail
    go_roundw
    case rel=>exact⟨k+1,by omega,by first|(simp;done)|(simp;omega),blw,hids_next HS HC.out⟩
    case measure=>simp[intOf];omega
   ·have:=LY.out k hlt c
    subst this
    go_wp2_with fail
    refine(SY.out _ (HL.out.bel blw)).mono ?_
    rintro e w21 ⟨rfl,A2⟩
    have A9:=A2.size
    (try simp at A9)
    repeat' (first|go_values|go_skip|go_guarded|go_step|go_upon|(simp only[];go_simp))
    go_ret
    exact⟨rfl,blw⟩
  ·obtain rfl:k=A.ls.length+2:=by omega
   have hlt2:¬(A.ls.length:Int)+2<A.ls.length+2:=by omega
   have:=LN.out HS
   subst this
   repeat' (first|go_values|go_skip|go_guarded|go_step|go_upon|(simp only[];go_simp))
   go_ret
   exact⟨rfl,blw⟩
theorem Trn.low {B:Nat}{s:Int}{w w':World} (t:Trn B s w w') (hc:w.cell? ⟨B,0,none⟩=some (.int .i64 s)):Below w.heap.size w w' :=
 (kp_same (kp_refl (Nat.le_refl _)) hc).2.trans t
theorem LGives.low {f:FuncId}{args:Array Value}{B:Nat}{A:Ask}{T:Res} (g:LGives f args B 0 A T) (q:T.q=0) (w:World) (L:Lt B 0 A w) :
  Calls Tryz.prog f args w fun E w'=>E = .returned (.agg #[.complex .f64 (fl T.a) (fl T.b),.int .i64 T.c])∧Below w.heap.size w w' :=
 (g w L).mono fun E w' ⟨h1,h2⟩=>⟨h1,by rw[q]at h2;exact h2.low L.st.cell⟩
structure Shr where
 r0:Int
 r1:Int
 t0:Int
 t1:Int
 a0:Int
 a1:Int
def Shr.val (s:Shr):Value := .agg #[.int .i64 s.r0,.int .i64 s.r1,.int .i64 s.t0,.int .i64 s.t1,.int .i64 s.a0,.int .i64 s.a1]
@[irreducible] def shT0 (T Y Z:Res):Int:=cutO (dn (pos (Z.a-Z.c)*enL T.a T.b T.c) (Y.a+Y.c))
@[irreducible] def shT1 (T Y Z:Res):Int:=cutO (up (pos (Z.a+Z.c)*enH T.a T.b T.c) (Y.a-Y.c))
@[irreducible] def shA (lo:Bool) (r t:Int):Int:=if lo=true then pos (1048576-r-t)else 0
@[irreducible] def shS (st:Bool) (t:Int):Int:=if st=true then 0 else t
def shrOf (R T Y Z:Res) (st lo:Bool):Shr :=
 ⟨cutO (enL R.a R.b R.c),cutO (enH R.a R.b R.c),shS st (shT0 T Y Z),shS st (shT1 T Y Z),shA lo (cutO (enH R.a R.b R.c)) (shS st (shT1 T Y Z)),shA lo (cutO (enL R.a R.b R.c)) (shS st (shT0 T Y Z))⟩
theorem en_small {x y r:Int} (h:Right x y r):(0≤enL x y r∧enL x y r≤26000000000)∧(0≤enH x y r∧enH x y r≤26000000000):=by
 have sq:∀x:Int, -67108864≤x→x≤67108864→0≤x*x∧x*x≤4503599627370496:=fun x h1 h2=>by
  have a:=Int.mul_nonneg (show 0≤67108864-x by omega) (show 0≤67108864+x by omega)
  have e:(67108864-x)*(67108864+x)=4503599627370496-x*x:=by grind
  have n:0≤x*x:=(Int.le_total 0 x).elim (fun c=>Int.mul_nonneg c c) (fun c=>Int.mul_nonneg_of_nonpos_of_nonpos c c)
  omega
 have qx:=sq x h.1.1 h.1.2.1
 have qy:=sq y h.1.2.2.1 h.1.2.2.2
 have b:=rtu_bounds (n:=x*x+y*y)
 have t0:=rt_nonneg (x*x+y*y)
 have t1:=rt_le (n:=x*x+y*y) (b:=94906266) (by omega) (by omega) (by omega) (by omega)
 have hr:=h.2
 unfold enL enH
 generalize rt (x*x+y*y)=t at *
 generalize rtu (x*x+y*y)=u at *
 clear sq qx qy
 have m1:=mul_bd (show 0≤max 0 (t-r)by omega) (show max 0 (t-r)≤162015131 by omega) (show 0≤max 0 (t-r)by omega) (show max 0 (t-r)≤162015131 by omega)
 have m2:=mul_bd (show 0≤u+r by omega) (show u+r≤162015131 by omega) (show 0≤u+r by omega) (show u+r≤162015131 by omega)
 generalize max 0 (t-r)*max 0 (t-r)=X at *
 generalize (u+r)*(u+r)=Y at *
 omega
theorem len_wrap2 {n:Nat} (h:n≤40):wrap64 ((n:Int)+1)=n+1∧IntKind.i64.wrap ((n:Int)+1)=n+1:=⟨IntWalk.wrap64_in _ ⟨by omega,by omega⟩,IntWalk.i64_in _ ⟨by omega,by omega⟩⟩
theorem rest_bd {lo:Bool}{r t:Int} : shA lo r t=if lo=true then pos (1048576-r-t)else 0:=by unfold shA;rfl
end Go.Proofs.YticobgianbecpaaGreatDoor
namespace Go.Proofs.YticobgianbecpaaGreatDoor
open Go Go.Sort Go.RowKit
theorem cal_at {f:FuncId}{args:Array Value}{w:World}{v:Value} (h:Calls Tryz.prog f args w fun e w'=>e = .returned v∧Below w.heap.size w w') :
  Calls Tryz.prog f args w fun e w''=>e = .returned v∧Bel w w'':=h
section
variable {Q:Exit→Act→World→Prop}{l:List Oper}{s p:Nat}{os:Oper}
def lateI (md:Region.Mode) (l:List Oper) (s p:Nat):Bool :=
 Region.noSelect l.toArray&&decide (p≠s) &&
 match l[p]?,l[s]? with
 | some op,some os =>
  op.guard.isNone &&
  (op.after.all fun e => !Region.binds md e||os.after.any fun e'=>Region.binds md e'&&e'.on==e.on) &&
  (List.range l.length).all fun j=>match l[j]? with
   | some oj=>j==p||op.apart l.toArray oj||(oj.after.any fun e=>Region.binds md e&&e.on==p)||op.after.any fun e=>Region.binds md e&&e.on==j
   | none=>true
 | _,_=>false
theorem ix_agg (cs:Array Value) (w:World):(Instr.index 88 (.agg cs) (.int .i64 0)).run Tryz.prog w = .ok (.agg (cs.extract 0 2)) w:=by kernel_rfl
theorem ix_aggT (cs:Array Value) (w:World):((Instr.index 88 (.agg cs) (.int .i64 0)).runT Tryz.prog w #[]).2=#[]:=by kernel_rfl
theorem ix_no (v:Value) (hv:∀cs,v ≠ .agg cs) (w:World):(Instr.index 88 v (.int .i64 0)).run Tryz.prog w=(stuck "Index: array or string expected" : Sem Value).run Tryz.prog w:=by
 cases v<;>first|exact absurd rfl (hv _)|kernel_rfl
theorem ix_yields {ops:Array Oper}{op:Oper}{x:Operand}{i:Nat}{a:Act}{w:World}{K:Act→World→Prop} (hi:ops[i]?=some op) (hx:op.op = .index 88 x (.const (.int .i64 0))) (hg:op.guard=none) (h:wpOp Tryz.prog ops Q i K a w) :
  ∃v,Yields Tryz.prog ops op v a∧K (a.put op.dst v) w:=by
 have hw:Region.wanted op (yielded ops a.tmps)=true:=by unfold Region.wanted;rw[hg]
 unfold wpOp at h
 simp only[hi,hw,if_true]at h
 have e0:execOp a.eval op=(Instr.index 88 (a.eval x) (.int .i64 0) >>= fun v=>pure (Next.value v)):=by unfold execOp;rw[hx];rfl
 generalize a.eval x=tv at e0
 by_cases ht:∃cs,tv = .agg cs
 ·obtain⟨cs,rfl⟩:=ht
  have hr:∀w,(execOp a.eval op).run Tryz.prog w = .ok (.value (.agg (cs.extract 0 2))) w:=fun w=>by
   rw[e0,Sem.run_bind,ix_agg];rfl
  refine⟨.agg (cs.extract 0 2),.inl ⟨hw,hr⟩,?_⟩
  rcases h with h|⟨ha,_⟩
  ·unfold Oper.wp at h;rw[hr w]at h;exact h
  ·unfold Oper.asks at ha
   have hm:=ha.1
   rw[e0]at hm
   have e1:((Instr.index 88 (.agg cs) (.int .i64 0) >>= fun v=>pure (Next.value v)).runT Tryz.prog w #[]).2=#[]:=by kernel_rfl
   rw[e1]at hm
   exact absurd hm (by simp)
 ·have h1:=ix_no tv (fun cs e=>ht ⟨cs,e⟩) w
  rcases h with h|⟨ha,_⟩
  ·unfold Oper.wp at h
   rw[e0,Sem.run_bind,h1]at h
   exact absurd h (by simp[stuck,Oper.upon])
  ·unfold Oper.asks at ha
   have hm:=ha.1
   rw[e0]at hm
   have e1:((Instr.index 88 tv (.int .i64 0) >>= fun v=>pure (Next.value v)).runT Tryz.prog w #[]).2=#[]:=by
    cases tv<;>first|exact absurd ⟨_,rfl⟩ ht|kernel_rfl
   rw[e1]at hm
   exact absurd hm (by simp)
theorem wpAny_idx {op:Oper} (hs:l[s]?=some os) (hp:l[p]?=some op) (x:Operand) (hx':op.op = .index 88 x (.const (.int .i64 0))) (hB:lateI .any l s p=true) (hQ:∀c a v w,Q (.panic c) (a.put op.dst v) w→Q (.panic c) a w) (f:Nat) :
  ∀(listed:Array Bool) (a:Act) (w:World),listed.size=l.length→wpAny Tryz.prog .any (l.set s (waiting os p)).toArray Q f listed a w→wpAny Tryz.prog .any l.toArray Q f listed a w:=by
 unfold lateI at hB
 simp only[Bool.and_eq_true,decide_eq_true_eq]at hB
 obtain⟨⟨hsel,hps⟩,hB⟩:=hB
 rw[hs]at hB
 rw[hp]at hB
 simp only[Bool.and_eq_true]at hB
 obtain⟨⟨hg,hdep⟩,hap⟩:=hB
 have hg':op.guard=none:=by simpa using hg
 have hp':l.toArray[p]?=some op:=by simpa using hp
 have hpS:(l.set s (waiting os p)).toArray[p]?=some op:=by simp only[List.getElem?_toArray,get_set hs];rw[if_neg hps];exact hp
 have hpr:∀(listed:Array Bool),listed.size=l.length→s∈Region.ready .any l.toArray listed→listed.getD p false=false→p∈Region.ready .any l.toArray listed:=by
  intro listed hsz hr hu
  obtain⟨_,o,ho,hall⟩:=mem_ready.1 hr
  have:os=o:=Option.some.inj (hs.symm.trans (by simpa using ho))
  subst this
  have hpl:p<l.length:=(List.getElem?_eq_some_iff.1 hp).1
  refine mem_ready.2 ⟨getD_in (by omega) hu,op,hp',fun e he hb => ?_⟩
  have h1:=Array.all_eq_true'.1 hdep e he
  rw[hb]at h1
  simp only[Bool.not_true,Bool.false_or]at h1
  obtain⟨e',he',h2⟩:=Array.any_eq_true'.1 h1
  simp only[Bool.and_eq_true,beq_iff_eq]at h2
  rw[← h2.2]
  exact hall e' he' h2.1
 induction f with
 | zero =>
  intro listed a w hsz h
  refine⟨?_,h.2⟩
  rw[List.eq_nil_iff_forall_not_mem]
  intro i hi
  by_cases hd:i=s∧listed.getD p false=false
  ·obtain⟨rfl,hu⟩:=hd
   have:=ready_set (p:=p) hs (hpr listed hsz hi hu) (fun e=>absurd e hps)
   rw[h.1]at this
   exact absurd this List.not_mem_nil
  ·have:=ready_set (p:=p) hs hi (fun e=>by
    cases hv:listed.getD p false with
    | true=>rfl
    | false=>exact absurd ⟨e,hv⟩ hd)
   rw[h.1]at this
   exact absurd this List.not_mem_nil
 | succ f ih =>
  intro listed a w hsz h
  by_cases hpready:p∈Region.ready .any l.toArray listed
  ·have hS:=ready_set (p:=p) hs hpready (fun e=>absurd e hps)
   obtain⟨v,hy,hK⟩:=ix_yields hpS hx' hg' (h.2 p hS)
   have hy':Yields Tryz.prog l.toArray op v a:=by
    unfold Yields at *
    rw[yielded_set hs]at hy
    exact hy
   obtain⟨_,o,ho,hdeps⟩:=mem_ready.1 hpready
   have:op=o:=Option.some.inj (hp'.symm.trans ho)
   subst this
   refine wpAny_first hp' (Region.noSelect_spec hsel) (fun c a w hq=>hQ c a v w hq) f listed a w (fun j oj hj hjp hju hno => ?_) hpready hy' (ih _ _ _ (by simpa using hsz) hK)
   have hjl:j<l.length:=by have:=(Array.getElem?_eq_some_iff.1 hj).1;simpa using this
   have h1:=List.all_eq_true.1 hap j (List.mem_range.2 hjl)
   rw[show l[j]?=some oj from by simpa using hj]at h1
   simp only[Bool.or_eq_true,beq_iff_eq]at h1
   rcases h1 with((h1|h1)|h1)|h1
   ·exact absurd h1 hjp
   ·exact h1
   ·obtain⟨e,he,h2⟩:=Array.any_eq_true'.1 h1
    simp only[Bool.and_eq_true,beq_iff_eq]at h2
    exact absurd h2.2 (hno e he h2.1)
   ·obtain⟨e,he,h2⟩:=Array.any_eq_true'.1 h1
    simp only[Bool.and_eq_true,beq_iff_eq]at h2
    have h3:=hdeps e he h2.1
    rw[h2.2,getD_both hju]at h3
    exact absurd h3 (by decide)
  ·have hgo:∀i,i∈Region.ready .any l.toArray listed→i∈Region.ready .any (l.set s (waiting os p)).toArray listed:=fun i hi=>ready_set (p:=p) hs hi (fun e=>by
    cases hv:listed.getD p false with
    | true=>rfl
    | false=>subst e;exact absurd (hpr listed hsz hi hv) hpready)
   refine⟨fun h0=>h.1 ?_,fun i hi=>wpOp_set hs (wpOp_mono (fun a' w' h'=>ih _ a' w' (by simpa using hsz) h') (h.2 i (hgo i hi)))⟩
   rw[List.eq_nil_iff_forall_not_mem]
   intro i hi
   have:=ready_of_set hs hi
   rw[h0]at this
   exact absurd this List.not_mem_nil
end
theorem calm_two_idx {id:Nat}{Q:Exit→Act→World→Prop}{a:Act}{w:World}{l:List Oper} (k p:Nat) (c0 c1:Array Value) (t0 t1:TypeId) (o0 o1 os op:Oper) (h0:l[k]?=some o0) (h1:l[k+1]?=some o1) (hs:l[k+2]?=some os) (hp:l[p]?=some op)
  (x:Operand) (hx:op.op = .index 88 x (.const (.int .i64 0))) (hm:(Tryz.prog).follows .mixedOrders=true)
  (hB:manyB .any (l.set (k+2) (waiting os p)).toArray k (k+2)=true) (hL:lateI .any l (k+2) p=true) (hQ:∀c a v w,Q (.panic c) (a.put op.dst v) w→Q (.panic c) a w)
  (hal0:∀a w,(execOp (Act.eval a) o0).run Tryz.prog w = .ok (.value (.pointer (some ⟨w.heap.size,0,none⟩))) (w.alloc (.cells c0 t0)))
  (hal1:∀a w,(execOp (Act.eval a) o1).run Tryz.prog w = .ok (.value (.pointer (some ⟨w.heap.size,0,none⟩))) (w.alloc (.cells c1 t1)))
  (h:(∀b,b<w.heap.size→∀d os o,(grow (redrawn w d) os).cell? ⟨b,o,none⟩=w.cell? ⟨b,o,none⟩) →
   wpCalm Tryz.prog l.toArray w (fun a'=>∀B0 B1 w',NewVar w B0 c0 w'→NewVar w B1 c1 w'→B0≠B1→wpList Tryz.prog l.toArray Q (l.drop (k+2)) ((a'.put o0.dst (.pointer (some ⟨B0,0,none⟩))).put o1.dst (.pointer (some ⟨B1,0,none⟩))) w') (l.take k) a):(Code.region id l.toArray true).wp Tryz.prog Q a w:=by
 have h:=h fun b hb d os o=>(below_regrown w d os).cell (p:=⟨b,o,none⟩) hb
 refine wp_region_any hm ?_
 have hsz:(l.set (k+2) (waiting os p)).toArray.size=l.toArray.size:=by simp
 have h0':(l.set (k+2) (waiting os p))[k]?=some o0:=by rw[get_set hs,if_neg (by omega)];exact h0
 have h1':(l.set (k+2) (waiting os p))[k+1]?=some o1:=by rw[get_set hs,if_neg (by omega)];exact h1
 have:=pair_alloc_any (P:=Tryz.prog) (Q:=Q) (a:=a) (w:=w) (l:=l.set (k+2) (waiting os p)) k c0 c1 t0 t1 o0 o1 h0' h1' hB hal0 hal1 (by
  rw[List.take_set_of_le (by omega)]
  exact wpCalm_set hs (fun a' hh B0 B1 w' hN hM hne=>wpList_wait hs (hh B0 B1 w' hN hM hne)) _ _ h)
 rw[hsz]at this
 exact wpAny_idx hs hp x hx hL hQ _ _ _ _ (by simp) this
end Go.Proofs.YticobgianbecpaaGreatDoor
namespace Go.Proofs.YticobgianbecpaaGreatDoor
open Go Go.Sort Go.RowKit
theorem aft_q {e:Int}{R:Res} (h:(after e R).q=0):e=0∧R.q=0:=by
 unfold after at h
 by_cases c:e=0
 ·rw[if_pos c]at h;exact⟨c,h⟩
 ·rw[if_neg c,(quad_bad e).2.2.2]at h;exact absurd h c
theorem idx_e {e:Int}{b:Box} (h:(idxR e b).q=0):e=0:=by
 unfold idxR at h
 split at h
 ·exact(aft_q h).1
 ·exact(aft_q (aft_q (aft_q (aft_q h).1).1).1).1
theorem nor_e {e:Int}{A:Ask}{b:Box} (h:(norR e A b).q=0):e=0:=by
 unfold norR at h
 have h:=(aft_q h).1
 unfold nsqR at h
 exact idx_e (aft_q (aft_q (aft_q (aft_q h).1).1).1).1
theorem adm_nor {e:Int}{A:Ask}{b:Box} (h:(admR e A b).q=0):(norR e A b).q=0:=by
 unfold admR at h
 split at h
 ·exact h
 ·exact idx_e (aft_q (aft_q h).1).1
theorem run_e {A:Ask}{fs:Bool} : ∀ {l:List Box}{s:Thr},(runR A fs s l).q=0→s.q=0
 | [],_,h=>h
 | _::_,s,h=>by
  simp only[runR]at h
  by_cases c:s.q=0
  ·exact c
  ·rw[if_neg c]at h;exact h
theorem amp_adm {A:Ask} (h:(ampR A false).q=0):(admR 0 A ⟨A.ix,A.ix,0,0,0⟩).q=0∧(admR 0 A ⟨A.oi,A.oi,0,0,A.ol⟩).q=0:=by
 unfold ampR at h
 simp only[Bool.false_eq_true,if_false,med_zero,med_past]at h
 have h:=(aft_q (aft_q (aft_q (aft_q (aft_q (aft_q (aft_q (aft_q h).1).1).1).1).1).1).1).1
 have k:=nor_e (adm_nor h)
 rw[k]at h
 unfold thrR at k
 exact⟨run_e k,h⟩
theorem pos_two {R:Res} (h:Fine R):(-134217728≤R.a-R.c∧R.a-R.c≤134217728)∧(-134217728≤R.a+R.c∧R.a+R.c≤134217728)∧R.a-R.c≤R.a+R.c:=by
 obtain⟨⟨b1,b2,b3,b4⟩,b5,b6⟩:=h.right
 omega
theorem dn_nn {a b:Int} (ha:0≤a) (hb:0≤b):0≤dn a b:=by unfold dn;exact Int.ediv_nonneg ha hb
theorem up_nn {a b:Int} (ha:0≤a) (hb:1≤b):0≤up a b:=by unfold up;exact Int.ediv_nonneg (by omega) (by omega)
theorem shs_yes (t:Int):shS true t=0:=by unfold shS;rw[if_pos rfl]
theorem shs_no (t:Int):shS false t=t:=by unfold shS;rw[if_neg (by decide)]
theorem sha_yes (r t:Int):shA true r t=pos (1048576-r-t):=by unfold shA;rw[if_pos rfl]
theorem sha_no (r t:Int):shA false r t=0:=by unfold shA;rw[if_neg (by decide)]
theorem prod_bd {u e:Int} (h:u≤134217728) (e0:0≤e) (e1:e≤26000000000):0≤pos u*e∧pos u*e≤3489660928000000000:=by
 have p:=pos_bd u h
 have m:=mul_bd p.1 p.2 e0 e1
 exact⟨m.1,Int.le_trans m.2 (by decide)⟩
theorem ret_six (tmps:Array Value) (W:World) (b:Nat) (c0 c1 c2 c3 c4 c5 v:Value) (h2:tmps.getD 2 undef = .pointer (some ⟨b,0,none⟩)) (h3:tmps.getD 3 undef=v)
  (k0:W.cell? ⟨b,0,none⟩=some c0) (k1:W.cell? ⟨b,1,none⟩=some c1) (k2:W.cell? ⟨b,2,none⟩=some c2) (k3:W.cell? ⟨b,3,none⟩=some c3) (k4:W.cell? ⟨b,4,none⟩=some c4) (k5:W.cell? ⟨b,5,none⟩=some c5) :
  (results Tryz.f10 tmps).run Tryz.prog W = .ok (.tuple #[.agg #[c0,c1,c2,c3,c4,c5],v]) W:=by
 simp at h2 h3
 simp[results,Tryz.results10,go_sem,h2,h3,k0,k1,k2,k3,k4,k5]
set_option maxRecDepth 100000 in
set_option maxHeartbeats 16000000 in
theorem SharesOf_ok (A:Ask) (hA:AskOk A) (qr:(ampR A false).q=0) (qt:(ampR A true).q=0) (hy:0<(admR 0 A ⟨A.ix,A.ix,0,0,0⟩).a-(admR 0 A ⟨A.ix,A.ix,0,0,0⟩).c) (w:World) (hr:Row A.pa A.ls w) (hpa:∀a,A.pa=some a→a.block<w.heap.size) :
  Calls Tryz.prog 10 #[A.val] w fun e w'=>e = .returned (.tuple #[(shrOf (ampR A false) (ampR A true) (admR 0 A ⟨A.ix,A.ix,0,0,0⟩) (admR 0 A ⟨A.oi,A.oi,0,0,A.ol⟩) (stopR 0 A ⟨A.oi,A.oi,0,0,A.ol⟩) (lossy A)).val,.int .i64 0])∧Below w.heap.size w w':=by
 obtain⟨hw1,hw2⟩:=len_wrap2 hA.len
 obtain⟨qy,qz⟩:=amp_adm qr
 have qn:=adm_nor qz
 have OP:=fun w hr hpa=>open_any A hA w hr hpa
 have AF:=fun n=>(amp_no n A hA).low qr
 have AT:=fun n=>(amp_yes n A hA).low qt
 have AZ:=fun n=>(adm_any n 0 A (A.ls.length+1) _ hA (med_last A hA)).low qz
 have AY:=fun n=>(adm_any n 0 A 0 _ hA (med_front A hA)).low qy
 have NO:=fun n w (L:Lt n 0 A w)=>(normal_any n 0 A (A.ls.length+1) _ hA (med_last A hA) w L).mono fun E w' ⟨h1,h2⟩=>(⟨h1,by rw[qn]at h2;exact h2.low L.st.cell⟩:_∧Below w.heap.size w w')
 have HS:=fun n w (L:Lt n 0 A w)=>hasLoss_any n 0 A hA w L
 have fR:=fine_amp A false
 have fT:=fine_amp A true
 have fY:=fine_adm 0 A ⟨A.ix,A.ix,0,0,0⟩
 have fZ:=fine_adm 0 A ⟨A.oi,A.oi,0,0,A.ol⟩
 unfold shrOf Shr.val
 dsimp only
 unfold shT0 shT1
 generalize ampR A false=R at *
 generalize ampR A true=T at *
 generalize admR 0 A ⟨A.ix,A.ix,0,0,0⟩=Y at *
 generalize admR 0 A ⟨A.oi,A.oi,0,0,A.ol⟩=Z at *
 generalize norR 0 A ⟨A.oi,A.oi,0,0,A.ol⟩=N at *
 generalize stopR 0 A ⟨A.oi,A.oi,0,0,A.ol⟩=st at *
 generalize lossy A=lo at *
 have PY:=fun n w (S:St n 0 w)=>(c_parts n 0 Y fY w S).mono fun E w' ⟨h1,h2⟩=>(⟨h1,h2.low S.cell⟩:_∧Below w.heap.size w w')
 have PZ:=fun n w (S:St n 0 w)=>(c_parts n 0 Z fZ w S).mono fun E w' ⟨h1,h2⟩=>(⟨h1,h2.low S.cell⟩:_∧Below w.heap.size w w')
 simp only[pt_zero]at PY PZ
 have ER:=fun w=>Energy_yes R.a R.b R.c w fR.right
 have ET:=fun w=>Energy_yes T.a T.b T.c w fT.right
 have bR:=en_small fR.right
 have bT:=en_small fT.right
 have bY:=pos_two fY
 have bZ:=pos_two fZ
 generalize enL R.a R.b R.c=er0 at *
 generalize enH R.a R.b R.c=er1 at *
 generalize enL T.a T.b T.c=et0 at *
 generalize enH T.a T.b T.c=et1 at *
 generalize Y.a-Y.c=f0 at *
 generalize Y.a+Y.c=f1 at *
 generalize Y.b-Y.c=f2 at *
 generalize Y.b+Y.c=f3 at *
 generalize Z.a-Z.c=u0 at *
 generalize Z.a+Z.c=u1 at *
 generalize Z.b-Z.c=u2 at *
 generalize Z.b+Z.c=u3 at *
 obtain⟨⟨r1,r2⟩,r3,r4⟩:=bR
 obtain⟨⟨t1,t2⟩,t3,t4⟩:=bT
 obtain⟨⟨y1,y2⟩,⟨y3,y4⟩,y5⟩:=bY
 obtain⟨⟨z1,z2⟩,⟨z3,z4⟩,z5⟩:=bZ
 have m0:=prod_bd z2 t1 t2
 have m1:=prod_bd z4 t3 t4
 have PO:=fun w=>positive_any u0 u1 w
 generalize pos u0=p0 at *
 generalize pos u1=p1 at *
 have DN:=fun w=>sdown_any (p0*et0) f1 w m0.1 (Int.le_trans m0.2 (by decide)) (by omega)
 have UP:=fun w=>sup_any (p1*et1) f0 w m1.1 (Int.le_trans m1.2 (by decide)) (by omega) (by omega)
 obtain⟨x0,hx0⟩:∃x,p0*et0=x:=⟨_,rfl⟩
 obtain⟨x1,hx1⟩:∃x,p1*et1=x:=⟨_,rfl⟩
 have k1:wrap64 (p0*et0)=x0:=by rw[hx0]at m0 ⊢;exact IntWalk.wrap64_in _ ⟨by omega,by omega⟩
 have k2:IntKind.i64.wrap (p0*et0)=x0:=by rw[hx0]at m0 ⊢;exact IntWalk.i64_in _ ⟨by omega,by omega⟩
 have k3:wrap64 (p1*et1)=x1:=by rw[hx1]at m1 ⊢;exact IntWalk.wrap64_in _ ⟨by omega,by omega⟩
 have k4:IntKind.i64.wrap (p1*et1)=x1:=by rw[hx1]at m1 ⊢;exact IntWalk.i64_in _ ⟨by omega,by omega⟩
 rw[hx0]at m0 DN ⊢
 rw[hx1]at m1 UP ⊢
 have n0:=dn_nn m0.1 (show 0≤f1 by omega)
 have n1:=up_nn m1.1 (show 1≤f0 by omega)
 clear hx0 hx1 m0 m1
 generalize dn x0 f1=d0 at *
 generalize up x1 f0=d1 at *
 have CR:=fun w=>cut2_any er0 er1 w
 have CT:=fun w=>cut2_any d0 d1 w
 have v1:=cutO_bd r1
 have v2:=cutO_bd r3
 have v3:=cutO_bd n0
 have v4:=cutO_bd n1
 generalize cutO er0=cr0 at *
 generalize cutO er1=cr1 at *
 generalize cutO d0=ct0 at *
 generalize cutO d1=ct1 at *
 have RS:=fun w=>rest_any cr0 cr1 (shS st ct0) (shS st ct1) w v1 v2 (by unfold shS;split<;>omega) (by unfold shS;split<;>omega)
 have n2:¬f0≤0:=by omega
 have F0:=Lib.hid (fun(h:st=false)=>show shS st ct0=ct0 by rw[h];exact shs_no _)
 have F1:=Lib.hid (fun(h:st=false)=>show shS st ct1=ct1 by rw[h];exact shs_no _)
 have G0:=Lib.hid (fun(h:st=true)=>show shS st ct0=0 by rw[h];exact shs_yes _)
 have G1:=Lib.hid (fun(h:st=true)=>show shS st ct1=0 by rw[h];exact shs_yes _)
 generalize shS st ct0=s0 at *
 generalize shS st ct1=s1 at *
 have J0:=Lib.hid (fun(h:lo=false)=>show shA lo cr1 s1=0 by rw[h];exact sha_no _ _)
 have J1:=Lib.hid (fun(h:lo=false)=>show shA lo cr0 s0=0 by rw[h];exact sha_no _ _)
 have K0:=Lib.hid (fun(h:lo=true)=>show shA lo cr1 s1=pos (1048576-cr1-s1)by rw[h];exact sha_yes _ _)
 have K1:=Lib.hid (fun(h:lo=true)=>show shA lo cr0 s0=pos (1048576-cr0-s0)by rw[h];exact sha_yes _ _)
 generalize pos (1048576-cr1-s1)=x2 at *
 generalize pos (1048576-cr0-s0)=x3 at *
 generalize shA lo cr1 s1=a0 at *
 generalize shA lo cr0 s0=a1 at *
 unfold Ask.val at OP ⊢
 have OP:=Lib.hid OP
 have AF:=Lib.hid AF
 have AT:=Lib.hid AT
 have AZ:=Lib.hid AZ
 have AY:=Lib.hid AY
 have NO:=Lib.hid NO
 have HS:=Lib.hid HS
 have PY:=Lib.hid PY
 have PZ:=Lib.hid PZ
 have ER:=Lib.hid ER
 have ET:=Lib.hid ET
 have PO:=Lib.hid PO
 have DN:=Lib.hid DN
 have UP:=Lib.hid UP
 have CR:=Lib.hid CR
 have CT:=Lib.hid CT
 have RS:=Lib.hid RS
 have HR:=Lib.hid hr
 have HP:=Lib.hid hpa
 clear hr hpa hA qr qt qy qz qn fR fT fY fZ hy r1 r2 r3 r4 t1 t2 t3 t4 y1 y2 y3 y4 y5 z1 z2 z3 z4 z5 n0 n1 v1 v2 v3 v4
 go_enter Tryz.func10,Tryz.ntmps10
 go_wp2_with fail
 refine(OP.out _ (HR.out.bel blw) (fun a h=>by have:=HP.out a h;simp;omega)).mono ?_
 rintro e w1 ⟨n,hn,rfl,hL,Bg⟩
 simp at hn
 have Ch:=Bg.size
 (try simp at Ch)
 have Dj:=bl5 Bg (w.heap.size)
 have Cq:=bl5 Bg (w.heap.size+1)
 have hz1:=hL.st.lt
 have HL:=Lib.hid hL
 clear hL
 go_wp2_with fail
 refine(AF.out n _ (HL.out.bel blw)).mono ?_
 rintro e w2 ⟨rfl,Bh⟩
 have Ci:=Bh.size
 (try simp at Ci)
 have Dk:=bl5 Bh (w.heap.size)
 have Cr:=bl5 Bh (w.heap.size+1)
 go_wp2_with fail
 refine(AT.out n _ (HL.out.bel blw)).mono ?_
 rintro e w3 ⟨rfl,Bb⟩
 have Cj:=Bb.size
 (try simp at Cj)
 have Dl:=bl5 Bb (w.heap.size)
 have Cs:=bl5 Bb (w.heap.size+1)
 have D7:=bl5 Bb (w2.heap.size)
 go_wp2_with fail
 refine calm_two_idx 15 14 #[.int .i64 0,.int .i64 0] #[.int .i64 0,.int .i64 0] 23 23 _ _ _ _ rfl rfl rfl rfl _ rfl (by kernel_rfl) (by kernel_rfl) (by kernel_rfl) (fun _ _ _ _ h=>h) (fun a w=>by kernel_rfl) (fun a w=>by kernel_rfl) fun hG => ?_
 have Al:=hG (w.heap.size+1) lto
 have C1:=hG (w2.heap.size) lto
 have C2:=hG (w3.heap.size) lto
 clear hG
 simp only[List.take_succ_cons,List.take_zero,List.drop_succ_cons,List.drop_zero]
 repeat (refine wpCalm_step (fun K hK => ?_);go_simp;first|(refine hK _ ?_;clear hK K)|(apply Exists.intro;refine⟨fun _ => ?_,hK _ ?_⟩;(first|(go_at_call 38;first|with_reducible exact cal_at (AZ.out n _ (HL.out.bel (bl_call blw (below_regrown _ _ _))))|with_reducible exact cal_at (AY.out n _ (HL.out.bel (bl_call blw (below_regrown _ _ _)))))|(go_at_call 37;first|with_reducible exact cal_at (PZ.out n _ (HL.out.bel (bl_call blw (below_regrown _ _ _))).st)|with_reducible exact cal_at (PY.out n _ (HL.out.bel (bl_call blw (below_regrown _ _ _))).st)));clear hK K))
 refine wpCalm_nil ?_
 intro B1 B2 w4 hN hM Bd
 obtain⟨Bc,A7,Dg,Dn,Dq⟩:=hN
 obtain⟨_,A8,Dh,Do,Dr⟩:=hM
 (try simp at A7 A8)
 have Bv:¬B2=B1:=Ne.symm Bd
 clear Al C1 C2
 have Ck:=Bc.size
 (try simp at Ck)
 have Ct:=bl5 Bc (w.heap.size+1)
 have D8:=bl5 Bc (w2.heap.size)
 have D9:=bl5 Bc (w3.heap.size)
 have Bq:¬B1=w.heap.size+1:=by first|omega|(simp at A7;omega)
 have Bl:¬w.heap.size+1=B1:=by first|omega|(simp at A7;omega)
 have Cb:¬B1=w2.heap.size:=by first|omega|(simp at A7;omega)
 have C5:¬w2.heap.size=B1:=by first|omega|(simp at A7;omega)
 have Cc:¬B1=w3.heap.size:=by first|omega|(simp at A7;omega)
 have C6:¬w3.heap.size=B1:=by first|omega|(simp at A7;omega)
 have Br:¬B2=w.heap.size+1:=by first|omega|(simp at A8;omega)
 have Bm:¬w.heap.size+1=B2:=by first|omega|(simp at A8;omega)
 have Cd:¬B2=w2.heap.size:=by first|omega|(simp at A8;omega)
 have C7:¬w2.heap.size=B2:=by first|omega|(simp at A8;omega)
 have Ce:¬B2=w3.heap.size:=by first|omega|(simp at A8;omega)
 have C8:¬w3.heap.size=B2:=by first|omega|(simp at A8;omega)
 go_wp2_with fail
 refine(NO.out n _ (HL.out.bel blw)).mono ?_
 rintro e w5 ⟨rfl,Ac⟩
 have Cl:=Ac.size
 (try simp at Cl)
 have Cu:=bl5 Ac (w.heap.size+1)
 have Da:=bl5 Ac (w2.heap.size)
 have Db:=bl5 Ac (w3.heap.size)
 have Cv:=bl5 Ac (B1)
 have Cw:=bl5 Ac (B2)
 have hc9:=(HL.out.bel (show Below w1.heap.size w1 w5 from blw)).st.cell
 have hl9:=(HL.out.bel (show Below w1.heap.size w1 w5 from blw)).st.lt
 have hn9:¬n=w5.heap.size:=(by omega)
 have hm9:¬w5.heap.size=n:=(by omega)
 go_wp2_with fail
 refine(ER.out _).mono ?_
 rintro e w6 ⟨rfl,Aj⟩
 have Cm:=Aj.size
 (try simp at Cm)
 have Cx:=bl5 Aj (w.heap.size+1)
 have Dc:=bl5 Aj (w3.heap.size)
 have Cy:=bl5 Aj (B1)
 have Cz:=bl5 Aj (B2)
 go_wp2_with fail
 refine(ET.out _).mono ?_
 rintro e w7 ⟨rfl,Ak⟩
 have Cn:=Ak.size
 (try simp at Cn)
 have D0:=bl5 Ak (w.heap.size+1)
 have D1:=bl5 Ak (B1)
 have D2:=bl5 Ak (B2)
 have Dd:=bl5 Ak (w6.heap.size)
 go_wp2_with fail
 refine(PO.out _).mono ?_
 rintro e w8 ⟨rfl,Ad⟩
 have Co:=Ad.size
 (try simp at Co)
 have D3:=bl5 Ad (w.heap.size+1)
 have Aa:=bl5 Ad (B1)
 have Ab:=bl5 Ad (B2)
 have Ah:=bl5 Ad (w6.heap.size)
 have Ai:=bl5 Ad (w7.heap.size)
 have i1:¬B1=w6.heap.size:=(by omega)
 have i2:¬w6.heap.size=B1:=(by omega)
 have i3:¬B1=w7.heap.size:=(by omega)
 have i4:¬w7.heap.size=B1:=(by omega)
 replace Ah:=cas5 Ah [.int .i64 er0,.int .i64 er1]
 replace Ai:=cas5 Ai [.int .i64 et0,.int .i64 et1]
 replace Aa:=cas5 Aa [.int .i64 u0,.int .i64 u1]
 replace Ab:=cas5 Ab [.int .i64 f0,.int .i64 f1]
 simp only[CAf,Nat.reduceAdd,and_true]at Ah Ai Aa Ab
 go_wp2_with fail
 refine calm_new 21 #[.int .i64 0,.int .i64 0,.int .i64 0,.int .i64 0,.int .i64 0,.int .i64 0] 32 _ rfl (by kernel_rfl) (by kernel_rfl) (fun a w=>by kernel_rfl) fun hG => ?_
 have Al:=hG (w.heap.size+1) lto
 have Bi:=hG (B1) lto
 have Bj:=hG (B2) lto
 have C3:=hG (w6.heap.size) lto
 have C4:=hG (w7.heap.size) lto
 clear hG
 simp only[List.take_succ_cons,List.take_zero,List.drop_succ_cons,List.drop_zero]
 repeat (refine wpCalm_step (fun K hK => ?_);go_simp;first|(refine hK _ ?_;clear hK K)|(apply Exists.intro;refine⟨fun _ => ?_,hK _ ?_⟩;(first|(go_at_call 42;first|with_reducible exact cal_call CR.out|with_reducible exact cal_call CT.out)|(go_at_call 43;with_reducible exact cal_same DN.out)|(go_at_call 44;with_reducible exact cal_same UP.out));clear hK K))
 refine wpCalm_nil ?_
 intro B3 w9 hN
 obtain⟨Ae,A5,Di,Dp,Ds⟩:=hN
 (try simp at A5)
 clear Al Bi Bj C3 C4
 have Cp:=Ae.size
 (try simp at Cp)
 obtain⟨By,Bx,Bw,Af,Ag⟩:=bl5 Ae (w.heap.size+1)
 have D4:=bl5 Ae (B1)
 have D5:=bl5 Ae (B2)
 have De:=bl5 Ae (w6.heap.size)
 have Df:=bl5 Ae (w7.heap.size)
 have Bs:¬B3=w.heap.size+1:=by first|omega|(simp at A5;omega)
 have Bn:¬w.heap.size+1=B3:=by first|omega|(simp at A5;omega)
 have Bt:¬B3=B1:=by first|omega|(simp at A5;omega)
 have Bo:¬B1=B3:=by first|omega|(simp at A5;omega)
 have Bu:¬B3=B2:=by first|omega|(simp at A5;omega)
 have Bp:¬B2=B3:=by first|omega|(simp at A5;omega)
 have Cf:¬B3=w6.heap.size:=by first|omega|(simp at A5;omega)
 have C9:¬w6.heap.size=B3:=by first|omega|(simp at A5;omega)
 have Cg:¬B3=w7.heap.size:=by first|omega|(simp at A5;omega)
 have Ca:¬w7.heap.size=B3:=by first|omega|(simp at A5;omega)
 skip
 clear AF AT AZ AY NO PY PZ ER ET PO DN UP CR CT
 have Bz:∀o,w9.cell? ⟨w.heap.size+1,o,none⟩=(#[.int .i64 0,.int .i64 0,.int .i64 0,.int .i64 0,.int .i64 0,.int .i64 0]:Array Value)[o]?:=fun o=>(Af o).trans (by go_simp)
 have C0:∀o,w9.frozen? ⟨w.heap.size+1,o,none⟩=false:=fun o=>(Ag o).trans (by go_simp)
 clear Af Ag
 cases st
 case false =>
  have e0:=F0.out rfl
  have e1:=F1.out rfl
  subst e0;subst e1;clear F0 F1 G0 G1
  go_wp2_with fail
  refine(HS.out n _ (HL.out.bel blw)).mono ?_
  rintro e w12 ⟨rfl,A6⟩
  have Am:=A6.size
  (try simp at Am)
  obtain⟨Ar,Ap,An,A0,A3⟩:=bl5 A6 (w.heap.size+1)
  obtain⟨As,Aq,Ao,A1,A4⟩:=bl5 A6 (B3)
  skip
  have Au:w12.cell? ⟨B3,0,none⟩=some (.int .i64 cr0):=(A1 0).trans (by go_simp)
  have Aw:w12.cell? ⟨B3,1,none⟩=some (.int .i64 cr1):=(A1 1).trans (by go_simp)
  have Ay:w12.cell? ⟨B3,2,none⟩=some (.int .i64 s0):=(A1 2).trans (by go_simp)
  have B4:w12.cell? ⟨B3,3,none⟩=some (.int .i64 s1):=(A1 3).trans (by go_simp)
  have B6:w12.cell? ⟨B3,4,none⟩=some (.int .i64 0):=(A1 4).trans (by go_simp)
  have B8:w12.cell? ⟨B3,5,none⟩=some (.int .i64 0):=(A1 5).trans (by go_simp)
  have Ba:∀o,w12.frozen? ⟨B3,o,none⟩=false:=fun o=>(A4 o).trans (by go_simp)
  clear A1 A4
  have At:w12.cell? ⟨w.heap.size+1,0,none⟩=some (.int .i64 0):=(A0 0).trans (by go_simp)
  have Av:w12.cell? ⟨w.heap.size+1,1,none⟩=some (.int .i64 0):=(A0 1).trans (by go_simp)
  have Ax:w12.cell? ⟨w.heap.size+1,2,none⟩=some (.int .i64 0):=(A0 2).trans (by go_simp)
  have Az:w12.cell? ⟨w.heap.size+1,3,none⟩=some (.int .i64 0):=(A0 3).trans (by go_simp)
  have B5:w12.cell? ⟨w.heap.size+1,4,none⟩=some (.int .i64 0):=(A0 4).trans (by go_simp)
  have B7:w12.cell? ⟨w.heap.size+1,5,none⟩=some (.int .i64 0):=(A0 5).trans (by go_simp)
  have B9:∀o,w12.frozen? ⟨w.heap.size+1,o,none⟩=false:=fun o=>(A3 o).trans (by go_simp)
  clear A0 A3
  clear HS HL
  cases lo
  case false =>
   have e2:=J0.out rfl
   have e3:=J1.out rfl
   subst e2;subst e3;clear J0 J1 K0 K1
   repeat' (first|go_values|go_skip|go_guarded|go_step|go_upon|(simp only[];go_simp))
   refine bodyPost_ret (ret_six _ _ (w.heap.size+1) (.int .i64 cr0) (.int .i64 cr1) (.int .i64 s0) (.int .i64 s1) (.int .i64 0) (.int .i64 0) (.int .i64 0) rfl rfl (by go_simp) (by go_simp) (by go_simp) (by go_simp) (by go_simp) (by go_simp)) rfl ?_
   exact⟨rfl,blw⟩
  case true =>
   have e2:=K0.out rfl
   have e3:=K1.out rfl
   subst e2;subst e3;clear J0 J1 K0 K1
   go_wp2_with fail
   refine(RS.out _).mono ?_
   rintro e w21 ⟨rfl,A2⟩
   have A9:=A2.size
   (try simp at A9)
   have Be:=bl5 A2 (w.heap.size+1)
   have Bf:=bl5 A2 (B3)
   repeat' (first|go_values|go_skip|go_guarded|go_step|go_upon|(simp only[];go_simp))
   refine bodyPost_ret (ret_six _ _ (w.heap.size+1) (.int .i64 cr0) (.int .i64 cr1) (.int .i64 s0) (.int .i64 s1) (.int .i64 a0) (.int .i64 a1) (.int .i64 0) rfl rfl (by go_simp) (by go_simp) (by go_simp) (by go_simp) (by go_simp) (by go_simp)) rfl ?_
   exact⟨rfl,blw⟩
 case true =>
  have e0:=G0.out rfl
  have e1:=G1.out rfl
  subst e0;subst e1;clear F0 F1 G0 G1
  repeat (first|(with_reducible refine wp_markr 22 ?_)|go_values|go_skip|go_guarded|go_step|go_upon|(simp only[];go_simp))
  refine wp_named (fun w10 hN => ?_)
  have hA10:Below w1.heap.size w1 w10:=(by rw[hN];exact blw)
  have hB10:Below w.heap.size w w10:=(by rw[hN];exact blw)
  have Bk:=congrArg (fun w=>w.heap.size) hN
  (try simp at Bk)
  have hz10a:w.heap.size+1<w10.heap.size:=(by omega)
  have hz10b:B3<w10.heap.size:=(by omega)
  have k0:w10.cell? ⟨B3,0,none⟩=some (.int .i64 cr0):=(by rw[hN];go_simp)
  have k1:w10.cell? ⟨B3,1,none⟩=some (.int .i64 cr1):=(by rw[hN];go_simp)
  have k2:w10.cell? ⟨B3,2,none⟩=some (.int .i64 ct0):=(by rw[hN];go_simp)
  have k3:w10.cell? ⟨B3,3,none⟩=some (.int .i64 ct1):=(by rw[hN];go_simp)
  have k4:w10.cell? ⟨B3,4,none⟩=some (.int .i64 0):=(by rw[hN];go_simp)
  have k5:w10.cell? ⟨B3,5,none⟩=some (.int .i64 0):=(by rw[hN];go_simp)
  have l0:w10.cell? ⟨w.heap.size+1,0,none⟩=some (.int .i64 0):=(by rw[hN];go_simp)
  have l1:w10.cell? ⟨w.heap.size+1,1,none⟩=some (.int .i64 0):=(by rw[hN];go_simp)
  have l2:w10.cell? ⟨w.heap.size+1,2,none⟩=some (.int .i64 0):=(by rw[hN];go_simp)
  have l3:w10.cell? ⟨w.heap.size+1,3,none⟩=some (.int .i64 0):=(by rw[hN];go_simp)
  have l4:w10.cell? ⟨w.heap.size+1,4,none⟩=some (.int .i64 0):=(by rw[hN];go_simp)
  have l5:w10.cell? ⟨w.heap.size+1,5,none⟩=some (.int .i64 0):=(by rw[hN];go_simp)
  have kf:∀o,w10.frozen? ⟨B3,o,none⟩=false:=(fun o=>by rw[hN];go_simp)
  have lf:∀o,w10.frozen? ⟨w.heap.size+1,o,none⟩=false:=(fun o=>by rw[hN];go_simp)
  have hne10:¬B3=w.heap.size+1:=(by omega)
  have hne11:¬w.heap.size+1=B3:=(by omega)
  clear hN
  go_wp2_with fail
  refine(HS.out n _ (HL.out.bel blw)).mono ?_
  rintro e w12 ⟨rfl,A6⟩
  have Am:=A6.size
  (try simp at Am)
  obtain⟨Ar,Ap,An,A0,A3⟩:=bl5 A6 (w.heap.size+1)
  obtain⟨As,Aq,Ao,A1,A4⟩:=bl5 A6 (B3)
  skip
  have Au:w12.cell? ⟨B3,0,none⟩=some (.int .i64 cr0):=(A1 0).trans (by go_simp)
  have Aw:w12.cell? ⟨B3,1,none⟩=some (.int .i64 cr1):=(A1 1).trans (by go_simp)
  have Ay:w12.cell? ⟨B3,2,none⟩=some (.int .i64 0):=(A1 2).trans (by go_simp)
  have B4:w12.cell? ⟨B3,3,none⟩=some (.int .i64 0):=(A1 3).trans (by go_simp)
  have B6:w12.cell? ⟨B3,4,none⟩=some (.int .i64 0):=(A1 4).trans (by go_simp)
  have B8:w12.cell? ⟨B3,5,none⟩=some (.int .i64 0):=(A1 5).trans (by go_simp)
  have Ba:∀o,w12.frozen? ⟨B3,o,none⟩=false:=fun o=>(A4 o).trans (by go_simp)
  clear A1 A4
  have At:w12.cell? ⟨w.heap.size+1,0,none⟩=some (.int .i64 0):=(A0 0).trans (by go_simp)
  have Av:w12.cell? ⟨w.heap.size+1,1,none⟩=some (.int .i64 0):=(A0 1).trans (by go_simp)
  have Ax:w12.cell? ⟨w.heap.size+1,2,none⟩=some (.int .i64 0):=(A0 2).trans (by go_simp)
  have Az:w12.cell? ⟨w.heap.size+1,3,none⟩=some (.int .i64 0):=(A0 3).trans (by go_simp)
  have B5:w12.cell? ⟨w.heap.size+1,4,none⟩=some (.int .i64 0):=(A0 4).trans (by go_simp)
  have B7:w12.cell? ⟨w.heap.size+1,5,none⟩=some (.int .i64 0):=(A0 5).trans (by go_simp)
  have B9:∀o,w12.frozen? ⟨w.heap.size+1,o,none⟩=false:=fun o=>(A3 o).trans (by go_simp)
  clear A0 A3
  clear HS HL
  cases lo
  case false =>
   have e2:=J0.out rfl
   have e3:=J1.out rfl
   subst e2;subst e3;clear J0 J1 K0 K1
   repeat' (first|go_values|go_skip|go_guarded|go_step|go_upon|(simp only[];go_simp))
   refine bodyPost_ret (ret_six _ _ (w.heap.size+1) (.int .i64 cr0) (.int .i64 cr1) (.int .i64 0) (.int .i64 0) (.int .i64 0) (.int .i64 0) (.int .i64 0) rfl rfl (by go_simp) (by go_simp) (by go_simp) (by go_simp) (by go_simp) (by go_simp)) rfl ?_
   exact⟨rfl,blw⟩
  case true =>
   have e2:=K0.out rfl
   have e3:=K1.out rfl
   subst e2;subst e3;clear J0 J1 K0 K1
   go_wp2_with fail
   refine(RS.out _).mono ?_
   rintro e w21 ⟨rfl,A2⟩
   have A9:=A2.size
   (try simp at A9)
   have Be:=bl5 A2 (w.heap.size+1)
   have Bf:=bl5 A2 (B3)
   repeat' (first|go_values|go_skip|go_guarded|go_step|go_upon|(simp only[];go_simp))
   refine bodyPost_ret (ret_six _ _ (w.heap.size+1) (.int .i64 cr0) (.int .i64 cr1) (.int .i64 0) (.int .i64 0) (.int .i64 a0) (.int .i64 a1) (.int .i64 0) rfl rfl (by go_simp) (by go_simp) (by go_simp) (by go_simp) (by go_simp) (by go_simp)) rfl ?_
   exact⟨rfl,blw⟩
end Go.Proofs.YticobgianbecpaaGreatDoor
namespace Go.Proofs.YticobgianbecpaaGreatDoor
open Go Go.Sort Go.RowKit
theorem quarter_adm (p:Option Addr) (b:Box):admR 0 (quarter p) b=admR 0 (quarter none) b:=adm_mv (A:=quarter none) (pa:=p) (cap:=1) (e:=0) (b:=b)
theorem quarter_stop (p:Option Addr) (b:Box):stopR 0 (quarter p) b=stopR 0 (quarter none) b:=stop_mv (A:=quarter none) (pa:=p) (cap:=1) (e:=0) (b:=b)
theorem quarter_refl:(ampR (quarter none) false).q=0:=by decide +kernel
theorem quarter_front:0<(admR 0 (quarter none) ⟨10000,10000,0,0,0⟩).a-(admR 0 (quarter none) ⟨10000,10000,0,0,0⟩).c:=by decide +kernel
theorem quarter_lo:shS (stopR 0 (quarter none) ⟨40000,40000,0,0,0⟩) (shT0 (ampR (quarter none) true) (admR 0 (quarter none) ⟨10000,10000,0,0,0⟩) (admR 0 (quarter none) ⟨40000,40000,0,0,0⟩))=1048576:=by decide +kernel
theorem quarter_shares (p:Option Addr) (w:World) (hr:Row p quarterLs w) (hpa:∀a,p=some a→a.block<w.heap.size) :
  ∃r0 r1 t1 a0 a1,Calls Tryz.prog 10 #[(quarter p).val] w fun e w'=>e = .returned (.tuple #[.agg #[.int .i64 r0,.int .i64 r1,.int .i64 1048576,.int .i64 t1,.int .i64 a0,.int .i64 a1],.int .i64 0])∧Below w.heap.size w w':=by
 have k:=SharesOf_ok (quarter p) (quarter_ok p) (by rw[quarter_amp];exact quarter_refl) (by rw[quarter_amp];exact quarter_value.1) (by rw[quarter_adm];exact quarter_front) w hr hpa
 have e:=quarter_lo
 rw[← quarter_amp p,← quarter_adm p,← quarter_adm p,← quarter_stop p]at e
 unfold shrOf Shr.val at k
 dsimp only at k
 have e2:shS (stopR 0 (quarter p) ⟨(quarter p).oi,(quarter p).oi,0,0,(quarter p).ol⟩) (shT0 (ampR (quarter p) true) (admR 0 (quarter p) ⟨(quarter p).ix,(quarter p).ix,0,0,0⟩) (admR 0 (quarter p) ⟨(quarter p).oi,(quarter p).oi,0,0,(quarter p).ol⟩))=1048576:=e
 rw[e2]at k
 exact⟨_,_,_,_,_,k⟩
end Go.Proofs.YticobgianbecpaaGreatDoor
