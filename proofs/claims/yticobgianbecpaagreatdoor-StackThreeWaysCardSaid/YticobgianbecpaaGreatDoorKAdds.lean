/- Joined: Adds Quad RefAdds. -/
import Derived.Test.YticobgianbecpaaGreatDoorKRef
import Derived.Test.YticobgianbecpaaGreatDoorKCalm
namespace Go.Proofs.YticobgianbecpaaGreatDoor
open Go.RowKit
set_option maxHeartbeats 1000000 in
theorem plus1_any (a b r c d s:Int) (w:World) (h1:Sh a) (h2:Sh b) (h3:Sh c) (h4:Sh d) (r0:0≤r) (r1:r≤67108864) (s0:0≤s) (s1:s≤67108864) :
  Calls Tryz.prog 183 #[.agg #[.int .i64 a,.int .i64 b,.int .i64 r],.agg #[.int .i64 c,.int .i64 d,.int .i64 s]] w fun e w' =>
   e = .returned (.tuple #[.agg #[.int .i64 (a+c),.int .i64 (b+d),.int .i64 (r+s)],.int .i64 0])∧Below w.heap.size w w':=by
 go_enter Tryz.func183,Tryz.ntmps183
 go_wp2_with fail
 refine calm 11 (by kernel_rfl) (by kernel_rfl) fun hG => ?_
 have A6:=hG (w.heap.size) lto
 have A3:=hG (w.heap.size+1) lto
 have A5:=hG (w.heap.size+1+1) lto
 clear hG
 simp only[List.take_succ_cons,List.take_zero,List.drop_succ_cons,List.drop_zero]
 repeat (go_big_quiet_step (first|(go_at_call 184;with_reducible exact calm_call (fun w=>plus_any _ _ _ _ w h1.sm h2.sm h3.sm h4.sm))))
 refine wpQuiet_nil ?_
 intro w1 A0
 clear A6 A3 A5
 have A1:=A0.size
 (try simp at A1)
 have A7:=bl5 A0 (w.heap.size)
 have A4:=bl5 A0 (w.heap.size+1)
 have A2:=bl5 A0 (w.heap.size+1+1)
 go_wp2
 refine bodyPost_ret (by simp[results,Tryz.results183,go_sem, *];first|done|rfl) rfl ?_
 exact⟨rfl,blw⟩
set_option maxHeartbeats 1000000 in
theorem minus1_any (a b r c d s:Int) (w:World) (h1:Sh a) (h2:Sh b) (h3:Sh c) (h4:Sh d) (r0:0≤r) (r1:r≤67108864) (s0:0≤s) (s1:s≤67108864) :
  Calls Tryz.prog 197 #[.agg #[.int .i64 a,.int .i64 b,.int .i64 r],.agg #[.int .i64 c,.int .i64 d,.int .i64 s]] w fun e w' =>
   e = .returned (.tuple #[.agg #[.int .i64 (a-c),.int .i64 (b-d),.int .i64 (r+s)],.int .i64 0])∧Below w.heap.size w w':=by
 go_enter Tryz.func197,Tryz.ntmps197
 go_wp2_with fail
 refine calm 11 (by kernel_rfl) (by kernel_rfl) fun hG => ?_
 have A6:=hG (w.heap.size) lto
 have A3:=hG (w.heap.size+1) lto
 have A5:=hG (w.heap.size+1+1) lto
 clear hG
 simp only[List.take_succ_cons,List.take_zero,List.drop_succ_cons,List.drop_zero]
 repeat (go_big_quiet_step (first|(go_at_call 198;with_reducible exact calm_call (fun w=>minus_any _ _ _ _ w h1.sm h2.sm h3.sm h4.sm))))
 refine wpQuiet_nil ?_
 intro w1 A0
 clear A6 A3 A5
 have A1:=A0.size
 (try simp at A1)
 have A7:=bl5 A0 (w.heap.size)
 have A4:=bl5 A0 (w.heap.size+1)
 have A2:=bl5 A0 (w.heap.size+1+1)
 go_wp2
 refine bodyPost_ret (by simp[results,Tryz.results197,go_sem, *];first|done|rfl) rfl ?_
 exact⟨rfl,blw⟩
@[irreducible] def tuX (k:Nat) (a b:Int):Int:=if k=0 then a else if k=1 then -b else if k=2 then -a else b
@[irreducible] def tuY (k:Nat) (a b:Int):Int:=if k=0 then b else if k=1 then a else if k=2 then -b else -a
theorem tu0 (a b:Int):tuX 0 a b=a∧tuY 0 a b=b:=by unfold tuX tuY;simp
theorem tu1 (a b:Int):tuX 1 a b = -b∧tuY 1 a b=a:=by unfold tuX tuY;simp
theorem tu2 (a b:Int):tuX 2 a b = -a∧tuY 2 a b = -b:=by unfold tuX tuY;simp
theorem tu3 (a b:Int):tuX 3 a b=b∧tuY 3 a b = -a:=by unfold tuX tuY;simp
set_option maxHeartbeats 1000000 in
theorem turned_any (k:Nat) (a b:Int) (w:World) (hk:k<4) (h1:Sm a) (h2:Sm b) :
  Calls Tryz.prog 216 #[.agg #[.int .i64 a,.int .i64 b],.int .i64 k] w fun e w'=>e = .returned (.agg #[.int .i64 (tuX k a b),.int .i64 (tuY k a b)])∧Below w.heap.size w w':=by
 unfold Sm at h1 h2
 have hk4:k=0∨k=1∨k=2∨k=3:=by omega
 clear hk
 rcases hk4 with rfl|rfl|rfl|rfl
 ·rw[(tu0 a b).1,(tu0 a b).2]
  go_enter Tryz.func216,Tryz.ntmps216
  go_wp2
  refine wp_loop_rounds 1 ?_
  rw[rounds_succ]
  go_wp2
  go_returns
  exact⟨rfl,blw⟩
 ·rw[(tu1 a b).1,(tu1 a b).2]
  go_enter Tryz.func216,Tryz.ntmps216
  go_wp2
  refine wp_loop_rounds 2 ?_
  iterate 2 (rw[rounds_succ];go_wp2)
  go_returns
  exact⟨rfl,blw⟩
 ·rw[(tu2 a b).1,(tu2 a b).2]
  go_enter Tryz.func216,Tryz.ntmps216
  go_wp2
  refine wp_loop_rounds 3 ?_
  iterate 3 (rw[rounds_succ];go_wp2)
  go_returns
  exact⟨rfl,blw⟩
 ·rw[(tu3 a b).1,(tu3 a b).2]
  go_enter Tryz.func216,Tryz.ntmps216
  go_wp2
  refine wp_loop_rounds 4 ?_
  iterate 4 (rw[rounds_succ];go_wp2)
  go_returns
  exact⟨rfl,blw⟩
end Go.Proofs.YticobgianbecpaaGreatDoor
namespace Go.Proofs.YticobgianbecpaaGreatDoor
open Go.RowKit
@[irreducible] def Res.a:Res→Int
 | .bad _=>0
 | .good a _ _=>a
@[irreducible] def Res.b:Res→Int
 | .bad _=>0
 | .good _ b _=>b
@[irreducible] def Res.c:Res→Int
 | .bad _=>0
 | .good _ _ c=>c
@[irreducible] def Res.q:Res→Int
 | .bad q=>q
 | .good _ _ _=>0
theorem quad_bad (q:Int):(Res.bad q).a=0∧(Res.bad q).b=0∧(Res.bad q).c=0∧(Res.bad q).q=q:=by unfold Res.a Res.b Res.c Res.q;exact⟨rfl,rfl,rfl,rfl⟩
theorem quad_good (a b c:Int):(Res.good a b c).a=a∧(Res.good a b c).b=b∧(Res.good a b c).c=c∧(Res.good a b c).q=0:=by unfold Res.a Res.b Res.c Res.q;exact⟨rfl,rfl,rfl,rfl⟩
theorem out_quad (r:Res):out r = .tuple #[.agg #[.complex .f64 (fl r.a) (fl r.b),.int .i64 r.c],.int .i64 r.q]:=by
 cases r with
 | bad q=>obtain⟨h1,h2,h3,h4⟩:=quad_bad q;rw[h1,h2,h3,h4,fl_zero];rfl
 | good a b c=>obtain⟨h1,h2,h3,h4⟩:=quad_good a b c;rw[h1,h2,h3,h4];rfl
theorem outR_quad (r:Res):outR r = .tuple #[.agg #[.int .i64 r.a,.int .i64 r.b,.int .i64 r.c],.int .i64 r.q]:=by
 cases r with
 | bad q=>obtain⟨h1,h2,h3,h4⟩:=quad_bad q;rw[h1,h2,h3,h4];rfl
 | good a b c=>obtain⟨h1,h2,h3,h4⟩:=quad_good a b c;rw[h1,h2,h3,h4];rfl
def plusM (x y r x' y' r':Int):Res:=onTwo x y r x' y' r' (fin (x+x') (y+y') (r+r') 0)
def minusM (x y r x' y' r':Int):Res:=onTwo x y r x' y' r' (fin (x-x') (y-y') (r+r') 0)
def conjM (x y r:Int):Res:=onOne x y r (fin x (-y) r 0)
set_option maxHeartbeats 1000000 in
theorem Plus_any (x y r x' y' r':Int) (w:World) (f1:Flo x) (f2:Flo y) (g1:Flo x') (g2:Flo y') :
  Calls Tryz.prog 123 #[.agg #[.complex .f64 (fl x) (fl y),.int .i64 r],.agg #[.complex .f64 (fl x') (fl y'),.int .i64 r']] w fun e w'=>e = .returned (out (plusM x y r x' y' r'))∧Below w.heap.size w w':=by
 have hd:∀w,Right x y r→Right x' y' r'→Does2 183 #[] x y r x' y' r' w (.tuple #[.agg #[.int .i64 (x+x'),.int .i64 (y+y'),.int .i64 (r+r')],.int .i64 0]):=fun w h h' w1 _=>by
  rw[Array.append_empty]
  exact plus1_any x y r x' y' r' w1 h.sh.1 h.sh.2 h'.sh.1 h'.sh.2 h.2.1 h.2.2 h'.2.1 h'.2.2
 unfold plusM
 rw[out_quad]
 go_enter Tryz.func123,Tryz.ntmps123
 go_wp2_with fail
 refine(binary_any _ x y r x' y' r' _ _ _ _ _ f1 f2 g1 g2 (enters_of Tryz.func183 (by kernel_rfl) rfl) (hd _)).mono ?_
 rintro e w1 ⟨rfl,A0⟩
 have A1:=A0.size
 (try simp at A1)
 have A2:=bl5 A0 (w.heap.size+1+1)
 rw[out_quad]
 go_wp2
 refine bodyPost_ret (by simp[results,Tryz.results123,go_sem, *];first|done|rfl) rfl ?_
 exact⟨rfl,blw⟩
set_option maxHeartbeats 1000000 in
theorem Minus_any (x y r x' y' r':Int) (w:World) (f1:Flo x) (f2:Flo y) (g1:Flo x') (g2:Flo y') :
  Calls Tryz.prog 129 #[.agg #[.complex .f64 (fl x) (fl y),.int .i64 r],.agg #[.complex .f64 (fl x') (fl y'),.int .i64 r']] w fun e w'=>e = .returned (out (minusM x y r x' y' r'))∧Below w.heap.size w w':=by
 have hd:∀w,Right x y r→Right x' y' r'→Does2 197 #[] x y r x' y' r' w (.tuple #[.agg #[.int .i64 (x-x'),.int .i64 (y-y'),.int .i64 (r+r')],.int .i64 0]):=fun w h h' w1 _=>by
  rw[Array.append_empty]
  exact minus1_any x y r x' y' r' w1 h.sh.1 h.sh.2 h'.sh.1 h'.sh.2 h.2.1 h.2.2 h'.2.1 h'.2.2
 unfold minusM
 rw[out_quad]
 go_enter Tryz.func129,Tryz.ntmps129
 go_wp2_with fail
 refine(binary_any _ x y r x' y' r' _ _ _ _ _ f1 f2 g1 g2 (enters_of Tryz.func197 (by kernel_rfl) rfl) (hd _)).mono ?_
 rintro e w1 ⟨rfl,A0⟩
 have A1:=A0.size
 (try simp at A1)
 have A2:=bl5 A0 (w.heap.size+1+1)
 rw[out_quad]
 go_wp2
 refine bodyPost_ret (by simp[results,Tryz.results129,go_sem, *];first|done|rfl) rfl ?_
 exact⟨rfl,blw⟩
def qu (k:Int):Nat:=(k%4).toNat
theorem qu_lt (k:Int):qu k<4:=by unfold qu;omega
theorem qu_eq (k:Int):(k.tmod 4+4).tmod 4=(qu k:Nat):=by
 unfold qu
 have h1:=Int.mul_tdiv_add_tmod k 4
 have h2:=Int.tmod_lt_of_pos k (show 0<(4:Int)by omega)
 have h3 : -4<k.tmod 4:=by have:=Int.tmod_lt_of_pos (-k) (show 0<(4:Int)by omega);rw[Int.neg_tmod]at this;omega
 rw[Int.tmod_eq_emod_of_nonneg (by omega)]
 omega
set_option maxHeartbeats 1000000 in
theorem turned1_in (a b r k:Int) (B:Nat) (w:World) (hB:w.cell? ⟨B,0,none⟩=some (.int .i64 k)) (hB2:B<w.heap.size) (h1:Sh a) (h2:Sh b) (k0 : -1000000000≤k) (k1:k≤1000000000) :
  Calls Tryz.prog 215 #[.agg #[.int .i64 a,.int .i64 b,.int .i64 r],.pointer (some ⟨B,0,none⟩)] w fun e w' =>
   e = .returned (.tuple #[.agg #[.int .i64 (tuX (qu k) a b),.int .i64 (tuY (qu k) a b),.int .i64 r],.int .i64 0])∧Below w.heap.size w w':=by
 have a1:(decide ((-1000000000:Int)≤k)&&decide (k≤1000000000))=true:=by simp[k0,k1]
 have hn:¬B=w.heap.size:=by omega
 have hn2:¬B=w.heap.size+1:=by omega
 have ht:∀w,Calls Tryz.prog 216 #[.agg #[.int .i64 a,.int .i64 b],.int .i64 ((wrap64 (k.tmod 4+4)).tmod 4)] w fun e w'=>e = .returned (.agg #[.int .i64 (tuX (qu k) a b),.int .i64 (tuY (qu k) a b)])∧Below w.heap.size w w':=fun w=>by
  have h3:=Int.tmod_lt_of_pos k (show 0<(4:Int)by omega)
  have h4 : -4<k.tmod 4:=by have:=Int.tmod_lt_of_pos (-k) (show 0<(4:Int)by omega);rw[Int.neg_tmod]at this;omega
  rw[IntWalk.wrap64_in _ ⟨by omega,by omega⟩,qu_eq]
  exact turned_any (qu k) a b w (qu_lt k) h1.sm h2.sm
 have HT:=Lib.hid ht
 clear ht
 generalize tuX (qu k) a b=X at *
 generalize tuY (qu k) a b=Y at *
 go_enter Tryz.func215,Tryz.ntmps215
 go_wp2_with fail
 refine(small_any _ _ _ (by omega) (by omega)).mono ?_
 rintro e w' ⟨rfl,rfl⟩
 rw[a1]
 go_wp2_with fail
 refine calm 10 (by kernel_rfl) (by kernel_rfl) fun hG => ?_
 have A6:=hG (w.heap.size) lto
 have A3:=hG (w.heap.size+1) lto
 have A8:=hG (B) lto
 clear hG
 simp only[List.take_succ_cons,List.take_zero,List.drop_succ_cons,List.drop_zero]
 repeat (go_big_quiet_step (first|(go_at_call 216;with_reducible exact calm_call HT.out)))
 refine wpQuiet_nil ?_
 intro w1 A0
 clear A6 A3 A8
 have A1:=A0.size
 (try simp at A1)
 have A7:=bl5 A0 (w.heap.size)
 have A4:=bl5 A0 (w.heap.size+1)
 have A9:=bl5 A0 (B)
 go_wp2
 refine bodyPost_ret (by simp[results,Tryz.results215,go_sem, *];first|done|rfl) rfl ?_
 exact⟨rfl,blw⟩
set_option maxHeartbeats 1000000 in
theorem turned1_out (a b r k:Int) (B:Nat) (w:World) (hB:w.cell? ⟨B,0,none⟩=some (.int .i64 k)) (hB2:B<w.heap.size) (hk:k < -1000000000∨1000000000<k) :
  Calls Tryz.prog 215 #[.agg #[.int .i64 a,.int .i64 b,.int .i64 r],.pointer (some ⟨B,0,none⟩)] w fun e w' =>
   e = .returned (.tuple #[.agg #[.int .i64 a,.int .i64 b,.int .i64 r],.int .i64 2])∧Below w.heap.size w w':=by
 have a1:(decide ((-1000000000:Int)≤k)&&decide (k≤1000000000))=false:=by rw[Bool.eq_false_iff];simp;omega
 clear hk
 have hn:¬B=w.heap.size:=by omega
 have hn2:¬B=w.heap.size+1:=by omega
 go_enter Tryz.func215,Tryz.ntmps215
 go_wp2_with fail
 refine(small_any _ _ _ (by omega) (by omega)).mono ?_
 rintro e w' ⟨rfl,rfl⟩
 rw[a1]
 go_wp2
 refine bodyPost_ret (by simp[results,Tryz.results215,go_sem, *];first|done|rfl) rfl ?_
 exact⟨rfl,blw⟩
def inPart (k:Int):Prop := -1000000000≤k∧k≤1000000000
instance (k:Int):Decidable (inPart k):=by unfold inPart;infer_instance
def turnedM (x y r k:Int):Res:=onOne x y r (if inPart k then fin (tuX (qu k) x y) (tuY (qu k) x y) r 0 else .bad 2)
theorem fin_bad (a b c q:Int) (h:q≠0):fin a b c q = .bad q:=by unfold fin;rw[if_pos h]
set_option maxHeartbeats 1000000 in
theorem Turned_any (x y r k:Int) (w:World) (f1:Flo x) (f2:Flo y) :
  Calls Tryz.prog 159 #[.agg #[.complex .f64 (fl x) (fl y),.int .i64 r],.int .i64 k] w fun e w'=>e = .returned (out (turnedM x y r k))∧Below w.heap.size w w':=by
 by_cases hk:inPart k
 ·have hd:∀(w:World) (B:Nat),w.cell? ⟨B,0,none⟩=some (.int .i64 k)→B<w.heap.size→Right x y r→Does 215 #[.pointer (some ⟨B,0,none⟩)] x y r w (.tuple #[.agg #[.int .i64 (tuX (qu k) x y),.int .i64 (tuY (qu k) x y),.int .i64 r],.int .i64 0]):=fun w B h0 h1 h w1 hb=>by
   exact turned1_in x y r k B w1 (by rw[hb.cell (p:=⟨B,0,none⟩) h1];exact h0) (Nat.lt_of_lt_of_le h1 hb.size) h.sh.1 h.sh.2 hk.1 hk.2
  unfold turnedM
  rw[if_pos hk,out_quad]
  have hmf:=closure
  clear hk
  go_enter Tryz.func159,Tryz.ntmps159
  go_wp2_with fail
  refine(unary_any _ _ x y r _ _ _ _ _ f1 f2 (enters_of Tryz.func215 (by kernel_rfl) rfl) (hd _ (w.heap.size+1) (by simp[go_sem]) (by simp))).mono ?_
  rintro e w1 ⟨rfl,A0⟩
  have A1:=A0.size
  (try simp at A1)
  have A2:=bl5 A0 (w.heap.size+1+1)
  rw[out_quad]
  go_wp2
  refine bodyPost_ret (by simp[results,Tryz.results159,go_sem, *];first|done|rfl) rfl ?_
  exact⟨rfl,blw⟩
 ·have hd:∀(w:World) (B:Nat),w.cell? ⟨B,0,none⟩=some (.int .i64 k)→B<w.heap.size→Right x y r→Does 215 #[.pointer (some ⟨B,0,none⟩)] x y r w (.tuple #[.agg #[.int .i64 x,.int .i64 y,.int .i64 r],.int .i64 2]):=fun w B h0 h1 h w1 hb=>by
   exact turned1_out x y r k B w1 (by rw[hb.cell (p:=⟨B,0,none⟩) h1];exact h0) (Nat.lt_of_lt_of_le h1 hb.size) (by unfold inPart at hk;omega)
  unfold turnedM
  rw[if_neg hk,← fin_bad x y r 2 (by omega),out_quad]
  have hmf:=closure
  clear hk
  go_enter Tryz.func159,Tryz.ntmps159
  go_wp2_with fail
  refine(unary_any _ _ x y r _ _ _ _ _ f1 f2 (enters_of Tryz.func215 (by kernel_rfl) rfl) (hd _ (w.heap.size+1) (by simp[go_sem]) (by simp))).mono ?_
  rintro e w1 ⟨rfl,A0⟩
  have A1:=A0.size
  (try simp at A1)
  have A2:=bl5 A0 (w.heap.size+1+1)
  rw[out_quad]
  go_wp2
  refine bodyPost_ret (by simp[results,Tryz.results159,go_sem, *];first|done|rfl) rfl ?_
  exact⟨rfl,blw⟩
end Go.Proofs.YticobgianbecpaaGreatDoor
namespace Go.Proofs.YticobgianbecpaaGreatDoor
open Go.RowKit
set_option maxHeartbeats 400000 in
theorem bMod_any (n b:Int) (w:World) (_h1 : -4611686018427387904≤n) (_h2:n≤4611686018427387904) (h3:1≤b) (h4:b≤4611686018427387904) :
  Calls Tryz.prog 69 #[.int .i64 n,.int .i64 b] w fun e w'=>e = .returned (.int .i64 (n%b))∧w'=w:=by
 have e1:=Int.mul_tdiv_add_tmod n b
 have b1:=Int.tmod_lt_of_pos n (show 0<b by omega)
 have b2 : -b<n.tmod b:=by have:=Int.tmod_lt_of_pos (-n) (show 0<b by omega);rw[Int.neg_tmod]at this;omega
 have E:Hid (n%b=if n.tmod b<0 then n.tmod b+b else n.tmod b):=by
  refine Lib.hid ?_
  by_cases h:n.tmod b<0
  ·rw[if_pos h]
   exact((Int.ediv_emod_unique (a:=n) (b:=b) (r:=n.tmod b+b) (q:=n.tdiv b-1) (by omega)).2 ⟨by rw[Int.mul_sub];omega,by omega,by omega⟩).2
  ·rw[if_neg h]
   exact((Int.ediv_emod_unique (a:=n) (b:=b) (r:=n.tmod b) (q:=n.tdiv b) (by omega)).2 ⟨by omega,by omega,by omega⟩).2
 clear e1
 by_cases h:n.tmod b<0
 ·go_enter Tryz.func69,Tryz.ntmps69
  go_wp2
  go_ret
  exact⟨ret_int (by rw[E.out,if_pos h]),rfl⟩
 ·go_enter Tryz.func69,Tryz.ntmps69
  go_wp2
  go_ret
  exact⟨ret_int (by rw[E.out,if_neg (by omega)]),rfl⟩
set_option maxHeartbeats 1000000 in
theorem rPlus_any (a b r c d s:Int) (w:World) (h:Right a b r) (h':Right c d s) :
  Calls Tryz.prog 131 #[.agg #[.int .i64 a,.int .i64 b,.int .i64 r],.agg #[.int .i64 c,.int .i64 d,.int .i64 s]] w fun e w' =>
   e = .returned (outR (fin (a+c) (b+d) (r+s) 0))∧Below w.heap.size w w':=by
 rw[outR_quad]
 have C:Hid (∀w,Calls Tryz.prog 178 #[.agg #[.int .i64 (a+c),.int .i64 (b+d),.int .i64 (r+s)]] w fun e w'=>e = .returned (outR (fin (a+c) (b+d) (r+s) 0))∧Below w.heap.size w w'):=Lib.hid fun w=>Checked_any _ _ _ w
 rw[outR_quad]at C
 obtain⟨⟨h1,h2,h3,h4⟩,r0,r1⟩:=h
 obtain⟨⟨h5,h6,h7,h8⟩,s0,s1⟩:=h'
 generalize fin (a+c) (b+d) (r+s) 0=R at *
 go_enter Tryz.func131,Tryz.ntmps131
 go_wp2_with fail
 refine(C.out _).mono ?_
 rintro e w1 ⟨rfl,A0⟩
 have A1:=A0.size
 (try simp at A1)
 have A2:=bl5 A0 (w.heap.size+1+1)
 go_wp2
 refine bodyPost_ret (by simp[results,Tryz.results131,go_sem, *];first|done|rfl) rfl ?_
 exact⟨rfl,blw⟩
set_option maxHeartbeats 1000000 in
theorem rMinus_any (a b r c d s:Int) (w:World) (h:Right a b r) (h':Right c d s) :
  Calls Tryz.prog 137 #[.agg #[.int .i64 a,.int .i64 b,.int .i64 r],.agg #[.int .i64 c,.int .i64 d,.int .i64 s]] w fun e w' =>
   e = .returned (outR (fin (a-c) (b-d) (r+s) 0))∧Below w.heap.size w w':=by
 rw[outR_quad]
 have C:Hid (∀w,Calls Tryz.prog 178 #[.agg #[.int .i64 (a-c),.int .i64 (b-d),.int .i64 (r+s)]] w fun e w'=>e = .returned (outR (fin (a-c) (b-d) (r+s) 0))∧Below w.heap.size w w'):=Lib.hid fun w=>Checked_any _ _ _ w
 rw[outR_quad]at C
 obtain⟨⟨h1,h2,h3,h4⟩,r0,r1⟩:=h
 obtain⟨⟨h5,h6,h7,h8⟩,s0,s1⟩:=h'
 generalize fin (a-c) (b-d) (r+s) 0=R at *
 go_enter Tryz.func137,Tryz.ntmps137
 go_wp2_with fail
 refine(C.out _).mono ?_
 rintro e w1 ⟨rfl,A0⟩
 have A1:=A0.size
 (try simp at A1)
 have A2:=bl5 A0 (w.heap.size+1+1)
 go_wp2
 refine bodyPost_ret (by simp[results,Tryz.results137,go_sem, *];first|done|rfl) rfl ?_
 exact⟨rfl,blw⟩
set_option maxHeartbeats 1000000 in
theorem rTurned_any (a b r k:Int) (w:World) (h1:Sh a) (h2:Sh b) (hk:inPart k) :
  Calls Tryz.prog 181 #[.agg #[.int .i64 a,.int .i64 b,.int .i64 r],.int .i64 k] w fun e w'=>e = .returned (.agg #[.int .i64 (tuX (qu k) a b),.int .i64 (tuY (qu k) a b),.int .i64 r])∧Below w.heap.size w w':=by
 obtain⟨k0,k1⟩:=hk
 have hm:∀w,Calls Tryz.prog 69 #[.int .i64 k,.int .i64 4] w fun e w'=>e = .returned (.int .i64 (qu k:Nat))∧w'=w:=fun w=>by
  have:=bMod_any k 4 w (by omega) (by omega) (by omega) (by omega)
  have e:((qu k:Nat):Int)=k%4:=by unfold qu;omega
  rw[e];exact this
 have HM:=Lib.hid hm
 clear hm
 have hq:=qu_lt k
 generalize qu k=q at *
 unfold Sh at h1 h2
 have hq4:q=0∨q=1∨q=2∨q=3:=by omega
 clear hq
 rcases hq4 with rfl|rfl|rfl|rfl
 ·rw[(tu0 a b).1,(tu0 a b).2]
  go_enter Tryz.func181,Tryz.ntmps181
  go_wp2
  refine wp_loop_rounds 1 ?_
  rw[rounds_succ]
  go_wp2_with (go_at_call 69;(with_reducible refine(HM.out _).mono ?_);rintro e w' ⟨rfl,rfl⟩)
  go_returns
  exact⟨rfl,blw⟩
 ·rw[(tu1 a b).1,(tu1 a b).2]
  go_enter Tryz.func181,Tryz.ntmps181
  go_wp2
  refine wp_loop_rounds 2 ?_
  iterate 2 (rw[rounds_succ];go_wp2_with (go_at_call 69;(with_reducible refine(HM.out _).mono ?_);rintro e w' ⟨rfl,rfl⟩))
  go_returns
  exact⟨rfl,blw⟩
 ·rw[(tu2 a b).1,(tu2 a b).2]
  go_enter Tryz.func181,Tryz.ntmps181
  go_wp2
  refine wp_loop_rounds 3 ?_
  iterate 3 (rw[rounds_succ];go_wp2_with (go_at_call 69;(with_reducible refine(HM.out _).mono ?_);rintro e w' ⟨rfl,rfl⟩))
  go_returns
  exact⟨rfl,blw⟩
 ·rw[(tu3 a b).1,(tu3 a b).2]
  go_enter Tryz.func181,Tryz.ntmps181
  go_wp2
  refine wp_loop_rounds 4 ?_
  iterate 4 (rw[rounds_succ];go_wp2_with (go_at_call 69;(with_reducible refine(HM.out _).mono ?_);rintro e w' ⟨rfl,rfl⟩))
  go_returns
  exact⟨rfl,blw⟩
end Go.Proofs.YticobgianbecpaaGreatDoor
