/- Joined: LightLaw Medium Index Runs NorLaw TurLaw FacLaw. -/
import Derived.Test.YticobgianbecpaaGreatDoorKLight
import Derived.Test.YticobgianbecpaaGreatDoorKFade
import Derived.Deep.RegionHeld3
namespace Go.Proofs.YticobgianbecpaaGreatDoor
open Go Go.Sort Go.RowKit
@[irreducible] def Ask.med (A:Ask) (k:Nat):Box:=if k=0 then⟨A.ix,A.ix,0,0,0⟩else match A.ls[k-1]? with|some b=>b|none=>⟨A.oi,A.oi,0,0,A.ol⟩
@[irreducible] def dn (n d:Int):Int:=n/d
@[irreducible] def up (n d:Int):Int:=(n+d-1)/d
@[irreducible] def idxR (e:Int) (b:Box):Res :=
 let n:=after e (ofRangeM (dn (b.il*1048576) 10000) (up (b.ih*1048576) 10000))
 if b.lo=0 then n else
  let k:=after n.q (ofFracM b.lo 10000)
  let t:=after k.q (tu k)
  after t.q (pl n t)
@[irreducible] def sideR (A:Ask):Res:=ofRangeM (dn (A.ix*A.sl*1048576) 100000000) (up (A.ix*A.sh*1048576) 100000000)
@[irreducible] def nsqR (e:Int) (A:Ask) (b:Box):Res :=
 let n:=idxR e b
 let s:=after n.q (sideR A)
 let nn:=after s.q (ti n n)
 let ss:=after nn.q (ti s s)
 after ss.q (mi nn ss)
@[irreducible] def norR (e:Int) (A:Ask) (b:Box):Res :=
 let v:=nsqR e A b
 after v.q (if b.lo=0 then realM (v.a-v.c) (v.a+v.c)else ro v)
@[irreducible] def stopR (e:Int) (A:Ask) (b:Box):Bool:=let v:=nsqR e A b;decide (b.lo=0∧v.q=0∧v.a-v.c<0)
@[irreducible] def admR (e:Int) (A:Ask) (b:Box):Res :=
 let q:=norR e A b
 if A.po=0 then q else
  let n:=idxR q.q b
  let nn:=after n.q (ti n n)
  after nn.q (qt nn q)
@[irreducible] def pos (n:Int):Int:=if n<0 then 0 else n
@[irreducible] def turP (k:Nat) (e:Int) (A:Ask) (b:Box):Int :=
 let q:=norR e A b
 let st:=stopR e A b
 match k with
 | 0=>if b.lo=0∧st=true then 0 else pt q.q (q.a-q.c)
 | 1=>if b.lo=0∧st=true then 0 else pt q.q (q.a+q.c)
 | 2=>if b.lo=0∧st=false then 0 else pt q.q (q.b-q.c)
 | _=>if b.lo=0∧st=false then 0 else pt q.q (q.b+q.c)
@[irreducible] def turR (k:Nat) (e:Int) (A:Ask) (b:Box):Int :=
 match k with
 | 0=>dn (4*pos (turP 0 e A b)*b.tl) A.wh
 | 1=>up (4*pos (turP 1 e A b)*b.th) A.wl
 | 2=>dn (4*pos (turP 2 e A b)*b.tl) A.wh
 | _=>up (4*pos (turP 3 e A b)*b.th) A.wl
@[irreducible] def facR (e:Int) (A:Ask) (b:Box) (n:Int):Res :=
 let q:=norR e A b
 let c:=after q.q (if n*turR 1 e A b-n*turR 0 e A b<1048576 then arcM (n*turR 0 e A b) (n*turR 1 e A b)else .good 0 0 1048576)
 let r:=after c.q (ofRangeM (fLo (n*turR 3 e A b)) (fHi (n*turR 2 e A b)))
 after r.q (ti c r)
structure Mat where
 m0:Res
 m1:Res
 m2:Res
 m3:Res
def Mat.fine (m:Mat):Prop:=Fine m.m0∧Fine m.m1∧Fine m.m2∧Fine m.m3
def Mat.cells (m:Mat):Array Value:=#[.complex .f64 (fl m.m0.a) (fl m.m0.b),.int .i64 m.m0.c,.complex .f64 (fl m.m1.a) (fl m.m1.b),.int .i64 m.m1.c,.complex .f64 (fl m.m2.a) (fl m.m2.b),.int .i64 m.m2.c,.complex .f64 (fl m.m3.a) (fl m.m3.b),.int .i64 m.m3.c]
@[irreducible] def matR (e:Int) (y g:Res):Mat × Int :=
 let h:=after e halfR
 let p:=after h.q (pl oneR g)
 let u:=after p.q (ti p h)
 let n:=after u.q (mi oneR g)
 let c:=after n.q (ti n h)
 let v:=after c.q (qt c y)
 let w:=after v.q (ti c y)
 (⟨u,v,w,u⟩,w.q)
@[irreducible] def dotR (e:Int) (a b c d:Res):Res :=
 let x:=after e (ti a b)
 let y:=after x.q (ti c d)
 after y.q (pl x y)
@[irreducible] def mulR (e:Int) (p m:Mat):Mat × Int :=
 let o0:=dotR e p.m0 m.m0 p.m1 m.m2
 let o1:=dotR o0.q p.m0 m.m1 p.m1 m.m3
 let o2:=dotR o1.q p.m2 m.m0 p.m3 m.m2
 let o3:=dotR o2.q p.m2 m.m1 p.m3 m.m3
 (⟨o0,o1,o2,o3⟩,o3.q)
structure Thr where
 p:Mat
 f:Res
 q:Int
@[irreducible] def stepR (A:Ask) (fs:Bool) (s:Thr) (b:Box):Thr :=
 let y:=admR s.q A b
 let g:=facR y.q A b 2
 let x:=if fs=true then facR g.q A b 1 else g
 let f:=if fs=true then after x.q (ti s.f x)else s.f
 let e:=if fs=true then f.q else g.q
 let m:=matR e y g
 let p:=mulR m.2 s.p m.1
 ⟨p.1,f,p.2⟩
def runR (A:Ask) (fs:Bool):Thr→List Box→Thr
 | s,[]=>s
 | s,b::l=>if s.q=0 then runR A fs (stepR A fs s b) l else s
@[irreducible] def thrR (e:Int) (A:Ask) (fs:Bool):Thr:=runR A fs ⟨⟨oneR,noneR,noneR,oneR⟩,oneR,e⟩ A.ls
@[irreducible] def ampR (A:Ask) (fs:Bool):Res :=
 let y:=admR 0 A (A.med 0)
 let t:=thrR y.q A fs
 let l:=admR t.q A (A.med (A.ls.length+1))
 let b1:=after l.q (ti t.p.m1 l)
 let b:=after b1.q (pl t.p.m0 b1)
 let c1:=after b.q (ti t.p.m3 l)
 let c:=after c1.q (pl t.p.m2 c1)
 let a:=after c.q (ti y b)
 let d:=after a.q (pl a c)
 if fs=true then
  let z:=after d.q (pl y y)
  let x:=after z.q (ti z t.f)
  after x.q (qt x d)
 else
  let x:=after d.q (mi a c)
  after x.q (qt x d)
end Go.Proofs.YticobgianbecpaaGreatDoor
namespace Go.Proofs.YticobgianbecpaaGreatDoor
open Go Go.Sort Go.RowKit
theorem sdown_any (n d:Int) (w:World) (h0:0≤n) (h1:n≤4611686018427387904) (h2:1≤d) :
  Calls Tryz.prog 43 #[.int .i64 n,.int .i64 d] w fun e w'=>e = .returned (.int .i64 (dn n d))∧w'=w:=by
 unfold dn
 have e1:n.tdiv d=n/d:=Int.tdiv_eq_ediv_of_nonneg h0
 have hd:0≤n/d∧n/d≤4611686018427387904:=⟨Int.ediv_nonneg h0 (by omega),ediv_hi h2 h1 (by omega)⟩
 have hz:¬d=0:=by omega
 go_enter Tryz.func43,Tryz.ntmps43
 go_wp2
 go_ret
 exact⟨ret_int (by rw[← e1]at hd ⊢),rfl⟩
theorem sup_any (n d:Int) (w:World) (h0:0≤n) (h1:n≤4611686018427387904) (h2:1≤d) (h3:d≤1000000000000000000) :
  Calls Tryz.prog 44 #[.int .i64 n,.int .i64 d] w fun e w'=>e = .returned (.int .i64 (up n d))∧w'=w:=by
 unfold up
 have e1:(n+d-1).tdiv d=(n+d-1)/d:=Int.tdiv_eq_ediv_of_nonneg (by omega)
 have hd:0≤(n+d-1)/d∧(n+d-1)/d≤9223372036854775807:=⟨Int.ediv_nonneg (by omega) (by omega),ediv_hi h2 (by omega) (by omega)⟩
 have hz:¬d=0:=by omega
 go_enter Tryz.func44,Tryz.ntmps44
 go_wp2
 go_ret
 exact⟨ret_int rfl,rfl⟩
structure BoxOk (b:Box):Prop where
 i0:5000≤b.il
 i1:b.il≤b.ih
 i2:b.ih≤80000
 t0:0≤b.tl
 t1:b.tl≤b.th
 t2:b.th≤1000000
 l0:0≤b.lo
 l1:b.lo≤80000
structure AskOk (A:Ask):Prop where
 i0:5000≤A.ix
 i1:A.ix≤80000
 s0:0≤A.sl
 s1:A.sl≤A.sh
 s2:A.sh≤9999
 p0:A.po=0∨A.po=1
 w0:1000≤A.wl
 w1:A.wl≤A.wh
 w2:A.wh≤200000
 ls:∀b∈A.ls,BoxOk b
 len:A.ls.length≤40
 oi0:5000≤A.oi
 oi1:A.oi≤80000
 ol0:0≤A.ol
 ol1:A.ol≤80000
structure Med (A:Ask) (n:Int) (b:Box):Prop where
 ok:BoxOk b
 says:∀(B:Nat) (e:Int) (w:World),Lt B e A w→Calls Tryz.prog 104 #[.pointer (some ⟨B,0,none⟩),.int .i64 n] w fun E w' =>
  E = .returned (.tuple #[.agg #[.int .i64 b.il,.int .i64 b.ih],.int .i64 b.lo])∧Below w.heap.size w w'
theorem med_front (A:Ask) (hA:AskOk A):Med A 0 ⟨A.ix,A.ix,0,0,0⟩:=by
 refine⟨⟨hA.i0,Int.le_refl _,hA.i1,Int.le_refl _,Int.le_refl _,(by decide:(0:Int)≤1000000),Int.le_refl _,(by decide:(0:Int)≤80000)⟩,fun B e w A7 => ?_⟩
 clear hA
 simp only
 have A3:=A7.st
 have Bp:=tr_refl A3
 obtain⟨Ak,Al,Am,An,Ao,Ap,Ag,Aq,Ar⟩:=A7.cells
 have Cd:=A3.cell
 have Cf:=A3.free
 have Ca:=A3.lt
 have Ci:=own5 Ca
 go_enter Tryz.func104,Tryz.ntmps104
 go_wp2_with fail
 refine calm 11 (by kernel_rfl) (by kernel_rfl) fun hG => ?_
 have A9:=hG (w.heap.size) lto
 have A1:=hG B lto
 clear hG
 simp only[List.take_succ_cons,List.take_zero,List.drop_succ_cons,List.drop_zero]
 repeat (go_big_quiet_step (first|fail))
 refine wpQuiet_nil ?_
 intro w1 A2
 clear A9 A1
 have Af:=A2.size
 (try simp at Af)
 have Bc:=bl5 A2 (w.heap.size)
 obtain⟨A5,Aj,Aa,Cx,Dj,Dh⟩:=pkb A7 Bp kpw A2
 (try clear Cd Cf Ak Al Am An Ao Ap Ag Aq Ar Ci)
 repeat' (first|go_values|go_skip|go_guarded|go_step|go_upon|(simp only[];go_simp))
 refine bodyPost_ret (by simp[results,Tryz.results104,go_sem, *];first|done|rfl) rfl ?_
 exact⟨rfl,blw⟩
theorem med_last (A:Ask) (hA:AskOk A):Med A (A.ls.length+1) ⟨A.oi,A.oi,0,0,A.ol⟩:=by
 refine⟨⟨hA.oi0,Int.le_refl _,hA.oi1,Int.le_refl _,Int.le_refl _,(by decide:(0:Int)≤1000000),hA.ol0,hA.ol1⟩,fun B e w A7 => ?_⟩
 have hl:=hA.len
 clear hA
 simp only
 have A3:=A7.st
 have Bp:=tr_refl A3
 obtain⟨Ak,Al,Am,An,Ao,Ap,Ag,Aq,Ar⟩:=A7.cells
 have Cd:=A3.cell
 have Cf:=A3.free
 have Ca:=A3.lt
 have Ci:=own5 Ca
 generalize A.ls.length=n at *
 have h1:¬((n:Int)+1=0):=by omega
 have h2:¬((n:Int)+1≤n):=by omega
 go_enter Tryz.func104,Tryz.ntmps104
 go_wp2_with fail
 go_region_held3 (fun w'=>w'.cell? ⟨B,8,none⟩=some (.int .i64 A.oi)∧w'.cell? ⟨B,9,none⟩=some (.int .i64 A.ol)) (go_keep) (fail)
 repeat' (first|go_values|go_skip|go_guarded|go_step|go_upon|(simp only[];go_simp))
 refine bodyPost_ret (by simp[results,Tryz.results104,go_sem, *];first|done|rfl) rfl ?_
 exact⟨rfl,blw⟩
theorem med_layer (A:Ask) (hA:AskOk A) (j:Nat) (b:Box) (hj:A.ls[j]?=some b):Med A (j+1) b:=by
 refine⟨hA.ls b (List.mem_of_getElem? hj),fun B e w A7 => ?_⟩
 have hl:=hA.len
 have hjl:j<A.ls.length:=(List.getElem?_eq_some_iff.1 hj).1
 obtain⟨a,ha,hlt,b1,b2,b3,b4,b5⟩:=A7.row.get j b hj
 have hne:¬(a.add (j*5)).block=B:=by rw[block_add];exact A7.sep _ ha
 clear hA hj
 have h1:¬((j:Int)+1=0):=by omega
 have A3:=A7.st
 have Bp:=tr_refl A3
 obtain⟨Ak,Al,Am,An,Ao,Ap,Ag,Aq,Ar⟩:=A7.cells
 have Cd:=A3.cell
 have Cf:=A3.free
 have Ca:=A3.lt
 have Ci:=own5 Ca
 rw[ha]at Ag
 generalize A.ls.length=n at *
 have h2:((j:Int)+1≤n):=by omega
 have h3:((j:Int)<n):=by omega
 go_enter Tryz.func104,Tryz.ntmps104
 go_wp2_with fail
 go_region_held3 (fun w'=>w'.cell? ⟨w.heap.size+1,0,none⟩=some (.int .i64 b.il)∧w'.cell? ⟨w.heap.size+1,1,none⟩=some (.int .i64 b.ih)∧w'.cell? ⟨w.heap.size+1,4,none⟩=some (.int .i64 b.lo)) (go_keep) (fail)
 repeat' (first|go_values|go_skip|go_guarded|go_step|go_upon|(simp only[];go_simp))
 refine bodyPost_ret (by simp[results,Tryz.results104,go_sem, *];first|done|rfl) rfl ?_
 exact⟨rfl,blw⟩
end Go.Proofs.YticobgianbecpaaGreatDoor
namespace Go.Proofs.YticobgianbecpaaGreatDoor
open Go Go.Sort Go.RowKit
theorem fine_idx (e:Int) (b:Box):Fine (idxR e b):=by
 unfold idxR
 simp only
 split
 ·exact fine_after _ (fine_range _ _)
 ·exact fine_after _ (fine_pl _ _)
theorem fine_side (A:Ask):Fine (sideR A):=by unfold sideR;exact fine_range _ _
theorem fine_sq (e:Int) (A:Ask) (b:Box):Fine (nsqR e A b):=by unfold nsqR;exact fine_after _ (fine_mi _ _)
theorem fine_nor (e:Int) (A:Ask) (b:Box):Fine (norR e A b):=by
 unfold norR
 simp only
 refine fine_after _ ?_
 split
 ·exact fine_real _ _
 ·exact fine_ro _
theorem fine_adm (e:Int) (A:Ask) (b:Box):Fine (admR e A b):=by
 unfold admR
 simp only
 split
 ·exact fine_nor _ _ _
 ·exact fine_after _ (fine_qt _ _)
theorem idx_no {e:Int}{b:Box} (h:b.lo=0):idxR e b=after e (ofRangeM (dn (b.il*1048576) 10000) (up (b.ih*1048576) 10000)):=by unfold idxR;simp only;rw[if_pos h]
theorem idx_yes {e:Int}{b:Box} (h:¬b.lo=0){n k t:Res} (hn:Is n (after e (ofRangeM (dn (b.il*1048576) 10000) (up (b.ih*1048576) 10000)))) (hk:Is k (after n.q (ofFracM b.lo 10000))) (ht:Is t (after k.q (tu k))) :
  Is (idxR e b) (after t.q (pl n t)):=by cases hn;cases hk;cases ht;unfold idxR Is;simp only;rw[if_neg h]
set_option maxHeartbeats 2000000 in
theorem index_any (B:Nat) (e:Int) (A:Ask) (n:Int) (b:Box) (hM:Med A n b) :
  LGives 102 #[.pointer (some ⟨B,0,none⟩),.int .i64 n] B e A (idxR e b):=by
 intro w A7
 obtain⟨⟨i0,i1,i2,_,_,_,l0,l1⟩,hm⟩:=hM
 have HM:=Lib.hid hm
 clear hm
 have W0:IntKind.i64.wrap (b.il*1048576)=b.il*1048576:=IntWalk.i64_in _ ⟨by omega,by omega⟩
 have W1:IntKind.i64.wrap (b.ih*1048576)=b.ih*1048576:=IntWalk.i64_in _ ⟨by omega,by omega⟩
 obtain⟨N,hN⟩:=is_ex (after e (ofRangeM (dn (b.il*1048576) 10000) (up (b.ih*1048576) 10000)))
 by_cases hl:b.lo=0
 ·rw[idx_no hl,← hN.out]
  have hl':(b.lo==0)=true:=by simpa using hl
  have A3:=A7.st
  have Bp:=tr_refl A3
  obtain⟨Ak,Al,Am,An,Ao,Ap,Ag,Aq,Ar⟩:=A7.cells
  have Cd:=A3.cell
  have Cf:=A3.free
  have Ca:=A3.lt
  have Ci:=own5 Ca
  go_enter Tryz.func102,Tryz.ntmps102
  go_wp2_with fail
  refine(HM.out B e _ (Lt.turn A7 (Trn.kp Bp kpw))).mono ?_
  rintro e w1 ⟨rfl,A2⟩
  have Af:=A2.size
  (try simp at Af)
  have Bc:=bl5 A2 (w.heap.size)
  have A5:=Trn.nb Bp kpw A2
  have Cx:=A5.le
  have Aj:=Lt.turn A7 A5
  have Aa:=Aj.st
  obtain⟨B0,B2,B3,B4,B5,B6,B7,B8,B9⟩:=Aj.cells
  have Bs:=Aa.cell
  have Bt:=Aa.free
  have Cb:=Aa.lt
  have C0:=own5 Cb
  (try clear Cd Cf Ak Al Am An Ao Ap Ag Aq Ar Ci)
  go_wp2_with fail
  refine turn_new (fun i=>i==11) 12 #[.complex .f64 0 0,.int .i64 0] 57 _ rfl (by kernel_rfl) (by kernel_rfl) (by first|omega|(simp;omega)) (St.cell (St.turn A3 (Trn.kp A5 kpw))) (fun a w=>by kernel_rfl) fun hG => ?_
  have A9:=fun o=>hG (w.heap.size) lto o (ne_addr (by omega))
  have Au:=fun o=>hG (w1.heap.size) lto o (ne_addr (by omega))
  have A1:=fun o=>hG B lto (o+1) ne_off
  clear hG
  simp only[List.take_succ_cons,List.take_zero,List.drop_succ_cons,List.drop_zero]
  repeat (first|(refine wpTurn_pure rfl (fun K hK => ?_);go_simp;first|(refine hK _ _ ?_;clear hK K)|(apply Exists.intro;refine⟨fun _ _ => ?_,hK _ _ ?_⟩;(first|(go_at_call 43;with_reducible exact cal_same (fun w=>sdown_any _ _ w (by omega) (by omega) (by omega)))|(go_at_call 44;with_reducible exact cal_same (fun w=>sup_any _ _ w (by omega) (by omega) (by omega) (by omega))));clear hK K))|(refine wpTurn_eff rfl (fun K hK => ?_);go_simp;(first|(with_reducible refine⟨_,_,fun _=>tur_st (St.turn A3 (Trn.kp A5 kpw)) (fun w h=>(c_real B e (dn (b.il*1048576) 10000) (up (b.ih*1048576) 10000)).to hN w h),?_⟩));refine hK _ _ ?_;clear hK K))
  refine wpTurn_nil ?_
  intro B1 w2 hN
  obtain⟨A4,A0,Bu,Ck,Cl⟩:=hN
  (try simp at A0)
  clear A1 A9 Au
  have Ay:=A4.size_le
  (try simp at Ay)
  have Bx:=tn5 A4 (w.heap.size)
  have Bf:=tn5 A4 (w1.heap.size)
  have Ab:=Trn.nx A5 kpw A4
  have D5:=Ab.le
  have As:=Lt.turn A7 Ab
  have Ac:=As.st
  obtain⟨Bg,Bh,Bi,Bj,Bk,Bl,Bm,Bn,Bo⟩:=As.cells
  have Ce:=Ac.cell
  have Cg:=Ac.free
  have Cc:=Ac.lt
  have Cj:=own5 Cc
  (try clear Bs Bt B0 B2 B3 B4 B5 B6 B7 B8 B9 C0)
  have Be:¬B1=w.heap.size:=by first|omega|(simp at A0;omega)
  have Bd:¬w.heap.size=B1:=by first|omega|(simp at A0;omega)
  have Ax:¬B1=w1.heap.size:=by first|omega|(simp at A0;omega)
  have Aw:¬w1.heap.size=B1:=by first|omega|(simp at A0;omega)
  have Ai:¬B1=B:=by first|omega|(simp at A0;omega)
  have Ah:¬B=B1:=by first|omega|(simp at A0;omega)
  repeat' (first|go_values|go_skip|go_guarded|go_step|go_upon|(simp only[];go_simp))
  refine bodyPost_ret (by simp[results,Tryz.results102,go_sem, *];first|done|rfl) rfl ?_
  exact⟨rfl,trw⟩
 ·have fN:Fine N:=hN.fine (fine_after _ (fine_range _ _))
  have hl':(b.lo==0)=false:=by simpa using hl
  obtain⟨D,hD⟩:=is_ex (after N.q (ofFracM b.lo 10000))
  obtain⟨T,hT⟩:=is_ex (after D.q (tu D))
  obtain⟨V,hV⟩:=is_ex (after T.q (pl N T))
  have fD:Fine D:=hD.fine (fine_after _ (fine_frac _ _))
  have fT:Fine T:=hT.fine (fine_after _ (fine_tu _))
  rw[(idx_yes hl hN hD hT).out,← hV.out]
  by_cases hk:D.q=0
  ·have hk':(D.q==0)=true:=by simpa using hk
   have OP:∀w,Calls Tryz.prog 159 #[.agg #[.complex .f64 (fl D.a) (fl D.b),.int .i64 D.c],.int .i64 1] w fun e w'=>e = .returned (out T)∧Below w.heap.size w w':=by
    intro w
    have:=Turned_any D.a D.b D.c 1 w fD.f1 fD.f2
    rw[show turnedM D.a D.b D.c 1=T from by rw[hT.out,hk,after_zero];unfold tu;rfl]at this
    exact this
   simp only[out_quad]at OP
   have OQ:=Lib.hid OP
   clear OP
   have A3:=A7.st
   have Bp:=tr_refl A3
   obtain⟨Ak,Al,Am,An,Ao,Ap,Ag,Aq,Ar⟩:=A7.cells
   have Cd:=A3.cell
   have Cf:=A3.free
   have Ca:=A3.lt
   have Ci:=own5 Ca
   go_enter Tryz.func102,Tryz.ntmps102
   go_wp2_with fail
   refine(HM.out B e _ (Lt.turn A7 (Trn.kp Bp kpw))).mono ?_
   rintro e w1 ⟨rfl,A2⟩
   have Af:=A2.size
   (try simp at Af)
   have Bc:=bl5 A2 (w.heap.size)
   have A5:=Trn.nb Bp kpw A2
   have Cx:=A5.le
   have Aj:=Lt.turn A7 A5
   have Aa:=Aj.st
   obtain⟨B0,B2,B3,B4,B5,B6,B7,B8,B9⟩:=Aj.cells
   have Bs:=Aa.cell
   have Bt:=Aa.free
   have Cb:=Aa.lt
   have C0:=own5 Cb
   (try clear Cd Cf Ak Al Am An Ao Ap Ag Aq Ar Ci)
   go_wp2_with fail
   refine turn_new (fun i=>i==11) 12 #[.complex .f64 0 0,.int .i64 0] 57 _ rfl (by kernel_rfl) (by kernel_rfl) (by first|omega|(simp;omega)) (St.cell (St.turn A3 (Trn.kp A5 kpw))) (fun a w=>by kernel_rfl) fun hG => ?_
   have A9:=fun o=>hG (w.heap.size) lto o (ne_addr (by omega))
   have Au:=fun o=>hG (w1.heap.size) lto o (ne_addr (by omega))
   have A1:=fun o=>hG B lto (o+1) ne_off
   clear hG
   simp only[List.take_succ_cons,List.take_zero,List.drop_succ_cons,List.drop_zero]
   repeat (first|(refine wpTurn_pure rfl (fun K hK => ?_);go_simp;first|(refine hK _ _ ?_;clear hK K)|(apply Exists.intro;refine⟨fun _ _ => ?_,hK _ _ ?_⟩;(first|(go_at_call 43;with_reducible exact cal_same (fun w=>sdown_any _ _ w (by omega) (by omega) (by omega)))|(go_at_call 44;with_reducible exact cal_same (fun w=>sup_any _ _ w (by omega) (by omega) (by omega) (by omega))));clear hK K))|(refine wpTurn_eff rfl (fun K hK => ?_);go_simp;(first|(with_reducible refine⟨_,_,fun _=>tur_st (St.turn A3 (Trn.kp A5 kpw)) (fun w h=>(c_real B e (dn (b.il*1048576) 10000) (up (b.ih*1048576) 10000)).to hN w h),?_⟩));refine hK _ _ ?_;clear hK K))
   refine wpTurn_nil ?_
   intro B1 w2 hN
   obtain⟨A4,A0,Bu,Ck,Cl⟩:=hN
   (try simp at A0)
   clear A1 A9 Au
   have Ay:=A4.size_le
   (try simp at Ay)
   have Bx:=tn5 A4 (w.heap.size)
   have Bf:=tn5 A4 (w1.heap.size)
   have Ab:=Trn.nx A5 kpw A4
   have D5:=Ab.le
   have As:=Lt.turn A7 Ab
   have Ac:=As.st
   obtain⟨Bg,Bh,Bi,Bj,Bk,Bl,Bm,Bn,Bo⟩:=As.cells
   have Ce:=Ac.cell
   have Cg:=Ac.free
   have Cc:=Ac.lt
   have Cj:=own5 Cc
   (try clear Bs Bt B0 B2 B3 B4 B5 B6 B7 B8 B9 C0)
   have Be:¬B1=w.heap.size:=by first|omega|(simp at A0;omega)
   have Bd:¬w.heap.size=B1:=by first|omega|(simp at A0;omega)
   have Ax:¬B1=w1.heap.size:=by first|omega|(simp at A0;omega)
   have Aw:¬w1.heap.size=B1:=by first|omega|(simp at A0;omega)
   have Ai:¬B1=B:=by first|omega|(simp at A0;omega)
   have Ah:¬B=B1:=by first|omega|(simp at A0;omega)
   go_wp2_with fail
   refine((c_frac B N.q b.lo 10000).to hD _ (St.turn A3 (Trn.kp Ab kpw))).mono ?_
   rintro e w3 ⟨rfl,A8⟩
   have Bv:=A8.size_le
   (try simp at Bv)
   have Cy:=tn5 A8 (w.heap.size)
   have By:=tn5 A8 (B1)
   have Ad:=Trn.nx Ab kpw A8
   have Da:=Ad.le
   have Bq:=Lt.turn A7 Ad
   have Ba:=Bq.st
   obtain⟨C1,C2,C3,C4,C5,C6,C7,C8,C9⟩:=Bq.cells
   have Cv:=Ba.cell
   have Cw:=Ba.free
   have D1:=Ba.lt
   have D0:=own5 D1
   (try clear Ce Cg Bg Bh Bi Bj Bk Bl Bm Bn Bo Cj)
   go_wp2_with fail
   refine turn (fun i=>i==7) 8 (by kernel_rfl) (by kernel_rfl) (St.cell (St.turn A3 (Trn.kp Ad kpw))) fun hG => ?_
   have A9:=fun o=>hG (w.heap.size) lto o (ne_addr (by omega))
   have Ae:=fun o=>hG (B1) lto o (ne_addr (by omega))
   have Av:=fun o=>hG (w3.heap.size) lto o (ne_addr (by omega))
   have A1:=fun o=>hG B lto (o+1) ne_off
   clear hG
   simp only[List.take_succ_cons,List.take_zero,List.drop_succ_cons,List.drop_zero]
   repeat (first|(refine wpTurn_pure rfl (fun K hK => ?_);go_simp;first|(refine hK _ _ ?_;clear hK K)|(apply Exists.intro;refine⟨fun _ _ => ?_,hK _ _ ?_⟩;(first|(go_at_call 159;with_reducible exact cal_call OQ.out));clear hK K))|(refine wpTurn_eff rfl (fun K hK => ?_);go_simp;(first|(with_reducible refine⟨_,_,fun _=>tur_st (St.turn A3 (Trn.kp Ad kpw)) (fun w h=>done_any B _ T.q T.a T.b T.c w h),?_⟩));refine hK _ _ ?_;clear hK K))
   refine wpTurn_nil ?_
   intro w4 A6
   clear A1 A9 Ae Av
   have Bw:=A6.size_le
   (try simp at Bw)
   have Cz:=tn5 A6 (w.heap.size)
   have Bz:=tn5 A6 (B1)
   have Ch:=tn5 A6 (w3.heap.size)
   have At:=Trn.nx Ad kpw A6
   have Db:=At.le
   have Br:=Lt.turn A7 At
   have Bb:=Br.st
   obtain⟨Cm,Cn,Co,Cp,Cq,Cr,Cs,Ct,Cu⟩:=Br.cells
   have D3:=Bb.cell
   have D4:=Bb.free
   have D2:=Bb.lt
   have D8:=own5 D2
   (try clear Cv Cw C1 C2 C3 C4 C5 C6 C7 C8 C9 D0)
   go_wp2_with fail
   refine turn (fun i=>i==5) 6 (by kernel_rfl) (by kernel_rfl) (St.cell (St.turn A3 (Trn.kp At kpw))) fun hG => ?_
   have A9:=fun o=>hG (w.heap.size) lto o (ne_addr (by omega))
   have Ae:=fun o=>hG (B1) lto o (ne_addr (by omega))
   have Av:=fun o=>hG (w3.heap.size) lto o (ne_addr (by omega))
   have A1:=fun o=>hG B lto (o+1) ne_off
   clear hG
   simp only[List.take_succ_cons,List.take_zero,List.drop_succ_cons,List.drop_zero]
   repeat (first|(refine wpTurn_pure rfl (fun K hK => ?_);go_simp;first|(refine hK _ _ ?_;clear hK K)|(apply Exists.intro;refine⟨fun _ _ => ?_,hK _ _ ?_⟩;(first|fail);clear hK K))|(refine wpTurn_eff rfl (fun K hK => ?_);go_simp;(first|(with_reducible refine⟨_,_,fun _=>tur_st (St.turn A3 (Trn.kp At kpw)) (fun w h=>(c_plus B T.q N T fN fT).to hV w h),?_⟩));refine hK _ _ ?_;clear hK K))
   refine wpTurn_nil ?_
   intro w5 Az
   clear A1 A9 Ae Av
   have D6:=Az.size_le
   (try simp at D6)
   have Dc:=tn5 Az (w.heap.size)
   have D7:=tn5 Az (B1)
   have D9:=tn5 Az (w3.heap.size)
   obtain⟨Df,Dd,De,Dg,Dk,Di⟩:=pkx A7 At kpw Az
   (try clear D3 D4 Cm Cn Co Cp Cq Cr Cs Ct Cu D8)
   repeat' (first|go_values|go_skip|go_guarded|go_step|go_upon|(simp only[];go_simp))
   refine bodyPost_ret (by simp[results,Tryz.results102,go_sem, *];first|done|rfl) rfl ?_
   exact⟨rfl,trw⟩
  ·have hk':(D.q==0)=false:=by simpa using hk
   have e1:T=D:=by rw[hT.out,after_err _ hk];exact(fD.zero hk).symm
   rw[e1]at hV fT
   clear hT e1
   have A3:=A7.st
   have Bp:=tr_refl A3
   obtain⟨Ak,Al,Am,An,Ao,Ap,Ag,Aq,Ar⟩:=A7.cells
   have Cd:=A3.cell
   have Cf:=A3.free
   have Ca:=A3.lt
   have Ci:=own5 Ca
   go_enter Tryz.func102,Tryz.ntmps102
   go_wp2_with fail
   refine(HM.out B e _ (Lt.turn A7 (Trn.kp Bp kpw))).mono ?_
   rintro e w1 ⟨rfl,A2⟩
   have Af:=A2.size
   (try simp at Af)
   have Bc:=bl5 A2 (w.heap.size)
   have A5:=Trn.nb Bp kpw A2
   have Cx:=A5.le
   have Aj:=Lt.turn A7 A5
   have Aa:=Aj.st
   obtain⟨B0,B2,B3,B4,B5,B6,B7,B8,B9⟩:=Aj.cells
   have Bs:=Aa.cell
   have Bt:=Aa.free
   have Cb:=Aa.lt
   have C0:=own5 Cb
   (try clear Cd Cf Ak Al Am An Ao Ap Ag Aq Ar Ci)
   go_wp2_with fail
   refine turn_new (fun i=>i==11) 12 #[.complex .f64 0 0,.int .i64 0] 57 _ rfl (by kernel_rfl) (by kernel_rfl) (by first|omega|(simp;omega)) (St.cell (St.turn A3 (Trn.kp A5 kpw))) (fun a w=>by kernel_rfl) fun hG => ?_
   have A9:=fun o=>hG (w.heap.size) lto o (ne_addr (by omega))
   have Au:=fun o=>hG (w1.heap.size) lto o (ne_addr (by omega))
   have A1:=fun o=>hG B lto (o+1) ne_off
   clear hG
   simp only[List.take_succ_cons,List.take_zero,List.drop_succ_cons,List.drop_zero]
   repeat (first|(refine wpTurn_pure rfl (fun K hK => ?_);go_simp;first|(refine hK _ _ ?_;clear hK K)|(apply Exists.intro;refine⟨fun _ _ => ?_,hK _ _ ?_⟩;(first|(go_at_call 43;with_reducible exact cal_same (fun w=>sdown_any _ _ w (by omega) (by omega) (by omega)))|(go_at_call 44;with_reducible exact cal_same (fun w=>sup_any _ _ w (by omega) (by omega) (by omega) (by omega))));clear hK K))|(refine wpTurn_eff rfl (fun K hK => ?_);go_simp;(first|(with_reducible refine⟨_,_,fun _=>tur_st (St.turn A3 (Trn.kp A5 kpw)) (fun w h=>(c_real B e (dn (b.il*1048576) 10000) (up (b.ih*1048576) 10000)).to hN w h),?_⟩));refine hK _ _ ?_;clear hK K))
   refine wpTurn_nil ?_
   intro B1 w2 hN
   obtain⟨A4,A0,Bu,Ck,Cl⟩:=hN
   (try simp at A0)
   clear A1 A9 Au
   have Ay:=A4.size_le
   (try simp at Ay)
   have Bx:=tn5 A4 (w.heap.size)
   have Bf:=tn5 A4 (w1.heap.size)
   have Ab:=Trn.nx A5 kpw A4
   have D5:=Ab.le
   have As:=Lt.turn A7 Ab
   have Ac:=As.st
   obtain⟨Bg,Bh,Bi,Bj,Bk,Bl,Bm,Bn,Bo⟩:=As.cells
   have Ce:=Ac.cell
   have Cg:=Ac.free
   have Cc:=Ac.lt
   have Cj:=own5 Cc
   (try clear Bs Bt B0 B2 B3 B4 B5 B6 B7 B8 B9 C0)
   have Be:¬B1=w.heap.size:=by first|omega|(simp at A0;omega)
   have Bd:¬w.heap.size=B1:=by first|omega|(simp at A0;omega)
   have Ax:¬B1=w1.heap.size:=by first|omega|(simp at A0;omega)
   have Aw:¬w1.heap.size=B1:=by first|omega|(simp at A0;omega)
   have Ai:¬B1=B:=by first|omega|(simp at A0;omega)
   have Ah:¬B=B1:=by first|omega|(simp at A0;omega)
   go_wp2_with fail
   refine((c_frac B N.q b.lo 10000).to hD _ (St.turn A3 (Trn.kp Ab kpw))).mono ?_
   rintro e w3 ⟨rfl,A8⟩
   have Bv:=A8.size_le
   (try simp at Bv)
   have Cy:=tn5 A8 (w.heap.size)
   have By:=tn5 A8 (B1)
   have Ad:=Trn.nx Ab kpw A8
   have Da:=Ad.le
   have Bq:=Lt.turn A7 Ad
   have Ba:=Bq.st
   obtain⟨C1,C2,C3,C4,C5,C6,C7,C8,C9⟩:=Bq.cells
   have Cv:=Ba.cell
   have Cw:=Ba.free
   have D1:=Ba.lt
   have D0:=own5 D1
   (try clear Ce Cg Bg Bh Bi Bj Bk Bl Bm Bn Bo Cj)
   go_wp2_with fail
   refine turn (fun i=>i==5) 6 (by kernel_rfl) (by kernel_rfl) (St.cell (St.turn A3 (Trn.kp Ad kpw))) fun hG => ?_
   have A9:=fun o=>hG (w.heap.size) lto o (ne_addr (by omega))
   have Ae:=fun o=>hG (B1) lto o (ne_addr (by omega))
   have Av:=fun o=>hG (w3.heap.size) lto o (ne_addr (by omega))
   have A1:=fun o=>hG B lto (o+1) ne_off
   clear hG
   simp only[List.take_succ_cons,List.take_zero,List.drop_succ_cons,List.drop_zero]
   repeat (first|(refine wpTurn_pure rfl (fun K hK => ?_);go_simp;first|(refine hK _ _ ?_;clear hK K)|(apply Exists.intro;refine⟨fun _ _ => ?_,hK _ _ ?_⟩;(first|fail);clear hK K))|(refine wpTurn_eff rfl (fun K hK => ?_);go_simp;(first|(with_reducible refine⟨_,_,fun _=>tur_st (St.turn A3 (Trn.kp Ad kpw)) (fun w h=>(c_plus B D.q N D fN fD).to hV w h),?_⟩));refine hK _ _ ?_;clear hK K))
   refine wpTurn_nil ?_
   intro w4 A6
   clear A1 A9 Ae Av
   have Bw:=A6.size_le
   (try simp at Bw)
   have Cz:=tn5 A6 (w.heap.size)
   have Bz:=tn5 A6 (B1)
   have Ch:=tn5 A6 (w3.heap.size)
   have At:=Trn.nx Ad kpw A6
   have Db:=At.le
   have Br:=Lt.turn A7 At
   have Bb:=Br.st
   obtain⟨Cm,Cn,Co,Cp,Cq,Cr,Cs,Ct,Cu⟩:=Br.cells
   have D3:=Bb.cell
   have D4:=Bb.free
   have D2:=Bb.lt
   have D8:=own5 D2
   (try clear Cv Cw C1 C2 C3 C4 C5 C6 C7 C8 C9 D0)
   repeat' (first|go_values|go_skip|go_guarded|go_step|go_upon|(simp only[];go_simp))
   refine bodyPost_ret (by simp[results,Tryz.results102,go_sem, *];first|done|rfl) rfl ?_
   exact⟨rfl,trw⟩
end Go.Proofs.YticobgianbecpaaGreatDoor
namespace Go.Proofs.YticobgianbecpaaGreatDoor
open Go Go.Sort Go.RowKit
@[go_sem high] theorem run_part0 (a b c d:Value) (w:World):(Instr.index 88 (.agg #[a,b,c,d]) (.int .i64 0)).run Tryz.prog w = .ok (.agg #[a,b]) w:=by kernel_rfl
@[go_sem high] theorem run_part1 (a b c d:Value) (w:World):(Instr.index 88 (.agg #[a,b,c,d]) (.int .i64 1)).run Tryz.prog w = .ok (.agg #[c,d]) w:=by kernel_rfl
end Go.Proofs.YticobgianbecpaaGreatDoor
namespace Go.Proofs.YticobgianbecpaaGreatDoor
open Go Go.Sort Go.RowKit
theorem sq_is {e:Int}{A:Ask}{b:Box}{n s nn ss v:Res} (hn:Is n (idxR e b)) (hs:Is s (after n.q (sideR A))) (hnn:Is nn (after s.q (ti n n))) (hss:Is ss (after nn.q (ti s s))) (hv:Is v (after ss.q (mi nn ss))) :
  Is v (nsqR e A b):=by cases hn;cases hs;cases hnn;cases hss;cases hv;unfold nsqR Is;rfl
theorem nor_bad {e:Int}{A:Ask}{b:Box}{v:Res} (hv:Is v (nsqR e A b)) (h:¬v.q=0):norR e A b=v∧stopR e A b=false:=by
 have fv:Fine v:=hv.fine (fine_sq _ _ _)
 cases hv
 constructor
 ·unfold norR;simp only;rw[after_err _ h];exact(fv.zero h).symm
 ·unfold stopR;simp only;simp[h]
theorem nor_root {e:Int}{A:Ask}{b:Box}{v:Res} (hv:Is v (nsqR e A b)) (h:v.q=0) (hl:¬b.lo=0):norR e A b=ro v∧stopR e A b=false:=by
 cases hv
 constructor
 ·unfold norR;simp only;rw[h,after_zero,if_neg hl]
 ·unfold stopR;simp only;simp[hl]
theorem nor_real {e:Int}{A:Ask}{b:Box}{v:Res} (hv:Is v (nsqR e A b)) (h:v.q=0) (hl:b.lo=0):norR e A b=realM (v.a-v.c) (v.a+v.c)∧stopR e A b=decide (v.a-v.c<0):=by
 cases hv
 constructor
 ·unfold norR;simp only;rw[h,after_zero,if_pos hl]
 ·unfold stopR;simp only;simp[h,hl]
abbrev NGives (n:Int) (B:Nat) (e:Int) (A:Ask) (q:Res) (st:Bool):Prop:=∀w,Lt B e A w→Calls Tryz.prog 39 #[.pointer (some ⟨B,0,none⟩),.int .i64 n] w fun E w' =>
 E = .returned (.tuple #[.agg #[.complex .f64 (fl q.a) (fl q.b),.int .i64 q.c],.bool st])∧Trn B q.q w w'
theorem parts_to (B:Nat) (R:Res) (hR:Fine R) (p0 p1 p2 p3:Int) (h0:pt R.q (R.a-R.c)=p0) (h1:pt R.q (R.a+R.c)=p1) (h2:pt R.q (R.b-R.c)=p2) (h3:pt R.q (R.b+R.c)=p3) (w:World) (A3:St B R.q w) :
  Calls Tryz.prog 37 #[.pointer (some ⟨B,0,none⟩),.agg #[.complex .f64 (fl R.a) (fl R.b),.int .i64 R.c]] w fun E w' =>
   E = .returned (.agg #[.int .i64 p0,.int .i64 p1,.int .i64 p2,.int .i64 p3])∧Trn B R.q w w':=by
 subst h0;subst h1;subst h2;subst h3
 exact c_parts B R.q R hR w A3
end Go.Proofs.YticobgianbecpaaGreatDoor
namespace Go.Proofs.YticobgianbecpaaGreatDoor
open Go Go.Sort Go.RowKit
theorem pos_bd (n:Int) (h:n≤134217728):0≤pos n∧pos n≤134217728:=by unfold pos;split<;>omega
theorem positive_any (a b:Int) (w:World):Calls Tryz.prog 41 #[.agg #[.int .i64 a,.int .i64 b]] w fun E w'=>E = .returned (.agg #[.int .i64 (pos a),.int .i64 (pos b)])∧Below w.heap.size w w':=by
 unfold pos
 go_enter Tryz.func41,Tryz.ntmps41
 by_cases ha:a<0
 all_goals by_cases hb:b<0
 all_goals go_wp2
 all_goals refine bodyPost_ret (by simp[results,Tryz.results41,go_sem, *];first|done|rfl) rfl ?_
 all_goals exact⟨by simp[*]<;>omega,blw⟩
structure Lay (A:Ask) (n:Int) (b:Box) (j:Nat):Prop where
 med:Med A n b
 eq:n=j+1
 at':A.ls[j]?=some b
theorem pt_bd {R:Res} (h:Fine R):(-134217728≤pt R.q (R.a-R.c)∧pt R.q (R.a-R.c)≤134217728)∧(-134217728≤pt R.q (R.a+R.c)∧pt R.q (R.a+R.c)≤134217728)∧(-134217728≤pt R.q (R.b-R.c)∧pt R.q (R.b-R.c)≤134217728)∧(-134217728≤pt R.q (R.b+R.c)∧pt R.q (R.b+R.c)≤134217728):=by
 obtain⟨⟨b1,b2,b3,b4⟩,b5,b6⟩:=h.right
 unfold pt
 split<;>omega
theorem mul4_bd {p t:Int} (hp:p≤134217728) (t0:0≤t) (t1:t≤1000000):0≤4*pos p*t∧4*pos p*t≤536870912000000:=by
 have h:=pos_bd p hp
 exact⟨Int.mul_nonneg (by omega) t0,by have:=Int.mul_le_mul (show 4*pos p≤536870912 by omega) t1 t0 (by decide);omega⟩
structure TurPre (A:Ask) (b:Box):Prop where
 t0:0≤b.tl
 t1:b.tl≤1000000
 t2:0≤b.th
 t3:b.th≤1000000
 w0:1000≤A.wl
 w1:A.wl≤200000
 w2:1000≤A.wh
 w3:A.wh≤200000
 ln:A.ls.length≤40
end Go.Proofs.YticobgianbecpaaGreatDoor
namespace Go.Proofs.YticobgianbecpaaGreatDoor
open Go Go.Sort Go.RowKit
theorem fine_fac (e:Int) (A:Ask) (b:Box) (n:Int):Fine (facR e A b n):=by unfold facR;simp only;exact fine_after _ (fine_ti _ _)
theorem fine_disc:Fine (.good 0 0 1048576):=by show Right 0 0 1048576;unfold Right Fits;omega
theorem fac_bad {e:Int}{A:Ask}{b:Box}{n:Int} (h:¬(norR e A b).q=0):facR e A b n = .bad (norR e A b).q:=by
 unfold facR
 simp only
 rw[after_err _ h,(quad_bad _).2.2.2,after_err _ h,(quad_bad _).2.2.2,after_err _ h]
theorem fac_arc {e:Int}{A:Ask}{b:Box}{n:Int}{C R:Res} (h:(norR e A b).q=0) (hc:n*turR 1 e A b-n*turR 0 e A b<1048576) (hC:Is C (arcM (n*turR 0 e A b) (n*turR 1 e A b)))
  (hR:Is R (after C.q (ofRangeM (fLo (n*turR 3 e A b)) (fHi (n*turR 2 e A b))))):Is (facR e A b n) (after R.q (ti C R)):=by
 cases hC;cases hR;unfold facR Is;simp only;rw[h,after_zero,if_pos hc]
theorem fac_all {e:Int}{A:Ask}{b:Box}{n:Int}{R:Res} (h:(norR e A b).q=0) (hc:¬n*turR 1 e A b-n*turR 0 e A b<1048576)
  (hR:Is R (after 0 (ofRangeM (fLo (n*turR 3 e A b)) (fHi (n*turR 2 e A b))))):Is (facR e A b n) (after R.q (ti (.good 0 0 1048576) R)):=by
 cases hR;unfold facR Is;simp only;rw[h,after_zero,if_neg hc,(quad_good _ _ _).2.2.2]
abbrev TGives (n:Int) (B:Nat) (e:Int) (A:Ask) (t0 t1 t2 t3 q:Int):Prop:=∀w,Lt B e A w→Calls Tryz.prog 124 #[.pointer (some ⟨B,0,none⟩),.int .i64 n] w fun E w' =>
 E = .returned (.agg #[.int .i64 t0,.int .i64 t1,.int .i64 t2,.int .i64 t3])∧Trn B q w w'
structure FacPre (n t0 t1 t2 t3:Int):Prop where
 a0:0≤n*t0
 a1:n*t0≤1099511627776
 b0:0≤n*t1
 b1:n*t1≤1099511627776
 c0:0≤n*t2
 c1:n*t2≤n*t3
 d1:n*t3≤1099511627776
end Go.Proofs.YticobgianbecpaaGreatDoor
