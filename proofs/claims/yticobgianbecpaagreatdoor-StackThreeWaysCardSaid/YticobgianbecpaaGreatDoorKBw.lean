/- Joined: StepWalk RowB FromBelow. -/
import Derived.Test.YticobgianbecpaaGreatDoorKThr
import Derived.Test.YticobgianbecpaaGreatDoorKBel
import Derived.Test.YticobgianbecpaaGreatDoorCalmTwo
import Derived.Test.YticobgianbecpaaGreatDoorKFit
import Derived.Maps.AppendAt
import Derived.Test.YticobgianbecpaaGreatDoorKOp
namespace Go.Proofs.YticobgianbecpaaGreatDoor
open Go Go.Sort Go.RowKit
theorem stp_is {e:Int}{a b d s:Res} (hd:Is d (after e (mi a b))) (hs:Is s (after d.q (pl a b))):Is (stpR e a b) (after s.q (qt d s)):=by
 cases hd;cases hs;unfold stpR Is;rfl
theorem fine_stp (e:Int) (a b:Res):Fine (stpR e a b):=by unfold stpR;exact fine_after _ (fine_qt _ _)
set_option maxRecDepth 100000 in
set_option maxHeartbeats 8000000 in
theorem step_any (B:Nat) (e:Int) (A:Ask) (a b:Res) (fa:Fine a) (fb:Fine b) :
  LGives 71 #[.pointer (some ⟨B,0,none⟩),.agg #[.complex .f64 (fl a.a) (fl a.b),.int .i64 a.c],.agg #[.complex .f64 (fl b.a) (fl b.b),.int .i64 b.c]] B e A (stpR e a b):=by
 intro w Ag
 obtain⟨d,hd⟩:=is_ex (after e (mi a b))
 have fd:Fine d:=hd.fine (fine_after _ (fine_mi _ _))
 obtain⟨s,hs⟩:=is_ex (after d.q (pl a b))
 have fs:Fine s:=hs.fine (fine_after _ (fine_pl _ _))
 have HR:=stp_is hd hs
 obtain⟨R,hR⟩:=is_ex (after s.q (qt d s))
 rw[HR.out,← hR.out]
 have Td:=Lib.hid ((c_minus B e a b fa fb).to hd)
 have Ts:=Lib.hid ((c_plus B d.q a b fa fb).to hs)
 have TR:=Lib.hid ((c_by B s.q d s fd fs).to hR)
 clear HR hd hs hR fd fs fa fb
 have A7:=Ag.st
 have Ex:=tr_refl A7
 obtain⟨Ch,Cj,Cn,Cq,Cw,Cy,D1,D3,D5⟩:=Ag.cells
 have F7:=A7.cell
 have F9:=A7.free
 have Ey:=A7.lt
 have I9:=own5 Ey
 go_enter Tryz.func71,Tryz.ntmps71
 go_wp2_with fail
 refine turn_new (fun i=>i==5) 6 #[.complex .f64 0 0,.int .i64 0] 57 _ rfl (by kernel_rfl) (by kernel_rfl) (by first|omega|(simp;omega)) (St.cell (St.turn A7 (Trn.kp Ex kpw))) (fun a w=>by kernel_rfl) fun hG => ?_
 have Fb:=fun o=>hG (w.heap.size) lto o (ne_addr (by omega))
 have Ce:=fun o=>hG (w.heap.size+1) lto o (ne_addr (by omega))
 have Cf:=fun o=>hG (w.heap.size+1+1) lto o (ne_addr (by omega))
 have A2:=fun o=>hG B lto (o+1) ne_off
 clear hG
 simp only[List.take_succ_cons,List.take_zero,List.drop_succ_cons,List.drop_zero]
 repeat (first|(refine wpTurn_pure rfl (fun K hK => ?_);go_simp;first|(refine hK _ _ ?_;clear hK K)|(apply Exists.intro;refine⟨fun _ _ => ?_,hK _ _ ?_⟩;(first|fail);clear hK K))|(refine wpTurn_eff rfl (fun K hK => ?_);go_simp;(first|(with_reducible refine⟨_,_,fun _=>tur_st (St.turn A7 (Trn.kp Ex kpw)) (fun w h=>Td.out w h),?_⟩));refine hK _ _ ?_;clear hK K))
 refine wpTurn_nil ?_
 intro B1 w1 hN
 obtain⟨Bn,A0,Eg,Eb,Ee⟩:=hN
 (try simp at A0)
 clear A2 Fb Ce Cf
 have Ca:=Bn.size_le
 (try simp at Ca)
 have Iy:=tn5 Bn (w.heap.size)
 have Em:=tn5 Bn (w.heap.size+1)
 have Hl:=tn5 Bn (w.heap.size+1+1)
 obtain⟨C7,F6,H9,Ha,F2,F1⟩:=pkx Ag Ex kpw Bn
 (try clear F7 F9 Ch Cj Cn Cq Cw Cy D1 D3 D5)
 have Ig:¬B1=w.heap.size:=by first|omega|(simp at A0;omega)
 have If:¬w.heap.size=B1:=by first|omega|(simp at A0;omega)
 have Ga:¬B1=w.heap.size+1:=by first|omega|(simp at A0;omega)
 have Fo:¬w.heap.size+1=B1:=by first|omega|(simp at A0;omega)
 have Gb:¬B1=w.heap.size+1+1:=by first|omega|(simp at A0;omega)
 have Fp:¬w.heap.size+1+1=B1:=by first|omega|(simp at A0;omega)
 have C6:¬B1=B:=by first|omega|(simp at A0;omega)
 have C5:¬B=B1:=by first|omega|(simp at A0;omega)
 go_wp2_with fail
 refine turn (fun i=>i==9||i==10) 11 (by kernel_rfl) (by kernel_rfl) (St.cell (St.turn A7 (Trn.kp C7 kpw))) fun hG => ?_
 have Fb:=fun o=>hG (w.heap.size) lto o (ne_addr (by omega))
 have Ce:=fun o=>hG (w.heap.size+1) lto o (ne_addr (by omega))
 have Cf:=fun o=>hG (w.heap.size+1+1) lto o (ne_addr (by omega))
 have A9:=fun o=>hG (B1) lto o (ne_addr (by omega))
 have A2:=fun o=>hG B lto (o+1) ne_off
 clear hG
 simp only[List.take_succ_cons,List.take_zero,List.drop_succ_cons,List.drop_zero]
 repeat (first|(refine wpTurn_pure rfl (fun K hK => ?_);go_simp;first|(refine hK _ _ ?_;clear hK K)|(apply Exists.intro;refine⟨fun _ _ => ?_,hK _ _ ?_⟩;(first|fail);clear hK K))|(refine wpTurn_eff rfl (fun K hK => ?_);go_simp;(first|(first|with_reducible refine⟨_,_,fun _=>tur_st (St.turn A7 (Trn.kp C7 kpw)) (fun w h=>Ts.out w h),?_⟩|with_reducible refine⟨_,_,fun _=>tur_st (St.turn A7 (Trn.kp C7 kpw)) (fun w h=>TR.out w h),?_⟩));refine hK _ _ ?_;clear hK K))
 refine wpTurn_nil ?_
 intro w2 Ao
 clear A2 Fb Ce Cf A9
 have El:=Ao.size_le
 (try simp at El)
 have Iz:=tn5 Ao (w.heap.size)
 have I1:=tn5 Ao (w.heap.size+1)
 have I2:=tn5 Ao (w.heap.size+1+1)
 have I3:=tn5 Ao (B1)
 obtain⟨Ez,Ip,Iq,Ir,I4,Hm⟩:=pkx Ag C7 kpw Ao
 (try clear F1 F2)
 repeat' (first|go_values|go_skip|go_guarded|go_step|go_upon|(simp only[];go_simp))
 refine bodyPost_ret (by simp[results,Tryz.results71,go_sem, *];first|done|rfl) rfl ?_
 exact⟨rfl,trw⟩
@[irreducible] def sizQ (e:Int) (R:Res):Int:=if e=0 then bigR R else 0
set_option maxRecDepth 100000 in
set_option maxHeartbeats 8000000 in
theorem sizeOf_any (B:Nat) (e:Int) (A:Ask) (R:Res) (fR:Fine R) (w:World) (Ag:Lt B e A w) :
  Calls Tryz.prog 81 #[.pointer (some ⟨B,0,none⟩),.agg #[.complex .f64 (fl R.a) (fl R.b),.int .i64 R.c]] w fun E w'=>E = .returned (.int .i64 (sizQ e R))∧Trn B e w w':=by
 unfold sizQ
 by_cases he:e=0
 ·subst he
  rw[if_pos rfl]
  have SZ:=fun w=>SizeOf_yes R.a R.b R.c w fR.right
  have e1:rtu (R.a*R.a+R.b*R.b)+R.c=bigR R:=by unfold bigR;rfl
  rw[e1]at SZ
  generalize max 0 (rt (R.a*R.a+R.b*R.b)-R.c)=lo at *
  generalize bigR R=hi at *
  have SZ:=Lib.hid SZ
  clear e1 fR
  have A7:=Ag.st
  have Ex:=tr_refl A7
  obtain⟨Ch,Cj,Cn,Cq,Cw,Cy,D1,D3,D5⟩:=Ag.cells
  have F7:=A7.cell
  have F9:=A7.free
  have Ey:=A7.lt
  have I9:=own5 Ey
  go_enter Tryz.func81,Tryz.ntmps81
  go_wp2_with fail
  refine(SZ.out _).mono ?_
  rintro e w1 ⟨rfl,Ea⟩
  have Ca:=Ea.size
  (try simp at Ca)
  have Em:=bl5 Ea (w.heap.size+1)
  obtain⟨C7,F6,H9,Ha,F2,F1⟩:=pkb Ag Ex kpw Ea
  (try clear F7 F9 Ch Cj Cn Cq Cw Cy D1 D3 D5)
  repeat' (first|go_values|go_skip|go_guarded|go_step|go_upon|(simp only[];go_simp))
  go_ret
  exact⟨rfl,trw⟩
 ·rw[if_neg he]
  have he1:(e != 0)=true:=by simpa using he
  clear fR
  have A7:=Ag.st
  have Ex:=tr_refl A7
  obtain⟨Ch,Cj,Cn,Cq,Cw,Cy,D1,D3,D5⟩:=Ag.cells
  have F7:=A7.cell
  have F9:=A7.free
  have Ey:=A7.lt
  have I9:=own5 Ey
  go_enter Tryz.func81,Tryz.ntmps81
  repeat' (first|go_values|go_skip|go_guarded|go_step|go_upon|(simp only[];go_simp))
  go_ret
  exact⟨rfl,trw⟩
def cellsB (l:List Res):List Value:=l.flatMap fun R => [.complex .f64 (fl R.a) (fl R.b),.int .i64 R.c]
theorem cellsB_next (l:List Res) (R:Res):cellsB (l ++ [R])=cellsB l ++ [.complex .f64 (fl R.a) (fl R.b),.int .i64 R.c]:=by
 unfold cellsB
 rw[List.flatMap_append]
 simp
theorem cellsB_at {l:List Res}{j:Nat}{R:Res} (h:l[j]?=some R):(cellsB l)[j*2]?=some (.complex .f64 (fl R.a) (fl R.b))∧(cellsB l)[j*2+1]?=some (.int .i64 R.c):=by
 induction l generalizing j with
 | nil=>simp at h
 | cons x l ih =>
  have e:cellsB (x::l) = .complex .f64 (fl x.a) (fl x.b) :: .int .i64 x.c::cellsB l:=rfl
  rw[e]
  cases j with
  | zero =>
   simp only[List.getElem?_cons_zero,Option.some.injEq]at h
   subst h
   exact⟨rfl,rfl⟩
  | succ j =>
   have h':l[j]?=some R:=by simpa using h
   obtain⟨h1,h2⟩:=ih h'
   rw[show(j+1)*2=j*2+1+1 by omega]
   exact⟨by simpa using h1,by simpa using h2⟩
theorem cellsB_len (l:List Res):(cellsB l).length=l.length*2:=by
 induction l with
 | nil=>rfl
 | cons x l ih =>
  have e:cellsB (x::l) = .complex .f64 (fl x.a) (fl x.b) :: .int .i64 x.c::cellsB l:=rfl
  rw[e]
  simp only[List.length_cons,ih]
  omega
def admL (A:Ask) (k:Nat):List Res:=(List.range k).map (admY A)
theorem admL_next (A:Ask) (k:Nat):admL A (k+1)=admL A k ++ [admY A k]:=by unfold admL;rw[List.range_succ,List.map_append];rfl
theorem admL_len (A:Ask) (k:Nat):(admL A k).length=k:=by unfold admL;simp
theorem admL_at (A:Ask){k j:Nat} (h:j<k):(admL A k)[j]?=some (admY A j):=by unfold admL;simp[h]
theorem fine_admY (A:Ask) (k:Nat):Fine (admY A k):=fine_adm _ _ _
structure RowB (p:Option Addr) (l:List Res) (w:World):Prop where
 get:∀(j:Nat) (R:Res),l[j]?=some R→∃g,p=some ⟨g,0,none⟩∧g<w.heap.size∧w.cell? ⟨g,j*2,none⟩=some (.complex .f64 (fl R.a) (fl R.b))∧w.cell? ⟨g,j*2+1,none⟩=some (.int .i64 R.c)
theorem add_zero' (g j:Nat):(⟨g,0,none⟩:Addr).add j=⟨g,j,none⟩:=by
 unfold Addr.add
 by_cases h:j=0
 ·subst h;simp
 ·simp[h]
theorem rowB_own {V:Value}{N n:Nat}{T:TypeId}{l:List Res}{w:World} (_hl:l.length=n) (h0:0<n) (ho:w.ownsRow N T 2 V n (cellsB l)):∃g c,V = .slice (some ⟨g,0,none⟩) n c∧N≤g∧RowB (some ⟨g,0,none⟩) l w:=by
 rcases ho.2 with⟨e,h1⟩|⟨g,cap,cur,e,h1⟩
 ·omega
 ·have hlt:=ho.lt g (by rw[e];rfl)
  refine⟨g,cap,e,hlt.1,⟨fun j R hj => ?_⟩⟩
  obtain⟨a1,a2⟩:=cellsB_at hj
  have c1:=ho.cells (by rw[e];rfl) _ _ a1
  have c2:=ho.cells (by rw[e];rfl) _ _ a2
  rw[add_zero']at c1 c2
  exact⟨g,rfl,hlt.2,c1,c2⟩
theorem ball_info:∃i,(Tryz.prog.info? 57)=some i∧i.zero=some (.agg #[.complex .f64 0 0,.int .i64 0])∧i.size=2∧i.bytes=24:=info_parts (by kernel_rfl)
theorem ball_cell (x y:Nat) (c:Int):∀u ∈ [Value.complex .f64 x y,.int .i64 c],u.oneCell'=true:=by
 intro u hu
 simp at hu
 rcases hu with rfl|rfl<;>rfl
theorem cell_ball_at {w:World}{g:Nat} (hg:w.heap.size=g) (x y:Value) (t:TypeId):∀j u,[x,y][j]?=some u→(w.alloc (.cells #[x,y] t)).cell? ((⟨g,0,none⟩:Addr).add j)=some u:=by
 subst hg
 intro j u hj
 match j,hj with
 | 0,hj=>simp at hj;subst hj;simp[Addr.add]
 | 1,hj=>simp at hj;subst hj;simp[Addr.add]
theorem own_trn {w w':World}{N B n size:Nat}{T:TypeId}{V:Value}{s:Int}{xs:List Value} (h:w.ownsRow N T size V n xs) (hB:B<N) (t:Trn B s w w'):w'.ownsRow N T size V n xs:=by
 have k:=ownsRow_setCell_below h (a:=⟨B,0,none⟩) hB (.int .i64 s)
 have t':Below (w.setCell ⟨B,0,none⟩ (.int .i64 s)).heap.size (w.setCell ⟨B,0,none⟩ (.int .i64 s)) w':=by rw[size_set];exact t
 exact k.kept (grown_of_bel t' none) (by cases V.ownBlock<;>simp)
theorem med_any2 (A:Ask) (hA:AskOk A){k:Nat} (hk:k≤A.ls.length+1):Med A k (A.med k):=by
 by_cases h0:k=0
 ·subst h0;rw[med_zero];exact med_front A hA
 ·by_cases h1:k=A.ls.length+1
  ·subst h1;rw[med_past];exact med_last A hA
  ·obtain⟨j,rfl⟩:∃j,k=j+1:=⟨k-1,by omega⟩
   rw[med_at (show j<A.ls.length by omega)]
   exact med_layer A hA j _ (List.getElem?_eq_getElem (by omega))
theorem trn_grown {B:Nat}{s:Int}{w w1 w':World}{v:Value} (t:Trn B s w w1) (g:w1.grownBy w' v.ownBlock) (hv:∀b,v.ownBlock=some b→w.heap.size≤b):Trn B s w w':=by
 unfold Trn at *
 have t':Below (w.setCell ⟨B,0,none⟩ (.int .i64 s)).heap.size (w.setCell ⟨B,0,none⟩ (.int .i64 s)) w1:=by rw[size_set];exact t
 have:=grown_bel (v:=v) t' g (fun b hb=>by rw[size_set];exact hv b hb)
 rw[size_set]at this
 exact this
set_option maxRecDepth 100000 in
set_option maxHeartbeats 16000000 in
theorem admittances_any (B:Nat) (A:Ask) (hA:AskOk A) (w:World) (Ag:Lt B 0 A w) :
  Calls Tryz.prog 70 #[.pointer (some ⟨B,0,none⟩)] w fun E w'=>∃g c,E = .returned (.slice (some ⟨g,0,none⟩) (A.ls.length+2) c)∧w.heap.size≤g∧RowB (some ⟨g,0,none⟩) (admL A (A.ls.length+2)) w'∧Trn B (admE A (A.ls.length+2)) w w':=by
 have hlen:=hA.len
 have hw1:wrap64 ((A.ls.length:Int)+2)=A.ls.length+2:=IntWalk.wrap64_in _ ⟨by omega,by omega⟩
 have hw2:IntKind.i64.wrap ((A.ls.length:Int)+2)=A.ls.length+2:=IntWalk.i64_in _ ⟨by omega,by omega⟩
 obtain⟨ii,hi0,hi1,hi2,hi3⟩:=ball_info
 have A7:=Ag.st
 have Ex:=tr_refl A7
 obtain⟨Ch,Cj,Cn,Cq,Cw,Cy,D1,D3,D5⟩:=Ag.cells
 have F7:=A7.cell
 have F9:=A7.free
 have Ey:=A7.lt
 have I9:=own5 Ey
 go_enter Tryz.func70,Tryz.ntmps70
 go_wp2_with fail
 go_loopw [3,12] (fun V i wr=>∃k:Nat,k≤A.ls.length+2∧i = .int .i64 k∧Trn B (admE A k) w wr∧wr.ownsRow w.heap.size 57 2 V k (cellsB (admL A k))) (fun _ i _=>A.ls.length+2-(intOf i).toNat)
 case atStart=>exact⟨0,by omega,rfl,Ex,World.ownsRow_nil _ _ _ _⟩
 case round =>
  obtain⟨k,hk,rfl,Bm,hown⟩:=hrel
  have It:=Bm.le
  have E3:=Lt.turn Ag Bm
  have Cd:=E3.st
  obtain⟨Eo,Ep,Eq,Er,Es,Et,Eu,Ev,Ew⟩:=E3.cells
  have F8:=Cd.cell
  have Fa:=Cd.free
  have Fn:=Cd.lt
  have Fm:=own5 Fn
  by_cases hlt:k<A.ls.length+2
  ·have AD:=Lib.hid (show LGives 38 #[.pointer (some ⟨B,0,none⟩),.int .i64 k] B (admE A k) A (admY A k)from adm_any B (admE A k) A k (A.med k) hA (med_any2 A hA (by omega)))
   have eq:(admY A k).q=admE A (k+1):=rfl
   have en:=admL_next A k
   generalize admY A k=Y at *
   have hc1:((k:Int)<A.ls.length+2):=by omega
   have HC:=Lib.hid (And.intro (show k+1≤maxLen by unfold maxLen;omega) (show(k+1)*24≤140737488355328 by omega))
   have hown:=Lib.hid hown
   have zB:=Ey
   go_wp2_with fail
   refine(AD.out _ (Lt.turn Ag (Trn.kp Bm kpw))).mono ?_
   rintro e w21 ⟨rfl,Ad⟩
   have Bp:=Ad.size_le
   (try simp at Bp)
   obtain⟨Ae,Bu,Am,E8,Js,Jq⟩:=pkx Ag Bm kpw Ad
   (try clear F8 Fa Eo Ep Eq Er Es Et Eu Ev Ew Fm)
   go_wp2_with (at_builtin;refine wpList_mark ?_)
   have hownt:=own_trn hown.out zB Ad
   have hsz21:=Ad.size_le
   refine wpList_append_own_at _ rfl _ _ 121 rfl w.heap.size 57 ii _ 2 24 Tryz.underlying121 hi0 hi1 hi2 hi3 rfl (by decide) _ k (cellsB (admL A k)) rfl (hownt.alloc _) ⟨_,0,none⟩ 1 1 [.complex .f64 (fl Y.a) (fl Y.b),.int .i64 Y.c] rfl rfl (cell_ball_at rfl _ _ _) (ball_cell _ _ _) HC.out.1 HC.out.2 (by first|omega|(simp;omega)) ?_
   intro V2 w30 hown2 hgrow hnil hloc
   have hown3:=Lib.hid (show w30.ownsRow w.heap.size 57 2 V2 (k+1) (cellsB (admL A (k+1)))from by rw[en,cellsB_next];exact hown2)
   have t30:Trn B Y.q w w30:=trn_grown (Ae.bel ((Below.refl _ _).alloc (Nat.le_refl _) _)) hgrow (fun b hb=>(hownt.lt b hb).1)
   rw[eq]at t30
   have t30:=Lib.hid t30
   clear hown2 hgrow hnil hloc hownt HC
   go_wp2_with fail
   go_roundw
   case rel=>exact⟨k+1,by omega,by first|(simp;done)|(simp;omega),t30.out,hown3.out⟩
   case measure=>simp[intOf];omega
  ·obtain rfl:k=A.ls.length+2:=by omega
   have hc1:¬(((A.ls.length+2:Nat):Int)<A.ls.length+2):=by omega
   obtain⟨g,c,rfl,hg,hrow⟩:=rowB_own (admL_len A _) (by omega) hown
   clear hown
   go_wp2
   go_ret
   first|exact⟨g,⟨c,rfl⟩,hg,hrow,Bm⟩|exact⟨g,c,rfl,hg,hrow,Bm⟩
end Go.Proofs.YticobgianbecpaaGreatDoor
namespace Go.Proofs.YticobgianbecpaaGreatDoor
open Go Go.Sort Go.RowKit
theorem RowB.at {g:Nat}{l:List Res}{w:World} (h:RowB (some ⟨g,0,none⟩) l w){j:Nat}{R:Res} (hj:l[j]?=some R):w.cell? ⟨g,j*2,none⟩=some (.complex .f64 (fl R.a) (fl R.b))∧w.cell? ⟨g,j*2+1,none⟩=some (.int .i64 R.c)∧g<w.heap.size:=by
 obtain⟨g',e,h1,h2,h3⟩:=h.get j R hj
 injection e with e
 injection e with e
 subst e
 exact⟨h2,h3,h1⟩
theorem RowB.keep {g:Nat}{l:List Res}{w w':World} (h:RowB (some ⟨g,0,none⟩) l w) (hs:w.heap.size≤w'.heap.size) (hc:∀o,w'.cell? ⟨g,o,none⟩=w.cell? ⟨g,o,none⟩):RowB (some ⟨g,0,none⟩) l w' :=
 ⟨fun j R hj=>by obtain⟨h1,h2,h3⟩:=h.at hj;exact⟨g,rfl,by omega,(hc _).trans h1,(hc _).trans h2⟩⟩
end Go.Proofs.YticobgianbecpaaGreatDoor
namespace Go.Proofs.YticobgianbecpaaGreatDoor
open Go Go.Sort Go.RowKit
theorem bel_is {A:Ask}{b:Box}{y0 y1 n g f z k E u r p m v t:Res}{s:Blw}{q:Int} (hq:s.t.q=q) (h1:Is n (stpR q y0 y1)) (h2:Is g (facR n.q A b 2)) (h3:Is f (facR g.q A b 1)) (h4:Is z (after f.q (ti s.r g))) (h5:Is k (after z.q (ti n z)))
  (h6:Is E (after k.q (pl oneR k))) (h7:Is u (after E.q (pl n z))) (h8:Is r (after u.q (qt u E))) (h9:Is p (after r.q (pl oneR n))) (h10:Is m (after p.q (ti f s.t))) (h11:Is v (after m.q (ti p m))) (h12:Is t (after v.q (qt v E))):belR A b y0 y1 s=⟨r,t⟩:=by
 subst hq
 cases h1;cases h2;cases h3;cases h4;cases h5;cases h6;cases h7;cases h8;cases h9;cases h10;cases h11;cases h12
 unfold belR
 rfl
theorem jw {j n:Nat} (h:j+1≤n) (hn:n≤40):wrap64 ((j:Int)+1)=j+1∧IntKind.i64.wrap ((j:Int)+1)=j+1∧wrap64 ((j:Int)-1)=j-1∧IntKind.i64.wrap ((j:Int)-1)=j-1 :=
 ⟨IntWalk.wrap64_in _ ⟨by omega,by omega⟩,IntWalk.i64_in _ ⟨by omega,by omega⟩,IntWalk.wrap64_in _ ⟨by omega,by omega⟩,IntWalk.i64_in _ ⟨by omega,by omega⟩⟩
theorem result2_at (B:Nat) (q:Int) (r t X Y:Res) (hX:after q r=X) (hY:after q t=Y) (A:Ask) (w:World) (L:Lt B q A w) :
  Calls Tryz.prog 77 #[.pointer (some ⟨B,0,none⟩),.agg #[.complex .f64 (fl r.a) (fl r.b),.int .i64 r.c,.complex .f64 (fl t.a) (fl t.b),.int .i64 t.c]] w fun e w'=>e = .returned (.tuple #[.agg #[.complex .f64 (fl X.a) (fl X.b),.int .i64 X.c,.complex .f64 (fl Y.a) (fl Y.b),.int .i64 Y.c],.int .i64 q])∧Below w.heap.size w w':=by
 subst hX
 subst hY
 exact result2_any B q r t w L.st
def HidG (A:Ask) (j:Nat) (s T:Blw):Prop:=belG A j s=T
set_option maxRecDepth 100000 in
set_option maxHeartbeats 32000000 in
theorem FromBelow_good (A:Ask) (hA:AskOk A) (T:Blw) (hT:belT A=T) (X Y:Res) (hX:after T.t.q T.r=X) (hY:after T.t.q T.t=Y) (u:World) (hr:Row A.pa A.ls u) (hpa:∀a,A.pa=some a→a.block<u.heap.size) :
  Calls Tryz.prog 21 #[A.val] u fun e w'=>e = .returned (.tuple #[.agg #[.complex .f64 (fl X.a) (fl X.b),.int .i64 X.c,.complex .f64 (fl Y.a) (fl Y.b),.int .i64 Y.c],.int .i64 T.t.q])∧Below u.heap.size u w':=by
 have OP:=fun w hr hpa=>open_any A hA w hr hpa
 have AM:=fun B w L=>admittances_any B A hA w L
 have hlen:=hA.len
 have HA:=Lib.hid hA
 have hT0:=hT
 unfold belT belS at hT0
 dsimp only at hT0
 obtain⟨r0,hr0⟩:=is_ex (stpR (admE A (A.ls.length+2)) (admY A A.ls.length) (admY A (A.ls.length+1)))
 obtain⟨t0,ht0⟩:=is_ex (after r0.q (pl oneR r0))
 have fr0:Fine r0:=hr0.fine (fine_stp _ _ _)
 have ft0:Fine t0:=ht0.fine (fine_after _ (fine_pl _ _))
 rw[← hr0.out,← ht0.out]at hT0
 have hT0:HidG A A.ls.length ⟨r0,t0⟩ T:=hT0
 have hT0:=Lib.hid hT0
 unfold Ask.val at OP ⊢
 have OP:=Lib.hid OP
 have AM:=Lib.hid AM
 have HR:=Lib.hid hr
 have HP:=Lib.hid hpa
 have HX:=Lib.hid (And.intro hX hY)
 clear hr hpa hA hX hY hT
 have w1a:wrap64 ((A.ls.length:Int)+1)=A.ls.length+1:=IntWalk.wrap64_in _ ⟨by omega,by omega⟩
 have w1b:IntKind.i64.wrap ((A.ls.length:Int)+1)=A.ls.length+1:=IntWalk.i64_in _ ⟨by omega,by omega⟩
 have w2a:wrap64 ((A.ls.length:Int)-1)=A.ls.length-1:=IntWalk.wrap64_in _ ⟨by omega,by omega⟩
 have w2b:IntKind.i64.wrap ((A.ls.length:Int)-1)=A.ls.length-1:=IntWalk.i64_in _ ⟨by omega,by omega⟩
 go_enter Tryz.func21,Tryz.ntmps21
 go_wp2_with fail
 refine(OP.out _ (HR.out.bel blw) (fun a h=>by have:=HP.out a h;simp;omega)).mono ?_
 rintro e w ⟨B,hB,rfl,Ag,E9⟩
 simp at hB
 clear OP HR HP
 have Iw:=E9.size
 simp at Iw
 have Ed:=blc E9 u.heap.size
 have An:=blc E9 (u.heap.size+1)
 have C9:=blf E9 (u.heap.size+1)
 have Ix:u.heap.size<w.heap.size:=by omega
 have Hj:u.heap.size+1<w.heap.size:=by omega
 have FIN:=Lib.hid (fun s w' (t:Trn B s w w')=>Below.trans (show Below u.heap.size u w from blw) (t.below (show u.heap.size≤B by omega) (show u.heap.size≤w.heap.size by omega)))
 have a6:w.cell? ⟨u.heap.size,6,none⟩=some (.slice A.pa A.ls.length A.cap):=(Ed 6).trans (by go_simp)
 have Ia:w.cell? ⟨u.heap.size+1,0,none⟩=some (.complex .f64 0 0):=(An 0).trans (by go_simp)
 have Ib:w.cell? ⟨u.heap.size+1,1,none⟩=some (.int .i64 0):=(An 1).trans (by go_simp)
 have Ic:w.cell? ⟨u.heap.size+1,2,none⟩=some (.complex .f64 0 0):=(An 2).trans (by go_simp)
 have Id:w.cell? ⟨u.heap.size+1,3,none⟩=some (.int .i64 0):=(An 3).trans (by go_simp)
 have Ie:∀o,w.frozen? ⟨u.heap.size+1,o,none⟩=false:=fun o=>(C9 o).trans (by go_simp)
 clear An C9
 clear Ed E9
 have hnu:¬u.heap.size=B:=by omega
 have hnu1:¬u.heap.size+1=B:=by omega
 have hzB:B<w.heap.size:=Ag.st.lt
 have A7:=Ag.st
 have Ex:=tr_refl A7
 obtain⟨Ch,Cj,Cn,Cq,Cw,Cy,D1,D3,D5⟩:=Ag.cells
 have F7:=A7.cell
 have F9:=A7.free
 have Ey:=A7.lt
 have I9:=own5 Ey
 go_wp2_with fail
 refine(AM.out B _ Ag).mono ?_
 rintro e w1 ⟨g,gc,rfl,hg,hrow,Bn⟩
 have Ca:=Bn.size_le
 (try simp at Ca)
 obtain⟨Ij,Ii,Ih,De,F0⟩:=tn5 Bn (u.heap.size)
 have Hk:=tn5 Bn (u.heap.size+1)
 obtain⟨C7,F6,H9,Ha,F2,F1⟩:=pkx Ag Ex kpw Bn
 (try clear F7 F9 Ch Cj Cn Cq Cw Cy D1 D3 D5 I9)
 have a61:w1.cell? ⟨u.heap.size,6,none⟩=some (.slice A.pa A.ls.length A.cap):=(De 6).trans a6
 clear a6 De F0
 obtain⟨y0a,y0b,hgz⟩:=hrow.at (admL_at A (show A.ls.length<A.ls.length+2 by omega))
 obtain⟨y1a,y1b,_⟩:=hrow.at (admL_at A (show A.ls.length+1<A.ls.length+2 by omega))
 have HROW:=Lib.hid hrow
 have hng:¬g=B:=by omega
 have hng1:¬g=u.heap.size:=by omega
 have hng2:¬g=u.heap.size+1:=by omega
 have hng3:¬u.heap.size+1=g:=by omega
 clear hrow AM
 have fy0:=fine_admY A A.ls.length
 have fy1:=fine_admY A (A.ls.length+1)
 have ST:=Lib.hid ((step_any B (admE A (A.ls.length+2)) A _ _ fy0 fy1).to hr0)
 have PL:=Lib.hid ((c_plus B r0.q oneR r0 fine_oneR fr0).to ht0)
 clear fy0 fy1 hr0 ht0
 generalize admE A (A.ls.length+2)=q2 at *
 generalize admY A A.ls.length=Y0 at *
 generalize admY A (A.ls.length+1)=Y1 at *
 have i0:(A.ls.length:Int)<A.ls.length+2:=by omega
 have i1:(A.ls.length:Int)+1<A.ls.length+2:=by omega
 have i2:(0:Int)≤A.ls.length+1:=by omega
 have i3:((A.ls.length:Int)+1).toNat=A.ls.length+1:=by omega
 go_wp2_with fail
 refine turn_new (fun i=>i==10) 11 #[.complex .f64 0 0,.int .i64 0] 57 _ rfl (by kernel_rfl) (by kernel_rfl) (by first|omega|(simp;omega)) (St.cell (St.turn A7 (Trn.kp C7 kpw))) (fun a w=>by kernel_rfl) fun hG => ?_
 have A6:=fun o=>hG (u.heap.size+1) lto o (ne_addr (by omega))
 have Ac:=fun o=>hG (g) lto o (ne_addr (by omega))
 have A2:=fun o=>hG B lto (o+1) ne_off
 clear hG
 simp only[List.take_succ_cons,List.take_zero,List.drop_succ_cons,List.drop_zero]
 repeat (first|(refine wpTurn_pure rfl (fun K hK => ?_);go_simp;first|(refine hK _ _ ?_;clear hK K)|(apply Exists.intro;refine⟨fun _ _ => ?_,hK _ _ ?_⟩;(first|fail);clear hK K))|(refine wpTurn_eff rfl (fun K hK => ?_);go_simp;(first|(with_reducible refine⟨_,_,fun _=>tur_lt (Lt.turn Ag (Trn.kp C7 kpw)) (fun w h=>ST.out w h),?_⟩));refine hK _ _ ?_;clear hK K))
 refine wpTurn_nil ?_
 intro B1 w2 hN
 obtain⟨Ao,A0,Eg,Eb,Ee⟩:=hN
 (try simp at A0)
 clear A2 A6 Ac
 have El:=Ao.size_le
 (try simp at El)
 have C4:=tn5 Ao (u.heap.size+1)
 have Ik:=tn5 Ao (g)
 obtain⟨Ez,Ip,Iq,Ir,I4,Hm⟩:=pkx Ag C7 kpw Ao
 (try clear F1 F2)
 have Dn:¬B1=u.heap.size+1:=by first|omega|(simp at A0;omega)
 have Dj:¬u.heap.size+1=B1:=by first|omega|(simp at A0;omega)
 have Ej:¬B1=g:=by first|omega|(simp at A0;omega)
 have Eh:¬g=B1:=by first|omega|(simp at A0;omega)
 have C6:¬B1=B:=by first|omega|(simp at A0;omega)
 have C5:¬B=B1:=by first|omega|(simp at A0;omega)
 replace C4:=cas5 C4 [.complex .f64 0 0,.int .i64 0,.complex .f64 0 0,.int .i64 0]
 simp only[CAf,Nat.reduceAdd,and_true]at C4
 go_wp2_with fail
 refine turn_new (fun i=>i==5) 6 #[.complex .f64 0 0,.int .i64 0] 57 _ rfl (by kernel_rfl) (by kernel_rfl) (by first|omega|(simp;omega)) (St.cell (St.turn A7 (Trn.kp Ez kpw))) (fun a w=>by kernel_rfl) fun hG => ?_
 have A6:=fun o=>hG (u.heap.size+1) lto o (ne_addr (by omega))
 have Ac:=fun o=>hG (g) lto o (ne_addr (by omega))
 have A9:=fun o=>hG (B1) lto o (ne_addr (by omega))
 have A2:=fun o=>hG B lto (o+1) ne_off
 clear hG
 simp only[List.take_succ_cons,List.take_zero,List.drop_succ_cons,List.drop_zero]
 repeat (first|(refine wpTurn_pure rfl (fun K hK => ?_);go_simp;first|(refine hK _ _ ?_;clear hK K)|(apply Exists.intro;refine⟨fun _ _ => ?_,hK _ _ ?_⟩;(first|(go_at_call 73;with_reducible exact cal_call one_cl));clear hK K))|(refine wpTurn_eff rfl (fun K hK => ?_);go_simp;(first|(with_reducible refine⟨_,_,fun _=>tur_st (St.turn A7 (Trn.kp Ez kpw)) (fun w h=>PL.out w h),?_⟩));refine hK _ _ ?_;clear hK K))
 refine wpTurn_nil ?_
 intro B2 w3 hN
 obtain⟨Cb,A1,Fe,F4,F5⟩:=hN
 (try simp at A1)
 clear A2 A6 Ac A9
 have Hf:=Cb.size_le
 (try simp at Hf)
 obtain⟨H1,Gz,Gx,Df,Dh⟩:=tn5 Cb (u.heap.size+1)
 obtain⟨Hi,Hh,Hg,Ec,Ef⟩:=tn5 Cb (g)
 obtain⟨H2,H0,Gy,Dg,Di⟩:=tn5 Cb (B1)
 obtain⟨Jy,Jw,Jx,Jz,K1,K0⟩:=pkx Ag Ez kpw Cb
 (try clear Hm I4)
 have Dp:¬B2=u.heap.size+1:=by first|omega|(simp at A1;omega)
 have Dl:¬u.heap.size+1=B2:=by first|omega|(simp at A1;omega)
 have Ek:¬B2=g:=by first|omega|(simp at A1;omega)
 have Ei:¬g=B2:=by first|omega|(simp at A1;omega)
 have Dq:¬B2=B1:=by first|omega|(simp at A1;omega)
 have Dm:¬B1=B2:=by first|omega|(simp at A1;omega)
 have Do:¬B2=B:=by first|omega|(simp at A1;omega)
 have Dk:¬B=B2:=by first|omega|(simp at A1;omega)
 go_wp2_with fail
 obtain⟨b8,hb8⟩:∃x,x=B1:=⟨_,rfl⟩
 obtain⟨b9,hb9⟩:∃x,x=B2:=⟨_,rfl⟩
 subst hb8
 subst hb9
 have gB:=F6.st.lt
 go_loopw [10] (fun i wr=>∃(j:Nat) (r t:Res),j≤A.ls.length∧i = .int .i64 ((j:Int)-1)∧Fine r∧Fine t∧HidG A j ⟨r,t⟩ T∧Trn B t.q w wr∧b9<wr.heap.size∧RowB (some ⟨g,0,none⟩) (admL A (A.ls.length+2)) wr ∧
  (wr.cell? ⟨u.heap.size+1,0,none⟩=some (.complex .f64 0 0)∧wr.cell? ⟨u.heap.size+1,1,none⟩=some (.int .i64 0)∧wr.cell? ⟨u.heap.size+1,2,none⟩=some (.complex .f64 0 0)∧wr.cell? ⟨u.heap.size+1,3,none⟩=some (.int .i64 0)∧∀o,wr.frozen? ⟨u.heap.size+1,o,none⟩=false) ∧
  At2 wr b8 (.complex .f64 (fl r.a) (fl r.b)) (.int .i64 r.c)∧At2 wr b9 (.complex .f64 (fl t.a) (fl t.b)) (.int .i64 t.c)) (fun i _=>(intOf i+1).toNat)
 case atStart=>exact⟨A.ls.length,r0,t0,Nat.le_refl _,rfl,fr0,ft0,hT0.out,trw,by first|(simp;done)|(simp;omega),HROW.out.keep (by first|(simp;omega)|omega) (fun o=>by go_simp),⟨by go_simp,by go_simp,by go_simp,by go_simp,fun o=>by go_simp⟩,⟨by go_simp,by go_simp,fun o=>by go_simp⟩,⟨by go_simp,by go_simp,fun o=>by go_simp⟩⟩
 case round =>
  obtain⟨j,r,t,hj,rfl,fr,ft,HG,Bm,Dr,hrow,⟨Ds,Dv,Dy,Dz,E0⟩,⟨Dt,Dw,E1⟩,⟨Du,Dx,E2⟩⟩:=hrel
  have lt98:b8<b9:=by omega
  have gl:g<b8:=by omega
  clear hT0 Df Dh Ec Ef Dg Di Eb Ee F4 F5
  have It:=Bm.le
  have E3:=Lt.turn Ag Bm
  have Cd:=E3.st
  obtain⟨Eo,Ep,Eq,Er,Es,Et,Eu,Ev,Ew⟩:=E3.cells
  have F8:=Cd.cell
  have Fa:=Cd.free
  have Fn:=Cd.lt
  have Fm:=own5 Fn
  cases j with
  | zero =>
   have e:((0:Nat):Int)-1 = -1:=by decide
   rw[e]
   have HG':(⟨r,t⟩:Blw)=T:=HG
   subst HG'
   dsimp only at HX ⊢
   have R2:=Lib.hid (fun w L=>result2_at B t.q r t X Y HX.out.1 HX.out.2 A w L)
   go_wp2_with fail
   refine(R2.out _ (Lt.turn Ag (Trn.kp Bm kpw))).mono ?_
   rintro e w21 ⟨rfl,Bo⟩
   have Bp:=Bo.size
   (try simp at Bp)
   obtain⟨Bt,Bs,Br,A3,A8⟩:=bl5 Bo (u.heap.size+1)
   have Ae:=Trn.nb Bm kpw Bo
   have E8:=Ae.le
   have Bu:=Lt.turn Ag Ae
   have Am:=Bu.st
   obtain⟨Ci,Cl,Co,Cs,Cx,D0,D2,D4,D6⟩:=Bu.cells
   have E6:=Am.cell
   have E7:=Am.free
   have Cc:=Am.lt
   have En:=own5 Cc
   (try clear F8 Fa Eo Ep Eq Er Es Et Eu Ev Ew Fm)
   repeat' (first|go_values|go_skip|go_guarded|go_step|go_upon|(simp only[];go_simp))
   refine bodyPost_ret (by simp[results,Tryz.results21,go_sem, *];first|done|rfl) rfl ?_
   exact⟨rfl,(by have hF:=FIN.out _ _ Ae;exact blw)⟩
  | succ j =>
   have e:((j+1:Nat):Int)-1=j:=by omega
   rw[e]
   by_cases hq:t.q=0
   case neg =>
    have hq1:(t.q==0)=false:=by simpa using hq
    have HG':(⟨r,t⟩:Blw)=T:=by have h:=HG;unfold HidG belG at h;rw[if_neg hq]at h;exact h
    subst HG'
    dsimp only at HX ⊢
    have R2:=Lib.hid (fun w L=>result2_at B t.q r t X Y HX.out.1 HX.out.2 A w L)
    go_wp2_with fail
    refine(R2.out _ (Lt.turn Ag (Trn.kp Bm kpw))).mono ?_
    rintro e w21 ⟨rfl,Bo⟩
    have Bp:=Bo.size
    (try simp at Bp)
    obtain⟨Bt,Bs,Br,A3,A8⟩:=bl5 Bo (u.heap.size+1)
    have Ae:=Trn.nb Bm kpw Bo
    have E8:=Ae.le
    have Bu:=Lt.turn Ag Ae
    have Am:=Bu.st
    obtain⟨Ci,Cl,Co,Cs,Cx,D0,D2,D4,D6⟩:=Bu.cells
    have E6:=Am.cell
    have E7:=Am.free
    have Cc:=Am.lt
    have En:=own5 Cc
    repeat' (first|go_values|go_skip|go_guarded|go_step|go_upon|(simp only[];go_simp))
    refine bodyPost_ret (by simp[results,Tryz.results21,go_sem, *];first|done|rfl) rfl ?_
    exact⟨rfl,(by have hF:=FIN.out _ _ Ae;exact blw)⟩
   have hq1:(t.q==0)=true:=by simpa using hq
   obtain⟨b,hb⟩:∃b,A.ls[j]?=some b:=⟨_,List.getElem?_eq_getElem (by omega)⟩
   obtain⟨Il,In,_⟩:=hrow.at (admL_at A (show j<A.ls.length+2 by omega))
   obtain⟨Im,Io,_⟩:=hrow.at (admL_at A (show j+1<A.ls.length+2 by omega))
   have HROW:=Lib.hid hrow
   have fy0:=fine_admY A j
   have fy1:=fine_admY A (j+1)
   have HG2:belG A j (belR A b (admY A j) (admY A (j+1)) ⟨r,t⟩)=T:=by
    have h:=HG
    unfold HidG belG at h
    rw[if_pos hq,med_at (show j<A.ls.length by omega)]at h
    rw[← (List.getElem?_eq_some_iff.1 hb).2]
    exact h
   clear HG hrow
   generalize admY A j=Y0 at *
   generalize admY A (j+1)=Y1 at *
   obtain⟨N,hN⟩:=is_ex (stpR t.q Y0 Y1)
   have fN:Fine N:=hN.fine (fine_stp _ _ _)
   obtain⟨G,hG⟩:=is_ex (facR N.q A b 2)
   have fG:Fine G:=hG.fine (fine_fac _ _ _ _)
   obtain⟨F,hF⟩:=is_ex (facR G.q A b 1)
   have fF:Fine F:=hF.fine (fine_fac _ _ _ _)
   obtain⟨z,hz⟩:=is_ex (after F.q (ti r G))
   have fz:Fine z:=hz.fine (fine_after _ (fine_ti _ _))
   obtain⟨k,hk⟩:=is_ex (after z.q (ti N z))
   have fk:Fine k:=hk.fine (fine_after _ (fine_ti _ _))
   obtain⟨E,hE⟩:=is_ex (after k.q (pl oneR k))
   have fE:Fine E:=hE.fine (fine_after _ (fine_pl _ _))
   obtain⟨uu,huu⟩:=is_ex (after E.q (pl N z))
   have fuu:Fine uu:=huu.fine (fine_after _ (fine_pl _ _))
   obtain⟨r',hr'⟩:=is_ex (after uu.q (qt uu E))
   have fr':Fine r':=hr'.fine (fine_after _ (fine_qt _ _))
   obtain⟨p,hp⟩:=is_ex (after r'.q (pl oneR N))
   have fp:Fine p:=hp.fine (fine_after _ (fine_pl _ _))
   obtain⟨m,hm⟩:=is_ex (after p.q (ti F t))
   have fm:Fine m:=hm.fine (fine_after _ (fine_ti _ _))
   obtain⟨v,hv⟩:=is_ex (after m.q (ti p m))
   have fv:Fine v:=hv.fine (fine_after _ (fine_ti _ _))
   obtain⟨t',ht'⟩:=is_ex (after v.q (qt v E))
   have ft':Fine t':=ht'.fine (fine_after _ (fine_qt _ _))
   rw[bel_is (s:=⟨r,t⟩) rfl hN hG hF hz hk hE huu hr' hp hm hv ht']at HG2
   have HG2:=Lib.hid HG2
   have CN:=Lib.hid ((step_any B t.q A Y0 Y1 fy0 fy1).to hN)
   have CG:=Lib.hid ((factor_any B N.q A ((j:Int)+1) b j 2 HA.out hb rfl (.inr rfl)).to hG)
   have CF:=Lib.hid ((factor_any B G.q A ((j:Int)+1) b j 1 HA.out hb rfl (.inl rfl)).to hF)
   have Cz:=Lib.hid ((c_times B F.q r G fr fG).to hz)
   have Ck:=Lib.hid ((c_times B z.q N z fN fz).to hk)
   have CE:=Lib.hid ((c_plus B k.q oneR k fine_oneR fk).to hE)
   have Cu:=Lib.hid ((c_plus B E.q N z fN fz).to huu)
   have Cr:=Lib.hid ((c_by B uu.q uu E fuu fE).to hr')
   have Cp:=Lib.hid ((c_plus B r'.q oneR N fine_oneR fN).to hp)
   have Cm:=Lib.hid ((c_times B p.q F t fF ft).to hm)
   have Cv:=Lib.hid ((c_times B m.q p m fp fm).to hv)
   have Ct:=Lib.hid ((c_by B v.q v E fv fE).to ht')
   clear fy0 fy1 hN hG hF hz hk hE huu hr' hp hm hv ht' fN fG fF fz fk fE fuu fp fm fv hb hq
   have j0:(j:Int)<A.ls.length+2:=by omega
   have j1:(j:Int)+1<A.ls.length+2:=by omega
   have j2:(0:Int)≤(j:Int)+1:=by omega
   have j3:((j:Int)+1).toNat=j+1:=by omega
   obtain⟨j4,j5,j6,j7⟩:=jw hj hlen
   go_wp2_with fail
   refine turn_new (fun i=>i==10) 11 #[.complex .f64 0 0,.int .i64 0] 57 _ rfl (by kernel_rfl) (by kernel_rfl) (by first|omega|(simp;omega)) (St.cell (St.turn A7 (Trn.kp Bm kpw))) (fun a w=>by kernel_rfl) fun hG => ?_
   have A6:=fun o=>hG (u.heap.size+1) lto o (ne_addr (by omega))
   have Ac:=fun o=>hG (g) lto o (ne_addr (by omega))
   have Aa:=fun o=>hG (b8) lto o (ne_addr (by omega))
   have Ab:=fun o=>hG (b9) lto o (ne_addr (by omega))
   have A2:=fun o=>hG B lto (o+1) ne_off
   clear hG
   simp only[List.take_succ_cons,List.take_zero,List.drop_succ_cons,List.drop_zero]
   repeat (first|(refine wpTurn_pure rfl (fun K hK => ?_);go_simp;first|(refine hK _ _ ?_;clear hK K)|(apply Exists.intro;refine⟨fun _ _ => ?_,hK _ _ ?_⟩;(first|fail);clear hK K))|(refine wpTurn_eff rfl (fun K hK => ?_);go_simp;(first|(with_reducible refine⟨_,_,fun _=>tur_lt (Lt.turn Ag (Trn.kp Bm kpw)) (fun w h=>CN.out w h),?_⟩));refine hK _ _ ?_;clear hK K))
   refine wpTurn_nil ?_
   intro B1 w21 hN
   obtain⟨Ad,A0,Eg,Eb,Ee⟩:=hN
   (try simp at A0)
   clear A2 A6 Ac Aa Ab
   have Bp:=Ad.size_le
   (try simp at Bp)
   obtain⟨Bt,Bs,Br,A3,A8⟩:=tn5 Ad (u.heap.size+1)
   have Hn:=tn5 Ad (g)
   have Aq:=tn5 Ad (b8)
   have Ar:=tn5 Ad (b9)
   have Ae:=Trn.nx Bm kpw Ad
   have E8:=Ae.le
   have Bu:=Lt.turn Ag Ae
   have Am:=Bu.st
   obtain⟨Ci,Cl,Co,Cs,Cx,D0,D2,D4,D6⟩:=Bu.cells
   have E6:=Am.cell
   have E7:=Am.free
   have Cc:=Am.lt
   have En:=own5 Cc
   have Dn:¬B1=u.heap.size+1:=by first|omega|(simp at A0;omega)
   have Dj:¬u.heap.size+1=B1:=by first|omega|(simp at A0;omega)
   have Ej:¬B1=g:=by first|omega|(simp at A0;omega)
   have Eh:¬g=B1:=by first|omega|(simp at A0;omega)
   have Gc:¬B1=b8:=by first|omega|(simp at A0;omega)
   have Fq:¬b8=B1:=by first|omega|(simp at A0;omega)
   have Gd:¬B1=b9:=by first|omega|(simp at A0;omega)
   have Fr:¬b9=B1:=by first|omega|(simp at A0;omega)
   have C6:¬B1=B:=by first|omega|(simp at A0;omega)
   have C5:¬B=B1:=by first|omega|(simp at A0;omega)
   have D7:w21.cell? ⟨u.heap.size+1,0,none⟩=some (.complex .f64 0 0):=(A3 0).trans (by go_simp)
   have D8:w21.cell? ⟨u.heap.size+1,1,none⟩=some (.int .i64 0):=(A3 1).trans (by go_simp)
   have D9:w21.cell? ⟨u.heap.size+1,2,none⟩=some (.complex .f64 0 0):=(A3 2).trans (by go_simp)
   have Da:w21.cell? ⟨u.heap.size+1,3,none⟩=some (.int .i64 0):=(A3 3).trans (by go_simp)
   have Db:∀o,w21.frozen? ⟨u.heap.size+1,o,none⟩=false:=fun o=>(A8 o).trans (by go_simp)
   clear A3 A8
   replace Aq:=cas5 Aq [.complex .f64 (fl r.a) (fl r.b),.int .i64 r.c]
   replace Ar:=cas5 Ar [.complex .f64 (fl t.a) (fl t.b),.int .i64 t.c]
   simp only[CAf,Nat.reduceAdd,and_true]at Aq Ar
   (try clear E0 Ds Dv Dy Dz E1 Dt Dw Dr E2 Du Dx)
   go_wp2_with fail
   refine(CG.out _ (Lt.turn Ag (Trn.kp Ae kpw))).mono ?_
   rintro e w22 ⟨rfl,Bq⟩
   have Ff:=Bq.size_le
   (try simp at Ff)
   have As:=tn5 Bq (u.heap.size+1)
   have Hp:=tn5 Bq (g)
   have Au:=tn5 Bq (b8)
   have Av:=tn5 Bq (b9)
   have At:=tn5 Bq (B1)
   obtain⟨F3,J0,J7,Jf,Jt,Ho⟩:=pkx Ag Ae kpw Bq
   (try clear E6 E7 Ci Cl Co Cs Cx D0 D2 D4 D6 En)
   replace As:=cas5 As [.complex .f64 0 0,.int .i64 0,.complex .f64 0 0,.int .i64 0]
   replace Au:=cas5 Au [.complex .f64 (fl r.a) (fl r.b),.int .i64 r.c]
   replace Av:=cas5 Av [.complex .f64 (fl t.a) (fl t.b),.int .i64 t.c]
   replace At:=cas5 At [.complex .f64 (fl N.a) (fl N.b),.int .i64 N.c]
   simp only[CAf,Nat.reduceAdd,and_true]at As Au Av At
   (try clear A3 A8 Bt Bs Br Db D7 D8 D9 Da Aq Ar)
   go_wp2_with fail
   refine(CF.out _ (Lt.turn Ag (Trn.kp F3 kpw))).mono ?_
   rintro e w23 ⟨rfl,Ap⟩
   have Fg:=Ap.size_le
   (try simp at Fg)
   have Aw:=tn5 Ap (u.heap.size+1)
   have Hr:=tn5 Ap (g)
   have Ay:=tn5 Ap (b8)
   have Az:=tn5 Ap (b9)
   have Ax:=tn5 Ap (B1)
   have Bv:=tn5 Ap (w22.heap.size)
   obtain⟨E4,J1,J8,Jg,Ju,Hq⟩:=pkx Ag F3 kpw Ap
   (try clear Ho)
   have nw23:¬b8=w23.heap.size∧¬w23.heap.size=b8∧¬b9=w23.heap.size∧¬w23.heap.size=b9:=(by omega)
   obtain⟨nw1,nw2,nw3,nw4⟩:=nw23
   replace Aw:=cas5 Aw [.complex .f64 0 0,.int .i64 0,.complex .f64 0 0,.int .i64 0]
   replace Ay:=cas5 Ay [.complex .f64 (fl r.a) (fl r.b),.int .i64 r.c]
   replace Az:=cas5 Az [.complex .f64 (fl t.a) (fl t.b),.int .i64 t.c]
   replace Ax:=cas5 Ax [.complex .f64 (fl N.a) (fl N.b),.int .i64 N.c]
   replace Bv:=cas5 Bv [.complex .f64 (fl G.a) (fl G.b),.int .i64 G.c]
   simp only[CAf,Nat.reduceAdd,and_true]at Aw Ay Az Ax Bv
   (try clear As Au Av At)
   go_wp2_with fail
   refine turn_new (fun i=>i==5) 6 #[.complex .f64 0 0,.int .i64 0] 57 _ rfl (by kernel_rfl) (by kernel_rfl) (by first|omega|(simp;omega)) (St.cell (St.turn A7 (Trn.kp E4 kpw))) (fun a w=>by kernel_rfl) fun hG => ?_
   have A6:=fun o=>hG (u.heap.size+1) lto o (ne_addr (by omega))
   have Ac:=fun o=>hG (g) lto o (ne_addr (by omega))
   have Aa:=fun o=>hG (b8) lto o (ne_addr (by omega))
   have Ab:=fun o=>hG (b9) lto o (ne_addr (by omega))
   have A9:=fun o=>hG (B1) lto o (ne_addr (by omega))
   have Fc:=fun o=>hG (w22.heap.size) lto o (ne_addr (by omega))
   have Ah:=fun o=>hG (w23.heap.size) lto o (ne_addr (by omega))
   have A2:=fun o=>hG B lto (o+1) ne_off
   clear hG
   simp only[List.take_succ_cons,List.take_zero,List.drop_succ_cons,List.drop_zero]
   repeat (first|(refine wpTurn_pure rfl (fun K hK => ?_);go_simp;first|(refine hK _ _ ?_;clear hK K)|(apply Exists.intro;refine⟨fun _ _ => ?_,hK _ _ ?_⟩;(first|fail);clear hK K))|(refine wpTurn_eff rfl (fun K hK => ?_);go_simp;(first|(with_reducible refine⟨_,_,fun _=>tur_st (St.turn A7 (Trn.kp E4 kpw)) (fun w h=>Cz.out w h),?_⟩));refine hK _ _ ?_;clear hK K))
   refine wpTurn_nil ?_
   intro B2 w24 hN
   obtain⟨Ai,A1,Fe,F4,F5⟩:=hN
   (try simp at A1)
   clear A2 A6 Ac Aa Ab A9 Fc Ah
   have Fh:=Ai.size_le
   (try simp at Fh)
   have B0:=tn5 Ai (u.heap.size+1)
   have Ht:=tn5 Ai (g)
   have B7:=tn5 Ai (b8)
   have B8:=tn5 Ai (b9)
   have B6:=tn5 Ai (B1)
   have H3:=tn5 Ai (w22.heap.size)
   have B5:=tn5 Ai (w23.heap.size)
   obtain⟨Dc,J2,J9,Jh,I5,Hs⟩:=pkx Ag E4 kpw Ai
   (try clear Hq)
   have Dp:¬B2=u.heap.size+1:=by first|omega|(simp at A1;omega)
   have Dl:¬u.heap.size+1=B2:=by first|omega|(simp at A1;omega)
   have Ek:¬B2=g:=by first|omega|(simp at A1;omega)
   have Ei:¬g=B2:=by first|omega|(simp at A1;omega)
   have Gg:¬B2=b8:=by first|omega|(simp at A1;omega)
   have Fu:¬b8=B2:=by first|omega|(simp at A1;omega)
   have Gh:¬B2=b9:=by first|omega|(simp at A1;omega)
   have Fv:¬b9=B2:=by first|omega|(simp at A1;omega)
   have Dq:¬B2=B1:=by first|omega|(simp at A1;omega)
   have Dm:¬B1=B2:=by first|omega|(simp at A1;omega)
   have Ge:¬B2=w22.heap.size:=by first|omega|(simp at A1;omega)
   have Fs:¬w22.heap.size=B2:=by first|omega|(simp at A1;omega)
   have Gf:¬B2=w23.heap.size:=by first|omega|(simp at A1;omega)
   have Ft:¬w23.heap.size=B2:=by first|omega|(simp at A1;omega)
   have Do:¬B2=B:=by first|omega|(simp at A1;omega)
   have Dk:¬B=B2:=by first|omega|(simp at A1;omega)
   replace B0:=cas5 B0 [.complex .f64 0 0,.int .i64 0,.complex .f64 0 0,.int .i64 0]
   replace B7:=cas5 B7 [.complex .f64 (fl r.a) (fl r.b),.int .i64 r.c]
   replace B8:=cas5 B8 [.complex .f64 (fl t.a) (fl t.b),.int .i64 t.c]
   replace B6:=cas5 B6 [.complex .f64 (fl N.a) (fl N.b),.int .i64 N.c]
   replace B5:=cas5 B5 [.complex .f64 (fl F.a) (fl F.b),.int .i64 F.c]
   simp only[CAf,Nat.reduceAdd,and_true]at B0 B7 B8 B6 B5
   (try clear Aw Ay Az Ax)
   go_wp2_with fail
   refine turn_new (fun i=>i==9||i==10) 11 #[.complex .f64 0 0,.int .i64 0] 57 _ rfl (by kernel_rfl) (by kernel_rfl) (by first|omega|(simp;omega)) (St.cell (St.turn A7 (Trn.kp Dc kpw))) (fun a w=>by kernel_rfl) fun hG => ?_
   have A6:=fun o=>hG (u.heap.size+1) lto o (ne_addr (by omega))
   have Ac:=fun o=>hG (g) lto o (ne_addr (by omega))
   have Aa:=fun o=>hG (b8) lto o (ne_addr (by omega))
   have Ab:=fun o=>hG (b9) lto o (ne_addr (by omega))
   have A9:=fun o=>hG (B1) lto o (ne_addr (by omega))
   have Ah:=fun o=>hG (w23.heap.size) lto o (ne_addr (by omega))
   have Cg:=fun o=>hG (B2) lto o (ne_addr (by omega))
   have A2:=fun o=>hG B lto (o+1) ne_off
   clear hG
   simp only[List.take_succ_cons,List.take_zero,List.drop_succ_cons,List.drop_zero]
   repeat (first|(refine wpTurn_pure rfl (fun K hK => ?_);go_simp;first|(refine hK _ _ ?_;clear hK K)|(apply Exists.intro;refine⟨fun _ _ => ?_,hK _ _ ?_⟩;(first|(go_at_call 73;with_reducible exact cal_call one_cl));clear hK K))|(refine wpTurn_eff rfl (fun K hK => ?_);go_simp;(first|(first|with_reducible refine⟨_,_,fun _=>tur_st (St.turn A7 (Trn.kp Dc kpw)) (fun w h=>Ck.out w h),?_⟩|with_reducible refine⟨_,_,fun _=>tur_st (St.turn A7 (Trn.kp Dc kpw)) (fun w h=>CE.out w h),?_⟩));refine hK _ _ ?_;clear hK K))
   refine wpTurn_nil ?_
   intro B3 w25 hN
   obtain⟨Aj,A4,Iu,Jm,Jo⟩:=hN
   (try simp at A4)
   clear A2 A6 Ac Aa Ab A9 Ah Cg
   have Fi:=Aj.size_le
   (try simp at Fi)
   have B9:=tn5 Aj (u.heap.size+1)
   have Hv:=tn5 Aj (g)
   have Bc:=tn5 Aj (b8)
   have Bd:=tn5 Aj (b9)
   have Bb:=tn5 Aj (B1)
   have Ba:=tn5 Aj (w23.heap.size)
   have Bw:=tn5 Aj (B2)
   obtain⟨Dd,J3,Ja,Ji,I6,Hu⟩:=pkx Ag Dc kpw Aj
   (try clear Hs I5)
   have Gj:¬B3=u.heap.size+1:=by first|omega|(simp at A4;omega)
   have Fx:¬u.heap.size+1=B3:=by first|omega|(simp at A4;omega)
   have Hd:¬B3=g:=by first|omega|(simp at A4;omega)
   have Hb:¬g=B3:=by first|omega|(simp at A4;omega)
   have Gn:¬B3=b8:=by first|omega|(simp at A4;omega)
   have G1:¬b8=B3:=by first|omega|(simp at A4;omega)
   have Gp:¬B3=b9:=by first|omega|(simp at A4;omega)
   have G2:¬b9=B3:=by first|omega|(simp at A4;omega)
   have Gl:¬B3=B1:=by first|omega|(simp at A4;omega)
   have Fz:¬B1=B3:=by first|omega|(simp at A4;omega)
   have Gk:¬B3=w23.heap.size:=by first|omega|(simp at A4;omega)
   have Fy:¬w23.heap.size=B3:=by first|omega|(simp at A4;omega)
   have Gm:¬B3=B2:=by first|omega|(simp at A4;omega)
   have G0:¬B2=B3:=by first|omega|(simp at A4;omega)
   have Gi:¬B3=B:=by first|omega|(simp at A4;omega)
   have Fw:¬B=B3:=by first|omega|(simp at A4;omega)
   replace B9:=cas5 B9 [.complex .f64 0 0,.int .i64 0,.complex .f64 0 0,.int .i64 0]
   replace Bc:=cas5 Bc [.complex .f64 (fl r.a) (fl r.b),.int .i64 r.c]
   replace Bd:=cas5 Bd [.complex .f64 (fl t.a) (fl t.b),.int .i64 t.c]
   replace Bb:=cas5 Bb [.complex .f64 (fl N.a) (fl N.b),.int .i64 N.c]
   replace Ba:=cas5 Ba [.complex .f64 (fl F.a) (fl F.b),.int .i64 F.c]
   replace Bw:=cas5 Bw [.complex .f64 (fl z.a) (fl z.b),.int .i64 z.c]
   simp only[CAf,Nat.reduceAdd,and_true]at B9 Bc Bd Bb Ba Bw
   (try clear B0 B7 B8 B6 B5)
   go_wp2_with fail
   refine turn (fun i=>i==8||i==10) 11 (by kernel_rfl) (by kernel_rfl) (St.cell (St.turn A7 (Trn.kp Dd kpw))) fun hG => ?_
   have A6:=fun o=>hG (u.heap.size+1) lto o (ne_addr (by omega))
   have Ac:=fun o=>hG (g) lto o (ne_addr (by omega))
   have Aa:=fun o=>hG (b8) lto o (ne_addr (by omega))
   have Ab:=fun o=>hG (b9) lto o (ne_addr (by omega))
   have A9:=fun o=>hG (B1) lto o (ne_addr (by omega))
   have Ah:=fun o=>hG (w23.heap.size) lto o (ne_addr (by omega))
   have Cg:=fun o=>hG (B2) lto o (ne_addr (by omega))
   have C3:=fun o=>hG (B3) lto o (ne_addr (by omega))
   have A2:=fun o=>hG B lto (o+1) ne_off
   clear hG
   simp only[List.take_succ_cons,List.take_zero,List.drop_succ_cons,List.drop_zero]
   repeat (first|(refine wpTurn_pure rfl (fun K hK => ?_);go_simp;first|(refine hK _ _ ?_;clear hK K)|(apply Exists.intro;refine⟨fun _ _ => ?_,hK _ _ ?_⟩;(first|fail);clear hK K))|(refine wpTurn_eff rfl (fun K hK => ?_);go_simp;(first|(first|with_reducible refine⟨_,_,fun _=>tur_st (St.turn A7 (Trn.kp Dd kpw)) (fun w h=>Cu.out w h),?_⟩|with_reducible refine⟨_,_,fun _=>tur_st (St.turn A7 (Trn.kp Dd kpw)) (fun w h=>Cr.out w h),?_⟩));refine hK _ _ ?_;clear hK K))
   refine wpTurn_nil ?_
   intro w26 Af
   clear A2 A6 Ac Aa Ab A9 Ah Cg C3
   have Fj:=Af.size_le
   (try simp at Fj)
   have Be:=tn5 Af (u.heap.size+1)
   have Hx:=tn5 Af (g)
   have Bh:=tn5 Af (b8)
   have Bi:=tn5 Af (b9)
   have Bx:=tn5 Af (B1)
   have Bf:=tn5 Af (w23.heap.size)
   have H4:=tn5 Af (B2)
   have Bg:=tn5 Af (B3)
   obtain⟨E5,J4,Jb,Jj,I7,Hw⟩:=pkx Ag Dd kpw Af
   (try clear Hu I6)
   replace Be:=cas5 Be [.complex .f64 0 0,.int .i64 0,.complex .f64 0 0,.int .i64 0]
   replace Bh:=cas5 Bh [.complex .f64 (fl r.a) (fl r.b),.int .i64 r.c]
   replace Bi:=cas5 Bi [.complex .f64 (fl t.a) (fl t.b),.int .i64 t.c]
   replace Bx:=cas5 Bx [.complex .f64 (fl N.a) (fl N.b),.int .i64 N.c]
   replace Bf:=cas5 Bf [.complex .f64 (fl F.a) (fl F.b),.int .i64 F.c]
   replace Bg:=cas5 Bg [.complex .f64 (fl E.a) (fl E.b),.int .i64 E.c]
   simp only[CAf,Nat.reduceAdd,and_true]at Be Bh Bi Bx Bf Bg
   (try clear B9 Bc Bd Bb Ba)
   go_wp2_with fail
   refine turn_new (fun i=>i==5) 6 #[.complex .f64 0 0,.int .i64 0] 57 _ rfl (by kernel_rfl) (by kernel_rfl) (by first|omega|(simp;omega)) (St.cell (St.turn A7 (Trn.kp E5 kpw))) (fun a w=>by kernel_rfl) fun hG => ?_
   have A6:=fun o=>hG (u.heap.size+1) lto o (ne_addr (by omega))
   have Ac:=fun o=>hG (g) lto o (ne_addr (by omega))
   have Aa:=fun o=>hG (b8) lto o (ne_addr (by omega))
   have Ab:=fun o=>hG (b9) lto o (ne_addr (by omega))
   have A9:=fun o=>hG (B1) lto o (ne_addr (by omega))
   have Ah:=fun o=>hG (w23.heap.size) lto o (ne_addr (by omega))
   have C3:=fun o=>hG (B3) lto o (ne_addr (by omega))
   have A2:=fun o=>hG B lto (o+1) ne_off
   clear hG
   simp only[List.take_succ_cons,List.take_zero,List.drop_succ_cons,List.drop_zero]
   repeat (first|(refine wpTurn_pure rfl (fun K hK => ?_);go_simp;first|(refine hK _ _ ?_;clear hK K)|(apply Exists.intro;refine⟨fun _ _ => ?_,hK _ _ ?_⟩;(first|(go_at_call 73;with_reducible exact cal_call one_cl));clear hK K))|(refine wpTurn_eff rfl (fun K hK => ?_);go_simp;(first|(with_reducible refine⟨_,_,fun _=>tur_st (St.turn A7 (Trn.kp E5 kpw)) (fun w h=>Cp.out w h),?_⟩));refine hK _ _ ?_;clear hK K))
   refine wpTurn_nil ?_
   intro B4 w27 hN
   obtain⟨Ak,A5,Iv,Jn,Jp⟩:=hN
   (try simp at A5)
   clear A2 A6 Ac Aa Ab A9 Ah C3
   have Fk:=Ak.size_le
   (try simp at Fk)
   have Bj:=tn5 Ak (u.heap.size+1)
   have Hz:=tn5 Ak (g)
   have Bk:=tn5 Ak (b8)
   have Bl:=tn5 Ak (b9)
   have H5:=tn5 Ak (B1)
   have By:=tn5 Ak (w23.heap.size)
   have Bz:=tn5 Ak (B3)
   obtain⟨C8,J5,Jc,Jk,I8,Hy⟩:=pkx Ag E5 kpw Ak
   (try clear Hw I7)
   have Gr:¬B4=u.heap.size+1:=by first|omega|(simp at A5;omega)
   have G4:¬u.heap.size+1=B4:=by first|omega|(simp at A5;omega)
   have He:¬B4=g:=by first|omega|(simp at A5;omega)
   have Hc:¬g=B4:=by first|omega|(simp at A5;omega)
   have Gv:¬B4=b8:=by first|omega|(simp at A5;omega)
   have G8:¬b8=B4:=by first|omega|(simp at A5;omega)
   have Gw:¬B4=b9:=by first|omega|(simp at A5;omega)
   have G9:¬b9=B4:=by first|omega|(simp at A5;omega)
   have Gt:¬B4=B1:=by first|omega|(simp at A5;omega)
   have G6:¬B1=B4:=by first|omega|(simp at A5;omega)
   have Gs:¬B4=w23.heap.size:=by first|omega|(simp at A5;omega)
   have G5:¬w23.heap.size=B4:=by first|omega|(simp at A5;omega)
   have Gu:¬B4=B3:=by first|omega|(simp at A5;omega)
   have G7:¬B3=B4:=by first|omega|(simp at A5;omega)
   have Gq:¬B4=B:=by first|omega|(simp at A5;omega)
   have G3:¬B=B4:=by first|omega|(simp at A5;omega)
   replace Bj:=cas5 Bj [.complex .f64 0 0,.int .i64 0,.complex .f64 0 0,.int .i64 0]
   replace Bk:=cas5 Bk [.complex .f64 (fl r'.a) (fl r'.b),.int .i64 r'.c]
   replace Bl:=cas5 Bl [.complex .f64 (fl t.a) (fl t.b),.int .i64 t.c]
   replace By:=cas5 By [.complex .f64 (fl F.a) (fl F.b),.int .i64 F.c]
   replace Bz:=cas5 Bz [.complex .f64 (fl E.a) (fl E.b),.int .i64 E.c]
   simp only[CAf,Nat.reduceAdd,and_true]at Bj Bk Bl By Bz
   (try clear Be Bh Bi Bf Bg)
   go_wp2_with fail
   refine turn (fun i=>i==12||i==13||i==15) 16 (by kernel_rfl) (by kernel_rfl) (St.cell (St.turn A7 (Trn.kp C8 kpw))) fun hG => ?_
   have A6:=fun o=>hG (u.heap.size+1) lto o (ne_addr (by omega))
   have Ac:=fun o=>hG (g) lto o (ne_addr (by omega))
   have Aa:=fun o=>hG (b8) lto o (ne_addr (by omega))
   have Ab:=fun o=>hG (b9) lto o (ne_addr (by omega))
   have Ah:=fun o=>hG (w23.heap.size) lto o (ne_addr (by omega))
   have C3:=fun o=>hG (B3) lto o (ne_addr (by omega))
   have Fd:=fun o=>hG (B4) lto o (ne_addr (by omega))
   have A2:=fun o=>hG B lto (o+1) ne_off
   clear hG
   simp only[List.take_succ_cons,List.take_zero,List.drop_succ_cons,List.drop_zero]
   repeat (first|(refine wpTurn_pure rfl (fun K hK => ?_);go_simp;first|(refine hK _ _ ?_;clear hK K)|(apply Exists.intro;refine⟨fun _ _ => ?_,hK _ _ ?_⟩;(first|fail);clear hK K))|(refine wpTurn_eff rfl (fun K hK => ?_);go_simp;(first|(first|with_reducible refine⟨_,_,fun _=>tur_st (St.turn A7 (Trn.kp C8 kpw)) (fun w h=>Cm.out w h),?_⟩|with_reducible refine⟨_,_,fun _=>tur_st (St.turn A7 (Trn.kp C8 kpw)) (fun w h=>Cv.out w h),?_⟩|with_reducible refine⟨_,_,fun _=>tur_st (St.turn A7 (Trn.kp C8 kpw)) (fun w h=>Ct.out w h),?_⟩));refine hK _ _ ?_;clear hK K))
   refine wpTurn_nil ?_
   intro w28 Al
   clear A2 A6 Ac Aa Ab Ah C3 Fd
   have Fl:=Al.size_le
   (try simp at Fl)
   have C0:=tn5 Al (u.heap.size+1)
   have I0:=tn5 Al (g)
   have C1:=tn5 Al (b8)
   have C2:=tn5 Al (b9)
   have H6:=tn5 Al (w23.heap.size)
   have H7:=tn5 Al (B3)
   have H8:=tn5 Al (B4)
   obtain⟨Je,J6,Jd,Jl,Jv,Jr⟩:=pkx Ag C8 kpw Al
   (try clear Hy I8)
   replace C0:=cas5 C0 [.complex .f64 0 0,.int .i64 0,.complex .f64 0 0,.int .i64 0]
   replace C1:=cas5 C1 [.complex .f64 (fl r'.a) (fl r'.b),.int .i64 r'.c]
   replace C2:=cas5 C2 [.complex .f64 (fl t.a) (fl t.b),.int .i64 t.c]
   simp only[CAf,Nat.reduceAdd,and_true]at C0 C1 C2
   (try clear Bj Bk Bl)
   go_wp2_with fail
   go_roundw
   case rel=>exact⟨j,r',t',Nat.le_of_succ_le hj,by first|rfl|(simp;done)|(simp;omega),fr',ft',HG2.out,trw,by first|(simp;done)|(simp;omega),HROW.out.keep (by first|omega|(simp;omega)) (fun o=>by go_simp),⟨by go_simp,by go_simp,by go_simp,by go_simp,fun o=>by go_simp⟩,⟨by go_simp,by go_simp,fun o=>by go_simp⟩,⟨by go_simp,by go_simp,fun o=>by go_simp⟩⟩
   case measure=>first|(simp[intOf];done)|(simp[intOf];omega)
end Go.Proofs.YticobgianbecpaaGreatDoor
