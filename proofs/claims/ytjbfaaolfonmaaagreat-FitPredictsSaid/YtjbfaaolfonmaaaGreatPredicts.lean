/- The statement on what would be read: its walk. -/
import Derived.Test.YtjbfaaolfonmaaaGreatAwake7
import Derived.Test.YtjbfaaolfonmaaaGreatKEnd
import Derived.Test.YtjbfaaolfonmaaaGreatFew
import Derived.Test.YtjbfaaolfonmaaaGreatRPred
namespace Go.Proofs.YtjbfaaolfonmaaaGreat
open Go Go.Sort Go.RowKit
theorem eq_range (x y:Int) (w:World):(Op.equalIn 9999 32 (.agg #[.int .i64 x,.int .i64 y]) (.agg #[.int .i64 x,.int .i64 y])).run Tryz.prog w = .ok true w:=by simp[go_sem]
@[go_sem high] theorem run_eq_three (a b c d e f:Int) (w:World):(binOp .eql 33 (.agg #[.int .i64 a,.int .i64 b,.int .i64 c,.int .i64 d,.int .i64 e,.int .i64 f]) (.agg #[.int .i64 a,.int .i64 b,.int .i64 c,.int .i64 d,.int .i64 e,.int .i64 f])).run Tryz.prog w = .ok (.bool true) w:=by
 rw[run_eql_struct]
 rw[show(10000:Nat)=9999+1 from rfl,Op.equalIn]
 simp[go_sem,Std.Legacy.Range.forIn_eq_forIn_range',Std.Legacy.Range.size,List.range',eq_range,part,isAgg]
set_option maxRecDepth 100000 in
set_option maxHeartbeats 8000000 in
theorem fitPredicts_any (wv ix si oi ol:Int) (pa:Option Addr) (ls:List Box) (cap:Nat) (hp:pa=none→ls.length=0∧cap=0) (w:World) (hr:Row pa ls w) :
  Calls Tryz.prog 3 #[.agg #[.int .i64 wv,.int .i64 ix,.int .i64 si],.slice pa ls.length cap,.agg #[.int .i64 oi,.int .i64 ol]] w fun E w'=>E = .returned (.bool true)∧Below w.heap.size w w':=by
 have FW:=Lib.hid (fun w=>few_any pa ls.length cap w)
 cases hf:fewB ls.length
 ·rw[hf]at FW
  clear hr hp hf
  go_enter Tryz.func3,Tryz.ntmps3
  go_wp2_with fail
  refine(awake7_any _).mono ?_
  rintro e w1 ⟨rfl,Ab⟩
  have Ad:=Ab.size
  (try simp at Ad)
  go_wp2_with fail
  refine(FW.out _).mono ?_
  rintro e w' ⟨rfl,rfl⟩
  repeat' (first|go_values|go_skip|go_guarded|go_step|go_upon|(simp only[];go_simp))
  go_ret
  exact⟨rfl,blw⟩
 have hn:=few_le hf
 rw[hf]at FW
 have CP:=Lib.hid (fun w' (h:Below w.heap.size w w')=>copy_all pa ls cap hp (by omega) w' (hr.bel h))
 have PR:=Lib.hid (fun g c w' h=>Predicted_any wv ix si oi ol ls (some ⟨g,0,none⟩) c w' h)
 have SE:=Lib.hid (fun w=>rsettingErr_any wv ix si w)
 have BE:=Lib.hid (fun w' (h:Below w.heap.size w w')=>rberr_any pa ls cap w' (hr.bel h))
 have OE:=Lib.hid (fun w=>ronErr_any oi ol w)
 have RP:=Lib.hid (fun(q1:setQ wv ix si=0) (q2:checkQ ls=0) (q3:onQ oi ol=0) w' (h:Below w.heap.size w w')=>rpred_any wv ix si oi ol ls pa cap q1 q2 q3 w' (hr.bel h))
 have PE:Hid (predM wv ix si ls oi ol=if fst3 (setQ wv ix si) (checkQ ls) (onQ oi ol)=0 then seenB wv ix si ls oi ol else .bad (fst3 (setQ wv ix si) (checkQ ls) (onQ oi ol))):=Lib.hid (by unfold predM;rfl)
 clear hr hp hf
 generalize predM wv ix si ls oi ol=S at *
 generalize seenB wv ix si ls oi ol=T at *
 generalize setQ wv ix si=a at *
 generalize checkQ ls=b at *
 generalize onQ oi ol=c at *
 obtain⟨n0,n1,c0,c1,s0,s1,q⟩:=S
 simp only[Seen.val]at PR
 go_enter Tryz.func3,Tryz.ntmps3
 go_wp2_with fail
 refine(awake7_any _).mono ?_
 rintro e w0 ⟨rfl,A4⟩
 have Ac:=A4.size
 (try simp at Ac)
 have Am:=bl5 A4 (w.heap.size)
 have Ag:=bl5 A4 (w.heap.size+1)
 go_wp2_with fail
 refine(FW.out _).mono ?_
 rintro e w' ⟨rfl,hw'⟩
 rw[hw']
 clear hw' w'
 have b0_w0:w0.cell? ⟨w.heap.size,0,none⟩=some (.int .i64 wv):=keepC A4 (by go_simp)
 have b1_w0:w0.cell? ⟨w.heap.size,1,none⟩=some (.int .i64 ix):=keepC A4 (by go_simp)
 have b2_w0:w0.cell? ⟨w.heap.size,2,none⟩=some (.int .i64 si):=keepC A4 (by go_simp)
 have b3_w0:w0.cell? ⟨w.heap.size+1,0,none⟩=some (.int .i64 oi):=keepC A4 (by go_simp)
 have b4_w0:w0.cell? ⟨w.heap.size+1,1,none⟩=some (.int .i64 ol):=keepC A4 (by go_simp)
 have l_w0:=World.block_lt_of_cell? _ _ b3_w0
 simp only at l_w0
 have Bf:w.heap.size<w0.heap.size:=(by omega)
 have Az:w.heap.size<w0.heap.size+1:=(by omega)
 have B2:w.heap.size+1<w0.heap.size+1:=(by omega)
 have Bi:¬w.heap.size=w0.heap.size:=(by omega)
 have B7:¬w.heap.size+1=w0.heap.size:=(by omega)
 go_wp2_with fail
 refine wp_cut3 (fun g c B a9=>((((((((((a9.put (some 17) (.agg #[.int .i64 wv,.int .i64 ix,.int .i64 si])).put (some 18) (.slice pa ls.length cap)).put (some 19) (.slice (some ⟨g,0,none⟩) ls.length c)).put (some 20) (.agg #[.int .i64 oi,.int .i64 ol])).put (some 21) (.tuple #[.agg #[.int .i64 n0,.int .i64 n1,.int .i64 c0,.int .i64 c1,.int .i64 s0,.int .i64 s1],.int .i64 q])).put (some 16) (.tuple #[.agg #[.int .i64 n0,.int .i64 n1,.int .i64 c0,.int .i64 c1,.int .i64 s0,.int .i64 s1],.int .i64 q])).put (some 22) (.agg #[.int .i64 n0,.int .i64 n1,.int .i64 c0,.int .i64 c1,.int .i64 s0,.int .i64 s1])).put (some 23) (.int .i64 q)).put (some 7) (.pointer (some ⟨B,0,none⟩))).put (some 8) (.int .i64 q))) (fun B w20=>Below w.heap.size w w20∧w20.cell? ⟨w.heap.size,0,none⟩=some (.int .i64 wv)∧w20.cell? ⟨w.heap.size,1,none⟩=some (.int .i64 ix)∧w20.cell? ⟨w.heap.size,2,none⟩=some (.int .i64 si)∧w20.cell? ⟨w.heap.size+1,0,none⟩=some (.int .i64 oi)∧w20.cell? ⟨w.heap.size+1,1,none⟩=some (.int .i64 ol)∧w20.cell? ⟨B,0,none⟩=some (.int .i64 n0)∧w20.cell? ⟨B,1,none⟩=some (.int .i64 n1)∧w20.cell? ⟨B,2,none⟩=some (.int .i64 c0)∧w20.cell? ⟨B,3,none⟩=some (.int .i64 c1)∧w20.cell? ⟨B,4,none⟩=some (.int .i64 s0)∧w20.cell? ⟨B,5,none⟩=some (.int .i64 s1)) ?_ ?_
 ·(go_region_held3 (fun w'=>w'.cell? ⟨w.heap.size,0,none⟩=some (.int .i64 wv)∧w'.cell? ⟨w.heap.size,1,none⟩=some (.int .i64 ix)∧w'.cell? ⟨w.heap.size,2,none⟩=some (.int .i64 si)∧w'.cell? ⟨w.heap.size+1,0,none⟩=some (.int .i64 oi)∧w'.cell? ⟨w.heap.size+1,1,none⟩=some (.int .i64 ol)) (simp[*,go_sem])
   (first
    | (go_at_call 18;(with_reducible refine(CP.out _ ?_).mono ?_);(·exact blw);rintro E w7 ⟨g,c,rfl,ho,A6⟩;have b0_w7:w7.cell? ⟨w.heap.size,0,none⟩=some (.int .i64 wv):=keepC A6 (by go_simp);have b1_w7:w7.cell? ⟨w.heap.size,1,none⟩=some (.int .i64 ix):=keepC A6 (by go_simp);have b2_w7:w7.cell? ⟨w.heap.size,2,none⟩=some (.int .i64 si):=keepC A6 (by go_simp);have b3_w7:w7.cell? ⟨w.heap.size+1,0,none⟩=some (.int .i64 oi):=keepC A6 (by go_simp);have b4_w7:w7.cell? ⟨w.heap.size+1,1,none⟩=some (.int .i64 ol):=keepC A6 (by go_simp);have l_w7:=World.block_lt_of_cell? _ _ b3_w7;simp only at l_w7;have Bg:w.heap.size<w7.heap.size:=(by omega);have B0:w.heap.size<w7.heap.size+1:=(by omega);have B3:w.heap.size+1<w7.heap.size+1:=(by omega);have Bj:¬w.heap.size=w7.heap.size:=(by omega);have B8:¬w.heap.size+1=w7.heap.size:=(by omega);have Ae:=A6.size;(try simp at Ae);(try (refine hv9 (blx A6 rfl (w0.heap.size) ?_) (fun hq => ?_);(focus (first|omega|(simp;done)|(simp<;>omega)));obtain⟨Bc,y1_w7,v1_w7,At,Aw⟩:=hq));have hR:=Lib.hid ho.row;clear ho)
    | (go_at_call 17;refine(PR.out g c _ (hR.out.bel (show Below w7.heap.size w7 _ from blw))).mono ?_;rintro E w8 ⟨rfl,A5⟩;have b0_w8:w8.cell? ⟨w.heap.size,0,none⟩=some (.int .i64 wv):=keepC A5 (by go_simp);have b1_w8:w8.cell? ⟨w.heap.size,1,none⟩=some (.int .i64 ix):=keepC A5 (by go_simp);have b2_w8:w8.cell? ⟨w.heap.size,2,none⟩=some (.int .i64 si):=keepC A5 (by go_simp);have b3_w8:w8.cell? ⟨w.heap.size+1,0,none⟩=some (.int .i64 oi):=keepC A5 (by go_simp);have b4_w8:w8.cell? ⟨w.heap.size+1,1,none⟩=some (.int .i64 ol):=keepC A5 (by go_simp);have l_w8:=World.block_lt_of_cell? _ _ b3_w8;simp only at l_w8;have Bh:w.heap.size<w8.heap.size:=(by omega);have B1:w.heap.size<w8.heap.size+1:=(by omega);have B4:w.heap.size+1<w8.heap.size+1:=(by omega);have Bk:¬w.heap.size=w8.heap.size:=(by omega);have B9:¬w.heap.size+1=w8.heap.size:=(by omega);have Af:=A5.size;(try simp at Af);(try (refine hv9 (blx A5 rfl (w0.heap.size) ?_) (fun hq => ?_);(focus (first|omega|(simp;done)|(simp<;>omega)));obtain⟨Bd,y1_w8,v1_w8,Au,Ax⟩:=hq));(try (refine hv9 (blx A5 rfl (w7.heap.size) ?_) (fun hq => ?_);(focus (first|omega|(simp;done)|(simp<;>omega)));obtain⟨Be,y2_w8,v2_w8,Av,Ay⟩:=hq)))
   ))
  all_goals
   first|(refine⟨rfl,g,c,w0.heap.size,rfl,?_⟩)|(refine⟨rfl,g,c,w7.heap.size,rfl,?_⟩)|(refine⟨rfl,g,c,w8.heap.size,rfl,?_⟩)
   exact⟨blw,(by go_simp),(by go_simp),(by go_simp),(by go_simp),(by go_simp),(by go_simp),(by go_simp),(by go_simp),(by go_simp),(by go_simp),(by go_simp)⟩
 intro g d B w20 hR20
 obtain⟨Ak,b0_w20,b1_w20,b2_w20,b3_w20,b4_w20,p0_w20,p1_w20,p2_w20,p3_w20,p4_w20,p5_w20⟩:=hR20
 clear PR CP
 have lB:=World.block_lt_of_cell? _ _ p0_w20
 simp only at lB
 have l_w20:=World.block_lt_of_cell? _ _ b3_w20
 simp only at l_w20
 have Ai:¬w.heap.size=w20.heap.size:=(by omega)
 have A9:¬w.heap.size+1=w20.heap.size:=(by omega)
 have nB_w20:¬B=w20.heap.size:=(by omega)
 have SE':=SE.out w20
 go_wp2_with fail
 refine(SE.out _).mono ?_
 rintro E w21 ⟨rfl,A1⟩
 have b0_w21:w21.cell? ⟨w.heap.size,0,none⟩=some (.int .i64 wv):=keepC A1 (by go_simp)
 have b1_w21:w21.cell? ⟨w.heap.size,1,none⟩=some (.int .i64 ix):=keepC A1 (by go_simp)
 have b2_w21:w21.cell? ⟨w.heap.size,2,none⟩=some (.int .i64 si):=keepC A1 (by go_simp)
 have b3_w21:w21.cell? ⟨w.heap.size+1,0,none⟩=some (.int .i64 oi):=keepC A1 (by go_simp)
 have b4_w21:w21.cell? ⟨w.heap.size+1,1,none⟩=some (.int .i64 ol):=keepC A1 (by go_simp)
 have p0_w21:w21.cell? ⟨B,0,none⟩=some (.int .i64 n0):=keepC A1 (by go_simp)
 have p1_w21:w21.cell? ⟨B,1,none⟩=some (.int .i64 n1):=keepC A1 (by go_simp)
 have p2_w21:w21.cell? ⟨B,2,none⟩=some (.int .i64 c0):=keepC A1 (by go_simp)
 have p3_w21:w21.cell? ⟨B,3,none⟩=some (.int .i64 c1):=keepC A1 (by go_simp)
 have p4_w21:w21.cell? ⟨B,4,none⟩=some (.int .i64 s0):=keepC A1 (by go_simp)
 have p5_w21:w21.cell? ⟨B,5,none⟩=some (.int .i64 s1):=keepC A1 (by go_simp)
 have l_w21:=World.block_lt_of_cell? _ _ b3_w21
 simp only at l_w21
 have Ba:¬w.heap.size=w21.heap.size:=(by omega)
 have Ar:¬w.heap.size+1=w21.heap.size:=(by omega)
 have lB_w21:=World.block_lt_of_cell? _ _ p0_w21
 simp only at lB_w21
 have nB_w21:¬B=w21.heap.size:=(by omega)
 have An:w.heap.size<w21.heap.size:=(by omega)
 have B5:w.heap.size<w21.heap.size+1:=(by omega)
 have Ap:w.heap.size+1<w21.heap.size+1:=(by omega)
 have mB_w21:B<w21.heap.size+1:=(by omega)
 (try clear b0_w20 b1_w20 b2_w20 b3_w20 b4_w20 p0_w20 p1_w20 p2_w20 p3_w20 p4_w20 p5_w20 l_w20 Ai A9 nB_w20)
 by_cases qa:a=0
 ·subst qa
  go_wp2_with fail
  refine(BE.out _ (show Below w.heap.size w _ from blw)).mono ?_
  rintro E w22 ⟨rfl,A2⟩
  have b0_w22:w22.cell? ⟨w.heap.size,0,none⟩=some (.int .i64 wv):=keepC A2 (by go_simp)
  have b1_w22:w22.cell? ⟨w.heap.size,1,none⟩=some (.int .i64 ix):=keepC A2 (by go_simp)
  have b2_w22:w22.cell? ⟨w.heap.size,2,none⟩=some (.int .i64 si):=keepC A2 (by go_simp)
  have b3_w22:w22.cell? ⟨w.heap.size+1,0,none⟩=some (.int .i64 oi):=keepC A2 (by go_simp)
  have b4_w22:w22.cell? ⟨w.heap.size+1,1,none⟩=some (.int .i64 ol):=keepC A2 (by go_simp)
  have p0_w22:w22.cell? ⟨B,0,none⟩=some (.int .i64 n0):=keepC A2 (by go_simp)
  have p1_w22:w22.cell? ⟨B,1,none⟩=some (.int .i64 n1):=keepC A2 (by go_simp)
  have p2_w22:w22.cell? ⟨B,2,none⟩=some (.int .i64 c0):=keepC A2 (by go_simp)
  have p3_w22:w22.cell? ⟨B,3,none⟩=some (.int .i64 c1):=keepC A2 (by go_simp)
  have p4_w22:w22.cell? ⟨B,4,none⟩=some (.int .i64 s0):=keepC A2 (by go_simp)
  have p5_w22:w22.cell? ⟨B,5,none⟩=some (.int .i64 s1):=keepC A2 (by go_simp)
  have l_w22:=World.block_lt_of_cell? _ _ b3_w22
  simp only at l_w22
  have Aj:¬w.heap.size=w22.heap.size:=(by omega)
  have Aa:¬w.heap.size+1=w22.heap.size:=(by omega)
  have lB_w22:=World.block_lt_of_cell? _ _ p0_w22
  simp only at lB_w22
  have nB_w22:¬B=w22.heap.size:=(by omega)
  have A7:w.heap.size<w22.heap.size:=(by omega)
  have Ah:w.heap.size<w22.heap.size+1:=(by omega)
  have A8:w.heap.size+1<w22.heap.size+1:=(by omega)
  have mB_w22:B<w22.heap.size+1:=(by omega)
  by_cases qb:b=0
  ·subst qb
   go_wp2_with fail
   refine(OE.out _).mono ?_
   rintro E w23 ⟨rfl,A3⟩
   have b0_w23:w23.cell? ⟨w.heap.size,0,none⟩=some (.int .i64 wv):=keepC A3 (by go_simp)
   have b1_w23:w23.cell? ⟨w.heap.size,1,none⟩=some (.int .i64 ix):=keepC A3 (by go_simp)
   have b2_w23:w23.cell? ⟨w.heap.size,2,none⟩=some (.int .i64 si):=keepC A3 (by go_simp)
   have b3_w23:w23.cell? ⟨w.heap.size+1,0,none⟩=some (.int .i64 oi):=keepC A3 (by go_simp)
   have b4_w23:w23.cell? ⟨w.heap.size+1,1,none⟩=some (.int .i64 ol):=keepC A3 (by go_simp)
   have p0_w23:w23.cell? ⟨B,0,none⟩=some (.int .i64 n0):=keepC A3 (by go_simp)
   have p1_w23:w23.cell? ⟨B,1,none⟩=some (.int .i64 n1):=keepC A3 (by go_simp)
   have p2_w23:w23.cell? ⟨B,2,none⟩=some (.int .i64 c0):=keepC A3 (by go_simp)
   have p3_w23:w23.cell? ⟨B,3,none⟩=some (.int .i64 c1):=keepC A3 (by go_simp)
   have p4_w23:w23.cell? ⟨B,4,none⟩=some (.int .i64 s0):=keepC A3 (by go_simp)
   have p5_w23:w23.cell? ⟨B,5,none⟩=some (.int .i64 s1):=keepC A3 (by go_simp)
   have l_w23:=World.block_lt_of_cell? _ _ b3_w23
   simp only at l_w23
   have Bb:¬w.heap.size=w23.heap.size:=(by omega)
   have As:¬w.heap.size+1=w23.heap.size:=(by omega)
   have lB_w23:=World.block_lt_of_cell? _ _ p0_w23
   simp only at lB_w23
   have nB_w23:¬B=w23.heap.size:=(by omega)
   have Ao:w.heap.size<w23.heap.size:=(by omega)
   have B6:w.heap.size<w23.heap.size+1:=(by omega)
   have Aq:w.heap.size+1<w23.heap.size+1:=(by omega)
   have mB_w23:B<w23.heap.size+1:=(by omega)
   (try clear b0_w22 b1_w22 b2_w22 b3_w22 b4_w22 p0_w22 p1_w22 p2_w22 p3_w22 p4_w22 p5_w22 l_w22 Aj Aa lB_w22 nB_w22 A7 Ah A8 mB_w22)
   by_cases qc:c=0
   ·subst qc
    have e:=PE.out
    rw[fst3_c,if_pos rfl]at e
    subst e
    simp only[Seen.val]at RP
    go_wp2_with fail
    refine(RP.out (by first|rfl|trivial) (by first|rfl|trivial) (by first|rfl|trivial) _ (show Below w.heap.size w _ from blw)).mono ?_
    rintro E w24 ⟨rfl,A0⟩
    have b0_w24:w24.cell? ⟨w.heap.size,0,none⟩=some (.int .i64 wv):=keepC A0 (by go_simp)
    have b1_w24:w24.cell? ⟨w.heap.size,1,none⟩=some (.int .i64 ix):=keepC A0 (by go_simp)
    have b2_w24:w24.cell? ⟨w.heap.size,2,none⟩=some (.int .i64 si):=keepC A0 (by go_simp)
    have b3_w24:w24.cell? ⟨w.heap.size+1,0,none⟩=some (.int .i64 oi):=keepC A0 (by go_simp)
    have b4_w24:w24.cell? ⟨w.heap.size+1,1,none⟩=some (.int .i64 ol):=keepC A0 (by go_simp)
    have p0_w24:w24.cell? ⟨B,0,none⟩=some (.int .i64 n0):=keepC A0 (by go_simp)
    have p1_w24:w24.cell? ⟨B,1,none⟩=some (.int .i64 n1):=keepC A0 (by go_simp)
    have p2_w24:w24.cell? ⟨B,2,none⟩=some (.int .i64 c0):=keepC A0 (by go_simp)
    have p3_w24:w24.cell? ⟨B,3,none⟩=some (.int .i64 c1):=keepC A0 (by go_simp)
    have p4_w24:w24.cell? ⟨B,4,none⟩=some (.int .i64 s0):=keepC A0 (by go_simp)
    have p5_w24:w24.cell? ⟨B,5,none⟩=some (.int .i64 s1):=keepC A0 (by go_simp)
    have Al:=bl5 A0 (w23.heap.size)
    go_wp2
    (with_reducible show bodyPost _ _ _ _ _ _);refine bodyPost_ret (by simp[results,Tryz.results3,go_sem, *];first|done|rfl) rfl ?_
    exact⟨rfl,blw⟩
   ·have e:=PE.out
    rw[fst3_c,if_neg qc]at e
    unfold Seen.bad at e
    cases e
    have h0:=qc
    clear PE RP BE OE SE FW
    go_wp2
    (with_reducible show bodyPost _ _ _ _ _ _);refine bodyPost_ret (by simp[results,Tryz.results3,go_sem, *];first|done|rfl) rfl ?_
    exact⟨rfl,blw⟩
  ·have e:=PE.out
   rw[fst3_b qb,if_neg qb]at e
   unfold Seen.bad at e
   cases e
   have h0:=qb
   clear PE RP BE OE SE FW
   go_wp2
   (with_reducible show bodyPost _ _ _ _ _ _);refine bodyPost_ret (by simp[results,Tryz.results3,go_sem, *];first|done|rfl) rfl ?_
   exact⟨rfl,blw⟩
 ·have e:=PE.out
  rw[fst3_a qa,if_neg qa]at e
  unfold Seen.bad at e
  cases e
  have h0:=qa
  clear PE RP BE OE SE FW
  go_wp2
  (with_reducible show bodyPost _ _ _ _ _ _);refine bodyPost_ret (by simp[results,Tryz.results3,go_sem, *];first|done|rfl) rfl ?_
  exact⟨rfl,blw⟩
end Go.Proofs.YtjbfaaolfonmaaaGreat
