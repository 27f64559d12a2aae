/- The statement on halves and what would be read of them: its walk. -/
import Derived.Test.YtjbfaaolfonmaaaGreatNarrowLaw
import Derived.Test.YtjbfaaolfonmaaaGreatAwake7
import Derived.Test.YtjbfaaolfonmaaaGreatFew
import Derived.Test.YtjbfaaolfonmaaaGreatCutCases
import Derived.Test.YtjbfaaolfonmaaaGreatCutI
namespace Go.Proofs.YtjbfaaolfonmaaaGreat
open Go Go.Sort Go.RowKit
structure At6 where
 g:Nat
 c:Nat
 C:Nat
 g0:Nat
 c0:Nat
 g1:Nat
 c1:Nat
set_option maxRecDepth 100000 in
set_option maxHeartbeats 16000000 in
theorem fitNarrower_any (wv ix si oi ol d:Int) (pa:Option Addr) (ls:List Box) (cap:Nat) (hp:pa=none→ls.length=0∧cap=0) (w:World) (hr:Row pa ls w) :
  Calls Tryz.prog 4 #[.agg #[.int .i64 wv,.int .i64 ix,.int .i64 si],.slice pa ls.length cap,.agg #[.int .i64 oi,.int .i64 ol,.int .i64 d]] w fun E w'=>E = .returned (.bool true)∧Below w.heap.size w w':=by
 have FW:=fun w=>few_any pa ls.length cap w
 have SE:=fun w=>rsettingErr_any wv ix si w
 have BE:=Lib.hid (fun w' (h:Below w.heap.size w w')=>rberr_any pa ls cap w' (hr.bel h))
 have OE:=fun w=>ronErr_any oi ol w
 obtain⟨ft,hft⟩:∃t,fewB ls.length=t:=⟨_,rfl⟩
 obtain⟨fa,hfa⟩:∃t,setQ wv ix si=t:=⟨_,rfl⟩
 obtain⟨fb,hfb⟩:∃t,checkQ ls=t:=⟨_,rfl⟩
 obtain⟨fc,hfc⟩:∃t,onQ oi ol=t:=⟨_,rfl⟩
 rw[hft]at FW
 rw[hfa]at SE
 rw[hfb]at BE
 rw[hfc]at OE
 have FW:=Lib.hid FW
 have SE:=Lib.hid SE
 have OE:=Lib.hid OE
 have HQ:=Lib.hid (And.intro hft (And.intro hfa (And.intro hfb hfc)))
 have HR:=Lib.hid hr
 have HP:=Lib.hid hp
 clear hft hfa hfb hfc hr hp
 go_enter Tryz.func4,Tryz.ntmps4
 go_wp2_with fail
 refine(awake7_any _).mono ?_
 rintro e w0 ⟨rfl,Ag⟩
 have b0_w0:w0.cell? ⟨w.heap.size,0,none⟩=some (.int .i64 wv):=keepC Ag (by go_simp)
 have b1_w0:w0.cell? ⟨w.heap.size,1,none⟩=some (.int .i64 ix):=keepC Ag (by go_simp)
 have b2_w0:w0.cell? ⟨w.heap.size,2,none⟩=some (.int .i64 si):=keepC Ag (by go_simp)
 have b3_w0:w0.cell? ⟨w.heap.size+1,0,none⟩=some (.int .i64 oi):=keepC Ag (by go_simp)
 have b4_w0:w0.cell? ⟨w.heap.size+1,1,none⟩=some (.int .i64 ol):=keepC Ag (by go_simp)
 have b5_w0:w0.cell? ⟨w.heap.size+1,2,none⟩=some (.int .i64 d):=keepC Ag (by go_simp)
 have lA_w0:=World.block_lt_of_cell? _ _ b0_w0
 simp only at lA_w0
 have nA_w0:¬w.heap.size=w0.heap.size:=(by omega)
 have uA_w0:¬w0.heap.size=w.heap.size:=(by omega)
 have mA_w0:w.heap.size<w0.heap.size+1:=(by omega)
 have lB_w0:=World.block_lt_of_cell? _ _ b3_w0
 simp only at lB_w0
 have nB_w0:¬w.heap.size+1=w0.heap.size:=(by omega)
 have uB_w0:¬w0.heap.size=w.heap.size+1:=(by omega)
 have mB_w0:w.heap.size+1<w0.heap.size+1:=(by omega)
 go_wp2_with fail
 refine(FW.out _).mono ?_
 rintro e w' ⟨rfl,hw'⟩
 rw[hw']
 clear hw' w'
 cases ft
 case false =>
  go_wp2
  (with_reducible show bodyPost _ _ _ _ _ _);refine bodyPost_ret (by simp[results,Tryz.results4,go_sem, *];first|done|rfl) rfl ?_
  exact⟨rfl,blw⟩
 go_wp2_with fail
 refine(SE.out _).mono ?_
 rintro E w1 ⟨rfl,Ah⟩
 have b0_w1:w1.cell? ⟨w.heap.size,0,none⟩=some (.int .i64 wv):=keepC Ah (by go_simp)
 have b1_w1:w1.cell? ⟨w.heap.size,1,none⟩=some (.int .i64 ix):=keepC Ah (by go_simp)
 have b2_w1:w1.cell? ⟨w.heap.size,2,none⟩=some (.int .i64 si):=keepC Ah (by go_simp)
 have b3_w1:w1.cell? ⟨w.heap.size+1,0,none⟩=some (.int .i64 oi):=keepC Ah (by go_simp)
 have b4_w1:w1.cell? ⟨w.heap.size+1,1,none⟩=some (.int .i64 ol):=keepC Ah (by go_simp)
 have b5_w1:w1.cell? ⟨w.heap.size+1,2,none⟩=some (.int .i64 d):=keepC Ah (by go_simp)
 have lA_w1:=World.block_lt_of_cell? _ _ b0_w1
 simp only at lA_w1
 have nA_w1:¬w.heap.size=w1.heap.size:=(by omega)
 have uA_w1:¬w1.heap.size=w.heap.size:=(by omega)
 have mA_w1:w.heap.size<w1.heap.size+1:=(by omega)
 have lB_w1:=World.block_lt_of_cell? _ _ b3_w1
 simp only at lB_w1
 have nB_w1:¬w.heap.size+1=w1.heap.size:=(by omega)
 have uB_w1:¬w1.heap.size=w.heap.size+1:=(by omega)
 have mB_w1:w.heap.size+1<w1.heap.size+1:=(by omega)
 (try clear b0_w0 b1_w0 b2_w0 b3_w0 b4_w0 b5_w0 lA_w0 nA_w0 uA_w0 mA_w0 lB_w0 nB_w0 uB_w0 mB_w0)
 by_cases hfa:fa=0
 case neg =>
  have qfa:(fa != 0)=true:=by simpa using hfa
  clear hfa
  go_wp2
  (with_reducible show bodyPost _ _ _ _ _ _);refine bodyPost_ret (by simp[results,Tryz.results4,go_sem, *];first|done|rfl) rfl ?_
  exact⟨rfl,blw⟩
 subst hfa
 go_wp2_with fail
 refine(BE.out _ blw).mono ?_
 rintro E w2 ⟨rfl,Ai⟩
 have b0_w2:w2.cell? ⟨w.heap.size,0,none⟩=some (.int .i64 wv):=keepC Ai (by go_simp)
 have b1_w2:w2.cell? ⟨w.heap.size,1,none⟩=some (.int .i64 ix):=keepC Ai (by go_simp)
 have b2_w2:w2.cell? ⟨w.heap.size,2,none⟩=some (.int .i64 si):=keepC Ai (by go_simp)
 have b3_w2:w2.cell? ⟨w.heap.size+1,0,none⟩=some (.int .i64 oi):=keepC Ai (by go_simp)
 have b4_w2:w2.cell? ⟨w.heap.size+1,1,none⟩=some (.int .i64 ol):=keepC Ai (by go_simp)
 have b5_w2:w2.cell? ⟨w.heap.size+1,2,none⟩=some (.int .i64 d):=keepC Ai (by go_simp)
 have lA_w2:=World.block_lt_of_cell? _ _ b0_w2
 simp only at lA_w2
 have nA_w2:¬w.heap.size=w2.heap.size:=(by omega)
 have uA_w2:¬w2.heap.size=w.heap.size:=(by omega)
 have mA_w2:w.heap.size<w2.heap.size+1:=(by omega)
 have lB_w2:=World.block_lt_of_cell? _ _ b3_w2
 simp only at lB_w2
 have nB_w2:¬w.heap.size+1=w2.heap.size:=(by omega)
 have uB_w2:¬w2.heap.size=w.heap.size+1:=(by omega)
 have mB_w2:w.heap.size+1<w2.heap.size+1:=(by omega)
 by_cases hfb:fb=0
 case neg =>
  have qfb:(fb != 0)=true:=by simpa using hfb
  clear hfb
  go_wp2
  (with_reducible show bodyPost _ _ _ _ _ _);refine bodyPost_ret (by simp[results,Tryz.results4,go_sem, *];first|done|rfl) rfl ?_
  exact⟨rfl,blw⟩
 subst hfb
 go_wp2_with fail
 refine(OE.out _).mono ?_
 rintro E w3 ⟨rfl,Aj⟩
 have b0_w3:w3.cell? ⟨w.heap.size,0,none⟩=some (.int .i64 wv):=keepC Aj (by go_simp)
 have b1_w3:w3.cell? ⟨w.heap.size,1,none⟩=some (.int .i64 ix):=keepC Aj (by go_simp)
 have b2_w3:w3.cell? ⟨w.heap.size,2,none⟩=some (.int .i64 si):=keepC Aj (by go_simp)
 have b3_w3:w3.cell? ⟨w.heap.size+1,0,none⟩=some (.int .i64 oi):=keepC Aj (by go_simp)
 have b4_w3:w3.cell? ⟨w.heap.size+1,1,none⟩=some (.int .i64 ol):=keepC Aj (by go_simp)
 have b5_w3:w3.cell? ⟨w.heap.size+1,2,none⟩=some (.int .i64 d):=keepC Aj (by go_simp)
 have lA_w3:=World.block_lt_of_cell? _ _ b0_w3
 simp only at lA_w3
 have nA_w3:¬w.heap.size=w3.heap.size:=(by omega)
 have uA_w3:¬w3.heap.size=w.heap.size:=(by omega)
 have mA_w3:w.heap.size<w3.heap.size+1:=(by omega)
 have lB_w3:=World.block_lt_of_cell? _ _ b3_w3
 simp only at lB_w3
 have nB_w3:¬w.heap.size+1=w3.heap.size:=(by omega)
 have uB_w3:¬w3.heap.size=w.heap.size+1:=(by omega)
 have mB_w3:w.heap.size+1<w3.heap.size+1:=(by omega)
 by_cases hfc:fc=0
 case neg =>
  have qfc:(fc != 0)=true:=by simpa using hfc
  clear hfc
  go_wp2
  (with_reducible show bodyPost _ _ _ _ _ _);refine bodyPost_ret (by simp[results,Tryz.results4,go_sem, *];first|done|rfl) rfl ?_
  exact⟨rfl,blw⟩
 subst hfc
 obtain⟨hf,hs,hb,ho⟩:=HQ.out
 have hn:=few_le hf
 have hr:=HR.out
 have hp:=HP.out
 obtain⟨pp,rfl⟩:∃a,pa=some a:=by
  cases pa with
  | none=>have:=(checkQ_zero hb).2.1;have:=(hp rfl).1;omega
  | some a=>exact⟨a,rfl⟩
 have CP:=Lib.hid (fun w' (h:Below w.heap.size w w')=>copy_all (some pp) ls cap hp (by omega) w' (hr.bel h))
 have PR:=Lib.hid (fun(H:List Box) g c w' h=>Predicted_any wv ix si oi ol H (some ⟨g,0,none⟩) c w' h)
 have PE:predM wv ix si ls oi ol=seenB wv ix si ls oi ol:=by unfold predM;rw[hs,hb,ho,fst3_c,if_pos rfl]
 have PL:=fun g c w' h=>Predicted_any wv ix si oi ol ls (some ⟨g,0,none⟩) c w' h
 rw[PE]at PL
 have LAW:=fun(e:Nat) (b:Box) (hl:ls[e/2]?=some b) (hd:b.dlo e<b.dhi e) (hq:(seenB wv ix si ls oi ol).q=0)=>narrow_law hs hb ho hq hl hd
 have CC:=cut_cases hb d
 have HB:=Lib.hid hb
 have HN:=Lib.hid hn
 clear hr hp hf hs ho PE hb hn HR HP HQ FW SE BE OE
 generalize hS:seenB wv ix si ls oi ol=S at *
 obtain⟨n0,n1,e0,e1,s0,s1,q⟩:=S
 simp only[Seen.val]at PL
 have PL:=Lib.hid PL
 have LAW:=Lib.hid LAW
 clear hS
 go_wp2_with fail
 refine wp_cut3 (fun g c B a9=>(((((((((((a9.put (some 37) (.agg #[.int .i64 wv,.int .i64 ix,.int .i64 si])).put (some 38) (.slice (some pp) ls.length cap)).put (some 39) (.slice (some ⟨g,0,none⟩) ls.length c)).put (some 40) (.pointer (some ⟨w.heap.size+1,0,none⟩))).put (some 41) (.agg #[.int .i64 oi,.int .i64 ol])).put (some 42) (.tuple #[.agg #[.int .i64 n0,.int .i64 n1,.int .i64 e0,.int .i64 e1,.int .i64 s0,.int .i64 s1],.int .i64 q])).put (some 36) (.tuple #[.agg #[.int .i64 n0,.int .i64 n1,.int .i64 e0,.int .i64 e1,.int .i64 s0,.int .i64 s1],.int .i64 q])).put (some 43) (.agg #[.int .i64 n0,.int .i64 n1,.int .i64 e0,.int .i64 e1,.int .i64 s0,.int .i64 s1])).put (some 44) (.int .i64 q)).put (some 7) (.pointer (some ⟨B,0,none⟩))).put (some 8) (.int .i64 q))) (fun B w20=>Below w.heap.size w w20∧w20.cell? ⟨w.heap.size,0,none⟩=some (.int .i64 wv)∧w20.cell? ⟨w.heap.size,1,none⟩=some (.int .i64 ix)∧w20.cell? ⟨w.heap.size,2,none⟩=some (.int .i64 si)∧w20.cell? ⟨w.heap.size+1,0,none⟩=some (.int .i64 oi)∧w20.cell? ⟨w.heap.size+1,1,none⟩=some (.int .i64 ol)∧w20.cell? ⟨w.heap.size+1,2,none⟩=some (.int .i64 d)∧w20.cell? ⟨B,0,none⟩=some (.int .i64 n0)∧w20.cell? ⟨B,1,none⟩=some (.int .i64 n1)∧w20.cell? ⟨B,2,none⟩=some (.int .i64 e0)∧w20.cell? ⟨B,3,none⟩=some (.int .i64 e1)∧w20.cell? ⟨B,4,none⟩=some (.int .i64 s0)∧w20.cell? ⟨B,5,none⟩=some (.int .i64 s1)) ?_ ?_
 ·(go_region_held3 (fun w'=>w'.cell? ⟨w.heap.size,0,none⟩=some (.int .i64 wv)∧w'.cell? ⟨w.heap.size,1,none⟩=some (.int .i64 ix)∧w'.cell? ⟨w.heap.size,2,none⟩=some (.int .i64 si)∧w'.cell? ⟨w.heap.size+1,0,none⟩=some (.int .i64 oi)∧w'.cell? ⟨w.heap.size+1,1,none⟩=some (.int .i64 ol)∧w'.cell? ⟨w.heap.size+1,2,none⟩=some (.int .i64 d)) (simp[*,go_sem])
   (first
    | (go_at_call 18;(with_reducible refine(CP.out _ ?_).mono ?_);(·exact blw);rintro E w7 ⟨g,c,rfl,ho,Af⟩;have b0_w7:w7.cell? ⟨w.heap.size,0,none⟩=some (.int .i64 wv):=keepC Af (by go_simp);have b1_w7:w7.cell? ⟨w.heap.size,1,none⟩=some (.int .i64 ix):=keepC Af (by go_simp);have b2_w7:w7.cell? ⟨w.heap.size,2,none⟩=some (.int .i64 si):=keepC Af (by go_simp);have b3_w7:w7.cell? ⟨w.heap.size+1,0,none⟩=some (.int .i64 oi):=keepC Af (by go_simp);have b4_w7:w7.cell? ⟨w.heap.size+1,1,none⟩=some (.int .i64 ol):=keepC Af (by go_simp);have b5_w7:w7.cell? ⟨w.heap.size+1,2,none⟩=some (.int .i64 d):=keepC Af (by go_simp);have lA_w7:=World.block_lt_of_cell? _ _ b0_w7;simp only at lA_w7;have nA_w7:¬w.heap.size=w7.heap.size:=(by omega);have uA_w7:¬w7.heap.size=w.heap.size:=(by omega);have mA_w7:w.heap.size<w7.heap.size+1:=(by omega);have lB_w7:=World.block_lt_of_cell? _ _ b3_w7;simp only at lB_w7;have nB_w7:¬w.heap.size+1=w7.heap.size:=(by omega);have uB_w7:¬w7.heap.size=w.heap.size+1:=(by omega);have mB_w7:w.heap.size+1<w7.heap.size+1:=(by omega);have Az:=Af.size;(try simp at Az);(try (refine hv9 (blx Af rfl (w3.heap.size) ?_) (fun hq => ?_);(focus (first|omega|(simp;done)|(simp<;>omega)));obtain⟨Bk,y1_w7,v1_w7,Be,Bh⟩:=hq));have hR:=Lib.hid ho.row;clear ho)
    | (go_at_call 17;refine(PL.out g c _ (hR.out.bel (show Below w7.heap.size w7 _ from blw))).mono ?_;rintro E w8 ⟨rfl,Ae⟩;have b0_w8:w8.cell? ⟨w.heap.size,0,none⟩=some (.int .i64 wv):=keepC Ae (by go_simp);have b1_w8:w8.cell? ⟨w.heap.size,1,none⟩=some (.int .i64 ix):=keepC Ae (by go_simp);have b2_w8:w8.cell? ⟨w.heap.size,2,none⟩=some (.int .i64 si):=keepC Ae (by go_simp);have b3_w8:w8.cell? ⟨w.heap.size+1,0,none⟩=some (.int .i64 oi):=keepC Ae (by go_simp);have b4_w8:w8.cell? ⟨w.heap.size+1,1,none⟩=some (.int .i64 ol):=keepC Ae (by go_simp);have b5_w8:w8.cell? ⟨w.heap.size+1,2,none⟩=some (.int .i64 d):=keepC Ae (by go_simp);have lA_w8:=World.block_lt_of_cell? _ _ b0_w8;simp only at lA_w8;have nA_w8:¬w.heap.size=w8.heap.size:=(by omega);have uA_w8:¬w8.heap.size=w.heap.size:=(by omega);have mA_w8:w.heap.size<w8.heap.size+1:=(by omega);have lB_w8:=World.block_lt_of_cell? _ _ b3_w8;simp only at lB_w8;have nB_w8:¬w.heap.size+1=w8.heap.size:=(by omega);have uB_w8:¬w8.heap.size=w.heap.size+1:=(by omega);have mB_w8:w.heap.size+1<w8.heap.size+1:=(by omega);have B0:=Ae.size;(try simp at B0);(try (refine hv9 (blx Ae rfl (w3.heap.size) ?_) (fun hq => ?_);(focus (first|omega|(simp;done)|(simp<;>omega)));obtain⟨Bl,y1_w8,v1_w8,Bf,Bi⟩:=hq));(try (refine hv9 (blx Ae rfl (w7.heap.size) ?_) (fun hq => ?_);(focus (first|omega|(simp;done)|(simp<;>omega)));obtain⟨Bm,y2_w8,v2_w8,Bg,Bj⟩:=hq)))
   ))
  all_goals
   first|(refine⟨rfl,g,c,w3.heap.size,rfl,?_⟩)|(refine⟨rfl,g,c,w7.heap.size,rfl,?_⟩)|(refine⟨rfl,g,c,w8.heap.size,rfl,?_⟩)
   exact⟨blw,(by go_simp),(by go_simp),(by go_simp),(by go_simp),(by go_simp),(by go_simp),(by go_simp),(by go_simp),(by go_simp),(by go_simp),(by go_simp),(by go_simp)⟩
 intro g cg B w20 hR20
 obtain⟨B7,b0_w20,b1_w20,b2_w20,b3_w20,b4_w20,b5_w20,p0_w20,p1_w20,p2_w20,p3_w20,p4_w20,p5_w20⟩:=hR20
 clear PL
 have lA_w20:=World.block_lt_of_cell? _ _ b0_w20
 simp only at lA_w20
 have nA_w20:¬w.heap.size=w20.heap.size:=(by omega)
 have uA_w20:¬w20.heap.size=w.heap.size:=(by omega)
 have mA_w20:w.heap.size<w20.heap.size+1:=(by omega)
 have lB_w20:=World.block_lt_of_cell? _ _ b3_w20
 simp only at lB_w20
 have nB_w20:¬w.heap.size+1=w20.heap.size:=(by omega)
 have uB_w20:¬w20.heap.size=w.heap.size+1:=(by omega)
 have mB_w20:w.heap.size+1<w20.heap.size+1:=(by omega)
 have lP_w20:=World.block_lt_of_cell? _ _ p0_w20
 simp only at lP_w20
 have nP_w20:¬B=w20.heap.size:=(by omega)
 have uP_w20:¬w20.heap.size=B:=(by omega)
 have mP_w20:B<w20.heap.size+1:=(by omega)
 by_cases hc:cutQ ls d=0
 case neg =>
  have CU:∃Q:Int,(Q != 0)=true∧∀g c w',Row (some ⟨g,0,none⟩) ls w'→Calls Tryz.prog 23 #[.slice (some ⟨g,0,none⟩) ls.length c,.int .i64 d] w' fun E w2=>E = .returned (.tuple #[.agg #[.slice none 0 0,.slice none 0 0],.int .i64 Q])∧Below w'.heap.size w' w2:=by
   rcases CC with⟨h,_⟩|⟨e,b,rfl,hl,hk,⟨h,_⟩|⟨h,e2,_⟩⟩
   ·exact⟨6,rfl,fun g c w' h'=>CutOf_missing _ ls c d HB.out h (by have:=HN.out;omega) w' h'⟩
   ·exact⟨24,rfl,fun g c w' h'=>CutOf_break _ ls c e b hl HB.out (by omega) (by have:=HN.out;omega) w' h'⟩
   ·exact absurd e2 hc
  obtain⟨Q,hQ,CU⟩:=CU
  have CU:=Lib.hid CU
  clear CC hc LAW
  go_wp2_with fail
  refine wp_cutI (fun(i:At6) a9=>((((((((((a9.put (some 46) (.slice (some pp) ls.length cap)).put (some 47) (.slice (some ⟨i.g,0,none⟩) ls.length i.c)).put (some 48) (.pointer (some ⟨w.heap.size+1,2,none⟩))).put (some 49) (.int .i64 d)).put (some 50) (.tuple #[.agg #[.slice none 0 0,.slice none 0 0],.int .i64 Q])).put (some 45) (.tuple #[.agg #[.slice none 0 0,.slice none 0 0],.int .i64 Q])).put (some 51) (.agg #[.slice none 0 0,.slice none 0 0])).put (some 52) (.int .i64 Q)).put (some 9) (.pointer (some ⟨i.C,0,none⟩))).put (some 10) (.int .i64 Q))) (fun i w30=>Below w.heap.size w w30∧w30.cell? ⟨w.heap.size,0,none⟩=some (.int .i64 wv)∧w30.cell? ⟨w.heap.size,1,none⟩=some (.int .i64 ix)∧w30.cell? ⟨w.heap.size,2,none⟩=some (.int .i64 si)∧w30.cell? ⟨w.heap.size+1,0,none⟩=some (.int .i64 oi)∧w30.cell? ⟨w.heap.size+1,1,none⟩=some (.int .i64 ol)∧w30.cell? ⟨w.heap.size+1,2,none⟩=some (.int .i64 d)∧w30.cell? ⟨B,0,none⟩=some (.int .i64 n0)∧w30.cell? ⟨B,1,none⟩=some (.int .i64 n1)∧w30.cell? ⟨B,2,none⟩=some (.int .i64 e0)∧w30.cell? ⟨B,3,none⟩=some (.int .i64 e1)∧w30.cell? ⟨B,4,none⟩=some (.int .i64 s0)∧w30.cell? ⟨B,5,none⟩=some (.int .i64 s1)) ?_ ?_
  ·(go_region_held3 (fun w'=>w'.cell? ⟨w.heap.size,0,none⟩=some (.int .i64 wv)∧w'.cell? ⟨w.heap.size,1,none⟩=some (.int .i64 ix)∧w'.cell? ⟨w.heap.size,2,none⟩=some (.int .i64 si)∧w'.cell? ⟨w.heap.size+1,0,none⟩=some (.int .i64 oi)∧w'.cell? ⟨w.heap.size+1,1,none⟩=some (.int .i64 ol)∧w'.cell? ⟨w.heap.size+1,2,none⟩=some (.int .i64 d)∧w'.cell? ⟨B,0,none⟩=some (.int .i64 n0)∧w'.cell? ⟨B,1,none⟩=some (.int .i64 n1)∧w'.cell? ⟨B,2,none⟩=some (.int .i64 e0)∧w'.cell? ⟨B,3,none⟩=some (.int .i64 e1)∧w'.cell? ⟨B,4,none⟩=some (.int .i64 s0)∧w'.cell? ⟨B,5,none⟩=some (.int .i64 s1)) (simp[*,go_sem])
    (first
     | (go_at_call 18;(with_reducible refine(CP.out _ ?_).mono ?_);(·exact blw);rintro E w27 ⟨g,c,rfl,ho,A1⟩;have b0_w27:w27.cell? ⟨w.heap.size,0,none⟩=some (.int .i64 wv):=keepC A1 (by go_simp);have b1_w27:w27.cell? ⟨w.heap.size,1,none⟩=some (.int .i64 ix):=keepC A1 (by go_simp);have b2_w27:w27.cell? ⟨w.heap.size,2,none⟩=some (.int .i64 si):=keepC A1 (by go_simp);have b3_w27:w27.cell? ⟨w.heap.size+1,0,none⟩=some (.int .i64 oi):=keepC A1 (by go_simp);have b4_w27:w27.cell? ⟨w.heap.size+1,1,none⟩=some (.int .i64 ol):=keepC A1 (by go_simp);have b5_w27:w27.cell? ⟨w.heap.size+1,2,none⟩=some (.int .i64 d):=keepC A1 (by go_simp);have p0_w27:w27.cell? ⟨B,0,none⟩=some (.int .i64 n0):=keepC A1 (by go_simp);have p1_w27:w27.cell? ⟨B,1,none⟩=some (.int .i64 n1):=keepC A1 (by go_simp);have p2_w27:w27.cell? ⟨B,2,none⟩=some (.int .i64 e0):=keepC A1 (by go_simp);have p3_w27:w27.cell? ⟨B,3,none⟩=some (.int .i64 e1):=keepC A1 (by go_simp);have p4_w27:w27.cell? ⟨B,4,none⟩=some (.int .i64 s0):=keepC A1 (by go_simp);have p5_w27:w27.cell? ⟨B,5,none⟩=some (.int .i64 s1):=keepC A1 (by go_simp);have lA_w27:=World.block_lt_of_cell? _ _ b0_w27;simp only at lA_w27;have nA_w27:¬w.heap.size=w27.heap.size:=(by omega);have uA_w27:¬w27.heap.size=w.heap.size:=(by omega);have mA_w27:w.heap.size<w27.heap.size+1:=(by omega);have lB_w27:=World.block_lt_of_cell? _ _ b3_w27;simp only at lB_w27;have nB_w27:¬w.heap.size+1=w27.heap.size:=(by omega);have uB_w27:¬w27.heap.size=w.heap.size+1:=(by omega);have mB_w27:w.heap.size+1<w27.heap.size+1:=(by omega);have lP_w27:=World.block_lt_of_cell? _ _ p0_w27;simp only at lP_w27;have nP_w27:¬B=w27.heap.size:=(by omega);have uP_w27:¬w27.heap.size=B:=(by omega);have mP_w27:B<w27.heap.size+1:=(by omega);have Ak:=A1.size;(try simp at Ak);(try (refine hv9 (blx A1 rfl (w20.heap.size) ?_) (fun hq => ?_);(focus (first|omega|(simp;done)|(simp<;>omega)));obtain⟨Aw,y1_w27,v1_w27,Am,Ap⟩:=hq));have hR:=Lib.hid ho.row;clear ho)
     | (go_at_call 23;refine(CU.out g c _ (hR.out.bel (show Below w27.heap.size w27 _ from blw))).mono ?_;rintro E w28 ⟨rfl,A0⟩;have b0_w28:w28.cell? ⟨w.heap.size,0,none⟩=some (.int .i64 wv):=keepC A0 (by go_simp);have b1_w28:w28.cell? ⟨w.heap.size,1,none⟩=some (.int .i64 ix):=keepC A0 (by go_simp);have b2_w28:w28.cell? ⟨w.heap.size,2,none⟩=some (.int .i64 si):=keepC A0 (by go_simp);have b3_w28:w28.cell? ⟨w.heap.size+1,0,none⟩=some (.int .i64 oi):=keepC A0 (by go_simp);have b4_w28:w28.cell? ⟨w.heap.size+1,1,none⟩=some (.int .i64 ol):=keepC A0 (by go_simp);have b5_w28:w28.cell? ⟨w.heap.size+1,2,none⟩=some (.int .i64 d):=keepC A0 (by go_simp);have p0_w28:w28.cell? ⟨B,0,none⟩=some (.int .i64 n0):=keepC A0 (by go_simp);have p1_w28:w28.cell? ⟨B,1,none⟩=some (.int .i64 n1):=keepC A0 (by go_simp);have p2_w28:w28.cell? ⟨B,2,none⟩=some (.int .i64 e0):=keepC A0 (by go_simp);have p3_w28:w28.cell? ⟨B,3,none⟩=some (.int .i64 e1):=keepC A0 (by go_simp);have p4_w28:w28.cell? ⟨B,4,none⟩=some (.int .i64 s0):=keepC A0 (by go_simp);have p5_w28:w28.cell? ⟨B,5,none⟩=some (.int .i64 s1):=keepC A0 (by go_simp);have lA_w28:=World.block_lt_of_cell? _ _ b0_w28;simp only at lA_w28;have nA_w28:¬w.heap.size=w28.heap.size:=(by omega);have uA_w28:¬w28.heap.size=w.heap.size:=(by omega);have mA_w28:w.heap.size<w28.heap.size+1:=(by omega);have lB_w28:=World.block_lt_of_cell? _ _ b3_w28;simp only at lB_w28;have nB_w28:¬w.heap.size+1=w28.heap.size:=(by omega);have uB_w28:¬w28.heap.size=w.heap.size+1:=(by omega);have mB_w28:w.heap.size+1<w28.heap.size+1:=(by omega);have lP_w28:=World.block_lt_of_cell? _ _ p0_w28;simp only at lP_w28;have nP_w28:¬B=w28.heap.size:=(by omega);have uP_w28:¬w28.heap.size=B:=(by omega);have mP_w28:B<w28.heap.size+1:=(by omega);have Al:=A0.size;(try simp at Al);(try (refine hv9 (blx A0 rfl (w20.heap.size) ?_) (fun hq => ?_);(focus (first|omega|(simp;done)|(simp<;>omega)));obtain⟨Ax,y1_w28,v1_w28,An,Aq⟩:=hq));(try (refine hv9 (blx A0 rfl (w27.heap.size) ?_) (fun hq => ?_);(focus (first|omega|(simp;done)|(simp<;>omega)));obtain⟨Ay,y2_w28,v2_w28,Ao,Ar⟩:=hq)))
    ))
   all_goals
    first|(refine⟨rfl,⟨g,c,w20.heap.size,0,0,0,0⟩,rfl,?_⟩)|(refine⟨rfl,⟨g,c,w27.heap.size,0,0,0,0⟩,rfl,?_⟩)|(refine⟨rfl,⟨g,c,w28.heap.size,0,0,0,0⟩,rfl,?_⟩)
    exact⟨blw,(by go_simp),(by go_simp),(by go_simp),(by go_simp),(by go_simp),(by go_simp),(by go_simp),(by go_simp),(by go_simp),(by go_simp),(by go_simp),(by go_simp)⟩
  rintro i w30 hR30
  obtain⟨As,b0_w30,b1_w30,b2_w30,b3_w30,b4_w30,b5_w30,p0_w30,p1_w30,p2_w30,p3_w30,p4_w30,p5_w30⟩:=hR30
  have lA_w30:=World.block_lt_of_cell? _ _ b0_w30
  simp only at lA_w30
  have nA_w30:¬w.heap.size=w30.heap.size:=(by omega)
  have uA_w30:¬w30.heap.size=w.heap.size:=(by omega)
  have mA_w30:w.heap.size<w30.heap.size+1:=(by omega)
  have lB_w30:=World.block_lt_of_cell? _ _ b3_w30
  simp only at lB_w30
  have nB_w30:¬w.heap.size+1=w30.heap.size:=(by omega)
  have uB_w30:¬w30.heap.size=w.heap.size+1:=(by omega)
  have mB_w30:w.heap.size+1<w30.heap.size+1:=(by omega)
  have lP_w30:=World.block_lt_of_cell? _ _ p0_w30
  simp only at lP_w30
  have nP_w30:¬B=w30.heap.size:=(by omega)
  have uP_w30:¬w30.heap.size=B:=(by omega)
  have mP_w30:B<w30.heap.size+1:=(by omega)
  by_cases hq:q=0
  ·subst hq
   go_wp2
   (with_reducible show bodyPost _ _ _ _ _ _);refine bodyPost_ret (by simp[results,Tryz.results4,go_sem, *];first|done|rfl) rfl ?_
   exact⟨rfl,blw⟩
  ·have hq1:(q != 0)=true:=by simpa using hq
   clear hq
   go_wp2
   (with_reducible show bodyPost _ _ _ _ _ _);refine bodyPost_ret (by simp[results,Tryz.results4,go_sem, *];first|done|rfl) rfl ?_
   exact⟨rfl,blw⟩
 obtain⟨e,b,rfl,hl,hd⟩:∃(e:Nat) (b:Box),d=e∧ls[e/2]?=some b∧b.dlo e<b.dhi e:=by
  rcases CC with⟨_,h,_⟩|⟨e,b,rfl,hl,_,⟨_,h,_⟩|⟨h,_⟩⟩
  ·rw[h]at hc;exact absurd hc (by decide)
  ·rw[h]at hc;exact absurd hc (by decide)
  ·exact⟨e,b,rfl,hl,h⟩
 have CU:=Lib.hid (fun g c w' h=>CutOf_ok ⟨g,0,none⟩ ls c e b hl HB.out hd (by have:=HN.out;omega) w' h)
 have LAW:=Lib.hid (LAW.out e b hl hd)
 clear CC hc hl hd
 go_wp2_with fail
 refine wp_cutI (fun(i:At6) a9=>((((((((((a9.put (some 46) (.slice (some pp) ls.length cap)).put (some 47) (.slice (some ⟨i.g,0,none⟩) ls.length i.c)).put (some 48) (.pointer (some ⟨w.heap.size+1,2,none⟩))).put (some 49) (.int .i64 (e:Int))).put (some 50) (.tuple #[.agg #[.slice (some ⟨i.g0,0,none⟩) ls.length i.c0,.slice (some ⟨i.g1,0,none⟩) ls.length i.c1],.int .i64 0])).put (some 45) (.tuple #[.agg #[.slice (some ⟨i.g0,0,none⟩) ls.length i.c0,.slice (some ⟨i.g1,0,none⟩) ls.length i.c1],.int .i64 0])).put (some 51) (.agg #[.slice (some ⟨i.g0,0,none⟩) ls.length i.c0,.slice (some ⟨i.g1,0,none⟩) ls.length i.c1])).put (some 52) (.int .i64 0)).put (some 9) (.pointer (some ⟨i.C,0,none⟩))).put (some 10) (.int .i64 0))) (fun i w30=>Below w.heap.size w w30∧w30.cell? ⟨w.heap.size,0,none⟩=some (.int .i64 wv)∧w30.cell? ⟨w.heap.size,1,none⟩=some (.int .i64 ix)∧w30.cell? ⟨w.heap.size,2,none⟩=some (.int .i64 si)∧w30.cell? ⟨w.heap.size+1,0,none⟩=some (.int .i64 oi)∧w30.cell? ⟨w.heap.size+1,1,none⟩=some (.int .i64 ol)∧w30.cell? ⟨w.heap.size+1,2,none⟩=some (.int .i64 (e:Int))∧w30.cell? ⟨B,0,none⟩=some (.int .i64 n0)∧w30.cell? ⟨B,1,none⟩=some (.int .i64 n1)∧w30.cell? ⟨B,2,none⟩=some (.int .i64 e0)∧w30.cell? ⟨B,3,none⟩=some (.int .i64 e1)∧w30.cell? ⟨B,4,none⟩=some (.int .i64 s0)∧w30.cell? ⟨B,5,none⟩=some (.int .i64 s1)∧w30.cell? ⟨i.C,0,none⟩=some (.slice (some ⟨i.g0,0,none⟩) ls.length i.c0)∧w30.cell? ⟨i.C,1,none⟩=some (.slice (some ⟨i.g1,0,none⟩) ls.length i.c1)∧Row (some ⟨i.g0,0,none⟩) (lowHalf ls e) w30∧Row (some ⟨i.g1,0,none⟩) (highHalf ls e) w30) ?_ ?_
 ·(go_region_held3 (fun w'=>w'.cell? ⟨w.heap.size,0,none⟩=some (.int .i64 wv)∧w'.cell? ⟨w.heap.size,1,none⟩=some (.int .i64 ix)∧w'.cell? ⟨w.heap.size,2,none⟩=some (.int .i64 si)∧w'.cell? ⟨w.heap.size+1,0,none⟩=some (.int .i64 oi)∧w'.cell? ⟨w.heap.size+1,1,none⟩=some (.int .i64 ol)∧w'.cell? ⟨w.heap.size+1,2,none⟩=some (.int .i64 (e:Int))∧w'.cell? ⟨B,0,none⟩=some (.int .i64 n0)∧w'.cell? ⟨B,1,none⟩=some (.int .i64 n1)∧w'.cell? ⟨B,2,none⟩=some (.int .i64 e0)∧w'.cell? ⟨B,3,none⟩=some (.int .i64 e1)∧w'.cell? ⟨B,4,none⟩=some (.int .i64 s0)∧w'.cell? ⟨B,5,none⟩=some (.int .i64 s1)) (simp[*,go_sem])
   (first
    | (go_at_call 18;(with_reducible refine(CP.out _ ?_).mono ?_);(·exact blw);rintro E w27 ⟨g,c,rfl,ho,A1⟩;have b0_w27:w27.cell? ⟨w.heap.size,0,none⟩=some (.int .i64 wv):=keepC A1 (by go_simp);have b1_w27:w27.cell? ⟨w.heap.size,1,none⟩=some (.int .i64 ix):=keepC A1 (by go_simp);have b2_w27:w27.cell? ⟨w.heap.size,2,none⟩=some (.int .i64 si):=keepC A1 (by go_simp);have b3_w27:w27.cell? ⟨w.heap.size+1,0,none⟩=some (.int .i64 oi):=keepC A1 (by go_simp);have b4_w27:w27.cell? ⟨w.heap.size+1,1,none⟩=some (.int .i64 ol):=keepC A1 (by go_simp);have b5_w27:w27.cell? ⟨w.heap.size+1,2,none⟩=some (.int .i64 (e:Int)):=keepC A1 (by go_simp);have p0_w27:w27.cell? ⟨B,0,none⟩=some (.int .i64 n0):=keepC A1 (by go_simp);have p1_w27:w27.cell? ⟨B,1,none⟩=some (.int .i64 n1):=keepC A1 (by go_simp);have p2_w27:w27.cell? ⟨B,2,none⟩=some (.int .i64 e0):=keepC A1 (by go_simp);have p3_w27:w27.cell? ⟨B,3,none⟩=some (.int .i64 e1):=keepC A1 (by go_simp);have p4_w27:w27.cell? ⟨B,4,none⟩=some (.int .i64 s0):=keepC A1 (by go_simp);have p5_w27:w27.cell? ⟨B,5,none⟩=some (.int .i64 s1):=keepC A1 (by go_simp);have lA_w27:=World.block_lt_of_cell? _ _ b0_w27;simp only at lA_w27;have nA_w27:¬w.heap.size=w27.heap.size:=(by omega);have uA_w27:¬w27.heap.size=w.heap.size:=(by omega);have mA_w27:w.heap.size<w27.heap.size+1:=(by omega);have lB_w27:=World.block_lt_of_cell? _ _ b3_w27;simp only at lB_w27;have nB_w27:¬w.heap.size+1=w27.heap.size:=(by omega);have uB_w27:¬w27.heap.size=w.heap.size+1:=(by omega);have mB_w27:w.heap.size+1<w27.heap.size+1:=(by omega);have lP_w27:=World.block_lt_of_cell? _ _ p0_w27;simp only at lP_w27;have nP_w27:¬B=w27.heap.size:=(by omega);have uP_w27:¬w27.heap.size=B:=(by omega);have mP_w27:B<w27.heap.size+1:=(by omega);have Ak:=A1.size;(try simp at Ak);(try (refine hv9 (blx A1 rfl (w20.heap.size) ?_) (fun hq => ?_);(focus (first|omega|(simp;done)|(simp<;>omega)));obtain⟨Aw,y1_w27,v1_w27,Am,Ap⟩:=hq));have hR:=Lib.hid ho.row;clear ho)
    | (go_at_call 23;refine(CU.out g c _ (hR.out.bel (show Below w27.heap.size w27 _ from blw))).mono ?_;rintro E w28 ⟨g0,c0,g1,c1,rfl,O0,O1,A0⟩;have b0_w28:w28.cell? ⟨w.heap.size,0,none⟩=some (.int .i64 wv):=keepC A0 (by go_simp);have b1_w28:w28.cell? ⟨w.heap.size,1,none⟩=some (.int .i64 ix):=keepC A0 (by go_simp);have b2_w28:w28.cell? ⟨w.heap.size,2,none⟩=some (.int .i64 si):=keepC A0 (by go_simp);have b3_w28:w28.cell? ⟨w.heap.size+1,0,none⟩=some (.int .i64 oi):=keepC A0 (by go_simp);have b4_w28:w28.cell? ⟨w.heap.size+1,1,none⟩=some (.int .i64 ol):=keepC A0 (by go_simp);have b5_w28:w28.cell? ⟨w.heap.size+1,2,none⟩=some (.int .i64 (e:Int)):=keepC A0 (by go_simp);have p0_w28:w28.cell? ⟨B,0,none⟩=some (.int .i64 n0):=keepC A0 (by go_simp);have p1_w28:w28.cell? ⟨B,1,none⟩=some (.int .i64 n1):=keepC A0 (by go_simp);have p2_w28:w28.cell? ⟨B,2,none⟩=some (.int .i64 e0):=keepC A0 (by go_simp);have p3_w28:w28.cell? ⟨B,3,none⟩=some (.int .i64 e1):=keepC A0 (by go_simp);have p4_w28:w28.cell? ⟨B,4,none⟩=some (.int .i64 s0):=keepC A0 (by go_simp);have p5_w28:w28.cell? ⟨B,5,none⟩=some (.int .i64 s1):=keepC A0 (by go_simp);have lA_w28:=World.block_lt_of_cell? _ _ b0_w28;simp only at lA_w28;have nA_w28:¬w.heap.size=w28.heap.size:=(by omega);have uA_w28:¬w28.heap.size=w.heap.size:=(by omega);have mA_w28:w.heap.size<w28.heap.size+1:=(by omega);have lB_w28:=World.block_lt_of_cell? _ _ b3_w28;simp only at lB_w28;have nB_w28:¬w.heap.size+1=w28.heap.size:=(by omega);have uB_w28:¬w28.heap.size=w.heap.size+1:=(by omega);have mB_w28:w.heap.size+1<w28.heap.size+1:=(by omega);have lP_w28:=World.block_lt_of_cell? _ _ p0_w28;simp only at lP_w28;have nP_w28:¬B=w28.heap.size:=(by omega);have uP_w28:¬w28.heap.size=B:=(by omega);have mP_w28:B<w28.heap.size+1:=(by omega);have Al:=A0.size;(try simp at Al);(try (refine hv9 (blx A0 rfl (w20.heap.size) ?_) (fun hq => ?_);(focus (first|omega|(simp;done)|(simp<;>omega)));obtain⟨Ax,y1_w28,v1_w28,An,Aq⟩:=hq));(try (refine hv9 (blx A0 rfl (w27.heap.size) ?_) (fun hq => ?_);(focus (first|omega|(simp;done)|(simp<;>omega)));obtain⟨Ay,y2_w28,v2_w28,Ao,Ar⟩:=hq));have k0:=O0.lo;have k1:=O0.hi;have k2:=O1.lo;have k3:=O1.hi;(try simp at k0 k2);have O0:=Lib.hid (O0.low (Nat.zero_le _));have O1:=Lib.hid (O1.low (Nat.zero_le _)))
   ))
  all_goals
   first|(refine⟨rfl,⟨g,c,w20.heap.size,g0,c0,g1,c1⟩,rfl,?_⟩)|(refine⟨rfl,⟨g,c,w27.heap.size,g0,c0,g1,c1⟩,rfl,?_⟩)|(refine⟨rfl,⟨g,c,w28.heap.size,g0,c0,g1,c1⟩,rfl,?_⟩)
   have O0:=O0.out
   have O1:=O1.out
   exact⟨blw,(by go_simp),(by go_simp),(by go_simp),(by go_simp),(by go_simp),(by go_simp),(by go_simp),(by go_simp),(by go_simp),(by go_simp),(by go_simp),(by go_simp),(by go_simp),(by go_simp),OwnBox.row (show OwnBox (lowHalf ls e) 0 g0 _ from ownw),OwnBox.row (show OwnBox (highHalf ls e) 0 g1 _ from ownw)⟩
 rintro⟨g,cg2,C,g0,c0,g1,c1⟩ w30 hR30
 dsimp only at hR30
 obtain⟨As,b0_w30,b1_w30,b2_w30,b3_w30,b4_w30,b5_w30,p0_w30,p1_w30,p2_w30,p3_w30,p4_w30,p5_w30,h0_w30,h1_w30,R0,R1⟩:=hR30
 have R0:=Lib.hid R0
 have R1:=Lib.hid R1
 have lA_w30:=World.block_lt_of_cell? _ _ b0_w30
 simp only at lA_w30
 have nA_w30:¬w.heap.size=w30.heap.size:=(by omega)
 have uA_w30:¬w30.heap.size=w.heap.size:=(by omega)
 have mA_w30:w.heap.size<w30.heap.size+1:=(by omega)
 have lB_w30:=World.block_lt_of_cell? _ _ b3_w30
 simp only at lB_w30
 have nB_w30:¬w.heap.size+1=w30.heap.size:=(by omega)
 have uB_w30:¬w30.heap.size=w.heap.size+1:=(by omega)
 have mB_w30:w.heap.size+1<w30.heap.size+1:=(by omega)
 have lP_w30:=World.block_lt_of_cell? _ _ p0_w30
 simp only at lP_w30
 have nP_w30:¬B=w30.heap.size:=(by omega)
 have uP_w30:¬w30.heap.size=B:=(by omega)
 have mP_w30:B<w30.heap.size+1:=(by omega)
 have lC_w30:=World.block_lt_of_cell? _ _ h0_w30
 simp only at lC_w30
 have nC_w30:¬C=w30.heap.size:=(by omega)
 have uC_w30:¬w30.heap.size=C:=(by omega)
 have mC_w30:C<w30.heap.size+1:=(by omega)
 by_cases hq:q=0
 case neg =>
  have hq1:(q != 0)=true:=by simpa using hq
  clear hq
  go_wp2
  (with_reducible show bodyPost _ _ _ _ _ _);refine bodyPost_ret (by simp[results,Tryz.results4,go_sem, *];first|done|rfl) rfl ?_
  exact⟨rfl,blw⟩
 subst hq
 have LAW:=LAW.out rfl
 have LL:=lowHalf_len ls e
 have LH:=highHalf_len ls e
 have P0:=fun c w' h=>PR.out (lowHalf ls e) g0 c w' h
 have P1:=fun c w' h=>PR.out (highHalf ls e) g1 c w' h
 rw[LL]at P0
 rw[LH]at P1
 clear PR LL LH
 generalize predM wv ix si (lowHalf ls e) oi ol=T0 at *
 generalize predM wv ix si (highHalf ls e) oi ol=T1 at *
 obtain⟨a0,a1,a2,a3,a4,a5,y0⟩:=T0
 obtain⟨x0,x1,x2,x3,x4,x5,y1⟩:=T1
 simp only[Seen.val]at P0 P1
 have P0:=Lib.hid P0
 have P1:=Lib.hid P1
 obtain⟨LA,LB⟩:=LAW
 have LA:Hid (y0=0→(n0≤a1∧a0≤n1)∧(e0≤a3∧a2≤e1)∧(s0≤a5∧a4≤s1)):=Lib.hid (fun h=>⟨(LA h).n,(LA h).c,(LA h).s⟩)
 have LB:Hid (y1=0→(n0≤x1∧x0≤n1)∧(e0≤x3∧x2≤e1)∧(s0≤x5∧x4≤s1)):=Lib.hid (fun h=>⟨(LB h).n,(LB h).c,(LB h).s⟩)
 go_wp2_with fail
 refine wp_loop_rounds 3 ?_
 rw[rounds_succ]
 go_wp2_with fail
 refine wp_cutI (fun(R:Nat) a9=>((((((((((((a9.put (some 64) (.agg #[.int .i64 wv,.int .i64 ix,.int .i64 si])).put (some 65) (.int .i64 0)).put (some 66) (.pointer (some ⟨C,0,none⟩))).put (some 67) (.slice (some ⟨g0,0,none⟩) ls.length c0)).put (some 68) (.pointer (some ⟨w.heap.size+1,0,none⟩))).put (some 69) (.agg #[.int .i64 oi,.int .i64 ol])).put (some 70) (.tuple #[.agg #[.int .i64 a0,.int .i64 a1,.int .i64 a2,.int .i64 a3,.int .i64 a4,.int .i64 a5],.int .i64 y0])).put (some 63) (.tuple #[.agg #[.int .i64 a0,.int .i64 a1,.int .i64 a2,.int .i64 a3,.int .i64 a4,.int .i64 a5],.int .i64 y0])).put (some 71) (.agg #[.int .i64 a0,.int .i64 a1,.int .i64 a2,.int .i64 a3,.int .i64 a4,.int .i64 a5])).put (some 72) (.int .i64 y0)).put (some 12) (.pointer (some ⟨R,0,none⟩))).put (some 13) (.int .i64 y0))) (fun R w9=>Below w30.heap.size w30 w9∧w9.cell? ⟨w.heap.size,0,none⟩=some (.int .i64 wv)∧w9.cell? ⟨w.heap.size,1,none⟩=some (.int .i64 ix)∧w9.cell? ⟨w.heap.size,2,none⟩=some (.int .i64 si)∧w9.cell? ⟨w.heap.size+1,0,none⟩=some (.int .i64 oi)∧w9.cell? ⟨w.heap.size+1,1,none⟩=some (.int .i64 ol)∧w9.cell? ⟨w.heap.size+1,2,none⟩=some (.int .i64 (e:Int))∧w9.cell? ⟨B,0,none⟩=some (.int .i64 n0)∧w9.cell? ⟨B,1,none⟩=some (.int .i64 n1)∧w9.cell? ⟨B,2,none⟩=some (.int .i64 e0)∧w9.cell? ⟨B,3,none⟩=some (.int .i64 e1)∧w9.cell? ⟨B,4,none⟩=some (.int .i64 s0)∧w9.cell? ⟨B,5,none⟩=some (.int .i64 s1)∧w9.cell? ⟨C,0,none⟩=some (.slice (some ⟨g0,0,none⟩) ls.length c0)∧w9.cell? ⟨C,1,none⟩=some (.slice (some ⟨g1,0,none⟩) ls.length c1)∧w9.cell? ⟨R,0,none⟩=some (.int .i64 a0)∧w9.cell? ⟨R,1,none⟩=some (.int .i64 a1)∧w9.cell? ⟨R,2,none⟩=some (.int .i64 a2)∧w9.cell? ⟨R,3,none⟩=some (.int .i64 a3)∧w9.cell? ⟨R,4,none⟩=some (.int .i64 a4)∧w9.cell? ⟨R,5,none⟩=some (.int .i64 a5)) ?_ ?_
 ·(go_region_held3 (fun w'=>w'.cell? ⟨w.heap.size,0,none⟩=some (.int .i64 wv)∧w'.cell? ⟨w.heap.size,1,none⟩=some (.int .i64 ix)∧w'.cell? ⟨w.heap.size,2,none⟩=some (.int .i64 si)∧w'.cell? ⟨w.heap.size+1,0,none⟩=some (.int .i64 oi)∧w'.cell? ⟨w.heap.size+1,1,none⟩=some (.int .i64 ol)∧w'.cell? ⟨w.heap.size+1,2,none⟩=some (.int .i64 (e:Int))∧w'.cell? ⟨B,0,none⟩=some (.int .i64 n0)∧w'.cell? ⟨B,1,none⟩=some (.int .i64 n1)∧w'.cell? ⟨B,2,none⟩=some (.int .i64 e0)∧w'.cell? ⟨B,3,none⟩=some (.int .i64 e1)∧w'.cell? ⟨B,4,none⟩=some (.int .i64 s0)∧w'.cell? ⟨B,5,none⟩=some (.int .i64 s1)∧w'.cell? ⟨C,0,none⟩=some (.slice (some ⟨g0,0,none⟩) ls.length c0)∧w'.cell? ⟨C,1,none⟩=some (.slice (some ⟨g1,0,none⟩) ls.length c1)) (simp[*,go_sem])
   (first
    | (go_at_call 17;refine(P0.out c0 _ (R0.out.bel (show Below w30.heap.size w30 _ from blw))).mono ?_;rintro E w50 ⟨rfl,Ab⟩;have b0_w50:w50.cell? ⟨w.heap.size,0,none⟩=some (.int .i64 wv):=keepC Ab (by go_simp);have b1_w50:w50.cell? ⟨w.heap.size,1,none⟩=some (.int .i64 ix):=keepC Ab (by go_simp);have b2_w50:w50.cell? ⟨w.heap.size,2,none⟩=some (.int .i64 si):=keepC Ab (by go_simp);have b3_w50:w50.cell? ⟨w.heap.size+1,0,none⟩=some (.int .i64 oi):=keepC Ab (by go_simp);have b4_w50:w50.cell? ⟨w.heap.size+1,1,none⟩=some (.int .i64 ol):=keepC Ab (by go_simp);have b5_w50:w50.cell? ⟨w.heap.size+1,2,none⟩=some (.int .i64 (e:Int)):=keepC Ab (by go_simp);have p0_w50:w50.cell? ⟨B,0,none⟩=some (.int .i64 n0):=keepC Ab (by go_simp);have p1_w50:w50.cell? ⟨B,1,none⟩=some (.int .i64 n1):=keepC Ab (by go_simp);have p2_w50:w50.cell? ⟨B,2,none⟩=some (.int .i64 e0):=keepC Ab (by go_simp);have p3_w50:w50.cell? ⟨B,3,none⟩=some (.int .i64 e1):=keepC Ab (by go_simp);have p4_w50:w50.cell? ⟨B,4,none⟩=some (.int .i64 s0):=keepC Ab (by go_simp);have p5_w50:w50.cell? ⟨B,5,none⟩=some (.int .i64 s1):=keepC Ab (by go_simp);have h0_w50:w50.cell? ⟨C,0,none⟩=some (.slice (some ⟨g0,0,none⟩) ls.length c0):=keepC Ab (by go_simp);have h1_w50:w50.cell? ⟨C,1,none⟩=some (.slice (some ⟨g1,0,none⟩) ls.length c1):=keepC Ab (by go_simp);have lA_w50:=World.block_lt_of_cell? _ _ b0_w50;simp only at lA_w50;have nA_w50:¬w.heap.size=w50.heap.size:=(by omega);have uA_w50:¬w50.heap.size=w.heap.size:=(by omega);have mA_w50:w.heap.size<w50.heap.size+1:=(by omega);have lB_w50:=World.block_lt_of_cell? _ _ b3_w50;simp only at lB_w50;have nB_w50:¬w.heap.size+1=w50.heap.size:=(by omega);have uB_w50:¬w50.heap.size=w.heap.size+1:=(by omega);have mB_w50:w.heap.size+1<w50.heap.size+1:=(by omega);have lP_w50:=World.block_lt_of_cell? _ _ p0_w50;simp only at lP_w50;have nP_w50:¬B=w50.heap.size:=(by omega);have uP_w50:¬w50.heap.size=B:=(by omega);have mP_w50:B<w50.heap.size+1:=(by omega);have lC_w50:=World.block_lt_of_cell? _ _ h0_w50;simp only at lC_w50;have nC_w50:¬C=w50.heap.size:=(by omega);have uC_w50:¬w50.heap.size=C:=(by omega);have mC_w50:C<w50.heap.size+1:=(by omega);have At:=Ab.size;(try simp at At);(try (refine hv9 (blx Ab rfl (w30.heap.size) ?_) (fun hq => ?_);(focus (first|omega|(simp;done)|(simp<;>omega)));obtain⟨Bb,y1_w50,v1_w50,B1,B4⟩:=hq)))
   ))
  all_goals
   first|(refine⟨rfl,w30.heap.size,rfl,?_⟩)|(refine⟨rfl,w50.heap.size,rfl,?_⟩)
   exact⟨blw,(by go_simp),(by go_simp),(by go_simp),(by go_simp),(by go_simp),(by go_simp),(by go_simp),(by go_simp),(by go_simp),(by go_simp),(by go_simp),(by go_simp),(by go_simp),(by go_simp),(by go_simp),(by go_simp),(by go_simp),(by go_simp),(by go_simp),(by go_simp)⟩
 intro R50q w51 hRR
 obtain⟨B8,b0_w51,b1_w51,b2_w51,b3_w51,b4_w51,b5_w51,p0_w51,p1_w51,p2_w51,p3_w51,p4_w51,p5_w51,h0_w51,h1_w51,r0_w51,r1_w51,r2_w51,r3_w51,r4_w51,r5_w51⟩:=hRR
 have lA_w51:=World.block_lt_of_cell? _ _ b0_w51
 simp only at lA_w51
 have nA_w51:¬w.heap.size=w51.heap.size:=(by omega)
 have uA_w51:¬w51.heap.size=w.heap.size:=(by omega)
 have mA_w51:w.heap.size<w51.heap.size+1:=(by omega)
 have lB_w51:=World.block_lt_of_cell? _ _ b3_w51
 simp only at lB_w51
 have nB_w51:¬w.heap.size+1=w51.heap.size:=(by omega)
 have uB_w51:¬w51.heap.size=w.heap.size+1:=(by omega)
 have mB_w51:w.heap.size+1<w51.heap.size+1:=(by omega)
 have lP_w51:=World.block_lt_of_cell? _ _ p0_w51
 simp only at lP_w51
 have nP_w51:¬B=w51.heap.size:=(by omega)
 have uP_w51:¬w51.heap.size=B:=(by omega)
 have mP_w51:B<w51.heap.size+1:=(by omega)
 have lC_w51:=World.block_lt_of_cell? _ _ h0_w51
 simp only at lC_w51
 have nC_w51:¬C=w51.heap.size:=(by omega)
 have uC_w51:¬w51.heap.size=C:=(by omega)
 have mC_w51:C<w51.heap.size+1:=(by omega)
 have lR_w51:=World.block_lt_of_cell? _ _ r0_w51
 simp only at lR_w51
 have nR_w51:¬R50q=w51.heap.size:=(by omega)
 have uR_w51:¬w51.heap.size=R50q:=(by omega)
 have mR_w51:R50q<w51.heap.size+1:=(by omega)
 by_cases g50:y0=0
 case neg =>
  have g50q:(y0==0)=false:=by simpa using g50
  clear g50
  go_wp2_with fail
  refine wp_loop_rounds 4 ?_
  rw[rounds_succ]
  go_wp2_with fail
  rw[rounds_succ]
  go_wp2_with fail
  refine wp_cutI (fun(R:Nat) a9=>((((((((((((a9.put (some 64) (.agg #[.int .i64 wv,.int .i64 ix,.int .i64 si])).put (some 65) (.int .i64 1)).put (some 66) (.pointer (some ⟨C,1,none⟩))).put (some 67) (.slice (some ⟨g1,0,none⟩) ls.length c1)).put (some 68) (.pointer (some ⟨w.heap.size+1,0,none⟩))).put (some 69) (.agg #[.int .i64 oi,.int .i64 ol])).put (some 70) (.tuple #[.agg #[.int .i64 x0,.int .i64 x1,.int .i64 x2,.int .i64 x3,.int .i64 x4,.int .i64 x5],.int .i64 y1])).put (some 63) (.tuple #[.agg #[.int .i64 x0,.int .i64 x1,.int .i64 x2,.int .i64 x3,.int .i64 x4,.int .i64 x5],.int .i64 y1])).put (some 71) (.agg #[.int .i64 x0,.int .i64 x1,.int .i64 x2,.int .i64 x3,.int .i64 x4,.int .i64 x5])).put (some 72) (.int .i64 y1)).put (some 12) (.pointer (some ⟨R,0,none⟩))).put (some 13) (.int .i64 y1))) (fun R w9=>Below w51.heap.size w51 w9∧w9.cell? ⟨w.heap.size,0,none⟩=some (.int .i64 wv)∧w9.cell? ⟨w.heap.size,1,none⟩=some (.int .i64 ix)∧w9.cell? ⟨w.heap.size,2,none⟩=some (.int .i64 si)∧w9.cell? ⟨w.heap.size+1,0,none⟩=some (.int .i64 oi)∧w9.cell? ⟨w.heap.size+1,1,none⟩=some (.int .i64 ol)∧w9.cell? ⟨w.heap.size+1,2,none⟩=some (.int .i64 (e:Int))∧w9.cell? ⟨B,0,none⟩=some (.int .i64 n0)∧w9.cell? ⟨B,1,none⟩=some (.int .i64 n1)∧w9.cell? ⟨B,2,none⟩=some (.int .i64 e0)∧w9.cell? ⟨B,3,none⟩=some (.int .i64 e1)∧w9.cell? ⟨B,4,none⟩=some (.int .i64 s0)∧w9.cell? ⟨B,5,none⟩=some (.int .i64 s1)∧w9.cell? ⟨C,0,none⟩=some (.slice (some ⟨g0,0,none⟩) ls.length c0)∧w9.cell? ⟨C,1,none⟩=some (.slice (some ⟨g1,0,none⟩) ls.length c1)∧w9.cell? ⟨R,0,none⟩=some (.int .i64 x0)∧w9.cell? ⟨R,1,none⟩=some (.int .i64 x1)∧w9.cell? ⟨R,2,none⟩=some (.int .i64 x2)∧w9.cell? ⟨R,3,none⟩=some (.int .i64 x3)∧w9.cell? ⟨R,4,none⟩=some (.int .i64 x4)∧w9.cell? ⟨R,5,none⟩=some (.int .i64 x5)) ?_ ?_
  ·(go_region_held3 (fun w'=>w'.cell? ⟨w.heap.size,0,none⟩=some (.int .i64 wv)∧w'.cell? ⟨w.heap.size,1,none⟩=some (.int .i64 ix)∧w'.cell? ⟨w.heap.size,2,none⟩=some (.int .i64 si)∧w'.cell? ⟨w.heap.size+1,0,none⟩=some (.int .i64 oi)∧w'.cell? ⟨w.heap.size+1,1,none⟩=some (.int .i64 ol)∧w'.cell? ⟨w.heap.size+1,2,none⟩=some (.int .i64 (e:Int))∧w'.cell? ⟨B,0,none⟩=some (.int .i64 n0)∧w'.cell? ⟨B,1,none⟩=some (.int .i64 n1)∧w'.cell? ⟨B,2,none⟩=some (.int .i64 e0)∧w'.cell? ⟨B,3,none⟩=some (.int .i64 e1)∧w'.cell? ⟨B,4,none⟩=some (.int .i64 s0)∧w'.cell? ⟨B,5,none⟩=some (.int .i64 s1)∧w'.cell? ⟨C,0,none⟩=some (.slice (some ⟨g0,0,none⟩) ls.length c0)∧w'.cell? ⟨C,1,none⟩=some (.slice (some ⟨g1,0,none⟩) ls.length c1)) (simp[*,go_sem])
    (first
     | (go_at_call 17;refine(P1.out c1 _ (R1.out.bel (show Below w30.heap.size w30 _ from blw))).mono ?_;rintro E w60 ⟨rfl,Ac⟩;have b0_w60:w60.cell? ⟨w.heap.size,0,none⟩=some (.int .i64 wv):=keepC Ac (by go_simp);have b1_w60:w60.cell? ⟨w.heap.size,1,none⟩=some (.int .i64 ix):=keepC Ac (by go_simp);have b2_w60:w60.cell? ⟨w.heap.size,2,none⟩=some (.int .i64 si):=keepC Ac (by go_simp);have b3_w60:w60.cell? ⟨w.heap.size+1,0,none⟩=some (.int .i64 oi):=keepC Ac (by go_simp);have b4_w60:w60.cell? ⟨w.heap.size+1,1,none⟩=some (.int .i64 ol):=keepC Ac (by go_simp);have b5_w60:w60.cell? ⟨w.heap.size+1,2,none⟩=some (.int .i64 (e:Int)):=keepC Ac (by go_simp);have p0_w60:w60.cell? ⟨B,0,none⟩=some (.int .i64 n0):=keepC Ac (by go_simp);have p1_w60:w60.cell? ⟨B,1,none⟩=some (.int .i64 n1):=keepC Ac (by go_simp);have p2_w60:w60.cell? ⟨B,2,none⟩=some (.int .i64 e0):=keepC Ac (by go_simp);have p3_w60:w60.cell? ⟨B,3,none⟩=some (.int .i64 e1):=keepC Ac (by go_simp);have p4_w60:w60.cell? ⟨B,4,none⟩=some (.int .i64 s0):=keepC Ac (by go_simp);have p5_w60:w60.cell? ⟨B,5,none⟩=some (.int .i64 s1):=keepC Ac (by go_simp);have h0_w60:w60.cell? ⟨C,0,none⟩=some (.slice (some ⟨g0,0,none⟩) ls.length c0):=keepC Ac (by go_simp);have h1_w60:w60.cell? ⟨C,1,none⟩=some (.slice (some ⟨g1,0,none⟩) ls.length c1):=keepC Ac (by go_simp);have lA_w60:=World.block_lt_of_cell? _ _ b0_w60;simp only at lA_w60;have nA_w60:¬w.heap.size=w60.heap.size:=(by omega);have uA_w60:¬w60.heap.size=w.heap.size:=(by omega);have mA_w60:w.heap.size<w60.heap.size+1:=(by omega);have lB_w60:=World.block_lt_of_cell? _ _ b3_w60;simp only at lB_w60;have nB_w60:¬w.heap.size+1=w60.heap.size:=(by omega);have uB_w60:¬w60.heap.size=w.heap.size+1:=(by omega);have mB_w60:w.heap.size+1<w60.heap.size+1:=(by omega);have lP_w60:=World.block_lt_of_cell? _ _ p0_w60;simp only at lP_w60;have nP_w60:¬B=w60.heap.size:=(by omega);have uP_w60:¬w60.heap.size=B:=(by omega);have mP_w60:B<w60.heap.size+1:=(by omega);have lC_w60:=World.block_lt_of_cell? _ _ h0_w60;simp only at lC_w60;have nC_w60:¬C=w60.heap.size:=(by omega);have uC_w60:¬w60.heap.size=C:=(by omega);have mC_w60:C<w60.heap.size+1:=(by omega);have Au:=Ac.size;(try simp at Au);(try (refine hv9 (blx Ac rfl (w51.heap.size) ?_) (fun hq => ?_);(focus (first|omega|(simp;done)|(simp<;>omega)));obtain⟨Bc,y1_w60,v1_w60,B2,B5⟩:=hq)))
    ))
   all_goals
    first|(refine⟨rfl,w51.heap.size,rfl,?_⟩)|(refine⟨rfl,w60.heap.size,rfl,?_⟩)
    exact⟨blw,(by go_simp),(by go_simp),(by go_simp),(by go_simp),(by go_simp),(by go_simp),(by go_simp),(by go_simp),(by go_simp),(by go_simp),(by go_simp),(by go_simp),(by go_simp),(by go_simp),(by go_simp),(by go_simp),(by go_simp),(by go_simp),(by go_simp),(by go_simp)⟩
  intro R60q w61 hRR
  obtain⟨B9,b0_w61,b1_w61,b2_w61,b3_w61,b4_w61,b5_w61,p0_w61,p1_w61,p2_w61,p3_w61,p4_w61,p5_w61,h0_w61,h1_w61,r0_w61,r1_w61,r2_w61,r3_w61,r4_w61,r5_w61⟩:=hRR
  have lA_w61:=World.block_lt_of_cell? _ _ b0_w61
  simp only at lA_w61
  have nA_w61:¬w.heap.size=w61.heap.size:=(by omega)
  have uA_w61:¬w61.heap.size=w.heap.size:=(by omega)
  have mA_w61:w.heap.size<w61.heap.size+1:=(by omega)
  have lB_w61:=World.block_lt_of_cell? _ _ b3_w61
  simp only at lB_w61
  have nB_w61:¬w.heap.size+1=w61.heap.size:=(by omega)
  have uB_w61:¬w61.heap.size=w.heap.size+1:=(by omega)
  have mB_w61:w.heap.size+1<w61.heap.size+1:=(by omega)
  have lP_w61:=World.block_lt_of_cell? _ _ p0_w61
  simp only at lP_w61
  have nP_w61:¬B=w61.heap.size:=(by omega)
  have uP_w61:¬w61.heap.size=B:=(by omega)
  have mP_w61:B<w61.heap.size+1:=(by omega)
  have lC_w61:=World.block_lt_of_cell? _ _ h0_w61
  simp only at lC_w61
  have nC_w61:¬C=w61.heap.size:=(by omega)
  have uC_w61:¬w61.heap.size=C:=(by omega)
  have mC_w61:C<w61.heap.size+1:=(by omega)
  have lR_w61:=World.block_lt_of_cell? _ _ r0_w61
  simp only at lR_w61
  have nR_w61:¬R60q=w61.heap.size:=(by omega)
  have uR_w61:¬w61.heap.size=R60q:=(by omega)
  have mR_w61:R60q<w61.heap.size+1:=(by omega)
  by_cases g60:y1=0
  case neg =>
   have g60q:(y1==0)=false:=by simpa using g60
   clear g60
   go_wp2_with fail
   refine wp_loop_rounds 4 ?_
   rw[rounds_succ]
   go_wp2_with fail
   rw[rounds_succ]
   go_wp2_with fail
   (with_reducible show bodyPost _ _ _ _ _ _);refine bodyPost_ret (by simp[results,Tryz.results4,go_sem, *];first|done|rfl) rfl ?_
   exact⟨rfl,blw⟩
  have hL60:=LB.out g60
  subst g60
  go_wp2_with fail
  refine wp_loop_rounds 4 ?_
  rw[rounds_succ]
  go_wp2_with fail
  have d0:decide (x1<n0)=false:=decide_eq_false (by omega)
  have d1:decide (n1<x0)=false:=decide_eq_false (by omega)
  refine calm_all (by kernel_rfl) (by kernel_rfl) fun hG => ?_
  have gB:=hG B lto
  have gR:=hG R60q lto
  clear hG
  repeat (first|(go_big_quiet_step (first|fail))|(simp only[*]))
  refine wpQuiet_nil ?_
  intro w62 A5
  clear gB gR d0 d1
  have b0_w62:w62.cell? ⟨w.heap.size,0,none⟩=some (.int .i64 wv):=keepC A5 (by go_simp)
  have b1_w62:w62.cell? ⟨w.heap.size,1,none⟩=some (.int .i64 ix):=keepC A5 (by go_simp)
  have b2_w62:w62.cell? ⟨w.heap.size,2,none⟩=some (.int .i64 si):=keepC A5 (by go_simp)
  have b3_w62:w62.cell? ⟨w.heap.size+1,0,none⟩=some (.int .i64 oi):=keepC A5 (by go_simp)
  have b4_w62:w62.cell? ⟨w.heap.size+1,1,none⟩=some (.int .i64 ol):=keepC A5 (by go_simp)
  have b5_w62:w62.cell? ⟨w.heap.size+1,2,none⟩=some (.int .i64 (e:Int)):=keepC A5 (by go_simp)
  have p0_w62:w62.cell? ⟨B,0,none⟩=some (.int .i64 n0):=keepC A5 (by go_simp)
  have p1_w62:w62.cell? ⟨B,1,none⟩=some (.int .i64 n1):=keepC A5 (by go_simp)
  have p2_w62:w62.cell? ⟨B,2,none⟩=some (.int .i64 e0):=keepC A5 (by go_simp)
  have p3_w62:w62.cell? ⟨B,3,none⟩=some (.int .i64 e1):=keepC A5 (by go_simp)
  have p4_w62:w62.cell? ⟨B,4,none⟩=some (.int .i64 s0):=keepC A5 (by go_simp)
  have p5_w62:w62.cell? ⟨B,5,none⟩=some (.int .i64 s1):=keepC A5 (by go_simp)
  have h0_w62:w62.cell? ⟨C,0,none⟩=some (.slice (some ⟨g0,0,none⟩) ls.length c0):=keepC A5 (by go_simp)
  have h1_w62:w62.cell? ⟨C,1,none⟩=some (.slice (some ⟨g1,0,none⟩) ls.length c1):=keepC A5 (by go_simp)
  have r0_w62:w62.cell? ⟨R60q,0,none⟩=some (.int .i64 x0):=keepC A5 (by go_simp)
  have r1_w62:w62.cell? ⟨R60q,1,none⟩=some (.int .i64 x1):=keepC A5 (by go_simp)
  have r2_w62:w62.cell? ⟨R60q,2,none⟩=some (.int .i64 x2):=keepC A5 (by go_simp)
  have r3_w62:w62.cell? ⟨R60q,3,none⟩=some (.int .i64 x3):=keepC A5 (by go_simp)
  have r4_w62:w62.cell? ⟨R60q,4,none⟩=some (.int .i64 x4):=keepC A5 (by go_simp)
  have r5_w62:w62.cell? ⟨R60q,5,none⟩=some (.int .i64 x5):=keepC A5 (by go_simp)
  have lA_w62:=World.block_lt_of_cell? _ _ b0_w62
  simp only at lA_w62
  have nA_w62:¬w.heap.size=w62.heap.size:=(by omega)
  have uA_w62:¬w62.heap.size=w.heap.size:=(by omega)
  have mA_w62:w.heap.size<w62.heap.size+1:=(by omega)
  have lB_w62:=World.block_lt_of_cell? _ _ b3_w62
  simp only at lB_w62
  have nB_w62:¬w.heap.size+1=w62.heap.size:=(by omega)
  have uB_w62:¬w62.heap.size=w.heap.size+1:=(by omega)
  have mB_w62:w.heap.size+1<w62.heap.size+1:=(by omega)
  have lP_w62:=World.block_lt_of_cell? _ _ p0_w62
  simp only at lP_w62
  have nP_w62:¬B=w62.heap.size:=(by omega)
  have uP_w62:¬w62.heap.size=B:=(by omega)
  have mP_w62:B<w62.heap.size+1:=(by omega)
  have lC_w62:=World.block_lt_of_cell? _ _ h0_w62
  simp only at lC_w62
  have nC_w62:¬C=w62.heap.size:=(by omega)
  have uC_w62:¬w62.heap.size=C:=(by omega)
  have mC_w62:C<w62.heap.size+1:=(by omega)
  have lR_w62:=World.block_lt_of_cell? _ _ r0_w62
  simp only at lR_w62
  have nR_w62:¬R60q=w62.heap.size:=(by omega)
  have uR_w62:¬w62.heap.size=R60q:=(by omega)
  have mR_w62:R60q<w62.heap.size+1:=(by omega)
  go_wp2_with fail
  rw[rounds_succ]
  go_wp2_with fail
  have d0:decide (x3<e0)=false:=decide_eq_false (by omega)
  have d1:decide (e1<x2)=false:=decide_eq_false (by omega)
  refine calm_all (by kernel_rfl) (by kernel_rfl) fun hG => ?_
  have gB:=hG B lto
  have gR:=hG R60q lto
  clear hG
  repeat (first|(go_big_quiet_step (first|fail))|(simp only[*]))
  refine wpQuiet_nil ?_
  intro w63 A6
  clear gB gR d0 d1
  have b0_w63:w63.cell? ⟨w.heap.size,0,none⟩=some (.int .i64 wv):=keepC A6 (by go_simp)
  have b1_w63:w63.cell? ⟨w.heap.size,1,none⟩=some (.int .i64 ix):=keepC A6 (by go_simp)
  have b2_w63:w63.cell? ⟨w.heap.size,2,none⟩=some (.int .i64 si):=keepC A6 (by go_simp)
  have b3_w63:w63.cell? ⟨w.heap.size+1,0,none⟩=some (.int .i64 oi):=keepC A6 (by go_simp)
  have b4_w63:w63.cell? ⟨w.heap.size+1,1,none⟩=some (.int .i64 ol):=keepC A6 (by go_simp)
  have b5_w63:w63.cell? ⟨w.heap.size+1,2,none⟩=some (.int .i64 (e:Int)):=keepC A6 (by go_simp)
  have p0_w63:w63.cell? ⟨B,0,none⟩=some (.int .i64 n0):=keepC A6 (by go_simp)
  have p1_w63:w63.cell? ⟨B,1,none⟩=some (.int .i64 n1):=keepC A6 (by go_simp)
  have p2_w63:w63.cell? ⟨B,2,none⟩=some (.int .i64 e0):=keepC A6 (by go_simp)
  have p3_w63:w63.cell? ⟨B,3,none⟩=some (.int .i64 e1):=keepC A6 (by go_simp)
  have p4_w63:w63.cell? ⟨B,4,none⟩=some (.int .i64 s0):=keepC A6 (by go_simp)
  have p5_w63:w63.cell? ⟨B,5,none⟩=some (.int .i64 s1):=keepC A6 (by go_simp)
  have h0_w63:w63.cell? ⟨C,0,none⟩=some (.slice (some ⟨g0,0,none⟩) ls.length c0):=keepC A6 (by go_simp)
  have h1_w63:w63.cell? ⟨C,1,none⟩=some (.slice (some ⟨g1,0,none⟩) ls.length c1):=keepC A6 (by go_simp)
  have r0_w63:w63.cell? ⟨R60q,0,none⟩=some (.int .i64 x0):=keepC A6 (by go_simp)
  have r1_w63:w63.cell? ⟨R60q,1,none⟩=some (.int .i64 x1):=keepC A6 (by go_simp)
  have r2_w63:w63.cell? ⟨R60q,2,none⟩=some (.int .i64 x2):=keepC A6 (by go_simp)
  have r3_w63:w63.cell? ⟨R60q,3,none⟩=some (.int .i64 x3):=keepC A6 (by go_simp)
  have r4_w63:w63.cell? ⟨R60q,4,none⟩=some (.int .i64 x4):=keepC A6 (by go_simp)
  have r5_w63:w63.cell? ⟨R60q,5,none⟩=some (.int .i64 x5):=keepC A6 (by go_simp)
  have lA_w63:=World.block_lt_of_cell? _ _ b0_w63
  simp only at lA_w63
  have nA_w63:¬w.heap.size=w63.heap.size:=(by omega)
  have uA_w63:¬w63.heap.size=w.heap.size:=(by omega)
  have mA_w63:w.heap.size<w63.heap.size+1:=(by omega)
  have lB_w63:=World.block_lt_of_cell? _ _ b3_w63
  simp only at lB_w63
  have nB_w63:¬w.heap.size+1=w63.heap.size:=(by omega)
  have uB_w63:¬w63.heap.size=w.heap.size+1:=(by omega)
  have mB_w63:w.heap.size+1<w63.heap.size+1:=(by omega)
  have lP_w63:=World.block_lt_of_cell? _ _ p0_w63
  simp only at lP_w63
  have nP_w63:¬B=w63.heap.size:=(by omega)
  have uP_w63:¬w63.heap.size=B:=(by omega)
  have mP_w63:B<w63.heap.size+1:=(by omega)
  have lC_w63:=World.block_lt_of_cell? _ _ h0_w63
  simp only at lC_w63
  have nC_w63:¬C=w63.heap.size:=(by omega)
  have uC_w63:¬w63.heap.size=C:=(by omega)
  have mC_w63:C<w63.heap.size+1:=(by omega)
  have lR_w63:=World.block_lt_of_cell? _ _ r0_w63
  simp only at lR_w63
  have nR_w63:¬R60q=w63.heap.size:=(by omega)
  have uR_w63:¬w63.heap.size=R60q:=(by omega)
  have mR_w63:R60q<w63.heap.size+1:=(by omega)
  (try clear b0_w62 b1_w62 b2_w62 b3_w62 b4_w62 b5_w62 p0_w62 p1_w62 p2_w62 p3_w62 p4_w62 p5_w62 h0_w62 h1_w62 r0_w62 r1_w62 r2_w62 r3_w62 r4_w62 r5_w62 lA_w62 nA_w62 uA_w62 mA_w62 lB_w62 nB_w62 uB_w62 mB_w62 lP_w62 nP_w62 uP_w62 mP_w62 lC_w62 nC_w62 uC_w62 mC_w62 lR_w62 nR_w62 uR_w62 mR_w62)
  go_wp2_with fail
  rw[rounds_succ]
  go_wp2_with fail
  have d0:decide (x5<s0)=false:=decide_eq_false (by omega)
  have d1:decide (s1<x4)=false:=decide_eq_false (by omega)
  refine calm_all (by kernel_rfl) (by kernel_rfl) fun hG => ?_
  have gB:=hG B lto
  have gR:=hG R60q lto
  clear hG
  repeat (first|(go_big_quiet_step (first|fail))|(simp only[*]))
  refine wpQuiet_nil ?_
  intro w64 A7
  clear gB gR d0 d1
  have b0_w64:w64.cell? ⟨w.heap.size,0,none⟩=some (.int .i64 wv):=keepC A7 (by go_simp)
  have b1_w64:w64.cell? ⟨w.heap.size,1,none⟩=some (.int .i64 ix):=keepC A7 (by go_simp)
  have b2_w64:w64.cell? ⟨w.heap.size,2,none⟩=some (.int .i64 si):=keepC A7 (by go_simp)
  have b3_w64:w64.cell? ⟨w.heap.size+1,0,none⟩=some (.int .i64 oi):=keepC A7 (by go_simp)
  have b4_w64:w64.cell? ⟨w.heap.size+1,1,none⟩=some (.int .i64 ol):=keepC A7 (by go_simp)
  have b5_w64:w64.cell? ⟨w.heap.size+1,2,none⟩=some (.int .i64 (e:Int)):=keepC A7 (by go_simp)
  have p0_w64:w64.cell? ⟨B,0,none⟩=some (.int .i64 n0):=keepC A7 (by go_simp)
  have p1_w64:w64.cell? ⟨B,1,none⟩=some (.int .i64 n1):=keepC A7 (by go_simp)
  have p2_w64:w64.cell? ⟨B,2,none⟩=some (.int .i64 e0):=keepC A7 (by go_simp)
  have p3_w64:w64.cell? ⟨B,3,none⟩=some (.int .i64 e1):=keepC A7 (by go_simp)
  have p4_w64:w64.cell? ⟨B,4,none⟩=some (.int .i64 s0):=keepC A7 (by go_simp)
  have p5_w64:w64.cell? ⟨B,5,none⟩=some (.int .i64 s1):=keepC A7 (by go_simp)
  have h0_w64:w64.cell? ⟨C,0,none⟩=some (.slice (some ⟨g0,0,none⟩) ls.length c0):=keepC A7 (by go_simp)
  have h1_w64:w64.cell? ⟨C,1,none⟩=some (.slice (some ⟨g1,0,none⟩) ls.length c1):=keepC A7 (by go_simp)
  have r0_w64:w64.cell? ⟨R60q,0,none⟩=some (.int .i64 x0):=keepC A7 (by go_simp)
  have r1_w64:w64.cell? ⟨R60q,1,none⟩=some (.int .i64 x1):=keepC A7 (by go_simp)
  have r2_w64:w64.cell? ⟨R60q,2,none⟩=some (.int .i64 x2):=keepC A7 (by go_simp)
  have r3_w64:w64.cell? ⟨R60q,3,none⟩=some (.int .i64 x3):=keepC A7 (by go_simp)
  have r4_w64:w64.cell? ⟨R60q,4,none⟩=some (.int .i64 x4):=keepC A7 (by go_simp)
  have r5_w64:w64.cell? ⟨R60q,5,none⟩=some (.int .i64 x5):=keepC A7 (by go_simp)
  have lA_w64:=World.block_lt_of_cell? _ _ b0_w64
  simp only at lA_w64
  have nA_w64:¬w.heap.size=w64.heap.size:=(by omega)
  have uA_w64:¬w64.heap.size=w.heap.size:=(by omega)
  have mA_w64:w.heap.size<w64.heap.size+1:=(by omega)
  have lB_w64:=World.block_lt_of_cell? _ _ b3_w64
  simp only at lB_w64
  have nB_w64:¬w.heap.size+1=w64.heap.size:=(by omega)
  have uB_w64:¬w64.heap.size=w.heap.size+1:=(by omega)
  have mB_w64:w.heap.size+1<w64.heap.size+1:=(by omega)
  have lP_w64:=World.block_lt_of_cell? _ _ p0_w64
  simp only at lP_w64
  have nP_w64:¬B=w64.heap.size:=(by omega)
  have uP_w64:¬w64.heap.size=B:=(by omega)
  have mP_w64:B<w64.heap.size+1:=(by omega)
  have lC_w64:=World.block_lt_of_cell? _ _ h0_w64
  simp only at lC_w64
  have nC_w64:¬C=w64.heap.size:=(by omega)
  have uC_w64:¬w64.heap.size=C:=(by omega)
  have mC_w64:C<w64.heap.size+1:=(by omega)
  have lR_w64:=World.block_lt_of_cell? _ _ r0_w64
  simp only at lR_w64
  have nR_w64:¬R60q=w64.heap.size:=(by omega)
  have uR_w64:¬w64.heap.size=R60q:=(by omega)
  have mR_w64:R60q<w64.heap.size+1:=(by omega)
  (try clear b0_w63 b1_w63 b2_w63 b3_w63 b4_w63 b5_w63 p0_w63 p1_w63 p2_w63 p3_w63 p4_w63 p5_w63 h0_w63 h1_w63 r0_w63 r1_w63 r2_w63 r3_w63 r4_w63 r5_w63 lA_w63 nA_w63 uA_w63 mA_w63 lB_w63 nB_w63 uB_w63 mB_w63 lP_w63 nP_w63 uP_w63 mP_w63 lC_w63 nC_w63 uC_w63 mC_w63 lR_w63 nR_w63 uR_w63 mR_w63)
  go_wp2_with fail
  rw[rounds_succ]
  clear hL60
  go_wp2_with fail
  rw[rounds_succ]
  go_wp2_with fail
  (with_reducible show bodyPost _ _ _ _ _ _);refine bodyPost_ret (by simp[results,Tryz.results4,go_sem, *];first|done|rfl) rfl ?_
  exact⟨rfl,blw⟩
 have hL50:=LA.out g50
 subst g50
 go_wp2_with fail
 refine wp_loop_rounds 4 ?_
 rw[rounds_succ]
 go_wp2_with fail
 have d0:decide (a1<n0)=false:=decide_eq_false (by omega)
 have d1:decide (n1<a0)=false:=decide_eq_false (by omega)
 refine calm_all (by kernel_rfl) (by kernel_rfl) fun hG => ?_
 have gB:=hG B lto
 have gR:=hG R50q lto
 clear hG
 repeat (first|(go_big_quiet_step (first|fail))|(simp only[*]))
 refine wpQuiet_nil ?_
 intro w52 A2
 clear gB gR d0 d1
 have b0_w52:w52.cell? ⟨w.heap.size,0,none⟩=some (.int .i64 wv):=keepC A2 (by go_simp)
 have b1_w52:w52.cell? ⟨w.heap.size,1,none⟩=some (.int .i64 ix):=keepC A2 (by go_simp)
 have b2_w52:w52.cell? ⟨w.heap.size,2,none⟩=some (.int .i64 si):=keepC A2 (by go_simp)
 have b3_w52:w52.cell? ⟨w.heap.size+1,0,none⟩=some (.int .i64 oi):=keepC A2 (by go_simp)
 have b4_w52:w52.cell? ⟨w.heap.size+1,1,none⟩=some (.int .i64 ol):=keepC A2 (by go_simp)
 have b5_w52:w52.cell? ⟨w.heap.size+1,2,none⟩=some (.int .i64 (e:Int)):=keepC A2 (by go_simp)
 have p0_w52:w52.cell? ⟨B,0,none⟩=some (.int .i64 n0):=keepC A2 (by go_simp)
 have p1_w52:w52.cell? ⟨B,1,none⟩=some (.int .i64 n1):=keepC A2 (by go_simp)
 have p2_w52:w52.cell? ⟨B,2,none⟩=some (.int .i64 e0):=keepC A2 (by go_simp)
 have p3_w52:w52.cell? ⟨B,3,none⟩=some (.int .i64 e1):=keepC A2 (by go_simp)
 have p4_w52:w52.cell? ⟨B,4,none⟩=some (.int .i64 s0):=keepC A2 (by go_simp)
 have p5_w52:w52.cell? ⟨B,5,none⟩=some (.int .i64 s1):=keepC A2 (by go_simp)
 have h0_w52:w52.cell? ⟨C,0,none⟩=some (.slice (some ⟨g0,0,none⟩) ls.length c0):=keepC A2 (by go_simp)
 have h1_w52:w52.cell? ⟨C,1,none⟩=some (.slice (some ⟨g1,0,none⟩) ls.length c1):=keepC A2 (by go_simp)
 have r0_w52:w52.cell? ⟨R50q,0,none⟩=some (.int .i64 a0):=keepC A2 (by go_simp)
 have r1_w52:w52.cell? ⟨R50q,1,none⟩=some (.int .i64 a1):=keepC A2 (by go_simp)
 have r2_w52:w52.cell? ⟨R50q,2,none⟩=some (.int .i64 a2):=keepC A2 (by go_simp)
 have r3_w52:w52.cell? ⟨R50q,3,none⟩=some (.int .i64 a3):=keepC A2 (by go_simp)
 have r4_w52:w52.cell? ⟨R50q,4,none⟩=some (.int .i64 a4):=keepC A2 (by go_simp)
 have r5_w52:w52.cell? ⟨R50q,5,none⟩=some (.int .i64 a5):=keepC A2 (by go_simp)
 have lA_w52:=World.block_lt_of_cell? _ _ b0_w52
 simp only at lA_w52
 have nA_w52:¬w.heap.size=w52.heap.size:=(by omega)
 have uA_w52:¬w52.heap.size=w.heap.size:=(by omega)
 have mA_w52:w.heap.size<w52.heap.size+1:=(by omega)
 have lB_w52:=World.block_lt_of_cell? _ _ b3_w52
 simp only at lB_w52
 have nB_w52:¬w.heap.size+1=w52.heap.size:=(by omega)
 have uB_w52:¬w52.heap.size=w.heap.size+1:=(by omega)
 have mB_w52:w.heap.size+1<w52.heap.size+1:=(by omega)
 have lP_w52:=World.block_lt_of_cell? _ _ p0_w52
 simp only at lP_w52
 have nP_w52:¬B=w52.heap.size:=(by omega)
 have uP_w52:¬w52.heap.size=B:=(by omega)
 have mP_w52:B<w52.heap.size+1:=(by omega)
 have lC_w52:=World.block_lt_of_cell? _ _ h0_w52
 simp only at lC_w52
 have nC_w52:¬C=w52.heap.size:=(by omega)
 have uC_w52:¬w52.heap.size=C:=(by omega)
 have mC_w52:C<w52.heap.size+1:=(by omega)
 have lR_w52:=World.block_lt_of_cell? _ _ r0_w52
 simp only at lR_w52
 have nR_w52:¬R50q=w52.heap.size:=(by omega)
 have uR_w52:¬w52.heap.size=R50q:=(by omega)
 have mR_w52:R50q<w52.heap.size+1:=(by omega)
 go_wp2_with fail
 rw[rounds_succ]
 go_wp2_with fail
 have d0:decide (a3<e0)=false:=decide_eq_false (by omega)
 have d1:decide (e1<a2)=false:=decide_eq_false (by omega)
 refine calm_all (by kernel_rfl) (by kernel_rfl) fun hG => ?_
 have gB:=hG B lto
 have gR:=hG R50q lto
 clear hG
 repeat (first|(go_big_quiet_step (first|fail))|(simp only[*]))
 refine wpQuiet_nil ?_
 intro w53 A3
 clear gB gR d0 d1
 have b0_w53:w53.cell? ⟨w.heap.size,0,none⟩=some (.int .i64 wv):=keepC A3 (by go_simp)
 have b1_w53:w53.cell? ⟨w.heap.size,1,none⟩=some (.int .i64 ix):=keepC A3 (by go_simp)
 have b2_w53:w53.cell? ⟨w.heap.size,2,none⟩=some (.int .i64 si):=keepC A3 (by go_simp)
 have b3_w53:w53.cell? ⟨w.heap.size+1,0,none⟩=some (.int .i64 oi):=keepC A3 (by go_simp)
 have b4_w53:w53.cell? ⟨w.heap.size+1,1,none⟩=some (.int .i64 ol):=keepC A3 (by go_simp)
 have b5_w53:w53.cell? ⟨w.heap.size+1,2,none⟩=some (.int .i64 (e:Int)):=keepC A3 (by go_simp)
 have p0_w53:w53.cell? ⟨B,0,none⟩=some (.int .i64 n0):=keepC A3 (by go_simp)
 have p1_w53:w53.cell? ⟨B,1,none⟩=some (.int .i64 n1):=keepC A3 (by go_simp)
 have p2_w53:w53.cell? ⟨B,2,none⟩=some (.int .i64 e0):=keepC A3 (by go_simp)
 have p3_w53:w53.cell? ⟨B,3,none⟩=some (.int .i64 e1):=keepC A3 (by go_simp)
 have p4_w53:w53.cell? ⟨B,4,none⟩=some (.int .i64 s0):=keepC A3 (by go_simp)
 have p5_w53:w53.cell? ⟨B,5,none⟩=some (.int .i64 s1):=keepC A3 (by go_simp)
 have h0_w53:w53.cell? ⟨C,0,none⟩=some (.slice (some ⟨g0,0,none⟩) ls.length c0):=keepC A3 (by go_simp)
 have h1_w53:w53.cell? ⟨C,1,none⟩=some (.slice (some ⟨g1,0,none⟩) ls.length c1):=keepC A3 (by go_simp)
 have r0_w53:w53.cell? ⟨R50q,0,none⟩=some (.int .i64 a0):=keepC A3 (by go_simp)
 have r1_w53:w53.cell? ⟨R50q,1,none⟩=some (.int .i64 a1):=keepC A3 (by go_simp)
 have r2_w53:w53.cell? ⟨R50q,2,none⟩=some (.int .i64 a2):=keepC A3 (by go_simp)
 have r3_w53:w53.cell? ⟨R50q,3,none⟩=some (.int .i64 a3):=keepC A3 (by go_simp)
 have r4_w53:w53.cell? ⟨R50q,4,none⟩=some (.int .i64 a4):=keepC A3 (by go_simp)
 have r5_w53:w53.cell? ⟨R50q,5,none⟩=some (.int .i64 a5):=keepC A3 (by go_simp)
 have lA_w53:=World.block_lt_of_cell? _ _ b0_w53
 simp only at lA_w53
 have nA_w53:¬w.heap.size=w53.heap.size:=(by omega)
 have uA_w53:¬w53.heap.size=w.heap.size:=(by omega)
 have mA_w53:w.heap.size<w53.heap.size+1:=(by omega)
 have lB_w53:=World.block_lt_of_cell? _ _ b3_w53
 simp only at lB_w53
 have nB_w53:¬w.heap.size+1=w53.heap.size:=(by omega)
 have uB_w53:¬w53.heap.size=w.heap.size+1:=(by omega)
 have mB_w53:w.heap.size+1<w53.heap.size+1:=(by omega)
 have lP_w53:=World.block_lt_of_cell? _ _ p0_w53
 simp only at lP_w53
 have nP_w53:¬B=w53.heap.size:=(by omega)
 have uP_w53:¬w53.heap.size=B:=(by omega)
 have mP_w53:B<w53.heap.size+1:=(by omega)
 have lC_w53:=World.block_lt_of_cell? _ _ h0_w53
 simp only at lC_w53
 have nC_w53:¬C=w53.heap.size:=(by omega)
 have uC_w53:¬w53.heap.size=C:=(by omega)
 have mC_w53:C<w53.heap.size+1:=(by omega)
 have lR_w53:=World.block_lt_of_cell? _ _ r0_w53
 simp only at lR_w53
 have nR_w53:¬R50q=w53.heap.size:=(by omega)
 have uR_w53:¬w53.heap.size=R50q:=(by omega)
 have mR_w53:R50q<w53.heap.size+1:=(by omega)
 (try clear b0_w52 b1_w52 b2_w52 b3_w52 b4_w52 b5_w52 p0_w52 p1_w52 p2_w52 p3_w52 p4_w52 p5_w52 h0_w52 h1_w52 r0_w52 r1_w52 r2_w52 r3_w52 r4_w52 r5_w52 lA_w52 nA_w52 uA_w52 mA_w52 lB_w52 nB_w52 uB_w52 mB_w52 lP_w52 nP_w52 uP_w52 mP_w52 lC_w52 nC_w52 uC_w52 mC_w52 lR_w52 nR_w52 uR_w52 mR_w52)
 go_wp2_with fail
 rw[rounds_succ]
 go_wp2_with fail
 have d0:decide (a5<s0)=false:=decide_eq_false (by omega)
 have d1:decide (s1<a4)=false:=decide_eq_false (by omega)
 refine calm_all (by kernel_rfl) (by kernel_rfl) fun hG => ?_
 have gB:=hG B lto
 have gR:=hG R50q lto
 clear hG
 repeat (first|(go_big_quiet_step (first|fail))|(simp only[*]))
 refine wpQuiet_nil ?_
 intro w54 A4
 clear gB gR d0 d1
 have b0_w54:w54.cell? ⟨w.heap.size,0,none⟩=some (.int .i64 wv):=keepC A4 (by go_simp)
 have b1_w54:w54.cell? ⟨w.heap.size,1,none⟩=some (.int .i64 ix):=keepC A4 (by go_simp)
 have b2_w54:w54.cell? ⟨w.heap.size,2,none⟩=some (.int .i64 si):=keepC A4 (by go_simp)
 have b3_w54:w54.cell? ⟨w.heap.size+1,0,none⟩=some (.int .i64 oi):=keepC A4 (by go_simp)
 have b4_w54:w54.cell? ⟨w.heap.size+1,1,none⟩=some (.int .i64 ol):=keepC A4 (by go_simp)
 have b5_w54:w54.cell? ⟨w.heap.size+1,2,none⟩=some (.int .i64 (e:Int)):=keepC A4 (by go_simp)
 have p0_w54:w54.cell? ⟨B,0,none⟩=some (.int .i64 n0):=keepC A4 (by go_simp)
 have p1_w54:w54.cell? ⟨B,1,none⟩=some (.int .i64 n1):=keepC A4 (by go_simp)
 have p2_w54:w54.cell? ⟨B,2,none⟩=some (.int .i64 e0):=keepC A4 (by go_simp)
 have p3_w54:w54.cell? ⟨B,3,none⟩=some (.int .i64 e1):=keepC A4 (by go_simp)
 have p4_w54:w54.cell? ⟨B,4,none⟩=some (.int .i64 s0):=keepC A4 (by go_simp)
 have p5_w54:w54.cell? ⟨B,5,none⟩=some (.int .i64 s1):=keepC A4 (by go_simp)
 have h0_w54:w54.cell? ⟨C,0,none⟩=some (.slice (some ⟨g0,0,none⟩) ls.length c0):=keepC A4 (by go_simp)
 have h1_w54:w54.cell? ⟨C,1,none⟩=some (.slice (some ⟨g1,0,none⟩) ls.length c1):=keepC A4 (by go_simp)
 have r0_w54:w54.cell? ⟨R50q,0,none⟩=some (.int .i64 a0):=keepC A4 (by go_simp)
 have r1_w54:w54.cell? ⟨R50q,1,none⟩=some (.int .i64 a1):=keepC A4 (by go_simp)
 have r2_w54:w54.cell? ⟨R50q,2,none⟩=some (.int .i64 a2):=keepC A4 (by go_simp)
 have r3_w54:w54.cell? ⟨R50q,3,none⟩=some (.int .i64 a3):=keepC A4 (by go_simp)
 have r4_w54:w54.cell? ⟨R50q,4,none⟩=some (.int .i64 a4):=keepC A4 (by go_simp)
 have r5_w54:w54.cell? ⟨R50q,5,none⟩=some (.int .i64 a5):=keepC A4 (by go_simp)
 have lA_w54:=World.block_lt_of_cell? _ _ b0_w54
 simp only at lA_w54
 have nA_w54:¬w.heap.size=w54.heap.size:=(by omega)
 have uA_w54:¬w54.heap.size=w.heap.size:=(by omega)
 have mA_w54:w.heap.size<w54.heap.size+1:=(by omega)
 have lB_w54:=World.block_lt_of_cell? _ _ b3_w54
 simp only at lB_w54
 have nB_w54:¬w.heap.size+1=w54.heap.size:=(by omega)
 have uB_w54:¬w54.heap.size=w.heap.size+1:=(by omega)
 have mB_w54:w.heap.size+1<w54.heap.size+1:=(by omega)
 have lP_w54:=World.block_lt_of_cell? _ _ p0_w54
 simp only at lP_w54
 have nP_w54:¬B=w54.heap.size:=(by omega)
 have uP_w54:¬w54.heap.size=B:=(by omega)
 have mP_w54:B<w54.heap.size+1:=(by omega)
 have lC_w54:=World.block_lt_of_cell? _ _ h0_w54
 simp only at lC_w54
 have nC_w54:¬C=w54.heap.size:=(by omega)
 have uC_w54:¬w54.heap.size=C:=(by omega)
 have mC_w54:C<w54.heap.size+1:=(by omega)
 have lR_w54:=World.block_lt_of_cell? _ _ r0_w54
 simp only at lR_w54
 have nR_w54:¬R50q=w54.heap.size:=(by omega)
 have uR_w54:¬w54.heap.size=R50q:=(by omega)
 have mR_w54:R50q<w54.heap.size+1:=(by omega)
 (try clear b0_w53 b1_w53 b2_w53 b3_w53 b4_w53 b5_w53 p0_w53 p1_w53 p2_w53 p3_w53 p4_w53 p5_w53 h0_w53 h1_w53 r0_w53 r1_w53 r2_w53 r3_w53 r4_w53 r5_w53 lA_w53 nA_w53 uA_w53 mA_w53 lB_w53 nB_w53 uB_w53 mB_w53 lP_w53 nP_w53 uP_w53 mP_w53 lC_w53 nC_w53 uC_w53 mC_w53 lR_w53 nR_w53 uR_w53 mR_w53)
 go_wp2_with fail
 rw[rounds_succ]
 clear hL50
 go_wp2_with fail
 rw[rounds_succ]
 go_wp2_with fail
 refine wp_cutI (fun(R:Nat) a9=>((((((((((((a9.put (some 64) (.agg #[.int .i64 wv,.int .i64 ix,.int .i64 si])).put (some 65) (.int .i64 1)).put (some 66) (.pointer (some ⟨C,1,none⟩))).put (some 67) (.slice (some ⟨g1,0,none⟩) ls.length c1)).put (some 68) (.pointer (some ⟨w.heap.size+1,0,none⟩))).put (some 69) (.agg #[.int .i64 oi,.int .i64 ol])).put (some 70) (.tuple #[.agg #[.int .i64 x0,.int .i64 x1,.int .i64 x2,.int .i64 x3,.int .i64 x4,.int .i64 x5],.int .i64 y1])).put (some 63) (.tuple #[.agg #[.int .i64 x0,.int .i64 x1,.int .i64 x2,.int .i64 x3,.int .i64 x4,.int .i64 x5],.int .i64 y1])).put (some 71) (.agg #[.int .i64 x0,.int .i64 x1,.int .i64 x2,.int .i64 x3,.int .i64 x4,.int .i64 x5])).put (some 72) (.int .i64 y1)).put (some 12) (.pointer (some ⟨R,0,none⟩))).put (some 13) (.int .i64 y1))) (fun R w9=>Below w54.heap.size w54 w9∧w9.cell? ⟨w.heap.size,0,none⟩=some (.int .i64 wv)∧w9.cell? ⟨w.heap.size,1,none⟩=some (.int .i64 ix)∧w9.cell? ⟨w.heap.size,2,none⟩=some (.int .i64 si)∧w9.cell? ⟨w.heap.size+1,0,none⟩=some (.int .i64 oi)∧w9.cell? ⟨w.heap.size+1,1,none⟩=some (.int .i64 ol)∧w9.cell? ⟨w.heap.size+1,2,none⟩=some (.int .i64 (e:Int))∧w9.cell? ⟨B,0,none⟩=some (.int .i64 n0)∧w9.cell? ⟨B,1,none⟩=some (.int .i64 n1)∧w9.cell? ⟨B,2,none⟩=some (.int .i64 e0)∧w9.cell? ⟨B,3,none⟩=some (.int .i64 e1)∧w9.cell? ⟨B,4,none⟩=some (.int .i64 s0)∧w9.cell? ⟨B,5,none⟩=some (.int .i64 s1)∧w9.cell? ⟨C,0,none⟩=some (.slice (some ⟨g0,0,none⟩) ls.length c0)∧w9.cell? ⟨C,1,none⟩=some (.slice (some ⟨g1,0,none⟩) ls.length c1)∧w9.cell? ⟨R,0,none⟩=some (.int .i64 x0)∧w9.cell? ⟨R,1,none⟩=some (.int .i64 x1)∧w9.cell? ⟨R,2,none⟩=some (.int .i64 x2)∧w9.cell? ⟨R,3,none⟩=some (.int .i64 x3)∧w9.cell? ⟨R,4,none⟩=some (.int .i64 x4)∧w9.cell? ⟨R,5,none⟩=some (.int .i64 x5)) ?_ ?_
 ·(go_region_held3 (fun w'=>w'.cell? ⟨w.heap.size,0,none⟩=some (.int .i64 wv)∧w'.cell? ⟨w.heap.size,1,none⟩=some (.int .i64 ix)∧w'.cell? ⟨w.heap.size,2,none⟩=some (.int .i64 si)∧w'.cell? ⟨w.heap.size+1,0,none⟩=some (.int .i64 oi)∧w'.cell? ⟨w.heap.size+1,1,none⟩=some (.int .i64 ol)∧w'.cell? ⟨w.heap.size+1,2,none⟩=some (.int .i64 (e:Int))∧w'.cell? ⟨B,0,none⟩=some (.int .i64 n0)∧w'.cell? ⟨B,1,none⟩=some (.int .i64 n1)∧w'.cell? ⟨B,2,none⟩=some (.int .i64 e0)∧w'.cell? ⟨B,3,none⟩=some (.int .i64 e1)∧w'.cell? ⟨B,4,none⟩=some (.int .i64 s0)∧w'.cell? ⟨B,5,none⟩=some (.int .i64 s1)∧w'.cell? ⟨C,0,none⟩=some (.slice (some ⟨g0,0,none⟩) ls.length c0)∧w'.cell? ⟨C,1,none⟩=some (.slice (some ⟨g1,0,none⟩) ls.length c1)) (simp[*,go_sem])
   (first
    | (go_at_call 17;refine(P1.out c1 _ (R1.out.bel (show Below w30.heap.size w30 _ from blw))).mono ?_;rintro E w70 ⟨rfl,Ad⟩;have b0_w70:w70.cell? ⟨w.heap.size,0,none⟩=some (.int .i64 wv):=keepC Ad (by go_simp);have b1_w70:w70.cell? ⟨w.heap.size,1,none⟩=some (.int .i64 ix):=keepC Ad (by go_simp);have b2_w70:w70.cell? ⟨w.heap.size,2,none⟩=some (.int .i64 si):=keepC Ad (by go_simp);have b3_w70:w70.cell? ⟨w.heap.size+1,0,none⟩=some (.int .i64 oi):=keepC Ad (by go_simp);have b4_w70:w70.cell? ⟨w.heap.size+1,1,none⟩=some (.int .i64 ol):=keepC Ad (by go_simp);have b5_w70:w70.cell? ⟨w.heap.size+1,2,none⟩=some (.int .i64 (e:Int)):=keepC Ad (by go_simp);have p0_w70:w70.cell? ⟨B,0,none⟩=some (.int .i64 n0):=keepC Ad (by go_simp);have p1_w70:w70.cell? ⟨B,1,none⟩=some (.int .i64 n1):=keepC Ad (by go_simp);have p2_w70:w70.cell? ⟨B,2,none⟩=some (.int .i64 e0):=keepC Ad (by go_simp);have p3_w70:w70.cell? ⟨B,3,none⟩=some (.int .i64 e1):=keepC Ad (by go_simp);have p4_w70:w70.cell? ⟨B,4,none⟩=some (.int .i64 s0):=keepC Ad (by go_simp);have p5_w70:w70.cell? ⟨B,5,none⟩=some (.int .i64 s1):=keepC Ad (by go_simp);have h0_w70:w70.cell? ⟨C,0,none⟩=some (.slice (some ⟨g0,0,none⟩) ls.length c0):=keepC Ad (by go_simp);have h1_w70:w70.cell? ⟨C,1,none⟩=some (.slice (some ⟨g1,0,none⟩) ls.length c1):=keepC Ad (by go_simp);have lA_w70:=World.block_lt_of_cell? _ _ b0_w70;simp only at lA_w70;have nA_w70:¬w.heap.size=w70.heap.size:=(by omega);have uA_w70:¬w70.heap.size=w.heap.size:=(by omega);have mA_w70:w.heap.size<w70.heap.size+1:=(by omega);have lB_w70:=World.block_lt_of_cell? _ _ b3_w70;simp only at lB_w70;have nB_w70:¬w.heap.size+1=w70.heap.size:=(by omega);have uB_w70:¬w70.heap.size=w.heap.size+1:=(by omega);have mB_w70:w.heap.size+1<w70.heap.size+1:=(by omega);have lP_w70:=World.block_lt_of_cell? _ _ p0_w70;simp only at lP_w70;have nP_w70:¬B=w70.heap.size:=(by omega);have uP_w70:¬w70.heap.size=B:=(by omega);have mP_w70:B<w70.heap.size+1:=(by omega);have lC_w70:=World.block_lt_of_cell? _ _ h0_w70;simp only at lC_w70;have nC_w70:¬C=w70.heap.size:=(by omega);have uC_w70:¬w70.heap.size=C:=(by omega);have mC_w70:C<w70.heap.size+1:=(by omega);have Av:=Ad.size;(try simp at Av);(try (refine hv9 (blx Ad rfl (w54.heap.size) ?_) (fun hq => ?_);(focus (first|omega|(simp;done)|(simp<;>omega)));obtain⟨Bd,y1_w70,v1_w70,B3,B6⟩:=hq)))
   ))
  all_goals
   first|(refine⟨rfl,w54.heap.size,rfl,?_⟩)|(refine⟨rfl,w70.heap.size,rfl,?_⟩)
   exact⟨blw,(by go_simp),(by go_simp),(by go_simp),(by go_simp),(by go_simp),(by go_simp),(by go_simp),(by go_simp),(by go_simp),(by go_simp),(by go_simp),(by go_simp),(by go_simp),(by go_simp),(by go_simp),(by go_simp),(by go_simp),(by go_simp),(by go_simp),(by go_simp)⟩
 intro R70q w71 hRR
 obtain⟨Ba,b0_w71,b1_w71,b2_w71,b3_w71,b4_w71,b5_w71,p0_w71,p1_w71,p2_w71,p3_w71,p4_w71,p5_w71,h0_w71,h1_w71,r0_w71,r1_w71,r2_w71,r3_w71,r4_w71,r5_w71⟩:=hRR
 have lA_w71:=World.block_lt_of_cell? _ _ b0_w71
 simp only at lA_w71
 have nA_w71:¬w.heap.size=w71.heap.size:=(by omega)
 have uA_w71:¬w71.heap.size=w.heap.size:=(by omega)
 have mA_w71:w.heap.size<w71.heap.size+1:=(by omega)
 have lB_w71:=World.block_lt_of_cell? _ _ b3_w71
 simp only at lB_w71
 have nB_w71:¬w.heap.size+1=w71.heap.size:=(by omega)
 have uB_w71:¬w71.heap.size=w.heap.size+1:=(by omega)
 have mB_w71:w.heap.size+1<w71.heap.size+1:=(by omega)
 have lP_w71:=World.block_lt_of_cell? _ _ p0_w71
 simp only at lP_w71
 have nP_w71:¬B=w71.heap.size:=(by omega)
 have uP_w71:¬w71.heap.size=B:=(by omega)
 have mP_w71:B<w71.heap.size+1:=(by omega)
 have lC_w71:=World.block_lt_of_cell? _ _ h0_w71
 simp only at lC_w71
 have nC_w71:¬C=w71.heap.size:=(by omega)
 have uC_w71:¬w71.heap.size=C:=(by omega)
 have mC_w71:C<w71.heap.size+1:=(by omega)
 have lR_w71:=World.block_lt_of_cell? _ _ r0_w71
 simp only at lR_w71
 have nR_w71:¬R70q=w71.heap.size:=(by omega)
 have uR_w71:¬w71.heap.size=R70q:=(by omega)
 have mR_w71:R70q<w71.heap.size+1:=(by omega)
 by_cases g70:y1=0
 case neg =>
  have g70q:(y1==0)=false:=by simpa using g70
  clear g70
  go_wp2_with fail
  refine wp_loop_rounds 4 ?_
  rw[rounds_succ]
  go_wp2_with fail
  rw[rounds_succ]
  go_wp2_with fail
  (with_reducible show bodyPost _ _ _ _ _ _);refine bodyPost_ret (by simp[results,Tryz.results4,go_sem, *];first|done|rfl) rfl ?_
  exact⟨rfl,blw⟩
 have hL70:=LB.out g70
 subst g70
 go_wp2_with fail
 refine wp_loop_rounds 4 ?_
 rw[rounds_succ]
 go_wp2_with fail
 have d0:decide (x1<n0)=false:=decide_eq_false (by omega)
 have d1:decide (n1<x0)=false:=decide_eq_false (by omega)
 refine calm_all (by kernel_rfl) (by kernel_rfl) fun hG => ?_
 have gB:=hG B lto
 have gR:=hG R70q lto
 clear hG
 repeat (first|(go_big_quiet_step (first|fail))|(simp only[*]))
 refine wpQuiet_nil ?_
 intro w72 A8
 clear gB gR d0 d1
 have b0_w72:w72.cell? ⟨w.heap.size,0,none⟩=some (.int .i64 wv):=keepC A8 (by go_simp)
 have b1_w72:w72.cell? ⟨w.heap.size,1,none⟩=some (.int .i64 ix):=keepC A8 (by go_simp)
 have b2_w72:w72.cell? ⟨w.heap.size,2,none⟩=some (.int .i64 si):=keepC A8 (by go_simp)
 have b3_w72:w72.cell? ⟨w.heap.size+1,0,none⟩=some (.int .i64 oi):=keepC A8 (by go_simp)
 have b4_w72:w72.cell? ⟨w.heap.size+1,1,none⟩=some (.int .i64 ol):=keepC A8 (by go_simp)
 have b5_w72:w72.cell? ⟨w.heap.size+1,2,none⟩=some (.int .i64 (e:Int)):=keepC A8 (by go_simp)
 have p0_w72:w72.cell? ⟨B,0,none⟩=some (.int .i64 n0):=keepC A8 (by go_simp)
 have p1_w72:w72.cell? ⟨B,1,none⟩=some (.int .i64 n1):=keepC A8 (by go_simp)
 have p2_w72:w72.cell? ⟨B,2,none⟩=some (.int .i64 e0):=keepC A8 (by go_simp)
 have p3_w72:w72.cell? ⟨B,3,none⟩=some (.int .i64 e1):=keepC A8 (by go_simp)
 have p4_w72:w72.cell? ⟨B,4,none⟩=some (.int .i64 s0):=keepC A8 (by go_simp)
 have p5_w72:w72.cell? ⟨B,5,none⟩=some (.int .i64 s1):=keepC A8 (by go_simp)
 have h0_w72:w72.cell? ⟨C,0,none⟩=some (.slice (some ⟨g0,0,none⟩) ls.length c0):=keepC A8 (by go_simp)
 have h1_w72:w72.cell? ⟨C,1,none⟩=some (.slice (some ⟨g1,0,none⟩) ls.length c1):=keepC A8 (by go_simp)
 have r0_w72:w72.cell? ⟨R70q,0,none⟩=some (.int .i64 x0):=keepC A8 (by go_simp)
 have r1_w72:w72.cell? ⟨R70q,1,none⟩=some (.int .i64 x1):=keepC A8 (by go_simp)
 have r2_w72:w72.cell? ⟨R70q,2,none⟩=some (.int .i64 x2):=keepC A8 (by go_simp)
 have r3_w72:w72.cell? ⟨R70q,3,none⟩=some (.int .i64 x3):=keepC A8 (by go_simp)
 have r4_w72:w72.cell? ⟨R70q,4,none⟩=some (.int .i64 x4):=keepC A8 (by go_simp)
 have r5_w72:w72.cell? ⟨R70q,5,none⟩=some (.int .i64 x5):=keepC A8 (by go_simp)
 have lA_w72:=World.block_lt_of_cell? _ _ b0_w72
 simp only at lA_w72
 have nA_w72:¬w.heap.size=w72.heap.size:=(by omega)
 have uA_w72:¬w72.heap.size=w.heap.size:=(by omega)
 have mA_w72:w.heap.size<w72.heap.size+1:=(by omega)
 have lB_w72:=World.block_lt_of_cell? _ _ b3_w72
 simp only at lB_w72
 have nB_w72:¬w.heap.size+1=w72.heap.size:=(by omega)
 have uB_w72:¬w72.heap.size=w.heap.size+1:=(by omega)
 have mB_w72:w.heap.size+1<w72.heap.size+1:=(by omega)
 have lP_w72:=World.block_lt_of_cell? _ _ p0_w72
 simp only at lP_w72
 have nP_w72:¬B=w72.heap.size:=(by omega)
 have uP_w72:¬w72.heap.size=B:=(by omega)
 have mP_w72:B<w72.heap.size+1:=(by omega)
 have lC_w72:=World.block_lt_of_cell? _ _ h0_w72
 simp only at lC_w72
 have nC_w72:¬C=w72.heap.size:=(by omega)
 have uC_w72:¬w72.heap.size=C:=(by omega)
 have mC_w72:C<w72.heap.size+1:=(by omega)
 have lR_w72:=World.block_lt_of_cell? _ _ r0_w72
 simp only at lR_w72
 have nR_w72:¬R70q=w72.heap.size:=(by omega)
 have uR_w72:¬w72.heap.size=R70q:=(by omega)
 have mR_w72:R70q<w72.heap.size+1:=(by omega)
 go_wp2_with fail
 rw[rounds_succ]
 go_wp2_with fail
 have d0:decide (x3<e0)=false:=decide_eq_false (by omega)
 have d1:decide (e1<x2)=false:=decide_eq_false (by omega)
 refine calm_all (by kernel_rfl) (by kernel_rfl) fun hG => ?_
 have gB:=hG B lto
 have gR:=hG R70q lto
 clear hG
 repeat (first|(go_big_quiet_step (first|fail))|(simp only[*]))
 refine wpQuiet_nil ?_
 intro w73 A9
 clear gB gR d0 d1
 have b0_w73:w73.cell? ⟨w.heap.size,0,none⟩=some (.int .i64 wv):=keepC A9 (by go_simp)
 have b1_w73:w73.cell? ⟨w.heap.size,1,none⟩=some (.int .i64 ix):=keepC A9 (by go_simp)
 have b2_w73:w73.cell? ⟨w.heap.size,2,none⟩=some (.int .i64 si):=keepC A9 (by go_simp)
 have b3_w73:w73.cell? ⟨w.heap.size+1,0,none⟩=some (.int .i64 oi):=keepC A9 (by go_simp)
 have b4_w73:w73.cell? ⟨w.heap.size+1,1,none⟩=some (.int .i64 ol):=keepC A9 (by go_simp)
 have b5_w73:w73.cell? ⟨w.heap.size+1,2,none⟩=some (.int .i64 (e:Int)):=keepC A9 (by go_simp)
 have p0_w73:w73.cell? ⟨B,0,none⟩=some (.int .i64 n0):=keepC A9 (by go_simp)
 have p1_w73:w73.cell? ⟨B,1,none⟩=some (.int .i64 n1):=keepC A9 (by go_simp)
 have p2_w73:w73.cell? ⟨B,2,none⟩=some (.int .i64 e0):=keepC A9 (by go_simp)
 have p3_w73:w73.cell? ⟨B,3,none⟩=some (.int .i64 e1):=keepC A9 (by go_simp)
 have p4_w73:w73.cell? ⟨B,4,none⟩=some (.int .i64 s0):=keepC A9 (by go_simp)
 have p5_w73:w73.cell? ⟨B,5,none⟩=some (.int .i64 s1):=keepC A9 (by go_simp)
 have h0_w73:w73.cell? ⟨C,0,none⟩=some (.slice (some ⟨g0,0,none⟩) ls.length c0):=keepC A9 (by go_simp)
 have h1_w73:w73.cell? ⟨C,1,none⟩=some (.slice (some ⟨g1,0,none⟩) ls.length c1):=keepC A9 (by go_simp)
 have r0_w73:w73.cell? ⟨R70q,0,none⟩=some (.int .i64 x0):=keepC A9 (by go_simp)
 have r1_w73:w73.cell? ⟨R70q,1,none⟩=some (.int .i64 x1):=keepC A9 (by go_simp)
 have r2_w73:w73.cell? ⟨R70q,2,none⟩=some (.int .i64 x2):=keepC A9 (by go_simp)
 have r3_w73:w73.cell? ⟨R70q,3,none⟩=some (.int .i64 x3):=keepC A9 (by go_simp)
 have r4_w73:w73.cell? ⟨R70q,4,none⟩=some (.int .i64 x4):=keepC A9 (by go_simp)
 have r5_w73:w73.cell? ⟨R70q,5,none⟩=some (.int .i64 x5):=keepC A9 (by go_simp)
 have lA_w73:=World.block_lt_of_cell? _ _ b0_w73
 simp only at lA_w73
 have nA_w73:¬w.heap.size=w73.heap.size:=(by omega)
 have uA_w73:¬w73.heap.size=w.heap.size:=(by omega)
 have mA_w73:w.heap.size<w73.heap.size+1:=(by omega)
 have lB_w73:=World.block_lt_of_cell? _ _ b3_w73
 simp only at lB_w73
 have nB_w73:¬w.heap.size+1=w73.heap.size:=(by omega)
 have uB_w73:¬w73.heap.size=w.heap.size+1:=(by omega)
 have mB_w73:w.heap.size+1<w73.heap.size+1:=(by omega)
 have lP_w73:=World.block_lt_of_cell? _ _ p0_w73
 simp only at lP_w73
 have nP_w73:¬B=w73.heap.size:=(by omega)
 have uP_w73:¬w73.heap.size=B:=(by omega)
 have mP_w73:B<w73.heap.size+1:=(by omega)
 have lC_w73:=World.block_lt_of_cell? _ _ h0_w73
 simp only at lC_w73
 have nC_w73:¬C=w73.heap.size:=(by omega)
 have uC_w73:¬w73.heap.size=C:=(by omega)
 have mC_w73:C<w73.heap.size+1:=(by omega)
 have lR_w73:=World.block_lt_of_cell? _ _ r0_w73
 simp only at lR_w73
 have nR_w73:¬R70q=w73.heap.size:=(by omega)
 have uR_w73:¬w73.heap.size=R70q:=(by omega)
 have mR_w73:R70q<w73.heap.size+1:=(by omega)
 (try clear b0_w72 b1_w72 b2_w72 b3_w72 b4_w72 b5_w72 p0_w72 p1_w72 p2_w72 p3_w72 p4_w72 p5_w72 h0_w72 h1_w72 r0_w72 r1_w72 r2_w72 r3_w72 r4_w72 r5_w72 lA_w72 nA_w72 uA_w72 mA_w72 lB_w72 nB_w72 uB_w72 mB_w72 lP_w72 nP_w72 uP_w72 mP_w72 lC_w72 nC_w72 uC_w72 mC_w72 lR_w72 nR_w72 uR_w72 mR_w72)
 go_wp2_with fail
 rw[rounds_succ]
 go_wp2_with fail
 have d0:decide (x5<s0)=false:=decide_eq_false (by omega)
 have d1:decide (s1<x4)=false:=decide_eq_false (by omega)
 refine calm_all (by kernel_rfl) (by kernel_rfl) fun hG => ?_
 have gB:=hG B lto
 have gR:=hG R70q lto
 clear hG
 repeat (first|(go_big_quiet_step (first|fail))|(simp only[*]))
 refine wpQuiet_nil ?_
 intro w74 Aa
 clear gB gR d0 d1
 have b0_w74:w74.cell? ⟨w.heap.size,0,none⟩=some (.int .i64 wv):=keepC Aa (by go_simp)
 have b1_w74:w74.cell? ⟨w.heap.size,1,none⟩=some (.int .i64 ix):=keepC Aa (by go_simp)
 have b2_w74:w74.cell? ⟨w.heap.size,2,none⟩=some (.int .i64 si):=keepC Aa (by go_simp)
 have b3_w74:w74.cell? ⟨w.heap.size+1,0,none⟩=some (.int .i64 oi):=keepC Aa (by go_simp)
 have b4_w74:w74.cell? ⟨w.heap.size+1,1,none⟩=some (.int .i64 ol):=keepC Aa (by go_simp)
 have b5_w74:w74.cell? ⟨w.heap.size+1,2,none⟩=some (.int .i64 (e:Int)):=keepC Aa (by go_simp)
 have p0_w74:w74.cell? ⟨B,0,none⟩=some (.int .i64 n0):=keepC Aa (by go_simp)
 have p1_w74:w74.cell? ⟨B,1,none⟩=some (.int .i64 n1):=keepC Aa (by go_simp)
 have p2_w74:w74.cell? ⟨B,2,none⟩=some (.int .i64 e0):=keepC Aa (by go_simp)
 have p3_w74:w74.cell? ⟨B,3,none⟩=some (.int .i64 e1):=keepC Aa (by go_simp)
 have p4_w74:w74.cell? ⟨B,4,none⟩=some (.int .i64 s0):=keepC Aa (by go_simp)
 have p5_w74:w74.cell? ⟨B,5,none⟩=some (.int .i64 s1):=keepC Aa (by go_simp)
 have h0_w74:w74.cell? ⟨C,0,none⟩=some (.slice (some ⟨g0,0,none⟩) ls.length c0):=keepC Aa (by go_simp)
 have h1_w74:w74.cell? ⟨C,1,none⟩=some (.slice (some ⟨g1,0,none⟩) ls.length c1):=keepC Aa (by go_simp)
 have r0_w74:w74.cell? ⟨R70q,0,none⟩=some (.int .i64 x0):=keepC Aa (by go_simp)
 have r1_w74:w74.cell? ⟨R70q,1,none⟩=some (.int .i64 x1):=keepC Aa (by go_simp)
 have r2_w74:w74.cell? ⟨R70q,2,none⟩=some (.int .i64 x2):=keepC Aa (by go_simp)
 have r3_w74:w74.cell? ⟨R70q,3,none⟩=some (.int .i64 x3):=keepC Aa (by go_simp)
 have r4_w74:w74.cell? ⟨R70q,4,none⟩=some (.int .i64 x4):=keepC Aa (by go_simp)
 have r5_w74:w74.cell? ⟨R70q,5,none⟩=some (.int .i64 x5):=keepC Aa (by go_simp)
 have lA_w74:=World.block_lt_of_cell? _ _ b0_w74
 simp only at lA_w74
 have nA_w74:¬w.heap.size=w74.heap.size:=(by omega)
 have uA_w74:¬w74.heap.size=w.heap.size:=(by omega)
 have mA_w74:w.heap.size<w74.heap.size+1:=(by omega)
 have lB_w74:=World.block_lt_of_cell? _ _ b3_w74
 simp only at lB_w74
 have nB_w74:¬w.heap.size+1=w74.heap.size:=(by omega)
 have uB_w74:¬w74.heap.size=w.heap.size+1:=(by omega)
 have mB_w74:w.heap.size+1<w74.heap.size+1:=(by omega)
 have lP_w74:=World.block_lt_of_cell? _ _ p0_w74
 simp only at lP_w74
 have nP_w74:¬B=w74.heap.size:=(by omega)
 have uP_w74:¬w74.heap.size=B:=(by omega)
 have mP_w74:B<w74.heap.size+1:=(by omega)
 have lC_w74:=World.block_lt_of_cell? _ _ h0_w74
 simp only at lC_w74
 have nC_w74:¬C=w74.heap.size:=(by omega)
 have uC_w74:¬w74.heap.size=C:=(by omega)
 have mC_w74:C<w74.heap.size+1:=(by omega)
 have lR_w74:=World.block_lt_of_cell? _ _ r0_w74
 simp only at lR_w74
 have nR_w74:¬R70q=w74.heap.size:=(by omega)
 have uR_w74:¬w74.heap.size=R70q:=(by omega)
 have mR_w74:R70q<w74.heap.size+1:=(by omega)
 (try clear b0_w73 b1_w73 b2_w73 b3_w73 b4_w73 b5_w73 p0_w73 p1_w73 p2_w73 p3_w73 p4_w73 p5_w73 h0_w73 h1_w73 r0_w73 r1_w73 r2_w73 r3_w73 r4_w73 r5_w73 lA_w73 nA_w73 uA_w73 mA_w73 lB_w73 nB_w73 uB_w73 mB_w73 lP_w73 nP_w73 uP_w73 mP_w73 lC_w73 nC_w73 uC_w73 mC_w73 lR_w73 nR_w73 uR_w73 mR_w73)
 go_wp2_with fail
 rw[rounds_succ]
 clear hL70
 go_wp2_with fail
 rw[rounds_succ]
 go_wp2_with fail
 (with_reducible show bodyPost _ _ _ _ _ _);refine bodyPost_ret (by simp[results,Tryz.results4,go_sem, *];first|done|rfl) rfl ?_
 exact⟨rfl,blw⟩
end Go.Proofs.YtjbfaaolfonmaaaGreat
