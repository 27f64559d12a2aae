/- Joined: Slabs SlabBad RSlab RSlabCk SlabsAll. -/
import Derived.Test.YticobgianbecpaaGreatDoorKSlab
import Derived.Deep.MidRow
import Derived.Test.YticobgianbecpaaGreatDoorKStk
import Derived.Test.YticobgianbecpaaGreatDoorRCut
import Derived.Test.YticobgianbecpaaGreatDoorCalmTwo
import Derived.Test.YticobgianbecpaaGreatDoorRAsk
import Derived.Test.YticobgianbecpaaGreatDoorSlabAny
namespace Go.Proofs.YticobgianbecpaaGreatDoor
open Go Go.Sort Go.RowKit
set_option maxRecDepth 100000 in
set_option maxHeartbeats 8000000 in
theorem slabs_of (AW:Awake3) (X:Value) (x0 x1 x2 x3 x4 x5 x6 x7 x8 x9 x10 x11 x12 x13 x14 x15 x16 x17 x18 x19:Int) (hX:X = .agg #[.int .i64 x0,.int .i64 x1,.int .i64 x2,.int .i64 x3,.int .i64 x4,.int .i64 x5,.int .i64 x6,.int .i64 x7,.int .i64 x8,.int .i64 x9,.int .i64 x10,.int .i64 x11,.int .i64 x12,.int .i64 x13,.int .i64 x14,.int .i64 x15,.int .i64 x16,.int .i64 x17,.int .i64 x18,.int .i64 x19]) (E q v0 v1 v2 v3 v4 v5:Int)
  (SL:∀w,Calls Tryz.prog 15 #[X] w fun e w'=>e = .returned (.tuple #[.agg #[.int .i64 v0,.int .i64 v1,.int .i64 v2,.int .i64 v3,.int .i64 v4,.int .i64 v5],.int .i64 q])∧Below w.heap.size w w')
  (CK:∀w,Calls Tryz.prog 17 #[X] w fun e w'=>e = .returned (.int .i64 E)∧Below w.heap.size w w')
  (RC:∀w,Calls Tryz.prog 16 #[X] w fun e w'=>e = .returned (.int .i64 E)∧Below w.heap.size w w')
  (RS:E=0→∀w,Calls Tryz.prog 18 #[X] w fun e w'=>e = .returned (.tuple #[.agg #[.int .i64 v0,.int .i64 v1,.int .i64 v2,.int .i64 v3,.int .i64 v4,.int .i64 v5],.int .i64 q])∧Below w.heap.size w w')
  (hE:¬E=0→q=E∧v0=0∧v1=0∧v2=0∧v3=0∧v4=0∧v5=0) (w:World) (hS:Std w) :
  Calls Tryz.prog 4 #[X] w fun e w'=>e = .returned (.bool true)∧Below w.heap.size w w':=by
 subst hX
 have AW:=Lib.hid AW
 have SL:=Lib.hid SL
 have CK:=Lib.hid CK
 have RC:=Lib.hid RC
 have ST:=Lib.hid hS
 have RS:=Lib.hid RS
 have hE:=Lib.hid hE
 clear hS
 go_enter Tryz.func4,Tryz.ntmps4
 go_wp2_with fail
 refine(AW.out _ (ST.out.below blw)).mono ?_
 rintro e w1 ⟨rfl,Ah⟩
 have XB_w1:=Lib.hid (show∀o,w1.cell? ⟨w.heap.size,o,none⟩=([.int .i64 x0,.int .i64 x1,.int .i64 x2,.int .i64 x3,.int .i64 x4,.int .i64 x5,.int .i64 x6,.int .i64 x7,.int .i64 x8,.int .i64 x9,.int .i64 x10,.int .i64 x11,.int .i64 x12,.int .i64 x13,.int .i64 x14,.int .i64 x15,.int .i64 x16,.int .i64 x17,.int .i64 x18,.int .i64 x19]:List Value)[o]? from fun o=>((blc Ah w.heap.size) o).trans (by go_simp))
 have Ae:Below w.heap.size w w1:=blw
 have lt_w1:w.heap.size<w1.heap.size:=by have:=Ah.size;first|omega|(simp at this;omega)
 have Ao:¬w.heap.size=w1.heap.size:=(by omega)
 clear Ah AW ST
 repeat (first|(with_reducible refine wp_markr 3 ?_)|go_values|go_skip|go_guarded|go_step|go_upon|(simp only[];go_simp))
 refine wp_named (fun w2 Af => ?_)
 have A2:Below w1.heap.size w1 w2:=by rw[Af];exact Below.refl _ _
 have le_w2:=A2.size
 have XB_w2:=Lib.hid (fun o=>(A2.cell (p:=⟨w.heap.size,o,none⟩) lt_w1).trans (XB_w1.out o))
 have Ag:Below w.heap.size w w2:=Below.trans Ae (A2.mono (by omega))
 have lt_w2:w.heap.size<w2.heap.size:=Nat.lt_of_lt_of_le lt_w1 le_w2
 have B0:¬w.heap.size=w2.heap.size:=(by omega)
 clear XB_w1 Ae Ao A2 lt_w1
 clear Af
 have XR:w2.rangeAt w.heap.size 0 [.int .i64 x0,.int .i64 x1,.int .i64 x2,.int .i64 x3,.int .i64 x4,.int .i64 x5,.int .i64 x6,.int .i64 x7,.int .i64 x8,.int .i64 x9,.int .i64 x10,.int .i64 x11,.int .i64 x12,.int .i64 x13,.int .i64 x14,.int .i64 x15,.int .i64 x16,.int .i64 x17,.int .i64 x18,.int .i64 x19]:=fun j v hv=>by rw[Nat.zero_add];exact(XB_w2.out j).trans hv
 refine wp_region_list ?_
 refine wpList_load_mid rfl 43 (.tmp 1) rfl w.heap.size 0 rfl [.int .i64 x0,.int .i64 x1,.int .i64 x2,.int .i64 x3,.int .i64 x4,.int .i64 x5,.int .i64 x6,.int .i64 x7,.int .i64 x8,.int .i64 x9,.int .i64 x10,.int .i64 x11,.int .i64 x12,.int .i64 x13,.int .i64 x14,.int .i64 x15,.int .i64 x16,.int .i64 x17,.int .i64 x18,.int .i64 x19] _ XR Tryz.underlying43 rfl (by kernel_rfl) ?_
 clear XR
 go_wp2_with fail
 refine(SL.out _).mono ?_
 rintro e w3 ⟨rfl,Am⟩
 have A4:Below w2.heap.size w2 w3:=blw
 have le_w3:=A4.size
 have XB_w3:=Lib.hid (fun o=>(A4.cell (p:=⟨w.heap.size,o,none⟩) lt_w2).trans (XB_w2.out o))
 have Ai:Below w.heap.size w w3:=Below.trans Ag (A4.mono (by omega))
 have lt_w3:w.heap.size<w3.heap.size:=Nat.lt_of_lt_of_le lt_w2 le_w3
 have Bb:¬w.heap.size=w3.heap.size:=(by omega)
 clear XB_w2 Ag B0 A4 lt_w2
 clear Am SL
 obtain⟨B3,hB3⟩:∃B3,B3=w3.heap.size:=⟨_,rfl⟩
 have sx_B3:¬B3=w.heap.size∧¬w.heap.size=B3:=(by omega)
 obtain⟨sx1_B3,sx2_B3⟩:=sx_B3
 have ge_B3:w.heap.size≤B3:=(by omega)
 repeat (first|(with_reducible refine wp_markr 4 ?_)|go_values|go_skip|go_guarded|go_step|go_upon|(simp only[];go_simp))
 refine wp_named (fun w4 Ac => ?_)
 have A5:Below w3.heap.size w3 w4:=by rw[Ac];exact blw
 have le_w4:=A5.size
 have XB_w4:=Lib.hid (fun o=>(A5.cell (p:=⟨w.heap.size,o,none⟩) lt_w3).trans (XB_w3.out o))
 have An:Below w.heap.size w w4:=Below.trans Ai (A5.mono (by omega))
 have lt_w4:w.heap.size<w4.heap.size:=Nat.lt_of_lt_of_le lt_w3 le_w4
 have Bn:¬w.heap.size=w4.heap.size:=(by omega)
 clear XB_w3 Ai Bb A5 lt_w3
 have B3_0_w4:w4.cell? ⟨B3,0,none⟩=some (.int .i64 v0):=by rw[Ac,hB3];go_simp
 have B3_1_w4:w4.cell? ⟨B3,1,none⟩=some (.int .i64 v1):=by rw[Ac,hB3];go_simp
 have B3_2_w4:w4.cell? ⟨B3,2,none⟩=some (.int .i64 v2):=by rw[Ac,hB3];go_simp
 have B3_3_w4:w4.cell? ⟨B3,3,none⟩=some (.int .i64 v3):=by rw[Ac,hB3];go_simp
 have B3_4_w4:w4.cell? ⟨B3,4,none⟩=some (.int .i64 v4):=by rw[Ac,hB3];go_simp
 have B3_5_w4:w4.cell? ⟨B3,5,none⟩=some (.int .i64 v5):=by rw[Ac,hB3];go_simp
 have B3f_w4:∀o,w4.frozen? ⟨B3,o,none⟩=false:=fun o=>by rw[Ac,hB3];go_simp
 have lt_w4_B3:B3<w4.heap.size:=World.block_lt_of_cell? _ _ B3_0_w4
 have Bo:¬B3=w4.heap.size:=(by omega)
 rw[← hB3]
 clear hB3 Ac
 have XR:w4.rangeAt w.heap.size 0 [.int .i64 x0,.int .i64 x1,.int .i64 x2,.int .i64 x3,.int .i64 x4,.int .i64 x5,.int .i64 x6,.int .i64 x7,.int .i64 x8,.int .i64 x9,.int .i64 x10,.int .i64 x11,.int .i64 x12,.int .i64 x13,.int .i64 x14,.int .i64 x15,.int .i64 x16,.int .i64 x17,.int .i64 x18,.int .i64 x19]:=fun j v hv=>by rw[Nat.zero_add];exact(XB_w4.out j).trans hv
 refine wp_region_list ?_
 refine wpList_load_mid rfl 43 (.tmp 1) rfl w.heap.size 0 rfl [.int .i64 x0,.int .i64 x1,.int .i64 x2,.int .i64 x3,.int .i64 x4,.int .i64 x5,.int .i64 x6,.int .i64 x7,.int .i64 x8,.int .i64 x9,.int .i64 x10,.int .i64 x11,.int .i64 x12,.int .i64 x13,.int .i64 x14,.int .i64 x15,.int .i64 x16,.int .i64 x17,.int .i64 x18,.int .i64 x19] _ XR Tryz.underlying43 rfl (by kernel_rfl) ?_
 clear XR
 go_wp2_with fail
 refine(RC.out _).mono ?_
 rintro e w5 ⟨rfl,Cq⟩
 have Aa:Below w4.heap.size w4 w5:=blw
 have le_w5:=Aa.size
 have XB_w5:=Lib.hid (fun o=>(Aa.cell (p:=⟨w.heap.size,o,none⟩) lt_w4).trans (XB_w4.out o))
 have Aw:Below w.heap.size w w5:=Below.trans An (Aa.mono (by omega))
 have lt_w5:w.heap.size<w5.heap.size:=Nat.lt_of_lt_of_le lt_w4 le_w5
 have Cm:¬w.heap.size=w5.heap.size:=(by omega)
 have lt_w5_B3:B3<w5.heap.size:=Nat.lt_of_lt_of_le lt_w4_B3 le_w5
 have Br:¬B3=w5.heap.size:=(by omega)
 have B3_0_w5:w5.cell? ⟨B3,0,none⟩=some (.int .i64 v0):=(Aa.cell (p:=⟨B3,0,none⟩) lt_w4_B3).trans B3_0_w4
 have B3_1_w5:w5.cell? ⟨B3,1,none⟩=some (.int .i64 v1):=(Aa.cell (p:=⟨B3,1,none⟩) lt_w4_B3).trans B3_1_w4
 have B3_2_w5:w5.cell? ⟨B3,2,none⟩=some (.int .i64 v2):=(Aa.cell (p:=⟨B3,2,none⟩) lt_w4_B3).trans B3_2_w4
 have B3_3_w5:w5.cell? ⟨B3,3,none⟩=some (.int .i64 v3):=(Aa.cell (p:=⟨B3,3,none⟩) lt_w4_B3).trans B3_3_w4
 have B3_4_w5:w5.cell? ⟨B3,4,none⟩=some (.int .i64 v4):=(Aa.cell (p:=⟨B3,4,none⟩) lt_w4_B3).trans B3_4_w4
 have B3_5_w5:w5.cell? ⟨B3,5,none⟩=some (.int .i64 v5):=(Aa.cell (p:=⟨B3,5,none⟩) lt_w4_B3).trans B3_5_w4
 have B3f_w5:∀o,w5.frozen? ⟨B3,o,none⟩=false:=fun o=>(Aa.frozen (p:=⟨B3,o,none⟩) lt_w4_B3).trans (B3f_w4 o)
 clear XB_w4 An Bn Aa lt_w4 lt_w4_B3 Bo B3f_w4 B3_0_w4 B3_1_w4 B3_2_w4 B3_3_w4 B3_4_w4 B3_5_w4
 clear Cq RC
 repeat (first|(with_reducible refine wp_markr 5 ?_)|go_values|go_skip|go_guarded|go_step|go_upon|(simp only[];go_simp))
 refine wp_named (fun w6 Ak => ?_)
 have Ab:Below w5.heap.size w5 w6:=by rw[Ak];exact Below.refl _ _
 have le_w6:=Ab.size
 have XB_w6:=Lib.hid (fun o=>(Ab.cell (p:=⟨w.heap.size,o,none⟩) lt_w5).trans (XB_w5.out o))
 have Ax:Below w.heap.size w w6:=Below.trans Aw (Ab.mono (by omega))
 have lt_w6:w.heap.size<w6.heap.size:=Nat.lt_of_lt_of_le lt_w5 le_w6
 have Cn:¬w.heap.size=w6.heap.size:=(by omega)
 have lt_w6_B3:B3<w6.heap.size:=Nat.lt_of_lt_of_le lt_w5_B3 le_w6
 have Ar:¬B3=w6.heap.size:=(by omega)
 have B3_0_w6:w6.cell? ⟨B3,0,none⟩=some (.int .i64 v0):=(Ab.cell (p:=⟨B3,0,none⟩) lt_w5_B3).trans B3_0_w5
 have B3_1_w6:w6.cell? ⟨B3,1,none⟩=some (.int .i64 v1):=(Ab.cell (p:=⟨B3,1,none⟩) lt_w5_B3).trans B3_1_w5
 have B3_2_w6:w6.cell? ⟨B3,2,none⟩=some (.int .i64 v2):=(Ab.cell (p:=⟨B3,2,none⟩) lt_w5_B3).trans B3_2_w5
 have B3_3_w6:w6.cell? ⟨B3,3,none⟩=some (.int .i64 v3):=(Ab.cell (p:=⟨B3,3,none⟩) lt_w5_B3).trans B3_3_w5
 have B3_4_w6:w6.cell? ⟨B3,4,none⟩=some (.int .i64 v4):=(Ab.cell (p:=⟨B3,4,none⟩) lt_w5_B3).trans B3_4_w5
 have B3_5_w6:w6.cell? ⟨B3,5,none⟩=some (.int .i64 v5):=(Ab.cell (p:=⟨B3,5,none⟩) lt_w5_B3).trans B3_5_w5
 have B3f_w6:∀o,w6.frozen? ⟨B3,o,none⟩=false:=fun o=>(Ab.frozen (p:=⟨B3,o,none⟩) lt_w5_B3).trans (B3f_w5 o)
 clear XB_w5 Aw Cm Ab lt_w5 lt_w5_B3 Br B3f_w5 B3_0_w5 B3_1_w5 B3_2_w5 B3_3_w5 B3_4_w5 B3_5_w5
 clear Ak
 have XR:w6.rangeAt w.heap.size 0 [.int .i64 x0,.int .i64 x1,.int .i64 x2,.int .i64 x3,.int .i64 x4,.int .i64 x5,.int .i64 x6,.int .i64 x7,.int .i64 x8,.int .i64 x9,.int .i64 x10,.int .i64 x11,.int .i64 x12,.int .i64 x13,.int .i64 x14,.int .i64 x15,.int .i64 x16,.int .i64 x17,.int .i64 x18,.int .i64 x19]:=fun j v hv=>by rw[Nat.zero_add];exact(XB_w6.out j).trans hv
 refine wp_region_list ?_
 refine wpList_load_mid rfl 43 (.tmp 1) rfl w.heap.size 0 rfl [.int .i64 x0,.int .i64 x1,.int .i64 x2,.int .i64 x3,.int .i64 x4,.int .i64 x5,.int .i64 x6,.int .i64 x7,.int .i64 x8,.int .i64 x9,.int .i64 x10,.int .i64 x11,.int .i64 x12,.int .i64 x13,.int .i64 x14,.int .i64 x15,.int .i64 x16,.int .i64 x17,.int .i64 x18,.int .i64 x19] _ XR Tryz.underlying43 rfl (by kernel_rfl) ?_
 clear XR
 go_wp2_with fail
 refine(CK.out _).mono ?_
 rintro e w7 ⟨rfl,Bj⟩
 have A8:Below w6.heap.size w6 w7:=blw
 have le_w7:=A8.size
 have XB_w7:=Lib.hid (fun o=>(A8.cell (p:=⟨w.heap.size,o,none⟩) lt_w6).trans (XB_w6.out o))
 have Ay:Below w.heap.size w w7:=Below.trans Ax (A8.mono (by omega))
 have lt_w7:w.heap.size<w7.heap.size:=Nat.lt_of_lt_of_le lt_w6 le_w7
 have Co:¬w.heap.size=w7.heap.size:=(by omega)
 have lt_w7_B3:B3<w7.heap.size:=Nat.lt_of_lt_of_le lt_w6_B3 le_w7
 have As:¬B3=w7.heap.size:=(by omega)
 have B3_0_w7:w7.cell? ⟨B3,0,none⟩=some (.int .i64 v0):=(A8.cell (p:=⟨B3,0,none⟩) lt_w6_B3).trans B3_0_w6
 have B3_1_w7:w7.cell? ⟨B3,1,none⟩=some (.int .i64 v1):=(A8.cell (p:=⟨B3,1,none⟩) lt_w6_B3).trans B3_1_w6
 have B3_2_w7:w7.cell? ⟨B3,2,none⟩=some (.int .i64 v2):=(A8.cell (p:=⟨B3,2,none⟩) lt_w6_B3).trans B3_2_w6
 have B3_3_w7:w7.cell? ⟨B3,3,none⟩=some (.int .i64 v3):=(A8.cell (p:=⟨B3,3,none⟩) lt_w6_B3).trans B3_3_w6
 have B3_4_w7:w7.cell? ⟨B3,4,none⟩=some (.int .i64 v4):=(A8.cell (p:=⟨B3,4,none⟩) lt_w6_B3).trans B3_4_w6
 have B3_5_w7:w7.cell? ⟨B3,5,none⟩=some (.int .i64 v5):=(A8.cell (p:=⟨B3,5,none⟩) lt_w6_B3).trans B3_5_w6
 have B3f_w7:∀o,w7.frozen? ⟨B3,o,none⟩=false:=fun o=>(A8.frozen (p:=⟨B3,o,none⟩) lt_w6_B3).trans (B3f_w6 o)
 clear XB_w6 Ax Cn A8 lt_w6 lt_w6_B3 Ar B3f_w6 B3_0_w6 B3_1_w6 B3_2_w6 B3_3_w6 B3_4_w6 B3_5_w6
 clear Bj CK
 obtain⟨B6,hB6⟩:∃B6,B6=w7.heap.size:=⟨_,rfl⟩
 have sx_B6:¬B6=w.heap.size∧¬w.heap.size=B6:=(by omega)
 obtain⟨sx1_B6,sx2_B6⟩:=sx_B6
 have ge_B6:w.heap.size≤B6:=(by omega)
 have sy_B6_B3:¬B6=B3∧¬B3=B6:=(by omega)
 obtain⟨sy1_B6_B3,sy2_B6_B3⟩:=sy_B6_B3
 repeat (first|(with_reducible refine wp_markr 8 ?_)|go_values|go_skip|go_guarded|go_step|go_upon|(simp only[];go_simp))
 refine wp_named (fun w8 Ad => ?_)
 have A9:Below w7.heap.size w7 w8:=by rw[Ad];exact blw
 have le_w8:=A9.size
 have XB_w8:=Lib.hid (fun o=>(A9.cell (p:=⟨w.heap.size,o,none⟩) lt_w7).trans (XB_w7.out o))
 have Az:Below w.heap.size w w8:=Below.trans Ay (A9.mono (by omega))
 have lt_w8:w.heap.size<w8.heap.size:=Nat.lt_of_lt_of_le lt_w7 le_w8
 have Cp:¬w.heap.size=w8.heap.size:=(by omega)
 have lt_w8_B3:B3<w8.heap.size:=Nat.lt_of_lt_of_le lt_w7_B3 le_w8
 have At:¬B3=w8.heap.size:=(by omega)
 have B3_0_w8:w8.cell? ⟨B3,0,none⟩=some (.int .i64 v0):=(A9.cell (p:=⟨B3,0,none⟩) lt_w7_B3).trans B3_0_w7
 have B3_1_w8:w8.cell? ⟨B3,1,none⟩=some (.int .i64 v1):=(A9.cell (p:=⟨B3,1,none⟩) lt_w7_B3).trans B3_1_w7
 have B3_2_w8:w8.cell? ⟨B3,2,none⟩=some (.int .i64 v2):=(A9.cell (p:=⟨B3,2,none⟩) lt_w7_B3).trans B3_2_w7
 have B3_3_w8:w8.cell? ⟨B3,3,none⟩=some (.int .i64 v3):=(A9.cell (p:=⟨B3,3,none⟩) lt_w7_B3).trans B3_3_w7
 have B3_4_w8:w8.cell? ⟨B3,4,none⟩=some (.int .i64 v4):=(A9.cell (p:=⟨B3,4,none⟩) lt_w7_B3).trans B3_4_w7
 have B3_5_w8:w8.cell? ⟨B3,5,none⟩=some (.int .i64 v5):=(A9.cell (p:=⟨B3,5,none⟩) lt_w7_B3).trans B3_5_w7
 have B3f_w8:∀o,w8.frozen? ⟨B3,o,none⟩=false:=fun o=>(A9.frozen (p:=⟨B3,o,none⟩) lt_w7_B3).trans (B3f_w7 o)
 clear XB_w7 Ay Co A9 lt_w7 lt_w7_B3 As B3f_w7 B3_0_w7 B3_1_w7 B3_2_w7 B3_3_w7 B3_4_w7 B3_5_w7
 have B6_0_w8:w8.cell? ⟨B6,0,none⟩=some (.int .i64 0):=by rw[Ad,hB6];go_simp
 have B6_1_w8:w8.cell? ⟨B6,1,none⟩=some (.int .i64 0):=by rw[Ad,hB6];go_simp
 have B6_2_w8:w8.cell? ⟨B6,2,none⟩=some (.int .i64 0):=by rw[Ad,hB6];go_simp
 have B6_3_w8:w8.cell? ⟨B6,3,none⟩=some (.int .i64 0):=by rw[Ad,hB6];go_simp
 have B6_4_w8:w8.cell? ⟨B6,4,none⟩=some (.int .i64 0):=by rw[Ad,hB6];go_simp
 have B6_5_w8:w8.cell? ⟨B6,5,none⟩=some (.int .i64 0):=by rw[Ad,hB6];go_simp
 have B6f_w8:∀o,w8.frozen? ⟨B6,o,none⟩=false:=fun o=>by rw[Ad,hB6];go_simp
 have lt_w8_B6:B6<w8.heap.size:=World.block_lt_of_cell? _ _ B6_0_w8
 have Bz:¬B6=w8.heap.size:=(by omega)
 rw[← hB6]
 clear hB6 Ad
 by_cases h:E=0
 ·subst h
  have RS9:=Lib.hid (RS.out rfl)
  repeat (first|(with_reducible refine wp_markr 9 ?_)|go_values|go_skip|go_guarded|go_step|go_upon|(simp only[];go_simp))
  refine wp_named (fun w9 Al => ?_)
  have A3:Below w8.heap.size w8 w9:=by rw[Al];exact Below.refl _ _
  have le_w9:=A3.size
  have XB_w9:=Lib.hid (fun o=>(A3.cell (p:=⟨w.heap.size,o,none⟩) lt_w8).trans (XB_w8.out o))
  have Bd:Below w.heap.size w w9:=Below.trans Az (A3.mono (by omega))
  have lt_w9:w.heap.size<w9.heap.size:=Nat.lt_of_lt_of_le lt_w8 le_w9
  have Cx:¬w.heap.size=w9.heap.size:=(by omega)
  have lt_w9_B3:B3<w9.heap.size:=Nat.lt_of_lt_of_le lt_w8_B3 le_w9
  have Au:¬B3=w9.heap.size:=(by omega)
  have B3_0_w9:w9.cell? ⟨B3,0,none⟩=some (.int .i64 v0):=(A3.cell (p:=⟨B3,0,none⟩) lt_w8_B3).trans B3_0_w8
  have B3_1_w9:w9.cell? ⟨B3,1,none⟩=some (.int .i64 v1):=(A3.cell (p:=⟨B3,1,none⟩) lt_w8_B3).trans B3_1_w8
  have B3_2_w9:w9.cell? ⟨B3,2,none⟩=some (.int .i64 v2):=(A3.cell (p:=⟨B3,2,none⟩) lt_w8_B3).trans B3_2_w8
  have B3_3_w9:w9.cell? ⟨B3,3,none⟩=some (.int .i64 v3):=(A3.cell (p:=⟨B3,3,none⟩) lt_w8_B3).trans B3_3_w8
  have B3_4_w9:w9.cell? ⟨B3,4,none⟩=some (.int .i64 v4):=(A3.cell (p:=⟨B3,4,none⟩) lt_w8_B3).trans B3_4_w8
  have B3_5_w9:w9.cell? ⟨B3,5,none⟩=some (.int .i64 v5):=(A3.cell (p:=⟨B3,5,none⟩) lt_w8_B3).trans B3_5_w8
  have B3f_w9:∀o,w9.frozen? ⟨B3,o,none⟩=false:=fun o=>(A3.frozen (p:=⟨B3,o,none⟩) lt_w8_B3).trans (B3f_w8 o)
  have lt_w9_B6:B6<w9.heap.size:=Nat.lt_of_lt_of_le lt_w8_B6 le_w9
  have Cc:¬B6=w9.heap.size:=(by omega)
  have B6_0_w9:w9.cell? ⟨B6,0,none⟩=some (.int .i64 0):=(A3.cell (p:=⟨B6,0,none⟩) lt_w8_B6).trans B6_0_w8
  have B6_1_w9:w9.cell? ⟨B6,1,none⟩=some (.int .i64 0):=(A3.cell (p:=⟨B6,1,none⟩) lt_w8_B6).trans B6_1_w8
  have B6_2_w9:w9.cell? ⟨B6,2,none⟩=some (.int .i64 0):=(A3.cell (p:=⟨B6,2,none⟩) lt_w8_B6).trans B6_2_w8
  have B6_3_w9:w9.cell? ⟨B6,3,none⟩=some (.int .i64 0):=(A3.cell (p:=⟨B6,3,none⟩) lt_w8_B6).trans B6_3_w8
  have B6_4_w9:w9.cell? ⟨B6,4,none⟩=some (.int .i64 0):=(A3.cell (p:=⟨B6,4,none⟩) lt_w8_B6).trans B6_4_w8
  have B6_5_w9:w9.cell? ⟨B6,5,none⟩=some (.int .i64 0):=(A3.cell (p:=⟨B6,5,none⟩) lt_w8_B6).trans B6_5_w8
  have B6f_w9:∀o,w9.frozen? ⟨B6,o,none⟩=false:=fun o=>(A3.frozen (p:=⟨B6,o,none⟩) lt_w8_B6).trans (B6f_w8 o)
  clear XB_w8 Az Cp A3 lt_w8 lt_w8_B3 At B3f_w8 B3_0_w8 B3_1_w8 B3_2_w8 B3_3_w8 B3_4_w8 B3_5_w8 lt_w8_B6 Bz B6f_w8 B6_0_w8 B6_1_w8 B6_2_w8 B6_3_w8 B6_4_w8 B6_5_w8
  clear Al
  have XR:w9.rangeAt w.heap.size 0 [.int .i64 x0,.int .i64 x1,.int .i64 x2,.int .i64 x3,.int .i64 x4,.int .i64 x5,.int .i64 x6,.int .i64 x7,.int .i64 x8,.int .i64 x9,.int .i64 x10,.int .i64 x11,.int .i64 x12,.int .i64 x13,.int .i64 x14,.int .i64 x15,.int .i64 x16,.int .i64 x17,.int .i64 x18,.int .i64 x19]:=fun j v hv=>by rw[Nat.zero_add];exact(XB_w9.out j).trans hv
  refine wp_region_list ?_
  refine wpList_load_mid rfl 43 (.tmp 1) rfl w.heap.size 0 rfl [.int .i64 x0,.int .i64 x1,.int .i64 x2,.int .i64 x3,.int .i64 x4,.int .i64 x5,.int .i64 x6,.int .i64 x7,.int .i64 x8,.int .i64 x9,.int .i64 x10,.int .i64 x11,.int .i64 x12,.int .i64 x13,.int .i64 x14,.int .i64 x15,.int .i64 x16,.int .i64 x17,.int .i64 x18,.int .i64 x19] _ XR Tryz.underlying43 rfl (by kernel_rfl) ?_
  clear XR
  go_wp2_with fail
  refine(RS9.out _).mono ?_
  rintro e w10 ⟨rfl,Aj⟩
  have A7:Below w9.heap.size w9 w10:=blw
  have le_w10:=A7.size
  have XB_w10:=Lib.hid (fun o=>(A7.cell (p:=⟨w.heap.size,o,none⟩) lt_w9).trans (XB_w9.out o))
  have D1:Below w.heap.size w w10:=Below.trans Bd (A7.mono (by omega))
  have lt_w10:w.heap.size<w10.heap.size:=Nat.lt_of_lt_of_le lt_w9 le_w10
  have D7:¬w.heap.size=w10.heap.size:=(by omega)
  have lt_w10_B3:B3<w10.heap.size:=Nat.lt_of_lt_of_le lt_w9_B3 le_w10
  have Cv:¬B3=w10.heap.size:=(by omega)
  have B3_0_w10:w10.cell? ⟨B3,0,none⟩=some (.int .i64 v0):=(A7.cell (p:=⟨B3,0,none⟩) lt_w9_B3).trans B3_0_w9
  have B3_1_w10:w10.cell? ⟨B3,1,none⟩=some (.int .i64 v1):=(A7.cell (p:=⟨B3,1,none⟩) lt_w9_B3).trans B3_1_w9
  have B3_2_w10:w10.cell? ⟨B3,2,none⟩=some (.int .i64 v2):=(A7.cell (p:=⟨B3,2,none⟩) lt_w9_B3).trans B3_2_w9
  have B3_3_w10:w10.cell? ⟨B3,3,none⟩=some (.int .i64 v3):=(A7.cell (p:=⟨B3,3,none⟩) lt_w9_B3).trans B3_3_w9
  have B3_4_w10:w10.cell? ⟨B3,4,none⟩=some (.int .i64 v4):=(A7.cell (p:=⟨B3,4,none⟩) lt_w9_B3).trans B3_4_w9
  have B3_5_w10:w10.cell? ⟨B3,5,none⟩=some (.int .i64 v5):=(A7.cell (p:=⟨B3,5,none⟩) lt_w9_B3).trans B3_5_w9
  have B3f_w10:∀o,w10.frozen? ⟨B3,o,none⟩=false:=fun o=>(A7.frozen (p:=⟨B3,o,none⟩) lt_w9_B3).trans (B3f_w9 o)
  have lt_w10_B6:B6<w10.heap.size:=Nat.lt_of_lt_of_le lt_w9_B6 le_w10
  have Cw:¬B6=w10.heap.size:=(by omega)
  have B6_0_w10:w10.cell? ⟨B6,0,none⟩=some (.int .i64 0):=(A7.cell (p:=⟨B6,0,none⟩) lt_w9_B6).trans B6_0_w9
  have B6_1_w10:w10.cell? ⟨B6,1,none⟩=some (.int .i64 0):=(A7.cell (p:=⟨B6,1,none⟩) lt_w9_B6).trans B6_1_w9
  have B6_2_w10:w10.cell? ⟨B6,2,none⟩=some (.int .i64 0):=(A7.cell (p:=⟨B6,2,none⟩) lt_w9_B6).trans B6_2_w9
  have B6_3_w10:w10.cell? ⟨B6,3,none⟩=some (.int .i64 0):=(A7.cell (p:=⟨B6,3,none⟩) lt_w9_B6).trans B6_3_w9
  have B6_4_w10:w10.cell? ⟨B6,4,none⟩=some (.int .i64 0):=(A7.cell (p:=⟨B6,4,none⟩) lt_w9_B6).trans B6_4_w9
  have B6_5_w10:w10.cell? ⟨B6,5,none⟩=some (.int .i64 0):=(A7.cell (p:=⟨B6,5,none⟩) lt_w9_B6).trans B6_5_w9
  have B6f_w10:∀o,w10.frozen? ⟨B6,o,none⟩=false:=fun o=>(A7.frozen (p:=⟨B6,o,none⟩) lt_w9_B6).trans (B6f_w9 o)
  clear XB_w9 Bd Cx A7 lt_w9 lt_w9_B3 Au B3f_w9 B3_0_w9 B3_1_w9 B3_2_w9 B3_3_w9 B3_4_w9 B3_5_w9 lt_w9_B6 Cc B6f_w9 B6_0_w9 B6_1_w9 B6_2_w9 B6_3_w9 B6_4_w9 B6_5_w9
  clear Aj RS RS9
  go_wp2
  go_ret
  exact⟨rfl,blw⟩
 ·obtain⟨rfl,rfl,rfl,rfl,rfl,rfl,rfl⟩:=hE.out h
  have h1:(q==0)=false:=by simpa using h
  clear RS hE
  go_wp2
  go_ret
  exact⟨rfl,blw⟩
end Go.Proofs.YticobgianbecpaaGreatDoor
namespace Go.Proofs.YticobgianbecpaaGreatDoor
open Go Go.Sort Go.RowKit Go.Shelf
theorem ret_sixp (tmps:Array Value) (W:World) (b:Nat) (c0 c1 c2 c3 c4 c5 v:Value) (h2:tmps.getD 2 undef = .pointer (some ⟨b,0,none⟩)) (h3:tmps.getD 3 undef=v)
  (k0:W.cell? ⟨b,0,none⟩=some c0) (k1:W.cell? ⟨b,1,none⟩=some c1) (k2:W.cell? ⟨b,2,none⟩=some c2) (k3:W.cell? ⟨b,3,none⟩=some c3) (k4:W.cell? ⟨b,4,none⟩=some c4) (k5:W.cell? ⟨b,5,none⟩=some c5) :
  (results Tryz.f15 tmps).run Tryz.prog W = .ok (.tuple #[.agg #[c0,c1,c2,c3,c4,c5],v]) W:=by
 simp at h2 h3
 simp[results,Tryz.results15,go_sem,h2,h3,k0,k1,k2,k3,k4,k5]
set_option maxRecDepth 100000 in
set_option maxHeartbeats 16000000 in
theorem slab_wrong (a0 a1 b0 b1 c0 c1 d0 d1 e0 e1 f0 f1 g0 g1 p0 p1 i0 i1 m0 m1 q:Int) (hq:¬q=0)
  (CK:∀w,Calls Tryz.prog 17 #[.agg #[.int .i64 a0,.int .i64 a1,.int .i64 b0,.int .i64 b1,.int .i64 c0,.int .i64 c1,.int .i64 d0,.int .i64 d1,.int .i64 e0,.int .i64 e1,.int .i64 f0,.int .i64 f1,.int .i64 g0,.int .i64 g1,.int .i64 p0,.int .i64 p1,.int .i64 i0,.int .i64 i1,.int .i64 m0,.int .i64 m1]] w fun e w'=>e = .returned (.int .i64 q)∧Below w.heap.size w w') (w:World) :
  Calls Tryz.prog 15 #[.agg #[.int .i64 a0,.int .i64 a1,.int .i64 b0,.int .i64 b1,.int .i64 c0,.int .i64 c1,.int .i64 d0,.int .i64 d1,.int .i64 e0,.int .i64 e1,.int .i64 f0,.int .i64 f1,.int .i64 g0,.int .i64 g1,.int .i64 p0,.int .i64 p1,.int .i64 i0,.int .i64 i1,.int .i64 m0,.int .i64 m1]] w fun e w'=>e = .returned (.tuple #[.agg #[.int .i64 0,.int .i64 0,.int .i64 0,.int .i64 0,.int .i64 0,.int .i64 0],.int .i64 q])∧Below w.heap.size w w':=by
 have CS:=Lib.hid CK
 have hq1:(q != 0)=true:=by simpa using hq
 clear CK hq
 go_enter Tryz.func15,Tryz.ntmps15
 repeat (first|(with_reducible refine wp_markr 1 ?_)|go_values|go_skip|go_guarded|go_step|go_upon|(simp only[];go_simp))
 refine wp_named (fun w1 A6 => ?_)
 have XB:∀o,w1.cell? ⟨w.heap.size,o,none⟩=([.int .i64 a0,.int .i64 a1,.int .i64 b0,.int .i64 b1,.int .i64 c0,.int .i64 c1,.int .i64 d0,.int .i64 d1,.int .i64 e0,.int .i64 e1,.int .i64 f0,.int .i64 f1,.int .i64 g0,.int .i64 g1,.int .i64 p0,.int .i64 p1,.int .i64 i0,.int .i64 i1,.int .i64 m0,.int .i64 m1]:List Value)[o]?:=fun o=>by rw[A6];go_simp
 have OB:∀o,w1.cell? ⟨w.heap.size+1,o,none⟩=([.int .i64 0,.int .i64 0,.int .i64 0,.int .i64 0,.int .i64 0,.int .i64 0]:List Value)[o]?:=fun o=>by rw[A6];go_simp
 have OF:∀o,w1.frozen? ⟨w.heap.size+1,o,none⟩=false:=fun o=>by rw[A6];go_simp
 have Ae:Below w.heap.size w w1:=by rw[A6];exact blw
 have lt_w1:w.heap.size+1<w1.heap.size:=by rw[A6];first|omega|(simp;done)|(simp;omega)
 have Ao:¬w.heap.size=w1.heap.size:=(by omega)
 have Ba:¬w.heap.size+1=w1.heap.size:=(by omega)
 clear A6
 have XR:w1.rangeAt w.heap.size 0 [.int .i64 a0,.int .i64 a1,.int .i64 b0,.int .i64 b1,.int .i64 c0,.int .i64 c1,.int .i64 d0,.int .i64 d1,.int .i64 e0,.int .i64 e1,.int .i64 f0,.int .i64 f1,.int .i64 g0,.int .i64 g1,.int .i64 p0,.int .i64 p1,.int .i64 i0,.int .i64 i1,.int .i64 m0,.int .i64 m1]:=fun j v hv=>by rw[Nat.zero_add];exact(XB j).trans hv
 have XB_w1:=Lib.hid XB
 have OB_w1:=Lib.hid OB
 have OF_w1:=Lib.hid OF
 clear XB OB OF
 refine wp_region_list ?_
 refine wpList_load_mid rfl 43 (.tmp 1) rfl w.heap.size 0 rfl [.int .i64 a0,.int .i64 a1,.int .i64 b0,.int .i64 b1,.int .i64 c0,.int .i64 c1,.int .i64 d0,.int .i64 d1,.int .i64 e0,.int .i64 e1,.int .i64 f0,.int .i64 f1,.int .i64 g0,.int .i64 g1,.int .i64 p0,.int .i64 p1,.int .i64 i0,.int .i64 i1,.int .i64 m0,.int .i64 m1] _ XR Tryz.underlying43 rfl (by kernel_rfl) ?_
 clear XR
 go_wp2_with fail
 refine(CS.out _).mono ?_
 rintro e w2 ⟨rfl,Bh⟩
 have A2:Below w1.heap.size w1 w2:=blw
 have XB_w2:=Lib.hid (fun o=>(A2.cell (p:=⟨w.heap.size,o,none⟩) (show w.heap.size<w1.heap.size by omega)).trans (XB_w1.out o))
 have OB_w2:=Lib.hid (fun o=>(A2.cell (p:=⟨w.heap.size+1,o,none⟩) lt_w1).trans (OB_w1.out o))
 have OF_w2:=Lib.hid (fun o=>(A2.frozen (p:=⟨w.heap.size+1,o,none⟩) lt_w1).trans (OF_w1.out o))
 have Ag:Below w.heap.size w w2:=Below.trans Ae (A2.mono (by omega))
 have lt_w2:w.heap.size+1<w2.heap.size:=Nat.lt_of_lt_of_le lt_w1 A2.size
 have ltb_w2:w.heap.size<w2.heap.size:=(by omega)
 have B0:¬w.heap.size=w2.heap.size:=(by omega)
 have Bg:¬w.heap.size+1=w2.heap.size:=(by omega)
 have le_w2:=A2.size
 clear XB_w1 OB_w1 OF_w1 Ae A2 Ao Ba
 clear Bh CS
 have OB:∀o,w2.cell? ⟨w.heap.size+1,o,none⟩=(#[.int .i64 0,.int .i64 0,.int .i64 0,.int .i64 0,.int .i64 0,.int .i64 0]:Array Value)[o]?:=fun o=>(OB_w2.out o).trans (by simp)
 have OF:=OF_w2.out
 clear XB_w2 OB_w2 OF_w2
 repeat' (first|go_values|go_skip|go_guarded|go_step|go_upon|(simp only[];go_simp))
 refine bodyPost_ret (ret_sixp _ _ (w.heap.size+1) (.int .i64 0) (.int .i64 0) (.int .i64 0) (.int .i64 0) (.int .i64 0) (.int .i64 0) (.int .i64 q) rfl rfl (by go_simp) (by go_simp) (by go_simp) (by go_simp) (by go_simp) (by go_simp)) rfl ?_
 exact⟨rfl,blw⟩
set_option maxRecDepth 100000 in
set_option maxHeartbeats 16000000 in
theorem slab_break (s:Slb) (hs:SlbOk s) (c0 c1 f0 f1 i0 i1:Int) (h1:slLo1 s=1048576)
  (CK:∀w,Calls Tryz.prog 17 #[.agg #[.int .i64 s.a0,.int .i64 s.a1,.int .i64 s.b0,.int .i64 s.b1,.int .i64 c0,.int .i64 c1,.int .i64 s.d0,.int .i64 s.d1,.int .i64 s.e0,.int .i64 s.e1,.int .i64 f0,.int .i64 f1,.int .i64 s.g0,.int .i64 s.g1,.int .i64 s.h0,.int .i64 s.h1,.int .i64 i0,.int .i64 i1,.int .i64 s.n0,.int .i64 s.n1]] w fun e w'=>e = .returned (.int .i64 0)∧Below w.heap.size w w') (w:World) :
  Calls Tryz.prog 15 #[.agg #[.int .i64 s.a0,.int .i64 s.a1,.int .i64 s.b0,.int .i64 s.b1,.int .i64 c0,.int .i64 c1,.int .i64 s.d0,.int .i64 s.d1,.int .i64 s.e0,.int .i64 s.e1,.int .i64 f0,.int .i64 f1,.int .i64 s.g0,.int .i64 s.g1,.int .i64 s.h0,.int .i64 s.h1,.int .i64 i0,.int .i64 i1,.int .i64 s.n0,.int .i64 s.n1]] w fun e w'=>e = .returned (.tuple #[.agg #[.int .i64 0,.int .i64 0,.int .i64 0,.int .i64 0,.int .i64 0,.int .i64 0],.int .i64 24])∧Below w.heap.size w w':=by
 have CS:=Lib.hid CK
 have P1:∀g cap w,g<w.heap.size→w.cell? ⟨g,0,none⟩=some (.int .i64 s.n0)→w.cell? ⟨g,1,none⟩=some (.int .i64 s.n1)→w.cell? ⟨g,2,none⟩=some (.int .i64 s.g0)→w.cell? ⟨g,3,none⟩=some (.int .i64 s.g1) →
   Calls Tryz.prog 62 #[.agg #[.int .i64 s.n0,.int .i64 s.n1],.slice (some ⟨g,0,none⟩) 2 cap] w fun E w'=>E = .returned (.agg #[.int .i64 (slTh0 s),.int .i64 (slTh1 s)])∧Below w.heap.size w w':=fun g cap w hg k0 k1 k2 k3=>by
  unfold slTh0 slTh1
  exact product_two _ _ _ _ _ _ hs.n0 hs.n1 hs.n0 hs.n1 hs.g0 hs.g1 g cap w hg k0 k1 k2 k3
 have P2:∀g cap w,g<w.heap.size→w.cell? ⟨g,0,none⟩=some (.int .i64 (slTh0 s))→w.cell? ⟨g,1,none⟩=some (.int .i64 (slTh1 s)) →
   Calls Tryz.prog 62 #[.agg #[.int .i64 s.d0,.int .i64 s.d1],.slice (some ⟨g,0,none⟩) 1 cap] w fun E w'=>E = .returned (.agg #[.int .i64 (slLo0 s),.int .i64 (slLo1 s)])∧Below w.heap.size w w':=fun g cap w hg k0 k1=>by
  unfold slLo0 slLo1
  exact product_one _ _ _ _ hs.d0 hs.d1 hs.th0 hs.th1 g cap w hg k0 k1
 rw[h1]at P2
 generalize slTh0 s=th0 at *
 generalize slTh1 s=th1 at *
 generalize slLo0 s=lo0 at *
 obtain⟨a0,a1,b0,b1,d0,d1,e0,e1,g0,g1,p0,p1,m0,m1⟩:=s
 dsimp only at *
 have P1:=Lib.hid P1
 have P2:=Lib.hid P2
 clear hs h1 CK
 go_enter Tryz.func15,Tryz.ntmps15
 repeat (first|(with_reducible refine wp_markr 1 ?_)|go_values|go_skip|go_guarded|go_step|go_upon|(simp only[];go_simp))
 refine wp_named (fun w1 A6 => ?_)
 have XB:∀o,w1.cell? ⟨w.heap.size,o,none⟩=([.int .i64 a0,.int .i64 a1,.int .i64 b0,.int .i64 b1,.int .i64 c0,.int .i64 c1,.int .i64 d0,.int .i64 d1,.int .i64 e0,.int .i64 e1,.int .i64 f0,.int .i64 f1,.int .i64 g0,.int .i64 g1,.int .i64 p0,.int .i64 p1,.int .i64 i0,.int .i64 i1,.int .i64 m0,.int .i64 m1]:List Value)[o]?:=fun o=>by rw[A6];go_simp
 have OB:∀o,w1.cell? ⟨w.heap.size+1,o,none⟩=([.int .i64 0,.int .i64 0,.int .i64 0,.int .i64 0,.int .i64 0,.int .i64 0]:List Value)[o]?:=fun o=>by rw[A6];go_simp
 have OF:∀o,w1.frozen? ⟨w.heap.size+1,o,none⟩=false:=fun o=>by rw[A6];go_simp
 have Ae:Below w.heap.size w w1:=by rw[A6];exact blw
 have lt_w1:w.heap.size+1<w1.heap.size:=by rw[A6];first|omega|(simp;done)|(simp;omega)
 have Ao:¬w.heap.size=w1.heap.size:=(by omega)
 have Ba:¬w.heap.size+1=w1.heap.size:=(by omega)
 clear A6
 have XR:w1.rangeAt w.heap.size 0 [.int .i64 a0,.int .i64 a1,.int .i64 b0,.int .i64 b1,.int .i64 c0,.int .i64 c1,.int .i64 d0,.int .i64 d1,.int .i64 e0,.int .i64 e1,.int .i64 f0,.int .i64 f1,.int .i64 g0,.int .i64 g1,.int .i64 p0,.int .i64 p1,.int .i64 i0,.int .i64 i1,.int .i64 m0,.int .i64 m1]:=fun j v hv=>by rw[Nat.zero_add];exact(XB j).trans hv
 have XB_w1:=Lib.hid XB
 have OB_w1:=Lib.hid OB
 have OF_w1:=Lib.hid OF
 clear XB OB OF
 refine wp_region_list ?_
 refine wpList_load_mid rfl 43 (.tmp 1) rfl w.heap.size 0 rfl [.int .i64 a0,.int .i64 a1,.int .i64 b0,.int .i64 b1,.int .i64 c0,.int .i64 c1,.int .i64 d0,.int .i64 d1,.int .i64 e0,.int .i64 e1,.int .i64 f0,.int .i64 f1,.int .i64 g0,.int .i64 g1,.int .i64 p0,.int .i64 p1,.int .i64 i0,.int .i64 i1,.int .i64 m0,.int .i64 m1] _ XR Tryz.underlying43 rfl (by kernel_rfl) ?_
 clear XR
 go_wp2_with fail
 refine(CS.out _).mono ?_
 rintro e w2 ⟨rfl,Bh⟩
 have A2:Below w1.heap.size w1 w2:=blw
 have XB_w2:=Lib.hid (fun o=>(A2.cell (p:=⟨w.heap.size,o,none⟩) (show w.heap.size<w1.heap.size by omega)).trans (XB_w1.out o))
 have OB_w2:=Lib.hid (fun o=>(A2.cell (p:=⟨w.heap.size+1,o,none⟩) lt_w1).trans (OB_w1.out o))
 have OF_w2:=Lib.hid (fun o=>(A2.frozen (p:=⟨w.heap.size+1,o,none⟩) lt_w1).trans (OF_w1.out o))
 have Ag:Below w.heap.size w w2:=Below.trans Ae (A2.mono (by omega))
 have lt_w2:w.heap.size+1<w2.heap.size:=Nat.lt_of_lt_of_le lt_w1 A2.size
 have ltb_w2:w.heap.size<w2.heap.size:=(by omega)
 have B0:¬w.heap.size=w2.heap.size:=(by omega)
 have Bg:¬w.heap.size+1=w2.heap.size:=(by omega)
 have le_w2:=A2.size
 clear XB_w1 OB_w1 OF_w1 Ae A2 Ao Ba
 clear Bh CS
 have x18_w2:w2.cell? ⟨w.heap.size,18,none⟩=some (.int .i64 m0):=(XB_w2.out 18).trans rfl
 have x19_w2:w2.cell? ⟨w.heap.size,19,none⟩=some (.int .i64 m1):=(XB_w2.out 19).trans rfl
 have x12_w2:w2.cell? ⟨w.heap.size,12,none⟩=some (.int .i64 g0):=(XB_w2.out 12).trans rfl
 have x13_w2:w2.cell? ⟨w.heap.size,13,none⟩=some (.int .i64 g1):=(XB_w2.out 13).trans rfl
 go_wp2_with fail
 refine(P1.out _ _ _ lto (by go_simp) (by go_simp) (by go_simp) (by go_simp)).mono ?_
 rintro e w3 ⟨rfl,Am⟩
 have A4:Below w2.heap.size w2 w3:=blw
 have XB_w3:=Lib.hid (fun o=>(A4.cell (p:=⟨w.heap.size,o,none⟩) (show w.heap.size<w2.heap.size by omega)).trans (XB_w2.out o))
 have OB_w3:=Lib.hid (fun o=>(A4.cell (p:=⟨w.heap.size+1,o,none⟩) lt_w2).trans (OB_w2.out o))
 have OF_w3:=Lib.hid (fun o=>(A4.frozen (p:=⟨w.heap.size+1,o,none⟩) lt_w2).trans (OF_w2.out o))
 have Ai:Below w.heap.size w w3:=Below.trans Ag (A4.mono (by omega))
 have lt_w3:w.heap.size+1<w3.heap.size:=Nat.lt_of_lt_of_le lt_w2 A4.size
 have ltb_w3:w.heap.size<w3.heap.size:=(by omega)
 have Bb:¬w.heap.size=w3.heap.size:=(by omega)
 have Bm:¬w.heap.size+1=w3.heap.size:=(by omega)
 have le_w3:=A4.size
 clear XB_w2 OB_w2 OF_w2 Ag A4 B0 Bg
 clear x18_w2 x19_w2 x12_w2 x13_w2
 clear Am P1
 have x6_w3:w3.cell? ⟨w.heap.size,6,none⟩=some (.int .i64 d0):=(XB_w3.out 6).trans rfl
 have x7_w3:w3.cell? ⟨w.heap.size,7,none⟩=some (.int .i64 d1):=(XB_w3.out 7).trans rfl
 go_wp2_with fail
 refine(P2.out _ _ _ lto (by go_simp) (by go_simp)).mono ?_
 rintro e w4 ⟨rfl,Bi⟩
 have Cy:w4.cell? ⟨w3.heap.size,0,none⟩=some (.int .i64 th0):=keepC Bi (by go_simp)
 have D8:w4.cell? ⟨w3.heap.size,1,none⟩=some (.int .i64 th1):=keepC Bi (by go_simp)
 have lt3_w4:w3.heap.size<w4.heap.size:=World.block_lt_of_cell? _ _ Cy
 have A5:Below w3.heap.size w3 w4:=blw
 have XB_w4:=Lib.hid (fun o=>(A5.cell (p:=⟨w.heap.size,o,none⟩) (show w.heap.size<w3.heap.size by omega)).trans (XB_w3.out o))
 have OB_w4:=Lib.hid (fun o=>(A5.cell (p:=⟨w.heap.size+1,o,none⟩) lt_w3).trans (OB_w3.out o))
 have OF_w4:=Lib.hid (fun o=>(A5.frozen (p:=⟨w.heap.size+1,o,none⟩) lt_w3).trans (OF_w3.out o))
 have An:Below w.heap.size w w4:=Below.trans Ai (A5.mono (by omega))
 have lt_w4:w.heap.size+1<w4.heap.size:=Nat.lt_of_lt_of_le lt_w3 A5.size
 have ltb_w4:w.heap.size<w4.heap.size:=(by omega)
 have Bn:¬w.heap.size=w4.heap.size:=(by omega)
 have Cl:¬w.heap.size+1=w4.heap.size:=(by omega)
 have le_w4:=A5.size
 clear XB_w3 OB_w3 OF_w3 Ai A5 Bb Bm
 clear x6_w3 x7_w3
 clear Bi P2
 have D6:¬w3.heap.size=w4.heap.size:=(by omega)
 have OB:∀o,w4.cell? ⟨w.heap.size+1,o,none⟩=(#[.int .i64 0,.int .i64 0,.int .i64 0,.int .i64 0,.int .i64 0,.int .i64 0]:Array Value)[o]?:=fun o=>(OB_w4.out o).trans (by simp)
 have OF:=OF_w4.out
 clear XB_w4 OB_w4 OF_w4
 repeat' (first|go_values|go_skip|go_guarded|go_step|go_upon|(simp only[];go_simp))
 refine bodyPost_ret (ret_sixp _ _ (w.heap.size+1) (.int .i64 0) (.int .i64 0) (.int .i64 0) (.int .i64 0) (.int .i64 0) (.int .i64 0) (.int .i64 24) rfl rfl (by go_simp) (by go_simp) (by go_simp) (by go_simp) (by go_simp) (by go_simp)) rfl ?_
 exact⟨rfl,blw⟩
end Go.Proofs.YticobgianbecpaaGreatDoor
namespace Go.Proofs.YticobgianbecpaaGreatDoor
open Go Go.Sort Go.RowKit Go.Shelf
theorem ret_sixr (tmps:Array Value) (W:World) (b:Nat) (c0 c1 c2 c3 c4 c5 v:Value) (h2:tmps.getD 2 undef = .pointer (some ⟨b,0,none⟩)) (h3:tmps.getD 3 undef=v)
  (k0:W.cell? ⟨b,0,none⟩=some c0) (k1:W.cell? ⟨b,1,none⟩=some c1) (k2:W.cell? ⟨b,2,none⟩=some c2) (k3:W.cell? ⟨b,3,none⟩=some c3) (k4:W.cell? ⟨b,4,none⟩=some c4) (k5:W.cell? ⟨b,5,none⟩=some c5) :
  (results Tryz.f18 tmps).run Tryz.prog W = .ok (.tuple #[.agg #[c0,c1,c2,c3,c4,c5],v]) W:=by
 simp at h2 h3
 simp[results,Tryz.results18,go_sem,h2,h3,k0,k1,k2,k3,k4,k5]
set_option maxRecDepth 100000 in
set_option maxHeartbeats 16000000 in
theorem rslab_break (s:Slb) (hs:SlbOk s) (c0 c1 f0 f1 i0 i1:Int) (h1:¬slLo1 s<1048576) (w:World) :
  Calls Tryz.prog 18 #[.agg #[.int .i64 s.a0,.int .i64 s.a1,.int .i64 s.b0,.int .i64 s.b1,.int .i64 c0,.int .i64 c1,.int .i64 s.d0,.int .i64 s.d1,.int .i64 s.e0,.int .i64 s.e1,.int .i64 f0,.int .i64 f1,.int .i64 s.g0,.int .i64 s.g1,.int .i64 s.h0,.int .i64 s.h1,.int .i64 i0,.int .i64 i1,.int .i64 s.n0,.int .i64 s.n1]] w fun e w'=>e = .returned (.tuple #[.agg #[.int .i64 0,.int .i64 0,.int .i64 0,.int .i64 0,.int .i64 0,.int .i64 0],.int .i64 24])∧Below w.heap.size w w':=by
 have T1:=fun w=>rtimes_any s.n0 s.n1 s.n0 s.n1 hs.n0 hs.n1 hs.n0 hs.n1 w
 have T2:=fun w=>rtimes_any _ _ s.g0 s.g1 (sh_mulD hs.n0 hs.n0) (sh_mulU hs.n1 hs.n1) hs.g0 hs.g1 w
 have T3:=fun w=>rtimes_any s.d0 s.d1 _ _ hs.d0 hs.d1 hs.th0 hs.th1 w
 have e1:mulU s.d1 (slTh1 s)=slLo1 s:=by unfold slLo1;rfl
 rw[e1]at T3
 unfold slTh0 slTh1 at T3
 have h2:1048576≤slLo1 s:=by omega
 generalize slLo1 s=lo1 at *
 generalize mulD s.d0 (mulD (mulD s.n0 s.n0) s.g0)=lo0 at *
 generalize mulD (mulD s.n0 s.n0) s.g0=th0 at *
 generalize mulU (mulU s.n1 s.n1) s.g1=th1 at *
 generalize mulD s.n0 s.n0=x0 at *
 generalize mulU s.n1 s.n1=x1 at *
 obtain⟨a0,a1,b0,b1,d0,d1,e0,e1,g0,g1,p0,p1,m0,m1⟩:=s
 dsimp only at *
 have T1:=Lib.hid T1
 have T2:=Lib.hid T2
 have T3:=Lib.hid T3
 clear hs h1 e1
 go_enter Tryz.func18,Tryz.ntmps18
 repeat (first|(with_reducible refine wp_markr 1 ?_)|go_values|go_skip|go_guarded|go_step|go_upon|(simp only[];go_simp))
 refine wp_named (fun w1 A6 => ?_)
 have XB_w1:=Lib.hid (show∀o,w1.cell? ⟨w.heap.size,o,none⟩=([.int .i64 a0,.int .i64 a1,.int .i64 b0,.int .i64 b1,.int .i64 c0,.int .i64 c1,.int .i64 d0,.int .i64 d1,.int .i64 e0,.int .i64 e1,.int .i64 f0,.int .i64 f1,.int .i64 g0,.int .i64 g1,.int .i64 p0,.int .i64 p1,.int .i64 i0,.int .i64 i1,.int .i64 m0,.int .i64 m1]:List Value)[o]? from fun o=>by rw[A6];go_simp)
 have OB_w1:=Lib.hid (show∀o,w1.cell? ⟨w.heap.size+1,o,none⟩=([.int .i64 0,.int .i64 0,.int .i64 0,.int .i64 0,.int .i64 0,.int .i64 0]:List Value)[o]? from fun o=>by rw[A6];go_simp)
 have OF_w1:=Lib.hid (show∀o,w1.frozen? ⟨w.heap.size+1,o,none⟩=false from fun o=>by rw[A6];go_simp)
 have Ae:Below w.heap.size w w1:=by rw[A6];exact blw
 have lt_w1:w.heap.size+1<w1.heap.size:=by rw[A6];first|omega|(simp;done)|(simp;omega)
 have Ao:¬w.heap.size=w1.heap.size:=(by omega)
 have Ba:¬w.heap.size+1=w1.heap.size:=(by omega)
 clear A6
 have x18_w1:w1.cell? ⟨w.heap.size,18,none⟩=some (.int .i64 m0):=(XB_w1.out 18).trans rfl
 have x19_w1:w1.cell? ⟨w.heap.size,19,none⟩=some (.int .i64 m1):=(XB_w1.out 19).trans rfl
 have x12_w1:w1.cell? ⟨w.heap.size,12,none⟩=some (.int .i64 g0):=(XB_w1.out 12).trans rfl
 have x13_w1:w1.cell? ⟨w.heap.size,13,none⟩=some (.int .i64 g1):=(XB_w1.out 13).trans rfl
 refine calm_new 9 #[.int .i64 0,.int .i64 0] 23 _ rfl (by kernel_rfl) (by kernel_rfl) (fun a w=>by kernel_rfl) fun hG => ?_
 have g18:=hG_at hG x18_w1
 have g19:=hG_at hG x19_w1
 have g12:=hG_at hG x12_w1
 have g13:=hG_at hG x13_w1
 clear hG x18_w1 x19_w1 x12_w1 x13_w1
 simp only[List.take_succ_cons,List.take_zero,List.drop_succ_cons,List.drop_zero]
 repeat (refine wpCalm_step (fun K hK => ?_);go_simp;first|(refine hK _ ?_;clear hK K)|(apply Exists.intro;refine⟨fun _ => ?_,hK _ ?_⟩;(first|(go_at_call 67;with_reducible exact cal_call T1.out)|(go_at_call 67;with_reducible exact cal_call T2.out));clear hK K))
 refine wpCalm_nil ?_
 intro B1 vw1 hN
 obtain⟨B7,B9,B8,Bk,Bl⟩:=hN
 clear g18 g19 g12 g13
 have nx_B1:¬B1=w.heap.size∧¬B1=w.heap.size+1:=(by omega)
 obtain⟨nx1_B1,nx2_B1⟩:=nx_B1
 repeat (first|(with_reducible refine wp_markr 2 ?_)|go_values|go_skip|go_guarded|go_step|go_upon|(simp only[];go_simp))
 refine wp_named (fun w2 Af => ?_)
 have A2:Below w1.heap.size w1 w2:=by rw[Af];exact blw
 have le_w2:=A2.size
 have XB_w2:=Lib.hid (fun o=>(A2.cell (p:=⟨w.heap.size,o,none⟩) (show w.heap.size<w1.heap.size by omega)).trans (XB_w1.out o))
 have OB_w2:=Lib.hid (fun o=>(A2.cell (p:=⟨w.heap.size+1,o,none⟩) lt_w1).trans (OB_w1.out o))
 have OF_w2:=Lib.hid (fun o=>(A2.frozen (p:=⟨w.heap.size+1,o,none⟩) lt_w1).trans (OF_w1.out o))
 have Ag:Below w.heap.size w w2:=Below.trans Ae (A2.mono (by omega))
 have lt_w2:w.heap.size+1<w2.heap.size:=Nat.lt_of_lt_of_le lt_w1 le_w2
 have B0:¬w.heap.size=w2.heap.size:=(by omega)
 have Bg:¬w.heap.size+1=w2.heap.size:=(by omega)
 clear XB_w1 OB_w1 OF_w1 Ae Ao Ba lt_w1
 have B1_0_w2:w2.cell? ⟨B1,0,none⟩=some (.int .i64 th0):=by rw[Af];go_simp
 have B1_1_w2:w2.cell? ⟨B1,1,none⟩=some (.int .i64 th1):=by rw[Af];go_simp
 have lt_w2_B1:B1<w2.heap.size:=World.block_lt_of_cell? _ _ B1_0_w2
 have Ap:¬B1=w2.heap.size:=(by omega)
 have sx_B1:¬B1=w.heap.size∧¬B1=w.heap.size+1∧¬w.heap.size=B1∧¬w.heap.size+1=B1:=(by omega)
 obtain⟨sx1_B1,sx2_B1,sx3_B1,sx4_B1⟩:=sx_B1
 clear Af B7 Bk Bl B9 B8 nx1_B1 nx2_B1 vw1 T1 T2
 have x6_w2:w2.cell? ⟨w.heap.size,6,none⟩=some (.int .i64 d0):=(XB_w2.out 6).trans rfl
 have x7_w2:w2.cell? ⟨w.heap.size,7,none⟩=some (.int .i64 d1):=(XB_w2.out 7).trans rfl
 go_wp2_with fail
 refine(T3.out _).mono ?_
 rintro e w3 ⟨rfl,Am⟩
 have A4:Below w2.heap.size w2 w3:=blw
 have le_w3:=A4.size
 have XB_w3:=Lib.hid (fun o=>(A4.cell (p:=⟨w.heap.size,o,none⟩) (show w.heap.size<w2.heap.size by omega)).trans (XB_w2.out o))
 have OB_w3:=Lib.hid (fun o=>(A4.cell (p:=⟨w.heap.size+1,o,none⟩) lt_w2).trans (OB_w2.out o))
 have OF_w3:=Lib.hid (fun o=>(A4.frozen (p:=⟨w.heap.size+1,o,none⟩) lt_w2).trans (OF_w2.out o))
 have Ai:Below w.heap.size w w3:=Below.trans Ag (A4.mono (by omega))
 have lt_w3:w.heap.size+1<w3.heap.size:=Nat.lt_of_lt_of_le lt_w2 le_w3
 have Bb:¬w.heap.size=w3.heap.size:=(by omega)
 have Bm:¬w.heap.size+1=w3.heap.size:=(by omega)
 have lt_w3_B1:B1<w3.heap.size:=Nat.lt_of_lt_of_le lt_w2_B1 le_w3
 have Aq:¬B1=w3.heap.size:=(by omega)
 have B1_0_w3:w3.cell? ⟨B1,0,none⟩=some (.int .i64 th0):=(A4.cell (p:=⟨B1,0,none⟩) lt_w2_B1).trans B1_0_w2
 have B1_1_w3:w3.cell? ⟨B1,1,none⟩=some (.int .i64 th1):=(A4.cell (p:=⟨B1,1,none⟩) lt_w2_B1).trans B1_1_w2
 clear XB_w2 OB_w2 OF_w2 Ag B0 Bg lt_w2 lt_w2_B1 Ap B1_0_w2 B1_1_w2
 clear Am x6_w2 x7_w2 A4 T3
 obtain⟨B2,hB2⟩:∃B2,B2=w3.heap.size:=⟨_,rfl⟩
 have sx_B2:¬B2=w.heap.size∧¬B2=w.heap.size+1∧¬w.heap.size=B2∧¬w.heap.size+1=B2∧¬B2=B1∧¬B1=B2:=(by omega)
 obtain⟨sx1_B2,sx2_B2,sx3_B2,sx4_B2,sx5_B2,sx6_B2⟩:=sx_B2
 have lt_w3_B2:w3.heap.size<w3.heap.size+1:=(by omega)
 repeat (first|(with_reducible refine wp_markr 3 ?_)|go_values|go_skip|go_guarded|go_step|go_upon|(simp only[];go_simp))
 refine wp_named (fun w4 Ac => ?_)
 have A5:Below w3.heap.size w3 w4:=by rw[Ac];exact blw
 have le_w4:=A5.size
 have XB_w4:=Lib.hid (fun o=>(A5.cell (p:=⟨w.heap.size,o,none⟩) (show w.heap.size<w3.heap.size by omega)).trans (XB_w3.out o))
 have OB_w4:=Lib.hid (fun o=>(A5.cell (p:=⟨w.heap.size+1,o,none⟩) lt_w3).trans (OB_w3.out o))
 have OF_w4:=Lib.hid (fun o=>(A5.frozen (p:=⟨w.heap.size+1,o,none⟩) lt_w3).trans (OF_w3.out o))
 have An:Below w.heap.size w w4:=Below.trans Ai (A5.mono (by omega))
 have lt_w4:w.heap.size+1<w4.heap.size:=Nat.lt_of_lt_of_le lt_w3 le_w4
 have Bn:¬w.heap.size=w4.heap.size:=(by omega)
 have Cl:¬w.heap.size+1=w4.heap.size:=(by omega)
 have lt_w4_B1:B1<w4.heap.size:=Nat.lt_of_lt_of_le lt_w3_B1 le_w4
 have Be:¬B1=w4.heap.size:=(by omega)
 have B1_0_w4:w4.cell? ⟨B1,0,none⟩=some (.int .i64 th0):=(A5.cell (p:=⟨B1,0,none⟩) lt_w3_B1).trans B1_0_w3
 have B1_1_w4:w4.cell? ⟨B1,1,none⟩=some (.int .i64 th1):=(A5.cell (p:=⟨B1,1,none⟩) lt_w3_B1).trans B1_1_w3
 clear XB_w3 OB_w3 OF_w3 Ai Bb Bm lt_w3 lt_w3_B1 Aq B1_0_w3 B1_1_w3
 have B2_0_w4:w4.cell? ⟨B2,0,none⟩=some (.int .i64 lo0):=by rw[Ac,hB2];go_simp
 have B2_1_w4:w4.cell? ⟨B2,1,none⟩=some (.int .i64 lo1):=by rw[Ac,hB2];go_simp
 have lt_w4_B2:B2<w4.heap.size:=World.block_lt_of_cell? _ _ B2_0_w4
 have Bf:¬B2=w4.heap.size:=(by omega)
 rw[← hB2]
 clear Ac lt_w3_B2 hB2
 have OB:=fun o=>OB_w4.out o
 have OF:=OF_w4.out
 clear XB_w4 OB_w4 OF_w4
 repeat' (first|go_values|go_skip|go_guarded|go_step|go_upon|(simp only[];go_simp))
 refine bodyPost_ret (ret_sixr _ _ (w.heap.size+1) (.int .i64 0) (.int .i64 0) (.int .i64 0) (.int .i64 0) (.int .i64 0) (.int .i64 0) (.int .i64 24) rfl rfl (by go_simp) (by go_simp) (by go_simp) (by go_simp) (by go_simp) (by go_simp)) rfl ?_
 exact⟨rfl,blw⟩
set_option maxRecDepth 100000 in
set_option maxHeartbeats 16000000 in
theorem rslab_good (s:Slb) (hs:SlbOk s) (c0 c1 f0 f1 i0 i1:Int) (h1:slLo1 s<1048576) (w:World) :
  Calls Tryz.prog 18 #[.agg #[.int .i64 s.a0,.int .i64 s.a1,.int .i64 s.b0,.int .i64 s.b1,.int .i64 c0,.int .i64 c1,.int .i64 s.d0,.int .i64 s.d1,.int .i64 s.e0,.int .i64 s.e1,.int .i64 f0,.int .i64 f1,.int .i64 s.g0,.int .i64 s.g1,.int .i64 s.h0,.int .i64 s.h1,.int .i64 i0,.int .i64 i1,.int .i64 s.n0,.int .i64 s.n1]] w fun e w'=>e = .returned (.tuple #[(slabR s).val,.int .i64 0])∧Below w.heap.size w w':=by
 have lt0:slLo0 s<1048576:=by have:=hs.lo;omega
 have T1:=fun w=>rtimes_any s.n0 s.n1 s.n0 s.n1 hs.n0 hs.n1 hs.n0 hs.n1 w
 have T2:=fun w=>rtimes_any _ _ s.g0 s.g1 (sh_mulD hs.n0 hs.n0) (sh_mulU hs.n1 hs.n1) hs.g0 hs.g1 w
 have T3:=fun w=>rtimes_any s.d0 s.d1 _ _ hs.d0 hs.d1 hs.th0 hs.th1 w
 have T4:=fun w=>rtimes_any s.b0 s.b1 _ _ hs.b0 hs.b1 hs.th0 hs.th1 w
 have T5:=fun w=>rtimes_any _ _ s.e0 s.e1 (sh_mulD hs.b0 hs.th0) (sh_mulU hs.b1 hs.th1) hs.e0 hs.e1 w
 have T6:=fun w=>rtimes_any s.b0 s.b1 s.n0 s.n1 hs.b0 hs.b1 hs.n0 hs.n1 w
 have T7:=fun w=>rtimes_any _ _ s.h0 s.h1 (sh_mulD hs.b0 hs.n0) (sh_mulU hs.b1 hs.n1) hs.h0 hs.h1 w
 have G1:=fun w=>rthrough_any (slBk0 s) (slBk1 s) (slLo0 s) (slLo1 s) hs.bk0 hs.bk1 hs.lo0 hs.lo1 lt0 h1 w
 have G2:=fun w=>rthrough_any (slTt0 s) (slTt1 s) (slLo0 s) (slLo1 s) hs.tt0 hs.tt1 hs.lo0 hs.lo1 lt0 h1 w
 have q0:0≤slQ0 s∧slQ0 s≤1099511627776:=by unfold slQ0;exact geoD_bd hs.bk0 lt0
 have q1:0≤slQ1 s∧slQ1 s≤1099512676351:=by unfold slQ1;exact geoU_bd hs.bk1 h1 hs.lo1.1
 have u0:0≤slU0 s∧slU0 s≤1099511627776:=by unfold slU0;exact geoD_bd hs.tt0 lt0
 have u1:0≤slU1 s∧slU1 s≤1099512676351:=by unfold slU1;exact geoU_bd hs.tt1 h1 hs.lo1.1
 obtain⟨k1,v1,z1⟩:=sl_sum hs.a0 q0.1 (Int.le_trans q0.2 (by decide))
 obtain⟨k2,v2,z2⟩:=sl_sum hs.a1 q1.1 q1.2
 have C1:=fun w=>rcut2_any (s.a0+slQ0 s) (s.a1+slQ1 s) w
 have C2:=fun w=>rcut2_any (slU0 s) (slU1 s) w
 have RS:=fun w=>rrest_any (cutO (s.a0+slQ0 s)) (cutO (s.a1+slQ1 s)) (cutO (slU0 s)) (cutO (slU1 s)) w (cutO_bd z1) (cutO_bd z2) (cutO_bd u0.1) (cutO_bd u1.1)
 unfold slabR Shr.val
 dsimp only
 have e1:geoD (slBk0 s) (slLo0 s)=slQ0 s:=by unfold slQ0;rfl
 have e2:geoU (slBk1 s) (slLo1 s)=slQ1 s:=by unfold slQ1;rfl
 have e3:geoD (slTt0 s) (slLo0 s)=slU0 s:=by unfold slU0;rfl
 have e4:geoU (slTt1 s) (slLo1 s)=slU1 s:=by unfold slU1;rfl
 rw[e1,e2]at G1
 rw[e3,e4]at G2
 have e5:mulD (mulD s.b0 (slTh0 s)) s.e0=slBk0 s:=by unfold slBk0;rfl
 have e6:mulU (mulU s.b1 (slTh1 s)) s.e1=slBk1 s:=by unfold slBk1;rfl
 have e7:mulD (mulD s.b0 s.n0) s.h0=slTt0 s:=by unfold slTt0;rfl
 have e8:mulU (mulU s.b1 s.n1) s.h1=slTt1 s:=by unfold slTt1;rfl
 rw[e5,e6]at T5
 rw[e7,e8]at T7
 have e9:mulD s.d0 (slTh0 s)=slLo0 s:=by unfold slLo0;rfl
 have e10:mulU s.d1 (slTh1 s)=slLo1 s:=by unfold slLo1;rfl
 rw[e9,e10]at T3
 have e11:mulD (mulD s.n0 s.n0) s.g0=slTh0 s:=by unfold slTh0;rfl
 have e12:mulU (mulU s.n1 s.n1) s.g1=slTh1 s:=by unfold slTh1;rfl
 rw[e11,e12]at T2
 clear e1 e2 e3 e4 e5 e6 e7 e8 e9 e10 e11 e12
 generalize pos (1048576-cutO (s.a1+slQ1 s)-cutO (slU1 s))=A0 at *
 generalize pos (1048576-cutO (s.a0+slQ0 s)-cutO (slU0 s))=A1 at *
 generalize cutO (s.a0+slQ0 s)=R0 at *
 generalize cutO (s.a1+slQ1 s)=R1 at *
 generalize cutO (slU0 s)=T0 at *
 generalize cutO (slU1 s)=T1' at *
 have n1:¬1048576≤slLo1 s:=by omega
 generalize mulD s.b0 (slTh0 s)=w0 at *
 generalize mulU s.b1 (slTh1 s)=w1 at *
 generalize slTh0 s=th0 at *
 generalize slTh1 s=th1 at *
 generalize slLo0 s=lo0 at *
 generalize slLo1 s=lo1 at *
 generalize slBk0 s=bk0 at *
 generalize slBk1 s=bk1 at *
 generalize slTt0 s=tt0 at *
 generalize slTt1 s=tt1 at *
 generalize slQ0 s=x0 at *
 generalize slQ1 s=x1 at *
 generalize slU0 s=y0 at *
 generalize slU1 s=y1 at *
 generalize mulD s.n0 s.n0=nn0 at *
 generalize mulU s.n1 s.n1=nn1 at *
 generalize mulD s.b0 s.n0=bn0 at *
 generalize mulU s.b1 s.n1=bn1 at *
 obtain⟨a0,a1,b0,b1,d0,d1,e0,e1,g0,g1,p0,p1,m0,m1⟩:=s
 dsimp only at *
 have T1:=Lib.hid T1
 have T2:=Lib.hid T2
 have T3:=Lib.hid T3
 have T4:=Lib.hid T4
 have T5:=Lib.hid T5
 have T6:=Lib.hid T6
 have T7:=Lib.hid T7
 have G1:=Lib.hid G1
 have G2:=Lib.hid G2
 have C1:=Lib.hid C1
 have C2:=Lib.hid C2
 have RS:=Lib.hid RS
 clear hs lt0 h1 q0 q1 u0 u1 z1 z2
 go_enter Tryz.func18,Tryz.ntmps18
 repeat (first|(with_reducible refine wp_markr 1 ?_)|go_values|go_skip|go_guarded|go_step|go_upon|(simp only[];go_simp))
 refine wp_named (fun w1 A6 => ?_)
 have XB_w1:=Lib.hid (show∀o,w1.cell? ⟨w.heap.size,o,none⟩=([.int .i64 a0,.int .i64 a1,.int .i64 b0,.int .i64 b1,.int .i64 c0,.int .i64 c1,.int .i64 d0,.int .i64 d1,.int .i64 e0,.int .i64 e1,.int .i64 f0,.int .i64 f1,.int .i64 g0,.int .i64 g1,.int .i64 p0,.int .i64 p1,.int .i64 i0,.int .i64 i1,.int .i64 m0,.int .i64 m1]:List Value)[o]? from fun o=>by rw[A6];go_simp)
 have OB_w1:=Lib.hid (show∀o,w1.cell? ⟨w.heap.size+1,o,none⟩=([.int .i64 0,.int .i64 0,.int .i64 0,.int .i64 0,.int .i64 0,.int .i64 0]:List Value)[o]? from fun o=>by rw[A6];go_simp)
 have OF_w1:=Lib.hid (show∀o,w1.frozen? ⟨w.heap.size+1,o,none⟩=false from fun o=>by rw[A6];go_simp)
 have Ae:Below w.heap.size w w1:=by rw[A6];exact blw
 have lt_w1:w.heap.size+1<w1.heap.size:=by rw[A6];first|omega|(simp;done)|(simp;omega)
 have Ao:¬w.heap.size=w1.heap.size:=(by omega)
 have Ba:¬w.heap.size+1=w1.heap.size:=(by omega)
 clear A6
 have x18_w1:w1.cell? ⟨w.heap.size,18,none⟩=some (.int .i64 m0):=(XB_w1.out 18).trans rfl
 have x19_w1:w1.cell? ⟨w.heap.size,19,none⟩=some (.int .i64 m1):=(XB_w1.out 19).trans rfl
 have x12_w1:w1.cell? ⟨w.heap.size,12,none⟩=some (.int .i64 g0):=(XB_w1.out 12).trans rfl
 have x13_w1:w1.cell? ⟨w.heap.size,13,none⟩=some (.int .i64 g1):=(XB_w1.out 13).trans rfl
 refine calm_new 9 #[.int .i64 0,.int .i64 0] 23 _ rfl (by kernel_rfl) (by kernel_rfl) (fun a w=>by kernel_rfl) fun hG => ?_
 have g18:=hG_at hG x18_w1
 have g19:=hG_at hG x19_w1
 have g12:=hG_at hG x12_w1
 have g13:=hG_at hG x13_w1
 clear hG x18_w1 x19_w1 x12_w1 x13_w1
 simp only[List.take_succ_cons,List.take_zero,List.drop_succ_cons,List.drop_zero]
 repeat (refine wpCalm_step (fun K hK => ?_);go_simp;first|(refine hK _ ?_;clear hK K)|(apply Exists.intro;refine⟨fun _ => ?_,hK _ ?_⟩;(first|(go_at_call 67;with_reducible exact cal_call T1.out)|(go_at_call 67;with_reducible exact cal_call T2.out));clear hK K))
 refine wpCalm_nil ?_
 intro B1 vw1 hN
 obtain⟨B7,B9,B8,Bk,Bl⟩:=hN
 clear g18 g19 g12 g13
 have nx_B1:¬B1=w.heap.size∧¬B1=w.heap.size+1:=(by omega)
 obtain⟨nx1_B1,nx2_B1⟩:=nx_B1
 repeat (first|(with_reducible refine wp_markr 2 ?_)|go_values|go_skip|go_guarded|go_step|go_upon|(simp only[];go_simp))
 refine wp_named (fun w2 Af => ?_)
 have A2:Below w1.heap.size w1 w2:=by rw[Af];exact blw
 have le_w2:=A2.size
 have XB_w2:=Lib.hid (fun o=>(A2.cell (p:=⟨w.heap.size,o,none⟩) (show w.heap.size<w1.heap.size by omega)).trans (XB_w1.out o))
 have OB_w2:=Lib.hid (fun o=>(A2.cell (p:=⟨w.heap.size+1,o,none⟩) lt_w1).trans (OB_w1.out o))
 have OF_w2:=Lib.hid (fun o=>(A2.frozen (p:=⟨w.heap.size+1,o,none⟩) lt_w1).trans (OF_w1.out o))
 have Ag:Below w.heap.size w w2:=Below.trans Ae (A2.mono (by omega))
 have lt_w2:w.heap.size+1<w2.heap.size:=Nat.lt_of_lt_of_le lt_w1 le_w2
 have B0:¬w.heap.size=w2.heap.size:=(by omega)
 have Bg:¬w.heap.size+1=w2.heap.size:=(by omega)
 clear XB_w1 OB_w1 OF_w1 Ae Ao Ba lt_w1
 have B1_0_w2:w2.cell? ⟨B1,0,none⟩=some (.int .i64 th0):=by rw[Af];go_simp
 have B1_1_w2:w2.cell? ⟨B1,1,none⟩=some (.int .i64 th1):=by rw[Af];go_simp
 have lt_w2_B1:B1<w2.heap.size:=World.block_lt_of_cell? _ _ B1_0_w2
 have Ap:¬B1=w2.heap.size:=(by omega)
 have sx_B1:¬B1=w.heap.size∧¬B1=w.heap.size+1∧¬w.heap.size=B1∧¬w.heap.size+1=B1:=(by omega)
 obtain⟨sx1_B1,sx2_B1,sx3_B1,sx4_B1⟩:=sx_B1
 clear Af B7 Bk Bl B9 B8 nx1_B1 nx2_B1 vw1 T1 T2
 have x6_w2:w2.cell? ⟨w.heap.size,6,none⟩=some (.int .i64 d0):=(XB_w2.out 6).trans rfl
 have x7_w2:w2.cell? ⟨w.heap.size,7,none⟩=some (.int .i64 d1):=(XB_w2.out 7).trans rfl
 go_wp2_with fail
 refine(T3.out _).mono ?_
 rintro e w3 ⟨rfl,Am⟩
 have A4:Below w2.heap.size w2 w3:=blw
 have le_w3:=A4.size
 have XB_w3:=Lib.hid (fun o=>(A4.cell (p:=⟨w.heap.size,o,none⟩) (show w.heap.size<w2.heap.size by omega)).trans (XB_w2.out o))
 have OB_w3:=Lib.hid (fun o=>(A4.cell (p:=⟨w.heap.size+1,o,none⟩) lt_w2).trans (OB_w2.out o))
 have OF_w3:=Lib.hid (fun o=>(A4.frozen (p:=⟨w.heap.size+1,o,none⟩) lt_w2).trans (OF_w2.out o))
 have Ai:Below w.heap.size w w3:=Below.trans Ag (A4.mono (by omega))
 have lt_w3:w.heap.size+1<w3.heap.size:=Nat.lt_of_lt_of_le lt_w2 le_w3
 have Bb:¬w.heap.size=w3.heap.size:=(by omega)
 have Bm:¬w.heap.size+1=w3.heap.size:=(by omega)
 have lt_w3_B1:B1<w3.heap.size:=Nat.lt_of_lt_of_le lt_w2_B1 le_w3
 have Aq:¬B1=w3.heap.size:=(by omega)
 have B1_0_w3:w3.cell? ⟨B1,0,none⟩=some (.int .i64 th0):=(A4.cell (p:=⟨B1,0,none⟩) lt_w2_B1).trans B1_0_w2
 have B1_1_w3:w3.cell? ⟨B1,1,none⟩=some (.int .i64 th1):=(A4.cell (p:=⟨B1,1,none⟩) lt_w2_B1).trans B1_1_w2
 clear XB_w2 OB_w2 OF_w2 Ag B0 Bg lt_w2 lt_w2_B1 Ap B1_0_w2 B1_1_w2
 clear Am x6_w2 x7_w2 A4 T3
 obtain⟨B2,hB2⟩:∃B2,B2=w3.heap.size:=⟨_,rfl⟩
 have sx_B2:¬B2=w.heap.size∧¬B2=w.heap.size+1∧¬w.heap.size=B2∧¬w.heap.size+1=B2∧¬B2=B1∧¬B1=B2:=(by omega)
 obtain⟨sx1_B2,sx2_B2,sx3_B2,sx4_B2,sx5_B2,sx6_B2⟩:=sx_B2
 have lt_w3_B2:w3.heap.size<w3.heap.size+1:=(by omega)
 repeat (first|(with_reducible refine wp_markr 3 ?_)|go_values|go_skip|go_guarded|go_step|go_upon|(simp only[];go_simp))
 refine wp_named (fun w4 Ac => ?_)
 have A5:Below w3.heap.size w3 w4:=by rw[Ac];exact blw
 have le_w4:=A5.size
 have XB_w4:=Lib.hid (fun o=>(A5.cell (p:=⟨w.heap.size,o,none⟩) (show w.heap.size<w3.heap.size by omega)).trans (XB_w3.out o))
 have OB_w4:=Lib.hid (fun o=>(A5.cell (p:=⟨w.heap.size+1,o,none⟩) lt_w3).trans (OB_w3.out o))
 have OF_w4:=Lib.hid (fun o=>(A5.frozen (p:=⟨w.heap.size+1,o,none⟩) lt_w3).trans (OF_w3.out o))
 have An:Below w.heap.size w w4:=Below.trans Ai (A5.mono (by omega))
 have lt_w4:w.heap.size+1<w4.heap.size:=Nat.lt_of_lt_of_le lt_w3 le_w4
 have Bn:¬w.heap.size=w4.heap.size:=(by omega)
 have Cl:¬w.heap.size+1=w4.heap.size:=(by omega)
 have lt_w4_B1:B1<w4.heap.size:=Nat.lt_of_lt_of_le lt_w3_B1 le_w4
 have Be:¬B1=w4.heap.size:=(by omega)
 have B1_0_w4:w4.cell? ⟨B1,0,none⟩=some (.int .i64 th0):=(A5.cell (p:=⟨B1,0,none⟩) lt_w3_B1).trans B1_0_w3
 have B1_1_w4:w4.cell? ⟨B1,1,none⟩=some (.int .i64 th1):=(A5.cell (p:=⟨B1,1,none⟩) lt_w3_B1).trans B1_1_w3
 clear XB_w3 OB_w3 OF_w3 Ai Bb Bm lt_w3 lt_w3_B1 Aq B1_0_w3 B1_1_w3
 have B2_0_w4:w4.cell? ⟨B2,0,none⟩=some (.int .i64 lo0):=by rw[Ac,hB2];go_simp
 have B2_1_w4:w4.cell? ⟨B2,1,none⟩=some (.int .i64 lo1):=by rw[Ac,hB2];go_simp
 have lt_w4_B2:B2<w4.heap.size:=World.block_lt_of_cell? _ _ B2_0_w4
 have Bf:¬B2=w4.heap.size:=(by omega)
 rw[← hB2]
 clear Ac lt_w3_B2 hB2
 repeat (first|(with_reducible refine wp_markr 5 ?_)|go_values|go_skip|go_guarded|go_step|go_upon|(simp only[];go_simp))
 refine wp_named (fun w5 Cd => ?_)
 have Aa:Below w4.heap.size w4 w5:=by rw[Cd];exact blw
 have le_w5:=Aa.size
 have XB_w5:=Lib.hid (fun o=>(Aa.cell (p:=⟨w.heap.size,o,none⟩) (show w.heap.size<w4.heap.size by omega)).trans (XB_w4.out o))
 have OB_w5:=Lib.hid (fun o=>(Aa.cell (p:=⟨w.heap.size+1,o,none⟩) lt_w4).trans (OB_w4.out o))
 have OF_w5:=Lib.hid (fun o=>(Aa.frozen (p:=⟨w.heap.size+1,o,none⟩) lt_w4).trans (OF_w4.out o))
 have Aw:Below w.heap.size w w5:=Below.trans An (Aa.mono (by omega))
 have lt_w5:w.heap.size+1<w5.heap.size:=Nat.lt_of_lt_of_le lt_w4 le_w5
 have Cm:¬w.heap.size=w5.heap.size:=(by omega)
 have D2:¬w.heap.size+1=w5.heap.size:=(by omega)
 have lt_w5_B1:B1<w5.heap.size:=Nat.lt_of_lt_of_le lt_w4_B1 le_w5
 have Bp:¬B1=w5.heap.size:=(by omega)
 have B1_0_w5:w5.cell? ⟨B1,0,none⟩=some (.int .i64 th0):=(Aa.cell (p:=⟨B1,0,none⟩) lt_w4_B1).trans B1_0_w4
 have B1_1_w5:w5.cell? ⟨B1,1,none⟩=some (.int .i64 th1):=(Aa.cell (p:=⟨B1,1,none⟩) lt_w4_B1).trans B1_1_w4
 have lt_w5_B2:B2<w5.heap.size:=Nat.lt_of_lt_of_le lt_w4_B2 le_w5
 have Bq:¬B2=w5.heap.size:=(by omega)
 have B2_0_w5:w5.cell? ⟨B2,0,none⟩=some (.int .i64 lo0):=(Aa.cell (p:=⟨B2,0,none⟩) lt_w4_B2).trans B2_0_w4
 have B2_1_w5:w5.cell? ⟨B2,1,none⟩=some (.int .i64 lo1):=(Aa.cell (p:=⟨B2,1,none⟩) lt_w4_B2).trans B2_1_w4
 clear XB_w4 OB_w4 OF_w4 An Bn Cl lt_w4 lt_w4_B1 Be B1_0_w4 B1_1_w4 lt_w4_B2 Bf B2_0_w4 B2_1_w4
 clear Cd
 have x2_w5:w5.cell? ⟨w.heap.size,2,none⟩=some (.int .i64 b0):=(XB_w5.out 2).trans rfl
 have x3_w5:w5.cell? ⟨w.heap.size,3,none⟩=some (.int .i64 b1):=(XB_w5.out 3).trans rfl
 have x8_w5:w5.cell? ⟨w.heap.size,8,none⟩=some (.int .i64 e0):=(XB_w5.out 8).trans rfl
 have x9_w5:w5.cell? ⟨w.heap.size,9,none⟩=some (.int .i64 e1):=(XB_w5.out 9).trans rfl
 refine calm_new 11 #[.int .i64 0,.int .i64 0] 23 _ rfl (by kernel_rfl) (by kernel_rfl) (fun a w=>by kernel_rfl) fun hG => ?_
 have g2:=hG_at hG x2_w5
 have g3:=hG_at hG x3_w5
 have g8:=hG_at hG x8_w5
 have g9:=hG_at hG x9_w5
 have gB1_0:=hG_at hG B1_0_w5
 have gB1_1:=hG_at hG B1_1_w5
 have gB2_0:=hG_at hG B2_0_w5
 have gB2_1:=hG_at hG B2_1_w5
 clear hG x2_w5 x3_w5 x8_w5 x9_w5
 simp only[List.take_succ_cons,List.take_zero,List.drop_succ_cons,List.drop_zero]
 repeat (refine wpCalm_step (fun K hK => ?_);go_simp;first|(refine hK _ ?_;clear hK K)|(apply Exists.intro;refine⟨fun _ => ?_,hK _ ?_⟩;(first|(go_at_call 67;with_reducible exact cal_call T4.out)|(go_at_call 67;with_reducible exact cal_call T5.out)|(go_at_call 68;with_reducible exact cal_call G1.out));clear hK K))
 refine wpCalm_nil ?_
 intro B3 vw5 hN
 obtain⟨Ce,Ci,Cg,Cr,Ct⟩:=hN
 clear g2 g3 g8 g9 gB1_0 gB1_1 gB2_0 gB2_1
 have nx_B3:¬B3=w.heap.size∧¬B3=w.heap.size+1:=(by omega)
 obtain⟨nx1_B3,nx2_B3⟩:=nx_B3
 have sy_B3_B1:¬B3=B1∧¬B1=B3:=(by omega)
 obtain⟨sy1_B3_B1,sy2_B3_B1⟩:=sy_B3_B1
 have sy_B3_B2:¬B3=B2∧¬B2=B3:=(by omega)
 obtain⟨sy1_B3_B2,sy2_B3_B2⟩:=sy_B3_B2
 repeat (first|(with_reducible refine wp_markr 6 ?_)|go_values|go_skip|go_guarded|go_step|go_upon|(simp only[];go_simp))
 refine wp_named (fun w6 Ak => ?_)
 have Ab:Below w5.heap.size w5 w6:=by rw[Ak];exact blw
 have le_w6:=Ab.size
 have XB_w6:=Lib.hid (fun o=>(Ab.cell (p:=⟨w.heap.size,o,none⟩) (show w.heap.size<w5.heap.size by omega)).trans (XB_w5.out o))
 have OB_w6:=Lib.hid (fun o=>(Ab.cell (p:=⟨w.heap.size+1,o,none⟩) lt_w5).trans (OB_w5.out o))
 have OF_w6:=Lib.hid (fun o=>(Ab.frozen (p:=⟨w.heap.size+1,o,none⟩) lt_w5).trans (OF_w5.out o))
 have Ax:Below w.heap.size w w6:=Below.trans Aw (Ab.mono (by omega))
 have lt_w6:w.heap.size+1<w6.heap.size:=Nat.lt_of_lt_of_le lt_w5 le_w6
 have Cn:¬w.heap.size=w6.heap.size:=(by omega)
 have D3:¬w.heap.size+1=w6.heap.size:=(by omega)
 have lt_w6_B1:B1<w6.heap.size:=Nat.lt_of_lt_of_le lt_w5_B1 le_w6
 have Bs:¬B1=w6.heap.size:=(by omega)
 have B1_0_w6:w6.cell? ⟨B1,0,none⟩=some (.int .i64 th0):=(Ab.cell (p:=⟨B1,0,none⟩) lt_w5_B1).trans B1_0_w5
 have B1_1_w6:w6.cell? ⟨B1,1,none⟩=some (.int .i64 th1):=(Ab.cell (p:=⟨B1,1,none⟩) lt_w5_B1).trans B1_1_w5
 have lt_w6_B2:B2<w6.heap.size:=Nat.lt_of_lt_of_le lt_w5_B2 le_w6
 have Bt:¬B2=w6.heap.size:=(by omega)
 have B2_0_w6:w6.cell? ⟨B2,0,none⟩=some (.int .i64 lo0):=(Ab.cell (p:=⟨B2,0,none⟩) lt_w5_B2).trans B2_0_w5
 have B2_1_w6:w6.cell? ⟨B2,1,none⟩=some (.int .i64 lo1):=(Ab.cell (p:=⟨B2,1,none⟩) lt_w5_B2).trans B2_1_w5
 clear XB_w5 OB_w5 OF_w5 Aw Cm D2 lt_w5 lt_w5_B1 Bp B1_0_w5 B1_1_w5 lt_w5_B2 Bq B2_0_w5 B2_1_w5
 have B3_0_w6:w6.cell? ⟨B3,0,none⟩=some (.int .i64 x0):=by rw[Ak];go_simp
 have B3_1_w6:w6.cell? ⟨B3,1,none⟩=some (.int .i64 x1):=by rw[Ak];go_simp
 have lt_w6_B3:B3<w6.heap.size:=World.block_lt_of_cell? _ _ B3_0_w6
 have Ar:¬B3=w6.heap.size:=(by omega)
 have sx_B3:¬B3=w.heap.size∧¬B3=w.heap.size+1∧¬w.heap.size=B3∧¬w.heap.size+1=B3:=(by omega)
 obtain⟨sx1_B3,sx2_B3,sx3_B3,sx4_B3⟩:=sx_B3
 clear Ak Ce Cr Ct Ci Cg nx1_B3 nx2_B3 vw5 T4 T5 G1
 have x0_w6:w6.cell? ⟨w.heap.size,0,none⟩=some (.int .i64 a0):=(XB_w6.out 0).trans rfl
 have x1_w6:w6.cell? ⟨w.heap.size,1,none⟩=some (.int .i64 a1):=(XB_w6.out 1).trans rfl
 go_wp2_with fail
 refine(C1.out _).mono ?_
 rintro e w7 ⟨rfl,Bj⟩
 have A8:Below w6.heap.size w6 w7:=blw
 have le_w7:=A8.size
 have XB_w7:=Lib.hid (fun o=>(A8.cell (p:=⟨w.heap.size,o,none⟩) (show w.heap.size<w6.heap.size by omega)).trans (XB_w6.out o))
 have OB_w7:=Lib.hid (fun o=>(A8.cell (p:=⟨w.heap.size+1,o,none⟩) lt_w6).trans (OB_w6.out o))
 have OF_w7:=Lib.hid (fun o=>(A8.frozen (p:=⟨w.heap.size+1,o,none⟩) lt_w6).trans (OF_w6.out o))
 have Ay:Below w.heap.size w w7:=Below.trans Ax (A8.mono (by omega))
 have lt_w7:w.heap.size+1<w7.heap.size:=Nat.lt_of_lt_of_le lt_w6 le_w7
 have Co:¬w.heap.size=w7.heap.size:=(by omega)
 have D4:¬w.heap.size+1=w7.heap.size:=(by omega)
 have lt_w7_B1:B1<w7.heap.size:=Nat.lt_of_lt_of_le lt_w6_B1 le_w7
 have Bu:¬B1=w7.heap.size:=(by omega)
 have B1_0_w7:w7.cell? ⟨B1,0,none⟩=some (.int .i64 th0):=(A8.cell (p:=⟨B1,0,none⟩) lt_w6_B1).trans B1_0_w6
 have B1_1_w7:w7.cell? ⟨B1,1,none⟩=some (.int .i64 th1):=(A8.cell (p:=⟨B1,1,none⟩) lt_w6_B1).trans B1_1_w6
 have lt_w7_B2:B2<w7.heap.size:=Nat.lt_of_lt_of_le lt_w6_B2 le_w7
 have Bv:¬B2=w7.heap.size:=(by omega)
 have B2_0_w7:w7.cell? ⟨B2,0,none⟩=some (.int .i64 lo0):=(A8.cell (p:=⟨B2,0,none⟩) lt_w6_B2).trans B2_0_w6
 have B2_1_w7:w7.cell? ⟨B2,1,none⟩=some (.int .i64 lo1):=(A8.cell (p:=⟨B2,1,none⟩) lt_w6_B2).trans B2_1_w6
 have lt_w7_B3:B3<w7.heap.size:=Nat.lt_of_lt_of_le lt_w6_B3 le_w7
 have As:¬B3=w7.heap.size:=(by omega)
 have B3_0_w7:w7.cell? ⟨B3,0,none⟩=some (.int .i64 x0):=(A8.cell (p:=⟨B3,0,none⟩) lt_w6_B3).trans B3_0_w6
 have B3_1_w7:w7.cell? ⟨B3,1,none⟩=some (.int .i64 x1):=(A8.cell (p:=⟨B3,1,none⟩) lt_w6_B3).trans B3_1_w6
 clear XB_w6 OB_w6 OF_w6 Ax Cn D3 lt_w6 lt_w6_B1 Bs B1_0_w6 B1_1_w6 lt_w6_B2 Bt B2_0_w6 B2_1_w6 lt_w6_B3 Ar B3_0_w6 B3_1_w6
 clear Bj x0_w6 x1_w6 A8 C1
 obtain⟨B4,hB4⟩:∃B4,B4=w7.heap.size:=⟨_,rfl⟩
 have sx_B4:¬B4=w.heap.size∧¬B4=w.heap.size+1∧¬w.heap.size=B4∧¬w.heap.size+1=B4:=(by omega)
 obtain⟨sx1_B4,sx2_B4,sx3_B4,sx4_B4⟩:=sx_B4
 repeat (first|(with_reducible refine wp_markr 7 ?_)|go_values|go_skip|go_guarded|go_step|go_upon|(simp only[];go_simp))
 refine wp_named (fun w8 Ad => ?_)
 have A9:Below w7.heap.size w7 w8:=by rw[Ad];exact blw
 have le_w8:=A9.size
 have XB_w8:=Lib.hid (fun o=>(A9.cell (p:=⟨w.heap.size,o,none⟩) (show w.heap.size<w7.heap.size by omega)).trans (XB_w7.out o))
 have OB_w8:=Lib.hid (fun o=>(A9.cell (p:=⟨w.heap.size+1,o,none⟩) lt_w7).trans (OB_w7.out o))
 have OF_w8:=Lib.hid (fun o=>(A9.frozen (p:=⟨w.heap.size+1,o,none⟩) lt_w7).trans (OF_w7.out o))
 have Az:Below w.heap.size w w8:=Below.trans Ay (A9.mono (by omega))
 have lt_w8:w.heap.size+1<w8.heap.size:=Nat.lt_of_lt_of_le lt_w7 le_w8
 have Cp:¬w.heap.size=w8.heap.size:=(by omega)
 have D5:¬w.heap.size+1=w8.heap.size:=(by omega)
 have lt_w8_B1:B1<w8.heap.size:=Nat.lt_of_lt_of_le lt_w7_B1 le_w8
 have Bw:¬B1=w8.heap.size:=(by omega)
 have B1_0_w8:w8.cell? ⟨B1,0,none⟩=some (.int .i64 th0):=(A9.cell (p:=⟨B1,0,none⟩) lt_w7_B1).trans B1_0_w7
 have B1_1_w8:w8.cell? ⟨B1,1,none⟩=some (.int .i64 th1):=(A9.cell (p:=⟨B1,1,none⟩) lt_w7_B1).trans B1_1_w7
 have lt_w8_B2:B2<w8.heap.size:=Nat.lt_of_lt_of_le lt_w7_B2 le_w8
 have Bx:¬B2=w8.heap.size:=(by omega)
 have B2_0_w8:w8.cell? ⟨B2,0,none⟩=some (.int .i64 lo0):=(A9.cell (p:=⟨B2,0,none⟩) lt_w7_B2).trans B2_0_w7
 have B2_1_w8:w8.cell? ⟨B2,1,none⟩=some (.int .i64 lo1):=(A9.cell (p:=⟨B2,1,none⟩) lt_w7_B2).trans B2_1_w7
 have lt_w8_B3:B3<w8.heap.size:=Nat.lt_of_lt_of_le lt_w7_B3 le_w8
 have At:¬B3=w8.heap.size:=(by omega)
 have B3_0_w8:w8.cell? ⟨B3,0,none⟩=some (.int .i64 x0):=(A9.cell (p:=⟨B3,0,none⟩) lt_w7_B3).trans B3_0_w7
 have B3_1_w8:w8.cell? ⟨B3,1,none⟩=some (.int .i64 x1):=(A9.cell (p:=⟨B3,1,none⟩) lt_w7_B3).trans B3_1_w7
 clear XB_w7 OB_w7 OF_w7 Ay Co D4 lt_w7 lt_w7_B1 Bu B1_0_w7 B1_1_w7 lt_w7_B2 Bv B2_0_w7 B2_1_w7 lt_w7_B3 As B3_0_w7 B3_1_w7
 have B4_0_w8:w8.cell? ⟨B4,0,none⟩=some (.int .i64 R0):=by rw[Ad,hB4];go_simp
 have B4_1_w8:w8.cell? ⟨B4,1,none⟩=some (.int .i64 R1):=by rw[Ad,hB4];go_simp
 have lt_w8_B4:B4<w8.heap.size:=World.block_lt_of_cell? _ _ B4_0_w8
 have By:¬B4=w8.heap.size:=(by omega)
 rw[← hB4]
 clear Ad hB4
 have x2_w8:w8.cell? ⟨w.heap.size,2,none⟩=some (.int .i64 b0):=(XB_w8.out 2).trans rfl
 have x3_w8:w8.cell? ⟨w.heap.size,3,none⟩=some (.int .i64 b1):=(XB_w8.out 3).trans rfl
 have x18_w8:w8.cell? ⟨w.heap.size,18,none⟩=some (.int .i64 m0):=(XB_w8.out 18).trans rfl
 have x19_w8:w8.cell? ⟨w.heap.size,19,none⟩=some (.int .i64 m1):=(XB_w8.out 19).trans rfl
 have x14_w8:w8.cell? ⟨w.heap.size,14,none⟩=some (.int .i64 p0):=(XB_w8.out 14).trans rfl
 have x15_w8:w8.cell? ⟨w.heap.size,15,none⟩=some (.int .i64 p1):=(XB_w8.out 15).trans rfl
 refine calm_new 13 #[.int .i64 0,.int .i64 0] 23 _ rfl (by kernel_rfl) (by kernel_rfl) (fun a w=>by kernel_rfl) fun hG => ?_
 have g2:=hG_at hG x2_w8
 have g3:=hG_at hG x3_w8
 have g18:=hG_at hG x18_w8
 have g19:=hG_at hG x19_w8
 have g14:=hG_at hG x14_w8
 have g15:=hG_at hG x15_w8
 have gB2_0:=hG_at hG B2_0_w8
 have gB2_1:=hG_at hG B2_1_w8
 clear hG x2_w8 x3_w8 x18_w8 x19_w8 x14_w8 x15_w8
 simp only[List.take_succ_cons,List.take_zero,List.drop_succ_cons,List.drop_zero]
 repeat (refine wpCalm_step (fun K hK => ?_);go_simp;first|(refine hK _ ?_;clear hK K)|(apply Exists.intro;refine⟨fun _ => ?_,hK _ ?_⟩;(first|(go_at_call 67;with_reducible exact cal_call T6.out)|(go_at_call 67;with_reducible exact cal_call T7.out)|(go_at_call 68;with_reducible exact cal_call G2.out)|(go_at_call 57;with_reducible exact cal_call C2.out));clear hK K))
 refine wpCalm_nil ?_
 intro B5 vw8 hN
 obtain⟨Cf,Cj,Ch,Cs,Cu⟩:=hN
 clear g2 g3 g18 g19 g14 g15 gB2_0 gB2_1
 have nx_B5:¬B5=w.heap.size∧¬B5=w.heap.size+1:=(by omega)
 obtain⟨nx1_B5,nx2_B5⟩:=nx_B5
 have sy_B5_B1:¬B5=B1∧¬B1=B5:=(by omega)
 obtain⟨sy1_B5_B1,sy2_B5_B1⟩:=sy_B5_B1
 have sy_B5_B2:¬B5=B2∧¬B2=B5:=(by omega)
 obtain⟨sy1_B5_B2,sy2_B5_B2⟩:=sy_B5_B2
 have sy_B5_B3:¬B5=B3∧¬B3=B5:=(by omega)
 obtain⟨sy1_B5_B3,sy2_B5_B3⟩:=sy_B5_B3
 have sy_B5_B4:¬B5=B4∧¬B4=B5:=(by omega)
 obtain⟨sy1_B5_B4,sy2_B5_B4⟩:=sy_B5_B4
 repeat (first|(with_reducible refine wp_markr 8 ?_)|go_values|go_skip|go_guarded|go_step|go_upon|(simp only[];go_simp))
 refine wp_named (fun w9 Al => ?_)
 have A3:Below w8.heap.size w8 w9:=by rw[Al];exact blw
 have le_w9:=A3.size
 have XB_w9:=Lib.hid (fun o=>(A3.cell (p:=⟨w.heap.size,o,none⟩) (show w.heap.size<w8.heap.size by omega)).trans (XB_w8.out o))
 have OB_w9:=Lib.hid (fun o=>(A3.cell (p:=⟨w.heap.size+1,o,none⟩) lt_w8).trans (OB_w8.out o))
 have OF_w9:=Lib.hid (fun o=>(A3.frozen (p:=⟨w.heap.size+1,o,none⟩) lt_w8).trans (OF_w8.out o))
 have Bd:Below w.heap.size w w9:=Below.trans Az (A3.mono (by omega))
 have lt_w9:w.heap.size+1<w9.heap.size:=Nat.lt_of_lt_of_le lt_w8 le_w9
 have Cx:¬w.heap.size=w9.heap.size:=(by omega)
 have D9:¬w.heap.size+1=w9.heap.size:=(by omega)
 have lt_w9_B1:B1<w9.heap.size:=Nat.lt_of_lt_of_le lt_w8_B1 le_w9
 have Ca:¬B1=w9.heap.size:=(by omega)
 have B1_0_w9:w9.cell? ⟨B1,0,none⟩=some (.int .i64 th0):=(A3.cell (p:=⟨B1,0,none⟩) lt_w8_B1).trans B1_0_w8
 have B1_1_w9:w9.cell? ⟨B1,1,none⟩=some (.int .i64 th1):=(A3.cell (p:=⟨B1,1,none⟩) lt_w8_B1).trans B1_1_w8
 have lt_w9_B2:B2<w9.heap.size:=Nat.lt_of_lt_of_le lt_w8_B2 le_w9
 have Cb:¬B2=w9.heap.size:=(by omega)
 have B2_0_w9:w9.cell? ⟨B2,0,none⟩=some (.int .i64 lo0):=(A3.cell (p:=⟨B2,0,none⟩) lt_w8_B2).trans B2_0_w8
 have B2_1_w9:w9.cell? ⟨B2,1,none⟩=some (.int .i64 lo1):=(A3.cell (p:=⟨B2,1,none⟩) lt_w8_B2).trans B2_1_w8
 have lt_w9_B3:B3<w9.heap.size:=Nat.lt_of_lt_of_le lt_w8_B3 le_w9
 have Au:¬B3=w9.heap.size:=(by omega)
 have B3_0_w9:w9.cell? ⟨B3,0,none⟩=some (.int .i64 x0):=(A3.cell (p:=⟨B3,0,none⟩) lt_w8_B3).trans B3_0_w8
 have B3_1_w9:w9.cell? ⟨B3,1,none⟩=some (.int .i64 x1):=(A3.cell (p:=⟨B3,1,none⟩) lt_w8_B3).trans B3_1_w8
 have lt_w9_B4:B4<w9.heap.size:=Nat.lt_of_lt_of_le lt_w8_B4 le_w9
 have Cz:¬B4=w9.heap.size:=(by omega)
 have B4_0_w9:w9.cell? ⟨B4,0,none⟩=some (.int .i64 R0):=(A3.cell (p:=⟨B4,0,none⟩) lt_w8_B4).trans B4_0_w8
 have B4_1_w9:w9.cell? ⟨B4,1,none⟩=some (.int .i64 R1):=(A3.cell (p:=⟨B4,1,none⟩) lt_w8_B4).trans B4_1_w8
 clear XB_w8 OB_w8 OF_w8 Az Cp D5 lt_w8 lt_w8_B1 Bw B1_0_w8 B1_1_w8 lt_w8_B2 Bx B2_0_w8 B2_1_w8 lt_w8_B3 At B3_0_w8 B3_1_w8 lt_w8_B4 By B4_0_w8 B4_1_w8
 (try clear lt_w9_B1 Ca B1_0_w9 B1_1_w9 lt_w9_B2 Cb B2_0_w9 B2_1_w9 lt_w9_B3 Au B3_0_w9 B3_1_w9)
 have B5_0_w9:w9.cell? ⟨B5,0,none⟩=some (.int .i64 T0):=by rw[Al];go_simp
 have B5_1_w9:w9.cell? ⟨B5,1,none⟩=some (.int .i64 T1'):=by rw[Al];go_simp
 have lt_w9_B5:B5<w9.heap.size:=World.block_lt_of_cell? _ _ B5_0_w9
 have D0:¬B5=w9.heap.size:=(by omega)
 have sx_B5:¬B5=w.heap.size∧¬B5=w.heap.size+1∧¬w.heap.size=B5∧¬w.heap.size+1=B5:=(by omega)
 obtain⟨sx1_B5,sx2_B5,sx3_B5,sx4_B5⟩:=sx_B5
 clear Al Cf Cs Cu Cj Ch nx1_B5 nx2_B5 vw8 T6 T7 G2 C2
 refine calm 6 (by kernel_rfl) (by kernel_rfl) fun hG => ?_
 have gB4_0:=hG_at hG B4_0_w9
 have gB4_1:=hG_at hG B4_1_w9
 have gB5_0:=hG_at hG B5_0_w9
 have gB5_1:=hG_at hG B5_1_w9
 clear hG
 simp only[List.take_succ_cons,List.take_zero,List.drop_succ_cons,List.drop_zero]
 repeat (go_big_quiet_step (first|(go_at_call 61;with_reducible exact calm_call RS.out)))
 refine wpQuiet_nil ?_
 intro w10 Aj
 clear gB4_0 gB4_1 gB5_0 gB5_1 RS
 have OB:∀o,w10.cell? ⟨w.heap.size+1,o,none⟩=([.int .i64 0,.int .i64 0,.int .i64 0,.int .i64 0,.int .i64 0,.int .i64 0]:List Value)[o]?:=fun o=>(Aj.cell (p:=⟨w.heap.size+1,o,none⟩) lt_w9).trans (OB_w9.out o)
 have OF:∀o,w10.frozen? ⟨w.heap.size+1,o,none⟩=false:=fun o=>(Aj.frozen (p:=⟨w.heap.size+1,o,none⟩) lt_w9).trans (OF_w9.out o)
 have hv10:Below w.heap.size w w10:=Below.trans Bd (Aj.mono (by omega))
 clear XB_w9 OB_w9 OF_w9 Aj
 repeat' (first|go_values|go_skip|go_guarded|go_step|go_upon|(simp only[];go_simp))
 refine bodyPost_ret (ret_sixr _ _ (w.heap.size+1) (.int .i64 R0) (.int .i64 R1) (.int .i64 T0) (.int .i64 T1') (.int .i64 A0) (.int .i64 A1) (.int .i64 0) rfl rfl (by go_simp) (by go_simp) (by go_simp) (by go_simp) (by go_simp) (by go_simp)) rfl ?_
 exact⟨rfl,blw⟩
end Go.Proofs.YticobgianbecpaaGreatDoor
namespace Go.Proofs.YticobgianbecpaaGreatDoor
open Go Go.Sort Go.RowKit Go.Shelf
theorem inR_share (n:Int):(decide (0≤n)&&decide (n≤1048576))=decide (0≤n∧n≤1048576):=by
 by_cases h1:0≤n<;>by_cases h2:n≤1048576<;>simp[h1,h2]
theorem both_share (a b:Int) (w:World):Calls Tryz.prog 113 #[.agg #[.int .i64 a,.int .i64 b],.int .i64 0,.int .i64 1048576] w fun e w'=>e = .returned (.bool (decide ((0≤a∧a≤1048576)∧(0≤b∧b≤1048576))))∧Below w.heap.size w w':=by
 have e:(inR a 0 1048576&&inR b 0 1048576)=decide ((0≤a∧a≤1048576)∧(0≤b∧b≤1048576)):=by unfold inR;simp only[Bool.decide_and]
 rw[← e]
 exact both3_any a b 0 1048576 w
set_option maxHeartbeats 2000000 in
theorem shareErr_any (a b:Int) (w:World):Calls Tryz.prog 64 #[.agg #[.int .i64 a,.int .i64 b]] w fun e w'=>e = .returned (.int .i64 (shE a b))∧Below w.heap.size w w':=by
 have CB:=fun w=>both_share a b w
 unfold shE
 by_cases h1:(0≤a∧a≤1048576)∧(0≤b∧b≤1048576)
 ·rw[if_pos h1]
  rw[decide_eq_true h1]at CB
  have CB:=Lib.hid CB
  clear h1
  by_cases h3:b<a
  ·rw[if_pos h3]
   go_enter Tryz.func64,Tryz.ntmps64
   go_wp2_with fail
   refine(CB.out _).mono ?_
   rintro e w1 ⟨rfl,Ah⟩
   have Av:=Ah.size
   (try simp at Av)
   have Ck:=bl5 Ah (w.heap.size)
   go_wp2
   go_ret
   exact⟨rfl,blw⟩
  ·rw[if_neg h3]
   go_enter Tryz.func64,Tryz.ntmps64
   go_wp2_with fail
   refine(CB.out _).mono ?_
   rintro e w1 ⟨rfl,Ah⟩
   have Av:=Ah.size
   (try simp at Av)
   have Ck:=bl5 Ah (w.heap.size)
   go_wp2
   go_ret
   exact⟨rfl,blw⟩
 ·rw[if_neg h1]
  rw[decide_eq_false h1]at CB
  have CB:=Lib.hid CB
  clear h1
  go_enter Tryz.func64,Tryz.ntmps64
  go_wp2_with fail
  refine(CB.out _).mono ?_
  rintro e w1 ⟨rfl,Ah⟩
  have Av:=Ah.size
  (try simp at Av)
  go_wp2
  go_ret
  exact⟨rfl,blw⟩
set_option maxRecDepth 100000 in
set_option maxHeartbeats 16000000 in
theorem rcheckSlab_any (x0 x1 x2 x3 x4 x5 x6 x7 x8 x9 x10 x11 x12 x13 x14 x15 x16 x17 x18 x19:Int) (w:World):Calls Tryz.prog 16 #[.agg #[.int .i64 x0,.int .i64 x1,.int .i64 x2,.int .i64 x3,.int .i64 x4,.int .i64 x5,.int .i64 x6,.int .i64 x7,.int .i64 x8,.int .i64 x9,.int .i64 x10,.int .i64 x11,.int .i64 x12,.int .i64 x13,.int .i64 x14,.int .i64 x15,.int .i64 x16,.int .i64 x17,.int .i64 x18,.int .i64 x19]] w fun e w'=>e = .returned (.int .i64 (slabE x0 x1 x2 x3 x4 x5 x6 x7 x8 x9 x10 x11 x12 x13 x14 x15 x16 x17 x18 x19))∧Below w.heap.size w w':=by
 unfold slabE
 have C0:=Lib.hid (fun w=>shareErr_any x0 x1 w)
 have C1:=Lib.hid (fun w=>shareErr_any x2 x3 w)
 have C2:=Lib.hid (fun w=>shareErr_any x4 x5 w)
 have C3:=Lib.hid (fun w=>shareErr_any x6 x7 w)
 have C4:=Lib.hid (fun w=>shareErr_any x8 x9 w)
 have C5:=Lib.hid (fun w=>shareErr_any x10 x11 w)
 have C6:=Lib.hid (fun w=>shareErr_any x12 x13 w)
 have C7:=Lib.hid (fun w=>shareErr_any x14 x15 w)
 have C8:=Lib.hid (fun w=>shareErr_any x16 x17 w)
 have C9:=Lib.hid (fun w=>shareErr_any x18 x19 w)
 generalize shE x0 x1=e0 at *
 generalize shE x2 x3=e1 at *
 generalize shE x4 x5=e2 at *
 generalize shE x6 x7=e3 at *
 generalize shE x8 x9=e4 at *
 generalize shE x10 x11=e5 at *
 generalize shE x12 x13=e6 at *
 generalize shE x14 x15=e7 at *
 generalize shE x16 x17=e8 at *
 generalize shE x18 x19=e9 at *
 obtain⟨E,HE⟩:∃E,fstE [e0,e1,e2,e3,e4,e5,e6,e7,e8,e9]=E:=⟨_,rfl⟩
 rw[HE]
 have HE:=Lib.hid HE
 have hw0:=Below.refl w.heap.size w
 go_enter Tryz.func16,Tryz.ntmps16
 go_wp2_with fail
 refine wp_loop_rounds 11 ?_
 refine wp_named (fun w0 Bc => ?_)
 have XB:∀o,w0.cell? ⟨w.heap.size+1,o,none⟩=(#[.int .i64 x0,.int .i64 x1,.int .i64 x2,.int .i64 x3,.int .i64 x4,.int .i64 x5,.int .i64 x6,.int .i64 x7,.int .i64 x8,.int .i64 x9,.int .i64 x10,.int .i64 x11,.int .i64 x12,.int .i64 x13,.int .i64 x14,.int .i64 x15,.int .i64 x16,.int .i64 x17,.int .i64 x18,.int .i64 x19]:Array Value)[o]?:=fun o=>by rw[Bc];go_simp
 have hv0:Below w.heap.size w w0:=by rw[Bc];exact blw
 have lt0:w.heap.size+1<w0.heap.size:=by rw[Bc];first|omega|(simp;done)|(simp;omega)
 clear Bc hw0
 have u0:w0.cell? ⟨w.heap.size+1,0,none⟩=some (.int .i64 x0):=(XB 0).trans rfl
 have v0:w0.cell? ⟨w.heap.size+1,1,none⟩=some (.int .i64 x1):=(XB 1).trans rfl
 have XH:=Lib.hid XB
 clear XB
 go_wp2_with fail
 refine(C0.out _).mono ?_
 rintro e w1 ⟨rfl,hb1⟩
 have hv1:Below w.heap.size w w1:=hv0.trans (hb1.mono (by have:=hv0.size;omega))
 have XB:∀o,w1.cell? ⟨w.heap.size+1,o,none⟩=(#[.int .i64 x0,.int .i64 x1,.int .i64 x2,.int .i64 x3,.int .i64 x4,.int .i64 x5,.int .i64 x6,.int .i64 x7,.int .i64 x8,.int .i64 x9,.int .i64 x10,.int .i64 x11,.int .i64 x12,.int .i64 x13,.int .i64 x14,.int .i64 x15,.int .i64 x16,.int .i64 x17,.int .i64 x18,.int .i64 x19]:Array Value)[o]?:=fun o=>(hb1.cell (p:=⟨w.heap.size+1,o,none⟩) lt0).trans (XH.out o)
 have lt1:w.heap.size+1<w1.heap.size:=Nat.lt_of_lt_of_le lt0 hb1.size
 clear u0 v0 XH hb1 hv0 lt0
 by_cases h0:e0=0
 case neg =>
  have n0:(e0 != 0)=true:=by simpa using h0
  have HF:=HE.out
  rw[fstE_at h0]at HF
  subst HF
  clear HE
  clear h0
  go_wp2
  go_ret
  exact⟨rfl,hv1⟩
 subst h0
 have HF:=HE.out
 rw[fstE_zero]at HF
 clear HE
 have HE:=Lib.hid HF
 clear HF
 go_wp2_with fail
 rw[rounds_succ]
 have u1:w1.cell? ⟨w.heap.size+1,2,none⟩=some (.int .i64 x2):=(XB 2).trans rfl
 have v1:w1.cell? ⟨w.heap.size+1,3,none⟩=some (.int .i64 x3):=(XB 3).trans rfl
 have XH:=Lib.hid XB
 clear XB
 go_wp2_with fail
 refine(C1.out _).mono ?_
 rintro e w2 ⟨rfl,hb2⟩
 have hv2:Below w.heap.size w w2:=hv1.trans (hb2.mono (by have:=hv1.size;omega))
 have XB:∀o,w2.cell? ⟨w.heap.size+1,o,none⟩=(#[.int .i64 x0,.int .i64 x1,.int .i64 x2,.int .i64 x3,.int .i64 x4,.int .i64 x5,.int .i64 x6,.int .i64 x7,.int .i64 x8,.int .i64 x9,.int .i64 x10,.int .i64 x11,.int .i64 x12,.int .i64 x13,.int .i64 x14,.int .i64 x15,.int .i64 x16,.int .i64 x17,.int .i64 x18,.int .i64 x19]:Array Value)[o]?:=fun o=>(hb2.cell (p:=⟨w.heap.size+1,o,none⟩) lt1).trans (XH.out o)
 have lt2:w.heap.size+1<w2.heap.size:=Nat.lt_of_lt_of_le lt1 hb2.size
 clear u1 v1 XH hb2 hv1 lt1
 by_cases h1:e1=0
 case neg =>
  have n1:(e1 != 0)=true:=by simpa using h1
  have HF:=HE.out
  rw[fstE_at h1]at HF
  subst HF
  clear HE
  clear h1
  go_wp2
  go_ret
  exact⟨rfl,hv2⟩
 subst h1
 have HF:=HE.out
 rw[fstE_zero]at HF
 clear HE
 have HE:=Lib.hid HF
 clear HF
 go_wp2_with fail
 rw[rounds_succ]
 have u2:w2.cell? ⟨w.heap.size+1,4,none⟩=some (.int .i64 x4):=(XB 4).trans rfl
 have v2:w2.cell? ⟨w.heap.size+1,5,none⟩=some (.int .i64 x5):=(XB 5).trans rfl
 have XH:=Lib.hid XB
 clear XB
 go_wp2_with fail
 refine(C2.out _).mono ?_
 rintro e w3 ⟨rfl,hb3⟩
 have hv3:Below w.heap.size w w3:=hv2.trans (hb3.mono (by have:=hv2.size;omega))
 have XB:∀o,w3.cell? ⟨w.heap.size+1,o,none⟩=(#[.int .i64 x0,.int .i64 x1,.int .i64 x2,.int .i64 x3,.int .i64 x4,.int .i64 x5,.int .i64 x6,.int .i64 x7,.int .i64 x8,.int .i64 x9,.int .i64 x10,.int .i64 x11,.int .i64 x12,.int .i64 x13,.int .i64 x14,.int .i64 x15,.int .i64 x16,.int .i64 x17,.int .i64 x18,.int .i64 x19]:Array Value)[o]?:=fun o=>(hb3.cell (p:=⟨w.heap.size+1,o,none⟩) lt2).trans (XH.out o)
 have lt3:w.heap.size+1<w3.heap.size:=Nat.lt_of_lt_of_le lt2 hb3.size
 clear u2 v2 XH hb3 hv2 lt2
 by_cases h2:e2=0
 case neg =>
  have n2:(e2 != 0)=true:=by simpa using h2
  have HF:=HE.out
  rw[fstE_at h2]at HF
  subst HF
  clear HE
  clear h2
  go_wp2
  go_ret
  exact⟨rfl,hv3⟩
 subst h2
 have HF:=HE.out
 rw[fstE_zero]at HF
 clear HE
 have HE:=Lib.hid HF
 clear HF
 go_wp2_with fail
 rw[rounds_succ]
 have u3:w3.cell? ⟨w.heap.size+1,6,none⟩=some (.int .i64 x6):=(XB 6).trans rfl
 have v3:w3.cell? ⟨w.heap.size+1,7,none⟩=some (.int .i64 x7):=(XB 7).trans rfl
 have XH:=Lib.hid XB
 clear XB
 go_wp2_with fail
 refine(C3.out _).mono ?_
 rintro e w4 ⟨rfl,hb4⟩
 have hv4:Below w.heap.size w w4:=hv3.trans (hb4.mono (by have:=hv3.size;omega))
 have XB:∀o,w4.cell? ⟨w.heap.size+1,o,none⟩=(#[.int .i64 x0,.int .i64 x1,.int .i64 x2,.int .i64 x3,.int .i64 x4,.int .i64 x5,.int .i64 x6,.int .i64 x7,.int .i64 x8,.int .i64 x9,.int .i64 x10,.int .i64 x11,.int .i64 x12,.int .i64 x13,.int .i64 x14,.int .i64 x15,.int .i64 x16,.int .i64 x17,.int .i64 x18,.int .i64 x19]:Array Value)[o]?:=fun o=>(hb4.cell (p:=⟨w.heap.size+1,o,none⟩) lt3).trans (XH.out o)
 have lt4:w.heap.size+1<w4.heap.size:=Nat.lt_of_lt_of_le lt3 hb4.size
 clear u3 v3 XH hb4 hv3 lt3
 by_cases h3:e3=0
 case neg =>
  have n3:(e3 != 0)=true:=by simpa using h3
  have HF:=HE.out
  rw[fstE_at h3]at HF
  subst HF
  clear HE
  clear h3
  go_wp2
  go_ret
  exact⟨rfl,hv4⟩
 subst h3
 have HF:=HE.out
 rw[fstE_zero]at HF
 clear HE
 have HE:=Lib.hid HF
 clear HF
 go_wp2_with fail
 rw[rounds_succ]
 have u4:w4.cell? ⟨w.heap.size+1,8,none⟩=some (.int .i64 x8):=(XB 8).trans rfl
 have v4:w4.cell? ⟨w.heap.size+1,9,none⟩=some (.int .i64 x9):=(XB 9).trans rfl
 have XH:=Lib.hid XB
 clear XB
 go_wp2_with fail
 refine(C4.out _).mono ?_
 rintro e w5 ⟨rfl,hb5⟩
 have hv5:Below w.heap.size w w5:=hv4.trans (hb5.mono (by have:=hv4.size;omega))
 have XB:∀o,w5.cell? ⟨w.heap.size+1,o,none⟩=(#[.int .i64 x0,.int .i64 x1,.int .i64 x2,.int .i64 x3,.int .i64 x4,.int .i64 x5,.int .i64 x6,.int .i64 x7,.int .i64 x8,.int .i64 x9,.int .i64 x10,.int .i64 x11,.int .i64 x12,.int .i64 x13,.int .i64 x14,.int .i64 x15,.int .i64 x16,.int .i64 x17,.int .i64 x18,.int .i64 x19]:Array Value)[o]?:=fun o=>(hb5.cell (p:=⟨w.heap.size+1,o,none⟩) lt4).trans (XH.out o)
 have lt5:w.heap.size+1<w5.heap.size:=Nat.lt_of_lt_of_le lt4 hb5.size
 clear u4 v4 XH hb5 hv4 lt4
 by_cases h4:e4=0
 case neg =>
  have n4:(e4 != 0)=true:=by simpa using h4
  have HF:=HE.out
  rw[fstE_at h4]at HF
  subst HF
  clear HE
  clear h4
  go_wp2
  go_ret
  exact⟨rfl,hv5⟩
 subst h4
 have HF:=HE.out
 rw[fstE_zero]at HF
 clear HE
 have HE:=Lib.hid HF
 clear HF
 go_wp2_with fail
 rw[rounds_succ]
 have u5:w5.cell? ⟨w.heap.size+1,10,none⟩=some (.int .i64 x10):=(XB 10).trans rfl
 have v5:w5.cell? ⟨w.heap.size+1,11,none⟩=some (.int .i64 x11):=(XB 11).trans rfl
 have XH:=Lib.hid XB
 clear XB
 go_wp2_with fail
 refine(C5.out _).mono ?_
 rintro e w6 ⟨rfl,hb6⟩
 have hv6:Below w.heap.size w w6:=hv5.trans (hb6.mono (by have:=hv5.size;omega))
 have XB:∀o,w6.cell? ⟨w.heap.size+1,o,none⟩=(#[.int .i64 x0,.int .i64 x1,.int .i64 x2,.int .i64 x3,.int .i64 x4,.int .i64 x5,.int .i64 x6,.int .i64 x7,.int .i64 x8,.int .i64 x9,.int .i64 x10,.int .i64 x11,.int .i64 x12,.int .i64 x13,.int .i64 x14,.int .i64 x15,.int .i64 x16,.int .i64 x17,.int .i64 x18,.int .i64 x19]:Array Value)[o]?:=fun o=>(hb6.cell (p:=⟨w.heap.size+1,o,none⟩) lt5).trans (XH.out o)
 have lt6:w.heap.size+1<w6.heap.size:=Nat.lt_of_lt_of_le lt5 hb6.size
 clear u5 v5 XH hb6 hv5 lt5
 by_cases h5:e5=0
 case neg =>
  have n5:(e5 != 0)=true:=by simpa using h5
  have HF:=HE.out
  rw[fstE_at h5]at HF
  subst HF
  clear HE
  clear h5
  go_wp2
  go_ret
  exact⟨rfl,hv6⟩
 subst h5
 have HF:=HE.out
 rw[fstE_zero]at HF
 clear HE
 have HE:=Lib.hid HF
 clear HF
 go_wp2_with fail
 rw[rounds_succ]
 have u6:w6.cell? ⟨w.heap.size+1,12,none⟩=some (.int .i64 x12):=(XB 12).trans rfl
 have v6:w6.cell? ⟨w.heap.size+1,13,none⟩=some (.int .i64 x13):=(XB 13).trans rfl
 have XH:=Lib.hid XB
 clear XB
 go_wp2_with fail
 refine(C6.out _).mono ?_
 rintro e w7 ⟨rfl,hb7⟩
 have hv7:Below w.heap.size w w7:=hv6.trans (hb7.mono (by have:=hv6.size;omega))
 have XB:∀o,w7.cell? ⟨w.heap.size+1,o,none⟩=(#[.int .i64 x0,.int .i64 x1,.int .i64 x2,.int .i64 x3,.int .i64 x4,.int .i64 x5,.int .i64 x6,.int .i64 x7,.int .i64 x8,.int .i64 x9,.int .i64 x10,.int .i64 x11,.int .i64 x12,.int .i64 x13,.int .i64 x14,.int .i64 x15,.int .i64 x16,.int .i64 x17,.int .i64 x18,.int .i64 x19]:Array Value)[o]?:=fun o=>(hb7.cell (p:=⟨w.heap.size+1,o,none⟩) lt6).trans (XH.out o)
 have lt7:w.heap.size+1<w7.heap.size:=Nat.lt_of_lt_of_le lt6 hb7.size
 clear u6 v6 XH hb7 hv6 lt6
 by_cases h6:e6=0
 case neg =>
  have n6:(e6 != 0)=true:=by simpa using h6
  have HF:=HE.out
  rw[fstE_at h6]at HF
  subst HF
  clear HE
  clear h6
  go_wp2
  go_ret
  exact⟨rfl,hv7⟩
 subst h6
 have HF:=HE.out
 rw[fstE_zero]at HF
 clear HE
 have HE:=Lib.hid HF
 clear HF
 go_wp2_with fail
 rw[rounds_succ]
 have u7:w7.cell? ⟨w.heap.size+1,14,none⟩=some (.int .i64 x14):=(XB 14).trans rfl
 have v7:w7.cell? ⟨w.heap.size+1,15,none⟩=some (.int .i64 x15):=(XB 15).trans rfl
 have XH:=Lib.hid XB
 clear XB
 go_wp2_with fail
 refine(C7.out _).mono ?_
 rintro e w8 ⟨rfl,hb8⟩
 have hv8:Below w.heap.size w w8:=hv7.trans (hb8.mono (by have:=hv7.size;omega))
 have XB:∀o,w8.cell? ⟨w.heap.size+1,o,none⟩=(#[.int .i64 x0,.int .i64 x1,.int .i64 x2,.int .i64 x3,.int .i64 x4,.int .i64 x5,.int .i64 x6,.int .i64 x7,.int .i64 x8,.int .i64 x9,.int .i64 x10,.int .i64 x11,.int .i64 x12,.int .i64 x13,.int .i64 x14,.int .i64 x15,.int .i64 x16,.int .i64 x17,.int .i64 x18,.int .i64 x19]:Array Value)[o]?:=fun o=>(hb8.cell (p:=⟨w.heap.size+1,o,none⟩) lt7).trans (XH.out o)
 have lt8:w.heap.size+1<w8.heap.size:=Nat.lt_of_lt_of_le lt7 hb8.size
 clear u7 v7 XH hb8 hv7 lt7
 by_cases h7:e7=0
 case neg =>
  have n7:(e7 != 0)=true:=by simpa using h7
  have HF:=HE.out
  rw[fstE_at h7]at HF
  subst HF
  clear HE
  clear h7
  go_wp2
  go_ret
  exact⟨rfl,hv8⟩
 subst h7
 have HF:=HE.out
 rw[fstE_zero]at HF
 clear HE
 have HE:=Lib.hid HF
 clear HF
 go_wp2_with fail
 rw[rounds_succ]
 have u8:w8.cell? ⟨w.heap.size+1,16,none⟩=some (.int .i64 x16):=(XB 16).trans rfl
 have v8:w8.cell? ⟨w.heap.size+1,17,none⟩=some (.int .i64 x17):=(XB 17).trans rfl
 have XH:=Lib.hid XB
 clear XB
 go_wp2_with fail
 refine(C8.out _).mono ?_
 rintro e w9 ⟨rfl,hb9⟩
 have hv9:Below w.heap.size w w9:=hv8.trans (hb9.mono (by have:=hv8.size;omega))
 have XB:∀o,w9.cell? ⟨w.heap.size+1,o,none⟩=(#[.int .i64 x0,.int .i64 x1,.int .i64 x2,.int .i64 x3,.int .i64 x4,.int .i64 x5,.int .i64 x6,.int .i64 x7,.int .i64 x8,.int .i64 x9,.int .i64 x10,.int .i64 x11,.int .i64 x12,.int .i64 x13,.int .i64 x14,.int .i64 x15,.int .i64 x16,.int .i64 x17,.int .i64 x18,.int .i64 x19]:Array Value)[o]?:=fun o=>(hb9.cell (p:=⟨w.heap.size+1,o,none⟩) lt8).trans (XH.out o)
 have lt9:w.heap.size+1<w9.heap.size:=Nat.lt_of_lt_of_le lt8 hb9.size
 clear u8 v8 XH hb9 hv8 lt8
 by_cases h8:e8=0
 case neg =>
  have n8:(e8 != 0)=true:=by simpa using h8
  have HF:=HE.out
  rw[fstE_at h8]at HF
  subst HF
  clear HE
  clear h8
  go_wp2
  go_ret
  exact⟨rfl,hv9⟩
 subst h8
 have HF:=HE.out
 rw[fstE_zero]at HF
 clear HE
 have HE:=Lib.hid HF
 clear HF
 go_wp2_with fail
 rw[rounds_succ]
 have u9:w9.cell? ⟨w.heap.size+1,18,none⟩=some (.int .i64 x18):=(XB 18).trans rfl
 have v9:w9.cell? ⟨w.heap.size+1,19,none⟩=some (.int .i64 x19):=(XB 19).trans rfl
 have XH:=Lib.hid XB
 clear XB
 go_wp2_with fail
 refine(C9.out _).mono ?_
 rintro e w10 ⟨rfl,hb10⟩
 have hv10:Below w.heap.size w w10:=hv9.trans (hb10.mono (by have:=hv9.size;omega))
 have XB:∀o,w10.cell? ⟨w.heap.size+1,o,none⟩=(#[.int .i64 x0,.int .i64 x1,.int .i64 x2,.int .i64 x3,.int .i64 x4,.int .i64 x5,.int .i64 x6,.int .i64 x7,.int .i64 x8,.int .i64 x9,.int .i64 x10,.int .i64 x11,.int .i64 x12,.int .i64 x13,.int .i64 x14,.int .i64 x15,.int .i64 x16,.int .i64 x17,.int .i64 x18,.int .i64 x19]:Array Value)[o]?:=fun o=>(hb10.cell (p:=⟨w.heap.size+1,o,none⟩) lt9).trans (XH.out o)
 have lt10:w.heap.size+1<w10.heap.size:=Nat.lt_of_lt_of_le lt9 hb10.size
 clear u9 v9 XH hb10 hv9 lt9
 by_cases h9:e9=0
 case neg =>
  have n9:(e9 != 0)=true:=by simpa using h9
  have HF:=HE.out
  rw[fstE_at h9]at HF
  subst HF
  clear HE
  clear h9
  go_wp2
  go_ret
  exact⟨rfl,hv10⟩
 subst h9
 have HF:=HE.out
 rw[fstE_zero]at HF
 clear HE
 have HE:=Lib.hid HF
 clear HF
 go_wp2_with fail
 rw[rounds_succ]
 go_wp2
 go_ret
 exact⟨congrArg (fun n=>Ending.returned (.int .i64 n)) HE.out,hv10⟩
end Go.Proofs.YticobgianbecpaaGreatDoor
namespace Go.Proofs.YticobgianbecpaaGreatDoor
open Go Go.Sort Go.RowKit
theorem fst_all:∀ {l:List Int},fstE l=0→∀e∈l,e=0
 | [],_,e,h=>by cases h
 | a::l,h,e,he=>by
  unfold fstE at h
  by_cases c:a=0
  ·rw[if_pos c]at h
   rcases List.mem_cons.1 he with rfl|he
   ·exact c
   ·exact fst_all h e he
  ·rw[if_neg c]at h;exact absurd h c
theorem slb_ok {x0 x1 x2 x3 x4 x5 x6 x7 x8 x9 x10 x11 x12 x13 x14 x15 x16 x17 x18 x19:Int} (h:slabE x0 x1 x2 x3 x4 x5 x6 x7 x8 x9 x10 x11 x12 x13 x14 x15 x16 x17 x18 x19=0):SlbOk ⟨x0,x1,x2,x3,x6,x7,x8,x9,x12,x13,x14,x15,x18,x19⟩:=by
 unfold slabE at h
 have k:=fst_all h
 simp only[List.mem_cons,List.not_mem_nil,or_false,forall_eq_or_imp,forall_eq]at k
 obtain⟨k0,k1,k2,k3,k4,k5,k6,k7,k8,k9⟩:=k
 have k0:=shE_zero k0
 have k1:=shE_zero k1
 have k3:=shE_zero k3
 have k4:=shE_zero k4
 have k6:=shE_zero k6
 have k7:=shE_zero k7
 have k9:=shE_zero k9
 exact⟨k0.1,k0.2.1,k1.1,k1.2.1,k3.1,k3.2.1,k3.2.2,k4.1,k4.2.1,k6.1,k6.2.1,k6.2.2,k7.1,k7.2.1,k9.1,k9.2.1,k9.2.2⟩
set_option maxRecDepth 100000 in
theorem stackSlabs_any (AW:Awake3) (x0 x1 x2 x3 x4 x5 x6 x7 x8 x9 x10 x11 x12 x13 x14 x15 x16 x17 x18 x19:Int) (w:World) (hS:Std w) :
  Calls Tryz.prog 4 #[.agg #[.int .i64 x0,.int .i64 x1,.int .i64 x2,.int .i64 x3,.int .i64 x4,.int .i64 x5,.int .i64 x6,.int .i64 x7,.int .i64 x8,.int .i64 x9,.int .i64 x10,.int .i64 x11,.int .i64 x12,.int .i64 x13,.int .i64 x14,.int .i64 x15,.int .i64 x16,.int .i64 x17,.int .i64 x18,.int .i64 x19]] w fun e w'=>e = .returned (.bool true)∧Below w.heap.size w w':=by
 have CK:=fun w=>checkSlab_any x0 x1 x2 x3 x4 x5 x6 x7 x8 x9 x10 x11 x12 x13 x14 x15 x16 x17 x18 x19 w
 have RC:=fun w=>rcheckSlab_any x0 x1 x2 x3 x4 x5 x6 x7 x8 x9 x10 x11 x12 x13 x14 x15 x16 x17 x18 x19 w
 by_cases hE:slabE x0 x1 x2 x3 x4 x5 x6 x7 x8 x9 x10 x11 x12 x13 x14 x15 x16 x17 x18 x19=0
 ·have hs:=slb_ok hE
  rw[hE]at CK RC
  obtain⟨s,es⟩:∃s:Slb,s=⟨x0,x1,x2,x3,x6,x7,x8,x9,x12,x13,x14,x15,x18,x19⟩:=⟨_,rfl⟩
  rw[← es]at hs
  by_cases c:slLo1 s<1048576
  ·have SL:=fun w=>slab_good s hs x4 x5 x10 x11 x16 x17 c (by rw[es];exact CK) w
   have RS:=fun w=>rslab_good s hs x4 x5 x10 x11 x16 x17 c w
   unfold Shr.val at SL RS
   rw[es]at SL RS
   exact slabs_of AW _ x0 x1 x2 x3 x4 x5 x6 x7 x8 x9 x10 x11 x12 x13 x14 x15 x16 x17 x18 x19 rfl 0 0 _ _ _ _ _ _ SL CK RC (fun _=>RS) (fun h=>absurd rfl h) w hS
  ·have c1:slLo1 s=1048576:=by have:=hs.lo1.2;omega
   have SL:=fun w=>slab_break s hs x4 x5 x10 x11 x16 x17 c1 (by rw[es];exact CK) w
   have RS:=fun w=>rslab_break s hs x4 x5 x10 x11 x16 x17 c w
   rw[es]at SL RS
   exact slabs_of AW _ x0 x1 x2 x3 x4 x5 x6 x7 x8 x9 x10 x11 x12 x13 x14 x15 x16 x17 x18 x19 rfl 0 24 0 0 0 0 0 0 SL CK RC (fun _=>RS) (fun h=>absurd rfl h) w hS
 ·have SL:=fun w=>slab_wrong x0 x1 x2 x3 x4 x5 x6 x7 x8 x9 x10 x11 x12 x13 x14 x15 x16 x17 x18 x19 (slabE x0 x1 x2 x3 x4 x5 x6 x7 x8 x9 x10 x11 x12 x13 x14 x15 x16 x17 x18 x19) hE CK w
  exact slabs_of AW _ x0 x1 x2 x3 x4 x5 x6 x7 x8 x9 x10 x11 x12 x13 x14 x15 x16 x17 x18 x19 rfl (slabE x0 x1 x2 x3 x4 x5 x6 x7 x8 x9 x10 x11 x12 x13 x14 x15 x16 x17 x18 x19) (slabE x0 x1 x2 x3 x4 x5 x6 x7 x8 x9 x10 x11 x12 x13 x14 x15 x16 x17 x18 x19) 0 0 0 0 0 0 SL CK RC (fun h=>absurd h hE) (fun _=>⟨rfl,rfl,rfl,rfl,rfl,rfl,rfl⟩) w hS
theorem list20 {l:List Int} (h:l.length=20):∃x0 x1 x2 x3 x4 x5 x6 x7 x8 x9 x10 x11 x12 x13 x14 x15 x16 x17 x18 x19,l = [x0,x1,x2,x3,x4,x5,x6,x7,x8,x9,x10,x11,x12,x13,x14,x15,x16,x17,x18,x19]:=by
 match l,h with
 | [x0,x1,x2,x3,x4,x5,x6,x7,x8,x9,x10,x11,x12,x13,x14,x15,x16,x17,x18,x19],_=>exact⟨_,_,_,_,_,_,_,_,_,_,_,_,_,_,_,_,_,_,_,_,rfl⟩
theorem stackSlabs_list (AW:Awake3) (l:List Int) (h:l.length=20) (w:World) (hS:Std w) :
  Calls Tryz.prog 4 #[.agg (l.map (Value.int .i64)).toArray] w fun e w'=>e = .returned (.bool true)∧Below w.heap.size w w':=by
 obtain⟨x0,x1,x2,x3,x4,x5,x6,x7,x8,x9,x10,x11,x12,x13,x14,x15,x16,x17,x18,x19,rfl⟩:=list20 h
 exact stackSlabs_any AW x0 x1 x2 x3 x4 x5 x6 x7 x8 x9 x10 x11 x12 x13 x14 x15 x16 x17 x18 x19 w hS
end Go.Proofs.YticobgianbecpaaGreatDoor
