/- Joined: LightBase Calc Fine Parts Calc2 Calc3 Light. -/
import Derived.Test.YticobgianbecpaaGreatDoorTurn
import Derived.Test.YticobgianbecpaaGreatDoorKAdds
import Derived.Test.YticobgianbecpaaGreatDoorKQuo
import Derived.Test.YticobgianbecpaaGreatDoorKFrac
import Derived.Test.YticobgianbecpaaGreatDoorRealRoot
import Derived.Test.YticobgianbecpaaGreatDoorKRoots
import Derived.Test.YticobgianbecpaaGreatDoorKArc
namespace Go.Proofs.YticobgianbecpaaGreatDoor
open Go Go.Sort Go.RowKit
@[irreducible] def after (e:Int) (r:Res):Res:=if e=0 then r else .bad e
theorem after_zero (r:Res):after 0 r=r:=by unfold after;rw[if_pos rfl]
theorem after_err {e:Int} (r:Res) (h:e≠0):after e r = .bad e:=by unfold after;rw[if_neg h]
structure St (B:Nat) (e:Int) (w:World):Prop where
 cell:w.cell? ⟨B,0,none⟩=some (.int .i64 e)
 free:w.frozen? ⟨B,0,none⟩=false
 lt:B<w.heap.size
theorem St.turn {B:Nat}{e s:Int}{w w':World} (h:St B e w) (t:Trn B s w w'):St B s w' :=
 ⟨t.held h.cell h.lt,(t.free h.lt).trans h.free,Nat.lt_of_lt_of_le h.lt t.size_le⟩
theorem St.bel {B:Nat}{e:Int}{w w':World} (h:St B e w) (b:Below w.heap.size w w'):St B e w' :=
 ⟨(b.cell (p:=⟨B,0,none⟩) h.lt).trans h.cell,(b.frozen (p:=⟨B,0,none⟩) h.lt).trans h.free,Nat.lt_of_lt_of_le h.lt b.size⟩
theorem St.gt {B:Nat}{e:Int}{W:World} (h:St B e W) (s:Int) (p:Regrown):St B s (gt W B s p):=h.turn (trn_gt W B s p)
theorem St.alloc {B:Nat}{e:Int}{w:World} (h:St B e w) (o:Obj):St B e (w.alloc o):=h.bel ((Below.refl _ _).alloc (Nat.le_refl _) o)
theorem St.drew {B:Nat}{e:Int}{w:World} (h:St B e w):St B e w.drew:=h.bel (Below.refl _ _).drew
theorem St.drewN {B:Nat}{e:Int}{w:World}{n:Nat} (h:St B e w):St B e (w.drewN n):=h.bel (bl_drewN (Below.refl _ _))
theorem St.set {B:Nat}{e:Int}{w:World}{a:Addr} (h:St B e w) (ha:B≠a.block) (v:Value):St B e (w.setCell a v) :=
 ⟨(World.cell?_setCell_other _ _ _ _ (fun x=>ha (by rw[x]))).trans h.cell,(World.frozen?_setCell _ _ _ _).trans h.free,by simpa using h.lt⟩
structure Smc (B:Nat) (w w':World):Prop where
 cell:w'.cell? ⟨B,0,none⟩=w.cell? ⟨B,0,none⟩
 free:w'.frozen? ⟨B,0,none⟩=w.frozen? ⟨B,0,none⟩
 size:w.heap.size≤w'.heap.size
 lt:B<w.heap.size
theorem Smc.refl {B:Nat} (w:World) (h:B<w.heap.size):Smc B w w:=⟨rfl,rfl,Nat.le_refl _,h⟩
theorem Smc.bel {B:Nat}{w w' w2:World} (h:Smc B w w') (b:Below w'.heap.size w' w2):Smc B w w2 :=
 ⟨(b.cell (p:=⟨B,0,none⟩) (Nat.lt_of_lt_of_le h.lt h.size)).trans h.cell,(b.frozen (p:=⟨B,0,none⟩) (Nat.lt_of_lt_of_le h.lt h.size)).trans h.free,Nat.le_trans h.size b.size,h.lt⟩
theorem Smc.alloc {B:Nat}{w w':World} (h:Smc B w w') (o:Obj) (_x:Nat):Smc B w (w'.alloc o):=h.bel ((Below.refl _ _).alloc (Nat.le_refl _) o)
theorem Smc.drew {B:Nat}{w w':World} (h:Smc B w w') (_x:Nat):Smc B w w'.drew:=h.bel (Below.refl _ _).drew
theorem Smc.drewN {B:Nat}{w w':World}{n:Nat} (h:Smc B w w') (_x:Nat):Smc B w (w'.drewN n):=h.bel (bl_drewN (Below.refl _ _))
theorem Smc.set {B:Nat}{w w':World}{a:Addr} (h:Smc B w w') (ha:B≠a.block) (v:Value):Smc B w (w'.setCell a v) :=
 ⟨(World.cell?_setCell_other _ _ _ _ (fun x=>ha (by rw[x]))).trans h.cell,(World.frozen?_setCell _ _ _ _).trans h.free,by simpa using h.size,h.lt⟩
theorem St.to {B:Nat}{e:Int}{w w':World} (h:St B e w) (k:Smc B w w'):St B e w':=⟨k.cell.trans h.cell,k.free.trans h.free,Nat.lt_of_lt_of_le h.lt k.size⟩
theorem tr_refl {B:Nat}{s:Int}{w:World} (h:St B s w):Trn B s w w:=Trn.of_bel h.cell (Below.refl _ _)
theorem tr_alloc {B:Nat}{s:Int}{w w':World} (h:Trn B s w w') (o:Obj):Trn B s w (w'.alloc o):=h.bel ((Below.refl _ _).alloc (Nat.le_refl _) o)
theorem tr_drew {B:Nat}{s:Int}{w w':World} (h:Trn B s w w'):Trn B s w w'.drew:=h.bel (Below.refl _ _).drew
theorem tr_drewN {B:Nat}{s:Int}{w w':World}{n:Nat} (h:Trn B s w w'):Trn B s w (w'.drewN n):=h.bel (bl_drewN (Below.refl _ _))
theorem tr_set {B:Nat}{s:Int}{w w':World}{p:Addr} (h:Trn B s w w') (hp:w.heap.size≤p.block) (u:Value):Trn B s w (w'.setCell p u):=Below.setCell h hp u
theorem tr_bel {B:Nat}{s:Int}{w w1 w':World} (h:Trn B s w w1) (b:Below w1.heap.size w1 w'):Trn B s w w':=h.bel b
def T0 (B:Nat) (w w':World):Prop:=∃s,Trn B s w w'
theorem t0_refl {B:Nat}{s:Int}{w:World} (h:St B s w):T0 B w w:=⟨_,tr_refl h⟩
theorem t0_alloc {B:Nat}{w w':World} (h:T0 B w w') (o:Obj):T0 B w (w'.alloc o):=by obtain⟨s,h⟩:=h;exact⟨s,tr_alloc h o⟩
theorem t0_drew {B:Nat}{w w':World} (h:T0 B w w'):T0 B w w'.drew:=by obtain⟨s,h⟩:=h;exact⟨s,tr_drew h⟩
theorem t0_drewN {B:Nat}{w w':World}{n:Nat} (h:T0 B w w'):T0 B w (w'.drewN n):=by obtain⟨s,h⟩:=h;exact⟨s,tr_drewN h⟩
theorem t0_set {B:Nat}{w w':World}{p:Addr} (h:T0 B w w') (hp:w.heap.size≤p.block) (u:Value):T0 B w (w'.setCell p u):=by obtain⟨s,h⟩:=h;exact⟨s,tr_set h hp u⟩
theorem t0_turn {B:Nat}{w w':World} (h:T0 B w w') (s':Int):T0 B w (w'.setCell ⟨B,0,none⟩ (.int .i64 s')):=by obtain⟨s,h⟩:=h;exact⟨s',h.trans (Below.refl _ _)⟩
theorem t0_bel {B:Nat}{w w1 w':World} (h:T0 B w w1) (b:Below w1.heap.size w1 w'):T0 B w w':=by obtain⟨s,h⟩:=h;exact⟨s,h.bel b⟩
theorem t0_trn {B:Nat}{s':Int}{w w1 w':World} (h:T0 B w w1) (t:Trn B s' w1 w'):T0 B w w':=by obtain⟨s,h⟩:=h;exact⟨s',h.trans t⟩
theorem tr_turn {B:Nat}{s':Int}{w w':World} (h:T0 B w w') (_x:Nat):Trn B s' w (w'.setCell ⟨B,0,none⟩ (.int .i64 s')):=by obtain⟨s,h⟩:=h;exact h.trans (Below.refl _ _)
theorem tr_trn {B:Nat}{s':Int}{w w1 w':World} (h:T0 B w w1) (t:Trn B s' w1 w'):Trn B s' w w':=by obtain⟨s,h⟩:=h;exact h.trans t
theorem ne_addr {B b o:Nat} (h:B≠b):(⟨B,0,none⟩:Addr)≠⟨b,o,none⟩:=fun e=>by injection e with e1;exact h e1
theorem ne_off {B o:Nat} : (⟨B,0,none⟩:Addr)≠⟨B,o+1,none⟩:=fun e=>by injection e with _ e1;omega
theorem trw {B:Nat}{s:Int}{w w':World} (h:Trn B s w w':=by repeat' (first|(with_reducible exact t0_refl (by with_reducible assumption))|(with_reducible refine t0_alloc ?_ _)|(with_reducible refine t0_drew ?_)|(with_reducible refine t0_drewN ?_)|(with_reducible refine t0_turn ?_ _)|(with_reducible refine t0_set ?_ ?_ _)|(with_reducible refine t0_bel ?_ (by with_reducible assumption))|(with_reducible refine t0_trn ?_ (by with_reducible assumption))|(with_reducible exact tr_refl (by with_reducible assumption))|(with_reducible assumption)|(with_reducible refine tr_alloc ?_ _)|(with_reducible refine tr_drew ?_)|(with_reducible refine tr_drewN ?_)|(with_reducible refine tr_turn ?_ 0)|(with_reducible refine tr_set ?_ ?_ _)|(with_reducible refine tr_bel ?_ (by with_reducible assumption))|(with_reducible refine tr_trn ?_ (by with_reducible assumption))|omega|(simp;done)|(simp;omega))):Trn B s w w':=h
theorem smw {B:Nat}{w w':World} (h:Smc B w w':=by repeat' (first|(with_reducible exact Smc.refl _ (by with_reducible assumption))|(with_reducible refine Smc.alloc ?_ _ 0)|(with_reducible refine Smc.drew ?_ 0)|(with_reducible refine Smc.drewN ?_ 0)|(with_reducible refine Smc.set ?_ ?_ _)|omega|(simp;done)|(simp;omega))):Smc B w w':=h
theorem tnc {B:Nat}{s:Int}{w w':World} (h:Trn B s w w') (k:Nat) (hk:k<w.heap.size:=by first|omega|(simp;done)|(simp;omega)) (hn:B≠k:=by omega):∀o,w'.cell? ⟨k,o,none⟩=w.cell? ⟨k,o,none⟩:=fun o=>h.other (k:=k) (o:=o) hk (ne_addr hn)
theorem tnf {B:Nat}{s:Int}{w w':World} (h:Trn B s w w') (k:Nat) (hk:k<w.heap.size:=by first|omega|(simp;done)|(simp;omega)):∀o,w'.frozen? ⟨k,o,none⟩=w.frozen? ⟨k,o,none⟩:=fun o=>h.free (k:=k) (o:=o) hk
theorem tn5 {B:Nat}{s:Int}{w w':World} (h:Trn B s w w') (k:Nat) (hk:k<w.heap.size:=by first|omega|(simp;done)|(simp;omega)) (hn:B≠k:=by omega):k<w'.heap.size∧k<w'.heap.size+1∧k<w'.heap.size+1+1∧(∀o,w'.cell? ⟨k,o,none⟩=w.cell? ⟨k,o,none⟩)∧(∀o,w'.frozen? ⟨k,o,none⟩=w.frozen? ⟨k,o,none⟩) :=
 have q:=Nat.lt_of_lt_of_le hk h.size_le
 ⟨q,Nat.lt_succ_of_lt q,Nat.lt_succ_of_lt (Nat.lt_succ_of_lt q),fun o=>h.other (k:=k) (o:=o) hk (ne_addr hn),fun o=>h.free (k:=k) (o:=o) hk⟩
theorem own5 {B n:Nat} (h:B<n):¬B=n∧¬n=B∧B<n+1∧¬B=n+1∧¬n+1=B∧B<n+1+1∧¬B=n+1+1∧¬n+1+1=B∧B<n+1+1+1∧¬B=n+1+1+1∧¬n+1+1+1=B∧B<n+1+1+1+1∧¬B=n+1+1+1+1∧¬n+1+1+1+1=B:=by omega
theorem tur_st {P:Program}{f:FuncId}{args:Array Value}{W:World}{B:Nat}{e s s':Int}{p:Regrown}{v:Value} (hS:St B e W)
  (h:∀w,St B s w→Calls P f args w fun E w'=>E = .returned v∧Trn B s' w w'):Calls P f args (gt W B s p) fun E w'=>E = .returned v∧Trn B s' (gt W B s p) w':=h _ (hS.gt s p)
def Marked (p:Prop):Prop:=p
theorem wp_markr (n:Nat){P:Program}{ops:Array Oper}{b:Bool}{Q:Exit→Act→World→Prop}{a:Act}{w:World} (h:Marked ((Code.region n ops b).wp P Q a w)):(Code.region n ops b).wp P Q a w:=h
theorem wp_named {P:Program}{c:Code}{Q:Exit→Act→World→Prop}{a:Act}{w:World} (h:∀W,W=w→c.wp P Q a W):Marked (c.wp P Q a w):=h w rfl
end Go.Proofs.YticobgianbecpaaGreatDoor
namespace Go.Proofs.YticobgianbecpaaGreatDoor
open Go.RowKit
theorem done_any (B:Nat) (e0 e x y r:Int) (w:World) (A1:St B e0 w) :
  Calls Tryz.prog 105 #[.pointer (some ⟨B,0,none⟩),.agg #[.complex .f64 (fl x) (fl y),.int .i64 r],.int .i64 e] w fun E w' =>
   E = .returned (.agg #[.complex .f64 (fl x) (fl y),.int .i64 r])∧Trn B e w w':=by
 have Ad:=A1.cell
 have Ae:=A1.free
 have A8:=A1.lt
 have Af:=own5 A8
 go_enter Tryz.func105,Tryz.ntmps105
 repeat' (first|go_values|go_skip|go_guarded|go_step|go_upon|(simp only[];go_simp))
 refine bodyPost_ret (by simp[results,Tryz.results105,go_sem, *];first|done|rfl) rfl ?_
 exact⟨rfl,trw⟩
set_option maxHeartbeats 1000000 in
theorem two_yes (B:Nat) (x y r x' y' r':Int) (k:Nat) (R:Res) (w:World) (A1:St B 0 w) (eg:∀args w,(callFunc k args).run Tryz.prog w = .ok (.enter k args) w)
  (hop:∀w,Calls Tryz.prog k #[.agg #[.complex .f64 (fl x) (fl y),.int .i64 r],.agg #[.complex .f64 (fl x') (fl y'),.int .i64 r']] w fun e w'=>e = .returned (out R)∧Below w.heap.size w w') :
  Calls Tryz.prog 122 #[.pointer (some ⟨B,0,none⟩),.func (.func k) #[] #[],.agg #[.complex .f64 (fl x) (fl y),.int .i64 r],.agg #[.complex .f64 (fl x') (fl y'),.int .i64 r']] w fun E w' =>
   E = .returned (.agg #[.complex .f64 (fl R.a) (fl R.b),.int .i64 R.c])∧Trn B R.q w w':=by
 simp only[out_quad]at hop
 have HOP:=Lib.hid hop
 clear hop
 have Ad:=A1.cell
 have Ae:=A1.free
 have A8:=A1.lt
 have Af:=own5 A8
 go_enter Tryz.func122,Tryz.ntmps122
 go_wp2_with fail
 refine(HOP.out _).mono ?_
 rintro e w1 ⟨rfl,A2⟩
 have A3:=A2.size
 (try simp at A3)
 have A6:=bl5 A2 (w.heap.size+1+1)
 have A0:=St.bel (St.to A1 smw) A2
 have Aa:=A0.cell
 have Ab:=A0.free
 have A7:=A0.lt
 have Ac:=own5 A7
 (try clear Ad Ae Af)
 go_wp2_with fail
 refine(done_any B _ R.q R.a R.b R.c _ (St.to A0 smw)).mono ?_
 rintro e w2 ⟨rfl,A5⟩
 have Ag:=A5.size_le
 (try simp at Ag)
 have Ar:=tn5 A5 (w.heap.size+1+1)
 have A9:=St.turn (St.to A0 smw) A5
 have Ao:=A9.cell
 have Ap:=A9.free
 have Am:=A9.lt
 have As:=own5 Am
 (try clear Aa Ab Ac)
 repeat' (first|go_values|go_skip|go_guarded|go_step|go_upon|(simp only[];go_simp))
 refine bodyPost_ret (by simp[results,Tryz.results122,go_sem, *];first|done|rfl) rfl ?_
 exact⟨rfl,trw⟩
set_option maxHeartbeats 1000000 in
theorem two_no (B:Nat) (e x y r x' y' r':Int) (k:Nat) (w:World) (A1:St B e w) (he:e≠0) :
  Calls Tryz.prog 122 #[.pointer (some ⟨B,0,none⟩),.func (.func k) #[] #[],.agg #[.complex .f64 (fl x) (fl y),.int .i64 r],.agg #[.complex .f64 (fl x') (fl y'),.int .i64 r']] w fun E w' =>
   E = .returned (.agg #[.complex .f64 0 0,.int .i64 0])∧Trn B e w w':=by
 have he':(e != 0)=true:=by simpa using he
 have Ad:=A1.cell
 have Ae:=A1.free
 have A8:=A1.lt
 have Af:=own5 A8
 go_enter Tryz.func122,Tryz.ntmps122
 repeat' (first|go_values|go_skip|go_guarded|go_step|go_upon|(simp only[];go_simp))
 refine bodyPost_ret (by simp[results,Tryz.results122,go_sem, *];first|done|rfl) rfl ?_
 exact⟨rfl,trw⟩
end Go.Proofs.YticobgianbecpaaGreatDoor
namespace Go.Proofs.YticobgianbecpaaGreatDoor
open Go.RowKit
def Fine:Res→Prop
 | .bad q=>q≠0
 | .good a b c=>Right a b c
theorem right_zero:Right 0 0 0:=by unfold Right Fits;omega
theorem Fine.right {R:Res} (h:Fine R):Right R.a R.b R.c:=by
 cases R with
 | bad q=>obtain⟨h1,h2,h3,_⟩:=quad_bad q;rw[h1,h2,h3];exact right_zero
 | good a b c=>obtain⟨h1,h2,h3,_⟩:=quad_good a b c;rw[h1,h2,h3];exact h
theorem Fine.f1 {R:Res} (h:Fine R):Flo R.a:=h.right.flo.1
theorem Fine.f2 {R:Res} (h:Fine R):Flo R.b:=h.right.flo.2
theorem Fine.zero {R:Res} (h:Fine R) (hq:R.q≠0):R = .bad R.q:=by
 cases R with
 | bad q=>rw[(quad_bad q).2.2.2]
 | good a b c=>exact absurd (quad_good a b c).2.2.2 hq
theorem Fine.ok {R:Res} (hq:R.q=0) (h:Fine R):R = .good R.a R.b R.c:=by
 cases R with
 | bad q=>exact absurd ((quad_bad q).2.2.2.symm.trans hq) h
 | good a b c=>obtain⟨h1,h2,h3,_⟩:=quad_good a b c;rw[h1,h2,h3]
theorem fine_fin (a b c q:Int):Fine (fin a b c q):=by
 unfold fin
 by_cases h:q=0
 ·rw[if_neg (by simpa using h)]
  by_cases h2:Right a b c
  ·rw[if_pos h2];exact h2
  ·rw[if_neg h2];exact(by decide:(8:Int)≠0)
 ·rw[if_pos h];exact h
theorem fine_two {x y r x' y' r':Int}{R:Res} (h:Fine R):Fine (onTwo x y r x' y' r' R):=by
 unfold onTwo
 split
 ·split
  ·exact h
  ·exact(by decide:(2:Int)≠0)
 ·exact(by decide:(2:Int)≠0)
theorem fine_one {x y r:Int}{R:Res} (h:Fine R):Fine (onOne x y r R):=by
 unfold onOne
 split
 ·exact h
 ·exact(by decide:(2:Int)≠0)
theorem fine_after (e:Int){R:Res} (h:Fine R):Fine (after e R):=by
 unfold after
 split
 ·exact h
 ·rename_i he;exact he
@[irreducible] def pl (R S:Res):Res:=plusM R.a R.b R.c S.a S.b S.c
@[irreducible] def mi (R S:Res):Res:=minusM R.a R.b R.c S.a S.b S.c
@[irreducible] def ti (R S:Res):Res:=timesM R.a R.b R.c S.a S.b S.c
@[irreducible] def qt (R S:Res):Res:=quotM R.a R.b R.c S.a S.b S.c
@[irreducible] def tu (R:Res):Res:=turnedM R.a R.b R.c 1
@[irreducible] def cj (R:Res):Res:=conjM R.a R.b R.c
@[irreducible] def ro (R:Res):Res:=rootM R.a R.b R.c
@[irreducible] def oneR:Res := .good 1048576 0 0
@[irreducible] def noneR:Res := .good 0 0 0
@[irreducible] def halfR:Res := .good 524288 0 0
theorem fine_pl (R S:Res):Fine (pl R S):=by unfold pl plusM;exact fine_two (fine_fin _ _ _ _)
theorem fine_mi (R S:Res):Fine (mi R S):=by unfold mi minusM;exact fine_two (fine_fin _ _ _ _)
theorem fine_ti (R S:Res):Fine (ti R S):=by unfold ti timesM;exact fine_two (fine_fin _ _ _ _)
theorem fine_quo (a b r c d s:Int):Fine (quoR a b r c d s):=by
 unfold quoR
 split
 ·exact(by decide:(9:Int)≠0)
 ·exact fine_fin _ _ _ _
theorem fine_qt (R S:Res):Fine (qt R S):=by unfold qt quotM;exact fine_two (fine_quo _ _ _ _ _ _)
theorem fine_tu (R:Res):Fine (tu R):=by
 unfold tu turnedM
 refine fine_one ?_
 split
 ·exact fine_fin _ _ _ _
 ·exact(by decide:(2:Int)≠0)
theorem fine_cj (R:Res):Fine (cj R):=by unfold cj conjM;exact fine_one (fine_fin _ _ _ _)
theorem fine_rootR (a b r:Int):Fine (rootR a b r):=by
 unfold rootR
 repeat' split
 all_goals first|exact fine_fin _ _ _ _|(unfold Fine;decide)|(unfold Fine Right Fits;omega)
theorem fine_ro (R:Res):Fine (ro R):=by unfold ro rootM;exact fine_one (fine_rootR _ _ _)
theorem fine_range (lo hi:Int):Fine (ofRangeM lo hi):=by
 unfold ofRangeM
 repeat' split
 all_goals first|(unfold Fine;decide)|(unfold Fine Right Fits;omega)
theorem fine_frac (n d:Int):Fine (ofFracM n d):=by
 unfold ofFracM
 split
 ·exact fine_fin _ _ _ _
 ·exact(by decide:(2:Int)≠0)
theorem fine_arc (lo hi:Int):Fine (arcM lo hi):=by
 unfold arcM arM
 repeat' split
 all_goals first|exact fine_fin _ _ _ _|(unfold Fine;decide)
theorem fine_real (lo hi:Int):Fine (realM lo hi):=by
 unfold realM
 by_cases c1 : -67108864≤lo∧lo≤67108864 ∧ -67108864≤hi∧hi≤67108864
 ·rw[if_neg (by simpa using c1)]
  by_cases c2:hi<lo
  ·rw[if_pos c2];exact(by decide:(10:Int)≠0)
  ·rw[if_neg c2]
   by_cases c3:0≤lo
   ·rw[if_pos c3]
    have:=rr_bd c3 (by omega) c1.2.2.2
    unfold Fine Right Fits;omega
   ·rw[if_neg c3]
    by_cases c4:hi≤0
    ·rw[if_pos c4]
     have:=rr_bd (lo := -hi) (hi := -lo) (by omega) (by omega) (by omega)
     unfold Fine Right Fits;omega
    ·rw[if_neg c4];exact(by decide:(14:Int)≠0)
 ·rw[if_pos c1];exact(by decide:(2:Int)≠0)
theorem fine_oneR:Fine oneR:=by unfold oneR Fine Right Fits;omega
theorem fine_noneR:Fine noneR:=by unfold noneR;exact right_zero
theorem fine_halfR:Fine halfR:=by unfold halfR Fine Right Fits;omega
end Go.Proofs.YticobgianbecpaaGreatDoor
namespace Go.Proofs.YticobgianbecpaaGreatDoor
open Go.RowKit
set_option maxHeartbeats 1000000 in
theorem aroundL_any (n r:Int) (B:Nat) (w:World) (hB:w.cell? ⟨B,2,none⟩=some (.int .i64 r)) (hB2:B<w.heap.size) (n1 : -67108864≤n) (n2:n≤67108864) (r0:0≤r) (r1:r≤67108864) :
  Calls Tryz.prog 157 #[.int .i64 n,.pointer (some ⟨B,0,none⟩)] w fun e w'=>e = .returned (.agg #[.int .i64 (n-r),.int .i64 (n+r)])∧Below w.heap.size w w':=by
 have hn:¬B=w.heap.size:=by omega
 go_enter Tryz.func157,Tryz.ntmps157
 go_wp2
 refine bodyPost_ret (by simp[results,Tryz.results157,go_sem, *];first|done|rfl) rfl ?_
 exact⟨rfl,blw⟩
set_option maxHeartbeats 2000000 in
theorem PartsOf_yes (x y r:Int) (w:World) (h:Right x y r) :
  Calls Tryz.prog 101 #[.agg #[.complex .f64 (fl x) (fl y),.int .i64 r]] w fun e w'=>e = .returned (.tuple #[.agg #[.int .i64 (x-r),.int .i64 (x+r),.int .i64 (y-r),.int .i64 (y+r)],.int .i64 0])∧Below w.heap.size w w':=by
 have hc:=fun w=>read_yes x y r w h.1 h.2.1 h.2.2
 obtain⟨⟨x1,x2,y1,y2⟩,r0,r1⟩:=h
 have eg:=enters_of Tryz.func157 (by kernel_rfl) rfl
 have C:=Lib.hid hc
 clear hc
 go_enter Tryz.func101,Tryz.ntmps101
 go_wp2_with (go_at_call 108;(with_reducible refine(C.out _).mono ?_);rintro e w1 ⟨rfl,hb1⟩;have Aj:=bl5 hb1 (w.heap.size);have Ak:=bl5 hb1 (w.heap.size+1))
 refine calm 11 (by kernel_rfl) (by kernel_rfl) fun hG => ?_
 have Au:=hG (w.heap.size) lto
 have An:=hG (w.heap.size+1) lto
 have Ai:=hG (w1.heap.size) lto
 clear hG
 simp only[List.take_succ_cons,List.take_zero,List.drop_succ_cons,List.drop_zero]
 repeat (go_big_quiet_step (first|(go_at_call 157;first|(with_reducible refine Calls.regrown_of (aroundL_any x r w1.heap.size _ ?_ ?_ x1 x2 r0 r1);(·rw[Ai];simp[go_sem]);(·exact Nat.lt_of_lt_of_le (by simp) (below_regrown _ _ _).size))|(with_reducible refine Calls.regrown_of (aroundL_any y r w1.heap.size _ ?_ ?_ y1 y2 r0 r1);(·rw[Ai];simp[go_sem]);(·exact Nat.lt_of_lt_of_le (by simp) (below_regrown _ _ _).size)))))
 refine wpQuiet_nil ?_
 intro w2 Ah
 clear Au An Ai
 have Al:=bl5 Ah (w.heap.size)
 have Aq:=bl5 Ah (w.heap.size+1)
 have At:=bl5 Ah (w1.heap.size)
 go_wp2
 refine bodyPost_ret (by simp[results,Tryz.results101,go_sem, *];first|done|rfl) rfl ?_
 exact⟨rfl,blw⟩
end Go.Proofs.YticobgianbecpaaGreatDoor
namespace Go.Proofs.YticobgianbecpaaGreatDoor
open Go.RowKit
theorem two_any (B:Nat) (e:Int) (R S:Res) (k:Nat) (T:Res) (eg:∀args w,(callFunc k args).run Tryz.prog w = .ok (.enter k args) w)
  (hop:∀w,Calls Tryz.prog k #[.agg #[.complex .f64 (fl R.a) (fl R.b),.int .i64 R.c],.agg #[.complex .f64 (fl S.a) (fl S.b),.int .i64 S.c]] w fun e w'=>e = .returned (out T)∧Below w.heap.size w w') (w:World) (A1:St B e w) :
  Calls Tryz.prog 122 #[.pointer (some ⟨B,0,none⟩),.func (.func k) #[] #[],.agg #[.complex .f64 (fl R.a) (fl R.b),.int .i64 R.c],.agg #[.complex .f64 (fl S.a) (fl S.b),.int .i64 S.c]] w fun E w' =>
   E = .returned (.agg #[.complex .f64 (fl (after e T).a) (fl (after e T).b),.int .i64 (after e T).c])∧Trn B (after e T).q w w':=by
 by_cases he:e=0
 ·subst he
  rw[after_zero]
  exact two_yes B _ _ _ _ _ _ k T w A1 eg hop
 ·rw[after_err T he]
  obtain⟨h1,h2,h3,h4⟩:=quad_bad e
  rw[h1,h2,h3,h4,fl_zero]
  exact two_no B e _ _ _ _ _ _ k w A1 he
abbrev Gives (f:FuncId) (args:Array Value) (B:Nat) (e:Int) (T:Res):Prop:=∀w,St B e w→Calls Tryz.prog f args w fun E w' =>
 E = .returned (.agg #[.complex .f64 (fl T.a) (fl T.b),.int .i64 T.c])∧Trn B T.q w w'
set_option maxHeartbeats 1000000 in
theorem c_plus (B:Nat) (e:Int) (R S:Res) (hR:Fine R) (hS:Fine S) :
  Gives 72 #[.pointer (some ⟨B,0,none⟩),.agg #[.complex .f64 (fl R.a) (fl R.b),.int .i64 R.c],.agg #[.complex .f64 (fl S.a) (fl S.b),.int .i64 S.c]] B e (after e (pl R S)):=by
 intro w A1
 have TW:=Lib.hid (two_any B e R S 123 (pl R S) (enters_of Tryz.func123 (by kernel_rfl) rfl) (fun w=>by unfold pl;exact Plus_any _ _ _ _ _ _ w hR.f1 hR.f2 hS.f1 hS.f2))
 generalize after e (pl R S)=T at *
 generalize R.a=x at *
 generalize R.b=y at *
 generalize R.c=r at *
 generalize S.a=x' at *
 generalize S.b=y' at *
 generalize S.c=r' at *
 clear hR hS
 have Ad:=A1.cell
 have Ae:=A1.free
 have A8:=A1.lt
 have Af:=own5 A8
 go_enter Tryz.func72,Tryz.ntmps72
 go_wp2_with fail
 refine(TW.out _ (St.to A1 smw)).mono ?_
 rintro e w1 ⟨rfl,A4⟩
 have A3:=A4.size_le
 (try simp at A3)
 have A6:=tn5 A4 (w.heap.size+1+1)
 have A0:=St.turn (St.to A1 smw) A4
 have Aa:=A0.cell
 have Ab:=A0.free
 have A7:=A0.lt
 have Ac:=own5 A7
 (try clear Ad Ae Af)
 repeat' (first|go_values|go_skip|go_guarded|go_step|go_upon|(simp only[];go_simp))
 refine bodyPost_ret (by simp[results,Tryz.results72,go_sem, *];first|done|rfl) rfl ?_
 exact⟨rfl,trw⟩
set_option maxHeartbeats 1000000 in
theorem c_minus (B:Nat) (e:Int) (R S:Res) (hR:Fine R) (hS:Fine S) :
  Gives 79 #[.pointer (some ⟨B,0,none⟩),.agg #[.complex .f64 (fl R.a) (fl R.b),.int .i64 R.c],.agg #[.complex .f64 (fl S.a) (fl S.b),.int .i64 S.c]] B e (after e (mi R S)):=by
 intro w A1
 have TW:=Lib.hid (two_any B e R S 129 (mi R S) (enters_of Tryz.func129 (by kernel_rfl) rfl) (fun w=>by unfold mi;exact Minus_any _ _ _ _ _ _ w hR.f1 hR.f2 hS.f1 hS.f2))
 generalize after e (mi R S)=T at *
 generalize R.a=x at *
 generalize R.b=y at *
 generalize R.c=r at *
 generalize S.a=x' at *
 generalize S.b=y' at *
 generalize S.c=r' at *
 clear hR hS
 have Ad:=A1.cell
 have Ae:=A1.free
 have A8:=A1.lt
 have Af:=own5 A8
 go_enter Tryz.func79,Tryz.ntmps79
 go_wp2_with fail
 refine(TW.out _ (St.to A1 smw)).mono ?_
 rintro e w1 ⟨rfl,A4⟩
 have A3:=A4.size_le
 (try simp at A3)
 have A6:=tn5 A4 (w.heap.size+1+1)
 have A0:=St.turn (St.to A1 smw) A4
 have Aa:=A0.cell
 have Ab:=A0.free
 have A7:=A0.lt
 have Ac:=own5 A7
 (try clear Ad Ae Af)
 repeat' (first|go_values|go_skip|go_guarded|go_step|go_upon|(simp only[];go_simp))
 refine bodyPost_ret (by simp[results,Tryz.results79,go_sem, *];first|done|rfl) rfl ?_
 exact⟨rfl,trw⟩
set_option maxHeartbeats 1000000 in
theorem c_times (B:Nat) (e:Int) (R S:Res) (hR:Fine R) (hS:Fine S) :
  Gives 75 #[.pointer (some ⟨B,0,none⟩),.agg #[.complex .f64 (fl R.a) (fl R.b),.int .i64 R.c],.agg #[.complex .f64 (fl S.a) (fl S.b),.int .i64 S.c]] B e (after e (ti R S)):=by
 intro w A1
 have TW:=Lib.hid (two_any B e R S 127 (ti R S) (enters_of Tryz.func127 (by kernel_rfl) rfl) (fun w=>by unfold ti;exact Times_any _ _ _ _ _ _ w hR.f1 hR.f2 hS.f1 hS.f2))
 generalize after e (ti R S)=T at *
 generalize R.a=x at *
 generalize R.b=y at *
 generalize R.c=r at *
 generalize S.a=x' at *
 generalize S.b=y' at *
 generalize S.c=r' at *
 clear hR hS
 have Ad:=A1.cell
 have Ae:=A1.free
 have A8:=A1.lt
 have Af:=own5 A8
 go_enter Tryz.func75,Tryz.ntmps75
 go_wp2_with fail
 refine(TW.out _ (St.to A1 smw)).mono ?_
 rintro e w1 ⟨rfl,A4⟩
 have A3:=A4.size_le
 (try simp at A3)
 have A6:=tn5 A4 (w.heap.size+1+1)
 have A0:=St.turn (St.to A1 smw) A4
 have Aa:=A0.cell
 have Ab:=A0.free
 have A7:=A0.lt
 have Ac:=own5 A7
 (try clear Ad Ae Af)
 repeat' (first|go_values|go_skip|go_guarded|go_step|go_upon|(simp only[];go_simp))
 refine bodyPost_ret (by simp[results,Tryz.results75,go_sem, *];first|done|rfl) rfl ?_
 exact⟨rfl,trw⟩
set_option maxHeartbeats 1000000 in
theorem c_by (B:Nat) (e:Int) (R S:Res) (hR:Fine R) (hS:Fine S) :
  Gives 76 #[.pointer (some ⟨B,0,none⟩),.agg #[.complex .f64 (fl R.a) (fl R.b),.int .i64 R.c],.agg #[.complex .f64 (fl S.a) (fl S.b),.int .i64 S.c]] B e (after e (qt R S)):=by
 intro w A1
 have TW:=Lib.hid (two_any B e R S 128 (qt R S) (enters_of Tryz.func128 (by kernel_rfl) rfl) (fun w=>by unfold qt;exact Quotient_any _ _ _ _ _ _ w hR.f1 hR.f2 hS.f1 hS.f2))
 generalize after e (qt R S)=T at *
 generalize R.a=x at *
 generalize R.b=y at *
 generalize R.c=r at *
 generalize S.a=x' at *
 generalize S.b=y' at *
 generalize S.c=r' at *
 clear hR hS
 have Ad:=A1.cell
 have Ae:=A1.free
 have A8:=A1.lt
 have Af:=own5 A8
 go_enter Tryz.func76,Tryz.ntmps76
 go_wp2_with fail
 refine(TW.out _ (St.to A1 smw)).mono ?_
 rintro e w1 ⟨rfl,A4⟩
 have A3:=A4.size_le
 (try simp at A3)
 have A6:=tn5 A4 (w.heap.size+1+1)
 have A0:=St.turn (St.to A1 smw) A4
 have Aa:=A0.cell
 have Ab:=A0.free
 have A7:=A0.lt
 have Ac:=own5 A7
 (try clear Ad Ae Af)
 repeat' (first|go_values|go_skip|go_guarded|go_step|go_upon|(simp only[];go_simp))
 refine bodyPost_ret (by simp[results,Tryz.results76,go_sem, *];first|done|rfl) rfl ?_
 exact⟨rfl,trw⟩
set_option maxHeartbeats 1000000 in
theorem c_real (B:Nat) (e lo hi:Int):Gives 103 #[.pointer (some ⟨B,0,none⟩),.int .i64 lo,.int .i64 hi] B e (after e (ofRangeM lo hi)):=by
 intro w A1
 by_cases he:e=0
 ·subst he
  rw[after_zero]
  have OP:=fun w=>OfRange_any lo hi w
  simp only[out_quad]at OP
  have OP:=Lib.hid OP
  generalize ofRangeM lo hi=T at *
  have Ad:=A1.cell
  have Ae:=A1.free
  have A8:=A1.lt
  have Af:=own5 A8
  go_enter Tryz.func103,Tryz.ntmps103
  go_wp2_with fail
  refine(OP.out _).mono ?_
  rintro e w1 ⟨rfl,A2⟩
  have A3:=A2.size
  (try simp at A3)
  have Aj:=bl5 A2 (w.heap.size)
  have A0:=St.bel (St.to A1 smw) A2
  have Aa:=A0.cell
  have Ab:=A0.free
  have A7:=A0.lt
  have Ac:=own5 A7
  (try clear Ad Ae Af)
  go_wp2_with fail
  refine(done_any B _ T.q T.a T.b T.c _ (St.to A0 smw)).mono ?_
  rintro e w2 ⟨rfl,A5⟩
  have Ag:=A5.size_le
  (try simp at Ag)
  have Al:=tn5 A5 (w.heap.size)
  have A9:=St.turn (St.to A0 smw) A5
  have Ao:=A9.cell
  have Ap:=A9.free
  have Am:=A9.lt
  have As:=own5 Am
  (try clear Aa Ab Ac)
  repeat' (first|go_values|go_skip|go_guarded|go_step|go_upon|(simp only[];go_simp))
  refine bodyPost_ret (by simp[results,Tryz.results103,go_sem, *];first|done|rfl) rfl ?_
  exact⟨rfl,trw⟩
 ·rw[after_err _ he]
  obtain⟨h1,h2,h3,h4⟩:=quad_bad e
  rw[h1,h2,h3,h4,fl_zero]
  clear h1 h2 h3 h4
  have he':(e != 0)=true:=by simpa using he
  have Ad:=A1.cell
  have Ae:=A1.free
  have A8:=A1.lt
  have Af:=own5 A8
  go_enter Tryz.func103,Tryz.ntmps103
  repeat' (first|go_values|go_skip|go_guarded|go_step|go_upon|(simp only[];go_simp))
  refine bodyPost_ret (by simp[results,Tryz.results103,go_sem, *];first|done|rfl) rfl ?_
  exact⟨rfl,trw⟩
set_option maxHeartbeats 1000000 in
theorem c_frac (B:Nat) (e lo hi:Int):Gives 158 #[.pointer (some ⟨B,0,none⟩),.int .i64 lo,.int .i64 hi] B e (after e (ofFracM lo hi)):=by
 intro w A1
 by_cases he:e=0
 ·subst he
  rw[after_zero]
  have OP:=fun w=>OfFrac_any lo hi w
  simp only[out_quad]at OP
  have OP:=Lib.hid OP
  generalize ofFracM lo hi=T at *
  have Ad:=A1.cell
  have Ae:=A1.free
  have A8:=A1.lt
  have Af:=own5 A8
  go_enter Tryz.func158,Tryz.ntmps158
  go_wp2_with fail
  refine(OP.out _).mono ?_
  rintro e w1 ⟨rfl,A2⟩
  have A3:=A2.size
  (try simp at A3)
  have Aj:=bl5 A2 (w.heap.size)
  have A0:=St.bel (St.to A1 smw) A2
  have Aa:=A0.cell
  have Ab:=A0.free
  have A7:=A0.lt
  have Ac:=own5 A7
  (try clear Ad Ae Af)
  go_wp2_with fail
  refine(done_any B _ T.q T.a T.b T.c _ (St.to A0 smw)).mono ?_
  rintro e w2 ⟨rfl,A5⟩
  have Ag:=A5.size_le
  (try simp at Ag)
  have Al:=tn5 A5 (w.heap.size)
  have A9:=St.turn (St.to A0 smw) A5
  have Ao:=A9.cell
  have Ap:=A9.free
  have Am:=A9.lt
  have As:=own5 Am
  (try clear Aa Ab Ac)
  repeat' (first|go_values|go_skip|go_guarded|go_step|go_upon|(simp only[];go_simp))
  refine bodyPost_ret (by simp[results,Tryz.results158,go_sem, *];first|done|rfl) rfl ?_
  exact⟨rfl,trw⟩
 ·rw[after_err _ he]
  obtain⟨h1,h2,h3,h4⟩:=quad_bad e
  rw[h1,h2,h3,h4,fl_zero]
  clear h1 h2 h3 h4
  have he':(e != 0)=true:=by simpa using he
  have Ad:=A1.cell
  have Ae:=A1.free
  have A8:=A1.lt
  have Af:=own5 A8
  go_enter Tryz.func158,Tryz.ntmps158
  repeat' (first|go_values|go_skip|go_guarded|go_step|go_upon|(simp only[];go_simp))
  refine bodyPost_ret (by simp[results,Tryz.results158,go_sem, *];first|done|rfl) rfl ?_
  exact⟨rfl,trw⟩
theorem one_cl (w:World):Calls Tryz.prog 73 #[] w fun E w'=>E = .returned (.agg #[.complex .f64 (fl oneR.a) (fl oneR.b),.int .i64 oneR.c])∧Below w.heap.size w w':=by
 have e1:oneR.a=1048576∧oneR.b=0∧oneR.c=0:=by unfold oneR;exact⟨(quad_good _ _ _).1,(quad_good _ _ _).2.1,(quad_good _ _ _).2.2.1⟩
 rw[e1.1,e1.2.1,e1.2.2,fl_zero,show fl 1048576=0x4130000000000000 from by decide]
 clear e1
 go_enter Tryz.func73,Tryz.ntmps73
 go_wp2
 refine bodyPost_ret (by simp[results,Tryz.results73,go_sem, *];first|done|rfl) rfl ?_
 exact⟨rfl,blw⟩
theorem none_cl (w:World):Calls Tryz.prog 80 #[] w fun E w'=>E = .returned (.agg #[.complex .f64 (fl noneR.a) (fl noneR.b),.int .i64 noneR.c])∧Below w.heap.size w w':=by
 have e1:noneR.a=0∧noneR.b=0∧noneR.c=0:=by unfold noneR;exact⟨(quad_good _ _ _).1,(quad_good _ _ _).2.1,(quad_good _ _ _).2.2.1⟩
 rw[e1.1,e1.2.1,e1.2.2,fl_zero]
 clear e1
 go_enter Tryz.func80,Tryz.ntmps80
 go_wp2
 refine bodyPost_ret (by simp[results,Tryz.results80,go_sem, *];first|done|rfl) rfl ?_
 exact⟨rfl,blw⟩
end Go.Proofs.YticobgianbecpaaGreatDoor
namespace Go.Proofs.YticobgianbecpaaGreatDoor
open Go.RowKit
@[irreducible] def pt (e x:Int):Int:=if e=0 then x else 0
theorem pt_zero (x:Int):pt 0 x=x:=by unfold pt;rw[if_pos rfl]
theorem pt_err {e:Int} (x:Int) (h:e≠0):pt e x=0:=by unfold pt;rw[if_neg h]
set_option maxHeartbeats 2000000 in
theorem c_parts_yes (B:Nat) (x y r:Int) (hR:Right x y r) (w:World) (A1:St B 0 w) :
  Calls Tryz.prog 37 #[.pointer (some ⟨B,0,none⟩),.agg #[.complex .f64 (fl x) (fl y),.int .i64 r]] w fun E w' =>
   E = .returned (.agg #[.int .i64 (x-r),.int .i64 (x+r),.int .i64 (y-r),.int .i64 (y+r)])∧Trn B 0 w w':=by
 have OP:=fun w=>PartsOf_yes x y r w hR
 clear hR
 generalize x-r=a at *
 generalize x+r=b at *
 generalize y-r=c at *
 generalize y+r=d at *
 have OP:=Lib.hid OP
 have Ad:=A1.cell
 have Ae:=A1.free
 have A8:=A1.lt
 have Af:=own5 A8
 go_enter Tryz.func37,Tryz.ntmps37
 go_wp2_with fail
 refine(OP.out _).mono ?_
 rintro e w1 ⟨rfl,A2⟩
 have A3:=A2.size
 (try simp at A3)
 have Ak:=bl5 A2 (w.heap.size+1)
 have A6:=bl5 A2 (w.heap.size+1+1)
 have A0:=St.bel (St.to A1 smw) A2
 have Aa:=A0.cell
 have Ab:=A0.free
 have A7:=A0.lt
 have Ac:=own5 A7
 (try clear Ad Ae)
 repeat' (first|go_values|go_skip|go_guarded|go_step|go_upon|(simp only[];go_simp))
 refine bodyPost_ret (by simp[results,Tryz.results37,go_sem, *];first|done|rfl) rfl ?_
 exact⟨rfl,trw⟩
set_option maxHeartbeats 1000000 in
theorem c_parts_no (B:Nat) (e x y r:Int) (he:e≠0) (w:World) (A1:St B e w) :
  Calls Tryz.prog 37 #[.pointer (some ⟨B,0,none⟩),.agg #[.complex .f64 (fl x) (fl y),.int .i64 r]] w fun E w' =>
   E = .returned (.agg #[.int .i64 0,.int .i64 0,.int .i64 0,.int .i64 0])∧Trn B e w w':=by
 have he':(e != 0)=true:=by simpa using he
 have Ad:=A1.cell
 have Ae:=A1.free
 have A8:=A1.lt
 have Af:=own5 A8
 go_enter Tryz.func37,Tryz.ntmps37
 repeat' (first|go_values|go_skip|go_guarded|go_step|go_upon|(simp only[];go_simp))
 refine bodyPost_ret (by simp[results,Tryz.results37,go_sem, *];first|done|rfl) rfl ?_
 exact⟨rfl,trw⟩
theorem c_parts (B:Nat) (e:Int) (R:Res) (hR:Fine R) (w:World) (A1:St B e w) :
  Calls Tryz.prog 37 #[.pointer (some ⟨B,0,none⟩),.agg #[.complex .f64 (fl R.a) (fl R.b),.int .i64 R.c]] w fun E w' =>
   E = .returned (.agg #[.int .i64 (pt e (R.a-R.c)),.int .i64 (pt e (R.a+R.c)),.int .i64 (pt e (R.b-R.c)),.int .i64 (pt e (R.b+R.c))])∧Trn B e w w':=by
 by_cases he:e=0
 ·subst he
  rw[pt_zero,pt_zero,pt_zero,pt_zero]
  exact c_parts_yes B _ _ _ hR.right w A1
 ·rw[pt_err _ he,pt_err _ he,pt_err _ he,pt_err _ he]
  exact c_parts_no B e _ _ _ he w A1
end Go.Proofs.YticobgianbecpaaGreatDoor
namespace Go.Proofs.YticobgianbecpaaGreatDoor
open Go Go.Sort Go.RowKit
structure Box where
 il:Int
 ih:Int
 tl:Int
 th:Int
 lo:Int
structure Ask where
 ix:Int
 sl:Int
 sh:Int
 po:Int
 wl:Int
 wh:Int
 ls:List Box
 oi:Int
 ol:Int
 pa:Option Addr
 cap:Nat
def Box.val (b:Box):Value := .agg #[.int .i64 b.il,.int .i64 b.ih,.int .i64 b.tl,.int .i64 b.th,.int .i64 b.lo]
def Ask.val (A:Ask):Value := .agg #[.int .i64 A.ix,.int .i64 A.sl,.int .i64 A.sh,.int .i64 A.po,.int .i64 A.wl,.int .i64 A.wh,.slice A.pa A.ls.length A.cap,.int .i64 A.oi,.int .i64 A.ol]
def boxAt (w:World) (a:Addr) (b:Box):Prop :=
 w.cell? a=some (.int .i64 b.il)∧w.cell? ⟨a.block,a.off+1,none⟩=some (.int .i64 b.ih)∧w.cell? ⟨a.block,a.off+2,none⟩=some (.int .i64 b.tl) ∧
 w.cell? ⟨a.block,a.off+3,none⟩=some (.int .i64 b.th)∧w.cell? ⟨a.block,a.off+4,none⟩=some (.int .i64 b.lo)
theorem block_add (a:Addr) (n:Nat):(a.add n).block=a.block:=by unfold Addr.add;split<;>rfl
structure Row (p:Option Addr) (ls:List Box) (w:World):Prop where
 get:∀j b,ls[j]?=some b→∃a,p=some a∧(a.add (j*5)).block<w.heap.size∧boxAt w (a.add (j*5)) b
theorem boxAt.bel {w w':World}{a:Addr}{b:Box} (h:boxAt w a b) (k:Below w.heap.size w w') (ha:a.block<w.heap.size):boxAt w' a b:=by
 obtain⟨h1,h2,h3,h4,h5⟩:=h
 exact⟨(k.cell (p:=a) ha).trans h1,(k.cell (p:=⟨a.block,a.off+1,none⟩) ha).trans h2,(k.cell (p:=⟨a.block,a.off+2,none⟩) ha).trans h3,
  (k.cell (p:=⟨a.block,a.off+3,none⟩) ha).trans h4,(k.cell (p:=⟨a.block,a.off+4,none⟩) ha).trans h5⟩
theorem Row.bel {p:Option Addr}{ls:List Box}{w w':World} (h:Row p ls w) (k:Below w.heap.size w w'):Row p ls w' :=
 ⟨fun j b hj=>by obtain⟨a,h1,h2,h3⟩:=h.get j b hj;exact⟨a,h1,Nat.lt_of_lt_of_le h2 k.size,h3.bel k h2⟩⟩
theorem Trn.far {B:Nat}{s:Int}{a b:World} (h:Trn B s a b){p:Addr} (hp:p.block<a.heap.size) (hne:p.block≠B):b.cell? p=a.cell? p :=
 (Below.cell h hp).trans (World.cell?_setCell_other _ _ _ _ (fun e=>hne (by rw[← e])))
theorem boxAt.trn {w w':World}{a:Addr}{b:Box}{B:Nat}{s:Int} (h:boxAt w a b) (k:Trn B s w w') (ha:a.block<w.heap.size) (hn:a.block≠B):boxAt w' a b:=by
 obtain⟨h1,h2,h3,h4,h5⟩:=h
 exact⟨(k.far (p:=a) ha hn).trans h1,(k.far (p:=⟨a.block,a.off+1,none⟩) ha hn).trans h2,(k.far (p:=⟨a.block,a.off+2,none⟩) ha hn).trans h3,
  (k.far (p:=⟨a.block,a.off+3,none⟩) ha hn).trans h4,(k.far (p:=⟨a.block,a.off+4,none⟩) ha hn).trans h5⟩
theorem Row.trn {p:Option Addr}{ls:List Box}{w w':World}{B:Nat}{s:Int} (h:Row p ls w) (k:Trn B s w w') (hB:∀a,p=some a→a.block≠B):Row p ls w' :=
 ⟨fun j b hj=>by obtain⟨a,h1,h2,h3⟩:=h.get j b hj;exact⟨a,h1,Nat.lt_of_lt_of_le h2 k.size_le,h3.trn k h2 (by rw[block_add];exact hB a h1)⟩⟩
structure Held (B:Nat) (A:Ask) (w:World):Prop where
 q1:w.cell? ⟨B,1,none⟩=some (.int .i64 A.ix)
 q2:w.cell? ⟨B,2,none⟩=some (.int .i64 A.sl)
 q3:w.cell? ⟨B,3,none⟩=some (.int .i64 A.sh)
 q4:w.cell? ⟨B,4,none⟩=some (.int .i64 A.po)
 q5:w.cell? ⟨B,5,none⟩=some (.int .i64 A.wl)
 q6:w.cell? ⟨B,6,none⟩=some (.int .i64 A.wh)
 q7:w.cell? ⟨B,7,none⟩=some (.slice A.pa A.ls.length A.cap)
 q8:w.cell? ⟨B,8,none⟩=some (.int .i64 A.oi)
 q9:w.cell? ⟨B,9,none⟩=some (.int .i64 A.ol)
structure Lt (B:Nat) (e:Int) (A:Ask) (w:World):Prop where
 st:St B e w
 cells:Held B A w
 row:Row A.pa A.ls w
 sep:∀a,A.pa=some a→a.block≠B
theorem Held.trn {B:Nat}{A:Ask}{s:Int}{w w':World} (h:Held B A w) (t:Trn B s w w') (hB:B<w.heap.size):Held B A w' :=
 ⟨(t.other hB ne_off).trans h.q1,(t.other hB ne_off).trans h.q2,(t.other hB ne_off).trans h.q3,(t.other hB ne_off).trans h.q4,(t.other hB ne_off).trans h.q5,(t.other hB ne_off).trans h.q6,
  (t.other hB ne_off).trans h.q7,(t.other hB ne_off).trans h.q8,(t.other hB ne_off).trans h.q9⟩
theorem Lt.turn {B:Nat}{e s:Int}{A:Ask}{w w':World} (h:Lt B e A w) (t:Trn B s w w'):Lt B s A w':=⟨h.st.turn t,h.cells.trn t h.st.lt,h.row.trn t h.sep,h.sep⟩
theorem Lt.bel {B:Nat}{e:Int}{A:Ask}{w w':World} (h:Lt B e A w) (b:Below w.heap.size w w'):Lt B e A w':=h.turn (Trn.of_bel h.st.cell b)
theorem Lt.gt {B:Nat}{e:Int}{A:Ask}{W:World} (h:Lt B e A W) (s:Int) (p:Regrown):Lt B s A (gt W B s p):=h.turn (trn_gt W B s p)
theorem tur_lt {P:Program}{f:FuncId}{args:Array Value}{W:World}{B:Nat}{e s s':Int}{A:Ask}{p:Regrown}{v:Value} (hL:Lt B e A W)
  (h:∀w,Lt B s A w→Calls P f args w fun E w'=>E = .returned v∧Trn B s' w w'):Calls P f args (gt W B s p) fun E w'=>E = .returned v∧Trn B s' (gt W B s p) w':=h _ (hL.gt s p)
def Kp (N:Nat) (w w':World):Prop:=N≤w.heap.size∧Below N w w'
theorem kp_refl {N:Nat}{w:World} (h:N≤w.heap.size):Kp N w w:=⟨h,Below.refl _ _⟩
theorem kp_bel {N:Nat}{w w1 w':World} (h:Kp N w w1) (b:Below w1.heap.size w1 w'):Kp N w w':=⟨h.1,h.2.trans (b.mono (Nat.le_trans h.1 h.2.size))⟩
theorem kp_alloc {N:Nat}{w w':World} (h:Kp N w w') (o:Obj) (_x:Nat):Kp N w (w'.alloc o):=kp_bel h ((Below.refl _ _).alloc (Nat.le_refl _) o)
theorem kp_drew {N:Nat}{w w':World} (h:Kp N w w') (_x:Nat):Kp N w w'.drew:=kp_bel h (Below.refl _ _).drew
theorem kp_drewN {N n:Nat}{w w':World} (h:Kp N w w') (_x:Nat):Kp N w (w'.drewN n):=kp_bel h (bl_drewN (Below.refl _ _))
theorem kp_set {N:Nat}{w w':World}{p:Addr} (h:Kp N w w') (hp:N≤p.block) (u:Value):Kp N w (w'.setCell p u):=⟨h.1,Below.setCell h.2 hp u⟩
theorem kp_same {N B:Nat}{w w':World}{u:Value} (h:Kp N w w') (hc:w'.cell? ⟨B,0,none⟩=some u):Kp N w (w'.setCell ⟨B,0,none⟩ u) :=
 ⟨h.1,⟨h.2.os,h.2.tape,h.2.output,by simpa using h.2.size,fun i hi=>(heap_set_held hc i).trans (h.2.block i hi)⟩⟩
theorem kpw {N:Nat}{w w':World} (h:Kp N w w':=by repeat' (first|(with_reducible exact kp_refl (by first|(exact Nat.le_refl _)|assumption|omega))|(with_reducible refine kp_alloc ?_ _ 0)|(with_reducible refine kp_drew ?_ 0)|(with_reducible refine kp_drewN ?_ 0)|(with_reducible refine kp_set ?_ (by first|omega|(simp;done)|(simp;omega)) _)|(with_reducible refine kp_same ?_ ?_)|omega|(simp;done)|(simp;omega)|(simp[go_sem, *];done))):Kp N w w':=h
theorem Trn.kp {B:Nat}{s:Int}{w0 w w':World} (t:Trn B s w0 w) (k:Kp w0.heap.size w w'):Trn B s w0 w':=Below.trans t k.2
theorem Trn.nx {B:Nat}{s s':Int}{w0 w w1 w':World} (t:Trn B s w0 w) (k:Kp w0.heap.size w w1) (u:Trn B s' w1 w'):Trn B s' w0 w':=(t.kp k).trans u
theorem Trn.nb {B:Nat}{s:Int}{w0 w w1 w':World} (t:Trn B s w0 w) (k:Kp w0.heap.size w w1) (u:Below w1.heap.size w1 w'):Trn B s w0 w':=(t.kp k).bel u
theorem Trn.le {B:Nat}{s:Int}{w0 w:World} (t:Trn B s w0 w):w0.heap.size≤w.heap.size:=t.size_le
def CAf (f:Nat→Option Value):Nat→List Value→Prop
 | _,[]=>True
 | i,v::L=>f i=some v∧CAf f (i+1) L
theorem cas {W E:World} (hN:W=E) (B:Nat) (L:List Value) (h:CAf (fun o=>E.cell? ⟨B,o,none⟩) 0 L:=by simp only[CAf,Nat.reduceAdd,and_true];go_simp)
  (hf:∀o,E.frozen? ⟨B,o,none⟩=false:=by intro o;go_simp) (hz:B<W.heap.size:=by omega) :
  B<W.heap.size∧B<W.heap.size+1∧B<W.heap.size+1+1∧(∀o,W.frozen? ⟨B,o,none⟩=false)∧CAf (fun o=>W.cell? ⟨B,o,none⟩) 0 L:=by
 subst hN;exact⟨hz,by omega,by omega,hf,h⟩
theorem cas5 {W E:World}{B:Nat} (k:B<W.heap.size∧B<W.heap.size+1∧B<W.heap.size+1+1∧(∀o,W.cell? ⟨B,o,none⟩=E.cell? ⟨B,o,none⟩)∧(∀o,W.frozen? ⟨B,o,none⟩=E.frozen? ⟨B,o,none⟩))
  (L:List Value) (h:CAf (fun o=>E.cell? ⟨B,o,none⟩) 0 L:=by simp only[CAf,Nat.reduceAdd,and_true];go_simp) (hf:∀o,E.frozen? ⟨B,o,none⟩=false:=by intro o;go_simp) :
  B<W.heap.size∧B<W.heap.size+1∧B<W.heap.size+1+1∧(∀o,W.frozen? ⟨B,o,none⟩=false)∧CAf (fun o=>W.cell? ⟨B,o,none⟩) 0 L:=by
 obtain⟨a,b,c,d,e⟩:=k
 refine⟨a,b,c,fun o=>(e o).trans (hf o),?_⟩
 rw[show(fun o=>W.cell? ⟨B,o,none⟩)=fun o=>E.cell? ⟨B,o,none⟩from funext d];exact h
abbrev Own3 (B n:Nat):Prop:=B<n+1∧¬B=n+1∧¬n+1=B∧B<n+1+1∧¬B=n+1+1∧¬n+1+1=B∧B<n+1+1+1∧¬B=n+1+1+1∧¬n+1+1+1=B∧B<n+1+1+1+1∧¬B=n+1+1+1+1∧¬n+1+1+1+1=B
abbrev Hq (B:Nat) (A:Ask) (w:World):Prop:=w.cell? ⟨B,1,none⟩=some (.int .i64 A.ix)∧w.cell? ⟨B,2,none⟩=some (.int .i64 A.sl)∧w.cell? ⟨B,3,none⟩=some (.int .i64 A.sh)∧w.cell? ⟨B,4,none⟩=some (.int .i64 A.po)∧w.cell? ⟨B,5,none⟩=some (.int .i64 A.wl)∧w.cell? ⟨B,6,none⟩=some (.int .i64 A.wh)∧w.cell? ⟨B,7,none⟩=some (.slice A.pa A.ls.length A.cap)∧w.cell? ⟨B,8,none⟩=some (.int .i64 A.oi)∧w.cell? ⟨B,9,none⟩=some (.int .i64 A.ol)
abbrev Pk (B:Nat) (e:Int) (A:Ask) (w0 w:World):Prop:=Trn B e w0 w∧Lt B e A w∧St B e w∧(w0.heap.size≤w.heap.size∧B<w.heap.size)∧(¬B=w.heap.size∧¬w.heap.size=B) ∧
 w.cell? ⟨B,0,none⟩=some (.int .i64 e)∧w.frozen? ⟨B,0,none⟩=false∧Hq B A w∧Own3 B w.heap.size
theorem pkt {B:Nat}{e s:Int}{A:Ask}{w0 w:World} (L:Lt B e A w0) (T:Trn B s w0 w):Pk B s A w0 w :=
 have l:=L.turn T
 have o:=own5 l.st.lt
 ⟨T,l,l.st,⟨T.le,l.st.lt⟩,⟨o.1,o.2.1⟩,l.st.cell,l.st.free,⟨l.cells.q1,l.cells.q2,l.cells.q3,l.cells.q4,l.cells.q5,l.cells.q6,l.cells.q7,l.cells.q8,l.cells.q9⟩,o.2.2⟩
theorem pkx {B:Nat}{e s s':Int}{A:Ask}{w0 w w1 w':World} (L:Lt B e A w0) (t:Trn B s w0 w) (k:Kp w0.heap.size w w1) (u:Trn B s' w1 w'):Pk B s' A w0 w':=pkt L (t.nx k u)
theorem pkb {B:Nat}{e s:Int}{A:Ask}{w0 w w1 w':World} (L:Lt B e A w0) (t:Trn B s w0 w) (k:Kp w0.heap.size w w1) (u:Below w1.heap.size w1 w'):Pk B s A w0 w':=pkt L (t.nb k u)
theorem pkn {B:Nat}{e s:Int}{A:Ask}{w0 w E w':World} (L:Lt B e A w0) (t:Trn B s w0 w) (h:w'=E) (k:Kp w0.heap.size w E):Pk B s A w0 w':=pkt L (t.kp (h▸k))
def Is (R T:Res):Prop:=R=T
theorem is_rfl (R:Res):Is R R:=rfl
theorem Is.out {R T:Res} (h:Is R T):R=T:=h
theorem is_ex (T:Res):∃R,Is R T:=⟨T,rfl⟩
theorem Gives.to {f:FuncId}{args:Array Value}{B:Nat}{e:Int}{R T:Res} (g:Gives f args B e T) (h:Is R T):Gives f args B e R:=by cases h;exact g
theorem Is.fine {R T:Res} (h:Is R T) (hT:Fine T):Fine R:=by cases h;exact hT
abbrev LGives (f:FuncId) (args:Array Value) (B:Nat) (e:Int) (A:Ask) (T:Res):Prop:=∀w,Lt B e A w→Calls Tryz.prog f args w fun E w' =>
 E = .returned (.agg #[.complex .f64 (fl T.a) (fl T.b),.int .i64 T.c])∧Trn B T.q w w'
theorem LGives.to {f:FuncId}{args:Array Value}{B:Nat}{e:Int}{A:Ask}{R T:Res} (g:LGives f args B e A T) (h:Is R T):LGives f args B e A R:=by cases h;exact g
end Go.Proofs.YticobgianbecpaaGreatDoor
