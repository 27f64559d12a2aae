/- FitNarrower returns true for every setting, all boxes, every substrate and dimension: what would be read of boxes meets what would be read of their halves. No condition. -/
import Derived.Test.YtjbfaaolfonmaaaGreatRows
import Derived.Test.YtjbfaaolfonmaaaGreatNarrow
import Derived.Test.YtjbfaaolfonmaaaGreatOpen
import Derived.ProofKit
import Derived.Lib.SmallJoins
namespace Go.Proofs.YtjbfaaolfonmaaaGreat.fitNarrower
open Go.ChangeShapes Go.WideShapes Go.ChangeAt Go.RowKit Go.Joins
theorem own:ownKnob Tryz.prog.godebug=none:=by kernel_rfl
theorem laidOut:laidOutB Tryz.prog=true:=by kernel_rfl
set_option maxRecDepth 100000 in
theorem lifted (os:Os) (started:os.Started) (H:Type) (enc:TypeId × Value→H) :
  ReturnsInHanded {} Tryz.checked os 4 .any (Rows.fitNarrowerSpec.pre6 enc Tryz.prog Tryz.f4 Rows.fitNarrowerRow.domain false) (Rows.fitNarrowerSpec.post enc Tryz.prog Tryz.f4 false true false false):=by
 refine returnsInHanded_of_change (C:=Tryz.checked) own started (by kernel_rfl) Tryz.func4
  (ChangeSpec.witness6 (enc:=enc) (C:=Tryz.checked) false ⟨#[],#[.agg #[.int .i64 0,.int .i64 0,.int .i64 0],.slice none 0 0,.agg #[.int .i64 0,.int .i64 0,.int .i64 0]],[]⟩ 8 (by kernel_rfl) (by kernel_rfl) (by kernel_rfl) (by kernel_rfl)) ?_
 intro W base args ds gs before hval0 hW hcnd _
 have hval:∀(j:Nat) t v,Tryz.f4.params[j]?=some t→args[j]?=some v→Value.okWide Tryz.prog W .any base t v:=hval0
 have hW':=hW
 obtain⟨p,q,hA0,hV,rfl,hfz,hnd⟩:=hW
 have hA:DataW.TrodAll enc Tryz.prog W 0 (fun _=>true) true Tryz.f4.params.toList args.toList ds p:=hA0
 rw[Tryz.params4]at hA hval
 obtain⟨v0,vs0,d0,ds0,p0,q0,hargs,rfl,rfl,h0,r0⟩:=trodAll_cons hA
 obtain⟨v1,vs1,d1,ds1,p1,q1,rfl,rfl,rfl,h1,r1⟩:=trodAll_cons r0
 obtain⟨v2,vs2,d2,ds2,p2,q2,rfl,rfl,rfl,h2,r2⟩:=trodAll_cons r1
 obtain⟨rfl,rfl,rfl⟩:=trodAll_nil r2
 obtain rfl:args=#[v0,v1,v2]:=by cases args;simp_all
 obtain⟨rfl,rfl⟩:=trodVars_none hV
 have k0:=h0
 have lt0:∀x∈p0,x.block<W.heap.size:=by obtain⟨m,hm⟩:=k0;exact DataW.trod_lt m _ _ _ hm
 have k1:=h1
 have lt1:∀x∈p1,x.block<W.heap.size:=by obtain⟨m,hm⟩:=k1;exact DataW.trod_lt m _ _ _ hm
 have k2:=h2
 have lt2:∀x∈p2,x.block<W.heap.size:=by obtain⟨m,hm⟩:=k2;exact DataW.trod_lt m _ _ _ hm
 obtain⟨l0,hl0,rfl⟩:=open_flat (n:=3) (fun h=>by obtain⟨cs,h1,h2⟩:=okWide_struct Tryz.underlying25 h;exact⟨cs,h1,h2.trans (by kernel_rfl)⟩) (by kernel_rfl) (hval 0 25 v0 rfl rfl) h0
 obtain⟨wv,ix,si,rfl⟩:=list3 hl0
 obtain⟨pa,cap,ls,rfl,hl1,hc1,hp1,hR1⟩:=open_boxes Tryz.underlying26 (by kernel_rfl) (by kernel_rfl) (hval 1 26 v1 rfl rfl) h1
 obtain⟨l2,hl2,rfl⟩:=open_flat (n:=3) (fun h=>by obtain⟨cs,h1,h2⟩:=okWide_struct Tryz.underlying45 h;exact⟨cs,h1,h2.trans (by kernel_rfl)⟩) (by kernel_rfl) (hval 2 45 v2 rfl rfl) h2
 obtain⟨oi,ol,d,rfl⟩:=list3 hl2
 clear hA0 hval0
 refine(fitNarrower_any wv ix si oi ol d pa ls cap hp1 W hR1).mono fun e W' ⟨he,bel⟩ => ?_
 subst he
 exact⟨_,rfl,_,_,_,[],_,[],hW',trodAll_mk1 (shut_bool Tryz.underlying4 _),(trodAll_cons_mk (Below.trod laidOut (by kernel_rfl) (of_decide_eq_true (by kernel_rfl)) k0 bel lt0) (trodAll_cons_mk (Below.trod laidOut (by kernel_rfl) (of_decide_eq_true (by kernel_rfl)) k1 bel lt1) (trodAll_cons_mk (Below.trod laidOut (by kernel_rfl) (of_decide_eq_true (by kernel_rfl)) k2 bel lt2) trodAll_mk0))),rfl,bel.frame _,fun h=>by cases h⟩
theorem lookA:(Rows.fitNarrowerRow.inPlace==Tryz.prog.inPlace 4)=true:=by kernel_rfl
theorem lookB:(Rows.fitNarrowerRow.unfollowed==Tryz.prog.unfollowed 4)=true:=by kernel_rfl
theorem lookC:(Rows.fitNarrowerRow.recurses==Tryz.prog.recurses 4)=true:=by kernel_rfl
theorem lookD:(Rows.fitNarrowerRow.named==Tryz.prog.varsNamed 4)=true:=by kernel_rfl
theorem closed:joinedFacts Tryz.prog 4 Tryz.f4 Rows.fitNarrowerSpec Rows.fitNarrowerRow=true:=by
 unfold joinedFacts
 rw[lookA,lookB,lookC,lookD]
 kernel_rfl
theorem over:Rows.fitNarrowerRow.holds Tryz.pinned (OpenSpec.ofChange Rows.fitNarrowerSpec) :=
 OpenClaim.holds_of_wide 4 Tryz.f4 rfl rfl rfl rfl rfl rfl rfl ⟨rfl,rfl,rfl,rfl,rfl⟩ rfl rfl rfl rfl rfl (by kernel_rfl) Tryz.func4 closed
  (of_decide_eq_true (by kernel_rfl)) (by unfold Func.isWrapper;first|(rw[if_pos (by decide +kernel)];kernel_rfl)|(rw[if_neg (by decide +kernel)];exact⟨rfl,rfl⟩))
  (fun os started H enc _=>lifted os started H enc)
theorem proved:Rows.FitNarrowerSaid:=over
#print axioms proved
end Go.Proofs.YtjbfaaolfonmaaaGreat.fitNarrower
