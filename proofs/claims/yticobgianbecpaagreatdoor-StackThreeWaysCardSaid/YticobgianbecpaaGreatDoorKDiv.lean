/- Joined: DivLaw Len64 Div64 Div64All QuoLaw Scaled Quot QuotUp. -/
import Derived.Test.YticobgianbecpaaGreatDoorKAwake
import Derived.Lib.BitFns
import Derived.Lib.Tables
import Derived.Deep.Light
import Derived.Laws.BitsAllLaws
import Derived.Outline
import Derived.Test.YticobgianbecpaaGreatDoorKRef
namespace Go.Proofs.YticobgianbecpaaGreatDoor
theorem digit_start {Y K un un1:Nat} (hK:0<K) (h1:0<Y/K) (hu1:un1<K):(un*K+un1)/Y≤un/(Y/K):=by
 rw[Nat.le_div_iff_mul_le h1]
 have a:(un*K+un1)/Y*Y≤un*K+un1:=Nat.div_mul_le_self _ _
 have b:Y/K*K≤Y:=Nat.div_mul_le_self _ _
 have c:(un*K+un1)/Y*(Y/K)*K≤un*K+un1:=by
  rw[Nat.mul_assoc]
  exact Nat.le_trans (Nat.mul_le_mul_left _ b) a
 have d:(un*K+un1)/Y*(Y/K)≤(un*K+un1)/K:=(Nat.le_div_iff_mul_le hK).2 c
 have e:(un*K+un1)/K=un:=by rw[Nat.mul_comm,Nat.mul_add_div hK,Nat.div_eq_of_lt hu1,Nat.add_zero]
 omega
theorem digit_mul {Y K un un1 q rh:Nat} (h:un=q*(Y/K)+rh):q*Y+(K*rh+un1)=un*K+un1+q*(Y%K):=by
 have e:Y=Y/K*K+Y%K:=by have:=Nat.div_add_mod Y K;rw[Nat.mul_comm];omega
 have:q*Y=q*(Y/K)*K+q*(Y%K):=by
  conv=>lhs;rw[e]
  rw[Nat.mul_add,Nat.mul_assoc]
 rw[h,this,Nat.add_mul,Nat.mul_comm rh K]
 omega
theorem digit_ok {Y K un un1 q rh:Nat} (hY:0<Y) (h:un=q*(Y/K)+rh) (hg:(un*K+un1)/Y≤q) (hl:q*(Y%K)≤K*rh+un1):q=(un*K+un1)/Y:=by
 have e:=digit_mul (un1:=un1) h
 have:q≤(un*K+un1)/Y:=by rw[Nat.le_div_iff_mul_le hY];omega
 omega
theorem digit_great {Y K un un1 q rh:Nat} (hY:0<Y) (h:un=q*(Y/K)+rh) (hl:K*rh+un1<q*(Y%K)):(un*K+un1)/Y≤q-1:=by
 have e:=digit_mul (un1:=un1) h
 have:(un*K+un1)/Y<q:=by rw[Nat.div_lt_iff_lt_mul hY];omega
 omega
theorem digit_lt {Y K un un1:Nat} (hu:un<Y) (h1:un1<K):(un*K+un1)/Y<K:=by
 have hY:0<Y:=by omega
 rw[Nat.div_lt_iff_lt_mul hY]
 have:(un+1)*K≤Y*K:=Nat.mul_le_mul_right _ (by omega)
 rw[Nat.add_mul,Nat.one_mul]at this
 rw[Nat.mul_comm K Y]
 omega
theorem digit_less {d un q rh:Nat} (h:un=q*d+rh) (hq:1≤q):un=(q-1)*d+(rh+d):=by
 have:q*d=(q-1)*d+d:=by
  obtain⟨p,rfl⟩:∃p,q=p+1:=⟨q-1,by omega⟩
  rw[Nat.add_mul,Nat.one_mul];simp
 omega
theorem digit_bd {Y un q rh:Nat} (hY:9223372036854775808≤Y) (hY2:Y<18446744073709551616) (hu:un<Y) (h:un=q*(Y/4294967296)+rh):q≤4294967297:=by
 rcases Nat.lt_or_ge 4294967297 q with hq|hq
 ·have a:4294967298*(Y/4294967296)≤q*(Y/4294967296):=Nat.mul_le_mul_right _ hq
  omega
 ·exact hq
theorem digit_break {Y un un1 q rh:Nat} (hY:9223372036854775808≤Y) (hY2:Y<18446744073709551616) (hu:un<Y) (h:un=q*(Y/4294967296)+rh) (hq:1≤q)
  (hg:(un*4294967296+un1)/Y≤q-1) (hr:4294967296≤rh+Y/4294967296):q-1=(un*4294967296+un1)/Y:=by
 have hb:=digit_bd hY hY2 hu h
 refine digit_ok (by omega) (digit_less h hq) hg ?_
 have a:(q-1)*(Y%4294967296)≤4294967296*(Y%4294967296):=Nat.mul_le_mul_right _ (by omega)
 have b:4294967296*(Y%4294967296)≤4294967296*(rh+Y/4294967296):=Nat.mul_le_mul_left _ (by omega)
 omega
theorem two_digits {Y K un un1 un0:Nat} (hY:0<Y) :
  ((un*K+un1)*K+un0)/Y=(un*K+un1)/Y*K+((un*K+un1)%Y*K+un0)/Y∧((un*K+un1)*K+un0)%Y=((un*K+un1)%Y*K+un0)%Y:=by
 generalize un*K+un1=N
 have e:=Nat.div_add_mod N Y
 have:N*K+un0=Y*(N/Y*K)+(N%Y*K+un0):=by
  have:N*K=Y*(N/Y)*K+N%Y*K:=by conv=>lhs;rw[← e]
                               rw[Nat.add_mul]
  rw[this,Nat.mul_assoc];omega
 rw[this]
 exact⟨Nat.mul_add_div hY _ _,Nat.mul_add_mod _ _ _⟩
theorem scale_div {n y p:Nat} (hp:0<p):n*p/(y*p)=n/y∧n*p%(y*p)/p=n%y:=by
 constructor
 ·exact Nat.mul_div_mul_right n y hp
 ·rw[Nat.mul_mod_mul_right];exact Nat.mul_div_cancel _ hp
theorem words {hi lo p c:Nat} (hp:p*c=18446744073709551616) (_hlo:lo<18446744073709551616) :
  (hi*18446744073709551616+lo)*p=((hi*p+lo/c)*4294967296+lo*p%18446744073709551616/4294967296)*4294967296+lo*p%18446744073709551616%4294967296:=by
 have hp0:0<p:=Nat.pos_of_ne_zero (by rintro rfl;simp at hp)
 have hc0:0<c:=Nat.pos_of_ne_zero (by rintro rfl;simp at hp)
 have e1:lo*p/18446744073709551616=lo/c:=by rw[← hp,Nat.mul_comm lo p];exact Nat.mul_div_mul_left lo c hp0
 have e2:=Nat.div_add_mod (lo*p) 18446744073709551616
 have e3:=Nat.div_add_mod (lo*p%18446744073709551616) 4294967296
 rw[e1]at e2
 rw[Nat.add_mul,show hi*18446744073709551616*p=hi*p*18446744073709551616 from by rw[Nat.mul_right_comm]]
 omega
theorem high_word {hi lo p c y:Nat} (hp:p*c=18446744073709551616) (hlo:lo<18446744073709551616) (hy:hi<y):hi*p+lo/c<y*p:=by
 have hp0:0<p:=Nat.pos_of_ne_zero (by rintro rfl;simp at hp)
 have hc0:0<c:=Nat.pos_of_ne_zero (by rintro rfl;simp at hp)
 have a:lo/c<p:=by rw[Nat.div_lt_iff_lt_mul hc0];omega
 have b:(hi+1)*p≤y*p:=Nat.mul_le_mul_right _ (by omega)
 rw[Nat.add_mul,Nat.one_mul]at b
 omega
end Go.Proofs.YticobgianbecpaaGreatDoor
namespace Go.Proofs.YticobgianbecpaaGreatDoor
open Go.RowKit
theorem wadd (k a b:Nat) (hk:k≤56) (ha:a≤8) (hb:b=k+a):wrap64 ((k:Int)+wrap64 (a:Int))=(b:Int):=by
 unfold wrap64
 omega
theorem wwrap (a:Nat) (ha:a≤8):wrap64 (wrap64 (a:Int))=(a:Int):=by
 unfold wrap64
 omega
theorem wone (a:Nat) (ha:a≤8):wrap64 (a:Int)=(a:Int):=by
 unfold wrap64
 omega
theorem len8_at (y:Int) (h:y.toNat<Lib.len8tab.size):((Lib.len8tab[y.toNat]'h).toNat:Int)=Lib.len8 y:=by
 unfold Lib.len8
 rw[getElem?_pos Lib.len8tab y.toNat h]
 rfl
theorem len8_size:(Lib.len8tab.size:Int)=256:=by rw[Lib.len8tab_size];rfl
set_option maxRecDepth 1000000 in
set_option maxHeartbeats 32000000 in
theorem Len64_any (x:Int) (w:World) (h0:0≤x) (h1:x≤18446744073709551615) :
  Calls Tryz.prog 266 #[.int .u64 x] w fun e w'=>e = .returned (.int .i64 (Lib.bitLen x.toNat))∧w'=w:=by
 go_enter Tryz.func266,Tryz.ntmps266
 go_wp2
 all_goals first
  | (go_ret;refine⟨congrArg Ending.returned (congrArg (Value.int IntKind.i64) ?_),rfl⟩;go_light)
  | (exfalso
     go_light
     have hs:=len8_size
     omega)
 all_goals first
  | (rw[len8_at (x/4294967296/65536/256) _,Lib.len8_of (x/4294967296/65536/256) (by omega) (by omega)]
     have e:(x/4294967296/65536/256).toNat=x.toNat/72057594037927936:=by omega
     have l:=Lib.bitLen_le8' (x/4294967296/65536/256) (by omega) (by omega)
     have s:=Lib.bitLen_shift56 x.toNat (by omega) (by omega)
     rw[e]at l ⊢
     exact wadd 56 _ _ (by decide) l s)
  | (rw[len8_at (x/4294967296/65536) _,Lib.len8_of (x/4294967296/65536) (by omega) (by omega)]
     have e:(x/4294967296/65536).toNat=x.toNat/281474976710656:=by omega
     have l:=Lib.bitLen_le8' (x/4294967296/65536) (by omega) (by omega)
     have s:=Lib.bitLen_shift48 x.toNat (by omega) (by omega)
     rw[e]at l ⊢
     exact wadd 48 _ _ (by decide) l s)
  | (rw[len8_at (x/4294967296/256) _,Lib.len8_of (x/4294967296/256) (by omega) (by omega)]
     have e:(x/4294967296/256).toNat=x.toNat/1099511627776:=by omega
     have l:=Lib.bitLen_le8' (x/4294967296/256) (by omega) (by omega)
     have s:=Lib.bitLen_shift40 x.toNat (by omega) (by omega)
     rw[e]at l ⊢
     exact wadd 40 _ _ (by decide) l s)
  | (rw[len8_at (x/4294967296) _,Lib.len8_of (x/4294967296) (by omega) (by omega)]
     have e:(x/4294967296).toNat=x.toNat/4294967296:=by omega
     have l:=Lib.bitLen_le8' (x/4294967296) (by omega) (by omega)
     have s:=Lib.bitLen_shift32 x.toNat (by omega) (by omega)
     rw[e]at l ⊢
     exact wadd 32 _ _ (by decide) l s)
  | (rw[len8_at (x/65536/256) _,Lib.len8_of (x/65536/256) (by omega) (by omega)]
     have e:(x/65536/256).toNat=x.toNat/16777216:=by omega
     have l:=Lib.bitLen_le8' (x/65536/256) (by omega) (by omega)
     have s:=Lib.bitLen_shift24 x.toNat (by omega) (by omega)
     rw[e]at l ⊢
     exact wadd 24 _ _ (by decide) l s)
  | (rw[len8_at (x/65536) _,Lib.len8_of (x/65536) (by omega) (by omega)]
     have e:(x/65536).toNat=x.toNat/65536:=by omega
     have l:=Lib.bitLen_le8' (x/65536) (by omega) (by omega)
     have s:=Lib.bitLen_shift16 x.toNat (by omega) (by omega)
     rw[e]at l ⊢
     exact wadd 16 _ _ (by decide) l s)
  | (rw[len8_at (x/256) _,Lib.len8_of (x/256) (by omega) (by omega)]
     have e:(x/256).toNat=x.toNat/256:=by omega
     have l:=Lib.bitLen_le8' (x/256) (by omega) (by omega)
     have s:=Lib.bitLen_shift8 x.toNat (by omega) (by omega)
     rw[e]at l ⊢
     exact wadd 8 _ _ (by decide) l s)
  | (rw[len8_at (x) _,Lib.len8_of (x) (by omega) (by omega)]
     have l:=Lib.bitLen_le8' (x) (by omega) (by omega)
     first|exact wwrap _ l|exact wadd 0 _ _ (by decide) l (by omega)|exact wone _ l)
theorem bitLen_hi {x:Nat} (h0:0<x) (h:x<18446744073709551616):1≤Lib.bitLen x∧Lib.bitLen x≤64∧2^(Lib.bitLen x-1)≤x∧x<2^Lib.bitLen x:=by
 have b64:Lib.bitLen x≤64:=Lib.bitLen_le x 64 (by omega) h
 have b1:1≤Lib.bitLen x:=by have:=Lib.bitLen_half x (by omega) h;omega
 refine⟨b1,b64,?_,?_⟩
 ·rcases Nat.lt_or_ge x (2^(Lib.bitLen x-1))with k|k
  ·have:=Lib.bitLen_le x (Lib.bitLen x-1) (by omega) k;omega
  ·exact k
 ·rcases Nat.lt_or_ge x (2^Lib.bitLen x)with k|k
  ·exact k
  ·have s:=Lib.bitLen_shift (Lib.bitLen x) x k h
   have hp:0<2^Lib.bitLen x:=Nat.two_pow_pos _
   have q:0<x/2^Lib.bitLen x:=Nat.div_pos k hp
   have:=Lib.bitLen_half (x/2^Lib.bitLen x) (by omega) (Nat.lt_of_le_of_lt (Nat.div_le_self _ _) h)
   omega
set_option maxHeartbeats 1000000 in
theorem Lz64_any (y:Nat) (w:World) (h0:0<y) (h:y<18446744073709551616) :
  Calls Tryz.prog 247 #[.int .u64 y] w fun e w'=>e = .returned (.int .i64 ((64-Lib.bitLen y:Nat):Int))∧w'=w:=by
 have hb:=bitLen_hi h0 h
 have C:=Lib.hid (fun w=>Len64_any (y:Int) w (by omega) (by omega))
 rw[Int.toNat_natCast]at C
 obtain⟨b,hbb⟩:∃b,b=Lib.bitLen y:=⟨_,rfl⟩
 rw[← hbb]at hb C ⊢
 clear hbb
 obtain⟨b1,b2,_,_⟩:=hb
 go_enter Tryz.func247,Tryz.ntmps247
 go_wp2_with (go_at_call 266;(with_reducible refine(C.out _).mono ?_);rintro e w' ⟨rfl,rfl⟩)
 go_ret
 exact⟨ret_int (by omega),rfl⟩
end Go.Proofs.YticobgianbecpaaGreatDoor
namespace Go.Proofs.YticobgianbecpaaGreatDoor
open Go.RowKit
theorem ret_two {k l:IntKind}{a b c d:Int} (h:a=b) (h2:c=d):Ending.returned (.tuple #[.int k a,.int l c]) = .returned (.tuple #[.int k b,.int l d]):=by rw[h,h2]
def Dig (Y un u1 a1 q r:Nat):Prop:=un=q*a1+r∧(un*4294967296+u1)/Y≤q
theorem dig_step {Y un u1 a1 q r:Nat} (h:Dig Y un u1 a1 q r) (hq:1≤q) (hg:(un*4294967296+u1)/Y≤q-1):Dig Y un u1 a1 (q-1) (r+a1):=⟨digit_less h.1 hq,hg⟩
set_option maxRecDepth 100000 in
set_option maxHeartbeats 8000000 in
theorem Div64_core (hi lo y S Y a1 a0 un L u1 u0 q1 r1 Q R q2 r2 Q0 qq rr:Nat) (w:World) (h0:1≤hi) (hy:hi<y) (hS:S≤63)
  (lz:∀w,Calls Tryz.prog 247 #[.int .u64 y] w fun e w'=>e = .returned (.int .i64 (S:Nat))∧w'=w)
  (Y1:9223372036854775808≤Y) (Y2:Y<18446744073709551616) (Ha1:Hid (a1=Y/4294967296)) (Ha0:Hid (a0=Y%4294967296)) (a1p:0<a1) (a1b:a1<4294967296) (a0b:a0<4294967296)
  (u1b:u1<4294967296) (u0b:u0<4294967296) (HunY:Hid (un<Y)) (HRY:Hid (R<Y)) (HQ:Hid (Q=(un*4294967296+u1)/Y)) (HQ0:Hid (Q0=(R*4294967296+u0)/Y)) (Qb:Q<4294967296) (Q0b:Q0<4294967296)
  (D1:Hid (Dig Y un u1 a1 q1 r1)) (D2:Hid (Dig Y R u0 a1 q2 r2)) (r1b:r1<4294967296) (r2b:r2<4294967296)
  (hY:IntKind.u64.wrap ((y:Int)*2^S)=(Y:Nat)) (hY1:(Y:Int)/4294967296=(a1:Nat)) (hY0:bits .and .u64 (Y:Int) 4294967295=(a0:Nat))
  (hU:bits .or .u64 (IntKind.u64.wrap ((hi:Int)*2^S)) ((lo:Int)/2^(64-S))=(un:Nat))
  (hL:IntKind.u64.wrap ((lo:Int)*2^S)=(L:Nat)) (hL1:(L:Int)/4294967296=(u1:Nat)) (hL0:bits .and .u64 (L:Int) 4294967295=(u0:Nat))
  (hq1:IntKind.u64.wrap ((un:Int)/(a1:Int))=(q1:Nat)) (hr1:IntKind.u64.wrap ((un:Int)-IntKind.u64.wrap ((q1:Int)*(a1:Int)))=(r1:Nat))
  (hR:IntKind.u64.wrap (IntKind.u64.wrap (IntKind.u64.wrap ((un:Int)*4294967296)+(u1:Int))-IntKind.u64.wrap ((Q:Int)*(Y:Int)))=(R:Nat))
  (hq2:IntKind.u64.wrap ((R:Int)/(a1:Int))=(q2:Nat)) (hr2:IntKind.u64.wrap ((R:Int)-IntKind.u64.wrap ((q2:Int)*(a1:Int)))=(r2:Nat))
  (Hqq:Hid (qq=Q*4294967296+Q0))
  (hrr:IntKind.u64.wrap (IntKind.u64.wrap (IntKind.u64.wrap ((R:Int)*4294967296)+(u0:Int))-IntKind.u64.wrap ((Q0:Int)*(Y:Int)))/2^S=(rr:Nat)) :
  Calls Tryz.prog 220 #[.int .u64 hi,.int .u64 lo,.int .u64 y] w fun e w'=>e = .returned (.tuple #[.int .u64 (qq:Nat),.int .u64 (rr:Nat)])∧∃k,w'=w.drewN k:=by
 have LZ:=Lib.hid lz
 clear lz
 go_enter Tryz.func220,Tryz.ntmps220
 go_wp2_with (go_at_call 247;(with_reducible refine(LZ.out _).mono ?_);rintro e w' ⟨rfl,rfl⟩)
 go_loop [15,16] (fun t u=>∃q r:Nat,(r:Int)<4294967296∧(q:Int)≤4294967297∧Hid (Dig Y un u1 a1 q r)∧t = .int .u64 q∧u = .int .u64 r) (fun t _=>(intOf t).toNat)
 case atStart=>exact⟨q1,r1,by omega,by have:=digit_bd Y1 Y2 HunY.out (by rw[← Ha1.out];exact D1.out.1);omega,D1,rfl,rfl⟩
 case round =>
  obtain⟨q,r,rb,qb,HD,rfl,rfl⟩:=hrel
  obtain⟨m,hm⟩:∃m:Nat,m=q*a0:=⟨_,rfl⟩
  have Hm:=Lib.hid hm
  clear hm
  by_cases A:(4294967296:Int)≤(q:Int)
  ·have q1n:1≤q:=by omega
   have HG:Hid ((un*4294967296+u1)/Y≤q-1):=Lib.hid (by rw[← HQ.out];omega)
   have HS:=Lib.hid (dig_step HD.out q1n HG.out)
   have q1p:(1:Int)≤(q:Int):=by omega
   by_cases B:(4294967296:Int)≤(r:Int)+(a1:Int)
   ·have hQ:q-1=Q:=by rw[HQ.out];exact digit_break (rh:=r) Y1 Y2 HunY.out (by rw[← Ha1.out];exact HD.out.1) q1n HG.out (by rw[← Ha1.out];omega)
    have cq:(q:Int)-1=((Q:Nat):Int):=by omega
    clear hQ HS q1n
    go_wp2
    go_loop [18,16] (fun t u=>∃q r:Nat,(r:Int)<4294967296∧(q:Int)≤4294967297∧Hid (Dig Y R u0 a1 q r)∧t = .int .u64 q∧u = .int .u64 r) (fun t _=>(intOf t).toNat)
    case atStart=>exact⟨q2,r2,by omega,by have:=digit_bd Y1 Y2 HRY.out (by rw[← Ha1.out];exact D2.out.1);omega,D2,rfl,rfl⟩
    case round =>
     obtain⟨q,r,rb,qb,HD,rfl,rfl⟩:=hrel
     obtain⟨m,hm⟩:∃m:Nat,m=q*a0:=⟨_,rfl⟩
     have Hm:=Lib.hid hm
     clear hm
     by_cases A:(4294967296:Int)≤(q:Int)
     ·have q1n:1≤q:=by omega
      have HG:Hid ((R*4294967296+u0)/Y≤q-1):=Lib.hid (by rw[← HQ0.out];omega)
      have HS:=Lib.hid (dig_step HD.out q1n HG.out)
      have q1p:(1:Int)≤(q:Int):=by omega
      by_cases B:(4294967296:Int)≤(r:Int)+(a1:Int)
      ·have hQ:q-1=Q0:=by rw[HQ0.out];exact digit_break (rh:=r) Y1 Y2 HRY.out (by rw[← Ha1.out];exact HD.out.1) q1n HG.out (by rw[← Ha1.out];omega)
       have cq:(q:Int)-1=((Q0:Nat):Int):=by omega
       clear hQ HS q1n
       go_wp2
       go_ret2
       exact⟨ret_two (by have:=Hqq.out;omega) rfl,0,rfl⟩
      ·have q1h:=Lib.hid q1n
       clear q1n
       go_wp2
       go_round
       case rel=>have:=q1h.out;exact⟨q-1,r+a1,by omega,by omega,HS,by rw[show((q-1:Nat):Int)=(q:Int)-1 by omega],by go_num⟩
       case measure=>simp[intOf];omega
     ·have qa:IntKind.u64.wrap ((q:Int)*(a0:Int))=(m:Nat):=by
       rw[Hm.out]
       have:q*a0≤4294967295*4294967295:=Nat.mul_le_mul (by omega) (by omega)
       rw[Mul64.mulN,Mul64.wrapN _ (by omega)]
      by_cases C:4294967296*(r:Int)+(u0:Int)<(m:Int)
      ·have HG:Hid ((R*4294967296+u0)/Y≤q-1):=Lib.hid (digit_great (K:=4294967296) (rh:=r) (by omega) (by rw[← Ha1.out];exact HD.out.1) (by rw[← Ha0.out,← Hm.out];omega))
       have q1n:1≤q:=by
        rcases Nat.eq_zero_or_pos q with k|k
        ·have:=Hm.out;rw[k]at this;omega
        ·exact k
       have HS:=Lib.hid (dig_step HD.out q1n HG.out)
       have q1p:(1:Int)≤(q:Int):=by omega
       by_cases B:(4294967296:Int)≤(r:Int)+(a1:Int)
       ·have hQ:q-1=Q0:=by rw[HQ0.out];exact digit_break (rh:=r) Y1 Y2 HRY.out (by rw[← Ha1.out];exact HD.out.1) q1n HG.out (by rw[← Ha1.out];omega)
        have cq:(q:Int)-1=((Q0:Nat):Int):=by omega
        clear hQ HS q1n
        go_wp2
        go_ret2
        exact⟨ret_two (by have:=Hqq.out;omega) rfl,0,rfl⟩
       ·go_wp2
        go_round
        case rel=>exact⟨q-1,r+a1,by omega,by omega,HS,by rw[show((q-1:Nat):Int)=(q:Int)-1 by omega],by go_num⟩
        case measure=>simp[intOf];omega
      ·obtain rfl:q=Q0:=by rw[HQ0.out];exact digit_ok (K:=4294967296) (rh:=r) (by omega) (by rw[← Ha1.out];exact HD.out.1) HD.out.2 (by rw[← Ha0.out,← Hm.out];omega)
       go_wp2
       go_ret2
       exact⟨ret_two (by have:=Hqq.out;omega) rfl,0,rfl⟩
   ·have q1h:=Lib.hid q1n
    clear q1n
    go_wp2
    go_round
    case rel=>have:=q1h.out;exact⟨q-1,r+a1,by omega,by omega,HS,by rw[show((q-1:Nat):Int)=(q:Int)-1 by omega],by go_num⟩
    case measure=>simp[intOf];omega
  ·have qa:IntKind.u64.wrap ((q:Int)*(a0:Int))=(m:Nat):=by
    rw[Hm.out]
    have:q*a0≤4294967295*4294967295:=Nat.mul_le_mul (by omega) (by omega)
    rw[Mul64.mulN,Mul64.wrapN _ (by omega)]
   by_cases C:4294967296*(r:Int)+(u1:Int)<(m:Int)
   ·have HG:Hid ((un*4294967296+u1)/Y≤q-1):=Lib.hid (digit_great (K:=4294967296) (rh:=r) (by omega) (by rw[← Ha1.out];exact HD.out.1) (by rw[← Ha0.out,← Hm.out];omega))
    have q1n:1≤q:=by
     rcases Nat.eq_zero_or_pos q with k|k
     ·have:=Hm.out;rw[k]at this;omega
     ·exact k
    have HS:=Lib.hid (dig_step HD.out q1n HG.out)
    have q1p:(1:Int)≤(q:Int):=by omega
    by_cases B:(4294967296:Int)≤(r:Int)+(a1:Int)
    ·have hQ:q-1=Q:=by rw[HQ.out];exact digit_break (rh:=r) Y1 Y2 HunY.out (by rw[← Ha1.out];exact HD.out.1) q1n HG.out (by rw[← Ha1.out];omega)
     have cq:(q:Int)-1=((Q:Nat):Int):=by omega
     clear hQ HS q1n
     go_wp2
     go_loop [18,16] (fun t u=>∃q r:Nat,(r:Int)<4294967296∧(q:Int)≤4294967297∧Hid (Dig Y R u0 a1 q r)∧t = .int .u64 q∧u = .int .u64 r) (fun t _=>(intOf t).toNat)
     case atStart=>exact⟨q2,r2,by omega,by have:=digit_bd Y1 Y2 HRY.out (by rw[← Ha1.out];exact D2.out.1);omega,D2,rfl,rfl⟩
     case round =>
      obtain⟨q,r,rb,qb,HD,rfl,rfl⟩:=hrel
      obtain⟨m,hm⟩:∃m:Nat,m=q*a0:=⟨_,rfl⟩
      have Hm:=Lib.hid hm
      clear hm
      by_cases A:(4294967296:Int)≤(q:Int)
      ·have q1n:1≤q:=by omega
       have HG:Hid ((R*4294967296+u0)/Y≤q-1):=Lib.hid (by rw[← HQ0.out];omega)
       have HS:=Lib.hid (dig_step HD.out q1n HG.out)
       have q1p:(1:Int)≤(q:Int):=by omega
       by_cases B:(4294967296:Int)≤(r:Int)+(a1:Int)
       ·have hQ:q-1=Q0:=by rw[HQ0.out];exact digit_break (rh:=r) Y1 Y2 HRY.out (by rw[← Ha1.out];exact HD.out.1) q1n HG.out (by rw[← Ha1.out];omega)
        have cq:(q:Int)-1=((Q0:Nat):Int):=by omega
        clear hQ HS q1n
        go_wp2
        go_ret2
        exact⟨ret_two (by have:=Hqq.out;omega) rfl,0,rfl⟩
       ·have q1h:=Lib.hid q1n
        clear q1n
        go_wp2
        go_round
        case rel=>have:=q1h.out;exact⟨q-1,r+a1,by omega,by omega,HS,by rw[show((q-1:Nat):Int)=(q:Int)-1 by omega],by go_num⟩
        case measure=>simp[intOf];omega
      ·have qa:IntKind.u64.wrap ((q:Int)*(a0:Int))=(m:Nat):=by
        rw[Hm.out]
        have:q*a0≤4294967295*4294967295:=Nat.mul_le_mul (by omega) (by omega)
        rw[Mul64.mulN,Mul64.wrapN _ (by omega)]
       by_cases C:4294967296*(r:Int)+(u0:Int)<(m:Int)
       ·have HG:Hid ((R*4294967296+u0)/Y≤q-1):=Lib.hid (digit_great (K:=4294967296) (rh:=r) (by omega) (by rw[← Ha1.out];exact HD.out.1) (by rw[← Ha0.out,← Hm.out];omega))
        have q1n:1≤q:=by
         rcases Nat.eq_zero_or_pos q with k|k
         ·have:=Hm.out;rw[k]at this;omega
         ·exact k
        have HS:=Lib.hid (dig_step HD.out q1n HG.out)
        have q1p:(1:Int)≤(q:Int):=by omega
        by_cases B:(4294967296:Int)≤(r:Int)+(a1:Int)
        ·have hQ:q-1=Q0:=by rw[HQ0.out];exact digit_break (rh:=r) Y1 Y2 HRY.out (by rw[← Ha1.out];exact HD.out.1) q1n HG.out (by rw[← Ha1.out];omega)
         have cq:(q:Int)-1=((Q0:Nat):Int):=by omega
         clear hQ HS q1n
         go_wp2
         go_ret2
         exact⟨ret_two (by have:=Hqq.out;omega) rfl,0,rfl⟩
        ·go_wp2
         go_round
         case rel=>exact⟨q-1,r+a1,by omega,by omega,HS,by rw[show((q-1:Nat):Int)=(q:Int)-1 by omega],by go_num⟩
         case measure=>simp[intOf];omega
       ·obtain rfl:q=Q0:=by rw[HQ0.out];exact digit_ok (K:=4294967296) (rh:=r) (by omega) (by rw[← Ha1.out];exact HD.out.1) HD.out.2 (by rw[← Ha0.out,← Hm.out];omega)
        go_wp2
        go_ret2
        exact⟨ret_two (by have:=Hqq.out;omega) rfl,0,rfl⟩
    ·go_wp2
     go_round
     case rel=>exact⟨q-1,r+a1,by omega,by omega,HS,by rw[show((q-1:Nat):Int)=(q:Int)-1 by omega],by go_num⟩
     case measure=>simp[intOf];omega
   ·obtain rfl:q=Q:=by rw[HQ.out];exact digit_ok (K:=4294967296) (rh:=r) (by omega) (by rw[← Ha1.out];exact HD.out.1) HD.out.2 (by rw[← Ha0.out,← Hm.out];omega)
    go_wp2
    go_loop [18,16] (fun t u=>∃q r:Nat,(r:Int)<4294967296∧(q:Int)≤4294967297∧Hid (Dig Y R u0 a1 q r)∧t = .int .u64 q∧u = .int .u64 r) (fun t _=>(intOf t).toNat)
    case atStart=>exact⟨q2,r2,by omega,by have:=digit_bd Y1 Y2 HRY.out (by rw[← Ha1.out];exact D2.out.1);omega,D2,rfl,rfl⟩
    case round =>
     obtain⟨q,r,rb,qb,HD,rfl,rfl⟩:=hrel
     obtain⟨m,hm⟩:∃m:Nat,m=q*a0:=⟨_,rfl⟩
     have Hm:=Lib.hid hm
     clear hm
     by_cases A:(4294967296:Int)≤(q:Int)
     ·have q1n:1≤q:=by omega
      have HG:Hid ((R*4294967296+u0)/Y≤q-1):=Lib.hid (by rw[← HQ0.out];omega)
      have HS:=Lib.hid (dig_step HD.out q1n HG.out)
      have q1p:(1:Int)≤(q:Int):=by omega
      by_cases B:(4294967296:Int)≤(r:Int)+(a1:Int)
      ·have hQ:q-1=Q0:=by rw[HQ0.out];exact digit_break (rh:=r) Y1 Y2 HRY.out (by rw[← Ha1.out];exact HD.out.1) q1n HG.out (by rw[← Ha1.out];omega)
       have cq:(q:Int)-1=((Q0:Nat):Int):=by omega
       clear hQ HS q1n
       go_wp2
       go_ret2
       exact⟨ret_two (by have:=Hqq.out;omega) rfl,0,rfl⟩
      ·have q1h:=Lib.hid q1n
       clear q1n
       go_wp2
       go_round
       case rel=>have:=q1h.out;exact⟨q-1,r+a1,by omega,by omega,HS,by rw[show((q-1:Nat):Int)=(q:Int)-1 by omega],by go_num⟩
       case measure=>simp[intOf];omega
     ·have qa:IntKind.u64.wrap ((q:Int)*(a0:Int))=(m:Nat):=by
       rw[Hm.out]
       have:q*a0≤4294967295*4294967295:=Nat.mul_le_mul (by omega) (by omega)
       rw[Mul64.mulN,Mul64.wrapN _ (by omega)]
      by_cases C:4294967296*(r:Int)+(u0:Int)<(m:Int)
      ·have HG:Hid ((R*4294967296+u0)/Y≤q-1):=Lib.hid (digit_great (K:=4294967296) (rh:=r) (by omega) (by rw[← Ha1.out];exact HD.out.1) (by rw[← Ha0.out,← Hm.out];omega))
       have q1n:1≤q:=by
        rcases Nat.eq_zero_or_pos q with k|k
        ·have:=Hm.out;rw[k]at this;omega
        ·exact k
       have HS:=Lib.hid (dig_step HD.out q1n HG.out)
       have q1p:(1:Int)≤(q:Int):=by omega
       by_cases B:(4294967296:Int)≤(r:Int)+(a1:Int)
       ·have hQ:q-1=Q0:=by rw[HQ0.out];exact digit_break (rh:=r) Y1 Y2 HRY.out (by rw[← Ha1.out];exact HD.out.1) q1n HG.out (by rw[← Ha1.out];omega)
        have cq:(q:Int)-1=((Q0:Nat):Int):=by omega
        clear hQ HS q1n
        go_wp2
        go_ret2
        exact⟨ret_two (by have:=Hqq.out;omega) rfl,0,rfl⟩
       ·go_wp2
        go_round
        case rel=>exact⟨q-1,r+a1,by omega,by omega,HS,by rw[show((q-1:Nat):Int)=(q:Int)-1 by omega],by go_num⟩
        case measure=>simp[intOf];omega
      ·obtain rfl:q=Q0:=by rw[HQ0.out];exact digit_ok (K:=4294967296) (rh:=r) (by omega) (by rw[← Ha1.out];exact HD.out.1) HD.out.2 (by rw[← Ha0.out,← Hm.out];omega)
       go_wp2
       go_ret2
       exact⟨ret_two (by have:=Hqq.out;omega) rfl,0,rfl⟩
end Go.Proofs.YticobgianbecpaaGreatDoor
namespace Go.Proofs.YticobgianbecpaaGreatDoor
open Go.RowKit
theorem rest_wrap (n a:Nat) (ha:0<a) (hn:n<18446744073709551616):IntKind.u64.wrap ((n:Int)-IntKind.u64.wrap (((n/a:Nat):Int)*(a:Int)))=((n%a:Nat):Int):=by
 have d:=Nat.div_add_mod n a
 have l:n/a*a≤n:=Nat.div_mul_le_self n a
 have m:=Nat.mod_lt n ha
 have m2:n%a≤n:=Nat.mod_le n a
 rw[Mul64.mulN,Mul64.wrapN _ (by omega),IntKind.wrap_u64]
 have c:a*(n/a)=n/a*a:=Nat.mul_comm _ _
 omega
theorem big_wrap (A B D Z:Nat) (h:A*4294967296+B=Z*D+(A*4294967296+B)%D) (hd:0<D) (hd2:D<18446744073709551616) :
  IntKind.u64.wrap (IntKind.u64.wrap (IntKind.u64.wrap ((A:Int)*4294967296)+(B:Int))-IntKind.u64.wrap ((Z:Int)*(D:Int)))=(((A*4294967296+B)%D:Nat):Int):=by
 have l:=Nat.mod_lt (A*4294967296+B) hd
 rw[Mul64.mulN Z D]
 obtain⟨M,hM⟩:∃M,M=(A*4294967296+B)%D:=⟨_,rfl⟩
 obtain⟨ZD,hZ⟩:∃ZD,ZD=Z*D:=⟨_,rfl⟩
 rw[← hM]at h l ⊢
 rw[← hZ]at h ⊢
 clear hM hZ
 simp only[IntKind.wrap_u64]
 omega
theorem or_add {A B S:Nat} (hB:B<2^S):(A*2^S) ||| B=A*2^S+B:=by
 rw[← Nat.shiftLeft_eq,Nat.shiftLeft_add_eq_or_of_lt hB]
set_option maxRecDepth 100000 in
set_option maxHeartbeats 1000000 in
theorem Div64_all (hi lo y:Nat) (w:World) (hy:hi<y) (hlo:lo<18446744073709551616) (hy2:y<18446744073709551616) :
  Calls Tryz.prog 220 #[.int .u64 hi,.int .u64 lo,.int .u64 y] w fun e w'=>e = .returned (.tuple #[.int .u64 (((hi*18446744073709551616+lo)/y:Nat):Int),.int .u64 (((hi*18446744073709551616+lo)%y:Nat):Int)])∧∃k,w'=w.drewN k:=by
 by_cases h0:hi=0
 ·subst h0
  rw[Nat.zero_mul,Nat.zero_add]
  exact Div64_low lo y hlo (by omega) hy2 w
 ·have hb:=bitLen_hi (show 0<y by omega) hy2
  obtain⟨S,hS⟩:∃S,S=64-Lib.bitLen y:=⟨_,rfl⟩
  have lz:=fun w=>Lz64_any y w (by omega) hy2
  rw[← hS]at lz
  have hS2:S≤63:=by omega
  have hSb:Lib.bitLen y=64-S:=by omega
  rw[hSb]at hb
  obtain⟨_,_,b3,b4⟩:=hb
  have hpc:2^S*2^(64-S)=18446744073709551616:=by rw[← Nat.pow_add,show S+(64-S)=64 by omega]
  have hpc':2^S*2^(64-S-1)=9223372036854775808:=by rw[← Nat.pow_add,show S+(64-S-1)=63 by omega]
  have hp0:0<2^S:=Nat.two_pow_pos S
  have hc0:0<2^(64-S):=Nat.two_pow_pos _
  have Y1:9223372036854775808≤y*2^S:=by rw[← hpc',Nat.mul_comm];exact Nat.mul_le_mul_right _ b3
  have Y2:y*2^S<18446744073709551616:=by rw[← hpc,Nat.mul_comm];exact Nat.mul_lt_mul_of_pos_left b4 hp0
  have hw:=words (hi:=hi) hpc hlo
  have hh:=high_word (hi:=hi) hpc hlo hy
  have sc:=scale_div (n:=hi*18446744073709551616+lo) (y:=y) hp0
  have lo1:lo/2^(64-S)<2^S:=by rw[Nat.div_lt_iff_lt_mul hc0];omega
  have hA:hi*2^S<18446744073709551616:=Nat.lt_of_le_of_lt (Nat.le_add_right _ _) (Nat.lt_trans hh Y2)
  have hor:=or_add (A:=hi) lo1
  have cP:((2:Int)^S)=((2^S:Nat):Int):=by push_cast;rfl
  have cC:((2:Int)^(64-S))=((2^(64-S):Nat):Int):=by push_cast;rfl
  rw[hw]at sc
  obtain⟨Y,hY⟩:∃Y,Y=y*2^S:=⟨_,rfl⟩
  obtain⟨un,hun⟩:∃un,un=hi*2^S+lo/2^(64-S):=⟨_,rfl⟩
  obtain⟨L,hL⟩:∃L,L=lo*2^S%18446744073709551616:=⟨_,rfl⟩
  rw[← hY]at Y1 Y2 hh sc
  rw[← hun]at hh sc hor
  rw[← hL]at sc
  have td:=two_digits (Y:=Y) (K:=4294967296) (un:=un) (un1:=L/4294967296) (un0:=L%4294967296) (by omega)
  have Lb:L<18446744073709551616:=by rw[hL];exact Nat.mod_lt _ (by omega)
  have a1b:Y/4294967296<4294967296:=by omega
  have a1p:0<Y/4294967296:=by omega
  have Ry:=Nat.mod_lt (un*4294967296+L/4294967296) (show Y>0 by omega)
  have Q1:=digit_lt (Y:=Y) (K:=4294967296) (un:=un) (un1:=L/4294967296) hh (by omega)
  have Q2:=digit_lt (Y:=Y) (K:=4294967296) (un:=(un*4294967296+L/4294967296)%Y) (un1:=L%4294967296) Ry (by omega)
  have s1:=digit_start (Y:=Y) (K:=4294967296) (un:=un) (un1:=L/4294967296) (by omega) a1p (by omega)
  have s2:=digit_start (Y:=Y) (K:=4294967296) (un:=(un*4294967296+L/4294967296)%Y) (un1:=L%4294967296) (by omega) a1p (by omega)
  have e1:=Nat.div_add_mod un (Y/4294967296)
  have e2:=Nat.div_add_mod ((un*4294967296+L/4294967296)%Y) (Y/4294967296)
  have m1:=Nat.mod_lt un a1p
  have m2:=Nat.mod_lt ((un*4294967296+L/4294967296)%Y) a1p
  have eN:=Nat.div_add_mod (un*4294967296+L/4294967296) Y
  have eM:=Nat.div_add_mod ((un*4294967296+L/4294967296)%Y*4294967296+L%4294967296) Y
  have hle1:un/(Y/4294967296)≤un:=Nat.div_le_self _ _
  have hle2:(un*4294967296+L/4294967296)%Y/(Y/4294967296)≤(un*4294967296+L/4294967296)%Y:=Nat.div_le_self _ _
  rw[← sc.1,← sc.2,td.1,td.2]
  refine Div64_core hi lo y S Y (Y/4294967296) (Y%4294967296) un L (L/4294967296) (L%4294967296) (un/(Y/4294967296)) (un%(Y/4294967296)) ((un*4294967296+L/4294967296)/Y) ((un*4294967296+L/4294967296)%Y) ((un*4294967296+L/4294967296)%Y/(Y/4294967296)) ((un*4294967296+L/4294967296)%Y%(Y/4294967296)) (((un*4294967296+L/4294967296)%Y*4294967296+L%4294967296)/Y) _ _ w (by omega) hy hS2 lz
   Y1 Y2 (Lib.hid rfl) (Lib.hid rfl) a1p a1b (by omega) (by omega) (by omega) (Lib.hid hh) (Lib.hid Ry) (Lib.hid rfl) (Lib.hid rfl) Q1 Q2
   (Lib.hid ⟨by rw[Nat.mul_comm (un/(Y/4294967296))];omega,s1⟩) (Lib.hid ⟨by rw[Nat.mul_comm ((un*4294967296+L/4294967296)%Y/(Y/4294967296))];omega,s2⟩) (by omega) (by omega)
   ?_ (by omega) (Mul64.maskN Y Y2) ?_ ?_ (by omega) (Mul64.maskN L Lb) ?_ (rest_wrap un (Y/4294967296) a1p (by omega)) ?_ ?_ (rest_wrap _ (Y/4294967296) a1p (by omega)) (Lib.hid rfl) ?_
  ·rw[cP,Mul64.mulN,← hY];exact Mul64.wrapN _ Y2
  ·rw[cP,cC,Mul64.mulN,Mul64.wrapN _ hA,← Int.natCast_ediv,u64_or_nat _ _ hA (by omega),hor]
  ·rw[cP,Mul64.mulN,Mul64.wrapM,← hL]
  ·rw[← Int.natCast_ediv,Mul64.wrapN _ (by omega)]
  ·exact big_wrap un (L/4294967296) Y _ (by rw[Nat.mul_comm ((un*4294967296+L/4294967296)/Y)];omega) (by omega) Y2
  ·rw[← Int.natCast_ediv,Mul64.wrapN _ (by omega)]
  ·rw[big_wrap _ (L%4294967296) Y _ (by rw[Nat.mul_comm (((un*4294967296+L/4294967296)%Y*4294967296+L%4294967296)/Y)];omega) (by omega) Y2,cP,← Int.natCast_ediv]
end Go.Proofs.YticobgianbecpaaGreatDoor
namespace Go.Proofs.YticobgianbecpaaGreatDoor
theorem round_neg {a b:Int} (hb:0<b):(2 * -a+b)/(2*b) = -(if b<2*(a%b)then a/b+1 else a/b)∧((-a)%b=0↔a%b=0):=by
 have h1:=Int.mul_ediv_add_emod a b
 have h2:=Int.emod_nonneg a (show b≠0 by omega)
 have h3:=Int.emod_lt_of_pos a hb
 rw[round_eq hb]
 by_cases h0:a%b=0
 ·have e:=(Int.ediv_emod_unique (a := -a) (b:=b) (r:=0) (q := -(a/b)) hb).2 ⟨by rw[Int.mul_neg];omega,by omega,by omega⟩
  rw[e.1,e.2,h0]
  exact⟨by rw[if_neg (by omega),if_neg (by omega)],by simp⟩
 ·have e:=(Int.ediv_emod_unique (a := -a) (b:=b) (r:=b-a%b) (q := -(a/b)-1) hb).2 ⟨by rw[Int.mul_sub,Int.mul_neg];omega,by omega,by omega⟩
  rw[e.1,e.2]
  refine⟨?_,by omega⟩
  by_cases h:b<2*(a%b)
  ·rw[if_neg (by omega),if_pos h];omega
  ·rw[if_pos (by omega),if_neg h];omega
theorem round_size {N b:Int}{u rest:Nat} (hb:0<b) (hu:(u:Int)=(N.natAbs:Int)/b) (hr:(rest:Int)=(N.natAbs:Int)%b) :
  (2*N+b)/(2*b)=(if 0≤N then(if b≤2*rest then(u:Int)+1 else u)else -(if b<2*(rest:Int)then(u:Int)+1 else u))∧(N%b != 0)=(rest != 0):=by
 by_cases h:0≤N
 ·rw[if_pos h]
  rw[show(N.natAbs:Int)=N by omega]at hu hr
  rw[round_eq hb,hu,hr]
  refine⟨?_,?_⟩
  ·by_cases c:b≤2*(N%b)
   ·rw[if_pos (by omega),if_pos c]
   ·rw[if_neg (by omega),if_neg c]
  ·rw[Bool.eq_iff_iff];simp;omega
 ·rw[if_neg h]
  have e : -((N.natAbs:Int))=N:=by omega
  have k:=round_neg (a:=(N.natAbs:Int)) hb
  rw[e]at k
  rw[k.1,hu,hr]
  refine⟨rfl,?_⟩
  have:=k.2
  rw[Bool.eq_iff_iff];simp;omega
theorem up_size {N b:Int} (hb:0<b) : -(-N/b)=if N%b=0 then N/b else N/b+1:=by
 have h1:=Int.mul_ediv_add_emod N b
 have h2:=Int.emod_nonneg N (show b≠0 by omega)
 have h3:=Int.emod_lt_of_pos N hb
 by_cases h0:N%b=0
 ·have e:=(Int.ediv_emod_unique (a := -N) (b:=b) (r:=0) (q := -(N/b)) hb).2 ⟨by rw[Int.mul_neg];omega,by omega,by omega⟩
  rw[if_pos h0,e.1];omega
 ·have e:=(Int.ediv_emod_unique (a := -N) (b:=b) (r:=b-N%b) (q := -(N/b)-1) hb).2 ⟨by rw[Int.mul_sub,Int.mul_neg];omega,by omega,by omega⟩
  rw[if_neg h0,e.1];omega
end Go.Proofs.YticobgianbecpaaGreatDoor
namespace Go.Proofs.YticobgianbecpaaGreatDoor
open Go.RowKit
theorem double_div {N b:Int} (hb:0<b):(b≤2*(N%b)→2*N/b=2*(N/b)+1∧2*N%b=2*(N%b)-b)∧(2*(N%b)<b→2*N/b=2*(N/b)∧2*N%b=2*(N%b)):=by
 have h1:=Int.mul_ediv_add_emod N b
 have h2:=Int.emod_nonneg N (show b≠0 by omega)
 have h3:=Int.emod_lt_of_pos N hb
 constructor
 ·intro h
  have e:b*(2*(N/b)+1)=2*(b*(N/b))+b:=by rw[Int.mul_add,Int.mul_one,Int.mul_left_comm]
  exact(Int.ediv_emod_unique hb).2 ⟨by rw[e];omega,by omega,by omega⟩
 ·intro h
  have e:b*(2*(N/b))=2*(b*(N/b)):=by rw[Int.mul_left_comm]
  exact(Int.ediv_emod_unique hb).2 ⟨by rw[e];omega,by omega,by omega⟩
theorem scaled_bound {n b:Int} (hb:0<b) (h1 : -268435456≤n/b) (h2:n/b≤268435456) (T:Int) (t0:1≤T) (t1:T≤1048576) :
  -281474976710656≤n*T/b∧n*T/b≤281474978000000:=by
 have a1 : -268435456*b≤n:=(Int.le_ediv_iff_mul_le hb).1 h1
 have a2:n<(268435457)*b:=by have:=Int.ediv_lt_iff_lt_mul (a:=n) (b:=268435457) hb;exact this.1 (by omega)
 constructor
 ·rw[Int.le_ediv_iff_mul_le hb]
  have c1 : -268435456*b*T≤n*T:=Int.mul_le_mul_of_nonneg_right a1 (by omega)
  have c2 : -268435456*b*1048576 ≤ -268435456*b*T:=Int.mul_le_mul_of_nonpos_left (by omega) t1
  omega
 ·have c1:n*T<268435457*b*T:=Int.mul_lt_mul_of_pos_right a2 (by omega)
  have c2:268435457*b*T≤268435457*b*1048576:=Int.mul_le_mul_of_nonneg_left t1 (by omega)
  have:n*T/b<281474978000001:=by rw[Int.ediv_lt_iff_lt_mul hb];omega
  omega
set_option maxHeartbeats 1000000 in
theorem bScaled_any (n b:Int) (w:World) (h1 : -4611686018427387904≤n) (h2:n≤4611686018427387904) (b1:1≤b) (b2:b≤1152921504606846976) (q1 : -268435456≤n/b) (q2:n/b≤268435456) :
  Calls Tryz.prog 227 #[.int .i64 n,.int .i64 b] w fun e w'=>e = .returned (.tuple #[.int .i64 (n*1048576/b),.int .i64 (n*1048576%b)])∧w'=w:=by
 obtain⟨q,r,hq,hn,r0,r1,hr⟩:=rounded_aux n b (by omega)
 have hb0:(0:Int)<b:=by omega
 have HB:Hid (∀T:Int,1≤T→T≤1048576 → -281474976710656≤n*T/b∧n*T/b≤281474978000000):=Lib.hid (fun T t0 t1=>scaled_bound hb0 q1 q2 T t0 t1)
 rw[hq]at q1 q2
 have HQ:=Lib.hid hq
 have HR:=Lib.hid hr
 have p0:n-q*b≤r:=by omega
 have p1:r≤n-q*b:=by omega
 have HN:=Lib.hid (show n-q*b=r by omega)
 have p2 : -6917529027641081856≤q*b∧q*b≤6917529027641081856:=by omega
 clear hq hn hr
 go_enter Tryz.func227,Tryz.ntmps227
 go_wp2_with fail
 refine(bFloor_any _ _ _ (by omega) (by omega) (by omega) (by omega)).mono ?_
 rintro e w' ⟨rfl,rfl⟩
 rw[HQ.out]
 go_wp2
 rw[HN.out]
 go_loop [6,7,8] (fun qs rs i=>∃(k:Nat) (Q R T:Int),k≤20∧i = .int .i64 k∧qs = .int .i64 Q∧rs = .int .i64 R∧0≤R∧R<b∧Hid (T=((2^k:Nat):Int)∧n*T/b=Q∧n*T%b=R)) (fun _ _ i=>20-(intOf i).toNat)
 case atStart=>exact⟨0,q,r,1,by omega,rfl,rfl,rfl,r0,r1,Lib.hid ⟨rfl,by rw[Int.mul_one];exact HQ.out,by rw[Int.mul_one];exact HR.out⟩⟩
 case round =>
  obtain⟨k,Q,R,T,hk,rfl,rfl,rfl,R0,R1,hH⟩:=hrel
  clear p0 p1 p2
  have hT:1≤T∧T≤1048576:=by
   obtain⟨hT,_,_⟩:=hH.out
   have h1:2^k≤2^20:=Nat.pow_le_pow_right (by omega) hk
   have h2:0<2^k:=Nat.two_pow_pos k
   omega
  have hQ : -281474976710656≤Q∧Q≤281474978000000:=by
   have:=HB.out T hT.1 hT.2
   rw[hH.out.2.1]at this
   exact this
  by_cases hlt:k<20
  ·have hd:=double_div (N:=n*T) hb0
   rw[hH.out.2.1,hH.out.2.2,show 2*(n*T)=n*(2*T)from by rw[Int.mul_left_comm]]at hd
   have hT2:2*T=((2^(k+1):Nat):Int):=by rw[hH.out.1,Nat.pow_succ];omega
   have HD:=Lib.hid hd
   have HT2:=Lib.hid hT2
   clear hd hT2 hH hT
   by_cases hc:b≤2*R
   ·go_wp2
    go_round
    case rel=>exact⟨k+1,2*Q+1,2*R-b,2*T,by omega,by go_num,rfl,rfl,by omega,by omega,Lib.hid ⟨HT2.out,(HD.out.1 hc).1,(HD.out.1 hc).2⟩⟩
    case measure=>simp[intOf];omega
   ·go_wp2
    go_round
    case rel=>exact⟨k+1,2*Q,2*R,2*T,by omega,by go_num,rfl,rfl,by omega,by omega,Lib.hid ⟨HT2.out,(HD.out.2 (by omega)).1,(HD.out.2 (by omega)).2⟩⟩
    case measure=>simp[intOf];omega
  ·have h20:k=20:=by omega
   have hT':T=1048576:=by rw[hH.out.1,h20];rfl
   have E:=hH.out
   rw[hT']at E
   have HE:=Lib.hid E
   clear hH hT h20 hT' E
   go_wp2
   go_ret2
   exact⟨by rw[← HE.out.2.1,← HE.out.2.2];rfl,rfl⟩
def srq (n b:Int):Int:=(2*(n*1048576)+b)/(2*b)
set_option maxHeartbeats 1000000 in
theorem bScaledRounded_any (n b:Int) (w:World) (h1 : -4611686018427387904≤n) (h2:n≤4611686018427387904) (b1:1≤b) (b2:b≤1152921504606846976) (q1 : -268435456≤n/b) (q2:n/b≤268435456) :
  Calls Tryz.prog 177 #[.int .i64 n,.int .i64 b] w fun e w'=>e = .returned (.tuple #[.int .i64 (srq n b),.bool (n*1048576%b != 0)])∧w'=w:=by
 have hQ:=scaled_bound (by omega) q1 q2 1048576 (by omega) (by omega)
 have hx:=round_eq (n:=n*1048576) (b:=b) (by omega)
 have hr0:=Int.emod_nonneg (n*1048576) (show b≠0 by omega)
 have hr1:=Int.emod_lt_of_pos (n*1048576) (show 0<b by omega)
 have C:=Lib.hid (fun w=>bScaled_any n b w h1 h2 b1 b2 q1 q2)
 unfold srq
 rw[hx]
 clear hx
 generalize n*1048576/b=Q at *
 generalize n*1048576%b=R at *
 by_cases h:b-R≤R
 ·have hz:(R != 0)=true:=by simp;omega
  go_enter Tryz.func177,Tryz.ntmps177
  go_wp2_with fail
  refine(C.out _).mono ?_
  rintro e w' ⟨rfl,rfl⟩
  go_wp2
  go_ret2
  exact⟨ret_pair_ib (by first|rfl|rw[if_pos h]) (by first|rfl|(simp;done)|(simp;omega)),rfl⟩
 ·by_cases hz:R=0
  ·subst hz
   go_enter Tryz.func177,Tryz.ntmps177
   go_wp2_with fail
   refine(C.out _).mono ?_
   rintro e w' ⟨rfl,rfl⟩
   go_wp2
   go_ret2
   exact⟨ret_pair_ib (by first|rfl|rw[if_neg (by omega)]) (by simp),rfl⟩
  ·have hz':(R != 0)=true:=by simpa using hz
   go_enter Tryz.func177,Tryz.ntmps177
   go_wp2_with fail
   refine(C.out _).mono ?_
   rintro e w' ⟨rfl,rfl⟩
   go_wp2
   go_ret2
   exact⟨ret_pair_ib (by first|rfl|rw[if_neg (by omega)]) (by first|rfl|(simp;done)|(simp;omega)),rfl⟩
set_option maxHeartbeats 1000000 in
theorem bScaled_big (n b:Int) (w:World) (h1 : -4611686018427387904≤n) (h2:n≤4611686018427387904) (b1:1≤b) (b2:b≤1152921504606846976) (hq:n/b < -268435456∨268435456<n/b) :
  Calls Tryz.prog 227 #[.int .i64 n,.int .i64 b] w fun e w'=>e = .returned (.tuple #[.int .i64 (n/b),.int .i64 (n%b)])∧w'=w:=by
 have m4 : -4611686018427387904≤n/b∧n/b≤4611686018427387904:=⟨ediv_lo b1 h1 (by omega),ediv_hi b1 h2 (by omega)⟩
 obtain⟨q,r,hq',hn,r0,r1,hr⟩:=rounded_aux n b (by omega)
 rw[hq']at hq m4
 have HQ:=Lib.hid hq'
 have HR:=Lib.hid hr
 have p0:n-q*b≤r:=by omega
 have p1:r≤n-q*b:=by omega
 have HN:=Lib.hid (show n-q*b=r by omega)
 have p2 : -6917529027641081856≤q*b∧q*b≤6917529027641081856:=by omega
 clear hq' hn hr
 rcases hq with hq|hq
 all_goals
  go_enter Tryz.func227,Tryz.ntmps227
  go_wp2_with fail
  refine(bFloor_any _ _ _ (by omega) (by omega) (by omega) (by omega)).mono ?_
  rintro e w' ⟨rfl,rfl⟩
  rw[HQ.out]
  go_wp2
  go_ret2
  exact⟨by rw[HQ.out,HR.out,← HN.out];rfl,rfl⟩
end Go.Proofs.YticobgianbecpaaGreatDoor
namespace Go.Proofs.YticobgianbecpaaGreatDoor
open Go.RowKit
theorem natne (r:Nat):((r:Int) != 0)=(r != 0):=by rw[Bool.eq_iff_iff];simp
theorem high_great {a b:Nat} (hb:0<b) (h:b≤a*1048576/18446744073709551616):2147483647<a*1048576/b:=by
 have h1:b*18446744073709551616≤a*1048576:=by
  have:=(Nat.le_div_iff_mul_le (show 0<18446744073709551616 by omega)).1 h
  exact this
 have:2147483648≤a*1048576/b:=by
  rw[Nat.le_div_iff_mul_le hb]
  omega
 omega
set_option maxHeartbeats 1000000 in
theorem quotient_great (n:Int) (b:Nat) (w:World) (n1 : -4611686018427387904≤n) (n2:n≤4611686018427387904) (b1:1≤b) (b2:b≤1152921504606846976) (h:2147483647<n.natAbs*1048576/b) :
  Calls Tryz.prog 167 #[.int .i64 n,.int .i64 1048576,.int .i64 b] w fun e w'=>e = .returned (.tuple #[.int .i64 2147483647,.bool false])∧∃k,w'=w.drewN k:=by
 have M:=fun w=>Mul64_any n.natAbs 1048576 (by omega) (by omega) w
 have DV:=Nat.div_add_mod (n.natAbs*1048576) 18446744073709551616
 have lo:n.natAbs*1048576%18446744073709551616<18446744073709551616:=Nat.mod_lt _ (by omega)
 have D:=fun(w:World) (hlt:n.natAbs*1048576/18446744073709551616<b)=>Div64_all (n.natAbs*1048576/18446744073709551616) (n.natAbs*1048576%18446744073709551616) b w hlt lo (by omega)
 rw[show n.natAbs*1048576/18446744073709551616*18446744073709551616+n.natAbs*1048576%18446744073709551616=n.natAbs*1048576 by omega]at D
 have hr:n.natAbs*1048576%b<b:=Nat.mod_lt _ (by omega)
 have hq:n.natAbs*1048576/b≤n.natAbs*1048576:=Nat.div_le_self _ _
 clear DV
 have hi:n.natAbs*1048576/18446744073709551616<18446744073709551616:=by omega
 generalize n.natAbs*1048576/b=u at *
 generalize n.natAbs*1048576%b=r at *
 generalize n.natAbs*1048576%18446744073709551616=L at *
 generalize n.natAbs*1048576/18446744073709551616=H at *
 have HM:=Lib.hid M
 clear M hq
 by_cases hlt:H<b
 ·have D':=fun w=>D w hlt
  have HD:=Lib.hid D'
  clear D D'
  go_enter Tryz.func167,Tryz.ntmps167
  go_wp2_with fail
  refine(size_any _ _ (by omega) (by omega)).mono ?_
  rintro e w' ⟨rfl,rfl⟩
  go_wp2_with fail
  refine(HM.out _).mono ?_
  rintro e w' ⟨rfl,rfl⟩
  go_wp2_with fail
  refine(HD.out _).mono ?_
  rintro e w' ⟨rfl,k,rfl⟩
  go_wp2
  go_ret2
  exact⟨rfl,_,rfl⟩
 ·clear D
  go_enter Tryz.func167,Tryz.ntmps167
  go_wp2_with fail
  refine(size_any _ _ (by omega) (by omega)).mono ?_
  rintro e w' ⟨rfl,rfl⟩
  go_wp2_with fail
  refine(HM.out _).mono ?_
  rintro e w' ⟨rfl,rfl⟩
  go_wp2
  go_ret2
  exact⟨rfl,0,rfl⟩
set_option maxHeartbeats 2000000 in
theorem quotient_small (n:Int) (b:Nat) (w:World) (n1 : -4611686018427387904≤n) (n2:n≤4611686018427387904) (b1:1≤b) (b2:b≤1152921504606846976) (h:n.natAbs*1048576/b≤2147483647) :
  Calls Tryz.prog 167 #[.int .i64 n,.int .i64 1048576,.int .i64 b] w fun e w'=>e = .returned (.tuple #[.int .i64 (srq n b),.bool (n*1048576%(b:Int) != 0)])∧∃k,w'=w.drewN k:=by
 have M:=fun w=>Mul64_any n.natAbs 1048576 (by omega) (by omega) w
 have DV:=Nat.div_add_mod (n.natAbs*1048576) 18446744073709551616
 have lo:n.natAbs*1048576%18446744073709551616<18446744073709551616:=Nat.mod_lt _ (by omega)
 have hlt:n.natAbs*1048576/18446744073709551616<b:=by
  rcases Nat.lt_or_ge (n.natAbs*1048576/18446744073709551616) b with k|k
  ·exact k
  ·have:=high_great (by omega) k;omega
 have D:=fun(w:World)=>Div64_all (n.natAbs*1048576/18446744073709551616) (n.natAbs*1048576%18446744073709551616) b w hlt lo (by omega)
 rw[show n.natAbs*1048576/18446744073709551616*18446744073709551616+n.natAbs*1048576%18446744073709551616=n.natAbs*1048576 by omega]at D
 have hr:n.natAbs*1048576%b<b:=Nat.mod_lt _ (by omega)
 have hs:=round_size (N:=n*1048576) (b:=(b:Int)) (u:=n.natAbs*1048576/b) (rest:=n.natAbs*1048576%b) (by omega)
  (by rw[Int.natCast_ediv,show(n*1048576).natAbs=n.natAbs*1048576 from Int.natAbs_mul n 1048576]) (by rw[Int.natCast_emod,show(n*1048576).natAbs=n.natAbs*1048576 from Int.natAbs_mul n 1048576])
 unfold srq
 rw[hs.1,hs.2]
 clear DV hs
 generalize n.natAbs*1048576/b=u at *
 generalize n.natAbs*1048576%b=r at *
 generalize n.natAbs*1048576%18446744073709551616=L at *
 generalize n.natAbs*1048576/18446744073709551616=H at *
 have HM:=Lib.hid M
 have HD:=Lib.hid D
 clear M D
 have hlt':(H:Int)<(b:Int):=by omega
 have hu':(u:Int)≤2147483647:=by omega
 have Hlt:=Lib.hid hlt
 have Hh:=Lib.hid h
 clear hlt h
 by_cases hn:0≤n
 ·by_cases c1:(b:Int)<2*(r:Int)
  ·rw[if_pos (by omega),if_pos (by omega)]
   go_enter Tryz.func167,Tryz.ntmps167
   go_wp2_with fail
   refine(size_any _ _ (by omega) (by omega)).mono ?_
   rintro e w' ⟨rfl,rfl⟩
   go_wp2_with fail
   refine(HM.out _).mono ?_
   rintro e w' ⟨rfl,rfl⟩
   go_wp2_with fail
   refine(HD.out _).mono ?_
   rintro e w' ⟨rfl,k,rfl⟩
   go_wp2
   go_ret2
   exact⟨ret_pair_ib (by first|rfl|omega) (natne r),_,rfl⟩
  ·by_cases c2:2*(r:Int)=(b:Int)
   ·rw[if_pos (by omega),if_pos (by omega)]
    have c3:(2*(r:Int)==(b:Int))=true:=by simpa using c2
    have H2:=Lib.hid c2
    clear c2
    go_enter Tryz.func167,Tryz.ntmps167
    go_wp2_with fail
    refine(size_any _ _ (by omega) (by omega)).mono ?_
    rintro e w' ⟨rfl,rfl⟩
    go_wp2_with fail
    refine(HM.out _).mono ?_
    rintro e w' ⟨rfl,rfl⟩
    go_wp2_with fail
    refine(HD.out _).mono ?_
    rintro e w' ⟨rfl,k,rfl⟩
    go_wp2
    go_ret2
    exact⟨ret_pair_ib (by first|rfl|omega) (natne r),_,rfl⟩
   ·rw[if_pos (by omega),if_neg (by omega)]
    have c3:(2*(r:Int)==(b:Int))=false:=by simpa using c2
    have H2:=Lib.hid c2
    clear c2
    go_enter Tryz.func167,Tryz.ntmps167
    go_wp2_with fail
    refine(size_any _ _ (by omega) (by omega)).mono ?_
    rintro e w' ⟨rfl,rfl⟩
    go_wp2_with fail
    refine(HM.out _).mono ?_
    rintro e w' ⟨rfl,rfl⟩
    go_wp2_with fail
    refine(HD.out _).mono ?_
    rintro e w' ⟨rfl,k,rfl⟩
    go_wp2
    go_ret2
    exact⟨ret_pair_ib (by first|rfl|omega) (natne r),_,rfl⟩
 ·by_cases c1:(b:Int)<2*(r:Int)
  ·rw[if_neg (by omega),if_pos (by omega)]
   go_enter Tryz.func167,Tryz.ntmps167
   go_wp2_with fail
   refine(size_any _ _ (by omega) (by omega)).mono ?_
   rintro e w' ⟨rfl,rfl⟩
   go_wp2_with fail
   refine(HM.out _).mono ?_
   rintro e w' ⟨rfl,rfl⟩
   go_wp2_with fail
   refine(HD.out _).mono ?_
   rintro e w' ⟨rfl,k,rfl⟩
   go_wp2
   go_ret2
   exact⟨ret_pair_ib (by first|rfl|omega) (natne r),_,rfl⟩
  ·rw[if_neg (by omega),if_neg (by omega)]
   go_enter Tryz.func167,Tryz.ntmps167
   go_wp2_with fail
   refine(size_any _ _ (by omega) (by omega)).mono ?_
   rintro e w' ⟨rfl,rfl⟩
   go_wp2_with fail
   refine(HM.out _).mono ?_
   rintro e w' ⟨rfl,rfl⟩
   go_wp2_with fail
   refine(HD.out _).mono ?_
   rintro e w' ⟨rfl,k,rfl⟩
   go_wp2
   go_ret2
   exact⟨ret_pair_ib (by first|rfl|omega) (natne r),_,rfl⟩
end Go.Proofs.YticobgianbecpaaGreatDoor
namespace Go.Proofs.YticobgianbecpaaGreatDoor
open Go.RowKit
theorem up_nat {a b:Nat} (hb:0<b) : -(-((a:Int)*1048576)/(b:Int))=(if a*1048576%b=0 then((a*1048576/b:Nat):Int)else((a*1048576/b:Nat):Int)+1):=by
 rw[up_size (by omega)]
 have e0:((a*1048576:Nat):Int)=(a:Int)*1048576:=by omega
 have e1:(a:Int)*1048576%(b:Int)=((a*1048576%b:Nat):Int):=by rw[Int.natCast_emod,e0]
 have e2:(a:Int)*1048576/(b:Int)=((a*1048576/b:Nat):Int):=by rw[Int.natCast_ediv,e0]
 rw[e1,e2]
 by_cases h:a*1048576%b=0
 ·rw[if_pos h,if_pos (by omega)]
 ·rw[if_neg h,if_neg (by omega)]
set_option maxRecDepth 100000 in
set_option maxHeartbeats 2000000 in
theorem quotientUp_any (a b:Nat) (w:World) (a1:a≤4611686018427387904) (b1:1≤b) (b2:b≤1152921504606846976) :
  Calls Tryz.prog 196 #[.int .i64 a,.int .i64 1048576,.int .i64 b] w fun e w'=>e = .returned (.int .i64 (if 2147483647≤a*1048576/b then 2147483647 else -(-((a:Int)*1048576)/(b:Int))))∧∃k,w'=w.drewN k:=by
 have M:=fun w=>Mul64_any a 1048576 (by omega) (by omega) w
 have DV:=Nat.div_add_mod (a*1048576) 18446744073709551616
 have lo:a*1048576%18446744073709551616<18446744073709551616:=Nat.mod_lt _ (by omega)
 have D:=fun(w:World) (hlt:a*1048576/18446744073709551616<b)=>Div64_all (a*1048576/18446744073709551616) (a*1048576%18446744073709551616) b w hlt lo (by omega)
 rw[show a*1048576/18446744073709551616*18446744073709551616+a*1048576%18446744073709551616=a*1048576 by omega]at D
 have hr:a*1048576%b<b:=Nat.mod_lt _ (by omega)
 have hg:b≤a*1048576/18446744073709551616→2147483647≤a*1048576/b:=fun h=>by have:=high_great (by omega) h;omega
 rw[up_nat (by omega)]
 clear DV
 have hi:a*1048576/18446744073709551616<18446744073709551616:=by omega
 have ub:a*1048576/b≤a*1048576:=Nat.div_le_self _ _
 have ub2:a*1048576/18446744073709551616<b→a*1048576/b<18446744073709551616:=fun h=>by
  rw[Nat.div_lt_iff_lt_mul (by omega)]
  have:(a*1048576/18446744073709551616+1)*18446744073709551616≤b*18446744073709551616:=Nat.mul_le_mul_right _ h
  omega
 clear ub
 generalize a*1048576/b=u at *
 generalize a*1048576%b=r at *
 generalize a*1048576%18446744073709551616=L at *
 generalize a*1048576/18446744073709551616=H at *
 have HM:=Lib.hid M
 clear M
 by_cases hlt:H<b
 ·have D':=fun w=>D w hlt
  have HD:=Lib.hid D'
  have u2:(u:Int)≤18446744073709551615:=by have:=ub2 hlt;omega
  have hlt':(H:Int)<(b:Int):=by omega
  clear D D' ub2 hg hlt
  by_cases c1:(2147483647:Int)≤(u:Int)
  ·rw[if_pos (by omega)]
   go_enter Tryz.func196,Tryz.ntmps196
   go_wp2_with fail
   refine(HM.out _).mono ?_
   rintro e w' ⟨rfl,rfl⟩
   go_wp2_with fail
   refine(HD.out _).mono ?_
   rintro e w' ⟨rfl,k,rfl⟩
   go_wp2
   go_ret
   exact⟨rfl,_,rfl⟩
  ·rw[if_neg (by omega)]
   have cd:decide ((2147483647:Int)≤(u:Int))=false:=by rw[decide_eq_false_iff_not];omega
   have c1':(u:Int)≤2147483650:=by omega
   clear c1 u2
   rcases Nat.eq_zero_or_pos r with c2|c2
   ·subst c2
    rw[if_pos rfl]
    go_enter Tryz.func196,Tryz.ntmps196
    go_wp2_with fail
    refine(HM.out _).mono ?_
    rintro e w' ⟨rfl,rfl⟩
    go_wp2_with fail
    refine(HD.out _).mono ?_
    rintro e w' ⟨rfl,k,rfl⟩
    go_wp2
    go_ret
    exact⟨rfl,_,rfl⟩
   ·rw[if_neg (by omega)]
    obtain⟨r',rfl⟩:∃r',r=r'+1:=⟨r-1,by omega⟩
    clear c2
    go_enter Tryz.func196,Tryz.ntmps196
    go_wp2_with fail
    refine(HM.out _).mono ?_
    rintro e w' ⟨rfl,rfl⟩
    go_wp2_with fail
    refine(HD.out _).mono ?_
    rintro e w' ⟨rfl,k,rfl⟩
    go_wp2
    go_ret
    exact⟨rfl,_,rfl⟩
 ·rw[if_pos (hg (by omega))]
  have hlt':(b:Int)≤(H:Int):=by omega
  clear D ub2 hg hlt
  go_enter Tryz.func196,Tryz.ntmps196
  go_wp2_with fail
  refine(HM.out _).mono ?_
  rintro e w' ⟨rfl,rfl⟩
  go_wp2
  go_ret
  exact⟨rfl,0,rfl⟩
end Go.Proofs.YticobgianbecpaaGreatDoor
