/- A part of the proof (joined by program from: NatD, NatE, NatF, LongP, VLong, NatG). -/
import Derived.Test.YtcbcbdbheiopbaaGreatDoorL8
import Derived.Test.YtcbcbdbheiopbaaGreatDoorL5
set_option linter.unusedVariables false
open Go.IntKind (i64 u64 u32)
/- Contracts of package nat: Uint, Mul, short, Bits. -/
namespace Go.Proofs.Tryz
open Go.Eng Go.Big
theorem or64' (a b:Nat) (ha:a < 4294967296) (hb:b < 4294967296):bitI .or .u64 (b:Int) ((a:Int) * 4294967296)=(b:Int) + (a:Int) * 4294967296:=by
 have h:bitI .or .u64 (b:Int) ((a:Int) * 4294967296)=bitI .or .u64 ((a:Int) * 4294967296) (b:Int):=by
  simp only [bitI,BitVec.or_comm]
 rw [h,or64 a b ha hb]; omega
theorem or64z (b:Nat) (hb:b < 4294967296):bitI .or .u64 0 (b:Int)=b:=by
 have:=or64 0 b (by omega) hb
 simpa using this
theorem c_nat_Uint {V:View} {p:OA} {n c:Nat} {ds:List Nat} (h:RD V p n c ds) (hm:ds.length<=1099511627776) :
  Acts prog 289 #[.slice p n c] V fun r V'=>r=.tuple #[.int .u64 ((if val ds < 18446744073709551616 then val ds else 0:Nat):Int),.bool (decide (val ds < 18446744073709551616))]:=by
 refine vc_nat_Uint p n c V _ fun V1 l1=>(c_nat_trim (h.le l1) (by omega)).mono ?_
 rintro r V2 l2 ⟨n,rfl,h1⟩
 rw [trimD_eq h.dig] at h1
 generalize val ds=x at *
 have hl:=h1.len
 have h2:(digs x).length<=2↔x < 18446744073709551616:=digs_len_le (k:=2)
 refine ⟨_,_,_,rfl,fun h0 V3 l3=>?_,fun h0=>?_⟩
 ·have h0:¬ x < 18446744073709551616:=by simp at h0; omega
  rw [if_neg h0,decide_eq_false h0]; rfl
 ·have hx:x < 18446744073709551616:=by simp at h0; omega
  rw [if_pos hx,decide_eq_true hx]
  have hn:n<=2:=by omega
  refine ⟨fun z V'=>0<=z.2/\z.2<=n/\z.1=(val ((digs x).take z.2.toNat):Int),fun z=>n - z.2.toNat,⟨(0,0),by (try dsimp only); and_intros <;> trivial,by (try dsimp only); omega,by (try dsimp only); omega,by simp⟩,?_⟩
  rintro ⟨u,i⟩ V4 l4 ⟨hi0,hi1,hu⟩
  dsimp only at hi0 hi1 hu ⊢
  subst hu
  obtain ⟨i,rfl⟩:=Int.eq_ofNat_of_zero_le hi0
  simp only [Int.toNat_natCast]
  refine ⟨by trivial,fun h3=>?_,fun h3 V5 l5=>?_⟩
  ·have h3:i < n:=by simpa using h3
   refine (h1.le l4).rd i rfl (by omega) ?_
   have hd:=(dig_digs x).get (i:=i) (by omega)
   simp (disch:=omega) only [i64w]
   refine ⟨by omega,(_,_),?_,by (try dsimp only); and_intros <;> trivial,?_⟩
   ·(try dsimp only); omega
   ·(try dsimp only)
    refine ⟨by omega,by omega,?_⟩
    have hi2:((i:Int) + 1).toNat=i + 1:=by omega
    rw [hi2,val_take_succ _ _ (by omega)]
    have hi:i=0 \/ i=1:=by omega
    rcases hi with rfl | rfl
    ·simp (disch:=omega) only [u64w]
     have e1:(min ((32:Int) * ((0:Nat):Int)).toNat IntKind.u64.bits)=0:=by decide
     rw [e1]
     simp (disch:=omega) only [u64w,Int.pow_zero,Int.mul_one,List.take_zero,val_nil,Nat.pow_zero,Nat.one_mul,Nat.zero_add]
     exact or64z _ hd
    ·have e1:(min ((32:Int) * ((1:Nat):Int)).toNat IntKind.u64.bits)=32:=by decide
     have h0:0 < (digs x).length:=by omega
     have hd0:=(dig_digs x).get (i:=0) h0
     have e2:(digs x).take 1=[(digs x)[0]]:=by rw [List.take_succ_eq_append_getElem h0]; rfl
     have e3:((2:Int) ^ 32)=4294967296:=by decide
     rw [e1,e2,e3]
     simp (disch:=omega) only [u64w]
     simp only [val_cons,val_nil,Nat.mul_zero,Nat.add_zero]
     rw [or64' _ _ hd hd0]
     omega
  ·have h3:i=n:=by simp at h3; omega
   subst h3
   rw [val_take_of_le (by omega),val_digs]
theorem c_nat_Bits {V:View} {p:OA} {n c:Nat} {ds:List Nat} (h:RD V p n c ds) (hm:ds.length<=1099511627776) :
  Acts prog 286 #[.slice p n c] V fun r V'=>r=.int .i64 (blen (val ds):Int):=by
 have hdl:=digs_val_len h.dig
 refine vc_nat_Bits p n c V _ fun V1 l1=>(c_nat_trim (h.le l1) (by omega)).mono ?_
 rintro r V2 l2 ⟨n,rfl,h1⟩
 rw [trimD_eq h.dig] at h1
 generalize val ds=x at *
 have hl:=h1.len
 refine ⟨_,_,_,rfl,fun h0 V3 l3=>?_,fun h0=>?_⟩
 ·have:digs x=[]:=List.length_eq_zero_iff.1 (by simp at h0; omega)
  have:=digs_eq_nil.1 this
  subst this; rfl
 ·have h0:0 < n:=by simp at h0; omega
  simp (disch:=omega) only [i64w]
  refine h1.rd (n - 1) (by omega) (by omega) fun V4 l4=>(c_LeadingZeros32 _ ((dig_digs x).get (by omega))).mono ?_
  rintro r V5 l5 rfl
  refine ⟨_,rfl,fun V6 l6=>?_⟩
  have hd:=(dig_digs x).get (i:=n - 1) (by omega)
  have hnz:(digs x)[n - 1]≠0:=by
   have:=(nrm_digs x).last (by omega)
   simpa [hl] using this
  have hb:blen (digs x)[n - 1]<=32:=blen_le.2 (by omega)
  simp (disch:=omega) only [i64w]
  have key:blen x=32 * (n - 1) + blen (digs x)[n - 1]:=by
   have e:=val_split (digs x) (n - 1) (by omega)
   rw [val_digs,List.drop_of_length_le (by omega)] at e
   simp only [val_nil,Nat.mul_zero,Nat.add_zero] at e
   have hlt:=val_lt ((dig_digs x).take (n - 1))
   rw [List.length_take,Nat.min_eq_left (by omega)] at hlt
   have e32:(4294967296:Nat) ^ (n - 1)=2 ^ (32 * (n - 1)):=by rw [Nat.pow_mul]
   rw [e32] at e hlt
   generalize (digs x)[n - 1]=d at *
   have g0:=lt_blen d
   have g1:=le_blen hnz
   have hbp:0 < blen d:=by unfold blen; rw [if_neg hnz]; omega
   refine blen_unique ?_ (.inr ?_)
   ·rw [Nat.pow_add]
    have:2 ^ (32 * (n - 1)) * (d + 1)<=2 ^ (32 * (n - 1)) * 2 ^ blen d:=Nat.mul_le_mul_left _ g0
    rw [Nat.mul_add,Nat.mul_one] at this
    omega
   ·rw [show 32 * (n - 1) + blen d - 1=32 * (n - 1) + (blen d - 1) from by omega,Nat.pow_add]
    have:2 ^ (32 * (n - 1)) * 2 ^ (blen d - 1)<=2 ^ (32 * (n - 1)) * d:=Nat.mul_le_mul_left _ g1
    omega
  rw [key]
  congr 1
  omega
/-- One step of a row of a product. -/
theorem mul_step {E S c t x y e Y B D:Nat} (h:E + B * D * c=S + B * x * Y) (ht:t=c + x * y + e) :
  E + B * D * (t % 4294967296) + B * D * 4294967296 * (t / 4294967296)=S + B * D * e + B * x * (Y + D * y):=by
 have h1:B * D * (t % 4294967296) + B * D * 4294967296 * (t / 4294967296)=B * D * t:=by
  rw [Nat.mul_assoc (B * D),← Nat.mul_add,Nat.mod_add_div]
 rw [Nat.add_assoc,h1,ht]
 grind
theorem c_nat_Mul {V:View} {p q:OA} {n c m e:Nat} {xa xb:List Nat} (ha:RD V p n c xa) (hb:RD V q m e xb) (hm:xa.length + xb.length<=1099511627776) :
  Acts prog 263 #[.slice p n c,.slice q m e] V fun r V'=>∃p' n' c',r=.slice p' n' c'/\RN V' p' n' c' (val xa * val xb):=by
 have la:=digs_val_len ha.dig
 have lb:=digs_val_len hb.dig
 refine vc_nat_Mul p n c q m e V _ fun V1 l1=>(c_nat_trim (ha.le l1) (by omega)).mono ?_
 rintro r V2 l2 ⟨n,rfl,hx⟩
 rw [trimD_eq ha.dig] at hx
 refine ⟨_,_,_,rfl,fun V3 l3=>(c_nat_trim (hb.le (l1.trans (l2.trans l3))) (by omega)).mono ?_⟩
 rintro r V4 l4 ⟨m,rfl,hy⟩
 rw [trimD_eq hb.dig] at hy
 replace hx:=hx.le (l3.trans l4)
 have hlx:=hx.len
 have hly:=hy.len
 have hvx:val xa=val (digs (val xa)):=(val_digs _).symm
 have hvy:val xb=val (digs (val xb)):=(val_digs _).symm
 rw [hvx,hvy]
 clear hvx hvy
 generalize digs (val xa)=xs at *
 generalize digs (val xb)=ys at *
 refine ⟨_,_,_,rfl,?_⟩
 simp (disch:=omega) only [i64w,u32s_rep]
 have hnm:((n:Int) + m).toNat=n + m:=by omega
 rw [hnm]
 refine ⟨by omega,by omega,by omega,fun z V'=>0<=z.1/\z.1<=n/\∃es:List Nat,z.2=u32s es/\es.length=n + m/\Dig es /\
  val (es.take (z.1.toNat + m))=val (xs.take z.1.toNat) * val ys,fun z=>n - z.1.toNat,⟨(0,u32s (List.replicate (n + m) 0)),by (try dsimp only); and_intros <;> trivial,by (try dsimp only); omega,by (try dsimp only); omega,_,rfl,by simp,Dig.rep _,by simp [val_rep,List.take_replicate]⟩,?_⟩
 rintro ⟨i,vs⟩ V5 l5 ⟨hi0,hi1,es,rfl,hes,hde,hv⟩
 dsimp only at hi0 hi1 hv ⊢
 obtain ⟨i,rfl⟩:=Int.eq_ofNat_of_zero_le hi0
 simp only [Int.toNat_natCast] at hv
 refine ⟨by trivial,fun h3=>?_,fun h3=>?_⟩
 ·have h3:i < n:=by simpa using h3
  refine (hx.le l5).rd i rfl (by omega) ?_
  have hdx:=hx.dig.get (i:=i) (by omega)
  refine ⟨fun z V'=>0<=z.1/\z.1<=4294967295/\0<=z.2.1/\z.2.1<=m/\∃fs:List Nat,z.2.2=u32s fs/\fs.length=n + m/\Dig fs/\fs.drop (i + z.2.1.toNat)=es.drop (i + z.2.1.toNat) /\
   val (fs.take (i + z.2.1.toNat)) + 4294967296 ^ (i + z.2.1.toNat) * z.1.toNat=val (es.take (i + z.2.1.toNat)) + 4294967296 ^ i * xs[i] * val (ys.take z.2.1.toNat),fun z=>m - z.2.1.toNat,
   ⟨(0,0,u32s es),by (try dsimp only); and_intros <;> trivial,by (try dsimp only); omega,by (try dsimp only); omega,by (try dsimp only); omega,by (try dsimp only); omega,es,rfl,hes,hde,rfl,by simp⟩,?_⟩
  rintro ⟨cy,k,vs⟩ V6 l6 ⟨hc0,hc1,hk0,hk1,fs,rfl,hfs,hdf,hdr,hw⟩
  dsimp only at hc0 hc1 hk0 hk1 hdr hw ⊢
  obtain ⟨k,rfl⟩:=Int.eq_ofNat_of_zero_le hk0
  obtain ⟨cy,rfl⟩:=Int.eq_ofNat_of_zero_le hc0
  simp only [Int.toNat_natCast] at hdr hw
  refine ⟨by trivial,fun h4=>?_,fun h4=>?_⟩
  ·have h4:k < m:=by simpa using h4
   refine (hy.le (l5.trans l6)).rd k rfl (by omega) ?_
   have hdy:=hy.dig.get (i:=k) (by omega)
   have hdf':=hdf.get (i:=i + k) (by omega)
   have hef:fs[i + k]'(by omega)=es[i + k]'(by omega):=by
    have h1:fs[i + k]?=es[i + k]?:=by
     have:=congrArg (fun l=>l[0]?) hdr
     simpa [List.getElem?_drop] using this
    rw [List.getElem?_eq_getElem (by omega),List.getElem?_eq_getElem (by omega)] at h1
    exact Option.some.inj h1
   simp (disch:=omega) only [i64w]
   have hik:((i:Int) + k).toNat=i + k:=by omega
   rw [hik]
   refine ⟨⟨by omega,by omega⟩,((fs[i + k]'(by omega):Nat):Int),by rw [Nat.zero_add,Nat.mul_one]; exact u32s_get (by omega),⟨by omega,by omega⟩,by simp; omega,by omega,?_⟩
   have hxy:xs[i] * ys[k]<=4294967295 * 4294967295:=Nat.mul_le_mul (by omega) (by omega)
   have hxyc:(xs[i]:Int) * (ys[k]:Int)=((xs[i] * ys[k]:Nat):Int):=by simp
   obtain ⟨t,ht⟩:∃t:Nat,t=cy + xs[i] * ys[k] + fs[i + k]'(by omega):=⟨_,rfl⟩
   rw [Nat.pow_add] at hw
   have hstep:=mul_step hw ht
   have e1:u64.wrap ((cy:Int) + u64.wrap (u64.wrap (u64.wrap (xs[i]:Int) * u64.wrap (ys[k]:Int)) + u64.wrap ((fs[i + k]'(by omega):Nat):Int)))=(t:Int):=by
    clear hstep
    generalize xs[i] * ys[k]=pq at *
    rw [u64w (x:=(xs[i]:Int)) (by omega),u64w (x:=(ys[k]:Int)) (by omega),hxyc,u64w (x:=((pq:Nat):Int)) (by omega)]
    simp (disch:=omega) only [u64w]
    omega
   rw [e1,u32m,shr32]
   refine ⟨(_,_,_),?_,by (try dsimp only); and_intros <;> trivial,?_⟩
   ·(try dsimp only); omega
   ·(try dsimp only)
    have hk2:((k:Int) + 1).toNat=k + 1:=by omega
    refine ⟨by omega,by omega,by omega,by omega,fs.set (i + k) (t % 4294967296),?_,by simpa using hfs,hdf.set _ _ (by omega),?_,?_⟩
    ·rw [← u32s_set]; simp
    ·rw [hk2,List.drop_set_of_lt (by omega)]
     have:=congrArg (List.drop 1) hdr
     simpa [List.drop_drop,Nat.add_comm,Nat.add_assoc,Nat.add_left_comm] using this
    ·rw [hk2,show i + (k + 1)=i + k + 1 from by omega,val_take_set _ _ _ (by omega),val_take_succ es (i + k) (by omega),val_take_succ ys k (by omega),← hef,Nat.pow_succ]
     have e2:((t:Int) / 4294967296).toNat=t / 4294967296:=by omega
     rw [e2,Nat.pow_add,hstep]
  ·have h4:k=m:=by simp at h4; omega
   subst h4
   simp (disch:=omega) only [i64w]
   have hik:((i:Int) + k).toNat=i + k:=by omega
   rw [hik]
   refine ⟨⟨by omega,by omega⟩,by simp; omega,(_,_),?_,by (try dsimp only); and_intros <;> trivial,?_⟩
   ·(try dsimp only); omega
   ·(try dsimp only)
    have hi2:((i:Int) + 1).toNat=i + 1:=by omega
    refine ⟨by omega,by omega,fs.set (i + k) cy,?_,by simpa using hfs,hdf.set _ _ (by omega),?_⟩
    ·rw [← u32s_set,u32w (by omega)]; simp
    ·rw [hi2,show i + 1 + k=i + k + 1 from by omega,val_take_set _ _ _ (by omega),hw,hv,val_take_succ xs i (by omega),val_take_of_le (ds:=ys) (by omega)]
     grind
 ·have h3:i=n:=by simp at h3; omega
  subst h3
  intro V6 l6 bk hb'
  refine (c_nat_trim (RD.blk hb' hde (n:=i + m) (c:=i + m) (by omega) (Nat.le_refl _)) (by omega)).mono ?_
  rintro r V7 l7 ⟨k,rfl,h4⟩
  refine ⟨_,_,_,rfl,fun _ V8 l8=>⟨_,_,_,rfl,?_⟩⟩
  rw [trimD_eq hde] at h4
  rw [val_take_of_le (by omega),val_take_of_le (by omega)] at hv
  rw [hv] at h4
  exact h4.le l8
end Go.Proofs.Tryz
/- Contracts of package nat: short, Shl, Shr. -/
namespace Go.Proofs.Tryz
open Go.Eng Go.Big
theorem short_step {x A d q r rest B W:Nat} (hA:A=d * B + rest) (h:d * q + r=rest * W + x):x + W * A=d * (q + W * B) + r:=by
 subst hA; grind
theorem c_nat_short {V:View} {p:OA} {n c:Nat} {xs:List Nat} (hx:RD V p n c xs) (hm:xs.length<=1099511627776) (d:Nat) (hd0:d≠0) (hd:d < 4294967296) :
  Acts prog 340 #[.slice p n c,.int .u32 (d:Int)] V fun r V'=>∃p' n' c',r=.tuple #[.slice p' n' c',.int .u32 ((val xs % d:Nat):Int)]/\RN V' p' n' c' (val xs / d):=by
 have hlx:=hx.len
 refine vc_nat_short p n c d V _ ⟨by omega,by omega,by omega,?_⟩
 simp (disch:=omega) only [i64w,u64w,Int.toNat_natCast,u32s_rep]
 refine ⟨fun z V'=>0<=z.1/\z.1 < d/\-1<=z.2.1/\z.2.1 < n/\∃es:List Nat,z.2.2=u32s es/\es.length=n/\Dig es /\
   val (xs.drop (z.2.1 + 1).toNat)=d * val (es.drop (z.2.1 + 1).toNat) + z.1.toNat,fun z=>(z.2.1 + 1).toNat,
   ⟨(0,(n:Int) - 1,u32s (List.replicate n 0)),by (try dsimp only); and_intros <;> trivial,by (try dsimp only); omega,by (try dsimp only); omega,by (try dsimp only); omega,by (try dsimp only); omega,_,rfl,by simp,Dig.rep _,?_⟩,?_⟩
 ·(try dsimp only)
  rw [List.drop_of_length_le (by omega),List.drop_of_length_le (by simp)]; rfl
 rintro ⟨rest,i,vs⟩ V2 l2 ⟨hr0,hr1,hi0,hi1,es,rfl,hes,hde,hv⟩
 dsimp only at hr0 hr1 hi0 hi1 hv ⊢
 obtain ⟨rest,rfl⟩:=Int.eq_ofNat_of_zero_le hr0
 refine ⟨by trivial,fun h3=>?_,fun h3=>?_⟩
 ·have h3:0<=i:=by simpa using h3
  obtain ⟨i,rfl⟩:=Int.eq_ofNat_of_zero_le h3
  have hi2:((i:Int) + 1).toNat=i + 1:=by omega
  rw [hi2] at hv
  simp only [Int.toNat_natCast] at hv
  refine ⟨by omega,(hx.le l2).rd i rfl (by omega) ?_⟩
  have hdx:=hx.dig.get (i:=i) (by omega)
  have e1:bitI .or .u64 (u64.wrap ((rest:Int) * 2 ^ 32)) (u64.wrap ((xs[i]:Nat):Int))=((rest * 4294967296 + xs[i]:Nat):Int):=by
   have e3:((2:Int) ^ 32)=4294967296:=by decide
   rw [e3,u64w (by omega),u64w (by omega),or64 _ _ (by omega) hdx]; omega
  rw [e1]
  have e2:((rest * 4294967296 + xs[i]:Nat):Int).tdiv (d:Int)=(((rest * 4294967296 + xs[i]) / d:Nat):Int):=by
   rw [Int.tdiv_eq_ediv_of_nonneg (by omega)]; omega
  have e4:((rest * 4294967296 + xs[i]:Nat):Int).tmod (d:Int)=(((rest * 4294967296 + xs[i]) % d:Nat):Int):=by
   rw [Int.tmod_eq_emod_of_nonneg (by omega)]; omega
  rw [e2,e4]
  have hq:(rest * 4294967296 + xs[i]) / d < 4294967296:=by
   rw [Nat.div_lt_iff_lt_mul (by omega)]
   have:rest + 1<=d:=by omega
   have:=Nat.mul_le_mul_right 4294967296 this
   rw [Nat.mul_comm 4294967296 d]
   omega
  have hr:(rest * 4294967296 + xs[i]) % d < d:=Nat.mod_lt _ (by omega)
  have hdm:=Nat.div_add_mod (rest * 4294967296 + xs[i]) d
  generalize (rest * 4294967296 + xs[i]) / d=q at *
  generalize (rest * 4294967296 + xs[i]) % d=r at *
  simp (disch:=omega) only [u64w,u32w,i64w]
  refine ⟨by omega,⟨by omega,by omega⟩,by simp; omega,by omega,?_⟩
  refine ⟨((r:Int),(i:Int) - 1,u32s (es.set i q)),?_,?_,?_⟩
  ·(try dsimp only); omega
  ·(try dsimp only); and_intros <;> first | trivial | (rw [← u32s_set]; simp)
  ·(try dsimp only)
   refine ⟨by omega,by omega,by omega,by omega,_,rfl,by simpa using hes,hde.set _ _ (by omega),?_⟩
   have hi3:((i:Int) - 1 + 1).toNat=i:=by omega
   rw [hi3,List.drop_eq_getElem_cons (by omega),List.drop_eq_getElem_cons (l:=es.set i q) (by simp; omega),List.getElem_set_self,List.drop_set_of_lt (by omega)]
   have h9:xs[i] + 4294967296 * val (List.drop (i+1) xs)=d * (q + 4294967296 * val (List.drop (i+1) es)) + r:=short_step hv hdm
   rw [val_cons,val_cons,Int.toNat_natCast]
   exact h9
 ·have h3:i=-1:=by simp at h3; omega
  subst h3
  simp only [Int.toNat_natCast] at hv
  have hv:val xs=d * val es + rest:=by simpa using hv
  intro V3 l3 bk hb
  refine (c_nat_trim (RD.blk hb hde (n:=n) (c:=n) (by omega) (Nat.le_refl _)) (by omega)).mono ?_
  rintro r V4 l4 ⟨k,rfl,h4⟩
  refine ⟨_,_,_,rfl,fun _ V5 l5=>?_⟩
  have e1:val xs / d=val es:=by rw [hv,Nat.mul_add_div (by omega),Nat.div_eq_of_lt (by omega),Nat.add_zero]
  have e2:val xs % d=rest:=by rw [hv,Nat.mul_add_mod,Nat.mod_eq_of_lt (by omega)]
  rw [u32w (by omega),e1,e2]
  rw [trimD_eq hde] at h4
  exact ⟨_,_,_,rfl,h4.le l5⟩
theorem or_u32 (a b:Nat) (ha:a < 4294967296) (hb:b < 4294967296):bitI .or .u32 (a:Int) (b:Int)=((a ||| b:Nat):Int):=by
 rw [bitI,u32m]
 have h2:(BitVec.ofInt IntKind.u32.bits ((a:Nat):Int) ||| BitVec.ofInt IntKind.u32.bits (b:Int)).toNat=a ||| b:=by
  show (BitVec.ofInt 32 ((a:Nat):Int) ||| BitVec.ofInt 32 (b:Int)).toNat=_
  rw [BitVec.ofInt_natCast,BitVec.ofInt_natCast,BitVec.toNat_or,BitVec.toNat_ofNat,BitVec.toNat_ofNat,Nat.mod_eq_of_lt (by omega),Nat.mod_eq_of_lt (by omega)]
 have h3:a ||| b < 2 ^ 32:=Nat.or_lt_two_pow (by omega) (by omega)
 rw [h2]
 omega
theorem or_low {c m r:Nat} (h:c < 2 ^ r):c ||| m * 2 ^ r=c + m * 2 ^ r:=by
 rw [Nat.or_comm,← Nat.shiftLeft_eq,← Nat.shiftLeft_add_eq_or_of_lt h,Nat.add_comm]
/-- A digit shifted. -/
theorem shl_step {d r c:Nat} (hd:d < 4294967296) (hr:r < 32) (hc:c < 2 ^ r) :
  c ||| (d * 2 ^ r % 4294967296)=c + d * 2 ^ r % 4294967296/\c + d * 2 ^ r % 4294967296 < 4294967296/\d * 2 ^ r / 4294967296 < 2 ^ r/\d * 2 ^ r < 18446744073709551616:=by
 have e:4294967296=2 ^ (32 - r) * 2 ^ r:=by rw [← Nat.pow_add,Nat.sub_add_cancel (by omega)]
 have h1:d * 2 ^ r % 4294967296=(d % 2 ^ (32 - r)) * 2 ^ r:=by
  rw [e,Nat.mul_mod_mul_right]
 have h2:d % 2 ^ (32 - r) + 1<=2 ^ (32 - r):=Nat.mod_lt _ (Nat.two_pow_pos _)
 have h3:=Nat.mul_le_mul_right (2 ^ r) h2
 have h4:2 ^ r<=2 ^ 31:=Nat.pow_le_pow_right (by omega) (by omega)
 have h5:d * 2 ^ r < 4294967296 * 2 ^ r:=Nat.mul_lt_mul_of_pos_right hd (Nat.two_pow_pos _)
 refine ⟨by rw [h1,or_low hc],?_,?_,by omega⟩
 ·rw [h1]
  rw [Nat.add_mul,Nat.one_mul] at h3
  rw [← e] at h3
  omega
 ·rw [Nat.div_lt_iff_lt_mul (by omega),Nat.mul_comm (2 ^ r)]; exact h5
theorem c_nat_Shl {V:View} {p:OA} {n c:Nat} {ds:List Nat} (h:RD V p n c ds) (hm:ds.length<=1099511627776) (k:Nat) (hk:k<=1048576) :
  Acts prog 360 #[.slice p n c,.int .u64 (k:Int)] V fun r V'=>∃p' n' c',r=.slice p' n' c'/\RN V' p' n' c' (val ds * 2 ^ k)/\(val ds=0 \/ c'=(digs (val ds)).length + k / 32 + 1):=by
 have hdl:=digs_val_len h.dig
 refine vc_nat_Shl p n c k V _ fun V1 l1=>(c_nat_trim (h.le l1) (by omega)).mono ?_
 rintro r V2 l2 ⟨n,rfl,hx⟩
 rw [trimD_eq h.dig] at hx
 generalize hxv:val ds=x at *
 have hl:=hx.len
 refine ⟨_,_,_,rfl,fun h0 V3 l3=>?_,fun h0=>?_⟩
 ·have:digs x=[]:=List.length_eq_zero_iff.1 (by simp at h0; omega)
  have:=digs_eq_nil.1 this
  subst this
  rw [Nat.zero_mul]
  exact ⟨_,_,_,rfl,RD.nil,.inl rfl⟩
 ·have h0:0 < n:=by simp at h0; omega
  have e1:minI (k:Int) 1048576=k:=by unfold minI; rw [if_neg (by omega)]
  have e2:(k:Int).tdiv 32=((k / 32:Nat):Int):=by rw [Int.tdiv_eq_ediv_of_nonneg (by omega)]; omega
  have e3:(k:Int).tmod 32=((k % 32:Nat):Int):=by rw [Int.tmod_eq_emod_of_nonneg (by omega)]; omega
  rw [e1,e2,e3]
  have hk2:x * 2 ^ k=4294967296 ^ (k / 32) * x * 2 ^ (k % 32):=by
   have:2 ^ k=4294967296 ^ (k / 32) * 2 ^ (k % 32):=by
    rw [show (4294967296:Nat)=2 ^ 32 from rfl,← Nat.pow_mul,← Nat.pow_add,Nat.div_add_mod]
   rw [this]; grind
  rw [hk2]
  generalize hw:k / 32=w at *
  have hrl:k % 32 < 32:=Nat.mod_lt _ (by omega)
  have hwl:w<=32768:=by omega
  generalize k % 32=r at *
  clear e1 e2 e3
  simp (disch:=omega) only [i64w,u64w,u32s_rep]
  have hnw:((n:Int) + w + 1).toNat=n + w + 1:=by omega
  rw [hnw]
  refine ⟨by omega,by omega,by omega,by omega,by omega,fun z V'=>0<=z.1/\z.1<=n/\∃es:List Nat,z.2=u32s es/\es.length=n + w + 1/\Dig es/\(∀c,es[z.1.toNat + w]?=some c->c < 2 ^ r) /\
   val (es.take (z.1.toNat + w + 1))=4294967296 ^ w * val ((digs x).take z.1.toNat) * 2 ^ r,fun z=>n - z.1.toNat,
   ⟨(0,u32s (List.replicate (n + w + 1) 0)),by (try dsimp only); and_intros <;> trivial,by (try dsimp only); omega,by (try dsimp only); omega,_,rfl,by simp,Dig.rep _,?_,?_⟩,?_⟩
  ·intro c hc
   rw [List.getElem?_replicate] at hc
   split at hc
   ·cases hc; exact Nat.two_pow_pos r
   ·cases hc
  ·simp [List.take_replicate,val_rep]
  rintro ⟨i,vs⟩ V4 l4 ⟨hi0,hi1,es,rfl,hes,hde,hc,hv⟩
  dsimp only at hi0 hi1 hc hv ⊢
  obtain ⟨i,rfl⟩:=Int.eq_ofNat_of_zero_le hi0
  simp only [Int.toNat_natCast] at hc hv
  refine ⟨by trivial,fun h3=>?_,fun h3=>?_⟩
  ·have h3:i < n:=by simpa using h3
   refine (hx.le l4).rd i rfl (by omega) ?_
   have hdx:=(dig_digs x).get (i:=i) (by omega)
   have hce:=hc (es[i + w]'(by omega)) (List.getElem?_eq_getElem _)
   obtain ⟨g1,g2,g3,g4⟩:=shl_step hdx hrl hce
   have hmin:(min ((r:Nat):Int).toNat IntKind.u64.bits)=r:=by
    show min _ 64=r
    omega
   have hp:((2:Int) ^ r)=((2 ^ r:Nat):Int):=by simp
   rw [hmin,hp]
   have hmul:(((digs x)[i]:Nat):Int) * ((2 ^ r:Nat):Int)=(((digs x)[i] * 2 ^ r:Nat):Int):=by simp
   simp (disch:=omega) only [i64w]
   rw [u64w (x:=(((digs x)[i]:Nat):Int)) (by omega),hmul,u64w (by omega),u32m,shr32]
   have hiw:((i:Int) + w).toNat=i + w:=by omega
   have hiw1:((i:Int) + w + 1).toNat=i + w + 1:=by omega
   rw [hiw,hiw1]
   refine ⟨by omega,⟨by omega,by omega⟩,((es[i + w]'(by omega):Nat):Int),by rw [Nat.zero_add,Nat.mul_one]; exact u32s_get (by omega),⟨by omega,by omega⟩,by simp; omega,by omega,⟨by omega,by omega⟩,by simp; omega,?_⟩
   have ec:(((digs x)[i] * 2 ^ r:Nat):Int) % 4294967296=(((digs x)[i] * 2 ^ r % 4294967296:Nat):Int):=by omega
   have ed:(((digs x)[i] * 2 ^ r:Nat):Int) / 4294967296=(((digs x)[i] * 2 ^ r / 4294967296:Nat):Int):=by omega
   rw [ec,ed,or_u32 _ _ (by omega) (by omega),g1]
   have hdm:=Nat.mod_add_div ((digs x)[i] * 2 ^ r) 4294967296
   have hd2:(digs x)[i] * 2 ^ r / 4294967296 < 4294967296:=by omega
   have hdr:val (List.take (i + 1) (digs x))=val (List.take i (digs x)) + 4294967296 ^ i * (digs x)[i]:=val_take_succ _ _ (by omega)
   have hes1:val (es.take (i + w + 1))=val (es.take (i + w)) + 4294967296 ^ (i + w) * es[i + w]'(by omega):=val_take_succ _ _ (by omega)
   generalize (digs x)[i] * 2 ^ r % 4294967296=lo at *
   generalize hhi:(digs x)[i] * 2 ^ r / 4294967296=hi at *
   rw [u32w (by omega)]
   refine ⟨((i:Int) + 1,u32s ((es.set (i + w) (es[i + w]'(by omega) + lo)).set (i + w + 1) hi)),?_,?_,?_⟩
   ·(try dsimp only); omega
   ·(try dsimp only); and_intros <;> first | trivial | (rw [← u32s_set,← u32s_set]; simp)
   ·(try dsimp only)
    have hi2:((i:Int) + 1).toNat=i + 1:=by omega
    refine ⟨by omega,by omega,_,rfl,by simpa using hes,(hde.set _ _ (by omega)).set _ _ (by omega),?_,?_⟩
    ·intro c hc'
     rw [hi2,show i + 1 + w=i + w + 1 from by omega,List.getElem?_set_self (by simp; omega)] at hc'
     cases hc'; exact g3
    ·rw [hi2,show i + 1 + w + 1=i + w + 1 + 1 from by omega,val_take_set _ _ _ (by simp; omega),val_take_set _ _ _ (by omega),hdr]
     rw [hes1] at hv
     have hA:4294967296 ^ (i + w + 1) * hi=4294967296 ^ (i + w) * (4294967296 * hi):=by rw [Nat.pow_succ]; grind
     rw [hA,Nat.mul_add,← Nat.add_assoc,hv,Nat.add_assoc,← Nat.mul_add,hdm,Nat.pow_add]
     grind
  ·have h3:i=n:=by simp at h3; omega
   subst h3
   intro V5 l5 bk hb
   refine (c_nat_trim (RD.blk hb hde (n:=i + w + 1) (c:=i + w + 1) (by omega) (Nat.le_refl _)) (by omega)).mono ?_
   rintro r' V6 l6 ⟨k',rfl,h4⟩
   refine ⟨_,_,_,rfl,fun _ V7 l7=>⟨_,_,_,rfl,?_,.inr (by omega)⟩⟩
   rw [val_take_of_le (by omega),val_take_of_le (by omega),val_digs] at hv
   rw [trimD_eq hde,hv] at h4
   exact h4.le l7
end Go.Proofs.Tryz
/- Contracts of package nat: Shr. -/
namespace Go.Proofs.Tryz
open Go.Eng Go.Big
/-- A digit shifted down: d the digit, Y what is above it, e its next digit. -/
theorem shr_step {d Y r:Nat} (hd:d < 4294967296) (hr:r < 32) :
  (d + 4294967296 * Y) / 2 ^ r=(d + 4294967296 * (Y % 4294967296)) / 2 ^ r % 4294967296 + 4294967296 * (Y / 2 ^ r):=by
 have e:4294967296=2 ^ r * 2 ^ (32 - r):=by rw [← Nat.pow_add,Nat.add_sub_cancel' (by omega)]
 have hp:=Nat.two_pow_pos r
 have hq:=Nat.two_pow_pos (32 - r)
 generalize ha:2 ^ r=a at *
 generalize hb:2 ^ (32 - r)=b at *
 have h1:∀Z,(d + 4294967296 * Z) / a=d / a + b * Z:=by
  intro Z
  rw [e,Nat.mul_assoc,Nat.add_mul_div_left _ _ hp]
 rw [h1,h1]
 have hda:d / a < b:=by
  rw [Nat.div_lt_iff_lt_mul hp,Nat.mul_comm,← e]; exact hd
 have h2:b * (Y % 4294967296) % 4294967296=b * (Y % a):=by
  rw [e,Nat.mul_comm a b,Nat.mul_mod_mul_left,Nat.mod_mul_left_mod]
 have h3:b * (Y % a) + b<=4294967296:=by
  have:Y % a + 1<=a:=Nat.mod_lt _ hp
  have:=Nat.mul_le_mul_left b this
  rw [Nat.mul_add,Nat.mul_one,Nat.mul_comm b a,← e] at this
  exact this
 have h4:(d / a + b * (Y % 4294967296)) % 4294967296=d / a + b * (Y % a):=by
  rw [Nat.add_mod,h2,Nat.mod_eq_of_lt (a:=d / a) (by omega),Nat.mod_eq_of_lt (by omega)]
 rw [h4]
 have h5:=Nat.mod_add_div Y a
 have h6:b * Y=b * (Y % a) + 4294967296 * (Y / a):=by
  conv=>lhs; rw [← h5]
  rw [Nat.mul_add,← Nat.mul_assoc,Nat.mul_comm b a,← e]
 rw [h6]; omega
theorem val_drop_mod {xs:List Nat} (h:Dig xs) (i:Nat):val (xs.drop i) % 4294967296=(xs[i]?).getD 0:=by
 rcases Nat.lt_or_ge i xs.length with hi | hi
 ·rw [List.drop_eq_getElem_cons hi,val_cons,List.getElem?_eq_getElem hi,Option.getD_some,Nat.add_mul_mod_self_left,Nat.mod_eq_of_lt (h.get hi)]
 ·rw [List.drop_of_length_le hi,List.getElem?_eq_none hi]; rfl
theorem c_nat_Shr {V:View} {p:OA} {n c:Nat} {ds:List Nat} (h:RD V p n c ds) (hm:ds.length<=1099511627776) (k:Nat) (hk:k < 18446744073709551616) :
  Acts prog 361 #[.slice p n c,.int .u64 (k:Int)] V fun r V'=>∃p' n' c',r=.slice p' n' c'/\RN V' p' n' c' (val ds / 2 ^ k):=by
 have hdl:=digs_val_len h.dig
 refine vc_nat_Shr p n c k V _ fun V1 l1=>(c_nat_trim (h.le l1) (by omega)).mono ?_
 rintro r V2 l2 ⟨n,rfl,hx⟩
 rw [trimD_eq h.dig] at hx
 generalize val ds=x at *
 have hl:=hx.len
 have e2:(k:Int).tdiv 32=((k / 32:Nat):Int):=by rw [Int.tdiv_eq_ediv_of_nonneg (by omega)]; omega
 have e3:(k:Int).tmod 32=((k % 32:Nat):Int):=by rw [Int.tmod_eq_emod_of_nonneg (by omega)]; omega
 refine ⟨_,_,_,rfl,?_⟩
 rw [e2,e3]
 have hk2:x / 2 ^ k=x / 4294967296 ^ (k / 32) / 2 ^ (k % 32):=by
  rw [Nat.div_div_eq_div_mul,show (4294967296:Nat)=2 ^ 32 from rfl,← Nat.pow_mul,← Nat.pow_add,Nat.div_add_mod]
 rw [hk2]
 have hwl:k / 32 < 576460752303423488:=by omega
 generalize k / 32=w at *
 have hrl:k % 32 < 32:=Nat.mod_lt _ (by omega)
 generalize k % 32=r at *
 clear e2 e3 hk2
 refine ⟨by omega,fun h0 V3 l3=>?_,fun h0=>?_⟩
 ·have h0:n<=w:=by
   rw [u64w (by omega),u64w (by omega)] at h0; simp at h0; omega
  have:x / 4294967296 ^ w=0:=Nat.div_eq_of_lt (Nat.lt_of_lt_of_le (digs_len_le.1 (Nat.le_refl _)) (Nat.pow_le_pow_right (by omega) (by omega)))
  rw [this,Nat.zero_div]
  exact ⟨_,_,_,rfl,RD.nil⟩
 ·have h0:w < n:=by
   rw [u64w (by omega),u64w (by omega)] at h0; simp at h0; omega
  simp (disch:=omega) only [i64w,u64w,u32s_rep]
  have hnw:((n:Int) - w).toNat=n - w:=by omega
  rw [hnw]
  have hxw:x / 4294967296 ^ w=val ((digs x).drop w):=by
   have e:val (digs x)=val ((digs x).take w++(digs x).drop w):=by rw [List.take_append_drop]
   have hlt:=val_lt ((dig_digs x).take w)
   rw [val_append,val_digs] at e
   rw [List.length_take,Nat.min_eq_left (by omega)] at e hlt
   have g:∀y,y=val ((digs x).take w) + 4294967296 ^ w * val ((digs x).drop w)->y / 4294967296 ^ w=val ((digs x).drop w):=by
    intro y hy
    rw [hy,Nat.add_mul_div_left _ _ (Nat.pow_pos (by omega)),Nat.div_eq_of_lt hlt,Nat.zero_add]
   exact g x e
  rw [hxw]
  refine ⟨by omega,by omega,by omega,by omega,by omega,fun z V'=>0<=z.1/\z.1<=(n - w:Nat)/\∃es:List Nat,z.2=u32s es/\es.length=n - w/\Dig es /\
   val (es.take z.1.toNat) + 4294967296 ^ z.1.toNat * (val ((digs x).drop (w + z.1.toNat)) / 2 ^ r)=val ((digs x).drop w) / 2 ^ r,fun z=>(n - w) - z.1.toNat,
   ⟨(0,u32s (List.replicate (n - w) 0)),by (try dsimp only); and_intros <;> trivial,by (try dsimp only); omega,by (try dsimp only); omega,_,rfl,by simp,Dig.rep _,by simp⟩,?_⟩
  rintro ⟨i,vs⟩ V4 l4 ⟨hi0,hi1,es,rfl,hes,hde,hv⟩
  dsimp only at hi0 hi1 hv ⊢
  obtain ⟨i,rfl⟩:=Int.eq_ofNat_of_zero_le hi0
  simp only [Int.toNat_natCast] at hv
  refine ⟨by trivial,fun h3=>?_,fun h3=>?_⟩
  ·have h3:i < n - w:=by simpa using h3
   simp (disch:=omega) only [i64w]
   refine (hx.le l4).rd (w + i) (by omega) (by omega) ?_
   have hdx:=(dig_digs x).get (i:=w + i) (by omega)
   have hst:=shr_step (Y:=val ((digs x).drop (w + i + 1))) hdx hrl
   rw [val_drop_mod (dig_digs x)] at hst
   have hmin:(min ((r:Nat):Int).toNat IntKind.u64.bits)=r:=by
    show min _ 64=r
    omega
   have hdrop:val ((digs x).drop (w + i))=(digs x)[w + i] + 4294967296 * val ((digs x).drop (w + i + 1)):=by
    rw [List.drop_eq_getElem_cons (by omega),val_cons]
   rw [hdrop] at hv
   rw [hst] at hv
   have nxt:∀D:Nat,D=((digs x)[w + i] + 4294967296 * ((digs x)[w + i + 1]?).getD 0) / 2 ^ r % 4294967296 ->
     ∃es':List Nat,(u32s es).set (0 + i * 1) (.int .u32 (D:Int))=u32s es'/\es'.length=n - w/\Dig es' /\
     val (es'.take (i + 1)) + 4294967296 ^ (i + 1) * (val ((digs x).drop (w + (i + 1))) / 2 ^ r)=val ((digs x).drop w) / 2 ^ r:=by
    intro D hD
    refine ⟨es.set i D,by rw [← u32s_set]; simp,by simpa using hes,hde.set _ _ (by omega),?_⟩
    rw [val_take_set _ _ _ (by omega),← hv,hD,Nat.pow_succ,Nat.mul_add,Nat.add_assoc,Nat.mul_assoc,Nat.add_assoc w i 1]
   have hi2:((i:Int) + 1).toNat=i + 1:=by omega
   refine ⟨fun h4=>?_,fun h4=>?_⟩
   ·have h4:w + i + 1 < n:=by simp at h4; omega
    refine (hx.le l4).rd (w + i + 1) (by omega) (by omega) ?_
    have hdy:=(dig_digs x).get (i:=w + i + 1) (by omega)
    have e4:bitI .or .u64 (u64.wrap (((digs x)[w + i]:Nat):Int)) (u64.wrap (u64.wrap (((digs x)[w + i + 1]:Nat):Int) * 2 ^ 32))=(((digs x)[w + i] + 4294967296 * ((digs x)[w + i + 1]?).getD 0:Nat):Int):=by
     have e3:((2:Int) ^ 32)=4294967296:=by decide
     rw [e3,u64w (by omega),u64w (x:=(((digs x)[w + i + 1]:Nat):Int)) (by omega),u64w (by omega),or64' _ _ hdy hdx,List.getElem?_eq_getElem (by omega),Option.getD_some]
     omega
    rw [e4,hmin,fdiv_nat,u32m]
    refine ⟨by omega,by omega,⟨by omega,by omega⟩,by simp; omega,?_⟩
    obtain ⟨es',g1,g2,g3,g4⟩:=nxt _ rfl
    refine ⟨((i:Int) + 1,u32s es'),?_,?_,?_⟩
    ·(try dsimp only); omega
    ·(try dsimp only); and_intros <;> first | trivial | (rw [← g1]; simp)
    ·(try dsimp only)
     exact ⟨by omega,by omega,es',rfl,g2,g3,by rw [hi2]; exact g4⟩
   ·have h4:n<=w + i + 1:=by simp at h4; omega
    have e4:u64.wrap (((digs x)[w + i]:Nat):Int)=(((digs x)[w + i] + 4294967296 * ((digs x)[w + i + 1]?).getD 0:Nat):Int):=by
     rw [u64w (by omega),List.getElem?_eq_none (by omega)]; simp
    rw [e4,hmin,fdiv_nat,u32m]
    refine ⟨by omega,⟨by omega,by omega⟩,by simp; omega,?_⟩
    obtain ⟨es',g1,g2,g3,g4⟩:=nxt _ rfl
    refine ⟨((i:Int) + 1,u32s es'),?_,?_,?_⟩
    ·(try dsimp only); omega
    ·(try dsimp only); and_intros <;> first | trivial | (rw [← g1]; simp)
    ·(try dsimp only)
     exact ⟨by omega,by omega,es',rfl,g2,g3,by rw [hi2]; exact g4⟩
  ·have h3:i=n - w:=by simp at h3; omega
   intro V5 l5 bk hb
   refine (c_nat_trim (RD.blk hb hde (n:=n - w) (c:=n - w) (by omega) (Nat.le_refl _)) (by omega)).mono ?_
   rintro r' V6 l6 ⟨k',rfl,h4⟩
   refine ⟨_,_,_,rfl,fun _ V7 l7=>⟨_,_,_,rfl,?_⟩⟩
   rw [val_take_of_le (by omega),List.drop_of_length_le (l:=digs x) (i:=w + i) (by omega)] at hv
   have hv:val es=val ((digs x).drop w) / 2 ^ r:=by
    rw [← hv,val_nil,Nat.zero_div,Nat.mul_zero,Nat.add_zero]
   rw [trimD_eq hde,hv] at h4
   exact h4.le l7
end Go.Proofs.Tryz
/- Plain facts on long division. -/
namespace Go.Big
theorem guess_dec {v1 v2 v' u0 u1 u2 t' B W G ρ T Y:Nat} (hY:Y=(v1 * W + v2) * B + v') (hT:T=((u0 * W + u1) * W + u2) * B + t') (ht:t' < B)
  (hg:G * v1 + ρ=u0 * W + u1) (hd:ρ * W + u2 < G * v2):T < G * Y:=by
 have h1:(u0 * W + u1) * W + u2 + 1<=G * (v1 * W + v2):=by
  rw [← hg,Nat.mul_add,Nat.add_mul,← Nat.mul_assoc]; omega
 have h2:=Nat.mul_le_mul_right B h1
 have h3:G * (v1 * W + v2) * B<=G * Y:=by rw [hY,Nat.mul_assoc]; exact Nat.mul_le_mul_left _ (Nat.le_add_right _ _)
 rw [Nat.add_mul,Nat.one_mul] at h2
 omega
theorem guess_fin {v1 v2 v' u0 u1 u2 t' B W G ρ T Y:Nat} (hY:Y=(v1 * W + v2) * B + v') (hT:T=((u0 * W + u1) * W + u2) * B + t') (hv:v' < B) (hv1:1<=v1) (hW:0 < W)
  (hg:G * v1 + ρ=u0 * W + u1) (hd:G * v2<=ρ * W + u2) (hG:G<=W):G * Y < T + Y:=by
 have h1:G * (v1 * W + v2)<=(u0 * W + u1) * W + u2:=by
  rw [← hg,Nat.mul_add,Nat.add_mul,← Nat.mul_assoc]; omega
 have h2:=Nat.mul_le_mul_right B h1
 have h3:G * v'<=W * v':=Nat.mul_le_mul_right _ hG
 have h4:W * v' < W * B:=Nat.mul_lt_mul_of_pos_left hv hW
 have h5:W * B<=v1 * W * B:=by
  have:=Nat.mul_le_mul_right (W * B) hv1
  rw [Nat.one_mul,← Nat.mul_assoc] at this; exact this
 have h6:(v1 * W + v2) * B=v1 * W * B + v2 * B:=Nat.add_mul _ _ _
 have h7:G * Y=G * (v1 * W + v2) * B + G * v':=by rw [hY,Nat.mul_add,Nat.mul_assoc]
 rw [h7,hY,h6]
 omega
theorem guess_top {v1 v2 v' u0 u1 u2 t' B W T Y:Nat} (hY:Y=(v1 * W + v2) * B + v') (hT:T=((u0 * W + u1) * W + u2) * B + t') (hv:v' < B) (h:T < W * Y):u0 * W + u1<=v1 * W + v2:=by
 rcases Nat.lt_or_ge (v1 * W + v2) (u0 * W + u1) with hc | hc
 ·exfalso
  have h1:(v1 * W + v2 + 1) * W<=(u0 * W + u1) * W:=Nat.mul_le_mul_right _ hc
  have h2:=Nat.mul_le_mul_right B h1
  have h3:W * Y<=W * ((v1 * W + v2 + 1) * B):=by
   rw [hY,Nat.add_mul (v1 * W + v2) 1 B,Nat.one_mul]; exact Nat.mul_le_mul_left _ (by omega)
  have h4:W * ((v1 * W + v2 + 1) * B)=(v1 * W + v2 + 1) * W * B:=by grind
  have h5:(u0 * W + u1) * W * B<=T:=by rw [hT,Nat.add_mul ((u0 * W + u1) * W) u2 B]; omega
  omega
 ·exact hc
theorem guess_up {v1 v2 v' u0 u1 u2 t' B W G ρ T Y:Nat} (hY:Y=(v1 * W + v2) * B + v') (hT:T=((u0 * W + u1) * W + u2) * B + t') (ht:t' < B) (hu:u2 < W)
  (hg:G * v1 + ρ=u0 * W + u1) (hr:ρ < v1):T < (G + 1) * Y:=by
 have h1:u0 * W + u1 + 1<=(G + 1) * v1:=by rw [Nat.add_mul,Nat.one_mul]; omega
 have h2:=Nat.mul_le_mul_right (W * B) h1
 have h3:(G + 1) * v1 * (W * B)<=(G + 1) * Y:=by
  rw [hY,Nat.mul_assoc]
  refine Nat.mul_le_mul_left _ ?_
  rw [← Nat.mul_assoc,Nat.add_mul]; omega
 have h4:((u0 * W + u1) * W + u2) * B + t' < (u0 * W + u1 + 1) * (W * B):=by
  have h5:(u2 + 1) * B<=W * B:=Nat.mul_le_mul_right _ hu
  rw [Nat.add_mul,Nat.one_mul] at h5
  have h6:(u0 * W + u1 + 1) * (W * B)=(u0 * W + u1) * W * B + W * B:=by grind
  rw [h6,Nat.add_mul ((u0 * W + u1) * W) u2 B]; omega
 omega
/-- A digit of the product is taken away: d the digit of the divisor, u that of the rest. -/
theorem subm_step {F U c b g d u Y W S:Nat} {x:Int} (h:F + W * (g * Y)=U + W * S * (c + b)) (hc:c < 4294967296) (hb:b<=1) (hu:u < 4294967296)
  (hx:x=((u:Int) - ((c + g * d) % 4294967296:Nat) - b) % 18446744073709551616) :
  0<=x/\0<=x / 9223372036854775808/\x / 9223372036854775808<=1 /\
  F + W * S * (x % 4294967296).toNat + W * (g * (Y + S * d))=U + W * S * u + W * (S * 4294967296) * ((c + g * d) / 4294967296 + (x / 9223372036854775808).toNat):=by
 have hdm:=Nat.mod_add_div (c + g * d) 4294967296
 have hm:(c + g * d) % 4294967296 < 4294967296:=Nat.mod_lt _ (by omega)
 generalize (c + g * d) / 4294967296=q at *
 generalize (c + g * d) % 4294967296=m at *
 have key:∃o B:Nat,(x % 4294967296).toNat=o/\(x / 9223372036854775808).toNat=B/\u + 4294967296 * B=o + m + b/\0<=x/\0<=x / 9223372036854775808/\x / 9223372036854775808<=1:=by
  refine ⟨_,_,rfl,rfl,?_,by omega,by omega,by omega⟩
  omega
 obtain ⟨o,B,e1,e2,e3,g1,g2,g3⟩:=key
 refine ⟨g1,g2,g3,?_⟩
 rw [e1,e2]
 have e4:u + 4294967296 * (B + q)=o + b + (c + g * d):=by omega
 have e5:W * S * u + W * (S * 4294967296) * (q + B)=W * S * (u + 4294967296 * (B + q)):=by grind
 rw [Nat.add_assoc U,e5,e4]
 grind
/-- A digit of the divisor is given back. -/
theorem addm_step {F U c d u Y W S t:Nat} (h:F + W * S * c=U + W * Y) (ht:t=c + u + d) :
  F + W * S * (t % 4294967296) + W * (S * 4294967296) * (t / 4294967296)=U + W * S * u + W * (Y + S * d):=by
 have h1:W * S * (t % 4294967296) + W * (S * 4294967296) * (t / 4294967296)=W * S * t:=by
  have:=Nat.mod_add_div t 4294967296
  have e:W * (S * 4294967296) * (t / 4294967296)=W * S * (4294967296 * (t / 4294967296)):=by grind
  rw [e,← Nat.mul_add,this]
 rw [Nat.add_assoc,h1,ht]
 grind
end Go.Big
/- By program: the conditions of the functions, from their loaded code. -/
namespace Go.Proofs.Tryz
open Go.Eng
open Go.Value renaming int→I,pointer→P,slice→S,agg→A,bool→B,tuple→T
open Go.IntKind renaming i64→J,u64→U,u32→W
set_option maxRecDepth 100000
theorem vc_nat_long (d1:OA) (d d2:Nat) (a5:OA) (u d3:Nat) (V:View) (R:VR) (h:(a5.isSome=true)/\(0<=(J.wrap ((u:Int)-1))/\(J.wrap ((u:Int)-1)) < (u:Int))/\(∃d4,(∃d5,addrAdd a5 (((J.wrap ((u:Int)-1)).toNat) * 1)=some d5/\V.at d5 (I W d4))/\(Ca V 295 #[I W d4] fun f7 f8=>∃g,f7=I J g/\(Ca f8 360 #[S d1 d d2,I U (U.wrap g)] fun f9 d6=>∃c0 r a6,f9=S c0 r a6/\(∃c1:List Value,d6.sl c0 c1/\c1.length=r * 1/\r<=a6/\(c0.isNone=true->a6=0)/\((r + 2) * 4<=140737488355328/\a6 < r + 2/\([I W 0,I W 0]:List Value).length=2 * 1/\(∀g0 ∈ ([I W 0,I W 0]:List Value),g0.oneCell'=true)/\∀(d7:List Value) (o:Nat),r + 2<=o->o * 1<=(r + 2) * 1 + d7.length->(0<=(J.wrap ((d:Int)+1))/\(J.wrap ((d:Int)+1))<=(o:Int))/\(Ca d6 360 #[S a5 u d3,I U (U.wrap g)] fun g1 a7=>∃k a p,g1=S k a p/\(k.isSome=true)/\(0<=(J.wrap ((a:Int)-1))/\(J.wrap ((a:Int)-1)) < (a:Int))/\(∃e,(∃d8,addrAdd k (((J.wrap ((a:Int)-1)).toNat) * 1)=some d8/\a7.at d8 (I W e))/\(k.isSome=true)/\(0<=(J.wrap ((a:Int)-2))/\(J.wrap ((a:Int)-2)) < (a:Int))/\(∃i,(∃d9,addrAdd k (((J.wrap ((a:Int)-2)).toNat) * 1)=some d9/\a7.at d9 (I W i))/\(0<=J.wrap ((((J.wrap ((d:Int)+1)).toNat:Nat):Int) - (a:Int)))/\(J.wrap ((((J.wrap ((d:Int)+1)).toNat:Nat):Int) - (a:Int))<=J.wrap ((((J.wrap ((d:Int)+1)).toNat:Nat):Int) - (a:Int)))/\((4:Int) * (J.wrap ((((J.wrap ((d:Int)+1)).toNat:Nat):Int) - (a:Int)))<=140737488355328)/\(∃(a8:(Int × (List Value) × (List Value))->VP) (a9:(Int × (List Value) × (List Value))->Nat),(∃b0,(((U.wrap g)=(U.wrap g))/\sm 0/\(((J.wrap ((d:Int)+1)).toNat:Nat)=(J.wrap ((d:Int)+1)).toNat)/\s5 o k a p (a:Int) (((U.wrap e)=(U.wrap e))/\((U.wrap i)=(U.wrap i))/\sm 0/\(((J.wrap ((((J.wrap ((d:Int)+1)).toNat:Nat):Int) - (a:Int))).toNat:Nat)=(J.wrap ((((J.wrap ((d:Int)+1)).toNat:Nat):Int) - (a:Int))).toNat)/\(((J.wrap ((((J.wrap ((d:Int)+1)).toNat:Nat):Int) - (a:Int))).toNat:Nat)=(J.wrap ((((J.wrap ((d:Int)+1)).toNat:Nat):Int) - (a:Int))).toNat)/\((J.wrap ((((J.wrap ((((J.wrap ((d:Int)+1)).toNat:Nat):Int) - (a:Int))).toNat:Nat):Int)-1))=b0.1)/\((c1++([I W 0,I W 0]:List Value)++d7)=b0.2.1)/\((List.replicate ((J.wrap ((((J.wrap ((d:Int)+1)).toNat:Nat):Int) - (a:Int))).toNat) (I W 0))=b0.2.2)))/\a8 b0 a7)/\∀(b:Int × (List Value) × (List Value)) (w:View),a7.Le w->a8 b w->(true=true/\(((decide (b.1 ≥ (0:Int)))=true->(0<=(J.wrap (b.1 + (a:Int)))/\(J.wrap (b.1 + (a:Int))) < (((J.wrap ((d:Int)+1)).toNat:Nat):Int))/\(∃c2,b.2.1[0 + (((J.wrap (b.1 + (a:Int))).toNat) * 1)]?=some (I W c2)/\(0<=(32:Int))/\(0<=(J.wrap ((J.wrap (b.1 + (a:Int)))-1))/\(J.wrap ((J.wrap (b.1 + (a:Int)))-1)) < (((J.wrap ((d:Int)+1)).toNat:Nat):Int))/\(∃c3,b.2.1[0 + (((J.wrap ((J.wrap (b.1 + (a:Int)))-1)).toNat) * 1)]?=some (I W c3)/\((U.wrap e)≠0)/\((U.wrap e)≠0)/\(∃b1:Int->VP,(∃(b2:(Int × Int)->VP) (b3:(Int × Int)->Nat),(∃c4,(((U.wrap g)=(U.wrap g))/\sm 0/\(((J.wrap ((d:Int)+1)).toNat:Nat)=(J.wrap ((d:Int)+1)).toNat)/\s5 o k a p (a:Int) (((U.wrap e)=(U.wrap e))/\((U.wrap i)=(U.wrap i))/\sm 0/\(((J.wrap ((((J.wrap ((d:Int)+1)).toNat:Nat):Int) - (a:Int))).toNat:Nat)=(J.wrap ((((J.wrap ((d:Int)+1)).toNat:Nat):Int) - (a:Int))).toNat)/\(((J.wrap ((((J.wrap ((d:Int)+1)).toNat:Nat):Int) - (a:Int))).toNat:Nat)=(J.wrap ((((J.wrap ((d:Int)+1)).toNat:Nat):Int) - (a:Int))).toNat)/\sm b.1/\((U.wrap ((bitI .or .u64 (U.wrap ((U.wrap c2) * 2 ^ 32)) (U.wrap c3)).tdiv (U.wrap e)))=c4.1)/\(((bitI .or .u64 (U.wrap ((U.wrap c2) * 2 ^ 32)) (U.wrap c3)).tmod (U.wrap e))=c4.2)/\sm b.2.1/\sm b.2.2))/\b2 c4 w)/\∀(n:Int × Int) (s:View),w.Le s->b2 n s->(true=true/\(0<=(32:Int))/\((((n.1.fdiv (2 ^ 32)) != (0:Int))=true->(0<=(32:Int))/\(((((U.wrap (n.2 + (U.wrap e))).fdiv (2 ^ 32)) != (0:Int))=true->(∃e0:Int,(((U.wrap g)=(U.wrap g))/\sm 0/\(((J.wrap ((d:Int)+1)).toNat:Nat)=(J.wrap ((d:Int)+1)).toNat)/\s5 o k a p (a:Int) (((U.wrap e)=(U.wrap e))/\((U.wrap i)=(U.wrap i))/\sm 0/\(((J.wrap ((((J.wrap ((d:Int)+1)).toNat:Nat):Int) - (a:Int))).toNat:Nat)=(J.wrap ((((J.wrap ((d:Int)+1)).toNat:Nat):Int) - (a:Int))).toNat)/\(((J.wrap ((((J.wrap ((d:Int)+1)).toNat:Nat):Int) - (a:Int))).toNat:Nat)=(J.wrap ((((J.wrap ((d:Int)+1)).toNat:Nat):Int) - (a:Int))).toNat)/\sm b.1/\((U.wrap (n.1 - (1:Int)))=e0)/\sm b.2.1/\sm b.2.2))/\b1 e0 s))/\((((U.wrap (n.2 + (U.wrap e))).fdiv (2 ^ 32)) != (0:Int))=false->(∃b4:Int × Int,b3 b4 < b3 n/\(((U.wrap g)=(U.wrap g))/\sm 0/\(((J.wrap ((d:Int)+1)).toNat:Nat)=(J.wrap ((d:Int)+1)).toNat)/\s5 o k a p (a:Int) (((U.wrap e)=(U.wrap e))/\((U.wrap i)=(U.wrap i))/\sm 0/\(((J.wrap ((((J.wrap ((d:Int)+1)).toNat:Nat):Int) - (a:Int))).toNat:Nat)=(J.wrap ((((J.wrap ((d:Int)+1)).toNat:Nat):Int) - (a:Int))).toNat)/\(((J.wrap ((((J.wrap ((d:Int)+1)).toNat:Nat):Int) - (a:Int))).toNat:Nat)=(J.wrap ((((J.wrap ((d:Int)+1)).toNat:Nat):Int) - (a:Int))).toNat)/\sm b.1/\((U.wrap (n.1 - (1:Int)))=b4.1)/\((U.wrap (n.2 + (U.wrap e)))=b4.2)/\sm b.2.1/\sm b.2.2))/\b2 b4 s))))/\(((n.1.fdiv (2 ^ 32)) != (0:Int))=false->(0<=(32:Int))/\(0<=(J.wrap ((J.wrap (b.1 + (a:Int)))-2))/\(J.wrap ((J.wrap (b.1 + (a:Int)))-2)) < (((J.wrap ((d:Int)+1)).toNat:Nat):Int))/\(∃c5,b.2.1[0 + (((J.wrap ((J.wrap (b.1 + (a:Int)))-2)).toNat) * 1)]?=some (I W c5)/\(((decide ((U.wrap (n.1 * (U.wrap i))) > (bitI .or .u64 (U.wrap (n.2 * 2 ^ 32)) (U.wrap c5))))=true->(0<=(32:Int))/\(((((U.wrap (n.2 + (U.wrap e))).fdiv (2 ^ 32)) != (0:Int))=true->(∃e1:Int,(((U.wrap g)=(U.wrap g))/\sm 0/\(((J.wrap ((d:Int)+1)).toNat:Nat)=(J.wrap ((d:Int)+1)).toNat)/\s5 o k a p (a:Int) (((U.wrap e)=(U.wrap e))/\((U.wrap i)=(U.wrap i))/\sm 0/\(((J.wrap ((((J.wrap ((d:Int)+1)).toNat:Nat):Int) - (a:Int))).toNat:Nat)=(J.wrap ((((J.wrap ((d:Int)+1)).toNat:Nat):Int) - (a:Int))).toNat)/\(((J.wrap ((((J.wrap ((d:Int)+1)).toNat:Nat):Int) - (a:Int))).toNat:Nat)=(J.wrap ((((J.wrap ((d:Int)+1)).toNat:Nat):Int) - (a:Int))).toNat)/\sm b.1/\((U.wrap (n.1 - (1:Int)))=e1)/\sm b.2.1/\sm b.2.2))/\b1 e1 s))/\((((U.wrap (n.2 + (U.wrap e))).fdiv (2 ^ 32)) != (0:Int))=false->(∃b5:Int × Int,b3 b5 < b3 n/\(((U.wrap g)=(U.wrap g))/\sm 0/\(((J.wrap ((d:Int)+1)).toNat:Nat)=(J.wrap ((d:Int)+1)).toNat)/\s5 o k a p (a:Int) (((U.wrap e)=(U.wrap e))/\((U.wrap i)=(U.wrap i))/\sm 0/\(((J.wrap ((((J.wrap ((d:Int)+1)).toNat:Nat):Int) - (a:Int))).toNat:Nat)=(J.wrap ((((J.wrap ((d:Int)+1)).toNat:Nat):Int) - (a:Int))).toNat)/\(((J.wrap ((((J.wrap ((d:Int)+1)).toNat:Nat):Int) - (a:Int))).toNat:Nat)=(J.wrap ((((J.wrap ((d:Int)+1)).toNat:Nat):Int) - (a:Int))).toNat)/\sm b.1/\((U.wrap (n.1 - (1:Int)))=b5.1)/\((U.wrap (n.2 + (U.wrap e)))=b5.2)/\sm b.2.1/\sm b.2.2))/\b2 b5 s))))/\((decide ((U.wrap (n.1 * (U.wrap i))) > (bitI .or .u64 (U.wrap (n.2 * 2 ^ 32)) (U.wrap c5))))=false->(∃e2:Int,(((U.wrap g)=(U.wrap g))/\sm 0/\(((J.wrap ((d:Int)+1)).toNat:Nat)=(J.wrap ((d:Int)+1)).toNat)/\s5 o k a p (a:Int) (((U.wrap e)=(U.wrap e))/\((U.wrap i)=(U.wrap i))/\sm 0/\(((J.wrap ((((J.wrap ((d:Int)+1)).toNat:Nat):Int) - (a:Int))).toNat:Nat)=(J.wrap ((((J.wrap ((d:Int)+1)).toNat:Nat):Int) - (a:Int))).toNat)/\(((J.wrap ((((J.wrap ((d:Int)+1)).toNat:Nat):Int) - (a:Int))).toNat:Nat)=(J.wrap ((((J.wrap ((d:Int)+1)).toNat:Nat):Int) - (a:Int))).toNat)/\sm b.1/\(n.1=e2)/\sm b.2.1/\sm b.2.2))/\b1 e2 s))))))))/\∀(q:Int) (b6:View),w.Le b6->b1 q b6->(true=true/\(∃(c6:(Int × Int × Int × (List Value))->VP) (e3:(Int × Int × Int × (List Value))->Nat),(∃z,(((U.wrap g)=(U.wrap g))/\sm 0/\(((J.wrap ((d:Int)+1)).toNat:Nat)=(J.wrap ((d:Int)+1)).toNat)/\s5 o k a p (a:Int) (((U.wrap e)=(U.wrap e))/\((U.wrap i)=(U.wrap i))/\sm 0/\(((J.wrap ((((J.wrap ((d:Int)+1)).toNat:Nat):Int) - (a:Int))).toNat:Nat)=(J.wrap ((((J.wrap ((d:Int)+1)).toNat:Nat):Int) - (a:Int))).toNat)/\(((J.wrap ((((J.wrap ((d:Int)+1)).toNat:Nat):Int) - (a:Int))).toNat:Nat)=(J.wrap ((((J.wrap ((d:Int)+1)).toNat:Nat):Int) - (a:Int))).toNat)/\s6 b.1 q k a p (a:Int) (((0:Int)=z.1)/\((0:Int)=z.2.1)/\((0:Int)=z.2.2.1)/\sm b.2.2/\(b.2.1=z.2.2.2))))/\c6 z b6)/\∀(f:Int × Int × Int × (List Value)) (t:View),b6.Le t->c6 f t->(true=true/\(((decide (f.2.2.1 < (a:Int)))=true->(k.isSome=true)/\(0<=f.2.2.1/\f.2.2.1 < (a:Int))/\(∃b7,(∃e4,addrAdd k (f.2.2.1.toNat * 1)=some e4/\t.at e4 (I W b7))/\(0<=(J.wrap (b.1 + f.2.2.1))/\(J.wrap (b.1 + f.2.2.1)) < (((J.wrap ((d:Int)+1)).toNat:Nat):Int))/\(∃c7,f.2.2.2[0 + (((J.wrap (b.1 + f.2.2.1)).toNat) * 1)]?=some (I W c7)/\(0<=(J.wrap (b.1 + f.2.2.1))/\(J.wrap (b.1 + f.2.2.1)) < (((J.wrap ((d:Int)+1)).toNat:Nat):Int))/\((0 + (((J.wrap (b.1 + f.2.2.1)).toNat) * 1)) + 1<=f.2.2.2.length)/\(0<=(63:Int))/\(0<=(32:Int))/\(∃x:Int × Int × Int × (List Value),e3 x < e3 f/\(((U.wrap g)=(U.wrap g))/\sm 0/\(((J.wrap ((d:Int)+1)).toNat:Nat)=(J.wrap ((d:Int)+1)).toNat)/\s5 o k a p (a:Int) (((U.wrap e)=(U.wrap e))/\((U.wrap i)=(U.wrap i))/\sm 0/\(((J.wrap ((((J.wrap ((d:Int)+1)).toNat:Nat):Int) - (a:Int))).toNat:Nat)=(J.wrap ((((J.wrap ((d:Int)+1)).toNat:Nat):Int) - (a:Int))).toNat)/\(((J.wrap ((((J.wrap ((d:Int)+1)).toNat:Nat):Int) - (a:Int))).toNat:Nat)=(J.wrap ((((J.wrap ((d:Int)+1)).toNat:Nat):Int) - (a:Int))).toNat)/\s6 b.1 q k a p (a:Int) ((((U.wrap ((U.wrap ((U.wrap c7) - (bitI .and .u64 (U.wrap (f.2.1 + (U.wrap (q * (U.wrap b7))))) (4294967295:Int)))) - f.1)).fdiv (2 ^ 63))=x.1)/\(((U.wrap (f.2.1 + (U.wrap (q * (U.wrap b7))))).fdiv (2 ^ 32))=x.2.1)/\((J.wrap (f.2.2.1 + (1:Int)))=x.2.2.1)/\sm b.2.2/\((f.2.2.2.set (0 + (((J.wrap (b.1 + f.2.2.1)).toNat) * 1)) (I W (W.wrap (U.wrap ((U.wrap ((U.wrap c7) - (bitI .and .u64 (U.wrap (f.2.1 + (U.wrap (q * (U.wrap b7))))) (4294967295:Int)))) - f.1)))))=x.2.2.2))))/\c6 x t))))/\((decide (f.2.2.1 < (a:Int)))=false->(0<=(J.wrap (b.1 + (a:Int)))/\(J.wrap (b.1 + (a:Int))) < (((J.wrap ((d:Int)+1)).toNat:Nat):Int))/\(∃a0,f.2.2.2[0 + (((J.wrap (b.1 + (a:Int))).toNat) * 1)]?=some (I W a0)/\(0<=(J.wrap (b.1 + (a:Int)))/\(J.wrap (b.1 + (a:Int))) < (((J.wrap ((d:Int)+1)).toNat:Nat):Int))/\((0 + (((J.wrap (b.1 + (a:Int))).toNat) * 1)) + 1<=f.2.2.2.length)/\(0<=b.1/\b.1 < (((J.wrap ((((J.wrap ((d:Int)+1)).toNat:Nat):Int) - (a:Int))).toNat:Nat):Int))/\((0 + (b.1.toNat * 1)) + 1<=b.2.2.length)/\(0<=(63:Int))/\(((((U.wrap ((U.wrap ((U.wrap a0) - f.2.1)) - f.1)).fdiv (2 ^ 63)) == (0:Int))=true->(∃a1:Int × (List Value) × (List Value),a9 a1 < a9 b/\(((U.wrap g)=(U.wrap g))/\sm 0/\(((J.wrap ((d:Int)+1)).toNat:Nat)=(J.wrap ((d:Int)+1)).toNat)/\s5 o k a p (a:Int) (((U.wrap e)=(U.wrap e))/\((U.wrap i)=(U.wrap i))/\sm 0/\(((J.wrap ((((J.wrap ((d:Int)+1)).toNat:Nat):Int) - (a:Int))).toNat:Nat)=(J.wrap ((((J.wrap ((d:Int)+1)).toNat:Nat):Int) - (a:Int))).toNat)/\(((J.wrap ((((J.wrap ((d:Int)+1)).toNat:Nat):Int) - (a:Int))).toNat:Nat)=(J.wrap ((((J.wrap ((d:Int)+1)).toNat:Nat):Int) - (a:Int))).toNat)/\((J.wrap (b.1 - (1:Int)))=a1.1)/\((f.2.2.2.set (0 + (((J.wrap (b.1 + (a:Int))).toNat) * 1)) (I W (W.wrap (U.wrap ((U.wrap ((U.wrap a0) - f.2.1)) - f.1)))))=a1.2.1)/\((b.2.2.set (0 + (b.1.toNat * 1)) (I W (W.wrap q)))=a1.2.2)))/\a8 a1 t))/\((((U.wrap ((U.wrap ((U.wrap a0) - f.2.1)) - f.1)).fdiv (2 ^ 63)) == (0:Int))=false->(0<=b.1/\b.1 < (((J.wrap ((((J.wrap ((d:Int)+1)).toNat:Nat):Int) - (a:Int))).toNat:Nat):Int))/\(∃y,(b.2.2.set (0 + (b.1.toNat * 1)) (I W (W.wrap q)))[0 + (b.1.toNat * 1)]?=some (I W y)/\(0<=b.1/\b.1 < (((J.wrap ((((J.wrap ((d:Int)+1)).toNat:Nat):Int) - (a:Int))).toNat:Nat):Int))/\((0 + (b.1.toNat * 1)) + 1<=(b.2.2.set (0 + (b.1.toNat * 1)) (I W (W.wrap q))).length)/\(∃(c8:(Int × Int × (List Value))->VP) (e5:(Int × Int × (List Value))->Nat),(∃b8,(((U.wrap g)=(U.wrap g))/\sm 0/\(((J.wrap ((d:Int)+1)).toNat:Nat)=(J.wrap ((d:Int)+1)).toNat)/\s5 o k a p (a:Int) (((U.wrap e)=(U.wrap e))/\((U.wrap i)=(U.wrap i))/\sm 0/\(((J.wrap ((((J.wrap ((d:Int)+1)).toNat:Nat):Int) - (a:Int))).toNat:Nat)=(J.wrap ((((J.wrap ((d:Int)+1)).toNat:Nat):Int) - (a:Int))).toNat)/\(((J.wrap ((((J.wrap ((d:Int)+1)).toNat:Nat):Int) - (a:Int))).toNat:Nat)=(J.wrap ((((J.wrap ((d:Int)+1)).toNat:Nat):Int) - (a:Int))).toNat)/\s5 b.1 k a p (a:Int) (((0:Int)=b8.1)/\((0:Int)=b8.2.1)/\(((b.2.2.set (0 + (b.1.toNat * 1)) (I W (W.wrap q))).set (0 + (b.1.toNat * 1)) (I W (W.wrap (y - (1:Int)))))=((b.2.2.set (0 + (b.1.toNat * 1)) (I W (W.wrap q))).set (0 + (b.1.toNat * 1)) (I W (W.wrap (y - (1:Int))))))/\((f.2.2.2.set (0 + (((J.wrap (b.1 + (a:Int))).toNat) * 1)) (I W (W.wrap (U.wrap ((U.wrap ((U.wrap a0) - f.2.1)) - f.1)))))=b8.2.2))))/\c8 b8 t)/\∀(l:Int × Int × (List Value)) (a2:View),t.Le a2->c8 l a2->(true=true/\(((decide (l.2.1 < (a:Int)))=true->(k.isSome=true)/\(0<=l.2.1/\l.2.1 < (a:Int))/\(∃c9,(∃e6,addrAdd k (l.2.1.toNat * 1)=some e6/\a2.at e6 (I W c9))/\(0<=(J.wrap (b.1 + l.2.1))/\(J.wrap (b.1 + l.2.1)) < (((J.wrap ((d:Int)+1)).toNat:Nat):Int))/\(∃d0,l.2.2[0 + (((J.wrap (b.1 + l.2.1)).toNat) * 1)]?=some (I W d0)/\(0<=(J.wrap (b.1 + l.2.1))/\(J.wrap (b.1 + l.2.1)) < (((J.wrap ((d:Int)+1)).toNat:Nat):Int))/\((0 + (((J.wrap (b.1 + l.2.1)).toNat) * 1)) + 1<=l.2.2.length)/\(0<=(32:Int))/\(∃a3:Int × Int × (List Value),e5 a3 < e5 l/\(((U.wrap g)=(U.wrap g))/\sm 0/\(((J.wrap ((d:Int)+1)).toNat:Nat)=(J.wrap ((d:Int)+1)).toNat)/\s5 o k a p (a:Int) (((U.wrap e)=(U.wrap e))/\((U.wrap i)=(U.wrap i))/\sm 0/\(((J.wrap ((((J.wrap ((d:Int)+1)).toNat:Nat):Int) - (a:Int))).toNat:Nat)=(J.wrap ((((J.wrap ((d:Int)+1)).toNat:Nat):Int) - (a:Int))).toNat)/\(((J.wrap ((((J.wrap ((d:Int)+1)).toNat:Nat):Int) - (a:Int))).toNat:Nat)=(J.wrap ((((J.wrap ((d:Int)+1)).toNat:Nat):Int) - (a:Int))).toNat)/\s5 b.1 k a p (a:Int) ((((U.wrap (l.1 + (U.wrap ((U.wrap d0) + (U.wrap c9))))).fdiv (2 ^ 32))=a3.1)/\((J.wrap (l.2.1 + (1:Int)))=a3.2.1)/\(((b.2.2.set (0 + (b.1.toNat * 1)) (I W (W.wrap q))).set (0 + (b.1.toNat * 1)) (I W (W.wrap (y - (1:Int)))))=((b.2.2.set (0 + (b.1.toNat * 1)) (I W (W.wrap q))).set (0 + (b.1.toNat * 1)) (I W (W.wrap (y - (1:Int))))))/\((l.2.2.set (0 + (((J.wrap (b.1 + l.2.1)).toNat) * 1)) (I W (W.wrap (U.wrap (l.1 + (U.wrap ((U.wrap d0) + (U.wrap c9))))))))=a3.2.2))))/\c8 a3 a2))))/\((decide (l.2.1 < (a:Int)))=false->(0<=(J.wrap (b.1 + (a:Int)))/\(J.wrap (b.1 + (a:Int))) < (((J.wrap ((d:Int)+1)).toNat:Nat):Int))/\(∃e7,l.2.2[0 + (((J.wrap (b.1 + (a:Int))).toNat) * 1)]?=some (I W e7)/\(0<=(J.wrap (b.1 + (a:Int)))/\(J.wrap (b.1 + (a:Int))) < (((J.wrap ((d:Int)+1)).toNat:Nat):Int))/\((0 + (((J.wrap (b.1 + (a:Int))).toNat) * 1)) + 1<=l.2.2.length)/\(∃a4:Int × (List Value) × (List Value),a9 a4 < a9 b/\(((U.wrap g)=(U.wrap g))/\sm 0/\(((J.wrap ((d:Int)+1)).toNat:Nat)=(J.wrap ((d:Int)+1)).toNat)/\s5 o k a p (a:Int) (((U.wrap e)=(U.wrap e))/\((U.wrap i)=(U.wrap i))/\sm 0/\(((J.wrap ((((J.wrap ((d:Int)+1)).toNat:Nat):Int) - (a:Int))).toNat:Nat)=(J.wrap ((((J.wrap ((d:Int)+1)).toNat:Nat):Int) - (a:Int))).toNat)/\(((J.wrap ((((J.wrap ((d:Int)+1)).toNat:Nat):Int) - (a:Int))).toNat:Nat)=(J.wrap ((((J.wrap ((d:Int)+1)).toNat:Nat):Int) - (a:Int))).toNat)/\((J.wrap (b.1 - (1:Int)))=a4.1)/\((l.2.2.set (0 + (((J.wrap (b.1 + (a:Int))).toNat) * 1)) (I W (W.wrap (e7 + (W.wrap (l.1))))))=a4.2.1)/\(((b.2.2.set (0 + (b.1.toNat * 1)) (I W (W.wrap q))).set (0 + (b.1.toNat * 1)) (I W (W.wrap (y - (1:Int)))))=a4.2.2)))/\a8 a4 a2)))))))))))))))))))/\((decide (b.1 ≥ (0:Int)))=false->(∀b9,w.Le b9->∀e8 e9:Nat,(b9.blk e8 (.cells b.2.2.toArray 264 (0,0)))->(b9.blk e9 (.cells b.2.1.toArray 264 (0,0)))->∀g6:C->Value,(0<=(a:Int)/\(a:Int)<=(o:Int))/\(Ca b9 311 #[S (some ⟨e8,0,none⟩) ((J.wrap ((((J.wrap ((d:Int)+1)).toNat:Nat):Int) - (a:Int))).toNat) ((J.wrap ((((J.wrap ((d:Int)+1)).toNat:Nat):Int) - (a:Int))).toNat)] fun g2 g3=>∃f0 f1 f2,g2=S f0 f1 f2/\(Ca g3 361 #[S (some ⟨e9,0,none⟩) ((a:Int).toNat) o,I U (U.wrap g)] fun g4 g5=>∃f3 f4 f5,g4=S f3 f4 f5/\(Rt g5 R (T #[S f0 f1 f2,S f3 f4 f5])))))))))))))))))):
 Acts prog 341 #[S d1 d d2,S a5 u d3] V R:=
 fd (LF:=LF0) (RF:=[1000015,14000063,14000037]) [(8,⟨Int × (List Value) × (List Value),false,[6,7,8,9,10,11,12],[],fun m=>[(13,.c (.v (I J m.1)))],fun m=>[(37,⟨.row m.2.1,264⟩),(63,⟨.row m.2.2,264⟩)]⟩),(12,⟨Int × Int,false,[6,7,8,9,10,11,12,13],[37,63],fun m=>[(15,.c (.v (I U m.1))),(16,.c (.v (I U m.2)))],fun m=>[]⟩),(18,⟨Int × Int × Int × (List Value),false,[6,7,8,9,10,11,12,13,15,122,123],[63],fun m=>[(17,.c (.v (I U m.1))),(18,.c (.v (I U m.2.1))),(124,.c (.v (I J m.2.2.1)))],fun m=>[(37,⟨.row m.2.2.2,264⟩)]⟩),(33,⟨Int × Int × (List Value),false,[6,7,8,9,10,11,12,13,191,192],[63],fun m=>[(18,.c (.v (I U m.1))),(193,.c (.v (I J m.2.1)))],fun m=>[(37,⟨.row m.2.2,264⟩)]⟩)] [(500002,⟨Int,false,[6,7,8,9,10,11,12,13],[37,63],fun m=>[(15,.c (.v (I U m)))],fun m=>[]⟩)] func341 h
end Go.Proofs.Tryz
/- Contract of package nat: long. -/
namespace Go.Proofs.Tryz
open Go.Eng Go.Big
theorem _root_.Go.Eng.RD.rd0 {V:View} {p:OA} {n c:Nat} {ds:List Nat} (h:RD V p n c ds) {i:Int} {K:Int->Prop} (j:Nat) (hj:i=j) (hn:j < ds.length)
  (hK:K ((ds[j]:Nat):Int)):(p.isSome=true)/\(0<=i/\i < (n:Int))/\∃x:Int,(∃a,addrAdd p j=some a/\V.at a (.int .u32 x))/\K x:=by
 have:=h.rd (K:=K) j hj hn hK
 subst hj
 simpa only [Int.toNat_natCast,Nat.mul_one] using this
theorem row_get {us:List Nat} {rest:List Value} {k:Nat} (h:k < us.length):(u32s us++rest)[0 + k * 1]?=some (.int .u32 (us[k]:Int)):=by
 rw [Nat.zero_add,Nat.mul_one,List.getElem?_append_left (by simpa using h)]
 exact u32s_get h
theorem row_set {us:List Nat} {rest:List Value} {k x:Nat} (h:k < us.length):(u32s us++rest).set (0 + k * 1) (.int .u32 (x:Int))=u32s (us.set k x)++rest:=by
 rw [Nat.zero_add,Nat.mul_one,List.set_append_left _ _ (by simpa using h),u32s_set]
/-- The shift that brings the first digit to the top. -/
theorem shift_facts {y m t s:Nat} (hm:(digs y).length=m) (h0:0 < m) (ht:t=(digs y)[m - 1]'(by omega)) (hs:s=32 - blen t) :
  s < 32/\(digs (y * 2 ^ s)).length=m/\2147483648 * 4294967296 ^ (m - 1)<=y * 2 ^ s:=by
 have htd:t < 4294967296:=by rw [ht]; exact (dig_digs y).get _
 have htn:t≠0:=by rw [ht]; have:=(nrm_digs y).last (by omega); simpa [hm] using this
 have g0:=lt_blen t
 have g1:=le_blen htn
 have hbl:blen t<=32:=blen_le.2 (by omega)
 have hbp:0 < blen t:=by unfold blen; rw [if_neg htn]; omega
 have e:=val_split (digs y) (m - 1) (by omega)
 rw [val_digs,List.drop_of_length_le (by omega),← ht] at e
 simp only [val_nil,Nat.mul_zero,Nat.add_zero] at e
 have hlt:=val_lt ((dig_digs y).take (m - 1))
 rw [List.length_take,Nat.min_eq_left (by omega)] at hlt
 have h1:2 ^ blen t * 2 ^ s=4294967296:=by rw [← Nat.pow_add,hs,Nat.add_sub_cancel' hbl]
 have h2:2 ^ (blen t - 1) * 2 ^ s=2147483648:=by rw [← Nat.pow_add,show blen t - 1 + s=31 from by omega]
 have h3:2147483648 * 4294967296 ^ (m - 1)<=y * 2 ^ s:=by
  have:2 ^ (blen t - 1) * 2 ^ s * 4294967296 ^ (m - 1)<=t * 2 ^ s * 4294967296 ^ (m - 1):=Nat.mul_le_mul_right _ (Nat.mul_le_mul_right _ g1)
  rw [h2] at this
  have h4:t * 2 ^ s * 4294967296 ^ (m - 1)=4294967296 ^ (m - 1) * t * 2 ^ s:=by grind
  have h5:4294967296 ^ (m - 1) * t * 2 ^ s<=y * 2 ^ s:=Nat.mul_le_mul_right _ (by omega)
  omega
 refine ⟨by omega,?_,h3⟩
 have h6:y * 2 ^ s < 4294967296 ^ m:=by
  have a1:y < 4294967296 ^ (m - 1) * (t + 1):=by rw [Nat.mul_add,Nat.mul_one]; omega
  have a2:4294967296 ^ (m - 1) * (t + 1) * 2 ^ s<=4294967296 ^ (m - 1) * 2 ^ blen t * 2 ^ s:=Nat.mul_le_mul_right _ (Nat.mul_le_mul_left _ g0)
  have a3:4294967296 ^ (m - 1) * 2 ^ blen t * 2 ^ s=4294967296 ^ m:=by
   rw [Nat.mul_assoc,h1,← Nat.pow_succ,Nat.succ_eq_add_one,Nat.sub_add_cancel h0]
  have a4:y * 2 ^ s < 4294967296 ^ (m - 1) * (t + 1) * 2 ^ s:=Nat.mul_lt_mul_of_pos_right a1 (Nat.two_pow_pos s)
  omega
 have b1:=digs_len_le.2 h6
 have b2:m - 1 < (digs (y * 2 ^ s)).length:=by
  rw [digs_len_lt]
  have:1 * 4294967296 ^ (m - 1)<=2147483648 * 4294967296 ^ (m - 1):=Nat.mul_le_mul_right _ (by omega)
  omega
 omega
/-- Three digits at the top of a list. -/
theorem top3 {us:List Nat} {k:Nat} (h:k + 2 < us.length) (hz:val (us.drop (k + 3))=0) :
  val us=((us[k + 2] * 4294967296 + us[k + 1]) * 4294967296 + us[k]) * 4294967296 ^ k + val (us.take k):=by
 have h1:=val_split us k (by omega)
 rw [List.drop_eq_getElem_cons (i:=k + 1) (by omega),List.drop_eq_getElem_cons (i:=k + 1 + 1) (by omega),val_cons,val_cons] at h1
 rw [show k + 1 + 1 + 1=k + 3 from rfl,hz] at h1
 rw [h1]
 grind
theorem top2 {us:List Nat} {k:Nat} (h:us.length=k + 2):val us=(us[k + 1] * 4294967296 + us[k]) * 4294967296 ^ k + val (us.take k):=by
 have h1:=val_split us k (by omega)
 rw [List.drop_eq_getElem_cons (i:=k + 1) (by omega),val_cons,List.drop_of_length_le (by omega),val_nil] at h1
 rw [h1]
 grind
theorem val_take_drop (us:List Nat) (k:Nat) (h:k<=us.length):val us=val (us.take k) + 4294967296 ^ k * val (us.drop k):=by
 conv=>lhs; rw [← List.take_append_drop k us]
 rw [val_append,List.length_take,Nat.min_eq_left h]
theorem drop_zero_of_lt {us:List Nat} {k:Nat} (h:val us < 4294967296 ^ k) (hk:k<=us.length):val (us.drop k)=0:=by
 have:=val_take_drop us k hk
 rcases Nat.eq_zero_or_pos (val (us.drop k)) with e | e
 ·exact e
 ·have:4294967296 ^ k * 1<=4294967296 ^ k * val (us.drop k):=Nat.mul_le_mul_left _ e
  omega
theorem _root_.Go.Eng.RD.rdq {V:View} {p:OA} {n c:Nat} {ds:List Nat} (h:RD V p n c ds) {i:Int} {K:Int->Prop} (j:Nat) (hj:i=j) {d:Nat} (hn:ds[j]?=some d)
  (hK:K (d:Int)):(p.isSome=true)/\(0<=i/\i < (n:Int))/\∃x:Int,(∃a,addrAdd p (i.toNat * 1)=some a/\V.at a (.int .u32 x))/\K x:=by
 obtain ⟨h1,h2⟩:=List.getElem?_eq_some_iff.1 hn
 exact h.rd j hj h1 (by rw [h2]; exact hK)
theorem row_getq {us:List Nat} {rest:List Value} {k d:Nat} (h:us[k]?=some d):(u32s us++rest)[0 + k * 1]?=some (.int .u32 (d:Int)):=by
 obtain ⟨h1,h2⟩:=List.getElem?_eq_some_iff.1 h
 rw [row_get h1,h2]
/-- The state in the middle of taking away G times the divisor. -/
structure SubI (us vs:List Nat) (j G i b c:Nat) (fs:List Nat):Prop where
 b1:b<=1
 c1:c < 4294967296
 hi:i<=vs.length
 len:fs.length=us.length
 dig:Dig fs
 dr:fs.drop (j + i)=us.drop (j + i)
 tk:fs.take j=us.take j
 eq:val (fs.take (j + i)) + 4294967296 ^ j * (G * val (vs.take i))=val (us.take (j + i)) + 4294967296 ^ j * 4294967296 ^ i * (c + b)
theorem SubI.read {us vs:List Nat} {j G i b c:Nat} {fs:List Nat} (h:SubI us vs j G i b c fs) (hj:j + i < us.length):∃u,fs[j + i]?=some u/\us[j + i]?=some u:=by
 have:=congrArg (fun l=>l[0]?) h.dr
 simp only [List.getElem?_drop,Nat.add_zero] at this
 exact ⟨us[j + i],by rw [this,List.getElem?_eq_getElem hj],List.getElem?_eq_getElem hj⟩
theorem SubI.step {us vs:List Nat} {j G i b c:Nat} {fs:List Nat} (h:SubI us vs j G i b c fs) (hG:G < 4294967296) (hdv:Dig vs) (hdu:Dig us) (hi:i < vs.length) (hj:j + i < us.length) :
  ∃u d ob od cn cb:Nat,vs[i]?=some d/\fs[j + i]?=some u/\u64.wrap ((c:Int) + u64.wrap ((G:Int) * u64.wrap (d:Int)))=(cn:Int)/\(cn:Int).fdiv (2 ^ 32)=(cb:Int) /\
   (u64.wrap (u64.wrap (u64.wrap (u:Int) - bitI .and .u64 (cn:Int) 4294967295) - (b:Int))).fdiv (2 ^ 63)=(ob:Int) /\
   u32.wrap (u64.wrap (u64.wrap (u64.wrap (u:Int) - bitI .and .u64 (cn:Int) 4294967295) - (b:Int)))=(od:Int)/\od < 4294967296 /\
   SubI us vs j G (i + 1) ob cb (fs.set (j + i) od):=by
 obtain ⟨u,hu1,hu2⟩:=h.read hj
 obtain ⟨hb1,hc1,-,hfs,hdf,hfd,hft,hfe⟩:=h
 have hdd:=hdv.get (i:=i) hi
 have huu:u < 4294967296:=hdu u (List.mem_of_getElem? hu2)
 have hgd:G * vs[i]<=4294967295 * 4294967295:=Nat.mul_le_mul (by omega) (by omega)
 refine ⟨u,vs[i],?_⟩
 have hcn:u64.wrap ((c:Int) + u64.wrap ((G:Int) * u64.wrap ((vs[i]:Nat):Int)))=((c + G * vs[i]:Nat):Int):=by
  rw [u64w (x:=((vs[i]:Nat):Int)) (by omega),← Int.natCast_mul]
  generalize G * vs[i]=gd at *
  rw [u64w (x:=((gd:Nat):Int)) (by omega),u64w (by omega)]; omega
 have hst:=subm_step (x:=((u:Int) - ((c + G * vs[i]) % 4294967296:Nat) - b) % 18446744073709551616) hfe hc1 hb1 huu rfl
 have hand:bitI .and .u64 ((c + G * vs[i]:Nat):Int) 4294967295=(((c + G * vs[i]) % 4294967296:Nat):Int):=and64 _ (by omega)
 have hxw:u64.wrap (u64.wrap (u64.wrap (u:Int) - (((c + G * vs[i]) % 4294967296:Nat):Int)) - (b:Int))=((u:Int) - ((c + G * vs[i]) % 4294967296:Nat) - b) % 18446744073709551616:=by
  rw [u64w (x:=(u:Int)) (by omega),u64m,u64m]
  omega
 have hcb:(c + G * vs[i]) / 4294967296 < 4294967296:=by
  generalize G * vs[i]=gd at *; omega
 generalize ((u:Int) - ((c + G * vs[i]) % 4294967296:Nat) - b) % 18446744073709551616=xx at *
 obtain ⟨g1,g2,g3,g4⟩:=hst
 obtain ⟨ob,hob⟩:∃ob:Nat,xx / 9223372036854775808=ob:=⟨(xx / 9223372036854775808).toNat,by omega⟩
 obtain ⟨od,hod⟩:∃od:Nat,xx % 4294967296=od:=⟨(xx % 4294967296).toNat,by omega⟩
 rw [hob,hod] at g4
 simp only [Int.toNat_natCast] at g4
 have hodl:od < 4294967296:=by omega
 have hobl:ob<=1:=by omega
 refine ⟨ob,od,c + G * vs[i],(c + G * vs[i]) / 4294967296,List.getElem?_eq_getElem hi,hu1,hcn,?_,?_,?_,hodl,hobl,hcb,hi,by simpa using hfs,hdf.set _ _ hodl,?_,?_,?_⟩
 ·rw [fdiv_nat]
 ·rw [hand,hxw,shr63,hob]
 ·rw [hand,hxw,u32m,hod]
 ·rw [List.drop_set_of_lt (by omega)]
  have:=congrArg (List.drop 1) hfd
  simpa [List.drop_drop,Nat.add_comm,Nat.add_assoc,Nat.add_left_comm] using this
 ·rw [List.take_set,List.set_eq_of_length_le (by simp; omega)]; exact hft
 ·have hue:us[j + i]=u:=by rw [List.getElem?_eq_getElem hj] at hu2; exact Option.some.inj hu2
  rw [show j + (i + 1)=j + i + 1 from by omega,val_take_set _ _ _ (by omega),val_take_succ us (j + i) (by omega),val_take_succ vs i hi,Nat.pow_succ,Nat.pow_add,hue]
  exact g4
theorem cut_eq {ks us:List Nat} {j t a:Nat} (h1:ks.take j=us.take j) (hk:j<=ks.length) (hu:j<=us.length) (h:val ks + 4294967296 ^ j * a=val us + 4294967296 ^ j * t):val (ks.drop j) + a=val (us.drop j) + t:=by
 have a3:=val_take_drop ks j hk
 have a4:=val_take_drop us j hu
 rw [h1] at a3
 have:4294967296 ^ j * (val (ks.drop j) + a)=4294967296 ^ j * (val (us.drop j) + t):=by rw [Nat.mul_add,Nat.mul_add]; omega
 exact Nat.eq_of_mul_eq_mul_left (Nat.pow_pos (by omega)) this
/-- The last digit: what is left, and whether too much was taken. -/
theorem SubI.fin {us vs:List Nat} {j G b c:Nat} {fs:List Nat} (h:SubI us vs j G vs.length b c fs) (hdu:Dig us) (hj:j + vs.length < us.length) (hz:val (us.drop (j + vs.length + 1))=0) :
  ∃u ob od:Nat,fs[j + vs.length]?=some u /\
   (u64.wrap (u64.wrap (u64.wrap (u:Int) - (c:Int)) - (b:Int))).fdiv (2 ^ 63)=(ob:Int) /\
   u32.wrap (u64.wrap (u64.wrap (u64.wrap (u:Int) - (c:Int)) - (b:Int)))=(od:Int)/\od < 4294967296/\ob<=1 /\
   Dig (fs.set (j + vs.length) od)/\(fs.set (j + vs.length) od).length=us.length/\(fs.set (j + vs.length) od).take j=us.take j/\val ((fs.set (j + vs.length) od).drop (j + vs.length + 1))=0 /\
   val ((fs.set (j + vs.length) od).drop j) + G * val vs=val (us.drop j) + 4294967296 ^ (vs.length + 1) * ob:=by
 obtain ⟨u,hu1,hu2⟩:=h.read hj
 obtain ⟨hb1,hc1,-,hfs,hdf,hfd,hft,hfe⟩:=h
 have huu:u < 4294967296:=hdu u (List.mem_of_getElem? hu2)
 have hue:us[j + vs.length]=u:=by rw [List.getElem?_eq_getElem hj] at hu2; exact Option.some.inj hu2
 rw [List.take_length] at hfe
 have hst:=subm_step (g:=G) (d:=0) (Y:=val vs) (x:=((u:Int) - ((c + G * 0) % 4294967296:Nat) - b) % 18446744073709551616) hfe hc1 hb1 huu rfl
 simp only [Nat.mul_zero,Nat.add_zero] at hst
 rw [Nat.mod_eq_of_lt hc1,Nat.div_eq_of_lt hc1,Nat.zero_add] at hst
 have hxw:u64.wrap (u64.wrap (u64.wrap (u:Int) - (c:Int)) - (b:Int))=((u:Int) - (c:Int) - b) % 18446744073709551616:=by
  rw [u64w (x:=(u:Int)) (by omega),u64m,u64m]
  omega
 generalize ((u:Int) - (c:Int) - b) % 18446744073709551616=xx at *
 obtain ⟨g1,g2,g3,g4⟩:=hst
 obtain ⟨ob,hob⟩:∃ob:Nat,xx / 9223372036854775808=ob:=⟨(xx / 9223372036854775808).toNat,by omega⟩
 obtain ⟨od,hod⟩:∃od:Nat,xx % 4294967296=od:=⟨(xx % 4294967296).toNat,by omega⟩
 rw [hob,hod] at g4
 simp only [Int.toNat_natCast] at g4
 have hodl:od < 4294967296:=by omega
 have hobl:ob<=1:=by omega
 obtain ⟨ks,hks⟩:∃ks,ks=fs.set (j + vs.length) od:=⟨_,rfl⟩
 refine ⟨u,ob,od,hu1,by rw [hxw,shr63,hob],by rw [hxw,u32m,hod],hodl,hobl,?_⟩
 rw [← hks]
 have hkl:ks.length=us.length:=by rw [hks]; simpa using hfs
 have hkd:Dig ks:=by rw [hks]; exact hdf.set _ _ hodl
 have hkt:ks.take j=us.take j:=by rw [hks,List.take_set,List.set_eq_of_length_le (by simp; omega)]; exact hft
 have hkz:ks.drop (j + vs.length + 1)=us.drop (j + vs.length + 1):=by
  rw [hks,List.drop_set_of_lt (by omega)]
  have:=congrArg (List.drop 1) hfd
  simpa [List.drop_drop,Nat.add_comm,Nat.add_assoc,Nat.add_left_comm] using this
 refine ⟨hkd,hkl,hkt,by rw [hkz]; exact hz,cut_eq hkt (by omega) (by omega) ?_⟩
 have a1:=val_take_drop ks (j + vs.length + 1) (by omega)
 have a2:=val_take_drop us (j + vs.length + 1) (by omega)
 have a5:val (ks.take (j + vs.length + 1))=val (fs.take (j + vs.length)) + 4294967296 ^ j * 4294967296 ^ vs.length * od:=by rw [hks,val_take_set _ _ _ (by omega),Nat.pow_add]
 have a6:val (us.take (j + vs.length + 1))=val (us.take (j + vs.length)) + 4294967296 ^ j * 4294967296 ^ vs.length * u:=by rw [val_take_succ us (j + vs.length) (by omega),Nat.pow_add,hue]
 rw [hkz,hz,Nat.mul_zero,Nat.add_zero] at a1
 rw [hz,Nat.mul_zero,Nat.add_zero] at a2
 have e9:4294967296 ^ j * (4294967296 ^ vs.length * 4294967296) * ob=4294967296 ^ j * (4294967296 ^ (vs.length + 1) * ob):=by rw [Nat.pow_succ]; grind
 rw [e9] at g4
 omega
/-- The state in the middle of giving the divisor back. -/
structure AddI (ks vs:List Nat) (j i c:Nat) (gs:List Nat):Prop where
 c1:c<=1
 hi:i<=vs.length
 len:gs.length=ks.length
 dig:Dig gs
 dr:gs.drop (j + i)=ks.drop (j + i)
 tk:gs.take j=ks.take j
 eq:val (gs.take (j + i)) + 4294967296 ^ j * 4294967296 ^ i * c=val (ks.take (j + i)) + 4294967296 ^ j * val (vs.take i)
theorem AddI.read {ks vs:List Nat} {j i c:Nat} {gs:List Nat} (h:AddI ks vs j i c gs) (hj:j + i < ks.length):∃u,gs[j + i]?=some u/\ks[j + i]?=some u:=by
 have:=congrArg (fun l=>l[0]?) h.dr
 simp only [List.getElem?_drop,Nat.add_zero] at this
 exact ⟨ks[j + i],by rw [this,List.getElem?_eq_getElem hj],List.getElem?_eq_getElem hj⟩
theorem AddI.step {ks vs:List Nat} {j i c:Nat} {gs:List Nat} (h:AddI ks vs j i c gs) (hdv:Dig vs) (hdk:Dig ks) (hi:i < vs.length) (hj:j + i < ks.length) :
  ∃u d od cn cb:Nat,vs[i]?=some d/\gs[j + i]?=some u/\u64.wrap ((c:Int) + u64.wrap (u64.wrap (u:Int) + u64.wrap (d:Int)))=(cn:Int)/\(cn:Int).fdiv (2 ^ 32)=(cb:Int) /\
   u32.wrap (cn:Int)=(od:Int)/\AddI ks vs j (i + 1) cb (gs.set (j + i) od):=by
 obtain ⟨u,hu1,hu2⟩:=h.read hj
 obtain ⟨hc1,-,hfs,hdf,hfd,hft,hfe⟩:=h
 have hdd:=hdv.get (i:=i) hi
 have huu:u < 4294967296:=hdk u (List.mem_of_getElem? hu2)
 have hue:ks[j + i]=u:=by rw [List.getElem?_eq_getElem hj] at hu2; exact Option.some.inj hu2
 obtain ⟨t5,ht5⟩:∃t5,t5=c + u + vs[i]:=⟨_,rfl⟩
 have hst:=addm_step hfe ht5
 have hcn:u64.wrap ((c:Int) + u64.wrap (u64.wrap (u:Int) + u64.wrap ((vs[i]:Nat):Int)))=(t5:Int):=by
  rw [u64w (x:=((vs[i]:Nat):Int)) (by omega),u64w (x:=(u:Int)) (by omega),u64w (x:=(u:Int) + _) (by omega),u64w (by omega)]
  omega
 refine ⟨u,vs[i],t5 % 4294967296,t5,t5 / 4294967296,List.getElem?_eq_getElem hi,hu1,hcn,by rw [fdiv_nat],by rw [u32m]; omega,by omega,hi,by simpa using hfs,hdf.set _ _ (by omega),?_,?_,?_⟩
 ·rw [List.drop_set_of_lt (by omega)]
  have:=congrArg (List.drop 1) hfd
  simpa [List.drop_drop,Nat.add_comm,Nat.add_assoc,Nat.add_left_comm] using this
 ·rw [List.take_set,List.set_eq_of_length_le (by simp; omega)]; exact hft
 ·rw [show j + (i + 1)=j + i + 1 from by omega,val_take_set _ _ _ (by omega),val_take_succ ks (j + i) (by omega),val_take_succ vs i hi,Nat.pow_succ,Nat.pow_add,hue]
  exact hst
theorem AddI.fin {ks vs:List Nat} {j c:Nat} {gs:List Nat} (h:AddI ks vs j vs.length c gs) (hdk:Dig ks) (hj:j + vs.length < ks.length) (hz:val (ks.drop (j + vs.length + 1))=0) :
  ∃u od kp:Nat,gs[j + vs.length]?=some u/\u32.wrap ((u:Int) + u32.wrap (c:Int))=(od:Int)/\kp<=1 /\
   Dig (gs.set (j + vs.length) od)/\(gs.set (j + vs.length) od).length=ks.length/\(gs.set (j + vs.length) od).take j=ks.take j/\val ((gs.set (j + vs.length) od).drop (j + vs.length + 1))=0 /\
   val ((gs.set (j + vs.length) od).drop j) + 4294967296 ^ (vs.length + 1) * kp=val (ks.drop j) + val vs:=by
 obtain ⟨u,hu1,hu2⟩:=h.read hj
 obtain ⟨hc1,-,hfs,hdf,hfd,hft,hfe⟩:=h
 have huu:u < 4294967296:=hdk u (List.mem_of_getElem? hu2)
 have hue:ks[j + vs.length]=u:=by rw [List.getElem?_eq_getElem hj] at hu2; exact Option.some.inj hu2
 rw [List.take_length] at hfe
 have hst:=addm_step (d:=0) (u:=u) (Y:=val vs) (t:=c + u) hfe (by omega)
 simp only [Nat.mul_zero,Nat.add_zero] at hst
 have hodl:(c + u) % 4294967296 < 4294967296:=by omega
 have hkp:(c + u) / 4294967296<=1:=by omega
 have hw:u32.wrap ((u:Int) + u32.wrap (c:Int))=(((c + u) % 4294967296:Nat):Int):=by
  rw [u32w (x:=(c:Int)) (by omega),u32m]; omega
 generalize (c + u) % 4294967296=od at *
 generalize (c + u) / 4294967296=kp at *
 obtain ⟨hs,hhs⟩:∃hs,hs=gs.set (j + vs.length) od:=⟨_,rfl⟩
 refine ⟨u,od,kp,hu1,hw,hkp,?_⟩
 rw [← hhs]
 have hkl:hs.length=ks.length:=by rw [hhs]; simpa using hfs
 have hkd:Dig hs:=by rw [hhs]; exact hdf.set _ _ hodl
 have hkt:hs.take j=ks.take j:=by rw [hhs,List.take_set,List.set_eq_of_length_le (by simp; omega)]; exact hft
 have hkz:hs.drop (j + vs.length + 1)=ks.drop (j + vs.length + 1):=by
  rw [hhs,List.drop_set_of_lt (by omega)]
  have:=congrArg (List.drop 1) hfd
  simpa [List.drop_drop,Nat.add_comm,Nat.add_assoc,Nat.add_left_comm] using this
 refine ⟨hkd,hkl,hkt,by rw [hkz]; exact hz,cut_eq hkt (by omega) (by omega) ?_⟩
 have a1:=val_take_drop hs (j + vs.length + 1) (by omega)
 have a2:=val_take_drop ks (j + vs.length + 1) (by omega)
 have a5:val (hs.take (j + vs.length + 1))=val (gs.take (j + vs.length)) + 4294967296 ^ j * 4294967296 ^ vs.length * od:=by rw [hhs,val_take_set _ _ _ (by omega),Nat.pow_add]
 have a6:val (ks.take (j + vs.length + 1))=val (ks.take (j + vs.length)) + 4294967296 ^ j * 4294967296 ^ vs.length * u:=by rw [val_take_succ ks (j + vs.length) (by omega),Nat.pow_add,hue]
 rw [hkz,hz,Nat.mul_zero,Nat.add_zero] at a1
 rw [hz,Nat.mul_zero,Nat.add_zero] at a2
 have e9:4294967296 ^ j * (4294967296 ^ vs.length * 4294967296) * kp=4294967296 ^ j * (4294967296 ^ (vs.length + 1) * kp):=by rw [Nat.pow_succ]; grind
 rw [e9] at hst
 omega
/-- What a step of the division works with: the two first digits of the divisor, three of what is left. -/
structure GK (v1 v2 v' u0 u1 u2 t' B T Y:Nat):Prop where
 hY:Y=(v1 * 4294967296 + v2) * B + v'
 hT:T=((u0 * 4294967296 + u1) * 4294967296 + u2) * B + t'
 hv':v' < B
 ht':t' < B
 v1l:2147483648<=v1
 v1u:v1 < 4294967296
 v2u:v2 < 4294967296
 u0u:u0 < 4294967296
 u1u:u1 < 4294967296
 u2u:u2 < 4294967296
 lt:T < 4294967296 * Y
/-- A guess that is not too small. -/
structure GI (v1 f T Y G ρ:Nat):Prop where
 r:ρ < 4294967296
 g:G<=4294967297
 eq:G * v1 + ρ=f
 lt:T < (G + 1) * Y
/-- A guess that is right, or one too great. -/
structure GF (T Y G:Nat):Prop where
 g:G < 4294967296
 lt:T < (G + 1) * Y
 gt:G * Y < T + Y
section
variable {v1 v2 v' u0 u1 u2 t' B T Y G ρ:Nat}
theorem GK.start (h:GK v1 v2 v' u0 u1 u2 t' B T Y):GI v1 (u0 * 4294967296 + u1) T Y ((u0 * 4294967296 + u1) / v1) ((u0 * 4294967296 + u1) % v1):=by
 have htop:=guess_top h.hY h.hT h.hv' h.lt
 have h1:=h.v1l
 have h2:=h.v1u
 have h3:=h.v2u
 have hdm:=Nat.div_add_mod (u0 * 4294967296 + u1) v1
 have hml:=Nat.mod_lt (u0 * 4294967296 + u1) (show 0 < v1 by omega)
 refine ⟨by omega,?_,by rw [Nat.mul_comm]; exact hdm,?_⟩
 ·have:(u0 * 4294967296 + u1) / v1 < 4294967298:=by
   rw [Nat.div_lt_iff_lt_mul (by omega)]; omega
  omega
 ·rw [Nat.mul_comm] at hdm
  exact guess_up h.hY h.hT h.ht' h.u2u hdm hml
theorem GK.big (h:GK v1 v2 v' u0 u1 u2 t' B T Y) (hG:4294967296<=G):T < G * Y:=Nat.lt_of_lt_of_le h.lt (Nat.mul_le_mul_right _ hG)
theorem GK.dec (h:GK v1 v2 v' u0 u1 u2 t' B T Y) (hi:GI v1 (u0 * 4294967296 + u1) T Y G ρ) (hd:ρ * 4294967296 + u2 < G * v2):T < G * Y:=guess_dec h.hY h.hT h.ht' hi.eq hd
theorem GK.last (h:GK v1 v2 v' u0 u1 u2 t' B T Y) (hi:GI v1 (u0 * 4294967296 + u1) T Y G ρ) (hG:G < 4294967296) (hd:G * v2<=ρ * 4294967296 + u2):GF T Y G:=
 ⟨hG,hi.lt,guess_fin h.hY h.hT h.hv' (by have:=h.v1l; omega) (by omega) hi.eq hd (by omega)⟩
theorem GK.down (h:GK v1 v2 v' u0 u1 u2 t' B T Y) (hi:GI v1 (u0 * 4294967296 + u1) T Y G ρ) (h1:T < G * Y):1<=G/\(G - 1) * v1 + (ρ + v1)=u0 * 4294967296 + u1/\T < (G - 1 + 1) * Y:=by
 have hG1:1<=G:=by
  rcases Nat.eq_zero_or_pos G with e0 | e0
  ·subst e0; omega
  ·exact e0
 have:=hi.eq
 refine ⟨hG1,?_,by rw [Nat.sub_add_cancel hG1]; exact h1⟩
 have:G * v1=(G - 1) * v1 + v1:=by conv=>lhs; rw [← Nat.sub_add_cancel hG1,Nat.add_mul,Nat.one_mul]
 omega
theorem GK.downA (h:GK v1 v2 v' u0 u1 u2 t' B T Y) (hi:GI v1 (u0 * 4294967296 + u1) T Y G ρ) (h1:T < G * Y) (h2:4294967296<=ρ + v1):1<=G/\GF T Y (G - 1):=by
 obtain ⟨hG1,hgr',hlt⟩:=h.down hi h1
 have htop:=guess_top h.hY h.hT h.hv' h.lt
 have g1:=h.v2u
 have g2:=h.v1l
 have g3:=hi.g
 have h3:G - 1 < 4294967296:=by
  rcases Nat.lt_or_ge (G - 1) 4294967296 with hc | hc
  ·exact hc
  ·have:=Nat.mul_le_mul_right v1 hc
   omega
 refine ⟨hG1,h3,hlt,guess_fin h.hY h.hT h.hv' (by omega) (by omega) hgr' ?_ (by omega)⟩
 have h4:(G - 1) * v2<=4294967295 * 4294967295:=Nat.mul_le_mul (by omega) (by omega)
 omega
theorem GK.downB (h:GK v1 v2 v' u0 u1 u2 t' B T Y) (hi:GI v1 (u0 * 4294967296 + u1) T Y G ρ) (h1:T < G * Y) (h2:ρ + v1 < 4294967296):1<=G/\GI v1 (u0 * 4294967296 + u1) T Y (G - 1) (ρ + v1):=by
 obtain ⟨hG1,hgr',hlt⟩:=h.down hi h1
 have g3:=hi.g
 exact ⟨hG1,h2,by omega,hgr',hlt⟩
/-- How the machine computes these. -/
theorem GK.words (h:GK v1 v2 v' u0 u1 u2 t' B T Y) :
  bitI .or .u64 (u64.wrap (u64.wrap (u0:Int) * 2 ^ 32)) (u64.wrap (u1:Int))=((u0 * 4294967296 + u1:Nat):Int) /\
  u64.wrap (((u0 * 4294967296 + u1:Nat):Int).tdiv (v1:Int))=(((u0 * 4294967296 + u1) / v1:Nat):Int) /\
  ((u0 * 4294967296 + u1:Nat):Int).tmod (v1:Int)=(((u0 * 4294967296 + u1) % v1:Nat):Int):=by
 have h0:=h.u0u
 have h1:=h.u1u
 have e3:((2:Int) ^ 32)=4294967296:=by decide
 refine ⟨?_,?_,?_⟩
 ·rw [e3,u64w (x:=(u0:Int)) (by omega),u64w (x:=(u1:Int)) (by omega),u64w (by omega),or64 _ _ h0 h1]; omega
 ·rw [Int.tdiv_eq_ediv_of_nonneg (by omega),← Int.natCast_ediv]
  have h9:(u0 * 4294967296 + u1) / v1<=u0 * 4294967296 + u1:=Nat.div_le_self _ _
  generalize (u0 * 4294967296 + u1) / v1=qq at *
  rw [u64w (by omega)]
 ·rw [Int.tmod_eq_emod_of_nonneg (by omega),← Int.natCast_emod]
theorem GK.words2 (h:GK v1 v2 v' u0 u1 u2 t' B T Y) (hi:GI v1 (u0 * 4294967296 + u1) T Y G ρ) :
  u64.wrap ((G:Int) * (v2:Int))=((G * v2:Nat):Int)/\bitI .or .u64 (u64.wrap ((ρ:Int) * 2 ^ 32)) (u64.wrap (u2:Int))=((ρ * 4294967296 + u2:Nat):Int) /\
  u64.wrap ((ρ:Int) + v1)=((ρ + v1:Nat):Int)/\(1<=G->u64.wrap ((G:Int) - 1)=((G - 1:Nat):Int)):=by
 have h0:=h.u2u
 have h1:=hi.r
 have h2:=hi.g
 have h3:=h.v2u
 have h4:=h.v1u
 have e3:((2:Int) ^ 32)=4294967296:=by decide
 refine ⟨?_,?_,?_,?_⟩
 ·have h4:G * v2<=4294967297 * 4294967295:=Nat.mul_le_mul h2 (by omega)
  rw [← Int.natCast_mul,u64w (by omega)]
 ·rw [e3,u64w (x:=(ρ:Int) * 4294967296) (by omega),u64w (by omega),or64 _ _ h1 h0]; omega
 ·rw [u64w (by omega)]; omega
 ·intro h; rw [u64w (by omega)]; omega
end
end Go.Proofs.Tryz
