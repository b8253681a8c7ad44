import Derived.Test.YtdhlkpfmlimjfaaGreatDoorB10
import Derived.Test.YtdhlkpfmlimjfaaGreatDoorB7
set_option linter.unusedVariables false
open Go.IntKind (i64 u64 u32)
namespace Go.Proofs.Tryz
open Go.Eng Go.Big
theorem uj {x A d q r rest B W:Nat}(hA:A=d*B+rest)(h:d*q+r=rest*W+x):x+W*A=d*(q+W*B)+r:=by
 subst hA;grind
theorem Ae {V:View}{p:OA}{n c:Nat}{xs:List Nat}(hx:RD V p n c xs)(hm:xs.length<=1099511627776)(d:Nat)(hd0:d≠0)(hd:d<4294967296) :
  Acts prog 224 #[.slice p n c,.int .u32 (d:Int)] V fun r V'=>∃p' n' c',r=.tuple #[.slice p' n' c',.int .u32 ((val xs%d:Nat):Int)]/\RN V' p' n' c' (val xs / d):=by
 have hlx:=hx.len
 refine zu p n c d V _ ⟨by omega,by omega,by omega,?_⟩
 simp (disch:=omega) only [i64w,aJ,Int.toNat_natCast,cu]
 refine ⟨fun z V'=>0<=z.1/\z.1<d/\-1<=z.2.1/\z.2.1<n/\∃es:List Nat,z.2.2=ay es/\es.length=n/\bK es /\
   val (xs.drop (z.2.1+1).toNat)=d*val (es.drop (z.2.1+1).toNat)+z.1.toNat,fun z=>(z.2.1+1).toNat,
   ⟨(0,(n:Int)-1,ay (List.replicate n 0)),by (try dsimp only);and_intros<;>trivial,by (try dsimp only);omega,by (try dsimp only);omega,by (try dsimp only);omega,by (try dsimp only);omega,_,rfl,by simp,bK.rep _,?_⟩,?_⟩
 ·(try dsimp only)
  rw [List.drop_of_length_le (by omega),List.drop_of_length_le (by simp)];rfl
 rintro ⟨rest,i,vs⟩ V2 l2 ⟨hr0,hr1,hi0,hi1,es,rfl,hes,hde,hv⟩
 dsimp only at hr0 hr1 hi0 hi1 hv ⊢
 obtain ⟨rest,rfl⟩:=Int.eq_ofNat_of_zero_le hr0
 refine ⟨by trivial,fun h3=>?_,fun h3=>?_⟩
 ·have h3:0<=i:=by simpa using h3
  obtain ⟨i,rfl⟩:=Int.eq_ofNat_of_zero_le h3
  have hi2:((i:Int)+1).toNat=i+1:=by omega
  rw [hi2] at hv
  simp only [Int.toNat_natCast] at hv
  refine ⟨by omega,(hx.le l2).rd i rfl (by omega) ?_⟩
  have xl:=hx.eM.get (i:=i) (by omega)
  have e1:a_ .or .u64 (u64.wrap ((rest:Int)*2^32)) (u64.wrap ((xs[i]:Nat):Int))=((rest*4294967296+xs[i]:Nat):Int):=by
   have e3:((2:Int)^32)=4294967296:=by decide
   rw [e3,aJ (by omega),aJ (by omega),Ba _ _ (by omega) xl];omega
  rw [e1]
  have e2:((rest*4294967296+xs[i]:Nat):Int).tdiv (d:Int)=(((rest*4294967296+xs[i]) / d:Nat):Int):=by
   rw [Int.tdiv_eq_ediv_of_nonneg (by omega)];omega
  have e4:((rest*4294967296+xs[i]:Nat):Int).tmod (d:Int)=(((rest*4294967296+xs[i])%d:Nat):Int):=by
   rw [Int.tmod_eq_emod_of_nonneg (by omega)];omega
  rw [e2,e4]
  have hq:(rest*4294967296+xs[i]) / d<4294967296:=by
   rw [Nat.div_lt_iff_lt_mul (by omega)]
   have:rest+1<=d:=by omega
   have:=Nat.mul_le_mul_right 4294967296 this
   rw [Nat.mul_comm 4294967296 d]
   omega
  have hr:(rest*4294967296+xs[i])%d<d:=Nat.mod_lt _ (by omega)
  have CI:=Nat.div_add_mod (rest*4294967296+xs[i]) d
  generalize (rest*4294967296+xs[i]) / d=q at *
  generalize (rest*4294967296+xs[i])%d=r at *
  simp (disch:=omega) only [aJ,oF,i64w]
  refine ⟨by omega,⟨by omega,by omega⟩,by simp;omega,by omega,?_⟩
  refine ⟨((r:Int),(i:Int)-1,ay (es.set i q)),?_,?_,?_⟩
  ·(try dsimp only);omega
  ·(try dsimp only);and_intros<;>first|trivial|(rw [←bg];simp)
  ·(try dsimp only)
   refine ⟨by omega,by omega,by omega,by omega,_,rfl,by simpa using hes,hde.set _ _ (by omega),?_⟩
   have hi3:((i:Int)-1+1).toNat=i:=by omega
   rw [hi3,List.drop_eq_getElem_cons (by omega),List.drop_eq_getElem_cons (l:=es.set i q) (by simp;omega),List.getElem_set_self,List.drop_set_of_lt (by omega)]
   have h9:xs[i]+4294967296*val (List.drop (i+1) xs)=d*(q+4294967296*val (List.drop (i+1) es))+r:=uj hv CI
   rw [aX,aX,Int.toNat_natCast]
   exact h9
 ·have h3:i=-1:=by simp at h3;omega
  subst h3
  simp only [Int.toNat_natCast] at hv
  have hv:val xs=d*val es+rest:=by simpa using hv
  intro V3 l3 bk hb
  refine (aP (RD.aZ hb hde (n:=n) (c:=n) (by omega) (Nat.le_refl _)) (by omega)).mono ?_
  rintro r V4 l4 ⟨k,rfl,h4⟩
  refine ⟨_,_,_,rfl,fun _ V5 l5=>?_⟩
  have e1:val xs / d=val es:=by rw [hv,Nat.mul_add_div (by omega),Nat.div_eq_of_lt (by omega),Nat.add_zero]
  have e2:val xs%d=rest:=by rw [hv,Nat.mul_add_mod,Nat.mod_eq_of_lt (by omega)]
  rw [oF (by omega),e1,e2]
  rw [aL hde] at h4
  exact ⟨_,_,_,rfl,h4.le l5⟩
theorem C4 (a b:Nat)(ha:a<4294967296)(hb:b<4294967296):a_ .or .u32 (a:Int) (b:Int)=((a ||| b:Nat):Int):=by
 rw [a_,gD]
 have h2:(BitVec.ofInt IntKind.u32.bits ((a:Nat):Int) ||| BitVec.ofInt IntKind.u32.bits (b:Int)).toNat=a ||| b:=by
  show (BitVec.ofInt 32 ((a:Nat):Int) ||| BitVec.ofInt 32 (b:Int)).toNat=_
  rw [BitVec.ofInt_natCast,BitVec.ofInt_natCast,BitVec.toNat_or,BitVec.toNat_ofNat,BitVec.toNat_ofNat,Nat.mod_eq_of_lt (by omega),Nat.mod_eq_of_lt (by omega)]
 have h3:a ||| b<2^32:=Nat.or_lt_two_pow (by omega) (by omega)
 rw [h2]
 omega
theorem L_ {c m r:Nat}(h:c<2^r):c ||| m*2^r=c+m*2^r:=by
 rw [Nat.or_comm,←Nat.shiftLeft_eq,←Nat.shiftLeft_add_eq_or_of_lt h,Nat.add_comm]
theorem Bu {d r c:Nat}(hd:d<4294967296)(hr:r<32)(hc:c<2^r) :
  c ||| (d*2^r%4294967296)=c+d*2^r%4294967296/\c+d*2^r%4294967296<4294967296/\d*2^r / 4294967296<2^r/\d*2^r<18446744073709551616:=by
 have e:4294967296=2^(32-r)*2^r:=by rw [←Nat.pow_add,Nat.sub_add_cancel (by omega)]
 have h1:d*2^r%4294967296=(d%2^(32-r))*2^r:=by
  rw [e,Nat.mul_mod_mul_right]
 have h2:d%2^(32-r)+1<=2^(32-r):=Nat.mod_lt _ (Nat.two_pow_pos _)
 have h3:=Nat.mul_le_mul_right (2^r) h2
 have h4:2^r<=2^31:=Nat.pow_le_pow_right (by omega) (by omega)
 have h5:d*2^r<4294967296*2^r:=Nat.mul_lt_mul_of_pos_right hd (Nat.two_pow_pos _)
 refine ⟨by rw [h1,L_ hc],?_,?_,by omega⟩
 ·rw [h1]
  rw [Nat.add_mul,Nat.one_mul] at h3
  rw [←e] at h3
  omega
 ·rw [Nat.div_lt_iff_lt_mul (by omega),Nat.mul_comm (2^r)];exact h5
theorem wW {V:View}{p:OA}{n c:Nat}{ds:List Nat}(h:RD V p n c ds)(hm:ds.length<=1099511627776)(k:Nat)(hk:k<=1048576) :
  Acts prog 239 #[.slice p n c,.int .u64 (k:Int)] V fun r V'=>∃p' n' c',r=.slice p' n' c'/\RN V' p' n' c' (val ds*2^k)/\(val ds=0\/c'=(af (val ds)).length+k / 32+1):=by
 have hdl:=bh h.eM
 refine Ds p n c k V _ fun V1 l1=>(aP (h.le l1) (by omega)).mono ?_
 rintro r V2 l2 ⟨n,rfl,hx⟩
 rw [aL h.eM] at hx
 generalize hxv:val ds=x at *
 have hl:=hx.len
 refine ⟨_,_,_,rfl,fun h0 V3 l3=>?_,fun h0=>?_⟩
 ·have:af x=[]:=List.length_eq_zero_iff.1 (by simp at h0;omega)
  have:=bo.1 this
  subst this
  rw [Nat.zero_mul]
  exact ⟨_,_,_,rfl,RD.nil,.inl rfl⟩
 ·have h0:0<n:=by simp at h0;omega
  have e1:bH (k:Int) 1048576=k:=by unfold bH;rw [if_neg (by omega)]
  have e2:(k:Int).tdiv 32=((k / 32:Nat):Int):=by rw [Int.tdiv_eq_ediv_of_nonneg (by omega)];omega
  have e3:(k:Int).tmod 32=((k%32:Nat):Int):=by rw [Int.tmod_eq_emod_of_nonneg (by omega)];omega
  rw [e1,e2,e3]
  have hk2:x*2^k=4294967296^(k / 32)*x*2^(k%32):=by
   have:2^k=4294967296^(k / 32)*2^(k%32):=by
    rw [show (4294967296:Nat)=2^32 from rfl,←Nat.pow_mul,←Nat.pow_add,Nat.div_add_mod]
   rw [this];grind
  rw [hk2]
  generalize hw:k / 32=w at *
  have hrl:k%32<32:=Nat.mod_lt _ (by omega)
  have hwl:w<=32768:=by omega
  generalize k%32=r at *
  clear e1 e2 e3
  simp (disch:=omega) only [i64w,aJ,cu]
  have hnw:((n:Int)+w+1).toNat=n+w+1:=by omega
  rw [hnw]
  refine ⟨by omega,by omega,by omega,by omega,by omega,fun z V'=>0<=z.1/\z.1<=n/\∃es:List Nat,z.2=ay es/\es.length=n+w+1/\bK es/\(∀c,es[z.1.toNat+w]?=some c->c<2^r) /\
   val (es.take (z.1.toNat+w+1))=4294967296^w*val ((af x).take z.1.toNat)*2^r,fun z=>n-z.1.toNat,
   ⟨(0,ay (List.replicate (n+w+1) 0)),by (try dsimp only);and_intros<;>trivial,by (try dsimp only);omega,by (try dsimp only);omega,_,rfl,by simp,bK.rep _,?_,?_⟩,?_⟩
  ·intro c hc
   rw [List.getElem?_replicate] at hc
   split at hc
   ·cases hc;exact Nat.two_pow_pos r
   ·cases hc
  ·simp [List.take_replicate,rU]
  rintro ⟨i,vs⟩ V4 l4 ⟨hi0,hi1,es,rfl,hes,hde,hc,hv⟩
  dsimp only at hi0 hi1 hc hv ⊢
  obtain ⟨i,rfl⟩:=Int.eq_ofNat_of_zero_le hi0
  simp only [Int.toNat_natCast] at hc hv
  refine ⟨by trivial,fun h3=>?_,fun h3=>?_⟩
  ·have h3:i<n:=by simpa using h3
   refine (hx.le l4).rd i rfl (by omega) ?_
   have xl:=(ax x).get (i:=i) (by omega)
   have hce:=hc (es[i+w]'(by omega)) (List.getElem?_eq_getElem _)
   obtain ⟨g1,g2,g3,g4⟩:=Bu xl hrl hce
   have hmin:(min ((r:Nat):Int).toNat IntKind.u64.bits)=r:=by
    show min _ 64=r
    omega
   have hp:((2:Int)^r)=((2^r:Nat):Int):=by simp
   rw [hmin,hp]
   have hmul:(((af x)[i]:Nat):Int)*((2^r:Nat):Int)=(((af x)[i]*2^r:Nat):Int):=by simp
   simp (disch:=omega) only [i64w]
   rw [aJ (x:=(((af x)[i]:Nat):Int)) (by omega),hmul,aJ (by omega),gD,kx]
   have hiw:((i:Int)+w).toNat=i+w:=by omega
   have Q_:((i:Int)+w+1).toNat=i+w+1:=by omega
   rw [hiw,Q_]
   refine ⟨by omega,⟨by omega,by omega⟩,((es[i+w]'(by omega):Nat):Int),by rw [Nat.zero_add,Nat.mul_one];exact fr (by omega),⟨by omega,by omega⟩,by simp;omega,by omega,⟨by omega,by omega⟩,by simp;omega,?_⟩
   have ec:(((af x)[i]*2^r:Nat):Int)%4294967296=(((af x)[i]*2^r%4294967296:Nat):Int):=by omega
   have ed:(((af x)[i]*2^r:Nat):Int) / 4294967296=(((af x)[i]*2^r / 4294967296:Nat):Int):=by omega
   rw [ec,ed,C4 _ _ (by omega) (by omega),g1]
   have CI:=Nat.mod_add_div ((af x)[i]*2^r) 4294967296
   have hd2:(af x)[i]*2^r / 4294967296<4294967296:=by omega
   have hdr:val (List.take (i+1) (af x))=val (List.take i (af x))+4294967296^i*(af x)[i]:=aq _ _ (by omega)
   have Lk:val (es.take (i+w+1))=val (es.take (i+w))+4294967296^(i+w)*es[i+w]'(by omega):=aq _ _ (by omega)
   generalize (af x)[i]*2^r%4294967296=lo at *
   generalize hhi:(af x)[i]*2^r / 4294967296=hi at *
   rw [oF (by omega)]
   refine ⟨((i:Int)+1,ay ((es.set (i+w) (es[i+w]'(by omega)+lo)).set (i+w+1) hi)),?_,?_,?_⟩
   ·(try dsimp only);omega
   ·(try dsimp only);and_intros<;>first|trivial|(rw [←bg,←bg];simp)
   ·(try dsimp only)
    have hi2:((i:Int)+1).toNat=i+1:=by omega
    refine ⟨by omega,by omega,_,rfl,by simpa using hes,(hde.set _ _ (by omega)).set _ _ (by omega),?_,?_⟩
    ·intro c hc'
     rw [hi2,show i+1+w=i+w+1 from by omega,List.getElem?_set_self (by simp;omega)] at hc'
     cases hc';exact g3
    ·rw [hi2,show i+1+w+1=i+w+1+1 from by omega,aF _ _ _ (by simp;omega),aF _ _ _ (by omega),hdr]
     rw [Lk] at hv
     have hA:4294967296^(i+w+1)*hi=4294967296^(i+w)*(4294967296*hi):=by rw [Nat.pow_succ];grind
     rw [hA,Nat.mul_add,←Nat.add_assoc,hv,Nat.add_assoc,←Nat.mul_add,CI,Nat.pow_add]
     grind
  ·have h3:i=n:=by simp at h3;omega
   subst h3
   intro V5 l5 bk hb
   refine (aP (RD.aZ hb hde (n:=i+w+1) (c:=i+w+1) (by omega) (Nat.le_refl _)) (by omega)).mono ?_
   rintro r' V6 l6 ⟨k',rfl,h4⟩
   refine ⟨_,_,_,rfl,fun _ V7 l7=>⟨_,_,_,rfl,?_,.inr (by omega)⟩⟩
   rw [ai (by omega),ai (by omega),ab] at hv
   rw [aL hde,hv] at h4
   exact h4.le l7
theorem Bv {d Y r:Nat}(hd:d<4294967296)(hr:r<32) :
  (d+4294967296*Y) / 2^r=(d+4294967296*(Y%4294967296)) / 2^r%4294967296+4294967296*(Y / 2^r):=by
 have e:4294967296=2^r*2^(32-r):=by rw [←Nat.pow_add,Nat.add_sub_cancel' (by omega)]
 have hp:=Nat.two_pow_pos r
 have hq:=Nat.two_pow_pos (32-r)
 generalize ha:2^r=a at *
 generalize hb:2^(32-r)=b at *
 have h1:∀Z,(d+4294967296*Z) / a=d / a+b*Z:=by
  intro Z
  rw [e,Nat.mul_assoc,Nat.add_mul_div_left _ _ hp]
 rw [h1,h1]
 have hda:d / a<b:=by
  rw [Nat.div_lt_iff_lt_mul hp,Nat.mul_comm,←e];exact hd
 have h2:b*(Y%4294967296)%4294967296=b*(Y%a):=by
  rw [e,Nat.mul_comm a b,Nat.mul_mod_mul_left,Nat.mod_mul_left_mod]
 have h3:b*(Y%a)+b<=4294967296:=by
  have:Y%a+1<=a:=Nat.mod_lt _ hp
  have:=Nat.mul_le_mul_left b this
  rw [Nat.mul_add,Nat.mul_one,Nat.mul_comm b a,←e] at this
  exact this
 have h4:(d / a+b*(Y%4294967296))%4294967296=d / a+b*(Y%a):=by
  rw [Nat.add_mod,h2,Nat.mod_eq_of_lt (a:=d / a) (by omega),Nat.mod_eq_of_lt (by omega)]
 rw [h4]
 have h5:=Nat.mod_add_div Y a
 have h6:b*Y=b*(Y%a)+4294967296*(Y / a):=by
  conv=>lhs;rw [←h5]
  rw [Nat.mul_add,←Nat.mul_assoc,Nat.mul_comm b a,←e]
 rw [h6];omega
theorem oG {xs:List Nat}(h:bK xs)(i:Nat):val (xs.drop i)%4294967296=(xs[i]?).getD 0:=by
 rcases Nat.lt_or_ge i xs.length with hi|hi
 ·rw [List.drop_eq_getElem_cons hi,aX,List.getElem?_eq_getElem hi,Option.getD_some,Nat.add_mul_mod_self_left,Nat.mod_eq_of_lt (h.get hi)]
 ·rw [List.drop_of_length_le hi,List.getElem?_eq_none hi];rfl
theorem EL {V:View}{p:OA}{n c:Nat}{ds:List Nat}(h:RD V p n c ds)(hm:ds.length<=1099511627776)(k:Nat)(hk:k<18446744073709551616) :
  Acts prog 240 #[.slice p n c,.int .u64 (k:Int)] V fun r V'=>∃p' n' c',r=.slice p' n' c'/\RN V' p' n' c' (val ds / 2^k):=by
 have hdl:=bh h.eM
 refine Dt p n c k V _ fun V1 l1=>(aP (h.le l1) (by omega)).mono ?_
 rintro r V2 l2 ⟨n,rfl,hx⟩
 rw [aL h.eM] at hx
 generalize val ds=x at *
 have hl:=hx.len
 have e2:(k:Int).tdiv 32=((k / 32:Nat):Int):=by rw [Int.tdiv_eq_ediv_of_nonneg (by omega)];omega
 have e3:(k:Int).tmod 32=((k%32:Nat):Int):=by rw [Int.tmod_eq_emod_of_nonneg (by omega)];omega
 refine ⟨_,_,_,rfl,?_⟩
 rw [e2,e3]
 have hk2:x / 2^k=x / 4294967296^(k / 32) / 2^(k%32):=by
  rw [Nat.div_div_eq_div_mul,show (4294967296:Nat)=2^32 from rfl,←Nat.pow_mul,←Nat.pow_add,Nat.div_add_mod]
 rw [hk2]
 have hwl:k / 32<576460752303423488:=by omega
 generalize k / 32=w at *
 have hrl:k%32<32:=Nat.mod_lt _ (by omega)
 generalize k%32=r at *
 clear e2 e3 hk2
 refine ⟨by omega,fun h0 V3 l3=>?_,fun h0=>?_⟩
 ·have h0:n<=w:=by
   rw [aJ (by omega),aJ (by omega)] at h0;simp at h0;omega
  have:x / 4294967296^w=0:=Nat.div_eq_of_lt (Nat.lt_of_lt_of_le (az.1 (Nat.le_refl _)) (Nat.pow_le_pow_right (by omega) (by omega)))
  rw [this,Nat.zero_div]
  exact ⟨_,_,_,rfl,RD.nil⟩
 ·have h0:w<n:=by
   rw [aJ (by omega),aJ (by omega)] at h0;simp at h0;omega
  simp (disch:=omega) only [i64w,aJ,cu]
  have hnw:((n:Int)-w).toNat=n-w:=by omega
  rw [hnw]
  have hxw:x / 4294967296^w=val ((af x).drop w):=by
   have e:val (af x)=val ((af x).take w++(af x).drop w):=by rw [List.take_append_drop]
   have hlt:=fw ((ax x).take w)
   rw [cR,ab] at e
   rw [List.length_take,Nat.min_eq_left (by omega)] at e hlt
   have g:∀y,y=val ((af x).take w)+4294967296^w*val ((af x).drop w)->y / 4294967296^w=val ((af x).drop w):=by
    intro y hy
    rw [hy,Nat.add_mul_div_left _ _ (Nat.pow_pos (by omega)),Nat.div_eq_of_lt hlt,Nat.zero_add]
   exact g x e
  rw [hxw]
  refine ⟨by omega,by omega,by omega,by omega,by omega,fun z V'=>0<=z.1/\z.1<=(n-w:Nat)/\∃es:List Nat,z.2=ay es/\es.length=n-w/\bK es /\
   val (es.take z.1.toNat)+4294967296^z.1.toNat*(val ((af x).drop (w+z.1.toNat)) / 2^r)=val ((af x).drop w) / 2^r,fun z=>(n-w)-z.1.toNat,
   ⟨(0,ay (List.replicate (n-w) 0)),by (try dsimp only);and_intros<;>trivial,by (try dsimp only);omega,by (try dsimp only);omega,_,rfl,by simp,bK.rep _,by simp⟩,?_⟩
  rintro ⟨i,vs⟩ V4 l4 ⟨hi0,hi1,es,rfl,hes,hde,hv⟩
  dsimp only at hi0 hi1 hv ⊢
  obtain ⟨i,rfl⟩:=Int.eq_ofNat_of_zero_le hi0
  simp only [Int.toNat_natCast] at hv
  refine ⟨by trivial,fun h3=>?_,fun h3=>?_⟩
  ·have h3:i<n-w:=by simpa using h3
   simp (disch:=omega) only [i64w]
   refine (hx.le l4).rd (w+i) (by omega) (by omega) ?_
   have xl:=(ax x).get (i:=w+i) (by omega)
   have hst:=Bv (Y:=val ((af x).drop (w+i+1))) xl hrl
   rw [oG (ax x)] at hst
   have hmin:(min ((r:Nat):Int).toNat IntKind.u64.bits)=r:=by
    show min _ 64=r
    omega
   have hdrop:val ((af x).drop (w+i))=(af x)[w+i]+4294967296*val ((af x).drop (w+i+1)):=by
    rw [List.drop_eq_getElem_cons (by omega),aX]
   rw [hdrop] at hv
   rw [hst] at hv
   have UF:∀D:Nat,D=((af x)[w+i]+4294967296*((af x)[w+i+1]?).getD 0) / 2^r%4294967296 ->
     ∃es':List Nat,(ay es).set (0+i*1) (.int .u32 (D:Int))=ay es'/\es'.length=n-w/\bK es' /\
     val (es'.take (i+1))+4294967296^(i+1)*(val ((af x).drop (w+(i+1))) / 2^r)=val ((af x).drop w) / 2^r:=by
    intro D hD
    refine ⟨es.set i D,by rw [←bg];simp,by simpa using hes,hde.set _ _ (by omega),?_⟩
    rw [aF _ _ _ (by omega),←hv,hD,Nat.pow_succ,Nat.mul_add,Nat.add_assoc,Nat.mul_assoc,Nat.add_assoc w i 1]
   have hi2:((i:Int)+1).toNat=i+1:=by omega
   refine ⟨fun h4=>?_,fun h4=>?_⟩
   ·have h4:w+i+1<n:=by simp at h4;omega
    refine (hx.le l4).rd (w+i+1) (by omega) (by omega) ?_
    have hdy:=(ax x).get (i:=w+i+1) (by omega)
    have e4:a_ .or .u64 (u64.wrap (((af x)[w+i]:Nat):Int)) (u64.wrap (u64.wrap (((af x)[w+i+1]:Nat):Int)*2^32))=(((af x)[w+i]+4294967296*((af x)[w+i+1]?).getD 0:Nat):Int):=by
     have e3:((2:Int)^32)=4294967296:=by decide
     rw [e3,aJ (by omega),aJ (x:=(((af x)[w+i+1]:Nat):Int)) (by omega),aJ (by omega),Hn _ _ hdy xl,List.getElem?_eq_getElem (by omega),Option.getD_some]
     omega
    rw [e4,hmin,fj,gD]
    refine ⟨by omega,by omega,⟨by omega,by omega⟩,by simp;omega,?_⟩
    obtain ⟨es',g1,g2,g3,g4⟩:=UF _ rfl
    refine ⟨((i:Int)+1,ay es'),?_,?_,?_⟩
    ·(try dsimp only);omega
    ·(try dsimp only);and_intros<;>first|trivial|(rw [←g1];simp)
    ·(try dsimp only)
     exact ⟨by omega,by omega,es',rfl,g2,g3,by rw [hi2];exact g4⟩
   ·have h4:n<=w+i+1:=by simp at h4;omega
    have e4:u64.wrap (((af x)[w+i]:Nat):Int)=(((af x)[w+i]+4294967296*((af x)[w+i+1]?).getD 0:Nat):Int):=by
     rw [aJ (by omega),List.getElem?_eq_none (by omega)];simp
    rw [e4,hmin,fj,gD]
    refine ⟨by omega,⟨by omega,by omega⟩,by simp;omega,?_⟩
    obtain ⟨es',g1,g2,g3,g4⟩:=UF _ rfl
    refine ⟨((i:Int)+1,ay es'),?_,?_,?_⟩
    ·(try dsimp only);omega
    ·(try dsimp only);and_intros<;>first|trivial|(rw [←g1];simp)
    ·(try dsimp only)
     exact ⟨by omega,by omega,es',rfl,g2,g3,by rw [hi2];exact g4⟩
  ·have h3:i=n-w:=by simp at h3;omega
   intro V5 l5 bk hb
   refine (aP (RD.aZ hb hde (n:=n-w) (c:=n-w) (by omega) (Nat.le_refl _)) (by omega)).mono ?_
   rintro r' V6 l6 ⟨k',rfl,h4⟩
   refine ⟨_,_,_,rfl,fun _ V7 l7=>⟨_,_,_,rfl,?_⟩⟩
   rw [ai (by omega),List.drop_of_length_le (l:=af x) (i:=w+i) (by omega)] at hv
   have hv:val es=val ((af x).drop w) / 2^r:=by
    rw [←hv,dM,Nat.zero_div,Nat.mul_zero,Nat.add_zero]
   rw [aL hde,hv] at h4
   exact h4.le l7
end Go.Proofs.Tryz
namespace Go.Big
theorem EZ {v1 v2 v' u0 u1 u2 t' B W G ρ T Y:Nat}(hY:Y=(v1*W+v2)*B+v')(hT:T=((u0*W+u1)*W+u2)*B+t')(ht:t'<B)
  (hg:G*v1+ρ=u0*W+u1)(hd:ρ*W+u2<G*v2):T<G*Y:=by
 have h1:(u0*W+u1)*W+u2+1<=G*(v1*W+v2):=by
  rw [←hg,Nat.mul_add,Nat.add_mul,←Nat.mul_assoc];omega
 have h2:=Nat.mul_le_mul_right B h1
 have h3:G*(v1*W+v2)*B<=G*Y:=by rw [hY,Nat.mul_assoc];exact Nat.mul_le_mul_left _ (Nat.le_add_right _ _)
 rw [Nat.add_mul,Nat.one_mul] at h2
 omega
theorem xj {v1 v2 v' u0 u1 u2 t' B W G ρ T Y:Nat}(hY:Y=(v1*W+v2)*B+v')(hT:T=((u0*W+u1)*W+u2)*B+t')(hv:v'<B)(hv1:1<=v1)(hW:0<W)
  (hg:G*v1+ρ=u0*W+u1)(hd:G*v2<=ρ*W+u2)(hG:G<=W):G*Y<T+Y:=by
 have h1:G*(v1*W+v2)<=(u0*W+u1)*W+u2:=by
  rw [←hg,Nat.mul_add,Nat.add_mul,←Nat.mul_assoc];omega
 have h2:=Nat.mul_le_mul_right B h1
 have h3:G*v'<=W*v':=Nat.mul_le_mul_right _ hG
 have h4:W*v'<W*B:=Nat.mul_lt_mul_of_pos_left hv hW
 have h5:W*B<=v1*W*B:=by
  have:=Nat.mul_le_mul_right (W*B) hv1
  rw [Nat.one_mul,←Nat.mul_assoc] at this;exact this
 have h6:(v1*W+v2)*B=v1*W*B+v2*B:=Nat.add_mul _ _ _
 have h7:G*Y=G*(v1*W+v2)*B+G*v':=by rw [hY,Nat.mul_add,Nat.mul_assoc]
 rw [h7,hY,h6]
 omega
theorem xk {v1 v2 v' u0 u1 u2 t' B W T Y:Nat}(hY:Y=(v1*W+v2)*B+v')(hT:T=((u0*W+u1)*W+u2)*B+t')(hv:v'<B)(h:T<W*Y):u0*W+u1<=v1*W+v2:=by
 rcases Nat.lt_or_ge (v1*W+v2) (u0*W+u1) with hc|hc
 ·exfalso
  have h1:(v1*W+v2+1)*W<=(u0*W+u1)*W:=Nat.mul_le_mul_right _ hc
  have h2:=Nat.mul_le_mul_right B h1
  have h3:W*Y<=W*((v1*W+v2+1)*B):=by
   rw [hY,Nat.add_mul (v1*W+v2) 1 B,Nat.one_mul];exact Nat.mul_le_mul_left _ (by omega)
  have h4:W*((v1*W+v2+1)*B)=(v1*W+v2+1)*W*B:=by grind
  have h5:(u0*W+u1)*W*B<=T:=by rw [hT,Nat.add_mul ((u0*W+u1)*W) u2 B];omega
  omega
 ·exact hc
theorem GD {v1 v2 v' u0 u1 u2 t' B W G ρ T Y:Nat}(hY:Y=(v1*W+v2)*B+v')(hT:T=((u0*W+u1)*W+u2)*B+t')(ht:t'<B)(hu:u2<W)
  (hg:G*v1+ρ=u0*W+u1)(hr:ρ<v1):T<(G+1)*Y:=by
 have h1:u0*W+u1+1<=(G+1)*v1:=by rw [Nat.add_mul,Nat.one_mul];omega
 have h2:=Nat.mul_le_mul_right (W*B) h1
 have h3:(G+1)*v1*(W*B)<=(G+1)*Y:=by
  rw [hY,Nat.mul_assoc]
  refine Nat.mul_le_mul_left _ ?_
  rw [←Nat.mul_assoc,Nat.add_mul];omega
 have h4:((u0*W+u1)*W+u2)*B+t'<(u0*W+u1+1)*(W*B):=by
  have h5:(u2+1)*B<=W*B:=Nat.mul_le_mul_right _ hu
  rw [Nat.add_mul,Nat.one_mul] at h5
  have h6:(u0*W+u1+1)*(W*B)=(u0*W+u1)*W*B+W*B:=by grind
  rw [h6,Nat.add_mul ((u0*W+u1)*W) u2 B];omega
 omega
theorem xP {F U c b g d u Y W S:Nat}{x:Int}(h:F+W*(g*Y)=U+W*S*(c+b))(hc:c<4294967296)(hb:b<=1)(hu:u<4294967296)
  (hx:x=((u:Int)-((c+g*d)%4294967296:Nat)-b)%18446744073709551616) :
  0<=x/\0<=x / 9223372036854775808/\x / 9223372036854775808<=1 /\
  F+W*S*(x%4294967296).toNat+W*(g*(Y+S*d))=U+W*S*u+W*(S*4294967296)*((c+g*d) / 4294967296+(x / 9223372036854775808).toNat):=by
 have CI:=Nat.mod_add_div (c+g*d) 4294967296
 have hm:(c+g*d)%4294967296<4294967296:=Nat.mod_lt _ (by omega)
 generalize (c+g*d) / 4294967296=q at *
 generalize (c+g*d)%4294967296=m at *
 have key:∃o B:Nat,(x%4294967296).toNat=o/\(x / 9223372036854775808).toNat=B/\u+4294967296*B=o+m+b/\0<=x/\0<=x / 9223372036854775808/\x / 9223372036854775808<=1:=by
  refine ⟨_,_,rfl,rfl,?_,by omega,by omega,by omega⟩
  omega
 obtain ⟨o,B,e1,e2,e3,g1,g2,g3⟩:=key
 refine ⟨g1,g2,g3,?_⟩
 rw [e1,e2]
 have e4:u+4294967296*(B+q)=o+b+(c+g*d):=by omega
 have e5:W*S*u+W*(S*4294967296)*(q+B)=W*S*(u+4294967296*(B+q)):=by grind
 rw [Nat.add_assoc U,e5,e4]
 grind
theorem wG {F U c d u Y W S t:Nat}(h:F+W*S*c=U+W*Y)(ht:t=c+u+d) :
  F+W*S*(t%4294967296)+W*(S*4294967296)*(t / 4294967296)=U+W*S*u+W*(Y+S*d):=by
 have h1:W*S*(t%4294967296)+W*(S*4294967296)*(t / 4294967296)=W*S*t:=by
  have:=Nat.mod_add_div t 4294967296
  have e:W*(S*4294967296)*(t / 4294967296)=W*S*(4294967296*(t / 4294967296)):=by grind
  rw [e,←Nat.mul_add,this]
 rw [Nat.add_assoc,h1,ht]
 grind
end Go.Big
namespace Go.Proofs.Tryz
open Go.Eng Go.Big
theorem _root_.Go.Eng.RD.Xn {V:View}{p:OA}{n c:Nat}{ds:List Nat}(h:RD V p n c ds){i:Int}{K:Int->Prop}(j:Nat)(hj:i=j)(hn:j<ds.length)
  (hK:K ((ds[j]:Nat):Int)):(p.isSome=true)/\(0<=i/\i<(n:Int))/\∃x:Int,(∃a,addrAdd p j=some a/\V.at a (.int .u32 x))/\K x:=by
 have:=h.rd (K:=K) j hj hn hK
 subst hj
 simpa only [Int.toNat_natCast,Nat.mul_one] using this
theorem JB {us:List Nat}{rest:List Value}{k:Nat}(h:k<us.length):(ay us++rest)[0+k*1]?=some (.int .u32 (us[k]:Int)):=by
 rw [Nat.zero_add,Nat.mul_one,List.getElem?_append_left (by simpa using h)]
 exact fr h
theorem rR {us:List Nat}{rest:List Value}{k x:Nat}(h:k<us.length):(ay us++rest).set (0+k*1) (.int .u32 (x:Int))=ay (us.set k x)++rest:=by
 rw [Nat.zero_add,Nat.mul_one,List.set_append_left _ _ (by simpa using h),bg]
theorem Bt {y m t s:Nat}(hm:(af y).length=m)(h0:0<m)(ht:t=(af y)[m-1]'(by omega))(hs:s=32-bE t) :
  s<32/\(af (y*2^s)).length=m/\2147483648*4294967296^(m-1)<=y*2^s:=by
 have htd:t<4294967296:=by rw [ht];exact (ax y).get _
 have htn:t≠0:=by rw [ht];have:=(hU y).last (by omega);simpa [hm] using this
 have g0:=nY t
 have g1:=nX htn
 have hbl:bE t<=32:=iy.2 (by omega)
 have hbp:0<bE t:=by unfold bE;rw [if_neg htn];omega
 have e:=fK (af y) (m-1) (by omega)
 rw [ab,List.drop_of_length_le (by omega),←ht] at e
 simp only [dM,Nat.mul_zero,Nat.add_zero] at e
 have hlt:=fw ((ax y).take (m-1))
 rw [List.length_take,Nat.min_eq_left (by omega)] at hlt
 have h1:2^bE t*2^s=4294967296:=by rw [←Nat.pow_add,hs,Nat.add_sub_cancel' hbl]
 have h2:2^(bE t-1)*2^s=2147483648:=by rw [←Nat.pow_add,show bE t-1+s=31 from by omega]
 have h3:2147483648*4294967296^(m-1)<=y*2^s:=by
  have:2^(bE t-1)*2^s*4294967296^(m-1)<=t*2^s*4294967296^(m-1):=Nat.mul_le_mul_right _ (Nat.mul_le_mul_right _ g1)
  rw [h2] at this
  have h4:t*2^s*4294967296^(m-1)=4294967296^(m-1)*t*2^s:=by grind
  have h5:4294967296^(m-1)*t*2^s<=y*2^s:=Nat.mul_le_mul_right _ (by omega)
  omega
 refine ⟨by omega,?_,h3⟩
 have h6:y*2^s<4294967296^m:=by
  have a1:y<4294967296^(m-1)*(t+1):=by rw [Nat.mul_add,Nat.mul_one];omega
  have a2:4294967296^(m-1)*(t+1)*2^s<=4294967296^(m-1)*2^bE t*2^s:=Nat.mul_le_mul_right _ (Nat.mul_le_mul_left _ g0)
  have a3:4294967296^(m-1)*2^bE t*2^s=4294967296^m:=by
   rw [Nat.mul_assoc,h1,←Nat.pow_succ,Nat.succ_eq_add_one,Nat.sub_add_cancel h0]
  have a4:y*2^s<4294967296^(m-1)*(t+1)*2^s:=Nat.mul_lt_mul_of_pos_right a1 (Nat.two_pow_pos s)
  omega
 have b1:=az.2 h6
 have b2:m-1<(af (y*2^s)).length:=by
  rw [qk]
  have:1*4294967296^(m-1)<=2147483648*4294967296^(m-1):=Nat.mul_le_mul_right _ (by omega)
  omega
 omega
theorem SH {us:List Nat}{k:Nat}(h:k+2<us.length)(hz:val (us.drop (k+3))=0) :
  val us=((us[k+2]*4294967296+us[k+1])*4294967296+us[k])*4294967296^k+val (us.take k):=by
 have h1:=fK us k (by omega)
 rw [List.drop_eq_getElem_cons (i:=k+1) (by omega),List.drop_eq_getElem_cons (i:=k+1+1) (by omega),aX,aX] at h1
 rw [show k+1+1+1=k+3 from rfl,hz] at h1
 rw [h1]
 grind
theorem SG {us:List Nat}{k:Nat}(h:us.length=k+2):val us=(us[k+1]*4294967296+us[k])*4294967296^k+val (us.take k):=by
 have h1:=fK us k (by omega)
 rw [List.drop_eq_getElem_cons (i:=k+1) (by omega),aX,List.drop_of_length_le (by omega),dM] at h1
 rw [h1]
 grind
theorem aY (us:List Nat)(k:Nat)(h:k<=us.length):val us=val (us.take k)+4294967296^k*val (us.drop k):=by
 conv=>lhs;rw [←List.take_append_drop k us]
 rw [cR,List.length_take,Nat.min_eq_left h]
theorem fX {us:List Nat}{k:Nat}(h:val us<4294967296^k)(hk:k<=us.length):val (us.drop k)=0:=by
 have:=aY us k hk
 rcases Nat.eq_zero_or_pos (val (us.drop k)) with e|e
 ·exact e
 ·have:4294967296^k*1<=4294967296^k*val (us.drop k):=Nat.mul_le_mul_left _ e
  omega
theorem _root_.Go.Eng.RD.PK {V:View}{p:OA}{n c:Nat}{ds:List Nat}(h:RD V p n c ds){i:Int}{K:Int->Prop}(j:Nat)(hj:i=j){d:Nat}(hn:ds[j]?=some d)
  (hK:K (d:Int)):(p.isSome=true)/\(0<=i/\i<(n:Int))/\∃x:Int,(∃a,addrAdd p (i.toNat*1)=some a/\V.at a (.int .u32 x))/\K x:=by
 obtain ⟨h1,h2⟩:=List.getElem?_eq_some_iff.1 hn
 exact h.rd j hj h1 (by rw [h2];exact hK)
theorem h_ {us:List Nat}{rest:List Value}{k d:Nat}(h:us[k]?=some d):(ay us++rest)[0+k*1]?=some (.int .u32 (d:Int)):=by
 obtain ⟨h1,h2⟩:=List.getElem?_eq_some_iff.1 h
 rw [JB h1,h2]
structure zP (us vs:List Nat) (j G i b c:Nat) (fs:List Nat):Prop where
 b1:b<=1
 c1:c<4294967296
 hi:i<=vs.length
 len:fs.length=us.length
 eM:bK fs
 dr:fs.drop (j+i)=us.drop (j+i)
 tk:fs.take j=us.take j
 eq:val (fs.take (j+i))+4294967296^j*(G*val (vs.take i))=val (us.take (j+i))+4294967296^j*4294967296^i*(c+b)
theorem zP.read {us vs:List Nat}{j G i b c:Nat}{fs:List Nat}(h:zP us vs j G i b c fs)(hj:j+i<us.length):∃u,fs[j+i]?=some u/\us[j+i]?=some u:=by
 have:=congrArg (fun l=>l[0]?) h.dr
 simp only [List.getElem?_drop,Nat.add_zero] at this
 exact ⟨us[j+i],by rw [this,List.getElem?_eq_getElem hj],List.getElem?_eq_getElem hj⟩
theorem zP.step {us vs:List Nat}{j G i b c:Nat}{fs:List Nat}(h:zP us vs j G i b c fs)(hG:G<4294967296)(hdv:bK vs)(E3:bK us)(hi:i<vs.length)(hj:j+i<us.length) :
  ∃u d ob od cn cb:Nat,vs[i]?=some d/\fs[j+i]?=some u/\u64.wrap ((c:Int)+u64.wrap ((G:Int)*u64.wrap (d:Int)))=(cn:Int)/\(cn:Int).fdiv (2^32)=(cb:Int) /\
   (u64.wrap (u64.wrap (u64.wrap (u:Int)-a_ .and .u64 (cn:Int) 4294967295)-(b:Int))).fdiv (2^63)=(ob:Int) /\
   u32.wrap (u64.wrap (u64.wrap (u64.wrap (u:Int)-a_ .and .u64 (cn:Int) 4294967295)-(b:Int)))=(od:Int)/\od<4294967296 /\
   zP us vs j G (i+1) ob cb (fs.set (j+i) od):=by
 obtain ⟨u,hu1,hu2⟩:=h.read hj
 obtain ⟨hb1,hc1,-,hfs,hdf,Ll,hft,hfe⟩:=h
 have hdd:=hdv.get (i:=i) hi
 have NU:u<4294967296:=E3 u (List.mem_of_getElem? hu2)
 have hgd:G*vs[i]<=4294967295*4294967295:=Nat.mul_le_mul (by omega) (by omega)
 refine ⟨u,vs[i],?_⟩
 have hcn:u64.wrap ((c:Int)+u64.wrap ((G:Int)*u64.wrap ((vs[i]:Nat):Int)))=((c+G*vs[i]:Nat):Int):=by
  rw [aJ (x:=((vs[i]:Nat):Int)) (by omega),←Int.natCast_mul]
  generalize G*vs[i]=gd at *
  rw [aJ (x:=((gd:Nat):Int)) (by omega),aJ (by omega)];omega
 have hst:=xP (x:=((u:Int)-((c+G*vs[i])%4294967296:Nat)-b)%18446744073709551616) hfe hc1 hb1 NU rfl
 have hand:a_ .and .u64 ((c+G*vs[i]:Nat):Int) 4294967295=(((c+G*vs[i])%4294967296:Nat):Int):=DJ _ (by omega)
 have hxw:u64.wrap (u64.wrap (u64.wrap (u:Int)-(((c+G*vs[i])%4294967296:Nat):Int))-(b:Int))=((u:Int)-((c+G*vs[i])%4294967296:Nat)-b)%18446744073709551616:=by
  rw [aJ (x:=(u:Int)) (by omega),pP,pP]
  omega
 have hcb:(c+G*vs[i]) / 4294967296<4294967296:=by
  generalize G*vs[i]=gd at *;omega
 generalize ((u:Int)-((c+G*vs[i])%4294967296:Nat)-b)%18446744073709551616=xx at *
 obtain ⟨g1,g2,g3,g4⟩:=hst
 obtain ⟨ob,NJ⟩:∃ob:Nat,xx / 9223372036854775808=ob:=⟨(xx / 9223372036854775808).toNat,by omega⟩
 obtain ⟨od,hod⟩:∃od:Nat,xx%4294967296=od:=⟨(xx%4294967296).toNat,by omega⟩
 rw [NJ,hod] at g4
 simp only [Int.toNat_natCast] at g4
 have CK:od<4294967296:=by omega
 have Ls:ob<=1:=by omega
 refine ⟨ob,od,c+G*vs[i],(c+G*vs[i]) / 4294967296,List.getElem?_eq_getElem hi,hu1,hcn,?_,?_,?_,CK,Ls,hcb,hi,by simpa using hfs,hdf.set _ _ CK,?_,?_,?_⟩
 ·rw [fj]
 ·rw [hand,hxw,HS,NJ]
 ·rw [hand,hxw,gD,hod]
 ·rw [List.drop_set_of_lt (by omega)]
  have:=congrArg (List.drop 1) Ll
  simpa [List.drop_drop,Nat.add_comm,Nat.add_assoc,Nat.add_left_comm] using this
 ·rw [List.take_set,List.set_eq_of_length_le (by simp;omega)];exact hft
 ·have hue:us[j+i]=u:=by rw [List.getElem?_eq_getElem hj] at hu2;exact Option.some.inj hu2
  rw [show j+(i+1)=j+i+1 from by omega,aF _ _ _ (by omega),aq us (j+i) (by omega),aq vs i hi,Nat.pow_succ,Nat.pow_add,hue]
  exact g4
theorem Gl {ks us:List Nat}{j t a:Nat}(h1:ks.take j=us.take j)(hk:j<=ks.length)(hu:j<=us.length)(h:val ks+4294967296^j*a=val us+4294967296^j*t):val (ks.drop j)+a=val (us.drop j)+t:=by
 have a3:=aY ks j hk
 have a4:=aY us j hu
 rw [h1] at a3
 have:4294967296^j*(val (ks.drop j)+a)=4294967296^j*(val (us.drop j)+t):=by rw [Nat.mul_add,Nat.mul_add];omega
 exact Nat.eq_of_mul_eq_mul_left (Nat.pow_pos (by omega)) this
theorem zP.fin {us vs:List Nat}{j G b c:Nat}{fs:List Nat}(h:zP us vs j G vs.length b c fs)(E3:bK us)(hj:j+vs.length<us.length)(hz:val (us.drop (j+vs.length+1))=0) :
  ∃u ob od:Nat,fs[j+vs.length]?=some u /\
   (u64.wrap (u64.wrap (u64.wrap (u:Int)-(c:Int))-(b:Int))).fdiv (2^63)=(ob:Int) /\
   u32.wrap (u64.wrap (u64.wrap (u64.wrap (u:Int)-(c:Int))-(b:Int)))=(od:Int)/\od<4294967296/\ob<=1 /\
   bK (fs.set (j+vs.length) od)/\(fs.set (j+vs.length) od).length=us.length/\(fs.set (j+vs.length) od).take j=us.take j/\val ((fs.set (j+vs.length) od).drop (j+vs.length+1))=0 /\
   val ((fs.set (j+vs.length) od).drop j)+G*val vs=val (us.drop j)+4294967296^(vs.length+1)*ob:=by
 obtain ⟨u,hu1,hu2⟩:=h.read hj
 obtain ⟨hb1,hc1,-,hfs,hdf,Ll,hft,hfe⟩:=h
 have NU:u<4294967296:=E3 u (List.mem_of_getElem? hu2)
 have hue:us[j+vs.length]=u:=by rw [List.getElem?_eq_getElem hj] at hu2;exact Option.some.inj hu2
 rw [List.take_length] at hfe
 have hst:=xP (g:=G) (d:=0) (Y:=val vs) (x:=((u:Int)-((c+G*0)%4294967296:Nat)-b)%18446744073709551616) hfe hc1 hb1 NU rfl
 simp only [Nat.mul_zero,Nat.add_zero] at hst
 rw [Nat.mod_eq_of_lt hc1,Nat.div_eq_of_lt hc1,Nat.zero_add] at hst
 have hxw:u64.wrap (u64.wrap (u64.wrap (u:Int)-(c:Int))-(b:Int))=((u:Int)-(c:Int)-b)%18446744073709551616:=by
  rw [aJ (x:=(u:Int)) (by omega),pP,pP]
  omega
 generalize ((u:Int)-(c:Int)-b)%18446744073709551616=xx at *
 obtain ⟨g1,g2,g3,g4⟩:=hst
 obtain ⟨ob,NJ⟩:∃ob:Nat,xx / 9223372036854775808=ob:=⟨(xx / 9223372036854775808).toNat,by omega⟩
 obtain ⟨od,hod⟩:∃od:Nat,xx%4294967296=od:=⟨(xx%4294967296).toNat,by omega⟩
 rw [NJ,hod] at g4
 simp only [Int.toNat_natCast] at g4
 have CK:od<4294967296:=by omega
 have Ls:ob<=1:=by omega
 obtain ⟨ks,hks⟩:∃ks,ks=fs.set (j+vs.length) od:=⟨_,rfl⟩
 refine ⟨u,ob,od,hu1,by rw [hxw,HS,NJ],by rw [hxw,gD,hod],CK,Ls,?_⟩
 rw [←hks]
 have hkl:ks.length=us.length:=by rw [hks];simpa using hfs
 have hkd:bK ks:=by rw [hks];exact hdf.set _ _ CK
 have hkt:ks.take j=us.take j:=by rw [hks,List.take_set,List.set_eq_of_length_le (by simp;omega)];exact hft
 have hkz:ks.drop (j+vs.length+1)=us.drop (j+vs.length+1):=by
  rw [hks,List.drop_set_of_lt (by omega)]
  have:=congrArg (List.drop 1) Ll
  simpa [List.drop_drop,Nat.add_comm,Nat.add_assoc,Nat.add_left_comm] using this
 refine ⟨hkd,hkl,hkt,by rw [hkz];exact hz,Gl hkt (by omega) (by omega) ?_⟩
 have a1:=aY ks (j+vs.length+1) (by omega)
 have a2:=aY us (j+vs.length+1) (by omega)
 have a5:val (ks.take (j+vs.length+1))=val (fs.take (j+vs.length))+4294967296^j*4294967296^vs.length*od:=by rw [hks,aF _ _ _ (by omega),Nat.pow_add]
 have a6:val (us.take (j+vs.length+1))=val (us.take (j+vs.length))+4294967296^j*4294967296^vs.length*u:=by rw [aq us (j+vs.length) (by omega),Nat.pow_add,hue]
 rw [hkz,hz,Nat.mul_zero,Nat.add_zero] at a1
 rw [hz,Nat.mul_zero,Nat.add_zero] at a2
 have e9:4294967296^j*(4294967296^vs.length*4294967296)*ob=4294967296^j*(4294967296^(vs.length+1)*ob):=by rw [Nat.pow_succ];grind
 rw [e9] at g4
 omega
structure zN (ks vs:List Nat) (j i c:Nat) (gs:List Nat):Prop where
 c1:c<=1
 hi:i<=vs.length
 len:gs.length=ks.length
 eM:bK gs
 dr:gs.drop (j+i)=ks.drop (j+i)
 tk:gs.take j=ks.take j
 eq:val (gs.take (j+i))+4294967296^j*4294967296^i*c=val (ks.take (j+i))+4294967296^j*val (vs.take i)
theorem zN.read {ks vs:List Nat}{j i c:Nat}{gs:List Nat}(h:zN ks vs j i c gs)(hj:j+i<ks.length):∃u,gs[j+i]?=some u/\ks[j+i]?=some u:=by
 have:=congrArg (fun l=>l[0]?) h.dr
 simp only [List.getElem?_drop,Nat.add_zero] at this
 exact ⟨ks[j+i],by rw [this,List.getElem?_eq_getElem hj],List.getElem?_eq_getElem hj⟩
theorem zN.step {ks vs:List Nat}{j i c:Nat}{gs:List Nat}(h:zN ks vs j i c gs)(hdv:bK vs)(hdk:bK ks)(hi:i<vs.length)(hj:j+i<ks.length) :
  ∃u d od cn cb:Nat,vs[i]?=some d/\gs[j+i]?=some u/\u64.wrap ((c:Int)+u64.wrap (u64.wrap (u:Int)+u64.wrap (d:Int)))=(cn:Int)/\(cn:Int).fdiv (2^32)=(cb:Int) /\
   u32.wrap (cn:Int)=(od:Int)/\zN ks vs j (i+1) cb (gs.set (j+i) od):=by
 obtain ⟨u,hu1,hu2⟩:=h.read hj
 obtain ⟨hc1,-,hfs,hdf,Ll,hft,hfe⟩:=h
 have hdd:=hdv.get (i:=i) hi
 have NU:u<4294967296:=hdk u (List.mem_of_getElem? hu2)
 have hue:ks[j+i]=u:=by rw [List.getElem?_eq_getElem hj] at hu2;exact Option.some.inj hu2
 obtain ⟨t5,WS⟩:∃t5,t5=c+u+vs[i]:=⟨_,rfl⟩
 have hst:=wG hfe WS
 have hcn:u64.wrap ((c:Int)+u64.wrap (u64.wrap (u:Int)+u64.wrap ((vs[i]:Nat):Int)))=(t5:Int):=by
  rw [aJ (x:=((vs[i]:Nat):Int)) (by omega),aJ (x:=(u:Int)) (by omega),aJ (x:=(u:Int)+_) (by omega),aJ (by omega)]
  omega
 refine ⟨u,vs[i],t5%4294967296,t5,t5 / 4294967296,List.getElem?_eq_getElem hi,hu1,hcn,by rw [fj],by rw [gD];omega,by omega,hi,by simpa using hfs,hdf.set _ _ (by omega),?_,?_,?_⟩
 ·rw [List.drop_set_of_lt (by omega)]
  have:=congrArg (List.drop 1) Ll
  simpa [List.drop_drop,Nat.add_comm,Nat.add_assoc,Nat.add_left_comm] using this
 ·rw [List.take_set,List.set_eq_of_length_le (by simp;omega)];exact hft
 ·rw [show j+(i+1)=j+i+1 from by omega,aF _ _ _ (by omega),aq ks (j+i) (by omega),aq vs i hi,Nat.pow_succ,Nat.pow_add,hue]
  exact hst
theorem zN.fin {ks vs:List Nat}{j c:Nat}{gs:List Nat}(h:zN ks vs j vs.length c gs)(hdk:bK ks)(hj:j+vs.length<ks.length)(hz:val (ks.drop (j+vs.length+1))=0) :
  ∃u od kp:Nat,gs[j+vs.length]?=some u/\u32.wrap ((u:Int)+u32.wrap (c:Int))=(od:Int)/\kp<=1 /\
   bK (gs.set (j+vs.length) od)/\(gs.set (j+vs.length) od).length=ks.length/\(gs.set (j+vs.length) od).take j=ks.take j/\val ((gs.set (j+vs.length) od).drop (j+vs.length+1))=0 /\
   val ((gs.set (j+vs.length) od).drop j)+4294967296^(vs.length+1)*kp=val (ks.drop j)+val vs:=by
 obtain ⟨u,hu1,hu2⟩:=h.read hj
 obtain ⟨hc1,-,hfs,hdf,Ll,hft,hfe⟩:=h
 have NU:u<4294967296:=hdk u (List.mem_of_getElem? hu2)
 have hue:ks[j+vs.length]=u:=by rw [List.getElem?_eq_getElem hj] at hu2;exact Option.some.inj hu2
 rw [List.take_length] at hfe
 have hst:=wG (d:=0) (u:=u) (Y:=val vs) (t:=c+u) hfe (by omega)
 simp only [Nat.mul_zero,Nat.add_zero] at hst
 have CK:(c+u)%4294967296<4294967296:=by omega
 have hkp:(c+u) / 4294967296<=1:=by omega
 have hw:u32.wrap ((u:Int)+u32.wrap (c:Int))=(((c+u)%4294967296:Nat):Int):=by
  rw [oF (x:=(c:Int)) (by omega),gD];omega
 generalize (c+u)%4294967296=od at *
 generalize (c+u) / 4294967296=kp at *
 obtain ⟨hs,MH⟩:∃hs,hs=gs.set (j+vs.length) od:=⟨_,rfl⟩
 refine ⟨u,od,kp,hu1,hw,hkp,?_⟩
 rw [←MH]
 have hkl:hs.length=ks.length:=by rw [MH];simpa using hfs
 have hkd:bK hs:=by rw [MH];exact hdf.set _ _ CK
 have hkt:hs.take j=ks.take j:=by rw [MH,List.take_set,List.set_eq_of_length_le (by simp;omega)];exact hft
 have hkz:hs.drop (j+vs.length+1)=ks.drop (j+vs.length+1):=by
  rw [MH,List.drop_set_of_lt (by omega)]
  have:=congrArg (List.drop 1) Ll
  simpa [List.drop_drop,Nat.add_comm,Nat.add_assoc,Nat.add_left_comm] using this
 refine ⟨hkd,hkl,hkt,by rw [hkz];exact hz,Gl hkt (by omega) (by omega) ?_⟩
 have a1:=aY hs (j+vs.length+1) (by omega)
 have a2:=aY ks (j+vs.length+1) (by omega)
 have a5:val (hs.take (j+vs.length+1))=val (gs.take (j+vs.length))+4294967296^j*4294967296^vs.length*od:=by rw [MH,aF _ _ _ (by omega),Nat.pow_add]
 have a6:val (ks.take (j+vs.length+1))=val (ks.take (j+vs.length))+4294967296^j*4294967296^vs.length*u:=by rw [aq ks (j+vs.length) (by omega),Nat.pow_add,hue]
 rw [hkz,hz,Nat.mul_zero,Nat.add_zero] at a1
 rw [hz,Nat.mul_zero,Nat.add_zero] at a2
 have e9:4294967296^j*(4294967296^vs.length*4294967296)*kp=4294967296^j*(4294967296^(vs.length+1)*kp):=by rw [Nat.pow_succ];grind
 rw [e9] at hst
 omega
structure GK (v1 v2 v' u0 u1 u2 t' B T Y:Nat):Prop where
 hY:Y=(v1*4294967296+v2)*B+v'
 hT:T=((u0*4294967296+u1)*4294967296+u2)*B+t'
 l_:v'<B
 AD:t'<B
 SJ:2147483648<=v1
 UQ:v1<4294967296
 SK:v2<4294967296
 Xr:u0<4294967296
 Xs:u1<4294967296
 UP:u2<4294967296
 lt:T<4294967296*Y
structure GI (v1 f T Y G ρ:Nat):Prop where
 r:ρ<4294967296
 g:G<=4294967297
 eq:G*v1+ρ=f
 lt:T<(G+1)*Y
structure GF (T Y G:Nat):Prop where
 g:G<4294967296
 lt:T<(G+1)*Y
 gt:G*Y<T+Y
section
variable {v1 v2 v' u0 u1 u2 t' B T Y G ρ:Nat}
theorem GK.start (h:GK v1 v2 v' u0 u1 u2 t' B T Y):GI v1 (u0*4294967296+u1) T Y ((u0*4294967296+u1) / v1) ((u0*4294967296+u1)%v1):=by
 have htop:=xk h.hY h.hT h.l_ h.lt
 have h1:=h.SJ
 have h2:=h.UQ
 have h3:=h.SK
 have CI:=Nat.div_add_mod (u0*4294967296+u1) v1
 have hml:=Nat.mod_lt (u0*4294967296+u1) (show 0<v1 by omega)
 refine ⟨by omega,?_,by rw [Nat.mul_comm];exact CI,?_⟩
 ·have:(u0*4294967296+u1) / v1<4294967298:=by
   rw [Nat.div_lt_iff_lt_mul (by omega)];omega
  omega
 ·rw [Nat.mul_comm] at CI
  exact GD h.hY h.hT h.AD h.UP CI hml
theorem GK.Ke (h:GK v1 v2 v' u0 u1 u2 t' B T Y)(hG:4294967296<=G):T<G*Y:=Nat.lt_of_lt_of_le h.lt (Nat.mul_le_mul_right _ hG)
theorem GK.dec (h:GK v1 v2 v' u0 u1 u2 t' B T Y)(hi:GI v1 (u0*4294967296+u1) T Y G ρ)(hd:ρ*4294967296+u2<G*v2):T<G*Y:=EZ h.hY h.hT h.AD hi.eq hd
theorem GK.last (h:GK v1 v2 v' u0 u1 u2 t' B T Y)(hi:GI v1 (u0*4294967296+u1) T Y G ρ)(hG:G<4294967296)(hd:G*v2<=ρ*4294967296+u2):GF T Y G:=
 ⟨hG,hi.lt,xj h.hY h.hT h.l_ (by have:=h.SJ;omega) (by omega) hi.eq hd (by omega)⟩
theorem GK.down (h:GK v1 v2 v' u0 u1 u2 t' B T Y)(hi:GI v1 (u0*4294967296+u1) T Y G ρ)(h1:T<G*Y):1<=G/\(G-1)*v1+(ρ+v1)=u0*4294967296+u1/\T<(G-1+1)*Y:=by
 have hG1:1<=G:=by
  rcases Nat.eq_zero_or_pos G with e0|e0
  ·subst e0;omega
  ·exact e0
 have:=hi.eq
 refine ⟨hG1,?_,by rw [Nat.sub_add_cancel hG1];exact h1⟩
 have:G*v1=(G-1)*v1+v1:=by conv=>lhs;rw [←Nat.sub_add_cancel hG1,Nat.add_mul,Nat.one_mul]
 omega
theorem GK.Kg (h:GK v1 v2 v' u0 u1 u2 t' B T Y)(hi:GI v1 (u0*4294967296+u1) T Y G ρ)(h1:T<G*Y)(h2:4294967296<=ρ+v1):1<=G/\GF T Y (G-1):=by
 obtain ⟨hG1,Ln,hlt⟩:=h.down hi h1
 have htop:=xk h.hY h.hT h.l_ h.lt
 have g1:=h.SK
 have g2:=h.SJ
 have g3:=hi.g
 have h3:G-1<4294967296:=by
  rcases Nat.lt_or_ge (G-1) 4294967296 with hc|hc
  ·exact hc
  ·have:=Nat.mul_le_mul_right v1 hc
   omega
 refine ⟨hG1,h3,hlt,xj h.hY h.hT h.l_ (by omega) (by omega) Ln ?_ (by omega)⟩
 have h4:(G-1)*v2<=4294967295*4294967295:=Nat.mul_le_mul (by omega) (by omega)
 omega
theorem GK.Kh (h:GK v1 v2 v' u0 u1 u2 t' B T Y)(hi:GI v1 (u0*4294967296+u1) T Y G ρ)(h1:T<G*Y)(h2:ρ+v1<4294967296):1<=G/\GI v1 (u0*4294967296+u1) T Y (G-1) (ρ+v1):=by
 obtain ⟨hG1,Ln,hlt⟩:=h.down hi h1
 have g3:=hi.g
 exact ⟨hG1,h2,by omega,Ln,hlt⟩
theorem GK.words (h:GK v1 v2 v' u0 u1 u2 t' B T Y) :
  a_ .or .u64 (u64.wrap (u64.wrap (u0:Int)*2^32)) (u64.wrap (u1:Int))=((u0*4294967296+u1:Nat):Int) /\
  u64.wrap (((u0*4294967296+u1:Nat):Int).tdiv (v1:Int))=(((u0*4294967296+u1) / v1:Nat):Int) /\
  ((u0*4294967296+u1:Nat):Int).tmod (v1:Int)=(((u0*4294967296+u1)%v1:Nat):Int):=by
 have h0:=h.Xr
 have h1:=h.Xs
 have e3:((2:Int)^32)=4294967296:=by decide
 refine ⟨?_,?_,?_⟩
 ·rw [e3,aJ (x:=(u0:Int)) (by omega),aJ (x:=(u1:Int)) (by omega),aJ (by omega),Ba _ _ h0 h1];omega
 ·rw [Int.tdiv_eq_ediv_of_nonneg (by omega),←Int.natCast_ediv]
  have h9:(u0*4294967296+u1) / v1<=u0*4294967296+u1:=Nat.div_le_self _ _
  generalize (u0*4294967296+u1) / v1=qq at *
  rw [aJ (by omega)]
 ·rw [Int.tmod_eq_emod_of_nonneg (by omega),←Int.natCast_emod]
theorem GK.Mr (h:GK v1 v2 v' u0 u1 u2 t' B T Y)(hi:GI v1 (u0*4294967296+u1) T Y G ρ) :
  u64.wrap ((G:Int)*(v2:Int))=((G*v2:Nat):Int)/\a_ .or .u64 (u64.wrap ((ρ:Int)*2^32)) (u64.wrap (u2:Int))=((ρ*4294967296+u2:Nat):Int) /\
  u64.wrap ((ρ:Int)+v1)=((ρ+v1:Nat):Int)/\(1<=G->u64.wrap ((G:Int)-1)=((G-1:Nat):Int)):=by
 have h0:=h.UP
 have h1:=hi.r
 have h2:=hi.g
 have h3:=h.SK
 have h4:=h.UQ
 have e3:((2:Int)^32)=4294967296:=by decide
 refine ⟨?_,?_,?_,?_⟩
 ·have h4:G*v2<=4294967297*4294967295:=Nat.mul_le_mul h2 (by omega)
  rw [←Int.natCast_mul,aJ (by omega)]
 ·rw [e3,aJ (x:=(ρ:Int)*4294967296) (by omega),aJ (by omega),Ba _ _ h1 h0];omega
 ·rw [aJ (by omega)];omega
 ·intro h;rw [aJ (by omega)];omega
end
end Go.Proofs.Tryz
namespace Go.Proofs.Tryz
open Go.Eng Go.Big
structure OI (X Y n n8:Nat) (j:Int) (us qs:List Nat):Prop where
 j0:-1<=j
 j1:j<(n+1-n8:Nat)
 ul:us.length=n+1
 ud:bK us
 ql:qs.length=n+1-n8
 qd:bK qs
 eq:X=val us+Y*(4294967296^(j+1).toNat*val (qs.drop (j+1).toNat))
 lt:val (us.drop (j+1).toNat)<Y
structure DK (Y n8 k v1 v2:Nat):Prop where
 Rd:n8=k+2
 len:(af Y).length=n8
 g1:(af Y)[k+1]?=some v1
 g2:(af Y)[k]?=some v2
 l1:2147483648<=v1
 u1:v1<4294967296
 u2:v2<4294967296
 eq:Y=(v1*4294967296+v2)*4294967296^k+val ((af Y).take k)
 lt:val ((af Y).take k)<4294967296^k
 top:Y<4294967296^n8
theorem DK.of {Y n8:Nat}(hl:(af Y).length=n8)(h2:2<=n8)(ht:2147483648*4294967296^(n8-1)<=Y):∃k v1 v2,DK Y n8 k v1 v2:=by
 obtain ⟨k,hk⟩:∃k,n8=k+2:=⟨n8-2,by omega⟩
 have hYs:=SG (us:=af Y) (k:=k) (by omega)
 rw [ab] at hYs
 have l_:=fw ((ax Y).take k)
 rw [List.length_take,Nat.min_eq_left (by omega)] at l_
 have Q3:=(ax Y).get (i:=k+1) (by omega)
 have Q4:=(ax Y).get (i:=k) (by omega)
 have hv1:2147483648<=(af Y)[k+1]:=by
  rcases Nat.lt_or_ge (af Y)[k+1] 2147483648 with hc|hc
  ·exfalso
   have a1:((af Y)[k+1]*4294967296+(af Y)[k])+1<=2147483648*4294967296:=by omega
   have a2:=Nat.mul_le_mul_right (4294967296^k) a1
   rw [Nat.add_mul,Nat.one_mul] at a2
   have a3:2147483648*4294967296^(k+1)=2147483648*4294967296*4294967296^k:=by rw [Nat.pow_succ];grind
   rw [show n8-1=k+1 from by omega,a3] at ht
   omega
  ·exact hc
 exact ⟨k,_,_,hk,hl,List.getElem?_eq_getElem _,List.getElem?_eq_getElem _,hv1,Q3,Q4,hYs,l_,by rw [←hl,←az];exact Nat.le_refl _⟩
theorem OI.start {x X Y n n8 s:Nat}(hX:X=x*2^s)(hx:(af x).length=n)(hs:s<32)(Rd:2<=n8)(hn:n8<=n)(hY:2147483648*4294967296^(n8-1)<=Y)(YC:(af X).length<=n+1) :
  OI X Y n n8 (((n+1-n8:Nat):Int)-1) ((af X++[0,0]).take (n+1)) (List.replicate (n+1-n8) 0):=by
 have WL:n<=(af X).length:=by rw [←hx,hX];exact aB (Nat.le_mul_of_pos_right _ (Nat.two_pow_pos s))
 have NQ:((af X++[0,0]).take (n+1)).length=n+1:=by simp;omega
 have huv:val ((af X++[0,0]).take (n+1))=X:=by
  have a1:val (af X++[0,0])=X:=by rw [cR,ab];simp
  have a2:=aY (af X++[0,0]) (n+1) (by simp;omega)
  have a3:val ((af X++[0,0]).drop (n+1))=0:=by
   refine fX ?_ (by simp;omega)
   rw [a1]
   exact az.1 (by omega)
  rw [a3,Nat.mul_zero,Nat.add_zero,a1] at a2
  exact a2.symm
 have a0:(((n+1-n8:Nat):Int)-1+1).toNat=n+1-n8:=by omega
 refine ⟨by omega,by omega,NQ,(bK.append.2 ⟨ax X,by simp [bK]⟩).take _,by simp,bK.rep _,?_,?_⟩
 ·rw [a0,List.drop_of_length_le (by simp),dM,Nat.mul_zero,Nat.mul_zero,Nat.add_zero,huv]
 ·rw [a0]
  have a1:=aY ((af X++[0,0]).take (n+1)) (n+1-n8) (by omega)
  rw [huv] at a1
  have hXlt:X<4294967296^n*2^s:=by rw [hX];exact Nat.mul_lt_mul_of_pos_right (by rw [←hx];exact az.1 (Nat.le_refl _)) (Nat.two_pow_pos s)
  have T9:2^s<=2^31:=Nat.pow_le_pow_right (by omega) (by omega)
  have a2:4294967296^n*2^s<=4294967296^(n+1-n8)*Y:=by
   have b1:4294967296^n=4294967296^(n+1-n8)*4294967296^(n8-1):=by rw [←Nat.pow_add];congr 1;omega
   rw [b1,Nat.mul_assoc]
   refine Nat.mul_le_mul_left _ ?_
   have b2:2^s*4294967296^(n8-1)<=2147483648*4294967296^(n8-1):=Nat.mul_le_mul_right _ (by omega)
   rw [Nat.mul_comm]
   omega
  have a3:4294967296^(n+1-n8)*val (((af X++[0,0]).take (n+1)).drop (n+1-n8))<4294967296^(n+1-n8)*Y:=by omega
  exact Nat.lt_of_mul_lt_mul_left a3
theorem OI.body {X Y n n8 k v1 v2 j:Nat}{us qs:List Nat}(h:OI X Y n n8 (j:Int) us qs)(hd:DK Y n8 k v1 v2)(hjn:j+n8<=n) :
  val (us.drop (j+n8+1))=0/\∃u0 u1 u2 t',us[j+n8]?=some u0/\us[j+n8-1]?=some u1/\us[j+n8-2]?=some u2/\GK v1 v2 (val ((af Y).take k)) u0 u1 u2 t' (4294967296^k) (val (us.drop j)) Y:=by
 obtain ⟨-,-,NT,E3,Lu,MG,IY,CP⟩:=h
 have hj2:((j:Int)+1).toNat=j+1:=by omega
 rw [hj2] at IY CP
 have hk:=hd.Rd
 have Wv:=hd.top
 have hT1:val (us.drop j)=us[j]+4294967296*val (us.drop (j+1)):=by rw [List.drop_eq_getElem_cons (by omega),aX]
 have YF:=E3.get (i:=j) (by omega)
 have hz:val (us.drop (j+n8+1))=0:=by
  have:=fX (us:=us.drop (j+1)) (k:=n8) (by omega) (by simp;omega)
  rw [List.drop_drop] at this
  rw [show j+n8+1=j+1+n8 from by omega];exact this
 have AD:=fw ((E3.drop j).take k)
 rw [List.length_take,List.length_drop,Nat.min_eq_left (by omega)] at AD
 refine ⟨hz,us[j+n8],us[j+n8-1],us[j+n8-2],val ((us.drop j).take k),List.getElem?_eq_getElem _,List.getElem?_eq_getElem _,List.getElem?_eq_getElem _,
  hd.eq,?_,hd.lt,AD,hd.l1,hd.u1,hd.u2,E3.get _,E3.get _,E3.get _,by omega⟩
 have:=SH (us:=us.drop j) (k:=k) (by simp;omega) (by rw [List.drop_drop,show j+(k+3)=j+n8+1 from by omega];exact hz)
 simp only [List.getElem_drop] at this
 rw [this]
 congr<;>omega
theorem OI.next {X Y n n8 j H:Nat}{us qs hs:List Nat}(h:OI X Y n n8 (j:Int) us qs)(hjn:j+n8<=n)(h1:hs.length=us.length)(WA:bK hs)(h2:hs.take j=us.take j)(h3:val (hs.drop j)+H*Y=val (us.drop j))(h4:val (hs.drop j)<Y)(hH:H<4294967296) :
  OI X Y n n8 ((j:Int)-1) hs (qs.set j H):=by
 obtain ⟨-,hj1,NT,E3,Lu,MG,IY,CP⟩:=h
 have hj2:((j:Int)+1).toNat=j+1:=by omega
 have Uh:((j:Int)-1+1).toNat=j:=by omega
 rw [hj2] at IY
 refine ⟨by omega,by omega,by omega,WA,by simpa using Lu,MG.set _ _ hH,?_,by rw [Uh];exact h4⟩
 have a1:=aY hs j (by omega)
 have a2:=aY us j (by omega)
 rw [h2] at a1
 rw [←h3] at a2
 rw [Uh,List.drop_eq_getElem_cons (l:=qs.set j H) (by simp;omega),List.getElem_set_self,List.drop_set_of_lt (by omega),aX,IY,a1,a2,Nat.pow_succ]
 grind
theorem OI.done {x y X Y n n8 s:Nat}{us qs:List Nat}(h:OI X Y n n8 (-1) us qs)(hX:X=x*2^s)(hY:Y=y*2^s)(hn:n8<=n+1)(hYl:Y<4294967296^n8):val qs=x / y/\val (us.take n8) / 2^s=x%y:=by
 obtain ⟨-,-,NT,E3,Lu,MG,IY,CP⟩:=h
 have IY:X=val us+Y*val qs:=by simpa using IY
 have CP:val us<Y:=by simpa using CP
 have Ww:0<Y:=by omega
 have hzz:=fX (us:=us) (k:=n8) (by omega) (by omega)
 have hut:val (us.take n8)=val us:=by
  have:=aY us n8 (by omega)
  rw [hzz,Nat.mul_zero,Nat.add_zero] at this
  exact this.symm
 constructor
 ·rw [←Nat.mul_div_mul_right x y (Nat.two_pow_pos s),←hX,←hY,IY,Nat.add_mul_div_left _ _ Ww,Nat.div_eq_of_lt CP,Nat.zero_add]
 ·have:x*2^s%(y*2^s)=val us:=by
   rw [←hX,←hY,IY,Nat.add_mul_mod_self_left,Nat.mod_eq_of_lt CP]
  rw [Nat.mul_mod_mul_right] at this
  rw [hut,←this,Nat.mul_div_cancel _ (Nat.two_pow_pos s)]
set_option maxHeartbeats 8000000 in
theorem Cs {V:View}{p q:OA}{n c m e:Nat}{x y:Nat}(ha:RN V p n c x)(hb:RN V q m e y)(hn:n<=1099511627776)(hm2:2<=m)(hle:y<=x) :
  Acts prog 225 #[.slice p n c,.slice q m e] V fun r V'=>∃p1 n1 c1 p2 n2 c2,r=.tuple #[.slice p1 n1 c1,.slice p2 n2 c2]/\RN V' p1 n1 c1 (x / y)/\RN V' p2 n2 c2 (x%y):=by
 have hla:=ha.len
 have hlb:=hb.len
 have hmn:m<=n:=by rw [hla,hlb];exact aB hle
 refine BQ p n c q m e V _ ?_
 simp (disch:=omega) only [i64w]
 refine hb.rd (m-1) (by omega) (by omega) fun V1 l1=>(fC _ ((ax y).get (by omega))).mono ?_
 rintro r V2 l2 rfl
 refine ⟨_,rfl,?_⟩
 obtain ⟨t,ht⟩:∃t,t=(af y)[m-1]'(by omega):=⟨_,rfl⟩
 rw [←ht]
 have hbl:bE t<=32:=iy.2 (by rw [ht];exact (ax y).get _)
 obtain ⟨s,hs⟩:∃s,s=32-bE t:=⟨_,rfl⟩
 have es:(32-(bE t:Int))=(s:Int):=by omega
 obtain ⟨I5,hvl,Rl⟩:=Bt hlb.symm (by omega) ht hs
 rw [es,aJ (by omega)]
 clear es hbl
 intro V3 l3
 refine (wW (ha.le (l1.trans (l2.trans l3))) (by omega) s (by omega)).mono ?_
 rintro r V4 l4 ⟨p4,n4,c4,rfl,h4,hc4⟩
 rw [ab] at h4 hc4
 have hx0:x≠0:=by
  intro e0;subst e0
  rw [wY] at hla
  simp at hla;omega
 have hc4:c4=n+1:=by
  rcases hc4 with e0|e0
  ·exact absurd e0 hx0
  ·rw [e0,←hla,Nat.div_eq_of_lt I5]
 have hl4:=h4.len
 have hXlt:x*2^s<4294967296^n*2^s:=Nat.mul_lt_mul_of_pos_right (by rw [hla];exact az.1 (Nat.le_refl _)) (Nat.two_pow_pos s)
 have T9:2^s<=2^31:=Nat.pow_le_pow_right (by omega) (by omega)
 have WL:n<=n4/\n4<=n+1:=by
  constructor
  ·rw [hl4,hla];exact aB (Nat.le_mul_of_pos_right _ (Nat.two_pow_pos s))
  ·rw [hl4,az,Nat.pow_succ]
   have:4294967296^n*2^s<=4294967296^n*4294967296:=Nat.mul_le_mul_left _ (by omega)
   omega
 refine ⟨_,_,_,rfl,ay (af (x*2^s)),h4.sl,by simp;omega,h4.cap,h4.Fb,by omega,by omega,rfl,by simp [Value.oneCell'],?_⟩
 intro sp c7 Wy Wz
 refine ⟨⟨by omega,by omega⟩,fun V5 l5=>(wW (hb.le (l1.trans (l2.trans (l3.trans (l4.trans l5))))) (by omega) s (by omega)).mono ?_⟩
 rintro r V6 l6 ⟨p8,n8,c8,rfl,h8,-⟩
 rw [ab] at h8
 have Ui:=h8.len
 rw [hvl] at Ui
 subst Ui
 refine ⟨_,_,_,rfl,?_⟩
 obtain ⟨k,v1,v2,IX⟩:=DK.of hvl hm2 Rl
 have hk:=IX.Rd
 have hv1:=IX.l1
 have WW:=IX.u1
 have WX:=IX.u2
 have Ws:=OI.start (Y:=y*2^s) rfl hla.symm I5 hm2 hmn Rl (by omega)
 have w6:i64.wrap ((n8:Int)-1)=(n8:Int)-1:=i64w (by omega)
 have w7:i64.wrap ((n8:Int)-2)=(n8:Int)-2:=i64w (by omega)
 simp only [w6,w7]
 refine h8.PK (k+1) (by omega) IX.g1 (h8.PK k (by omega) IX.g2 ?_)
 have hn1:((n:Int)+1).toNat=n+1:=by omega
 have hn2:(((n+1:Nat):Int)-(n8:Int)).toNat=n+1-n8:=by omega
 have w1:i64.wrap ((n:Int)+1)=(n:Int)+1:=i64w (by omega)
 have w2:u64.wrap (v1:Int)=v1:=aJ (by omega)
 have w3:u64.wrap (v2:Int)=v2:=aJ (by omega)
 have w4:i64.wrap (((n+1:Nat):Int)-(n8:Int))=((n+1:Nat):Int)-(n8:Int):=i64w (by omega)
 have w5:i64.wrap (((n+1-n8:Nat):Int)-1)=((n+1-n8:Nat):Int)-1:=i64w (by omega)
 simp only [hn1,w2,w3,w4,hn2,w5,cu]
 obtain ⟨tl,htl⟩:∃tl,tl=ay ((af (x*2^s)++[0,0]).drop (n+1))++sp:=⟨_,rfl⟩
 have hrow:ay (af (x*2^s))++([.int .u32 0,.int .u32 0]:List Value)++sp=ay ((af (x*2^s)++[0,0]).take (n+1))++tl:=by
  rw [htl,←List.append_assoc,←qF,List.take_append_drop,qF];rfl
 rw [hrow]
 clear htl hrow Rl hXlt T9 hc4 hs ht
 generalize hX:x*2^s=X at *
 generalize hY:y*2^s=Y at *
 refine ⟨by omega,by omega,by omega,fun z V'=>∃us qs:List Nat,z.2.1=ay us++tl/\z.2.2=ay qs/\OI X Y n n8 z.1 us qs,fun z=>(z.1+1).toNat,
  ⟨(((n+1-n8:Nat):Int)-1,ay ((af X++[0,0]).take (n+1))++tl,ay (List.replicate (n+1-n8) 0)),?_,_,_,rfl,rfl,Ws⟩,?_⟩
 ·(try dsimp only);and_intros<;>first|exact True.intro|rfl
 rintro ⟨j,row,Xk⟩ V7 l7 ⟨us,qs,rfl,rfl,hO⟩
 dsimp only at hO ⊢
 have hj0:=hO.j0
 have hj1:=hO.j1
 have NT:=hO.ul
 have Lu:=hO.ql
 refine ⟨by trivial,fun h3=>?_,fun h3=>?_⟩
 ·have h3:0<=j:=by simpa using h3
  obtain ⟨j,rfl⟩:=Int.eq_ofNat_of_zero_le h3
  have hjn:j+n8<=n:=by omega
  obtain ⟨hz,u0,u1,u2,t',hu0,hu1,hu2,hK⟩:=hO.body IX hjn
  obtain ⟨eb,TD,TE⟩:=hK.words
  have w8:i64.wrap ((j:Int)+n8)=((j+n8:Nat):Int):=by rw [i64w (by omega)];omega
  have w9:i64.wrap (((j+n8:Nat):Int)-1)=((j+n8-1:Nat):Int):=by rw [i64w (by omega)];omega
  have SQ:i64.wrap (((j+n8:Nat):Int)-2)=((j+n8-2:Nat):Int):=by rw [i64w (by omega)];omega
  have WE:i64.wrap ((j:Int)-1)=(j:Int)-1:=i64w (by omega)
  simp only [w8,w9,SQ,WE,Int.toNat_natCast]
  refine ⟨⟨by omega,by omega⟩,_,h_ hu0,by omega,⟨by omega,by omega⟩,_,h_ hu1,by omega,by omega,?_⟩
  rw [eb,TD,TE]
  clear eb TD TE
  refine ⟨fun g V'=>∃G:Nat,g=(G:Int)/\GF (val (us.drop j)) Y G,
   ⟨fun z V'=>∃G ρ:Nat,z=((G:Int),(ρ:Int))/\GI v1 (u0*4294967296+u1) (val (us.drop j)) Y G ρ,fun z=>z.1.toNat,
    ⟨((((u0*4294967296+u1) / v1:Nat):Int),(((u0*4294967296+u1)%v1:Nat):Int)),by (try dsimp only);and_intros<;>first|exact True.intro|rfl,_,_,rfl,hK.start⟩,?_⟩,?_⟩
  ·rintro _ V8 l8 ⟨G,ρ,rfl,Kk⟩
   obtain ⟨GJ,hor,Xt,PS⟩:=hK.Mr Kk
   dsimp only
   have t1:∀a:Nat,((((a / 2^32:Nat):Int) != 0)=true↔4294967296<=a)/\((((a / 2^32:Nat):Int) != 0)=false↔a<4294967296):=by
    intro a
    constructor
    ·rw [bne_iff_ne];omega
    ·rw [bne_eq_false_iff_eq];omega
   simp only [Xt,fj,(t1 _).1,(t1 _).2]
   refine ⟨by trivial,by omega,fun hc=>⟨by omega,fun hd=>?_,fun hd=>?_⟩,fun hc=>⟨by omega,⟨by omega,by omega⟩,_,h_ hu2,fun ht=>⟨by omega,fun hd=>?_,fun hd=>?_⟩,fun ht=>?_⟩⟩
   ·obtain ⟨g1,g2⟩:=hK.Kg Kk (hK.Ke hc) hd
    exact ⟨((G-1:Nat):Int),by rw [PS g1];(try dsimp only);and_intros<;>first|exact True.intro|rfl,G-1,rfl,g2⟩
   ·obtain ⟨g1,g2⟩:=hK.Kh Kk (hK.Ke hc) hd
    exact ⟨(((G-1:Nat):Int),((ρ+v1:Nat):Int)),by (try dsimp only);omega,by rw [PS g1];(try dsimp only);and_intros<;>first|exact True.intro|rfl,G-1,ρ+v1,rfl,g2⟩
   ·have h1:=hK.dec Kk (by rw [GJ,hor,decide_eq_true_eq] at ht;omega)
    obtain ⟨g1,g2⟩:=hK.Kg Kk h1 hd
    exact ⟨((G-1:Nat):Int),by rw [PS g1];(try dsimp only);and_intros<;>first|exact True.intro|rfl,G-1,rfl,g2⟩
   ·have h1:=hK.dec Kk (by rw [GJ,hor,decide_eq_true_eq] at ht;omega)
    obtain ⟨g1,g2⟩:=hK.Kh Kk h1 hd
    exact ⟨(((G-1:Nat):Int),((ρ+v1:Nat):Int)),by (try dsimp only);omega,by rw [PS g1];(try dsimp only);and_intros<;>first|exact True.intro|rfl,G-1,ρ+v1,rfl,g2⟩
   ·have h1:G*v2<=ρ*4294967296+u2:=by rw [GJ,hor,decide_eq_false_iff_not] at ht;omega
    exact ⟨(G:Int),by (try dsimp only);and_intros<;>first|exact True.intro|rfl,G,rfl,hK.last Kk hc h1⟩
  ·rintro _ V9 l9 ⟨G,rfl,hGF⟩
   have ME:=hGF.g
   clear hK hu0 hu1 hu2
   have hvl:=IX.len
   have hvs:=ab Y
   refine ⟨by trivial,fun z V'=>∃(b c i:Nat)(fs:List Nat),z=((b:Int),(c:Int),(i:Int),ay fs++tl)/\zP us (af Y) j G i b c fs,fun z=>n8-z.2.2.1.toNat,
     ⟨(0,0,0,ay us++tl),by (try dsimp only);and_intros<;>first|exact True.intro|rfl,0,0,0,us,rfl,by omega,by omega,by omega,rfl,hO.ud,rfl,rfl,by simp⟩,?_⟩
   rintro _ V10 l10 ⟨b,c,i,fs,rfl,hS⟩
   dsimp only
   simp only [Int.toNat_natCast]
   have hi:=hS.hi
   have hfl:=hS.len
   refine ⟨by trivial,fun hc=>?_,fun hc=>?_⟩
   ·have hc:i<n8:=by simpa using hc
    obtain ⟨u,d,ob,od,cn,cb,q1,q2,q3,q4,q5,q6,q7,hS'⟩:=hS.step ME (ax Y) hO.ud (by omega) (by omega)
    refine (h8.le (l7.trans (l9.trans l10))).PK i rfl q1 ?_
    have Xu:i64.wrap ((j:Int)+i)=((j+i:Nat):Int):=by rw [i64w (by omega)];omega
    have Xv:i64.wrap ((i:Int)+1)=((i+1:Nat):Int):=by rw [i64w (by omega)];omega
    rw [q3,Xu,Xv,Int.toNat_natCast]
    refine ⟨⟨by omega,by omega⟩,_,h_ q2,⟨by omega,by omega⟩,by simp;omega,by omega,by omega,?_⟩
    rw [q4,q5,q6]
    refine ⟨((ob:Int),(cb:Int),((i+1:Nat):Int),ay (fs.set (j+i) od)++tl),by (try dsimp only);omega,?_,_,_,_,_,rfl,hS'⟩
    (try dsimp only);and_intros<;>first|exact True.intro|rfl|exact rR (by omega)
   ·have hc:i=(af Y).length:=by simp at hc;omega
    subst hc
    obtain ⟨u,ob,od,q1,q2,q3,q4,q5,q6,q7,q8,q9,Mb⟩:=hS.fin hO.ud (by omega) (by rw [hvl];exact hz)
    rw [hvl] at q1 q6 q7 q8 q9 Mb
    rw [hvs] at Mb
    refine ⟨⟨by omega,by omega⟩,_,h_ q1,⟨by omega,by omega⟩,by simp;omega,⟨by omega,by omega⟩,by simp;omega,by omega,?_⟩
    rw [q2,q3,rR (by omega),oF (x:=(G:Int)) (by omega)]
    generalize fs.set (j+n8) od=ks at *
    have NL:∀H:Nat,(ay qs).set (0+j*1) (.int .u32 (H:Int))=ay (qs.set j H):=by intro H;rw [Nat.zero_add,Nat.mul_one,bg]
    rw [NL]
    refine ⟨fun h0=>?_,fun h0=>?_⟩
    ·have h0:ob=0:=by simpa using h0
     rw [h0,Nat.mul_zero,Nat.add_zero] at Mb
     have hlt:=hGF.lt
     rw [Nat.add_mul,Nat.one_mul] at hlt
     refine ⟨((j:Int)-1,ay ks++tl,ay (qs.set j G)),by (try dsimp only);omega,by (try dsimp only);and_intros<;>first|exact True.intro|rfl,ks,qs.set j G,rfl,rfl,?_⟩
     exact hO.next hjn q7 q6 q8 Mb (by omega) ME
    ·have h0:ob=1:=by
      have:ob≠0:=by simpa using h0
      omega
     rw [h0,Nat.mul_one] at Mb
     have ND:∀ls:List Nat,ls.length=n+1->bK ls->val (ls.drop (j+n8+1))=0->val (ls.drop j)<4294967296^(n8+1):=by
      intro ls h1 h2 h3
      have a1:=aY (ls.drop j) (n8+1) (by simp;omega)
      rw [List.drop_drop,show j+(n8+1)=j+n8+1 from by omega,h3,Nat.mul_zero,Nat.add_zero] at a1
      have a2:=fw ((h2.drop j).take (n8+1))
      rw [List.length_take,List.length_drop,Nat.min_eq_left (by omega)] at a2
      omega
     have YE:=ND ks (by omega) q6 q9
     have hG1:1<=G:=by
      rcases Nat.eq_zero_or_pos G with e0|e0
      ·subst e0;omega
      ·exact e0
     have YA:G*Y=(G-1)*Y+Y:=by conv=>lhs;rw [←Nat.sub_add_cancel hG1,Nat.add_mul,Nat.one_mul]
     have YB:=hGF.gt
     have Rn:u32.wrap ((G:Int)-1)=((G-1:Nat):Int):=by rw [oF (by omega)];omega
     refine ⟨⟨by omega,by omega⟩,(G:Int),by rw [Nat.zero_add,Nat.mul_one,fr (by simp;omega),List.getElem_set_self],⟨by omega,by omega⟩,by simp;omega,?_⟩
     have Lv:(ay (qs.set j G)).set (0+j*1) (.int .u32 ((G-1:Nat):Int))=ay (qs.set j (G-1)):=by rw [Nat.zero_add,Nat.mul_one,bg,List.set_set]
     rw [Rn,Lv]
     refine ⟨fun z V'=>∃(c' i2:Nat)(gs:List Nat),z=((c':Int),(i2:Int),ay gs++tl)/\zN ks (af Y) j i2 c' gs,fun z=>n8-z.2.1.toNat,
      ⟨(0,0,ay ks++tl),by (try dsimp only);and_intros<;>first|exact True.intro|rfl,0,0,ks,rfl,by omega,by omega,rfl,q6,rfl,rfl,by simp⟩,?_⟩
     rintro _ V11 l11 ⟨c',i2,gs,rfl,hA⟩
     dsimp only
     simp only [Int.toNat_natCast]
     have hi2:=hA.hi
     have hgl:=hA.len
     refine ⟨by trivial,fun hc=>?_,fun hc=>?_⟩
     ·have hc:i2<n8:=by simpa using hc
      obtain ⟨u,d,od,cn,cb,r1,r2,r3,r4,r5,hA'⟩:=hA.step (ax Y) q6 (by omega) (by omega)
      refine (h8.le (l7.trans (l9.trans (l10.trans l11)))).PK i2 rfl r1 ?_
      have Xw:i64.wrap ((j:Int)+i2)=((j+i2:Nat):Int):=by rw [i64w (by omega)];omega
      have w16:i64.wrap ((i2:Int)+1)=((i2+1:Nat):Int):=by rw [i64w (by omega)];omega
      rw [Xw,w16,Int.toNat_natCast]
      refine ⟨⟨by omega,by omega⟩,_,h_ r2,⟨by omega,by omega⟩,by simp;omega,by omega,?_⟩
      rw [r3,r4,r5]
      refine ⟨((cb:Int),((i2+1:Nat):Int),ay (gs.set (j+i2) od)++tl),by (try dsimp only);omega,?_,_,_,_,rfl,hA'⟩
      (try dsimp only);and_intros<;>first|exact True.intro|rfl|exact rR (by omega)
     ·have hc:i2=(af Y).length:=by simp at hc;omega
      subst hc
      obtain ⟨u,od,kp,r1,r2,r3,r4,r5,r6,r7,r8⟩:=hA.fin q6 (by omega) (by rw [hvl];exact q9)
      rw [hvl] at r1 r4 r5 r6 r7 r8
      rw [hvs] at r8
      refine ⟨⟨by omega,by omega⟩,_,h_ r1,⟨by omega,by omega⟩,by simp;omega,?_⟩
      rw [r2,rR (by omega)]
      have YD:=ND _ (by omega) r4 r7
      generalize gs.set (j+n8) od=hs at *
      have Ra:kp=1:=by
       rcases Nat.eq_zero_or_pos kp with e0|e0
       ·rw [e0,Nat.mul_zero] at r8;omega
       ·omega
      rw [Ra,Nat.mul_one] at r8
      refine ⟨((j:Int)-1,ay hs++tl,ay (qs.set j (G-1))),by (try dsimp only);omega,by (try dsimp only);and_intros<;>first|exact True.intro|rfl,hs,qs.set j (G-1),rfl,rfl,?_⟩
      exact hO.next hjn (by omega) r4 (by rw [r6,q8]) (by omega) (by omega) (by omega)
 ·have h3:j=-1:=by simp at h3;omega
  subst h3
  obtain ⟨hq,hr⟩:=hO.done hX.symm hY.symm (by omega) IX.top
  have MG:=hO.qd
  have E3:=hO.ud
  intro V8 l8 bk1 bk2 hb1 hb2 J
  have WQ:RD V8 (some ⟨bk2,0,none⟩) n8 c7 (us.take n8):=by
   refine ⟨by simp;omega,by omega,fun i v hv=>⟨_,rfl,?_⟩,E3.take n8,fun e0=>nomatch e0⟩
   rw [add_zero']
   refine blk_at hb2 ?_
   rw [xQ,List.getElem?_take] at hv
   split at hv
   ·rename_i hlt
    rw [List.getElem?_append_left (by simp;omega)];exact hv
   ·cases hv
  refine ⟨⟨by omega,by omega⟩,fun V9 l9=>?_⟩
  refine (aP (RD.aZ (ds:=qs) hb1 MG (n:=n+1-n8) (c:=n+1-n8) (by omega) (Nat.le_refl _) |>.le l9) (by omega)).mono ?_
  rintro r V10 l10 ⟨k1,rfl,g1⟩
  refine ⟨_,_,_,rfl,fun V11 l11=>?_⟩
  rw [Int.toNat_natCast]
  refine (EL (WQ.le (l9.trans (l10.trans l11))) (by simp;omega) s (by omega)).mono ?_
  rintro r V12 l12 ⟨p2,n2,c2,rfl,g2⟩
  refine ⟨_,_,_,rfl,fun V13 l13=>⟨_,_,_,_,_,_,rfl,?_,?_⟩⟩
  ·rw [aL MG] at g1
   unfold RN
   rw [←hq];exact g1.le (l11.trans (l12.trans l13))
  ·rw [hr] at g2
   exact g2.le l13
theorem jY {V:View}{p q:OA}{n c m e:Nat}{xa xb:List Nat}(ha:RD V p n c xa)(hb:RD V q m e xb)(hm:xa.length<=1099511627776)(hn:xb.length<=1099511627776)(h0:val xb≠0) :
  Acts prog 184 #[.slice p n c,.slice q m e] V fun r V'=>∃p1 n1 c1 p2 n2 c2,r=.tuple #[.slice p1 n1 c1,.slice p2 n2 c2,.bool true]/\RN V' p1 n1 c1 (val xa / val xb)/\RN V' p2 n2 c2 (val xa%val xb):=by
 have la:=bh ha.eM
 have lb:=bh hb.eM
 refine vZ p n c q m e V _ fun V1 l1=>(aP (ha.le l1) (by omega)).mono ?_
 rintro r V2 l2 ⟨n,rfl,hx⟩
 rw [aL ha.eM] at hx
 refine ⟨_,_,_,rfl,fun V3 l3=>(aP (hb.le (l1.trans (l2.trans l3))) (by omega)).mono ?_⟩
 rintro r V4 l4 ⟨m,rfl,hy⟩
 rw [aL hb.eM] at hy
 replace hx:=hx.le (l3.trans l4)
 generalize val xa=x at *
 generalize val xb=y at *
 have hlx:=hx.len
 have xr:=hy.len
 refine ⟨_,_,_,rfl,fun h1=>?_,fun h1 V6 l6=>(wU (hx.le l6) (hy.le l6) (by omega) (by omega)).mono ?_⟩
 ·exfalso
  have:af y=[]:=List.length_eq_zero_iff.1 (by simp at h1;omega)
  exact h0 (bo.1 this)
 rintro r V7 l7 rfl
 rw [ab,ab]
 replace hx:=hx.le (l6.trans l7)
 replace hy:=hy.le (l6.trans l7)
 refine ⟨_,rfl,fun h2 V8 l8=>(kO (hx.le l8) (by omega)).mono ?_,fun h2=>⟨fun h3=>?_,fun h3 V8 l8=>?_⟩⟩
 ·rintro r V9 l9 ⟨p4,n4,c4,rfl,g1⟩
  have h2:x<y:=by simpa [fh] using h2
  refine ⟨_,_,_,rfl,fun V10 l10=>⟨_,_,_,_,_,_,rfl,?_,?_⟩⟩
  ·rw [Nat.div_eq_of_lt h2];exact RD.nil
  ·rw [Nat.mod_eq_of_lt h2];exact g1.le l10
 ·have h3:m=1:=by simp at h3;omega
  subst h3
  refine hy.Xn 0 rfl (by omega) fun V8 l8=>?_
  have hd:=(ax y).get (i:=0) (by omega)
  have WZ:y=(af y)[0]'(by omega):=by
   have e:=fK (af y) 0 (by omega)
   rw [ab,List.drop_of_length_le (by omega)] at e
   simpa using e
  rw [←WZ] at hd ⊢
  refine (Ae (hx.le l8) (by omega) y h0 hd).mono ?_
  rintro r V9 l9 ⟨p4,n4,c4,rfl,g1⟩
  rw [ab] at g1 ⊢
  have hmod:x%y<y:=Nat.mod_lt _ (by omega)
  refine ⟨_,_,_,_,rfl,fun V10 l10=>?_⟩
  rw [aJ (by omega)]
  refine (dq _ (by omega) (by omega)).mono ?_
  rintro r V11 l11 ⟨p5,n5,c5,rfl,g2⟩
  exact ⟨_,_,_,rfl,fun V12 l12=>⟨_,_,_,_,_,_,rfl,g1.le (l10.trans (l11.trans l12)),g2.le l12⟩⟩
 ·have h2:y<=x:=by simpa [←Int.not_lt,fh] using h2
  have hm2:2<=m:=by
   have:¬(m:Int)=1:=by simpa using h3
   have:af y≠[]:=fun e=>h0 (bo.1 e)
   have:(af y).length≠0:=fun e=>this (List.length_eq_zero_iff.1 e)
   omega
  refine (Cs (hx.le l8) (hy.le l8) (by omega) hm2 h2).mono ?_
  rintro r V9 l9 ⟨p4,n4,c4,p5,n5,c5,rfl,g1,g2⟩
  exact ⟨_,_,_,_,_,_,rfl,fun V10 l10=>⟨_,_,_,_,_,_,rfl,g1.le l10,g2.le l10⟩⟩
theorem tB (x y:Nat):Nat.gcd y (x%y)=Nat.gcd x y:=by
 rw [Nat.gcd_comm x y,Nat.gcd_rec y x,Nat.gcd_comm]
theorem wV {V:View}{p q:OA}{n c m e:Nat}{xa xb:List Nat}(ha:RD V p n c xa)(hb:RD V q m e xb)(hm:xa.length<=1099511627776)(hn:xb.length<=1099511627776) :
  Acts prog 183 #[.slice p n c,.slice q m e] V fun r V'=>∃p1 n1 c1,r=.slice p1 n1 c1/\RN V' p1 n1 c1 (Nat.gcd (val xa) (val xb)):=by
 have la:=bh ha.eM
 have lb:=bh hb.eM
 refine Dq p n c q m e V _ fun V1 l1=>(gT (ha.le l1) hm).mono ?_
 rintro r V2 l2 ⟨p1,n1,c1,rfl,hx⟩
 refine ⟨_,_,_,rfl,fun V3 l3=>(gT (hb.le (l1.trans (l2.trans l3))) hn).mono ?_⟩
 rintro r V4 l4 ⟨q1,m1,e1,rfl,hy⟩
 replace hx:=hx.le (l3.trans l4)
 refine ⟨_,_,_,rfl,fun z k V'=>∃x y:Nat,RN V' z.1 z.2.1 z.2.2.1 x/\RN V' z.2.2.2.1 z.2.2.2.2.1 z.2.2.2.2.2 y/\Nat.gcd x y=Nat.gcd (val xa) (val xb)/\k=y/\(af x).length<=1099511627776/\(af y).length<=1099511627776,
  ⟨(p1,n1,c1,q1,m1,e1),val xb,by (try dsimp only);and_intros<;>trivial,val xa,val xb,hx,hy,rfl,rfl,by omega,by omega⟩,?_⟩
 rintro ⟨p,n,c,q,m,e⟩ k V5 l5 ⟨x,y,hx,hy,hg,hk,hx1,hy1⟩
 dsimp only at hx hy ⊢
 have hlx:=hx.len
 have xr:=hy.len
 rw [←hg]
 have stop:m=0->y=0:=fun h=>bo.1 (List.length_eq_zero_iff.1 (by omega))
 have more:∀V7:View,V5.Le V7->m≠0->Acts prog 184 #[.slice p n c,.slice q m e] V7 fun r V8=>∃p1 n1 c1 p2 n2 c2,r=.tuple #[.slice p1 n1 c1,.slice p2 n2 c2,.bool true]/\RN V8 p2 n2 c2 (x%y)/\x%y<y/\Nat.gcd y (x%y)=Nat.gcd (val xa) (val xb)/\(af (x%y)).length<=1099511627776/\V7.Le V8:=by
  intro V7 l7 h
  have hy0:y≠0:=by
   intro e0;subst e0
   rw [wY] at xr;simp at xr;omega
  have hlt:x%y<y:=Nat.mod_lt _ (by omega)
  refine (jY (hx.le l7) (hy.le l7) hx1 hy1 (by rw [ab];exact hy0)).mono ?_
  rintro r V8 l8 ⟨p4,n4,c4,p5,n5,c5,rfl,g1,g2⟩
  rw [ab,ab] at g2
  exact ⟨_,_,_,_,_,_,rfl,g2,hlt,by rw [tB,hg],Nat.le_trans (aB (by omega)) hy1,l8⟩
 refine ⟨by trivial,fun h1=>⟨fun h2 V6 l6=>?_,fun h2 V7 l7=>(more V7 l7 ?_).mono ?_⟩,fun h1=>⟨fun h1'=>⟨fun h2 V6 l6=>?_,fun h2 V7 l7=>(more V7 l7 ?_).mono ?_⟩,fun h1' V12 l12=>?_⟩⟩
 ·rw [stop (by simp at h2;omega),Nat.gcd_zero_right]
  rw [stop (by simp at h2;omega)] at hg
  exact ⟨_,_,_,rfl,hx.le l6⟩
 ·simp at h2;omega
 ·rintro r V8 l8 ⟨p4,n4,c4,p5,n5,c5,rfl,g2,hlt,hg',hl',l9⟩
  exact ⟨_,_,_,_,_,_,_,rfl,(q,m,e,p5,n5,c5),x%y,(by omega),by (try dsimp only);and_intros<;>trivial,y,x%y,hy.le (l7.trans l9),g2,hg'.trans hg.symm,rfl,hy1,hl'⟩
 ·rw [stop (by simp at h2;omega),Nat.gcd_zero_right]
  exact ⟨_,_,_,rfl,hx.le l6⟩
 ·simp at h2;omega
 ·rintro r V8 l8 ⟨p4,n4,c4,p5,n5,c5,rfl,g2,hlt,hg',hl',l9⟩
  exact ⟨_,_,_,_,_,_,_,rfl,(q,m,e,p5,n5,c5),x%y,(by omega),by (try dsimp only);and_intros<;>trivial,y,x%y,hy.le (l7.trans l9),g2,hg'.trans hg.symm,rfl,hy1,hl'⟩
 ·have hn2:n<=2:=by simp at h1;omega
  have hm2:m<=2:=by simp at h1';omega
  have hx2:x<18446744073709551616:=(az (k:=2)).1 (by omega)
  have hy2:y<18446744073709551616:=(az (k:=2)).1 (by omega)
  refine (jZ (hx.le l12) (by omega)).mono ?_
  rintro r V13 l13 rfl
  rw [ab,if_pos hx2]
  refine ⟨_,_,rfl,fun V14 dA=>(jZ (hy.le (l12.trans (l13.trans dA))) (by omega)).mono ?_⟩
  rintro r V15 dS rfl
  rw [ab,if_pos hy2]
  refine ⟨_,_,rfl,fun z V'=>∃a b:Nat,z=((a:Int),(b:Int))/\Nat.gcd a b=Nat.gcd x y/\a<18446744073709551616/\b<18446744073709551616,fun z=>z.2.toNat,
   ⟨((x:Int),(y:Int)),by (try dsimp only);and_intros<;>trivial,x,y,rfl,rfl,hx2,hy2⟩,?_⟩
  rintro _ kG dB ⟨a,b,rfl,hab,ha2,hb2⟩
  dsimp only
  refine ⟨by trivial,fun h3=>?_,fun h3 nD cU=>?_⟩
  ·have h3:b≠0:=by rw [bne_iff_ne] at h3;omega
   have hlt:a%b<b:=Nat.mod_lt _ (by omega)
   have e4:(a:Int).tmod (b:Int)=((a%b:Nat):Int):=by rw [Int.tmod_eq_emod_of_nonneg (by omega),←Int.natCast_emod]
   rw [e4]
   exact ⟨by omega,((b:Int),((a%b:Nat):Int)),by (try dsimp only);rw [Int.toNat_natCast,Int.toNat_natCast];exact hlt,by (try dsimp only);and_intros<;>trivial,b,a%b,rfl,by rw [tB,hab],hb2,Nat.lt_trans hlt hb2⟩
  ·have h3:b=0:=by rw [bne_eq_false_iff_eq] at h3;omega
   subst h3
   rw [Nat.gcd_zero_right] at hab
   refine (dq _ (by omega) (by omega)).mono ?_
   rintro r qN dW ⟨p4,n4,c4,rfl,g1⟩
   refine ⟨_,_,_,rfl,fun rG dX=>⟨_,_,_,rfl,?_⟩⟩
   rw [←hab]
   exact g1.le dX
theorem cO {V:View}{p:OA}{n c:Nat}{ds:List Nat}(h:RD V p n c ds)(hm:ds.length<=4611686018427387904) :
  Acts prog 116 #[.slice p n c] V fun r V'=>∃k,r=.slice p k c/\RD V' p k c (bT ds):=by
 have hl:=h.len
 have hcp:=h.cap
 refine B0 p n c V _ ?_
 refine ⟨fun z V'=>0<=z/\z<=n/\bT (ds.take z.toNat)=bT ds,fun z=>z.toNat,⟨n,by (try dsimp only);and_intros<;>first|exact True.intro|rfl,by (try dsimp only);omega,by (try dsimp only);omega,?_⟩,?_⟩
 ·simp [hl]
 ·rintro k V1 l1 ⟨hk0,hk,ht⟩
  obtain ⟨k,rfl⟩:=Int.eq_ofNat_of_zero_le hk0
  dsimp only at hk ht ⊢
  simp only [Int.toNat_natCast] at ht
  refine ⟨rfl,fun h0=>?_,fun h0=>?_⟩
  ·have h0:0<k:=by simpa using h0
   have w:i64.wrap ((k:Int)-1)=((k-1:Nat):Int):=by rw [i64w (by omega)];omega
   simp only [w]
   have hs:ds.take k=ds.take (k-1)++[ds[k-1]]:=by rw [←List.take_succ_eq_append_getElem (by omega),Nat.sub_add_cancel h0]
   refine (h.le l1).rd (k-1) rfl (by omega) ⟨fun hz=>?_,fun hz=>?_⟩
   ·have hz:ds[k-1]=0:=by simpa using hz
    refine ⟨_,?_,by (try dsimp only);and_intros<;>first|exact True.intro|rfl,?_,?_,?_⟩
    ·(try dsimp only);omega
    ·(try dsimp only);omega
    ·(try dsimp only);omega
    ·(try dsimp only)
     rw [←ht,hs,hz,gg];rfl
   ·have hz:ds[k-1]≠0:=by simpa using hz
    refine ⟨⟨by omega,by omega⟩,fun V2 l2=>⟨k,rfl,?_⟩⟩
    rw [←ht,hs,nd _ _ hz,←hs]
    exact ((h.le l1).le l2).take (by omega)
  ·have h0:k=0:=by simpa using h0
   subst h0
   refine ⟨⟨by omega,by omega⟩,fun V2 l2=>⟨0,rfl,?_⟩⟩
   rw [←ht]
   exact ((h.le l1).le l2).take (by omega)
theorem du {V:View}(u:Nat)(h1:u<18446744073709551616) :
  Acts prog 115 #[.int .u64 (u:Int)] V fun r V'=>∃q k c',r=.slice q k c'/\RN V' q k c' u:=by
 refine B4 _ V _ ⟨by omega,fun V1 l1 bk hb=>?_⟩
 rw [kx,gD,oF (by omega)] at hb
 have hb:V1.aZ bk (.cells (ay [u%4294967296,u / 4294967296]).toArray 225 (0,0)):=by
  simpa [ay] using hb
 have hd:bK [u%4294967296,u / 4294967296]:=by simp [bK];omega
 refine (cO (RD.aZ hb hd (n:=2) (c:=2) rfl (Nat.le_refl _)) (by simp)).mono ?_
 rintro r V2 l2 ⟨k,rfl,h2⟩
 refine ⟨_,_,_,rfl,fun _ V3 l3=>⟨_,_,_,rfl,?_⟩⟩
 rw [aL hd] at h2
 have:val [u%4294967296,u / 4294967296]=u:=by simp;omega
 rw [this] at h2
 exact h2.le l3
theorem lK {V:View} :
  Acts prog 117 #[] V fun r V'=>∃q k c',r=.slice q k c'/\RN V' q k c' 1:=by
 refine DA V _ fun V1 l1 bk hb=>⟨_,_,_,rfl,?_⟩
 have hd:af 1=[1]:=II (by omega) (by omega)
 unfold RN
 rw [hd]
 have hb:V1.aZ bk (.cells (ay [1]).toArray 225 (0,0)):=by
  simpa [ay] using hb
 exact RD.aZ hb (by simp [bK]) rfl (Nat.le_refl _)
def Fs (x:Int):Int:=if 0<x then 1 else if x<0 then -1 else 0
theorem Cu {V:View}(x:Int) :
  Acts prog 191 #[.int .i64 x] V fun r V'=>r=.int .i64 (Fs x):=by
 refine B6 x V _ ⟨fun h V1 l1=>?_,fun h=>⟨fun h2 V1 l1=>?_,fun h2 V1 l1=>?_⟩⟩
 ·have h:0<x:=by simpa using h
  rw [Fs,if_pos h]
 ·have h:x<0:=by simpa using h2
  rw [Fs,if_neg (by omega),if_pos h]
 ·have h:¬0<x:=by simpa using h
  have h2:¬x<0:=by simpa using h2
  rw [Fs,if_neg h,if_neg h2]
theorem gI {V:View}{p q:OA}{n c m e:Nat}{x y:Nat}(ha:RN V p n c x)(hb:RN V q m e y)(hm:(af x).length<=1099511627776)(hn:(af y).length<=1099511627776) :
  Acts prog 150 #[.slice p n c,.slice q m e] V fun r V'=>r=.int .i64 (ju x y):=by
 have hl1:=ha.len
 have hl2:=hb.len
 refine Dw p n c q m e V _ ⟨fun h0 V1 l1=>?_,fun h0=>?_⟩
 ·have w:i64.wrap ((n:Int)-m)=(n:Int)-m:=i64w (by omega)
  simp only [w]
  refine (Cu _).mono ?_
  rintro r V2 l2 rfl
  refine ⟨_,rfl,fun V3 l3=>?_⟩
  have h0:n≠m:=by simp at h0;omega
  congr 1
  rcases Nat.lt_or_ge n m with h|h
  ·have:=jC (a:=x) (b:=y) (by omega)
   rw [ju,if_pos this,Fs,if_neg (by omega),if_pos (by omega)]
  ·have:=jC (a:=y) (b:=x) (by omega)
   rw [ju,if_neg (by omega),if_pos this,Fs,if_pos (by omega)]
 ·have h0:n=m:=by simp at h0;omega
  subst h0
  have w:i64.wrap ((n:Int)-1)=(n:Int)-1:=i64w (by omega)
  simp only [w]
  refine ⟨fun z V'=>-1<=z/\z<n/\(af x).drop (z+1).toNat=(af y).drop (z+1).toNat,fun z=>(z+1).toNat,⟨_,by (try dsimp only);and_intros<;>first|exact True.intro|rfl,by (try dsimp only);omega,by (try dsimp only);omega,?_⟩,?_⟩
  ·(try dsimp only)
   rw [List.drop_of_length_le (by omega),List.drop_of_length_le (by omega)]
  ·rintro i V7 l7 ⟨hi0,hi1,hd⟩
   dsimp only at hi0 hi1 hd ⊢
   refine ⟨by trivial,fun h3=>?_,fun h3 V5 l5=>?_⟩
   ·have h3:0<=i:=by simpa using h3
    obtain ⟨i,rfl⟩:=Int.eq_ofNat_of_zero_le h3
    have w:i64.wrap ((i:Int)-1)=(i:Int)-1:=i64w (by omega)
    simp only [w]
    have hd':(af x).drop (i+1)=(af y).drop (i+1):=hd
    refine (ha.le l7).rd i rfl (by omega) ((hb.le l7).rd i rfl (by omega) ⟨fun h4 V8 l8=>?_,fun h4=>?_⟩)
    ·have:=iK (ax y) (by omega) (by omega) hd'.symm (by simpa using h4)
     rw [ab,ab] at this
     rw [ju,if_neg (by omega),if_pos this]
    ·refine (ha.le l7).rd i rfl (by omega) ((hb.le l7).rd i rfl (by omega) ⟨fun h5 V8 l8=>?_,fun h5=>?_⟩)
     ·have:=iK (ax x) (by omega) (by omega) hd' (by simpa using h5)
      rw [ab,ab] at this
      rw [ju,if_pos this]
     ·refine ⟨_,?_,by (try dsimp only);and_intros<;>first|exact True.intro|rfl,?_,?_,?_⟩
      ·(try dsimp only);omega
      ·(try dsimp only);omega
      ·(try dsimp only);omega
      ·(try dsimp only)
       have:((i:Int)-1+1).toNat=i:=by omega
       rw [this,List.drop_eq_getElem_cons (by omega),List.drop_eq_getElem_cons (l:=af y) (by omega),hd']
       congr 1
       simp at h4 h5
       omega
   ·have h3:i=-1:=by simp at h3;omega
    subst h3
    have:af x=af y:=by simpa using hd
    have:=nN this
    subst this
    simp [ju]
theorem G4 (a b:Nat):maxI (a:Int) (b:Int)=((max a b:Nat):Int):=by
 unfold maxI
 split<;>omega
theorem EN {V:View}{p q:OA}{n c m e:Nat}{xs ys:List Nat}(hx:RD V p n c xs)(hy:RD V q m e ys)(hm:xs.length<=1099511627776)(hn:ys.length<=1099511627776) :
  Acts prog 151 #[.slice p n c,.slice q m e] V fun r V'=>∃p' n' c',r=.slice p' n' c'/\RN V' p' n' c' (val xs+val ys):=by
 have hlx:=hx.len
 have xr:=hy.len
 have vc:=DD p n c q m e V
 have w:i64.wrap (((max n m:Nat):Int)+1)=((max n m+1:Nat):Int):=by rw [i64w (by omega)];omega
 simp only [G4,w,Int.toNat_natCast] at vc
 obtain ⟨k,hk⟩:∃k,k=max n m:=⟨_,rfl⟩
 rw [←hk] at vc
 refine vc _ ⟨by omega,by omega,by omega,fun z V'=>0<=z.1/\z.1<=1/\0<=z.2.1/\z.2.1<=k/\∃es:List Nat,z.2.2=ay es/\es.length=k+1/\bK es /\
   val (es.take z.2.1.toNat)+4294967296^z.2.1.toNat*z.1.toNat=val (xs.take z.2.1.toNat)+val (ys.take z.2.1.toNat),fun z=>k-z.2.1.toNat,⟨(0,0,ay (List.replicate (k+1) 0)),by (try dsimp only);and_intros<;>first|exact True.intro|rfl|exact cu _,by (try dsimp only);omega,by (try dsimp only);omega,by (try dsimp only);omega,by (try dsimp only);omega,_,rfl,by simp,bK.rep _,by simp⟩,?_⟩
 rintro ⟨cy,i,vs⟩ V2 l2 ⟨hc0,hc1,hi0,hi1,es,rfl,hes,hde,hv⟩
 dsimp only at hc0 hc1 hi0 hi1 hv ⊢
 obtain ⟨i,rfl⟩:=Int.eq_ofNat_of_zero_le hi0
 obtain ⟨cy,rfl⟩:=Int.eq_ofNat_of_zero_le hc0
 simp only [Int.toNat_natCast] at hv
 refine ⟨by trivial,fun h3=>?_,fun h3=>?_⟩
 ·have h3:i<k:=by simpa using h3
  refine ⟨fun z V'=>∃x:Nat,z=x/\x<4294967296/\val (xs.take (i+1))=val (xs.take i)+4294967296^i*x,⟨fun h4=>?_,fun h4=>?_⟩,?_⟩
  ·have h4:i<n:=by simpa using h4
   refine (hx.le l2).rd i rfl (by omega) ?_
   exact ⟨_,by (try dsimp only);and_intros<;>first|exact True.intro|rfl,xs[i],rfl,hx.eM.get (by omega),aq _ _ (by omega)⟩
  ·have h4:n<=i:=by simpa using h4
   exact ⟨_,by (try dsimp only);and_intros<;>first|exact True.intro|rfl,0,rfl,by omega,by rw [ai (by omega),ai (by omega)];simp⟩
  rintro _ V3 l3 ⟨x,rfl,hx1,hx2⟩
  refine ⟨by trivial,fun z V'=>∃y:Nat,z=y/\y<4294967296/\val (ys.take (i+1))=val (ys.take i)+4294967296^i*y,⟨fun h4=>?_,fun h4=>?_⟩,?_⟩
  ·have h4:i<m:=by simpa using h4
   refine ((hy.le l2).le l3).rd i rfl (by omega) ?_
   exact ⟨_,by (try dsimp only);and_intros<;>first|exact True.intro|rfl,ys[i],rfl,hy.eM.get (by omega),aq _ _ (by omega)⟩
  ·have h4:m<=i:=by simpa using h4
   exact ⟨_,by (try dsimp only);and_intros<;>first|exact True.intro|rfl,0,rfl,by omega,by rw [ai (by omega),ai (by omega)];simp⟩
  rintro _ V4 l4 ⟨y,rfl,hy1,hy2⟩
  refine ⟨by trivial,fun V5 l5=>(Iz x y cy hx1 hy1 (by omega)).mono ?_⟩
  rintro r V6 l6 rfl
  have w:i64.wrap ((i:Int)+1)=((i+1:Nat):Int):=by rw [i64w (by omega)];omega
  simp only [w,Int.toNat_natCast]
  refine ⟨_,_,rfl,⟨by omega,by omega⟩,by simp;omega,(((x+y+cy) / 4294967296:Nat),((i+1:Nat):Int),ay (es.set i ((x+y+cy)%4294967296))),?_,by (try dsimp only);and_intros<;>first|exact True.intro|rfl|(rw [←bg];simp),?_⟩
  ·(try dsimp only);omega
  ·(try dsimp only)
   refine ⟨by omega,by omega,by omega,by omega,_,rfl,by simpa using hes,hde.set _ _ (by omega),?_⟩
   simp only [Int.toNat_natCast]
   rw [aF _ _ _ (by omega),Nat.pow_succ,hx2,hy2]
   exact rZ hv (by omega)
 ·have h3:i=k:=by simp at h3;omega
  subst h3
  refine ⟨⟨by omega,by omega⟩,by simp;omega,fun V3 l3 bk hb=>?_⟩
  have e1:(ay es).set (0+((i:Int).toNat)*1) (.int .u32 (cy:Int))=ay (es.set i cy):=by rw [←bg];simp
  simp only [Int.toNat_natCast] at e1
  try simp only [Int.toNat_natCast] at hb
  rw [e1] at hb
  have hd2:=hde.set i cy (by omega)
  refine (cO (RD.aZ hb hd2 (n:=i+1) (c:=i+1) (by simp;omega) (Nat.le_refl _)) (by simp;omega)).mono ?_
  rintro r V4 l4 ⟨k,rfl,h4⟩
  refine ⟨_,_,_,rfl,fun _ V5 l5=>⟨_,_,_,rfl,?_⟩⟩
  rw [aL hd2] at h4
  have e2:val (es.set i cy)=val xs+val ys:=by
   have:=aF es i cy (by omega)
   rw [ai (by simp;omega)] at this
   rw [this,hv,ai (by omega),ai (by omega)]
  rw [e2] at h4
  exact h4.le l5
theorem Dg {E A B c x y W d b:Nat}(h:E+B=A+W*c)(hv:d+(y+c)=x+4294967296*b) :
  E+W*d+(B+W*y)=A+W*x+W*4294967296*b:=by
 have:=congrArg (W*·) hv
 simp only [Nat.mul_add,←Nat.mul_assoc] at this
 omega
theorem mI {V:View}{p q:OA}{n c m e:Nat}{xs ys:List Nat}(hx:RD V p n c xs)(hy:RD V q m e ys)(hm:xs.length<=1099511627776)(hl:ys.length<=xs.length)(hle:val ys<=val xs) :
  Acts prog 152 #[.slice p n c,.slice q m e] V fun r V'=>∃p' n' c',r=.slice p' n' c'/\RN V' p' n' c' (val xs-val ys):=by
 have hlx:=hx.len
 have xr:=hy.len
 refine BU p n c q m e V _ ⟨by omega,by omega,by omega,fun z V'=>0<=z.1/\z.1<=1/\0<=z.2.1/\z.2.1<=n/\∃es:List Nat,z.2.2=ay es/\es.length=n/\bK es /\
   val (es.take z.2.1.toNat)+val (ys.take z.2.1.toNat)=val (xs.take z.2.1.toNat)+4294967296^z.2.1.toNat*z.1.toNat,fun z=>n-z.2.1.toNat,
   ⟨(0,0,List.replicate n (.int .u32 0)),by (try dsimp only);and_intros<;>first|exact True.intro|rfl,by (try dsimp only);omega,by (try dsimp only);omega,by (try dsimp only);omega,by (try dsimp only);omega,List.replicate n 0,cu n,by simp,bK.rep _,by simp⟩,?_⟩
 rintro ⟨cy,i,vs⟩ V2 l2 ⟨hc0,hc1,hi0,hi1,es,rfl,hes,hde,hv⟩
 dsimp only at hc0 hc1 hi0 hi1 hv ⊢
 obtain ⟨i,rfl⟩:=Int.eq_ofNat_of_zero_le hi0
 obtain ⟨cy,rfl⟩:=Int.eq_ofNat_of_zero_le hc0
 simp only [Int.toNat_natCast] at hv
 refine ⟨by trivial,fun h3=>?_,fun h3=>?_⟩
 ·have h3:i<n:=by simpa using h3
  refine ⟨fun z V'=>∃y:Nat,z=y/\y<4294967296/\val (ys.take (i+1))=val (ys.take i)+4294967296^i*y,⟨fun h4=>?_,fun h4=>?_⟩,?_⟩
  ·have h4:i<m:=by simpa using h4
   refine (hy.le l2).rd i rfl (by omega) ?_
   exact ⟨_,by (try dsimp only);and_intros<;>first|exact True.intro|rfl,ys[i],rfl,hy.eM.get (by omega),aq _ _ (by omega)⟩
  ·have h4:m<=i:=by simpa using h4
   exact ⟨_,by (try dsimp only);and_intros<;>first|exact True.intro|rfl,0,rfl,by omega,by rw [ai (by omega),ai (by omega)];simp⟩
  rintro _ V3 l3 ⟨y,rfl,hy1,hy2⟩
  refine ⟨by trivial,?_⟩
  refine ((hx.le l2).le l3).rd i rfl (by omega) fun V4 l4=>(IE _ y cy (hx.eM.get (by omega)) hy1 (by omega)).mono ?_
  rintro r V5 l5 ⟨d,b,rfl,hd,hb,hdb⟩
  have w:i64.wrap ((i:Int)+1)=((i+1:Nat):Int):=by rw [i64w (by omega)];omega
  simp only [w,Int.toNat_natCast]
  refine ⟨_,_,rfl,⟨by omega,by omega⟩,by simp;omega,((b:Int),((i+1:Nat):Int),ay (es.set i d)),?_,by (try dsimp only);and_intros<;>first|exact True.intro|rfl|(rw [←bg];simp),?_⟩
  ·(try dsimp only);omega
  ·(try dsimp only)
   refine ⟨by omega,by omega,by omega,by omega,_,rfl,by simpa using hes,hde.set _ _ (by omega),?_⟩
   simp only [Int.toNat_natCast]
   rw [aF _ _ _ (by omega),Nat.pow_succ,aq xs i (by omega),hy2]
   exact Dg hv hdb
 ·have h3:i=n:=by simp at h3;omega
  subst h3
  simp only [Int.toNat_natCast]
  intro V3 l3 bk hb
  refine (cO (RD.aZ hb hde (n:=i) (c:=i) hes.symm (Nat.le_refl _)) (by omega)).mono ?_
  rintro r V4 l4 ⟨k,rfl,h4⟩
  refine ⟨_,_,_,rfl,fun _ V5 l5=>⟨_,_,_,rfl,?_⟩⟩
  rw [aL hde] at h4
  rw [ai (by omega),ai (by omega),ai (by omega)] at hv
  have e1:=fw hde
  rw [hes] at e1
  have e2:cy=0:=by
   rcases Nat.eq_zero_or_pos cy with h|h
   ·exact h
   ·have:4294967296^i*1<=4294967296^i*cy:=Nat.mul_le_mul_left _ h
    omega
  subst e2
  rw [show val es=val xs-val ys from by omega] at h4
  exact h4.le l5
end Go.Proofs.Tryz
