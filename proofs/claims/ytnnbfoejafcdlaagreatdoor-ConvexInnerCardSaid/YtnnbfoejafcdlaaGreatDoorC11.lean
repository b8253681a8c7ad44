import Derived.Test.YtnnbfoejafcdlaaGreatDoorC10
import Derived.Test.YtnnbfoejafcdlaaGreatDoorC6
import Derived.Test.YtnnbfoejafcdlaaGreatDoorC7
set_option linter.unusedVariables false
open Go.IntKind (i64 u64 u32)
namespace Go.Proofs.Tryz
open Go.bw Go.eN
theorem xA (a:Addr)(m n:Nat):(a.add m).add n=a.add (m+n):=by
 unfold Addr.add
 by_cases h1:m=0
 ·subst h1;simp
 ·by_cases h2:n=0
  ·subst h2;simp [h1]
  ·rw [if_neg h1,if_neg h2,if_neg (by omega)]
   simp only [Nat.add_assoc]
theorem J2 {V:View}{p:OA}{n c:Nat}{ds:List Nat}(h:RD V p n c ds){k:Nat}(hk:k<n):RD V (kW p c k 1) (n-k) (c-k) (ds.drop k):=by
 have hl:=h.len
 have hc:=h.cap
 have e:kW p c k 1=ag p k:=by unfold kW;rw [if_neg (by omega),Nat.mul_one]
 rw [e]
 refine ⟨by simp;omega,by omega,fun i v hv=>?_,h.dY.drop k,fun hp=>?_⟩
 ·rw [Fk,List.getElem?_drop] at hv
  obtain ⟨ad,e1,hat⟩:=h.sl _ _ hv
  refine ⟨ad.add k,by rw [e1];rfl,?_⟩
  rw [xA];exact hat
 ·have:p.isNone=true:=by cases p<;>simp_all [ag]
  have:=h.G3 this
  omega
theorem zP {V:View}{p:OA}{n c:Nat}{ds:List Nat}(hd:RD V p n c ds)(hm:ds.length<=1099511627776)(k:Nat)(hk:k<=35184372088832) :
  ab prog 205 #[.slice p n c,.int .i64 (k:Int)] V fun r V'=>∃p' n' c',r=.slice p' n' c'/\RN V' p' n' c' (val ds / 2^k):=by
 have hl:=hd.len
 have e2:(k:Int).tdiv 32=((k / 32:Nat):Int):=by rw [Int.tdiv_eq_ediv_of_nonneg (by omega)];omega
 have e3:(k:Int).tmod 32=((k%32:Nat):Int):=by rw [Int.tmod_eq_emod_of_nonneg (by omega)];omega
 have vc:=yU p n c k V
 have hk2:val ds / 2^k=val ds / 4294967296^(k / 32) / 2^(k%32):=by
  rw [Nat.div_div_eq_div_mul,show (4294967296:Nat)=2^32 from rfl,←Nat.pow_mul,←Nat.pow_add,Nat.div_add_mod]
 rw [hk2]
 have hwl:k / 32<=1099511627776:=by omega
 have hrl:k%32<32:=Nat.mod_lt _ (by omega)
 rw [e2,e3] at vc
 generalize k / 32=w at *
 generalize k%32=r at *
 clear e2 e3 hk2
 have w1:i64.wrap (w:Int)=(w:Int):=ay (by omega)
 have w4:u64.wrap (r:Int)=(r:Int):=aL (by omega)
 have hmin:(min r IntKind.u64.bits)=r:=by
  show min _ 64=r
  omega
 simp only [w1,w4,Int.toNat_natCast,hmin,cC] at vc
 refine vc _ ⟨by omega,fun h0 V1 l1=>?_,fun h0=>?_⟩
 ·have h0:n<=w:=by simp at h0;omega
  have hlt:=fw hd.dY
  have:4294967296^ds.length<=4294967296^w:=Nat.pow_le_pow_right (by omega) (by omega)
  rw [Nat.div_eq_of_lt (Nat.lt_of_lt_of_le hlt this),Nat.zero_div]
  exact ⟨_,_,_,rfl,RD.nil⟩
 ·have h0:w<n:=by simp at h0;omega
  clear vc
  have hxw:val ds / 4294967296^w=val (ds.drop w):=by
   have e:val ds=val (ds.take w++ds.drop w):=by rw [List.take_append_drop]
   have hlt:=fw (hd.dY.take w)
   rw [cZ] at e
   rw [List.length_take,Nat.min_eq_left (by omega)] at e hlt
   rw [e,Nat.add_mul_div_left _ _ (Nat.pow_pos (by omega)),Nat.div_eq_of_lt hlt,Nat.zero_add]
  rw [hxw]
  have hx:=J2 hd h0
  have hlx:=hx.len
  clear hxw
  generalize kW p c w 1=sp at *
  generalize ds.drop w=xs at *
  generalize hN:n-w=N at *
  refine ⟨by omega,by omega,⟨by omega,by omega⟩,by omega,by omega,by omega,fun z V'=>0<=z.1/\z.1<=N/\∃es:List Nat,z.2=aC es/\es.length=N/\bK es /\
   val (es.take z.1.toNat)+4294967296^z.1.toNat*(val (xs.drop z.1.toNat) / 2^r)=val xs / 2^r,fun z=>N-z.1.toNat,
   ⟨(0,aC (List.replicate N 0)),by (try dsimp only);and_intros<;>first|exact True.intro|rfl,by (try dsimp only);omega,by (try dsimp only);omega,_,rfl,by simp,bK.rep _,by simp⟩,?_⟩
  rintro ⟨i,vs⟩ V4 l4 ⟨hi0,hi1,es,rfl,hes,hde,hv⟩
  dsimp only at hi0 hi1 hv ⊢
  obtain ⟨i,rfl⟩:=Int.eq_ofNat_of_zero_le hi0
  simp only [Int.toNat_natCast] at hv
  refine ⟨by trivial,fun h3=>?_,fun h3=>?_⟩
  ·have h3:i<N:=by simpa using h3
   have x3:i64.wrap ((i:Int)+1)=((i+1:Nat):Int):=by rw [ay (by omega)];omega
   simp only [x3,Int.toNat_natCast,Nat.mul_one,Nat.zero_add]
   refine I7 (hx.le l4) i (by omega) ?_
   have wV:=hx.dY.get (i:=i) (by omega)
   refine ⟨fun z V'=>z=((xs[i]+4294967296*(xs[i+1]?).getD 0:Nat):Int),⟨fun h4=>?_,fun h4=>?_⟩,?_⟩
   ·have h4:i+1<N:=by simp at h4;omega
    have hdy:=hx.dY.get (i:=i+1) (by omega)
    have e4:bg .or .u64 (u64.wrap ((xs[i]:Nat):Int)) (u64.wrap (u64.wrap ((xs[i+1]:Nat):Int)*2^32))=((xs[i]+4294967296*(xs[i+1]?).getD 0:Nat):Int):=by
     have e3:((2:Int)^32)=4294967296:=by decide
     rw [e3,aL (by omega),aL (x:=((xs[i+1]:Nat):Int)) (by omega),aL (by omega),Ha _ _ hdy wV,List.getElem?_eq_getElem (by omega),Option.getD_some]
     omega
    refine I7 (hx.le l4) (i+1) (by omega) ⟨by omega,((xs[i]+4294967296*(xs[i+1]?).getD 0:Nat):Int),?_,rfl⟩
    (try dsimp only);and_intros<;>first|exact True.intro|exact e4|rfl
   ·have h4:N<=i+1:=by simp at h4;omega
    have e4:u64.wrap ((xs[i]:Nat):Int)=((xs[i]+4294967296*(xs[i+1]?).getD 0:Nat):Int):=by
     rw [aL (by omega),List.getElem?_eq_none (by omega)];simp
    refine ⟨((xs[i]+4294967296*(xs[i+1]?).getD 0:Nat):Int),?_,rfl⟩
    (try dsimp only);and_intros<;>first|exact True.intro|exact e4|rfl
   rintro _ V5 l5 rfl
   have hst:=A4 (Y:=val (xs.drop (i+1))) wV hrl
   rw [oo hx.dY] at hst
   have hdrop:val (xs.drop i)=xs[i]+4294967296*val (xs.drop (i+1)):=by
    rw [List.drop_eq_getElem_cons (by omega),aY]
   rw [hdrop,hst] at hv
   rw [fm,gP]
   obtain ⟨D,hD⟩:∃D,D=(xs[i]+4294967296*(xs[i+1]?).getD 0) / 2^r%4294967296:=⟨_,rfl⟩
   have eD:(((xs[i]+4294967296*(xs[i+1]?).getD 0) / 2^r:Nat):Int)%4294967296=(D:Int):=by rw [hD];omega
   rw [eD]
   rw [←hD] at hv
   refine ⟨by trivial,by omega,⟨by omega,by omega⟩,by simp;omega,(((i+1:Nat):Int),aC (es.set i D)),?_,?_,?_⟩
   ·(try dsimp only);omega
   ·(try dsimp only);and_intros<;>first|exact True.intro|rfl|rw [←bj]
   ·(try dsimp only)
    refine ⟨by omega,by omega,_,rfl,by simpa using hes,hde.set _ _ (by omega),?_⟩
    simp only [Int.toNat_natCast]
    rw [aJ _ _ _ (by omega),←hv,Nat.pow_succ,Nat.mul_add,Nat.add_assoc,Nat.mul_assoc]
  ·have h3:i=N:=by simp at h3;omega
   subst h3
   intro V5 l5 bk hb
   refine (cH (RD.br hb hde (n:=i) (c:=i) (by omega) (Nat.le_refl _)) (by omega)).mono ?_
   rintro r' V6 l6 ⟨k',rfl,h4⟩
   refine ⟨_,_,_,rfl,fun _ V7 l7=>⟨_,_,_,rfl,?_⟩⟩
   rw [ao (by omega),List.drop_of_length_le (l:=xs) (i:=i) (by omega)] at hv
   have hv:val es=val xs / 2^r:=by
    rw [←hv,dQ,Nat.zero_div,Nat.mul_zero,Nat.add_zero]
   rw [aM hde,hv] at h4
   exact h4.le l7
end Go.Proofs.Tryz
namespace Go.eN
theorem qk {ds:List Nat}(hd:bK ds)(w:Nat)(hw:w<=ds.length):val ds / 4294967296^w=val (ds.drop w):=by
 have e:val ds=val (ds.take w++ds.drop w):=by rw [List.take_append_drop]
 have hlt:=fw (hd.take w)
 rw [cZ] at e
 rw [List.length_take,Nat.min_eq_left (by omega)] at e hlt
 rw [e,Nat.add_mul_div_left _ _ (Nat.pow_pos (by omega)),Nat.div_eq_of_lt hlt,Nat.zero_add]
theorem M0 {R n:Nat}(h:(ah R).length=n+2):R / 4294967296^n=(ah R)[n+1]'(by omega)*4294967296+(ah R)[n]'(by omega):=by
 have:=qk (aD R) n (by omega)
 rw [ae] at this
 rw [this,List.drop_eq_getElem_cons (by omega),List.drop_eq_getElem_cons (i:=n+1) (by omega),List.drop_of_length_le (by omega)]
 simp only [aY,dQ]
 omega
theorem JP {R n:Nat}(h:(ah R).length=n+1):R / 4294967296^n=(ah R)[n]'(by omega):=by
 have:=qk (aD R) n (by omega)
 rw [ae] at this
 rw [this,List.drop_eq_getElem_cons (by omega),List.drop_of_length_le (by omega)]
 simp only [aY,dQ]
 omega
theorem MZ {R n:Nat}(h:(ah R).length<=n):R / 4294967296^n=0:=Nat.div_eq_of_lt (aE.1 h)
theorem CW {V n:Nat}(h:(ah V).length=n+1):(ah V)[n]'(by omega)*4294967296^n<=V:=by
 have:=JP h
 rw [←this]
 exact Nat.div_mul_le_self _ _
theorem Gg {R V top P W:Nat}(hV:top*P<=V)(ht:0<top)(hP:0<P)(hW:0<W):R / (V*W)<=R / (P*W) / top:=by
 rw [Nat.le_div_iff_mul_le ht,Nat.le_div_iff_mul_le (Nat.mul_pos hP hW)]
 have h1:R / (V*W)*(V*W)<=R:=Nat.div_mul_le_self _ _
 have h2:R / (V*W)*(top*P*W)<=R / (V*W)*(V*W):=Nat.mul_le_mul_left _ (Nat.mul_le_mul_right _ hV)
 have h3:R / (V*W)*top*(P*W)=R / (V*W)*(top*P*W):=by
  generalize R / (V*W)=q
  rw [Nat.mul_assoc q top,←Nat.mul_assoc top P W]
 omega
theorem EU {A V W D R q R':Nat}(h:A=V*(W*4294967296*D)+R)(hq:R=V*q*W+R'):A=V*(W*(q+4294967296*D))+R':=by
 subst hq;rw [h];grind
theorem GO {x y s Q R:Nat}(h:x*2^s=y*2^s*Q+R)(hR:R<y*2^s):Q=x / y/\R / 2^s=x%y:=by
 have hp:=Nat.two_pow_pos s
 have hy:0<y:=by
  rcases Nat.eq_zero_or_pos y with e|e
  ·subst e;simp at hR
  ·exact e
 have h1:y*2^s*Q=(y*Q)*2^s:=by grind
 rw [h1] at h
 have h2:y*Q<=x:=by
  rcases Nat.lt_or_ge x (y*Q) with hl|hl
  ·have:(x+1)*2^s<=y*Q*2^s:=Nat.mul_le_mul_right _ hl
   rw [Nat.add_mul] at this
   omega
  ·exact hl
 obtain ⟨d,rfl⟩:=Nat.exists_eq_add_of_le h2
 rw [Nat.add_mul] at h
 have h3:R=d*2^s:=by omega
 subst h3
 have h4:d<y:=Nat.lt_of_mul_lt_mul_right hR
 rw [Nat.mul_div_cancel _ hp]
 constructor
 ·rw [Nat.mul_add_div hy,Nat.div_eq_of_lt h4,Nat.add_zero]
 ·rw [Nat.mul_add_mod,Nat.mod_eq_of_lt h4]
theorem JS (j:Nat):2^(32*j)=4294967296^j:=by rw [Nat.pow_mul]
theorem Cl {R V W g:Nat}(Lt:0<V*W)(h:V*g*W<=R)(hq:R / (V*W)<=g):g=R / (V*W):=by
 have:g<=R / (V*W):=by
  rw [Nat.le_div_iff_mul_le Lt]
  have:g*(V*W)=V*g*W:=by grind
  omega
 omega
theorem Gh {R V W g:Nat}(Lt:0<V*W)(h:R<V*g*W):R / (V*W)<g:=by
 rw [Nat.div_lt_iff_lt_mul Lt]
 have:g*(V*W)=V*g*W:=by grind
 omega
theorem CQ {R V W:Nat}:R=V*(R / (V*W))*W+R%(V*W):=by
 have:=Nat.div_add_mod R (V*W)
 have e:V*(R / (V*W))*W=V*W*(R / (V*W)):=by
  generalize R / (V*W)=q
  grind
 omega
theorem gK {a b:Nat}:(ah (a*b)).length<=(ah a).length+(ah b).length:=by
 rw [aE,Nat.pow_add]
 have h1:a<4294967296^(ah a).length:=aE.1 (Nat.le_refl _)
 have h2:b<4294967296^(ah b).length:=aE.1 (Nat.le_refl _)
 exact Nat.mul_lt_mul'' h1 h2
theorem xX (j:Nat):(ah (4294967296^j)).length<=j+1:=by
 rw [aE]
 exact Nat.pow_lt_pow_right (by omega) (by omega)
end Go.eN
namespace Go.Proofs.Tryz
open Go.bw Go.eN
theorem Vj {V:View}{p:OA}{n c:Nat}{ds:List Nat}(h:RD V p n c ds){i:Int}{K:Int->Prop}(j d:Nat)(hj:i=j)(hn:ds[j]?=some d)
  (hK:K (d:Int)):(p.isSome=true)/\(0<=i/\i<(n:Int))/\∃x:Int,(∃a,ag p (i.toNat*1)=some a/\V.at a (.int .u32 x))/\K x:=by
 have hl:j<ds.length:=by
  rcases Nat.lt_or_ge j ds.length with h|h
  ·exact h
  ·rw [List.getElem?_eq_none h] at hn;cases hn
 refine h.rd j hj hl ?_
 rw [List.getElem?_eq_getElem hl] at hn
 cases hn;exact hK
theorem Fi {W n:Nat}(h:(ah W).length=n+1):∃top,(ah W)[n]?=some top/\top≠0/\top<4294967296/\top*4294967296^n<=W:=by
 refine ⟨(ah W)[n]'(by omega),List.getElem?_eq_getElem _,?_,(aD W).get _,CW h⟩
 have:=(ir W).last (by omega)
 simpa [h] using this
structure vV (A V L:Nat) (R:Nat) (j:Nat) (es:List Nat):Prop where
 len:es.length=L
 dY:bK es
 lt:R<V*4294967296^j
 eq:A=V*(4294967296^j*val (es.drop j))+R
theorem vV.step {A V L R j:Nat}{es:List Nat}(h:vV A V L R (j+1) es)(hj:j<L)(hV:0<V) :
  R / (V*4294967296^j)<4294967296/\vV A V L (R-V*(R / (V*4294967296^j))*4294967296^j) j (es.set j (R / (V*4294967296^j))):=by
 have hW:0<4294967296^j:=Nat.pow_pos (by omega)
 have Lt:0<V*4294967296^j:=Nat.mul_pos hV hW
 have hq:R / (V*4294967296^j)<4294967296:=by
  rw [Nat.div_lt_iff_lt_mul Lt]
  have:=h.lt
  rw [Nat.pow_succ] at this
  have e:4294967296*(V*4294967296^j)=V*(4294967296^j*4294967296):=by
   generalize 4294967296^j=w
   grind
  omega
 have hs:=CQ (R:=R) (V:=V) (W:=4294967296^j)
 have hm:=Nat.mod_lt R Lt
 have he:R-V*(R / (V*4294967296^j))*4294967296^j=R%(V*4294967296^j):=by omega
 refine ⟨hq,⟨by simpa using h.len,h.dY.set _ _ hq,by rw [he];exact hm,?_⟩⟩
 have hl:=h.len
 rw [List.drop_eq_getElem_cons (by simp;omega),List.getElem_set_self,List.drop_set_of_lt (by omega),aY,he]
 exact EU (by have:=h.eq;rwa [Nat.pow_succ] at this) hs
theorem Hx {R V j:Nat}(h:R<V*4294967296^(j+1)):(ah R).length<=(ah V).length+j+1:=by
 have h1:V*4294967296^(j+1)<=4294967296^(ah V).length*4294967296^(j+1):=Nat.mul_le_mul_right _ (Nat.le_of_lt (aE.1 (Nat.le_refl _)))
 rw [←Nat.pow_add] at h1
 have:=aE.2 (Nat.lt_of_lt_of_le h h1)
 omega
theorem IM {R n:Nat}(h:(ah R).length<=n+2):R / 4294967296^n<18446744073709551616:=by
 rw [Nat.div_lt_iff_lt_mul (Nat.pow_pos (by omega))]
 have:=aE.1 h
 rw [Nat.pow_succ,Nat.pow_succ] at this
 have e:4294967296^n*4294967296*4294967296=18446744073709551616*4294967296^n:=by
  generalize 4294967296^n=w
  omega
 omega
theorem B_ {V:View}{p q:OA}{n c m e:Nat}{x y:Nat}(hx:RN V p n c x)(hy:RN V q m e y)(hm:(ah x).length<=274877906944)(hy0:0<y)(hle:(ah y).length<=(ah x).length) :
  ab prog 173 #[.slice p n c,.slice q m e] V fun r V'=>∃p1 n1 c1 p2 n2 c2,r=.tuple #[.slice p1 n1 c1,.slice p2 n2 c2]/\RN V' p1 n1 c1 (x / y)/\RN V' p2 n2 c2 (x%y):=by
 have hlx:=hx.len
 have wX:=hy.len
 have hm0:0<m:=by
  rcases Nat.eq_zero_or_pos m with h|h
  ·have:=bh.1 (List.length_eq_zero_iff.1 (wX▸h));omega
  ·exact h
 have vc:=BD p n c q m e V
 have w1:i64.wrap ((m:Int)-1)=((m-1:Nat):Int):=by rw [ay (by omega)];omega
 have w2:i64.wrap ((n:Int)-m)=((n-m:Nat):Int):=by rw [ay (by omega)];omega
 have w3:i64.wrap (((n-m:Nat):Int)+1)=((n-m+1:Nat):Int):=by rw [ay (by omega)];omega
 have w4:i64.wrap (((n-m+1:Nat):Int)-1)=((n-m:Nat):Int):=by rw [ay (by omega)];omega
 simp only [w1,w2,w3,Int.toNat_natCast,w4,cC] at vc
 obtain ⟨L,hL⟩:∃L,L=n-m+1:=⟨_,rfl⟩
 rw [←hL] at vc
 refine vc _ ?_
 clear vc
 refine hy.rd (m-1) rfl (by omega) fun V1 l1=>(fE _ ((aD y).get (by omega))).mono ?_
 rintro r V2 l2 rfl
 have hbl:bD ((ah y)[m-1]'(by omega))<=32:=iJ.2 (by have:=(aD y).get (i:=m-1) (by omega);omega)
 obtain ⟨s,hs⟩:∃s:Nat,(32:Int)-(bD ((ah y)[m-1]'(by omega)):Int)=s:=⟨32-bD ((ah y)[m-1]'(by omega)),by omega⟩
 have IE:s<=32:=by omega
 rw [hs]
 clear hs hbl
 refine ⟨_,rfl,fun V3 l3=>(jY (hy.le (l1.trans (l2.trans l3))) (by omega) s (by omega)).mono ?_⟩
 rintro r V4 l4 ⟨vp,vn,vc,rfl,hv⟩
 rw [ae] at hv
 refine ⟨_,_,_,rfl,fun V5 l5=>(jY (hx.le (l1.trans (l2.trans (l3.trans (l4.trans l5))))) (by omega) s (by omega)).mono ?_⟩
 rintro r V6 l6 ⟨rp,rn,rc,rfl,hr⟩
 rw [ae] at hr
 replace hv:=hv.le (l5.trans l6)
 have hlv:=hv.len
 have hsp:=Nat.two_pow_pos s
 have hs2:2^s<=4294967296:=Nat.pow_le_pow_right (n:=2) (by omega) IE
 have JB:0<y*2^s:=Nat.mul_pos hy0 hsp
 have hsl:(ah (2^s)).length<=2:=aE.2 (by omega)
 have hvl:vn<=m+2:=by have:=gK (a:=y) (b:=2^s);omega
 have WA:0<vn:=by
  rcases Nat.eq_zero_or_pos vn with h|h
  ·have:=bh.1 (List.length_eq_zero_iff.1 (hlv▸h));omega
  ·exact h
 have hinit:vV (x*2^s) (y*2^s) L (x*2^s) L (List.replicate L 0):=by
  refine ⟨by simp,bK.rep _,?_,by simp⟩
  have h1:x<4294967296^n:=by rw [hlx];exact aE.1 (Nat.le_refl _)
  have h2:4294967296^(m-1)<=y:=by rw [←pV];omega
  have h3:4294967296^(m-1)*4294967296^L<=y*4294967296^L:=Nat.mul_le_mul_right _ h2
  rw [←Nat.pow_add,show m-1+L=n from by omega] at h3
  have h4:x*2^s<y*4294967296^L*2^s:=Nat.mul_lt_mul_of_pos_right (by omega) hsp
  have h5:y*4294967296^L*2^s=y*2^s*4294967296^L:=by
   generalize 4294967296^L=w
   grind
  omega
 have hend:∀{Q R:Nat},x*2^s=y*2^s*Q+R->R<y*2^s->Q=x / y/\R / 2^s=x%y:=fun h1 h2=>GO h1 h2
 generalize x*2^s=A at *
 generalize y*2^s=W at *
 have w5:i64.wrap ((vn:Int)-1)=((vn-1:Nat):Int):=by rw [ay (by omega)];omega
 simp only [w5,Int.toNat_natCast]
 refine ⟨_,_,_,rfl,?_⟩
 obtain ⟨top,UJ,Sx,Sy,MC⟩:=Fi (W:=W) (n:=vn-1) (by omega)
 refine Vj hv (vn-1) top rfl UJ ?_
 have w6:u64.wrap (top:Int)=top:=aL (by omega)
 simp only [w6]
 refine ⟨by omega,by omega,by omega,fun z V'=>∃R:Nat,RN V' z.1 z.2.1 z.2.2.1 R/\-1<=z.2.2.2.1/\z.2.2.2.1<L/\∃es:List Nat,z.2.2.2.2=aC es/\vV A W L R (z.2.2.2.1+1).toNat es,fun z=>(z.2.2.2.1+1).toNat,
  ⟨(rp,rn,rc,((n-m:Nat):Int),aC (List.replicate L 0)),by (try dsimp only);and_intros<;>first|exact True.intro|rfl,A,hr,by (try dsimp only);omega,by (try dsimp only);omega,_,rfl,?_⟩,?_⟩
 ·(try dsimp only)
  rw [show (((n-m:Nat):Int)+1).toNat=L from by omega]
  exact hinit
 rintro ⟨rp,rn,rc,j,vs⟩ V7 l7 ⟨R,hR,hj0,hj1,es,rfl,hI⟩
 dsimp only at hR hj0 hj1 hI ⊢
 have hlr:=hR.len
 refine ⟨by trivial,fun h3=>?_,fun h3=>?_⟩
 ·have h3:0<=j:=by simpa using h3
  obtain ⟨j,rfl⟩:=Int.eq_ofNat_of_zero_le h3
  have hI:vV A W L R (j+1) es:=hI
  have Uw:j<L:=by omega
  have hrl:=Hx hI.lt
  obtain ⟨hq,hI'⟩:=hI.step Uw JB
  have w7:i64.wrap ((vn:Int)+j)=((vn-1+j+1:Nat):Int):=by rw [ay (by omega)];omega
  have w8:i64.wrap (((vn-1+j+1:Nat):Int)-1)=((vn-1+j:Nat):Int):=by rw [ay (by omega)];omega
  have w9:i64.wrap ((32:Int)*j)=((32*j:Nat):Int):=by rw [ay (by omega)];omega
  have Ra:i64.wrap ((j:Int)-1)=(j:Int)-1:=ay (by omega)
  simp only [w7,w8,w9,Ra,Int.toNat_natCast]
  have hrl:(ah R).length<=vn-1+j+2:=by omega
  have hld:=IM hrl
  have hP:0<4294967296^(vn-1):=Nat.pow_pos (by omega)
  have hW:0<4294967296^j:=Nat.pow_pos (by omega)
  have hg:=Gg (R:=R) MC (by omega) hP hW
  rw [←Nat.pow_add] at hg
  have l2:=@M0 R (vn-1+j)
  have l1:=@JP R (vn-1+j)
  have l0:=@MZ R (vn-1+j)
  have hlast:∀i (hi:i<(ah R).length),(ah R)[i]<4294967296:=fun i hi=>(aD R).get hi
  generalize R / 4294967296^(vn-1+j)=lead at *
  refine ⟨fun z V'=>z=(lead:Int),⟨fun h4=>?_,fun h4=>?_⟩,?_⟩
  ·have h4:vn-1+j+1<rn:=by simp at h4;omega
   refine (hR.rd (vn-1+j+1) rfl (by omega) ⟨by omega,hR.rd (vn-1+j) rfl (by omega) ⟨(lead:Int),?_,rfl⟩⟩)
   have e4:bg .or .u64 (u64.wrap (u64.wrap (((ah R)[vn-1+j+1]'(by omega):Nat):Int)*2^32)) (u64.wrap (((ah R)[vn-1+j]'(by omega):Nat):Int))=(lead:Int):=by
    have e3:((2:Int)^32)=4294967296:=by decide
    have g1:=hlast (vn-1+j+1) (by omega)
    have g2:=hlast (vn-1+j) (by omega)
    have:=l2 (by omega)
    rw [e3,aL (x:=(((ah R)[vn-1+j+1]'(by omega):Nat):Int)) (by omega),aL (x:=(((ah R)[vn-1+j]'(by omega):Nat):Int)) (by omega),aL (by omega),AJ _ _ g1 g2,this]
    omega
   (try dsimp only);and_intros<;>first|exact True.intro|exact e4|rfl
  ·have h4:rn<=vn-1+j+1:=by simp at h4;omega
   refine ⟨fun z V'=>z=(lead:Int),⟨fun h5=>?_,fun h5=>?_⟩,?_⟩
   ·have h5:vn-1+j<rn:=by simp at h5;omega
    refine hR.rd (vn-1+j) rfl (by omega) ⟨(lead:Int),?_,rfl⟩
    have e4:u64.wrap (((ah R)[vn-1+j]'(by omega):Nat):Int)=(lead:Int):=by
     have g2:=hlast (vn-1+j) (by omega)
     rw [aL (by omega),l1 (by omega)]
    (try dsimp only);and_intros<;>first|exact True.intro|exact e4|rfl
   ·have h5:rn<=vn-1+j:=by simp at h5;omega
    have e4:(0:Int)=(lead:Int):=by rw [l0 (by omega)];rfl
    refine ⟨(lead:Int),?_,rfl⟩
    (try dsimp only);and_intros<;>first|exact True.intro|exact e4|rfl
   ·rintro _ V8 l8 rfl
    refine ⟨by trivial,(lead:Int),?_,rfl⟩
    (try dsimp only);and_intros<;>first|exact True.intro|rfl
  rintro _ V9 l9 rfl
  clear l2 l1 l0 hlast
  have Mc:(lead:Int).tdiv (top:Int)=((lead / top:Nat):Int):=by rw [Int.tdiv_eq_ediv_of_nonneg (by omega)];omega
  have hlt:lead / top<=lead:=Nat.div_le_self _ _
  rw [Mc]
  generalize lead / top=lt at *
  obtain ⟨g0,hg0,Kt,PI⟩:∃g0:Nat,bI (u64.wrap (lt:Int)) 4294967295=(g0:Int)/\g0<4294967296/\R / (W*4294967296^j)<=g0:=by
   rw [aL (by omega)]
   unfold bI
   split
   ·exact ⟨4294967295,rfl,by omega,by omega⟩
   ·exact ⟨lt,rfl,by omega,hg⟩
  rw [hg0]
  clear hg0 Mc hlt hg hld
  have Sn:0<W*4294967296^j:=Nat.mul_pos JB hW
  have hsz:∀g:Nat,g<4294967296->(ah g).length<=1:=fun g hg=>aE.2 (by omega)
  refine ⟨by trivial,by omega,fun jr l10=>(cX g0 (by omega)).mono ?_⟩
  rintro r jP bN ⟨gp,gn,gc,rfl,h11⟩
  refine ⟨_,_,_,rfl,fun nk cK=>(bY (hv.le (l7.trans (l9.trans (l10.trans (bN.trans cK))))) (h11.le cK) (by have:=hsz g0 Kt;omega)).mono ?_⟩
  rintro r qu c_ ⟨pp,pn,pc,rfl,Lp⟩
  rw [ae,ae] at Lp
  have hpl:=fun g=>gK (a:=W) (b:=g)
  refine ⟨_,_,_,rfl,fun nq eR=>(jY (Lp.le eR) (by have:=hsz g0 Kt;have:=hpl g0;omega) (32*j) (by omega)).mono ?_⟩
  rintro r ma dR ⟨tp,tn,tc,rfl,Lq⟩
  rw [ae,JS] at Lq
  have Mn:=hR.le (l9.trans (l10.trans (bN.trans (cK.trans (c_.trans (eR.trans dR))))))
  have PZ:=hv.le (l7.trans (l9.trans (l10.trans (bN.trans (cK.trans (c_.trans (eR.trans dR)))))))
  refine ⟨_,_,_,rfl,fun z V'=>∃g:Nat,z.1=g/\g<4294967296/\R / (W*4294967296^j)<=g/\RN V' z.2.1 z.2.2.1 z.2.2.2 (W*g*4294967296^j),fun z=>z.1.toNat,
   ⟨((g0:Int),tp,tn,tc),by (try dsimp only);and_intros<;>first|exact True.intro|rfl,g0,rfl,Kt,PI,Lq⟩,?_⟩
  rintro ⟨_,tp,tn,tc⟩ mb dS ⟨g,rfl,hgb,Uu,ht⟩
  dsimp only at ht ⊢
  have htl:(ah (W*g*4294967296^j)).length<=1099511627776:=by
   have h1:=gK (a:=W*g) (b:=4294967296^j)
   have h2:=xX j
   have h3:=hpl g
   have h4:=hsz g hgb
   omega
  refine ⟨by trivial,fun oF dk=>(gU (ht.le dk) (Mn.le (dS.trans dk)) htl (by omega)).mono ?_⟩
  rintro r pK ee rfl
  refine ⟨_,rfl,fun h6=>?_,fun h6=>?_⟩
  ·have h6:R<W*g*4294967296^j:=by
    have h6:0<jy (W*g*4294967296^j) R:=by simpa using h6
    unfold jy at h6
    split at h6
    ·omega
    ·split at h6
     ·assumption
     ·omega
   have hgo:=Gh Sn h6
   have hg1:0<g:=Nat.lt_of_le_of_lt (Nat.zero_le _) hgo
   have e1:u64.wrap ((g:Int)-1)=((g-1:Nat):Int):=by rw [aL (by omega)];omega
   simp only [e1]
   refine fun vY eF=>(cX (g-1) (by omega)).mono ?_
   rintro r zy jd ⟨gp,gn,gc,rfl,h20⟩
   refine ⟨_,_,_,rfl,fun xB gy=>(bY (PZ.le (dS.trans (dk.trans (ee.trans (eF.trans (jd.trans gy)))))) (h20.le gy) (by have:=hsz (g-1) (by omega);omega)).mono ?_⟩
   rintro r rF jo ⟨pp,pn,pc,rfl,h22⟩
   rw [ae,ae] at h22
   refine ⟨_,_,_,rfl,fun zt gF=>(jY (h22.le gF) (by have:=hsz (g-1) (by omega);have:=hpl (g-1);omega) (32*j) (by omega)).mono ?_⟩
   rintro r Ia BM ⟨tp,tn,tc,rfl,Se⟩
   rw [ae,JS] at Se
   refine ⟨_,_,_,rfl,(((g-1:Nat):Int),tp,tn,tc),?_,by (try dsimp only);and_intros<;>first|exact True.intro|rfl,g-1,rfl,by omega,by omega,Se⟩
   (try dsimp only);omega
  ·have h6:W*g*4294967296^j<=R:=by
    have h6:¬0<jy (W*g*4294967296^j) R:=by simpa using h6
    unfold jy at h6
    split at h6
    ·omega
    ·split at h6
     ·omega
     ·omega
   have hstop:=Cl Sn h6 Uu
   rw [←hstop] at hI'
   have hes:=hI.len
   refine ⟨⟨by omega,by omega⟩,by simp;omega,fun H3 oH=>(mD (Mn.le (dS.trans (dk.trans (ee.trans oH)))) (ht.le (dk.trans (ee.trans oH))) (by omega) (aG h6) (by rw [ae,ae];exact h6)).mono ?_⟩
   rintro r Jt vd ⟨np,nn,nc,rfl,Sf⟩
   rw [ae,ae] at Sf
   have e1:u32.wrap (g:Int)=(g:Int):=oh (by omega)
   have e2:(aC es).set (0+j*1) (.int .u32 (g:Int))=aC (es.set j g):=by rw [←bj];simp
   simp only [e1]
   refine ⟨_,_,_,rfl,(np,nn,nc,(j:Int)-1,aC (es.set j g)),?_,by (try dsimp only);and_intros<;>first|exact True.intro|rfl|exact e2|(rw [←bj];simp),R-W*g*4294967296^j,Sf,by (try dsimp only);omega,by (try dsimp only);omega,_,rfl,?_⟩
   ·(try dsimp only);omega
   ·(try dsimp only)
    rw [show ((j:Int)-1+1).toNat=j from by omega]
    exact hI'
 ·have h3:j=-1:=by simp at h3;omega
  subst h3
  have PW:(ah R).length<=1099511627776:=by
   have h6:=hI.lt
   have h6:R<W:=by simpa using h6
   have:=aG (Nat.le_of_lt h6)
   omega
  intro V8 l8 bk hb
  refine (cH (RD.br hb hI.dY (n:=L) (c:=L) hI.len.symm (Nat.le_refl _)) (by have:=hI.len;omega)).mono ?_
  rintro r V9 l9 ⟨k,rfl,h4⟩
  refine ⟨_,_,_,rfl,fun _ jr l10=>(zP (hR.le (l8.trans (l9.trans l10))) PW s (by omega)).mono ?_⟩
  rintro r jP bN ⟨p2,n2,c2,rfl,h5⟩
  rw [ae] at h5
  refine ⟨_,_,_,rfl,fun nk cK=>⟨_,_,_,_,_,_,rfl,?_,?_⟩⟩
  ·have h6:=hI.lt
   have h7:=hI.eq
   have h6:R<W:=by simpa using h6
   have h7:A=W*val es+R:=by simpa using h7
   obtain ⟨g1,g2⟩:=hend h7 h6
   rw [aM hI.dY,g1] at h4
   exact h4.le (l10.trans (bN.trans cK))
  ·have h6:=hI.lt
   have h7:=hI.eq
   have h6:R<W:=by simpa using h6
   have h7:A=W*val es+R:=by simpa using h7
   obtain ⟨g1,g2⟩:=hend h7 h6
   rw [g2] at h5
   exact h5.le cK
theorem oD {x:Nat}(h:(ah x).length<=2):x<18446744073709551616:=by
 have:=aE.1 h
 omega
theorem copied {V:View}{b n c:Nat}{ds:List Nat}{sp:List Value}{ty:TypeId}(hd:bK ds)(hn:n=ds.length)(hc:n<=c)(hb:V.br b (.cells (aC ds++sp).toArray ty (0,0))):RD V (some ⟨b,0,none⟩) n c ds:=by
 refine ⟨hn,hc,fun i v hv=>⟨_,rfl,?_⟩,hd,fun e=>nomatch e⟩
 rw [add_zero']
 refine fD hb ?_
 rw [List.getElem?_append_left]
 ·exact hv
 ·rcases Nat.lt_or_ge i (aC ds).length with e|e
  ·exact e
  ·rw [List.getElem?_eq_none e] at hv;cases hv
theorem dM {V:View}{p q:OA}{n c m e:Nat}{x y:Nat}(hx:RN V p n c x)(hy:RN V q m e y)(hm:(ah x).length<=274877906944)(hm':(ah y).length<=274877906944)(hy0:0<y) :
  ab prog 125 #[.slice p n c,.slice q m e] V fun r V'=>∃p1 n1 c1 p2 n2 c2,r=.tuple #[.slice p1 n1 c1,.slice p2 n2 c2]/\RN V' p1 n1 c1 (x / y)/\RN V' p2 n2 c2 (x%y):=by
 have hlx:=hx.len
 have wX:=hy.len
 have hm0:0<m:=by
  rcases Nat.eq_zero_or_pos m with h|h
  ·have:=bh.1 (List.length_eq_zero_iff.1 (wX▸h));omega
  ·exact h
 refine vK p n c q m e V _ fun V1 l1=>(j7 (hx.le l1) (by omega)).mono ?_
 rintro r V2 l2 rfl
 rw [ae]
 refine ⟨_,_,rfl,fun z V'=>True,⟨fun h0=>?_,fun h0=>⟨(),by (try dsimp only);and_intros<;>first|exact True.intro|rfl,trivial⟩⟩,?_⟩
 ·have h0:n<=2:=by simpa using h0
  refine fun V3 l3=>(j7 (hy.le (l1.trans (l2.trans l3))) (by omega)).mono ?_
  rintro r V4 l4 rfl
  rw [ae]
  refine ⟨_,_,rfl,fun h1=>?_,fun h1=>⟨(),by (try dsimp only);and_intros<;>first|exact True.intro|rfl,trivial⟩⟩
  have h1:m<=2:=by simpa using h1
  have hxw:=oD (x:=x) (by omega)
  have SC:=oD (x:=y) (by omega)
  rw [if_pos h0,if_pos h1]
  have hq:x / y<=x:=Nat.div_le_self _ _
  have hr:x%y<y:=Nat.mod_lt _ hy0
  have e1:((x:Nat):Int).tdiv (y:Int)=((x / y:Nat):Int):=by rw [Int.tdiv_eq_ediv_of_nonneg (by omega)];omega
  have e2:((x:Nat):Int).tmod (y:Int)=((x%y:Nat):Int):=by rw [Int.tmod_eq_emod_of_nonneg (by omega)];omega
  rw [e1,e2]
  generalize x / y=qq at *
  generalize x%y=rr at *
  have e3:u64.wrap (qq:Int)=qq:=aL (by omega)
  rw [e3]
  refine ⟨by omega,by omega,fun V5 l5=>(cX qq (by omega)).mono ?_⟩
  rintro r V6 l6 ⟨p1,n1,c1,rfl,g1⟩
  refine ⟨_,_,_,rfl,fun V7 l7=>(cX rr (by omega)).mono ?_⟩
  rintro r V8 l8 ⟨p2,n2,c2,rfl,g2⟩
  exact ⟨_,_,_,rfl,fun V9 l9=>⟨_,_,_,_,_,_,rfl,g1.le (l7.trans (l8.trans l9)),g2.le l9⟩⟩
 rintro _ jr l10 _
 replace hx:=hx.le (l1.trans (l2.trans l10))
 replace hy:=hy.le (l1.trans (l2.trans l10))
 refine ⟨by trivial,fun jP bN=>(gU (hx.le bN) (hy.le bN) (by omega) (by omega)).mono ?_⟩
 rintro r nk cK rfl
 replace hx:=hx.le (bN.trans cK)
 replace hy:=hy.le (bN.trans cK)
 refine ⟨_,rfl,fun h0=>⟨aC (ah x),hx.sl,by simp [hlx],by omega,by omega,by simp,by simp [hlx],?_,?_⟩,fun h0=>⟨fun h1=>?_,fun h1=>?_⟩⟩
 ·intro v hv
  simp only [aC,List.mem_map] at hv
  obtain ⟨d,-,rfl⟩:=hv
  rfl
 ·have h0:x<y:=by simpa [fj] using h0
  intro bk J sp c' h1 h2 V1 l1 b hb
  rw [Nat.div_eq_of_lt h0,Nat.mod_eq_of_lt h0]
  refine ⟨_,_,_,_,_,_,rfl,RD.nil,?_⟩
  simp only [Nat.zero_add,Nat.zero_mul,List.take_zero,List.nil_append] at hb h1 ⊢
  exact copied (aD x) hlx h1 hb
 ·have h0:y<=x:=by simpa [←Int.not_lt,fj] using h0
  have h1:m=1:=by simp at h1;omega
  subst h1
  obtain ⟨d,hd⟩:=kc (ds:=ah y) (by omega)
  have hdy:d=y:=by have:=ae y;rw [hd] at this;simpa using this
  subst hdy
  have hdl:d<4294967296:=by have:=aD d;rw [hd] at this;exact (bK.cons.1 this).1
  try unfold RN at hy
  rw [hd] at hy
  have hn0:0<n:=by have:=aG h0;omega
  have w1:i64.wrap ((n:Int)-1)=(n:Int)-1:=ay (by omega)
  simp only [w1,Int.toNat_natCast,cC]
  have wV:=aD x
  have MI:=ae x
  try unfold RN at hx
  clear hd
  rw [←MI]
  clear MI h0
  generalize ah x=xs at *
  refine ⟨by omega,by omega,by omega,fun z V'=>0<=z.1/\z.1<d/\-1<=z.2.1/\z.2.1<n/\∃es:List Nat,z.2.2=aC es/\es.length=n/\bK es /\
   val (xs.drop (z.2.1+1).toNat)=d*val (es.drop (z.2.1+1).toNat)+z.1.toNat,fun z=>(z.2.1+1).toNat,
   ⟨(0,(n:Int)-1,aC (List.replicate n 0)),by (try dsimp only);and_intros<;>first|exact True.intro|rfl,by (try dsimp only);omega,by (try dsimp only);omega,by (try dsimp only);omega,by (try dsimp only);omega,_,rfl,by simp,bK.rep _,?_⟩,?_⟩
  ·(try dsimp only)
   rw [List.drop_of_length_le (by omega),List.drop_of_length_le (by simp)];rfl
  rintro ⟨rest,i,vs⟩ nq eR ⟨hr0,hr1,hi0,hi1,es,rfl,hes,hde,hv⟩
  dsimp only at hr0 hr1 hi0 hi1 hv ⊢
  obtain ⟨rest,rfl⟩:=Int.eq_ofNat_of_zero_le hr0
  refine ⟨by trivial,fun h3=>?_,fun h3=>?_⟩
  ·have h3:0<=i:=by simpa using h3
   obtain ⟨i,rfl⟩:=Int.eq_ofNat_of_zero_le h3
   have hi2:((i:Int)+1).toNat=i+1:=by omega
   rw [hi2] at hv
   simp only [Int.toNat_natCast] at hv ⊢
   have PG:=wV.get (i:=i) (by omega)
   refine (hx.le eR).rd i rfl (by omega) (AQ (hy.le eR) (by simp) fun ma dR=>(Ig rest xs[i] d (by omega) PG hdl).mono ?_)
   rintro r mb dS rfl
   have hq:(rest*4294967296+xs[i]) / d<4294967296:=by
    rw [Nat.div_lt_iff_lt_mul (by omega)]
    have:rest+1<=d:=by omega
    have:=Nat.mul_le_mul_right 4294967296 this
    rw [Nat.mul_comm 4294967296 d]
    omega
   have hr:(rest*4294967296+xs[i])%d<d:=Nat.mod_lt _ (by omega)
   have Fx:=Nat.div_add_mod (rest*4294967296+xs[i]) d
   generalize (rest*4294967296+xs[i]) / d=q at *
   generalize (rest*4294967296+xs[i])%d=r at *
   have w2:i64.wrap ((i:Int)-1)=(i:Int)-1:=ay (by omega)
   simp only [w2]
   refine ⟨_,_,rfl,⟨by omega,by omega⟩,by simp;omega,((r:Int),(i:Int)-1,aC (es.set i q)),?_,?_,?_⟩
   ·(try dsimp only);omega
   ·(try dsimp only);and_intros<;>first|exact True.intro|rfl|(rw [←bj];simp)
   ·(try dsimp only)
    refine ⟨by omega,by omega,by omega,by omega,_,rfl,by simpa using hes,hde.set _ _ (by omega),?_⟩
    have hi3:((i:Int)-1+1).toNat=i:=by omega
    rw [hi3,List.drop_eq_getElem_cons (by omega),List.drop_eq_getElem_cons (l:=es.set i q) (by simp;omega),List.getElem_set_self,List.drop_set_of_lt (by omega)]
    have h9:xs[i]+4294967296*val (List.drop (i+1) xs)=d*(q+4294967296*val (List.drop (i+1) es))+r:=tN hv Fx
    rw [aY,aY,Int.toNat_natCast]
    exact h9
  ·have h3:i=-1:=by simp at h3;omega
   subst h3
   simp only [Int.toNat_natCast] at hv
   have hv:val xs=d*val es+rest:=by simpa using hv
   intro oF dk bk hb
   refine (cH (RD.br hb hde (n:=n) (c:=n) (by omega) (Nat.le_refl _)) (by omega)).mono ?_
   rintro r pK ee ⟨k,rfl,h4⟩
   refine ⟨_,_,_,rfl,fun _ vY eF bk2 hb2=>?_⟩
   have hb2:vY.br bk2 (.cells (aC [rest]).toArray 188 (0,0)):=by
    simpa [aC] using hb2
   refine (cH (RD.br hb2 (n:=1) (c:=1) (by simp [bK];omega) rfl (Nat.le_refl _)) (by simp)).mono ?_
   rintro r zy jd ⟨k2,rfl,h5⟩
   refine ⟨_,_,_,rfl,fun _ xB gy=>⟨_,_,_,_,_,_,rfl,?_,?_⟩⟩
   ·have e1:val xs / d=val es:=by rw [hv,Nat.mul_add_div (by omega),Nat.div_eq_of_lt (by omega),Nat.add_zero]
    rw [aM hde] at h4
    rw [e1]
    exact h4.le (eF.trans (jd.trans gy))
   ·have e2:val xs%d=rest:=by rw [hv,Nat.mul_add_mod,Nat.mod_eq_of_lt (by omega)]
    rw [aM (by simp [bK];omega)] at h5
    have e3:val [rest]=rest:=by simp
    rw [e3] at h5
    rw [e2]
    exact h5.le gy
 ·have h0:y<=x:=by simpa [←Int.not_lt,fj] using h0
  refine fun qu c_=>(B_ (hx.le c_) (hy.le c_) hm hy0 (aG h0)).mono ?_
  rintro r nq eR ⟨p1,n1,c1,p2,n2,c2,rfl,g1,g2⟩
  exact ⟨_,_,_,_,_,_,rfl,fun ma dR=>⟨_,_,_,_,_,_,rfl,g1.le dR,g2.le dR⟩⟩
theorem jX {V:View}{p q:OA}{n c m e:Nat}{x y:Nat}(hx:RN V p n c x)(hy:RN V q m e y)(hm:(ah x).length<=274877906944)(hm':(ah y).length<=274877906944) :
  ab prog 124 #[.slice p n c,.slice q m e] V fun r V'=>∃p1 n1 c1,r=.slice p1 n1 c1/\RN V' p1 n1 c1 (Nat.gcd x y):=by
 have hlx:=hx.len
 have wX:=hy.len
 refine vJ p n c q m e V _ fun V1 l1=>(j7 (hx.le l1) (by omega)).mono ?_
 rintro r V2 l2 rfl
 rw [ae]
 refine ⟨_,_,rfl,fun z V'=>True,⟨fun h0=>?_,fun h0=>⟨(),by (try dsimp only);and_intros<;>first|exact True.intro|rfl,trivial⟩⟩,?_⟩
 ·have h0:n<=2:=by simpa using h0
  refine fun V3 l3=>(j7 (hy.le (l1.trans (l2.trans l3))) (by omega)).mono ?_
  rintro r V4 l4 rfl
  rw [ae]
  refine ⟨_,_,rfl,fun h1=>?_,fun h1=>⟨(),by (try dsimp only);and_intros<;>first|exact True.intro|rfl,trivial⟩⟩
  have h1:m<=2:=by simpa using h1
  have hxw:=oD (x:=x) (by omega)
  have SC:=oD (x:=y) (by omega)
  rw [if_pos h0,if_pos h1]
  refine ⟨fun z V'=>∃a b:Nat,z=((a:Int),(b:Int))/\a<18446744073709551616/\b<18446744073709551616/\Nat.gcd a b=Nat.gcd x y,fun z=>z.2.toNat,
   ⟨((x:Int),(y:Int)),by (try dsimp only);and_intros<;>first|exact True.intro|rfl,x,y,rfl,hxw,SC,rfl⟩,?_⟩
  rintro _ V5 l5 ⟨a,b,rfl,ha,hb,hg⟩
  dsimp only
  refine ⟨by trivial,fun h3=>?_,fun h3=>?_⟩
  ·have h3:0<b:=by simpa using h3
   have e2:(a:Int).tmod (b:Int)=((a%b:Nat):Int):=by rw [Int.tmod_eq_emod_of_nonneg (by omega)];omega
   have hr:a%b<b:=Nat.mod_lt _ h3
   refine ⟨by omega,((b:Int),((a%b:Nat):Int)),?_,by (try dsimp only);and_intros<;>first|exact True.intro|rfl|exact e2,b,a%b,rfl,hb,by omega,?_⟩
   ·(try dsimp only);simp only [Int.toNat_natCast];exact hr
   ·rw [←hg,Nat.gcd_comm a b,Nat.gcd_rec b a,Nat.gcd_comm]
  ·have h3:b=0:=by simp at h3;omega
   subst h3
   rw [Nat.gcd_zero_right] at hg
   refine fun V6 l6=>(cX a ha).mono ?_
   rintro r V7 l7 ⟨p1,n1,c1,rfl,g1⟩
   rw [hg] at g1
   exact ⟨_,_,_,rfl,fun V8 l8=>⟨_,_,_,rfl,g1.le l8⟩⟩
 rintro _ V9 l9 _
 replace hx:=hx.le (l1.trans (l2.trans l9))
 replace hy:=hy.le (l1.trans (l2.trans l9))
 refine ⟨by trivial,fun z k V'=>∃a b:Nat,RN V' z.1 z.2.1 z.2.2.1 a/\RN V' z.2.2.2.1 z.2.2.2.2.1 z.2.2.2.2.2 b/\b=k/\(ah a).length<=274877906944/\(ah b).length<=274877906944/\Nat.gcd a b=Nat.gcd x y,
  ⟨(p,n,c,q,m,e),y,by (try dsimp only);and_intros<;>first|exact True.intro|rfl,x,y,hx,hy,rfl,hm,hm',rfl⟩,?_⟩
 rintro ⟨ap,an,ac,bp,bn,bc⟩ _ jr l10 ⟨a,b,ha,hb,rfl,hal,hbl,hg⟩
 dsimp only at ha hb ⊢
 have hla:=ha.len
 have hlb:=hb.len
 refine ⟨by trivial,fun h3=>?_,fun h3=>?_⟩
 ·have h3:0<bn:=by simpa using h3
  have hb0:0<b:=by
   rcases Nat.eq_zero_or_pos b with h|h
   ·subst h;simp at hlb;omega
   ·exact h
  refine fun jP bN=>(dM (ha.le bN) (hb.le bN) hal hbl hb0).mono ?_
  rintro r nk cK ⟨p1,n1,c1,p2,n2,c2,rfl,g1,g2⟩
  have hr:a%b<b:=Nat.mod_lt _ hb0
  have hrl:=aG (Nat.le_of_lt hr)
  refine ⟨_,_,_,_,_,_,rfl,(bp,bn,bc,p2,n2,c2),a%b,hr,by (try dsimp only);and_intros<;>first|exact True.intro|rfl,b,a%b,hb.le (bN.trans cK),g2,rfl,hbl,by omega,?_⟩
  rw [←hg,Nat.gcd_comm a b,Nat.gcd_rec b a,Nat.gcd_comm]
 ·have h3:bn=0:=by simp at h3;omega
  have hb0:b=0:=bh.1 (List.length_eq_zero_iff.1 (by omega))
  subst hb0
  rw [Nat.gcd_zero_right] at hg
  rw [←hg]
  refine ⟨aC (ah a),ha.sl,by simp [hla],by omega,by omega,by simp,by simp [hla],?_,?_⟩
  ·intro v hv
   simp only [aC,List.mem_map] at hv
   obtain ⟨d,-,rfl⟩:=hv
   rfl
  ·intro bk J sp c' h1 h2 V1 l1 b hb
   refine ⟨_,_,_,rfl,?_⟩
   simp only [Nat.zero_add,Nat.zero_mul,List.take_zero,List.nil_append] at hb h1 ⊢
   exact copied (aD a) hla h1 hb
end Go.Proofs.Tryz
namespace Go.eN
def aS (b:Bool)(ds:List Nat):Int:=if b then -(val ds:Int) else val ds
end Go.eN
namespace Go.bw
open Go.eN
def RI (V:View)(v:Value)(z:Int):Prop:=∃p n c,v=.agg #[.bool (decide (z<0)),.slice p n c]/\RD V p n c (ah z.natAbs)
theorem RI.le {V V':View}{v:Value}{z:Int}(h:RI V v z)(l:V.Le V'):RI V' v z:=by
 obtain ⟨p,n,c,e,h⟩:=h;exact ⟨p,n,c,e,h.le l⟩
theorem RI.mk {V:View}{b:Bool}{p:OA}{n c:Nat}{z:Int}(hb:b=decide (z<0))(h:RD V p n c (ah z.natAbs)):RI V (.agg #[.bool b,.slice p n c]) z:=⟨p,n,c,by rw [hb],h⟩
theorem RI.zero {V:View}:RI V (.agg #[.bool false,.slice none 0 0]) 0:=⟨_,_,_,rfl,RD.nil⟩
end Go.bw
namespace Go.Proofs.Tryz
open Go.bw Go.eN
theorem jt {n:Nat}:bD n=0↔n=0:=by
 unfold bD;split<;>simp_all
theorem dC (b:Bool)(ds:List Nat):(aS b ds).natAbs=val ds:=by unfold aS;cases b<;>simp
theorem As (b:Bool)(ds:List Nat):aS b ds<0↔b=true/\val ds≠0:=by
 unfold aS;cases b
 ·simp
 ·simp;omega
theorem aF (z:Int):aS (decide (z<0)) (ah z.natAbs)=z:=by
 unfold aS;rw [ae]
 by_cases h:z<0
 ·rw [decide_eq_true h,if_pos rfl];omega
 ·rw [decide_eq_false h,if_neg (by decide)];omega
theorem Gu (b:Bool)(ds:List Nat):aS (!b) ds=-aS b ds:=by unfold aS;cases b<;>simp
theorem mI (ds:List Nat):aS false ds=val ds:=rfl
theorem fp {x n:Nat}(h:n=(ah x).length):0<n↔x≠0:=by
 rw [h]
 constructor
 ·intro h1 h2;subst h2;simp at h1
 ·intro h1
  rcases Nat.eq_zero_or_pos (ah x).length with e|e
  ·exact absurd (bh.1 (List.length_eq_zero_iff.1 e)) h1
  ·exact e
theorem jw {V:View}(b:Bool){p:OA}{n c x:Nat}(h:RN V p n c x) :
  ab prog 227 #[.bool b,.slice p n c] V fun r V'=>RI V' r (if b then -(x:Int) else x):=by
 have hp:=fp h.len
 refine oB b p n c V _ ⟨fun h0 V1 l1=>?_,fun h0 V1 l1=>?_⟩
 ·rw [if_pos h0]
  refine RI.mk ?_ ?_
  ·rw [Bool.eq_iff_iff,decide_eq_true_eq,decide_eq_true_eq]
   omega
  ·rw [Int.natAbs_neg,Int.natAbs_natCast];exact h.le l1
 ·rw [h0,if_neg (by decide)]
  refine RI.mk ?_ ?_
  ·symm;rw [decide_eq_false_iff_not];omega
  ·rw [Int.natAbs_natCast];exact h.le l1
theorem hZ {V:View}(b:Bool){p:OA}{n c:Nat}{ds:List Nat}(h:RD V p n c ds)(hm:ds.length<=1099511627776) :
  ab prog 186 #[.agg #[.bool b,.slice p n c]] V fun r V'=>RI V' r (aS b ds):=by
 refine qP b p n c V _ fun V1 l1=>(ia (h.le l1) hm).mono ?_
 rintro r V2 l2 ⟨p1,n1,c1,rfl,h1⟩
 have hp:=fp h1.len
 have hn:=As b ds
 refine ⟨_,_,_,rfl,fun h0 V3 l3=>RI.mk ?_ ?_,fun h0 V3 l3=>RI.mk ?_ ?_⟩
 ·rw [Bool.eq_iff_iff,decide_eq_true_eq,decide_eq_true_eq,hn]
  simp [h0];omega
 ·rw [dC];exact h1.le l3
 ·symm;rw [decide_eq_false_iff_not,hn];simp [h0]
 ·rw [dC];exact h1.le l3
def kx (b:Bool)(ds:List Nat):Bool:=decide (ah (val ds)=ds)&&(!b||decide (ds≠[]))
theorem fG {V:View}(b:Bool){p:OA}{n c:Nat}{ds:List Nat}(h:RD V p n c ds)(hm:ds.length<=1099511627776) :
  ab prog 174 #[.agg #[.bool b,.slice p n c]] V fun r V'=>r=.bool (kx b ds):=by
 refine oA b p n c V _ fun V1 l1=>(xP (h.le l1) hm).mono ?_
 rintro r V2 l2 rfl
 refine ⟨_,rfl,fun h0=>⟨fun h1 V3 l3=>?_,fun h1 V3 l3=>?_⟩,fun h0 V3 l3=>?_⟩
 ·simp [kx,h0];simp at h1;simp [h1]
 ·have hl:=h.len
  simp [kx,h0];simp at h1;simp [h1]
  rw [Bool.eq_iff_iff,decide_eq_true_eq]
  simp
  constructor
  ·intro h2 h3;subst h3;simp at hl;omega
  ·intro h2
   rcases Nat.eq_zero_or_pos ds.length with e|e
   ·exact absurd (List.length_eq_zero_iff.1 e) h2
   ·omega
 ·simp [kx,h0]
theorem iM {V:View}(n:Int)(h0:-9223372036854775808<=n)(h1:n<=9223372036854775807) :
  ab prog 187 #[.int .i64 n] V fun r V'=>RI V' r n:=by
 refine mZ n V _ ⟨fun h2 V1 l1=>?_,fun h2 V1 l1=>?_⟩
 ·have h2:n<0:=by simpa using h2
  have e:u64.wrap (0-u64.wrap n)=-n:=by rw [pA,pA];omega
  rw [e]
  refine (dz _ (by omega) (by omega)).mono ?_
  rintro r V2 l2 ⟨p1,n1,c1,rfl,g1⟩
  refine ⟨_,_,_,rfl,fun V3 l3=>⟨_,_,_,rfl,?_⟩⟩
  rw [show n.natAbs=(-n).toNat from by omega];exact g1.le l3
 ·have h2:0<=n:=by simpa using h2
  rw [aL (by omega)]
  refine (dz _ (by omega) (by omega)).mono ?_
  rintro r V2 l2 ⟨p1,n1,c1,rfl,g1⟩
  refine ⟨_,_,_,rfl,fun V3 l3=>⟨_,_,_,rfl,?_⟩⟩
  rw [show n.natAbs=n.toNat from by omega];exact g1.le l3
theorem kI {V:View}(b:Bool){p:OA}{n c:Nat}{ds:List Nat}(h:RD V p n c ds)(hm:ds.length<=1099511627776) :
  ab prog 185 #[.agg #[.bool b,.slice p n c]] V fun r V'=>r=.int .i64 (aS b ds).sign:=by
 refine qQ b p n c V _ fun V1 l1=>(h_ (h.le l1) hm).mono ?_
 rintro r V2 l2 rfl
 have hz:(aS b ds)=0↔val ds=0:=by rw [←dC b ds];omega
 have hn:=As b ds
 refine ⟨_,rfl,fun h0 V3 l3=>?_,fun h0=>⟨fun h1 V3 l3=>?_,fun h1 V3 l3=>?_⟩⟩
 ·have:val ds=0:=jt.1 (by simp at h0;omega)
  rw [hz.2 this];rfl
 ·have:val ds≠0:=fun e=>by simp [jt.2 e] at h0
  rw [Int.sign_eq_neg_one_of_neg (hn.2 ⟨h1,this⟩)]
 ·have:val ds≠0:=fun e=>by simp [jt.2 e] at h0
  have:0<aS b ds:=by
   have:=hz
   have:¬aS b ds<0:=by rw [hn];simp [h1]
   omega
  rw [Int.sign_eq_one_of_pos this]
theorem uN {V:View}(b:Bool){p:OA}{n c:Nat}{ds:List Nat}(h:RD V p n c ds)(hm:ds.length<=1099511627776) :
  ab prog 193 #[.agg #[.bool b,.slice p n c]] V fun r V'=>RI V' r (-aS b ds):=by
 refine uj b p n c V _ fun V1 l1=>(hZ (!b) (h.le l1) hm).mono ?_
 rintro r V2 l2 ⟨p1,n1,c1,rfl,h1⟩
 rw [Gu] at h1 ⊢
 exact ⟨_,_,_,_,rfl,fun V3 l3=>⟨_,_,_,rfl,h1.le l3⟩⟩
theorem fO {V:View}(b1 b2:Bool){p q:OA}{n c m e:Nat}{xa xb:List Nat}(ha:RD V p n c xa)(hb:RD V q m e xb)(hm:xa.length+xb.length<=1099511627776) :
  ab prog 214 #[.agg #[.bool b1,.slice p n c],.agg #[.bool b2,.slice q m e]] V fun r V'=>RI V' r (aS b1 xa*aS b2 xb):=by
 refine ui b1 p n c b2 q m e V _ fun V1 l1=>(fH (ha.le l1) (hb.le l1) hm).mono ?_
 rintro r V2 l2 ⟨p1,n1,c1,rfl,h1⟩
 refine ⟨_,_,_,rfl,fun V3 l3=>(jw _ (h1.le l3)).mono ?_⟩
 rintro r V4 l4 ⟨p2,n2,c2,rfl,h2⟩
 have e1:(if (!(b1==b2))=true then -((val xa*val xb:Nat):Int) else ((val xa*val xb:Nat):Int))=aS b1 xa*aS b2 xb:=by
  unfold aS;cases b1<;>cases b2<;>simp [Int.neg_mul,Int.mul_neg]
 rw [e1] at h2 ⊢
 exact ⟨_,_,_,_,rfl,fun V5 l5=>⟨_,_,_,rfl,h2.le l5⟩⟩
theorem uM {V:View}(b1 b2:Bool){p q:OA}{n c m e:Nat}{xa xb:List Nat}(ha:RD V p n c xa)(hb:RD V q m e xb)(hm:xa.length<=1099511627776)(hn:xb.length<=1099511627776) :
  ab prog 213 #[.agg #[.bool b1,.slice p n c],.agg #[.bool b2,.slice q m e]] V fun r V'=>RI V' r (aS b1 xa+aS b2 xb):=by
 have fin:∀{b:Bool} {x:Nat} {V1:View} {p1:OA} {n1 c1:Nat},RN V1 p1 n1 c1 x->(if b then -(x:Int) else x)=aS b1 xa+aS b2 xb ->
   ab prog 227 #[.bool b,.slice p1 n1 c1] V1 fun r V'=>∃(FK:Bool)(Hc:OA)(GX FQ:Nat),r=.agg #[.bool FK,.slice Hc GX FQ]/\∀V3:View,V'.Le V3->RI V3 (.agg #[.bool FK,.slice Hc GX FQ]) (aS b1 xa+aS b2 xb):=by
  intro b x V1 p1 n1 c1 h he
  refine (jw b h).mono ?_
  rintro r V4 l4 ⟨p2,n2,c2,rfl,h2⟩
  rw [he] at h2 ⊢
  exact ⟨_,_,_,_,rfl,fun V5 l5=>⟨_,_,_,rfl,h2.le l5⟩⟩
 refine uh b1 p n c b2 q m e V _ ⟨fun h0 V1 l1=>(Ep (ha.le l1) (hb.le l1) hm hn).mono ?_,fun h0 V1 l1=>(wE (ha.le l1) (hb.le l1) hm hn).mono ?_⟩
 ·rintro r V2 l2 ⟨p1,n1,c1,rfl,h1⟩
  have h0:b1=b2:=by simpa using h0
  subst h0
  exact ⟨_,_,_,rfl,fun V3 l3=>fin (h1.le l3) (by unfold aS;cases b1<;>simp;omega)⟩
 ·rintro r V2 l2 ⟨p1,n1,c1,rfl,h1⟩
  have h0:b2=!b1:=by cases b1<;>cases b2<;>simp_all
  subst h0
  refine ⟨_,_,_,_,rfl,fun h2 V3 l3=>fin (h1.le l3) ?_,fun h2 V3 l3=>(wE (hb.le (l1.trans (l2.trans l3))) (ha.le (l1.trans (l2.trans l3))) hn hm).mono ?_⟩
  ·have h2:val xb<=val xa:=by simpa using h2
   unfold aS;cases b1<;>simp<;>omega
  ·rintro r V4 l4 ⟨p2,n2,c2,rfl,h3⟩
   have h2:val xa<val xb:=by simpa using h2
   exact ⟨_,_,_,_,rfl,fun V5 l5=>fin (h3.le l5) (by unfold aS;cases b1<;>simp<;>omega)⟩
theorem qv {V:View}(b:Bool){p:OA}{n c:Nat}{ds:List Nat}(h:RD V p n c ds)(hm:ds.length<=1099511627776)(hs:val ds<4611686018427387904) :
  ab prog 220 #[.agg #[.bool b,.slice p n c]] V fun r V'=>r=.tuple #[.int .i64 (aS b ds),.bool true]:=by
 refine pG b p n c V _ fun V1 l1=>(jW (h.le l1) hm).mono ?_
 rintro r V2 l2 rfl
 rw [if_pos (by omega),decide_eq_true (show val ds<18446744073709551616 by omega)]
 refine ⟨_,_,rfl,fun _=>⟨fun h1=>⟨fun h2 V3 l3=>?_,fun h2=>?_⟩,fun h1=>⟨fun _=>⟨fun h2=>⟨fun h3 V4 l4=>?_,fun h3=>?_⟩,fun h2=>?_⟩,fun h2=>nomatch h2⟩⟩,fun h1=>nomatch h1⟩
 ·subst h1
  have e:i64.wrap (u64.wrap (0-(val ds:Int)))=-(val ds:Int):=by
   rw [pA,IntKind.wrap_i64];omega
  rw [e];rfl
 ·simp at h2;omega
 ·subst h1
  rw [ay (by omega)];rfl
 ·simp at h3;omega
 ·simp [h1] at h2
end Go.Proofs.Tryz
namespace Go.bw
open Go.eN
def Wd (q:Rat):Prop:=q.num.natAbs<4611686018427387904/\q.den<4611686018427387904
def RR (V:View)(v:Value)(q:Rat):Prop:=
 (v=.agg #[.int .i64 q.num,.int .i64 ((q.den:Int)-1),.pointer none]/\Wd q) \/
 (∃a b p n c p' n' c',v=.agg #[.int .i64 0,.int .i64 0,.pointer (some a)]/\V.at (a.add 0) (.bool b)/\V.at (a.add 1) (.slice p n c)/\V.at (a.add 2) (.slice p' n' c') /\
  RI V (.agg #[.bool b,.slice p n c]) q.num/\RD V p' n' c' (ah q.den)/\¬Wd q)
theorem RR.le {V V':View}{v:Value}{q:Rat}(h:RR V v q)(l:V.Le V'):RR V' v q:=by
 rcases h with h|⟨a,b,p,n,c,p',n',c',e,h1,h2,h3,h4,h5,h6⟩
 ·exact .inl h
 ·exact .inr ⟨a,b,p,n,c,p',n',c',e,l.at h1,l.at h2,l.at h3,h4.le l,h5.le l,h6⟩
def Sz (k:Nat)(q:Rat):Prop:=q.num.natAbs<2^k/\q.den<2^k
theorem Sz.mono {k m:Nat}{q:Rat}(h:Sz k q)(hm:k<=m):Sz m q:=
 ⟨Nat.lt_of_lt_of_le h.1 (Nat.pow_le_pow_right (by omega) hm),Nat.lt_of_lt_of_le h.2 (Nat.pow_le_pow_right (by omega) hm)⟩
theorem af {n k:Nat}(h:n<2^k):(ah n).length<=k:=by
 rw [aE]
 exact Nat.lt_of_lt_of_le h (Nat.pow_le_pow_left (by omega) k)
theorem Wd.sz {q:Rat}(h:Wd q):Sz 62 q:=h
theorem RR.shape {V:View}{v:Value}{q:Rat}(h:RR V v q):∃(n d:Int)(p:OA),v=.agg #[.int .i64 n,.int .i64 d,.pointer p]:=by
 rcases h with ⟨e,-⟩|⟨a,b,p,n,c,p',n',c',e,-⟩
 ·exact ⟨_,_,_,e⟩
 ·exact ⟨_,_,_,e⟩
end Go.bw
namespace Go.Proofs.Tryz
open Go.bw Go.eN
theorem xJ (n:Nat):decide ((bD n:Int)<=62)=decide (n<4611686018427387904):=by
 have:=@iJ n 62
 rw [Bool.eq_iff_iff,decide_eq_true_eq,decide_eq_true_eq]
 omega
theorem EY {z:Int}{d:Nat}(hd:d≠0)(hg:Nat.gcd z.natAbs d=1):(mkRat z d).num=z/\(mkRat z d).den=d:=by
 have:Nat.gcd d z.natAbs=1:=by rw [Nat.gcd_comm];exact hg
 rw [Rat.num_mkRat,Rat.den_mkRat,if_neg hd,if_neg hd,this]
 simp
theorem bX {V:View}(b:Bool){p q:OA}{n c m e:Nat}{xs ys:List Nat}(hx:RD V p n c xs)(hy:RD V q m e ys)(hm:xs.length<=1099511627776)(hn:ys.length<=1099511627776) :
  ab prog 190 #[.agg #[.bool b,.slice p n c],.slice q m e] V fun r V'=>RR V' r (mkRat (aS b xs) (val ys)):=by
 have zero:∀V':View,RR V' (.agg #[.int .i64 0,.int .i64 0,.pointer none]) 0:=fun V'=>.inl ⟨rfl,by unfold Wd;decide⟩
 refine t_ b p n c q m e V _ fun V1 l1=>(h_ (hy.le l1) hn).mono ?_
 rintro r V2 l2 rfl
 refine ⟨_,rfl,fun h0 V3 l3=>?_,fun h0 V4 l4=>(kI b (hx.le (l1.trans (l2.trans l4))) hm).mono ?_⟩
 ·have:val ys=0:=jt.1 (by simp at h0;omega)
  rw [this,Rat.mkRat_zero];exact zero _
 rintro r V5 l5 rfl
 have hy0:val ys≠0:=fun e=>by simp [jt.2 e] at h0
 refine ⟨_,rfl,fun h1 V6 l6=>?_,fun h1 V7 l7=>?_⟩
 ·have:aS b xs=0:=Int.sign_eq_zero_iff_zero.1 (by simpa using h1)
  rw [this,Rat.zero_mkRat];exact zero _
 have hx0:aS b xs≠0:=fun e=>by simp [e] at h1
 have hx0':val xs≠0:=by rw [←dC b xs];omega
 replace hx:=hx.le (l1.trans (l2.trans (l4.trans (l5.trans l7))))
 replace hy:=hy.le (l1.trans (l2.trans (l4.trans (l5.trans l7))))
 refine (wC hx hy hm hn).mono ?_
 rintro r V8 l8 ⟨p3,n3,c3,rfl,hg⟩
 replace hx:=hx.le l8
 replace hy:=hy.le l8
 have hgl:Nat.gcd (val xs) (val ys)<=val ys:=Nat.le_of_dvd (by omega) (Nat.gcd_dvd_right _ _)
 have hgd:(ah (Nat.gcd (val xs) (val ys))).length<=1099511627776:=Nat.le_trans (aG hgl) (by have:=aX hy.dY;omega)
 have JC:Nat.gcd (val xs) (val ys)≠0:=by
  intro e0;exact hx0' (Nat.eq_zero_of_gcd_eq_zero_left e0)
 refine ⟨_,_,_,rfl,fun V9 l9=>(h_ (hg.le l9) hgd).mono ?_⟩
 rintro r jr l10 rfl
 rw [ae]
 replace hx:=hx.le (l9.trans l10)
 replace hy:=hy.le (l9.trans l10)
 replace hg:=hg.le (l9.trans l10)
 refine ⟨_,rfl,fun z V'=>∃(us vs:List Nat),z.2.2.2.1=b/\RD V' z.2.2.2.2.1 z.2.2.2.2.2.1 z.2.2.2.2.2.2 us/\RD V' z.1 z.2.1 z.2.2.1 vs/\us.length<=1099511627776/\vs.length<=1099511627776/\val vs≠0 /\
  Nat.gcd (val us) (val vs)=1/\mkRat (aS b xs) (val ys)=mkRat (aS b us) (val vs),⟨fun h2 jP bN=>?_,fun h2=>?_⟩,?_⟩
 ·refine (jV (hx.le bN) (hg.le bN) hm hgd (by rw [ae];exact JC)).mono ?_
  rintro r nk cK ⟨p4,n4,c4,p5,n5,c5,rfl,g1,g2⟩
  refine ⟨_,_,_,_,_,_,_,rfl,fun qu c_=>(jV (hy.le (bN.trans (cK.trans c_))) (hg.le (bN.trans (cK.trans c_))) hn hgd (by rw [ae];exact JC)).mono ?_⟩
  rintro r nq eR ⟨p6,n6,c6,p7,n7,c7,rfl,g3,g4⟩
  rw [ae] at g1 g3
  have e1:val (ah (val xs / Nat.gcd (val xs) (val ys)))=val xs / Nat.gcd (val xs) (val ys):=ae _
  have e2:val (ah (val ys / Nat.gcd (val xs) (val ys)))=val ys / Nat.gcd (val xs) (val ys):=ae _
  have d1:=Nat.gcd_dvd_left (val xs) (val ys)
  have d2:=Nat.gcd_dvd_right (val xs) (val ys)
  have hdy:val ys / Nat.gcd (val xs) (val ys)≠0:=by
   intro e0
   have:=Nat.div_mul_cancel d2
   rw [e0,Nat.zero_mul] at this
   exact hy0 this.symm
  refine ⟨_,_,_,_,_,_,_,rfl,(p6,n6,c6,b,p4,n4,c4),by (try dsimp only);and_intros<;>trivial,_,_,rfl,g1.le (c_.trans eR),g3,?_,?_,?_,?_,?_⟩
  ·exact Nat.le_trans (aG (Nat.div_le_self _ _)) (by have:=aX hx.dY;omega)
  ·exact Nat.le_trans (aG (Nat.div_le_self _ _)) (by have:=aX hy.dY;omega)
  ·rw [e2];exact hdy
  ·rw [e1,e2];exact Nat.gcd_div_gcd_div_gcd_of_pos_left (by omega)
  ·rw [e2]
   have k1:val ys=val ys / Nat.gcd (val xs) (val ys)*Nat.gcd (val xs) (val ys):=(Nat.div_mul_cancel d2).symm
   have k2:aS b xs=aS b (ah (val xs / Nat.gcd (val xs) (val ys)))*(Nat.gcd (val xs) (val ys):Nat):=by
    have k3:(val xs:Int)=((val xs / Nat.gcd (val xs) (val ys):Nat):Int)*(Nat.gcd (val xs) (val ys):Nat):=by
     rw [←Int.natCast_mul,Nat.div_mul_cancel d1]
    unfold aS
    rw [e1]
    cases b
    ·simpa using k3
    ·simp only [if_true];rw [Int.neg_mul,←k3]
   conv=>lhs;rw [k1,k2]
   exact Rat.mkRat_mul_right JC
 ·have hg1:Nat.gcd (val xs) (val ys)=1:=by
   have h3:¬(1<bD (Nat.gcd (val xs) (val ys))):=by simp at h2;omega
   have:=@iJ (Nat.gcd (val xs) (val ys)) 1
   omega
  exact ⟨(q,m,e,b,p,n,c),by (try dsimp only);and_intros<;>trivial,xs,ys,rfl,hx,hy,hm,hn,hy0,hg1,rfl⟩
 ·rintro ⟨q,m,e,b',p,n,c⟩ ma dR ⟨us,vs,hbb,hu,hv,MD,hvl,hv0,hgc,hq⟩
  dsimp only at hbb hu hv ⊢
  subst hbb
  rw [hq]
  obtain ⟨qA,hden⟩:=EY (z:=aS b' us) hv0 (by rw [dC];exact hgc)
  generalize mkRat (aS b' us) (val vs)=w at *
  have hW:Wd w↔val us<4611686018427387904/\val vs<4611686018427387904:=by
   unfold Wd;rw [qA,hden,dC]
  have Jw:∀V1:View,ma.Le V1->¬Wd w->ab prog 186 #[.agg #[.bool b',.slice p n c]] V1 fun r V2=>∃(FK:Bool)(Hc:OA)(GX FQ:Nat),r=.agg #[.bool FK,.slice Hc GX FQ] /\
    (∀V3:View,V2.Le V3->ab prog 188 #[.slice q m e] V3 fun r V4=>∃(SP:OA)(SK RW:Nat),r=.slice SP SK RW /\
    (∀V5:View,V4.Le V5->∀bk:Nat,V5.br bk (.cells #[.bool FK,.slice Hc GX FQ,.slice SP SK RW] 256 (0,0))->RR V5 (.agg #[.int .i64 0,.int .i64 0,.pointer (some ⟨bk,0,none⟩)]) w)):=by
   intro V1 l1 hw
   refine (hZ b' (hu.le l1) MD).mono ?_
   rintro r V2 l2 Fy
   obtain ⟨p2,n2,c2,rfl,h2⟩:=Fy
   have Fy:RI V2 (.agg #[.bool (decide (aS b' us<0)),.slice p2 n2 c2]) (aS b' us):=⟨_,_,_,rfl,h2⟩
   refine ⟨_,_,_,_,rfl,fun V3 l3=>(ia (hv.le (l1.trans (l2.trans l3))) hvl).mono ?_⟩
   rintro r V4 l4 ⟨p3,n3,c3,rfl,h3⟩
   refine ⟨_,_,_,rfl,fun V5 l5 bk hb=>.inr ⟨⟨bk,0,none⟩,decide (aS b' us<0),p2,n2,c2,p3,n3,c3,rfl,?_,?_,?_,?_,?_,hw⟩⟩
   ·rw [add_zero'];exact fD (xs:=[_,_,_]) hb rfl
   ·rw [add_zero'];exact fD (xs:=[_,_,_]) hb rfl
   ·rw [add_zero'];exact fD (xs:=[_,_,_]) hb rfl
   ·rw [qA];exact Fy.le (l3.trans (l4.trans l5))
   ·rw [hden];exact h3.le l5
  refine ⟨by trivial,fun mb dS=>(h_ (hu.le dS) MD).mono ?_⟩
  rintro r oF dk rfl
  refine ⟨_,rfl,fun h3 pK ee=>(h_ (hv.le (dS.trans (dk.trans ee))) hvl).mono ?_,fun h3 J6 BN=>Jw J6 (dS.trans (dk.trans BN)) ?_⟩
  ·rintro r vY eF rfl
   rw [xJ,decide_eq_true_eq] at h3
   refine ⟨_,rfl,fun h4 zy jd=>?_,fun h4 H3 oH=>Jw H3 (dS.trans (dk.trans (ee.trans (eF.trans oH)))) ?_⟩
   ·rw [xJ,decide_eq_true_eq] at h4
    refine (qv b' (hu.le (dS.trans (dk.trans (ee.trans (eF.trans jd))))) MD h3).mono ?_
    rintro r xB gy rfl
    refine ⟨_,_,rfl,fun rF jo=>(jW (hv.le (dS.trans (dk.trans (ee.trans (eF.trans (jd.trans (gy.trans jo))))))) hvl).mono ?_⟩
    rintro r zt gF rfl
    rw [if_pos (by omega)]
    refine ⟨_,_,rfl,fun Ia BM=>.inl ⟨?_,hW.2 ⟨h3,h4⟩⟩⟩
    rw [ay (x:=((val vs:Nat):Int)) (by omega),ay (by omega),qA,hden]
   ·rw [xJ,decide_eq_false_iff_not] at h4
    rw [hW];omega
  ·rw [xJ,decide_eq_false_iff_not] at h3
   rw [hW];omega
theorem dA {V:View}(b:Bool){p:OA}{n c x:Nat}(h:RN V p n c x) :
  ab prog 61 #[.bool b,.slice p n c] V fun r V'=>RI V' r (if b then -(x:Int) else x):=by
 have hp:=fp h.len
 refine Bv b p n c V _ ⟨fun h0 V1 l1=>?_,fun h0 V1 l1=>?_⟩
 ·rw [if_pos h0]
  refine RI.mk ?_ ?_
  ·rw [Bool.eq_iff_iff,decide_eq_true_eq,decide_eq_true_eq]
   omega
  ·rw [Int.natAbs_neg,Int.natAbs_natCast];exact h.le l1
 ·rw [h0,if_neg (by decide)]
  refine RI.mk ?_ ?_
  ·symm;rw [decide_eq_false_iff_not];omega
  ·rw [Int.natAbs_natCast];exact h.le l1
theorem im {V:View}{b:Bool}{p:OA}{n c x:Nat}{z:Int}(h:RN V p n c x)(hz:(if b then -(x:Int) else x)=z) :
  ab prog 61 #[.bool b,.slice p n c] V fun r V'=>∃(FK:Bool)(Hc:OA)(GX FQ:Nat),r=.agg #[.bool FK,.slice Hc GX FQ]/\∀V3:View,V'.Le V3->RI V3 (.agg #[.bool FK,.slice Hc GX FQ]) z:=by
 refine (dA b h).mono ?_
 rintro r V2 l2 ⟨p1,n1,c1,rfl,g⟩
 rw [hz] at g ⊢
 exact ⟨_,_,_,_,rfl,fun V3 l3=>⟨_,_,_,rfl,g.le l3⟩⟩
theorem wG {V:View}(n:Int)(h0:-9223372036854775808<=n)(h1:n<=9223372036854775807) :
  ab prog 126 #[.int .i64 n] V fun r V'=>RI V' r n:=by
 refine Da n V _ ⟨fun h2 V1 l1=>?_,fun h2 V1 l1=>?_⟩
 ·have h2:n<0:=by simpa using h2
  have e:u64.wrap (0-u64.wrap n)=((-n).toNat:Int):=by rw [pA,pA];omega
  rw [e]
  refine (cX _ (by omega)).mono ?_
  rintro r V2 l2 ⟨p1,n1,c1,rfl,g1⟩
  exact ⟨_,_,_,rfl,fun V3 l3=>im (g1.le l3) (by simp;omega)⟩
 ·have h2:0<=n:=by simpa using h2
  have e:u64.wrap n=(n.toNat:Int):=by rw [aL (by omega)];omega
  rw [e]
  refine (cX _ (by omega)).mono ?_
  rintro r V2 l2 ⟨p1,n1,c1,rfl,g1⟩
  exact ⟨_,_,_,rfl,fun V3 l3=>im (g1.le l3) (by simp;omega)⟩
theorem B9 {V:View}(z:Int){p:OA}{n c:Nat}(h:RN V p n c z.natAbs) :
  ab prog 104 #[.agg #[.bool (decide (z<0)),.slice p n c]] V fun r V'=>r=.int .i64 z.sign:=by
 have hp:=fp h.len
 refine BA _ p n c V _ ⟨fun h0 V1 l1=>?_,fun h0=>⟨fun h1 V1 l1=>?_,fun h1 V1 l1=>?_⟩⟩
 ·have:z=0:=by simp at h0;omega
  rw [this];rfl
 ·rw [decide_eq_true_eq] at h1
  rw [Int.sign_eq_neg_one_of_neg h1]
 ·rw [decide_eq_false_iff_not] at h1
  have:0<z:=by simp at h0;omega
  rw [Int.sign_eq_one_of_pos this]
theorem iN {V:View}(z:Int){p:OA}{n c:Nat}(h:RN V p n c z.natAbs) :
  ab prog 103 #[.agg #[.bool (decide (z<0)),.slice p n c]] V fun r V'=>RI V' r (-z):=by
 refine yT _ p n c V _ fun V1 l1=>im (h.le l1) ?_
 by_cases hz:z<0<;>simp [hz]<;>omega
theorem jx {V:View}(z w:Int){p q:OA}{n c m e:Nat}(ha:RN V p n c z.natAbs)(hb:RN V q m e w.natAbs)(hm:(ah z.natAbs).length+(ah w.natAbs).length<=1099511627776) :
  ab prog 109 #[.agg #[.bool (decide (z<0)),.slice p n c],.agg #[.bool (decide (w<0)),.slice q m e]] V fun r V'=>RI V' r (z*w):=by
 refine Dc _ p n c _ q m e V _ fun V1 l1=>(bY (ha.le l1) (hb.le l1) hm).mono ?_
 rintro r V2 l2 ⟨p1,n1,c1,rfl,g1⟩
 rw [ae,ae] at g1
 refine ⟨_,_,_,rfl,fun V3 l3=>im (g1.le l3) ?_⟩
 have e1:z=aS (decide (z<0)) (ah z.natAbs):=(aF z).symm
 have e2:w=aS (decide (w<0)) (ah w.natAbs):=(aF w).symm
 conv=>rhs;rw [e1,e2]
 unfold aS
 rw [ae,ae]
 cases decide (z<0)<;>cases decide (w<0)<;>simp [Int.neg_mul,Int.mul_neg]
theorem wF {V:View}(z w:Int){p q:OA}{n c m e:Nat}(ha:RN V p n c z.natAbs)(hb:RN V q m e w.natAbs)(hm:(ah z.natAbs).length<=1099511627776)(hn:(ah w.natAbs).length<=1099511627776) :
  ab prog 108 #[.agg #[.bool (decide (z<0)),.slice p n c],.agg #[.bool (decide (w<0)),.slice q m e]] V fun r V'=>RI V' r (z+w):=by
 refine C8 _ p n c _ q m e V _ ⟨fun h0 V1 l1=>(Ev (ha.le l1) (hb.le l1) hm hn).mono ?_,fun h0 V1 l1=>(gU (ha.le l1) (hb.le l1) hm hn).mono ?_⟩
 ·rintro r V2 l2 ⟨p1,n1,c1,rfl,g1⟩
  rw [ae,ae] at g1
  refine ⟨_,_,_,rfl,fun V3 l3=>im (g1.le l3) ?_⟩
  by_cases hz:z<0<;>by_cases hw:w<0<;>simp [hz,hw] at h0⊢<;> omega
 ·rintro r V2 l2 rfl
  refine ⟨_,rfl,fun h2 V3 l3=>?_,fun h2 V3 l3=>?_⟩
  ·have h2:z.natAbs<w.natAbs:=by simpa [fj] using h2
   refine (mD (hb.le (l1.trans (l2.trans l3))) (ha.le (l1.trans (l2.trans l3))) hn (aG (Nat.le_of_lt h2)) (by rw [ae,ae];omega)).mono ?_
   rintro r V4 l4 ⟨p1,n1,c1,rfl,g1⟩
   rw [ae,ae] at g1
   refine ⟨_,_,_,rfl,fun V5 l5=>im (g1.le l5) ?_⟩
   by_cases hz:z<0<;>by_cases hw:w<0<;>simp [hz,hw] at h0⊢<;> omega
  ·have h2:w.natAbs<=z.natAbs:=by simpa [←Int.not_lt,fj] using h2
   refine (mD (ha.le (l1.trans (l2.trans l3))) (hb.le (l1.trans (l2.trans l3))) hm (aG h2) (by rw [ae,ae];omega)).mono ?_
   rintro r V4 l4 ⟨p1,n1,c1,rfl,g1⟩
   rw [ae,ae] at g1
   refine ⟨_,_,_,rfl,fun V5 l5=>im (g1.le l5) ?_⟩
   by_cases hz:z<0<;>by_cases hw:w<0<;>simp [hz,hw] at h0⊢<;> omega
end Go.Proofs.Tryz
namespace Go.bw
open Go.eN
def qw (d:Nat):List Nat:=if d=1 then [] else ah d
def RQ (V:View)(v:Value)(q:Rat):Prop:=∃p n c p' n' c',v=.agg #[.bool (decide (q.num<0)),.slice p n c,.slice p' n' c'] /\
 RD V p n c (ah q.num.natAbs)/\RD V p' n' c' (qw q.den)
theorem RQ.le {V V':View}{v:Value}{q:Rat}(h:RQ V v q)(l:V.Le V'):RQ V' v q:=by
 obtain ⟨p,n,c,p',n',c',e,h1,h2⟩:=h
 exact ⟨p,n,c,p',n',c',e,h1.le l,h2.le l⟩
theorem Aa {q:Rat}:qw q.den=[]↔q.den=1:=by
 unfold qw
 split
 ·rename_i h;simp [h]
 ·rename_i h
  rw [bh]
  have:=q.den_nz
  omega
end Go.bw
namespace Go.Proofs.Tryz
open Go.bw Go.eN
theorem kL {V:View}{q:Rat}{p:OA}{n c:Nat}(h:RD V p n c (qw q.den)):n=0↔q.den=1:=by
 rw [←Aa,h.len,List.length_eq_zero_iff]
theorem cw {V:View}(q:Rat){p p':OA}{n c n' c':Nat}(b:Bool)(h2:RD V p' n' c' (qw q.den)) :
  ab prog 60 #[.agg #[.bool b,.slice p n c,.slice p' n' c']] V fun r V'=>∃p1 n1 c1,r=.slice p1 n1 c1/\RN V' p1 n1 c1 q.den:=by
 have hl:=kL h2
 refine C_ b p n c p' n' c' V _ ⟨fun h0 V1 l1=>lF.mono ?_,fun h0 V1 l1=>⟨_,_,_,rfl,?_⟩⟩
 ·rintro r V2 l2 ⟨p1,n1,c1,rfl,g⟩
  have:q.den=1:=hl.1 (by simp at h0;omega)
  rw [this]
  exact ⟨_,_,_,rfl,fun V3 l3=>⟨_,_,_,rfl,g.le l3⟩⟩
 ·have:q.den≠1:=fun e=>by have:=hl.2 e;simp at h0;omega
  unfold qw at h2
  rw [if_neg this] at h2
  exact h2.le l1
theorem mq {V:View}{q:Rat}{z:Int}{d:Nat}{p p':OA}{n c n' c':Nat}(hn:q.num=z)(hd:q.den=d)(h1:RD V p n c (ah z.natAbs))(h2:RD V p' n' c' (qw d)){b:Bool}(hb:b=decide (z<0)) :
  RQ V (.agg #[.bool b,.slice p n c,.slice p' n' c']) q:=by
 subst hn hd hb
 exact ⟨_,_,_,_,_,_,rfl,h1,h2⟩
theorem ib {V:View}(z:Int){d:Nat}{p q:OA}{n c m e:Nat}(hx:RN V p n c z.natAbs)(hy:RN V q m e d)(hm:(ah z.natAbs).length<=274877906944)(hn:(ah d).length<=274877906944)(hd:d≠0) :
  ab prog 106 #[.agg #[.bool (decide (z<0)),.slice p n c],.slice q m e] V fun r V'=>RQ V' r (mkRat z d):=by
 refine Bq _ p n c q m e V _ fun V1 l1=>(jX (hx.le l1) (hy.le l1) hm hn).mono ?_
 rintro r V2 l2 ⟨p1,n1,c1,rfl,hg⟩
 have hgd:=Nat.gcd_dvd_right z.natAbs d
 have hgx:=Nat.gcd_dvd_left z.natAbs d
 have JC:0<Nat.gcd z.natAbs d:=Nat.gcd_pos_of_pos_right _ (by omega)
 have hgl:(ah (Nat.gcd z.natAbs d)).length<=274877906944:=Nat.le_trans (aG (Nat.le_of_dvd (by omega) hgd)) hn
 have qA:(mkRat z d).num=z / (Nat.gcd d z.natAbs:Nat):=by rw [Rat.num_mkRat,if_neg hd]
 have hden:(mkRat z d).den=d / Nat.gcd d z.natAbs:=by rw [Rat.den_mkRat,if_neg hd]
 rw [Nat.gcd_comm d] at qA hden
 generalize hG:Nat.gcd z.natAbs d=g at *
 generalize mkRat z d=w at *
 refine ⟨_,_,_,rfl,fun V3 l3=>lF.mono ?_⟩
 rintro r V4 l4 ⟨p2,n2,c2,rfl,h1⟩
 refine ⟨_,_,_,rfl,fun V5 l5=>(gU (hg.le (l3.trans (l4.trans l5))) (h1.le l5) (by omega) (by decide)).mono ?_⟩
 rintro r V6 l6 rfl
 replace hx:=hx.le (l1.trans (l2.trans (l3.trans (l4.trans (l5.trans l6)))))
 replace hy:=hy.le (l1.trans (l2.trans (l3.trans (l4.trans (l5.trans l6)))))
 replace hg:=hg.le (l3.trans (l4.trans (l5.trans l6)))
 refine ⟨_,rfl,fun h0 V7 l7=>(dM (hx.le l7) (hg.le l7) hm hgl JC).mono ?_,fun h0 vY eF=>lF.mono ?_⟩
 ·rintro r V8 l8 ⟨p4,n4,c4,p5,n5,c5,rfl,g1,-⟩
  have hnd:(mkRat z d).num.natAbs=(mkRat z d).num.natAbs:=rfl
  obtain ⟨k,hk⟩:=hgx
  have hk1:z.natAbs / g=k:=by rw [hk,Nat.mul_div_cancel_left _ JC]
  rw [hk1] at g1
  have hz:z=(g:Int)*(if z<0 then -(k:Int) else k):=by
   split
   ·rw [Int.mul_neg,←Int.natCast_mul,←hk];omega
   ·rw [←Int.natCast_mul,←hk];omega
  have hwn:w.num=(if z<0 then -(k:Int) else k):=by
   rw [qA]
   generalize (if z<0 then -(k:Int) else k)=t at *
   rw [hz,Int.mul_ediv_cancel_left _ (by omega)]
  refine ⟨_,_,_,_,_,_,rfl,fun V9 l9=>(dA _ (g1.le l9)).mono ?_⟩
  have PK:(if decide (z<0)=true then -(k:Int) else k)=w.num:=by
   rw [hwn];simp
  rw [PK]
  rintro r jr l10 ⟨p7,n7,c7,rfl,g2⟩
  refine ⟨_,_,_,_,rfl,fun jP bN=>(dM (hy.le (l7.trans (l8.trans (l9.trans (l10.trans bN))))) (hg.le (l7.trans (l8.trans (l9.trans (l10.trans bN))))) hn hgl JC).mono ?_⟩
  rintro r nk cK ⟨p8,n8,c8,p9,n9,c9,rfl,g3,-⟩
  rw [←hden] at g3
  refine ⟨_,_,_,_,_,_,rfl,fun qu c_=>lF.mono ?_⟩
  rintro r nq eR ⟨Hb,n10,c10,rfl,g4⟩
  have hdl:(ah w.den).length<=274877906944:=by rw [hden];exact Nat.le_trans (aG (Nat.div_le_self _ _)) hn
  refine ⟨_,_,_,rfl,fun ma dR=>(gU (g3.le (c_.trans (eR.trans dR))) (g4.le dR) (by omega) (by decide)).mono ?_⟩
  rintro r mb dS rfl
  refine ⟨_,rfl,fun h9 oF dk=>mq rfl rfl (g2.le (bN.trans (cK.trans (c_.trans (eR.trans (dR.trans (dS.trans dk))))))) ?_ rfl,fun h9 pK ee=>mq rfl rfl (g2.le (bN.trans (cK.trans (c_.trans (eR.trans (dR.trans (dS.trans ee))))))) ?_ rfl⟩
  ·have:w.den=1:=jz.1 (by simpa using h9)
   rw [Aa.2 this];exact RD.nil
  ·have:w.den≠1:=fun e=>by rw [jz.2 e] at h9;simp at h9
   unfold qw
   rw [if_neg this]
   exact g3.le (c_.trans (eR.trans (dR.trans (dS.trans ee))))
 ·have hg1:g=1:=jz.1 (by simpa using h0)
  have hwn:w.num=z:=by rw [qA,hg1];simp
  have hwd:w.den=d:=by rw [hden,hg1];simp
  rintro r zy jd ⟨U8,n12,c12,rfl,g4⟩
  refine ⟨_,_,_,rfl,fun xB gy=>(gU (hy.le (eF.trans (jd.trans gy))) (g4.le gy) (by omega) (by decide)).mono ?_⟩
  rintro r rF jo rfl
  refine ⟨_,rfl,fun h9 oF dk=>mq hwn hwd (hx.le (eF.trans (jd.trans (gy.trans (jo.trans dk))))) ?_ rfl,fun h9 pK ee=>mq hwn hwd (hx.le (eF.trans (jd.trans (gy.trans (jo.trans ee))))) ?_ rfl⟩
  ·have:d=1:=jz.1 (by simpa using h9)
   unfold qw
   rw [if_pos this];exact RD.nil
  ·have:d≠1:=fun e=>by rw [jz.2 e] at h9;simp at h9
   unfold qw
   rw [if_neg this]
   exact hy.le (eF.trans (jd.trans (gy.trans (jo.trans ee))))
theorem ic {V:View}(n:Int)(h0:-9223372036854775808<=n)(h1:n<=9223372036854775807) :
  ab prog 63 #[.int .i64 n] V fun r V'=>RQ V' r (n:Rat):=by
 refine Fo n V _ fun V1 l1=>(wG n h0 h1).mono ?_
 rintro r V2 l2 ⟨p,m,c,rfl,g⟩
 exact ⟨_,_,_,_,rfl,fun V3 l3=>mq (z:=n) (d:=1) rfl rfl (g.le l3) RD.nil rfl⟩
theorem Dx {V:View}(q:Rat){p p':OA}{n c n' c':Nat}(h1:RD V p n c (ah q.num.natAbs)) :
  ab prog 42 #[.agg #[.bool (decide (q.num<0)),.slice p n c,.slice p' n' c']] V fun r V'=>r=.int .i64 q.num.sign:=by
 refine HX _ p n c p' n' c' V _ fun V1 l1=>(B9 q.num (h1.le l1)).mono ?_
 rintro r V2 l2 rfl
 exact ⟨_,rfl,fun V3 l3=>rfl⟩
theorem oR {V:View}(q:Rat){p p':OA}{n c n' c':Nat}(h1:RD V p n c (ah q.num.natAbs))(h2:RD V p' n' c' (qw q.den)) :
  ab prog 57 #[.agg #[.bool (decide (q.num<0)),.slice p n c,.slice p' n' c']] V fun r V'=>RQ V' r (-q):=by
 refine De _ p n c p' n' c' V _ fun V1 l1=>(iN q.num (h1.le l1)).mono ?_
 rintro r V2 l2 ⟨p1,n1,c1,rfl,g⟩
 exact ⟨_,_,_,_,rfl,fun V3 l3=>mq (q:=-q) (z:=-q.num) (d:=q.den) (by rfl) (by rfl) (g.le l3) ((h2.le l1).le (l2.trans l3)) rfl⟩
end Go.Proofs.Tryz
namespace Go.bw
open Go.eN
theorem RI.inv {V:View}{b:Bool}{p:OA}{n c:Nat}{z:Int}(h:RI V (.agg #[.bool b,.slice p n c]) z):b=decide (z<0)/\RD V p n c (ah z.natAbs):=by
 obtain ⟨p1,n1,c1,e,hn⟩:=h
 simp at e
 obtain ⟨rfl,rfl,rfl,rfl⟩:=e
 exact ⟨rfl,hn⟩
end Go.bw
namespace Go.Proofs.Tryz
open Go.bw Go.eN
theorem eA {V:View}{v:Value}{q:Rat}(h:RR V v q){k:Nat}(hs:Sz k q)(hk:k<=1099511627776) :
  ab prog 140 #[v] V fun r V'=>RI V' r q.num:=by
 rcases h with ⟨rfl,hw⟩|⟨a,b,p,n,c,p',n',c',rfl,h1,h2,h3,h4,h5,hw⟩
 ·have:=hw.1
  refine mz _ _ _ V _ ⟨(fun h0=>nomatch h0),fun _ V1 l1=>(iM _ (by omega) (by omega)).mono ?_⟩
  rintro r V2 l2 ⟨p,n,c,rfl,g⟩
  exact ⟨_,_,_,_,rfl,fun V3 l3=>⟨_,_,_,rfl,g.le l3⟩⟩
 ·obtain ⟨rfl,hn⟩:=h4.inv
  refine mz _ _ _ V _ ⟨fun _=>⟨rfl,rfl,decide (q.num<0),p,n,c,a.add 0,rfl,?_,?_,fun V1 l1=>(hZ _ (hn.le l1) (Nat.le_trans (af hs.1) hk)).mono ?_⟩,fun h0=>nomatch h0⟩
  ·exact h1
  ·simpa [Addr.add] using h2
  ·rintro r V2 l2 ⟨p,n,c,rfl,g⟩
   rw [aF] at g ⊢
   exact ⟨_,_,_,_,rfl,fun V3 l3=>⟨_,_,_,rfl,g.le l3⟩⟩
theorem dL {V:View}{v:Value}{q:Rat}(h:RR V v q){k:Nat}(hs:Sz k q)(hk:k<=1099511627776) :
  ab prog 141 #[v] V fun r V'=>∃p n c,r=.slice p n c/\RN V' p n c q.den:=by
 rcases h with ⟨rfl,hw⟩|⟨a,b,p,n,c,p',n',c',rfl,h1,h2,h3,h4,h5,hw⟩
 ·have:=hw.2
  have hd:=q.den_nz
  refine mu _ _ _ V _ ⟨(fun h0=>nomatch h0),fun _ V1 l1=>?_⟩
  rw [ay (by omega),aL (by omega)]
  refine (dz _ (by omega) (by omega)).mono ?_
  rintro r V2 l2 ⟨p,n,c,rfl,g⟩
  rw [show ((q.den:Int)-1+1).toNat=q.den from by omega] at g
  exact ⟨_,_,_,rfl,fun V3 l3=>⟨_,_,_,rfl,g.le l3⟩⟩
 ·refine mu _ _ _ V _ ⟨fun _=>⟨rfl,rfl,_,_,_,⟨_,rfl,h3⟩,fun V1 l1=>(ia (h5.le l1) (Nat.le_trans (af hs.2) hk)).mono ?_⟩,fun h0=>nomatch h0⟩
  rintro r V2 l2 ⟨p,n,c,rfl,g⟩
  rw [ae] at g
  exact ⟨_,_,_,rfl,fun V3 l3=>⟨_,_,_,rfl,g.le l3⟩⟩
theorem hE {V:View}(n:Int)(h0:-9223372036854775808<n)(h1:n<=9223372036854775807) :
  ab prog 208 #[.int .i64 n] V fun r V'=>r=.int .u64 (n.natAbs:Int):=by
 refine Bg n V _ ⟨fun h2 V1 l1=>?_,fun h2 V1 l1=>?_⟩
 ·have h2:n<0:=by simpa using h2
  rw [ay (by omega),aL (by omega)];congr 1;omega
 ·have h2:0<=n:=by simpa using h2
  rw [aL (by omega)];congr 1;omega
theorem rW {V:View}(x y:Nat)(hx:x<18446744073709551616)(hy:y<18446744073709551616) :
  ab prog 207 #[.int .u64 (x:Int),.int .u64 (y:Int)] V fun r V'=>r=.int .u64 (Nat.gcd x y:Int):=by
 refine Bh _ _ V _ ⟨fun z V'=>∃a b:Nat,z=((a:Int),(b:Int))/\Nat.gcd a b=Nat.gcd x y,fun z=>z.2.toNat,
  ⟨((x:Int),(y:Int)),by (try dsimp only);and_intros<;>trivial,x,y,rfl,rfl⟩,?_⟩
 rintro _ mb dS ⟨a,b,rfl,sQ⟩
 dsimp only
 refine ⟨by trivial,fun h3=>?_,fun h3 oF dk=>?_⟩
 ·have h3:b≠0:=by rw [bne_iff_ne] at h3;omega
  have hlt:a%b<b:=Nat.mod_lt _ (by omega)
  have e4:(a:Int).tmod (b:Int)=((a%b:Nat):Int):=by rw [Int.tmod_eq_emod_of_nonneg (by omega),←Int.natCast_emod]
  rw [e4]
  exact ⟨by omega,((b:Int),((a%b:Nat):Int)),by (try dsimp only);rw [Int.toNat_natCast,Int.toNat_natCast];exact hlt,by (try dsimp only);and_intros<;>trivial,b,a%b,rfl,by rw [sO,sQ]⟩
 ·have h3:b=0:=by rw [bne_eq_false_iff_eq] at h3;omega
  subst h3
  rw [Nat.gcd_zero_right] at sQ
  rw [sQ]
theorem fg {V:View}(a b:Int)(ha:a.natAbs<4611686018427387904)(hb:b.natAbs<4611686018427387904) :
  ab prog 211 #[.int .i64 a,.int .i64 b] V fun r V'=>∃z:Int,r=.tuple #[.int .i64 z,.bool (decide ((a*b).natAbs<4611686018427387904))]/\((a*b).natAbs<4611686018427387904->z=a*b):=by
 refine vx a b V _ fun V1 l1=>(hE a (by omega) (by omega)).mono ?_
 rintro r V2 l2 rfl
 refine ⟨_,rfl,fun V3 l3=>(hE b (by omega) (by omega)).mono ?_⟩
 rintro r V4 l4 rfl
 refine ⟨_,rfl,fun V5 l5=>(Ii _ _ (by omega) (by omega)).mono ?_⟩
 rintro r V6 l6 rfl
 have sQ:(a*b).natAbs=a.natAbs*b.natAbs:=Int.natAbs_mul a b
 have hsg:a*b=if (decide (a<0)==decide (b<0)) then ((a.natAbs*b.natAbs:Nat):Int) else -((a.natAbs*b.natAbs:Nat):Int):=by
  rw [Int.natCast_mul]
  by_cases h1:a<0<;>by_cases h2:b<0
  ·rw [decide_eq_true h1,decide_eq_true h2,show (a.natAbs:Int)=-a from by omega,show (b.natAbs:Int)=-b from by omega];simp [Int.neg_mul,Int.mul_neg]
  ·rw [decide_eq_true h1,decide_eq_false h2,if_neg (by decide),show (a.natAbs:Int)=-a from by omega,show (b.natAbs:Int)=b from by omega];simp [Int.neg_mul]
  ·rw [decide_eq_false h1,decide_eq_true h2,if_neg (by decide),show (a.natAbs:Int)=a from by omega,show (b.natAbs:Int)=-b from by omega];simp [Int.mul_neg]
  ·rw [decide_eq_false h1,decide_eq_false h2,show (a.natAbs:Int)=a from by omega,show (b.natAbs:Int)=b from by omega];simp
 rw [sQ]
 generalize a.natAbs*b.natAbs=p at *
 refine ⟨_,_,rfl,fun h0 V7 l7=>?_,fun h0=>⟨fun h1 V7 l7=>?_,fun h1=>⟨fun h2 V7 l7=>?_,fun h2 V7 l7=>?_⟩⟩⟩
 ·have h0:18446744073709551616<=p:=by rw [bne_iff_ne] at h0;omega
  rw [decide_eq_false (by omega)]
  exact ⟨_,rfl,fun h=>by omega⟩
 ·have h1:4611686018427387904<=p:=by
   rw [decide_eq_true_eq] at h1;omega
  rw [decide_eq_false (by omega)]
  exact ⟨_,rfl,fun h=>by omega⟩
 ·have h0:p / 18446744073709551616=0:=by rw [bne_eq_false_iff_eq] at h0;omega
  have h1:p<4611686018427387904:=by rw [decide_eq_false_iff_not] at h1;omega
  rw [decide_eq_true h1,ay (x:=((p%18446744073709551616:Nat):Int)) (by omega),ay (by omega)]
  refine ⟨_,rfl,fun _=>?_⟩
  have h2:(decide (a<0)==decide (b<0))=false:=by simpa using h2
  rw [hsg,h2,if_neg (by decide)];omega
 ·have h0:p / 18446744073709551616=0:=by rw [bne_eq_false_iff_eq] at h0;omega
  have h1:p<4611686018427387904:=by rw [decide_eq_false_iff_not] at h1;omega
  rw [decide_eq_true h1,ay (x:=((p%18446744073709551616:Nat):Int)) (by omega)]
  refine ⟨_,rfl,fun _=>?_⟩
  have h2:(decide (a<0)==decide (b<0))=true:=by simpa using h2
  rw [hsg,h2,if_pos rfl];omega
theorem me {V:View}(n:Int)(d:Nat)(hn:n.natAbs<4611686018427387904)(hd:d<4611686018427387904)(hd0:d≠0) :
  ab prog 212 #[.int .i64 n,.int .i64 (d:Int)] V fun r V'=>RR V' r (mkRat n d):=by
 refine tZ n _ V _ fun V1 l1=>(hE n (by omega) (by omega)).mono ?_
 rintro r V2 l2 rfl
 rw [aL (x:=(d:Int)) (by omega)]
 refine ⟨_,rfl,fun V3 l3=>(rW _ _ (by omega) (by omega)).mono ?_⟩
 rintro r V4 l4 rfl
 have hgl:Nat.gcd n.natAbs d<=d:=Nat.le_of_dvd (by omega) (Nat.gcd_dvd_right _ _)
 have JC:0<Nat.gcd n.natAbs d:=Nat.gcd_pos_of_pos_right _ (by omega)
 have qA:=Rat.num_mkRat n d
 have hden:=Rat.den_mkRat n d
 rw [if_neg hd0,Nat.gcd_comm] at qA hden
 have hdvd:(Nat.gcd n.natAbs d:Int)∣n:=Int.ofNat_dvd_left.2 (Nat.gcd_dvd_left _ _)
 have hdl:d / Nat.gcd n.natAbs d<=d:=Nat.div_le_self _ _
 have hnl:(n / (Nat.gcd n.natAbs d:Int)).natAbs<=n.natAbs:=by
  rw [Int.natAbs_ediv_of_dvd hdvd,Int.natAbs_natCast];exact Nat.div_le_self _ _
 have hW:Wd (mkRat n d):=by unfold Wd;rw [qA,hden];omega
 refine ⟨_,rfl,?_⟩
 rw [ay (x:=((Nat.gcd n.natAbs d:Nat):Int)) (by omega)]
 refine ⟨fun h0=>⟨by omega,by omega,fun V5 l5=>.inl ⟨?_,hW⟩⟩,fun h0 V5 l5=>.inl ⟨?_,hW⟩⟩
 ·rw [qA,hden]
  have e1:n.tdiv (Nat.gcd n.natAbs d:Int)=n / (Nat.gcd n.natAbs d:Int):=Int.tdiv_eq_ediv_of_dvd hdvd
  have e2:(d:Int).tdiv (Nat.gcd n.natAbs d:Int)=((d / Nat.gcd n.natAbs d:Nat):Int):=by rw [Int.tdiv_eq_ediv_of_nonneg (by omega),←Int.natCast_ediv]
  rw [e1,e2]
  generalize n / (Nat.gcd n.natAbs d:Int)=nn at *
  generalize d / Nat.gcd n.natAbs d=dd at *
  rw [ay (by omega),ay (x:=(dd:Int)) (by omega),ay (by omega)]
 ·have h0:Nat.gcd n.natAbs d=1:=by rw [decide_eq_false_iff_not] at h0;omega
  rw [qA,hden,h0,ay (by omega)]
  simp
theorem mkRat_one (z:Int):mkRat z 1=(z:Rat):=by
 apply Rat.ext
 ·rw [Rat.num_mkRat];simp
 ·rw [Rat.den_mkRat];simp
theorem RD.one {V:View}{bk:Nat}{ty:TypeId}{m:Nat×Nat}(h:V.br bk (.cells #[.int .u32 1] ty m)):RD V (some ⟨bk,0,none⟩) 1 1 [1]:=
 RD.br (ds:=[1]) h (by simp [bK]) rfl (Nat.le_refl _)
theorem jT {V:View}(b:Bool){p:OA}{n c:Nat}{ds:List Nat}(h:RD V p n c ds)(hm:ds.length<=1099511627776) :
  ab prog 175 #[.agg #[.bool b,.slice p n c]] V fun r V'=>RR V' r (aS b ds:Rat):=by
 refine vv b p n c V _ fun V1 l1 bk hb=>(bX b (h.le l1) (RD.one hb) hm (by simp)).mono ?_
 rintro r V2 l2 hr
 have e:mkRat (aS b ds) (val [1])=(aS b ds:Rat):=mkRat_one _
 rw [e] at hr
 obtain ⟨n,d,p,rfl⟩:=hr.shape
 exact ⟨_,_,_,rfl,fun _ V3 l3=>hr.le l3⟩
theorem sX {z:Int}(h:z.natAbs<4611686018427387904):Wd (z:Rat):=⟨h,by show (1:Nat)<_;decide⟩
theorem fF {V:View}(n:Int)(h0:-9223372036854775808<=n)(h1:n<=9223372036854775807) :
  ab prog 143 #[.int .i64 n] V fun r V'=>RR V' r (n:Rat):=by
 have Jw:∀V1:View,V.Le V1->ab prog 187 #[.int .i64 n] V1 fun Vg V2=>∃FK:Bool,∃(Hc:OA)(GX FQ:Nat),Vg=.agg #[.bool FK,.slice Hc GX FQ]/\(∀V3:View,V2.Le V3->∀LP:Nat,V3.br LP (.cells #[.int .u32 1] 188 (0,0))->ab prog 190 #[.agg #[.bool FK,.slice Hc GX FQ],.slice (some ⟨LP,0,none⟩) 1 1] V3 fun Vh V4=>∃S1:Int,∃S2:Int,∃SQ:OA,Vh=.agg #[.int .i64 S1,.int .i64 S2,.pointer SQ]/\∀V_:C->Value,(∀V5:View,V4.Le V5->RR V5 (.agg #[.int .i64 S1,.int .i64 S2,.pointer SQ]) (n:Rat))):=by
  intro V1 l1
  refine (iM n h0 h1).mono ?_
  rintro r V2 l2 ⟨p,m,c,rfl,g⟩
  refine ⟨_,_,_,_,rfl,fun V3 l3 bk hb=>(bX _ (g.le l3) (RD.one hb) (Nat.le_trans (af (k:=64) (by omega)) (by omega)) (by simp)).mono ?_⟩
  rintro r V4 l4 hr
  have e:mkRat (aS (decide (n<0)) (ah n.natAbs)) (val [1])=(n:Rat):=by rw [aF];exact mkRat_one _
  rw [e] at hr
  obtain ⟨n,d,p,rfl⟩:=hr.shape
  exact ⟨_,_,_,rfl,fun _ V3 l3=>hr.le l3⟩
 refine Bc n V _ ⟨fun _=>Jw,fun h2=>⟨fun _=>Jw,fun h3 V1 l1=>.inl ⟨rfl,sX ?_⟩⟩⟩
 rw [decide_eq_false_iff_not] at h2 h3
 omega
theorem dw {V:View}{v:Value}{q:Rat}(h:RR V v q){k:Nat}(hs:Sz k q)(hk:k<=1099511627776) :
  ab prog 137 #[v] V fun r V'=>r=.int .i64 q.num.sign:=by
 rcases h with ⟨rfl,hw⟩|⟨a,b,p,n,c,p',n',c',rfl,h1,h2,h3,h4,h5,hw⟩
 ·refine ll _ _ _ V _ ⟨(fun h0=>nomatch h0),fun _=>⟨fun h V1 l1=>?_,fun h=>⟨fun h' V1 l1=>?_,fun h' V1 l1=>?_⟩⟩⟩
  ·rw [Int.sign_eq_neg_one_of_neg (by simpa using h)]
  ·rw [Int.sign_eq_one_of_pos (by simpa using h')]
  ·have:q.num=0:=by rw [decide_eq_false_iff_not] at h h';omega
   rw [this];rfl
 ·obtain ⟨rfl,hn⟩:=h4.inv
  refine ll _ _ _ V _ ⟨fun _=>⟨rfl,rfl,decide (q.num<0),p,n,c,a.add 0,rfl,?_,?_,fun V1 l1=>(kI _ (hn.le l1) (Nat.le_trans (af hs.1) hk)).mono ?_⟩,(fun h0=>nomatch h0)⟩
  ·exact h1
  ·simpa [Addr.add] using h2
  ·rintro r V2 l2 rfl
   rw [aF]
   exact ⟨_,rfl,fun V3 l3=>rfl⟩
theorem rS {V:View}{v:Value}{q:Rat}(h:RR V v q):ab prog 176 #[v] V fun r V'=>r=.bool (decide (q=0)):=by
 rcases h with ⟨rfl,hw⟩|⟨a,b,p,n,c,p',n',c',rfl,h1,h2,h3,h4,h5,hw⟩
 ·refine lq _ _ _ V _ ⟨fun _ V1 l1=>?_,(fun h0=>nomatch h0)⟩
  congr 1
  rw [Bool.eq_iff_iff,beq_iff_eq,decide_eq_true_eq]
  exact Rat.num_eq_zero
 ·refine lq _ _ _ V _ ⟨(fun h0=>nomatch h0),fun _ V1 l1=>?_⟩
  congr 1
  symm;rw [decide_eq_false_iff_not]
  intro e;subst e;exact hw ⟨by decide,by decide⟩
theorem lD {V:View}{v:Value}{q:Rat}(h:RR V v q){k:Nat}(hs:Sz k q)(hk:k<=1099511627776) :
  ab prog 148 #[v] V fun r V'=>RR V' r (-q):=by
 rcases h with ⟨rfl,hw⟩|⟨a,b,p,n,c,p',n',c',rfl,h1,h2,h3,h4,h5,hw⟩
 ·have:=hw.1
  refine my _ _ _ V _ ⟨(fun h0=>nomatch h0),fun _ V1 l1=>.inl ⟨?_,by unfold Wd;rw [Rat.neg_num,Rat.neg_den,Int.natAbs_neg];exact hw⟩⟩
  rw [ay (by omega),Rat.neg_num,Rat.neg_den,Int.zero_sub]
 ·obtain ⟨rfl,hn⟩:=h4.inv
  refine my _ _ _ V _ ⟨fun _=>⟨rfl,rfl,decide (q.num<0),p,n,c,a.add 0,rfl,?_,?_,rfl,rfl,p',n',c',⟨_,rfl,h3⟩,fun V1 l1=>(uN _ (hn.le l1) (Nat.le_trans (af hs.1) hk)).mono ?_⟩,(fun h0=>nomatch h0)⟩
  ·exact h1
  ·simpa [Addr.add] using h2
  ·rintro r V2 l2 Fy
   rw [aF] at Fy
   obtain ⟨p2,n2,c2,rfl,g⟩:=Fy
   refine ⟨_,_,_,_,rfl,fun V3 l3 bk hb=>.inr ⟨⟨bk,0,none⟩,decide (-q.num<0),p2,n2,c2,p',n',c',rfl,?_,?_,?_,?_,?_,?_⟩⟩
   ·rw [add_zero'];exact fD (xs:=[_,_,_]) hb rfl
   ·rw [add_zero'];exact fD (xs:=[_,_,_]) hb rfl
   ·rw [add_zero'];exact fD (xs:=[_,_,_]) hb rfl
   ·exact ⟨_,_,_,rfl,g.le l3⟩
   ·exact h5.le (l1.trans (l2.trans l3))
   ·unfold Wd;rw [Rat.neg_num,Rat.neg_den,Int.natAbs_neg];exact hw
theorem _root_.Go.bw.Sz.neg {k:Nat}{q:Rat}(h:Sz k q):Sz k (-q):=by unfold Sz;rw [Rat.neg_num,Rat.neg_den,Int.natAbs_neg];exact h
theorem tA (z:Int)(g:Nat)(h:(g:Int)∣z):(z / g).natAbs<=z.natAbs:=by
 rw [Int.natAbs_ediv_of_dvd h,Int.natAbs_natCast];exact Nat.div_le_self _ _
theorem _root_.Go.bw.Sz.mkRat {k:Nat}{z:Int}{d:Nat}(h1:z.natAbs<2^k)(h2:d<2^k)(hk:0<k):Sz k (mkRat z d):=by
 have h3:1<2^k:=Nat.one_lt_two_pow (by omega)
 unfold Sz
 rw [Rat.num_mkRat,Rat.den_mkRat]
 split
 ·exact ⟨Nat.two_pow_pos k,h3⟩
 ·refine ⟨Nat.lt_of_le_of_lt (tA _ _ (Int.ofNat_dvd_left.2 (Nat.gcd_dvd_right _ _))) h1,Nat.lt_of_le_of_lt (Nat.div_le_self _ _) h2⟩
theorem bA {a b k m:Nat}(h1:a<2^k)(h2:b<2^m):a*b<2^(k+m):=by rw [Nat.pow_add];exact Nat.mul_lt_mul'' h1 h2
theorem rG {x y:Rat}{k m:Nat}(hx:Sz k x)(hy:Sz m y):(x.num*y.den).natAbs<2^(k+m)/\(y.num*x.den).natAbs<2^(k+m)/\(x.num*y.den+y.num*x.den).natAbs<2^(k+m+1)/\x.den*y.den<2^(k+m):=by
 have h1:(x.num*y.den).natAbs<2^(k+m):=by rw [Int.natAbs_mul,Int.natAbs_natCast];exact bA hx.1 hy.2
 have h2:(y.num*x.den).natAbs<2^(k+m):=by rw [Int.natAbs_mul,Int.natAbs_natCast,Nat.add_comm];exact bA hy.1 hx.2
 refine ⟨h1,h2,?_,bA hx.2 hy.2⟩
 rw [Nat.pow_succ];omega
theorem _root_.Go.bw.Sz.add {x y:Rat}{k m:Nat}(hx:Sz k x)(hy:Sz m y):Sz (k+m+1) (x+y):=by
 obtain ⟨-,-,h3,h4⟩:=rG hx hy
 rw [Rat.add_def']
 exact Go.bw.Sz.mkRat h3 (Nat.lt_of_lt_of_le h4 (Nat.pow_le_pow_right (by omega) (by omega))) (by omega)
theorem _root_.Go.bw.Sz.sub {x y:Rat}{k m:Nat}(hx:Sz k x)(hy:Sz m y):Sz (k+m+1) (x-y):=by
 rw [Rat.sub_eq_add_neg];exact hx.add hy.neg
theorem _root_.Go.bw.Sz.mul {x y:Rat}{k m:Nat}(hx:Sz k x)(hy:Sz m y):Sz (k+m+1) (x*y):=by
 rw [Rat.mul_def']
 refine (Go.bw.Sz.mkRat (k:=k+m+1) ?_ ?_ (by omega))
 ·rw [Int.natAbs_mul];exact Nat.lt_of_lt_of_le (bA hx.1 hy.1) (Nat.pow_le_pow_right (by omega) (by omega))
 ·exact Nat.lt_of_lt_of_le (bA hx.2 hy.2) (Nat.pow_le_pow_right (by omega) (by omega))
theorem iK {V:View}{v w:Value}{x y:Rat}(hx:RR V v x)(hy:RR V w y){k m:Nat}(hk:Sz k x)(hm:Sz m y)(hkm:k+m<1099511627776) :
  ab prog 182 #[v,w] V fun r V'=>RR V' r (x+y):=by
 obtain ⟨r0,r1,r2,rfl⟩:=hx.shape
 obtain ⟨s0,s1,s2,rfl⟩:=hy.shape
 have hxy:x+y=mkRat (x.num*y.den+y.num*x.den) (x.den*y.den):=Rat.add_def' x y
 obtain ⟨b1,b2,b3,b4⟩:=rG hk hm
 have gen:(∀Rj:View,V.Le Rj->ab prog 140 #[.agg #[.int .i64 r0,.int .i64 r1,.pointer r2]] Rj fun Qv S8=>∃LJ:Bool,∃(Hd:OA)(GY FR:Nat),Qv=.agg #[.bool LJ,.slice Hd GY FR]/\(∀Rk:View,S8.Le Rk->ab prog 141 #[.agg #[.int .i64 s0,.int .i64 s1,.pointer s2]] Rk fun Qw S9=>∃(Nt:OA)(M_ LS:Nat),Qw=.slice Nt M_ LS/\(∀Rl:View,S9.Le Rl->ab prog 214 #[.agg #[.bool LJ,.slice Hd GY FR],.agg #[.bool false,.slice Nt M_ LS]] Rl fun Qx S_=>∃LK:Bool,∃(He:OA)(GZ FT:Nat),Qx=.agg #[.bool LK,.slice He GZ FT]/\(∀Rm:View,S_.Le Rm->ab prog 140 #[.agg #[.int .i64 s0,.int .i64 s1,.pointer s2]] Rm fun Qy Ta=>∃LL:Bool,∃(Nw:OA)(Nc LW:Nat),Qy=.agg #[.bool LL,.slice Nw Nc LW]/\(∀Rn:View,Ta.Le Rn->ab prog 141 #[.agg #[.int .i64 r0,.int .i64 r1,.pointer r2]] Rn fun Qz Tb=>∃(Hf:OA)(G0 FU:Nat),Qz=.slice Hf G0 FU/\(∀Ro:View,Tb.Le Ro->ab prog 214 #[.agg #[.bool LL,.slice Nw Nc LW],.agg #[.bool false,.slice Hf G0 FU]] Ro fun QA Tc=>∃LM:Bool,∃(Hg:OA)(G1 FV:Nat),QA=.agg #[.bool LM,.slice Hg G1 FV]/\(∀Rp:View,Tc.Le Rp->ab prog 213 #[.agg #[.bool LK,.slice He GZ FT],.agg #[.bool LM,.slice Hg G1 FV]] Rp fun QB Td=>∃LN:Bool,∃(NA:OA)(Nh LZ:Nat),QB=.agg #[.bool LN,.slice NA Nh LZ]/\(∀Rq:View,Td.Le Rq->ab prog 141 #[.agg #[.int .i64 r0,.int .i64 r1,.pointer r2]] Rq fun QC Te=>∃(NB:OA)(Ni L1:Nat),QC=.slice NB Ni L1/\(∀Rr:View,Te.Le Rr->ab prog 141 #[.agg #[.int .i64 s0,.int .i64 s1,.pointer s2]] Rr fun QD Tf=>∃(Hh:OA)(Nj L7:Nat),QD=.slice Hh Nj L7/\(∀Rs:View,Tf.Le Rs->ab prog 209 #[.slice NB Ni L1,.slice Hh Nj L7] Rs fun QE Tg=>∃(NC:OA)(Nk L_:Nat),QE=.slice NC Nk L_/\(∀Ru:View,Tg.Le Ru->ab prog 190 #[.agg #[.bool LN,.slice NA Nh LZ],.slice NC Nk L_] Ru fun QF Th=>∃N6:Int,∃N7:Int,∃ND:OA,QF=.agg #[.int .i64 N6,.int .i64 N7,.pointer ND]/\(∀Rv:View,Th.Le Rv->RR Rv (.agg #[.int .i64 N6,.int .i64 N7,.pointer ND]) (x+y))))))))))))):=by
  intro V1 l1
  refine (eA (hx.le l1) hk (by omega)).mono ?_
  rintro r V2 l2 ⟨p1,n1,c1,rfl,g1⟩
  refine ⟨_,_,_,_,rfl,fun V3 l3=>(dL (hy.le (l1.trans (l2.trans l3))) hm (by omega)).mono ?_⟩
  rintro r V4 l4 ⟨p2,n2,c2,rfl,g2⟩
  have q1:=af hk.1
  have q2:=af hk.2
  have q3:=af hm.1
  have q4:=af hm.2
  refine ⟨_,_,_,rfl,fun V5 l5=>(fO _ false (g1.le (l3.trans (l4.trans l5))) (g2.le l5) (by omega)).mono ?_⟩
  rintro r V6 l6 h6
  rw [aF,mI,ae] at h6
  obtain ⟨p3,n3,c3,rfl,g3⟩:=h6
  refine ⟨_,_,_,_,rfl,fun V7 l7=>(eA (hy.le (l1.trans (l2.trans (l3.trans (l4.trans (l5.trans (l6.trans l7))))))) hm (by omega)).mono ?_⟩
  rintro r V8 l8 ⟨p4,n4,c4,rfl,g4⟩
  refine ⟨_,_,_,_,rfl,fun V9 l9=>(dL (hx.le (l1.trans (l2.trans (l3.trans (l4.trans (l5.trans (l6.trans (l7.trans (l8.trans l9))))))))) hk (by omega)).mono ?_⟩
  rintro r jr l10 ⟨p5,n5,c5,rfl,g5⟩
  refine ⟨_,_,_,rfl,fun jP bN=>(fO _ false (g4.le (l9.trans (l10.trans bN))) (g5.le bN) (by omega)).mono ?_⟩
  rintro r nk cK h12
  rw [aF,mI,ae] at h12
  obtain ⟨p6,n6,c6,rfl,g6⟩:=h12
  have q5:=af b1
  have q6:=af b2
  refine ⟨_,_,_,_,rfl,fun qu c_=>(uM _ _ (g3.le (l7.trans (l8.trans (l9.trans (l10.trans (bN.trans (cK.trans c_))))))) (g6.le c_) (by omega) (by omega)).mono ?_⟩
  rintro r nq eR Fv
  rw [aF,aF] at Fv
  obtain ⟨p7,n7,c7,rfl,g7⟩:=Fv
  have FB:=l1.trans (l2.trans (l3.trans (l4.trans (l5.trans (l6.trans (l7.trans (l8.trans (l9.trans (l10.trans (bN.trans (cK.trans (c_.trans eR))))))))))))
  refine ⟨_,_,_,_,rfl,fun ma dR=>(dL (hx.le (FB.trans dR)) hk (by omega)).mono ?_⟩
  rintro r mb dS ⟨p8,n8,c8,rfl,g8⟩
  refine ⟨_,_,_,rfl,fun oF dk=>(dL (hy.le (FB.trans (dR.trans (dS.trans dk)))) hm (by omega)).mono ?_⟩
  rintro r pK ee ⟨p9,n9,c9,rfl,g9⟩
  refine ⟨_,_,_,rfl,fun vY eF=>(fH (g8.le (dk.trans (ee.trans eF))) (g9.le eF) (by omega)).mono ?_⟩
  rintro r zy jd ⟨Hb,n10,c10,rfl,g10⟩
  rw [ae,ae] at g10
  have q7:=af b3
  have q8:=af b4
  refine ⟨_,_,_,rfl,fun xB gy=>(bX _ (g7.le (dR.trans (dS.trans (dk.trans (ee.trans (eF.trans (jd.trans gy))))))) (g10.le gy) (by omega) (by omega)).mono ?_⟩
  rintro r rF jo h22
  rw [aF,ae,←hxy] at h22
  obtain ⟨n,d,p,rfl⟩:=h22.shape
  exact ⟨_,_,_,rfl,fun zt gF=>h22.le gF⟩
 have lift:∀V1:View,V.Le V1->∀V2:View,V1.Le V2->V.Le V2:=fun _ h _ h'=>h.trans h'
 rcases hx with ⟨ex,wx⟩|⟨a,b,p,n,c,p',n',c',ex,-,-,-,-,-,wx⟩
 ·rcases hy with ⟨ey,wy⟩|⟨a,b,p,n,c,p',n',c',ey,-,-,-,-,-,wy⟩
  ·simp only [Value.agg.injEq,Array.mk.injEq,List.cons.injEq,Value.int.injEq,Value.pointer.injEq,true_and,and_true] at ex ey
   obtain ⟨rfl,rfl,rfl⟩:=ex
   obtain ⟨rfl,rfl,rfl⟩:=ey
   obtain ⟨N0,SZ⟩:=wx
   obtain ⟨N1,S0⟩:=wy
   have dx:=x.den_nz
   have dy:=y.den_nz
   have e1:i64.wrap ((x.den:Int)-1+1)=x.den:=by rw [ay (by omega)];omega
   have e2:i64.wrap ((y.den:Int)-1+1)=y.den:=by rw [ay (by omega)];omega
   refine jm _ _ _ _ _ _ V _ ⟨fun _=>⟨fun _ _=>True,⟨fun _=>⟨fun h1=>⟨fun h2 V1 l1=>?_,fun h2=>?_⟩,fun h1=>?_⟩,(fun h=>nomatch h)⟩,fun _ V1 l1 _=>⟨by trivial,fun V2 l2=>gen V2 (l1.trans l2)⟩⟩,(fun h=>nomatch h)⟩
   ·have h1:x.den=1:=by rw [beq_iff_eq] at h1;omega
    have h2:y.den=1:=by rw [beq_iff_eq] at h2;omega
    rw [ay (by omega)]
    refine (fF _ (by omega) (by omega)).mono ?_
    rintro r V2 l2 hr
    have e:((x.num+y.num:Int):Rat)=x+y:=by
     rw [hxy,h1,h2]
     simp only [Nat.mul_one,Int.natCast_one,Int.mul_one]
     exact (mkRat_one _).symm
    rw [e] at hr
    obtain ⟨n,d,p,rfl⟩:=hr.shape
    exact ⟨_,_,_,rfl,fun V3 l3=>hr.le l3⟩
   all_goals
    rw [e1,e2]
    refine fun V4 l4=>(fg _ _ N0 (by omega)).mono ?_
    rintro r V5 l5 ⟨z1,rfl,hz1⟩
    refine ⟨_,_,rfl,fun V6 l6=>(fg _ _ N1 (by omega)).mono ?_⟩
    rintro r V7 l7 ⟨z2,rfl,hz2⟩
    refine ⟨_,_,rfl,fun V8 l8=>(fg _ _ (by omega) (by omega)).mono ?_⟩
    rintro r V9 l9 ⟨z3,rfl,hz3⟩
    refine ⟨_,_,rfl,fun g1=>⟨fun g2=>⟨fun g3=>⟨fun g4=>⟨fun g5 jr l10=>?_,fun _=>⟨(),by and_intros<;>rfl,trivial⟩⟩,fun _=>⟨(),by and_intros<;>rfl,trivial⟩⟩,fun _=>⟨(),by and_intros<;>rfl,trivial⟩⟩,fun _=>⟨(),by and_intros<;>rfl,trivial⟩⟩,fun _=>⟨(),by and_intros<;>rfl,trivial⟩⟩
    rw [decide_eq_true_eq] at g1 g2 g3 g4 g5
    have k1:=hz1 g1
    have k2:=hz2 g2
    have k3:=hz3 g3
    rw [←k1] at g1
    rw [←k2] at g2
    rw [←Int.natCast_mul,Int.natAbs_natCast] at g3
    rw [←Int.natCast_mul] at k3
    rw [ay (by omega)] at g4 g5 ⊢
    rw [k3]
    refine (me _ _ (by omega) g3 (Nat.mul_ne_zero dx dy)).mono ?_
    rintro r jP bN hr
    rw [k1,k2,←hxy] at hr
    obtain ⟨n,d,p,rfl⟩:=hr.shape
    exact ⟨_,_,_,rfl,fun V3 l3=>hr.le l3⟩
  ·simp only [Value.agg.injEq,Array.mk.injEq,List.cons.injEq,Value.int.injEq,Value.pointer.injEq,true_and,and_true] at ex ey
   obtain ⟨rfl,rfl,rfl⟩:=ex
   obtain ⟨rfl,rfl,rfl⟩:=ey
   exact jm _ _ _ _ _ _ V _ ⟨fun _=>⟨fun _ _=>True,⟨(fun h=>nomatch h),fun _=>⟨(),by and_intros<;>rfl,trivial⟩⟩,fun _ V1 l1 _=>⟨by trivial,fun V2 l2=>gen V2 (l1.trans l2)⟩⟩,(fun h=>nomatch h)⟩
 ·simp only [Value.agg.injEq,Array.mk.injEq,List.cons.injEq,Value.int.injEq,Value.pointer.injEq,true_and,and_true] at ex
  obtain ⟨rfl,rfl,rfl⟩:=ex
  exact jm _ _ _ _ _ _ V _ ⟨(fun h=>nomatch h),fun _=>gen⟩
end Go.Proofs.Tryz
