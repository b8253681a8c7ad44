import Derived.Test.YtnnbfoejafcdlaaGreatDoorD10
import Derived.Test.YtnnbfoejafcdlaaGreatDoorD6
import Derived.Test.YtnnbfoejafcdlaaGreatDoorD7
set_option linter.unusedVariables false
open Go.IntKind (i64 u64 u32)
namespace Go.Proofs.Tryz
open Go.bF Go.eK
theorem yD (a:Addr)(m n:Nat):(a.add m).add n=a.add (m+n):=by
 unfold Addr.add
 by_cases h1:m=0
 ·subst h1;simp
 ·by_cases h2:n=0
  ·subst h2;simp [h1]
  ·rw [if_neg h1,if_neg h2,if_neg (by omega)]
   simp only [Nat.add_assoc]
theorem K4 {V:View}{p:OA}{n c:Nat}{ds:List Nat}(h:RD V p n c ds){k:Nat}(hk:k<n):RD V (rI p c k 1) (n-k) (c-k) (ds.drop k):=by
 have hl:=h.len
 have hc:=h.cap
 have e:rI p c k 1=ai p k:=by unfold rI;rw [if_neg (by omega),Nat.mul_one]
 rw [e]
 refine ⟨by simp;omega,by omega,fun i v hv=>?_,h.eu.drop k,fun hp=>?_⟩
 ·rw [Gh,List.getElem?_drop] at hv
  obtain ⟨ad,e1,hat⟩:=h.sl _ _ hv
  refine ⟨ad.add k,by rw [e1];rfl,?_⟩
  rw [yD];exact hat
 ·have:p.isNone=true:=by cases p<;>simp_all [ai]
  have:=h.H2 this
  omega
theorem AX {V:View}{p:OA}{n c:Nat}{ds:List Nat}(hd:RD V p n c ds)(hm:ds.length<=1099511627776)(k:Nat)(hk:k<=35184372088832) :
  ab prog 205 #[.slice p n c,.int .i64 (k:Int)] V fun r V'=>∃p' n' c',r=.slice p' n' c'/\RN V' p' n' c' (val ds / 2^k):=by
 have hl:=hd.len
 have e2:(k:Int).tdiv 32=((k / 32:Nat):Int):=by rw [Int.tdiv_eq_ediv_of_nonneg (by omega)];omega
 have e3:(k:Int).tmod 32=((k%32:Nat):Int):=by rw [Int.tmod_eq_emod_of_nonneg (by omega)];omega
 have vc:=Ah p n c k V
 have hk2:val ds / 2^k=val ds / 4294967296^(k / 32) / 2^(k%32):=by
  rw [Nat.div_div_eq_div_mul,show (4294967296:Nat)=2^32 from rfl,←Nat.pow_mul,←Nat.pow_add,Nat.div_add_mod]
 rw [hk2]
 have hwl:k / 32<=1099511627776:=by omega
 have hrl:k%32<32:=Nat.mod_lt _ (by omega)
 rw [e2,e3] at vc
 generalize k / 32=w at *
 generalize k%32=r at *
 clear e2 e3 hk2
 have w1:i64.wrap (w:Int)=(w:Int):=ay (by omega)
 have w4:u64.wrap (r:Int)=(r:Int):=aM (by omega)
 have hmin:(min r IntKind.u64.bits)=r:=by
  show min _ 64=r
  omega
 simp only [w1,w4,Int.toNat_natCast,hmin,cL] at vc
 refine vc _ ⟨by omega,fun h0 V1 l1=>?_,fun h0=>?_⟩
 ·have h0:n<=w:=by simp at h0;omega
  have hlt:=fI hd.eu
  have:4294967296^ds.length<=4294967296^w:=Nat.pow_le_pow_right (by omega) (by omega)
  rw [Nat.div_eq_of_lt (Nat.lt_of_lt_of_le hlt this),Nat.zero_div]
  exact ⟨_,_,_,rfl,RD.nil⟩
 ·have h0:w<n:=by simp at h0;omega
  clear vc
  have hxw:val ds / 4294967296^w=val (ds.drop w):=by
   have e:val ds=val (ds.take w++ds.drop w):=by rw [List.take_append_drop]
   have hlt:=fI (hd.eu.take w)
   rw [dq] at e
   rw [List.length_take,Nat.min_eq_left (by omega)] at e hlt
   rw [e,Nat.add_mul_div_left _ _ (Nat.pow_pos (by omega)),Nat.div_eq_of_lt hlt,Nat.zero_add]
  rw [hxw]
  have hx:=K4 hd h0
  have hlx:=hx.len
  clear hxw
  generalize rI p c w 1=sp at *
  generalize ds.drop w=xs at *
  generalize hN:n-w=N at *
  refine ⟨by omega,by omega,⟨by omega,by omega⟩,by omega,by omega,by omega,fun z V'=>0<=z.1/\z.1<=N/\∃es:List Nat,z.2=aD es/\es.length=N/\bP es /\
   val (es.take z.1.toNat)+4294967296^z.1.toNat*(val (xs.drop z.1.toNat) / 2^r)=val xs / 2^r,fun z=>N-z.1.toNat,
   ⟨(0,aD (List.replicate N 0)),by (try dsimp only);and_intros<;>first|exact True.intro|rfl,by (try dsimp only);omega,by (try dsimp only);omega,_,rfl,by simp,bP.rep _,by simp⟩,?_⟩
  rintro ⟨i,vs⟩ V4 l4 ⟨hi0,hi1,es,rfl,hes,hde,hv⟩
  dsimp only at hi0 hi1 hv ⊢
  obtain ⟨i,rfl⟩:=Int.eq_ofNat_of_zero_le hi0
  simp only [Int.toNat_natCast] at hv
  refine ⟨by trivial,fun h3=>?_,fun h3=>?_⟩
  ·have h3:i<N:=by simpa using h3
   have x3:i64.wrap ((i:Int)+1)=((i+1:Nat):Int):=by rw [ay (by omega)];omega
   simp only [x3,Int.toNat_natCast,Nat.mul_one,Nat.zero_add]
   refine J6 (hx.le l4) i (by omega) ?_
   have xT:=hx.eu.get (i:=i) (by omega)
   refine ⟨fun z V'=>z=((xs[i]+4294967296*(xs[i+1]?).getD 0:Nat):Int),⟨fun h4=>?_,fun h4=>?_⟩,?_⟩
   ·have h4:i+1<N:=by simp at h4;omega
    have hdy:=hx.eu.get (i:=i+1) (by omega)
    have e4:bl .or .u64 (u64.wrap ((xs[i]:Nat):Int)) (u64.wrap (u64.wrap ((xs[i+1]:Nat):Int)*2^32))=((xs[i]+4294967296*(xs[i+1]?).getD 0:Nat):Int):=by
     have e3:((2:Int)^32)=4294967296:=by decide
     rw [e3,aM (by omega),aM (x:=((xs[i+1]:Nat):Int)) (by omega),aM (by omega),Ic _ _ hdy xT,List.getElem?_eq_getElem (by omega),Option.getD_some]
     omega
    refine J6 (hx.le l4) (i+1) (by omega) ⟨by omega,((xs[i]+4294967296*(xs[i+1]?).getD 0:Nat):Int),?_,rfl⟩
    (try dsimp only);and_intros<;>first|exact True.intro|exact e4|rfl
   ·have h4:N<=i+1:=by simp at h4;omega
    have e4:u64.wrap ((xs[i]:Nat):Int)=((xs[i]+4294967296*(xs[i+1]?).getD 0:Nat):Int):=by
     rw [aM (by omega),List.getElem?_eq_none (by omega)];simp
    refine ⟨((xs[i]+4294967296*(xs[i+1]?).getD 0:Nat):Int),?_,rfl⟩
    (try dsimp only);and_intros<;>first|exact True.intro|exact e4|rfl
   rintro _ V5 l5 rfl
   have hst:=B4 (Y:=val (xs.drop (i+1))) xT hrl
   rw [pr hx.eu] at hst
   have hdrop:val (xs.drop i)=xs[i]+4294967296*val (xs.drop (i+1)):=by
    rw [List.drop_eq_getElem_cons (by omega),a_]
   rw [hdrop,hst] at hv
   rw [fx,gW]
   obtain ⟨D,hD⟩:∃D,D=(xs[i]+4294967296*(xs[i+1]?).getD 0) / 2^r%4294967296:=⟨_,rfl⟩
   have eD:(((xs[i]+4294967296*(xs[i+1]?).getD 0) / 2^r:Nat):Int)%4294967296=(D:Int):=by rw [hD];omega
   rw [eD]
   rw [←hD] at hv
   refine ⟨by trivial,by omega,⟨by omega,by omega⟩,by simp;omega,(((i+1:Nat):Int),aD (es.set i D)),?_,?_,?_⟩
   ·(try dsimp only);omega
   ·(try dsimp only);and_intros<;>first|exact True.intro|rfl|rw [←br]
   ·(try dsimp only)
    refine ⟨by omega,by omega,_,rfl,by simpa using hes,hde.set _ _ (by omega),?_⟩
    simp only [Int.toNat_natCast]
    rw [aK _ _ _ (by omega),←hv,Nat.pow_succ,Nat.mul_add,Nat.add_assoc,Nat.mul_assoc]
  ·have h3:i=N:=by simp at h3;omega
   subst h3
   intro V5 l5 bk hb
   refine (cS (RD.bC hb hde (n:=i) (c:=i) (by omega) (Nat.le_refl _)) (by omega)).mono ?_
   rintro r' V6 l6 ⟨k',rfl,h4⟩
   refine ⟨_,_,_,rfl,fun _ V7 l7=>⟨_,_,_,rfl,?_⟩⟩
   rw [ar (by omega),List.drop_of_length_le (l:=xs) (i:=i) (by omega)] at hv
   have hv:val es=val xs / 2^r:=by
    rw [←hv,d_,Nat.zero_div,Nat.mul_zero,Nat.add_zero]
   rw [aN hde,hv] at h4
   exact h4.le l7
end Go.Proofs.Tryz
namespace Go.eK
theorem rq {ds:List Nat}(hd:bP ds)(w:Nat)(hw:w<=ds.length):val ds / 4294967296^w=val (ds.drop w):=by
 have e:val ds=val (ds.take w++ds.drop w):=by rw [List.take_append_drop]
 have hlt:=fI (hd.take w)
 rw [dq] at e
 rw [List.length_take,Nat.min_eq_left (by omega)] at e hlt
 rw [e,Nat.add_mul_div_left _ _ (Nat.pow_pos (by omega)),Nat.div_eq_of_lt hlt,Nat.zero_add]
theorem N4 {R n:Nat}(h:(ag R).length=n+2):R / 4294967296^n=(ag R)[n+1]'(by omega)*4294967296+(ag R)[n]'(by omega):=by
 have:=rq (aE R) n (by omega)
 rw [ae] at this
 rw [this,List.drop_eq_getElem_cons (by omega),List.drop_eq_getElem_cons (i:=n+1) (by omega),List.drop_of_length_le (by omega)]
 simp only [a_,d_]
 omega
theorem KQ {R n:Nat}(h:(ag R).length=n+1):R / 4294967296^n=(ag R)[n]'(by omega):=by
 have:=rq (aE R) n (by omega)
 rw [ae] at this
 rw [this,List.drop_eq_getElem_cons (by omega),List.drop_of_length_le (by omega)]
 simp only [a_,d_]
 omega
theorem N3 {R n:Nat}(h:(ag R).length<=n):R / 4294967296^n=0:=Nat.div_eq_of_lt (aF.1 h)
theorem DV {V n:Nat}(h:(ag V).length=n+1):(ag V)[n]'(by omega)*4294967296^n<=V:=by
 have:=KQ h
 rw [←this]
 exact Nat.div_mul_le_self _ _
theorem Hi {R V top P W:Nat}(hV:top*P<=V)(ht:0<top)(hP:0<P)(hW:0<W):R / (V*W)<=R / (P*W) / top:=by
 rw [Nat.le_div_iff_mul_le ht,Nat.le_div_iff_mul_le (Nat.mul_pos hP hW)]
 have h1:R / (V*W)*(V*W)<=R:=Nat.div_mul_le_self _ _
 have h2:R / (V*W)*(top*P*W)<=R / (V*W)*(V*W):=Nat.mul_le_mul_left _ (Nat.mul_le_mul_right _ hV)
 have h3:R / (V*W)*top*(P*W)=R / (V*W)*(top*P*W):=by
  generalize R / (V*W)=q
  rw [Nat.mul_assoc q top,←Nat.mul_assoc top P W]
 omega
theorem FQ {A V W D R q R':Nat}(h:A=V*(W*4294967296*D)+R)(hq:R=V*q*W+R'):A=V*(W*(q+4294967296*D))+R':=by
 subst hq;rw [h];grind
theorem HO {x y s Q R:Nat}(h:x*2^s=y*2^s*Q+R)(hR:R<y*2^s):Q=x / y/\R / 2^s=x%y:=by
 have hp:=Nat.two_pow_pos s
 have hy:0<y:=by
  rcases Nat.eq_zero_or_pos y with e|e
  ·subst e;simp at hR
  ·exact e
 have h1:y*2^s*Q=(y*Q)*2^s:=by grind
 rw [h1] at h
 have h2:y*Q<=x:=by
  rcases Nat.lt_or_ge x (y*Q) with hl|hl
  ·have:(x+1)*2^s<=y*Q*2^s:=Nat.mul_le_mul_right _ hl
   rw [Nat.add_mul] at this
   omega
  ·exact hl
 obtain ⟨d,rfl⟩:=Nat.exists_eq_add_of_le h2
 rw [Nat.add_mul] at h
 have h3:R=d*2^s:=by omega
 subst h3
 have h4:d<y:=Nat.lt_of_mul_lt_mul_right hR
 rw [Nat.mul_div_cancel _ hp]
 constructor
 ·rw [Nat.mul_add_div hy,Nat.div_eq_of_lt h4,Nat.add_zero]
 ·rw [Nat.mul_add_mod,Nat.mod_eq_of_lt h4]
theorem KT (j:Nat):2^(32*j)=4294967296^j:=by rw [Nat.pow_mul]
theorem Df {R V W g:Nat}(ME:0<V*W)(h:V*g*W<=R)(hq:R / (V*W)<=g):g=R / (V*W):=by
 have:g<=R / (V*W):=by
  rw [Nat.le_div_iff_mul_le ME]
  have:g*(V*W)=V*g*W:=by grind
  omega
 omega
theorem Hj {R V W g:Nat}(ME:0<V*W)(h:R<V*g*W):R / (V*W)<g:=by
 rw [Nat.div_lt_iff_lt_mul ME]
 have:g*(V*W)=V*g*W:=by grind
 omega
theorem DM {R V W:Nat}:R=V*(R / (V*W))*W+R%(V*W):=by
 have:=Nat.div_add_mod R (V*W)
 have e:V*(R / (V*W))*W=V*W*(R / (V*W)):=by
  generalize R / (V*W)=q
  grind
 omega
theorem gQ {a b:Nat}:(ag (a*b)).length<=(ag a).length+(ag b).length:=by
 rw [aF,Nat.pow_add]
 have h1:a<4294967296^(ag a).length:=aF.1 (Nat.le_refl _)
 have h2:b<4294967296^(ag b).length:=aF.1 (Nat.le_refl _)
 exact Nat.mul_lt_mul'' h1 h2
theorem zk (j:Nat):(ag (4294967296^j)).length<=j+1:=by
 rw [aF]
 exact Nat.pow_lt_pow_right (by omega) (by omega)
end Go.eK
namespace Go.Proofs.Tryz
open Go.bF Go.eK
theorem WN {V:View}{p:OA}{n c:Nat}{ds:List Nat}(h:RD V p n c ds){i:Int}{K:Int->Prop}(j d:Nat)(hj:i=j)(hn:ds[j]?=some d)
  (hK:K (d:Int)):(p.isSome=true)/\(0<=i/\i<(n:Int))/\∃x:Int,(∃a,ai p (i.toNat*1)=some a/\V.at a (.int .u32 x))/\K x:=by
 have hl:j<ds.length:=by
  rcases Nat.lt_or_ge j ds.length with h|h
  ·exact h
  ·rw [List.getElem?_eq_none h] at hn;cases hn
 refine h.rd j hj hl ?_
 rw [List.getElem?_eq_getElem hl] at hn
 cases hn;exact hK
theorem Gf {W n:Nat}(h:(ag W).length=n+1):∃top,(ag W)[n]?=some top/\top≠0/\top<4294967296/\top*4294967296^n<=W:=by
 refine ⟨(ag W)[n]'(by omega),List.getElem?_eq_getElem _,?_,(aE W).get _,DV h⟩
 have:=(iC W).last (by omega)
 simpa [h] using this
structure xg (A V L:Nat) (R:Nat) (j:Nat) (es:List Nat):Prop where
 len:es.length=L
 eu:bP es
 lt:R<V*4294967296^j
 eq:A=V*(4294967296^j*val (es.drop j))+R
theorem xg.step {A V L R j:Nat}{es:List Nat}(h:xg A V L R (j+1) es)(hj:j<L)(hV:0<V) :
  R / (V*4294967296^j)<4294967296/\xg A V L (R-V*(R / (V*4294967296^j))*4294967296^j) j (es.set j (R / (V*4294967296^j))):=by
 have hW:0<4294967296^j:=Nat.pow_pos (by omega)
 have ME:0<V*4294967296^j:=Nat.mul_pos hV hW
 have hq:R / (V*4294967296^j)<4294967296:=by
  rw [Nat.div_lt_iff_lt_mul ME]
  have:=h.lt
  rw [Nat.pow_succ] at this
  have e:4294967296*(V*4294967296^j)=V*(4294967296^j*4294967296):=by
   generalize 4294967296^j=w
   grind
  omega
 have hs:=DM (R:=R) (V:=V) (W:=4294967296^j)
 have hm:=Nat.mod_lt R ME
 have he:R-V*(R / (V*4294967296^j))*4294967296^j=R%(V*4294967296^j):=by omega
 refine ⟨hq,⟨by simpa using h.len,h.eu.set _ _ hq,by rw [he];exact hm,?_⟩⟩
 have hl:=h.len
 rw [List.drop_eq_getElem_cons (by simp;omega),List.getElem_set_self,List.drop_set_of_lt (by omega),a_,he]
 exact FQ (by have:=h.eq;rwa [Nat.pow_succ] at this) hs
theorem IA {R V j:Nat}(h:R<V*4294967296^(j+1)):(ag R).length<=(ag V).length+j+1:=by
 have h1:V*4294967296^(j+1)<=4294967296^(ag V).length*4294967296^(j+1):=Nat.mul_le_mul_right _ (Nat.le_of_lt (aF.1 (Nat.le_refl _)))
 rw [←Nat.pow_add] at h1
 have:=aF.2 (Nat.lt_of_lt_of_le h h1)
 omega
theorem JQ {R n:Nat}(h:(ag R).length<=n+2):R / 4294967296^n<18446744073709551616:=by
 rw [Nat.div_lt_iff_lt_mul (Nat.pow_pos (by omega))]
 have:=aF.1 h
 rw [Nat.pow_succ,Nat.pow_succ] at this
 have e:4294967296^n*4294967296*4294967296=18446744073709551616*4294967296^n:=by
  generalize 4294967296^n=w
  omega
 omega
theorem C3 {V:View}{p q:OA}{n c m e:Nat}{x y:Nat}(hx:RN V p n c x)(hy:RN V q m e y)(hm:(ag x).length<=274877906944)(hy0:0<y)(hle:(ag y).length<=(ag x).length) :
  ab prog 173 #[.slice p n c,.slice q m e] V fun r V'=>∃p1 n1 c1 p2 n2 c2,r=.tuple #[.slice p1 n1 c1,.slice p2 n2 c2]/\RN V' p1 n1 c1 (x / y)/\RN V' p2 n2 c2 (x%y):=by
 have hlx:=hx.len
 have xV:=hy.len
 have hm0:0<m:=by
  rcases Nat.eq_zero_or_pos m with h|h
  ·have:=bq.1 (List.length_eq_zero_iff.1 (xV▸h));omega
  ·exact h
 have vc:=Cz p n c q m e V
 have w1:i64.wrap ((m:Int)-1)=((m-1:Nat):Int):=by rw [ay (by omega)];omega
 have w2:i64.wrap ((n:Int)-m)=((n-m:Nat):Int):=by rw [ay (by omega)];omega
 have w3:i64.wrap (((n-m:Nat):Int)+1)=((n-m+1:Nat):Int):=by rw [ay (by omega)];omega
 have w4:i64.wrap (((n-m+1:Nat):Int)-1)=((n-m:Nat):Int):=by rw [ay (by omega)];omega
 simp only [w1,w2,w3,Int.toNat_natCast,w4,cL] at vc
 obtain ⟨L,hL⟩:∃L,L=n-m+1:=⟨_,rfl⟩
 rw [←hL] at vc
 refine vc _ ?_
 clear vc
 refine hy.rd (m-1) rfl (by omega) fun V1 l1=>(fO _ ((aE y).get (by omega))).mono ?_
 rintro r V2 l2 rfl
 have hbl:bJ ((ag y)[m-1]'(by omega))<=32:=iS.2 (by have:=(aE y).get (i:=m-1) (by omega);omega)
 obtain ⟨s,hs⟩:∃s:Nat,(32:Int)-(bJ ((ag y)[m-1]'(by omega)):Int)=s:=⟨32-bJ ((ag y)[m-1]'(by omega)),by omega⟩
 have JI:s<=32:=by omega
 rw [hs]
 clear hs hbl
 refine ⟨_,rfl,fun V3 l3=>(kj (hy.le (l1.trans (l2.trans l3))) (by omega) s (by omega)).mono ?_⟩
 rintro r V4 l4 ⟨vp,vn,vc,rfl,hv⟩
 rw [ae] at hv
 refine ⟨_,_,_,rfl,fun V5 l5=>(kj (hx.le (l1.trans (l2.trans (l3.trans (l4.trans l5))))) (by omega) s (by omega)).mono ?_⟩
 rintro r V6 l6 ⟨rp,rn,rc,rfl,hr⟩
 rw [ae] at hr
 replace hv:=hv.le (l5.trans l6)
 have hlv:=hv.len
 have hsp:=Nat.two_pow_pos s
 have hs2:2^s<=4294967296:=Nat.pow_le_pow_right (n:=2) (by omega) JI
 have Nr:0<y*2^s:=Nat.mul_pos hy0 hsp
 have hsl:(ag (2^s)).length<=2:=aF.2 (by omega)
 have hvl:vn<=m+2:=by have:=gQ (a:=y) (b:=2^s);omega
 have XT:0<vn:=by
  rcases Nat.eq_zero_or_pos vn with h|h
  ·have:=bq.1 (List.length_eq_zero_iff.1 (hlv▸h));omega
  ·exact h
 have hinit:xg (x*2^s) (y*2^s) L (x*2^s) L (List.replicate L 0):=by
  refine ⟨by simp,bP.rep _,?_,by simp⟩
  have h1:x<4294967296^n:=by rw [hlx];exact aF.1 (Nat.le_refl _)
  have h2:4294967296^(m-1)<=y:=by rw [←qS];omega
  have h3:4294967296^(m-1)*4294967296^L<=y*4294967296^L:=Nat.mul_le_mul_right _ h2
  rw [←Nat.pow_add,show m-1+L=n from by omega] at h3
  have h4:x*2^s<y*4294967296^L*2^s:=Nat.mul_lt_mul_of_pos_right (by omega) hsp
  have h5:y*4294967296^L*2^s=y*2^s*4294967296^L:=by
   generalize 4294967296^L=w
   grind
  omega
 have hend:∀{Q R:Nat},x*2^s=y*2^s*Q+R->R<y*2^s->Q=x / y/\R / 2^s=x%y:=fun h1 h2=>HO h1 h2
 generalize x*2^s=A at *
 generalize y*2^s=W at *
 have w5:i64.wrap ((vn:Int)-1)=((vn-1:Nat):Int):=by rw [ay (by omega)];omega
 simp only [w5,Int.toNat_natCast]
 refine ⟨_,_,_,rfl,?_⟩
 obtain ⟨top,Wa,TP,TQ,NI⟩:=Gf (W:=W) (n:=vn-1) (by omega)
 refine WN hv (vn-1) top rfl Wa ?_
 have w6:u64.wrap (top:Int)=top:=aM (by omega)
 simp only [w6]
 refine ⟨by omega,by omega,by omega,fun z V'=>∃R:Nat,RN V' z.1 z.2.1 z.2.2.1 R/\-1<=z.2.2.2.1/\z.2.2.2.1<L/\∃es:List Nat,z.2.2.2.2=aD es/\xg A W L R (z.2.2.2.1+1).toNat es,fun z=>(z.2.2.2.1+1).toNat,
  ⟨(rp,rn,rc,((n-m:Nat):Int),aD (List.replicate L 0)),by (try dsimp only);and_intros<;>first|exact True.intro|rfl,A,hr,by (try dsimp only);omega,by (try dsimp only);omega,_,rfl,?_⟩,?_⟩
 ·(try dsimp only)
  rw [show (((n-m:Nat):Int)+1).toNat=L from by omega]
  exact hinit
 rintro ⟨rp,rn,rc,j,vs⟩ V7 l7 ⟨R,hR,hj0,hj1,es,rfl,hI⟩
 dsimp only at hR hj0 hj1 hI ⊢
 have hlr:=hR.len
 refine ⟨by trivial,fun h3=>?_,fun h3=>?_⟩
 ·have h3:0<=j:=by simpa using h3
  obtain ⟨j,rfl⟩:=Int.eq_ofNat_of_zero_le h3
  have hI:xg A W L R (j+1) es:=hI
  have VN:j<L:=by omega
  have hrl:=IA hI.lt
  obtain ⟨hq,hI'⟩:=hI.step VN Nr
  have w7:i64.wrap ((vn:Int)+j)=((vn-1+j+1:Nat):Int):=by rw [ay (by omega)];omega
  have w8:i64.wrap (((vn-1+j+1:Nat):Int)-1)=((vn-1+j:Nat):Int):=by rw [ay (by omega)];omega
  have w9:i64.wrap ((32:Int)*j)=((32*j:Nat):Int):=by rw [ay (by omega)];omega
  have SF:i64.wrap ((j:Int)-1)=(j:Int)-1:=ay (by omega)
  simp only [w7,w8,w9,SF,Int.toNat_natCast]
  have hrl:(ag R).length<=vn-1+j+2:=by omega
  have hld:=JQ hrl
  have hP:0<4294967296^(vn-1):=Nat.pow_pos (by omega)
  have hW:0<4294967296^j:=Nat.pow_pos (by omega)
  have hg:=Hi (R:=R) NI (by omega) hP hW
  rw [←Nat.pow_add] at hg
  have l2:=@N4 R (vn-1+j)
  have l1:=@KQ R (vn-1+j)
  have l0:=@N3 R (vn-1+j)
  have hlast:∀i (hi:i<(ag R).length),(ag R)[i]<4294967296:=fun i hi=>(aE R).get hi
  generalize R / 4294967296^(vn-1+j)=lead at *
  refine ⟨fun z V'=>z=(lead:Int),⟨fun h4=>?_,fun h4=>?_⟩,?_⟩
  ·have h4:vn-1+j+1<rn:=by simp at h4;omega
   refine (hR.rd (vn-1+j+1) rfl (by omega) ⟨by omega,hR.rd (vn-1+j) rfl (by omega) ⟨(lead:Int),?_,rfl⟩⟩)
   have e4:bl .or .u64 (u64.wrap (u64.wrap (((ag R)[vn-1+j+1]'(by omega):Nat):Int)*2^32)) (u64.wrap (((ag R)[vn-1+j]'(by omega):Nat):Int))=(lead:Int):=by
    have e3:((2:Int)^32)=4294967296:=by decide
    have g1:=hlast (vn-1+j+1) (by omega)
    have g2:=hlast (vn-1+j) (by omega)
    have:=l2 (by omega)
    rw [e3,aM (x:=(((ag R)[vn-1+j+1]'(by omega):Nat):Int)) (by omega),aM (x:=(((ag R)[vn-1+j]'(by omega):Nat):Int)) (by omega),aM (by omega),BI _ _ g1 g2,this]
    omega
   (try dsimp only);and_intros<;>first|exact True.intro|exact e4|rfl
  ·have h4:rn<=vn-1+j+1:=by simp at h4;omega
   refine ⟨fun z V'=>z=(lead:Int),⟨fun h5=>?_,fun h5=>?_⟩,?_⟩
   ·have h5:vn-1+j<rn:=by simp at h5;omega
    refine hR.rd (vn-1+j) rfl (by omega) ⟨(lead:Int),?_,rfl⟩
    have e4:u64.wrap (((ag R)[vn-1+j]'(by omega):Nat):Int)=(lead:Int):=by
     have g2:=hlast (vn-1+j) (by omega)
     rw [aM (by omega),l1 (by omega)]
    (try dsimp only);and_intros<;>first|exact True.intro|exact e4|rfl
   ·have h5:rn<=vn-1+j:=by simp at h5;omega
    have e4:(0:Int)=(lead:Int):=by rw [l0 (by omega)];rfl
    refine ⟨(lead:Int),?_,rfl⟩
    (try dsimp only);and_intros<;>first|exact True.intro|exact e4|rfl
   ·rintro _ V8 l8 rfl
    refine ⟨by trivial,(lead:Int),?_,rfl⟩
    (try dsimp only);and_intros<;>first|exact True.intro|rfl
  rintro _ V9 l9 rfl
  clear l2 l1 l0 hlast
  have Nc:(lead:Int).tdiv (top:Int)=((lead / top:Nat):Int):=by rw [Int.tdiv_eq_ediv_of_nonneg (by omega)];omega
  have hlt:lead / top<=lead:=Nat.div_le_self _ _
  rw [Nc]
  generalize lead / top=lt at *
  obtain ⟨g0,hg0,Lt,QT⟩:∃g0:Nat,bN (u64.wrap (lt:Int)) 4294967295=(g0:Int)/\g0<4294967296/\R / (W*4294967296^j)<=g0:=by
   rw [aM (by omega)]
   unfold bN
   split
   ·exact ⟨4294967295,rfl,by omega,by omega⟩
   ·exact ⟨lt,rfl,by omega,hg⟩
  rw [hg0]
  clear hg0 Nc hlt hg hld
  have TG:0<W*4294967296^j:=Nat.mul_pos Nr hW
  have hsz:∀g:Nat,g<4294967296->(ag g).length<=1:=fun g hg=>aF.2 (by omega)
  refine ⟨by trivial,by omega,fun jm l10=>(dk g0 (by omega)).mono ?_⟩
  rintro r kR bW ⟨gp,gn,gc,rfl,h11⟩
  refine ⟨_,_,_,rfl,fun nZ dh=>(cR (hv.le (l7.trans (l9.trans (l10.trans (bW.trans dh))))) (h11.le dh) (by have:=hsz g0 Lt;omega)).mono ?_⟩
  rintro r sY dL ⟨pp,pn,pc,rfl,MB⟩
  rw [ae,ae] at MB
  have hpl:=fun g=>gQ (a:=W) (b:=g)
  refine ⟨_,_,_,rfl,fun pF fk=>(kj (MB.le fk) (by have:=hsz g0 Lt;have:=hpl g0;omega) (32*j) (by omega)).mono ?_⟩
  rintro r n_ eZ ⟨tp,tn,tc,rfl,MC⟩
  rw [ae,KT] at MC
  have Nq:=hR.le (l9.trans (l10.trans (bW.trans (dh.trans (dL.trans (fk.trans eZ))))))
  have Q_:=hv.le (l7.trans (l9.trans (l10.trans (bW.trans (dh.trans (dL.trans (fk.trans eZ)))))))
  refine ⟨_,_,_,rfl,fun z V'=>∃g:Nat,z.1=g/\g<4294967296/\R / (W*4294967296^j)<=g/\RN V' z.2.1 z.2.2.1 z.2.2.2 (W*g*4294967296^j),fun z=>z.1.toNat,
   ⟨((g0:Int),tp,tn,tc),by (try dsimp only);and_intros<;>first|exact True.intro|rfl,g0,rfl,Lt,QT,MC⟩,?_⟩
  rintro ⟨_,tp,tn,tc⟩ oa eF ⟨g,rfl,hgb,VL,ht⟩
  dsimp only at ht ⊢
  have htl:(ag (W*g*4294967296^j)).length<=1099511627776:=by
   have h1:=gQ (a:=W*g) (b:=4294967296^j)
   have h2:=zk j
   have h3:=hpl g
   have h4:=hsz g hgb
   omega
  refine ⟨by trivial,fun pH ew=>(hJ (ht.le ew) (Nq.le (eF.trans ew)) htl (by omega)).mono ?_⟩
  rintro r sE fo rfl
  refine ⟨_,rfl,fun h6=>?_,fun h6=>?_⟩
  ·have h6:R<W*g*4294967296^j:=by
    have h6:0<jI (W*g*4294967296^j) R:=by simpa using h6
    unfold jI at h6
    split at h6
    ·omega
    ·split at h6
     ·assumption
     ·omega
   have hgo:=Hj TG h6
   have hg1:0<g:=Nat.lt_of_le_of_lt (Nat.zero_le _) hgo
   have e1:u64.wrap ((g:Int)-1)=((g-1:Nat):Int):=by rw [aM (by omega)];omega
   simp only [e1]
   refine fun xh fl=>(dk (g-1) (by omega)).mono ?_
   rintro r CF jN ⟨gp,gn,gc,rfl,h20⟩
   refine ⟨_,_,_,rfl,fun xi gG=>(cR (Q_.le (eF.trans (ew.trans (fo.trans (fl.trans (jN.trans gG)))))) (h20.le gG) (by have:=hsz (g-1) (by omega);omega)).mono ?_⟩
   rintro r vO kO ⟨pp,pn,pc,rfl,h22⟩
   rw [ae,ae] at h22
   refine ⟨_,_,_,rfl,fun CG je=>(kj (h22.le je) (by have:=hsz (g-1) (by omega);have:=hpl (g-1);omega) (32*j) (by omega)).mono ?_⟩
   rintro r Jf Dr ⟨tp,tn,tc,rfl,Tz⟩
   rw [ae,KT] at Tz
   refine ⟨_,_,_,rfl,(((g-1:Nat):Int),tp,tn,tc),?_,by (try dsimp only);and_intros<;>first|exact True.intro|rfl,g-1,rfl,by omega,by omega,Tz⟩
   (try dsimp only);omega
  ·have h6:W*g*4294967296^j<=R:=by
    have h6:¬0<jI (W*g*4294967296^j) R:=by simpa using h6
    unfold jI at h6
    split at h6
    ·omega
    ·split at h6
     ·omega
     ·omega
   have hstop:=Df TG h6 VL
   rw [←hstop] at hI'
   have hes:=hI.len
   refine ⟨⟨by omega,by omega⟩,by simp;omega,fun I9 sM=>(nk (Nq.le (eF.trans (ew.trans (fo.trans sM)))) (ht.le (ew.trans (fo.trans sM))) (by omega) (aH h6) (by rw [ae,ae];exact h6)).mono ?_⟩
   rintro r Kw Aw ⟨np,nn,nc,rfl,TA⟩
   rw [ae,ae] at TA
   have e1:u32.wrap (g:Int)=(g:Int):=po (by omega)
   have e2:(aD es).set (0+j*1) (.int .u32 (g:Int))=aD (es.set j g):=by rw [←br];simp
   simp only [e1]
   refine ⟨_,_,_,rfl,(np,nn,nc,(j:Int)-1,aD (es.set j g)),?_,by (try dsimp only);and_intros<;>first|exact True.intro|rfl|exact e2|(rw [←br];simp),R-W*g*4294967296^j,TA,by (try dsimp only);omega,by (try dsimp only);omega,_,rfl,?_⟩
   ·(try dsimp only);omega
   ·(try dsimp only)
    rw [show ((j:Int)-1+1).toNat=j from by omega]
    exact hI'
 ·have h3:j=-1:=by simp at h3;omega
  subst h3
  have Q6:(ag R).length<=1099511627776:=by
   have h6:=hI.lt
   have h6:R<W:=by simpa using h6
   have:=aH (Nat.le_of_lt h6)
   omega
  intro V8 l8 bk hb
  refine (cS (RD.bC hb hI.eu (n:=L) (c:=L) hI.len.symm (Nat.le_refl _)) (by have:=hI.len;omega)).mono ?_
  rintro r V9 l9 ⟨k,rfl,h4⟩
  refine ⟨_,_,_,rfl,fun _ jm l10=>(AX (hR.le (l8.trans (l9.trans l10))) Q6 s (by omega)).mono ?_⟩
  rintro r kR bW ⟨p2,n2,c2,rfl,h5⟩
  rw [ae] at h5
  refine ⟨_,_,_,rfl,fun nZ dh=>⟨_,_,_,_,_,_,rfl,?_,?_⟩⟩
  ·have h6:=hI.lt
   have h7:=hI.eq
   have h6:R<W:=by simpa using h6
   have h7:A=W*val es+R:=by simpa using h7
   obtain ⟨g1,g2⟩:=hend h7 h6
   rw [aN hI.eu,g1] at h4
   exact h4.le (l10.trans (bW.trans dh))
  ·have h6:=hI.lt
   have h7:=hI.eq
   have h6:R<W:=by simpa using h6
   have h7:A=W*val es+R:=by simpa using h7
   obtain ⟨g1,g2⟩:=hend h7 h6
   rw [g2] at h5
   exact h5.le dh
theorem pD {x:Nat}(h:(ag x).length<=2):x<18446744073709551616:=by
 have:=aF.1 h
 omega
theorem copied {V:View}{b n c:Nat}{ds:List Nat}{sp:List Value}{ty:TypeId}(hd:bP ds)(hn:n=ds.length)(hc:n<=c)(hb:V.bC b (.cells (aD ds++sp).toArray ty (0,0))):RD V (some ⟨b,0,none⟩) n c ds:=by
 refine ⟨hn,hc,fun i v hv=>⟨_,rfl,?_⟩,hd,fun e=>nomatch e⟩
 rw [add_zero']
 refine fN hb ?_
 rw [List.getElem?_append_left]
 ·exact hv
 ·rcases Nat.lt_or_ge i (aD ds).length with e|e
  ·exact e
  ·rw [List.getElem?_eq_none e] at hv;cases hv
theorem dW {V:View}{p q:OA}{n c m e:Nat}{x y:Nat}(hx:RN V p n c x)(hy:RN V q m e y)(hm:(ag x).length<=274877906944)(hm':(ag y).length<=274877906944)(hy0:0<y) :
  ab prog 125 #[.slice p n c,.slice q m e] V fun r V'=>∃p1 n1 c1 p2 n2 c2,r=.tuple #[.slice p1 n1 c1,.slice p2 n2 c2]/\RN V' p1 n1 c1 (x / y)/\RN V' p2 n2 c2 (x%y):=by
 have hlx:=hx.len
 have xV:=hy.len
 have hm0:0<m:=by
  rcases Nat.eq_zero_or_pos m with h|h
  ·have:=bq.1 (List.length_eq_zero_iff.1 (xV▸h));omega
  ·exact h
 refine wT p n c q m e V _ fun V1 l1=>(kl (hx.le l1) (by omega)).mono ?_
 rintro r V2 l2 rfl
 rw [ae]
 refine ⟨_,_,rfl,fun z V'=>True,⟨fun h0=>?_,fun h0=>⟨(),by (try dsimp only);and_intros<;>first|exact True.intro|rfl,trivial⟩⟩,?_⟩
 ·have h0:n<=2:=by simpa using h0
  refine fun V3 l3=>(kl (hy.le (l1.trans (l2.trans l3))) (by omega)).mono ?_
  rintro r V4 l4 rfl
  rw [ae]
  refine ⟨_,_,rfl,fun h1=>?_,fun h1=>⟨(),by (try dsimp only);and_intros<;>first|exact True.intro|rfl,trivial⟩⟩
  have h1:m<=2:=by simpa using h1
  have hxw:=pD (x:=x) (by omega)
  have TU:=pD (x:=y) (by omega)
  rw [if_pos h0,if_pos h1]
  have hq:x / y<=x:=Nat.div_le_self _ _
  have hr:x%y<y:=Nat.mod_lt _ hy0
  have e1:((x:Nat):Int).tdiv (y:Int)=((x / y:Nat):Int):=by rw [Int.tdiv_eq_ediv_of_nonneg (by omega)];omega
  have e2:((x:Nat):Int).tmod (y:Int)=((x%y:Nat):Int):=by rw [Int.tmod_eq_emod_of_nonneg (by omega)];omega
  rw [e1,e2]
  generalize x / y=qq at *
  generalize x%y=rr at *
  have e3:u64.wrap (qq:Int)=qq:=aM (by omega)
  rw [e3]
  refine ⟨by omega,by omega,fun V5 l5=>(dk qq (by omega)).mono ?_⟩
  rintro r V6 l6 ⟨p1,n1,c1,rfl,g1⟩
  refine ⟨_,_,_,rfl,fun V7 l7=>(dk rr (by omega)).mono ?_⟩
  rintro r V8 l8 ⟨p2,n2,c2,rfl,g2⟩
  exact ⟨_,_,_,rfl,fun V9 l9=>⟨_,_,_,_,_,_,rfl,g1.le (l7.trans (l8.trans l9)),g2.le l9⟩⟩
 rintro _ jm l10 _
 replace hx:=hx.le (l1.trans (l2.trans l10))
 replace hy:=hy.le (l1.trans (l2.trans l10))
 refine ⟨by trivial,fun kR bW=>(hJ (hx.le bW) (hy.le bW) (by omega) (by omega)).mono ?_⟩
 rintro r nZ dh rfl
 replace hx:=hx.le (bW.trans dh)
 replace hy:=hy.le (bW.trans dh)
 refine ⟨_,rfl,fun h0=>⟨aD (ag x),hx.sl,by simp [hlx],by omega,by omega,by simp,by simp [hlx],?_,?_⟩,fun h0=>⟨fun h1=>?_,fun h1=>?_⟩⟩
 ·intro v hv
  simp only [aD,List.mem_map] at hv
  obtain ⟨d,-,rfl⟩:=hv
  rfl
 ·have h0:x<y:=by simpa [fv] using h0
  intro bk J sp c' h1 h2 V1 l1 b hb
  rw [Nat.div_eq_of_lt h0,Nat.mod_eq_of_lt h0]
  refine ⟨_,_,_,_,_,_,rfl,RD.nil,?_⟩
  simp only [Nat.zero_add,Nat.zero_mul,List.take_zero,List.nil_append] at hb h1 ⊢
  exact copied (aE x) hlx h1 hb
 ·have h0:y<=x:=by simpa [←Int.not_lt,fv] using h0
  have h1:m=1:=by simp at h1;omega
  subst h1
  obtain ⟨d,hd⟩:=kx (ds:=ag y) (by omega)
  have hdy:d=y:=by have:=ae y;rw [hd] at this;simpa using this
  subst hdy
  have hdl:d<4294967296:=by have:=aE d;rw [hd] at this;exact (bP.cons.1 this).1
  try unfold RN at hy
  rw [hd] at hy
  have hn0:0<n:=by have:=aH h0;omega
  have w1:i64.wrap ((n:Int)-1)=(n:Int)-1:=ay (by omega)
  simp only [w1,Int.toNat_natCast,cL]
  have xT:=aE x
  have NN:=ae x
  try unfold RN at hx
  clear hd
  rw [←NN]
  clear NN h0
  generalize ag x=xs at *
  refine ⟨by omega,by omega,by omega,fun z V'=>0<=z.1/\z.1<d/\-1<=z.2.1/\z.2.1<n/\∃es:List Nat,z.2.2=aD es/\es.length=n/\bP es /\
   val (xs.drop (z.2.1+1).toNat)=d*val (es.drop (z.2.1+1).toNat)+z.1.toNat,fun z=>(z.2.1+1).toNat,
   ⟨(0,(n:Int)-1,aD (List.replicate n 0)),by (try dsimp only);and_intros<;>first|exact True.intro|rfl,by (try dsimp only);omega,by (try dsimp only);omega,by (try dsimp only);omega,by (try dsimp only);omega,_,rfl,by simp,bP.rep _,?_⟩,?_⟩
  ·(try dsimp only)
   rw [List.drop_of_length_le (by omega),List.drop_of_length_le (by simp)];rfl
  rintro ⟨rest,i,vs⟩ pF fk ⟨hr0,hr1,hi0,hi1,es,rfl,hes,hde,hv⟩
  dsimp only at hr0 hr1 hi0 hi1 hv ⊢
  obtain ⟨rest,rfl⟩:=Int.eq_ofNat_of_zero_le hr0
  refine ⟨by trivial,fun h3=>?_,fun h3=>?_⟩
  ·have h3:0<=i:=by simpa using h3
   obtain ⟨i,rfl⟩:=Int.eq_ofNat_of_zero_le h3
   have hi2:((i:Int)+1).toNat=i+1:=by omega
   rw [hi2] at hv
   simp only [Int.toNat_natCast] at hv ⊢
   have QR:=xT.get (i:=i) (by omega)
   refine (hx.le fk).rd i rfl (by omega) (BR (hy.le fk) (by simp) fun n_ eZ=>(Jl rest xs[i] d (by omega) QR hdl).mono ?_)
   rintro r oa eF rfl
   have hq:(rest*4294967296+xs[i]) / d<4294967296:=by
    rw [Nat.div_lt_iff_lt_mul (by omega)]
    have:rest+1<=d:=by omega
    have:=Nat.mul_le_mul_right 4294967296 this
    rw [Nat.mul_comm 4294967296 d]
    omega
   have hr:(rest*4294967296+xs[i])%d<d:=Nat.mod_lt _ (by omega)
   have Gt:=Nat.div_add_mod (rest*4294967296+xs[i]) d
   generalize (rest*4294967296+xs[i]) / d=q at *
   generalize (rest*4294967296+xs[i])%d=r at *
   have w2:i64.wrap ((i:Int)-1)=(i:Int)-1:=ay (by omega)
   simp only [w2]
   refine ⟨_,_,rfl,⟨by omega,by omega⟩,by simp;omega,((r:Int),(i:Int)-1,aD (es.set i q)),?_,?_,?_⟩
   ·(try dsimp only);omega
   ·(try dsimp only);and_intros<;>first|exact True.intro|rfl|(rw [←br];simp)
   ·(try dsimp only)
    refine ⟨by omega,by omega,by omega,by omega,_,rfl,by simpa using hes,hde.set _ _ (by omega),?_⟩
    have hi3:((i:Int)-1+1).toNat=i:=by omega
    rw [hi3,List.drop_eq_getElem_cons (by omega),List.drop_eq_getElem_cons (l:=es.set i q) (by simp;omega),List.getElem_set_self,List.drop_set_of_lt (by omega)]
    have h9:xs[i]+4294967296*val (List.drop (i+1) xs)=d*(q+4294967296*val (List.drop (i+1) es))+r:=uQ hv Gt
    rw [a_,a_,Int.toNat_natCast]
    exact h9
  ·have h3:i=-1:=by simp at h3;omega
   subst h3
   simp only [Int.toNat_natCast] at hv
   have hv:val xs=d*val es+rest:=by simpa using hv
   intro pH ew bk hb
   refine (cS (RD.bC hb hde (n:=n) (c:=n) (by omega) (Nat.le_refl _)) (by omega)).mono ?_
   rintro r sE fo ⟨k,rfl,h4⟩
   refine ⟨_,_,_,rfl,fun _ xh fl bk2 hb2=>?_⟩
   have hb2:xh.bC bk2 (.cells (aD [rest]).toArray 188 (0,0)):=by
    simpa [aD] using hb2
   refine (cS (RD.bC hb2 (n:=1) (c:=1) (by simp [bP];omega) rfl (Nat.le_refl _)) (by simp)).mono ?_
   rintro r CF jN ⟨k2,rfl,h5⟩
   refine ⟨_,_,_,rfl,fun _ xi gG=>⟨_,_,_,_,_,_,rfl,?_,?_⟩⟩
   ·have e1:val xs / d=val es:=by rw [hv,Nat.mul_add_div (by omega),Nat.div_eq_of_lt (by omega),Nat.add_zero]
    rw [aN hde] at h4
    rw [e1]
    exact h4.le (fl.trans (jN.trans gG))
   ·have e2:val xs%d=rest:=by rw [hv,Nat.mul_add_mod,Nat.mod_eq_of_lt (by omega)]
    rw [aN (by simp [bP];omega)] at h5
    have e3:val [rest]=rest:=by simp
    rw [e3] at h5
    rw [e2]
    exact h5.le gG
 ·have h0:y<=x:=by simpa [←Int.not_lt,fv] using h0
  refine fun sY dL=>(C3 (hx.le dL) (hy.le dL) hm hy0 (aH h0)).mono ?_
  rintro r pF fk ⟨p1,n1,c1,p2,n2,c2,rfl,g1,g2⟩
  exact ⟨_,_,_,_,_,_,rfl,fun n_ eZ=>⟨_,_,_,_,_,_,rfl,g1.le eZ,g2.le eZ⟩⟩
theorem kh {V:View}{p q:OA}{n c m e:Nat}{x y:Nat}(hx:RN V p n c x)(hy:RN V q m e y)(hm:(ag x).length<=274877906944)(hm':(ag y).length<=274877906944) :
  ab prog 124 #[.slice p n c,.slice q m e] V fun r V'=>∃p1 n1 c1,r=.slice p1 n1 c1/\RN V' p1 n1 c1 (Nat.gcd x y):=by
 have hlx:=hx.len
 have xV:=hy.len
 refine wS p n c q m e V _ fun V1 l1=>(kl (hx.le l1) (by omega)).mono ?_
 rintro r V2 l2 rfl
 rw [ae]
 refine ⟨_,_,rfl,fun z V'=>True,⟨fun h0=>?_,fun h0=>⟨(),by (try dsimp only);and_intros<;>first|exact True.intro|rfl,trivial⟩⟩,?_⟩
 ·have h0:n<=2:=by simpa using h0
  refine fun V3 l3=>(kl (hy.le (l1.trans (l2.trans l3))) (by omega)).mono ?_
  rintro r V4 l4 rfl
  rw [ae]
  refine ⟨_,_,rfl,fun h1=>?_,fun h1=>⟨(),by (try dsimp only);and_intros<;>first|exact True.intro|rfl,trivial⟩⟩
  have h1:m<=2:=by simpa using h1
  have hxw:=pD (x:=x) (by omega)
  have TU:=pD (x:=y) (by omega)
  rw [if_pos h0,if_pos h1]
  refine ⟨fun z V'=>∃a b:Nat,z=((a:Int),(b:Int))/\a<18446744073709551616/\b<18446744073709551616/\Nat.gcd a b=Nat.gcd x y,fun z=>z.2.toNat,
   ⟨((x:Int),(y:Int)),by (try dsimp only);and_intros<;>first|exact True.intro|rfl,x,y,rfl,hxw,TU,rfl⟩,?_⟩
  rintro _ V5 l5 ⟨a,b,rfl,ha,hb,hg⟩
  dsimp only
  refine ⟨by trivial,fun h3=>?_,fun h3=>?_⟩
  ·have h3:0<b:=by simpa using h3
   have e2:(a:Int).tmod (b:Int)=((a%b:Nat):Int):=by rw [Int.tmod_eq_emod_of_nonneg (by omega)];omega
   have hr:a%b<b:=Nat.mod_lt _ h3
   refine ⟨by omega,((b:Int),((a%b:Nat):Int)),?_,by (try dsimp only);and_intros<;>first|exact True.intro|rfl|exact e2,b,a%b,rfl,hb,by omega,?_⟩
   ·(try dsimp only);simp only [Int.toNat_natCast];exact hr
   ·rw [←hg,Nat.gcd_comm a b,Nat.gcd_rec b a,Nat.gcd_comm]
  ·have h3:b=0:=by simp at h3;omega
   subst h3
   rw [Nat.gcd_zero_right] at hg
   refine fun V6 l6=>(dk a ha).mono ?_
   rintro r V7 l7 ⟨p1,n1,c1,rfl,g1⟩
   rw [hg] at g1
   exact ⟨_,_,_,rfl,fun V8 l8=>⟨_,_,_,rfl,g1.le l8⟩⟩
 rintro _ V9 l9 _
 replace hx:=hx.le (l1.trans (l2.trans l9))
 replace hy:=hy.le (l1.trans (l2.trans l9))
 refine ⟨by trivial,fun z k V'=>∃a b:Nat,RN V' z.1 z.2.1 z.2.2.1 a/\RN V' z.2.2.2.1 z.2.2.2.2.1 z.2.2.2.2.2 b/\b=k/\(ag a).length<=274877906944/\(ag b).length<=274877906944/\Nat.gcd a b=Nat.gcd x y,
  ⟨(p,n,c,q,m,e),y,by (try dsimp only);and_intros<;>first|exact True.intro|rfl,x,y,hx,hy,rfl,hm,hm',rfl⟩,?_⟩
 rintro ⟨ap,an,ac,bp,bn,bc⟩ _ jm l10 ⟨a,b,ha,hb,rfl,hal,hbl,hg⟩
 dsimp only at ha hb ⊢
 have hla:=ha.len
 have hlb:=hb.len
 refine ⟨by trivial,fun h3=>?_,fun h3=>?_⟩
 ·have h3:0<bn:=by simpa using h3
  have hb0:0<b:=by
   rcases Nat.eq_zero_or_pos b with h|h
   ·subst h;simp at hlb;omega
   ·exact h
  refine fun kR bW=>(dW (ha.le bW) (hb.le bW) hal hbl hb0).mono ?_
  rintro r nZ dh ⟨p1,n1,c1,p2,n2,c2,rfl,g1,g2⟩
  have hr:a%b<b:=Nat.mod_lt _ hb0
  have hrl:=aH (Nat.le_of_lt hr)
  refine ⟨_,_,_,_,_,_,rfl,(bp,bn,bc,p2,n2,c2),a%b,hr,by (try dsimp only);and_intros<;>first|exact True.intro|rfl,b,a%b,hb.le (bW.trans dh),g2,rfl,hbl,by omega,?_⟩
  rw [←hg,Nat.gcd_comm a b,Nat.gcd_rec b a,Nat.gcd_comm]
 ·have h3:bn=0:=by simp at h3;omega
  have hb0:b=0:=bq.1 (List.length_eq_zero_iff.1 (by omega))
  subst hb0
  rw [Nat.gcd_zero_right] at hg
  rw [←hg]
  refine ⟨aD (ag a),ha.sl,by simp [hla],by omega,by omega,by simp,by simp [hla],?_,?_⟩
  ·intro v hv
   simp only [aD,List.mem_map] at hv
   obtain ⟨d,-,rfl⟩:=hv
   rfl
  ·intro bk J sp c' h1 h2 V1 l1 b hb
   refine ⟨_,_,_,rfl,?_⟩
   simp only [Nat.zero_add,Nat.zero_mul,List.take_zero,List.nil_append] at hb h1 ⊢
   exact copied (aE a) hla h1 hb
end Go.Proofs.Tryz
namespace Go.eK
def aT (b:Bool)(ds:List Nat):Int:=if b then -(val ds:Int) else val ds
end Go.eK
namespace Go.bF
open Go.eK
def RI (V:View)(v:Value)(z:Int):Prop:=∃p n c,v=.agg #[.bool (decide (z<0)),.slice p n c]/\RD V p n c (ag z.natAbs)
theorem RI.le {V V':View}{v:Value}{z:Int}(h:RI V v z)(l:V.Le V'):RI V' v z:=by
 obtain ⟨p,n,c,e,h⟩:=h;exact ⟨p,n,c,e,h.le l⟩
theorem RI.mk {V:View}{b:Bool}{p:OA}{n c:Nat}{z:Int}(hb:b=decide (z<0))(h:RD V p n c (ag z.natAbs)):RI V (.agg #[.bool b,.slice p n c]) z:=⟨p,n,c,by rw [hb],h⟩
theorem RI.zero {V:View}:RI V (.agg #[.bool false,.slice none 0 0]) 0:=⟨_,_,_,rfl,RD.nil⟩
end Go.bF
namespace Go.Proofs.Tryz
open Go.bF Go.eK
theorem jD {n:Nat}:bJ n=0↔n=0:=by
 unfold bJ;split<;>simp_all
theorem dK (b:Bool)(ds:List Nat):(aT b ds).natAbs=val ds:=by unfold aT;cases b<;>simp
theorem Bt (b:Bool)(ds:List Nat):aT b ds<0↔b=true/\val ds≠0:=by
 unfold aT;cases b
 ·simp
 ·simp;omega
theorem aG (z:Int):aT (decide (z<0)) (ag z.natAbs)=z:=by
 unfold aT;rw [ae]
 by_cases h:z<0
 ·rw [decide_eq_true h,if_pos rfl];omega
 ·rw [decide_eq_false h,if_neg (by decide)];omega
theorem Hx (b:Bool)(ds:List Nat):aT (!b) ds=-aT b ds:=by unfold aT;cases b<;>simp
theorem nC (ds:List Nat):aT false ds=val ds:=rfl
theorem fC {x n:Nat}(h:n=(ag x).length):0<n↔x≠0:=by
 rw [h]
 constructor
 ·intro h1 h2;subst h2;simp at h1
 ·intro h1
  rcases Nat.eq_zero_or_pos (ag x).length with e|e
  ·exact absurd (bq.1 (List.length_eq_zero_iff.1 e)) h1
  ·exact e
theorem jG {V:View}(b:Bool){p:OA}{n c x:Nat}(h:RN V p n c x) :
  ab prog 227 #[.bool b,.slice p n c] V fun r V'=>RI V' r (if b then -(x:Int) else x):=by
 have hp:=fC h.len
 refine pC b p n c V _ ⟨fun h0 V1 l1=>?_,fun h0 V1 l1=>?_⟩
 ·rw [if_pos h0]
  refine RI.mk ?_ ?_
  ·rw [Bool.eq_iff_iff,decide_eq_true_eq,decide_eq_true_eq]
   omega
  ·rw [Int.natAbs_neg,Int.natAbs_natCast];exact h.le l1
 ·rw [h0,if_neg (by decide)]
  refine RI.mk ?_ ?_
  ·symm;rw [decide_eq_false_iff_not];omega
  ·rw [Int.natAbs_natCast];exact h.le l1
theorem ij {V:View}(b:Bool){p:OA}{n c:Nat}{ds:List Nat}(h:RD V p n c ds)(hm:ds.length<=1099511627776) :
  ab prog 186 #[.agg #[.bool b,.slice p n c]] V fun r V'=>RI V' r (aT b ds):=by
 refine rV b p n c V _ fun V1 l1=>(il (h.le l1) hm).mono ?_
 rintro r V2 l2 ⟨p1,n1,c1,rfl,h1⟩
 have hp:=fC h1.len
 have hn:=Bt b ds
 refine ⟨_,_,_,rfl,fun h0 V3 l3=>RI.mk ?_ ?_,fun h0 V3 l3=>RI.mk ?_ ?_⟩
 ·rw [Bool.eq_iff_iff,decide_eq_true_eq,decide_eq_true_eq,hn]
  simp [h0];omega
 ·rw [dK];exact h1.le l3
 ·symm;rw [decide_eq_false_iff_not,hn];simp [h0]
 ·rw [dK];exact h1.le l3
def kQ (b:Bool)(ds:List Nat):Bool:=decide (ag (val ds)=ds)&&(!b||decide (ds≠[]))
theorem fP {V:View}(b:Bool){p:OA}{n c:Nat}{ds:List Nat}(h:RD V p n c ds)(hm:ds.length<=1099511627776) :
  ab prog 174 #[.agg #[.bool b,.slice p n c]] V fun r V'=>r=.bool (kQ b ds):=by
 refine pB b p n c V _ fun V1 l1=>(yV (h.le l1) hm).mono ?_
 rintro r V2 l2 rfl
 refine ⟨_,rfl,fun h0=>⟨fun h1 V3 l3=>?_,fun h1 V3 l3=>?_⟩,fun h0 V3 l3=>?_⟩
 ·simp [kQ,h0];simp at h1;simp [h1]
 ·have hl:=h.len
  simp [kQ,h0];simp at h1;simp [h1]
  rw [Bool.eq_iff_iff,decide_eq_true_eq]
  simp
  constructor
  ·intro h2 h3;subst h3;simp at hl;omega
  ·intro h2
   rcases Nat.eq_zero_or_pos ds.length with e|e
   ·exact absurd (List.length_eq_zero_iff.1 e) h2
   ·omega
 ·simp [kQ,h0]
theorem iU {V:View}(n:Int)(h0:-9223372036854775808<=n)(h1:n<=9223372036854775807) :
  ab prog 187 #[.int .i64 n] V fun r V'=>RI V' r n:=by
 refine nQ n V _ ⟨fun h2 V1 l1=>?_,fun h2 V1 l1=>?_⟩
 ·have h2:n<0:=by simpa using h2
  have e:u64.wrap (0-u64.wrap n)=-n:=by rw [qv,qv];omega
  rw [e]
  refine (dI _ (by omega) (by omega)).mono ?_
  rintro r V2 l2 ⟨p1,n1,c1,rfl,g1⟩
  refine ⟨_,_,_,rfl,fun V3 l3=>⟨_,_,_,rfl,?_⟩⟩
  rw [show n.natAbs=(-n).toNat from by omega];exact g1.le l3
 ·have h2:0<=n:=by simpa using h2
  rw [aM (by omega)]
  refine (dI _ (by omega) (by omega)).mono ?_
  rintro r V2 l2 ⟨p1,n1,c1,rfl,g1⟩
  refine ⟨_,_,_,rfl,fun V3 l3=>⟨_,_,_,rfl,?_⟩⟩
  rw [show n.natAbs=n.toNat from by omega];exact g1.le l3
theorem lh {V:View}(b:Bool){p:OA}{n c:Nat}{ds:List Nat}(h:RD V p n c ds)(hm:ds.length<=1099511627776) :
  ab prog 185 #[.agg #[.bool b,.slice p n c]] V fun r V'=>r=.int .i64 (aT b ds).sign:=by
 refine rW b p n c V _ fun V1 l1=>(ik (h.le l1) hm).mono ?_
 rintro r V2 l2 rfl
 have hz:(aT b ds)=0↔val ds=0:=by rw [←dK b ds];omega
 have hn:=Bt b ds
 refine ⟨_,rfl,fun h0 V3 l3=>?_,fun h0=>⟨fun h1 V3 l3=>?_,fun h1 V3 l3=>?_⟩⟩
 ·have:val ds=0:=jD.1 (by simp at h0;omega)
  rw [hz.2 this];rfl
 ·have:val ds≠0:=fun e=>by simp [jD.2 e] at h0
  rw [Int.sign_eq_neg_one_of_neg (hn.2 ⟨h1,this⟩)]
 ·have:val ds≠0:=fun e=>by simp [jD.2 e] at h0
  have:0<aT b ds:=by
   have:=hz
   have:¬aT b ds<0:=by rw [hn];simp [h1]
   omega
  rw [Int.sign_eq_one_of_pos this]
theorem vV {V:View}(b:Bool){p:OA}{n c:Nat}{ds:List Nat}(h:RD V p n c ds)(hm:ds.length<=1099511627776) :
  ab prog 193 #[.agg #[.bool b,.slice p n c]] V fun r V'=>RI V' r (-aT b ds):=by
 refine vB b p n c V _ fun V1 l1=>(ij (!b) (h.le l1) hm).mono ?_
 rintro r V2 l2 ⟨p1,n1,c1,rfl,h1⟩
 rw [Hx] at h1 ⊢
 exact ⟨_,_,_,_,rfl,fun V3 l3=>⟨_,_,_,rfl,h1.le l3⟩⟩
theorem fX {V:View}(b1 b2:Bool){p q:OA}{n c m e:Nat}{xa xb:List Nat}(ha:RD V p n c xa)(hb:RD V q m e xb)(hm:xa.length+xb.length<=1099511627776) :
  ab prog 214 #[.agg #[.bool b1,.slice p n c],.agg #[.bool b2,.slice q m e]] V fun r V'=>RI V' r (aT b1 xa*aT b2 xb):=by
 refine vA b1 p n c b2 q m e V _ fun V1 l1=>(fQ (ha.le l1) (hb.le l1) hm).mono ?_
 rintro r V2 l2 ⟨p1,n1,c1,rfl,h1⟩
 refine ⟨_,_,_,rfl,fun V3 l3=>(jG _ (h1.le l3)).mono ?_⟩
 rintro r V4 l4 ⟨p2,n2,c2,rfl,h2⟩
 have e1:(if (!(b1==b2))=true then -((val xa*val xb:Nat):Int) else ((val xa*val xb:Nat):Int))=aT b1 xa*aT b2 xb:=by
  unfold aT;cases b1<;>cases b2<;>simp [Int.neg_mul,Int.mul_neg]
 rw [e1] at h2 ⊢
 exact ⟨_,_,_,_,rfl,fun V5 l5=>⟨_,_,_,rfl,h2.le l5⟩⟩
theorem vU {V:View}(b1 b2:Bool){p q:OA}{n c m e:Nat}{xa xb:List Nat}(ha:RD V p n c xa)(hb:RD V q m e xb)(hm:xa.length<=1099511627776)(hn:xb.length<=1099511627776) :
  ab prog 213 #[.agg #[.bool b1,.slice p n c],.agg #[.bool b2,.slice q m e]] V fun r V'=>RI V' r (aT b1 xa+aT b2 xb):=by
 have fin:∀{b:Bool} {x:Nat} {V1:View} {p1:OA} {n1 c1:Nat},RN V1 p1 n1 c1 x->(if b then -(x:Int) else x)=aT b1 xa+aT b2 xb ->
   ab prog 227 #[.bool b,.slice p1 n1 c1] V1 fun r V'=>∃(GL:Bool)(Ie:OA)(HV GU:Nat),r=.agg #[.bool GL,.slice Ie HV GU]/\∀V3:View,V'.Le V3->RI V3 (.agg #[.bool GL,.slice Ie HV GU]) (aT b1 xa+aT b2 xb):=by
  intro b x V1 p1 n1 c1 h he
  refine (jG b h).mono ?_
  rintro r V4 l4 ⟨p2,n2,c2,rfl,h2⟩
  rw [he] at h2 ⊢
  exact ⟨_,_,_,_,rfl,fun V5 l5=>⟨_,_,_,rfl,h2.le l5⟩⟩
 refine vy b1 p n c b2 q m e V _ ⟨fun h0 V1 l1=>(Fp (ha.le l1) (hb.le l1) hm hn).mono ?_,fun h0 V1 l1=>(xG (ha.le l1) (hb.le l1) hm hn).mono ?_⟩
 ·rintro r V2 l2 ⟨p1,n1,c1,rfl,h1⟩
  have h0:b1=b2:=by simpa using h0
  subst h0
  exact ⟨_,_,_,rfl,fun V3 l3=>fin (h1.le l3) (by unfold aT;cases b1<;>simp;omega)⟩
 ·rintro r V2 l2 ⟨p1,n1,c1,rfl,h1⟩
  have h0:b2=!b1:=by cases b1<;>cases b2<;>simp_all
  subst h0
  refine ⟨_,_,_,_,rfl,fun h2 V3 l3=>fin (h1.le l3) ?_,fun h2 V3 l3=>(xG (hb.le (l1.trans (l2.trans l3))) (ha.le (l1.trans (l2.trans l3))) hn hm).mono ?_⟩
  ·have h2:val xb<=val xa:=by simpa using h2
   unfold aT;cases b1<;>simp<;>omega
  ·rintro r V4 l4 ⟨p2,n2,c2,rfl,h3⟩
   have h2:val xa<val xb:=by simpa using h2
   exact ⟨_,_,_,_,rfl,fun V5 l5=>fin (h3.le l5) (by unfold aT;cases b1<;>simp<;>omega)⟩
theorem rE {V:View}(b:Bool){p:OA}{n c:Nat}{ds:List Nat}(h:RD V p n c ds)(hm:ds.length<=1099511627776)(hs:val ds<4611686018427387904) :
  ab prog 220 #[.agg #[.bool b,.slice p n c]] V fun r V'=>r=.tuple #[.int .i64 (aT b ds),.bool true]:=by
 refine qD b p n c V _ fun V1 l1=>(kg (h.le l1) hm).mono ?_
 rintro r V2 l2 rfl
 rw [if_pos (by omega),decide_eq_true (show val ds<18446744073709551616 by omega)]
 refine ⟨_,_,rfl,fun _=>⟨fun h1=>⟨fun h2 V3 l3=>?_,fun h2=>?_⟩,fun h1=>⟨fun _=>⟨fun h2=>⟨fun h3 V4 l4=>?_,fun h3=>?_⟩,fun h2=>?_⟩,fun h2=>nomatch h2⟩⟩,fun h1=>nomatch h1⟩
 ·subst h1
  have e:i64.wrap (u64.wrap (0-(val ds:Int)))=-(val ds:Int):=by
   rw [qv,IntKind.wrap_i64];omega
  rw [e];rfl
 ·simp at h2;omega
 ·subst h1
  rw [ay (by omega)];rfl
 ·simp at h3;omega
 ·simp [h1] at h2
end Go.Proofs.Tryz
namespace Go.bF
open Go.eK
def Wd (q:Rat):Prop:=q.num.natAbs<4611686018427387904/\q.den<4611686018427387904
def RR (V:View)(v:Value)(q:Rat):Prop:=
 (v=.agg #[.int .i64 q.num,.int .i64 ((q.den:Int)-1),.pointer none]/\Wd q) \/
 (∃a b p n c p' n' c',v=.agg #[.int .i64 0,.int .i64 0,.pointer (some a)]/\V.at (a.add 0) (.bool b)/\V.at (a.add 1) (.slice p n c)/\V.at (a.add 2) (.slice p' n' c') /\
  RI V (.agg #[.bool b,.slice p n c]) q.num/\RD V p' n' c' (ag q.den)/\¬Wd q)
theorem RR.le {V V':View}{v:Value}{q:Rat}(h:RR V v q)(l:V.Le V'):RR V' v q:=by
 rcases h with h|⟨a,b,p,n,c,p',n',c',e,h1,h2,h3,h4,h5,h6⟩
 ·exact .inl h
 ·exact .inr ⟨a,b,p,n,c,p',n',c',e,l.at h1,l.at h2,l.at h3,h4.le l,h5.le l,h6⟩
def Sz (k:Nat)(q:Rat):Prop:=q.num.natAbs<2^k/\q.den<2^k
theorem Sz.mono {k m:Nat}{q:Rat}(h:Sz k q)(hm:k<=m):Sz m q:=
 ⟨Nat.lt_of_lt_of_le h.1 (Nat.pow_le_pow_right (by omega) hm),Nat.lt_of_lt_of_le h.2 (Nat.pow_le_pow_right (by omega) hm)⟩
theorem af {n k:Nat}(h:n<2^k):(ag n).length<=k:=by
 rw [aF]
 exact Nat.lt_of_lt_of_le h (Nat.pow_le_pow_left (by omega) k)
theorem Wd.sz {q:Rat}(h:Wd q):Sz 62 q:=h
theorem RR.shape {V:View}{v:Value}{q:Rat}(h:RR V v q):∃(n d:Int)(p:OA),v=.agg #[.int .i64 n,.int .i64 d,.pointer p]:=by
 rcases h with ⟨e,-⟩|⟨a,b,p,n,c,p',n',c',e,-⟩
 ·exact ⟨_,_,_,e⟩
 ·exact ⟨_,_,_,e⟩
end Go.bF
namespace Go.Proofs.Tryz
open Go.bF Go.eK
theorem yN (n:Nat):decide ((bJ n:Int)<=62)=decide (n<4611686018427387904):=by
 have:=@iS n 62
 rw [Bool.eq_iff_iff,decide_eq_true_eq,decide_eq_true_eq]
 omega
theorem FU {z:Int}{d:Nat}(hd:d≠0)(hg:Nat.gcd z.natAbs d=1):(mkRat z d).num=z/\(mkRat z d).den=d:=by
 have:Nat.gcd d z.natAbs=1:=by rw [Nat.gcd_comm];exact hg
 rw [Rat.num_mkRat,Rat.den_mkRat,if_neg hd,if_neg hd,this]
 simp
theorem cf {V:View}(b:Bool){p q:OA}{n c m e:Nat}{xs ys:List Nat}(hx:RD V p n c xs)(hy:RD V q m e ys)(hm:xs.length<=1099511627776)(hn:ys.length<=1099511627776) :
  ab prog 190 #[.agg #[.bool b,.slice p n c],.slice q m e] V fun r V'=>RR V' r (mkRat (aT b xs) (val ys)):=by
 have zero:∀V':View,RR V' (.agg #[.int .i64 0,.int .i64 0,.pointer none]) 0:=fun V'=>.inl ⟨rfl,by unfold Wd;decide⟩
 refine vj b p n c q m e V _ fun V1 l1=>(ik (hy.le l1) hn).mono ?_
 rintro r V2 l2 rfl
 refine ⟨_,rfl,fun h0 V3 l3=>?_,fun h0 V4 l4=>(lh b (hx.le (l1.trans (l2.trans l4))) hm).mono ?_⟩
 ·have:val ys=0:=jD.1 (by simp at h0;omega)
  rw [this,Rat.mkRat_zero];exact zero _
 rintro r V5 l5 rfl
 have hy0:val ys≠0:=fun e=>by simp [jD.2 e] at h0
 refine ⟨_,rfl,fun h1 V6 l6=>?_,fun h1 V7 l7=>?_⟩
 ·have:aT b xs=0:=Int.sign_eq_zero_iff_zero.1 (by simpa using h1)
  rw [this,Rat.zero_mkRat];exact zero _
 have hx0:aT b xs≠0:=fun e=>by simp [e] at h1
 have hx0':val xs≠0:=by rw [←dK b xs];omega
 replace hx:=hx.le (l1.trans (l2.trans (l4.trans (l5.trans l7))))
 replace hy:=hy.le (l1.trans (l2.trans (l4.trans (l5.trans l7))))
 refine (xE hx hy hm hn).mono ?_
 rintro r V8 l8 ⟨p3,n3,c3,rfl,hg⟩
 replace hx:=hx.le l8
 replace hy:=hy.le l8
 have hgl:Nat.gcd (val xs) (val ys)<=val ys:=Nat.le_of_dvd (by omega) (Nat.gcd_dvd_right _ _)
 have hgd:(ag (Nat.gcd (val xs) (val ys))).length<=1099511627776:=Nat.le_trans (aH hgl) (by have:=aZ hy.eu;omega)
 have KF:Nat.gcd (val xs) (val ys)≠0:=by
  intro e0;exact hx0' (Nat.eq_zero_of_gcd_eq_zero_left e0)
 refine ⟨_,_,_,rfl,fun V9 l9=>(ik (hg.le l9) hgd).mono ?_⟩
 rintro r jm l10 rfl
 rw [ae]
 replace hx:=hx.le (l9.trans l10)
 replace hy:=hy.le (l9.trans l10)
 replace hg:=hg.le (l9.trans l10)
 refine ⟨_,rfl,fun z V'=>∃(us vs:List Nat),z.2.2.2.1=b/\RD V' z.2.2.2.2.1 z.2.2.2.2.2.1 z.2.2.2.2.2.2 us/\RD V' z.1 z.2.1 z.2.2.1 vs/\us.length<=1099511627776/\vs.length<=1099511627776/\val vs≠0 /\
  Nat.gcd (val us) (val vs)=1/\mkRat (aT b xs) (val ys)=mkRat (aT b us) (val vs),⟨fun h2 kR bW=>?_,fun h2=>?_⟩,?_⟩
 ·refine (kf (hx.le bW) (hg.le bW) hm hgd (by rw [ae];exact KF)).mono ?_
  rintro r nZ dh ⟨p4,n4,c4,p5,n5,c5,rfl,g1,g2⟩
  refine ⟨_,_,_,_,_,_,_,rfl,fun sY dL=>(kf (hy.le (bW.trans (dh.trans dL))) (hg.le (bW.trans (dh.trans dL))) hn hgd (by rw [ae];exact KF)).mono ?_⟩
  rintro r pF fk ⟨p6,n6,c6,p7,n7,c7,rfl,g3,g4⟩
  rw [ae] at g1 g3
  have e1:val (ag (val xs / Nat.gcd (val xs) (val ys)))=val xs / Nat.gcd (val xs) (val ys):=ae _
  have e2:val (ag (val ys / Nat.gcd (val xs) (val ys)))=val ys / Nat.gcd (val xs) (val ys):=ae _
  have d1:=Nat.gcd_dvd_left (val xs) (val ys)
  have d2:=Nat.gcd_dvd_right (val xs) (val ys)
  have hdy:val ys / Nat.gcd (val xs) (val ys)≠0:=by
   intro e0
   have:=Nat.div_mul_cancel d2
   rw [e0,Nat.zero_mul] at this
   exact hy0 this.symm
  refine ⟨_,_,_,_,_,_,_,rfl,(p6,n6,c6,b,p4,n4,c4),by (try dsimp only);and_intros<;>trivial,_,_,rfl,g1.le (dL.trans fk),g3,?_,?_,?_,?_,?_⟩
  ·exact Nat.le_trans (aH (Nat.div_le_self _ _)) (by have:=aZ hx.eu;omega)
  ·exact Nat.le_trans (aH (Nat.div_le_self _ _)) (by have:=aZ hy.eu;omega)
  ·rw [e2];exact hdy
  ·rw [e1,e2];exact Nat.gcd_div_gcd_div_gcd_of_pos_left (by omega)
  ·rw [e2]
   have k1:val ys=val ys / Nat.gcd (val xs) (val ys)*Nat.gcd (val xs) (val ys):=(Nat.div_mul_cancel d2).symm
   have k2:aT b xs=aT b (ag (val xs / Nat.gcd (val xs) (val ys)))*(Nat.gcd (val xs) (val ys):Nat):=by
    have k3:(val xs:Int)=((val xs / Nat.gcd (val xs) (val ys):Nat):Int)*(Nat.gcd (val xs) (val ys):Nat):=by
     rw [←Int.natCast_mul,Nat.div_mul_cancel d1]
    unfold aT
    rw [e1]
    cases b
    ·simpa using k3
    ·simp only [if_true];rw [Int.neg_mul,←k3]
   conv=>lhs;rw [k1,k2]
   exact Rat.mkRat_mul_right KF
 ·have hg1:Nat.gcd (val xs) (val ys)=1:=by
   have h3:¬(1<bJ (Nat.gcd (val xs) (val ys))):=by simp at h2;omega
   have:=@iS (Nat.gcd (val xs) (val ys)) 1
   omega
  exact ⟨(q,m,e,b,p,n,c),by (try dsimp only);and_intros<;>trivial,xs,ys,rfl,hx,hy,hm,hn,hy0,hg1,rfl⟩
 ·rintro ⟨q,m,e,b',p,n,c⟩ n_ eZ ⟨us,vs,hbb,hu,hv,NJ,hvl,hv0,hgc,hq⟩
  dsimp only at hbb hu hv ⊢
  subst hbb
  rw [hq]
  obtain ⟨rH,hden⟩:=FU (z:=aT b' us) hv0 (by rw [dK];exact hgc)
  generalize mkRat (aT b' us) (val vs)=w at *
  have hW:Wd w↔val us<4611686018427387904/\val vs<4611686018427387904:=by
   unfold Wd;rw [rH,hden,dK]
  have Kz:∀V1:View,n_.Le V1->¬Wd w->ab prog 186 #[.agg #[.bool b',.slice p n c]] V1 fun r V2=>∃(GL:Bool)(Ie:OA)(HV GU:Nat),r=.agg #[.bool GL,.slice Ie HV GU] /\
    (∀V3:View,V2.Le V3->ab prog 188 #[.slice q m e] V3 fun r V4=>∃(Ud:OA)(T_ Tc:Nat),r=.slice Ud T_ Tc /\
    (∀V5:View,V4.Le V5->∀bk:Nat,V5.bC bk (.cells #[.bool GL,.slice Ie HV GU,.slice Ud T_ Tc] 256 (0,0))->RR V5 (.agg #[.int .i64 0,.int .i64 0,.pointer (some ⟨bk,0,none⟩)]) w)):=by
   intro V1 l1 hw
   refine (ij b' (hu.le l1) NJ).mono ?_
   rintro r V2 l2 Gu
   obtain ⟨p2,n2,c2,rfl,h2⟩:=Gu
   have Gu:RI V2 (.agg #[.bool (decide (aT b' us<0)),.slice p2 n2 c2]) (aT b' us):=⟨_,_,_,rfl,h2⟩
   refine ⟨_,_,_,_,rfl,fun V3 l3=>(il (hv.le (l1.trans (l2.trans l3))) hvl).mono ?_⟩
   rintro r V4 l4 ⟨p3,n3,c3,rfl,h3⟩
   refine ⟨_,_,_,rfl,fun V5 l5 bk hb=>.inr ⟨⟨bk,0,none⟩,decide (aT b' us<0),p2,n2,c2,p3,n3,c3,rfl,?_,?_,?_,?_,?_,hw⟩⟩
   ·rw [add_zero'];exact fN (xs:=[_,_,_]) hb rfl
   ·rw [add_zero'];exact fN (xs:=[_,_,_]) hb rfl
   ·rw [add_zero'];exact fN (xs:=[_,_,_]) hb rfl
   ·rw [rH];exact Gu.le (l3.trans (l4.trans l5))
   ·rw [hden];exact h3.le l5
  refine ⟨by trivial,fun oa eF=>(ik (hu.le eF) NJ).mono ?_⟩
  rintro r pH ew rfl
  refine ⟨_,rfl,fun h3 sE fo=>(ik (hv.le (eF.trans (ew.trans fo))) hvl).mono ?_,fun h3 Kx Dt=>Kz Kx (eF.trans (ew.trans Dt)) ?_⟩
  ·rintro r xh fl rfl
   rw [yN,decide_eq_true_eq] at h3
   refine ⟨_,rfl,fun h4 CF jN=>?_,fun h4 I9 sM=>Kz I9 (eF.trans (ew.trans (fo.trans (fl.trans sM)))) ?_⟩
   ·rw [yN,decide_eq_true_eq] at h4
    refine (rE b' (hu.le (eF.trans (ew.trans (fo.trans (fl.trans jN))))) NJ h3).mono ?_
    rintro r xi gG rfl
    refine ⟨_,_,rfl,fun vO kO=>(kg (hv.le (eF.trans (ew.trans (fo.trans (fl.trans (jN.trans (gG.trans kO))))))) hvl).mono ?_⟩
    rintro r CG je rfl
    rw [if_pos (by omega)]
    refine ⟨_,_,rfl,fun Jf Dr=>.inl ⟨?_,hW.2 ⟨h3,h4⟩⟩⟩
    rw [ay (x:=((val vs:Nat):Int)) (by omega),ay (by omega),rH,hden]
   ·rw [yN,decide_eq_false_iff_not] at h4
    rw [hW];omega
  ·rw [yN,decide_eq_false_iff_not] at h3
   rw [hW];omega
theorem eQ {V:View}(b:Bool){p:OA}{n c x:Nat}(h:RN V p n c x) :
  ab prog 61 #[.bool b,.slice p n c] V fun r V'=>RI V' r (if b then -(x:Int) else x):=by
 have hp:=fC h.len
 refine Ct b p n c V _ ⟨fun h0 V1 l1=>?_,fun h0 V1 l1=>?_⟩
 ·rw [if_pos h0]
  refine RI.mk ?_ ?_
  ·rw [Bool.eq_iff_iff,decide_eq_true_eq,decide_eq_true_eq]
   omega
  ·rw [Int.natAbs_neg,Int.natAbs_natCast];exact h.le l1
 ·rw [h0,if_neg (by decide)]
  refine RI.mk ?_ ?_
  ·symm;rw [decide_eq_false_iff_not];omega
  ·rw [Int.natAbs_natCast];exact h.le l1
theorem iz {V:View}{b:Bool}{p:OA}{n c x:Nat}{z:Int}(h:RN V p n c x)(hz:(if b then -(x:Int) else x)=z) :
  ab prog 61 #[.bool b,.slice p n c] V fun r V'=>∃(GL:Bool)(Ie:OA)(HV GU:Nat),r=.agg #[.bool GL,.slice Ie HV GU]/\∀V3:View,V'.Le V3->RI V3 (.agg #[.bool GL,.slice Ie HV GU]) z:=by
 refine (eQ b h).mono ?_
 rintro r V2 l2 ⟨p1,n1,c1,rfl,g⟩
 rw [hz] at g ⊢
 exact ⟨_,_,_,_,rfl,fun V3 l3=>⟨_,_,_,rfl,g.le l3⟩⟩
theorem xI {V:View}(n:Int)(h0:-9223372036854775808<=n)(h1:n<=9223372036854775807) :
  ab prog 126 #[.int .i64 n] V fun r V'=>RI V' r n:=by
 refine Ea n V _ ⟨fun h2 V1 l1=>?_,fun h2 V1 l1=>?_⟩
 ·have h2:n<0:=by simpa using h2
  have e:u64.wrap (0-u64.wrap n)=((-n).toNat:Int):=by rw [qv,qv];omega
  rw [e]
  refine (dk _ (by omega)).mono ?_
  rintro r V2 l2 ⟨p1,n1,c1,rfl,g1⟩
  exact ⟨_,_,_,rfl,fun V3 l3=>iz (g1.le l3) (by simp;omega)⟩
 ·have h2:0<=n:=by simpa using h2
  have e:u64.wrap n=(n.toNat:Int):=by rw [aM (by omega)];omega
  rw [e]
  refine (dk _ (by omega)).mono ?_
  rintro r V2 l2 ⟨p1,n1,c1,rfl,g1⟩
  exact ⟨_,_,_,rfl,fun V3 l3=>iz (g1.le l3) (by simp;omega)⟩
theorem C2 {V:View}(z:Int){p:OA}{n c:Nat}(h:RN V p n c z.natAbs) :
  ab prog 104 #[.agg #[.bool (decide (z<0)),.slice p n c]] V fun r V'=>r=.int .i64 z.sign:=by
 have hp:=fC h.len
 refine Cw _ p n c V _ ⟨fun h0 V1 l1=>?_,fun h0=>⟨fun h1 V1 l1=>?_,fun h1 V1 l1=>?_⟩⟩
 ·have:z=0:=by simp at h0;omega
  rw [this];rfl
 ·rw [decide_eq_true_eq] at h1
  rw [Int.sign_eq_neg_one_of_neg h1]
 ·rw [decide_eq_false_iff_not] at h1
  have:0<z:=by simp at h0;omega
  rw [Int.sign_eq_one_of_pos this]
theorem iV {V:View}(z:Int){p:OA}{n c:Nat}(h:RN V p n c z.natAbs) :
  ab prog 103 #[.agg #[.bool (decide (z<0)),.slice p n c]] V fun r V'=>RI V' r (-z):=by
 refine Ag _ p n c V _ fun V1 l1=>iz (h.le l1) ?_
 by_cases hz:z<0<;>simp [hz]<;>omega
theorem mb {V:View}(z w:Int){p q:OA}{n c m e:Nat}(ha:RN V p n c z.natAbs)(hb:RN V q m e w.natAbs)(hm:(ag z.natAbs).length+(ag w.natAbs).length<=1099511627776) :
  ab prog 109 #[.agg #[.bool (decide (z<0)),.slice p n c],.agg #[.bool (decide (w<0)),.slice q m e]] V fun r V'=>RI V' r (z*w):=by
 refine Eb _ p n c _ q m e V _ fun V1 l1=>(cR (ha.le l1) (hb.le l1) hm).mono ?_
 rintro r V2 l2 ⟨p1,n1,c1,rfl,g1⟩
 rw [ae,ae] at g1
 refine ⟨_,_,_,rfl,fun V3 l3=>iz (g1.le l3) ?_⟩
 have e1:z=aT (decide (z<0)) (ag z.natAbs):=(aG z).symm
 have e2:w=aT (decide (w<0)) (ag w.natAbs):=(aG w).symm
 conv=>rhs;rw [e1,e2]
 unfold aT
 rw [ae,ae]
 cases decide (z<0)<;>cases decide (w<0)<;>simp [Int.neg_mul,Int.mul_neg]
theorem xH {V:View}(z w:Int){p q:OA}{n c m e:Nat}(ha:RN V p n c z.natAbs)(hb:RN V q m e w.natAbs)(hm:(ag z.natAbs).length<=1099511627776)(hn:(ag w.natAbs).length<=1099511627776) :
  ab prog 108 #[.agg #[.bool (decide (z<0)),.slice p n c],.agg #[.bool (decide (w<0)),.slice q m e]] V fun r V'=>RI V' r (z+w):=by
 refine D8 _ p n c _ q m e V _ ⟨fun h0 V1 l1=>(Ft (ha.le l1) (hb.le l1) hm hn).mono ?_,fun h0 V1 l1=>(hJ (ha.le l1) (hb.le l1) hm hn).mono ?_⟩
 ·rintro r V2 l2 ⟨p1,n1,c1,rfl,g1⟩
  rw [ae,ae] at g1
  refine ⟨_,_,_,rfl,fun V3 l3=>iz (g1.le l3) ?_⟩
  by_cases hz:z<0<;>by_cases hw:w<0<;>simp [hz,hw] at h0⊢<;> omega
 ·rintro r V2 l2 rfl
  refine ⟨_,rfl,fun h2 V3 l3=>?_,fun h2 V3 l3=>?_⟩
  ·have h2:z.natAbs<w.natAbs:=by simpa [fv] using h2
   refine (nk (hb.le (l1.trans (l2.trans l3))) (ha.le (l1.trans (l2.trans l3))) hn (aH (Nat.le_of_lt h2)) (by rw [ae,ae];omega)).mono ?_
   rintro r V4 l4 ⟨p1,n1,c1,rfl,g1⟩
   rw [ae,ae] at g1
   refine ⟨_,_,_,rfl,fun V5 l5=>iz (g1.le l5) ?_⟩
   by_cases hz:z<0<;>by_cases hw:w<0<;>simp [hz,hw] at h0⊢<;> omega
  ·have h2:w.natAbs<=z.natAbs:=by simpa [←Int.not_lt,fv] using h2
   refine (nk (ha.le (l1.trans (l2.trans l3))) (hb.le (l1.trans (l2.trans l3))) hm (aH h2) (by rw [ae,ae];omega)).mono ?_
   rintro r V4 l4 ⟨p1,n1,c1,rfl,g1⟩
   rw [ae,ae] at g1
   refine ⟨_,_,_,rfl,fun V5 l5=>iz (g1.le l5) ?_⟩
   by_cases hz:z<0<;>by_cases hw:w<0<;>simp [hz,hw] at h0⊢<;> omega
end Go.Proofs.Tryz
namespace Go.bF
open Go.eK
def rF (d:Nat):List Nat:=if d=1 then [] else ag d
def RQ (V:View)(v:Value)(q:Rat):Prop:=∃p n c p' n' c',v=.agg #[.bool (decide (q.num<0)),.slice p n c,.slice p' n' c'] /\
 RD V p n c (ag q.num.natAbs)/\RD V p' n' c' (rF q.den)
theorem RQ.le {V V':View}{v:Value}{q:Rat}(h:RQ V v q)(l:V.Le V'):RQ V' v q:=by
 obtain ⟨p,n,c,p',n',c',e,h1,h2⟩:=h
 exact ⟨p,n,c,p',n',c',e,h1.le l,h2.le l⟩
theorem A8 {q:Rat}:rF q.den=[]↔q.den=1:=by
 unfold rF
 split
 ·rename_i h;simp [h]
 ·rename_i h
  rw [bq]
  have:=q.den_nz
  omega
end Go.bF
namespace Go.Proofs.Tryz
open Go.bF Go.eK
theorem lr {V:View}{q:Rat}{p:OA}{n c:Nat}(h:RD V p n c (rF q.den)):n=0↔q.den=1:=by
 rw [←A8,h.len,List.length_eq_zero_iff]
theorem dD {V:View}(q:Rat){p p':OA}{n c n' c':Nat}(b:Bool)(h2:RD V p' n' c' (rF q.den)) :
  ab prog 60 #[.agg #[.bool b,.slice p n c,.slice p' n' c']] V fun r V'=>∃p1 n1 c1,r=.slice p1 n1 c1/\RN V' p1 n1 c1 q.den:=by
 have hl:=lr h2
 refine D_ b p n c p' n' c' V _ ⟨fun h0 V1 l1=>mc.mono ?_,fun h0 V1 l1=>⟨_,_,_,rfl,?_⟩⟩
 ·rintro r V2 l2 ⟨p1,n1,c1,rfl,g⟩
  have:q.den=1:=hl.1 (by simp at h0;omega)
  rw [this]
  exact ⟨_,_,_,rfl,fun V3 l3=>⟨_,_,_,rfl,g.le l3⟩⟩
 ·have:q.den≠1:=fun e=>by have:=hl.2 e;simp at h0;omega
  unfold rF at h2
  rw [if_neg this] at h2
  exact h2.le l1
theorem mX {V:View}{q:Rat}{z:Int}{d:Nat}{p p':OA}{n c n' c':Nat}(hn:q.num=z)(hd:q.den=d)(h1:RD V p n c (ag z.natAbs))(h2:RD V p' n' c' (rF d)){b:Bool}(hb:b=decide (z<0)) :
  RQ V (.agg #[.bool b,.slice p n c,.slice p' n' c']) q:=by
 subst hn hd hb
 exact ⟨_,_,_,_,_,_,rfl,h1,h2⟩
theorem ki {V:View}(z:Int){d:Nat}{p q:OA}{n c m e:Nat}(hx:RN V p n c z.natAbs)(hy:RN V q m e d)(hm:(ag z.natAbs).length<=274877906944)(hn:(ag d).length<=274877906944)(hd:d≠0) :
  ab prog 106 #[.agg #[.bool (decide (z<0)),.slice p n c],.slice q m e] V fun r V'=>RQ V' r (mkRat z d):=by
 refine Cq _ p n c q m e V _ fun V1 l1=>(kh (hx.le l1) (hy.le l1) hm hn).mono ?_
 rintro r V2 l2 ⟨p1,n1,c1,rfl,hg⟩
 have hgd:=Nat.gcd_dvd_right z.natAbs d
 have hgx:=Nat.gcd_dvd_left z.natAbs d
 have KF:0<Nat.gcd z.natAbs d:=Nat.gcd_pos_of_pos_right _ (by omega)
 have hgl:(ag (Nat.gcd z.natAbs d)).length<=274877906944:=Nat.le_trans (aH (Nat.le_of_dvd (by omega) hgd)) hn
 have rH:(mkRat z d).num=z / (Nat.gcd d z.natAbs:Nat):=by rw [Rat.num_mkRat,if_neg hd]
 have hden:(mkRat z d).den=d / Nat.gcd d z.natAbs:=by rw [Rat.den_mkRat,if_neg hd]
 rw [Nat.gcd_comm d] at rH hden
 generalize hG:Nat.gcd z.natAbs d=g at *
 generalize mkRat z d=w at *
 refine ⟨_,_,_,rfl,fun V3 l3=>mc.mono ?_⟩
 rintro r V4 l4 ⟨p2,n2,c2,rfl,h1⟩
 refine ⟨_,_,_,rfl,fun V5 l5=>(hJ (hg.le (l3.trans (l4.trans l5))) (h1.le l5) (by omega) (by decide)).mono ?_⟩
 rintro r V6 l6 rfl
 replace hx:=hx.le (l1.trans (l2.trans (l3.trans (l4.trans (l5.trans l6)))))
 replace hy:=hy.le (l1.trans (l2.trans (l3.trans (l4.trans (l5.trans l6)))))
 replace hg:=hg.le (l3.trans (l4.trans (l5.trans l6)))
 refine ⟨_,rfl,fun h0 V7 l7=>(dW (hx.le l7) (hg.le l7) hm hgl KF).mono ?_,fun h0 xh fl=>mc.mono ?_⟩
 ·rintro r V8 l8 ⟨p4,n4,c4,p5,n5,c5,rfl,g1,-⟩
  have hnd:(mkRat z d).num.natAbs=(mkRat z d).num.natAbs:=rfl
  obtain ⟨k,hk⟩:=hgx
  have hk1:z.natAbs / g=k:=by rw [hk,Nat.mul_div_cancel_left _ KF]
  rw [hk1] at g1
  have hz:z=(g:Int)*(if z<0 then -(k:Int) else k):=by
   split
   ·rw [Int.mul_neg,←Int.natCast_mul,←hk];omega
   ·rw [←Int.natCast_mul,←hk];omega
  have hwn:w.num=(if z<0 then -(k:Int) else k):=by
   rw [rH]
   generalize (if z<0 then -(k:Int) else k)=t at *
   rw [hz,Int.mul_ediv_cancel_left _ (by omega)]
  refine ⟨_,_,_,_,_,_,rfl,fun V9 l9=>(eQ _ (g1.le l9)).mono ?_⟩
  have QV:(if decide (z<0)=true then -(k:Int) else k)=w.num:=by
   rw [hwn];simp
  rw [QV]
  rintro r jm l10 ⟨p7,n7,c7,rfl,g2⟩
  refine ⟨_,_,_,_,rfl,fun kR bW=>(dW (hy.le (l7.trans (l8.trans (l9.trans (l10.trans bW))))) (hg.le (l7.trans (l8.trans (l9.trans (l10.trans bW))))) hn hgl KF).mono ?_⟩
  rintro r nZ dh ⟨p8,n8,c8,p9,n9,c9,rfl,g3,-⟩
  rw [←hden] at g3
  refine ⟨_,_,_,_,_,_,rfl,fun sY dL=>mc.mono ?_⟩
  rintro r pF fk ⟨J1,n10,c10,rfl,g4⟩
  have hdl:(ag w.den).length<=274877906944:=by rw [hden];exact Nat.le_trans (aH (Nat.div_le_self _ _)) hn
  refine ⟨_,_,_,rfl,fun n_ eZ=>(hJ (g3.le (dL.trans (fk.trans eZ))) (g4.le eZ) (by omega) (by decide)).mono ?_⟩
  rintro r oa eF rfl
  refine ⟨_,rfl,fun h9 pH ew=>mX rfl rfl (g2.le (bW.trans (dh.trans (dL.trans (fk.trans (eZ.trans (eF.trans ew))))))) ?_ rfl,fun h9 sE fo=>mX rfl rfl (g2.le (bW.trans (dh.trans (dL.trans (fk.trans (eZ.trans (eF.trans fo))))))) ?_ rfl⟩
  ·have:w.den=1:=jJ.1 (by simpa using h9)
   rw [A8.2 this];exact RD.nil
  ·have:w.den≠1:=fun e=>by rw [jJ.2 e] at h9;simp at h9
   unfold rF
   rw [if_neg this]
   exact g3.le (dL.trans (fk.trans (eZ.trans (eF.trans fo))))
 ·have hg1:g=1:=jJ.1 (by simpa using h0)
  have hwn:w.num=z:=by rw [rH,hg1];simp
  have hwd:w.den=d:=by rw [hden,hg1];simp
  rintro r CF jN ⟨X4,n12,c12,rfl,g4⟩
  refine ⟨_,_,_,rfl,fun xi gG=>(hJ (hy.le (fl.trans (jN.trans gG))) (g4.le gG) (by omega) (by decide)).mono ?_⟩
  rintro r vO kO rfl
  refine ⟨_,rfl,fun h9 pH ew=>mX hwn hwd (hx.le (fl.trans (jN.trans (gG.trans (kO.trans ew))))) ?_ rfl,fun h9 sE fo=>mX hwn hwd (hx.le (fl.trans (jN.trans (gG.trans (kO.trans fo))))) ?_ rfl⟩
  ·have:d=1:=jJ.1 (by simpa using h9)
   unfold rF
   rw [if_pos this];exact RD.nil
  ·have:d≠1:=fun e=>by rw [jJ.2 e] at h9;simp at h9
   unfold rF
   rw [if_neg this]
   exact hy.le (fl.trans (jN.trans (gG.trans (kO.trans fo))))
theorem jH {V:View}(n:Int)(h0:-9223372036854775808<=n)(h1:n<=9223372036854775807) :
  ab prog 63 #[.int .i64 n] V fun r V'=>RQ V' r (n:Rat):=by
 refine Gk n V _ fun V1 l1=>(xI n h0 h1).mono ?_
 rintro r V2 l2 ⟨p,m,c,rfl,g⟩
 exact ⟨_,_,_,_,rfl,fun V3 l3=>mX (z:=n) (d:=1) rfl rfl (g.le l3) RD.nil rfl⟩
theorem yW {V:View}(q:Rat){p p':OA}{n c n' c':Nat}(h1:RD V p n c (ag q.num.natAbs)) :
  ab prog 42 #[.agg #[.bool (decide (q.num<0)),.slice p n c,.slice p' n' c']] V fun r V'=>r=.int .i64 q.num.sign:=by
 refine I4 _ p n c p' n' c' V _ fun V1 l1=>(C2 q.num (h1.le l1)).mono ?_
 rintro r V2 l2 rfl
 exact ⟨_,rfl,fun V3 l3=>rfl⟩
theorem pQ {V:View}(q:Rat){p p':OA}{n c n' c':Nat}(h1:RD V p n c (ag q.num.natAbs))(h2:RD V p' n' c' (rF q.den)) :
  ab prog 57 #[.agg #[.bool (decide (q.num<0)),.slice p n c,.slice p' n' c']] V fun r V'=>RQ V' r (-q):=by
 refine Ed _ p n c p' n' c' V _ fun V1 l1=>(iV q.num (h1.le l1)).mono ?_
 rintro r V2 l2 ⟨p1,n1,c1,rfl,g⟩
 exact ⟨_,_,_,_,rfl,fun V3 l3=>mX (q:=-q) (z:=-q.num) (d:=q.den) (by rfl) (by rfl) (g.le l3) ((h2.le l1).le (l2.trans l3)) rfl⟩
end Go.Proofs.Tryz
namespace Go.bF
open Go.eK
theorem RI.inv {V:View}{b:Bool}{p:OA}{n c:Nat}{z:Int}(h:RI V (.agg #[.bool b,.slice p n c]) z):b=decide (z<0)/\RD V p n c (ag z.natAbs):=by
 obtain ⟨p1,n1,c1,e,hn⟩:=h
 simp at e
 obtain ⟨rfl,rfl,rfl,rfl⟩:=e
 exact ⟨rfl,hn⟩
end Go.bF
namespace Go.Proofs.Tryz
open Go.bF Go.eK
theorem eM {V:View}{v:Value}{q:Rat}(h:RR V v q){k:Nat}(hs:Sz k q)(hk:k<=1099511627776) :
  ab prog 140 #[v] V fun r V'=>RI V' r q.num:=by
 rcases h with ⟨rfl,hw⟩|⟨a,b,p,n,c,p',n',c',rfl,h1,h2,h3,h4,h5,hw⟩
 ·have:=hw.1
  refine nf _ _ _ V _ ⟨(fun h0=>nomatch h0),fun _ V1 l1=>(iU _ (by omega) (by omega)).mono ?_⟩
  rintro r V2 l2 ⟨p,n,c,rfl,g⟩
  exact ⟨_,_,_,_,rfl,fun V3 l3=>⟨_,_,_,rfl,g.le l3⟩⟩
 ·obtain ⟨rfl,hn⟩:=h4.inv
  refine nf _ _ _ V _ ⟨fun _=>⟨rfl,rfl,decide (q.num<0),p,n,c,a.add 0,rfl,?_,?_,fun V1 l1=>(ij _ (hn.le l1) (Nat.le_trans (af hs.1) hk)).mono ?_⟩,fun h0=>nomatch h0⟩
  ·exact h1
  ·simpa [Addr.add] using h2
  ·rintro r V2 l2 ⟨p,n,c,rfl,g⟩
   rw [aG] at g ⊢
   exact ⟨_,_,_,_,rfl,fun V3 l3=>⟨_,_,_,rfl,g.le l3⟩⟩
theorem dV {V:View}{v:Value}{q:Rat}(h:RR V v q){k:Nat}(hs:Sz k q)(hk:k<=1099511627776) :
  ab prog 141 #[v] V fun r V'=>∃p n c,r=.slice p n c/\RN V' p n c q.den:=by
 rcases h with ⟨rfl,hw⟩|⟨a,b,p,n,c,p',n',c',rfl,h1,h2,h3,h4,h5,hw⟩
 ·have:=hw.2
  have hd:=q.den_nz
  refine mZ _ _ _ V _ ⟨(fun h0=>nomatch h0),fun _ V1 l1=>?_⟩
  rw [ay (by omega),aM (by omega)]
  refine (dI _ (by omega) (by omega)).mono ?_
  rintro r V2 l2 ⟨p,n,c,rfl,g⟩
  rw [show ((q.den:Int)-1+1).toNat=q.den from by omega] at g
  exact ⟨_,_,_,rfl,fun V3 l3=>⟨_,_,_,rfl,g.le l3⟩⟩
 ·refine mZ _ _ _ V _ ⟨fun _=>⟨rfl,rfl,_,_,_,⟨_,rfl,h3⟩,fun V1 l1=>(il (h5.le l1) (Nat.le_trans (af hs.2) hk)).mono ?_⟩,fun h0=>nomatch h0⟩
  rintro r V2 l2 ⟨p,n,c,rfl,g⟩
  rw [ae] at g
  exact ⟨_,_,_,rfl,fun V3 l3=>⟨_,_,_,rfl,g.le l3⟩⟩
theorem ig {V:View}(n:Int)(h0:-9223372036854775808<n)(h1:n<=9223372036854775807) :
  ab prog 208 #[.int .i64 n] V fun r V'=>r=.int .u64 (n.natAbs:Int):=by
 refine Cg n V _ ⟨fun h2 V1 l1=>?_,fun h2 V1 l1=>?_⟩
 ·have h2:n<0:=by simpa using h2
  rw [ay (by omega),aM (by omega)];congr 1;omega
 ·have h2:0<=n:=by simpa using h2
  rw [aM (by omega)];congr 1;omega
theorem tG {V:View}(x y:Nat)(hx:x<18446744073709551616)(hy:y<18446744073709551616) :
  ab prog 207 #[.int .u64 (x:Int),.int .u64 (y:Int)] V fun r V'=>r=.int .u64 (Nat.gcd x y:Int):=by
 refine Ch _ _ V _ ⟨fun z V'=>∃a b:Nat,z=((a:Int),(b:Int))/\Nat.gcd a b=Nat.gcd x y,fun z=>z.2.toNat,
  ⟨((x:Int),(y:Int)),by (try dsimp only);and_intros<;>trivial,x,y,rfl,rfl⟩,?_⟩
 rintro _ oa eF ⟨a,b,rfl,rG⟩
 dsimp only
 refine ⟨by trivial,fun h3=>?_,fun h3 pH ew=>?_⟩
 ·have h3:b≠0:=by rw [bne_iff_ne] at h3;omega
  have hlt:a%b<b:=Nat.mod_lt _ (by omega)
  have e4:(a:Int).tmod (b:Int)=((a%b:Nat):Int):=by rw [Int.tmod_eq_emod_of_nonneg (by omega),←Int.natCast_emod]
  rw [e4]
  exact ⟨by omega,((b:Int),((a%b:Nat):Int)),by (try dsimp only);rw [Int.toNat_natCast,Int.toNat_natCast];exact hlt,by (try dsimp only);and_intros<;>trivial,b,a%b,rfl,by rw [ub,rG]⟩
 ·have h3:b=0:=by rw [bne_eq_false_iff_eq] at h3;omega
  subst h3
  rw [Nat.gcd_zero_right] at rG
  rw [rG]
theorem fr {V:View}(a b:Int)(ha:a.natAbs<4611686018427387904)(hb:b.natAbs<4611686018427387904) :
  ab prog 211 #[.int .i64 a,.int .i64 b] V fun r V'=>∃z:Int,r=.tuple #[.int .i64 z,.bool (decide ((a*b).natAbs<4611686018427387904))]/\((a*b).natAbs<4611686018427387904->z=a*b):=by
 refine wH a b V _ fun V1 l1=>(ig a (by omega) (by omega)).mono ?_
 rintro r V2 l2 rfl
 refine ⟨_,rfl,fun V3 l3=>(ig b (by omega) (by omega)).mono ?_⟩
 rintro r V4 l4 rfl
 refine ⟨_,rfl,fun V5 l5=>(Jn _ _ (by omega) (by omega)).mono ?_⟩
 rintro r V6 l6 rfl
 have rG:(a*b).natAbs=a.natAbs*b.natAbs:=Int.natAbs_mul a b
 have hsg:a*b=if (decide (a<0)==decide (b<0)) then ((a.natAbs*b.natAbs:Nat):Int) else -((a.natAbs*b.natAbs:Nat):Int):=by
  rw [Int.natCast_mul]
  by_cases h1:a<0<;>by_cases h2:b<0
  ·rw [decide_eq_true h1,decide_eq_true h2,show (a.natAbs:Int)=-a from by omega,show (b.natAbs:Int)=-b from by omega];simp [Int.neg_mul,Int.mul_neg]
  ·rw [decide_eq_true h1,decide_eq_false h2,if_neg (by decide),show (a.natAbs:Int)=-a from by omega,show (b.natAbs:Int)=b from by omega];simp [Int.neg_mul]
  ·rw [decide_eq_false h1,decide_eq_true h2,if_neg (by decide),show (a.natAbs:Int)=a from by omega,show (b.natAbs:Int)=-b from by omega];simp [Int.mul_neg]
  ·rw [decide_eq_false h1,decide_eq_false h2,show (a.natAbs:Int)=a from by omega,show (b.natAbs:Int)=b from by omega];simp
 rw [rG]
 generalize a.natAbs*b.natAbs=p at *
 refine ⟨_,_,rfl,fun h0 V7 l7=>?_,fun h0=>⟨fun h1 V7 l7=>?_,fun h1=>⟨fun h2 V7 l7=>?_,fun h2 V7 l7=>?_⟩⟩⟩
 ·have h0:18446744073709551616<=p:=by rw [bne_iff_ne] at h0;omega
  rw [decide_eq_false (by omega)]
  exact ⟨_,rfl,fun h=>by omega⟩
 ·have h1:4611686018427387904<=p:=by
   rw [decide_eq_true_eq] at h1;omega
  rw [decide_eq_false (by omega)]
  exact ⟨_,rfl,fun h=>by omega⟩
 ·have h0:p / 18446744073709551616=0:=by rw [bne_eq_false_iff_eq] at h0;omega
  have h1:p<4611686018427387904:=by rw [decide_eq_false_iff_not] at h1;omega
  rw [decide_eq_true h1,ay (x:=((p%18446744073709551616:Nat):Int)) (by omega),ay (by omega)]
  refine ⟨_,rfl,fun _=>?_⟩
  have h2:(decide (a<0)==decide (b<0))=false:=by simpa using h2
  rw [hsg,h2,if_neg (by decide)];omega
 ·have h0:p / 18446744073709551616=0:=by rw [bne_eq_false_iff_eq] at h0;omega
  have h1:p<4611686018427387904:=by rw [decide_eq_false_iff_not] at h1;omega
  rw [decide_eq_true h1,ay (x:=((p%18446744073709551616:Nat):Int)) (by omega)]
  refine ⟨_,rfl,fun _=>?_⟩
  have h2:(decide (a<0)==decide (b<0))=true:=by simpa using h2
  rw [hsg,h2,if_pos rfl];omega
theorem mN {V:View}(n:Int)(d:Nat)(hn:n.natAbs<4611686018427387904)(hd:d<4611686018427387904)(hd0:d≠0) :
  ab prog 212 #[.int .i64 n,.int .i64 (d:Int)] V fun r V'=>RR V' r (mkRat n d):=by
 refine vi n _ V _ fun V1 l1=>(ig n (by omega) (by omega)).mono ?_
 rintro r V2 l2 rfl
 rw [aM (x:=(d:Int)) (by omega)]
 refine ⟨_,rfl,fun V3 l3=>(tG _ _ (by omega) (by omega)).mono ?_⟩
 rintro r V4 l4 rfl
 have hgl:Nat.gcd n.natAbs d<=d:=Nat.le_of_dvd (by omega) (Nat.gcd_dvd_right _ _)
 have KF:0<Nat.gcd n.natAbs d:=Nat.gcd_pos_of_pos_right _ (by omega)
 have rH:=Rat.num_mkRat n d
 have hden:=Rat.den_mkRat n d
 rw [if_neg hd0,Nat.gcd_comm] at rH hden
 have hdvd:(Nat.gcd n.natAbs d:Int)∣n:=Int.ofNat_dvd_left.2 (Nat.gcd_dvd_left _ _)
 have hdl:d / Nat.gcd n.natAbs d<=d:=Nat.div_le_self _ _
 have hnl:(n / (Nat.gcd n.natAbs d:Int)).natAbs<=n.natAbs:=by
  rw [Int.natAbs_ediv_of_dvd hdvd,Int.natAbs_natCast];exact Nat.div_le_self _ _
 have hW:Wd (mkRat n d):=by unfold Wd;rw [rH,hden];omega
 refine ⟨_,rfl,?_⟩
 rw [ay (x:=((Nat.gcd n.natAbs d:Nat):Int)) (by omega)]
 refine ⟨fun h0=>⟨by omega,by omega,fun V5 l5=>.inl ⟨?_,hW⟩⟩,fun h0 V5 l5=>.inl ⟨?_,hW⟩⟩
 ·rw [rH,hden]
  have e1:n.tdiv (Nat.gcd n.natAbs d:Int)=n / (Nat.gcd n.natAbs d:Int):=Int.tdiv_eq_ediv_of_dvd hdvd
  have e2:(d:Int).tdiv (Nat.gcd n.natAbs d:Int)=((d / Nat.gcd n.natAbs d:Nat):Int):=by rw [Int.tdiv_eq_ediv_of_nonneg (by omega),←Int.natCast_ediv]
  rw [e1,e2]
  generalize n / (Nat.gcd n.natAbs d:Int)=nn at *
  generalize d / Nat.gcd n.natAbs d=dd at *
  rw [ay (by omega),ay (x:=(dd:Int)) (by omega),ay (by omega)]
 ·have h0:Nat.gcd n.natAbs d=1:=by rw [decide_eq_false_iff_not] at h0;omega
  rw [rH,hden,h0,ay (by omega)]
  simp
theorem mkRat_one (z:Int):mkRat z 1=(z:Rat):=by
 apply Rat.ext
 ·rw [Rat.num_mkRat];simp
 ·rw [Rat.den_mkRat];simp
theorem RD.one {V:View}{bk:Nat}{ty:TypeId}{m:Nat×Nat}(h:V.bC bk (.cells #[.int .u32 1] ty m)):RD V (some ⟨bk,0,none⟩) 1 1 [1]:=
 RD.bC (ds:=[1]) h (by simp [bP]) rfl (Nat.le_refl _)
theorem kc {V:View}(b:Bool){p:OA}{n c:Nat}{ds:List Nat}(h:RD V p n c ds)(hm:ds.length<=1099511627776) :
  ab prog 175 #[.agg #[.bool b,.slice p n c]] V fun r V'=>RR V' r (aT b ds:Rat):=by
 refine wG b p n c V _ fun V1 l1 bk hb=>(cf b (h.le l1) (RD.one hb) hm (by simp)).mono ?_
 rintro r V2 l2 hr
 have e:mkRat (aT b ds) (val [1])=(aT b ds:Rat):=mkRat_one _
 rw [e] at hr
 obtain ⟨n,d,p,rfl⟩:=hr.shape
 exact ⟨_,_,_,rfl,fun _ V3 l3=>hr.le l3⟩
theorem uh {z:Int}(h:z.natAbs<4611686018427387904):Wd (z:Rat):=⟨h,by show (1:Nat)<_;decide⟩
theorem ie {V:View}(n:Int)(h0:-9223372036854775808<=n)(h1:n<=9223372036854775807) :
  ab prog 143 #[.int .i64 n] V fun r V'=>RR V' r (n:Rat):=by
 have Kz:∀V1:View,V.Le V1->ab prog 187 #[.int .i64 n] V1 fun WK V2=>∃GL:Bool,∃(Ie:OA)(HV GU:Nat),WK=.agg #[.bool GL,.slice Ie HV GU]/\(∀V3:View,V2.Le V3->∀MX:Nat,V3.bC MX (.cells #[.int .u32 1] 188 (0,0))->ab prog 190 #[.agg #[.bool GL,.slice Ie HV GU],.slice (some ⟨MX,0,none⟩) 1 1] V3 fun WL V4=>∃Um:Int,∃Un:Int,∃Ue:OA,WL=.agg #[.int .i64 Um,.int .i64 Un,.pointer Ue]/\∀Xv:C->Value,(∀V5:View,V4.Le V5->RR V5 (.agg #[.int .i64 Um,.int .i64 Un,.pointer Ue]) (n:Rat))):=by
  intro V1 l1
  refine (iU n h0 h1).mono ?_
  rintro r V2 l2 ⟨p,m,c,rfl,g⟩
  refine ⟨_,_,_,_,rfl,fun V3 l3 bk hb=>(cf _ (g.le l3) (RD.one hb) (Nat.le_trans (af (k:=64) (by omega)) (by omega)) (by simp)).mono ?_⟩
  rintro r V4 l4 hr
  have e:mkRat (aT (decide (n<0)) (ag n.natAbs)) (val [1])=(n:Rat):=by rw [aG];exact mkRat_one _
  rw [e] at hr
  obtain ⟨n,d,p,rfl⟩:=hr.shape
  exact ⟨_,_,_,rfl,fun _ V3 l3=>hr.le l3⟩
 refine Cd n V _ ⟨fun _=>Kz,fun h2=>⟨fun _=>Kz,fun h3 V1 l1=>.inl ⟨rfl,uh ?_⟩⟩⟩
 rw [decide_eq_false_iff_not] at h2 h3
 omega
theorem eE {V:View}{v:Value}{q:Rat}(h:RR V v q){k:Nat}(hs:Sz k q)(hk:k<=1099511627776) :
  ab prog 137 #[v] V fun r V'=>r=.int .i64 q.num.sign:=by
 rcases h with ⟨rfl,hw⟩|⟨a,b,p,n,c,p',n',c',rfl,h1,h2,h3,h4,h5,hw⟩
 ·refine lV _ _ _ V _ ⟨(fun h0=>nomatch h0),fun _=>⟨fun h V1 l1=>?_,fun h=>⟨fun h' V1 l1=>?_,fun h' V1 l1=>?_⟩⟩⟩
  ·rw [Int.sign_eq_neg_one_of_neg (by simpa using h)]
  ·rw [Int.sign_eq_one_of_pos (by simpa using h')]
  ·have:q.num=0:=by rw [decide_eq_false_iff_not] at h h';omega
   rw [this];rfl
 ·obtain ⟨rfl,hn⟩:=h4.inv
  refine lV _ _ _ V _ ⟨fun _=>⟨rfl,rfl,decide (q.num<0),p,n,c,a.add 0,rfl,?_,?_,fun V1 l1=>(lh _ (hn.le l1) (Nat.le_trans (af hs.1) hk)).mono ?_⟩,(fun h0=>nomatch h0)⟩
  ·exact h1
  ·simpa [Addr.add] using h2
  ·rintro r V2 l2 rfl
   rw [aG]
   exact ⟨_,rfl,fun V3 l3=>rfl⟩
theorem tD {V:View}{v:Value}{q:Rat}(h:RR V v q):ab prog 176 #[v] V fun r V'=>r=.bool (decide (q=0)):=by
 rcases h with ⟨rfl,hw⟩|⟨a,b,p,n,c,p',n',c',rfl,h1,h2,h3,h4,h5,hw⟩
 ·refine lW _ _ _ V _ ⟨fun _ V1 l1=>?_,(fun h0=>nomatch h0)⟩
  congr 1
  rw [Bool.eq_iff_iff,beq_iff_eq,decide_eq_true_eq]
  exact Rat.num_eq_zero
 ·refine lW _ _ _ V _ ⟨(fun h0=>nomatch h0),fun _ V1 l1=>?_⟩
  congr 1
  symm;rw [decide_eq_false_iff_not]
  intro e;subst e;exact hw ⟨by decide,by decide⟩
theorem ow {V:View}{v:Value}{q:Rat}(h:RR V v q){k:Nat}(hs:Sz k q)(hk:k<=1099511627776) :
  ab prog 148 #[v] V fun r V'=>RR V' r (-q):=by
 rcases h with ⟨rfl,hw⟩|⟨a,b,p,n,c,p',n',c',rfl,h1,h2,h3,h4,h5,hw⟩
 ·have:=hw.1
  refine nd _ _ _ V _ ⟨(fun h0=>nomatch h0),fun _ V1 l1=>.inl ⟨?_,by unfold Wd;rw [Rat.neg_num,Rat.neg_den,Int.natAbs_neg];exact hw⟩⟩
  rw [ay (by omega),Rat.neg_num,Rat.neg_den,Int.zero_sub]
 ·obtain ⟨rfl,hn⟩:=h4.inv
  refine nd _ _ _ V _ ⟨fun _=>⟨rfl,rfl,decide (q.num<0),p,n,c,a.add 0,rfl,?_,?_,rfl,rfl,p',n',c',⟨_,rfl,h3⟩,fun V1 l1=>(vV _ (hn.le l1) (Nat.le_trans (af hs.1) hk)).mono ?_⟩,(fun h0=>nomatch h0)⟩
  ·exact h1
  ·simpa [Addr.add] using h2
  ·rintro r V2 l2 Gu
   rw [aG] at Gu
   obtain ⟨p2,n2,c2,rfl,g⟩:=Gu
   refine ⟨_,_,_,_,rfl,fun V3 l3 bk hb=>.inr ⟨⟨bk,0,none⟩,decide (-q.num<0),p2,n2,c2,p',n',c',rfl,?_,?_,?_,?_,?_,?_⟩⟩
   ·rw [add_zero'];exact fN (xs:=[_,_,_]) hb rfl
   ·rw [add_zero'];exact fN (xs:=[_,_,_]) hb rfl
   ·rw [add_zero'];exact fN (xs:=[_,_,_]) hb rfl
   ·exact ⟨_,_,_,rfl,g.le l3⟩
   ·exact h5.le (l1.trans (l2.trans l3))
   ·unfold Wd;rw [Rat.neg_num,Rat.neg_den,Int.natAbs_neg];exact hw
theorem _root_.Go.bF.Sz.neg {k:Nat}{q:Rat}(h:Sz k q):Sz k (-q):=by unfold Sz;rw [Rat.neg_num,Rat.neg_den,Int.natAbs_neg];exact h
theorem uB (z:Int)(g:Nat)(h:(g:Int)∣z):(z / g).natAbs<=z.natAbs:=by
 rw [Int.natAbs_ediv_of_dvd h,Int.natAbs_natCast];exact Nat.div_le_self _ _
theorem _root_.Go.bF.Sz.mkRat {k:Nat}{z:Int}{d:Nat}(h1:z.natAbs<2^k)(h2:d<2^k)(hk:0<k):Sz k (mkRat z d):=by
 have h3:1<2^k:=Nat.one_lt_two_pow (by omega)
 unfold Sz
 rw [Rat.num_mkRat,Rat.den_mkRat]
 split
 ·exact ⟨Nat.two_pow_pos k,h3⟩
 ·refine ⟨Nat.lt_of_le_of_lt (uB _ _ (Int.ofNat_dvd_left.2 (Nat.gcd_dvd_right _ _))) h1,Nat.lt_of_le_of_lt (Nat.div_le_self _ _) h2⟩
theorem bX {a b k m:Nat}(h1:a<2^k)(h2:b<2^m):a*b<2^(k+m):=by rw [Nat.pow_add];exact Nat.mul_lt_mul'' h1 h2
theorem s_ {x y:Rat}{k m:Nat}(hx:Sz k x)(hy:Sz m y):(x.num*y.den).natAbs<2^(k+m)/\(y.num*x.den).natAbs<2^(k+m)/\(x.num*y.den+y.num*x.den).natAbs<2^(k+m+1)/\x.den*y.den<2^(k+m):=by
 have h1:(x.num*y.den).natAbs<2^(k+m):=by rw [Int.natAbs_mul,Int.natAbs_natCast];exact bX hx.1 hy.2
 have h2:(y.num*x.den).natAbs<2^(k+m):=by rw [Int.natAbs_mul,Int.natAbs_natCast,Nat.add_comm];exact bX hy.1 hx.2
 refine ⟨h1,h2,?_,bX hx.2 hy.2⟩
 rw [Nat.pow_succ];omega
theorem _root_.Go.bF.Sz.add {x y:Rat}{k m:Nat}(hx:Sz k x)(hy:Sz m y):Sz (k+m+1) (x+y):=by
 obtain ⟨-,-,h3,h4⟩:=s_ hx hy
 rw [Rat.add_def']
 exact Go.bF.Sz.mkRat h3 (Nat.lt_of_lt_of_le h4 (Nat.pow_le_pow_right (by omega) (by omega))) (by omega)
theorem _root_.Go.bF.Sz.sub {x y:Rat}{k m:Nat}(hx:Sz k x)(hy:Sz m y):Sz (k+m+1) (x-y):=by
 rw [Rat.sub_eq_add_neg];exact hx.add hy.neg
theorem _root_.Go.bF.Sz.mul {x y:Rat}{k m:Nat}(hx:Sz k x)(hy:Sz m y):Sz (k+m+1) (x*y):=by
 rw [Rat.mul_def']
 refine (Go.bF.Sz.mkRat (k:=k+m+1) ?_ ?_ (by omega))
 ·rw [Int.natAbs_mul];exact Nat.lt_of_lt_of_le (bX hx.1 hy.1) (Nat.pow_le_pow_right (by omega) (by omega))
 ·exact Nat.lt_of_lt_of_le (bX hx.2 hy.2) (Nat.pow_le_pow_right (by omega) (by omega))
theorem iT {V:View}{v w:Value}{x y:Rat}(hx:RR V v x)(hy:RR V w y){k m:Nat}(hk:Sz k x)(hm:Sz m y)(hkm:k+m<1099511627776) :
  ab prog 182 #[v,w] V fun r V'=>RR V' r (x+y):=by
 obtain ⟨r0,r1,r2,rfl⟩:=hx.shape
 obtain ⟨s0,s1,s2,rfl⟩:=hy.shape
 have hxy:x+y=mkRat (x.num*y.den+y.num*x.den) (x.den*y.den):=Rat.add_def' x y
 obtain ⟨b1,b2,b3,b4⟩:=s_ hk hm
 have gen:(∀P2:View,V.Le P2->ab prog 140 #[.agg #[.int .i64 r0,.int .i64 r1,.pointer r2]] P2 fun RX SO=>∃MR:Bool,∃(Ig:OA)(HW GV:Nat),RX=.agg #[.bool MR,.slice Ig HW GV]/\(∀P3:View,SO.Le P3->ab prog 141 #[.agg #[.int .i64 s0,.int .i64 s1,.pointer s2]] P3 fun RY SP=>∃(Oy:OA)(Od M0:Nat),RY=.slice Oy Od M0/\(∀P4:View,SP.Le P4->ab prog 214 #[.agg #[.bool MR,.slice Ig HW GV],.agg #[.bool false,.slice Oy Od M0]] P4 fun RZ SQ=>∃MS:Bool,∃(Ih:OA)(HX GW:Nat),RZ=.agg #[.bool MS,.slice Ih HX GW]/\(∀P5:View,SQ.Le P5->ab prog 140 #[.agg #[.int .i64 s0,.int .i64 s1,.pointer s2]] P5 fun R0 SR=>∃MT:Bool,∃(OC:OA)(Og M4:Nat),R0=.agg #[.bool MT,.slice OC Og M4]/\(∀P6:View,SR.Le P6->ab prog 141 #[.agg #[.int .i64 r0,.int .i64 r1,.pointer r2]] P6 fun R3 SS=>∃(Ii:OA)(HY GX:Nat),R3=.slice Ii HY GX/\(∀P7:View,SS.Le P7->ab prog 214 #[.agg #[.bool MT,.slice OC Og M4],.agg #[.bool false,.slice Ii HY GX]] P7 fun R4 Uu=>∃MU:Bool,∃(Ij:OA)(HZ GY:Nat),R4=.agg #[.bool MU,.slice Ij HZ GY]/\(∀SU:View,Uu.Le SU->ab prog 213 #[.agg #[.bool MS,.slice Ih HX GW],.agg #[.bool MU,.slice Ij HZ GY]] SU fun R5 Uv=>∃MV:Bool,∃(OG:OA)(Oj M7:Nat),R5=.agg #[.bool MV,.slice OG Oj M7]/\(∀SW:View,Uv.Le SW->ab prog 141 #[.agg #[.int .i64 r0,.int .i64 r1,.pointer r2]] SW fun R6 Uw=>∃(OH:OA)(Ok M8:Nat),R6=.slice OH Ok M8/\(∀SX:View,Uw.Le SX->ab prog 141 #[.agg #[.int .i64 s0,.int .i64 s1,.pointer s2]] SX fun R7 Ux=>∃(Ik:OA)(Ol M9:Nat),R7=.slice Ik Ol M9/\(∀SY:View,Ux.Le SY->ab prog 209 #[.slice OH Ok M8,.slice Ik Ol M9] SY fun R8 Uy=>∃(OJ:OA)(Om M_:Nat),R8=.slice OJ Om M_/\(∀SZ:View,Uy.Le SZ->ab prog 190 #[.agg #[.bool MV,.slice OG Oj M7],.slice OJ Om M_] SZ fun R9 Uz=>∃Pb:Int,∃Pc:Int,∃OK:OA,R9=.agg #[.int .i64 Pb,.int .i64 Pc,.pointer OK]/\(∀S0:View,Uz.Le S0->RR S0 (.agg #[.int .i64 Pb,.int .i64 Pc,.pointer OK]) (x+y))))))))))))):=by
  intro V1 l1
  refine (eM (hx.le l1) hk (by omega)).mono ?_
  rintro r V2 l2 ⟨p1,n1,c1,rfl,g1⟩
  refine ⟨_,_,_,_,rfl,fun V3 l3=>(dV (hy.le (l1.trans (l2.trans l3))) hm (by omega)).mono ?_⟩
  rintro r V4 l4 ⟨p2,n2,c2,rfl,g2⟩
  have q1:=af hk.1
  have q2:=af hk.2
  have q3:=af hm.1
  have q4:=af hm.2
  refine ⟨_,_,_,rfl,fun V5 l5=>(fX _ false (g1.le (l3.trans (l4.trans l5))) (g2.le l5) (by omega)).mono ?_⟩
  rintro r V6 l6 h6
  rw [aG,nC,ae] at h6
  obtain ⟨p3,n3,c3,rfl,g3⟩:=h6
  refine ⟨_,_,_,_,rfl,fun V7 l7=>(eM (hy.le (l1.trans (l2.trans (l3.trans (l4.trans (l5.trans (l6.trans l7))))))) hm (by omega)).mono ?_⟩
  rintro r V8 l8 ⟨p4,n4,c4,rfl,g4⟩
  refine ⟨_,_,_,_,rfl,fun V9 l9=>(dV (hx.le (l1.trans (l2.trans (l3.trans (l4.trans (l5.trans (l6.trans (l7.trans (l8.trans l9))))))))) hk (by omega)).mono ?_⟩
  rintro r jm l10 ⟨p5,n5,c5,rfl,g5⟩
  refine ⟨_,_,_,rfl,fun kR bW=>(fX _ false (g4.le (l9.trans (l10.trans bW))) (g5.le bW) (by omega)).mono ?_⟩
  rintro r nZ dh h12
  rw [aG,nC,ae] at h12
  obtain ⟨p6,n6,c6,rfl,g6⟩:=h12
  have q5:=af b1
  have q6:=af b2
  refine ⟨_,_,_,_,rfl,fun sY dL=>(vU _ _ (g3.le (l7.trans (l8.trans (l9.trans (l10.trans (bW.trans (dh.trans dL))))))) (g6.le dL) (by omega) (by omega)).mono ?_⟩
  rintro r pF fk Gr
  rw [aG,aG] at Gr
  obtain ⟨p7,n7,c7,rfl,g7⟩:=Gr
  have yE:=l1.trans (l2.trans (l3.trans (l4.trans (l5.trans (l6.trans (l7.trans (l8.trans (l9.trans (l10.trans (bW.trans (dh.trans (dL.trans fk))))))))))))
  refine ⟨_,_,_,_,rfl,fun n_ eZ=>(dV (hx.le (yE.trans eZ)) hk (by omega)).mono ?_⟩
  rintro r oa eF ⟨p8,n8,c8,rfl,g8⟩
  refine ⟨_,_,_,rfl,fun pH ew=>(dV (hy.le (yE.trans (eZ.trans (eF.trans ew)))) hm (by omega)).mono ?_⟩
  rintro r sE fo ⟨p9,n9,c9,rfl,g9⟩
  refine ⟨_,_,_,rfl,fun xh fl=>(fQ (g8.le (ew.trans (fo.trans fl))) (g9.le fl) (by omega)).mono ?_⟩
  rintro r CF jN ⟨J1,n10,c10,rfl,g10⟩
  rw [ae,ae] at g10
  have q7:=af b3
  have q8:=af b4
  refine ⟨_,_,_,rfl,fun xi gG=>(cf _ (g7.le (eZ.trans (eF.trans (ew.trans (fo.trans (fl.trans (jN.trans gG))))))) (g10.le gG) (by omega) (by omega)).mono ?_⟩
  rintro r vO kO h22
  rw [aG,ae,←hxy] at h22
  obtain ⟨n,d,p,rfl⟩:=h22.shape
  exact ⟨_,_,_,rfl,fun CG je=>h22.le je⟩
 have lift:∀V1:View,V.Le V1->∀V2:View,V1.Le V2->V.Le V2:=fun _ h _ h'=>h.trans h'
 rcases hx with ⟨ex,wx⟩|⟨a,b,p,n,c,p',n',c',ex,-,-,-,-,-,wx⟩
 ·rcases hy with ⟨ey,wy⟩|⟨a,b,p,n,c,p',n',c',ey,-,-,-,-,-,wy⟩
  ·simp only [Value.agg.injEq,Array.mk.injEq,List.cons.injEq,Value.int.injEq,Value.pointer.injEq,true_and,and_true] at ex ey
   obtain ⟨rfl,rfl,rfl⟩:=ex
   obtain ⟨rfl,rfl,rfl⟩:=ey
   obtain ⟨O6,Uk⟩:=wx
   obtain ⟨O7,Ul⟩:=wy
   have dx:=x.den_nz
   have dy:=y.den_nz
   have e1:i64.wrap ((x.den:Int)-1+1)=x.den:=by rw [ay (by omega)];omega
   have e2:i64.wrap ((y.den:Int)-1+1)=y.den:=by rw [ay (by omega)];omega
   refine jy _ _ _ _ _ _ V _ ⟨fun _=>⟨fun _ _=>True,⟨fun _=>⟨fun h1=>⟨fun h2 V1 l1=>?_,fun h2=>?_⟩,fun h1=>?_⟩,(fun h=>nomatch h)⟩,fun _ V1 l1 _=>⟨by trivial,fun V2 l2=>gen V2 (l1.trans l2)⟩⟩,(fun h=>nomatch h)⟩
   ·have h1:x.den=1:=by rw [beq_iff_eq] at h1;omega
    have h2:y.den=1:=by rw [beq_iff_eq] at h2;omega
    rw [ay (by omega)]
    refine (ie _ (by omega) (by omega)).mono ?_
    rintro r V2 l2 hr
    have e:((x.num+y.num:Int):Rat)=x+y:=by
     rw [hxy,h1,h2]
     simp only [Nat.mul_one,Int.natCast_one,Int.mul_one]
     exact (mkRat_one _).symm
    rw [e] at hr
    obtain ⟨n,d,p,rfl⟩:=hr.shape
    exact ⟨_,_,_,rfl,fun V3 l3=>hr.le l3⟩
   all_goals
    rw [e1,e2]
    refine fun V4 l4=>(fr _ _ O6 (by omega)).mono ?_
    rintro r V5 l5 ⟨z1,rfl,hz1⟩
    refine ⟨_,_,rfl,fun V6 l6=>(fr _ _ O7 (by omega)).mono ?_⟩
    rintro r V7 l7 ⟨z2,rfl,hz2⟩
    refine ⟨_,_,rfl,fun V8 l8=>(fr _ _ (by omega) (by omega)).mono ?_⟩
    rintro r V9 l9 ⟨z3,rfl,hz3⟩
    refine ⟨_,_,rfl,fun g1=>⟨fun g2=>⟨fun g3=>⟨fun g4=>⟨fun g5 jm l10=>?_,fun _=>⟨(),by and_intros<;>rfl,trivial⟩⟩,fun _=>⟨(),by and_intros<;>rfl,trivial⟩⟩,fun _=>⟨(),by and_intros<;>rfl,trivial⟩⟩,fun _=>⟨(),by and_intros<;>rfl,trivial⟩⟩,fun _=>⟨(),by and_intros<;>rfl,trivial⟩⟩
    rw [decide_eq_true_eq] at g1 g2 g3 g4 g5
    have k1:=hz1 g1
    have k2:=hz2 g2
    have k3:=hz3 g3
    rw [←k1] at g1
    rw [←k2] at g2
    rw [←Int.natCast_mul,Int.natAbs_natCast] at g3
    rw [←Int.natCast_mul] at k3
    rw [ay (by omega)] at g4 g5 ⊢
    rw [k3]
    refine (mN _ _ (by omega) g3 (Nat.mul_ne_zero dx dy)).mono ?_
    rintro r kR bW hr
    rw [k1,k2,←hxy] at hr
    obtain ⟨n,d,p,rfl⟩:=hr.shape
    exact ⟨_,_,_,rfl,fun V3 l3=>hr.le l3⟩
  ·simp only [Value.agg.injEq,Array.mk.injEq,List.cons.injEq,Value.int.injEq,Value.pointer.injEq,true_and,and_true] at ex ey
   obtain ⟨rfl,rfl,rfl⟩:=ex
   obtain ⟨rfl,rfl,rfl⟩:=ey
   exact jy _ _ _ _ _ _ V _ ⟨fun _=>⟨fun _ _=>True,⟨(fun h=>nomatch h),fun _=>⟨(),by and_intros<;>rfl,trivial⟩⟩,fun _ V1 l1 _=>⟨by trivial,fun V2 l2=>gen V2 (l1.trans l2)⟩⟩,(fun h=>nomatch h)⟩
 ·simp only [Value.agg.injEq,Array.mk.injEq,List.cons.injEq,Value.int.injEq,Value.pointer.injEq,true_and,and_true] at ex
  obtain ⟨rfl,rfl,rfl⟩:=ex
  exact jy _ _ _ _ _ _ V _ ⟨(fun h=>nomatch h),fun _=>gen⟩
end Go.Proofs.Tryz
