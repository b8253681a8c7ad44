import Derived.Test.YthpmdmkmfoaamaaGreatDoorS9
import Derived.Test.YthpmdmkmfoaamaaGreatDoorS6
import Derived.Test.YthpmdmkmfoaamaaGreatDoorS7
set_option linter.unusedVariables false
open Go.IntKind (i64 u64 u32)
namespace Go.Proofs.Tryz
open Go.br Go.dS
theorem Nr {V:View}{p:OA}{n c:Nat}{ds:List Nat}(h:RD V p n c ds){i:Int}{K:Int->Prop}(j d:Nat)(hj:i=j)(hn:ds[j]?=some d)
  (hK:K (d:Int)):(p.isSome=true)/\(0<=i/\i<(n:Int))/\∃x:Int,(∃a,af p (i.toNat*1)=some a/\V.at a (.int .u32 x))/\K x:=by
 have hl:j<ds.length:=by
  rcases Nat.lt_or_ge j ds.length with h|h
  ·exact h
  ·rw [List.getElem?_eq_none h] at hn;cases hn
 refine h.rd j hj hl ?_
 rw [List.getElem?_eq_getElem hl] at hn
 cases hn;exact hK
theorem zT {W n:Nat}(h:(ag W).length=n+1):∃top,(ag W)[n]?=some top/\top≠0/\top<4294967296/\top*4294967296^n<=W:=by
 refine ⟨(ag W)[n]'(by omega),List.getElem?_eq_getElem _,?_,(aB W).get _,xQ h⟩
 have:=(eF W).last (by omega)
 simpa [h] using this
structure rv (A V L:Nat) (R:Nat) (j:Nat) (es:List Nat):Prop where
 len:es.length=L
 cD:bD es
 lt:R<V*4294967296^j
 eq:A=V*(4294967296^j*val (es.drop j))+R
theorem rv.step {A V L R j:Nat}{es:List Nat}(h:rv A V L R (j+1) es)(hj:j<L)(hV:0<V) :
  R / (V*4294967296^j)<4294967296/\rv A V L (R-V*(R / (V*4294967296^j))*4294967296^j) j (es.set j (R / (V*4294967296^j))):=by
 have hW:0<4294967296^j:=Nat.pow_pos (by omega)
 have E9:0<V*4294967296^j:=Nat.mul_pos hV hW
 have hq:R / (V*4294967296^j)<4294967296:=by
  rw [Nat.div_lt_iff_lt_mul E9]
  have:=h.lt
  rw [Nat.pow_succ] at this
  have e:4294967296*(V*4294967296^j)=V*(4294967296^j*4294967296):=by
   generalize 4294967296^j=w
   grind
  omega
 have hs:=xM (R:=R) (V:=V) (W:=4294967296^j)
 have hm:=Nat.mod_lt R E9
 have he:R-V*(R / (V*4294967296^j))*4294967296^j=R%(V*4294967296^j):=by omega
 refine ⟨hq,⟨by simpa using h.len,h.cD.set _ _ hq,by rw [he];exact hm,?_⟩⟩
 have hl:=h.len
 rw [List.drop_eq_getElem_cons (by simp;omega),List.getElem_set_self,List.drop_set_of_lt (by omega),aT,he]
 exact zz (by have:=h.eq;rwa [Nat.pow_succ] at this) hs
theorem BR {R V j:Nat}(h:R<V*4294967296^(j+1)):(ag R).length<=(ag V).length+j+1:=by
 have h1:V*4294967296^(j+1)<=4294967296^(ag V).length*4294967296^(j+1):=Nat.mul_le_mul_right _ (Nat.le_of_lt (aC.1 (Nat.le_refl _)))
 rw [←Nat.pow_add] at h1
 have:=aC.2 (Nat.lt_of_lt_of_le h h1)
 omega
theorem CU {R n:Nat}(h:(ag R).length<=n+2):R / 4294967296^n<18446744073709551616:=by
 rw [Nat.div_lt_iff_lt_mul (Nat.pow_pos (by omega))]
 have:=aC.1 h
 rw [Nat.pow_succ,Nat.pow_succ] at this
 have e:4294967296^n*4294967296*4294967296=18446744073709551616*4294967296^n:=by
  generalize 4294967296^n=w
  omega
 omega
theorem wX {V:View}{p q:OA}{n c m e:Nat}{x y:Nat}(hx:RN V p n c x)(hy:RN V q m e y)(hm:(ag x).length<=274877906944)(hy0:0<y)(hle:(ag y).length<=(ag x).length) :
  ab prog 162 #[.slice p n c,.slice q m e] V fun r V'=>∃p1 n1 c1 p2 n2 c2,r=.tuple #[.slice p1 n1 c1,.slice p2 n2 c2]/\RN V' p1 n1 c1 (x / y)/\RN V' p2 n2 c2 (x%y):=by
 have hlx:=hx.len
 have sf:=hy.len
 have hm0:0<m:=by
  rcases Nat.eq_zero_or_pos m with h|h
  ·have:=bg.1 (List.length_eq_zero_iff.1 (sf▸h));omega
  ·exact h
 have vc:=wv p n c q m e V
 have w1:i64.wrap ((m:Int)-1)=((m-1:Nat):Int):=by rw [aD (by omega)];omega
 have w2:i64.wrap ((n:Int)-m)=((n-m:Nat):Int):=by rw [aD (by omega)];omega
 have w3:i64.wrap (((n-m:Nat):Int)+1)=((n-m+1:Nat):Int):=by rw [aD (by omega)];omega
 have w4:i64.wrap (((n-m+1:Nat):Int)-1)=((n-m:Nat):Int):=by rw [aD (by omega)];omega
 simp only [w1,w2,w3,Int.toNat_natCast,w4,bU] at vc
 obtain ⟨L,hL⟩:∃L,L=n-m+1:=⟨_,rfl⟩
 rw [←hL] at vc
 refine vc _ ?_
 clear vc
 refine hy.rd (m-1) rfl (by omega) fun V1 l1=>(dU _ ((aB y).get (by omega))).mono ?_
 rintro r V2 l2 rfl
 have hbl:bz ((ag y)[m-1]'(by omega))<=32:=fI.2 (by have:=(aB y).get (i:=m-1) (by omega);omega)
 obtain ⟨s,hs⟩:∃s:Nat,(32:Int)-(bz ((ag y)[m-1]'(by omega)):Int)=s:=⟨32-bz ((ag y)[m-1]'(by omega)),by omega⟩
 have CL:s<=32:=by omega
 rw [hs]
 clear hs hbl
 refine ⟨_,rfl,fun V3 l3=>(gZ (hy.le (l1.trans (l2.trans l3))) (by omega) s (by omega)).mono ?_⟩
 rintro r V4 l4 ⟨vp,vn,vc,rfl,hv⟩
 rw [ae] at hv
 refine ⟨_,_,_,rfl,fun V5 l5=>(gZ (hx.le (l1.trans (l2.trans (l3.trans (l4.trans l5))))) (by omega) s (by omega)).mono ?_⟩
 rintro r V6 l6 ⟨rp,rn,rc,rfl,hr⟩
 rw [ae] at hr
 replace hv:=hv.le (l5.trans l6)
 have hlv:=hv.len
 have hsp:=Nat.two_pow_pos s
 have hs2:2^s<=4294967296:=Nat.pow_le_pow_right (n:=2) (by omega) CL
 have KO:0<y*2^s:=Nat.mul_pos hy0 hsp
 have hsl:(ag (2^s)).length<=2:=aC.2 (by omega)
 have hvl:vn<=m+2:=by have:=eU (a:=y) (b:=2^s);omega
 have N2:0<vn:=by
  rcases Nat.eq_zero_or_pos vn with h|h
  ·have:=bg.1 (List.length_eq_zero_iff.1 (hlv▸h));omega
  ·exact h
 have hinit:rv (x*2^s) (y*2^s) L (x*2^s) L (List.replicate L 0):=by
  refine ⟨by simp,bD.rep _,?_,by simp⟩
  have h1:x<4294967296^n:=by rw [hlx];exact aC.1 (Nat.le_refl _)
  have h2:4294967296^(m-1)<=y:=by rw [←mz];omega
  have h3:4294967296^(m-1)*4294967296^L<=y*4294967296^L:=Nat.mul_le_mul_right _ h2
  rw [←Nat.pow_add,show m-1+L=n from by omega] at h3
  have h4:x*2^s<y*4294967296^L*2^s:=Nat.mul_lt_mul_of_pos_right (by omega) hsp
  have h5:y*4294967296^L*2^s=y*2^s*4294967296^L:=by
   generalize 4294967296^L=w
   grind
  omega
 have hend:∀{Q R:Nat},x*2^s=y*2^s*Q+R->R<y*2^s->Q=x / y/\R / 2^s=x%y:=fun h1 h2=>Be h1 h2
 generalize x*2^s=A at *
 generalize y*2^s=W at *
 have w5:i64.wrap ((vn:Int)-1)=((vn-1:Nat):Int):=by rw [aD (by omega)];omega
 simp only [w5,Int.toNat_natCast]
 refine ⟨_,_,_,rfl,?_⟩
 obtain ⟨top,MO,KV,KW,F8⟩:=zT (W:=W) (n:=vn-1) (by omega)
 refine Nr hv (vn-1) top rfl MO ?_
 have w6:u64.wrap (top:Int)=top:=aJ (by omega)
 simp only [w6]
 refine ⟨by omega,by omega,by omega,fun z V'=>∃R:Nat,RN V' z.1 z.2.1 z.2.2.1 R/\-1<=z.2.2.2.1/\z.2.2.2.1<L/\∃es:List Nat,z.2.2.2.2=aA es/\rv A W L R (z.2.2.2.1+1).toNat es,fun z=>(z.2.2.2.1+1).toNat,
  ⟨(rp,rn,rc,((n-m:Nat):Int),aA (List.replicate L 0)),by (try dsimp only);and_intros<;>first|exact True.intro|rfl,A,hr,by (try dsimp only);omega,by (try dsimp only);omega,_,rfl,?_⟩,?_⟩
 ·(try dsimp only)
  rw [show (((n-m:Nat):Int)+1).toNat=L from by omega]
  exact hinit
 rintro ⟨rp,rn,rc,j,vs⟩ V7 l7 ⟨R,hR,hj0,hj1,es,rfl,hI⟩
 dsimp only at hR hj0 hj1 hI ⊢
 have hlr:=hR.len
 refine ⟨by trivial,fun h3=>?_,fun h3=>?_⟩
 ·have h3:0<=j:=by simpa using h3
  obtain ⟨j,rfl⟩:=Int.eq_ofNat_of_zero_le h3
  have hI:rv A W L R (j+1) es:=hI
  have MB:j<L:=by omega
  have hrl:=BR hI.lt
  obtain ⟨hq,hI'⟩:=hI.step MB KO
  have w7:i64.wrap ((vn:Int)+j)=((vn-1+j+1:Nat):Int):=by rw [aD (by omega)];omega
  have w8:i64.wrap (((vn-1+j+1:Nat):Int)-1)=((vn-1+j:Nat):Int):=by rw [aD (by omega)];omega
  have w9:i64.wrap ((32:Int)*j)=((32*j:Nat):Int):=by rw [aD (by omega)];omega
  have JW:i64.wrap ((j:Int)-1)=(j:Int)-1:=aD (by omega)
  simp only [w7,w8,w9,JW,Int.toNat_natCast]
  have hrl:(ag R).length<=vn-1+j+2:=by omega
  have hld:=CU hrl
  have hP:0<4294967296^(vn-1):=Nat.pow_pos (by omega)
  have hW:0<4294967296^j:=Nat.pow_pos (by omega)
  have hg:=AP (R:=R) F8 (by omega) hP hW
  rw [←Nat.pow_add] at hg
  have l2:=@Gr R (vn-1+j)
  have l1:=@DX R (vn-1+j)
  have l0:=@Gq R (vn-1+j)
  have hlast:∀i (hi:i<(ag R).length),(ag R)[i]<4294967296:=fun i hi=>(aB R).get hi
  generalize R / 4294967296^(vn-1+j)=lead at *
  refine ⟨fun z V'=>z=(lead:Int),⟨fun h4=>?_,fun h4=>?_⟩,?_⟩
  ·have h4:vn-1+j+1<rn:=by simp at h4;omega
   refine (hR.rd (vn-1+j+1) rfl (by omega) ⟨by omega,hR.rd (vn-1+j) rfl (by omega) ⟨(lead:Int),?_,rfl⟩⟩)
   have e4:aX .or .u64 (u64.wrap (u64.wrap (((ag R)[vn-1+j+1]'(by omega):Nat):Int)*2^32)) (u64.wrap (((ag R)[vn-1+j]'(by omega):Nat):Int))=(lead:Int):=by
    have e3:((2:Int)^32)=4294967296:=by decide
    have g1:=hlast (vn-1+j+1) (by omega)
    have g2:=hlast (vn-1+j) (by omega)
    have:=l2 (by omega)
    rw [e3,aJ (x:=(((ag R)[vn-1+j+1]'(by omega):Nat):Int)) (by omega),aJ (x:=(((ag R)[vn-1+j]'(by omega):Nat):Int)) (by omega),aJ (by omega),vv _ _ g1 g2,this]
    omega
   (try dsimp only);and_intros<;>first|exact True.intro|exact e4|rfl
  ·have h4:rn<=vn-1+j+1:=by simp at h4;omega
   refine ⟨fun z V'=>z=(lead:Int),⟨fun h5=>?_,fun h5=>?_⟩,?_⟩
   ·have h5:vn-1+j<rn:=by simp at h5;omega
    refine hR.rd (vn-1+j) rfl (by omega) ⟨(lead:Int),?_,rfl⟩
    have e4:u64.wrap (((ag R)[vn-1+j]'(by omega):Nat):Int)=(lead:Int):=by
     have g2:=hlast (vn-1+j) (by omega)
     rw [aJ (by omega),l1 (by omega)]
    (try dsimp only);and_intros<;>first|exact True.intro|exact e4|rfl
   ·have h5:rn<=vn-1+j:=by simp at h5;omega
    have e4:(0:Int)=(lead:Int):=by rw [l0 (by omega)];rfl
    refine ⟨(lead:Int),?_,rfl⟩
    (try dsimp only);and_intros<;>first|exact True.intro|exact e4|rfl
   ·rintro _ V8 l8 rfl
    refine ⟨by trivial,(lead:Int),?_,rfl⟩
    (try dsimp only);and_intros<;>first|exact True.intro|rfl
  rintro _ V9 l9 rfl
  clear l2 l1 l0 hlast
  have FK:(lead:Int).tdiv (top:Int)=((lead / top:Nat):Int):=by rw [Int.tdiv_eq_ediv_of_nonneg (by omega)];omega
  have hlt:lead / top<=lead:=Nat.div_le_self _ _
  rw [FK]
  generalize lead / top=lt at *
  obtain ⟨g0,hg0,Er,IF⟩:∃g0:Nat,bC (u64.wrap (lt:Int)) 4294967295=(g0:Int)/\g0<4294967296/\R / (W*4294967296^j)<=g0:=by
   rw [aJ (by omega)]
   unfold bC
   split
   ·exact ⟨4294967295,rfl,by omega,by omega⟩
   ·exact ⟨lt,rfl,by omega,hg⟩
  rw [hg0]
  clear hg0 FK hlt hg hld
  have KP:0<W*4294967296^j:=Nat.mul_pos KO hW
  have hsz:∀g:Nat,g<4294967296->(ag g).length<=1:=fun g hg=>aC.2 (by omega)
  refine ⟨by trivial,by omega,fun iC l10=>(cH g0 (by omega)).mono ?_⟩
  rintro r mf cB ⟨gp,gn,gc,rfl,h11⟩
  refine ⟨_,_,_,rfl,fun mg cX=>(bX (hv.le (l7.trans (l9.trans (l10.trans (cB.trans cX))))) (h11.le cX) (by have:=hsz g0 Er;omega)).mono ?_⟩
  rintro r nW cZ ⟨pp,pn,pc,rfl,HF⟩
  rw [ae,ae] at HF
  have hpl:=fun g=>eU (a:=W) (b:=g)
  refine ⟨_,_,_,rfl,fun mU dL=>(gZ (HF.le dL) (by have:=hsz g0 Er;have:=hpl g0;omega) (32*j) (by omega)).mono ?_⟩
  rintro r mh eC ⟨tp,tn,tc,rfl,HG⟩
  rw [ae,D0] at HG
  have FO:=hR.le (l9.trans (l10.trans (cB.trans (cX.trans (cZ.trans (dL.trans eC))))))
  have IZ:=hv.le (l7.trans (l9.trans (l10.trans (cB.trans (cX.trans (cZ.trans (dL.trans eC)))))))
  refine ⟨_,_,_,rfl,fun z V'=>∃g:Nat,z.1=g/\g<4294967296/\R / (W*4294967296^j)<=g/\RN V' z.2.1 z.2.2.1 z.2.2.2 (W*g*4294967296^j),fun z=>z.1.toNat,
   ⟨((g0:Int),tp,tn,tc),by (try dsimp only);and_intros<;>first|exact True.intro|rfl,g0,rfl,Er,IF,HG⟩,?_⟩
  rintro ⟨_,tp,tn,tc⟩ nX dM ⟨g,rfl,hgb,MA,ht⟩
  dsimp only at ht ⊢
  have htl:(ag (W*g*4294967296^j)).length<=1099511627776:=by
   have h1:=eU (a:=W*g) (b:=4294967296^j)
   have h2:=tg j
   have h3:=hpl g
   have h4:=hsz g hgb
   omega
  refine ⟨by trivial,fun nJ dR=>(dZ (ht.le dR) (FO.le (dM.trans dR)) htl (by omega)).mono ?_⟩
  rintro r ry fu rfl
  refine ⟨_,rfl,fun h6=>?_,fun h6=>?_⟩
  ·have h6:R<W*g*4294967296^j:=by
    have h6:0<fV (W*g*4294967296^j) R:=by simpa using h6
    unfold fV at h6
    split at h6
    ·omega
    ·split at h6
     ·assumption
     ·omega
   have hgo:=AQ KP h6
   have hg1:0<g:=Nat.lt_of_le_of_lt (Nat.zero_le _) hgo
   have e1:u64.wrap ((g:Int)-1)=((g-1:Nat):Int):=by rw [aJ (by omega)];omega
   simp only [e1]
   refine fun wE gG=>(cH (g-1) (by omega)).mono ?_
   rintro r Al lj ⟨gp,gn,gc,rfl,h20⟩
   refine ⟨_,_,_,rfl,fun ux iy=>(bX (IZ.le (dM.trans (dR.trans (fu.trans (gG.trans (lj.trans iy)))))) (h20.le iy) (by have:=hsz (g-1) (by omega);omega)).mono ?_⟩
   rintro r yS lN ⟨pp,pn,pc,rfl,h22⟩
   rw [ae,ae] at h22
   refine ⟨_,_,_,rfl,fun wJ jy=>(gZ (h22.le jy) (by have:=hsz (g-1) (by omega);have:=hpl (g-1);omega) (32*j) (by omega)).mono ?_⟩
   rintro r Cc xq ⟨tp,tn,tc,rfl,KJ⟩
   rw [ae,D0] at KJ
   refine ⟨_,_,_,rfl,(((g-1:Nat):Int),tp,tn,tc),?_,by (try dsimp only);and_intros<;>first|exact True.intro|rfl,g-1,rfl,by omega,by omega,KJ⟩
   (try dsimp only);omega
  ·have h6:W*g*4294967296^j<=R:=by
    have h6:¬0<fV (W*g*4294967296^j) R:=by simpa using h6
    unfold fV at h6
    split at h6
    ·omega
    ·split at h6
     ·omega
     ·omega
   have hstop:=xg KP h6 MA
   rw [←hstop] at hI'
   have hes:=hI.len
   refine ⟨⟨by omega,by omega⟩,by simp;omega,fun Cd qk=>(jN (FO.le (dM.trans (dR.trans (fu.trans qk)))) (ht.le (dR.trans (fu.trans qk))) (by omega) (ax h6) (by rw [ae,ae];exact h6)).mono ?_⟩
   rintro r Fk yy ⟨np,nn,nc,rfl,KK⟩
   rw [ae,ae] at KK
   have e1:u32.wrap (g:Int)=(g:Int):=kY (by omega)
   have e2:(aA es).set (0+j*1) (.int .u32 (g:Int))=aA (es.set j g):=by rw [←aY];simp
   simp only [e1]
   refine ⟨_,_,_,rfl,(np,nn,nc,(j:Int)-1,aA (es.set j g)),?_,by (try dsimp only);and_intros<;>first|exact True.intro|rfl|exact e2|(rw [←aY];simp),R-W*g*4294967296^j,KK,by (try dsimp only);omega,by (try dsimp only);omega,_,rfl,?_⟩
   ·(try dsimp only);omega
   ·(try dsimp only)
    rw [show ((j:Int)-1+1).toNat=j from by omega]
    exact hI'
 ·have h3:j=-1:=by simp at h3;omega
  subst h3
  have IW:(ag R).length<=1099511627776:=by
   have h6:=hI.lt
   have h6:R<W:=by simpa using h6
   have:=ax (Nat.le_of_lt h6)
   omega
  intro V8 l8 bk hb
  refine (bY (RD.bf hb hI.cD (n:=L) (c:=L) hI.len.symm (Nat.le_refl _)) (by have:=hI.len;omega)).mono ?_
  rintro r V9 l9 ⟨k,rfl,h4⟩
  refine ⟨_,_,_,rfl,fun _ iC l10=>(uL (hR.le (l8.trans (l9.trans l10))) IW s (by omega)).mono ?_⟩
  rintro r mf cB ⟨p2,n2,c2,rfl,h5⟩
  rw [ae] at h5
  refine ⟨_,_,_,rfl,fun mg cX=>⟨_,_,_,_,_,_,rfl,?_,?_⟩⟩
  ·have h6:=hI.lt
   have h7:=hI.eq
   have h6:R<W:=by simpa using h6
   have h7:A=W*val es+R:=by simpa using h7
   obtain ⟨g1,g2⟩:=hend h7 h6
   rw [aI hI.cD,g1] at h4
   exact h4.le (l10.trans (cB.trans cX))
  ·have h6:=hI.lt
   have h7:=hI.eq
   have h6:R<W:=by simpa using h6
   have h7:A=W*val es+R:=by simpa using h7
   obtain ⟨g1,g2⟩:=hend h7 h6
   rw [g2] at h5
   exact h5.le cX
theorem lh {x:Nat}(h:(ag x).length<=2):x<18446744073709551616:=by
 have:=aC.1 h
 omega
theorem copied {V:View}{b n c:Nat}{ds:List Nat}{sp:List Value}{ty:TypeId}(hd:bD ds)(hn:n=ds.length)(hc:n<=c)(hb:V.bf b (.cells (aA ds++sp).toArray ty (0,0))):RD V (some ⟨b,0,none⟩) n c ds:=by
 refine ⟨hn,hc,fun i v hv=>⟨_,rfl,?_⟩,hd,fun e=>nomatch e⟩
 rw [add_zero']
 refine bW hb ?_
 rw [List.getElem?_append_left]
 ·exact hv
 ·rcases Nat.lt_or_ge i (aA ds).length with e|e
  ·exact e
  ·rw [List.getElem?_eq_none e] at hv;cases hv
theorem cO {V:View}{p q:OA}{n c m e:Nat}{x y:Nat}(hx:RN V p n c x)(hy:RN V q m e y)(hm:(ag x).length<=274877906944)(hm':(ag y).length<=274877906944)(hy0:0<y) :
  ab prog 114 #[.slice p n c,.slice q m e] V fun r V'=>∃p1 n1 c1 p2 n2 c2,r=.tuple #[.slice p1 n1 c1,.slice p2 n2 c2]/\RN V' p1 n1 c1 (x / y)/\RN V' p2 n2 c2 (x%y):=by
 have hlx:=hx.len
 have sf:=hy.len
 have hm0:0<m:=by
  rcases Nat.eq_zero_or_pos m with h|h
  ·have:=bg.1 (List.length_eq_zero_iff.1 (sf▸h));omega
  ·exact h
 refine qX p n c q m e V _ fun V1 l1=>(hE (hx.le l1) (by omega)).mono ?_
 rintro r V2 l2 rfl
 rw [ae]
 refine ⟨_,_,rfl,fun z V'=>True,⟨fun h0=>?_,fun h0=>⟨(),by (try dsimp only);and_intros<;>first|exact True.intro|rfl,trivial⟩⟩,?_⟩
 ·have h0:n<=2:=by simpa using h0
  refine fun V3 l3=>(hE (hy.le (l1.trans (l2.trans l3))) (by omega)).mono ?_
  rintro r V4 l4 rfl
  rw [ae]
  refine ⟨_,_,rfl,fun h1=>?_,fun h1=>⟨(),by (try dsimp only);and_intros<;>first|exact True.intro|rfl,trivial⟩⟩
  have h1:m<=2:=by simpa using h1
  have hxw:=lh (x:=x) (by omega)
  have KZ:=lh (x:=y) (by omega)
  rw [if_pos h0,if_pos h1]
  have hq:x / y<=x:=Nat.div_le_self _ _
  have hr:x%y<y:=Nat.mod_lt _ hy0
  have e1:((x:Nat):Int).tdiv (y:Int)=((x / y:Nat):Int):=by rw [Int.tdiv_eq_ediv_of_nonneg (by omega)];omega
  have e2:((x:Nat):Int).tmod (y:Int)=((x%y:Nat):Int):=by rw [Int.tmod_eq_emod_of_nonneg (by omega)];omega
  rw [e1,e2]
  generalize x / y=qq at *
  generalize x%y=rr at *
  have e3:u64.wrap (qq:Int)=qq:=aJ (by omega)
  rw [e3]
  refine ⟨by omega,by omega,fun V5 l5=>(cH qq (by omega)).mono ?_⟩
  rintro r V6 l6 ⟨p1,n1,c1,rfl,g1⟩
  refine ⟨_,_,_,rfl,fun V7 l7=>(cH rr (by omega)).mono ?_⟩
  rintro r V8 l8 ⟨p2,n2,c2,rfl,g2⟩
  exact ⟨_,_,_,rfl,fun V9 l9=>⟨_,_,_,_,_,_,rfl,g1.le (l7.trans (l8.trans l9)),g2.le l9⟩⟩
 rintro _ iC l10 _
 replace hx:=hx.le (l1.trans (l2.trans l10))
 replace hy:=hy.le (l1.trans (l2.trans l10))
 refine ⟨by trivial,fun mf cB=>(dZ (hx.le cB) (hy.le cB) (by omega) (by omega)).mono ?_⟩
 rintro r mg cX rfl
 replace hx:=hx.le (cB.trans cX)
 replace hy:=hy.le (cB.trans cX)
 refine ⟨_,rfl,fun h0=>⟨aA (ag x),hx.sl,by simp [hlx],by omega,by omega,by simp,by simp [hlx],?_,?_⟩,fun h0=>⟨fun h1=>?_,fun h1=>?_⟩⟩
 ·intro v hv
  simp only [aA,List.mem_map] at hv
  obtain ⟨d,-,rfl⟩:=hv
  rfl
 ·have h0:x<y:=by simpa [dJ] using h0
  intro bk J sp c' h1 h2 V1 l1 b hb
  rw [Nat.div_eq_of_lt h0,Nat.mod_eq_of_lt h0]
  refine ⟨_,_,_,_,_,_,rfl,RD.nil,?_⟩
  simp only [Nat.zero_add,Nat.zero_mul,List.take_zero,List.nil_append] at hb h1 ⊢
  exact copied (aB x) hlx h1 hb
 ·have h0:y<=x:=by simpa [←Int.not_lt,dJ] using h0
  have h1:m=1:=by simp at h1;omega
  subst h1
  obtain ⟨d,hd⟩:=ie (ds:=ag y) (by omega)
  have hdy:d=y:=by have:=ae y;rw [hd] at this;simpa using this
  subst hdy
  have hdl:d<4294967296:=by have:=aB d;rw [hd] at this;exact (bD.cons.1 this).1
  try unfold RN at hy
  rw [hd] at hy
  have hn0:0<n:=by have:=ax h0;omega
  have w1:i64.wrap ((n:Int)-1)=(n:Int)-1:=aD (by omega)
  simp only [w1,Int.toNat_natCast,bU]
  have sd:=aB x
  have Gd:=ae x
  try unfold RN at hx
  clear hd
  rw [←Gd]
  clear Gd h0
  generalize ag x=xs at *
  refine ⟨by omega,by omega,by omega,fun z V'=>0<=z.1/\z.1<d/\-1<=z.2.1/\z.2.1<n/\∃es:List Nat,z.2.2=aA es/\es.length=n/\bD es /\
   val (xs.drop (z.2.1+1).toNat)=d*val (es.drop (z.2.1+1).toNat)+z.1.toNat,fun z=>(z.2.1+1).toNat,
   ⟨(0,(n:Int)-1,aA (List.replicate n 0)),by (try dsimp only);and_intros<;>first|exact True.intro|rfl,by (try dsimp only);omega,by (try dsimp only);omega,by (try dsimp only);omega,by (try dsimp only);omega,_,rfl,by simp,bD.rep _,?_⟩,?_⟩
  ·(try dsimp only)
   rw [List.drop_of_length_le (by omega),List.drop_of_length_le (by simp)];rfl
  rintro ⟨rest,i,vs⟩ mU dL ⟨hr0,hr1,hi0,hi1,es,rfl,hes,hde,hv⟩
  dsimp only at hr0 hr1 hi0 hi1 hv ⊢
  obtain ⟨rest,rfl⟩:=Int.eq_ofNat_of_zero_le hr0
  refine ⟨by trivial,fun h3=>?_,fun h3=>?_⟩
  ·have h3:0<=i:=by simpa using h3
   obtain ⟨i,rfl⟩:=Int.eq_ofNat_of_zero_le h3
   have hi2:((i:Int)+1).toNat=i+1:=by omega
   rw [hi2] at hv
   simp only [Int.toNat_natCast] at hv ⊢
   have IE:=sd.get (i:=i) (by omega)
   refine (hx.le dL).rd i rfl (by omega) (vB (hy.le dL) (by simp) fun mh eC=>(Cn rest xs[i] d (by omega) IE hdl).mono ?_)
   rintro r nX dM rfl
   have hq:(rest*4294967296+xs[i]) / d<4294967296:=by
    rw [Nat.div_lt_iff_lt_mul (by omega)]
    have:rest+1<=d:=by omega
    have:=Nat.mul_le_mul_right 4294967296 this
    rw [Nat.mul_comm 4294967296 d]
    omega
   have hr:(rest*4294967296+xs[i])%d<d:=Nat.mod_lt _ (by omega)
   have Ae:=Nat.div_add_mod (rest*4294967296+xs[i]) d
   generalize (rest*4294967296+xs[i]) / d=q at *
   generalize (rest*4294967296+xs[i])%d=r at *
   have w2:i64.wrap ((i:Int)-1)=(i:Int)-1:=aD (by omega)
   simp only [w2]
   refine ⟨_,_,rfl,⟨by omega,by omega⟩,by simp;omega,((r:Int),(i:Int)-1,aA (es.set i q)),?_,?_,?_⟩
   ·(try dsimp only);omega
   ·(try dsimp only);and_intros<;>first|exact True.intro|rfl|(rw [←aY];simp)
   ·(try dsimp only)
    refine ⟨by omega,by omega,by omega,by omega,_,rfl,by simpa using hes,hde.set _ _ (by omega),?_⟩
    have hi3:((i:Int)-1+1).toNat=i:=by omega
    rw [hi3,List.drop_eq_getElem_cons (by omega),List.drop_eq_getElem_cons (l:=es.set i q) (by simp;omega),List.getElem_set_self,List.drop_set_of_lt (by omega)]
    have h9:xs[i]+4294967296*val (List.drop (i+1) xs)=d*(q+4294967296*val (List.drop (i+1) es))+r:=pJ hv Ae
    rw [aT,aT,Int.toNat_natCast]
    exact h9
  ·have h3:i=-1:=by simp at h3;omega
   subst h3
   simp only [Int.toNat_natCast] at hv
   have hv:val xs=d*val es+rest:=by simpa using hv
   intro nJ dR bk hb
   refine (bY (RD.bf hb hde (n:=n) (c:=n) (by omega) (Nat.le_refl _)) (by omega)).mono ?_
   rintro r ry fu ⟨k,rfl,h4⟩
   refine ⟨_,_,_,rfl,fun _ wE gG bk2 hb2=>?_⟩
   have hb2:wE.bf bk2 (.cells (aA [rest]).toArray 186 (0,0)):=by
    simpa [aA] using hb2
   refine (bY (RD.bf hb2 (n:=1) (c:=1) (by simp [bD];omega) rfl (Nat.le_refl _)) (by simp)).mono ?_
   rintro r Al lj ⟨k2,rfl,h5⟩
   refine ⟨_,_,_,rfl,fun _ ux iy=>⟨_,_,_,_,_,_,rfl,?_,?_⟩⟩
   ·have e1:val xs / d=val es:=by rw [hv,Nat.mul_add_div (by omega),Nat.div_eq_of_lt (by omega),Nat.add_zero]
    rw [aI hde] at h4
    rw [e1]
    exact h4.le (gG.trans (lj.trans iy))
   ·have e2:val xs%d=rest:=by rw [hv,Nat.mul_add_mod,Nat.mod_eq_of_lt (by omega)]
    rw [aI (by simp [bD];omega)] at h5
    have e3:val [rest]=rest:=by simp
    rw [e3] at h5
    rw [e2]
    exact h5.le iy
 ·have h0:y<=x:=by simpa [←Int.not_lt,dJ] using h0
  refine fun nW cZ=>(wX (hx.le cZ) (hy.le cZ) hm hy0 (ax h0)).mono ?_
  rintro r mU dL ⟨p1,n1,c1,p2,n2,c2,rfl,g1,g2⟩
  exact ⟨_,_,_,_,_,_,rfl,fun mh eC=>⟨_,_,_,_,_,_,rfl,g1.le eC,g2.le eC⟩⟩
theorem dH {V:View}{p q:OA}{n c m e:Nat}{x y:Nat}(hx:RN V p n c x)(hy:RN V q m e y)(hm:(ag x).length<=274877906944)(hm':(ag y).length<=274877906944) :
  ab prog 113 #[.slice p n c,.slice q m e] V fun r V'=>∃p1 n1 c1,r=.slice p1 n1 c1/\RN V' p1 n1 c1 (Nat.gcd x y):=by
 have hlx:=hx.len
 have sf:=hy.len
 refine qW p n c q m e V _ fun V1 l1=>(hE (hx.le l1) (by omega)).mono ?_
 rintro r V2 l2 rfl
 rw [ae]
 refine ⟨_,_,rfl,fun z V'=>True,⟨fun h0=>?_,fun h0=>⟨(),by (try dsimp only);and_intros<;>first|exact True.intro|rfl,trivial⟩⟩,?_⟩
 ·have h0:n<=2:=by simpa using h0
  refine fun V3 l3=>(hE (hy.le (l1.trans (l2.trans l3))) (by omega)).mono ?_
  rintro r V4 l4 rfl
  rw [ae]
  refine ⟨_,_,rfl,fun h1=>?_,fun h1=>⟨(),by (try dsimp only);and_intros<;>first|exact True.intro|rfl,trivial⟩⟩
  have h1:m<=2:=by simpa using h1
  have hxw:=lh (x:=x) (by omega)
  have KZ:=lh (x:=y) (by omega)
  rw [if_pos h0,if_pos h1]
  refine ⟨fun z V'=>∃a b:Nat,z=((a:Int),(b:Int))/\a<18446744073709551616/\b<18446744073709551616/\Nat.gcd a b=Nat.gcd x y,fun z=>z.2.toNat,
   ⟨((x:Int),(y:Int)),by (try dsimp only);and_intros<;>first|exact True.intro|rfl,x,y,rfl,hxw,KZ,rfl⟩,?_⟩
  rintro _ V5 l5 ⟨a,b,rfl,ha,hb,hg⟩
  dsimp only
  refine ⟨by trivial,fun h3=>?_,fun h3=>?_⟩
  ·have h3:0<b:=by simpa using h3
   have e2:(a:Int).tmod (b:Int)=((a%b:Nat):Int):=by rw [Int.tmod_eq_emod_of_nonneg (by omega)];omega
   have hr:a%b<b:=Nat.mod_lt _ h3
   refine ⟨by omega,((b:Int),((a%b:Nat):Int)),?_,by (try dsimp only);and_intros<;>first|exact True.intro|rfl|exact e2,b,a%b,rfl,hb,by omega,?_⟩
   ·(try dsimp only);simp only [Int.toNat_natCast];exact hr
   ·rw [←hg,Nat.gcd_comm a b,Nat.gcd_rec b a,Nat.gcd_comm]
  ·have h3:b=0:=by simp at h3;omega
   subst h3
   rw [Nat.gcd_zero_right] at hg
   refine fun V6 l6=>(cH a ha).mono ?_
   rintro r V7 l7 ⟨p1,n1,c1,rfl,g1⟩
   rw [hg] at g1
   exact ⟨_,_,_,rfl,fun V8 l8=>⟨_,_,_,rfl,g1.le l8⟩⟩
 rintro _ V9 l9 _
 replace hx:=hx.le (l1.trans (l2.trans l9))
 replace hy:=hy.le (l1.trans (l2.trans l9))
 refine ⟨by trivial,fun z k V'=>∃a b:Nat,RN V' z.1 z.2.1 z.2.2.1 a/\RN V' z.2.2.2.1 z.2.2.2.2.1 z.2.2.2.2.2 b/\b=k/\(ag a).length<=274877906944/\(ag b).length<=274877906944/\Nat.gcd a b=Nat.gcd x y,
  ⟨(p,n,c,q,m,e),y,by (try dsimp only);and_intros<;>first|exact True.intro|rfl,x,y,hx,hy,rfl,hm,hm',rfl⟩,?_⟩
 rintro ⟨ap,an,ac,bp,bn,bc⟩ _ iC l10 ⟨a,b,ha,hb,rfl,hal,hbl,hg⟩
 dsimp only at ha hb ⊢
 have hla:=ha.len
 have hlb:=hb.len
 refine ⟨by trivial,fun h3=>?_,fun h3=>?_⟩
 ·have h3:0<bn:=by simpa using h3
  have hb0:0<b:=by
   rcases Nat.eq_zero_or_pos b with h|h
   ·subst h;simp at hlb;omega
   ·exact h
  refine fun mf cB=>(cO (ha.le cB) (hb.le cB) hal hbl hb0).mono ?_
  rintro r mg cX ⟨p1,n1,c1,p2,n2,c2,rfl,g1,g2⟩
  have hr:a%b<b:=Nat.mod_lt _ hb0
  have hrl:=ax (Nat.le_of_lt hr)
  refine ⟨_,_,_,_,_,_,rfl,(bp,bn,bc,p2,n2,c2),a%b,hr,by (try dsimp only);and_intros<;>first|exact True.intro|rfl,b,a%b,hb.le (cB.trans cX),g2,rfl,hbl,by omega,?_⟩
  rw [←hg,Nat.gcd_comm a b,Nat.gcd_rec b a,Nat.gcd_comm]
 ·have h3:bn=0:=by simp at h3;omega
  have hb0:b=0:=bg.1 (List.length_eq_zero_iff.1 (by omega))
  subst hb0
  rw [Nat.gcd_zero_right] at hg
  rw [←hg]
  refine ⟨aA (ag a),ha.sl,by simp [hla],by omega,by omega,by simp,by simp [hla],?_,?_⟩
  ·intro v hv
   simp only [aA,List.mem_map] at hv
   obtain ⟨d,-,rfl⟩:=hv
   rfl
  ·intro bk J sp c' h1 h2 V1 l1 b hb
   refine ⟨_,_,_,rfl,?_⟩
   simp only [Nat.zero_add,Nat.zero_mul,List.take_zero,List.nil_append] at hb h1 ⊢
   exact copied (aB a) hla h1 hb
end Go.Proofs.Tryz
namespace Go.dS
def au (b:Bool)(ds:List Nat):Int:=if b then -(val ds:Int) else val ds
end Go.dS
namespace Go.br
open Go.dS
def RI (V:View)(v:Value)(z:Int):Prop:=∃p n c,v=.agg #[.bool (decide (z<0)),.slice p n c]/\RD V p n c (ag z.natAbs)
theorem RI.le {V V':View}{v:Value}{z:Int}(h:RI V v z)(l:V.Le V'):RI V' v z:=by
 obtain ⟨p,n,c,e,h⟩:=h;exact ⟨p,n,c,e,h.le l⟩
theorem RI.mk {V:View}{b:Bool}{p:OA}{n c:Nat}{z:Int}(hb:b=decide (z<0))(h:RD V p n c (ag z.natAbs)):RI V (.agg #[.bool b,.slice p n c]) z:=⟨p,n,c,by rw [hb],h⟩
theorem RI.zero {V:View}:RI V (.agg #[.bool false,.slice none 0 0]) 0:=⟨_,_,_,rfl,RD.nil⟩
end Go.br
namespace Go.Proofs.Tryz
open Go.br Go.dS
theorem gy {n:Nat}:bz n=0↔n=0:=by
 unfold bz;split<;>simp_all
theorem cm (b:Bool)(ds:List Nat):(au b ds).natAbs=val ds:=by unfold au;cases b<;>simp
theorem vg (b:Bool)(ds:List Nat):au b ds<0↔b=true/\val ds≠0:=by
 unfold au;cases b
 ·simp
 ·simp;omega
theorem aM (z:Int):au (decide (z<0)) (ag z.natAbs)=z:=by
 unfold au;rw [ae]
 by_cases h:z<0
 ·rw [decide_eq_true h,if_pos rfl];omega
 ·rw [decide_eq_false h,if_neg (by decide)];omega
theorem A2 (b:Bool)(ds:List Nat):au (!b) ds=-au b ds:=by unfold au;cases b<;>simp
theorem jR (ds:List Nat):au false ds=val ds:=rfl
theorem dN {x n:Nat}(h:n=(ag x).length):0<n↔x≠0:=by
 rw [h]
 constructor
 ·intro h1 h2;subst h2;simp at h1
 ·intro h1
  rcases Nat.eq_zero_or_pos (ag x).length with e|e
  ·exact absurd (bg.1 (List.length_eq_zero_iff.1 e)) h1
  ·exact e
theorem gB {V:View}(b:Bool){p:OA}{n c x:Nat}(h:RN V p n c x) :
  ab prog 237 #[.bool b,.slice p n c] V fun r V'=>RI V' r (if b then -(x:Int) else x):=by
 have hp:=dN h.len
 refine lg b p n c V _ ⟨fun h0 V1 l1=>?_,fun h0 V1 l1=>?_⟩
 ·rw [if_pos h0]
  refine RI.mk ?_ ?_
  ·rw [Bool.eq_iff_iff,decide_eq_true_eq,decide_eq_true_eq]
   omega
  ·rw [Int.natAbs_neg,Int.natAbs_natCast];exact h.le l1
 ·rw [h0,if_neg (by decide)]
  refine RI.mk ?_ ?_
  ·symm;rw [decide_eq_false_iff_not];omega
  ·rw [Int.natAbs_natCast];exact h.le l1
theorem fl {V:View}(b:Bool){p:OA}{n c:Nat}{ds:List Nat}(h:RD V p n c ds)(hm:ds.length<=1099511627776) :
  ab prog 182 #[.agg #[.bool b,.slice p n c]] V fun r V'=>RI V' r (au b ds):=by
 refine nA b p n c V _ fun V1 l1=>(fo (h.le l1) hm).mono ?_
 rintro r V2 l2 ⟨p1,n1,c1,rfl,h1⟩
 have hp:=dN h1.len
 have hn:=vg b ds
 refine ⟨_,_,_,rfl,fun h0 V3 l3=>RI.mk ?_ ?_,fun h0 V3 l3=>RI.mk ?_ ?_⟩
 ·rw [Bool.eq_iff_iff,decide_eq_true_eq,decide_eq_true_eq,hn]
  simp [h0];omega
 ·rw [cm];exact h1.le l3
 ·symm;rw [decide_eq_false_iff_not,hn];simp [h0]
 ·rw [cm];exact h1.le l3
def dT (b:Bool)(ds:List Nat):Bool:=decide (ag (val ds)=ds)&&(!b||decide (ds≠[]))
theorem dY {V:View}(b:Bool){p:OA}{n c:Nat}{ds:List Nat}(h:RD V p n c ds)(hm:ds.length<=1099511627776) :
  ab prog 171 #[.agg #[.bool b,.slice p n c]] V fun r V'=>r=.bool (dT b ds):=by
 refine lf b p n c V _ fun V1 l1=>(sT (h.le l1) hm).mono ?_
 rintro r V2 l2 rfl
 refine ⟨_,rfl,fun h0=>⟨fun h1 V3 l3=>?_,fun h1 V3 l3=>?_⟩,fun h0 V3 l3=>?_⟩
 ·simp [dT,h0];simp at h1;simp [h1]
 ·have hl:=h.len
  simp [dT,h0];simp at h1;simp [h1]
  rw [Bool.eq_iff_iff,decide_eq_true_eq]
  simp
  constructor
  ·intro h2 h3;subst h3;simp at hl;omega
  ·intro h2
   rcases Nat.eq_zero_or_pos ds.length with e|e
   ·exact absurd (List.length_eq_zero_iff.1 e) h2
   ·omega
 ·simp [dT,h0]
theorem fK {V:View}(n:Int)(h0:-9223372036854775808<=n)(h1:n<=9223372036854775807) :
  ab prog 183 #[.int .i64 n] V fun r V'=>RI V' r n:=by
 refine ke n V _ ⟨fun h2 V1 l1=>?_,fun h2 V1 l1=>?_⟩
 ·have h2:n<0:=by simpa using h2
  have e:u64.wrap (0-u64.wrap n)=-n:=by rw [lV,lV];omega
  rw [e]
  refine (cF _ (by omega) (by omega)).mono ?_
  rintro r V2 l2 ⟨p1,n1,c1,rfl,g1⟩
  refine ⟨_,_,_,rfl,fun V3 l3=>⟨_,_,_,rfl,?_⟩⟩
  rw [show n.natAbs=(-n).toNat from by omega];exact g1.le l3
 ·have h2:0<=n:=by simpa using h2
  rw [aJ (by omega)]
  refine (cF _ (by omega) (by omega)).mono ?_
  rintro r V2 l2 ⟨p1,n1,c1,rfl,g1⟩
  refine ⟨_,_,_,rfl,fun V3 l3=>⟨_,_,_,rfl,?_⟩⟩
  rw [show n.natAbs=n.toNat from by omega];exact g1.le l3
theorem iI {V:View}(b:Bool){p:OA}{n c:Nat}{ds:List Nat}(h:RD V p n c ds)(hm:ds.length<=1099511627776) :
  ab prog 169 #[.agg #[.bool b,.slice p n c]] V fun r V'=>r=.int .i64 (au b ds).sign:=by
 refine nB b p n c V _ fun V1 l1=>(fm (h.le l1) hm).mono ?_
 rintro r V2 l2 rfl
 have hz:(au b ds)=0↔val ds=0:=by rw [←cm b ds];omega
 have hn:=vg b ds
 refine ⟨_,rfl,fun h0 V3 l3=>?_,fun h0=>⟨fun h1 V3 l3=>?_,fun h1 V3 l3=>?_⟩⟩
 ·have:val ds=0:=gy.1 (by simp at h0;omega)
  rw [hz.2 this];rfl
 ·have:val ds≠0:=fun e=>by simp [gy.2 e] at h0
  rw [Int.sign_eq_neg_one_of_neg (hn.2 ⟨h1,this⟩)]
 ·have:val ds≠0:=fun e=>by simp [gy.2 e] at h0
  have:0<au b ds:=by
   have:=hz
   have:¬au b ds<0:=by rw [hn];simp [h1]
   omega
  rw [Int.sign_eq_one_of_pos this]
theorem qw {V:View}(b:Bool){p:OA}{n c:Nat}{ds:List Nat}(h:RD V p n c ds)(hm:ds.length<=1099511627776) :
  ab prog 222 #[.agg #[.bool b,.slice p n c]] V fun r V'=>RI V' r (-au b ds):=by
 refine pX b p n c V _ fun V1 l1=>(fl (!b) (h.le l1) hm).mono ?_
 rintro r V2 l2 ⟨p1,n1,c1,rfl,h1⟩
 rw [A2] at h1 ⊢
 exact ⟨_,_,_,_,rfl,fun V3 l3=>⟨_,_,_,rfl,h1.le l3⟩⟩
theorem jC {V:View}(b1 b2:Bool){p q:OA}{n c m e:Nat}{xa xb:List Nat}(ha:RD V p n c xa)(hb:RD V q m e xb)(hm:xa.length+xb.length<=1099511627776) :
  ab prog 202 #[.agg #[.bool b1,.slice p n c],.agg #[.bool b2,.slice q m e]] V fun r V'=>RI V' r (au b1 xa*au b2 xb):=by
 refine pW b1 p n c b2 q m e V _ fun V1 l1=>(gC (ha.le l1) (hb.le l1) hm).mono ?_
 rintro r V2 l2 ⟨p1,n1,c1,rfl,h1⟩
 refine ⟨_,_,_,rfl,fun V3 l3=>(gB _ (h1.le l3)).mono ?_⟩
 rintro r V4 l4 ⟨p2,n2,c2,rfl,h2⟩
 have e1:(if (!(b1==b2))=true then -((val xa*val xb:Nat):Int) else ((val xa*val xb:Nat):Int))=au b1 xa*au b2 xb:=by
  unfold au;cases b1<;>cases b2<;>simp [Int.neg_mul,Int.mul_neg]
 rw [e1] at h2 ⊢
 exact ⟨_,_,_,_,rfl,fun V5 l5=>⟨_,_,_,rfl,h2.le l5⟩⟩
theorem qv {V:View}(b1 b2:Bool){p q:OA}{n c m e:Nat}{xa xb:List Nat}(ha:RD V p n c xa)(hb:RD V q m e xb)(hm:xa.length<=1099511627776)(hn:xb.length<=1099511627776) :
  ab prog 205 #[.agg #[.bool b1,.slice p n c],.agg #[.bool b2,.slice q m e]] V fun r V'=>RI V' r (au b1 xa+au b2 xb):=by
 have fin:∀{b:Bool} {x:Nat} {V1:View} {p1:OA} {n1 c1:Nat},RN V1 p1 n1 c1 x->(if b then -(x:Int) else x)=au b1 xa+au b2 xb ->
   ab prog 237 #[.bool b,.slice p1 n1 c1] V1 fun r V'=>∃(Ar:Bool)(Bx:OA)(Bk Aw:Nat),r=.agg #[.bool Ar,.slice Bx Bk Aw]/\∀V3:View,V'.Le V3->RI V3 (.agg #[.bool Ar,.slice Bx Bk Aw]) (au b1 xa+au b2 xb):=by
  intro b x V1 p1 n1 c1 h he
  refine (gB b h).mono ?_
  rintro r V4 l4 ⟨p2,n2,c2,rfl,h2⟩
  rw [he] at h2 ⊢
  exact ⟨_,_,_,_,rfl,fun V5 l5=>⟨_,_,_,rfl,h2.le l5⟩⟩
 refine pV b1 p n c b2 q m e V _ ⟨fun h0 V1 l1=>(yZ (ha.le l1) (hb.le l1) hm hn).mono ?_,fun h0 V1 l1=>(rQ (ha.le l1) (hb.le l1) hm hn).mono ?_⟩
 ·rintro r V2 l2 ⟨p1,n1,c1,rfl,h1⟩
  have h0:b1=b2:=by simpa using h0
  subst h0
  exact ⟨_,_,_,rfl,fun V3 l3=>fin (h1.le l3) (by unfold au;cases b1<;>simp;omega)⟩
 ·rintro r V2 l2 ⟨p1,n1,c1,rfl,h1⟩
  have h0:b2=!b1:=by cases b1<;>cases b2<;>simp_all
  subst h0
  refine ⟨_,_,_,_,rfl,fun h2 V3 l3=>fin (h1.le l3) ?_,fun h2 V3 l3=>(rQ (hb.le (l1.trans (l2.trans l3))) (ha.le (l1.trans (l2.trans l3))) hn hm).mono ?_⟩
  ·have h2:val xb<=val xa:=by simpa using h2
   unfold au;cases b1<;>simp<;>omega
  ·rintro r V4 l4 ⟨p2,n2,c2,rfl,h3⟩
   have h2:val xa<val xb:=by simpa using h2
   exact ⟨_,_,_,_,rfl,fun V5 l5=>fin (h3.le l5) (by unfold au;cases b1<;>simp<;>omega)⟩
theorem mW {V:View}(b:Bool){p:OA}{n c:Nat}{ds:List Nat}(h:RD V p n c ds)(hm:ds.length<=1099511627776)(hs:val ds<4611686018427387904) :
  ab prog 194 #[.agg #[.bool b,.slice p n c]] V fun r V'=>r=.tuple #[.int .i64 (au b ds),.bool true]:=by
 refine lY b p n c V _ fun V1 l1=>(gY (h.le l1) hm).mono ?_
 rintro r V2 l2 rfl
 rw [if_pos (by omega),decide_eq_true (show val ds<18446744073709551616 by omega)]
 refine ⟨_,_,rfl,fun _=>⟨fun h1=>⟨fun h2 V3 l3=>?_,fun h2=>?_⟩,fun h1=>⟨fun _=>⟨fun h2=>⟨fun h3 V4 l4=>?_,fun h3=>?_⟩,fun h2=>?_⟩,fun h2=>nomatch h2⟩⟩,fun h1=>nomatch h1⟩
 ·subst h1
  have e:i64.wrap (u64.wrap (0-(val ds:Int)))=-(val ds:Int):=by
   rw [lV,IntKind.wrap_i64];omega
  rw [e];rfl
 ·simp at h2;omega
 ·subst h1
  rw [aD (by omega)];rfl
 ·simp at h3;omega
 ·simp [h1] at h2
end Go.Proofs.Tryz
namespace Go.br
open Go.dS
def Wd (q:Rat):Prop:=q.num.natAbs<4611686018427387904/\q.den<4611686018427387904
def RR (V:View)(v:Value)(q:Rat):Prop:=
 (v=.agg #[.int .i64 q.num,.int .i64 ((q.den:Int)-1),.pointer none]/\Wd q) \/
 (∃a b p n c p' n' c',v=.agg #[.int .i64 0,.int .i64 0,.pointer (some a)]/\V.at (a.add 0) (.bool b)/\V.at (a.add 1) (.slice p n c)/\V.at (a.add 2) (.slice p' n' c') /\
  RI V (.agg #[.bool b,.slice p n c]) q.num/\RD V p' n' c' (ag q.den)/\¬Wd q)
theorem RR.le {V V':View}{v:Value}{q:Rat}(h:RR V v q)(l:V.Le V'):RR V' v q:=by
 rcases h with h|⟨a,b,p,n,c,p',n',c',e,h1,h2,h3,h4,h5,h6⟩
 ·exact .inl h
 ·exact .inr ⟨a,b,p,n,c,p',n',c',e,l.at h1,l.at h2,l.at h3,h4.le l,h5.le l,h6⟩
def Sz (k:Nat)(q:Rat):Prop:=q.num.natAbs<2^k/\q.den<2^k
theorem Sz.mono {k m:Nat}{q:Rat}(h:Sz k q)(hm:k<=m):Sz m q:=
 ⟨Nat.lt_of_lt_of_le h.1 (Nat.pow_le_pow_right (by omega) hm),Nat.lt_of_lt_of_le h.2 (Nat.pow_le_pow_right (by omega) hm)⟩
theorem ao {n k:Nat}(h:n<2^k):(ag n).length<=k:=by
 rw [aC]
 exact Nat.lt_of_lt_of_le h (Nat.pow_le_pow_left (by omega) k)
theorem Wd.sz {q:Rat}(h:Wd q):Sz 62 q:=h
theorem RR.shape {V:View}{v:Value}{q:Rat}(h:RR V v q):∃(n d:Int)(p:OA),v=.agg #[.int .i64 n,.int .i64 d,.pointer p]:=by
 rcases h with ⟨e,-⟩|⟨a,b,p,n,c,p',n',c',e,-⟩
 ·exact ⟨_,_,_,e⟩
 ·exact ⟨_,_,_,e⟩
end Go.br
namespace Go.Proofs.Tryz
open Go.br Go.dS
theorem sQ (n:Nat):decide ((bz n:Int)<=62)=decide (n<4611686018427387904):=by
 have:=@fI n 62
 rw [Bool.eq_iff_iff,decide_eq_true_eq,decide_eq_true_eq]
 omega
theorem zB {z:Int}{d:Nat}(hd:d≠0)(hg:Nat.gcd z.natAbs d=1):(mkRat z d).num=z/\(mkRat z d).den=d:=by
 have:Nat.gcd d z.natAbs=1:=by rw [Nat.gcd_comm];exact hg
 rw [Rat.num_mkRat,Rat.den_mkRat,if_neg hd,if_neg hd,this]
 simp
theorem en {V:View}(b:Bool){p q:OA}{n c m e:Nat}{xs ys:List Nat}(hx:RD V p n c xs)(hy:RD V q m e ys)(hm:xs.length<=1099511627776)(hn:ys.length<=1099511627776) :
  ab prog 157 #[.agg #[.bool b,.slice p n c],.slice q m e] V fun r V'=>RR V' r (mkRat (au b xs) (val ys)):=by
 have zero:∀V':View,RR V' (.agg #[.int .i64 0,.int .i64 0,.pointer none]) 0:=fun V'=>.inl ⟨rfl,by unfold Wd;decide⟩
 refine pU b p n c q m e V _ fun V1 l1=>(fm (hy.le l1) hn).mono ?_
 rintro r V2 l2 rfl
 refine ⟨_,rfl,fun h0 V3 l3=>?_,fun h0 V4 l4=>(iI b (hx.le (l1.trans (l2.trans l4))) hm).mono ?_⟩
 ·have:val ys=0:=gy.1 (by simp at h0;omega)
  rw [this,Rat.mkRat_zero];exact zero _
 rintro r V5 l5 rfl
 have hy0:val ys≠0:=fun e=>by simp [gy.2 e] at h0
 refine ⟨_,rfl,fun h1 V6 l6=>?_,fun h1 V7 l7=>?_⟩
 ·have:au b xs=0:=Int.sign_eq_zero_iff_zero.1 (by simpa using h1)
  rw [this,Rat.zero_mkRat];exact zero _
 have hx0:au b xs≠0:=fun e=>by simp [e] at h1
 have hx0':val xs≠0:=by rw [←cm b xs];omega
 replace hx:=hx.le (l1.trans (l2.trans (l4.trans (l5.trans l7))))
 replace hy:=hy.le (l1.trans (l2.trans (l4.trans (l5.trans l7))))
 refine (rO hx hy hm hn).mono ?_
 rintro r V8 l8 ⟨p3,n3,c3,rfl,hg⟩
 replace hx:=hx.le l8
 replace hy:=hy.le l8
 have hgl:Nat.gcd (val xs) (val ys)<=val ys:=Nat.le_of_dvd (by omega) (Nat.gcd_dvd_right _ _)
 have hgd:(ag (Nat.gcd (val xs) (val ys))).length<=1099511627776:=Nat.le_trans (ax hgl) (by have:=aV hy.cD;omega)
 have DC:Nat.gcd (val xs) (val ys)≠0:=by
  intro e0;exact hx0' (Nat.eq_zero_of_gcd_eq_zero_left e0)
 refine ⟨_,_,_,rfl,fun V9 l9=>(fm (hg.le l9) hgd).mono ?_⟩
 rintro r iC l10 rfl
 rw [ae]
 replace hx:=hx.le (l9.trans l10)
 replace hy:=hy.le (l9.trans l10)
 replace hg:=hg.le (l9.trans l10)
 refine ⟨_,rfl,fun z V'=>∃(us vs:List Nat),z.2.2.2.1=b/\RD V' z.2.2.2.2.1 z.2.2.2.2.2.1 z.2.2.2.2.2.2 us/\RD V' z.1 z.2.1 z.2.2.1 vs/\us.length<=1099511627776/\vs.length<=1099511627776/\val vs≠0 /\
  Nat.gcd (val us) (val vs)=1/\mkRat (au b xs) (val ys)=mkRat (au b us) (val vs),⟨fun h2 mf cB=>?_,fun h2=>?_⟩,?_⟩
 ·refine (gX (hx.le cB) (hg.le cB) hm hgd (by rw [ae];exact DC)).mono ?_
  rintro r mg cX ⟨p4,n4,c4,p5,n5,c5,rfl,g1,g2⟩
  refine ⟨_,_,_,_,_,_,_,rfl,fun nW cZ=>(gX (hy.le (cB.trans (cX.trans cZ))) (hg.le (cB.trans (cX.trans cZ))) hn hgd (by rw [ae];exact DC)).mono ?_⟩
  rintro r mU dL ⟨p6,n6,c6,p7,n7,c7,rfl,g3,g4⟩
  rw [ae] at g1 g3
  have e1:val (ag (val xs / Nat.gcd (val xs) (val ys)))=val xs / Nat.gcd (val xs) (val ys):=ae _
  have e2:val (ag (val ys / Nat.gcd (val xs) (val ys)))=val ys / Nat.gcd (val xs) (val ys):=ae _
  have d1:=Nat.gcd_dvd_left (val xs) (val ys)
  have d2:=Nat.gcd_dvd_right (val xs) (val ys)
  have hdy:val ys / Nat.gcd (val xs) (val ys)≠0:=by
   intro e0
   have:=Nat.div_mul_cancel d2
   rw [e0,Nat.zero_mul] at this
   exact hy0 this.symm
  refine ⟨_,_,_,_,_,_,_,rfl,(p6,n6,c6,b,p4,n4,c4),by (try dsimp only);and_intros<;>trivial,_,_,rfl,g1.le (cZ.trans dL),g3,?_,?_,?_,?_,?_⟩
  ·exact Nat.le_trans (ax (Nat.div_le_self _ _)) (by have:=aV hx.cD;omega)
  ·exact Nat.le_trans (ax (Nat.div_le_self _ _)) (by have:=aV hy.cD;omega)
  ·rw [e2];exact hdy
  ·rw [e1,e2];exact Nat.gcd_div_gcd_div_gcd_of_pos_left (by omega)
  ·rw [e2]
   have k1:val ys=val ys / Nat.gcd (val xs) (val ys)*Nat.gcd (val xs) (val ys):=(Nat.div_mul_cancel d2).symm
   have k2:au b xs=au b (ag (val xs / Nat.gcd (val xs) (val ys)))*(Nat.gcd (val xs) (val ys):Nat):=by
    have k3:(val xs:Int)=((val xs / Nat.gcd (val xs) (val ys):Nat):Int)*(Nat.gcd (val xs) (val ys):Nat):=by
     rw [←Int.natCast_mul,Nat.div_mul_cancel d1]
    unfold au
    rw [e1]
    cases b
    ·simpa using k3
    ·simp only [if_true];rw [Int.neg_mul,←k3]
   conv=>lhs;rw [k1,k2]
   exact Rat.mkRat_mul_right DC
 ·have hg1:Nat.gcd (val xs) (val ys)=1:=by
   have h3:¬(1<bz (Nat.gcd (val xs) (val ys))):=by simp at h2;omega
   have:=@fI (Nat.gcd (val xs) (val ys)) 1
   omega
  exact ⟨(q,m,e,b,p,n,c),by (try dsimp only);and_intros<;>trivial,xs,ys,rfl,hx,hy,hm,hn,hy0,hg1,rfl⟩
 ·rintro ⟨q,m,e,b',p,n,c⟩ mh eC ⟨us,vs,hbb,hu,hv,F9,hvl,hv0,hgc,hq⟩
  dsimp only at hbb hu hv ⊢
  subst hbb
  rw [hq]
  obtain ⟨ni,hden⟩:=zB (z:=au b' us) hv0 (by rw [cm];exact hgc)
  generalize mkRat (au b' us) (val vs)=w at *
  have hW:Wd w↔val us<4611686018427387904/\val vs<4611686018427387904:=by
   unfold Wd;rw [ni,hden,cm]
  have Dw:∀V1:View,mh.Le V1->¬Wd w->ab prog 182 #[.agg #[.bool b',.slice p n c]] V1 fun r V2=>∃(Ar:Bool)(Bx:OA)(Bk Aw:Nat),r=.agg #[.bool Ar,.slice Bx Bk Aw] /\
    (∀V3:View,V2.Le V3->ab prog 196 #[.slice q m e] V3 fun r V4=>∃(Lh:OA)(Lf Kw:Nat),r=.slice Lh Lf Kw /\
    (∀V5:View,V4.Le V5->∀bk:Nat,V5.bf bk (.cells #[.bool Ar,.slice Bx Bk Aw,.slice Lh Lf Kw] 243 (0,0))->RR V5 (.agg #[.int .i64 0,.int .i64 0,.pointer (some ⟨bk,0,none⟩)]) w)):=by
   intro V1 l1 hw
   refine (fl b' (hu.le l1) F9).mono ?_
   rintro r V2 l2 Af
   obtain ⟨p2,n2,c2,rfl,h2⟩:=Af
   have Af:RI V2 (.agg #[.bool (decide (au b' us<0)),.slice p2 n2 c2]) (au b' us):=⟨_,_,_,rfl,h2⟩
   refine ⟨_,_,_,_,rfl,fun V3 l3=>(fo (hv.le (l1.trans (l2.trans l3))) hvl).mono ?_⟩
   rintro r V4 l4 ⟨p3,n3,c3,rfl,h3⟩
   refine ⟨_,_,_,rfl,fun V5 l5 bk hb=>.inr ⟨⟨bk,0,none⟩,decide (au b' us<0),p2,n2,c2,p3,n3,c3,rfl,?_,?_,?_,?_,?_,hw⟩⟩
   ·rw [add_zero'];exact bW (xs:=[_,_,_]) hb rfl
   ·rw [add_zero'];exact bW (xs:=[_,_,_]) hb rfl
   ·rw [add_zero'];exact bW (xs:=[_,_,_]) hb rfl
   ·rw [ni];exact Af.le (l3.trans (l4.trans l5))
   ·rw [hden];exact h3.le l5
  refine ⟨by trivial,fun nX dM=>(fm (hu.le dM) F9).mono ?_⟩
  rintro r nJ dR rfl
  refine ⟨_,rfl,fun h3 ry fu=>(fm (hv.le (dM.trans (dR.trans fu))) hvl).mono ?_,fun h3 Fm zw=>Dw Fm (dM.trans (dR.trans zw)) ?_⟩
  ·rintro r wE gG rfl
   rw [sQ,decide_eq_true_eq] at h3
   refine ⟨_,rfl,fun h4 Al lj=>?_,fun h4 Cd qk=>Dw Cd (dM.trans (dR.trans (fu.trans (gG.trans qk)))) ?_⟩
   ·rw [sQ,decide_eq_true_eq] at h4
    refine (mW b' (hu.le (dM.trans (dR.trans (fu.trans (gG.trans lj))))) F9 h3).mono ?_
    rintro r ux iy rfl
    refine ⟨_,_,rfl,fun yS lN=>(gY (hv.le (dM.trans (dR.trans (fu.trans (gG.trans (lj.trans (iy.trans lN))))))) hvl).mono ?_⟩
    rintro r wJ jy rfl
    rw [if_pos (by omega)]
    refine ⟨_,_,rfl,fun Cc xq=>.inl ⟨?_,hW.2 ⟨h3,h4⟩⟩⟩
    rw [aD (x:=((val vs:Nat):Int)) (by omega),aD (by omega),ni,hden]
   ·rw [sQ,decide_eq_false_iff_not] at h4
    rw [hW];omega
  ·rw [sQ,decide_eq_false_iff_not] at h3
   rw [hW];omega
theorem dk {V:View}(b:Bool){p:OA}{n c x:Nat}(h:RN V p n c x) :
  ab prog 76 #[.bool b,.slice p n c] V fun r V'=>RI V' r (if b then -(x:Int) else x):=by
 have hp:=dN h.len
 refine wi b p n c V _ ⟨fun h0 V1 l1=>?_,fun h0 V1 l1=>?_⟩
 ·rw [if_pos h0]
  refine RI.mk ?_ ?_
  ·rw [Bool.eq_iff_iff,decide_eq_true_eq,decide_eq_true_eq]
   omega
  ·rw [Int.natAbs_neg,Int.natAbs_natCast];exact h.le l1
 ·rw [h0,if_neg (by decide)]
  refine RI.mk ?_ ?_
  ·symm;rw [decide_eq_false_iff_not];omega
  ·rw [Int.natAbs_natCast];exact h.le l1
theorem fw {V:View}{b:Bool}{p:OA}{n c x:Nat}{z:Int}(h:RN V p n c x)(hz:(if b then -(x:Int) else x)=z) :
  ab prog 76 #[.bool b,.slice p n c] V fun r V'=>∃(Ar:Bool)(Bx:OA)(Bk Aw:Nat),r=.agg #[.bool Ar,.slice Bx Bk Aw]/\∀V3:View,V'.Le V3->RI V3 (.agg #[.bool Ar,.slice Bx Bk Aw]) z:=by
 refine (dk b h).mono ?_
 rintro r V2 l2 ⟨p1,n1,c1,rfl,g⟩
 rw [hz] at g ⊢
 exact ⟨_,_,_,_,rfl,fun V3 l3=>⟨_,_,_,rfl,g.le l3⟩⟩
theorem za {V:View}(n:Int)(h0:-9223372036854775808<=n)(h1:n<=9223372036854775807) :
  ab prog 115 #[.int .i64 n] V fun r V'=>RI V' r n:=by
 refine yf n V _ ⟨fun h2 V1 l1=>?_,fun h2 V1 l1=>?_⟩
 ·have h2:n<0:=by simpa using h2
  have e:u64.wrap (0-u64.wrap n)=((-n).toNat:Int):=by rw [lV,lV];omega
  rw [e]
  refine (cH _ (by omega)).mono ?_
  rintro r V2 l2 ⟨p1,n1,c1,rfl,g1⟩
  exact ⟨_,_,_,rfl,fun V3 l3=>fw (g1.le l3) (by simp;omega)⟩
 ·have h2:0<=n:=by simpa using h2
  have e:u64.wrap n=(n.toNat:Int):=by rw [aJ (by omega)];omega
  rw [e]
  refine (cH _ (by omega)).mono ?_
  rintro r V2 l2 ⟨p1,n1,c1,rfl,g1⟩
  exact ⟨_,_,_,rfl,fun V3 l3=>fw (g1.le l3) (by simp;omega)⟩
theorem wW {V:View}(z:Int){p:OA}{n c:Nat}(h:RN V p n c z.natAbs) :
  ab prog 111 #[.agg #[.bool (decide (z<0)),.slice p n c]] V fun r V'=>r=.int .i64 z.sign:=by
 have hp:=dN h.len
 refine wo _ p n c V _ ⟨fun h0 V1 l1=>?_,fun h0=>⟨fun h1 V1 l1=>?_,fun h1 V1 l1=>?_⟩⟩
 ·have:z=0:=by simp at h0;omega
  rw [this];rfl
 ·rw [decide_eq_true_eq] at h1
  rw [Int.sign_eq_neg_one_of_neg h1]
 ·rw [decide_eq_false_iff_not] at h1
  have:0<z:=by simp at h0;omega
  rw [Int.sign_eq_one_of_pos this]
theorem uK {V:View}(z:Int){p:OA}{n c:Nat}(h:RN V p n c z.natAbs) :
  ab prog 112 #[.agg #[.bool (decide (z<0)),.slice p n c]] V fun r V'=>RI V' r (-z):=by
 refine tV _ p n c V _ fun V1 l1=>fw (h.le l1) ?_
 by_cases hz:z<0<;>simp [hz]<;>omega
theorem jk {V:View}(z w:Int){p q:OA}{n c m e:Nat}(ha:RN V p n c z.natAbs)(hb:RN V q m e w.natAbs)(hm:(ag z.natAbs).length+(ag w.natAbs).length<=1099511627776) :
  ab prog 75 #[.agg #[.bool (decide (z<0)),.slice p n c],.agg #[.bool (decide (w<0)),.slice q m e]] V fun r V'=>RI V' r (z*w):=by
 refine yg _ p n c _ q m e V _ fun V1 l1=>(bX (ha.le l1) (hb.le l1) hm).mono ?_
 rintro r V2 l2 ⟨p1,n1,c1,rfl,g1⟩
 rw [ae,ae] at g1
 refine ⟨_,_,_,rfl,fun V3 l3=>fw (g1.le l3) ?_⟩
 have e1:z=au (decide (z<0)) (ag z.natAbs):=(aM z).symm
 have e2:w=au (decide (w<0)) (ag w.natAbs):=(aM w).symm
 conv=>rhs;rw [e1,e2]
 unfold au
 rw [ae,ae]
 cases decide (z<0)<;>cases decide (w<0)<;>simp [Int.neg_mul,Int.mul_neg]
theorem rR {V:View}(z w:Int){p q:OA}{n c m e:Nat}(ha:RN V p n c z.natAbs)(hb:RN V q m e w.natAbs)(hm:(ag z.natAbs).length<=1099511627776)(hn:(ag w.natAbs).length<=1099511627776) :
  ab prog 73 #[.agg #[.bool (decide (z<0)),.slice p n c],.agg #[.bool (decide (w<0)),.slice q m e]] V fun r V'=>RI V' r (z+w):=by
 refine ya _ p n c _ q m e V _ ⟨fun h0 V1 l1=>(zd (ha.le l1) (hb.le l1) hm hn).mono ?_,fun h0 V1 l1=>(dZ (ha.le l1) (hb.le l1) hm hn).mono ?_⟩
 ·rintro r V2 l2 ⟨p1,n1,c1,rfl,g1⟩
  rw [ae,ae] at g1
  refine ⟨_,_,_,rfl,fun V3 l3=>fw (g1.le l3) ?_⟩
  by_cases hz:z<0<;>by_cases hw:w<0<;>simp [hz,hw] at h0⊢<;> omega
 ·rintro r V2 l2 rfl
  refine ⟨_,rfl,fun h2 V3 l3=>?_,fun h2 V3 l3=>?_⟩
  ·have h2:z.natAbs<w.natAbs:=by simpa [dJ] using h2
   refine (jN (hb.le (l1.trans (l2.trans l3))) (ha.le (l1.trans (l2.trans l3))) hn (ax (Nat.le_of_lt h2)) (by rw [ae,ae];omega)).mono ?_
   rintro r V4 l4 ⟨p1,n1,c1,rfl,g1⟩
   rw [ae,ae] at g1
   refine ⟨_,_,_,rfl,fun V5 l5=>fw (g1.le l5) ?_⟩
   by_cases hz:z<0<;>by_cases hw:w<0<;>simp [hz,hw] at h0⊢<;> omega
  ·have h2:w.natAbs<=z.natAbs:=by simpa [←Int.not_lt,dJ] using h2
   refine (jN (ha.le (l1.trans (l2.trans l3))) (hb.le (l1.trans (l2.trans l3))) hm (ax h2) (by rw [ae,ae];omega)).mono ?_
   rintro r V4 l4 ⟨p1,n1,c1,rfl,g1⟩
   rw [ae,ae] at g1
   refine ⟨_,_,_,rfl,fun V5 l5=>fw (g1.le l5) ?_⟩
   by_cases hz:z<0<;>by_cases hw:w<0<;>simp [hz,hw] at h0⊢<;> omega
end Go.Proofs.Tryz
namespace Go.br
open Go.dS
def mZ (d:Nat):List Nat:=if d=1 then [] else ag d
def RQ (V:View)(v:Value)(q:Rat):Prop:=∃p n c p' n' c',v=.agg #[.bool (decide (q.num<0)),.slice p n c,.slice p' n' c'] /\
 RD V p n c (ag q.num.natAbs)/\RD V p' n' c' (mZ q.den)
theorem RQ.le {V V':View}{v:Value}{q:Rat}(h:RQ V v q)(l:V.Le V'):RQ V' v q:=by
 obtain ⟨p,n,c,p',n',c',e,h1,h2⟩:=h
 exact ⟨p,n,c,p',n',c',e,h1.le l,h2.le l⟩
theorem uS {q:Rat}:mZ q.den=[]↔q.den=1:=by
 unfold mZ
 split
 ·rename_i h;simp [h]
 ·rename_i h
  rw [bg]
  have:=q.den_nz
  omega
end Go.br
namespace Go.Proofs.Tryz
open Go.br Go.dS
theorem iN {V:View}{q:Rat}{p:OA}{n c:Nat}(h:RD V p n c (mZ q.den)):n=0↔q.den=1:=by
 rw [←uS,h.len,List.length_eq_zero_iff]
theorem cN {V:View}(q:Rat){p p':OA}{n c n' c':Nat}(b:Bool)(h2:RD V p' n' c' (mZ q.den)) :
  ab prog 77 #[.agg #[.bool b,.slice p n c,.slice p' n' c']] V fun r V'=>∃p1 n1 c1,r=.slice p1 n1 c1/\RN V' p1 n1 c1 q.den:=by
 have hl:=iN h2
 refine ye b p n c p' n' c' V _ ⟨fun h0 V1 l1=>gD.mono ?_,fun h0 V1 l1=>⟨_,_,_,rfl,?_⟩⟩
 ·rintro r V2 l2 ⟨p1,n1,c1,rfl,g⟩
  have:q.den=1:=hl.1 (by simp at h0;omega)
  rw [this]
  exact ⟨_,_,_,rfl,fun V3 l3=>⟨_,_,_,rfl,g.le l3⟩⟩
 ·have:q.den≠1:=fun e=>by have:=hl.2 e;simp at h0;omega
  unfold mZ at h2
  rw [if_neg this] at h2
  exact h2.le l1
theorem kQ {V:View}{q:Rat}{z:Int}{d:Nat}{p p':OA}{n c n' c':Nat}(hn:q.num=z)(hd:q.den=d)(h1:RD V p n c (ag z.natAbs))(h2:RD V p' n' c' (mZ d)){b:Bool}(hb:b=decide (z<0)) :
  RQ V (.agg #[.bool b,.slice p n c,.slice p' n' c']) q:=by
 subst hn hd hb
 exact ⟨_,_,_,_,_,_,rfl,h1,h2⟩
theorem ot {V:View}(z:Int){d:Nat}{p q:OA}{n c m e:Nat}(hx:RN V p n c z.natAbs)(hy:RN V q m e d)(hm:(ag z.natAbs).length<=274877906944)(hn:(ag d).length<=274877906944)(hd:d≠0) :
  ab prog 74 #[.agg #[.bool (decide (z<0)),.slice p n c],.slice q m e] V fun r V'=>RQ V' r (mkRat z d):=by
 refine we _ p n c q m e V _ fun V1 l1=>(dH (hx.le l1) (hy.le l1) hm hn).mono ?_
 rintro r V2 l2 ⟨p1,n1,c1,rfl,hg⟩
 have hgd:=Nat.gcd_dvd_right z.natAbs d
 have hgx:=Nat.gcd_dvd_left z.natAbs d
 have DC:0<Nat.gcd z.natAbs d:=Nat.gcd_pos_of_pos_right _ (by omega)
 have hgl:(ag (Nat.gcd z.natAbs d)).length<=274877906944:=Nat.le_trans (ax (Nat.le_of_dvd (by omega) hgd)) hn
 have ni:(mkRat z d).num=z / (Nat.gcd d z.natAbs:Nat):=by rw [Rat.num_mkRat,if_neg hd]
 have hden:(mkRat z d).den=d / Nat.gcd d z.natAbs:=by rw [Rat.den_mkRat,if_neg hd]
 rw [Nat.gcd_comm d] at ni hden
 generalize hG:Nat.gcd z.natAbs d=g at *
 generalize mkRat z d=w at *
 refine ⟨_,_,_,rfl,fun V3 l3=>gD.mono ?_⟩
 rintro r V4 l4 ⟨p2,n2,c2,rfl,h1⟩
 refine ⟨_,_,_,rfl,fun V5 l5=>(dZ (hg.le (l3.trans (l4.trans l5))) (h1.le l5) (by omega) (by decide)).mono ?_⟩
 rintro r V6 l6 rfl
 replace hx:=hx.le (l1.trans (l2.trans (l3.trans (l4.trans (l5.trans l6)))))
 replace hy:=hy.le (l1.trans (l2.trans (l3.trans (l4.trans (l5.trans l6)))))
 replace hg:=hg.le (l3.trans (l4.trans (l5.trans l6)))
 refine ⟨_,rfl,fun h0 V7 l7=>(cO (hx.le l7) (hg.le l7) hm hgl DC).mono ?_,fun h0 wE gG=>gD.mono ?_⟩
 ·rintro r V8 l8 ⟨p4,n4,c4,p5,n5,c5,rfl,g1,-⟩
  have hnd:(mkRat z d).num.natAbs=(mkRat z d).num.natAbs:=rfl
  obtain ⟨k,hk⟩:=hgx
  have hk1:z.natAbs / g=k:=by rw [hk,Nat.mul_div_cancel_left _ DC]
  rw [hk1] at g1
  have hz:z=(g:Int)*(if z<0 then -(k:Int) else k):=by
   split
   ·rw [Int.mul_neg,←Int.natCast_mul,←hk];omega
   ·rw [←Int.natCast_mul,←hk];omega
  have hwn:w.num=(if z<0 then -(k:Int) else k):=by
   rw [ni]
   generalize (if z<0 then -(k:Int) else k)=t at *
   rw [hz,Int.mul_ediv_cancel_left _ (by omega)]
  refine ⟨_,_,_,_,_,_,rfl,fun V9 l9=>(dk _ (g1.le l9)).mono ?_⟩
  have IG:(if decide (z<0)=true then -(k:Int) else k)=w.num:=by
   rw [hwn];simp
  rw [IG]
  rintro r iC l10 ⟨p7,n7,c7,rfl,g2⟩
  refine ⟨_,_,_,_,rfl,fun mf cB=>(cO (hy.le (l7.trans (l8.trans (l9.trans (l10.trans cB))))) (hg.le (l7.trans (l8.trans (l9.trans (l10.trans cB))))) hn hgl DC).mono ?_⟩
  rintro r mg cX ⟨p8,n8,c8,p9,n9,c9,rfl,g3,-⟩
  rw [←hden] at g3
  refine ⟨_,_,_,_,_,_,rfl,fun nW cZ=>gD.mono ?_⟩
  rintro r mU dL ⟨Ji,n10,c10,rfl,g4⟩
  have hdl:(ag w.den).length<=274877906944:=by rw [hden];exact Nat.le_trans (ax (Nat.div_le_self _ _)) hn
  refine ⟨_,_,_,rfl,fun mh eC=>(dZ (g3.le (cZ.trans (dL.trans eC))) (g4.le eC) (by omega) (by decide)).mono ?_⟩
  rintro r nX dM rfl
  refine ⟨_,rfl,fun h9 nJ dR=>kQ rfl rfl (g2.le (cB.trans (cX.trans (cZ.trans (dL.trans (eC.trans (dM.trans dR))))))) ?_ rfl,fun h9 ry fu=>kQ rfl rfl (g2.le (cB.trans (cX.trans (cZ.trans (dL.trans (eC.trans (dM.trans fu))))))) ?_ rfl⟩
  ·have:w.den=1:=fc.1 (by simpa using h9)
   rw [uS.2 this];exact RD.nil
  ·have:w.den≠1:=fun e=>by rw [fc.2 e] at h9;simp at h9
   unfold mZ
   rw [if_neg this]
   exact g3.le (cZ.trans (dL.trans (eC.trans (dM.trans fu))))
 ·have hg1:g=1:=fc.1 (by simpa using h0)
  have hwn:w.num=z:=by rw [ni,hg1];simp
  have hwd:w.den=d:=by rw [hden,hg1];simp
  rintro r Al lj ⟨N8,n12,c12,rfl,g4⟩
  refine ⟨_,_,_,rfl,fun ux iy=>(dZ (hy.le (gG.trans (lj.trans iy))) (g4.le iy) (by omega) (by decide)).mono ?_⟩
  rintro r yS lN rfl
  refine ⟨_,rfl,fun h9 nJ dR=>kQ hwn hwd (hx.le (gG.trans (lj.trans (iy.trans (lN.trans dR))))) ?_ rfl,fun h9 ry fu=>kQ hwn hwd (hx.le (gG.trans (lj.trans (iy.trans (lN.trans fu))))) ?_ rfl⟩
  ·have:d=1:=fc.1 (by simpa using h9)
   unfold mZ
   rw [if_pos this];exact RD.nil
  ·have:d≠1:=fun e=>by rw [fc.2 e] at h9;simp at h9
   unfold mZ
   rw [if_neg this]
   exact hy.le (gG.trans (lj.trans (iy.trans (lN.trans fu))))
theorem ku {V:View}(n:Int)(h0:-9223372036854775808<=n)(h1:n<=9223372036854775807) :
  ab prog 64 #[.int .i64 n] V fun r V'=>RQ V' r (n:Rat):=by
 refine zZ n V _ fun V1 l1=>(za n h0 h1).mono ?_
 rintro r V2 l2 ⟨p,m,c,rfl,g⟩
 exact ⟨_,_,_,_,rfl,fun V3 l3=>kQ (z:=n) (d:=1) rfl rfl (g.le l3) RD.nil rfl⟩
theorem Cv {V:View}(q:Rat){p p':OA}{n c n' c':Nat}(h1:RD V p n c (ag q.num.natAbs)) :
  ab prog 59 #[.agg #[.bool (decide (q.num<0)),.slice p n c,.slice p' n' c']] V fun r V'=>r=.int .i64 q.num.sign:=by
 refine B6 _ p n c p' n' c' V _ fun V1 l1=>(wW q.num (h1.le l1)).mono ?_
 rintro r V2 l2 rfl
 exact ⟨_,rfl,fun V3 l3=>rfl⟩
theorem lB {V:View}(q:Rat){p p':OA}{n c n' c':Nat}(h1:RD V p n c (ag q.num.natAbs))(h2:RD V p' n' c' (mZ q.den)) :
  ab prog 61 #[.agg #[.bool (decide (q.num<0)),.slice p n c,.slice p' n' c']] V fun r V'=>RQ V' r (-q):=by
 refine yi _ p n c p' n' c' V _ fun V1 l1=>(uK q.num (h1.le l1)).mono ?_
 rintro r V2 l2 ⟨p1,n1,c1,rfl,g⟩
 exact ⟨_,_,_,_,rfl,fun V3 l3=>kQ (q:=-q) (z:=-q.num) (d:=q.den) (by rfl) (by rfl) (g.le l3) ((h2.le l1).le (l2.trans l3)) rfl⟩
end Go.Proofs.Tryz
namespace Go.br
open Go.dS
theorem RI.inv {V:View}{b:Bool}{p:OA}{n c:Nat}{z:Int}(h:RI V (.agg #[.bool b,.slice p n c]) z):b=decide (z<0)/\RD V p n c (ag z.natAbs):=by
 obtain ⟨p1,n1,c1,e,hn⟩:=h
 simp at e
 obtain ⟨rfl,rfl,rfl,rfl⟩:=e
 exact ⟨rfl,hn⟩
end Go.br
namespace Go.Proofs.Tryz
open Go.br Go.dS
theorem gT {V:View}{v:Value}{q:Rat}(h:RR V v q){k:Nat}(hs:Sz k q)(hk:k<=1099511627776) :
  ab prog 143 #[v] V fun r V'=>RI V' r q.num:=by
 rcases h with ⟨rfl,hw⟩|⟨a,b,p,n,c,p',n',c',rfl,h1,h2,h3,h4,h5,hw⟩
 ·have:=hw.1
  refine jJ _ _ _ V _ ⟨(fun h0=>nomatch h0),fun _ V1 l1=>(fK _ (by omega) (by omega)).mono ?_⟩
  rintro r V2 l2 ⟨p,n,c,rfl,g⟩
  exact ⟨_,_,_,_,rfl,fun V3 l3=>⟨_,_,_,rfl,g.le l3⟩⟩
 ·obtain ⟨rfl,hn⟩:=h4.inv
  refine jJ _ _ _ V _ ⟨fun _=>⟨rfl,rfl,decide (q.num<0),p,n,c,a.add 0,rfl,?_,?_,fun V1 l1=>(fl _ (hn.le l1) (Nat.le_trans (ao hs.1) hk)).mono ?_⟩,fun h0=>nomatch h0⟩
  ·exact h1
  ·simpa [Addr.add] using h2
  ·rintro r V2 l2 ⟨p,n,c,rfl,g⟩
   rw [aM] at g ⊢
   exact ⟨_,_,_,_,rfl,fun V3 l3=>⟨_,_,_,rfl,g.le l3⟩⟩
theorem fJ {V:View}{v:Value}{q:Rat}(h:RR V v q){k:Nat}(hs:Sz k q)(hk:k<=1099511627776) :
  ab prog 204 #[v] V fun r V'=>∃p n c,r=.slice p n c/\RN V' p n c q.den:=by
 rcases h with ⟨rfl,hw⟩|⟨a,b,p,n,c,p',n',c',rfl,h1,h2,h3,h4,h5,hw⟩
 ·have:=hw.2
  have hd:=q.den_nz
  refine jH _ _ _ V _ ⟨(fun h0=>nomatch h0),fun _ V1 l1=>?_⟩
  rw [aD (by omega),aJ (by omega)]
  refine (cF _ (by omega) (by omega)).mono ?_
  rintro r V2 l2 ⟨p,n,c,rfl,g⟩
  rw [show ((q.den:Int)-1+1).toNat=q.den from by omega] at g
  exact ⟨_,_,_,rfl,fun V3 l3=>⟨_,_,_,rfl,g.le l3⟩⟩
 ·refine jH _ _ _ V _ ⟨fun _=>⟨rfl,rfl,_,_,_,⟨_,rfl,h3⟩,fun V1 l1=>(fo (h5.le l1) (Nat.le_trans (ao hs.2) hk)).mono ?_⟩,fun h0=>nomatch h0⟩
  rintro r V2 l2 ⟨p,n,c,rfl,g⟩
  rw [ae] at g
  exact ⟨_,_,_,rfl,fun V3 l3=>⟨_,_,_,rfl,g.le l3⟩⟩
theorem fk {V:View}(n:Int)(h0:-9223372036854775808<n)(h1:n<=9223372036854775807) :
  ab prog 209 #[.int .i64 n] V fun r V'=>r=.int .u64 (n.natAbs:Int):=by
 refine vU n V _ ⟨fun h2 V1 l1=>?_,fun h2 V1 l1=>?_⟩
 ·have h2:n<0:=by simpa using h2
  rw [aD (by omega),aJ (by omega)];congr 1;omega
 ·have h2:0<=n:=by simpa using h2
  rw [aJ (by omega)];congr 1;omega
theorem oo {V:View}(x y:Nat)(hx:x<18446744073709551616)(hy:y<18446744073709551616) :
  ab prog 208 #[.int .u64 (x:Int),.int .u64 (y:Int)] V fun r V'=>r=.int .u64 (Nat.gcd x y:Int):=by
 refine vV _ _ V _ ⟨fun z V'=>∃a b:Nat,z=((a:Int),(b:Int))/\Nat.gcd a b=Nat.gcd x y,fun z=>z.2.toNat,
  ⟨((x:Int),(y:Int)),by (try dsimp only);and_intros<;>trivial,x,y,rfl,rfl⟩,?_⟩
 rintro _ nX dM ⟨a,b,rfl,wF⟩
 dsimp only
 refine ⟨by trivial,fun h3=>?_,fun h3 nJ dR=>?_⟩
 ·have h3:b≠0:=by rw [bne_iff_ne] at h3;omega
  have hlt:a%b<b:=Nat.mod_lt _ (by omega)
  have e4:(a:Int).tmod (b:Int)=((a%b:Nat):Int):=by rw [Int.tmod_eq_emod_of_nonneg (by omega),←Int.natCast_emod]
  rw [e4]
  exact ⟨by omega,((b:Int),((a%b:Nat):Int)),by (try dsimp only);rw [Int.toNat_natCast,Int.toNat_natCast];exact hlt,by (try dsimp only);and_intros<;>trivial,b,a%b,rfl,by rw [oI,wF]⟩
 ·have h3:b=0:=by rw [bne_eq_false_iff_eq] at h3;omega
  subst h3
  rw [Nat.gcd_zero_right] at wF
  rw [wF]
theorem gW {V:View}(a b:Int)(ha:a.natAbs<4611686018427387904)(hb:b.natAbs<4611686018427387904) :
  ab prog 200 #[.int .i64 a,.int .i64 b] V fun r V'=>∃z:Int,r=.tuple #[.int .i64 z,.bool (decide ((a*b).natAbs<4611686018427387904))]/\((a*b).natAbs<4611686018427387904->z=a*b):=by
 refine qQ a b V _ fun V1 l1=>(fk a (by omega) (by omega)).mono ?_
 rintro r V2 l2 rfl
 refine ⟨_,rfl,fun V3 l3=>(fk b (by omega) (by omega)).mono ?_⟩
 rintro r V4 l4 rfl
 refine ⟨_,rfl,fun V5 l5=>(Cp _ _ (by omega) (by omega)).mono ?_⟩
 rintro r V6 l6 rfl
 have wF:(a*b).natAbs=a.natAbs*b.natAbs:=Int.natAbs_mul a b
 have hsg:a*b=if (decide (a<0)==decide (b<0)) then ((a.natAbs*b.natAbs:Nat):Int) else -((a.natAbs*b.natAbs:Nat):Int):=by
  rw [Int.natCast_mul]
  by_cases h1:a<0<;>by_cases h2:b<0
  ·rw [decide_eq_true h1,decide_eq_true h2,show (a.natAbs:Int)=-a from by omega,show (b.natAbs:Int)=-b from by omega];simp [Int.neg_mul,Int.mul_neg]
  ·rw [decide_eq_true h1,decide_eq_false h2,if_neg (by decide),show (a.natAbs:Int)=-a from by omega,show (b.natAbs:Int)=b from by omega];simp [Int.neg_mul]
  ·rw [decide_eq_false h1,decide_eq_true h2,if_neg (by decide),show (a.natAbs:Int)=a from by omega,show (b.natAbs:Int)=-b from by omega];simp [Int.mul_neg]
  ·rw [decide_eq_false h1,decide_eq_false h2,show (a.natAbs:Int)=a from by omega,show (b.natAbs:Int)=b from by omega];simp
 rw [wF]
 generalize a.natAbs*b.natAbs=p at *
 refine ⟨_,_,rfl,fun h0 V7 l7=>?_,fun h0=>⟨fun h1 V7 l7=>?_,fun h1=>⟨fun h2 V7 l7=>?_,fun h2 V7 l7=>?_⟩⟩⟩
 ·have h0:18446744073709551616<=p:=by rw [bne_iff_ne] at h0;omega
  rw [decide_eq_false (by omega)]
  exact ⟨_,rfl,fun h=>by omega⟩
 ·have h1:4611686018427387904<=p:=by
   rw [decide_eq_true_eq] at h1;omega
  rw [decide_eq_false (by omega)]
  exact ⟨_,rfl,fun h=>by omega⟩
 ·have h0:p / 18446744073709551616=0:=by rw [bne_eq_false_iff_eq] at h0;omega
  have h1:p<4611686018427387904:=by rw [decide_eq_false_iff_not] at h1;omega
  rw [decide_eq_true h1,aD (x:=((p%18446744073709551616:Nat):Int)) (by omega),aD (by omega)]
  refine ⟨_,rfl,fun _=>?_⟩
  have h2:(decide (a<0)==decide (b<0))=false:=by simpa using h2
  rw [hsg,h2,if_neg (by decide)];omega
 ·have h0:p / 18446744073709551616=0:=by rw [bne_eq_false_iff_eq] at h0;omega
  have h1:p<4611686018427387904:=by rw [decide_eq_false_iff_not] at h1;omega
  rw [decide_eq_true h1,aD (x:=((p%18446744073709551616:Nat):Int)) (by omega)]
  refine ⟨_,rfl,fun _=>?_⟩
  have h2:(decide (a<0)==decide (b<0))=true:=by simpa using h2
  rw [hsg,h2,if_pos rfl];omega
theorem qu {V:View}(n:Int)(d:Nat)(hn:n.natAbs<4611686018427387904)(hd:d<4611686018427387904)(hd0:d≠0) :
  ab prog 201 #[.int .i64 n,.int .i64 (d:Int)] V fun r V'=>RR V' r (mkRat n d):=by
 refine pT n _ V _ fun V1 l1=>(fk n (by omega) (by omega)).mono ?_
 rintro r V2 l2 rfl
 rw [aJ (x:=(d:Int)) (by omega)]
 refine ⟨_,rfl,fun V3 l3=>(oo _ _ (by omega) (by omega)).mono ?_⟩
 rintro r V4 l4 rfl
 have hgl:Nat.gcd n.natAbs d<=d:=Nat.le_of_dvd (by omega) (Nat.gcd_dvd_right _ _)
 have DC:0<Nat.gcd n.natAbs d:=Nat.gcd_pos_of_pos_right _ (by omega)
 have ni:=Rat.num_mkRat n d
 have hden:=Rat.den_mkRat n d
 rw [if_neg hd0,Nat.gcd_comm] at ni hden
 have hdvd:(Nat.gcd n.natAbs d:Int)∣n:=Int.ofNat_dvd_left.2 (Nat.gcd_dvd_left _ _)
 have hdl:d / Nat.gcd n.natAbs d<=d:=Nat.div_le_self _ _
 have hnl:(n / (Nat.gcd n.natAbs d:Int)).natAbs<=n.natAbs:=by
  rw [Int.natAbs_ediv_of_dvd hdvd,Int.natAbs_natCast];exact Nat.div_le_self _ _
 have hW:Wd (mkRat n d):=by unfold Wd;rw [ni,hden];omega
 refine ⟨_,rfl,?_⟩
 rw [aD (x:=((Nat.gcd n.natAbs d:Nat):Int)) (by omega)]
 refine ⟨fun h0=>⟨by omega,by omega,fun V5 l5=>.inl ⟨?_,hW⟩⟩,fun h0 V5 l5=>.inl ⟨?_,hW⟩⟩
 ·rw [ni,hden]
  have e1:n.tdiv (Nat.gcd n.natAbs d:Int)=n / (Nat.gcd n.natAbs d:Int):=Int.tdiv_eq_ediv_of_dvd hdvd
  have e2:(d:Int).tdiv (Nat.gcd n.natAbs d:Int)=((d / Nat.gcd n.natAbs d:Nat):Int):=by rw [Int.tdiv_eq_ediv_of_nonneg (by omega),←Int.natCast_ediv]
  rw [e1,e2]
  generalize n / (Nat.gcd n.natAbs d:Int)=nn at *
  generalize d / Nat.gcd n.natAbs d=dd at *
  rw [aD (by omega),aD (x:=(dd:Int)) (by omega),aD (by omega)]
 ·have h0:Nat.gcd n.natAbs d=1:=by rw [decide_eq_false_iff_not] at h0;omega
  rw [ni,hden,h0,aD (by omega)]
  simp
theorem mkRat_one (z:Int):mkRat z 1=(z:Rat):=by
 apply Rat.ext
 ·rw [Rat.num_mkRat];simp
 ·rw [Rat.den_mkRat];simp
theorem RD.one {V:View}{bk:Nat}{ty:TypeId}{m:Nat×Nat}(h:V.bf bk (.cells #[.int .u32 1] ty m)):RD V (some ⟨bk,0,none⟩) 1 1 [1]:=
 RD.bf (ds:=[1]) h (by simp [bD]) rfl (Nat.le_refl _)
theorem gV {V:View}(b:Bool){p:OA}{n c:Nat}{ds:List Nat}(h:RD V p n c ds)(hm:ds.length<=1099511627776) :
  ab prog 172 #[.agg #[.bool b,.slice p n c]] V fun r V'=>RR V' r (au b ds:Rat):=by
 refine qP b p n c V _ fun V1 l1 bk hb=>(en b (h.le l1) (RD.one hb) hm (by simp)).mono ?_
 rintro r V2 l2 hr
 have e:mkRat (au b ds) (val [1])=(au b ds:Rat):=mkRat_one _
 rw [e] at hr
 obtain ⟨n,d,p,rfl⟩:=hr.shape
 exact ⟨_,_,_,rfl,fun _ V3 l3=>hr.le l3⟩
theorem oN {z:Int}(h:z.natAbs<4611686018427387904):Wd (z:Rat):=⟨h,by show (1:Nat)<_;decide⟩
theorem jL {V:View}(n:Int)(h0:-9223372036854775808<=n)(h1:n<=9223372036854775807) :
  ab prog 146 #[.int .i64 n] V fun r V'=>RR V' r (n:Rat):=by
 have Dw:∀V1:View,V.Le V1->ab prog 183 #[.int .i64 n] V1 fun Nn V2=>∃Ar:Bool,∃(Bx:OA)(Bk Aw:Nat),Nn=.agg #[.bool Ar,.slice Bx Bk Aw]/\(∀V3:View,V2.Le V3->∀Fw:Nat,V3.bf Fw (.cells #[.int .u32 1] 186 (0,0))->ab prog 157 #[.agg #[.bool Ar,.slice Bx Bk Aw],.slice (some ⟨Fw,0,none⟩) 1 1] V3 fun Np V4=>∃Ls:Int,∃Lt:Int,∃Li:OA,Np=.agg #[.int .i64 Ls,.int .i64 Lt,.pointer Li]/\∀NH:C->Value,(∀V5:View,V4.Le V5->RR V5 (.agg #[.int .i64 Ls,.int .i64 Lt,.pointer Li]) (n:Rat))):=by
  intro V1 l1
  refine (fK n h0 h1).mono ?_
  rintro r V2 l2 ⟨p,m,c,rfl,g⟩
  refine ⟨_,_,_,_,rfl,fun V3 l3 bk hb=>(en _ (g.le l3) (RD.one hb) (Nat.le_trans (ao (k:=64) (by omega)) (by omega)) (by simp)).mono ?_⟩
  rintro r V4 l4 hr
  have e:mkRat (au (decide (n<0)) (ag n.natAbs)) (val [1])=(n:Rat):=by rw [aM];exact mkRat_one _
  rw [e] at hr
  obtain ⟨n,d,p,rfl⟩:=hr.shape
  exact ⟨_,_,_,rfl,fun _ V3 l3=>hr.le l3⟩
 refine vT n V _ ⟨fun _=>Dw,fun h2=>⟨fun _=>Dw,fun h3 V1 l1=>.inl ⟨rfl,oN ?_⟩⟩⟩
 rw [decide_eq_false_iff_not] at h2 h3
 omega
theorem AB {V:View}{v:Value}{q:Rat}(h:RR V v q){k:Nat}(hs:Sz k q)(hk:k<=1099511627776) :
  ab prog 128 #[v] V fun r V'=>r=.int .i64 q.num.sign:=by
 rcases h with ⟨rfl,hw⟩|⟨a,b,p,n,c,p',n',c',rfl,h1,h2,h3,h4,h5,hw⟩
 ·refine jf _ _ _ V _ ⟨(fun h0=>nomatch h0),fun _=>⟨fun h V1 l1=>?_,fun h=>⟨fun h' V1 l1=>?_,fun h' V1 l1=>?_⟩⟩⟩
  ·rw [Int.sign_eq_neg_one_of_neg (by simpa using h)]
  ·rw [Int.sign_eq_one_of_pos (by simpa using h')]
  ·have:q.num=0:=by rw [decide_eq_false_iff_not] at h h';omega
   rw [this];rfl
 ·obtain ⟨rfl,hn⟩:=h4.inv
  refine jf _ _ _ V _ ⟨fun _=>⟨rfl,rfl,decide (q.num<0),p,n,c,a.add 0,rfl,?_,?_,fun V1 l1=>(iI _ (hn.le l1) (Nat.le_trans (ao hs.1) hk)).mono ?_⟩,(fun h0=>nomatch h0)⟩
  ·exact h1
  ·simpa [Addr.add] using h2
  ·rintro r V2 l2 rfl
   rw [aM]
   exact ⟨_,rfl,fun V3 l3=>rfl⟩
theorem uG {V:View}{v:Value}{q:Rat}(h:RR V v q):ab prog 173 #[v] V fun r V'=>r=.bool (decide (q=0)):=by
 rcases h with ⟨rfl,hw⟩|⟨a,b,p,n,c,p',n',c',rfl,h1,h2,h3,h4,h5,hw⟩
 ·refine jg _ _ _ V _ ⟨fun _ V1 l1=>?_,(fun h0=>nomatch h0)⟩
  congr 1
  rw [Bool.eq_iff_iff,beq_iff_eq,decide_eq_true_eq]
  exact Rat.num_eq_zero
 ·refine jg _ _ _ V _ ⟨(fun h0=>nomatch h0),fun _ V1 l1=>?_⟩
  congr 1
  symm;rw [decide_eq_false_iff_not]
  intro e;subst e;exact hw ⟨by decide,by decide⟩
theorem Cr {V:View}{v:Value}{q:Rat}(h:RR V v q){k:Nat}(hs:Sz k q)(hk:k<=1099511627776) :
  ab prog 186 #[v] V fun r V'=>RR V' r (-q):=by
 rcases h with ⟨rfl,hw⟩|⟨a,b,p,n,c,p',n',c',rfl,h1,h2,h3,h4,h5,hw⟩
 ·have:=hw.1
  refine jI _ _ _ V _ ⟨(fun h0=>nomatch h0),fun _ V1 l1=>.inl ⟨?_,by unfold Wd;rw [Rat.neg_num,Rat.neg_den,Int.natAbs_neg];exact hw⟩⟩
  rw [aD (by omega),Rat.neg_num,Rat.neg_den,Int.zero_sub]
 ·obtain ⟨rfl,hn⟩:=h4.inv
  refine jI _ _ _ V _ ⟨fun _=>⟨rfl,rfl,decide (q.num<0),p,n,c,a.add 0,rfl,?_,?_,rfl,rfl,p',n',c',⟨_,rfl,h3⟩,fun V1 l1=>(qw _ (hn.le l1) (Nat.le_trans (ao hs.1) hk)).mono ?_⟩,(fun h0=>nomatch h0)⟩
  ·exact h1
  ·simpa [Addr.add] using h2
  ·rintro r V2 l2 Af
   rw [aM] at Af
   obtain ⟨p2,n2,c2,rfl,g⟩:=Af
   refine ⟨_,_,_,_,rfl,fun V3 l3 bk hb=>.inr ⟨⟨bk,0,none⟩,decide (-q.num<0),p2,n2,c2,p',n',c',rfl,?_,?_,?_,?_,?_,?_⟩⟩
   ·rw [add_zero'];exact bW (xs:=[_,_,_]) hb rfl
   ·rw [add_zero'];exact bW (xs:=[_,_,_]) hb rfl
   ·rw [add_zero'];exact bW (xs:=[_,_,_]) hb rfl
   ·exact ⟨_,_,_,rfl,g.le l3⟩
   ·exact h5.le (l1.trans (l2.trans l3))
   ·unfold Wd;rw [Rat.neg_num,Rat.neg_den,Int.natAbs_neg];exact hw
theorem _root_.Go.br.Sz.neg {k:Nat}{q:Rat}(h:Sz k q):Sz k (-q):=by unfold Sz;rw [Rat.neg_num,Rat.neg_den,Int.natAbs_neg];exact h
theorem pe (z:Int)(g:Nat)(h:(g:Int)∣z):(z / g).natAbs<=z.natAbs:=by
 rw [Int.natAbs_ediv_of_dvd h,Int.natAbs_natCast];exact Nat.div_le_self _ _
theorem _root_.Go.br.Sz.mkRat {k:Nat}{z:Int}{d:Nat}(h1:z.natAbs<2^k)(h2:d<2^k)(hk:0<k):Sz k (mkRat z d):=by
 have h3:1<2^k:=Nat.one_lt_two_pow (by omega)
 unfold Sz
 rw [Rat.num_mkRat,Rat.den_mkRat]
 split
 ·exact ⟨Nat.two_pow_pos k,h3⟩
 ·refine ⟨Nat.lt_of_le_of_lt (pe _ _ (Int.ofNat_dvd_left.2 (Nat.gcd_dvd_right _ _))) h1,Nat.lt_of_le_of_lt (Nat.div_le_self _ _) h2⟩
theorem bJ {a b k m:Nat}(h1:a<2^k)(h2:b<2^m):a*b<2^(k+m):=by rw [Nat.pow_add];exact Nat.mul_lt_mul'' h1 h2
theorem nY {x y:Rat}{k m:Nat}(hx:Sz k x)(hy:Sz m y):(x.num*y.den).natAbs<2^(k+m)/\(y.num*x.den).natAbs<2^(k+m)/\(x.num*y.den+y.num*x.den).natAbs<2^(k+m+1)/\x.den*y.den<2^(k+m):=by
 have h1:(x.num*y.den).natAbs<2^(k+m):=by rw [Int.natAbs_mul,Int.natAbs_natCast];exact bJ hx.1 hy.2
 have h2:(y.num*x.den).natAbs<2^(k+m):=by rw [Int.natAbs_mul,Int.natAbs_natCast,Nat.add_comm];exact bJ hy.1 hx.2
 refine ⟨h1,h2,?_,bJ hx.2 hy.2⟩
 rw [Nat.pow_succ];omega
theorem _root_.Go.br.Sz.add {x y:Rat}{k m:Nat}(hx:Sz k x)(hy:Sz m y):Sz (k+m+1) (x+y):=by
 obtain ⟨-,-,h3,h4⟩:=nY hx hy
 rw [Rat.add_def']
 exact Go.br.Sz.mkRat h3 (Nat.lt_of_lt_of_le h4 (Nat.pow_le_pow_right (by omega) (by omega))) (by omega)
theorem _root_.Go.br.Sz.sub {x y:Rat}{k m:Nat}(hx:Sz k x)(hy:Sz m y):Sz (k+m+1) (x-y):=by
 rw [Rat.sub_eq_add_neg];exact hx.add hy.neg
theorem _root_.Go.br.Sz.mul {x y:Rat}{k m:Nat}(hx:Sz k x)(hy:Sz m y):Sz (k+m+1) (x*y):=by
 rw [Rat.mul_def']
 refine (Go.br.Sz.mkRat (k:=k+m+1) ?_ ?_ (by omega))
 ·rw [Int.natAbs_mul];exact Nat.lt_of_lt_of_le (bJ hx.1 hy.1) (Nat.pow_le_pow_right (by omega) (by omega))
 ·exact Nat.lt_of_lt_of_le (bJ hx.2 hy.2) (Nat.pow_le_pow_right (by omega) (by omega))
theorem Cq {V:View}{v w:Value}{x y:Rat}(hx:RR V v x)(hy:RR V w y){k m:Nat}(hk:Sz k x)(hm:Sz m y)(hkm:k+m<1099511627776) :
  ab prog 168 #[v,w] V fun r V'=>RR V' r (x+y):=by
 obtain ⟨r0,r1,r2,rfl⟩:=hx.shape
 obtain ⟨s0,s1,s2,rfl⟩:=hy.shape
 have hxy:x+y=mkRat (x.num*y.den+y.num*x.den) (x.den*y.den):=Rat.add_def' x y
 obtain ⟨b1,b2,b3,b4⟩:=nY hk hm
 have gen:(∀H6:View,V.Le H6->ab prog 143 #[.agg #[.int .i64 r0,.int .i64 r1,.pointer r2]] H6 fun Jn J_=>∃Fp:Bool,∃(Bz:OA)(Bl Ax:Nat),Jn=.agg #[.bool Fp,.slice Bz Bl Ax]/\(∀H7:View,J_.Le H7->ab prog 204 #[.agg #[.int .i64 s0,.int .i64 s1,.pointer s2]] H7 fun Jo Ka=>∃(GX:OA)(GA Fz:Nat),Jo=.slice GX GA Fz/\(∀H8:View,Ka.Le H8->ab prog 202 #[.agg #[.bool Fp,.slice Bz Bl Ax],.agg #[.bool false,.slice GX GA Fz]] H8 fun Jp Kb=>∃Fq:Bool,∃(BA:OA)(Bm Ay:Nat),Jp=.agg #[.bool Fq,.slice BA Bm Ay]/\(∀H9:View,Kb.Le H9->ab prog 143 #[.agg #[.int .i64 s0,.int .i64 s1,.pointer s2]] H9 fun Jq Kc=>∃Fs:Bool,∃(G0:OA)(GG FC:Nat),Jq=.agg #[.bool Fs,.slice G0 GG FC]/\(∀H_:View,Kc.Le H_->ab prog 204 #[.agg #[.int .i64 r0,.int .i64 r1,.pointer r2]] H_ fun Jr LB=>∃(BB:OA)(Bn Az:Nat),Jr=.slice BB Bn Az/\(∀Kd:View,LB.Le Kd->ab prog 202 #[.agg #[.bool Fs,.slice G0 GG FC],.agg #[.bool false,.slice BB Bn Az]] Kd fun Js LC=>∃Ft:Bool,∃(BC:OA)(Bo AA:Nat),Js=.agg #[.bool Ft,.slice BC Bo AA]/\(∀Ke:View,LC.Le Ke->ab prog 205 #[.agg #[.bool Fq,.slice BA Bm Ay],.agg #[.bool Ft,.slice BC Bo AA]] Ke fun Jt LD=>∃Fu:Bool,∃(G3:OA)(GL FF:Nat),Jt=.agg #[.bool Fu,.slice G3 GL FF]/\(∀Kf:View,LD.Le Kf->ab prog 204 #[.agg #[.int .i64 r0,.int .i64 r1,.pointer r2]] Kf fun Ju LG=>∃(G4:OA)(GM FG:Nat),Ju=.slice G4 GM FG/\(∀Kg:View,LG.Le Kg->ab prog 204 #[.agg #[.int .i64 s0,.int .i64 s1,.pointer s2]] Kg fun Jv LH=>∃(BD:OA)(GN FH:Nat),Jv=.slice BD GN FH/\(∀Kh:View,LH.Le Kh->ab prog 203 #[.slice G4 GM FG,.slice BD GN FH] Kh fun Jw LI=>∃(G5:OA)(GO FI:Nat),Jw=.slice G5 GO FI/\(∀Ki:View,LI.Le Ki->ab prog 157 #[.agg #[.bool Fu,.slice G3 GL FF],.slice G5 GO FI] Ki fun Jx LJ=>∃Hl:Int,∃Hm:Int,∃G6:OA,Jx=.agg #[.int .i64 Hl,.int .i64 Hm,.pointer G6]/\(∀Kj:View,LJ.Le Kj->RR Kj (.agg #[.int .i64 Hl,.int .i64 Hm,.pointer G6]) (x+y))))))))))))):=by
  intro V1 l1
  refine (gT (hx.le l1) hk (by omega)).mono ?_
  rintro r V2 l2 ⟨p1,n1,c1,rfl,g1⟩
  refine ⟨_,_,_,_,rfl,fun V3 l3=>(fJ (hy.le (l1.trans (l2.trans l3))) hm (by omega)).mono ?_⟩
  rintro r V4 l4 ⟨p2,n2,c2,rfl,g2⟩
  have q1:=ao hk.1
  have q2:=ao hk.2
  have q3:=ao hm.1
  have q4:=ao hm.2
  refine ⟨_,_,_,rfl,fun V5 l5=>(jC _ false (g1.le (l3.trans (l4.trans l5))) (g2.le l5) (by omega)).mono ?_⟩
  rintro r V6 l6 h6
  rw [aM,jR,ae] at h6
  obtain ⟨p3,n3,c3,rfl,g3⟩:=h6
  refine ⟨_,_,_,_,rfl,fun V7 l7=>(gT (hy.le (l1.trans (l2.trans (l3.trans (l4.trans (l5.trans (l6.trans l7))))))) hm (by omega)).mono ?_⟩
  rintro r V8 l8 ⟨p4,n4,c4,rfl,g4⟩
  refine ⟨_,_,_,_,rfl,fun V9 l9=>(fJ (hx.le (l1.trans (l2.trans (l3.trans (l4.trans (l5.trans (l6.trans (l7.trans (l8.trans l9))))))))) hk (by omega)).mono ?_⟩
  rintro r iC l10 ⟨p5,n5,c5,rfl,g5⟩
  refine ⟨_,_,_,rfl,fun mf cB=>(jC _ false (g4.le (l9.trans (l10.trans cB))) (g5.le cB) (by omega)).mono ?_⟩
  rintro r mg cX h12
  rw [aM,jR,ae] at h12
  obtain ⟨p6,n6,c6,rfl,g6⟩:=h12
  have q5:=ao b1
  have q6:=ao b2
  refine ⟨_,_,_,_,rfl,fun nW cZ=>(qv _ _ (g3.le (l7.trans (l8.trans (l9.trans (l10.trans (cB.trans (cX.trans cZ))))))) (g6.le cZ) (by omega) (by omega)).mono ?_⟩
  rintro r mU dL KI
  rw [aM,aM] at KI
  obtain ⟨p7,n7,c7,rfl,g7⟩:=KI
  have J5:=l1.trans (l2.trans (l3.trans (l4.trans (l5.trans (l6.trans (l7.trans (l8.trans (l9.trans (l10.trans (cB.trans (cX.trans (cZ.trans dL))))))))))))
  refine ⟨_,_,_,_,rfl,fun mh eC=>(fJ (hx.le (J5.trans eC)) hk (by omega)).mono ?_⟩
  rintro r nX dM ⟨p8,n8,c8,rfl,g8⟩
  refine ⟨_,_,_,rfl,fun nJ dR=>(fJ (hy.le (J5.trans (eC.trans (dM.trans dR)))) hm (by omega)).mono ?_⟩
  rintro r ry fu ⟨p9,n9,c9,rfl,g9⟩
  refine ⟨_,_,_,rfl,fun wE gG=>(gC (g8.le (dR.trans (fu.trans gG))) (g9.le gG) (by omega)).mono ?_⟩
  rintro r Al lj ⟨Ji,n10,c10,rfl,g10⟩
  rw [ae,ae] at g10
  have q7:=ao b3
  have q8:=ao b4
  refine ⟨_,_,_,rfl,fun ux iy=>(en _ (g7.le (eC.trans (dM.trans (dR.trans (fu.trans (gG.trans (lj.trans iy))))))) (g10.le iy) (by omega) (by omega)).mono ?_⟩
  rintro r yS lN h22
  rw [aM,ae,←hxy] at h22
  obtain ⟨n,d,p,rfl⟩:=h22.shape
  exact ⟨_,_,_,rfl,fun wJ jy=>h22.le jy⟩
 have lift:∀V1:View,V.Le V1->∀V2:View,V1.Le V2->V.Le V2:=fun _ h _ h'=>h.trans h'
 rcases hx with ⟨ex,wx⟩|⟨a,b,p,n,c,p',n',c',ex,-,-,-,-,-,wx⟩
 ·rcases hy with ⟨ey,wy⟩|⟨a,b,p,n,c,p',n',c',ey,-,-,-,-,-,wy⟩
  ·simp only [Value.agg.injEq,Array.mk.injEq,List.cons.injEq,Value.int.injEq,Value.pointer.injEq,true_and,and_true] at ex ey
   obtain ⟨rfl,rfl,rfl⟩:=ex
   obtain ⟨rfl,rfl,rfl⟩:=ey
   obtain ⟨JX,NB⟩:=wx
   obtain ⟨JY,NC⟩:=wy
   have dx:=x.den_nz
   have dy:=y.den_nz
   have e1:i64.wrap ((x.den:Int)-1+1)=x.den:=by rw [aD (by omega)];omega
   have e2:i64.wrap ((y.den:Int)-1+1)=y.den:=by rw [aD (by omega)];omega
   refine gu _ _ _ _ _ _ V _ ⟨fun _=>⟨fun _ _=>True,⟨fun _=>⟨fun h1=>⟨fun h2 V1 l1=>?_,fun h2=>?_⟩,fun h1=>?_⟩,(fun h=>nomatch h)⟩,fun _ V1 l1 _=>⟨by trivial,fun V2 l2=>gen V2 (l1.trans l2)⟩⟩,(fun h=>nomatch h)⟩
   ·have h1:x.den=1:=by rw [beq_iff_eq] at h1;omega
    have h2:y.den=1:=by rw [beq_iff_eq] at h2;omega
    rw [aD (by omega)]
    refine (jL _ (by omega) (by omega)).mono ?_
    rintro r V2 l2 hr
    have e:((x.num+y.num:Int):Rat)=x+y:=by
     rw [hxy,h1,h2]
     simp only [Nat.mul_one,Int.natCast_one,Int.mul_one]
     exact (mkRat_one _).symm
    rw [e] at hr
    obtain ⟨n,d,p,rfl⟩:=hr.shape
    exact ⟨_,_,_,rfl,fun V3 l3=>hr.le l3⟩
   all_goals
    rw [e1,e2]
    refine fun V4 l4=>(gW _ _ JX (by omega)).mono ?_
    rintro r V5 l5 ⟨z1,rfl,hz1⟩
    refine ⟨_,_,rfl,fun V6 l6=>(gW _ _ JY (by omega)).mono ?_⟩
    rintro r V7 l7 ⟨z2,rfl,hz2⟩
    refine ⟨_,_,rfl,fun V8 l8=>(gW _ _ (by omega) (by omega)).mono ?_⟩
    rintro r V9 l9 ⟨z3,rfl,hz3⟩
    refine ⟨_,_,rfl,fun g1=>⟨fun g2=>⟨fun g3=>⟨fun g4=>⟨fun g5 iC l10=>?_,fun _=>⟨(),by and_intros<;>rfl,trivial⟩⟩,fun _=>⟨(),by and_intros<;>rfl,trivial⟩⟩,fun _=>⟨(),by and_intros<;>rfl,trivial⟩⟩,fun _=>⟨(),by and_intros<;>rfl,trivial⟩⟩,fun _=>⟨(),by and_intros<;>rfl,trivial⟩⟩
    rw [decide_eq_true_eq] at g1 g2 g3 g4 g5
    have k1:=hz1 g1
    have k2:=hz2 g2
    have k3:=hz3 g3
    rw [←k1] at g1
    rw [←k2] at g2
    rw [←Int.natCast_mul,Int.natAbs_natCast] at g3
    rw [←Int.natCast_mul] at k3
    rw [aD (by omega)] at g4 g5 ⊢
    rw [k3]
    refine (qu _ _ (by omega) g3 (Nat.mul_ne_zero dx dy)).mono ?_
    rintro r mf cB hr
    rw [k1,k2,←hxy] at hr
    obtain ⟨n,d,p,rfl⟩:=hr.shape
    exact ⟨_,_,_,rfl,fun V3 l3=>hr.le l3⟩
  ·simp only [Value.agg.injEq,Array.mk.injEq,List.cons.injEq,Value.int.injEq,Value.pointer.injEq,true_and,and_true] at ex ey
   obtain ⟨rfl,rfl,rfl⟩:=ex
   obtain ⟨rfl,rfl,rfl⟩:=ey
   exact gu _ _ _ _ _ _ V _ ⟨fun _=>⟨fun _ _=>True,⟨(fun h=>nomatch h),fun _=>⟨(),by and_intros<;>rfl,trivial⟩⟩,fun _ V1 l1 _=>⟨by trivial,fun V2 l2=>gen V2 (l1.trans l2)⟩⟩,(fun h=>nomatch h)⟩
 ·simp only [Value.agg.injEq,Array.mk.injEq,List.cons.injEq,Value.int.injEq,Value.pointer.injEq,true_and,and_true] at ex
  obtain ⟨rfl,rfl,rfl⟩:=ex
  exact gu _ _ _ _ _ _ V _ ⟨(fun h=>nomatch h),fun _=>gen⟩
end Go.Proofs.Tryz
namespace Go.dS
def fW (x y:Rat):Int:=(x-y).num.sign
def fY (x y:Rat):Rat:=mkRat (Nat.gcd (x.num.natAbs*y.den) (y.num.natAbs*x.den):Nat) (x.den*y.den)
theorem Bs {q:Rat}:q.num<0↔q<0:=by
 have:=@Rat.num_nonneg q
 rw [←Rat.not_le,←this];omega
theorem Bt {q:Rat}:0<q.num↔0<q:=by
 have h1:=@Rat.num_nonneg q
 have h2:=@Rat.num_eq_zero q
 rw [Rat.lt_iff_le_and_ne,←h1]
 constructor
 ·intro h;exact ⟨by omega,fun e=>by rw [←e] at h;simp at h⟩
 ·rintro ⟨h,hne⟩
  have:q.num≠0:=fun e=>hne (h2.1 e).symm
  omega
theorem Cy {x y:Rat}:x<y↔fW x y=-1:=by
 unfold fW
 rw [Int.sign_eq_neg_one_iff_neg,Bs,Rat.lt_iff_sub_pos x y,←Rat.neg_sub y x]
 constructor
 ·intro h;have:=Rat.neg_lt_neg h;simpa using this
 ·intro h;have:=Rat.neg_lt_neg h;rw [Rat.neg_neg] at this;simpa using this
theorem Cx {x y:Rat}:y<x↔fW x y=1:=by
 unfold fW
 rw [Int.sign_eq_one_iff_pos,Bt,Rat.lt_iff_sub_pos y x]
theorem jl {x y:Rat}:x=y↔fW x y=0:=by
 unfold fW
 rw [Int.sign_eq_zero_iff_zero,Rat.num_eq_zero]
 constructor
 ·intro h;subst h;exact Rat.sub_self
 ·intro h
  have:=congrArg (·+ y) h
  simpa [Rat.sub_add_cancel,Rat.zero_add] using this
end Go.dS
namespace Go.Proofs.Tryz
open Go.br Go.dS
theorem Cs {V:View}{v w:Value}{x y:Rat}(hx:RR V v x)(hy:RR V w y){k m:Nat}(hk:Sz k x)(hm:Sz m y)(hkm:k+m<1099511627776) :
  ab prog 185 #[v,w] V fun r V'=>RR V' r (x-y):=by
 obtain ⟨r0,r1,r2,rfl⟩:=hx.shape
 obtain ⟨s0,s1,s2,rfl⟩:=hy.shape
 refine qO _ _ _ _ _ _ V _ fun V1 l1=>(Cr (hy.le l1) hm (by omega)).mono ?_
 rintro r V2 l2 h2
 obtain ⟨n,d,p,rfl⟩:=h2.shape
 refine ⟨_,_,_,rfl,fun V3 l3=>(Cq (hx.le (l1.trans (l2.trans l3))) (h2.le l3) hk hm.neg hkm).mono ?_⟩
 rintro r V4 l4 h4
 rw [←Rat.sub_eq_add_neg] at h4
 obtain ⟨n,d,p,rfl⟩:=h4.shape
 exact ⟨_,_,_,rfl,fun V5 l5=>h4.le l5⟩
theorem nK {V:View}{v w:Value}{x y:Rat}(hx:RR V v x)(hy:RR V w y){k m:Nat}(hk:Sz k x)(hm:Sz m y)(hkm:k+m<1099511627776) :
  ab prog 181 #[v,w] V fun r V'=>r=.int .i64 (fW x y):=by
 obtain ⟨r0,r1,r2,rfl⟩:=hx.shape
 obtain ⟨s0,s1,s2,rfl⟩:=hy.shape
 have gen:∀mU:View,V.Le mU->ab prog 185 #[.agg #[.int .i64 r0,.int .i64 r1,.pointer r2],.agg #[.int .i64 s0,.int .i64 s1,.pointer s2]] mU fun Jl mh=>∃Lu:Int,∃Hh:Int,∃GU:OA,Jl=.agg #[.int .i64 Lu,.int .i64 Hh,.pointer GU]/\(∀nX:View,mh.Le nX->ab prog 128 #[.agg #[.int .i64 Lu,.int .i64 Hh,.pointer GU]] nX fun Jm nJ=>∃Hi:Int,Jm=.int .i64 Hi/\(∀ry:View,nJ.Le ry->Value.int .i64 Hi=.int .i64 (fW x y))):=by
  intro V1 l1
  refine (Cs (hx.le l1) (hy.le l1) hk hm hkm).mono ?_
  rintro r V2 l2 h2
  obtain ⟨n,d,p,rfl⟩:=h2.shape
  refine ⟨_,_,_,rfl,fun V3 l3=>(AB (h2.le l3) (hk.sub hm) (by omega)).mono ?_⟩
  rintro r V4 l4 rfl
  exact ⟨_,rfl,fun _ _=>rfl⟩
 rcases hx with ⟨ex,wx⟩|⟨a,b,p,n,c,p',n',c',ex,-,-,-,-,-,wx⟩
 ·rcases hy with ⟨ey,wy⟩|⟨a,b,p,n,c,p',n',c',ey,-,-,-,-,-,wy⟩
  ·simp only [Value.agg.injEq,Array.mk.injEq,List.cons.injEq,Value.int.injEq,Value.pointer.injEq,true_and,and_true] at ex ey
   obtain ⟨rfl,rfl,rfl⟩:=ex
   obtain ⟨rfl,rfl,rfl⟩:=ey
   have hlt:x.den=y.den->((x<y↔x.num<y.num)/\(y<x↔y.num<x.num)/\(x=y↔x.num=y.num)):=by
    intro e
    have hd:(0:Int)<y.den:=by have:=y.den_nz;omega
    refine ⟨?_,?_,fun h=>by rw [h],fun h=>Rat.ext h e⟩
    ·rw [Rat.lt_iff,e];exact ⟨fun h=>Int.lt_of_mul_lt_mul_right h (by omega),fun h=>Int.mul_lt_mul_of_pos_right h hd⟩
    ·rw [Rat.lt_iff,e];exact ⟨fun h=>Int.lt_of_mul_lt_mul_right h (by omega),fun h=>Int.mul_lt_mul_of_pos_right h hd⟩
   refine gv _ _ _ _ _ _ V _ ⟨fun _=>⟨fun _=>⟨fun h1=>?_,fun _=>gen⟩,(fun h=>nomatch h)⟩,(fun h=>nomatch h)⟩
   have h1:x.den=y.den:=by rw [beq_iff_eq] at h1;omega
   obtain ⟨g1,g2,g3⟩:=hlt h1
   refine ⟨fun h V1 l1=>?_,fun h=>⟨fun h' V1 l1=>?_,fun h' V1 l1=>?_⟩⟩
   ·rw [Cy.1 (g1.2 (by simpa using h))]
   ·rw [Cx.1 (g2.2 (by simpa using h'))]
   ·rw [jl.1 (g3.2 (by rw [decide_eq_false_iff_not] at h h';omega))]
  ·simp only [Value.agg.injEq,Array.mk.injEq,List.cons.injEq,Value.int.injEq,Value.pointer.injEq,true_and,and_true] at ex ey
   obtain ⟨rfl,rfl,rfl⟩:=ex
   obtain ⟨rfl,rfl,rfl⟩:=ey
   exact gv _ _ _ _ _ _ V _ ⟨fun _=>⟨(fun h=>nomatch h),fun _=>gen⟩,(fun h=>nomatch h)⟩
 ·simp only [Value.agg.injEq,Array.mk.injEq,List.cons.injEq,Value.int.injEq,Value.pointer.injEq,true_and,and_true] at ex
  obtain ⟨rfl,rfl,rfl⟩:=ex
  exact gv _ _ _ _ _ _ V _ ⟨(fun h=>nomatch h),fun _=>gen⟩
theorem rK {V:View}{v w:Value}{x y:Rat}(hx:RR V v x)(hy:RR V w y){k m:Nat}(hk:Sz k x)(hm:Sz m y)(hkm:k+m<1099511627776) :
  ab prog 175 #[v,w] V fun r V'=>r=.bool (decide (x=y)):=by
 obtain ⟨r0,r1,r2,rfl⟩:=hx.shape
 obtain ⟨s0,s1,s2,rfl⟩:=hy.shape
 refine nu _ _ _ _ _ _ V _ fun V1 l1=>(nK (hx.le l1) (hy.le l1) hk hm hkm).mono ?_
 rintro r V2 l2 rfl
 refine ⟨_,rfl,fun V3 l3=>?_⟩
 congr 1
 rw [Bool.eq_iff_iff,beq_iff_eq,decide_eq_true_eq,jl]
theorem uX {x y:Rat}{k m:Nat}(hx:Sz k x)(hy:Sz m y):x.num.natAbs*y.den<2^(k+m)/\y.num.natAbs*x.den<2^(k+m)/\Nat.gcd (x.num.natAbs*y.den) (y.num.natAbs*x.den)<2^(k+m)/\x.den*y.den<2^(k+m):=by
 have h1:x.num.natAbs*y.den<2^(k+m):=bJ hx.1 hy.2
 have h2:y.num.natAbs*x.den<2^(k+m):=by rw [Nat.add_comm];exact bJ hy.1 hx.2
 refine ⟨h1,h2,?_,bJ hx.2 hy.2⟩
 rcases Nat.eq_zero_or_pos (x.num.natAbs*y.den) with e|e
 ·rw [e,Nat.gcd_zero_left];exact h2
 ·exact Nat.lt_of_le_of_lt (Nat.le_of_dvd e (Nat.gcd_dvd_left _ _)) h1
theorem jj {x y:Rat}{k m:Nat}(hx:Sz k x)(hy:Sz m y):Sz (k+m+1) (fY x y):=by
 obtain ⟨-,-,h3,h4⟩:=uX hx hy
 have h5:2^(k+m)<=2^(k+m+1):=Nat.pow_le_pow_right (by omega) (by omega)
 exact Go.br.Sz.mkRat (by rw [Int.natAbs_natCast];omega) (by omega) (by omega)
theorem gU {V:View}{v w:Value}{x y:Rat}(hx:RR V v x)(hy:RR V w y){k m:Nat}(hk:Sz k x)(hm:Sz m y)(hkm:k+m<1099511627776) :
  ab prog 174 #[v,w] V fun r V'=>RR V' r (fY x y):=by
 obtain ⟨r0,r1,r2,rfl⟩:=hx.shape
 obtain ⟨s0,s1,s2,rfl⟩:=hy.shape
 obtain ⟨b1,b2,b3,b4⟩:=uX hk hm
 have q1:=ao hk.1
 have q2:=ao hk.2
 have q3:=ao hm.1
 have q4:=ao hm.2
 have q5:=ao b1
 have q6:=ao b2
 have q7:=ao b3
 have q8:=ao b4
 have gen:(∀Kk:View,V.Le Kk->ab prog 204 #[.agg #[.int .i64 r0,.int .i64 r1,.pointer r2]] Kk fun Jy LK=>∃(GV:OA)(Gy Fx:Nat),Jy=.slice GV Gy Fx/\(∀Kl:View,LK.Le Kl->ab prog 204 #[.agg #[.int .i64 s0,.int .i64 s1,.pointer s2]] Kl fun Jz LM=>∃(GW:OA)(Gz Fy:Nat),Jz=.slice GW Gz Fy/\(∀Km:View,LM.Le Km->ab prog 203 #[.slice GV Gy Fx,.slice GW Gz Fy] Km fun JA LN=>∃(Bz:OA)(Bl Ax:Nat),JA=.slice Bz Bl Ax/\(∀Kn:View,LN.Le Kn->ab prog 143 #[.agg #[.int .i64 r0,.int .i64 r1,.pointer r2]] Kn fun JB LO=>∃Ib:Bool,∃(GY:OA)(GC FA:Nat),JB=.agg #[.bool Ib,.slice GY GC FA]/\(∀Ko:View,LO.Le Ko->ab prog 204 #[.agg #[.int .i64 s0,.int .i64 s1,.pointer s2]] Ko fun JC LP=>∃(BA:OA)(Bm Ay:Nat),JC=.slice BA Bm Ay/\(∀Kp:View,LP.Le Kp->ab prog 203 #[.slice GY GC FA,.slice BA Bm Ay] Kp fun JD LQ=>∃(GZ:OA)(GD FB:Nat),JD=.slice GZ GD FB/\(∀Kq:View,LQ.Le Kq->ab prog 143 #[.agg #[.int .i64 s0,.int .i64 s1,.pointer s2]] Kq fun JE LR=>∃Ic:Bool,∃(BB:OA)(Bn Az:Nat),JE=.agg #[.bool Ic,.slice BB Bn Az]/\(∀Kr:View,LR.Le Kr->ab prog 204 #[.agg #[.int .i64 r0,.int .i64 r1,.pointer r2]] Kr fun JF LS=>∃(G1:OA)(GH FD:Nat),JF=.slice G1 GH FD/\(∀Ks:View,LS.Le Ks->ab prog 203 #[.slice BB Bn Az,.slice G1 GH FD] Ks fun JG LU=>∃(BC:OA)(Bo AA:Nat),JG=.slice BC Bo AA/\(∀Kt:View,LU.Le Kt->ab prog 192 #[.slice GZ GD FB,.slice BC Bo AA] Kt fun JH LV=>∃(G2:OA)(GJ FE:Nat),JH=.slice G2 GJ FE/\(∀Ku:View,LV.Le Ku->ab prog 157 #[.agg #[.bool false,.slice G2 GJ FE],.slice Bz Bl Ax] Ku fun JI LW=>∃Hj:Int,∃Hk:Int,∃BD:OA,JI=.agg #[.int .i64 Hj,.int .i64 Hk,.pointer BD]/\(∀Fj:View,LW.Le Fj->RR Fj (.agg #[.int .i64 Hj,.int .i64 Hk,.pointer BD]) (fY x y))))))))))))):=by
  intro V1 l1
  refine (fJ (hx.le l1) hk (by omega)).mono ?_
  rintro r V2 l2 ⟨p1,n1,c1,rfl,g1⟩
  refine ⟨_,_,_,rfl,fun V3 l3=>(fJ (hy.le (l1.trans (l2.trans l3))) hm (by omega)).mono ?_⟩
  rintro r V4 l4 ⟨p2,n2,c2,rfl,g2⟩
  refine ⟨_,_,_,rfl,fun V5 l5=>(gC (g1.le (l3.trans (l4.trans l5))) (g2.le l5) (by omega)).mono ?_⟩
  rintro r V6 l6 ⟨p3,n3,c3,rfl,g3⟩
  rw [ae,ae] at g3
  have L6:=l1.trans (l2.trans (l3.trans (l4.trans (l5.trans l6))))
  refine ⟨_,_,_,rfl,fun V7 l7=>(gT (hx.le (L6.trans l7)) hk (by omega)).mono ?_⟩
  rintro r V8 l8 ⟨p4,n4,c4,rfl,g4⟩
  refine ⟨_,_,_,_,rfl,fun V9 l9=>(fJ (hy.le (L6.trans (l7.trans (l8.trans l9)))) hm (by omega)).mono ?_⟩
  rintro r iC l10 ⟨p5,n5,c5,rfl,g5⟩
  refine ⟨_,_,_,rfl,fun mf cB=>(gC (g4.le (l9.trans (l10.trans cB))) (g5.le cB) (by omega)).mono ?_⟩
  rintro r mg cX ⟨p6,n6,c6,rfl,g6⟩
  rw [ae,ae] at g6
  have J4:=L6.trans (l7.trans (l8.trans (l9.trans (l10.trans (cB.trans cX)))))
  refine ⟨_,_,_,rfl,fun nW cZ=>(gT (hy.le (J4.trans cZ)) hm (by omega)).mono ?_⟩
  rintro r mU dL ⟨p7,n7,c7,rfl,g7⟩
  refine ⟨_,_,_,_,rfl,fun mh eC=>(fJ (hx.le (J4.trans (cZ.trans (dL.trans eC)))) hk (by omega)).mono ?_⟩
  rintro r nX dM ⟨p8,n8,c8,rfl,g8⟩
  refine ⟨_,_,_,rfl,fun nJ dR=>(gC (g7.le (eC.trans (dM.trans dR))) (g8.le dR) (by omega)).mono ?_⟩
  rintro r ry fu ⟨p9,n9,c9,rfl,g9⟩
  rw [ae,ae] at g9
  have J6:=cZ.trans (dL.trans (eC.trans (dM.trans (dR.trans fu))))
  refine ⟨_,_,_,rfl,fun wE gG=>(rO (g6.le (J6.trans gG)) (g9.le gG) (by omega) (by omega)).mono ?_⟩
  rintro r Al lj ⟨Ji,n10,c10,rfl,g10⟩
  rw [ae,ae] at g10
  refine ⟨_,_,_,rfl,fun ux iy=>(en false (g10.le iy) (g3.le (l7.trans (l8.trans (l9.trans (l10.trans (cB.trans (cX.trans (J6.trans (gG.trans (lj.trans iy)))))))))) (by omega) (by omega)).mono ?_⟩
  rintro r yS lN h22
  rw [jR,ae,ae] at h22
  obtain ⟨n,d,p,rfl⟩:=h22.shape
  exact ⟨_,_,_,rfl,fun wJ jy=>h22.le jy⟩
 rcases hx with ⟨ex,wx⟩|⟨a,b,p,n,c,p',n',c',ex,-,-,-,-,-,wx⟩
 ·rcases hy with ⟨ey,wy⟩|⟨a,b,p,n,c,p',n',c',ey,-,-,-,-,-,wy⟩
  ·simp only [Value.agg.injEq,Array.mk.injEq,List.cons.injEq,Value.int.injEq,Value.pointer.injEq,true_and,and_true] at ex ey
   obtain ⟨rfl,rfl,rfl⟩:=ex
   obtain ⟨rfl,rfl,rfl⟩:=ey
   obtain ⟨JX,NB⟩:=wx
   obtain ⟨JY,NC⟩:=wy
   refine je _ _ _ _ _ _ V _ ⟨fun _=>⟨fun _=>⟨fun h1=>⟨fun _ _=>True,⟨fun h2 V1 l1=>?_,fun _=>⟨(),by and_intros<;>rfl,trivial⟩⟩,fun _ V1 l1 _=>⟨by trivial,fun V2 l2=>gen V2 (l1.trans l2)⟩⟩,fun _=>gen⟩,(fun h=>nomatch h)⟩,(fun h=>nomatch h)⟩
   have h1:x.den=1:=by rw [beq_iff_eq] at h1;omega
   have h2:y.den=1:=by rw [beq_iff_eq] at h2;omega
   refine (fk _ (by omega) (by omega)).mono ?_
   rintro r V2 l2 rfl
   refine ⟨_,rfl,fun V3 l3=>(fk _ (by omega) (by omega)).mono ?_⟩
   rintro r V4 l4 rfl
   refine ⟨_,rfl,fun V5 l5=>(oo _ _ (by omega) (by omega)).mono ?_⟩
   rintro r V6 l6 rfl
   refine ⟨_,rfl,fun V7 l7=>.inl ?_⟩
   have e:fY x y=((Nat.gcd x.num.natAbs y.num.natAbs:Nat):Int):=by
    unfold fY
    rw [h1,h2,Nat.mul_one,Nat.mul_one,Nat.mul_one]
    exact mkRat_one _
   have hl:Nat.gcd x.num.natAbs y.num.natAbs<4611686018427387904:=by
    rcases Nat.eq_zero_or_pos x.num.natAbs with e|e
    ·rw [e,Nat.gcd_zero_left];exact JY
    ·exact Nat.lt_of_le_of_lt (Nat.le_of_dvd e (Nat.gcd_dvd_left _ _)) JX
   rw [e,aD (by omega)]
   exact ⟨rfl,oN (by rw [Int.natAbs_natCast];exact hl)⟩
  ·simp only [Value.agg.injEq,Array.mk.injEq,List.cons.injEq,Value.int.injEq,Value.pointer.injEq,true_and,and_true] at ex ey
   obtain ⟨rfl,rfl,rfl⟩:=ex
   obtain ⟨rfl,rfl,rfl⟩:=ey
   exact je _ _ _ _ _ _ V _ ⟨fun _=>⟨(fun h=>nomatch h),fun _=>gen⟩,(fun h=>nomatch h)⟩
 ·simp only [Value.agg.injEq,Array.mk.injEq,List.cons.injEq,Value.int.injEq,Value.pointer.injEq,true_and,and_true] at ex
  obtain ⟨rfl,rfl,rfl⟩:=ex
  exact je _ _ _ _ _ _ V _ ⟨(fun h=>nomatch h),fun _=>gen⟩
end Go.Proofs.Tryz
