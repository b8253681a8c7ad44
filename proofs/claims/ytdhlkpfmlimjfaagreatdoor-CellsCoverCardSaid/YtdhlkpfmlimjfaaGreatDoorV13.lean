import Derived.Test.YtdhlkpfmlimjfaaGreatDoorV12
import Derived.Test.YtdhlkpfmlimjfaaGreatDoorV8
import Derived.Test.YtdhlkpfmlimjfaaGreatDoorV11
set_option linter.unusedVariables false
open Go.IntKind (i64 u64 u32)
namespace Go.Proofs.Tryz
open Go.Eng Go.Big
theorem Yf {V:View}{p:OA}{n c:Nat}{ds:List Nat}(h:RD V p n c ds){i:Int}{K:Int->Prop}(j d:Nat)(hj:i=j)(hn:ds[j]?=some d)
  (hK:K (d:Int)):(p.isSome=true)/\(0<=i/\i<(n:Int))/\∃x:Int,(∃a,addrAdd p (i.toNat*1)=some a/\V.at a (.int .u32 x))/\K x:=by
 have b:j<ds.length:=by
  rcases Nat.lt_or_ge j ds.length with h|h
  ·exact h
  ·rw [List.getElem?_eq_none h] at hn;cases hn
 refine h.rd j hj b ?_
 rw [List.getElem?_eq_getElem b] at hn
 cases hn;exact hK
theorem Gp {W n:Nat}(h:(af W).length=n+1):∃top,(af W)[n]?=some top/\top≠0/\top<4294967296/\top*4294967296^n<=W:=by
 refine ⟨(af W)[n]'(by omega),List.getElem?_eq_getElem _,?_,(ax W).get _,D6 h⟩
 have:=(ir W).last (by omega)
 simpa [h] using this
structure xi (A V L:Nat) (R:Nat) (j:Nat) (es:List Nat):Prop where
 len:es.length=L
 eI:bI es
 lt:R<V*4294967296^j
 eq:A=V*(4294967296^j*val (es.drop j))+R
theorem xi.step {A V L R j:Nat}{es:List Nat}(h:xi A V L R (j+1) es)(hj:j<L)(hV:0<V) :
  R / (V*4294967296^j)<4294967296/\xi A V L (R-V*(R / (V*4294967296^j))*4294967296^j) j (es.set j (R / (V*4294967296^j))):=by
 have c:0<4294967296^j:=Nat.pow_pos (by omega)
 have a:0<V*4294967296^j:=Nat.mul_pos hV c
 have b:R / (V*4294967296^j)<4294967296:=by
  rw [Nat.div_lt_iff_lt_mul a]
  have:=h.lt
  rw [Nat.pow_succ] at this
  have e:4294967296*(V*4294967296^j)=V*(4294967296^j*4294967296):=by
   generalize 4294967296^j=w
   grind
  omega
 have d:=D3 (R:=R) (V:=V) (W:=4294967296^j)
 have hm:=Nat.mod_lt R a
 have he:R-V*(R / (V*4294967296^j))*4294967296^j=R%(V*4294967296^j):=by omega
 refine ⟨b,⟨by simpa using h.len,h.eI.set _ _ b,by rw [he];exact hm,?_⟩⟩
 have f:=h.len
 rw [List.drop_eq_getElem_cons (by simp;omega),List.getElem_set_self,List.drop_set_of_lt (by omega),aU,he]
 exact FV (by have:=h.eq;rwa [Nat.pow_succ] at this) d
theorem IG {R V j:Nat}(h:R<V*4294967296^(j+1)):(af R).length<=(af V).length+j+1:=by
 have a:V*4294967296^(j+1)<=4294967296^(af V).length*4294967296^(j+1):=Nat.mul_le_mul_right _ (Nat.le_of_lt (az.1 (Nat.le_refl _)))
 rw [←Nat.pow_add] at a
 have:=az.2 (Nat.lt_of_lt_of_le h a)
 omega
theorem J3 {R n:Nat}(h:(af R).length<=n+2):R / 4294967296^n<18446744073709551616:=by
 rw [Nat.div_lt_iff_lt_mul (Nat.pow_pos (by omega))]
 have:=az.1 h
 rw [Nat.pow_succ,Nat.pow_succ] at this
 have e:4294967296^n*4294967296*4294967296=18446744073709551616*4294967296^n:=by
  generalize 4294967296^n=w
  omega
 omega
theorem Df {V:View}{p q:OA}{n c m e:Nat}{x y:Nat}(hx:RN V p n c x)(hy:RN V q m e y)(hm:(af x).length<=274877906944)(hy0:0<y)(hle:(af y).length<=(af x).length) :
  Acts prog 155 #[.slice p n c,.slice q m e] V fun r V'=>∃p1 n1 c1 p2 n2 c2,r=.tuple #[.slice p1 n1 c1,.slice p2 n2 c2]/\RN V' p1 n1 c1 (x / y)/\RN V' p2 n2 c2 (x%y):=by
 have a4:=hx.len
 have Au:=hy.len
 have c5:0<m:=by
  rcases Nat.eq_zero_or_pos m with h|h
  ·have:=bf.1 (List.length_eq_zero_iff.1 (Au▸h));omega
  ·exact h
 have vc:=CU p n c q m e V
 have w1:i64.wrap ((m:Int)-1)=((m-1:Nat):Int):=by rw [i64w (by omega)];omega
 have w2:i64.wrap ((n:Int)-m)=((n-m:Nat):Int):=by rw [i64w (by omega)];omega
 have w3:i64.wrap (((n-m:Nat):Int)+1)=((n-m+1:Nat):Int):=by rw [i64w (by omega)];omega
 have w4:i64.wrap (((n-m+1:Nat):Int)-1)=((n-m:Nat):Int):=by rw [i64w (by omega)];omega
 simp only [w1,w2,w3,Int.toNat_natCast,w4,cq] at vc
 obtain ⟨L,hL⟩:∃L,L=n-m+1:=⟨_,rfl⟩
 rw [←hL] at vc
 refine vc _ ?_
 clear vc
 refine hy.rd (m-1) rfl (by omega) fun V1 P=>(fy _ ((ax y).get (by omega))).mono ?_
 rintro r V2 S rfl
 have a5:br ((af y)[m-1]'(by omega))<=32:=iI.2 (by have:=(ax y).get (i:=m-1) (by omega);omega)
 obtain ⟨s,hs⟩:∃s:Nat,(32:Int)-(br ((af y)[m-1]'(by omega)):Int)=s:=⟨32-br ((af y)[m-1]'(by omega)),by omega⟩
 have JP:s<=32:=by omega
 rw [hs]
 clear hs a5
 refine ⟨_,rfl,fun V3 l3=>(ke (hy.le (P.trans (S.trans l3))) (by omega) s (by omega)).mono ?_⟩
 rintro r V4 l4 ⟨vp,d,vc,rfl,H⟩
 rw [ab] at H
 refine ⟨_,_,_,rfl,fun V5 l5=>(ke (hx.le (P.trans (S.trans (l3.trans (l4.trans l5))))) (by omega) s (by omega)).mono ?_⟩
 rintro r V6 l6 ⟨rp,O,rc,rfl,hr⟩
 rw [ab] at hr
 replace H:=H.le (l5.trans l6)
 have a6:=H.len
 have T:=Nat.two_pow_pos s
 have c6:2^s<=4294967296:=Nat.pow_le_pow_right (n:=2) (by omega) JP
 have U4:0<y*2^s:=Nat.mul_pos hy0 T
 have c7:(af (2^s)).length<=2:=az.2 (by omega)
 have c8:d<=m+2:=by have:=gD (a:=y) (b:=2^s);omega
 have Zn:0<d:=by
  rcases Nat.eq_zero_or_pos d with h|h
  ·have:=bf.1 (List.length_eq_zero_iff.1 (a6▸h));omega
  ·exact h
 have I:xi (x*2^s) (y*2^s) L (x*2^s) L (List.replicate L 0):=by
  refine ⟨by simp,bI.rep _,?_,by simp⟩
  have h1:x<4294967296^n:=by rw [a4];exact az.1 (Nat.le_refl _)
  have h2:4294967296^(m-1)<=y:=by rw [←qQ];omega
  have C:4294967296^(m-1)*4294967296^L<=y*4294967296^L:=Nat.mul_le_mul_right _ h2
  rw [←Nat.pow_add,show m-1+L=n from by omega] at C
  have D:x*2^s<y*4294967296^L*2^s:=Nat.mul_lt_mul_of_pos_right (by omega) T
  have E:y*4294967296^L*2^s=y*2^s*4294967296^L:=by
   generalize 4294967296^L=w
   grind
  omega
 have G:∀{Q R:Nat},x*2^s=y*2^s*Q+R->R<y*2^s->Q=x / y/\R / 2^s=x%y:=fun h1 h2=>HR h1 h2
 generalize x*2^s=A at *
 generalize y*2^s=W at *
 have w5:i64.wrap ((d:Int)-1)=((d-1:Nat):Int):=by rw [i64w (by omega)];omega
 simp only [w5,Int.toNat_natCast]
 refine ⟨_,_,_,rfl,?_⟩
 obtain ⟨top,XL,Vc,Vd,OS⟩:=Gp (W:=W) (n:=d-1) (by omega)
 refine Yf H (d-1) top rfl XL ?_
 have w6:u64.wrap (top:Int)=top:=aH (by omega)
 simp only [w6]
 refine ⟨by omega,by omega,by omega,fun z V'=>∃R:Nat,RN V' z.1 z.2.1 z.2.2.1 R/\-1<=z.2.2.2.1/\z.2.2.2.1<L/\∃es:List Nat,z.2.2.2.2=ay es/\xi A W L R (z.2.2.2.1+1).toNat es,fun z=>(z.2.2.2.1+1).toNat,
  ⟨(rp,O,rc,((n-m:Nat):Int),ay (List.replicate L 0)),by (try dsimp only);and_intros<;>first|exact True.intro|rfl,A,hr,by (try dsimp only);omega,by (try dsimp only);omega,_,rfl,?_⟩,?_⟩
 ·(try dsimp only)
  rw [show (((n-m:Nat):Int)+1).toNat=L from by omega]
  exact I
 rintro ⟨rp,O,rc,j,vs⟩ V7 l7 ⟨R,J,a7,a8,es,rfl,o⟩
 dsimp only at J a7 a8 o ⊢
 have c9:=J.len
 refine ⟨by trivial,fun C=>?_,fun C=>?_⟩
 ·have C:0<=j:=by simpa using C
  obtain ⟨j,rfl⟩:=Int.eq_ofNat_of_zero_le C
  have o:xi A W L R (j+1) es:=o
  have Xx:j<L:=by omega
  have U:=IG o.lt
  obtain ⟨hq,X⟩:=o.step Xx U4
  have w7:i64.wrap ((d:Int)+j)=((d-1+j+1:Nat):Int):=by rw [i64w (by omega)];omega
  have w8:i64.wrap (((d-1+j+1:Nat):Int)-1)=((d-1+j:Nat):Int):=by rw [i64w (by omega)];omega
  have w9:i64.wrap ((32:Int)*j)=((32*j:Nat):Int):=by rw [i64w (by omega)];omega
  have TJ:i64.wrap ((j:Int)-1)=(j:Int)-1:=i64w (by omega)
  simp only [w7,w8,w9,TJ,Int.toNat_natCast]
  have U:(af R).length<=d-1+j+2:=by omega
  have a9:=J3 U
  have hP:0<4294967296^(d-1):=Nat.pow_pos (by omega)
  have hW:0<4294967296^j:=Nat.pow_pos (by omega)
  have hg:=Hx (R:=R) OS (by omega) hP hW
  rw [←Nat.pow_add] at hg
  have S:=@Pb R (d-1+j)
  have P:=@Ls R (d-1+j)
  have l0:=@Pa R (d-1+j)
  have l:∀i (hi:i<(af R).length),(af R)[i]<4294967296:=fun i hi=>(ax R).get hi
  generalize R / 4294967296^(d-1+j)=lead at *
  refine ⟨fun z V'=>z=(lead:Int),⟨fun D=>?_,fun D=>?_⟩,?_⟩
  ·have D:d-1+j+1<O:=by simp at D;omega
   refine (J.rd (d-1+j+1) rfl (by omega) ⟨by omega,J.rd (d-1+j) rfl (by omega) ⟨(lead:Int),?_,rfl⟩⟩)
   have Y:aX .or .u64 (u64.wrap (u64.wrap (((af R)[d-1+j+1]'(by omega):Nat):Int)*2^32)) (u64.wrap (((af R)[d-1+j]'(by omega):Nat):Int))=(lead:Int):=by
    have e3:((2:Int)^32)=4294967296:=by decide
    have g1:=l (d-1+j+1) (by omega)
    have Z:=l (d-1+j) (by omega)
    have:=S (by omega)
    rw [e3,aH (x:=(((af R)[d-1+j+1]'(by omega):Nat):Int)) (by omega),aH (x:=(((af R)[d-1+j]'(by omega):Nat):Int)) (by omega),aH (by omega),B1 _ _ g1 Z,this]
    omega
   (try dsimp only);and_intros<;>first|exact True.intro|exact Y|rfl
  ·have D:O<=d-1+j+1:=by simp at D;omega
   refine ⟨fun z V'=>z=(lead:Int),⟨fun E=>?_,fun E=>?_⟩,?_⟩
   ·have E:d-1+j<O:=by simp at E;omega
    refine J.rd (d-1+j) rfl (by omega) ⟨(lead:Int),?_,rfl⟩
    have Y:u64.wrap (((af R)[d-1+j]'(by omega):Nat):Int)=(lead:Int):=by
     have Z:=l (d-1+j) (by omega)
     rw [aH (by omega),P (by omega)]
    (try dsimp only);and_intros<;>first|exact True.intro|exact Y|rfl
   ·have E:O<=d-1+j:=by simp at E;omega
    have Y:(0:Int)=(lead:Int):=by rw [l0 (by omega)];rfl
    refine ⟨(lead:Int),?_,rfl⟩
    (try dsimp only);and_intros<;>first|exact True.intro|exact Y|rfl
   ·rintro _ V8 l8 rfl
    refine ⟨by trivial,(lead:Int),?_,rfl⟩
    (try dsimp only);and_intros<;>first|exact True.intro|rfl
  rintro _ V9 l9 rfl
  clear S P l0 l
  have On:(lead:Int).tdiv (top:Int)=((lead / top:Nat):Int):=by rw [Int.tdiv_eq_ediv_of_nonneg (by omega)];omega
  have b0:lead / top<=lead:=Nat.div_le_self _ _
  rw [On]
  generalize lead / top=lt at *
  obtain ⟨F,a0,Mk,R4⟩:∃F:Nat,bD (u64.wrap (lt:Int)) 4294967295=(F:Int)/\F<4294967296/\R / (W*4294967296^j)<=F:=by
   rw [aH (by omega)]
   unfold bD
   split
   ·exact ⟨4294967295,rfl,by omega,by omega⟩
   ·exact ⟨lt,rfl,by omega,hg⟩
  rw [a0]
  clear a0 On b0 hg a9
  have U5:0<W*4294967296^j:=Nat.mul_pos U4 hW
  have v:∀g:Nat,g<4294967296->(af g).length<=1:=fun g hg=>az.2 (by omega)
  refine ⟨by trivial,by omega,fun b5 u=>(dk F (by omega)).mono ?_⟩
  rintro r b6 B ⟨gp,gn,gc,rfl,b7⟩
  refine ⟨_,_,_,rfl,fun b8 t=>(bX (H.le (l7.trans (l9.trans (u.trans (B.trans t))))) (b7.le t) (by have:=v F Mk;omega)).mono ?_⟩
  rintro r d0 a1 ⟨pp,pn,pc,rfl,K5⟩
  rw [ab,ab] at K5
  have K:=fun g=>gD (a:=W) (b:=g)
  refine ⟨_,_,_,rfl,fun d1 dL=>(ke (K5.le dL) (by have:=v F Mk;have:=K F;omega) (32*j) (by omega)).mono ?_⟩
  rintro r d2 cX ⟨tp,tn,tc,rfl,K6⟩
  rw [ab,Lu] at K6
  have Ox:=J.le (l9.trans (u.trans (B.trans (t.trans (a1.trans (dL.trans cX))))))
  have Sm:=H.le (l7.trans (l9.trans (u.trans (B.trans (t.trans (a1.trans (dL.trans cX)))))))
  refine ⟨_,_,_,rfl,fun z V'=>∃g:Nat,z.1=g/\g<4294967296/\R / (W*4294967296^j)<=g/\RN V' z.2.1 z.2.2.1 z.2.2.2 (W*g*4294967296^j),fun z=>z.1.toNat,
   ⟨((F:Int),tp,tn,tc),by (try dsimp only);and_intros<;>first|exact True.intro|rfl,F,rfl,Mk,R4,K6⟩,?_⟩
  rintro ⟨_,tp,tn,tc⟩ lW cY ⟨g,rfl,b9,Xw,ht⟩
  dsimp only at ht ⊢
  have c0:(af (W*g*4294967296^j)).length<=1099511627776:=by
   have h1:=gD (a:=W*g) (b:=4294967296^j)
   have h2:=yV j
   have C:=K g
   have D:=v g b9
   omega
  refine ⟨by trivial,fun nQ cN=>(gO (ht.le cN) (Ox.le (cY.trans cN)) c0 (by omega)).mono ?_⟩
  rintro r qG dU rfl
  refine ⟨_,rfl,fun f=>?_,fun f=>?_⟩
  ·have f:R<W*g*4294967296^j:=by
    have f:0<jC (W*g*4294967296^j) R:=by simpa using f
    unfold jC at f
    split at f
    ·omega
    ·split at f
     ·assumption
     ·omega
   have c3:=Hy U5 f
   have d3:0<g:=Nat.lt_of_le_of_lt (Nat.zero_le _) c3
   have e1:u64.wrap ((g:Int)-1)=((g-1:Nat):Int):=by rw [aH (by omega)];omega
   simp only [e1]
   refine fun sZ dO=>(dk (g-1) (by omega)).mono ?_
   rintro r C3 jg ⟨gp,gn,gc,rfl,c4⟩
   refine ⟨_,_,_,rfl,fun vS gj=>(bX (Sm.le (cY.trans (cN.trans (dU.trans (dO.trans (jg.trans gj)))))) (c4.le gj) (by have:=v (g-1) (by omega);omega)).mono ?_⟩
   rintro r yA kJ ⟨pp,pn,pc,rfl,a2⟩
   rw [ab,ab] at a2
   refine ⟨_,_,_,rfl,fun xj gS=>(ke (a2.le gS) (by have:=v (g-1) (by omega);have:=K (g-1);omega) (32*j) (by omega)).mono ?_⟩
   rintro r Jc xY ⟨tp,tn,tc,rfl,UU⟩
   rw [ab,Lu] at UU
   refine ⟨_,_,_,rfl,(((g-1:Nat):Int),tp,tn,tc),?_,by (try dsimp only);and_intros<;>first|exact True.intro|rfl,g-1,rfl,by omega,by omega,UU⟩
   (try dsimp only);omega
  ·have f:W*g*4294967296^j<=R:=by
    have f:¬0<jC (W*g*4294967296^j) R:=by simpa using f
    unfold jC at f
    split at f
    ·omega
    ·split at f
     ·omega
     ·omega
   have M:=Dv U5 f Xw
   rw [←M] at X
   have d4:=o.len
   refine ⟨⟨by omega,by omega⟩,by simp;omega,fun GL a3=>(mT (Ox.le (cY.trans (cN.trans (dU.trans a3)))) (ht.le (cN.trans (dU.trans a3))) (by omega) (aB f) (by rw [ab,ab];exact f)).mono ?_⟩
   rintro r LL d5 ⟨np,nn,nc,rfl,UW⟩
   rw [ab,ab] at UW
   have e1:u32.wrap (g:Int)=(g:Int):=oY (by omega)
   have e2:(ay es).set (0+j*1) (.int .u32 (g:Int))=ay (es.set j g):=by rw [←aZ];simp
   simp only [e1]
   refine ⟨_,_,_,rfl,(np,nn,nc,(j:Int)-1,ay (es.set j g)),?_,by (try dsimp only);and_intros<;>first|exact True.intro|rfl|exact e2|(rw [←aZ];simp),R-W*g*4294967296^j,UW,by (try dsimp only);omega,by (try dsimp only);omega,_,rfl,?_⟩
   ·(try dsimp only);omega
   ·(try dsimp only)
    rw [show ((j:Int)-1+1).toNat=j from by omega]
    exact X
 ·have C:j=-1:=by simp at C;omega
  subst C
  have Si:(af R).length<=1099511627776:=by
   have f:=o.lt
   have f:R<W:=by simpa using f
   have:=aB (Nat.le_of_lt f)
   omega
  intro V8 l8 bk hb
  refine (cL (RD.aW hb o.eI (n:=L) (c:=L) o.len.symm (Nat.le_refl _)) (by have:=o.len;omega)).mono ?_
  rintro r V9 l9 ⟨k,rfl,D⟩
  refine ⟨_,_,_,rfl,fun _ b5 u=>(AX (J.le (l8.trans (l9.trans u))) Si s (by omega)).mono ?_⟩
  rintro r b6 B ⟨p2,n2,c2,rfl,E⟩
  rw [ab] at E
  refine ⟨_,_,_,rfl,fun b8 t=>⟨_,_,_,_,_,_,rfl,?_,?_⟩⟩
  ·have f:=o.lt
   have N:=o.eq
   have f:R<W:=by simpa using f
   have N:A=W*val es+R:=by simpa using N
   obtain ⟨g1,Z⟩:=G N f
   rw [aJ o.eI,g1] at D
   exact D.le (u.trans (B.trans t))
  ·have f:=o.lt
   have N:=o.eq
   have f:R<W:=by simpa using f
   have N:A=W*val es+R:=by simpa using N
   obtain ⟨g1,Z⟩:=G N f
   rw [Z] at E
   exact E.le t
theorem pA {x:Nat}(h:(af x).length<=2):x<18446744073709551616:=by
 have:=az.1 h
 omega
theorem copied {V:View}{b n c:Nat}{ds:List Nat}{sp:List Value}{ty:TypeId}(hd:bI ds)(hn:n=ds.length)(hc:n<=c)(hb:V.aW b (.cells (ay ds++sp).toArray ty (0,0))):RD V (some ⟨b,0,none⟩) n c ds:=by
 refine ⟨hn,hc,fun i v a=>⟨_,rfl,?_⟩,hd,fun e=>nomatch e⟩
 rw [add_zero']
 refine blk_at hb ?_
 rw [List.getElem?_append_left]
 ·exact a
 ·rcases Nat.lt_or_ge i (ay ds).length with e|e
  ·exact e
  ·rw [List.getElem?_eq_none e] at a;cases a
theorem dB {V:View}{p q:OA}{n c m e:Nat}{x y:Nat}(hx:RN V p n c x)(hy:RN V q m e y)(hm:(af x).length<=274877906944)(hm':(af y).length<=274877906944)(hy0:0<y) :
  Acts prog 119 #[.slice p n c,.slice q m e] V fun r V'=>∃p1 n1 c1 p2 n2 c2,r=.tuple #[.slice p1 n1 c1,.slice p2 n2 c2]/\RN V' p1 n1 c1 (x / y)/\RN V' p2 n2 c2 (x%y):=by
 have o:=hx.len
 have Au:=hy.len
 have a1:0<m:=by
  rcases Nat.eq_zero_or_pos m with h|h
  ·have:=bf.1 (List.length_eq_zero_iff.1 (Au▸h));omega
  ·exact h
 refine wT p n c q m e V _ fun V1 w=>(kf (hx.le w) (by omega)).mono ?_
 rintro r V2 G rfl
 rw [ab]
 refine ⟨_,_,rfl,fun z V'=>True,⟨fun a=>?_,fun a=>⟨(),by (try dsimp only);and_intros<;>first|exact True.intro|rfl,trivial⟩⟩,?_⟩
 ·have a:n<=2:=by simpa using a
  refine fun V3 l3=>(kf (hy.le (w.trans (G.trans l3))) (by omega)).mono ?_
  rintro r V4 l4 rfl
  rw [ab]
  refine ⟨_,_,rfl,fun f=>?_,fun f=>⟨(),by (try dsimp only);and_intros<;>first|exact True.intro|rfl,trivial⟩⟩
  have f:m<=2:=by simpa using f
  have a2:=pA (x:=x) (by omega)
  have Vh:=pA (x:=y) (by omega)
  rw [if_pos a,if_pos f]
  have hq:x / y<=x:=Nat.div_le_self _ _
  have hr:x%y<y:=Nat.mod_lt _ hy0
  have H:((x:Nat):Int).tdiv (y:Int)=((x / y:Nat):Int):=by rw [Int.tdiv_eq_ediv_of_nonneg (by omega)];omega
  have I:((x:Nat):Int).tmod (y:Int)=((x%y:Nat):Int):=by rw [Int.tmod_eq_emod_of_nonneg (by omega)];omega
  rw [H,I]
  generalize x / y=qq at *
  generalize x%y=rr at *
  have K:u64.wrap (qq:Int)=qq:=aH (by omega)
  rw [K]
  refine ⟨by omega,by omega,fun V5 l5=>(dk qq (by omega)).mono ?_⟩
  rintro r V6 l6 ⟨p1,n1,c1,rfl,L⟩
  refine ⟨_,_,_,rfl,fun V7 l7=>(dk rr (by omega)).mono ?_⟩
  rintro r V8 l8 ⟨p2,n2,c2,rfl,M⟩
  exact ⟨_,_,_,rfl,fun V9 l9=>⟨_,_,_,_,_,_,rfl,L.le (l7.trans (l8.trans l9)),M.le l9⟩⟩
 rintro _ a3 A _
 replace hx:=hx.le (w.trans (G.trans A))
 replace hy:=hy.le (w.trans (G.trans A))
 refine ⟨by trivial,fun a4 j=>(gO (hx.le j) (hy.le j) (by omega) (by omega)).mono ?_⟩
 rintro r a5 B rfl
 replace hx:=hx.le (j.trans B)
 replace hy:=hy.le (j.trans B)
 refine ⟨_,rfl,fun a=>⟨ay (af x),hx.sl,by simp [o],by omega,by omega,by simp,by simp [o],?_,?_⟩,fun a=>⟨fun f=>?_,fun f=>?_⟩⟩
 ·intro v g
  simp only [ay,List.mem_map] at g
  obtain ⟨d,-,rfl⟩:=g
  rfl
 ·have a:x<y:=by simpa [eZ] using a
  intro bk J sp c' f h2 V1 w b E
  rw [Nat.div_eq_of_lt a,Nat.mod_eq_of_lt a]
  refine ⟨_,_,_,_,_,_,rfl,RD.nil,?_⟩
  simp only [Nat.zero_add,Nat.zero_mul,List.take_zero,List.nil_append] at E f ⊢
  exact copied (ax x) o f E
 ·have a:y<=x:=by simpa [←Int.not_lt,eZ] using a
  have f:m=1:=by simp at f;omega
  subst f
  obtain ⟨d,F⟩:=kn (ds:=af y) (by omega)
  have N:d=y:=by have:=ab y;rw [F] at this;simpa using this
  subst N
  have O:d<4294967296:=by have:=ax d;rw [F] at this;exact (bI.cons.1 this).1
  try unfold RN at hy
  rw [F] at hy
  have a6:0<n:=by have:=aB a;omega
  have w1:i64.wrap ((n:Int)-1)=(n:Int)-1:=i64w (by omega)
  simp only [w1,Int.toNat_natCast,cq]
  have xV:=ax x
  have Mv:=ab x
  try unfold RN at hx
  clear F
  rw [←Mv]
  clear Mv a
  generalize af x=xs at *
  refine ⟨by omega,by omega,by omega,fun z V'=>0<=z.1/\z.1<d/\-1<=z.2.1/\z.2.1<n/\∃es:List Nat,z.2.2=ay es/\es.length=n/\bI es /\
   val (xs.drop (z.2.1+1).toNat)=d*val (es.drop (z.2.1+1).toNat)+z.1.toNat,fun z=>(z.2.1+1).toNat,
   ⟨(0,(n:Int)-1,ay (List.replicate n 0)),by (try dsimp only);and_intros<;>first|exact True.intro|rfl,by (try dsimp only);omega,by (try dsimp only);omega,by (try dsimp only);omega,by (try dsimp only);omega,_,rfl,by simp,bI.rep _,?_⟩,?_⟩
  ·(try dsimp only)
   rw [List.drop_of_length_le (by omega),List.drop_of_length_le (by simp)];rfl
  rintro ⟨rest,i,vs⟩ P Q ⟨C,R,S,T,es,rfl,U,s,g⟩
  dsimp only at C R S T g ⊢
  obtain ⟨rest,rfl⟩:=Int.eq_ofNat_of_zero_le C
  refine ⟨by trivial,fun t=>?_,fun t=>?_⟩
  ·have t:0<=i:=by simpa using t
   obtain ⟨i,rfl⟩:=Int.eq_ofNat_of_zero_le t
   have W:((i:Int)+1).toNat=i+1:=by omega
   rw [W] at g
   simp only [Int.toNat_natCast] at g ⊢
   have R3:=xV.get (i:=i) (by omega)
   refine (hx.le Q).rd i rfl (by omega) (Cb (hy.le Q) (by simp) fun X Y=>(Jq rest xs[i] d (by omega) R3 O).mono ?_)
   rintro r lW cY rfl
   have hq:(rest*4294967296+xs[i]) / d<4294967296:=by
    rw [Nat.div_lt_iff_lt_mul (by omega)]
    have:rest+1<=d:=by omega
    have:=Nat.mul_le_mul_right 4294967296 this
    rw [Nat.mul_comm 4294967296 d]
    omega
   have hr:(rest*4294967296+xs[i])%d<d:=Nat.mod_lt _ (by omega)
   have GA:=Nat.div_add_mod (rest*4294967296+xs[i]) d
   generalize (rest*4294967296+xs[i]) / d=q at *
   generalize (rest*4294967296+xs[i])%d=r at *
   have w2:i64.wrap ((i:Int)-1)=(i:Int)-1:=i64w (by omega)
   simp only [w2]
   refine ⟨_,_,rfl,⟨by omega,by omega⟩,by simp;omega,((r:Int),(i:Int)-1,ay (es.set i q)),?_,?_,?_⟩
   ·(try dsimp only);omega
   ·(try dsimp only);and_intros<;>first|exact True.intro|rfl|(rw [←aZ];simp)
   ·(try dsimp only)
    refine ⟨by omega,by omega,by omega,by omega,_,rfl,by simpa using U,s.set _ _ (by omega),?_⟩
    have Z:((i:Int)-1+1).toNat=i:=by omega
    rw [Z,List.drop_eq_getElem_cons (by omega),List.drop_eq_getElem_cons (l:=es.set i q) (by simp;omega),List.getElem_set_self,List.drop_set_of_lt (by omega)]
    have h9:xs[i]+4294967296*val (List.drop (i+1) xs)=d*(q+4294967296*val (List.drop (i+1) es))+r:=uU g GA
    rw [aU,aU,Int.toNat_natCast]
    exact h9
  ·have t:i=-1:=by simp at t;omega
   subst t
   simp only [Int.toNat_natCast] at g
   have g:val xs=d*val es+rest:=by simpa using g
   intro nQ cN bk E
   refine (cL (RD.aW E s (n:=n) (c:=n) (by omega) (Nat.le_refl _)) (by omega)).mono ?_
   rintro r qG dU ⟨k,rfl,h4⟩
   refine ⟨_,_,_,rfl,fun _ sZ dO a0 u=>?_⟩
   have u:sZ.aW a0 (.cells (ay [rest]).toArray 225 (0,0)):=by
    simpa [ay] using u
   refine (cL (RD.aW u (n:=1) (c:=1) (by simp [bI];omega) rfl (Nat.le_refl _)) (by simp)).mono ?_
   rintro r C3 jg ⟨k2,rfl,h5⟩
   refine ⟨_,_,_,rfl,fun _ vS gj=>⟨_,_,_,_,_,_,rfl,?_,?_⟩⟩
   ·have H:val xs / d=val es:=by rw [g,Nat.mul_add_div (by omega),Nat.div_eq_of_lt (by omega),Nat.add_zero]
    rw [aJ s] at h4
    rw [H]
    exact h4.le (dO.trans (jg.trans gj))
   ·have I:val xs%d=rest:=by rw [g,Nat.mul_add_mod,Nat.mod_eq_of_lt (by omega)]
    rw [aJ (by simp [bI];omega)] at h5
    have K:val [rest]=rest:=by simp
    rw [K] at h5
    rw [I]
    exact h5.le gj
 ·have a:y<=x:=by simpa [←Int.not_lt,eZ] using a
  refine fun a7 D=>(Df (hx.le D) (hy.le D) hm hy0 (aB a)).mono ?_
  rintro r P Q ⟨p1,n1,c1,p2,n2,c2,rfl,L,M⟩
  exact ⟨_,_,_,_,_,_,rfl,fun X Y=>⟨_,_,_,_,_,_,rfl,L.le Y,M.le Y⟩⟩
theorem kd {V:View}{p q:OA}{n c m e:Nat}{x y:Nat}(hx:RN V p n c x)(hy:RN V q m e y)(hm:(af x).length<=274877906944)(hm':(af y).length<=274877906944) :
  Acts prog 118 #[.slice p n c,.slice q m e] V fun r V'=>∃p1 n1 c1,r=.slice p1 n1 c1/\RN V' p1 n1 c1 (Nat.gcd x y):=by
 have M:=hx.len
 have Au:=hy.len
 refine wS p n c q m e V _ fun N u=>(kf (hx.le u) (by omega)).mono ?_
 rintro r V2 C rfl
 rw [ab]
 refine ⟨_,_,rfl,fun z V'=>True,⟨fun A=>?_,fun A=>⟨(),by (try dsimp only);and_intros<;>first|exact True.intro|rfl,trivial⟩⟩,?_⟩
 ·have A:n<=2:=by simpa using A
  refine fun V3 O=>(kf (hy.le (u.trans (C.trans O))) (by omega)).mono ?_
  rintro r V4 l4 rfl
  rw [ab]
  refine ⟨_,_,rfl,fun j=>?_,fun j=>⟨(),by (try dsimp only);and_intros<;>first|exact True.intro|rfl,trivial⟩⟩
  have j:m<=2:=by simpa using j
  have D:=pA (x:=x) (by omega)
  have P:=pA (x:=y) (by omega)
  rw [if_pos A,if_pos j]
  refine ⟨fun z V'=>∃a b:Nat,z=((a:Int),(b:Int))/\a<18446744073709551616/\b<18446744073709551616/\Nat.gcd a b=Nat.gcd x y,fun z=>z.2.toNat,
   ⟨((x:Int),(y:Int)),by (try dsimp only);and_intros<;>first|exact True.intro|rfl,x,y,rfl,D,P,rfl⟩,?_⟩
  rintro _ V5 l5 ⟨a,b,rfl,t,g,l⟩
  dsimp only
  refine ⟨by trivial,fun f=>?_,fun f=>?_⟩
  ·have f:0<b:=by simpa using f
   have Q:(a:Int).tmod (b:Int)=((a%b:Nat):Int):=by rw [Int.tmod_eq_emod_of_nonneg (by omega)];omega
   have B:a%b<b:=Nat.mod_lt _ f
   refine ⟨by omega,((b:Int),((a%b:Nat):Int)),?_,by (try dsimp only);and_intros<;>first|exact True.intro|rfl|exact Q,b,a%b,rfl,g,by omega,?_⟩
   ·(try dsimp only);simp only [Int.toNat_natCast];exact B
   ·rw [←l,Nat.gcd_comm a b,Nat.gcd_rec b a,Nat.gcd_comm]
  ·have f:b=0:=by simp at f;omega
   subst f
   rw [Nat.gcd_zero_right] at l
   refine fun V6 l6=>(dk a t).mono ?_
   rintro r V7 l7 ⟨p1,n1,c1,rfl,E⟩
   rw [l] at E
   exact ⟨_,_,_,rfl,fun V8 R=>⟨_,_,_,rfl,E.le R⟩⟩
 rintro _ V9 K _
 replace hx:=hx.le (u.trans (C.trans K))
 replace hy:=hy.le (u.trans (C.trans K))
 refine ⟨by trivial,fun z k V'=>∃a b:Nat,RN V' z.1 z.2.1 z.2.2.1 a/\RN V' z.2.2.2.1 z.2.2.2.2.1 z.2.2.2.2.2 b/\b=k/\(af a).length<=274877906944/\(af b).length<=274877906944/\Nat.gcd a b=Nat.gcd x y,
  ⟨(p,n,c,q,m,e),y,by (try dsimp only);and_intros<;>first|exact True.intro|rfl,x,y,hx,hy,rfl,hm,hm',rfl⟩,?_⟩
 rintro ⟨ap,an,ac,S,F,T⟩ _ U W ⟨a,b,t,g,rfl,G,w,l⟩
 dsimp only at t g ⊢
 have o:=t.len
 have H:=g.len
 refine ⟨by trivial,fun f=>?_,fun f=>?_⟩
 ·have f:0<F:=by simpa using f
  have i:0<b:=by
   rcases Nat.eq_zero_or_pos b with h|h
   ·subst h;simp at H;omega
   ·exact h
  refine fun X s=>(dB (t.le s) (g.le s) G w i).mono ?_
  rintro r Y I ⟨p1,n1,c1,Z,n2,c2,rfl,E,g2⟩
  have B:a%b<b:=Nat.mod_lt _ i
  have a0:=aB (Nat.le_of_lt B)
  refine ⟨_,_,_,_,_,_,rfl,(S,F,T,Z,n2,c2),a%b,B,by (try dsimp only);and_intros<;>first|exact True.intro|rfl,b,a%b,g.le (s.trans I),g2,rfl,w,by omega,?_⟩
  rw [←l,Nat.gcd_comm a b,Nat.gcd_rec b a,Nat.gcd_comm]
 ·have f:F=0:=by simp at f;omega
  have i:b=0:=bf.1 (List.length_eq_zero_iff.1 (by omega))
  subst i
  rw [Nat.gcd_zero_right] at l
  rw [←l]
  refine ⟨ay (af a),t.sl,by simp [o],by omega,by omega,by simp,by simp [o],?_,?_⟩
  ·intro v L
   simp only [ay,List.mem_map] at L
   obtain ⟨d,-,rfl⟩:=L
   rfl
  ·intro bk J sp c' j h2 N u b g
   refine ⟨_,_,_,rfl,?_⟩
   simp only [Nat.zero_add,Nat.zero_mul,List.take_zero,List.nil_append] at g j ⊢
   exact copied (ax a) o j g
theorem eC {V:View}(b:Bool){p:OA}{n c x:Nat}(h:RN V p n c x) :
  Acts prog 69 #[.bool b,.slice p n c] V fun r V'=>RI V' r (if b then -(x:Int) else x):=by
 have f:=fg h.len
 refine CO b p n c V _ ⟨fun a e d=>?_,fun a e d=>?_⟩
 ·rw [if_pos a]
  refine RI.mk ?_ ?_
  ·rw [Bool.eq_iff_iff,decide_eq_true_eq,decide_eq_true_eq]
   omega
  ·rw [Int.natAbs_neg,Int.natAbs_natCast];exact h.le d
 ·rw [a,if_neg (by decide)]
  refine RI.mk ?_ ?_
  ·symm;rw [decide_eq_false_iff_not];omega
  ·rw [Int.natAbs_natCast];exact h.le d
theorem il {V:View}{b:Bool}{p:OA}{n c x:Nat}{z:Int}(h:RN V p n c x)(hz:(if b then -(x:Int) else x)=z) :
  Acts prog 69 #[.bool b,.slice p n c] V fun r V'=>∃(GQ:Bool)(Ij:OA)(H2 GY:Nat),r=.agg #[.bool GQ,.slice Ij H2 GY]/\∀V3:View,V'.Le V3->RI V3 (.agg #[.bool GQ,.slice Ij H2 GY]) z:=by
 refine (eC b h).mono ?_
 rintro r V2 d ⟨e,f,i,rfl,g⟩
 rw [hz] at g ⊢
 exact ⟨_,_,_,_,rfl,fun V3 a=>⟨_,_,_,rfl,g.le a⟩⟩
theorem Fx {V:View}(n:Int)(h0:-9223372036854775808<=n)(h1:n<=9223372036854775807) :
  Acts prog 120 #[.int .i64 n] V fun r V'=>RI V' r n:=by
 refine El n V _ ⟨fun a d f=>?_,fun a d f=>?_⟩
 ·have a:n<0:=by simpa using a
  have e:u64.wrap (0-u64.wrap n)=((-n).toNat:Int):=by rw [qo,qo];omega
  rw [e]
  refine (dk _ (by omega)).mono ?_
  rintro r V2 g ⟨h,i,j,rfl,b⟩
  exact ⟨_,_,_,rfl,fun k c=>il (b.le c) (by simp;omega)⟩
 ·have a:0<=n:=by simpa using a
  have e:u64.wrap n=(n.toNat:Int):=by rw [aH (by omega)];omega
  rw [e]
  refine (dk _ (by omega)).mono ?_
  rintro r V2 g ⟨h,i,j,rfl,b⟩
  exact ⟨_,_,_,rfl,fun k c=>il (b.le c) (by simp;omega)⟩
theorem fD {V:View}(z:Int){p:OA}{n c:Nat}(h:RN V p n c z.natAbs) :
  Acts prog 79 #[.agg #[.bool (decide (z<0)),.slice p n c]] V fun r V'=>r=.int .i64 z.sign:=by
 have f:=fg h.len
 refine CR _ p n c V _ ⟨fun b d e=>?_,fun b=>⟨fun a d e=>?_,fun a d e=>?_⟩⟩
 ·have:z=0:=by simp at b;omega
  rw [this];rfl
 ·rw [decide_eq_true_eq] at a
  rw [Int.sign_eq_neg_one_of_neg a]
 ·rw [decide_eq_false_iff_not] at a
  have:0<z:=by simp at b;omega
  rw [Int.sign_eq_one_of_pos this]
theorem fP {V:View}(z:Int){p:OA}{n c:Nat}(h:RN V p n c z.natAbs) :
  Acts prog 100 #[.agg #[.bool (decide (z<0)),.slice p n c]] V fun r V'=>RI V' r (-z):=by
 refine Ac _ p n c V _ fun d a=>il (h.le a) ?_
 by_cases b:z<0<;>simp [b]<;>omega
theorem jA {V:View}(z w:Int){p q:OA}{n c m e:Nat}(ha:RN V p n c z.natAbs)(hb:RN V q m e w.natAbs)(hm:(af z.natAbs).length+(af w.natAbs).length<=1099511627776) :
  Acts prog 114 #[.agg #[.bool (decide (z<0)),.slice p n c],.agg #[.bool (decide (w<0)),.slice q m e]] V fun r V'=>RI V' r (z*w):=by
 refine En _ p n c _ q m e V _ fun h a=>(bX (ha.le a) (hb.le a) hm).mono ?_
 rintro r V2 i ⟨j,k,l,rfl,b⟩
 rw [ab,ab] at b
 refine ⟨_,_,_,rfl,fun o d=>il (b.le d) ?_⟩
 have f:z=aO (decide (z<0)) (af z.natAbs):=(aA z).symm
 have g:w=aO (decide (w<0)) (af w.natAbs):=(aA w).symm
 conv=>rhs;rw [f,g]
 unfold aO
 rw [ab,ab]
 cases decide (z<0)<;>cases decide (w<0)<;>simp [Int.neg_mul,Int.mul_neg]
theorem pL {V:View}(z w:Int){p q:OA}{n c m e:Nat}(ha:RN V p n c z.natAbs)(hb:RN V q m e w.natAbs)(hm:(af z.natAbs).length<=1099511627776)(hn:(af w.natAbs).length<=1099511627776) :
  Acts prog 112 #[.agg #[.bool (decide (z<0)),.slice p n c],.agg #[.bool (decide (w<0)),.slice q m e]] V fun r V'=>RI V' r (z+w):=by
 refine Ei _ p n c _ q m e V _ ⟨fun i t a=>(Fz (ha.le a) (hb.le a) hm hn).mono ?_,fun i t a=>(gO (ha.le a) (hb.le a) hm hn).mono ?_⟩
 ·rintro r V2 g ⟨k,l,o,rfl,b⟩
  rw [ab,ab] at b
  refine ⟨_,_,_,rfl,fun s d=>il (b.le d) ?_⟩
  by_cases h:z<0<;>by_cases hw:w<0<;>simp [h,hw] at i⊢<;> omega
 ·rintro r V2 g rfl
  refine ⟨_,rfl,fun f s d=>?_,fun f s d=>?_⟩
  ·have f:z.natAbs<w.natAbs:=by simpa [eZ] using f
   refine (mT (hb.le (a.trans (g.trans d))) (ha.le (a.trans (g.trans d))) hn (aB (Nat.le_of_lt f)) (by rw [ab,ab];omega)).mono ?_
   rintro r u v ⟨k,l,o,rfl,b⟩
   rw [ab,ab] at b
   refine ⟨_,_,_,rfl,fun x j=>il (b.le j) ?_⟩
   by_cases h:z<0<;>by_cases hw:w<0<;>simp [h,hw] at i⊢<;> omega
  ·have f:w.natAbs<=z.natAbs:=by simpa [←Int.not_lt,eZ] using f
   refine (mT (ha.le (a.trans (g.trans d))) (hb.le (a.trans (g.trans d))) hm (aB f) (by rw [ab,ab];omega)).mono ?_
   rintro r u v ⟨k,l,o,rfl,b⟩
   rw [ab,ab] at b
   refine ⟨_,_,_,rfl,fun x j=>il (b.le j) ?_⟩
   by_cases h:z<0<;>by_cases hw:w<0<;>simp [h,hw] at i⊢<;> omega
end Go.Proofs.Tryz
namespace Go.Eng
open Go.Big
def rR (d:Nat):List Nat:=if d=1 then [] else af d
def RQ (V:View)(v:Value)(q:Rat):Prop:=∃p n c p' n' c',v=.agg #[.bool (decide (q.num<0)),.slice p n c,.slice p' n' c'] /\
 RD V p n c (af q.num.natAbs)/\RD V p' n' c' (rR q.den)
theorem RQ.le {V V':View}{v:Value}{q:Rat}(h:RQ V v q)(l:V.Le V'):RQ V' v q:=by
 obtain ⟨p,n,c,a,b,d,e,f,g⟩:=h
 exact ⟨p,n,c,a,b,d,e,f.le l,g.le l⟩
theorem Ba {q:Rat}:rR q.den=[]↔q.den=1:=by
 unfold rR
 split
 ·rename_i h;simp [h]
 ·rename_i h
  rw [bf]
  have:=q.den_nz
  omega
end Go.Eng
namespace Go.Proofs.Tryz
open Go.Eng Go.Big
theorem kV {V:View}{q:Rat}{p:OA}{n c:Nat}(h:RD V p n c (rR q.den)):n=0↔q.den=1:=by
 rw [←Ba,h.len,List.length_eq_zero_iff]
theorem cg {V:View}(q:Rat){p p':OA}{n c n' c':Nat}(b:Bool)(h2:RD V p' n' c' (rR q.den)) :
  Acts prog 68 #[.agg #[.bool b,.slice p n c,.slice p' n' c']] V fun r V'=>∃p1 n1 c1,r=.slice p1 n1 c1/\RN V' p1 n1 c1 q.den:=by
 have d:=kV h2
 refine Ek b p n c p' n' c' V _ ⟨fun a h f=>lY.mono ?_,fun a h f=>⟨_,_,_,rfl,?_⟩⟩
 ·rintro r V2 j ⟨p1,n1,c1,rfl,g⟩
  have:q.den=1:=d.1 (by simp at a;omega)
  rw [this]
  exact ⟨_,_,_,rfl,fun k i=>⟨_,_,_,rfl,g.le i⟩⟩
 ·have:q.den≠1:=fun e=>by have:=d.2 e;simp at a;omega
  unfold rR at h2
  rw [if_neg this] at h2
  exact h2.le f
theorem mH {V:View}{q:Rat}{z:Int}{d:Nat}{p p':OA}{n c n' c':Nat}(hn:q.num=z)(hd:q.den=d)(h1:RD V p n c (af z.natAbs))(h2:RD V p' n' c' (rR d)){b:Bool}(hb:b=decide (z<0)) :
  RQ V (.agg #[.bool b,.slice p n c,.slice p' n' c']) q:=by
 subst hn hd hb
 exact ⟨_,_,_,_,_,_,rfl,h1,h2⟩
theorem mS {V:View}(z:Int){d:Nat}{p q:OA}{n c m e:Nat}(hx:RN V p n c z.natAbs)(hy:RN V q m e d)(hm:(af z.natAbs).length<=274877906944)(hn:(af d).length<=274877906944)(hd:d≠0) :
  Acts prog 113 #[.agg #[.bool (decide (z<0)),.slice p n c],.slice q m e] V fun r V'=>RQ V' r (mkRat z d):=by
 refine CJ _ p n c q m e V _ fun V1 C=>(kd (hx.le C) (hy.le C) hm hn).mono ?_
 rintro r V2 X ⟨p1,n1,c1,rfl,j⟩
 have J:=Nat.gcd_dvd_right z.natAbs d
 have K:=Nat.gcd_dvd_left z.natAbs d
 have L:0<Nat.gcd z.natAbs d:=Nat.gcd_pos_of_pos_right _ (by omega)
 have l:(af (Nat.gcd z.natAbs d)).length<=274877906944:=Nat.le_trans (aB (Nat.le_of_dvd (by omega) J)) hn
 have M:(mkRat z d).num=z / (Nat.gcd d z.natAbs:Nat):=by rw [Rat.num_mkRat,if_neg hd]
 have a:(mkRat z d).den=d / Nat.gcd d z.natAbs:=by rw [Rat.den_mkRat,if_neg hd]
 rw [Nat.gcd_comm d] at M a
 generalize hG:Nat.gcd z.natAbs d=g at *
 generalize mkRat z d=w at *
 refine ⟨_,_,_,rfl,fun V3 D=>lY.mono ?_⟩
 rintro r V4 E ⟨p2,n2,c2,rfl,h1⟩
 refine ⟨_,_,_,rfl,fun V5 o=>(gO (j.le (D.trans (E.trans o))) (h1.le o) (by omega) (by decide)).mono ?_⟩
 rintro r V6 N rfl
 replace hx:=hx.le (C.trans (X.trans (D.trans (E.trans (o.trans N)))))
 replace hy:=hy.le (C.trans (X.trans (D.trans (E.trans (o.trans N)))))
 replace j:=j.le (D.trans (E.trans (o.trans N)))
 refine ⟨_,rfl,fun Y V7 F=>(dB (hx.le F) (j.le F) hm l L).mono ?_,fun Y sZ G=>lY.mono ?_⟩
 ·rintro r V8 Z ⟨p4,n4,c4,p5,n5,c5,rfl,g1,-⟩
  have a0:(mkRat z d).num.natAbs=(mkRat z d).num.natAbs:=rfl
  obtain ⟨k,O⟩:=K
  have P:z.natAbs / g=k:=by rw [O,Nat.mul_div_cancel_left _ L]
  rw [P] at g1
  have hz:z=(g:Int)*(if z<0 then -(k:Int) else k):=by
   split
   ·rw [Int.mul_neg,←Int.natCast_mul,←O];omega
   ·rw [←Int.natCast_mul,←O];omega
  have b:w.num=(if z<0 then -(k:Int) else k):=by
   rw [M]
   generalize (if z<0 then -(k:Int) else k)=t at *
   rw [hz,Int.mul_ediv_cancel_left _ (by omega)]
  refine ⟨_,_,_,_,_,_,rfl,fun V9 Q=>(eC _ (g1.le Q)).mono ?_⟩
  have R7:(if decide (z<0)=true then -(k:Int) else k)=w.num:=by
   rw [b];simp
  rw [R7]
  rintro r a1 s ⟨p7,n7,c7,rfl,g2⟩
  refine ⟨_,_,_,_,rfl,fun a2 f=>(dB (hy.le (F.trans (Z.trans (Q.trans (s.trans f))))) (j.le (F.trans (Z.trans (Q.trans (s.trans f))))) hn l L).mono ?_⟩
  rintro r a3 u ⟨p8,n8,c8,p9,n9,c9,rfl,R,-⟩
  rw [←a] at R
  refine ⟨_,_,_,_,_,_,rfl,fun a4 h=>lY.mono ?_⟩
  rintro r a5 H ⟨NT,a6,a7,rfl,S⟩
  have a8:(af w.den).length<=274877906944:=by rw [a];exact Nat.le_trans (aB (Nat.div_le_self _ _)) hn
  refine ⟨_,_,_,rfl,fun a9 v=>(gO (R.le (h.trans (H.trans v))) (S.le v) (by omega) (by decide)).mono ?_⟩
  rintro r lW T rfl
  refine ⟨_,rfl,fun i nQ U=>mH rfl rfl (g2.le (f.trans (u.trans (h.trans (H.trans (v.trans (T.trans U))))))) ?_ rfl,fun i qG x=>mH rfl rfl (g2.le (f.trans (u.trans (h.trans (H.trans (v.trans (T.trans x))))))) ?_ rfl⟩
  ·have:w.den=1:=jD.1 (by simpa using i)
   rw [Ba.2 this];exact RD.nil
  ·have:w.den≠1:=fun e=>by rw [jD.2 e] at i;simp at i
   unfold rR
   rw [if_neg this]
   exact R.le (h.trans (H.trans (v.trans (T.trans x))))
 ·have y:g=1:=jD.1 (by simpa using Y)
  have b:w.num=z:=by rw [M,y];simp
  have A:w.den=d:=by rw [a,y];simp
  rintro r C3 I ⟨Zu,b0,b5,rfl,S⟩
  refine ⟨_,_,_,rfl,fun vS B=>(gO (hy.le (G.trans (I.trans B))) (S.le B) (by omega) (by decide)).mono ?_⟩
  rintro r yA W rfl
  refine ⟨_,rfl,fun i nQ U=>mH b A (hx.le (G.trans (I.trans (B.trans (W.trans U))))) ?_ rfl,fun i qG x=>mH b A (hx.le (G.trans (I.trans (B.trans (W.trans x))))) ?_ rfl⟩
  ·have:d=1:=jD.1 (by simpa using i)
   unfold rR
   rw [if_pos this];exact RD.nil
  ·have:d≠1:=fun e=>by rw [jD.2 e] at i;simp at i
   unfold rR
   rw [if_neg this]
   exact hy.le (G.trans (I.trans (B.trans (W.trans x))))
theorem h_ {V:View}(n:Int)(h0:-9223372036854775808<=n)(h1:n<=9223372036854775807) :
  Acts prog 71 #[.int .i64 n] V fun r V'=>RQ V' r (n:Rat):=by
 refine Gv n V _ fun b e=>(Fx n h0 h1).mono ?_
 rintro r V2 f ⟨p,m,c,rfl,g⟩
 exact ⟨_,_,_,_,rfl,fun h a=>mH (z:=n) (d:=1) rfl rfl (g.le a) RD.nil rfl⟩
theorem ED {V:View}(q:Rat){p p':OA}{n c n' c':Nat}(h1:RD V p n c (af q.num.natAbs)) :
  Acts prog 103 #[.agg #[.bool (decide (q.num<0)),.slice p n c,.slice p' n' c']] V fun r V'=>r=.int .i64 q.num.sign:=by
 refine I7 _ p n c p' n' c' V _ fun b a=>(fD q.num (h1.le a)).mono ?_
 rintro r V2 d rfl
 exact ⟨_,rfl,fun e f=>rfl⟩
theorem lZ {V:View}(q:Rat){p p':OA}{n c n' c':Nat}(h1:RD V p n c (af q.num.natAbs))(h2:RD V p' n' c' (rR q.den)) :
  Acts prog 64 #[.agg #[.bool (decide (q.num<0)),.slice p n c,.slice p' n' c']] V fun r V'=>RQ V' r (-q):=by
 refine Ep _ p n c p' n' c' V _ fun f a=>(fP q.num (h1.le a)).mono ?_
 rintro r V2 e ⟨h,i,j,rfl,g⟩
 exact ⟨_,_,_,_,rfl,fun k b=>mH (q:=-q) (z:=-q.num) (d:=q.den) (by rfl) (by rfl) (g.le b) ((h2.le a).le (e.trans b)) rfl⟩
theorem pM {V:View}{p:OA}{n c x:Nat}(h:RN V p n c x) :
  Acts prog 69 #[.bool false,.slice p n c] V fun r V'=>RI V' r (x:Int):=by
 have:=eC false h
 rwa [if_neg (by decide)] at this
theorem bY {x:Rat}{k:Nat}(h:Sz k x):(af x.num.natAbs).length<=k/\(af x.den).length<=k/\(af (x.den:Int).natAbs).length<=k:=⟨ae h.1,ae h.2,ae h.2⟩
theorem dj {V:View}{v w:Value}{x y:Rat}(hx:RQ V v x)(hy:RQ V w y){k m:Nat}(hk:Sz k x)(hm:Sz m y)(hkm:k+m<274877906944) :
  Acts prog 65 #[v,w] V fun r V'=>RQ V' r (x+y):=by
 obtain ⟨p,n,c,p',n',c',rfl,j,b⟩:=hx
 obtain ⟨q,i,e,q',i',e',rfl,l,f⟩:=hy
 have D:=kV b
 have Au:=kV f
 obtain ⟨b1,b2,b3,b4⟩:=s_ hk hm
 obtain ⟨d1,d2,d3⟩:=bY hk
 obtain ⟨d4,d5,d6⟩:=bY hm
 have o:x+y=mkRat (x.num*y.den+y.num*x.den) (x.den*y.den):=Rat.add_def' x y
 refine (fun tail=>CQ _ p n c p' n' c' _ q i e q' i' e' V _ ⟨fun E=>⟨fun F V1 s=>?_,fun _=>tail⟩,fun _=>tail⟩) ?_
 ·clear tail
  have E:x.den=1:=D.1 (by simp at E;omega)
  have F:y.den=1:=Au.1 (by simp at F;omega)
  refine (pL x.num y.num (j.le s) (l.le s) (by omega) (by omega)).mono ?_
  rintro r V2 S ⟨p2,n2,c2,rfl,g⟩
  have e1:x+y=((x.num+y.num:Int):Rat):=by
   rw [o,E,F];simp [Rat.mkRat_one]
  rw [e1]
  exact ⟨_,_,_,_,rfl,fun V3 C=>mH (z:=x.num+y.num) (d:=1) rfl rfl (g.le C) RD.nil rfl⟩
 ·intro V1 s
  refine (cg y _ (f.le s)).mono ?_
  rintro r V2 S ⟨p1,n1,c1,rfl,g1⟩
  refine ⟨_,_,_,rfl,fun V3 C=>(pM (g1.le C)).mono ?_⟩
  rintro r V4 l4 ⟨p3,n3,c3,rfl,g3⟩
  have t:=s.trans (S.trans (C.trans l4))
  refine ⟨_,_,_,_,rfl,fun V5 G=>(jA x.num y.den (j.le (t.trans G)) (g3.le G) (by omega)).mono ?_⟩
  rintro r V6 l6 ⟨p5,n5,c5,rfl,g5⟩
  have T:=t.trans (G.trans l6)
  refine ⟨_,_,_,_,rfl,fun V7 H=>(cg x _ (b.le (T.trans H))).mono ?_⟩
  rintro r V8 U ⟨p7,n7,c7,rfl,g7⟩
  have NP:=T.trans (H.trans U)
  refine ⟨_,_,_,rfl,fun V9 I=>(pM (g7.le I)).mono ?_⟩
  rintro r a0 u ⟨p9,n9,c9,rfl,g9⟩
  have W:=NP.trans (I.trans u)
  refine ⟨_,_,_,_,rfl,fun a1 a=>(jA y.num x.den (l.le (W.trans a)) (g9.le a) (by omega)).mono ?_⟩
  rintro r a2 A ⟨SZ,a3,a4,rfl,J⟩
  have JW:=W.trans (a.trans A)
  refine ⟨_,_,_,_,rfl,fun a5 h=>(pL _ _ (g5.le (H.trans (U.trans (I.trans (u.trans (a.trans (A.trans h))))))) (J.le h) (Nat.le_trans (ae b1) (by omega)) (Nat.le_trans (ae b2) (by omega))).mono ?_⟩
  rintro r a6 dL ⟨Zv,a7,a8,rfl,K⟩
  have X:=JW.trans (h.trans dL)
  refine ⟨_,_,_,_,rfl,fun a9 L=>(cg x _ (b.le (X.trans L))).mono ?_⟩
  rintro r lW Y ⟨Zw,b0,b5,rfl,M⟩
  have FU:=X.trans (L.trans Y)
  refine ⟨_,_,_,rfl,fun nQ N=>(cg y _ (f.le (FU.trans N))).mono ?_⟩
  rintro r qG Z ⟨Zx,b6,b7,rfl,O⟩
  refine ⟨_,_,_,rfl,fun sZ P=>(bX (M.le (N.trans (Z.trans P))) (O.le P) (by omega)).mono ?_⟩
  rintro r C3 jg ⟨Zy,b8,b9,rfl,B⟩
  rw [ab,ab] at B
  refine ⟨_,_,_,rfl,fun vS gj=>(mS _ (K.le (L.trans (Y.trans (N.trans (Z.trans (P.trans (jg.trans gj))))))) (B.le gj) (Nat.le_trans (ae b3) (by omega)) (Nat.le_trans (ae b4) (by omega)) (Nat.mul_ne_zero x.den_nz y.den_nz)).mono ?_⟩
  rw [o]
  rintro r yA kJ ⟨Vz,c0,c4,VA,c6,Um,rfl,Q,R⟩
  exact ⟨_,_,_,_,_,_,_,rfl,fun xj gS=>⟨_,_,_,_,_,_,rfl,Q.le gS,R.le gS⟩⟩
theorem jB {V:View}{v w:Value}{x y:Rat}(hx:RQ V v x)(hy:RQ V w y){k m:Nat}(hk:Sz k x)(hm:Sz m y)(hkm:k+m<274877906944) :
  Acts prog 102 #[v,w] V fun r V'=>RQ V' r (x-y):=by
 have a:=hx
 obtain ⟨p,n,c,l,o,s,rfl,t,u⟩:=hx
 obtain ⟨q,i,e,z,A,B,rfl,b,d⟩:=hy
 refine Er _ p n c l o s _ q i e z A B V _ fun F f=>(lZ y (b.le f) (d.le f)).mono ?_
 rintro r V2 C g
 obtain ⟨G,H,I,J,K,L,rfl,M,N⟩:=id g
 refine ⟨_,_,_,_,_,_,_,rfl,fun O h=>(dj (a.le (f.trans (C.trans h))) (g.le h) hk hm.neg hkm).mono ?_⟩
 rw [←Rat.sub_eq_add_neg]
 rintro r P Q ⟨R,S,T,U,W,X,rfl,D,E⟩
 exact ⟨_,_,_,_,_,_,_,rfl,fun Y j=>⟨_,_,_,_,_,_,rfl,D.le j,E.le j⟩⟩
theorem sJ {V:View}{v w:Value}{x y:Rat}(hx:RQ V v x)(hy:RQ V w y){k m:Nat}(hk:Sz k x)(hm:Sz m y)(hkm:k+m<274877906944) :
  Acts prog 130 #[v,w] V fun r V'=>r=.int .i64 (fE x y):=by
 have a:=hx
 have b:=hy
 obtain ⟨p,n,c,f,g,h,rfl,j,l⟩:=hx
 obtain ⟨q,i,e,o,s,t,rfl,u,z⟩:=hy
 refine I6 _ p n c f g h _ q i e o s t V _ fun C d=>(jB (a.le d) (b.le d) hk hm hkm).mono ?_
 rintro r V2 D ⟨E,F,G,H,I,J,rfl,A,K⟩
 refine ⟨_,_,_,_,_,_,_,rfl,fun L B=>(ED (x-y) (A.le B)).mono ?_⟩
 rintro r M N rfl
 exact ⟨_,rfl,fun O P=>rfl⟩
theorem aN {V:View}{v w:Value}{x y:Rat}(hx:RQ V v x)(hy:RQ V w y){k m:Nat}(hk:Sz k x)(hm:Sz m y)(hkm:k+m<274877906944) :
  Acts prog 66 #[v,w] V fun r V'=>RQ V' r (x*y):=by
 obtain ⟨p,n,c,K,L,M,rfl,b,f⟩:=hx
 obtain ⟨q,i,e,N,O,P,rfl,h,j⟩:=hy
 have s:=kV f
 have Q:=kV j
 obtain ⟨d1,d2,d3⟩:=bY hk
 obtain ⟨d4,d5,d6⟩:=bY hm
 have l:x*y=mkRat (x.num*y.num) (x.den*y.den):=Rat.mul_def' x y
 have b1:(x.num*y.num).natAbs<2^(k+m):=by rw [Int.natAbs_mul];exact bo hk.1 hm.1
 have b2:x.den*y.den<2^(k+m):=bo hk.2 hm.2
 refine (fun tail=>Ae _ p n c K L M _ q i e N O P V _ ⟨fun t=>⟨fun u R a=>?_,fun _=>tail⟩,fun _=>tail⟩) ?_
 ·clear tail
  have t:x.den=1:=s.1 (by simp at t;omega)
  have u:y.den=1:=Q.1 (by simp at u;omega)
  refine (jA x.num y.num (b.le a) (h.le a) (by omega)).mono ?_
  rintro r V2 A ⟨S,T,U,rfl,g⟩
  have W:x*y=((x.num*y.num:Int):Rat):=by
   rw [l,t,u];simp [Rat.mkRat_one]
  rw [W]
  exact ⟨_,_,_,_,rfl,fun X o=>mH (z:=x.num*y.num) (d:=1) rfl rfl (g.le o) RD.nil rfl⟩
 ·intro R a
  refine (jA x.num y.num (b.le a) (h.le a) (by omega)).mono ?_
  rintro r V2 A ⟨S,T,U,rfl,Y⟩
  refine ⟨_,_,_,_,rfl,fun X o=>(cg x _ (f.le (a.trans (A.trans o)))).mono ?_⟩
  rintro r V4 F ⟨p4,n4,c4,rfl,Z⟩
  refine ⟨_,_,_,rfl,fun V5 B=>(cg y _ (j.le (a.trans (A.trans (o.trans (F.trans B)))))).mono ?_⟩
  rintro r V6 G ⟨p6,n6,c6,rfl,g6⟩
  refine ⟨_,_,_,rfl,fun V7 C=>(bX (Z.le (B.trans (G.trans C))) (g6.le C) (by omega)).mono ?_⟩
  rintro r V8 l8 ⟨p8,n8,c8,rfl,H⟩
  rw [ab,ab] at H
  refine ⟨_,_,_,rfl,fun V9 I=>(mS _ (Y.le (o.trans (F.trans (B.trans (G.trans (C.trans (l8.trans I))))))) (H.le I) (Nat.le_trans (ae b1) (by omega)) (Nat.le_trans (ae b2) (by omega)) (Nat.mul_ne_zero x.den_nz y.den_nz)).mono ?_⟩
  rw [l]
  rintro r yA kJ ⟨Vz,a0,a1,VA,a2,Um,rfl,D,E⟩
  exact ⟨_,_,_,_,_,_,_,rfl,fun xj J=>⟨_,_,_,_,_,_,rfl,D.le J,E.le J⟩⟩
end Go.Proofs.Tryz
namespace Go.Eng
open Go.Big
def RP (V:View)(v:Value)(x y:Rat):Prop:=∃p n c p' n' c' q m e q' m' e',v=.agg #[.bool (decide (x.num<0)),.slice p n c,.slice p' n' c',.bool (decide (y.num<0)),.slice q m e,.slice q' m' e'] /\
 RQ V (.agg #[.bool (decide (x.num<0)),.slice p n c,.slice p' n' c']) x/\RQ V (.agg #[.bool (decide (y.num<0)),.slice q m e,.slice q' m' e']) y
theorem RP.le {V V':View}{v:Value}{x y:Rat}(h:RP V v x y)(l:V.Le V'):RP V' v x y:=by
 obtain ⟨p,n,c,a,b,d,q,m,e,f,g,i,rfl,j,k⟩:=h
 exact ⟨p,n,c,a,b,d,q,m,e,f,g,i,rfl,j.le l,k.le l⟩
theorem RQ.shape {V:View}{v:Value}{q:Rat}(h:RQ V v q):∃p n c p' n' c',v=.agg #[.bool (decide (q.num<0)),.slice p n c,.slice p' n' c']:=by
 obtain ⟨p,n,c,p',n',c',e,-⟩:=h;exact ⟨_,_,_,_,_,_,e⟩
end Go.Eng
namespace Go.Proofs.Tryz
open Go.Eng Go.Big
theorem qK {V:View}{p:OA}{n c:Nat}{ds:List Nat}(h:RD V p n c ds)(hm:ds.length<=1099511627776) :
  Acts prog 107 #[.slice p n c] V fun r V'=>∃p1 n1 c1,r=.slice p1 n1 c1/\RD V' p1 n1 c1 ds:=by
 have a:=h.len
 refine Ag p n c V _ ⟨ay ds,h.sl,by simp [a],by omega,by omega,by simp,by simp [a],?_,?_⟩
 ·intro v e
  simp only [ay,List.mem_map] at e
  obtain ⟨d,-,rfl⟩:=e
  rfl
 ·intro i J sp j f k l m b g
  refine ⟨_,_,_,rfl,?_⟩
  simp only [Nat.zero_add,Nat.zero_mul,List.take_zero,List.nil_append] at g f ⊢
  exact copied h.eI a f g
theorem iM {V:View}{v:Value}{z:Int}(h:RI V v z)(hm:(af z.natAbs).length<=1099511627776) :
  Acts prog 72 #[v] V fun r V'=>RI V' r z:=by
 obtain ⟨p,n,c,rfl,h⟩:=h
 refine Af _ p n c V _ fun d a=>(qK (h.le a) hm).mono ?_
 rintro r V2 e ⟨f,i,j,rfl,g⟩
 exact ⟨_,_,_,rfl,fun k b=>⟨_,_,_,rfl,g.le b⟩⟩
theorem tF {V:View}(x y:Int)(h0:-9223372036854775808<=x)(h1:x<=9223372036854775807)(h2:-9223372036854775808<=y)(h3:y<=9223372036854775807) :
  Acts prog 29 #[.int .i64 x,.int .i64 y] V fun r V'=>RP V' r (x:Rat) (y:Rat):=by
 refine CX x y V _ fun h i=>(h_ x h0 h1).mono ?_
 rintro r V2 j a
 obtain ⟨p,n,c,k,l,o,rfl⟩:=a.shape
 refine ⟨_,_,_,_,_,_,_,rfl,fun s f=>(h_ y h2 h3).mono ?_⟩
 rintro r t g b
 obtain ⟨q,m,e,u,v,w,rfl⟩:=b.shape
 exact ⟨_,_,_,_,_,_,_,rfl,fun z d=>⟨_,_,_,_,_,_,_,_,_,_,_,_,rfl,a.le (f.trans (g.trans d)),b.le d⟩⟩
theorem qM {V:View}{u v w:Value}{px py c qx qy:Rat}(hp:RP V u px py)(hc:RQ V v c)(hq:RP V w qx qy){k m:Nat}(s1:Sz k px)(s2:Sz k py)(s3:Sz m c)(s4:Sz m qx)(s5:Sz m qy)(hkm:k+(m+m+1)<274877906944) :
  Acts prog 91 #[u,v,w] V fun r V'=>RP V' r (px+c*qx) (py+c*qy):=by
 obtain ⟨x,y,z,A,B,C,D,E,F,G,H,I,rfl,e,f⟩:=hp
 obtain ⟨J,K,L,M,N,O,rfl⟩:=hc.shape
 obtain ⟨P,Q,R,S,T,U,W,X,Y,Z,m4,e4,rfl,g,h⟩:=hq
 refine Ai _ x y z A B C _ D E F G H I _ J K L M N O _ P Q R S T U _ W X Y Z m4 e4 V _ fun V1 b=>(aN (hc.le b) (g.le b) s3 s4 (by omega)).mono ?_
 rintro r V2 l n
 obtain ⟨a1,a2,a3,a4,a5,a6,rfl⟩:=n.shape
 refine ⟨_,_,_,_,_,_,_,rfl,fun V3 i=>(dj (e.le (b.trans (l.trans i))) (n.le i) s1 (s3.mul s4) (by omega)).mono ?_⟩
 rintro r V4 l4 o
 obtain ⟨b1,b2,b3,b4,b5,b6,rfl⟩:=o.shape
 have a:=b.trans (l.trans (i.trans l4))
 refine ⟨_,_,_,_,_,_,_,rfl,fun V5 d=>(aN (hc.le (a.trans d)) (h.le (a.trans d)) s3 s5 (by omega)).mono ?_⟩
 rintro r V6 p q
 obtain ⟨d1,d2,d3,d4,d5,d6,rfl⟩:=q.shape
 refine ⟨_,_,_,_,_,_,_,rfl,fun V7 j=>(dj (f.le (a.trans (d.trans (p.trans j)))) (q.le j) s2 (s3.mul s5) (by omega)).mono ?_⟩
 rintro r V8 l8 s
 obtain ⟨f1,f2,f3,f4,f5,f6,rfl⟩:=s.shape
 exact ⟨_,_,_,_,_,_,_,rfl,fun V9 t=>⟨_,_,_,_,_,_,_,_,_,_,_,_,rfl,o.le (d.trans (p.trans (j.trans (l8.trans t)))),s.le t⟩⟩
theorem KD:Sz 1 ((-1:Int):Rat):=by unfold Sz;decide
theorem A0 {V:View}{u w:Value}{px py qx qy:Rat}(hp:RP V u px py)(hq:RP V w qx qy){k m:Nat}(s1:Sz k px)(s2:Sz k py)(s4:Sz m qx)(s5:Sz m qy)(hm:1<=m)(hkm:k+(m+m+1)<274877906944) :
  Acts prog 63 #[u,w] V fun r V'=>RP V' r (px-qx) (py-qy):=by
 have e:=hp
 have f:=hq
 obtain ⟨j,l,n,o,p,q,s,t,v,x,y,z,rfl,-,-⟩:=hp
 obtain ⟨A,B,d,C,D,E,F,G,H,I,J,K,rfl,-,-⟩:=hq
 refine An _ j l n o p q _ s t v x y z _ A B d C D E _ F G H I J K V _ fun S L=>(h_ (-1) (by omega) (by omega)).mono ?_
 rintro r V2 M h
 obtain ⟨T,U,W,X,Y,Z,rfl⟩:=h.shape
 have c:=L.trans M
 refine ⟨_,_,_,_,_,_,_,rfl,fun V3 g=>(qM (e.le (c.trans g)) (h.le g) (f.le (c.trans g)) s1 s2 (KD.mono hm) s4 s5 hkm).mono ?_⟩
 have d:∀a b:Rat,a+((-1:Int):Rat)*b=a-b:=by
  intro a b
  have:((-1:Int):Rat)=-1:=rfl
  rw [this,Rat.neg_mul,Rat.one_mul,Rat.sub_eq_add_neg]
 rw [d,d]
 rintro r V4 l4 ⟨b1,b2,b3,b4,b5,b6,b7,b8,b9,N,O,P,rfl,Q,R⟩
 exact ⟨_,_,_,_,_,_,_,_,_,_,_,_,_,_,rfl,fun V5 i=>⟨_,_,_,_,_,_,_,_,_,_,_,_,rfl,Q.le i,R.le i⟩⟩
theorem yS {V:View}{u w:Value}{px py qx qy:Rat}(hp:RP V u px py)(hq:RP V w qx qy){k m:Nat}(s1:Sz k px)(s2:Sz k py)(s4:Sz m qx)(s5:Sz m qy)(hkm:k+m<274877906944) :
  Acts prog 135 #[u,w] V fun r V'=>r=.bool (decide (px=qx/\py=qy)):=by
 obtain ⟨l,n,o,p,q,s,t,v,x,y,z,A,rfl,c,d⟩:=hp
 obtain ⟨B,C,D,E,F,G,H,I,J,K,L,M,rfl,f,g⟩:=hq
 refine wW _ l n o p q s _ t v x y z A _ B C D E F G _ H I J K L M V _ fun O b=>(sJ (c.le b) (f.le b) s1 s4 hkm).mono ?_
 rintro r V2 j rfl
 refine ⟨_,rfl,fun a N i=>(sJ (d.le (b.trans (j.trans i))) (g.le (b.trans (j.trans i))) s2 s5 hkm).mono ?_,fun a N i=>?_⟩
 ·have a:px=qx:=iO.2 (by simpa using a)
  rintro r P Q rfl
  refine ⟨_,rfl,fun R S=>?_⟩
  congr 1
  rw [Bool.eq_iff_iff,decide_eq_true_eq,beq_iff_eq,←iO]
  exact ⟨fun h=>⟨a,h⟩,fun h=>h.2⟩
 ·have a:¬px=qx:=fun e=>by rw [iO.1 e] at a;simp at a
  rw [decide_eq_false fun h=>a h.1]
end Go.Proofs.Tryz
namespace Go.Eng
open Go.Big
def RL (V:View)(v:Value)(a b c:Int):Prop:=∃p n s p' n' s' q m e,v=.agg #[.bool (decide (a<0)),.slice p n s,.bool (decide (b<0)),.slice p' n' s',.bool (decide (c<0)),.slice q m e] /\
 RD V p n s (af a.natAbs)/\RD V p' n' s' (af b.natAbs)/\RD V q m e (af c.natAbs)
theorem RL.le {V V':View}{v:Value}{a b c:Int}(h:RL V v a b c)(l:V.Le V'):RL V' v a b c:=by
 obtain ⟨p,n,s,d,f,g,q,m,e,rfl,i,j,k⟩:=h
 exact ⟨p,n,s,d,f,g,q,m,e,rfl,i.le l,j.le l,k.le l⟩
end Go.Eng
namespace Go.Proofs.Tryz
open Go.Eng Go.Big
theorem A1 {V:View}{v:Value}{a b c:Int}(hx:RL V v a b c)(h1:(af a.natAbs).length<=1099511627776)(h2:(af b.natAbs).length<=1099511627776)(h3:(af c.natAbs).length<=1099511627776) :
  Acts prog 30 #[v] V fun r V'=>RL V' r a b c:=by
 obtain ⟨p,n,s,l,o,t,q,m,e,rfl,u,w,x⟩:=hx
 refine Ao _ p n s _ l o t _ q m e V _ fun B d=>(iM ⟨_,_,_,rfl,u.le d⟩ h1).mono ?_
 rintro r V2 i ⟨C,D,E,rfl,y⟩
 refine ⟨_,_,_,_,rfl,fun F f=>(iM ⟨_,_,_,rfl,w.le (d.trans (i.trans f))⟩ h2).mono ?_⟩
 rintro r G j ⟨H,I,J,rfl,z⟩
 refine ⟨_,_,_,_,rfl,fun K g=>(iM ⟨_,_,_,rfl,x.le (d.trans (i.trans (f.trans (j.trans g))))⟩ h3).mono ?_⟩
 rintro r L k ⟨M,N,O,rfl,A⟩
 exact ⟨_,_,_,_,rfl,fun P h=>⟨_,_,_,_,_,_,_,_,_,rfl,y.le (f.trans (j.trans (g.trans (k.trans h)))),z.le (g.trans (k.trans h)),A.le h⟩⟩
theorem tS {z:Int}{g:Nat}(hg:0<g)(hd:g∣z.natAbs):(if decide (z<0)=true then -((z.natAbs / g:Nat):Int) else ((z.natAbs / g:Nat):Int))=z / (g:Int):=by
 obtain ⟨k,a⟩:=hd
 have b:z.natAbs / g=k:=by rw [a,Nat.mul_div_cancel_left _ hg]
 rw [b]
 have c:z=(g:Int)*(if decide (z<0)=true then -(k:Int) else k):=by
  split
  ·rename_i h
   rw [decide_eq_true_eq] at h
   rw [Int.mul_neg,←Int.natCast_mul,←a];omega
  ·rename_i h
   rw [decide_eq_true_eq] at h
   rw [←Int.natCast_mul,←a];omega
 generalize (if decide (z<0)=true then -(k:Int) else k)=t at *
 rw [c,Int.mul_ediv_cancel_left _ (by omega)]
def ig (a b c:Int):Nat:=Nat.gcd (Nat.gcd a.natAbs b.natAbs) c.natAbs
theorem wa {V:View}{u v w:Value}{a b c:Int}(ha:RI V u a)(hb:RI V v b)(hc:RI V w c)(h1:(af a.natAbs).length<=274877906944)(h2:(af b.natAbs).length<=274877906944)(h3:(af c.natAbs).length<=274877906944) :
  Acts prog 70 #[u,v,w] V fun r V'=>(a=0/\b=0->∃l,r=.tuple #[l,.bool false]/\RL V' l 0 0 0) /\
   (¬(a=0/\b=0)->∃l,r=.tuple #[l,.bool true]/\RL V' l (a / (ig a b c:Int)) (b / (ig a b c:Int)) (c / (ig a b c:Int))):=by
 obtain ⟨p,n,s,rfl,ha⟩:=ha
 obtain ⟨T,U,W,rfl,hb⟩:=hb
 obtain ⟨q,m,e,rfl,hc⟩:=hc
 refine vF _ p n s _ T U W _ q m e V _ fun V1 y=>(kd (ha.le y) (hb.le y) h1 h2).mono ?_
 rintro r V2 N ⟨p1,n1,c1,rfl,O⟩
 have hp:=fg O.len
 have g:Nat.gcd a.natAbs b.natAbs=0↔a=0/\b=0:=by rw [Nat.gcd_eq_zero_iff];omega
 refine ⟨_,_,_,rfl,fun B V3 l3=>⟨fun _=>⟨_,rfl,_,_,_,_,_,_,_,_,_,rfl,RD.nil,RD.nil,RD.nil⟩,fun h=>?_⟩,fun B V4 C=>?_⟩
 ·exact absurd (g.1 (by simp at B;omega)) h
 have D:¬(a=0/\b=0):=fun h=>by have:=g.2 h;simp at B;omega
 have k:0<Nat.gcd a.natAbs b.natAbs:=by have:=g;omega
 have o:(af (Nat.gcd a.natAbs b.natAbs)).length<=274877906944:=by
  rcases Nat.eq_zero_or_pos a.natAbs with h|h
  ·rw [h,Nat.gcd_zero_left];exact h2
  ·exact Nat.le_trans (aB (Nat.gcd_le_left _ h)) h1
 refine (kd (O.le C) (hc.le (y.trans (N.trans C))) o h3).mono ?_
 rintro r V5 X ⟨p2,n2,c2,rfl,z⟩
 have i:=y.trans (N.trans (C.trans X))
 have Y:Nat.gcd (Nat.gcd a.natAbs b.natAbs) c.natAbs=ig a b c:=rfl
 have d:0<ig a b c:=Nat.gcd_pos_of_pos_left _ k
 have E:(af (ig a b c)).length<=274877906944:=Nat.le_trans (aB (Nat.gcd_le_left _ k)) o
 have Z:ig a b c∣a.natAbs:=Nat.dvd_trans (Nat.gcd_dvd_left _ _) (Nat.gcd_dvd_left _ _)
 have db:ig a b c∣b.natAbs:=Nat.dvd_trans (Nat.gcd_dvd_left _ _) (Nat.gcd_dvd_right _ _)
 have dc:ig a b c∣c.natAbs:=Nat.gcd_dvd_right _ _
 have sa:=tS d Z
 have sb:=tS d db
 have sc:=tS d dc
 rw [Y] at z
 generalize ig a b c=G at *
 refine ⟨_,_,_,rfl,fun V6 F=>(dB (ha.le (i.trans F)) (z.le F) h1 E d).mono ?_⟩
 rintro r V7 l7 ⟨p3,n3,c3,p4,n4,c4,rfl,g3,-⟩
 have H:=F.trans l7
 refine ⟨_,_,_,_,_,_,rfl,fun V8 A=>(dB (hb.le (i.trans (H.trans A))) (z.le (H.trans A)) h2 E d).mono ?_⟩
 rintro r V9 P ⟨p5,n5,c5,p6,n6,c6,rfl,g5,-⟩
 have Q:=H.trans (A.trans P)
 refine ⟨_,_,_,_,_,_,rfl,fun a0 f=>(dB (hc.le (i.trans (Q.trans f))) (z.le (Q.trans f)) h3 E d).mono ?_⟩
 rintro r a1 t ⟨p7,n7,c7,p8,n8,c8,rfl,g7,-⟩
 refine ⟨_,_,_,_,_,_,rfl,fun a2 j=>(eC _ (g3.le (A.trans (P.trans (f.trans (t.trans j)))))).mono ?_⟩
 rw [sa]
 rintro r a3 x ⟨p9,n9,c9,rfl,g9⟩
 refine ⟨_,_,_,_,rfl,fun a4 I=>(eC _ (g5.le (f.trans (t.trans (j.trans (x.trans I)))))).mono ?_⟩
 rw [sb]
 rintro r a5 R ⟨NT,a6,a7,rfl,J⟩
 refine ⟨_,_,_,_,rfl,fun lW K=>(eC _ (g7.le (j.trans (x.trans (I.trans (R.trans K)))))).mono ?_⟩
 rw [sc]
 rintro r nQ S ⟨SZ,a8,a9,rfl,L⟩
 refine ⟨_,_,_,_,rfl,fun qG M=>⟨fun h=>absurd h D,fun _=>⟨_,rfl,_,_,_,_,_,_,_,_,_,rfl,?_,?_,?_⟩⟩⟩
 ·exact g9.le (I.trans (R.trans (K.trans (S.trans M))))
 ·exact J.le (K.trans (S.trans M))
 ·exact L.le M
end Go.Proofs.Tryz
namespace Go.Eng
open Go.Big
def rL (V:View)(v:Value)(a b c:Rat):Prop:=∃(x1 x2:Int)(p:OA)(y1 y2:Int)(q:OA)(z1 z2:Int)(r:OA),v=.agg #[.int .i64 x1,.int .i64 x2,.pointer p,.int .i64 y1,.int .i64 y2,.pointer q,.int .i64 z1,.int .i64 z2,.pointer r] /\
 RR V (.agg #[.int .i64 x1,.int .i64 x2,.pointer p]) a/\RR V (.agg #[.int .i64 y1,.int .i64 y2,.pointer q]) b/\RR V (.agg #[.int .i64 z1,.int .i64 z2,.pointer r]) c
def Jk (v:Value):Prop:=∃(x1 x2:Int)(x3:OA)(y1 y2:Int)(y3:OA)(z1 z2:Int)(z3:OA),v=.agg #[.int .i64 x1,.int .i64 x2,.pointer x3,.int .i64 y1,.int .i64 y2,.pointer y3,.int .i64 z1,.int .i64 z2,.pointer z3]
theorem rL.le {V V':View}{v:Value}{a b c:Rat}(h:rL V v a b c)(l:V.Le V'):rL V' v a b c:=by
 obtain ⟨d,e,p,f,g,q,i,j,r,rfl,k,m,n⟩:=h
 exact ⟨d,e,p,f,g,q,i,j,r,rfl,k.le l,m.le l,n.le l⟩
end Go.Eng
namespace Go.Proofs.Tryz
open Go.Eng Go.Big
theorem Ft {V:View}{v:Value}{a b c:Rat}(h:rL V v a b c){k:Nat}(s1:Sz k a)(s2:Sz k b)(s3:Sz k c)(hk:k<=1099511627776) :
  Acts prog 96 #[v] V fun r V'=>RL V' r a.num b.num c.num:=by
 obtain ⟨w,x,p,y,z,q,A,B,r,rfl,m,n,o⟩:=h
 refine wK _ _ _ _ _ _ _ _ _ V _ fun C d=>(eX (m.le d) s1 hk).mono ?_
 rintro r V2 i ⟨D,E,F,rfl,s⟩
 refine ⟨_,_,_,_,rfl,fun G e=>(eX (n.le (d.trans (i.trans e))) s2 hk).mono ?_⟩
 rintro r H j ⟨I,J,K,rfl,t⟩
 refine ⟨_,_,_,_,rfl,fun L f=>(eX (o.le (d.trans (i.trans (e.trans (j.trans f))))) s3 hk).mono ?_⟩
 rintro r M l ⟨N,O,P,rfl,u⟩
 exact ⟨_,_,_,_,rfl,fun Q g=>⟨_,_,_,_,_,_,_,_,_,rfl,s.le (e.trans (j.trans (f.trans (l.trans g)))),t.le (f.trans (l.trans g)),u.le g⟩⟩
def uD (b1:Bool)(xs:List Nat)(b2:Bool)(ys:List Nat)(b3:Bool)(zs:List Nat):Bool:=
 kH b1 xs&&kH b2 ys&&kH b3 zs&&!(decide ((aO b1 xs:Rat)=0)&&decide ((aO b2 ys:Rat)=0))&&decide (fX (fX (aO b1 xs) (aO b2 ys)) (aO b3 zs)=((1:Int):Rat))
theorem qc {V:View}{ok:Bool}{A B C:Rat}(h:ok=false):∃v,Value.tuple #[.agg #[.int .i64 0,.int .i64 0,.pointer none,.int .i64 0,.int .i64 0,.pointer none,.int .i64 0,.int .i64 0,.pointer none],.bool false]=.tuple #[v,.bool ok]/\Jk v/\(ok=true->rL V v A B C):=by
 subst h;exact ⟨_,rfl,⟨_,_,_,_,_,_,_,_,_,rfl⟩,fun h=>nomatch h⟩
theorem I1:Sz 1 ((1:Int):Rat):=by unfold Sz;decide
theorem tD {V:View}(b1 b2 b3:Bool){p q s:OA}{n c m e i j:Nat}{xs ys zs:List Nat}(hx:RD V p n c xs)(hy:RD V q m e ys)(hz:RD V s i j zs)
  (h1:xs.length<=1099511627776)(h2:ys.length<=1099511627776)(h3:zs.length<=1099511627776){k:Nat}(s1:Sz k (aO b1 xs:Rat))(s2:Sz k (aO b2 ys:Rat))(s3:Sz k (aO b3 zs:Rat))(hk:4*k+4<1099511627776) :
  Acts prog 132 #[.agg #[.bool b1,.slice p n c,.bool b2,.slice q m e,.bool b3,.slice s i j]] V fun r V'=>∃v,r=.tuple #[v,.bool (uD b1 xs b2 ys b3 zs)]/\Jk v/\(uD b1 xs b2 ys b3 zs=true->rL V' v (aO b1 xs) (aO b2 ys) (aO b3 zs)):=by
 refine CC _ p n c _ q m e _ s i j V _ fun V1 J=>(fB b1 (hx.le J) h1).mono ?_
 rintro r V2 L rfl
 refine ⟨_,rfl,fun l V3 l3=>qc ?_,fun l V4 M=>(fB b2 (hy.le (J.trans (L.trans M))) h2).mono ?_⟩
 ·have l:kH b1 xs=false:=by simpa using l
  simp [uD,l]
 have l:kH b1 xs=true:=by simpa using l
 rintro r V5 Y rfl
 refine ⟨_,rfl,fun o V6 l6=>qc ?_,fun o V7 Z=>(fB b3 (hz.le (J.trans (L.trans (M.trans (Y.trans Z))))) h3).mono ?_⟩
 ·have o:kH b2 ys=false:=by simpa using o
  simp [uD,o]
 have o:kH b2 ys=true:=by simpa using o
 rintro r V8 l8 rfl
 have NP:=J.trans (L.trans (M.trans (Y.trans (Z.trans l8))))
 refine ⟨_,rfl,fun f0 V9 l9=>qc ?_,fun f0 a0 D=>(j_ b1 (hx.le (NP.trans D)) h1).mono ?_⟩
 ·have f0:kH b3 zs=false:=by simpa using f0
  simp [uD,f0]
 have f0:kH b3 zs=true:=by simpa using f0
 rintro r a1 N t
 obtain ⟨x1,x2,x3,rfl⟩:=t.shape
 have O2:=NP.trans (D.trans N)
 refine ⟨_,_,_,rfl,fun a2 w=>(j_ b2 (hy.le (O2.trans w)) h2).mono ?_⟩
 rintro r a3 E u
 obtain ⟨y1,y2,y3,rfl⟩:=u.shape
 have MC:=O2.trans (w.trans E)
 refine ⟨_,_,_,rfl,fun a4 O=>(j_ b3 (hz.le (MC.trans O)) h3).mono ?_⟩
 rintro r g cX rc
 obtain ⟨z1,z2,z3,rfl⟩:=rc.shape
 replace t:=t.le (w.trans (E.trans (O.trans cX)))
 replace u:=u.le (O.trans cX)
 have F:uD b1 xs b2 ys b3 zs=(!(decide ((aO b1 xs:Rat)=0)&&decide ((aO b2 ys:Rat)=0))&&decide (fX (fX (aO b1 xs) (aO b2 ys)) (aO b3 zs)=((1:Int):Rat))):=by
  simp only [uD,l,o,f0,Bool.true_and]
 rw [F]
 clear F l o f0 hx hy hz
 generalize (aO b1 xs:Rat)=A at *
 generalize (aO b2 ys:Rat)=B at *
 generalize (aO b3 zs:Rat)=C at *
 refine ⟨_,_,_,rfl,fun lW K=>(AP (t.le K)).mono ?_⟩
 rintro r nQ P rfl
 refine ⟨_,rfl,fun t0 qG dU=>(AP (u.le (K.trans (P.trans dU)))).mono ?_,fun t0 Q R=>?_⟩
 ·rintro r sZ dO rfl
  refine ⟨_,rfl,fun S C3 jg=>qc (by rw [t0,S];rfl),fun S Q R=>?_⟩
  have lb:g.Le Q:=K.trans (P.trans (dU.trans (dO.trans R)))
  have T:(decide (A=0)&&decide (B=0))=false:=by rw [S,Bool.and_false]
  rw [T]
  refine (j9 (t.le lb) (u.le lb) s1 s2 (by omega)).mono ?_
  rintro r yA G rg
  obtain ⟨g1,g2,g3,rfl⟩:=rg.shape
  refine ⟨_,_,_,rfl,fun xj x=>(j9 (rg.le x) (rc.le (lb.trans (G.trans x))) (lV s1 s2) s3 (by omega)).mono ?_⟩
  rintro r Jc U H
  obtain ⟨h1,h2,h3,rfl⟩:=H.shape
  refine ⟨_,_,_,rfl,fun GL d=>(gZ 1 (by omega) (by omega)).mono ?_⟩
  rintro r LL f I
  obtain ⟨i1,i2,i3,rfl⟩:=I.shape
  refine ⟨_,_,_,rfl,fun NB a=>(xD (H.le (d.trans (f.trans a))) (I.le a) (lV (lV s1 s2) s3) I1 (by omega)).mono ?_⟩
  rintro r W X rfl
  have y:g.Le W:=lb.trans (G.trans (x.trans (U.trans (d.trans (f.trans (a.trans X))))))
  refine ⟨_,rfl,fun b Ql C0=>qc ?_,fun b LM z=>?_⟩
  ·rw [Bool.not_eq_true'] at b
   rw [b];rfl
  ·have b:decide (fX (fX A B) C=((1:Int):Rat))=true:=by
    cases h:decide (fX (fX A B) C=((1:Int):Rat))
    ·rw [h] at b;cases b
    ·rfl
   rw [b]
   exact ⟨_,rfl,⟨_,_,_,_,_,_,_,_,_,rfl⟩,fun _=>⟨_,_,_,_,_,_,_,_,_,rfl,t.le (y.trans z),u.le (y.trans z),rc.le (y.trans z)⟩⟩
 ·have lb:g.Le Q:=K.trans (P.trans R)
  have T:(decide (A=0)&&decide (B=0))=false:=by rw [t0,Bool.false_and]
  rw [T]
  refine (j9 (t.le lb) (u.le lb) s1 s2 (by omega)).mono ?_
  rintro r yA G rg
  obtain ⟨g1,g2,g3,rfl⟩:=rg.shape
  refine ⟨_,_,_,rfl,fun xj x=>(j9 (rg.le x) (rc.le (lb.trans (G.trans x))) (lV s1 s2) s3 (by omega)).mono ?_⟩
  rintro r Jc U H
  obtain ⟨h1,h2,h3,rfl⟩:=H.shape
  refine ⟨_,_,_,rfl,fun GL d=>(gZ 1 (by omega) (by omega)).mono ?_⟩
  rintro r LL f I
  obtain ⟨i1,i2,i3,rfl⟩:=I.shape
  refine ⟨_,_,_,rfl,fun NB a=>(xD (H.le (d.trans (f.trans a))) (I.le a) (lV (lV s1 s2) s3) I1 (by omega)).mono ?_⟩
  rintro r W X rfl
  have y:g.Le W:=lb.trans (G.trans (x.trans (U.trans (d.trans (f.trans (a.trans X))))))
  refine ⟨_,rfl,fun b Ql C0=>qc ?_,fun b LM z=>?_⟩
  ·rw [Bool.not_eq_true'] at b
   rw [b];rfl
  ·have b:decide (fX (fX A B) C=((1:Int):Rat))=true:=by
    cases h:decide (fX (fX A B) C=((1:Int):Rat))
    ·rw [h] at b;cases b
    ·rfl
   rw [b]
   exact ⟨_,rfl,⟨_,_,_,_,_,_,_,_,_,rfl⟩,fun _=>⟨_,_,_,_,_,_,_,_,_,rfl,t.le (y.trans z),u.le (y.trans z),rc.le (y.trans z)⟩⟩
def Kf:List Int->Int
 | []=>0
 | x::r=>if x=0 then Kf r else x
def My (l:List Int):List Value:=l.map fun x=>Value.int .i64 x
theorem MU {l:List Int}:Kf l=0↔∀x∈l,x=0:=by
 induction l with
 | nil=>simp [Kf]
 | cons x r ih=>
  simp only [Kf,List.mem_cons,forall_eq_or_imp]
  split
  ·rename_i h;simp [h,ih]
  ·rename_i h;simp [h]
theorem G8 {V:View}{p:OA}{n c:Nat}{l:List Int}(hl:n=l.length)(hs:V.sl p (My l))(hm:l.length<=1099511627776) :
  Acts prog 245 #[.slice p n c] V fun r V'=>r=.int .i64 (Kf l):=by
 refine Gu p n c V _ ⟨fun z V'=>0<=z/\z<=n/\Kf l=Kf (l.drop z.toNat),fun z=>n-z.toNat,⟨0,by (try dsimp only);and_intros<;>first|exact True.intro|rfl,by (try dsimp only);omega,by (try dsimp only);omega,rfl⟩,?_⟩
 rintro i m j ⟨e,f,he⟩
 dsimp only at f he ⊢
 obtain ⟨i,rfl⟩:=Int.eq_ofNat_of_zero_le e
 simp only [Int.toNat_natCast] at he
 refine ⟨by trivial,fun b=>?_,fun b o q=>?_⟩
 ·have b:i<n:=by simpa using b
  have d:i<l.length:=by omega
  obtain ⟨k,h,g⟩:=(j.sl hs) i (.int .i64 l[i]) (by simp [My,d])
  rw [List.drop_eq_getElem_cons d,Kf] at he
  refine ⟨by rw [h];rfl,⟨by omega,by omega⟩,l[i],⟨k.add i,by rw [h];simp [addrAdd],g⟩,fun a V2 s=>?_,fun a=>?_⟩
  ·have a:l[i]≠0:=by simpa using a
   rw [if_neg a] at he
   rw [he]
  ·have a:l[i]=0:=by simpa using a
   rw [if_pos a] at he
   have w:i64.wrap ((i:Int)+1)=((i+1:Nat):Int):=by rw [i64w (by omega)];omega
   simp only [w]
   refine ⟨((i+1:Nat):Int),?_,by (try dsimp only);and_intros<;>first|exact True.intro|rfl,by (try dsimp only);omega,by (try dsimp only);omega,?_⟩
   ·(try dsimp only);omega
   ·exact he
 ·have b:i=n:=by simp at b;omega
  rw [List.drop_of_length_le (by omega)] at he
  rw [he];rfl
theorem Fu {V:View}{v w:Value}{a b c a' b' c':Rat}(hx:rL V v a b c)(hy:rL V w a' b' c'){k m:Nat}(s1:Sz k a)(s2:Sz k b)(s3:Sz k c)(t1:Sz m a')(t2:Sz m b')(t3:Sz m c')(hk:k+m<1099511627776) :
  Acts prog 231 #[v,w] V fun r V'=>r=.int .i64 (Kf [fE a a',fE b b',fE c c']):=by
 obtain ⟨A,B,p,C,D,q,E,F,r,rfl,j,n,o⟩:=hx
 obtain ⟨G,H,I,J,K,L,M,N,O,rfl,s,t,u⟩:=hy
 refine wL _ _ _ _ _ _ _ _ _ _ _ _ _ _ _ _ _ _ V _ fun P d=>(j8 (j.le d) (s.le d) s1 t1 hk).mono ?_
 rintro r V2 f rfl
 refine ⟨_,rfl,fun Q g=>(j8 (n.le (d.trans (f.trans g))) (t.le (d.trans (f.trans g))) s2 t2 hk).mono ?_⟩
 rintro r R x rfl
 have e:=d.trans (f.trans (g.trans x))
 refine ⟨_,rfl,fun S h=>(j8 (o.le (e.trans h)) (u.le (e.trans h)) s3 t3 hk).mono ?_⟩
 rintro r T U rfl
 refine ⟨_,rfl,fun W X Y y=>(G8 (l:=[fE a a',fE b b',fE c c']) rfl (fun i v z=>⟨_,rfl,by rw [add_zero'];exact blk_at (xs:=My [fE a a',fE b b',fE c c']) y z⟩) (by simp)).mono ?_⟩
 rintro r Z l8 rfl
 exact ⟨_,rfl,fun _ V9 l9=>rfl⟩
theorem AR {V:View}{v w:Value}{a b c a' b' c':Rat}(hx:rL V v a b c)(hy:rL V w a' b' c'){k m:Nat}(s1:Sz k a)(s2:Sz k b)(s3:Sz k c)(t1:Sz m a')(t2:Sz m b')(t3:Sz m c')(hk:k+m<1099511627776) :
  Acts prog 197 #[v,w] V fun r V'=>r=.bool (decide (a=a'/\b=b'/\c=c')):=by
 have d:=hx
 have e:=hy
 obtain ⟨g,h,p,i,j,q,l,n,r,rfl,-,-,-⟩:=hx
 obtain ⟨o,s,t,u,x,y,z,A,B,rfl,-,-,-⟩:=hy
 refine sj _ _ _ _ _ _ _ _ _ _ _ _ _ _ _ _ _ _ V _ fun C f=>(Fu (d.le f) (e.le f) s1 s2 s3 t1 t2 t3 hk).mono ?_
 rintro r V2 D rfl
 refine ⟨_,rfl,fun E F=>?_⟩
 congr 1
 rw [Bool.eq_iff_iff,decide_eq_true_eq,beq_iff_eq,MU]
 simp [←iO]
def RPt (V:View)(v:Value)(x y:Rat):Prop:=∃(x1 x2:Int)(p:OA)(y1 y2:Int)(q:OA),v=.agg #[.int .i64 x1,.int .i64 x2,.pointer p,.int .i64 y1,.int .i64 y2,.pointer q] /\
 RR V (.agg #[.int .i64 x1,.int .i64 x2,.pointer p]) x/\RR V (.agg #[.int .i64 y1,.int .i64 y2,.pointer q]) y
theorem RPt.le {V V':View}{v:Value}{x y:Rat}(h:RPt V v x y)(l:V.Le V'):RPt V' v x y:=by
 obtain ⟨a,b,p,c,d,q,e,f,g⟩:=h
 exact ⟨a,b,p,c,d,q,e,f.le l,g.le l⟩
theorem yP {V:View}{p:Value}{gG gH:Rat}{q:Value}{oH oI:Rat}(hp:RPt V p gG gH)(hq:RPt V q oH oI){k:Nat}(fj:Sz k gG)(fk:Sz k gH)(ky:Sz k oH)(kz:Sz k oI)(hk:2*k+1<274877906944) :
  Acts prog 233 #[p,q] V fun r V'=>RPt V' r ((gG)+(oH)) ((gH)+(oI)):=by
 have i:=hp
 obtain ⟨j,l,m,n,o,s,rfl,t,u⟩:=hp
 have v:=hq
 obtain ⟨w,x,y,z,A,B,rfl,C,D⟩:=hq
 refine wO j l m n o s w x y z A B V _ fun F a=>(j7 (t.le (a)) (C.le (a)) fj ky (by omega)).mono ?_
 rintro r V2 e f
 have b:=f
 obtain ⟨G,H,I,rfl⟩:=f.shape
 refine ⟨_,_,_,rfl,fun J c=>(j7 (u.le (a.trans (e.trans (c)))) (D.le (a.trans (e.trans (c)))) fk kz (by omega)).mono ?_⟩
 rintro r K E g
 have d:=g
 obtain ⟨L,M,N,rfl⟩:=g.shape
 exact ⟨_,_,_,rfl,fun O h=>⟨_,_,_,_,_,_,rfl,(b.le (c.trans (E.trans (h)))),(d.le (h))⟩⟩
theorem vJ {gG gH oH oI:Rat}{k:Nat}(fj:Sz k gG)(fk:Sz k gH)(ky:Sz k oH)(kz:Sz k oI):Sz (2*k+1) ((gG)+(oH)):=by
 have a:=Sz.mono (m:=2*k+1) (Sz.add fj ky) (by omega)
 exact Sz.mono a (by omega)
theorem vK {gG gH oH oI:Rat}{k:Nat}(fj:Sz k gG)(fk:Sz k gH)(ky:Sz k oH)(kz:Sz k oI):Sz (2*k+1) ((gH)+(oI)):=by
 have a:=Sz.mono (m:=2*k+1) (Sz.add fk kz) (by omega)
 exact Sz.mono a (by omega)
theorem kR {V:View}{p:Value}{gG gH:Rat}{c:Value}{Jd:Rat}(hp:RPt V p gG gH)(hc:RR V c Jd){k:Nat}(fj:Sz k gG)(fk:Sz k gH)(Gh:Sz k Jd)(hk:2*k+1<274877906944) :
  Acts prog 234 #[p,c] V fun r V'=>RPt V' r ((gG)*(Jd)) ((gH)*(Jd)):=by
 have l:=hp
 obtain ⟨m,n,o,q,s,t,rfl,u,v⟩:=hp
 have a:=hc
 obtain ⟨w,x,y,rfl⟩:=hc.shape
 refine su m n o q s t w x y V _ fun A b=>(iJ (u.le (b)) (a.le (b)) fj Gh (by omega)).mono ?_
 rintro r V2 g h
 have d:=h
 obtain ⟨B,C,D,rfl⟩:=h.shape
 refine ⟨_,_,_,rfl,fun E e=>(iJ (v.le (b.trans (g.trans (e)))) (a.le (b.trans (g.trans (e)))) fk Gh (by omega)).mono ?_⟩
 rintro r F z i
 have f:=i
 obtain ⟨G,H,I,rfl⟩:=i.shape
 exact ⟨_,_,_,rfl,fun J j=>⟨_,_,_,_,_,_,rfl,(d.le (e.trans (z.trans (j)))),(f.le (j))⟩⟩
theorem dI {gG gH Jd:Rat}{k:Nat}(fj:Sz k gG)(fk:Sz k gH)(Gh:Sz k Jd):Sz (2*k+1) ((gG)*(Jd)):=by
 have a:=Sz.mono (m:=2*k+1) (Sz.mul fj Gh) (by omega)
 exact Sz.mono a (by omega)
theorem dJ {gG gH Jd:Rat}{k:Nat}(fj:Sz k gG)(fk:Sz k gH)(Gh:Sz k Jd):Sz (2*k+1) ((gH)*(Jd)):=by
 have a:=Sz.mono (m:=2*k+1) (Sz.mul fk Gh) (by omega)
 exact Sz.mono a (by omega)
theorem gw {V:View}{p:Value}{gG gH:Rat}{q:Value}{oH oI:Rat}(hp:RPt V p gG gH)(hq:RPt V q oH oI){k:Nat}(fj:Sz k gG)(fk:Sz k gH)(ky:Sz k oH)(kz:Sz k oI)(hk:4*k+3<274877906944) :
  Acts prog 174 #[p,q] V fun r V'=>RR V' r (((gG)*(oH))+((gH)*(oI))):=by
 have j:=hp
 obtain ⟨l,n,o,s,t,u,rfl,v,w⟩:=hp
 have x:=hq
 obtain ⟨y,z,A,B,C,D,rfl,E,F⟩:=hq
 refine wP l n o s t u y z A B C D V _ fun L a=>(iJ (v.le (a)) (E.le (a)) fj ky (by omega)).mono ?_
 rintro r V2 e f
 have b:=f
 obtain ⟨M,N,O,rfl⟩:=f.shape
 have G:=Sz.mono (m:=2*k+1) (Sz.mul fj ky) (by omega)
 refine ⟨_,_,_,rfl,fun P c=>(iJ (w.le (a.trans (e.trans (c)))) (F.le (a.trans (e.trans (c)))) fk kz (by omega)).mono ?_⟩
 rintro r Q H g
 have d:=g
 obtain ⟨R,S,T,rfl⟩:=g.shape
 have I:=Sz.mono (m:=2*k+1) (Sz.mul fk kz) (by omega)
 refine ⟨_,_,_,rfl,fun U h=>(j7 (b.le (c.trans (H.trans (h)))) (d.le (h)) G I (by omega)).mono ?_⟩
 rintro r W X i
 have J:=i
 obtain ⟨Y,Z,Nt,rfl⟩:=i.shape
 exact ⟨_,_,_,rfl,fun V7 K=>(J.le (K))⟩
theorem cd {gG gH oH oI:Rat}{k:Nat}(fj:Sz k gG)(fk:Sz k gH)(ky:Sz k oH)(kz:Sz k oI):Sz (4*k+3) (((gG)*(oH))+((gH)*(oI))):=by
 have a:=Sz.mono (m:=2*k+1) (Sz.mul fj ky) (by omega)
 have b:=Sz.mono (m:=2*k+1) (Sz.mul fk kz) (by omega)
 have c:=Sz.mono (m:=4*k+3) (Sz.add a b) (by omega)
 exact Sz.mono c (by omega)
theorem tE {V:View}{p:Value}{gG gH:Rat}{q:Value}{oH oI:Rat}(hp:RPt V p gG gH)(hq:RPt V q oH oI){k:Nat}(fj:Sz k gG)(fk:Sz k gH)(ky:Sz k oH)(kz:Sz k oI)(hk:4*k+3<274877906944) :
  Acts prog 216 #[p,q] V fun r V'=>RR V' r (((gG)*(oI))-((gH)*(oH))):=by
 have j:=hp
 obtain ⟨l,n,o,s,t,u,rfl,v,w⟩:=hp
 have x:=hq
 obtain ⟨y,z,A,B,C,D,rfl,E,F⟩:=hq
 refine sr l n o s t u y z A B C D V _ fun L a=>(iJ (v.le (a)) (F.le (a)) fj kz (by omega)).mono ?_
 rintro r V2 e f
 have b:=f
 obtain ⟨M,N,O,rfl⟩:=f.shape
 have G:=Sz.mono (m:=2*k+1) (Sz.mul fj kz) (by omega)
 refine ⟨_,_,_,rfl,fun P c=>(iJ (w.le (a.trans (e.trans (c)))) (E.le (a.trans (e.trans (c)))) fk ky (by omega)).mono ?_⟩
 rintro r Q H g
 have d:=g
 obtain ⟨R,S,T,rfl⟩:=g.shape
 have I:=Sz.mono (m:=2*k+1) (Sz.mul fk ky) (by omega)
 refine ⟨_,_,_,rfl,fun U h=>(yM (b.le (c.trans (H.trans (h)))) (d.le (h)) G I (by omega)).mono ?_⟩
 rintro r W X i
 have J:=i
 obtain ⟨Y,Z,Nt,rfl⟩:=i.shape
 exact ⟨_,_,_,rfl,fun V7 K=>(J.le (K))⟩
theorem qE {gG gH oH oI:Rat}{k:Nat}(fj:Sz k gG)(fk:Sz k gH)(ky:Sz k oH)(kz:Sz k oI):Sz (4*k+3) (((gG)*(oI))-((gH)*(oH))):=by
 have a:=Sz.mono (m:=2*k+1) (Sz.mul fj kz) (by omega)
 have b:=Sz.mono (m:=2*k+1) (Sz.mul fk ky) (by omega)
 have c:=Sz.mono (m:=4*k+3) (Sz.sub a b) (by omega)
 exact Sz.mono c (by omega)
theorem ka {V:View}{l:Value}{cz l_1 eM:Rat}(hl:rL V l cz l_1 eM){k:Nat}(bE:Sz k cz)(bK:Sz k l_1)(bF:Sz k eM)(hk:1*k+1<274877906944) :
  Acts prog 171 #[l] V fun r V'=>RPt V' r (l_1) (-(cz)):=by
 have f:=hl
 obtain ⟨g,a,c,b,h,i,j,m,n,rfl,o,p,q⟩:=hl
 refine wN g a c b h i j m n V _ fun s a=>(iK (o.le (a)) bE (by omega)).mono ?_
 rintro r V2 c e
 have d:=e
 obtain ⟨t,u,v,rfl⟩:=e.shape
 exact ⟨_,_,_,rfl,fun w b=>⟨_,_,_,_,_,_,rfl,(p.le (a.trans (c.trans (b)))),(d.le (b))⟩⟩
theorem iD {cz l_1 eM:Rat}{k:Nat}(bE:Sz k cz)(bK:Sz k l_1)(bF:Sz k eM):Sz (1*k+0) (l_1):=by
 exact Sz.mono bK (by omega)
theorem iE {cz l_1 eM:Rat}{k:Nat}(bE:Sz k cz)(bK:Sz k l_1)(bF:Sz k eM):Sz (1*k+0) (-(cz)):=by
 have a:=Sz.mono (m:=1*k+0) (Sz.neg bE) (by omega)
 exact Sz.mono a (by omega)
theorem eh {V:View}{l:Value}{cz l_1 eM:Rat}(hl:rL V l cz l_1 eM){k:Nat}(bE:Sz k cz)(bK:Sz k l_1)(bF:Sz k eM)(hk:1*k+1<274877906944) :
  Acts prog 173 #[l] V fun r V'=>RPt V' r (cz) (l_1):=by
 have b:=hl
 obtain ⟨c,a,d,e,f,g,h,i,j,rfl,m,n,o⟩:=hl
 exact qv c a d e f g h i j V _ fun p a=>⟨_,_,_,_,_,_,rfl,(m.le (a)),(n.le (a))⟩
theorem cw {cz l_1 eM:Rat}{k:Nat}(bE:Sz k cz)(bK:Sz k l_1)(bF:Sz k eM):Sz (1*k+0) (cz):=by
 exact Sz.mono bE (by omega)
theorem cx {cz l_1 eM:Rat}{k:Nat}(bE:Sz k cz)(bK:Sz k l_1)(bF:Sz k eM):Sz (1*k+0) (l_1):=by
 exact Sz.mono bK (by omega)
theorem pK {V:View}{l:Value}{cz l_1 eM:Rat}(hl:rL V l cz l_1 eM){k:Nat}(bE:Sz k cz)(bK:Sz k l_1)(bF:Sz k eM)(hk:1*k+1<274877906944) :
  Acts prog 198 #[l] V fun r V'=>rL V' r (-(cz)) (-(l_1)) (-(eM)):=by
 have o:=hl
 obtain ⟨p,a,e,b,f,c,g,d,q,rfl,s,t,u⟩:=hl
 refine pj p a e b f c g d q V _ fun w a=>(iK (s.le (a)) bE (by omega)).mono ?_
 rintro r V2 e j
 have h:=j
 obtain ⟨x,y,z,rfl⟩:=j.shape
 refine ⟨_,_,_,rfl,fun A b=>(iK (t.le (a.trans (e.trans (b)))) bK (by omega)).mono ?_⟩
 rintro r B f m
 have i:=m
 obtain ⟨C,D,E,rfl⟩:=m.shape
 refine ⟨_,_,_,rfl,fun F c=>(iK (u.le (a.trans (e.trans (b.trans (f.trans (c)))))) bF (by omega)).mono ?_⟩
 rintro r G g n
 have v:=n
 obtain ⟨H,I,J,rfl⟩:=n.shape
 exact ⟨_,_,_,rfl,fun K d=>⟨_,_,_,_,_,_,_,_,_,rfl,(h.le (b.trans (f.trans (c.trans (g.trans (d)))))),(i.le (c.trans (g.trans (d)))),(v.le (d))⟩⟩
theorem kQ {V:View}{l:Value}{cz l_1 eM:Rat}{p:Value}{gG gH:Rat}(hl:rL V l cz l_1 eM)(hp:RPt V p gG gH){k:Nat}(bE:Sz k cz)(bK:Sz k l_1)(bF:Sz k eM)(fj:Sz k gG)(fk:Sz k gH)(hk:5*k+4<274877906944) :
  Acts prog 145 #[l,p] V fun r V'=>RR V' r ((((cz)*(gG))+((l_1)*(gH)))+(eM)):=by
 have e:=hl
 obtain ⟨v,a,c,b,f,d,n,g,w,rfl,G,H,x⟩:=hl
 have h:=hp
 obtain ⟨y,z,A,B,C,D,rfl,I,J⟩:=hp
 refine sk v a c b f d n g w y z A B C D V _ fun K a=>(eh (e.le (a)) (Sz.mono bE (by omega):Sz (1*k+0) _) (Sz.mono bK (by omega):Sz (1*k+0) _) (Sz.mono bF (by omega):Sz (1*k+0) _) (by omega)).mono ?_
 rintro r V2 c o
 have i:=o
 obtain ⟨L,M,N,O,P,Q,rfl,R,S⟩:=o
 have q:=Sz.mono (m:=1*k+0) ((cw (Sz.mono bE (by omega):Sz (1*k+0) _) (Sz.mono bK (by omega):Sz (1*k+0) _) (Sz.mono bF (by omega):Sz (1*k+0) _))) (by omega)
 have s:=Sz.mono (m:=1*k+0) ((cx (Sz.mono bE (by omega):Sz (1*k+0) _) (Sz.mono bK (by omega):Sz (1*k+0) _) (Sz.mono bF (by omega):Sz (1*k+0) _))) (by omega)
 refine ⟨_,_,_,_,_,_,rfl,fun T b=>(gw (i.le (b)) (h.le (a.trans (c.trans (b)))) (Sz.mono q (by omega):Sz (1*k+0) _) (Sz.mono s (by omega):Sz (1*k+0) _) (Sz.mono fj (by omega):Sz (1*k+0) _) (Sz.mono fk (by omega):Sz (1*k+0) _) (by omega)).mono ?_⟩
 rintro r U f t
 have j:=t
 obtain ⟨W,X,Y,rfl⟩:=t.shape
 have E:=Sz.mono (m:=4*k+3) ((cd (Sz.mono q (by omega):Sz (1*k+0) _) (Sz.mono s (by omega):Sz (1*k+0) _) (Sz.mono fj (by omega):Sz (1*k+0) _) (Sz.mono fk (by omega):Sz (1*k+0) _))) (by omega)
 refine ⟨_,_,_,rfl,fun Z d=>(j7 (j.le (d)) (x.le (a.trans (c.trans (b.trans (f.trans (d)))))) E bF (by omega)).mono ?_⟩
 rintro r V6 n u
 have F:=u
 obtain ⟨Nr,Ns,Nt,rfl⟩:=u.shape
 exact ⟨_,_,_,rfl,fun V7 g=>(F.le (g))⟩
theorem jW {cz l_1 eM gG gH:Rat}{k:Nat}(bE:Sz k cz)(bK:Sz k l_1)(bF:Sz k eM)(fj:Sz k gG)(fk:Sz k gH):Sz (5*k+4) ((((cz)*(gG))+((l_1)*(gH)))+(eM)):=by
 have a:=Sz.mono (m:=1*k+0) ((cw (Sz.mono bE (by omega):Sz (1*k+0) _) (Sz.mono bK (by omega):Sz (1*k+0) _) (Sz.mono bF (by omega):Sz (1*k+0) _))) (by omega)
 have b:=Sz.mono (m:=1*k+0) ((cx (Sz.mono bE (by omega):Sz (1*k+0) _) (Sz.mono bK (by omega):Sz (1*k+0) _) (Sz.mono bF (by omega):Sz (1*k+0) _))) (by omega)
 have c:=Sz.mono (m:=4*k+3) ((cd (Sz.mono a (by omega):Sz (1*k+0) _) (Sz.mono b (by omega):Sz (1*k+0) _) (Sz.mono fj (by omega):Sz (1*k+0) _) (Sz.mono fk (by omega):Sz (1*k+0) _))) (by omega)
 have d:=Sz.mono (m:=5*k+4) (Sz.add c bF) (by omega)
 exact Sz.mono d (by omega)
theorem mD {V:View}{l:Value}{cz l_1 eM:Rat}(hl:rL V l cz l_1 eM){k:Nat}(bE:Sz k cz)(bK:Sz k l_1)(bF:Sz k eM)(hk:10*k+9<274877906944) :
  Acts prog 212 #[l] V fun r V'=>RPt V' r ((cz)*(((-(eM))*(((cz)*(cz))+((l_1)*(l_1)))⁻¹))) ((l_1)*(((-(eM))*(((cz)*(cz))+((l_1)*(l_1)))⁻¹))):=by
 have n:=hl
 obtain ⟨A,i,o,b,d,c,j,e,p,rfl,K,L,B⟩:=hl
 refine vl A i o b d c j e p V _ fun M i=>(eh (n.le (i)) (Sz.mono bE (by omega):Sz (1*k+0) _) (Sz.mono bK (by omega):Sz (1*k+0) _) (Sz.mono bF (by omega):Sz (1*k+0) _) (by omega)).mono ?_
 rintro r V2 o s
 have a:=s
 obtain ⟨N,O,P,Q,R,S,rfl,T,U⟩:=s
 have f:=Sz.mono (m:=1*k+0) ((cw (Sz.mono bE (by omega):Sz (1*k+0) _) (Sz.mono bK (by omega):Sz (1*k+0) _) (Sz.mono bF (by omega):Sz (1*k+0) _))) (by omega)
 have g:=Sz.mono (m:=1*k+0) ((cx (Sz.mono bE (by omega):Sz (1*k+0) _) (Sz.mono bK (by omega):Sz (1*k+0) _) (Sz.mono bF (by omega):Sz (1*k+0) _))) (by omega)
 refine ⟨_,_,_,_,_,_,rfl,fun W b=>(iK (B.le (i.trans (o.trans (b)))) bF (by omega)).mono ?_⟩
 rintro r X d t
 have q:=t
 obtain ⟨Y,Z,KJ,rfl⟩:=t.shape
 have u:=Sz.mono (m:=1*k+0) (Sz.neg bF) (by omega)
 refine ⟨_,_,_,rfl,fun V5 c=>(gw (a.le (b.trans (d.trans (c)))) (a.le (b.trans (d.trans (c)))) (Sz.mono f (by omega):Sz (1*k+0) _) (Sz.mono g (by omega):Sz (1*k+0) _) (Sz.mono f (by omega):Sz (1*k+0) _) (Sz.mono g (by omega):Sz (1*k+0) _) (by omega)).mono ?_⟩
 rintro r V6 j v
 have C:=v
 obtain ⟨Nr,Ns,Nt,rfl⟩:=v.shape
 have w:=Sz.mono (m:=4*k+3) ((cd (Sz.mono f (by omega):Sz (1*k+0) _) (Sz.mono g (by omega):Sz (1*k+0) _) (Sz.mono f (by omega):Sz (1*k+0) _) (Sz.mono g (by omega):Sz (1*k+0) _))) (by omega)
 refine ⟨_,_,_,rfl,fun V7 e=>(yL (q.le (c.trans (j.trans (e)))) (C.le (e)) u w (by omega)).mono ?_⟩
 rintro r V8 p x
 have D:=x
 obtain ⟨YO,YP,YQ,rfl⟩:=x.shape
 have E:=Sz.mono (m:=5*k+4) (Sz.mul u (fl w)) (by omega)
 refine ⟨_,_,_,rfl,fun V9 y=>(kR (a.le (b.trans (d.trans (c.trans (j.trans (e.trans (p.trans (y)))))))) (D.le (y)) (Sz.mono f (by omega):Sz (5*k+4) _) (Sz.mono g (by omega):Sz (5*k+4) _) (Sz.mono E (by omega):Sz (5*k+4) _) (by omega)).mono ?_⟩
 rintro r F G z
 have JF:=z
 obtain ⟨YR,YS,YT,YU,YV,YW,rfl,H,I⟩:=z
 exact ⟨_,_,_,_,_,_,rfl,fun J h=>⟨_,_,_,_,_,_,rfl,(H.le (h)),(I.le (h))⟩⟩
theorem cT {cz l_1 eM:Rat}{k:Nat}(bE:Sz k cz)(bK:Sz k l_1)(bF:Sz k eM):Sz (10*k+9) ((cz)*(((-(eM))*(((cz)*(cz))+((l_1)*(l_1)))⁻¹))):=by
 have a:=Sz.mono (m:=1*k+0) ((cw (Sz.mono bE (by omega):Sz (1*k+0) _) (Sz.mono bK (by omega):Sz (1*k+0) _) (Sz.mono bF (by omega):Sz (1*k+0) _))) (by omega)
 have b:=Sz.mono (m:=1*k+0) ((cx (Sz.mono bE (by omega):Sz (1*k+0) _) (Sz.mono bK (by omega):Sz (1*k+0) _) (Sz.mono bF (by omega):Sz (1*k+0) _))) (by omega)
 have c:=Sz.mono (m:=1*k+0) (Sz.neg bF) (by omega)
 have d:=Sz.mono (m:=4*k+3) ((cd (Sz.mono a (by omega):Sz (1*k+0) _) (Sz.mono b (by omega):Sz (1*k+0) _) (Sz.mono a (by omega):Sz (1*k+0) _) (Sz.mono b (by omega):Sz (1*k+0) _))) (by omega)
 have e:=Sz.mono (m:=5*k+4) (Sz.mul c (fl d)) (by omega)
 have f:=Sz.mono (m:=10*k+9) ((dI (Sz.mono a (by omega):Sz (5*k+4) _) (Sz.mono b (by omega):Sz (5*k+4) _) (Sz.mono e (by omega):Sz (5*k+4) _))) (by omega)
 exact Sz.mono f (by omega)
theorem cU {cz l_1 eM:Rat}{k:Nat}(bE:Sz k cz)(bK:Sz k l_1)(bF:Sz k eM):Sz (10*k+9) ((l_1)*(((-(eM))*(((cz)*(cz))+((l_1)*(l_1)))⁻¹))):=by
 have a:=Sz.mono (m:=1*k+0) ((cw (Sz.mono bE (by omega):Sz (1*k+0) _) (Sz.mono bK (by omega):Sz (1*k+0) _) (Sz.mono bF (by omega):Sz (1*k+0) _))) (by omega)
 have b:=Sz.mono (m:=1*k+0) ((cx (Sz.mono bE (by omega):Sz (1*k+0) _) (Sz.mono bK (by omega):Sz (1*k+0) _) (Sz.mono bF (by omega):Sz (1*k+0) _))) (by omega)
 have c:=Sz.mono (m:=1*k+0) (Sz.neg bF) (by omega)
 have d:=Sz.mono (m:=4*k+3) ((cd (Sz.mono a (by omega):Sz (1*k+0) _) (Sz.mono b (by omega):Sz (1*k+0) _) (Sz.mono a (by omega):Sz (1*k+0) _) (Sz.mono b (by omega):Sz (1*k+0) _))) (by omega)
 have e:=Sz.mono (m:=5*k+4) (Sz.mul c (fl d)) (by omega)
 have f:=Sz.mono (m:=10*k+9) ((dJ (Sz.mono a (by omega):Sz (5*k+4) _) (Sz.mono b (by omega):Sz (5*k+4) _) (Sz.mono e (by omega):Sz (5*k+4) _))) (by omega)
 exact Sz.mono f (by omega)
theorem AV {V:View}{l:Value}{cz l_1 eM:Rat}{t:Value}{Jj:Rat}(hl:rL V l cz l_1 eM)(ht:RR V t Jj){k:Nat}(bE:Sz k cz)(bK:Sz k l_1)(bF:Sz k eM)(zO:Sz k Jj)(hk:20*k+19<274877906944) :
  Acts prog 210 #[l,t] V fun r V'=>RPt V' r ((((cz)*(((-(eM))*(((cz)*(cz))+((l_1)*(l_1)))⁻¹))))+(((l_1)*(Jj)))) ((((l_1)*(((-(eM))*(((cz)*(cz))+((l_1)*(l_1)))⁻¹))))+((((-(cz)))*(Jj)))):=by
 have a:=hl
 obtain ⟨y,b,e,c,f,d,h,g,q,rfl,G,H,I⟩:=hl
 have i:=ht
 obtain ⟨t0,t1,t2,rfl⟩:=ht.shape
 refine Aa y b e c f d h g q t0 t1 t2 V _ fun J b=>(mD (a.le (b)) (Sz.mono bE (by omega):Sz (1*k+0) _) (Sz.mono bK (by omega):Sz (1*k+0) _) (Sz.mono bF (by omega):Sz (1*k+0) _) (by omega)).mono ?_
 rintro r V2 e s
 have j:=s
 obtain ⟨K,L,M,N,O,P,rfl,Q,R⟩:=s
 have z:=Sz.mono (m:=10*k+9) ((cT (Sz.mono bE (by omega):Sz (1*k+0) _) (Sz.mono bK (by omega):Sz (1*k+0) _) (Sz.mono bF (by omega):Sz (1*k+0) _))) (by omega)
 have A:=Sz.mono (m:=10*k+9) ((cU (Sz.mono bE (by omega):Sz (1*k+0) _) (Sz.mono bK (by omega):Sz (1*k+0) _) (Sz.mono bF (by omega):Sz (1*k+0) _))) (by omega)
 refine ⟨_,_,_,_,_,_,rfl,fun S c=>(ka (a.le (b.trans (e.trans (c)))) (Sz.mono bE (by omega):Sz (1*k+0) _) (Sz.mono bK (by omega):Sz (1*k+0) _) (Sz.mono bF (by omega):Sz (1*k+0) _) (by omega)).mono ?_⟩
 rintro r T f u
 have n:=u
 obtain ⟨U,W,X,Y,Z,YB,rfl,WY,WZ⟩:=u
 have o:=Sz.mono (m:=1*k+0) ((iD (Sz.mono bE (by omega):Sz (1*k+0) _) (Sz.mono bK (by omega):Sz (1*k+0) _) (Sz.mono bF (by omega):Sz (1*k+0) _))) (by omega)
 have p:=Sz.mono (m:=1*k+0) ((iE (Sz.mono bE (by omega):Sz (1*k+0) _) (Sz.mono bK (by omega):Sz (1*k+0) _) (Sz.mono bF (by omega):Sz (1*k+0) _))) (by omega)
 refine ⟨_,_,_,_,_,_,rfl,fun V5 d=>(kR (n.le (d)) (i.le (b.trans (e.trans (c.trans (f.trans (d)))))) (Sz.mono o (by omega):Sz (1*k+0) _) (Sz.mono p (by omega):Sz (1*k+0) _) (Sz.mono zO (by omega):Sz (1*k+0) _) (by omega)).mono ?_⟩
 rintro r V6 h v
 have B:=v
 obtain ⟨YC,YD,YE,YF,YG,YH,rfl,W0,W3⟩:=v
 have C:=Sz.mono (m:=2*k+1) ((dI (Sz.mono o (by omega):Sz (1*k+0) _) (Sz.mono p (by omega):Sz (1*k+0) _) (Sz.mono zO (by omega):Sz (1*k+0) _))) (by omega)
 have D:=Sz.mono (m:=2*k+1) ((dJ (Sz.mono o (by omega):Sz (1*k+0) _) (Sz.mono p (by omega):Sz (1*k+0) _) (Sz.mono zO (by omega):Sz (1*k+0) _))) (by omega)
 refine ⟨_,_,_,_,_,_,rfl,fun V7 g=>(yP (j.le (c.trans (f.trans (d.trans (h.trans (g)))))) (B.le (g)) (Sz.mono z (by omega):Sz (10*k+9) _) (Sz.mono A (by omega):Sz (10*k+9) _) (Sz.mono C (by omega):Sz (10*k+9) _) (Sz.mono D (by omega):Sz (10*k+9) _) (by omega)).mono ?_⟩
 rintro r V8 q w
 have K4:=w
 obtain ⟨YI,YJ,YK,YL,YM,YN,rfl,E,F⟩:=w
 exact ⟨_,_,_,_,_,_,rfl,fun V9 x=>⟨_,_,_,_,_,_,rfl,(E.le (x)),(F.le (x))⟩⟩
theorem w_ {cz l_1 eM Jj:Rat}{k:Nat}(bE:Sz k cz)(bK:Sz k l_1)(bF:Sz k eM)(zO:Sz k Jj):Sz (20*k+19) ((((cz)*(((-(eM))*(((cz)*(cz))+((l_1)*(l_1)))⁻¹))))+(((l_1)*(Jj)))):=by
 have c:=Sz.mono (m:=10*k+9) ((cT (Sz.mono bE (by omega):Sz (1*k+0) _) (Sz.mono bK (by omega):Sz (1*k+0) _) (Sz.mono bF (by omega):Sz (1*k+0) _))) (by omega)
 have d:=Sz.mono (m:=10*k+9) ((cU (Sz.mono bE (by omega):Sz (1*k+0) _) (Sz.mono bK (by omega):Sz (1*k+0) _) (Sz.mono bF (by omega):Sz (1*k+0) _))) (by omega)
 have a:=Sz.mono (m:=1*k+0) ((iD (Sz.mono bE (by omega):Sz (1*k+0) _) (Sz.mono bK (by omega):Sz (1*k+0) _) (Sz.mono bF (by omega):Sz (1*k+0) _))) (by omega)
 have b:=Sz.mono (m:=1*k+0) ((iE (Sz.mono bE (by omega):Sz (1*k+0) _) (Sz.mono bK (by omega):Sz (1*k+0) _) (Sz.mono bF (by omega):Sz (1*k+0) _))) (by omega)
 have e:=Sz.mono (m:=2*k+1) ((dI (Sz.mono a (by omega):Sz (1*k+0) _) (Sz.mono b (by omega):Sz (1*k+0) _) (Sz.mono zO (by omega):Sz (1*k+0) _))) (by omega)
 have f:=Sz.mono (m:=2*k+1) ((dJ (Sz.mono a (by omega):Sz (1*k+0) _) (Sz.mono b (by omega):Sz (1*k+0) _) (Sz.mono zO (by omega):Sz (1*k+0) _))) (by omega)
 have g:=Sz.mono (m:=20*k+19) ((vJ (Sz.mono c (by omega):Sz (10*k+9) _) (Sz.mono d (by omega):Sz (10*k+9) _) (Sz.mono e (by omega):Sz (10*k+9) _) (Sz.mono f (by omega):Sz (10*k+9) _))) (by omega)
 exact Sz.mono g (by omega)
theorem xd {cz l_1 eM Jj:Rat}{k:Nat}(bE:Sz k cz)(bK:Sz k l_1)(bF:Sz k eM)(zO:Sz k Jj):Sz (20*k+19) ((((l_1)*(((-(eM))*(((cz)*(cz))+((l_1)*(l_1)))⁻¹))))+((((-(cz)))*(Jj)))):=by
 have c:=Sz.mono (m:=10*k+9) ((cT (Sz.mono bE (by omega):Sz (1*k+0) _) (Sz.mono bK (by omega):Sz (1*k+0) _) (Sz.mono bF (by omega):Sz (1*k+0) _))) (by omega)
 have d:=Sz.mono (m:=10*k+9) ((cU (Sz.mono bE (by omega):Sz (1*k+0) _) (Sz.mono bK (by omega):Sz (1*k+0) _) (Sz.mono bF (by omega):Sz (1*k+0) _))) (by omega)
 have a:=Sz.mono (m:=1*k+0) ((iD (Sz.mono bE (by omega):Sz (1*k+0) _) (Sz.mono bK (by omega):Sz (1*k+0) _) (Sz.mono bF (by omega):Sz (1*k+0) _))) (by omega)
 have b:=Sz.mono (m:=1*k+0) ((iE (Sz.mono bE (by omega):Sz (1*k+0) _) (Sz.mono bK (by omega):Sz (1*k+0) _) (Sz.mono bF (by omega):Sz (1*k+0) _))) (by omega)
 have e:=Sz.mono (m:=2*k+1) ((dI (Sz.mono a (by omega):Sz (1*k+0) _) (Sz.mono b (by omega):Sz (1*k+0) _) (Sz.mono zO (by omega):Sz (1*k+0) _))) (by omega)
 have f:=Sz.mono (m:=2*k+1) ((dJ (Sz.mono a (by omega):Sz (1*k+0) _) (Sz.mono b (by omega):Sz (1*k+0) _) (Sz.mono zO (by omega):Sz (1*k+0) _))) (by omega)
 have g:=Sz.mono (m:=20*k+19) ((vK (Sz.mono c (by omega):Sz (10*k+9) _) (Sz.mono d (by omega):Sz (10*k+9) _) (Sz.mono e (by omega):Sz (10*k+9) _) (Sz.mono f (by omega):Sz (10*k+9) _))) (by omega)
 exact Sz.mono g (by omega)
theorem ia {V:View}{v w:Value}{x y:Rat}(hx:RQ V v x)(hy:RQ V w y)(hy0:y.num≠0){k m:Nat}(hk:Sz k x)(hm:Sz m y)(hkm:k+m<274877906944) :
  Acts prog 83 #[v,w] V fun r V'=>RQ V' r (x*y⁻¹):=by
 obtain ⟨p,n,c,K,L,M,rfl,d,f⟩:=hx
 obtain ⟨q,i,e,N,O,P,rfl,g,j⟩:=hy
 have l:=fl hm
 have q1:=ae hk.1
 have q2:=ae hk.2
 have q3:=ae hm.1
 have q4:=ae l.1
 have E:(y⁻¹).num=(if decide (y.num<0)=true then -((y.den:Nat):Int) else ((y.den:Nat):Int))/\(y⁻¹).den=y.num.natAbs:=by
  rcases Int.lt_or_gt_of_ne hy0 with h|h
  ·rw [if_pos (decide_eq_true h)];exact inv_neg h
  ·rw [if_neg (fun Q=>by have:=of_decide_eq_true Q;omega)];exact inv_pos h
 have o:x*y⁻¹=mkRat (x.num*(y⁻¹).num) (x.den*(y⁻¹).den):=Rat.mul_def' x y⁻¹
 have b1:(x.num*(y⁻¹).num).natAbs<2^(k+m):=by rw [Int.natAbs_mul];exact bo hk.1 l.1
 have b2:x.den*(y⁻¹).den<2^(k+m):=bo hk.2 l.2
 refine CP _ p n c K L M _ q i e N O P V _ fun V1 s=>(cg y _ (j.le s)).mono ?_
 rintro r V2 F ⟨p1,n1,c1,rfl,R⟩
 refine ⟨_,_,_,rfl,fun V3 t=>(eC _ (R.le t)).mono ?_⟩
 rw [←E.1]
 rintro r V4 G ⟨p4,n4,c4,rfl,S⟩
 refine ⟨_,_,_,_,rfl,fun V5 u=>(jA x.num (y⁻¹).num (d.le (s.trans (F.trans (t.trans (G.trans u))))) (S.le u) (by omega)).mono ?_⟩
 rintro r V6 T ⟨p6,n6,c6,rfl,U⟩
 have H:=s.trans (F.trans (t.trans (G.trans (u.trans T))))
 refine ⟨_,_,_,_,rfl,fun V7 z=>(cg x _ (f.le (H.trans z))).mono ?_⟩
 rintro r V8 I ⟨p8,n8,c8,rfl,W⟩
 refine ⟨_,_,_,rfl,fun V9 A=>(bX (W.le A) (g.le (H.trans (z.trans (I.trans A)))) (by omega)).mono ?_⟩
 rintro r X B ⟨NT,Y,Z,rfl,a⟩
 rw [ab,ab,←E.2] at a
 refine ⟨_,_,_,rfl,fun a0 b=>(mS _ (U.le (z.trans (I.trans (A.trans (B.trans b))))) (a.le b) (Nat.le_trans (ae b1) (by omega)) (Nat.le_trans (ae b2) (by omega)) (Nat.mul_ne_zero x.den_nz (y⁻¹).den_nz)).mono ?_⟩
 rw [o]
 rintro r yA kJ ⟨Vz,a1,a2,VA,a3,Um,rfl,C,D⟩
 exact ⟨_,_,_,_,_,_,_,rfl,fun xj J=>⟨_,_,_,_,_,_,rfl,C.le J,D.le J⟩⟩
theorem FA {V:View}(z:Int){p:OA}{n c:Nat}(h:RD V p n c (af z.natAbs)) :
  Acts prog 84 #[.agg #[.bool (decide (z<0)),.slice p n c]] V fun r V'=>RQ V' r (z:Rat):=
 Eu _ p n c V _ fun b a=>mH (z:=z) (d:=1) rfl rfl (h.le a) RD.nil rfl
end Go.Proofs.Tryz
