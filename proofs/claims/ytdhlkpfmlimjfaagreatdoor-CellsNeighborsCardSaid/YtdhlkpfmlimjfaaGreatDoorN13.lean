import Derived.Test.YtdhlkpfmlimjfaaGreatDoorN12
import Derived.Test.YtdhlkpfmlimjfaaGreatDoorN7
import Derived.Test.YtdhlkpfmlimjfaaGreatDoorN8
set_option linter.unusedVariables false
open Go.IntKind (i64 u64 u32)
namespace Go.Proofs.Tryz
open Go.Eng Go.Big
theorem Zl {V:View}{p:OA}{n c:Nat}{ds:List Nat}(h:RD V p n c ds){i:Int}{K:Int->Prop}(j d:Nat)(hj:i=j)(hn:ds[j]?=some d)
  (hK:K (d:Int)):(p.isSome=true)/\(0<=i/\i<(n:Int))/\∃x:Int,(∃a,addrAdd p (i.toNat*1)=some a/\V.at a (.int .u32 x))/\K x:=by
 have b:j<ds.length:=by
  rcases Nat.lt_or_ge j ds.length with h|h
  ·exact h
  ·rw [List.getElem?_eq_none h] at hn;cases hn
 refine h.rd j hj b ?_;rw [List.getElem?_eq_getElem b] at hn;cases hn;exact hK
theorem Hj {W n:Nat}(h:(af W).length=n+1):∃top,(af W)[n]?=some top/\top≠0/\top<4294967296/\top*4294967296^n<=W:=by
 refine ⟨(af W)[n]'(by omega),List.getElem?_eq_getElem _,?_,(ax W).get _,EG h⟩;have:=(iV W).last (by omega);simpa [h] using this
structure xY (A V L:Nat) (R:Nat) (j:Nat) (es:List Nat):Prop where
 len:es.length=L
 fu:bM es
 lt:R<V*4294967296^j
 eq:A=V*(4294967296^j*val (es.drop j))+R
theorem xY.step {A V L R j:Nat}{es:List Nat}(h:xY A V L R (j+1) es)(hj:j<L)(hV:0<V) :
  R / (V*4294967296^j)<4294967296/\xY A V L (R-V*(R / (V*4294967296^j))*4294967296^j) j (es.set j (R / (V*4294967296^j))):=by
 have c:0<4294967296^j:=Nat.pow_pos (by omega);have a:0<V*4294967296^j:=Nat.mul_pos hV c
 have b:R / (V*4294967296^j)<4294967296:=by
  rw [Nat.div_lt_iff_lt_mul a];have:=h.lt;rw [Nat.pow_succ] at this
  have e:4294967296*(V*4294967296^j)=V*(4294967296^j*4294967296):=by
   generalize 4294967296^j=w;grind
  omega
 have d:=Ey (R:=R) (V:=V) (W:=4294967296^j);have hm:=Nat.mod_lt R a;have he:R-V*(R / (V*4294967296^j))*4294967296^j=R%(V*4294967296^j):=by omega
 refine ⟨b,⟨by simpa using h.len,h.fu.set _ _ b,by rw [he];exact hm,?_⟩⟩;have f:=h.len;rw [List.drop_eq_getElem_cons (by simp;omega),List.getElem_set_self,List.drop_set_of_lt (by omega),aY,he];exact GQ (by have:=h.eq;rwa [Nat.pow_succ] at this) d
theorem JF {R V j:Nat}(h:R<V*4294967296^(j+1)):(af R).length<=(af V).length+j+1:=by
 have a:V*4294967296^(j+1)<=4294967296^(af V).length*4294967296^(j+1):=Nat.mul_le_mul_right _ (Nat.le_of_lt (az.1 (Nat.le_refl _)));rw [←Nat.pow_add] at a;have:=az.2 (Nat.lt_of_lt_of_le h a);omega
theorem K4 {R n:Nat}(h:(af R).length<=n+2):R / 4294967296^n<18446744073709551616:=by
 rw [Nat.div_lt_iff_lt_mul (Nat.pow_pos (by omega))];have:=az.1 h;rw [Nat.pow_succ,Nat.pow_succ] at this
 have e:4294967296^n*4294967296*4294967296=18446744073709551616*4294967296^n:=by
  generalize 4294967296^n=w;omega
 omega
theorem DS {V:View}{p q:OA}{n c m e:Nat}{x y:Nat}(hx:RN V p n c x)(hy:RN V q m e y)(hm:(af x).length<=274877906944)(hy0:0<y)(hle:(af y).length<=(af x).length) :
  Acts prog 155 #[.slice p n c,.slice q m e] V fun r V'=>∃p1 n1 c1 p2 n2 c2,r=.tuple #[.slice p1 n1 c1,.slice p2 n2 c2]/\RN V' p1 n1 c1 (x / y)/\RN V' p2 n2 c2 (x%y):=by
 have a4:=hx.len;have Be:=hy.len
 have b9:0<m:=by
  rcases Nat.eq_zero_or_pos m with h|h
  ·have:=bE.1 (List.length_eq_zero_iff.1 (Be▸h));omega
  ·exact h
 have vc:=Dv p n c q m e V;have w1:i64.wrap ((m:Int)-1)=((m-1:Nat):Int):=by rw [i64w (by omega)];omega
 have w2:i64.wrap ((n:Int)-m)=((n-m:Nat):Int):=by rw [i64w (by omega)];omega
 have w3:i64.wrap (((n-m:Nat):Int)+1)=((n-m+1:Nat):Int):=by rw [i64w (by omega)];omega
 have w4:i64.wrap (((n-m+1:Nat):Int)-1)=((n-m:Nat):Int):=by rw [i64w (by omega)];omega
 simp only [w1,w2,w3,Int.toNat_natCast,w4,cD] at vc;obtain ⟨L,hL⟩:∃L,L=n-m+1:=⟨_,rfl⟩;rw [←hL] at vc;refine vc _ ?_;clear vc;refine hy.rd (m-1) rfl (by omega) fun V1 P=>(fY _ ((ax y).get (by omega))).mono ?_;rintro r V2 S rfl;have a5:bD ((af y)[m-1]'(by omega))<=32:=jh.2 (by have:=(ax y).get (i:=m-1) (by omega);omega);obtain ⟨s,hs⟩:∃s:Nat,(32:Int)-(bD ((af y)[m-1]'(by omega)):Int)=s:=⟨32-bD ((af y)[m-1]'(by omega)),by omega⟩;have KV:s<=32:=by omega
 rw [hs];clear hs a5;refine ⟨_,rfl,fun V3 l3=>(kL (hy.le (P.trans (S.trans l3))) (by omega) s (by omega)).mono ?_⟩;rintro r V4 l4 ⟨vp,d,vc,rfl,H⟩;rw [ab] at H;refine ⟨_,_,_,rfl,fun V5 l5=>(kL (hx.le (P.trans (S.trans (l3.trans (l4.trans l5))))) (by omega) s (by omega)).mono ?_⟩;rintro r V6 l6 ⟨rp,O,rc,rfl,hr⟩;rw [ab] at hr
 replace H:=H.le (l5.trans l6)
 have a6:=H.len;have T:=Nat.two_pow_pos s;have c0:2^s<=4294967296:=Nat.pow_le_pow_right (n:=2) (by omega) KV;have VT:0<y*2^s:=Nat.mul_pos hy0 T;have c3:(af (2^s)).length<=2:=az.2 (by omega);have c4:d<=m+2:=by have:=ib (a:=y) (b:=2^s);omega
 have c5:0<d:=by
  rcases Nat.eq_zero_or_pos d with h|h
  ·have:=bE.1 (List.length_eq_zero_iff.1 (a6▸h));omega
  ·exact h
 have I:xY (x*2^s) (y*2^s) L (x*2^s) L (List.replicate L 0):=by
  refine ⟨by simp,bM.rep _,?_,by simp⟩;have h1:x<4294967296^n:=by rw [a4];exact az.1 (Nat.le_refl _)
  have h2:4294967296^(m-1)<=y:=by rw [←rG];omega
  have C:4294967296^(m-1)*4294967296^L<=y*4294967296^L:=Nat.mul_le_mul_right _ h2;rw [←Nat.pow_add,show m-1+L=n from by omega] at C;have D:x*2^s<y*4294967296^L*2^s:=Nat.mul_lt_mul_of_pos_right (by omega) T
  have E:y*4294967296^L*2^s=y*2^s*4294967296^L:=by
   generalize 4294967296^L=w;grind
  omega
 have G:∀{Q R:Nat},x*2^s=y*2^s*Q+R->R<y*2^s->Q=x / y/\R / 2^s=x%y:=fun h1 h2=>IQ h1 h2;generalize x*2^s=A at *;generalize y*2^s=W at *;have w5:i64.wrap ((d:Int)-1)=((d-1:Nat):Int):=by rw [i64w (by omega)];omega
 simp only [w5,Int.toNat_natCast];refine ⟨_,_,_,rfl,?_⟩;obtain ⟨top,YL,We,Wf,Pr⟩:=Hj (W:=W) (n:=d-1) (by omega);refine Zl H (d-1) top rfl YL ?_;have w6:u64.wrap (top:Int)=top:=aH (by omega);simp only [w6]
 refine ⟨by omega,by omega,by omega,fun z V'=>∃R:Nat,RN V' z.1 z.2.1 z.2.2.1 R/\-1<=z.2.2.2.1/\z.2.2.2.1<L/\∃es:List Nat,z.2.2.2.2=ay es/\xY A W L R (z.2.2.2.1+1).toNat es,fun z=>(z.2.2.2.1+1).toNat,
  ⟨(rp,O,rc,((n-m:Nat):Int),ay (List.replicate L 0)),by (try dsimp only);and_intros<;>first|exact True.intro|rfl,A,hr,by (try dsimp only);omega,by (try dsimp only);omega,_,rfl,?_⟩,?_⟩
 ·(try dsimp only)
  rw [show (((n-m:Nat):Int)+1).toNat=L from by omega];exact I
 rintro ⟨rp,O,rc,j,vs⟩ V7 l7 ⟨R,J,a7,a8,es,rfl,o⟩;dsimp only at J a7 a8 o ⊢;have c6:=J.len;refine ⟨by trivial,fun C=>?_,fun C=>?_⟩
 ·have C:0<=j:=by simpa using C
  obtain ⟨j,rfl⟩:=Int.eq_ofNat_of_zero_le C;have o:xY A W L R (j+1) es:=o;have Yw:j<L:=by omega
  have U:=JF o.lt;obtain ⟨hq,X⟩:=o.step Yw VT;have w7:i64.wrap ((d:Int)+j)=((d-1+j+1:Nat):Int):=by rw [i64w (by omega)];omega
  have w8:i64.wrap (((d-1+j+1:Nat):Int)-1)=((d-1+j:Nat):Int):=by rw [i64w (by omega)];omega
  have w9:i64.wrap ((32:Int)*j)=((32*j:Nat):Int):=by rw [i64w (by omega)];omega
  have Um:i64.wrap ((j:Int)-1)=(j:Int)-1:=i64w (by omega);simp only [w7,w8,w9,Um,Int.toNat_natCast];have U:(af R).length<=d-1+j+2:=by omega
  have a9:=K4 U;have hP:0<4294967296^(d-1):=Nat.pow_pos (by omega);have hW:0<4294967296^j:=Nat.pow_pos (by omega);have hg:=Is (R:=R) Pr (by omega) hP hW;rw [←Nat.pow_add] at hg;have S:=@PS R (d-1+j);have P:=@Mg R (d-1+j);have l0:=@PR R (d-1+j);have l:∀i (hi:i<(af R).length),(af R)[i]<4294967296:=fun i hi=>(ax R).get hi;generalize R / 4294967296^(d-1+j)=lead at *;refine ⟨fun z V'=>z=(lead:Int),⟨fun D=>?_,fun D=>?_⟩,?_⟩
  ·have D:d-1+j+1<O:=by simp at D;omega
   refine (J.rd (d-1+j+1) rfl (by omega) ⟨by omega,J.rd (d-1+j) rfl (by omega) ⟨(lead:Int),?_,rfl⟩⟩)
   have Y:bg .or .u64 (u64.wrap (u64.wrap (((af R)[d-1+j+1]'(by omega):Nat):Int)*2^32)) (u64.wrap (((af R)[d-1+j]'(by omega):Nat):Int))=(lead:Int):=by
    have e3:((2:Int)^32)=4294967296:=by decide
    have g1:=l (d-1+j+1) (by omega);have Z:=l (d-1+j) (by omega);have:=S (by omega);rw [e3,aH (x:=(((af R)[d-1+j+1]'(by omega):Nat):Int)) (by omega),aH (x:=(((af R)[d-1+j]'(by omega):Nat):Int)) (by omega),aH (by omega),Cz _ _ g1 Z,this];omega
   (try dsimp only);and_intros<;>first|exact True.intro|exact Y|rfl
  ·have D:O<=d-1+j+1:=by simp at D;omega
   refine ⟨fun z V'=>z=(lead:Int),⟨fun E=>?_,fun E=>?_⟩,?_⟩
   ·have E:d-1+j<O:=by simp at E;omega
    refine J.rd (d-1+j) rfl (by omega) ⟨(lead:Int),?_,rfl⟩
    have Y:u64.wrap (((af R)[d-1+j]'(by omega):Nat):Int)=(lead:Int):=by
     have Z:=l (d-1+j) (by omega);rw [aH (by omega),P (by omega)]
    (try dsimp only);and_intros<;>first|exact True.intro|exact Y|rfl
   ·have E:O<=d-1+j:=by simp at E;omega
    have Y:(0:Int)=(lead:Int):=by rw [l0 (by omega)];rfl
    refine ⟨(lead:Int),?_,rfl⟩
    (try dsimp only);and_intros<;>first|exact True.intro|exact Y|rfl
   ·rintro _ V8 l8 rfl;refine ⟨by trivial,(lead:Int),?_,rfl⟩
    (try dsimp only);and_intros<;>first|exact True.intro|rfl
  rintro _ V9 l9 rfl;clear S P l0 l;have OY:(lead:Int).tdiv (top:Int)=((lead / top:Nat):Int):=by rw [Int.tdiv_eq_ediv_of_nonneg (by omega)];omega
  have b0:lead / top<=lead:=Nat.div_le_self _ _;rw [OY];generalize lead / top=lt at *
  obtain ⟨F,a0,M_,SM⟩:∃F:Nat,bJ (u64.wrap (lt:Int)) 4294967295=(F:Int)/\F<4294967296/\R / (W*4294967296^j)<=F:=by
   rw [aH (by omega)];unfold bJ;split
   ·exact ⟨4294967295,rfl,by omega,by omega⟩
   ·exact ⟨lt,rfl,by omega,hg⟩
  rw [a0];clear a0 OY b0 hg a9;have VU:0<W*4294967296^j:=Nat.mul_pos VT hW;have v:∀g:Nat,g<4294967296->(af g).length<=1:=fun g hg=>az.2 (by omega);refine ⟨by trivial,by omega,fun b1 u=>(dG F (by omega)).mono ?_⟩;rintro r b2 B ⟨gp,gn,gc,rfl,b3⟩;refine ⟨_,_,_,rfl,fun b4 t=>(cj (H.le (l7.trans (l9.trans (u.trans (B.trans t))))) (b3.le t) (by have:=v F M_;omega)).mono ?_⟩;rintro r c7 a1 ⟨pp,pn,pc,rfl,LO⟩;rw [ab,ab] at LO;have K:=fun g=>ib (a:=W) (b:=g);refine ⟨_,_,_,rfl,fun c8 c_=>(kL (LO.le c_) (by have:=v F M_;have:=K F;omega) (32*j) (by omega)).mono ?_⟩;rintro r c9 dq ⟨tp,tn,tc,rfl,LP⟩;rw [ab,Mj] at LP;have O7:=J.le (l9.trans (u.trans (B.trans (t.trans (a1.trans (c_.trans dq))))));have S5:=H.le (l7.trans (l9.trans (u.trans (B.trans (t.trans (a1.trans (c_.trans dq)))))))
  refine ⟨_,_,_,rfl,fun z V'=>∃g:Nat,z.1=g/\g<4294967296/\R / (W*4294967296^j)<=g/\RN V' z.2.1 z.2.2.1 z.2.2.2 (W*g*4294967296^j),fun z=>z.1.toNat,
   ⟨((F:Int),tp,tn,tc),by (try dsimp only);and_intros<;>first|exact True.intro|rfl,F,rfl,M_,SM,LP⟩,?_⟩
  rintro ⟨_,tp,tn,tc⟩ ll du ⟨g,rfl,b5,Yv,ht⟩;dsimp only at ht ⊢
  have b6:(af (W*g*4294967296^j)).length<=1099511627776:=by
   have h1:=ib (a:=W*g) (b:=4294967296^j);have h2:=zV j;have C:=K g;have D:=v g b5;omega
  refine ⟨by trivial,fun ny cM=>(iw (ht.le cM) (O7.le (du.trans cM)) b6 (by omega)).mono ?_⟩;rintro r oD dz rfl;refine ⟨_,rfl,fun f=>?_,fun f=>?_⟩
  ·have f:R<W*g*4294967296^j:=by
    have f:0<jT (W*g*4294967296^j) R:=by simpa using f
    unfold jT at f;split at f
    ·omega
    ·split at f
     ·assumption
     ·omega
   have b7:=It VU f;have d0:0<g:=Nat.lt_of_le_of_lt (Nat.zero_le _) b7;have e1:u64.wrap ((g:Int)-1)=((g-1:Nat):Int):=by rw [aH (by omega)];omega
   simp only [e1];refine fun rZ dY=>(dG (g-1) (by omega)).mono ?_;rintro r Bk iO ⟨gp,gn,gc,rfl,b8⟩;refine ⟨_,_,_,rfl,fun r_ gC=>(cj (S5.le (du.trans (cM.trans (dz.trans (dY.trans (iO.trans gC)))))) (b8.le gC) (by have:=v (g-1) (by omega);omega)).mono ?_⟩;rintro r wI kq ⟨pp,pn,pc,rfl,a2⟩;rw [ab,ab] at a2;refine ⟨_,_,_,rfl,fun xZ je=>(kL (a2.le je) (by have:=v (g-1) (by omega);have:=K (g-1);omega) (32*j) (by omega)).mono ?_⟩;rintro r Kg yR ⟨tp,tn,tc,rfl,VM⟩;rw [ab,Mj] at VM;refine ⟨_,_,_,rfl,(((g-1:Nat):Int),tp,tn,tc),?_,by (try dsimp only);and_intros<;>first|exact True.intro|rfl,g-1,rfl,by omega,by omega,VM⟩
   (try dsimp only);omega
  ·have f:W*g*4294967296^j<=R:=by
    have f:¬0<jT (W*g*4294967296^j) R:=by simpa using f
    unfold jT at f;split at f
    ·omega
    ·split at f
     ·omega
     ·omega
   have M:=D4 VU f Yv;rw [←M] at X;have d1:=o.len;refine ⟨⟨by omega,by omega⟩,by simp;omega,fun HA a3=>(nC (O7.le (du.trans (cM.trans (dz.trans a3)))) (ht.le (cM.trans (dz.trans a3))) (by omega) (aA f) (by rw [ab,ab];exact f)).mono ?_⟩;rintro r MH d2 ⟨np,nn,nc,rfl,VN⟩;rw [ab,ab] at VN;have e1:u32.wrap (g:Int)=(g:Int):=pN (by omega);have e2:(ay es).set (0+j*1) (.int .u32 (g:Int))=ay (es.set j g):=by rw [←bj];simp
   simp only [e1];refine ⟨_,_,_,rfl,(np,nn,nc,(j:Int)-1,ay (es.set j g)),?_,by (try dsimp only);and_intros<;>first|exact True.intro|rfl|exact e2|(rw [←bj];simp),R-W*g*4294967296^j,VN,by (try dsimp only);omega,by (try dsimp only);omega,_,rfl,?_⟩
   ·(try dsimp only);omega
   ·(try dsimp only)
    rw [show ((j:Int)-1+1).toNat=j from by omega];exact X
 ·have C:j=-1:=by simp at C;omega
  subst C
  have S1:(af R).length<=1099511627776:=by
   have f:=o.lt;have f:R<W:=by simpa using f
   have:=aA (Nat.le_of_lt f);omega
  intro V8 l8 bk hb;refine (cV (RD.aS hb o.fu (n:=L) (c:=L) o.len.symm (Nat.le_refl _)) (by have:=o.len;omega)).mono ?_;rintro r V9 l9 ⟨k,rfl,D⟩;refine ⟨_,_,_,rfl,fun _ b1 u=>(BC (J.le (l8.trans (l9.trans u))) S1 s (by omega)).mono ?_⟩;rintro r b2 B ⟨p2,n2,c2,rfl,E⟩;rw [ab] at E;refine ⟨_,_,_,rfl,fun b4 t=>⟨_,_,_,_,_,_,rfl,?_,?_⟩⟩
  ·have f:=o.lt;have N:=o.eq;have f:R<W:=by simpa using f
   have N:A=W*val es+R:=by simpa using N
   obtain ⟨g1,Z⟩:=G N f;rw [aK o.fu,g1] at D;exact D.le (u.trans (B.trans t))
  ·have f:=o.lt;have N:=o.eq;have f:R<W:=by simpa using f
   have N:A=W*val es+R:=by simpa using N
   obtain ⟨g1,Z⟩:=G N f;rw [Z] at E;exact E.le t
theorem pX {x:Nat}(h:(af x).length<=2):x<18446744073709551616:=by
 have:=az.1 h;omega
theorem copied {V:View}{b n c:Nat}{ds:List Nat}{sp:List Value}{ty:TypeId}(hd:bM ds)(hn:n=ds.length)(hc:n<=c)(hb:V.aS b (.cells (ay ds++sp).toArray ty (0,0))):RD V (some ⟨b,0,none⟩) n c ds:=by
 refine ⟨hn,hc,fun i v a=>⟨_,rfl,?_⟩,hd,fun e=>nomatch e⟩;rw [add_zero'];refine blk_at hb ?_;rw [List.getElem?_append_left]
 ·exact a
 ·rcases Nat.lt_or_ge i (ay ds).length with e|e
  ·exact e
  ·rw [List.getElem?_eq_none e] at a;cases a
theorem dV {V:View}{p q:OA}{n c m e:Nat}{x y:Nat}(hx:RN V p n c x)(hy:RN V q m e y)(hm:(af x).length<=274877906944)(hm':(af y).length<=274877906944)(hy0:0<y) :
  Acts prog 119 #[.slice p n c,.slice q m e] V fun r V'=>∃p1 n1 c1 p2 n2 c2,r=.tuple #[.slice p1 n1 c1,.slice p2 n2 c2]/\RN V' p1 n1 c1 (x / y)/\RN V' p2 n2 c2 (x%y):=by
 have o:=hx.len;have Be:=hy.len
 have a1:0<m:=by
  rcases Nat.eq_zero_or_pos m with h|h
  ·have:=bE.1 (List.length_eq_zero_iff.1 (Be▸h));omega
  ·exact h
 refine xI p n c q m e V _ fun V1 w=>(kM (hx.le w) (by omega)).mono ?_;rintro r V2 G rfl;rw [ab];refine ⟨_,_,rfl,fun z V'=>True,⟨fun a=>?_,fun a=>⟨(),by (try dsimp only);and_intros<;>first|exact True.intro|rfl,trivial⟩⟩,?_⟩
 ·have a:n<=2:=by simpa using a
  refine fun V3 l3=>(kM (hy.le (w.trans (G.trans l3))) (by omega)).mono ?_;rintro r V4 l4 rfl;rw [ab];refine ⟨_,_,rfl,fun f=>?_,fun f=>⟨(),by (try dsimp only);and_intros<;>first|exact True.intro|rfl,trivial⟩⟩;have f:m<=2:=by simpa using f
  have a2:=pX (x:=x) (by omega);have Wj:=pX (x:=y) (by omega);rw [if_pos a,if_pos f];have hq:x / y<=x:=Nat.div_le_self _ _;have hr:x%y<y:=Nat.mod_lt _ hy0;have H:((x:Nat):Int).tdiv (y:Int)=((x / y:Nat):Int):=by rw [Int.tdiv_eq_ediv_of_nonneg (by omega)];omega
  have I:((x:Nat):Int).tmod (y:Int)=((x%y:Nat):Int):=by rw [Int.tmod_eq_emod_of_nonneg (by omega)];omega
  rw [H,I];generalize x / y=qq at *;generalize x%y=rr at *;have K:u64.wrap (qq:Int)=qq:=aH (by omega);rw [K];refine ⟨by omega,by omega,fun V5 l5=>(dG qq (by omega)).mono ?_⟩;rintro r V6 l6 ⟨p1,n1,c1,rfl,L⟩;refine ⟨_,_,_,rfl,fun V7 l7=>(dG rr (by omega)).mono ?_⟩;rintro r V8 l8 ⟨p2,n2,c2,rfl,M⟩;exact ⟨_,_,_,rfl,fun V9 l9=>⟨_,_,_,_,_,_,rfl,L.le (l7.trans (l8.trans l9)),M.le l9⟩⟩
 rintro _ a3 A _
 replace hx:=hx.le (w.trans (G.trans A))
 replace hy:=hy.le (w.trans (G.trans A))
 refine ⟨by trivial,fun a4 j=>(iw (hx.le j) (hy.le j) (by omega) (by omega)).mono ?_⟩;rintro r a5 B rfl
 replace hx:=hx.le (j.trans B)
 replace hy:=hy.le (j.trans B)
 refine ⟨_,rfl,fun a=>⟨ay (af x),hx.sl,by simp [o],by omega,by omega,by simp,by simp [o],?_,?_⟩,fun a=>⟨fun f=>?_,fun f=>?_⟩⟩
 ·intro v g;simp only [ay,List.mem_map] at g;obtain ⟨d,-,rfl⟩:=g;rfl
 ·have a:x<y:=by simpa [fO] using a
  intro bk J sp c' f h2 V1 w b E;rw [Nat.div_eq_of_lt a,Nat.mod_eq_of_lt a];refine ⟨_,_,_,_,_,_,rfl,RD.nil,?_⟩;simp only [Nat.zero_add,Nat.zero_mul,List.take_zero,List.nil_append] at E f ⊢;exact copied (ax x) o f E
 ·have a:y<=x:=by simpa [←Int.not_lt,fO] using a
  have f:m=1:=by simp at f;omega
  subst f;obtain ⟨d,F⟩:=kT (ds:=af y) (by omega);have N:d=y:=by have:=ab y;rw [F] at this;simpa using this
  subst N;have O:d<4294967296:=by have:=ax d;rw [F] at this;exact (bM.cons.1 this).1
  try unfold RN at hy
  rw [F] at hy;have a6:0<n:=by have:=aA a;omega
  have w1:i64.wrap ((n:Int)-1)=(n:Int)-1:=i64w (by omega);simp only [w1,Int.toNat_natCast,cD];have yO:=ax x;have Pw:=ab x;try unfold RN at hx
  clear F;rw [←Pw];clear Pw a;generalize af x=xs at *
  refine ⟨by omega,by omega,by omega,fun z V'=>0<=z.1/\z.1<d/\-1<=z.2.1/\z.2.1<n/\∃es:List Nat,z.2.2=ay es/\es.length=n/\bM es /\
   val (xs.drop (z.2.1+1).toNat)=d*val (es.drop (z.2.1+1).toNat)+z.1.toNat,fun z=>(z.2.1+1).toNat,
   ⟨(0,(n:Int)-1,ay (List.replicate n 0)),by (try dsimp only);and_intros<;>first|exact True.intro|rfl,by (try dsimp only);omega,by (try dsimp only);omega,by (try dsimp only);omega,by (try dsimp only);omega,_,rfl,by simp,bM.rep _,?_⟩,?_⟩
  ·(try dsimp only)
   rw [List.drop_of_length_le (by omega),List.drop_of_length_le (by simp)];rfl
  rintro ⟨rest,i,vs⟩ P Q ⟨C,R,S,T,es,rfl,U,s,g⟩;dsimp only at C R S T g ⊢;obtain ⟨rest,rfl⟩:=Int.eq_ofNat_of_zero_le C;refine ⟨by trivial,fun t=>?_,fun t=>?_⟩
  ·have t:0<=i:=by simpa using t
   obtain ⟨i,rfl⟩:=Int.eq_ofNat_of_zero_le t;have W:((i:Int)+1).toNat=i+1:=by omega
   rw [W] at g;simp only [Int.toNat_natCast] at g ⊢;have SL:=yO.get (i:=i) (by omega);refine (hx.le Q).rd i rfl (by omega) (CH (hy.le Q) (by simp) fun X Y=>(Kx rest xs[i] d (by omega) SL O).mono ?_);rintro r ll du rfl
   have hq:(rest*4294967296+xs[i]) / d<4294967296:=by
    rw [Nat.div_lt_iff_lt_mul (by omega)];have:rest+1<=d:=by omega
    have:=Nat.mul_le_mul_right 4294967296 this;rw [Nat.mul_comm 4294967296 d];omega
   have hr:(rest*4294967296+xs[i])%d<d:=Nat.mod_lt _ (by omega);have D5:=Nat.div_add_mod (rest*4294967296+xs[i]) d;generalize (rest*4294967296+xs[i]) / d=q at *;generalize (rest*4294967296+xs[i])%d=r at *;have w2:i64.wrap ((i:Int)-1)=(i:Int)-1:=i64w (by omega);simp only [w2];refine ⟨_,_,rfl,⟨by omega,by omega⟩,by simp;omega,((r:Int),(i:Int)-1,ay (es.set i q)),?_,?_,?_⟩
   ·(try dsimp only);omega
   ·(try dsimp only);and_intros<;>first|exact True.intro|rfl|(rw [←bj];simp)
   ·(try dsimp only)
    refine ⟨by omega,by omega,by omega,by omega,_,rfl,by simpa using U,s.set _ _ (by omega),?_⟩;have Z:((i:Int)-1+1).toNat=i:=by omega
    rw [Z,List.drop_eq_getElem_cons (by omega),List.drop_eq_getElem_cons (l:=es.set i q) (by simp;omega),List.getElem_set_self,List.drop_set_of_lt (by omega)];have h9:xs[i]+4294967296*val (List.drop (i+1) xs)=d*(q+4294967296*val (List.drop (i+1) es))+r:=vy g D5;rw [aY,aY,Int.toNat_natCast];exact h9
  ·have t:i=-1:=by simp at t;omega
   subst t;simp only [Int.toNat_natCast] at g;have g:val xs=d*val es+rest:=by simpa using g
   intro ny cM bk E;refine (cV (RD.aS E s (n:=n) (c:=n) (by omega) (Nat.le_refl _)) (by omega)).mono ?_;rintro r oD dz ⟨k,rfl,h4⟩;refine ⟨_,_,_,rfl,fun _ rZ dY a0 u=>?_⟩
   have u:rZ.aS a0 (.cells (ay [rest]).toArray 225 (0,0)):=by
    simpa [ay] using u
   refine (cV (RD.aS u (n:=1) (c:=1) (by simp [bM];omega) rfl (Nat.le_refl _)) (by simp)).mono ?_;rintro r Bk iO ⟨k2,rfl,h5⟩;refine ⟨_,_,_,rfl,fun _ r_ gC=>⟨_,_,_,_,_,_,rfl,?_,?_⟩⟩
   ·have H:val xs / d=val es:=by rw [g,Nat.mul_add_div (by omega),Nat.div_eq_of_lt (by omega),Nat.add_zero]
    rw [aK s] at h4;rw [H];exact h4.le (dY.trans (iO.trans gC))
   ·have I:val xs%d=rest:=by rw [g,Nat.mul_add_mod,Nat.mod_eq_of_lt (by omega)]
    rw [aK (by simp [bM];omega)] at h5;have K:val [rest]=rest:=by simp
    rw [K] at h5;rw [I];exact h5.le gC
 ·have a:y<=x:=by simpa [←Int.not_lt,fO] using a
  refine fun a7 D=>(DS (hx.le D) (hy.le D) hm hy0 (aA a)).mono ?_;rintro r P Q ⟨p1,n1,c1,p2,n2,c2,rfl,L,M⟩;exact ⟨_,_,_,_,_,_,rfl,fun X Y=>⟨_,_,_,_,_,_,rfl,L.le Y,M.le Y⟩⟩
theorem kK {V:View}{p q:OA}{n c m e:Nat}{x y:Nat}(hx:RN V p n c x)(hy:RN V q m e y)(hm:(af x).length<=274877906944)(hm':(af y).length<=274877906944) :
  Acts prog 118 #[.slice p n c,.slice q m e] V fun r V'=>∃p1 n1 c1,r=.slice p1 n1 c1/\RN V' p1 n1 c1 (Nat.gcd x y):=by
 have M:=hx.len;have Be:=hy.len;refine xH p n c q m e V _ fun N u=>(kM (hx.le u) (by omega)).mono ?_;rintro r V2 C rfl;rw [ab];refine ⟨_,_,rfl,fun z V'=>True,⟨fun A=>?_,fun A=>⟨(),by (try dsimp only);and_intros<;>first|exact True.intro|rfl,trivial⟩⟩,?_⟩
 ·have A:n<=2:=by simpa using A
  refine fun V3 O=>(kM (hy.le (u.trans (C.trans O))) (by omega)).mono ?_;rintro r V4 l4 rfl;rw [ab];refine ⟨_,_,rfl,fun j=>?_,fun j=>⟨(),by (try dsimp only);and_intros<;>first|exact True.intro|rfl,trivial⟩⟩;have j:m<=2:=by simpa using j
  have D:=pX (x:=x) (by omega);have P:=pX (x:=y) (by omega);rw [if_pos A,if_pos j]
  refine ⟨fun z V'=>∃a b:Nat,z=((a:Int),(b:Int))/\a<18446744073709551616/\b<18446744073709551616/\Nat.gcd a b=Nat.gcd x y,fun z=>z.2.toNat,
   ⟨((x:Int),(y:Int)),by (try dsimp only);and_intros<;>first|exact True.intro|rfl,x,y,rfl,D,P,rfl⟩,?_⟩
  rintro _ V5 l5 ⟨a,b,rfl,t,g,l⟩;dsimp only;refine ⟨by trivial,fun f=>?_,fun f=>?_⟩
  ·have f:0<b:=by simpa using f
   have Q:(a:Int).tmod (b:Int)=((a%b:Nat):Int):=by rw [Int.tmod_eq_emod_of_nonneg (by omega)];omega
   have B:a%b<b:=Nat.mod_lt _ f;refine ⟨by omega,((b:Int),((a%b:Nat):Int)),?_,by (try dsimp only);and_intros<;>first|exact True.intro|rfl|exact Q,b,a%b,rfl,g,by omega,?_⟩
   ·(try dsimp only);simp only [Int.toNat_natCast];exact B
   ·rw [←l,Nat.gcd_comm a b,Nat.gcd_rec b a,Nat.gcd_comm]
  ·have f:b=0:=by simp at f;omega
   subst f;rw [Nat.gcd_zero_right] at l;refine fun V6 l6=>(dG a t).mono ?_;rintro r V7 l7 ⟨p1,n1,c1,rfl,E⟩;rw [l] at E;exact ⟨_,_,_,rfl,fun V8 R=>⟨_,_,_,rfl,E.le R⟩⟩
 rintro _ V9 K _
 replace hx:=hx.le (u.trans (C.trans K))
 replace hy:=hy.le (u.trans (C.trans K))
 refine ⟨by trivial,fun z k V'=>∃a b:Nat,RN V' z.1 z.2.1 z.2.2.1 a/\RN V' z.2.2.2.1 z.2.2.2.2.1 z.2.2.2.2.2 b/\b=k/\(af a).length<=274877906944/\(af b).length<=274877906944/\Nat.gcd a b=Nat.gcd x y,
  ⟨(p,n,c,q,m,e),y,by (try dsimp only);and_intros<;>first|exact True.intro|rfl,x,y,hx,hy,rfl,hm,hm',rfl⟩,?_⟩
 rintro ⟨ap,an,ac,S,F,T⟩ _ U W ⟨a,b,t,g,rfl,G,w,l⟩;dsimp only at t g ⊢;have o:=t.len;have H:=g.len;refine ⟨by trivial,fun f=>?_,fun f=>?_⟩
 ·have f:0<F:=by simpa using f
  have i:0<b:=by
   rcases Nat.eq_zero_or_pos b with h|h
   ·subst h;simp at H;omega
   ·exact h
  refine fun X s=>(dV (t.le s) (g.le s) G w i).mono ?_;rintro r Y I ⟨p1,n1,c1,Z,n2,c2,rfl,E,g2⟩;have B:a%b<b:=Nat.mod_lt _ i;have a0:=aA (Nat.le_of_lt B);refine ⟨_,_,_,_,_,_,rfl,(S,F,T,Z,n2,c2),a%b,B,by (try dsimp only);and_intros<;>first|exact True.intro|rfl,b,a%b,g.le (s.trans I),g2,rfl,w,by omega,?_⟩;rw [←l,Nat.gcd_comm a b,Nat.gcd_rec b a,Nat.gcd_comm]
 ·have f:F=0:=by simp at f;omega
  have i:b=0:=bE.1 (List.length_eq_zero_iff.1 (by omega));subst i;rw [Nat.gcd_zero_right] at l;rw [←l];refine ⟨ay (af a),t.sl,by simp [o],by omega,by omega,by simp,by simp [o],?_,?_⟩
  ·intro v L;simp only [ay,List.mem_map] at L;obtain ⟨d,-,rfl⟩:=L;rfl
  ·intro bk J sp c' j h2 N u b g;refine ⟨_,_,_,rfl,?_⟩;simp only [Nat.zero_add,Nat.zero_mul,List.take_zero,List.nil_append] at g j ⊢;exact copied (ax a) o j g
end Go.Proofs.Tryz
namespace Go.Big
def aZ (b:Bool)(ds:List Nat):Int:=if b then -(val ds:Int) else val ds
end Go.Big
namespace Go.Eng
open Go.Big
def RI (V:View)(v:Value)(z:Int):Prop:=∃p n c,v=.agg #[.bool (decide (z<0)),.slice p n c]/\RD V p n c (af z.natAbs)
theorem RI.le {V V':View}{v:Value}{z:Int}(h:RI V v z)(l:V.Le V'):RI V' v z:=by
 obtain ⟨p,n,c,e,h⟩:=h;exact ⟨p,n,c,e,h.le l⟩
theorem RI.mk {V:View}{b:Bool}{p:OA}{n c:Nat}{z:Int}(hb:b=decide (z<0))(h:RD V p n c (af z.natAbs)):RI V (.agg #[.bool b,.slice p n c]) z:=⟨p,n,c,by rw [hb],h⟩
end Go.Eng
namespace Go.Proofs.Tryz
open Go.Eng Go.Big
theorem jO {n:Nat}:bD n=0↔n=0:=by
 unfold bD;split<;>simp_all
theorem fA (b:Bool)(ds:List Nat):(aZ b ds).natAbs=val ds:=by unfold aZ;cases b<;>simp
theorem Cf (b:Bool)(ds:List Nat):aZ b ds<0↔b=true/\val ds≠0:=by
 unfold aZ;cases b
 ·simp
 ·simp;omega
theorem aM (z:Int):aZ (decide (z<0)) (af z.natAbs)=z:=by
 unfold aZ;rw [ab];by_cases h:z<0
 ·rw [decide_eq_true h,if_pos rfl];omega
 ·rw [decide_eq_false h,if_neg (by decide)];omega
theorem IF (b:Bool)(ds:List Nat):aZ (!b) ds=-aZ b ds:=by unfold aZ;cases b<;>simp
theorem nI (ds:List Nat):aZ false ds=val ds:=rfl
theorem fS {x n:Nat}(h:n=(af x).length):0<n↔x≠0:=by
 rw [h];constructor
 ·intro a b;subst b;simp at a
 ·intro a;rcases Nat.eq_zero_or_pos (af x).length with e|e
  ·exact absurd (bE.1 (List.length_eq_zero_iff.1 e)) a
  ·exact e
theorem jQ {V:View}(b:Bool){p:OA}{n c x:Nat}(h:RN V p n c x) :
  Acts prog 242 #[.bool b,.slice p n c] V fun r V'=>RI V' r (if b then -(x:Int) else x):=by
 have f:=fS h.len;refine pW b p n c V _ ⟨fun a e d=>?_,fun a e d=>?_⟩
 ·rw [if_pos a];refine RI.mk ?_ ?_
  ·rw [Bool.eq_iff_iff,decide_eq_true_eq,decide_eq_true_eq];omega
  ·rw [Int.natAbs_neg,Int.natAbs_natCast];exact h.le d
 ·rw [a,if_neg (by decide)];refine RI.mk ?_ ?_
  ·symm;rw [decide_eq_false_iff_not];omega
  ·rw [Int.natAbs_natCast];exact h.le d
theorem iF {V:View}(b:Bool){p:OA}{n c:Nat}{ds:List Nat}(h:RD V p n c ds)(hm:ds.length<=1099511627776) :
  Acts prog 178 #[.agg #[.bool b,.slice p n c]] V fun r V'=>RI V' r (aZ b ds):=by
 refine sP b p n c V _ fun j g=>(iH (h.le g) hm).mono ?_;rintro r V2 k ⟨l,m,o,rfl,a⟩;have q:=fS a.len;have f:=Cf b ds;refine ⟨_,_,_,rfl,fun d i e=>RI.mk ?_ ?_,fun d i e=>RI.mk ?_ ?_⟩
 ·rw [Bool.eq_iff_iff,decide_eq_true_eq,decide_eq_true_eq,f];simp [d];omega
 ·rw [fA];exact a.le e
 ·symm;rw [decide_eq_false_iff_not,f];simp [d]
 ·rw [fA];exact a.le e
def nw (b:Bool)(ds:List Nat):Bool:=decide (af (val ds)=ds)&&(!b||decide (ds≠[]))
theorem f_ {V:View}(b:Bool){p:OA}{n c:Nat}{ds:List Nat}(h:RD V p n c ds)(hm:ds.length<=1099511627776) :
  Acts prog 159 #[.agg #[.bool b,.slice p n c]] V fun r V'=>r=.bool (nw b ds):=by
 refine pV b p n c V _ fun m j=>(zL (h.le j) hm).mono ?_;rintro r V2 o rfl;refine ⟨_,rfl,fun d=>⟨fun a f g=>?_,fun a f g=>?_⟩,fun d f g=>?_⟩
 ·simp [nw,d];simp at a;simp [a]
 ·have k:=h.len;simp [nw,d];simp at a;simp [a];rw [Bool.eq_iff_iff,decide_eq_true_eq];simp;constructor
  ·intro i l;subst l;simp at k;omega
  ·intro i;rcases Nat.eq_zero_or_pos ds.length with e|e
   ·exact absurd (List.length_eq_zero_iff.1 e) i
   ·omega
 ·simp [nw,d]
theorem jj {V:View}(n:Int)(h0:-9223372036854775808<=n)(h1:n<=9223372036854775807) :
  Acts prog 179 #[.int .i64 n] V fun r V'=>RI V' r n:=by
 refine n_ n V _ ⟨fun a d f=>?_,fun a d f=>?_⟩
 ·have a:n<0:=by simpa using a
  have e:u64.wrap (0-u64.wrap n)=-n:=by rw [qV,qV];omega
  rw [e];refine (dF _ (by omega) (by omega)).mono ?_;rintro r V2 g ⟨h,i,j,rfl,b⟩;refine ⟨_,_,_,rfl,fun k c=>⟨_,_,_,rfl,?_⟩⟩;rw [show n.natAbs=(-n).toNat from by omega];exact b.le c
 ·have a:0<=n:=by simpa using a
  rw [aH (by omega)];refine (dF _ (by omega) (by omega)).mono ?_;rintro r V2 g ⟨h,i,j,rfl,b⟩;refine ⟨_,_,_,rfl,fun k c=>⟨_,_,_,rfl,?_⟩⟩;rw [show n.natAbs=n.toNat from by omega];exact b.le c
theorem lG {V:View}(b:Bool){p:OA}{n c:Nat}{ds:List Nat}(h:RD V p n c ds)(hm:ds.length<=1099511627776) :
  Acts prog 182 #[.agg #[.bool b,.slice p n c]] V fun r V'=>r=.int .i64 (aZ b ds).sign:=by
 refine sQ b p n c V _ fun l k=>(iG (h.le k) hm).mono ?_;rintro r V2 m rfl;have f:(aZ b ds)=0↔val ds=0:=by rw [←fA b ds];omega
 have g:=Cf b ds;refine ⟨_,rfl,fun a i j=>?_,fun a=>⟨fun d i j=>?_,fun d i j=>?_⟩⟩
 ·have:val ds=0:=jO.1 (by simp at a;omega);rw [f.2 this];rfl
 ·have:val ds≠0:=fun e=>by simp [jO.2 e] at a
  rw [Int.sign_eq_neg_one_of_neg (g.2 ⟨d,this⟩)]
 ·have:val ds≠0:=fun e=>by simp [jO.2 e] at a
  have:0<aZ b ds:=by
   have:=f;have:¬aZ b ds<0:=by rw [g];simp [d]
   omega
  rw [Int.sign_eq_one_of_pos this]
theorem wM {V:View}(b:Bool){p:OA}{n c:Nat}{ds:List Nat}(h:RD V p n c ds)(hm:ds.length<=1099511627776) :
  Acts prog 237 #[.agg #[.bool b,.slice p n c]] V fun r V'=>RI V' r (-aZ b ds):=by
 refine vU b p n c V _ fun f d=>(iF (!b) (h.le d) hm).mono ?_;rintro r V2 g ⟨i,j,k,rfl,a⟩;rw [IF] at a ⊢;exact ⟨_,_,_,_,rfl,fun l e=>⟨_,_,_,rfl,a.le e⟩⟩
theorem gw {V:View}(b1 b2:Bool){p q:OA}{n c m e:Nat}{xa xb:List Nat}(ha:RD V p n c xa)(hb:RD V q m e xb)(hm:xa.length+xb.length<=1099511627776) :
  Acts prog 229 #[.agg #[.bool b1,.slice p n c],.agg #[.bool b2,.slice q m e]] V fun r V'=>RI V' r (aZ b1 xa*aZ b2 xb):=by
 refine vT b1 p n c b2 q m e V _ fun i a=>(gg (ha.le a) (hb.le a) hm).mono ?_;rintro r V2 j ⟨k,l,o,rfl,d⟩;refine ⟨_,_,_,rfl,fun s f=>(jQ _ (d.le f)).mono ?_⟩;rintro r t u ⟨v,w,x,rfl,b⟩
 have g:(if (!(b1==b2))=true then -((val xa*val xb:Nat):Int) else ((val xa*val xb:Nat):Int))=aZ b1 xa*aZ b2 xb:=by
  unfold aZ;cases b1<;>cases b2<;>simp [Int.neg_mul,Int.mul_neg]
 rw [g] at b ⊢;exact ⟨_,_,_,_,rfl,fun y h=>⟨_,_,_,rfl,b.le h⟩⟩
theorem wL {V:View}(b1 b2:Bool){p q:OA}{n c m e:Nat}{xa xb:List Nat}(ha:RD V p n c xa)(hb:RD V q m e xb)(hm:xa.length<=1099511627776)(hn:xb.length<=1099511627776) :
  Acts prog 228 #[.agg #[.bool b1,.slice p n c],.agg #[.bool b2,.slice q m e]] V fun r V'=>RI V' r (aZ b1 xa+aZ b2 xb):=by
 have fin:∀{b:Bool} {x:Nat} {i:View} {j:OA} {k l:Nat},RN i j k l x->(if b then -(x:Int) else x)=aZ b1 xa+aZ b2 xb ->
   Acts prog 242 #[.bool b,.slice j k l] i fun r V'=>∃(HI:Bool)(Jj:OA)(I1 HP:Nat),r=.agg #[.bool HI,.slice Jj I1 HP]/\∀o:View,V'.Le o->RI o (.agg #[.bool HI,.slice Jj I1 HP]) (aZ b1 xa+aZ b2 xb):=by
  intro b x i j k l h he;refine (jQ b h).mono ?_;rintro r v w ⟨y,z,A,rfl,a⟩;rw [he] at a ⊢;exact ⟨_,_,_,_,rfl,fun B s=>⟨_,_,_,rfl,a.le s⟩⟩
 refine vS b1 p n c b2 q m e V _ ⟨fun f i d=>(Gj (ha.le d) (hb.le d) hm hn).mono ?_,fun f i d=>(yA (ha.le d) (hb.le d) hm hn).mono ?_⟩
 ·rintro r V2 t ⟨j,k,l,rfl,u⟩;have f:b1=b2:=by simpa using f
  subst f;exact ⟨_,_,_,rfl,fun o g=>fin (u.le g) (by unfold aZ;cases b1<;>simp;omega)⟩
 ·rintro r V2 t ⟨j,k,l,rfl,u⟩;have f:b2=!b1:=by cases b1<;>cases b2<;>simp_all
  subst f;refine ⟨_,_,_,_,rfl,fun a o g=>fin (u.le g) ?_,fun a o g=>(yA (hb.le (d.trans (t.trans g))) (ha.le (d.trans (t.trans g))) hn hm).mono ?_⟩
  ·have a:val xb<=val xa:=by simpa using a
   unfold aZ;cases b1<;>simp<;>omega
  ·rintro r v w ⟨y,z,A,rfl,C⟩;have a:val xa<val xb:=by simpa using a
   exact ⟨_,_,_,_,rfl,fun B s=>fin (C.le s) (by unfold aZ;cases b1<;>simp<;>omega)⟩
theorem sf {V:View}(b:Bool){p:OA}{n c:Nat}{ds:List Nat}(h:RD V p n c ds)(hm:ds.length<=1099511627776)(hs:val ds<4611686018427387904) :
  Acts prog 185 #[.agg #[.bool b,.slice p n c]] V fun r V'=>r=.tuple #[.int .i64 (aZ b ds),.bool true]:=by
 refine rf b p n c V _ fun i g=>(kJ (h.le g) hm).mono ?_;rintro r V2 j rfl;rw [if_pos (by omega),decide_eq_true (show val ds<18446744073709551616 by omega)];refine ⟨_,_,rfl,fun _=>⟨fun d=>⟨fun a k l=>?_,fun a=>?_⟩,fun d=>⟨fun _=>⟨fun a=>⟨fun f m o=>?_,fun f=>?_⟩,fun a=>?_⟩,fun a=>nomatch a⟩⟩,fun d=>nomatch d⟩
 ·subst d
  have e:i64.wrap (u64.wrap (0-(val ds:Int)))=-(val ds:Int):=by
   rw [qV,IntKind.wrap_i64];omega
  rw [e];rfl
 ·simp at a;omega
 ·subst d;rw [i64w (by omega)];rfl
 ·simp at f;omega
 ·simp [d] at a
end Go.Proofs.Tryz
namespace Go.Eng
open Go.Big
def Wd (q:Rat):Prop:=q.num.natAbs<4611686018427387904/\q.den<4611686018427387904
def RR (V:View)(v:Value)(q:Rat):Prop:=
 (v=.agg #[.int .i64 q.num,.int .i64 ((q.den:Int)-1),.pointer none]/\Wd q) \/
 (∃a b p n c p' n' c',v=.agg #[.int .i64 0,.int .i64 0,.pointer (some a)]/\V.at (a.add 0) (.bool b)/\V.at (a.add 1) (.slice p n c)/\V.at (a.add 2) (.slice p' n' c') /\
  RI V (.agg #[.bool b,.slice p n c]) q.num/\RD V p' n' c' (af q.den)/\¬Wd q)
theorem RR.le {V V':View}{v:Value}{q:Rat}(h:RR V v q)(l:V.Le V'):RR V' v q:=by
 rcases h with h|⟨a,b,p,n,c,d,f,g,e,i,j,k,m,o,r⟩
 ·exact .inl h
 ·exact .inr ⟨a,b,p,n,c,d,f,g,e,l.at i,l.at j,l.at k,m.le l,o.le l,r⟩
def Sz (k:Nat)(q:Rat):Prop:=q.num.natAbs<2^k/\q.den<2^k
theorem Sz.mono {k m:Nat}{q:Rat}(h:Sz k q)(hm:k<=m):Sz m q:=
 ⟨Nat.lt_of_lt_of_le h.1 (Nat.pow_le_pow_right (by omega) hm),Nat.lt_of_lt_of_le h.2 (Nat.pow_le_pow_right (by omega) hm)⟩
theorem ae {n k:Nat}(h:n<2^k):(af n).length<=k:=by
 rw [az];exact Nat.lt_of_lt_of_le h (Nat.pow_le_pow_left (by omega) k)
theorem RR.shape {V:View}{v:Value}{q:Rat}(h:RR V v q):∃(n d:Int)(p:OA),v=.agg #[.int .i64 n,.int .i64 d,.pointer p]:=by
 rcases h with ⟨e,-⟩|⟨a,b,p,n,c,f,g,i,e,-⟩
 ·exact ⟨_,_,_,e⟩
 ·exact ⟨_,_,_,e⟩
end Go.Eng
namespace Go.Proofs.Tryz
open Go.Eng Go.Big
theorem zE (n:Nat):decide ((bD n:Int)<=62)=decide (n<4611686018427387904):=by
 have:=@jh n 62;rw [Bool.eq_iff_iff,decide_eq_true_eq,decide_eq_true_eq];omega
theorem GU {z:Int}{d:Nat}(hd:d≠0)(hg:Nat.gcd z.natAbs d=1):(mkRat z d).num=z/\(mkRat z d).den=d:=by
 have:Nat.gcd d z.natAbs=1:=by rw [Nat.gcd_comm];exact hg
 rw [Rat.num_mkRat,Rat.den_mkRat,if_neg hd,if_neg hd,this];simp
theorem cJ {V:View}(b:Bool){p q:OA}{n c m e:Nat}{xs ys:List Nat}(hx:RD V p n c xs)(hy:RD V q m e ys)(hm:xs.length<=1099511627776)(hn:ys.length<=1099511627776) :
  Acts prog 144 #[.agg #[.bool b,.slice p n c],.slice q m e] V fun r V'=>RR V' r (mkRat (aZ b xs) (val ys)):=by
 have zero:∀V':View,RR V' (.agg #[.int .i64 0,.int .i64 0,.pointer none]) 0:=fun V'=>.inl ⟨rfl,by unfold Wd;decide⟩;refine vM b p n c q m e V _ fun G i=>(iG (hy.le i) hn).mono ?_;rintro r V2 t rfl;refine ⟨_,rfl,fun O H P=>?_,fun O Q u=>(lG b (hx.le (i.trans (t.trans u))) hm).mono ?_⟩
 ·have:val ys=0:=jO.1 (by simp at O;omega);rw [this,Rat.mkRat_zero];exact zero _
 rintro r v y rfl;have A:val ys≠0:=fun e=>by simp [jO.2 e] at O
 refine ⟨_,rfl,fun R V6 l6=>?_,fun R V7 l7=>?_⟩
 ·have:aZ b xs=0:=Int.sign_eq_zero_iff_zero.1 (by simpa using R);rw [this,Rat.zero_mkRat];exact zero _
 have a3:aZ b xs≠0:=fun e=>by simp [e] at R
 have B:val xs≠0:=by rw [←fA b xs];omega
 replace hx:=hx.le (i.trans (t.trans (u.trans (y.trans l7))))
 replace hy:=hy.le (i.trans (t.trans (u.trans (y.trans l7))))
 refine (yx hx hy hm hn).mono ?_;rintro r V8 l8 ⟨p3,n3,c3,rfl,C⟩
 replace hx:=hx.le l8
 replace hy:=hy.le l8
 have S:Nat.gcd (val xs) (val ys)<=val ys:=Nat.le_of_dvd (by omega) (Nat.gcd_dvd_right _ _);have j:(af (Nat.gcd (val xs) (val ys))).length<=1099511627776:=Nat.le_trans (aA S) (by have:=bo hy.fu;omega)
 have T:Nat.gcd (val xs) (val ys)≠0:=by
  intro U;exact B (Nat.eq_zero_of_gcd_eq_zero_left U)
 refine ⟨_,_,_,rfl,fun V9 I=>(iG (C.le I) j).mono ?_⟩;rintro r a4 k rfl;rw [ab]
 replace hx:=hx.le (I.trans k)
 replace hy:=hy.le (I.trans k)
 replace C:=C.le (I.trans k)
 refine ⟨_,rfl,fun z V'=>∃(us d:List Nat),z.2.2.2.1=b/\RD V' z.2.2.2.2.1 z.2.2.2.2.2.1 z.2.2.2.2.2.2 us/\RD V' z.1 z.2.1 z.2.2.1 d/\us.length<=1099511627776/\d.length<=1099511627776/\val d≠0 /\
  Nat.gcd (val us) (val d)=1/\mkRat (aZ b xs) (val ys)=mkRat (aZ b us) (val d),⟨fun J a5 f=>?_,fun J=>?_⟩,?_⟩
 ·refine (kI (hx.le f) (C.le f) hm j (by rw [ab];exact T)).mono ?_;rintro r a6 D ⟨p4,n4,c4,p5,n5,c5,rfl,g1,g2⟩;refine ⟨_,_,_,_,_,_,_,rfl,fun a7 l=>(kI (hy.le (f.trans (D.trans l))) (C.le (f.trans (D.trans l))) hn j (by rw [ab];exact T)).mono ?_⟩;rintro r a8 c_ ⟨p6,n6,c6,p7,n7,c7,rfl,g3,g4⟩;rw [ab] at g1 g3;have e1:val (af (val xs / Nat.gcd (val xs) (val ys)))=val xs / Nat.gcd (val xs) (val ys):=ab _;have W:val (af (val ys / Nat.gcd (val xs) (val ys)))=val ys / Nat.gcd (val xs) (val ys):=ab _;have d1:=Nat.gcd_dvd_left (val xs) (val ys);have d2:=Nat.gcd_dvd_right (val xs) (val ys)
  have X:val ys / Nat.gcd (val xs) (val ys)≠0:=by
   intro U;have:=Nat.div_mul_cancel d2;rw [U,Nat.zero_mul] at this;exact A this.symm
  refine ⟨_,_,_,_,_,_,_,rfl,(p6,n6,c6,b,p4,n4,c4),by (try dsimp only);and_intros<;>trivial,_,_,rfl,g1.le (l.trans c_),g3,?_,?_,?_,?_,?_⟩
  ·exact Nat.le_trans (aA (Nat.div_le_self _ _)) (by have:=bo hx.fu;omega)
  ·exact Nat.le_trans (aA (Nat.div_le_self _ _)) (by have:=bo hy.fu;omega)
  ·rw [W];exact X
  ·rw [e1,W];exact Nat.gcd_div_gcd_div_gcd_of_pos_left (by omega)
  ·rw [W];have k1:val ys=val ys / Nat.gcd (val xs) (val ys)*Nat.gcd (val xs) (val ys):=(Nat.div_mul_cancel d2).symm
   have k2:aZ b xs=aZ b (af (val xs / Nat.gcd (val xs) (val ys)))*(Nat.gcd (val xs) (val ys):Nat):=by
    have k3:(val xs:Int)=((val xs / Nat.gcd (val xs) (val ys):Nat):Int)*(Nat.gcd (val xs) (val ys):Nat):=by
     rw [←Int.natCast_mul,Nat.div_mul_cancel d1]
    unfold aZ;rw [e1];cases b
    ·simpa using k3
    ·simp only [if_true];rw [Int.neg_mul,←k3]
   conv=>lhs;rw [k1,k2]
   exact Rat.mkRat_mul_right T
 ·have Y:Nat.gcd (val xs) (val ys)=1:=by
   have g:¬(1<bD (Nat.gcd (val xs) (val ys))):=by simp at J;omega
   have:=@jh (Nat.gcd (val xs) (val ys)) 1;omega
  exact ⟨(q,m,e,b,p,n,c),by (try dsimp only);and_intros<;>trivial,xs,ys,rfl,hx,hy,hm,hn,A,Y,rfl⟩
 ·rintro ⟨q,m,e,h,p,n,c⟩ Z dq ⟨us,d,E,hu,K,Ps,o,a0,a1,hq⟩;dsimp only at E hu K ⊢;subst E;rw [hq];obtain ⟨sC,a⟩:=GU (z:=aZ h us) a0 (by rw [fA];exact a1);generalize mkRat (aZ h us) (val d)=w at *
  have hW:Wd w↔val us<4611686018427387904/\val d<4611686018427387904:=by
   unfold Wd;rw [sC,a,fA]
  have LK:∀G:View,Z.Le G->¬Wd w->Acts prog 178 #[.agg #[.bool h,.slice p n c]] G fun r V2=>∃(HI:Bool)(Jj:OA)(I1 HP:Nat),r=.agg #[.bool HI,.slice Jj I1 HP] /\
    (∀H:View,V2.Le H->Acts prog 187 #[.slice q m e] H fun r Q=>∃(Wy:OA)(Ws Ve:Nat),r=.slice Wy Ws Ve /\
    (∀v:View,Q.Le v->∀L:Nat,v.aS L (.cells #[.bool HI,.slice Jj I1 HP,.slice Wy Ws Ve] 289 (0,0))->RR v (.agg #[.int .i64 0,.int .i64 0,.pointer (some ⟨L,0,none⟩)]) w)):=by
   intro G i hw;refine (iF h (hu.le i) Ps).mono ?_;rintro r V2 t Hv;obtain ⟨p2,n2,c2,rfl,J⟩:=Hv;have Hv:RI V2 (.agg #[.bool (decide (aZ h us<0)),.slice p2 n2 c2]) (aZ h us):=⟨_,_,_,rfl,J⟩;refine ⟨_,_,_,_,rfl,fun H P=>(iH (K.le (i.trans (t.trans P))) o).mono ?_⟩;rintro r Q u ⟨p3,n3,c3,rfl,g⟩;refine ⟨_,_,_,rfl,fun v y L hb=>.inr ⟨⟨L,0,none⟩,decide (aZ h us<0),p2,n2,c2,p3,n3,c3,rfl,?_,?_,?_,?_,?_,hw⟩⟩
   ·rw [add_zero'];exact blk_at (xs:=[_,_,_]) hb rfl
   ·rw [add_zero'];exact blk_at (xs:=[_,_,_]) hb rfl
   ·rw [add_zero'];exact blk_at (xs:=[_,_,_]) hb rfl
   ·rw [sC];exact Hv.le (P.trans (u.trans y))
   ·rw [a];exact g.le y
  refine ⟨by trivial,fun ll s=>(iG (hu.le s) Ps).mono ?_⟩;rintro r ny F rfl;refine ⟨_,rfl,fun g oD M=>(iG (K.le (s.trans (F.trans M))) o).mono ?_,fun g MI DE=>LK MI (s.trans (F.trans DE)) ?_⟩
  ·rintro r rZ dY rfl;rw [zE,decide_eq_true_eq] at g;refine ⟨_,rfl,fun N Bk iO=>?_,fun N HA a2=>LK HA (s.trans (F.trans (M.trans (dY.trans a2)))) ?_⟩
   ·rw [zE,decide_eq_true_eq] at N;refine (sf h (hu.le (s.trans (F.trans (M.trans (dY.trans iO))))) Ps g).mono ?_;rintro r r_ gC rfl;refine ⟨_,_,rfl,fun wI kq=>(kJ (K.le (s.trans (F.trans (M.trans (dY.trans (iO.trans (gC.trans kq))))))) o).mono ?_⟩;rintro r xZ je rfl;rw [if_pos (by omega)];refine ⟨_,_,rfl,fun Kg yR=>.inl ⟨?_,hW.2 ⟨g,N⟩⟩⟩;rw [i64w (x:=((val d:Nat):Int)) (by omega),i64w (by omega),sC,a]
   ·rw [zE,decide_eq_false_iff_not] at N;rw [hW];omega
  ·rw [zE,decide_eq_false_iff_not] at g;rw [hW];omega
theorem fh {V:View}(b:Bool){p:OA}{n c x:Nat}(h:RN V p n c x) :
  Acts prog 69 #[.bool b,.slice p n c] V fun r V'=>RI V' r (if b then -(x:Int) else x):=by
 have f:=fS h.len;refine Dp b p n c V _ ⟨fun a e d=>?_,fun a e d=>?_⟩
 ·rw [if_pos a];refine RI.mk ?_ ?_
  ·rw [Bool.eq_iff_iff,decide_eq_true_eq,decide_eq_true_eq];omega
  ·rw [Int.natAbs_neg,Int.natAbs_natCast];exact h.le d
 ·rw [a,if_neg (by decide)];refine RI.mk ?_ ?_
  ·symm;rw [decide_eq_false_iff_not];omega
  ·rw [Int.natAbs_natCast];exact h.le d
theorem iR {V:View}{b:Bool}{p:OA}{n c x:Nat}{z:Int}(h:RN V p n c x)(hz:(if b then -(x:Int) else x)=z) :
  Acts prog 69 #[.bool b,.slice p n c] V fun r V'=>∃(HI:Bool)(Jj:OA)(I1 HP:Nat),r=.agg #[.bool HI,.slice Jj I1 HP]/\∀V3:View,V'.Le V3->RI V3 (.agg #[.bool HI,.slice Jj I1 HP]) z:=by
 refine (fh b h).mono ?_;rintro r V2 d ⟨e,f,i,rfl,g⟩;rw [hz] at g ⊢;exact ⟨_,_,_,_,rfl,fun V3 a=>⟨_,_,_,rfl,g.le a⟩⟩
theorem Gl {V:View}(n:Int)(h0:-9223372036854775808<=n)(h1:n<=9223372036854775807) :
  Acts prog 120 #[.int .i64 n] V fun r V'=>RI V' r n:=by
 refine EW n V _ ⟨fun a d f=>?_,fun a d f=>?_⟩
 ·have a:n<0:=by simpa using a
  have e:u64.wrap (0-u64.wrap n)=((-n).toNat:Int):=by rw [qV,qV];omega
  rw [e];refine (dG _ (by omega)).mono ?_;rintro r V2 g ⟨h,i,j,rfl,b⟩;exact ⟨_,_,_,rfl,fun k c=>iR (b.le c) (by simp;omega)⟩
 ·have a:0<=n:=by simpa using a
  have e:u64.wrap n=(n.toNat:Int):=by rw [aH (by omega)];omega
  rw [e];refine (dG _ (by omega)).mono ?_;rintro r V2 g ⟨h,i,j,rfl,b⟩;exact ⟨_,_,_,rfl,fun k c=>iR (b.le c) (by simp;omega)⟩
theorem tZ {V:View}(z:Int){p:OA}{n c:Nat}(h:RN V p n c z.natAbs) :
  Acts prog 79 #[.agg #[.bool (decide (z<0)),.slice p n c]] V fun r V'=>r=.int .i64 z.sign:=by
 have f:=fS h.len;refine Ds _ p n c V _ ⟨fun b d e=>?_,fun b=>⟨fun a d e=>?_,fun a d e=>?_⟩⟩
 ·have:z=0:=by simp at b;omega
  rw [this];rfl
 ·rw [decide_eq_true_eq] at a;rw [Int.sign_eq_neg_one_of_neg a]
 ·rw [decide_eq_false_iff_not] at a;have:0<z:=by simp at b;omega
  rw [Int.sign_eq_one_of_pos this]
theorem gI {V:View}(z:Int){p:OA}{n c:Nat}(h:RN V p n c z.natAbs) :
  Acts prog 100 #[.agg #[.bool (decide (z<0)),.slice p n c]] V fun r V'=>RI V' r (-z):=by
 refine AU _ p n c V _ fun d a=>iR (h.le a) ?_;by_cases b:z<0<;>simp [b]<;>omega
theorem jR {V:View}(z w:Int){p q:OA}{n c m e:Nat}(ha:RN V p n c z.natAbs)(hb:RN V q m e w.natAbs)(hm:(af z.natAbs).length+(af w.natAbs).length<=1099511627776) :
  Acts prog 114 #[.agg #[.bool (decide (z<0)),.slice p n c],.agg #[.bool (decide (w<0)),.slice q m e]] V fun r V'=>RI V' r (z*w):=by
 refine EY _ p n c _ q m e V _ fun h a=>(cj (ha.le a) (hb.le a) hm).mono ?_;rintro r V2 i ⟨j,k,l,rfl,b⟩;rw [ab,ab] at b;refine ⟨_,_,_,rfl,fun o d=>iR (b.le d) ?_⟩;have f:z=aZ (decide (z<0)) (af z.natAbs):=(aM z).symm;have g:w=aZ (decide (w<0)) (af w.natAbs):=(aM w).symm
 conv=>rhs;rw [f,g]
 unfold aZ;rw [ab,ab];cases decide (z<0)<;>cases decide (w<0)<;>simp [Int.neg_mul,Int.mul_neg]
theorem qk {V:View}(z w:Int){p q:OA}{n c m e:Nat}(ha:RN V p n c z.natAbs)(hb:RN V q m e w.natAbs)(hm:(af z.natAbs).length<=1099511627776)(hn:(af w.natAbs).length<=1099511627776) :
  Acts prog 112 #[.agg #[.bool (decide (z<0)),.slice p n c],.agg #[.bool (decide (w<0)),.slice q m e]] V fun r V'=>RI V' r (z+w):=by
 refine ET _ p n c _ q m e V _ ⟨fun i t a=>(Gn (ha.le a) (hb.le a) hm hn).mono ?_,fun i t a=>(iw (ha.le a) (hb.le a) hm hn).mono ?_⟩
 ·rintro r V2 g ⟨k,l,o,rfl,b⟩;rw [ab,ab] at b;refine ⟨_,_,_,rfl,fun s d=>iR (b.le d) ?_⟩;by_cases h:z<0<;>by_cases hw:w<0<;>simp [h,hw] at i⊢<;> omega
 ·rintro r V2 g rfl;refine ⟨_,rfl,fun f s d=>?_,fun f s d=>?_⟩
  ·have f:z.natAbs<w.natAbs:=by simpa [fO] using f
   refine (nC (hb.le (a.trans (g.trans d))) (ha.le (a.trans (g.trans d))) hn (aA (Nat.le_of_lt f)) (by rw [ab,ab];omega)).mono ?_;rintro r u v ⟨k,l,o,rfl,b⟩;rw [ab,ab] at b;refine ⟨_,_,_,rfl,fun x j=>iR (b.le j) ?_⟩;by_cases h:z<0<;>by_cases hw:w<0<;>simp [h,hw] at i⊢<;> omega
  ·have f:w.natAbs<=z.natAbs:=by simpa [←Int.not_lt,fO] using f
   refine (nC (ha.le (a.trans (g.trans d))) (hb.le (a.trans (g.trans d))) hm (aA f) (by rw [ab,ab];omega)).mono ?_;rintro r u v ⟨k,l,o,rfl,b⟩;rw [ab,ab] at b;refine ⟨_,_,_,rfl,fun x j=>iR (b.le j) ?_⟩;by_cases h:z<0<;>by_cases hw:w<0<;>simp [h,hw] at i⊢<;> omega
end Go.Proofs.Tryz
namespace Go.Eng
open Go.Big
def su (d:Nat):List Nat:=if d=1 then [] else af d
def RQ (V:View)(v:Value)(q:Rat):Prop:=∃p n c p' n' c',v=.agg #[.bool (decide (q.num<0)),.slice p n c,.slice p' n' c'] /\
 RD V p n c (af q.num.natAbs)/\RD V p' n' c' (su q.den)
theorem RQ.le {V V':View}{v:Value}{q:Rat}(h:RQ V v q)(l:V.Le V'):RQ V' v q:=by
 obtain ⟨p,n,c,a,b,d,e,f,g⟩:=h;exact ⟨p,n,c,a,b,d,e,f.le l,g.le l⟩
theorem BN {q:Rat}:su q.den=[]↔q.den=1:=by
 unfold su;split
 ·rename_i h;simp [h]
 ·rename_i h;rw [bE];have:=q.den_nz;omega
end Go.Eng
namespace Go.Proofs.Tryz
open Go.Eng Go.Big
theorem lO {V:View}{q:Rat}{p:OA}{n c:Nat}(h:RD V p n c (su q.den)):n=0↔q.den=1:=by
 rw [←BN,h.len,List.length_eq_zero_iff]
theorem cQ {V:View}(q:Rat){p p':OA}{n c n' c':Nat}(b:Bool)(h2:RD V p' n' c' (su q.den)) :
  Acts prog 68 #[.agg #[.bool b,.slice p n c,.slice p' n' c']] V fun r V'=>∃p1 n1 c1,r=.slice p1 n1 c1/\RN V' p1 n1 c1 q.den:=by
 have d:=lO h2;refine EV b p n c p' n' c' V _ ⟨fun a h f=>mE.mono ?_,fun a h f=>⟨_,_,_,rfl,?_⟩⟩
 ·rintro r V2 j ⟨p1,n1,c1,rfl,g⟩;have:q.den=1:=d.1 (by simp at a;omega);rw [this];exact ⟨_,_,_,rfl,fun k i=>⟨_,_,_,rfl,g.le i⟩⟩
 ·have:q.den≠1:=fun e=>by have:=d.2 e;simp at a;omega
  unfold su at h2;rw [if_neg this] at h2;exact h2.le f
theorem nj {V:View}{q:Rat}{z:Int}{d:Nat}{p p':OA}{n c n' c':Nat}(hn:q.num=z)(hd:q.den=d)(h1:RD V p n c (af z.natAbs))(h2:RD V p' n' c' (su d)){b:Bool}(hb:b=decide (z<0)) :
  RQ V (.agg #[.bool b,.slice p n c,.slice p' n' c']) q:=by
 subst hn hd hb;exact ⟨_,_,_,_,_,_,rfl,h1,h2⟩
theorem nB {V:View}(z:Int){d:Nat}{p q:OA}{n c m e:Nat}(hx:RN V p n c z.natAbs)(hy:RN V q m e d)(hm:(af z.natAbs).length<=274877906944)(hn:(af d).length<=274877906944)(hd:d≠0) :
  Acts prog 113 #[.agg #[.bool (decide (z<0)),.slice p n c],.slice q m e] V fun r V'=>RQ V' r (mkRat z d):=by
 refine Dk _ p n c q m e V _ fun V1 C=>(kK (hx.le C) (hy.le C) hm hn).mono ?_;rintro r V2 X ⟨p1,n1,c1,rfl,j⟩;have J:=Nat.gcd_dvd_right z.natAbs d;have K:=Nat.gcd_dvd_left z.natAbs d;have L:0<Nat.gcd z.natAbs d:=Nat.gcd_pos_of_pos_right _ (by omega);have l:(af (Nat.gcd z.natAbs d)).length<=274877906944:=Nat.le_trans (aA (Nat.le_of_dvd (by omega) J)) hn;have M:(mkRat z d).num=z / (Nat.gcd d z.natAbs:Nat):=by rw [Rat.num_mkRat,if_neg hd]
 have a:(mkRat z d).den=d / Nat.gcd d z.natAbs:=by rw [Rat.den_mkRat,if_neg hd]
 rw [Nat.gcd_comm d] at M a;generalize hG:Nat.gcd z.natAbs d=g at *;generalize mkRat z d=w at *;refine ⟨_,_,_,rfl,fun V3 D=>mE.mono ?_⟩;rintro r V4 E ⟨p2,n2,c2,rfl,h1⟩;refine ⟨_,_,_,rfl,fun V5 o=>(iw (j.le (D.trans (E.trans o))) (h1.le o) (by omega) (by decide)).mono ?_⟩;rintro r V6 N rfl
 replace hx:=hx.le (C.trans (X.trans (D.trans (E.trans (o.trans N)))))
 replace hy:=hy.le (C.trans (X.trans (D.trans (E.trans (o.trans N)))))
 replace j:=j.le (D.trans (E.trans (o.trans N)))
 refine ⟨_,rfl,fun Y V7 F=>(dV (hx.le F) (j.le F) hm l L).mono ?_,fun Y rZ G=>mE.mono ?_⟩
 ·rintro r V8 Z ⟨p4,n4,c4,p5,n5,c5,rfl,g1,-⟩;have a0:(mkRat z d).num.natAbs=(mkRat z d).num.natAbs:=rfl;obtain ⟨k,O⟩:=K;have P:z.natAbs / g=k:=by rw [O,Nat.mul_div_cancel_left _ L]
  rw [P] at g1
  have hz:z=(g:Int)*(if z<0 then -(k:Int) else k):=by
   split
   ·rw [Int.mul_neg,←Int.natCast_mul,←O];omega
   ·rw [←Int.natCast_mul,←O];omega
  have b:w.num=(if z<0 then -(k:Int) else k):=by
   rw [M];generalize (if z<0 then -(k:Int) else k)=t at *;rw [hz,Int.mul_ediv_cancel_left _ (by omega)]
  refine ⟨_,_,_,_,_,_,rfl,fun V9 Q=>(fh _ (g1.le Q)).mono ?_⟩
  have SO:(if decide (z<0)=true then -(k:Int) else k)=w.num:=by
   rw [b];simp
  rw [SO];rintro r a1 s ⟨p7,n7,c7,rfl,g2⟩;refine ⟨_,_,_,_,rfl,fun a2 f=>(dV (hy.le (F.trans (Z.trans (Q.trans (s.trans f))))) (j.le (F.trans (Z.trans (Q.trans (s.trans f))))) hn l L).mono ?_⟩;rintro r a3 u ⟨p8,n8,c8,p9,n9,c9,rfl,R,-⟩;rw [←a] at R;refine ⟨_,_,_,_,_,_,rfl,fun a4 h=>mE.mono ?_⟩;rintro r a5 H ⟨Hw,a6,a7,rfl,S⟩;have a8:(af w.den).length<=274877906944:=by rw [a];exact Nat.le_trans (aA (Nat.div_le_self _ _)) hn
  refine ⟨_,_,_,rfl,fun a9 v=>(iw (R.le (h.trans (H.trans v))) (S.le v) (by omega) (by decide)).mono ?_⟩;rintro r ll T rfl;refine ⟨_,rfl,fun i ny U=>nj rfl rfl (g2.le (f.trans (u.trans (h.trans (H.trans (v.trans (T.trans U))))))) ?_ rfl,fun i oD x=>nj rfl rfl (g2.le (f.trans (u.trans (h.trans (H.trans (v.trans (T.trans x))))))) ?_ rfl⟩
  ·have:w.den=1:=jU.1 (by simpa using i);rw [BN.2 this];exact RD.nil
  ·have:w.den≠1:=fun e=>by rw [jU.2 e] at i;simp at i
   unfold su;rw [if_neg this];exact R.le (h.trans (H.trans (v.trans (T.trans x))))
 ·have y:g=1:=jU.1 (by simpa using Y);have b:w.num=z:=by rw [M,y];simp
  have A:w.den=d:=by rw [a,y];simp
  rintro r Bk I ⟨Wv,b0,b1,rfl,S⟩;refine ⟨_,_,_,rfl,fun r_ B=>(iw (hy.le (G.trans (I.trans B))) (S.le B) (by omega) (by decide)).mono ?_⟩;rintro r wI W rfl;refine ⟨_,rfl,fun i ny U=>nj b A (hx.le (G.trans (I.trans (B.trans (W.trans U))))) ?_ rfl,fun i oD x=>nj b A (hx.le (G.trans (I.trans (B.trans (W.trans x))))) ?_ rfl⟩
  ·have:d=1:=jU.1 (by simpa using i);unfold su;rw [if_pos this];exact RD.nil
  ·have:d≠1:=fun e=>by rw [jU.2 e] at i;simp at i
   unfold su;rw [if_neg this];exact hy.le (G.trans (I.trans (B.trans (W.trans x))))
theorem gJ {V:View}(n:Int)(h0:-9223372036854775808<=n)(h1:n<=9223372036854775807) :
  Acts prog 71 #[.int .i64 n] V fun r V'=>RQ V' r (n:Rat):=by
 refine Hr n V _ fun b e=>(Gl n h0 h1).mono ?_;rintro r V2 f ⟨p,m,c,rfl,g⟩;exact ⟨_,_,_,_,rfl,fun h a=>nj (z:=n) (d:=1) rfl rfl (g.le a) RD.nil rfl⟩
theorem tg {V:View}(q:Rat){p p':OA}{n c n' c':Nat}(h1:RD V p n c (af q.num.natAbs)) :
  Acts prog 103 #[.agg #[.bool (decide (q.num<0)),.slice p n c,.slice p' n' c']] V fun r V'=>r=.int .i64 q.num.sign:=by
 refine J0 _ p n c p' n' c' V _ fun b a=>(tZ q.num (h1.le a)).mono ?_;rintro r V2 d rfl;exact ⟨_,rfl,fun e f=>rfl⟩
theorem mF {V:View}(q:Rat){p p':OA}{n c n' c':Nat}(h1:RD V p n c (af q.num.natAbs))(h2:RD V p' n' c' (su q.den)) :
  Acts prog 64 #[.agg #[.bool (decide (q.num<0)),.slice p n c,.slice p' n' c']] V fun r V'=>RQ V' r (-q):=by
 refine E0 _ p n c p' n' c' V _ fun f a=>(gI q.num (h1.le a)).mono ?_;rintro r V2 e ⟨h,i,j,rfl,g⟩;exact ⟨_,_,_,_,rfl,fun k b=>nj (q:=-q) (z:=-q.num) (d:=q.den) (by rfl) (by rfl) (g.le b) ((h2.le a).le (e.trans b)) rfl⟩
end Go.Proofs.Tryz
namespace Go.Eng
open Go.Big
theorem RI.inv {V:View}{b:Bool}{p:OA}{n c:Nat}{z:Int}(h:RI V (.agg #[.bool b,.slice p n c]) z):b=decide (z<0)/\RD V p n c (af z.natAbs):=by
 obtain ⟨d,f,g,e,a⟩:=h;simp at e;obtain ⟨rfl,rfl,rfl,rfl⟩:=e;exact ⟨rfl,a⟩
end Go.Eng
namespace Go.Proofs.Tryz
open Go.Eng Go.Big
theorem fL {V:View}{v:Value}{q:Rat}(h:RR V v q){k:Nat}(hs:Sz k q)(hk:k<=1099511627776) :
  Acts prog 139 #[v] V fun r V'=>RI V' r q.num:=by
 rcases h with ⟨rfl,hw⟩|⟨a,b,p,n,c,u,w,x,rfl,i,j,y,l,z,hw⟩
 ·have:=hw.1;refine nt _ _ _ V _ ⟨(fun d=>nomatch d),fun _ m f=>(jj _ (by omega) (by omega)).mono ?_⟩;rintro r V2 o ⟨p,n,c,rfl,g⟩;exact ⟨_,_,_,_,rfl,fun s e=>⟨_,_,_,rfl,g.le e⟩⟩
 ·obtain ⟨rfl,t⟩:=l.inv;refine nt _ _ _ V _ ⟨fun _=>⟨rfl,rfl,decide (q.num<0),p,n,c,a.add 0,rfl,?_,?_,fun m f=>(iF _ (t.le f) (Nat.le_trans (ae hs.1) hk)).mono ?_⟩,fun d=>nomatch d⟩
  ·exact i
  ·simpa [Addr.add] using j
  ·rintro r V2 o ⟨p,n,c,rfl,g⟩;rw [aM] at g ⊢;exact ⟨_,_,_,_,rfl,fun s e=>⟨_,_,_,rfl,g.le e⟩⟩
theorem eY {V:View}{v:Value}{q:Rat}(h:RR V v q){k:Nat}(hs:Sz k q)(hk:k<=1099511627776) :
  Acts prog 207 #[v] V fun r V'=>∃p n c,r=.slice p n c/\RN V' p n c q.den:=by
 rcases h with ⟨rfl,hw⟩|⟨a,b,p,n,c,s,t,u,rfl,w,x,i,y,j,hw⟩
 ·have:=hw.2;have z:=q.den_nz;refine nq _ _ _ V _ ⟨(fun d=>nomatch d),fun _ l f=>?_⟩;rw [i64w (by omega),aH (by omega)];refine (dF _ (by omega) (by omega)).mono ?_;rintro r V2 m ⟨p,n,c,rfl,g⟩;rw [show ((q.den:Int)-1+1).toNat=q.den from by omega] at g;exact ⟨_,_,_,rfl,fun o e=>⟨_,_,_,rfl,g.le e⟩⟩
 ·refine nq _ _ _ V _ ⟨fun _=>⟨rfl,rfl,_,_,_,⟨_,rfl,i⟩,fun l f=>(iH (j.le f) (Nat.le_trans (ae hs.2) hk)).mono ?_⟩,fun d=>nomatch d⟩;rintro r V2 m ⟨p,n,c,rfl,g⟩;rw [ab] at g;exact ⟨_,_,_,rfl,fun o e=>⟨_,_,_,rfl,g.le e⟩⟩
theorem iE {V:View}(n:Int)(h0:-9223372036854775808<n)(h1:n<=9223372036854775807) :
  Acts prog 205 #[.int .i64 n] V fun r V'=>r=.int .u64 (n.natAbs:Int):=by
 refine Db n V _ ⟨fun a b c=>?_,fun a b c=>?_⟩
 ·have a:n<0:=by simpa using a
  rw [i64w (by omega),aH (by omega)];congr 1;omega
 ·have a:0<=n:=by simpa using a
  rw [aH (by omega)];congr 1;omega
theorem tV {V:View}(x y:Nat)(hx:x<18446744073709551616)(hy:y<18446744073709551616) :
  Acts prog 204 #[.int .u64 (x:Int),.int .u64 (y:Int)] V fun r V'=>r=.int .u64 (Nat.gcd x y:Int):=by
 refine Dc _ _ V _ ⟨fun z V'=>∃a b:Nat,z=((a:Int),(b:Int))/\Nat.gcd a b=Nat.gcd x y,fun z=>z.2.toNat,
  ⟨((x:Int),(y:Int)),by (try dsimp only);and_intros<;>trivial,x,y,rfl,rfl⟩,?_⟩
 rintro _ g h ⟨a,b,rfl,c⟩;dsimp only;refine ⟨by trivial,fun d=>?_,fun d i j=>?_⟩
 ·have d:b≠0:=by rw [bne_iff_ne] at d;omega
  have e:a%b<b:=Nat.mod_lt _ (by omega);have f:(a:Int).tmod (b:Int)=((a%b:Nat):Int):=by rw [Int.tmod_eq_emod_of_nonneg (by omega),←Int.natCast_emod]
  rw [f];exact ⟨by omega,((b:Int),((a%b:Nat):Int)),by (try dsimp only);rw [Int.toNat_natCast,Int.toNat_natCast];exact e,by (try dsimp only);and_intros<;>trivial,b,a%b,rfl,by rw [uF,c]⟩
 ·have d:b=0:=by rw [bne_eq_false_iff_eq] at d;omega
  subst d;rw [Nat.gcd_zero_right] at c;rw [c]
theorem fN {V:View}(a b:Int)(ha:a.natAbs<4611686018427387904)(hb:b.natAbs<4611686018427387904) :
  Acts prog 226 #[.int .i64 a,.int .i64 b] V fun r V'=>∃z:Int,r=.tuple #[.int .i64 z,.bool (decide ((a*b).natAbs<4611686018427387904))]/\((a*b).natAbs<4611686018427387904->z=a*b):=by
 refine xr a b V _ fun k l=>(iE a (by omega) (by omega)).mono ?_;rintro r V2 m rfl;refine ⟨_,rfl,fun n o=>(iE b (by omega) (by omega)).mono ?_⟩;rintro r q s rfl;refine ⟨_,rfl,fun t u=>(Kz _ _ (by omega) (by omega)).mono ?_⟩;rintro r v w rfl;have g:(a*b).natAbs=a.natAbs*b.natAbs:=Int.natAbs_mul a b
 have f:a*b=if (decide (a<0)==decide (b<0)) then ((a.natAbs*b.natAbs:Nat):Int) else -((a.natAbs*b.natAbs:Nat):Int):=by
  rw [Int.natCast_mul];by_cases c:a<0<;>by_cases d:b<0
  ·rw [decide_eq_true c,decide_eq_true d,show (a.natAbs:Int)=-a from by omega,show (b.natAbs:Int)=-b from by omega];simp [Int.neg_mul,Int.mul_neg]
  ·rw [decide_eq_true c,decide_eq_false d,if_neg (by decide),show (a.natAbs:Int)=-a from by omega,show (b.natAbs:Int)=b from by omega];simp [Int.neg_mul]
  ·rw [decide_eq_false c,decide_eq_true d,if_neg (by decide),show (a.natAbs:Int)=a from by omega,show (b.natAbs:Int)=-b from by omega];simp [Int.mul_neg]
  ·rw [decide_eq_false c,decide_eq_false d,show (a.natAbs:Int)=a from by omega,show (b.natAbs:Int)=b from by omega];simp
 rw [g];generalize a.natAbs*b.natAbs=p at *;refine ⟨_,_,rfl,fun e i j=>?_,fun e=>⟨fun c i j=>?_,fun c=>⟨fun d i j=>?_,fun d i j=>?_⟩⟩⟩
 ·have e:18446744073709551616<=p:=by rw [bne_iff_ne] at e;omega
  rw [decide_eq_false (by omega)];exact ⟨_,rfl,fun h=>by omega⟩
 ·have c:4611686018427387904<=p:=by
   rw [decide_eq_true_eq] at c;omega
  rw [decide_eq_false (by omega)];exact ⟨_,rfl,fun h=>by omega⟩
 ·have e:p / 18446744073709551616=0:=by rw [bne_eq_false_iff_eq] at e;omega
  have c:p<4611686018427387904:=by rw [decide_eq_false_iff_not] at c;omega
  rw [decide_eq_true c,i64w (x:=((p%18446744073709551616:Nat):Int)) (by omega),i64w (by omega)];refine ⟨_,rfl,fun _=>?_⟩;have d:(decide (a<0)==decide (b<0))=false:=by simpa using d
  rw [f,d,if_neg (by decide)];omega
 ·have e:p / 18446744073709551616=0:=by rw [bne_eq_false_iff_eq] at e;omega
  have c:p<4611686018427387904:=by rw [decide_eq_false_iff_not] at c;omega
  rw [decide_eq_true c,i64w (x:=((p%18446744073709551616:Nat):Int)) (by omega)];refine ⟨_,rfl,fun _=>?_⟩;have d:(decide (a<0)==decide (b<0))=true:=by simpa using d
  rw [f,d,if_pos rfl];omega
theorem mX {V:View}(n:Int)(d:Nat)(hn:n.natAbs<4611686018427387904)(hd:d<4611686018427387904)(hd0:d≠0) :
  Acts prog 227 #[.int .i64 n,.int .i64 (d:Int)] V fun r V'=>RR V' r (mkRat n d):=by
 refine vL n _ V _ fun o p=>(iE n (by omega) (by omega)).mono ?_;rintro r V2 q rfl;rw [aH (x:=(d:Int)) (by omega)];refine ⟨_,rfl,fun s t=>(tV _ _ (by omega) (by omega)).mono ?_⟩;rintro r u v rfl;have g:Nat.gcd n.natAbs d<=d:=Nat.le_of_dvd (by omega) (Nat.gcd_dvd_right _ _);have w:0<Nat.gcd n.natAbs d:=Nat.gcd_pos_of_pos_right _ (by omega);have c:=Rat.num_mkRat n d;have a:=Rat.den_mkRat n d;rw [if_neg hd0,Nat.gcd_comm] at c a;have b:(Nat.gcd n.natAbs d:Int)∣n:=Int.ofNat_dvd_left.2 (Nat.gcd_dvd_left _ _);have h:d / Nat.gcd n.natAbs d<=d:=Nat.div_le_self _ _
 have i:(n / (Nat.gcd n.natAbs d:Int)).natAbs<=n.natAbs:=by
  rw [Int.natAbs_ediv_of_dvd b,Int.natAbs_natCast];exact Nat.div_le_self _ _
 have f:Wd (mkRat n d):=by unfold Wd;rw [c,a];omega
 refine ⟨_,rfl,?_⟩;rw [i64w (x:=((Nat.gcd n.natAbs d:Nat):Int)) (by omega)];refine ⟨fun e=>⟨by omega,by omega,fun j k=>.inl ⟨?_,f⟩⟩,fun e j k=>.inl ⟨?_,f⟩⟩
 ·rw [c,a];have l:n.tdiv (Nat.gcd n.natAbs d:Int)=n / (Nat.gcd n.natAbs d:Int):=Int.tdiv_eq_ediv_of_dvd b;have m:(d:Int).tdiv (Nat.gcd n.natAbs d:Int)=((d / Nat.gcd n.natAbs d:Nat):Int):=by rw [Int.tdiv_eq_ediv_of_nonneg (by omega),←Int.natCast_ediv]
  rw [l,m];generalize n / (Nat.gcd n.natAbs d:Int)=nn at *;generalize d / Nat.gcd n.natAbs d=dd at *;rw [i64w (by omega),i64w (x:=(dd:Int)) (by omega),i64w (by omega)]
 ·have e:Nat.gcd n.natAbs d=1:=by rw [decide_eq_false_iff_not] at e;omega
  rw [c,a,e,i64w (by omega)];simp
theorem mkRat_one (z:Int):mkRat z 1=(z:Rat):=by
 apply Rat.ext
 ·rw [Rat.num_mkRat];simp
 ·rw [Rat.den_mkRat];simp
theorem RD.one {V:View}{bk:Nat}{ty:TypeId}{m:Nat×Nat}(h:V.aS bk (.cells #[.int .u32 1] ty m)):RD V (some ⟨bk,0,none⟩) 1 1 [1]:=
 RD.aS (ds:=[1]) h (by simp [bM]) rfl (Nat.le_refl _)
theorem kE {V:View}(b:Bool){p:OA}{n c:Nat}{ds:List Nat}(h:RD V p n c ds)(hm:ds.length<=1099511627776) :
  Acts prog 160 #[.agg #[.bool b,.slice p n c]] V fun r V'=>RR V' r (aZ b ds:Rat):=by
 refine xo b p n c V _ fun j f k g=>(cJ b (h.le f) (RD.one g) hm (by simp)).mono ?_;rintro r V2 l a;have e:mkRat (aZ b ds) (val [1])=(aZ b ds:Rat):=mkRat_one _;rw [e] at a;obtain ⟨n,d,p,rfl⟩:=a.shape;exact ⟨_,_,_,rfl,fun _ m i=>a.le i⟩
theorem uJ {z:Int}(h:z.natAbs<4611686018427387904):Wd (z:Rat):=⟨h,by show (1:Nat)<_;decide⟩
theorem iD {V:View}(n:Int)(h0:-9223372036854775808<=n)(h1:n<=9223372036854775807) :
  Acts prog 164 #[.int .i64 n] V fun r V'=>RR V' r (n:Rat):=by
 have LK:∀b:View,V.Le b->Acts prog 179 #[.int .i64 n] b fun j V2=>∃HI:Bool,∃(Jj:OA)(I1 HP:Nat),j=.agg #[.bool HI,.slice Jj I1 HP]/\(∀a:View,V2.Le a->∀OE:Nat,a.aS OE (.cells #[.int .u32 1] 225 (0,0))->Acts prog 144 #[.agg #[.bool HI,.slice Jj I1 HP],.slice (some ⟨OE,0,none⟩) 1 1] a fun l i=>∃WS:Int,∃WT:Int,∃Wz:OA,l=.agg #[.int .i64 WS,.int .i64 WT,.pointer Wz]/\∀J7_:C->Value,(∀V5:View,i.Le V5->RR V5 (.agg #[.int .i64 WS,.int .i64 WT,.pointer Wz]) (n:Rat))):=by
  intro b o;refine (jj n h0 h1).mono ?_;rintro r V2 u ⟨p,m,c,rfl,g⟩;refine ⟨_,_,_,_,rfl,fun a f v q=>(cJ _ (g.le f) (RD.one q) (Nat.le_trans (ae (k:=64) (by omega)) (by omega)) (by simp)).mono ?_⟩;rintro r i w h;have e:mkRat (aZ (decide (n<0)) (af n.natAbs)) (val [1])=(n:Rat):=by rw [aM];exact mkRat_one _
  rw [e] at h;obtain ⟨n,d,p,rfl⟩:=h.shape;exact ⟨_,_,_,rfl,fun _ a f=>h.le f⟩
 refine C9 n V _ ⟨fun _=>LK,fun s=>⟨fun _=>LK,fun t b o=>.inl ⟨rfl,uJ ?_⟩⟩⟩;rw [decide_eq_false_iff_not] at s t;omega
theorem fM {V:View}{v:Value}{q:Rat}(h:RR V v q){k:Nat}(hs:Sz k q)(hk:k<=1099511627776) :
  Acts prog 146 #[v] V fun r V'=>r=.int .i64 q.num.sign:=by
 rcases h with ⟨rfl,hw⟩|⟨a,b,p,n,c,o,s,t,rfl,i,j,u,l,w,hw⟩
 ·refine my _ _ _ V _ ⟨(fun e=>nomatch e),fun _=>⟨fun h f d=>?_,fun h=>⟨fun g f d=>?_,fun g f d=>?_⟩⟩⟩
  ·rw [Int.sign_eq_neg_one_of_neg (by simpa using h)]
  ·rw [Int.sign_eq_one_of_pos (by simpa using g)]
  ·have:q.num=0:=by rw [decide_eq_false_iff_not] at h g;omega
   rw [this];rfl
 ·obtain ⟨rfl,m⟩:=l.inv;refine my _ _ _ V _ ⟨fun _=>⟨rfl,rfl,decide (q.num<0),p,n,c,a.add 0,rfl,?_,?_,fun f d=>(lG _ (m.le d) (Nat.le_trans (ae hs.1) hk)).mono ?_⟩,(fun e=>nomatch e)⟩
  ·exact i
  ·simpa [Addr.add] using j
  ·rintro r V2 x rfl;rw [aM];exact ⟨_,rfl,fun y z=>rfl⟩
theorem Bv {V:View}{v:Value}{q:Rat}(h:RR V v q):Acts prog 161 #[v] V fun r V'=>r=.bool (decide (q=0)):=by
 rcases h with ⟨rfl,hw⟩|⟨a,b,p,n,c,i,j,k,rfl,l,m,o,s,t,hw⟩
 ·refine mz _ _ _ V _ ⟨fun _ f g=>?_,(fun d=>nomatch d)⟩;congr 1;rw [Bool.eq_iff_iff,beq_iff_eq,decide_eq_true_eq];exact Rat.num_eq_zero
 ·refine mz _ _ _ V _ ⟨(fun d=>nomatch d),fun _ f g=>?_⟩;congr 1;symm;rw [decide_eq_false_iff_not];intro e;subst e;exact hw ⟨by decide,by decide⟩
theorem fK {V:View}{v:Value}{q:Rat}(h:RR V v q){k:Nat}(hs:Sz k q)(hk:k<=1099511627776) :
  Acts prog 214 #[v] V fun r V'=>RR V' r (-q):=by
 rcases h with ⟨rfl,hw⟩|⟨a,b,p,n,c,i,j,l,rfl,s,t,u,w,x,hw⟩
 ·have:=hw.1;refine ns _ _ _ V _ ⟨(fun d=>nomatch d),fun _ y e=>.inl ⟨?_,by unfold Wd;rw [Rat.neg_num,Rat.neg_den,Int.natAbs_neg];exact hw⟩⟩;rw [i64w (by omega),Rat.neg_num,Rat.neg_den,Int.zero_sub]
 ·obtain ⟨rfl,z⟩:=w.inv;refine ns _ _ _ V _ ⟨fun _=>⟨rfl,rfl,decide (q.num<0),p,n,c,a.add 0,rfl,?_,?_,rfl,rfl,i,j,l,⟨_,rfl,u⟩,fun y e=>(wM _ (z.le e) (Nat.le_trans (ae hs.1) hk)).mono ?_⟩,(fun d=>nomatch d)⟩
  ·exact s
  ·simpa [Addr.add] using t
  ·rintro r V2 A m;rw [aM] at m;obtain ⟨B,C,D,rfl,g⟩:=m;refine ⟨_,_,_,_,rfl,fun F o E f=>.inr ⟨⟨E,0,none⟩,decide (-q.num<0),B,C,D,i,j,l,rfl,?_,?_,?_,?_,?_,?_⟩⟩
   ·rw [add_zero'];exact blk_at (xs:=[_,_,_]) f rfl
   ·rw [add_zero'];exact blk_at (xs:=[_,_,_]) f rfl
   ·rw [add_zero'];exact blk_at (xs:=[_,_,_]) f rfl
   ·exact ⟨_,_,_,rfl,g.le o⟩
   ·exact x.le (e.trans (A.trans o))
   ·unfold Wd;rw [Rat.neg_num,Rat.neg_den,Int.natAbs_neg];exact hw
theorem _root_.Go.Eng.Sz.neg {k:Nat}{q:Rat}(h:Sz k q):Sz k (-q):=by unfold Sz;rw [Rat.neg_num,Rat.neg_den,Int.natAbs_neg];exact h
theorem uZ (z:Int)(g:Nat)(h:(g:Int)∣z):(z / g).natAbs<=z.natAbs:=by
 rw [Int.natAbs_ediv_of_dvd h,Int.natAbs_natCast];exact Nat.div_le_self _ _
theorem _root_.Go.Eng.Sz.mkRat {k:Nat}{z:Int}{d:Nat}(h1:z.natAbs<2^k)(h2:d<2^k)(hk:0<k):Sz k (mkRat z d):=by
 have a:1<2^k:=Nat.one_lt_two_pow (by omega);unfold Sz;rw [Rat.num_mkRat,Rat.den_mkRat];split
 ·exact ⟨Nat.two_pow_pos k,a⟩
 ·refine ⟨Nat.lt_of_le_of_lt (uZ _ _ (Int.ofNat_dvd_left.2 (Nat.gcd_dvd_right _ _))) h1,Nat.lt_of_le_of_lt (Nat.div_le_self _ _) h2⟩
theorem bz {a b k m:Nat}(h1:a<2^k)(h2:b<2^m):a*b<2^(k+m):=by rw [Nat.pow_add];exact Nat.mul_lt_mul'' h1 h2
theorem tK {x y:Rat}{k m:Nat}(hx:Sz k x)(hy:Sz m y):(x.num*y.den).natAbs<2^(k+m)/\(y.num*x.den).natAbs<2^(k+m)/\(x.num*y.den+y.num*x.den).natAbs<2^(k+m+1)/\x.den*y.den<2^(k+m):=by
 have a:(x.num*y.den).natAbs<2^(k+m):=by rw [Int.natAbs_mul,Int.natAbs_natCast];exact bz hx.1 hy.2
 have b:(y.num*x.den).natAbs<2^(k+m):=by rw [Int.natAbs_mul,Int.natAbs_natCast,Nat.add_comm];exact bz hy.1 hx.2
 refine ⟨a,b,?_,bz hx.2 hy.2⟩;rw [Nat.pow_succ];omega
theorem _root_.Go.Eng.Sz.add {x y:Rat}{k m:Nat}(hx:Sz k x)(hy:Sz m y):Sz (k+m+1) (x+y):=by
 obtain ⟨-,-,a,b⟩:=tK hx hy;rw [Rat.add_def'];exact Go.Eng.Sz.mkRat a (Nat.lt_of_lt_of_le b (Nat.pow_le_pow_right (by omega) (by omega))) (by omega)
theorem _root_.Go.Eng.Sz.sub {x y:Rat}{k m:Nat}(hx:Sz k x)(hy:Sz m y):Sz (k+m+1) (x-y):=by
 rw [Rat.sub_eq_add_neg];exact hx.add hy.neg
theorem _root_.Go.Eng.Sz.mul {x y:Rat}{k m:Nat}(hx:Sz k x)(hy:Sz m y):Sz (k+m+1) (x*y):=by
 rw [Rat.mul_def'];refine (Go.Eng.Sz.mkRat (k:=k+m+1) ?_ ?_ (by omega))
 ·rw [Int.natAbs_mul];exact Nat.lt_of_lt_of_le (bz hx.1 hy.1) (Nat.pow_le_pow_right (by omega) (by omega))
 ·exact Nat.lt_of_lt_of_le (bz hx.2 hy.2) (Nat.pow_le_pow_right (by omega) (by omega))
theorem kx {V:View}{v w:Value}{x y:Rat}(hx:RR V v x)(hy:RR V w y){k m:Nat}(hk:Sz k x)(hm:Sz m y)(hkm:k+m<1099511627776) :
  Acts prog 188 #[v,w] V fun r V'=>RR V' r (x+y):=by
 obtain ⟨Q,R,S,rfl⟩:=hx.shape;obtain ⟨T,s1,s2,rfl⟩:=hy.shape;have o:x+y=mkRat (x.num*y.den+y.num*x.den) (x.den*y.den):=Rat.add_def' x y;obtain ⟨b1,b2,b3,b4⟩:=tK hk hm
 have gen:(∀Rw:View,V.Le Rw->Acts prog 139 #[.agg #[.int .i64 Q,.int .i64 R,.pointer S]] Rw fun TE UM=>∃Ow:Bool,∃(Jk:OA)(I2 HQ:Nat),TE=.agg #[.bool Ow,.slice Jk I2 HQ]/\(∀Rx:View,UM.Le Rx->Acts prog 207 #[.agg #[.int .i64 T,.int .i64 s1,.pointer s2]] Rx fun TF UN=>∃(Qj:OA)(P6 OJ:Nat),TF=.slice Qj P6 OJ/\(∀UO:View,UN.Le UO->Acts prog 229 #[.agg #[.bool Ow,.slice Jk I2 HQ],.agg #[.bool false,.slice Qj P6 OJ]] UO fun TG W0=>∃Ox:Bool,∃(Jl:OA)(I3 HR:Nat),TG=.agg #[.bool Ox,.slice Jl I3 HR]/\(∀UP:View,W0.Le UP->Acts prog 139 #[.agg #[.int .i64 T,.int .i64 s1,.pointer s2]] UP fun TH W3=>∃Oy:Bool,∃(Qm:OA)(P9 OM:Nat),TH=.agg #[.bool Oy,.slice Qm P9 OM]/\(∀UQ:View,W3.Le UQ->Acts prog 207 #[.agg #[.int .i64 Q,.int .i64 R,.pointer S]] UQ fun TJ W4=>∃(Jm:OA)(I4 HS:Nat),TJ=.slice Jm I4 HS/\(∀UR:View,W4.Le UR->Acts prog 229 #[.agg #[.bool Oy,.slice Qm P9 OM],.agg #[.bool false,.slice Jm I4 HS]] UR fun TL W5=>∃Oz:Bool,∃(Jn:OA)(I5 HT:Nat),TL=.agg #[.bool Oz,.slice Jn I5 HT]/\(∀US:View,W5.Le US->Acts prog 228 #[.agg #[.bool Ox,.slice Jl I3 HR],.agg #[.bool Oz,.slice Jn I5 HT]] US fun TM W6=>∃OB:Bool,∃(Qp:OA)(Qb OP:Nat),TM=.agg #[.bool OB,.slice Qp Qb OP]/\(∀UT:View,W6.Le UT->Acts prog 207 #[.agg #[.int .i64 Q,.int .i64 R,.pointer S]] UT fun TN W7=>∃(Qq:OA)(Qc OQ:Nat),TN=.slice Qq Qc OQ/\(∀UU:View,W7.Le UU->Acts prog 207 #[.agg #[.int .i64 T,.int .i64 s1,.pointer s2]] UU fun TO W8=>∃(Jo:OA)(Qd OR:Nat),TO=.slice Jo Qd OR/\(∀UW:View,W8.Le UW->Acts prog 206 #[.slice Qq Qc OQ,.slice Jo Qd OR] UW fun TP W9=>∃(Qr:OA)(Qe OS:Nat),TP=.slice Qr Qe OS/\(∀UX:View,W9.Le UX->Acts prog 144 #[.agg #[.bool OB,.slice Qp Qb OP],.slice Qr Qe OS] UX fun TQ W_=>∃QQ:Int,∃QR:Int,∃Qs:OA,TQ=.agg #[.int .i64 QQ,.int .i64 QR,.pointer Qs]/\(∀UY:View,W_.Le UY->RR UY (.agg #[.int .i64 QQ,.int .i64 QR,.pointer Qs]) (x+y))))))))))))):=by
  intro u g;refine (fL (hx.le g) hk (by omega)).mono ?_;rintro r V2 i ⟨p1,n1,c1,rfl,B⟩;refine ⟨_,_,_,_,rfl,fun V3 j=>(eY (hy.le (g.trans (i.trans j))) hm (by omega)).mono ?_⟩;rintro r V4 C ⟨p2,n2,c2,rfl,D⟩;have q1:=ae hk.1;have q2:=ae hk.2;have q3:=ae hm.1;have q4:=ae hm.2;refine ⟨_,_,_,rfl,fun V5 z=>(gw _ false (B.le (j.trans (C.trans z))) (D.le z) (by omega)).mono ?_⟩;rintro r V6 K h6;rw [aM,nI,ab] at h6;obtain ⟨p3,n3,c3,rfl,A⟩:=h6;refine ⟨_,_,_,_,rfl,fun V7 E=>(fL (hy.le (g.trans (i.trans (j.trans (C.trans (z.trans (K.trans E))))))) hm (by omega)).mono ?_⟩;rintro r V8 L ⟨p4,n4,c4,rfl,M⟩;refine ⟨_,_,_,_,rfl,fun V9 F=>(eY (hx.le (g.trans (i.trans (j.trans (C.trans (z.trans (K.trans (E.trans (L.trans F))))))))) hk (by omega)).mono ?_⟩;rintro r U l ⟨p5,n5,c5,rfl,N⟩;refine ⟨_,_,_,rfl,fun W f=>(gw _ false (M.le (F.trans (l.trans f))) (N.le f) (by omega)).mono ?_⟩;rintro r a3 G H;rw [aM,nI,ab] at H;obtain ⟨p6,n6,c6,rfl,g6⟩:=H;have q5:=ae b1;have q6:=ae b2;refine ⟨_,_,_,_,rfl,fun a4 q=>(wL _ _ (A.le (E.trans (L.trans (F.trans (l.trans (f.trans (G.trans q))))))) (g6.le q) (by omega) (by omega)).mono ?_⟩;rintro r a5 c_ Ht;rw [aM,aM] at Ht;obtain ⟨p7,n7,c7,rfl,g7⟩:=Ht;have Hy:=g.trans (i.trans (j.trans (C.trans (z.trans (K.trans (E.trans (L.trans (F.trans (l.trans (f.trans (G.trans (q.trans c_))))))))))));refine ⟨_,_,_,_,rfl,fun a6 X=>(eY (hx.le (Hy.trans X)) hk (by omega)).mono ?_⟩;rintro r ll du ⟨p8,n8,c8,rfl,g8⟩;refine ⟨_,_,_,rfl,fun ny Y=>(eY (hy.le (Hy.trans (X.trans (du.trans Y)))) hm (by omega)).mono ?_⟩;rintro r oD dz ⟨p9,n9,c9,rfl,g9⟩;refine ⟨_,_,_,rfl,fun rZ Z=>(gg (g8.le (Y.trans (dz.trans Z))) (g9.le Z) (by omega)).mono ?_⟩;rintro r Bk iO ⟨Hw,a7,a8,rfl,I⟩;rw [ab,ab] at I;have q7:=ae b3;have q8:=ae b4;refine ⟨_,_,_,rfl,fun r_ gC=>(cJ _ (g7.le (X.trans (du.trans (Y.trans (dz.trans (Z.trans (iO.trans gC))))))) (I.le gC) (by omega) (by omega)).mono ?_⟩;rintro r wI kq s;rw [aM,ab,←o] at s;obtain ⟨n,d,p,rfl⟩:=s.shape;exact ⟨_,_,_,rfl,fun xZ je=>s.le je⟩
 have lift:∀u:View,V.Le u->∀V2:View,u.Le V2->V.Le V2:=fun _ h _ h'=>h.trans h';rcases hx with ⟨ex,wx⟩|⟨a,b,p,n,c,p',n',c',ex,-,-,-,-,-,wx⟩
 ·rcases hy with ⟨J,wy⟩|⟨a,b,p,n,c,p',n',c',J,-,-,-,-,-,wy⟩
  ·simp only [Value.agg.injEq,Array.mk.injEq,List.cons.injEq,Value.int.injEq,Value.pointer.injEq,true_and,and_true] at ex J;obtain ⟨rfl,rfl,rfl⟩:=ex;obtain ⟨rfl,rfl,rfl⟩:=J;obtain ⟨QK,WQ⟩:=wx;obtain ⟨QL,WR⟩:=wy;have dx:=x.den_nz;have dy:=y.den_nz;have e1:i64.wrap ((x.den:Int)-1+1)=x.den:=by rw [i64w (by omega)];omega
   have e2:i64.wrap ((y.den:Int)-1+1)=y.den:=by rw [i64w (by omega)];omega
   refine jJ _ _ _ _ _ _ V _ ⟨fun _=>⟨fun _ _=>True,⟨fun _=>⟨fun O=>⟨fun P u g=>?_,fun P=>?_⟩,fun O=>?_⟩,(fun h=>nomatch h)⟩,fun _ u g _=>⟨by trivial,fun V2 i=>gen V2 (g.trans i)⟩⟩,(fun h=>nomatch h)⟩
   ·have O:x.den=1:=by rw [beq_iff_eq] at O;omega
    have P:y.den=1:=by rw [beq_iff_eq] at P;omega
    rw [i64w (by omega)];refine (iD _ (by omega) (by omega)).mono ?_;rintro r V2 i t
    have e:((x.num+y.num:Int):Rat)=x+y:=by
     rw [o,O,P];simp only [Nat.mul_one,Int.natCast_one,Int.mul_one];exact (mkRat_one _).symm
    rw [e] at t;obtain ⟨n,d,p,rfl⟩:=t.shape;exact ⟨_,_,_,rfl,fun V3 j=>t.le j⟩
   all_goals
    rw [e1,e2];refine fun V4 C=>(fN _ _ QK (by omega)).mono ?_;rintro r V5 z ⟨z1,rfl,a0⟩;refine ⟨_,_,rfl,fun V6 K=>(fN _ _ QL (by omega)).mono ?_⟩;rintro r V7 E ⟨z2,rfl,a1⟩;refine ⟨_,_,rfl,fun V8 L=>(fN _ _ (by omega) (by omega)).mono ?_⟩;rintro r V9 F ⟨z3,rfl,a2⟩;refine ⟨_,_,rfl,fun B=>⟨fun D=>⟨fun A=>⟨fun M=>⟨fun N U l=>?_,fun _=>⟨(),by and_intros<;>rfl,trivial⟩⟩,fun _=>⟨(),by and_intros<;>rfl,trivial⟩⟩,fun _=>⟨(),by and_intros<;>rfl,trivial⟩⟩,fun _=>⟨(),by and_intros<;>rfl,trivial⟩⟩,fun _=>⟨(),by and_intros<;>rfl,trivial⟩⟩;rw [decide_eq_true_eq] at B D A M N;have k1:=a0 B;have k2:=a1 D;have k3:=a2 A;rw [←k1] at B;rw [←k2] at D;rw [←Int.natCast_mul,Int.natAbs_natCast] at A;rw [←Int.natCast_mul] at k3;rw [i64w (by omega)] at M N ⊢;rw [k3];refine (mX _ _ (by omega) A (Nat.mul_ne_zero dx dy)).mono ?_;rintro r W f t;rw [k1,k2,←o] at t;obtain ⟨n,d,p,rfl⟩:=t.shape;exact ⟨_,_,_,rfl,fun V3 j=>t.le j⟩
  ·simp only [Value.agg.injEq,Array.mk.injEq,List.cons.injEq,Value.int.injEq,Value.pointer.injEq,true_and,and_true] at ex J;obtain ⟨rfl,rfl,rfl⟩:=ex;obtain ⟨rfl,rfl,rfl⟩:=J;exact jJ _ _ _ _ _ _ V _ ⟨fun _=>⟨fun _ _=>True,⟨(fun h=>nomatch h),fun _=>⟨(),by and_intros<;>rfl,trivial⟩⟩,fun _ u g _=>⟨by trivial,fun V2 i=>gen V2 (g.trans i)⟩⟩,(fun h=>nomatch h)⟩
 ·simp only [Value.agg.injEq,Array.mk.injEq,List.cons.injEq,Value.int.injEq,Value.pointer.injEq,true_and,and_true] at ex;obtain ⟨rfl,rfl,rfl⟩:=ex;exact jJ _ _ _ _ _ _ V _ ⟨(fun h=>nomatch h),fun _=>gen⟩
end Go.Proofs.Tryz
namespace Go.Big
def eM (x y:Rat):Int:=(x-y).num.sign
def jB (x y:Rat):Rat:=mkRat (Nat.gcd (x.num.natAbs*y.den) (y.num.natAbs*x.den):Nat) (x.den*y.den)
theorem Cu {q:Rat}:q.num<0↔q<0:=by
 have:=@Rat.num_nonneg q;rw [←Rat.not_le,←this];omega
theorem Cv {q:Rat}:0<q.num↔0<q:=by
 have b:=@Rat.num_nonneg q;have c:=@Rat.num_eq_zero q;rw [Rat.lt_iff_le_and_ne,←b];constructor
 ·intro h;exact ⟨by omega,fun e=>by rw [←e] at h;simp at h⟩
 ·rintro ⟨h,a⟩;have:q.num≠0:=fun e=>a (c.1 e).symm;omega
theorem zT {x y:Rat}:x<y↔eM x y=-1:=by
 unfold eM;rw [Int.sign_eq_neg_one_iff_neg,Cu,Rat.lt_iff_sub_pos x y,←Rat.neg_sub y x];constructor
 ·intro h;have:=Rat.neg_lt_neg h;simpa using this
 ·intro h;have:=Rat.neg_lt_neg h;rw [Rat.neg_neg] at this;simpa using this
theorem th {x y:Rat}:y<x↔eM x y=1:=by
 unfold eM;rw [Int.sign_eq_one_iff_pos,Cv,Rat.lt_iff_sub_pos y x]
theorem h_ {x y:Rat}:x=y↔eM x y=0:=by
 unfold eM;rw [Int.sign_eq_zero_iff_zero,Rat.num_eq_zero];constructor
 ·intro h;subst h;exact Rat.sub_self
 ·intro h;have:=congrArg (·+ y) h;simpa [Rat.sub_add_cancel,Rat.zero_add] using this
end Go.Big
namespace Go.Proofs.Tryz
open Go.Eng Go.Big
theorem zI {V:View}{v w:Value}{x y:Rat}(hx:RR V v x)(hy:RR V w y){k m:Nat}(hk:Sz k x)(hm:Sz m y)(hkm:k+m<1099511627776) :
  Acts prog 232 #[v,w] V fun r V'=>RR V' r (x-y):=by
 obtain ⟨h,i,j,rfl⟩:=hx.shape;obtain ⟨l,s1,s2,rfl⟩:=hy.shape;refine xl _ _ _ _ _ _ V _ fun o b=>(fK (hy.le b) hm (by omega)).mono ?_;rintro r V2 f c;obtain ⟨n,d,p,rfl⟩:=c.shape;refine ⟨_,_,_,rfl,fun q e=>(kx (hx.le (b.trans (f.trans e))) (c.le e) hk hm.neg hkm).mono ?_⟩;rintro r s t a;rw [←Rat.sub_eq_add_neg] at a;obtain ⟨n,d,p,rfl⟩:=a.shape;exact ⟨_,_,_,rfl,fun u g=>a.le g⟩
theorem ky {V:View}{v w:Value}{x y:Rat}(hx:RR V v x)(hy:RR V w y){k m:Nat}(hk:Sz k x)(hm:Sz m y)(hkm:k+m<1099511627776) :
  Acts prog 208 #[v,w] V fun r V'=>r=.int .i64 (eM x y):=by
 obtain ⟨u,z,A,rfl⟩:=hx.shape;obtain ⟨B,s1,s2,rfl⟩:=hy.shape
 have gen:∀V14:View,V.Le V14->Acts prog 232 #[.agg #[.int .i64 u,.int .i64 z,.pointer A],.agg #[.int .i64 B,.int .i64 s1,.pointer s2]] V14 fun C i=>∃WU:Int,∃QM:Int,∃Qg:OA,C=.agg #[.int .i64 WU,.int .i64 QM,.pointer Qg]/\(∀ll:View,i.Le ll->Acts prog 146 #[.agg #[.int .i64 WU,.int .i64 QM,.pointer Qg]] ll fun D E=>∃QN:Int,D=.int .i64 QN/\(∀oD:View,E.Le oD->Value.int .i64 QN=.int .i64 (eM x y))):=by
  intro j f;refine (zI (hx.le f) (hy.le f) hk hm hkm).mono ?_;rintro r V2 O s;obtain ⟨n,d,p,rfl⟩:=s.shape;refine ⟨_,_,_,rfl,fun P F=>(fM (s.le F) (hk.sub hm) (by omega)).mono ?_⟩;rintro r Q R rfl;exact ⟨_,rfl,fun _ _=>rfl⟩
 rcases hx with ⟨ex,G⟩|⟨a,b,p,n,c,H,I,J,ex,-,-,-,-,-,G⟩
 ·rcases hy with ⟨g,K⟩|⟨a,b,p,n,c,H,I,J,g,-,-,-,-,-,K⟩
  ·simp only [Value.agg.injEq,Array.mk.injEq,List.cons.injEq,Value.int.injEq,Value.pointer.injEq,true_and,and_true] at ex g;obtain ⟨rfl,rfl,rfl⟩:=ex;obtain ⟨rfl,rfl,rfl⟩:=g
   have l:x.den=y.den->((x<y↔x.num<y.num)/\(y<x↔y.num<x.num)/\(x=y↔x.num=y.num)):=by
    intro e;have t:(0:Int)<y.den:=by have:=y.den_nz;omega
    refine ⟨?_,?_,fun h=>by rw [h],fun h=>Rat.ext h e⟩
    ·rw [Rat.lt_iff,e];exact ⟨fun h=>Int.lt_of_mul_lt_mul_right h (by omega),fun h=>Int.mul_lt_mul_of_pos_right h t⟩
    ·rw [Rat.lt_iff,e];exact ⟨fun h=>Int.lt_of_mul_lt_mul_right h (by omega),fun h=>Int.mul_lt_mul_of_pos_right h t⟩
   refine jK _ _ _ _ _ _ V _ ⟨fun _=>⟨fun _=>⟨fun o=>?_,fun _=>gen⟩,(fun h=>nomatch h)⟩,(fun h=>nomatch h)⟩;have o:x.den=y.den:=by rw [beq_iff_eq] at o;omega
   obtain ⟨L,M,N⟩:=l o;refine ⟨fun h j f=>?_,fun h=>⟨fun q j f=>?_,fun q j f=>?_⟩⟩
   ·rw [zT.1 (L.2 (by simpa using h))]
   ·rw [th.1 (M.2 (by simpa using q))]
   ·rw [h_.1 (N.2 (by rw [decide_eq_false_iff_not] at h q;omega))]
  ·simp only [Value.agg.injEq,Array.mk.injEq,List.cons.injEq,Value.int.injEq,Value.pointer.injEq,true_and,and_true] at ex g;obtain ⟨rfl,rfl,rfl⟩:=ex;obtain ⟨rfl,rfl,rfl⟩:=g;exact jK _ _ _ _ _ _ V _ ⟨fun _=>⟨(fun h=>nomatch h),fun _=>gen⟩,(fun h=>nomatch h)⟩
 ·simp only [Value.agg.injEq,Array.mk.injEq,List.cons.injEq,Value.int.injEq,Value.pointer.injEq,true_and,and_true] at ex;obtain ⟨rfl,rfl,rfl⟩:=ex;exact jK _ _ _ _ _ _ V _ ⟨(fun h=>nomatch h),fun _=>gen⟩
theorem yv {V:View}{v w:Value}{x y:Rat}(hx:RR V v x)(hy:RR V w y){k m:Nat}(hk:Sz k x)(hm:Sz m y)(hkm:k+m<1099511627776) :
  Acts prog 163 #[v,w] V fun r V'=>r=.bool (decide (x=y)):=by
 obtain ⟨b,c,d,rfl⟩:=hx.shape;obtain ⟨e,s1,s2,rfl⟩:=hy.shape;refine sI _ _ _ _ _ _ V _ fun f a=>(ky (hx.le a) (hy.le a) hk hm hkm).mono ?_;rintro r V2 g rfl;refine ⟨_,rfl,fun h i=>?_⟩;congr 1;rw [Bool.eq_iff_iff,beq_iff_eq,decide_eq_true_eq,h_]
theorem BU {x y:Rat}{k m:Nat}(hx:Sz k x)(hy:Sz m y):x.num.natAbs*y.den<2^(k+m)/\y.num.natAbs*x.den<2^(k+m)/\Nat.gcd (x.num.natAbs*y.den) (y.num.natAbs*x.den)<2^(k+m)/\x.den*y.den<2^(k+m):=by
 have a:x.num.natAbs*y.den<2^(k+m):=bz hx.1 hy.2;have b:y.num.natAbs*x.den<2^(k+m):=by rw [Nat.add_comm];exact bz hy.1 hx.2
 refine ⟨a,b,?_,bz hx.2 hy.2⟩;rcases Nat.eq_zero_or_pos (x.num.natAbs*y.den) with e|e
 ·rw [e,Nat.gcd_zero_left];exact b
 ·exact Nat.lt_of_le_of_lt (Nat.le_of_dvd e (Nat.gcd_dvd_left _ _)) a
theorem mD {x y:Rat}{k m:Nat}(hx:Sz k x)(hy:Sz m y):Sz (k+m+1) (jB x y):=by
 obtain ⟨-,-,a,b⟩:=BU hx hy;have c:2^(k+m)<=2^(k+m+1):=Nat.pow_le_pow_right (by omega) (by omega);exact Go.Eng.Sz.mkRat (by rw [Int.natAbs_natCast];omega) (by omega) (by omega)
theorem kz {V:View}{v w:Value}{x y:Rat}(hx:RR V v x)(hy:RR V w y){k m:Nat}(hk:Sz k x)(hm:Sz m y)(hkm:k+m<1099511627776) :
  Acts prog 162 #[v,w] V fun r V'=>RR V' r (jB x y):=by
 obtain ⟨C,D,E,rfl⟩:=hx.shape;obtain ⟨F,s1,s2,rfl⟩:=hy.shape;obtain ⟨b1,b2,b3,b4⟩:=BU hk hm;have q1:=ae hk.1;have q2:=ae hk.2;have q3:=ae hm.1;have q4:=ae hm.2;have q5:=ae b1;have q6:=ae b2;have q7:=ae b3;have q8:=ae b4
 have gen:(∀UZ:View,V.Le UZ->Acts prog 207 #[.agg #[.int .i64 C,.int .i64 D,.pointer E]] UZ fun TR Xa=>∃(Qh:OA)(P4 OG:Nat),TR=.slice Qh P4 OG/\(∀U0:View,Xa.Le U0->Acts prog 207 #[.agg #[.int .i64 F,.int .i64 s1,.pointer s2]] U0 fun TS Xb=>∃(Qi:OA)(P5 OH:Nat),TS=.slice Qi P5 OH/\(∀U1:View,Xb.Le U1->Acts prog 206 #[.slice Qh P4 OG,.slice Qi P5 OH] U1 fun TT Xc=>∃(Jk:OA)(I2 HQ:Nat),TT=.slice Jk I2 HQ/\(∀U2:View,Xc.Le U2->Acts prog 139 #[.agg #[.int .i64 C,.int .i64 D,.pointer E]] U2 fun TU Xd=>∃RA:Bool,∃(Qk:OA)(P7 OK:Nat),TU=.agg #[.bool RA,.slice Qk P7 OK]/\(∀U3:View,Xd.Le U3->Acts prog 207 #[.agg #[.int .i64 F,.int .i64 s1,.pointer s2]] U3 fun TV Xe=>∃(Jl:OA)(I3 HR:Nat),TV=.slice Jl I3 HR/\(∀U4:View,Xe.Le U4->Acts prog 206 #[.slice Qk P7 OK,.slice Jl I3 HR] U4 fun TW Xf=>∃(Ql:OA)(P8 OL:Nat),TW=.slice Ql P8 OL/\(∀U5:View,Xf.Le U5->Acts prog 139 #[.agg #[.int .i64 F,.int .i64 s1,.pointer s2]] U5 fun TX Xg=>∃RB:Bool,∃(Jm:OA)(I4 HS:Nat),TX=.agg #[.bool RB,.slice Jm I4 HS]/\(∀U6:View,Xg.Le U6->Acts prog 207 #[.agg #[.int .i64 C,.int .i64 D,.pointer E]] U6 fun TY Xi=>∃(Qn:OA)(P_ ON:Nat),TY=.slice Qn P_ ON/\(∀U7:View,Xi.Le U7->Acts prog 206 #[.slice Jm I4 HS,.slice Qn P_ ON] U7 fun TZ Xj=>∃(Jn:OA)(I5 HT:Nat),TZ=.slice Jn I5 HT/\(∀U8:View,Xj.Le U8->Acts prog 183 #[.slice Ql P8 OL,.slice Jn I5 HT] U8 fun T0 Xk=>∃(Qo:OA)(Qa OO:Nat),T0=.slice Qo Qa OO/\(∀U9:View,Xk.Le U9->Acts prog 144 #[.agg #[.bool false,.slice Qo Qa OO],.slice Jk I2 HQ] U9 fun T1 Xl=>∃QO:Int,∃QP:Int,∃Jo:OA,T1=.agg #[.int .i64 QO,.int .i64 QP,.pointer Jo]/\(∀Ot:View,Xl.Le Ot->RR Ot (.agg #[.int .i64 QO,.int .i64 QP,.pointer Jo]) (jB x y))))))))))))):=by
  intro O l;refine (eY (hx.le l) hk (by omega)).mono ?_;rintro r V2 o ⟨p1,n1,c1,rfl,g1⟩;refine ⟨_,_,_,rfl,fun V3 z=>(eY (hy.le (l.trans (o.trans z))) hm (by omega)).mono ?_⟩;rintro r V4 G ⟨p2,n2,c2,rfl,g2⟩;refine ⟨_,_,_,rfl,fun V5 A=>(gg (g1.le (z.trans (G.trans A))) (g2.le A) (by omega)).mono ?_⟩;rintro r V6 P ⟨p3,n3,c3,rfl,Q⟩;rw [ab,ab] at Q;have H:=l.trans (o.trans (z.trans (G.trans (A.trans P))));refine ⟨_,_,_,rfl,fun V7 q=>(fL (hx.le (H.trans q)) hk (by omega)).mono ?_⟩;rintro r V8 I ⟨p4,n4,c4,rfl,g4⟩;refine ⟨_,_,_,_,rfl,fun V9 B=>(eY (hy.le (H.trans (q.trans (I.trans B)))) hm (by omega)).mono ?_⟩;rintro r a0 g ⟨p5,n5,c5,rfl,g5⟩;refine ⟨_,_,_,rfl,fun a1 f=>(gg (g4.le (B.trans (g.trans f))) (g5.le f) (by omega)).mono ?_⟩;rintro r a2 s ⟨p6,n6,c6,rfl,R⟩;rw [ab,ab] at R;have S:=H.trans (q.trans (I.trans (B.trans (g.trans (f.trans s)))));refine ⟨_,_,_,rfl,fun a3 i=>(fL (hy.le (S.trans i)) hm (by omega)).mono ?_⟩;rintro r a4 T ⟨p7,n7,c7,rfl,g7⟩;refine ⟨_,_,_,_,rfl,fun a5 J=>(eY (hx.le (S.trans (i.trans (T.trans J)))) hk (by omega)).mono ?_⟩;rintro r ll U ⟨p8,n8,c8,rfl,g8⟩;refine ⟨_,_,_,rfl,fun ny K=>(gg (g7.le (J.trans (U.trans K))) (g8.le K) (by omega)).mono ?_⟩;rintro r oD dz ⟨p9,n9,c9,rfl,W⟩;rw [ab,ab] at W;have X:=i.trans (T.trans (J.trans (U.trans (K.trans dz))));refine ⟨_,_,_,rfl,fun rZ L=>(yx (R.le (X.trans L)) (W.le L) (by omega) (by omega)).mono ?_⟩;rintro r Bk iO ⟨Hw,a6,a7,rfl,t⟩;rw [ab,ab] at t;refine ⟨_,_,_,rfl,fun r_ Y=>(cJ false (t.le Y) (Q.le (q.trans (I.trans (B.trans (g.trans (f.trans (s.trans (X.trans (L.trans (iO.trans Y)))))))))) (by omega) (by omega)).mono ?_⟩;rintro r wI kq j;rw [nI,ab,ab] at j;obtain ⟨n,d,p,rfl⟩:=j.shape;exact ⟨_,_,_,rfl,fun xZ je=>j.le je⟩
 rcases hx with ⟨ex,Z⟩|⟨a,b,p,n,c,p',n',c',ex,-,-,-,-,-,Z⟩
 ·rcases hy with ⟨u,wy⟩|⟨a,b,p,n,c,p',n',c',u,-,-,-,-,-,wy⟩
  ·simp only [Value.agg.injEq,Array.mk.injEq,List.cons.injEq,Value.int.injEq,Value.pointer.injEq,true_and,and_true] at ex u;obtain ⟨rfl,rfl,rfl⟩:=ex;obtain ⟨rfl,rfl,rfl⟩:=u;obtain ⟨QK,WQ⟩:=Z;obtain ⟨QL,WR⟩:=wy;refine mw _ _ _ _ _ _ V _ ⟨fun _=>⟨fun _=>⟨fun M=>⟨fun _ _=>True,⟨fun N O l=>?_,fun _=>⟨(),by and_intros<;>rfl,trivial⟩⟩,fun _ O l _=>⟨by trivial,fun V2 o=>gen V2 (l.trans o)⟩⟩,fun _=>gen⟩,(fun h=>nomatch h)⟩,(fun h=>nomatch h)⟩;have M:x.den=1:=by rw [beq_iff_eq] at M;omega
   have N:y.den=1:=by rw [beq_iff_eq] at N;omega
   refine (iE _ (by omega) (by omega)).mono ?_;rintro r V2 o rfl;refine ⟨_,rfl,fun V3 z=>(iE _ (by omega) (by omega)).mono ?_⟩;rintro r V4 G rfl;refine ⟨_,rfl,fun V5 A=>(tV _ _ (by omega) (by omega)).mono ?_⟩;rintro r V6 P rfl;refine ⟨_,rfl,fun V7 q=>.inl ?_⟩
   have e:jB x y=((Nat.gcd x.num.natAbs y.num.natAbs:Nat):Int):=by
    unfold jB;rw [M,N,Nat.mul_one,Nat.mul_one,Nat.mul_one];exact mkRat_one _
   have hl:Nat.gcd x.num.natAbs y.num.natAbs<4611686018427387904:=by
    rcases Nat.eq_zero_or_pos x.num.natAbs with e|e
    ·rw [e,Nat.gcd_zero_left];exact QL
    ·exact Nat.lt_of_le_of_lt (Nat.le_of_dvd e (Nat.gcd_dvd_left _ _)) QK
   rw [e,i64w (by omega)];exact ⟨rfl,uJ (by rw [Int.natAbs_natCast];exact hl)⟩
  ·simp only [Value.agg.injEq,Array.mk.injEq,List.cons.injEq,Value.int.injEq,Value.pointer.injEq,true_and,and_true] at ex u;obtain ⟨rfl,rfl,rfl⟩:=ex;obtain ⟨rfl,rfl,rfl⟩:=u;exact mw _ _ _ _ _ _ V _ ⟨fun _=>⟨(fun h=>nomatch h),fun _=>gen⟩,(fun h=>nomatch h)⟩
 ·simp only [Value.agg.injEq,Array.mk.injEq,List.cons.injEq,Value.int.injEq,Value.pointer.injEq,true_and,and_true] at ex;obtain ⟨rfl,rfl,rfl⟩:=ex;exact mw _ _ _ _ _ _ V _ ⟨(fun h=>nomatch h),fun _=>gen⟩
end Go.Proofs.Tryz
