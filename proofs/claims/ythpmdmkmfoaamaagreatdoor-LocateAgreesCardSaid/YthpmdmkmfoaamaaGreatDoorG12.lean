import Derived.Test.YthpmdmkmfoaamaaGreatDoorG6
import Derived.Test.YthpmdmkmfoaamaaGreatDoorG10
import Derived.Test.YthpmdmkmfoaamaaGreatDoorG11
import Derived.Test.YthpmdmkmfoaamaaGreatDoorG7
set_option linter.unusedVariables false
open Go.IntKind (i64 u64 u32)
namespace Go.Proofs.Tryz
open Go.bK Go.fV
theorem cV {V:View}{p:OA}{n c:Nat}{ds:List Nat}(h:RD V p n c ds)(hm:ds.length<=4611686018427387904) :
  ab prog 123 #[.slice p n c] V fun r V'=>∃k,r=.slice p k c/\RD V' p k c (b_ ds):=by
 have hl:=h.len
 have hcp:=h.cap
 refine Cf p n c V _ ?_
 refine ⟨fun z V'=>0<=z/\z<=n/\b_ (ds.take z.toNat)=b_ ds,fun z=>z.toNat,⟨n,by (try dsimp only);and_intros<;>first|exact True.intro|rfl,by (try dsimp only);omega,by (try dsimp only);omega,?_⟩,?_⟩
 ·simp [hl]
 ·rintro k V1 l1 ⟨hk0,hk,ht⟩
  obtain ⟨k,rfl⟩:=Int.eq_ofNat_of_zero_le hk0
  dsimp only at hk ht ⊢
  simp only [Int.toNat_natCast] at ht
  refine ⟨rfl,fun h0=>?_,fun h0=>?_⟩
  ·have h0:0<k:=by simpa using h0
   have w:i64.wrap ((k:Int)-1)=((k-1:Nat):Int):=by rw [ar (by omega)];omega
   simp only [w]
   have hs:ds.take k=ds.take (k-1)++[ds[k-1]]:=by rw [←List.take_succ_eq_append_getElem (by omega),Nat.sub_add_cancel h0]
   refine (h.le l1).rd (k-1) rfl (by omega) ⟨fun hz=>?_,fun hz=>?_⟩
   ·have hz:ds[k-1]=0:=by simpa using hz
    refine ⟨_,?_,by (try dsimp only);and_intros<;>first|exact True.intro|rfl,?_,?_,?_⟩
    ·(try dsimp only);omega
    ·(try dsimp only);omega
    ·(try dsimp only);omega
    ·(try dsimp only)
     rw [←ht,hs,hz,gT];rfl
   ·have hz:ds[k-1]≠0:=by simpa using hz
    refine ⟨⟨by omega,by omega⟩,fun V2 l2=>⟨k,rfl,?_⟩⟩
    rw [←ht,hs,oR _ _ hz,←hs]
    exact ((h.le l1).le l2).take (by omega)
  ·have h0:k=0:=by simpa using h0
   subst h0
   refine ⟨⟨by omega,by omega⟩,fun V2 l2=>⟨0,rfl,?_⟩⟩
   rw [←ht]
   exact ((h.le l1).le l2).take (by omega)
theorem cW {V:View}(u:Nat)(h1:u<18446744073709551616) :
  ab prog 122 #[.int .u64 (u:Int)] V fun r V'=>∃q k c',r=.slice q k c'/\RN V' q k c' u:=by
 refine Cg _ V _ ⟨by omega,fun V1 l1 bk hb=>?_⟩
 rw [lN,ic,qt (by omega)] at hb
 have hb:V1.bE bk (.cells (aF [u%4294967296,u / 4294967296]).toArray 186 (0,0)):=by
  simpa [aF] using hb
 have hd:bV [u%4294967296,u / 4294967296]:=by simp [bV];omega
 refine (cV (RD.bE hb hd (n:=2) (c:=2) rfl (Nat.le_refl _)) (by simp)).mono ?_
 rintro r V2 l2 ⟨k,rfl,h2⟩
 refine ⟨_,_,_,rfl,fun _ V3 l3=>⟨_,_,_,rfl,?_⟩⟩
 rw [aR hd] at h2
 have:val [u%4294967296,u / 4294967296]=u:=by simp;omega
 rw [this] at h2
 exact h2.le l3
theorem mZ {V:View} :
  ab prog 121 #[] V fun r V'=>∃q k c',r=.slice q k c'/\RN V' q k c' 1:=by
 refine DG V _ fun V1 l1 bk hb=>⟨_,_,_,rfl,?_⟩
 have hd:ai 1=[1]:=Ig (by omega) (by omega)
 unfold RN
 rw [hd]
 have hb:V1.bE bk (.cells (aF [1]).toArray 186 (0,0)):=by
  simpa [aF] using hb
 exact RD.bE hb (by simp [bV]) rfl (Nat.le_refl _)
def E_ (x:Int):Int:=if 0<x then 1 else if x<0 then -1 else 0
theorem CG {V:View}(x:Int) :
  ab prog 164 #[.int .i64 x] V fun r V'=>r=.int .i64 (E_ x):=by
 refine Ci x V _ ⟨fun h V1 l1=>?_,fun h=>⟨fun h2 V1 l1=>?_,fun h2 V1 l1=>?_⟩⟩
 ·have h:0<x:=by simpa using h
  rw [E_,if_pos h]
 ·have h:x<0:=by simpa using h2
  rw [E_,if_neg (by omega),if_pos h]
 ·have h:¬0<x:=by simpa using h
  have h2:¬x<0:=by simpa using h2
  rw [E_,if_neg h,if_neg h2]
theorem iz {V:View}{p q:OA}{n c m e:Nat}{x y:Nat}(ha:RN V p n c x)(hb:RN V q m e y)(hm:(ai x).length<=1099511627776)(hn:(ai y).length<=1099511627776) :
  ab prog 119 #[.slice p n c,.slice q m e] V fun r V'=>r=.int .i64 (kk x y):=by
 have hl1:=ha.len
 have hl2:=hb.len
 refine DC p n c q m e V _ ⟨fun h0 V1 l1=>?_,fun h0=>?_⟩
 ·have w:i64.wrap ((n:Int)-m)=(n:Int)-m:=ar (by omega)
  simp only [w]
  refine (CG _).mono ?_
  rintro r V2 l2 rfl
  refine ⟨_,rfl,fun V3 l3=>?_⟩
  have h0:n≠m:=by simp at h0;omega
  congr 1
  rcases Nat.lt_or_ge n m with h|h
  ·have:=kt (a:=x) (b:=y) (by omega)
   rw [kk,if_pos this,E_,if_neg (by omega),if_pos (by omega)]
  ·have:=kt (a:=y) (b:=x) (by omega)
   rw [kk,if_neg (by omega),if_pos this,E_,if_pos (by omega)]
 ·have h0:n=m:=by simp at h0;omega
  subst h0
  have w:i64.wrap ((n:Int)-1)=(n:Int)-1:=ar (by omega)
  simp only [w]
  refine ⟨fun z V'=>-1<=z/\z<n/\(ai x).drop (z+1).toNat=(ai y).drop (z+1).toNat,fun z=>(z+1).toNat,⟨_,by (try dsimp only);and_intros<;>first|exact True.intro|rfl,by (try dsimp only);omega,by (try dsimp only);omega,?_⟩,?_⟩
  ·(try dsimp only)
   rw [List.drop_of_length_le (by omega),List.drop_of_length_le (by omega)]
  ·rintro i V7 l7 ⟨hi0,hi1,hd⟩
   dsimp only at hi0 hi1 hd ⊢
   refine ⟨by trivial,fun h3=>?_,fun h3 V5 l5=>?_⟩
   ·have h3:0<=i:=by simpa using h3
    obtain ⟨i,rfl⟩:=Int.eq_ofNat_of_zero_le h3
    have w:i64.wrap ((i:Int)-1)=(i:Int)-1:=ar (by omega)
    simp only [w]
    have hd':(ai x).drop (i+1)=(ai y).drop (i+1):=hd
    refine (ha.le l7).rd i rfl (by omega) ((hb.le l7).rd i rfl (by omega) ⟨fun h4 V8 l8=>?_,fun h4=>?_⟩)
    ·have:=jz (aE y) (by omega) (by omega) hd'.symm (by simpa using h4)
     rw [ag,ag] at this
     rw [kk,if_neg (by omega),if_pos this]
    ·refine (ha.le l7).rd i rfl (by omega) ((hb.le l7).rd i rfl (by omega) ⟨fun h5 V8 l8=>?_,fun h5=>?_⟩)
     ·have:=jz (aE x) (by omega) (by omega) hd' (by simpa using h5)
      rw [ag,ag] at this
      rw [kk,if_pos this]
     ·refine ⟨_,?_,by (try dsimp only);and_intros<;>first|exact True.intro|rfl,?_,?_,?_⟩
      ·(try dsimp only);omega
      ·(try dsimp only);omega
      ·(try dsimp only);omega
      ·(try dsimp only)
       have:((i:Int)-1+1).toNat=i:=by omega
       rw [this,List.drop_eq_getElem_cons (by omega),List.drop_eq_getElem_cons (l:=ai y) (by omega),hd']
       congr 1
       simp at h4 h5
       omega
   ·have h3:i=-1:=by simp at h3;omega
    subst h3
    have:ai x=ai y:=by simpa using hd
    have:=uq this
    subst this
    simp [kk]
theorem Gu (a b:Nat):bQ (a:Int) (b:Int)=((max a b:Nat):Int):=by
 unfold bQ
 split<;>omega
theorem EE {V:View}{p q:OA}{n c m e:Nat}{xs ys:List Nat}(hx:RD V p n c xs)(hy:RD V q m e ys)(hm:xs.length<=1099511627776)(hn:ys.length<=1099511627776) :
  ab prog 118 #[.slice p n c,.slice q m e] V fun r V'=>∃p' n' c',r=.slice p' n' c'/\RN V' p' n' c' (val xs+val ys):=by
 have hlx:=hx.len
 have Ap:=hy.len
 have vc:=DJ p n c q m e V
 have w:i64.wrap (((max n m:Nat):Int)+1)=((max n m+1:Nat):Int):=by rw [ar (by omega)];omega
 simp only [Gu,w,Int.toNat_natCast] at vc
 obtain ⟨k,hk⟩:∃k,k=max n m:=⟨_,rfl⟩
 rw [←hk] at vc
 refine vc _ ⟨by omega,by omega,by omega,fun z V'=>0<=z.1/\z.1<=1/\0<=z.2.1/\z.2.1<=k/\∃es:List Nat,z.2.2=aF es/\es.length=k+1/\bV es /\
   val (es.take z.2.1.toNat)+4294967296^z.2.1.toNat*z.1.toNat=val (xs.take z.2.1.toNat)+val (ys.take z.2.1.toNat),fun z=>k-z.2.1.toNat,⟨(0,0,aF (List.replicate (k+1) 0)),by (try dsimp only);and_intros<;>first|exact True.intro|rfl|exact cH _,by (try dsimp only);omega,by (try dsimp only);omega,by (try dsimp only);omega,by (try dsimp only);omega,_,rfl,by simp,bV.rep _,by simp⟩,?_⟩
 rintro ⟨cy,i,vs⟩ V2 l2 ⟨hc0,hc1,hi0,hi1,es,rfl,hes,hde,hv⟩
 dsimp only at hc0 hc1 hi0 hi1 hv ⊢
 obtain ⟨i,rfl⟩:=Int.eq_ofNat_of_zero_le hi0
 obtain ⟨cy,rfl⟩:=Int.eq_ofNat_of_zero_le hc0
 simp only [Int.toNat_natCast] at hv
 refine ⟨by trivial,fun h3=>?_,fun h3=>?_⟩
 ·have h3:i<k:=by simpa using h3
  refine ⟨fun z V'=>∃x:Nat,z=x/\x<4294967296/\val (xs.take (i+1))=val (xs.take i)+4294967296^i*x,⟨fun h4=>?_,fun h4=>?_⟩,?_⟩
  ·have h4:i<n:=by simpa using h4
   refine (hx.le l2).rd i rfl (by omega) ?_
   exact ⟨_,by (try dsimp only);and_intros<;>first|exact True.intro|rfl,xs[i],rfl,hx.eI.get (by omega),aA _ _ (by omega)⟩
  ·have h4:n<=i:=by simpa using h4
   exact ⟨_,by (try dsimp only);and_intros<;>first|exact True.intro|rfl,0,rfl,by omega,by rw [aq (by omega),aq (by omega)];simp⟩
  rintro _ V3 l3 ⟨x,rfl,hx1,hx2⟩
  refine ⟨by trivial,fun z V'=>∃y:Nat,z=y/\y<4294967296/\val (ys.take (i+1))=val (ys.take i)+4294967296^i*y,⟨fun h4=>?_,fun h4=>?_⟩,?_⟩
  ·have h4:i<m:=by simpa using h4
   refine ((hy.le l2).le l3).rd i rfl (by omega) ?_
   exact ⟨_,by (try dsimp only);and_intros<;>first|exact True.intro|rfl,ys[i],rfl,hy.eI.get (by omega),aA _ _ (by omega)⟩
  ·have h4:m<=i:=by simpa using h4
   exact ⟨_,by (try dsimp only);and_intros<;>first|exact True.intro|rfl,0,rfl,by omega,by rw [aq (by omega),aq (by omega)];simp⟩
  rintro _ V4 l4 ⟨y,rfl,hy1,hy2⟩
  refine ⟨by trivial,fun V5 l5=>(HY x y cy hx1 hy1 (by omega)).mono ?_⟩
  rintro r V6 l6 rfl
  have w:i64.wrap ((i:Int)+1)=((i+1:Nat):Int):=by rw [ar (by omega)];omega
  simp only [w,Int.toNat_natCast]
  refine ⟨_,_,rfl,⟨by omega,by omega⟩,by simp;omega,(((x+y+cy) / 4294967296:Nat),((i+1:Nat):Int),aF (es.set i ((x+y+cy)%4294967296))),?_,by (try dsimp only);and_intros<;>first|exact True.intro|rfl|(rw [←bq];simp),?_⟩
  ·(try dsimp only);omega
  ·(try dsimp only)
   refine ⟨by omega,by omega,by omega,by omega,_,rfl,by simpa using hes,hde.set _ _ (by omega),?_⟩
   simp only [Int.toNat_natCast]
   rw [aM _ _ _ (by omega),Nat.pow_succ,hx2,hy2]
   exact tO hv (by omega)
 ·have h3:i=k:=by simp at h3;omega
  subst h3
  refine ⟨⟨by omega,by omega⟩,by simp;omega,fun V3 l3 bk hb=>?_⟩
  have e1:(aF es).set (0+((i:Int).toNat)*1) (.int .u32 (cy:Int))=aF (es.set i cy):=by rw [←bq];simp
  simp only [Int.toNat_natCast] at e1
  try simp only [Int.toNat_natCast] at hb
  rw [e1] at hb
  have hd2:=hde.set i cy (by omega)
  refine (cV (RD.bE hb hd2 (n:=i+1) (c:=i+1) (by simp;omega) (Nat.le_refl _)) (by simp;omega)).mono ?_
  rintro r V4 l4 ⟨k,rfl,h4⟩
  refine ⟨_,_,_,rfl,fun _ V5 l5=>⟨_,_,_,rfl,?_⟩⟩
  rw [aR hd2] at h4
  have e2:val (es.set i cy)=val xs+val ys:=by
   have:=aM es i cy (by omega)
   rw [aq (by simp;omega)] at this
   rw [this,hv,aq (by omega),aq (by omega)]
  rw [e2] at h4
  exact h4.le l5
theorem Dn {E A B c x y W d b:Nat}(h:E+B=A+W*c)(hv:d+(y+c)=x+4294967296*b) :
  E+W*d+(B+W*y)=A+W*x+W*4294967296*b:=by
 have:=congrArg (W*·) hv
 simp only [Nat.mul_add,←Nat.mul_assoc] at this
 omega
theorem ow {V:View}{p q:OA}{n c m e:Nat}{xs ys:List Nat}(hx:RD V p n c xs)(hy:RD V q m e ys)(hm:xs.length<=1099511627776)(hl:ys.length<=xs.length)(hle:val ys<=val xs) :
  ab prog 120 #[.slice p n c,.slice q m e] V fun r V'=>∃p' n' c',r=.slice p' n' c'/\RN V' p' n' c' (val xs-val ys):=by
 have hlx:=hx.len
 have Ap:=hy.len
 refine B9 p n c q m e V _ ⟨by omega,by omega,by omega,fun z V'=>0<=z.1/\z.1<=1/\0<=z.2.1/\z.2.1<=n/\∃es:List Nat,z.2.2=aF es/\es.length=n/\bV es /\
   val (es.take z.2.1.toNat)+val (ys.take z.2.1.toNat)=val (xs.take z.2.1.toNat)+4294967296^z.2.1.toNat*z.1.toNat,fun z=>n-z.2.1.toNat,
   ⟨(0,0,List.replicate n (.int .u32 0)),by (try dsimp only);and_intros<;>first|exact True.intro|rfl,by (try dsimp only);omega,by (try dsimp only);omega,by (try dsimp only);omega,by (try dsimp only);omega,List.replicate n 0,cH n,by simp,bV.rep _,by simp⟩,?_⟩
 rintro ⟨cy,i,vs⟩ V2 l2 ⟨hc0,hc1,hi0,hi1,es,rfl,hes,hde,hv⟩
 dsimp only at hc0 hc1 hi0 hi1 hv ⊢
 obtain ⟨i,rfl⟩:=Int.eq_ofNat_of_zero_le hi0
 obtain ⟨cy,rfl⟩:=Int.eq_ofNat_of_zero_le hc0
 simp only [Int.toNat_natCast] at hv
 refine ⟨by trivial,fun h3=>?_,fun h3=>?_⟩
 ·have h3:i<n:=by simpa using h3
  refine ⟨fun z V'=>∃y:Nat,z=y/\y<4294967296/\val (ys.take (i+1))=val (ys.take i)+4294967296^i*y,⟨fun h4=>?_,fun h4=>?_⟩,?_⟩
  ·have h4:i<m:=by simpa using h4
   refine (hy.le l2).rd i rfl (by omega) ?_
   exact ⟨_,by (try dsimp only);and_intros<;>first|exact True.intro|rfl,ys[i],rfl,hy.eI.get (by omega),aA _ _ (by omega)⟩
  ·have h4:m<=i:=by simpa using h4
   exact ⟨_,by (try dsimp only);and_intros<;>first|exact True.intro|rfl,0,rfl,by omega,by rw [aq (by omega),aq (by omega)];simp⟩
  rintro _ V3 l3 ⟨y,rfl,hy1,hy2⟩
  refine ⟨by trivial,?_⟩
  refine ((hx.le l2).le l3).rd i rfl (by omega) fun V4 l4=>(H7 _ y cy (hx.eI.get (by omega)) hy1 (by omega)).mono ?_
  rintro r V5 l5 ⟨d,b,rfl,hd,hb,hdb⟩
  have w:i64.wrap ((i:Int)+1)=((i+1:Nat):Int):=by rw [ar (by omega)];omega
  simp only [w,Int.toNat_natCast]
  refine ⟨_,_,rfl,⟨by omega,by omega⟩,by simp;omega,((b:Int),((i+1:Nat):Int),aF (es.set i d)),?_,by (try dsimp only);and_intros<;>first|exact True.intro|rfl|(rw [←bq];simp),?_⟩
  ·(try dsimp only);omega
  ·(try dsimp only)
   refine ⟨by omega,by omega,by omega,by omega,_,rfl,by simpa using hes,hde.set _ _ (by omega),?_⟩
   simp only [Int.toNat_natCast]
   rw [aM _ _ _ (by omega),Nat.pow_succ,aA xs i (by omega),hy2]
   exact Dn hv hdb
 ·have h3:i=n:=by simp at h3;omega
  subst h3
  simp only [Int.toNat_natCast]
  intro V3 l3 bk hb
  refine (cV (RD.bE hb hde (n:=i) (c:=i) hes.symm (Nat.le_refl _)) (by omega)).mono ?_
  rintro r V4 l4 ⟨k,rfl,h4⟩
  refine ⟨_,_,_,rfl,fun _ V5 l5=>⟨_,_,_,rfl,?_⟩⟩
  rw [aR hde] at h4
  rw [aq (by omega),aq (by omega),aq (by omega)] at hv
  have e1:=fu hde
  rw [hes] at e1
  have e2:cy=0:=by
   rcases Nat.eq_zero_or_pos cy with h|h
   ·exact h
   ·have:4294967296^i*1<=4294967296^i*cy:=Nat.mul_le_mul_left _ h
    omega
  subst e2
  rw [show val es=val xs-val ys from by omega] at h4
  exact h4.le l5
theorem BD {V:View}{p:OA}{n c:Nat}{ds:List Nat}(h:RD V p n c ds){K:Int->Prop}(hn:0<ds.length)
  (hK:K ((ds[0]:Nat):Int)):(p.isSome=true)/\(0<=(0:Int)/\(0:Int)<(n:Int))/\∃x:Int,(∃a,ah p 0=some a/\V.at a (.int .u32 x))/\K x:=by
 have:=h.rd (i:=0) (K:=K) 0 rfl hn hK
 simpa using this
theorem IY {V:View}{p:OA}{n c:Nat}{ds:List Nat}(h:RD V p n c ds){K:Int->Prop}(j:Nat)(hn:j<ds.length)
  (hK:K ((ds[j]:Nat):Int)):(p.isSome=true)/\(0<=(j:Int)/\(j:Int)<(n:Int))/\∃x:Int,(∃a,ah p j=some a/\V.at a (.int .u32 x))/\K x:=by
 have:=h.rd (i:=j) (K:=K) j rfl hn hK
 simpa using this
theorem lq {ds:List Nat}(h:ds.length=1):∃a,ds=[a]:=by
 match ds,h with
 | [a],_=>exact ⟨a,rfl⟩
theorem Dq {ds:List Nat}(h:ds.length=2):∃a b,ds=[a,b]:=by
 match ds,h with
 | [a,b],_=>exact ⟨a,b,rfl⟩
theorem ct {V:View}{p q:OA}{n c m e:Nat}{xs ys:List Nat}(hx:RD V p n c xs)(hy:RD V q m e ys)(hm:xs.length+ys.length<=1099511627776) :
  ab prog 78 #[.slice p n c,.slice q m e] V fun r V'=>∃p' n' c',r=.slice p' n' c'/\RN V' p' n' c' (val xs*val ys):=by
 have hlx:=hx.len
 have Ap:=hy.len
 have hnm':((n:Int)+m).toNat=n+m:=by omega
 have w:i64.wrap ((n:Int)+m)=(n:Int)+m:=ar (by omega)
 have vc:=vQ p n c q m e V
 simp only [w,hnm',cH] at vc
 refine (fun tail=>vc _ ⟨fun h0=>⟨fun h1=>?_,fun _=>tail⟩,fun _=>tail⟩) ?_
 ·have h0:n=1:=by simp at h0;omega
  have h1:m=1:=by simp at h1;omega
  clear tail vc
  obtain ⟨a,rfl⟩:=lq (ds:=xs) (by omega)
  obtain ⟨b,rfl⟩:=lq (ds:=ys) (by omega)
  have yh:=hx.eI.get (i:=0) (by simp)
  have hdy:=hy.eI.get (i:=0) (by simp)
  refine BD hx (by simp) (BD hy (by simp) fun V1 l1=>?_)
  simp only [List.getElem_cons_zero] at yh hdy ⊢
  have nk:a*b<=4294967295*4294967295:=Nat.mul_le_mul (by omega) (by omega)
  have e1:u64.wrap (a:Int)=a:=aL (by omega)
  have e2:u64.wrap (b:Int)=b:=aL (by omega)
  have e3:(a:Int)*(b:Int)=((a*b:Nat):Int):=by simp
  have e4:u64.wrap ((a*b:Nat):Int)=((a*b:Nat):Int):=aL (by omega)
  rw [e1,e2,e3,e4]
  refine (cW (a*b) (by omega)).mono ?_
  rintro r V2 l2 ⟨p',n',c',rfl,h⟩
  refine ⟨_,_,_,rfl,fun V3 l3=>⟨_,_,_,rfl,?_⟩⟩
  simp only [bj,dU,Nat.mul_zero,Nat.add_zero]
  exact h.le l3
 refine ⟨by omega,by omega,by omega,fun z V'=>0<=z.1/\z.1<=n/\∃es:List Nat,z.2=aF es/\es.length=n+m/\bV es /\
  val (es.take (z.1.toNat+m))=val (xs.take z.1.toNat)*val ys,fun z=>n-z.1.toNat,⟨(0,aF (List.replicate (n+m) 0)),by (try dsimp only);and_intros<;>first|exact True.intro|rfl,by (try dsimp only);omega,by (try dsimp only);omega,_,rfl,by simp,bV.rep _,by simp [tI,List.take_replicate]⟩,?_⟩
 rintro ⟨i,vs⟩ V5 l5 ⟨hi0,hi1,es,rfl,hes,hde,hv⟩
 dsimp only at hi0 hi1 hv ⊢
 obtain ⟨i,rfl⟩:=Int.eq_ofNat_of_zero_le hi0
 simp only [Int.toNat_natCast] at hv
 refine ⟨by trivial,fun h3=>?_,fun h3=>?_⟩
 ·have h3:i<n:=by simpa using h3
  refine (hx.le l5).rd i rfl (by omega) ?_
  have yh:=hx.eI.get (i:=i) (by omega)
  refine ⟨fun z V'=>0<=z.1/\z.1<=4294967295/\0<=z.2.1/\z.2.1<=m/\∃fs:List Nat,z.2.2=aF fs/\fs.length=n+m/\bV fs/\fs.drop (i+z.2.1.toNat)=es.drop (i+z.2.1.toNat) /\
   val (fs.take (i+z.2.1.toNat))+4294967296^(i+z.2.1.toNat)*z.1.toNat=val (es.take (i+z.2.1.toNat))+4294967296^i*xs[i]*val (ys.take z.2.1.toNat),fun z=>m-z.2.1.toNat,
   ⟨(0,0,aF es),by (try dsimp only);and_intros<;>first|exact True.intro|rfl,by (try dsimp only);omega,by (try dsimp only);omega,by (try dsimp only);omega,by (try dsimp only);omega,es,rfl,hes,hde,rfl,by simp⟩,?_⟩
  rintro ⟨cy,k,vs⟩ V6 l6 ⟨hc0,hc1,hk0,hk1,fs,rfl,hfs,hdf,hdr,hw⟩
  dsimp only at hc0 hc1 hk0 hk1 hdr hw ⊢
  obtain ⟨k,rfl⟩:=Int.eq_ofNat_of_zero_le hk0
  obtain ⟨cy,rfl⟩:=Int.eq_ofNat_of_zero_le hc0
  simp only [Int.toNat_natCast] at hdr hw
  refine ⟨by trivial,fun h4=>?_,fun h4=>?_⟩
  ·have h4:k<m:=by simpa using h4
   refine (hy.le (l5.trans l6)).rd k rfl (by omega) ?_
   have hdy:=hy.eI.get (i:=k) (by omega)
   have Rg:=hdf.get (i:=i+k) (by omega)
   have hef:fs[i+k]'(by omega)=es[i+k]'(by omega):=by
    have h1:fs[i+k]?=es[i+k]?:=by
     have:=congrArg (fun l=>l[0]?) hdr
     simpa [List.getElem?_drop] using this
    rw [List.getElem?_eq_getElem (by omega),List.getElem?_eq_getElem (by omega)] at h1
    exact Option.some.inj h1
   simp (disch:=omega) only [ar]
   have hik:((i:Int)+k).toNat=i+k:=by omega
   rw [hik]
   refine ⟨⟨by omega,by omega⟩,((fs[i+k]'(by omega):Nat):Int),by rw [Nat.zero_add,Nat.mul_one];exact fq (by omega),⟨by omega,by omega⟩,by simp;omega,by omega,?_⟩
   have hxy:xs[i]*ys[k]<=4294967295*4294967295:=Nat.mul_le_mul (by omega) (by omega)
   have KS:(xs[i]:Int)*(ys[k]:Int)=((xs[i]*ys[k]:Nat):Int):=by simp
   obtain ⟨t,ht⟩:∃t:Nat,t=cy+xs[i]*ys[k]+fs[i+k]'(by omega):=⟨_,rfl⟩
   rw [Nat.pow_add] at hw
   have hstep:=Bq hw ht
   have e1:u64.wrap (u64.wrap (u64.wrap (u64.wrap (xs[i]:Int)*u64.wrap (ys[k]:Int))+u64.wrap ((fs[i+k]'(by omega):Nat):Int))+(cy:Int))=(t:Int):=by
    clear hstep
    generalize xs[i]*ys[k]=pq at *
    rw [aL (x:=(xs[i]:Int)) (by omega),aL (x:=(ys[k]:Int)) (by omega),KS,aL (x:=((pq:Nat):Int)) (by omega)]
    simp (disch:=omega) only [aL]
    omega
   rw [e1,ic,lN]
   refine ⟨(_,_,_),?_,by (try dsimp only);and_intros<;>first|exact True.intro|rfl,?_⟩
   ·(try dsimp only);omega
   ·(try dsimp only)
    have hk2:((k:Int)+1).toNat=k+1:=by omega
    refine ⟨by omega,by omega,by omega,by omega,fs.set (i+k) (t%4294967296),?_,by simpa using hfs,hdf.set _ _ (by omega),?_,?_⟩
    ·rw [←bq];simp
    ·rw [hk2,List.drop_set_of_lt (by omega)]
     have:=congrArg (List.drop 1) hdr
     simpa [List.drop_drop,Nat.add_comm,Nat.add_assoc,Nat.add_left_comm] using this
    ·rw [hk2,show i+(k+1)=i+k+1 from by omega,aM _ _ _ (by omega),aA es (i+k) (by omega),aA ys k (by omega),←hef,Nat.pow_succ]
     have e2:((t:Int) / 4294967296).toNat=t / 4294967296:=by omega
     rw [e2,Nat.pow_add,hstep]
  ·have h4:k=m:=by simp at h4;omega
   subst h4
   simp (disch:=omega) only [ar]
   have hik:((i:Int)+k).toNat=i+k:=by omega
   rw [hik]
   refine ⟨⟨by omega,by omega⟩,by simp;omega,(_,_),?_,by (try dsimp only);and_intros<;>first|exact True.intro|rfl,?_⟩
   ·(try dsimp only);omega
   ·(try dsimp only)
    have hi2:((i:Int)+1).toNat=i+1:=by omega
    refine ⟨by omega,by omega,fs.set (i+k) cy,?_,by simpa using hfs,hdf.set _ _ (by omega),?_⟩
    ·rw [←bq,qt (by omega)];simp
    ·rw [hi2,show i+1+k=i+k+1 from by omega,aM _ _ _ (by omega),hw,hv,aA xs i (by omega),aq (ds:=ys) (by omega)]
     grind
 ·have h3:i=n:=by simp at h3;omega
  subst h3
  intro V6 l6 bk hb'
  refine (cV (RD.bE hb' hde (n:=i+m) (c:=i+m) (by omega) (Nat.le_refl _)) (by omega)).mono ?_
  rintro r V7 l7 ⟨k,rfl,h4⟩
  refine ⟨_,_,_,rfl,fun _ V8 l8=>⟨_,_,_,rfl,?_⟩⟩
  rw [aR hde] at h4
  rw [aq (by omega),aq (by omega)] at hv
  rw [hv] at h4
  exact h4.le l8
theorem kV {V:View}{p:OA}{n c:Nat}{ds:List Nat}(h:RD V p n c ds)(hm:ds.length<=1099511627776) :
  ab prog 160 #[.slice p n c] V fun r V'=>r=.tuple #[.int .u64 ((if n<=2 then val ds else 0:Nat):Int),.bool (decide (n<=2))]:=by
 have hl:=h.len
 refine Cj p n c V _ ⟨fun h0 V1 l1=>?_,fun h0=>⟨fun h1=>?_,fun h1=>⟨fun h2=>?_,fun h2 V1 l1=>?_⟩⟩⟩
 ·have h0:n=0:=by simp at h0;omega
  subst h0
  have:ds=[]:=List.length_eq_zero_iff.1 (by omega)
  subst this
  rfl
 ·have h1:n=1:=by simp at h1;omega
  subst h1
  obtain ⟨a,rfl⟩:=lq (ds:=ds) (by omega)
  have hd:=h.eI.get (i:=0) (by simp)
  refine BD h (by simp) fun V1 l1=>?_
  simp only [List.getElem_cons_zero] at hd ⊢
  have e1:u64.wrap (a:Int)=a:=aL (by omega)
  rw [e1,if_pos (by omega),decide_eq_true (by omega)]
  simp
 ·have h2:n=2:=by simp at h2;omega
  subst h2
  obtain ⟨a,b,rfl⟩:=Dq (ds:=ds) (by omega)
  have hd0:=h.eI.get (i:=0) (by simp)
  have hd1:=h.eI.get (i:=1) (by simp)
  refine IY h 1 (by simp) ⟨by omega,BD h (by simp) fun V1 l1=>?_⟩
  simp only [List.getElem_cons_zero,List.getElem_cons_succ] at hd0 hd1 ⊢
  have e1:u64.wrap (a:Int)=a:=aL (by omega)
  have e2:u64.wrap (b:Int)=b:=aL (by omega)
  have e3:((2:Int)^32)=4294967296:=by decide
  have e4:u64.wrap ((b:Int)*4294967296)=(b:Int)*4294967296:=aL (by omega)
  rw [e1,e2,e3,e4,Bv _ _ hd1 hd0,if_pos (by omega),decide_eq_true (by omega)]
  simp only [bj,dU]
  congr 4
  omega
 ·have h2:¬n<=2:=by simp at h0 h1 h2;omega
  rw [if_neg h2,decide_eq_false h2]
  rfl
theorem EY (b:Nat):0 ||| b=b:=Nat.zero_or b
theorem kT {V:View}{p:OA}{n c:Nat}{ds:List Nat}(hx:RD V p n c ds)(hm:ds.length<=1099511627776)(k:Nat)(hk:k<=35184372088832) :
  ab prog 198 #[.slice p n c,.int .i64 (k:Int)] V fun r V'=>∃p' n' c',r=.slice p' n' c'/\RN V' p' n' c' (val ds*2^k):=by
 have hl:=hx.len
 have e2:(k:Int).tdiv 32=((k / 32:Nat):Int):=by rw [Int.tdiv_eq_ediv_of_nonneg (by omega)];omega
 have e3:(k:Int).tmod 32=((k%32:Nat):Int):=by rw [Int.tmod_eq_emod_of_nonneg (by omega)];omega
 have vc:=B8 p n c k V
 have hk2:val ds*2^k=4294967296^(k / 32)*val ds*2^(k%32):=by
  have:2^k=4294967296^(k / 32)*2^(k%32):=by
   rw [show (4294967296:Nat)=2^32 from rfl,←Nat.pow_mul,←Nat.pow_add,Nat.div_add_mod]
  rw [this];grind
 rw [hk2]
 have hwl:k / 32<=1099511627776:=by omega
 have hrl:k%32<32:=Nat.mod_lt _ (by omega)
 rw [e2,e3] at vc
 generalize k / 32=w at *
 generalize k%32=r at *
 clear e2 e3 hk2
 have w1:i64.wrap (w:Int)=(w:Int):=ar (by omega)
 have w2:i64.wrap ((w:Int)+n)=((w+n:Nat):Int):=by rw [ar (by omega)];omega
 have w3:i64.wrap (((w+n:Nat):Int)+1)=((w+n+1:Nat):Int):=by rw [ar (by omega)];omega
 have w4:u64.wrap (r:Int)=(r:Int):=aL (by omega)
 have hmin:(min r IntKind.u64.bits)=r:=by
  show min _ 64=r
  omega
 have hp:((2:Int)^r)=((2^r:Nat):Int):=by simp
 simp only [w1,w2,w3,w4,Int.toNat_natCast,hmin,hp,cH] at vc
 refine vc _ ⟨by omega,by omega,by omega,by omega,by omega,fun z V'=>0<=z.1/\z.1<=n/\∃es:List Nat,z.2=aF es/\es.length=w+n+1/\bV es/\(∀c,es[z.1.toNat+w]?=some c->c<2^r)/\(∀j c,z.1.toNat+w<j->es[j]?=some c->c=0) /\
   val (es.take (z.1.toNat+w+1))=4294967296^w*val (ds.take z.1.toNat)*2^r,fun z=>n-z.1.toNat,
   ⟨(0,aF (List.replicate (w+n+1) 0)),by (try dsimp only);and_intros<;>first|exact True.intro|rfl,by (try dsimp only);omega,by (try dsimp only);omega,_,rfl,by simp,bV.rep _,?_,?_,?_⟩,?_⟩
 ·intro c hc
  rw [List.getElem?_replicate] at hc
  split at hc
  ·cases hc;exact Nat.two_pow_pos r
  ·cases hc
 ·intro j c _ hc
  rw [List.getElem?_replicate] at hc
  split at hc
  ·cases hc;rfl
  ·cases hc
 ·simp [List.take_replicate,tI]
 rintro ⟨i,vs⟩ V4 l4 ⟨hi0,hi1,es,rfl,hes,hde,hc,hz,hv⟩
 dsimp only at hi0 hi1 hc hz hv ⊢
 obtain ⟨i,rfl⟩:=Int.eq_ofNat_of_zero_le hi0
 simp only [Int.toNat_natCast] at hc hz hv
 refine ⟨by trivial,fun h3=>?_,fun h3=>?_⟩
 ·have h3:i<n:=by simpa using h3
  have x1:i64.wrap ((w:Int)+i)=((i+w:Nat):Int):=by rw [ar (by omega)];omega
  have x2:i64.wrap (((i+w:Nat):Int)+1)=((i+w+1:Nat):Int):=by rw [ar (by omega)];omega
  have x3:i64.wrap ((i:Int)+1)=((i+1:Nat):Int):=by rw [ar (by omega)];omega
  simp only [x1,x2,x3,Int.toNat_natCast,Nat.mul_one,Nat.zero_add]
  refine IY (hx.le l4) i (by omega) ?_
  have yh:=hx.eI.get (i:=i) (by omega)
  have hce:=hc (es[i+w]'(by omega)) (List.getElem?_eq_getElem _)
  have Xc:=hz (i+w+1) (es[i+w+1]'(by omega)) (by omega) (List.getElem?_eq_getElem _)
  obtain ⟨g1,g2,g3,g4⟩:=BO yh hrl hce
  have hmul:((ds[i]:Nat):Int)*((2^r:Nat):Int)=((ds[i]*2^r:Nat):Int):=by simp
  have x4:u64.wrap ((ds[i]:Nat):Int)=((ds[i]:Nat):Int):=aL (by omega)
  have x5:u64.wrap ((ds[i]*2^r:Nat):Int)=((ds[i]*2^r:Nat):Int):=aL (by omega)
  have ec:u32.wrap ((ds[i]*2^r:Nat):Int)=((ds[i]*2^r%4294967296:Nat):Int):=by rw [ic];omega
  have ed:u32.wrap (((ds[i]*2^r:Nat):Int).fdiv (2^32))=((ds[i]*2^r / 4294967296:Nat):Int):=by rw [lN,ic];omega
  simp only [x4,hmul,x5,ec,ed]
  have hd2:ds[i]*2^r / 4294967296<4294967296:=by omega
  have Fp:=Nat.mod_add_div (ds[i]*2^r) 4294967296
  have hdr:val (List.take (i+1) ds)=val (List.take i ds)+4294967296^i*ds[i]:=aA _ _ (by omega)
  have KF:val (es.take (i+w+1))=val (es.take (i+w))+4294967296^(i+w)*es[i+w]'(by omega):=aA _ _ (by omega)
  have hlo:ds[i]*2^r%4294967296<4294967296:=Nat.mod_lt _ (by omega)
  generalize ds[i]*2^r%4294967296=lo at *
  generalize ds[i]*2^r / 4294967296=hi at *
  refine ⟨by omega,by omega,⟨by omega,by omega⟩,((es[i+w]'(by omega):Nat):Int),fq (by omega),⟨by omega,by omega⟩,by simp;omega,by omega,⟨by omega,by omega⟩,((es[i+w+1]'(by omega):Nat):Int),?_,by omega,⟨by omega,by omega⟩,by simp;omega,?_⟩
  ·rw [List.getElem?_set_ne (by omega)];exact fq (by omega)
  have M5:es[i+w]'(by omega)<4294967296:=hde.get (by omega)
  rw [C9 _ _ M5 hlo,g1,Xc,C9 _ _ (by omega) hd2,EY]
  refine ⟨(((i+1:Nat):Int),aF ((es.set (i+w) (es[i+w]'(by omega)+lo)).set (i+w+1) hi)),?_,?_,?_⟩
  ·(try dsimp only);omega
  ·(try dsimp only);and_intros<;>first|exact True.intro|rfl|rw [←bq,←bq]
  ·(try dsimp only)
   refine ⟨by omega,by omega,_,rfl,by simpa using hes,(hde.set _ _ (by omega)).set _ _ (by omega),?_,?_,?_⟩
   ·intro c hc'
    simp only [Int.toNat_natCast] at hc'
    rw [show i+1+w=i+w+1 from by omega,List.getElem?_set_self (by simp;omega)] at hc'
    cases hc';exact g3
   ·intro j c hj hc'
    simp only [Int.toNat_natCast] at hj
    rw [List.getElem?_set_ne (by omega),List.getElem?_set_ne (by omega)] at hc'
    exact hz j c (by omega) hc'
   ·simp only [Int.toNat_natCast]
    rw [show i+1+w+1=i+w+1+1 from by omega,aM _ _ _ (by simp;omega),aM _ _ _ (by omega),hdr]
    rw [KF] at hv
    have hA:4294967296^(i+w+1)*hi=4294967296^(i+w)*(4294967296*hi):=by rw [Nat.pow_succ];grind
    rw [hA,Nat.mul_add,←Nat.add_assoc,hv,Nat.add_assoc,←Nat.mul_add,Fp,Nat.pow_add]
    grind
 ·have h3:i=n:=by simp at h3;omega
  subst h3
  intro V5 l5 bk hb
  refine (cV (RD.bE hb hde (n:=w+i+1) (c:=w+i+1) (by omega) (Nat.le_refl _)) (by omega)).mono ?_
  rintro r' V6 l6 ⟨k',rfl,h4⟩
  refine ⟨_,_,_,rfl,fun _ V7 l7=>⟨_,_,_,rfl,?_⟩⟩
  rw [aq (by omega),aq (by omega)] at hv
  rw [aR hde,hv] at h4
  exact h4.le l7
theorem yG (a:Addr)(m n:Nat):(a.add m).add n=a.add (m+n):=by
 unfold Addr.add
 by_cases h1:m=0
 ·subst h1;simp
 ·by_cases h2:n=0
  ·subst h2;simp [h1]
  ·rw [if_neg h1,if_neg h2,if_neg (by omega)]
   simp only [Nat.add_assoc]
theorem Ke {V:View}{p:OA}{n c:Nat}{ds:List Nat}(h:RD V p n c ds){k:Nat}(hk:k<n):RD V (lZ p c k 1) (n-k) (c-k) (ds.drop k):=by
 have hl:=h.len
 have hc:=h.cap
 have e:lZ p c k 1=ah p k:=by unfold lZ;rw [if_neg (by omega),Nat.mul_one]
 rw [e]
 refine ⟨by simp;omega,by omega,fun i v hv=>?_,h.eI.drop k,fun hp=>?_⟩
 ·rw [Ff,List.getElem?_drop] at hv
  obtain ⟨ad,e1,hat⟩:=h.sl _ _ hv
  refine ⟨ad.add k,by rw [e1];rfl,?_⟩
  rw [yG];exact hat
 ·have:p.isNone=true:=by cases p<;>simp_all [ah]
  have:=h.Br this
  omega
theorem AK {V:View}{p:OA}{n c:Nat}{ds:List Nat}(hd:RD V p n c ds)(hm:ds.length<=1099511627776)(k:Nat)(hk:k<=35184372088832) :
  ab prog 199 #[.slice p n c,.int .i64 (k:Int)] V fun r V'=>∃p' n' c',r=.slice p' n' c'/\RN V' p' n' c' (val ds / 2^k):=by
 have hl:=hd.len
 have e2:(k:Int).tdiv 32=((k / 32:Nat):Int):=by rw [Int.tdiv_eq_ediv_of_nonneg (by omega)];omega
 have e3:(k:Int).tmod 32=((k%32:Nat):Int):=by rw [Int.tmod_eq_emod_of_nonneg (by omega)];omega
 have vc:=zX p n c k V
 have hk2:val ds / 2^k=val ds / 4294967296^(k / 32) / 2^(k%32):=by
  rw [Nat.div_div_eq_div_mul,show (4294967296:Nat)=2^32 from rfl,←Nat.pow_mul,←Nat.pow_add,Nat.div_add_mod]
 rw [hk2]
 have hwl:k / 32<=1099511627776:=by omega
 have hrl:k%32<32:=Nat.mod_lt _ (by omega)
 rw [e2,e3] at vc
 generalize k / 32=w at *
 generalize k%32=r at *
 clear e2 e3 hk2
 have w1:i64.wrap (w:Int)=(w:Int):=ar (by omega)
 have w4:u64.wrap (r:Int)=(r:Int):=aL (by omega)
 have hmin:(min r IntKind.u64.bits)=r:=by
  show min _ 64=r
  omega
 simp only [w1,w4,Int.toNat_natCast,hmin,cH] at vc
 refine vc _ ⟨by omega,fun h0 V1 l1=>?_,fun h0=>?_⟩
 ·have h0:n<=w:=by simp at h0;omega
  have hlt:=fu hd.eI
  have:4294967296^ds.length<=4294967296^w:=Nat.pow_le_pow_right (by omega) (by omega)
  rw [Nat.div_eq_of_lt (Nat.lt_of_lt_of_le hlt this),Nat.zero_div]
  exact ⟨_,_,_,rfl,RD.nil⟩
 ·have h0:w<n:=by simp at h0;omega
  clear vc
  have hxw:val ds / 4294967296^w=val (ds.drop w):=by
   have e:val ds=val (ds.take w++ds.drop w):=by rw [List.take_append_drop]
   have hlt:=fu (hd.eI.take w)
   rw [cZ] at e
   rw [List.length_take,Nat.min_eq_left (by omega)] at e hlt
   rw [e,Nat.add_mul_div_left _ _ (Nat.pow_pos (by omega)),Nat.div_eq_of_lt hlt,Nat.zero_add]
  rw [hxw]
  have hx:=Ke hd h0
  have hlx:=hx.len
  clear hxw
  generalize lZ p c w 1=sp at *
  generalize ds.drop w=xs at *
  generalize hN:n-w=N at *
  refine ⟨by omega,by omega,⟨by omega,by omega⟩,by omega,by omega,by omega,fun z V'=>0<=z.1/\z.1<=N/\∃es:List Nat,z.2=aF es/\es.length=N/\bV es /\
   val (es.take z.1.toNat)+4294967296^z.1.toNat*(val (xs.drop z.1.toNat) / 2^r)=val xs / 2^r,fun z=>N-z.1.toNat,
   ⟨(0,aF (List.replicate N 0)),by (try dsimp only);and_intros<;>first|exact True.intro|rfl,by (try dsimp only);omega,by (try dsimp only);omega,_,rfl,by simp,bV.rep _,by simp⟩,?_⟩
  rintro ⟨i,vs⟩ V4 l4 ⟨hi0,hi1,es,rfl,hes,hde,hv⟩
  dsimp only at hi0 hi1 hv ⊢
  obtain ⟨i,rfl⟩:=Int.eq_ofNat_of_zero_le hi0
  simp only [Int.toNat_natCast] at hv
  refine ⟨by trivial,fun h3=>?_,fun h3=>?_⟩
  ·have h3:i<N:=by simpa using h3
   have x3:i64.wrap ((i:Int)+1)=((i+1:Nat):Int):=by rw [ar (by omega)];omega
   simp only [x3,Int.toNat_natCast,Nat.mul_one,Nat.zero_add]
   refine IY (hx.le l4) i (by omega) ?_
   have yh:=hx.eI.get (i:=i) (by omega)
   refine ⟨fun z V'=>z=((xs[i]+4294967296*(xs[i+1]?).getD 0:Nat):Int),⟨fun h4=>?_,fun h4=>?_⟩,?_⟩
   ·have h4:i+1<N:=by simp at h4;omega
    have hdy:=hx.eI.get (i:=i+1) (by omega)
    have e4:aS .or .u64 (u64.wrap ((xs[i]:Nat):Int)) (u64.wrap (u64.wrap ((xs[i+1]:Nat):Int)*2^32))=((xs[i]+4294967296*(xs[i+1]?).getD 0:Nat):Int):=by
     have e3:((2:Int)^32)=4294967296:=by decide
     rw [e3,aL (by omega),aL (x:=((xs[i+1]:Nat):Int)) (by omega),aL (by omega),GU _ _ hdy yh,List.getElem?_eq_getElem (by omega),Option.getD_some]
     omega
    refine IY (hx.le l4) (i+1) (by omega) ⟨by omega,((xs[i]+4294967296*(xs[i+1]?).getD 0:Nat):Int),?_,rfl⟩
    (try dsimp only);and_intros<;>first|exact True.intro|exact e4|rfl
   ·have h4:N<=i+1:=by simp at h4;omega
    have e4:u64.wrap ((xs[i]:Nat):Int)=((xs[i]+4294967296*(xs[i+1]?).getD 0:Nat):Int):=by
     rw [aL (by omega),List.getElem?_eq_none (by omega)];simp
    refine ⟨((xs[i]+4294967296*(xs[i+1]?).getD 0:Nat):Int),?_,rfl⟩
    (try dsimp only);and_intros<;>first|exact True.intro|exact e4|rfl
   rintro _ V5 l5 rfl
   have hst:=BP (Y:=val (xs.drop (i+1))) yh hrl
   rw [qu hx.eI] at hst
   have hdrop:val (xs.drop i)=xs[i]+4294967296*val (xs.drop (i+1)):=by
    rw [List.drop_eq_getElem_cons (by omega),bj]
   rw [hdrop,hst] at hv
   rw [fk,ic]
   obtain ⟨D,hD⟩:∃D,D=(xs[i]+4294967296*(xs[i+1]?).getD 0) / 2^r%4294967296:=⟨_,rfl⟩
   have eD:(((xs[i]+4294967296*(xs[i+1]?).getD 0) / 2^r:Nat):Int)%4294967296=(D:Int):=by rw [hD];omega
   rw [eD]
   rw [←hD] at hv
   refine ⟨by trivial,by omega,⟨by omega,by omega⟩,by simp;omega,(((i+1:Nat):Int),aF (es.set i D)),?_,?_,?_⟩
   ·(try dsimp only);omega
   ·(try dsimp only);and_intros<;>first|exact True.intro|rfl|rw [←bq]
   ·(try dsimp only)
    refine ⟨by omega,by omega,_,rfl,by simpa using hes,hde.set _ _ (by omega),?_⟩
    simp only [Int.toNat_natCast]
    rw [aM _ _ _ (by omega),←hv,Nat.pow_succ,Nat.mul_add,Nat.add_assoc,Nat.mul_assoc]
  ·have h3:i=N:=by simp at h3;omega
   subst h3
   intro V5 l5 bk hb
   refine (cV (RD.bE hb hde (n:=i) (c:=i) (by omega) (Nat.le_refl _)) (by omega)).mono ?_
   rintro r' V6 l6 ⟨k',rfl,h4⟩
   refine ⟨_,_,_,rfl,fun _ V7 l7=>⟨_,_,_,rfl,?_⟩⟩
   rw [aq (by omega),List.drop_of_length_le (l:=xs) (i:=i) (by omega)] at hv
   have hv:val es=val xs / 2^r:=by
    rw [←hv,dU,Nat.zero_div,Nat.mul_zero,Nat.add_zero]
   rw [aR hde,hv] at h4
   exact h4.le l7
end Go.Proofs.Tryz
namespace Go.fV
theorem sj {ds:List Nat}(hd:bV ds)(w:Nat)(hw:w<=ds.length):val ds / 4294967296^w=val (ds.drop w):=by
 have e:val ds=val (ds.take w++ds.drop w):=by rw [List.take_append_drop]
 have hlt:=fu (hd.take w)
 rw [cZ] at e
 rw [List.length_take,Nat.min_eq_left (by omega)] at e hlt
 rw [e,Nat.add_mul_div_left _ _ (Nat.pow_pos (by omega)),Nat.div_eq_of_lt hlt,Nat.zero_add]
theorem NT {R n:Nat}(h:(ai R).length=n+2):R / 4294967296^n=(ai R)[n+1]'(by omega)*4294967296+(ai R)[n]'(by omega):=by
 have:=sj (aE R) n (by omega)
 rw [ag] at this
 rw [this,List.drop_eq_getElem_cons (by omega),List.drop_eq_getElem_cons (i:=n+1) (by omega),List.drop_of_length_le (by omega)]
 simp only [bj,dU]
 omega
theorem JS {R n:Nat}(h:(ai R).length=n+1):R / 4294967296^n=(ai R)[n]'(by omega):=by
 have:=sj (aE R) n (by omega)
 rw [ag] at this
 rw [this,List.drop_eq_getElem_cons (by omega),List.drop_of_length_le (by omega)]
 simp only [bj,dU]
 omega
theorem NQ {R n:Nat}(h:(ai R).length<=n):R / 4294967296^n=0:=Nat.div_eq_of_lt (aG.1 h)
theorem Dp {V n:Nat}(h:(ai V).length=n+1):(ai V)[n]'(by omega)*4294967296^n<=V:=by
 have:=JS h
 rw [←this]
 exact Nat.div_mul_le_self _ _
theorem F9 {R V top P W:Nat}(hV:top*P<=V)(ht:0<top)(hP:0<P)(hW:0<W):R / (V*W)<=R / (P*W) / top:=by
 rw [Nat.le_div_iff_mul_le ht,Nat.le_div_iff_mul_le (Nat.mul_pos hP hW)]
 have h1:R / (V*W)*(V*W)<=R:=Nat.div_mul_le_self _ _
 have h2:R / (V*W)*(top*P*W)<=R / (V*W)*(V*W):=Nat.mul_le_mul_left _ (Nat.mul_le_mul_right _ hV)
 have h3:R / (V*W)*top*(P*W)=R / (V*W)*(top*P*W):=by
  generalize R / (V*W)=q
  rw [Nat.mul_assoc q top,←Nat.mul_assoc top P W]
 omega
theorem EV {A V W D R q R':Nat}(h:A=V*(W*4294967296*D)+R)(hq:R=V*q*W+R'):A=V*(W*(q+4294967296*D))+R':=by
 subst hq;rw [h];grind
theorem Gt {x y s Q R:Nat}(h:x*2^s=y*2^s*Q+R)(hR:R<y*2^s):Q=x / y/\R / 2^s=x%y:=by
 have hp:=Nat.two_pow_pos s
 have hy:0<y:=by
  rcases Nat.eq_zero_or_pos y with e|e
  ·subst e;simp at hR
  ·exact e
 have h1:y*2^s*Q=(y*Q)*2^s:=by grind
 rw [h1] at h
 have h2:y*Q<=x:=by
  rcases Nat.lt_or_ge x (y*Q) with hl|hl
  ·have:(x+1)*2^s<=y*Q*2^s:=Nat.mul_le_mul_right _ hl
   rw [Nat.add_mul] at this
   omega
  ·exact hl
 obtain ⟨d,rfl⟩:=Nat.exists_eq_add_of_le h2
 rw [Nat.add_mul] at h
 have h3:R=d*2^s:=by omega
 subst h3
 have h4:d<y:=Nat.lt_of_mul_lt_mul_right hR
 rw [Nat.mul_div_cancel _ hp]
 constructor
 ·rw [Nat.mul_add_div hy,Nat.div_eq_of_lt h4,Nat.add_zero]
 ·rw [Nat.mul_add_mod,Nat.mod_eq_of_lt h4]
theorem JW (j:Nat):2^(32*j)=4294967296^j:=by rw [Nat.pow_mul]
theorem CU {R V W g:Nat}(L8:0<V*W)(h:V*g*W<=R)(hq:R / (V*W)<=g):g=R / (V*W):=by
 have:g<=R / (V*W):=by
  rw [Nat.le_div_iff_mul_le L8]
  have:g*(V*W)=V*g*W:=by grind
  omega
 omega
theorem F_ {R V W g:Nat}(L8:0<V*W)(h:R<V*g*W):R / (V*W)<g:=by
 rw [Nat.div_lt_iff_lt_mul L8]
 have:g*(V*W)=V*g*W:=by grind
 omega
theorem Dk {R V W:Nat}:R=V*(R / (V*W))*W+R%(V*W):=by
 have:=Nat.div_add_mod R (V*W)
 have e:V*(R / (V*W))*W=V*W*(R / (V*W)):=by
  generalize R / (V*W)=q
  grind
 omega
theorem h_ {a b:Nat}:(ai (a*b)).length<=(ai a).length+(ai b).length:=by
 rw [aG,Nat.pow_add]
 have h1:a<4294967296^(ai a).length:=aG.1 (Nat.le_refl _)
 have h2:b<4294967296^(ai b).length:=aG.1 (Nat.le_refl _)
 exact Nat.mul_lt_mul'' h1 h2
theorem ze (j:Nat):(ai (4294967296^j)).length<=j+1:=by
 rw [aG]
 exact Nat.pow_lt_pow_right (by omega) (by omega)
end Go.fV
namespace Go.Proofs.Tryz
open Go.bK Go.fV
theorem Xy {V:View}{p:OA}{n c:Nat}{ds:List Nat}(h:RD V p n c ds){i:Int}{K:Int->Prop}(j d:Nat)(hj:i=j)(hn:ds[j]?=some d)
  (hK:K (d:Int)):(p.isSome=true)/\(0<=i/\i<(n:Int))/\∃x:Int,(∃a,ah p (i.toNat*1)=some a/\V.at a (.int .u32 x))/\K x:=by
 have hl:j<ds.length:=by
  rcases Nat.lt_or_ge j ds.length with h|h
  ·exact h
  ·rw [List.getElem?_eq_none h] at hn;cases hn
 refine h.rd j hj hl ?_
 rw [List.getElem?_eq_getElem hl] at hn
 cases hn;exact hK
theorem Fc {W n:Nat}(h:(ai W).length=n+1):∃top,(ai W)[n]?=some top/\top≠0/\top<4294967296/\top*4294967296^n<=W:=by
 refine ⟨(ai W)[n]'(by omega),List.getElem?_eq_getElem _,?_,(aE W).get _,Dp h⟩
 have:=(iU W).last (by omega)
 simpa [h] using this
structure xz (A V L:Nat) (R:Nat) (j:Nat) (es:List Nat):Prop where
 len:es.length=L
 eI:bV es
 lt:R<V*4294967296^j
 eq:A=V*(4294967296^j*val (es.drop j))+R
theorem xz.step {A V L R j:Nat}{es:List Nat}(h:xz A V L R (j+1) es)(hj:j<L)(hV:0<V) :
  R / (V*4294967296^j)<4294967296/\xz A V L (R-V*(R / (V*4294967296^j))*4294967296^j) j (es.set j (R / (V*4294967296^j))):=by
 have hW:0<4294967296^j:=Nat.pow_pos (by omega)
 have L8:0<V*4294967296^j:=Nat.mul_pos hV hW
 have hq:R / (V*4294967296^j)<4294967296:=by
  rw [Nat.div_lt_iff_lt_mul L8]
  have:=h.lt
  rw [Nat.pow_succ] at this
  have e:4294967296*(V*4294967296^j)=V*(4294967296^j*4294967296):=by
   generalize 4294967296^j=w
   grind
  omega
 have hs:=Dk (R:=R) (V:=V) (W:=4294967296^j)
 have hm:=Nat.mod_lt R L8
 have he:R-V*(R / (V*4294967296^j))*4294967296^j=R%(V*4294967296^j):=by omega
 refine ⟨hq,⟨by simpa using h.len,h.eI.set _ _ hq,by rw [he];exact hm,?_⟩⟩
 have hl:=h.len
 rw [List.drop_eq_getElem_cons (by simp;omega),List.getElem_set_self,List.drop_set_of_lt (by omega),bj,he]
 exact EV (by have:=h.eq;rwa [Nat.pow_succ] at this) hs
theorem He {R V j:Nat}(h:R<V*4294967296^(j+1)):(ai R).length<=(ai V).length+j+1:=by
 have h1:V*4294967296^(j+1)<=4294967296^(ai V).length*4294967296^(j+1):=Nat.mul_le_mul_right _ (Nat.le_of_lt (aG.1 (Nat.le_refl _)))
 rw [←Nat.pow_add] at h1
 have:=aG.2 (Nat.lt_of_lt_of_le h h1)
 omega
theorem IF {R n:Nat}(h:(ai R).length<=n+2):R / 4294967296^n<18446744073709551616:=by
 rw [Nat.div_lt_iff_lt_mul (Nat.pow_pos (by omega))]
 have:=aG.1 h
 rw [Nat.pow_succ,Nat.pow_succ] at this
 have e:4294967296^n*4294967296*4294967296=18446744073709551616*4294967296^n:=by
  generalize 4294967296^n=w
  omega
 omega
theorem CF {V:View}{p q:OA}{n c m e:Nat}{x y:Nat}(hx:RN V p n c x)(hy:RN V q m e y)(hm:(ai x).length<=274877906944)(hy0:0<y)(hle:(ai y).length<=(ai x).length) :
  ab prog 162 #[.slice p n c,.slice q m e] V fun r V'=>∃p1 n1 c1 p2 n2 c2,r=.tuple #[.slice p1 n1 c1,.slice p2 n2 c2]/\RN V' p1 n1 c1 (x / y)/\RN V' p2 n2 c2 (x%y):=by
 have hlx:=hx.len
 have Ap:=hy.len
 have hm0:0<m:=by
  rcases Nat.eq_zero_or_pos m with h|h
  ·have:=bC.1 (List.length_eq_zero_iff.1 (Ap▸h));omega
  ·exact h
 have vc:=Ch p n c q m e V
 have w1:i64.wrap ((m:Int)-1)=((m-1:Nat):Int):=by rw [ar (by omega)];omega
 have w2:i64.wrap ((n:Int)-m)=((n-m:Nat):Int):=by rw [ar (by omega)];omega
 have w3:i64.wrap (((n-m:Nat):Int)+1)=((n-m+1:Nat):Int):=by rw [ar (by omega)];omega
 have w4:i64.wrap (((n-m+1:Nat):Int)-1)=((n-m:Nat):Int):=by rw [ar (by omega)];omega
 simp only [w1,w2,w3,Int.toNat_natCast,w4,cH] at vc
 obtain ⟨L,hL⟩:∃L,L=n-m+1:=⟨_,rfl⟩
 rw [←hL] at vc
 refine vc _ ?_
 clear vc
 refine hy.rd (m-1) rfl (by omega) fun V1 l1=>(fK _ ((aE y).get (by omega))).mono ?_
 rintro r V2 l2 rfl
 have hbl:bh ((ai y)[m-1]'(by omega))<=32:=fX.2 (by have:=(aE y).get (i:=m-1) (by omega);omega)
 obtain ⟨s,hs⟩:∃s:Nat,(32:Int)-(bh ((ai y)[m-1]'(by omega)):Int)=s:=⟨32-bh ((ai y)[m-1]'(by omega)),by omega⟩
 have Iv:s<=32:=by omega
 rw [hs]
 clear hs hbl
 refine ⟨_,rfl,fun V3 l3=>(kT (hy.le (l1.trans (l2.trans l3))) (by omega) s (by omega)).mono ?_⟩
 rintro r V4 l4 ⟨vp,vn,vc,rfl,hv⟩
 rw [ag] at hv
 refine ⟨_,_,_,rfl,fun V5 l5=>(kT (hx.le (l1.trans (l2.trans (l3.trans (l4.trans l5))))) (by omega) s (by omega)).mono ?_⟩
 rintro r V6 l6 ⟨rp,rn,rc,rfl,hr⟩
 rw [ag] at hr
 replace hv:=hv.le (l5.trans l6)
 have hlv:=hv.len
 have hsp:=Nat.two_pow_pos s
 have hs2:2^s<=4294967296:=Nat.pow_le_pow_right (n:=2) (by omega) Iv
 have UE:0<y*2^s:=Nat.mul_pos hy0 hsp
 have hsl:(ai (2^s)).length<=2:=aG.2 (by omega)
 have hvl:vn<=m+2:=by have:=h_ (a:=y) (b:=2^s);omega
 have YX:0<vn:=by
  rcases Nat.eq_zero_or_pos vn with h|h
  ·have:=bC.1 (List.length_eq_zero_iff.1 (hlv▸h));omega
  ·exact h
 have hinit:xz (x*2^s) (y*2^s) L (x*2^s) L (List.replicate L 0):=by
  refine ⟨by simp,bV.rep _,?_,by simp⟩
  have h1:x<4294967296^n:=by rw [hlx];exact aG.1 (Nat.le_refl _)
  have h2:4294967296^(m-1)<=y:=by rw [←rR];omega
  have h3:4294967296^(m-1)*4294967296^L<=y*4294967296^L:=Nat.mul_le_mul_right _ h2
  rw [←Nat.pow_add,show m-1+L=n from by omega] at h3
  have h4:x*2^s<y*4294967296^L*2^s:=Nat.mul_lt_mul_of_pos_right (by omega) hsp
  have h5:y*4294967296^L*2^s=y*2^s*4294967296^L:=by
   generalize 4294967296^L=w
   grind
  omega
 have hend:∀{Q R:Nat},x*2^s=y*2^s*Q+R->R<y*2^s->Q=x / y/\R / 2^s=x%y:=fun h1 h2=>Gt h1 h2
 generalize x*2^s=A at *
 generalize y*2^s=W at *
 have w5:i64.wrap ((vn:Int)-1)=((vn-1:Nat):Int):=by rw [ar (by omega)];omega
 simp only [w5,Int.toNat_natCast]
 refine ⟨_,_,_,rfl,?_⟩
 obtain ⟨top,W7,UL,UM,Nk⟩:=Fc (W:=W) (n:=vn-1) (by omega)
 refine Xy hv (vn-1) top rfl W7 ?_
 have w6:u64.wrap (top:Int)=top:=aL (by omega)
 simp only [w6]
 refine ⟨by omega,by omega,by omega,fun z V'=>∃R:Nat,RN V' z.1 z.2.1 z.2.2.1 R/\-1<=z.2.2.2.1/\z.2.2.2.1<L/\∃es:List Nat,z.2.2.2.2=aF es/\xz A W L R (z.2.2.2.1+1).toNat es,fun z=>(z.2.2.2.1+1).toNat,
  ⟨(rp,rn,rc,((n-m:Nat):Int),aF (List.replicate L 0)),by (try dsimp only);and_intros<;>first|exact True.intro|rfl,A,hr,by (try dsimp only);omega,by (try dsimp only);omega,_,rfl,?_⟩,?_⟩
 ·(try dsimp only)
  rw [show (((n-m:Nat):Int)+1).toNat=L from by omega]
  exact hinit
 rintro ⟨rp,rn,rc,j,vs⟩ V7 l7 ⟨R,hR,hj0,hj1,es,rfl,hI⟩
 dsimp only at hR hj0 hj1 hI ⊢
 have hlr:=hR.len
 refine ⟨by trivial,fun h3=>?_,fun h3=>?_⟩
 ·have h3:0<=j:=by simpa using h3
  obtain ⟨j,rfl⟩:=Int.eq_ofNat_of_zero_le h3
  have hI:xz A W L R (j+1) es:=hI
  have WT:j<L:=by omega
  have hrl:=He hI.lt
  obtain ⟨hq,hI'⟩:=hI.step WT UE
  have w7:i64.wrap ((vn:Int)+j)=((vn-1+j+1:Nat):Int):=by rw [ar (by omega)];omega
  have w8:i64.wrap (((vn-1+j+1:Nat):Int)-1)=((vn-1+j:Nat):Int):=by rw [ar (by omega)];omega
  have w9:i64.wrap ((32:Int)*j)=((32*j:Nat):Int):=by rw [ar (by omega)];omega
  have Th:i64.wrap ((j:Int)-1)=(j:Int)-1:=ar (by omega)
  simp only [w7,w8,w9,Th,Int.toNat_natCast]
  have hrl:(ai R).length<=vn-1+j+2:=by omega
  have hld:=IF hrl
  have hP:0<4294967296^(vn-1):=Nat.pow_pos (by omega)
  have hW:0<4294967296^j:=Nat.pow_pos (by omega)
  have hg:=F9 (R:=R) Nk (by omega) hP hW
  rw [←Nat.pow_add] at hg
  have l2:=@NT R (vn-1+j)
  have l1:=@JS R (vn-1+j)
  have l0:=@NQ R (vn-1+j)
  have hlast:∀i (hi:i<(ai R).length),(ai R)[i]<4294967296:=fun i hi=>(aE R).get hi
  generalize R / 4294967296^(vn-1+j)=lead at *
  refine ⟨fun z V'=>z=(lead:Int),⟨fun h4=>?_,fun h4=>?_⟩,?_⟩
  ·have h4:vn-1+j+1<rn:=by simp at h4;omega
   refine (hR.rd (vn-1+j+1) rfl (by omega) ⟨by omega,hR.rd (vn-1+j) rfl (by omega) ⟨(lead:Int),?_,rfl⟩⟩)
   have e4:aS .or .u64 (u64.wrap (u64.wrap (((ai R)[vn-1+j+1]'(by omega):Nat):Int)*2^32)) (u64.wrap (((ai R)[vn-1+j]'(by omega):Nat):Int))=(lead:Int):=by
    have e3:((2:Int)^32)=4294967296:=by decide
    have g1:=hlast (vn-1+j+1) (by omega)
    have g2:=hlast (vn-1+j) (by omega)
    have:=l2 (by omega)
    rw [e3,aL (x:=(((ai R)[vn-1+j+1]'(by omega):Nat):Int)) (by omega),aL (x:=(((ai R)[vn-1+j]'(by omega):Nat):Int)) (by omega),aL (by omega),Bv _ _ g1 g2,this]
    omega
   (try dsimp only);and_intros<;>first|exact True.intro|exact e4|rfl
  ·have h4:rn<=vn-1+j+1:=by simp at h4;omega
   refine ⟨fun z V'=>z=(lead:Int),⟨fun h5=>?_,fun h5=>?_⟩,?_⟩
   ·have h5:vn-1+j<rn:=by simp at h5;omega
    refine hR.rd (vn-1+j) rfl (by omega) ⟨(lead:Int),?_,rfl⟩
    have e4:u64.wrap (((ai R)[vn-1+j]'(by omega):Nat):Int)=(lead:Int):=by
     have g2:=hlast (vn-1+j) (by omega)
     rw [aL (by omega),l1 (by omega)]
    (try dsimp only);and_intros<;>first|exact True.intro|exact e4|rfl
   ·have h5:rn<=vn-1+j:=by simp at h5;omega
    have e4:(0:Int)=(lead:Int):=by rw [l0 (by omega)];rfl
    refine ⟨(lead:Int),?_,rfl⟩
    (try dsimp only);and_intros<;>first|exact True.intro|exact e4|rfl
   ·rintro _ V8 l8 rfl
    refine ⟨by trivial,(lead:Int),?_,rfl⟩
    (try dsimp only);and_intros<;>first|exact True.intro|rfl
  rintro _ V9 l9 rfl
  clear l2 l1 l0 hlast
  have MR:(lead:Int).tdiv (top:Int)=((lead / top:Nat):Int):=by rw [Int.tdiv_eq_ediv_of_nonneg (by omega)];omega
  have hlt:lead / top<=lead:=Nat.div_le_self _ _
  rw [MR]
  generalize lead / top=lt at *
  obtain ⟨g0,hg0,KH,Rk⟩:∃g0:Nat,bR (u64.wrap (lt:Int)) 4294967295=(g0:Int)/\g0<4294967296/\R / (W*4294967296^j)<=g0:=by
   rw [aL (by omega)]
   unfold bR
   split
   ·exact ⟨4294967295,rfl,by omega,by omega⟩
   ·exact ⟨lt,rfl,by omega,hg⟩
  rw [hg0]
  clear hg0 MR hlt hg hld
  have UF:0<W*4294967296^j:=Nat.mul_pos UE hW
  have hsz:∀g:Nat,g<4294967296->(ai g).length<=1:=fun g hg=>aG.2 (by omega)
  refine ⟨by trivial,by omega,fun g_ l10=>(cW g0 (by omega)).mono ?_⟩
  rintro r gW bI ⟨gp,gn,gc,rfl,h11⟩
  refine ⟨_,_,_,rfl,fun lH cw=>(ct (hv.le (l7.trans (l9.trans (l10.trans (bI.trans cw))))) (h11.le cw) (by have:=hsz g0 KH;omega)).mono ?_⟩
  rintro r lU cd ⟨pp,pn,pc,rfl,LZ⟩
  rw [ag,ag] at LZ
  have hpl:=fun g=>h_ (a:=W) (b:=g)
  refine ⟨_,_,_,rfl,fun po dN=>(kT (LZ.le dN) (by have:=hsz g0 KH;have:=hpl g0;omega) (32*j) (by omega)).mono ?_⟩
  rintro r nF dk ⟨tp,tn,tc,rfl,Pu⟩
  rw [ag,JW] at Pu
  have MY:=hR.le (l9.trans (l10.trans (bI.trans (cw.trans (cd.trans (dN.trans dk))))))
  have RJ:=hv.le (l7.trans (l9.trans (l10.trans (bI.trans (cw.trans (cd.trans (dN.trans dk)))))))
  refine ⟨_,_,_,rfl,fun z V'=>∃g:Nat,z.1=g/\g<4294967296/\R / (W*4294967296^j)<=g/\RN V' z.2.1 z.2.2.1 z.2.2.2 (W*g*4294967296^j),fun z=>z.1.toNat,
   ⟨((g0:Int),tp,tn,tc),by (try dsimp only);and_intros<;>first|exact True.intro|rfl,g0,rfl,KH,Rk,Pu⟩,?_⟩
  rintro ⟨_,tp,tn,tc⟩ mW dm ⟨g,rfl,hgb,WS,ht⟩
  dsimp only at ht ⊢
  have htl:(ai (W*g*4294967296^j)).length<=1099511627776:=by
   have h1:=h_ (a:=W*g) (b:=4294967296^j)
   have h2:=ze j
   have h3:=hpl g
   have h4:=hsz g hgb
   omega
  refine ⟨by trivial,fun nN cP=>(iz (ht.le cP) (MY.le (dm.trans cP)) htl (by omega)).mono ?_⟩
  rintro r qI dZ rfl
  refine ⟨_,rfl,fun h6=>?_,fun h6=>?_⟩
  ·have h6:R<W*g*4294967296^j:=by
    have h6:0<kk (W*g*4294967296^j) R:=by simpa using h6
    unfold kk at h6
    split at h6
    ·omega
    ·split at h6
     ·assumption
     ·omega
   have hgo:=F_ UF h6
   have hg1:0<g:=Nat.lt_of_le_of_lt (Nat.zero_le _) hgo
   have e1:u64.wrap ((g:Int)-1)=((g-1:Nat):Int):=by rw [aL (by omega)];omega
   simp only [e1]
   refine fun tq dR=>(cW (g-1) (by omega)).mono ?_
   rintro r An iQ ⟨gp,gn,gc,rfl,h20⟩
   refine ⟨_,_,_,rfl,fun tu eh=>(ct (RJ.le (dm.trans (cP.trans (dZ.trans (dR.trans (iQ.trans eh)))))) (h20.le eh) (by have:=hsz (g-1) (by omega);omega)).mono ?_⟩
   rintro r wi kq ⟨pp,pn,pc,rfl,h22⟩
   rw [ag,ag] at h22
   refine ⟨_,_,_,rfl,fun tM fB=>(kT (h22.le fB) (by have:=hsz (g-1) (by omega);have:=hpl (g-1);omega) (32*j) (by omega)).mono ?_⟩
   rintro r Cu pg ⟨tp,tn,tc,rfl,Pv⟩
   rw [ag,JW] at Pv
   refine ⟨_,_,_,rfl,(((g-1:Nat):Int),tp,tn,tc),?_,by (try dsimp only);and_intros<;>first|exact True.intro|rfl,g-1,rfl,by omega,by omega,Pv⟩
   (try dsimp only);omega
  ·have h6:W*g*4294967296^j<=R:=by
    have h6:¬0<kk (W*g*4294967296^j) R:=by simpa using h6
    unfold kk at h6
    split at h6
    ·omega
    ·split at h6
     ·omega
     ·omega
   have hstop:=CU UF h6 WS
   rw [←hstop] at hI'
   have hes:=hI.len
   refine ⟨⟨by omega,by omega⟩,by simp;omega,fun DN gF=>(ow (MY.le (dm.trans (cP.trans (dZ.trans gF)))) (ht.le (cP.trans (dZ.trans gF))) (by omega) (aI h6) (by rw [ag,ag];exact h6)).mono ?_⟩
   rintro r Fv nV ⟨np,nn,nc,rfl,Pw⟩
   rw [ag,ag] at Pw
   have e1:u32.wrap (g:Int)=(g:Int):=qt (by omega)
   have e2:(aF es).set (0+j*1) (.int .u32 (g:Int))=aF (es.set j g):=by rw [←bq];simp
   simp only [e1]
   refine ⟨_,_,_,rfl,(np,nn,nc,(j:Int)-1,aF (es.set j g)),?_,by (try dsimp only);and_intros<;>first|exact True.intro|rfl|exact e2|(rw [←bq];simp),R-W*g*4294967296^j,Pw,by (try dsimp only);omega,by (try dsimp only);omega,_,rfl,?_⟩
   ·(try dsimp only);omega
   ·(try dsimp only)
    rw [show ((j:Int)-1+1).toNat=j from by omega]
    exact hI'
 ·have h3:j=-1:=by simp at h3;omega
  subst h3
  have Rw:(ai R).length<=1099511627776:=by
   have h6:=hI.lt
   have h6:R<W:=by simpa using h6
   have:=aI (Nat.le_of_lt h6)
   omega
  intro V8 l8 bk hb
  refine (cV (RD.bE hb hI.eI (n:=L) (c:=L) hI.len.symm (Nat.le_refl _)) (by have:=hI.len;omega)).mono ?_
  rintro r V9 l9 ⟨k,rfl,h4⟩
  refine ⟨_,_,_,rfl,fun _ g_ l10=>(AK (hR.le (l8.trans (l9.trans l10))) Rw s (by omega)).mono ?_⟩
  rintro r gW bI ⟨p2,n2,c2,rfl,h5⟩
  rw [ag] at h5
  refine ⟨_,_,_,rfl,fun lH cw=>⟨_,_,_,_,_,_,rfl,?_,?_⟩⟩
  ·have h6:=hI.lt
   have h7:=hI.eq
   have h6:R<W:=by simpa using h6
   have h7:A=W*val es+R:=by simpa using h7
   obtain ⟨g1,g2⟩:=hend h7 h6
   rw [aR hI.eI,g1] at h4
   exact h4.le (l10.trans (bI.trans cw))
  ·have h6:=hI.lt
   have h7:=hI.eq
   have h6:R<W:=by simpa using h6
   have h7:A=W*val es+R:=by simpa using h7
   obtain ⟨g1,g2⟩:=hend h7 h6
   rw [g2] at h5
   exact h5.le cw
theorem qD {x:Nat}(h:(ai x).length<=2):x<18446744073709551616:=by
 have:=aG.1 h
 omega
theorem copied {V:View}{b n c:Nat}{ds:List Nat}{sp:List Value}{ty:TypeId}(hd:bV ds)(hn:n=ds.length)(hc:n<=c)(hb:V.bE b (.cells (aF ds++sp).toArray ty (0,0))):RD V (some ⟨b,0,none⟩) n c ds:=by
 refine ⟨hn,hc,fun i v hv=>⟨_,rfl,?_⟩,hd,fun e=>nomatch e⟩
 rw [add_zero']
 refine cU hb ?_
 rw [List.getElem?_append_left]
 ·exact hv
 ·rcases Nat.lt_or_ge i (aF ds).length with e|e
  ·exact e
  ·rw [List.getElem?_eq_none e] at hv;cases hv
theorem cF {V:View}{p q:OA}{n c m e:Nat}{x y:Nat}(hx:RN V p n c x)(hy:RN V q m e y)(hm:(ai x).length<=274877906944)(hm':(ai y).length<=274877906944)(hy0:0<y) :
  ab prog 114 #[.slice p n c,.slice q m e] V fun r V'=>∃p1 n1 c1 p2 n2 c2,r=.tuple #[.slice p1 n1 c1,.slice p2 n2 c2]/\RN V' p1 n1 c1 (x / y)/\RN V' p2 n2 c2 (x%y):=by
 have hlx:=hx.len
 have Ap:=hy.len
 have hm0:0<m:=by
  rcases Nat.eq_zero_or_pos m with h|h
  ·have:=bC.1 (List.length_eq_zero_iff.1 (Ap▸h));omega
  ·exact h
 refine xk p n c q m e V _ fun V1 l1=>(kV (hx.le l1) (by omega)).mono ?_
 rintro r V2 l2 rfl
 rw [ag]
 refine ⟨_,_,rfl,fun z V'=>True,⟨fun h0=>?_,fun h0=>⟨(),by (try dsimp only);and_intros<;>first|exact True.intro|rfl,trivial⟩⟩,?_⟩
 ·have h0:n<=2:=by simpa using h0
  refine fun V3 l3=>(kV (hy.le (l1.trans (l2.trans l3))) (by omega)).mono ?_
  rintro r V4 l4 rfl
  rw [ag]
  refine ⟨_,_,rfl,fun h1=>?_,fun h1=>⟨(),by (try dsimp only);and_intros<;>first|exact True.intro|rfl,trivial⟩⟩
  have h1:m<=2:=by simpa using h1
  have hxw:=qD (x:=x) (by omega)
  have UQ:=qD (x:=y) (by omega)
  rw [if_pos h0,if_pos h1]
  have hq:x / y<=x:=Nat.div_le_self _ _
  have hr:x%y<y:=Nat.mod_lt _ hy0
  have e1:((x:Nat):Int).tdiv (y:Int)=((x / y:Nat):Int):=by rw [Int.tdiv_eq_ediv_of_nonneg (by omega)];omega
  have e2:((x:Nat):Int).tmod (y:Int)=((x%y:Nat):Int):=by rw [Int.tmod_eq_emod_of_nonneg (by omega)];omega
  rw [e1,e2]
  generalize x / y=qq at *
  generalize x%y=rr at *
  have e3:u64.wrap (qq:Int)=qq:=aL (by omega)
  rw [e3]
  refine ⟨by omega,by omega,fun V5 l5=>(cW qq (by omega)).mono ?_⟩
  rintro r V6 l6 ⟨p1,n1,c1,rfl,g1⟩
  refine ⟨_,_,_,rfl,fun V7 l7=>(cW rr (by omega)).mono ?_⟩
  rintro r V8 l8 ⟨p2,n2,c2,rfl,g2⟩
  exact ⟨_,_,_,rfl,fun V9 l9=>⟨_,_,_,_,_,_,rfl,g1.le (l7.trans (l8.trans l9)),g2.le l9⟩⟩
 rintro _ g_ l10 _
 replace hx:=hx.le (l1.trans (l2.trans l10))
 replace hy:=hy.le (l1.trans (l2.trans l10))
 refine ⟨by trivial,fun gW bI=>(iz (hx.le bI) (hy.le bI) (by omega) (by omega)).mono ?_⟩
 rintro r lH cw rfl
 replace hx:=hx.le (bI.trans cw)
 replace hy:=hy.le (bI.trans cw)
 refine ⟨_,rfl,fun h0=>⟨aF (ai x),hx.sl,by simp [hlx],by omega,by omega,by simp,by simp [hlx],?_,?_⟩,fun h0=>⟨fun h1=>?_,fun h1=>?_⟩⟩
 ·intro v hv
  simp only [aF,List.mem_map] at hv
  obtain ⟨d,-,rfl⟩:=hv
  rfl
 ·have h0:x<y:=by simpa [fh] using h0
  intro bk J sp c' h1 h2 V1 l1 b hb
  rw [Nat.div_eq_of_lt h0,Nat.mod_eq_of_lt h0]
  refine ⟨_,_,_,_,_,_,rfl,RD.nil,?_⟩
  simp only [Nat.zero_add,Nat.zero_mul,List.take_zero,List.nil_append] at hb h1 ⊢
  exact copied (aE x) hlx h1 hb
 ·have h0:y<=x:=by simpa [←Int.not_lt,fh] using h0
  have h1:m=1:=by simp at h1;omega
  subst h1
  obtain ⟨d,hd⟩:=lq (ds:=ai y) (by omega)
  have hdy:d=y:=by have:=ag y;rw [hd] at this;simpa using this
  subst hdy
  have hdl:d<4294967296:=by have:=aE d;rw [hd] at this;exact (bV.cons.1 this).1
  try unfold RN at hy
  rw [hd] at hy
  have hn0:0<n:=by have:=aI h0;omega
  have w1:i64.wrap ((n:Int)-1)=(n:Int)-1:=ar (by omega)
  simp only [w1,Int.toNat_natCast,cH]
  have yh:=aE x
  have Np:=ag x
  try unfold RN at hx
  clear hd
  rw [←Np]
  clear Np h0
  generalize ai x=xs at *
  refine ⟨by omega,by omega,by omega,fun z V'=>0<=z.1/\z.1<d/\-1<=z.2.1/\z.2.1<n/\∃es:List Nat,z.2.2=aF es/\es.length=n/\bV es /\
   val (xs.drop (z.2.1+1).toNat)=d*val (es.drop (z.2.1+1).toNat)+z.1.toNat,fun z=>(z.2.1+1).toNat,
   ⟨(0,(n:Int)-1,aF (List.replicate n 0)),by (try dsimp only);and_intros<;>first|exact True.intro|rfl,by (try dsimp only);omega,by (try dsimp only);omega,by (try dsimp only);omega,by (try dsimp only);omega,_,rfl,by simp,bV.rep _,?_⟩,?_⟩
  ·(try dsimp only)
   rw [List.drop_of_length_le (by omega),List.drop_of_length_le (by simp)];rfl
  rintro ⟨rest,i,vs⟩ po dN ⟨hr0,hr1,hi0,hi1,es,rfl,hes,hde,hv⟩
  dsimp only at hr0 hr1 hi0 hi1 hv ⊢
  obtain ⟨rest,rfl⟩:=Int.eq_ofNat_of_zero_le hr0
  refine ⟨by trivial,fun h3=>?_,fun h3=>?_⟩
  ·have h3:0<=i:=by simpa using h3
   obtain ⟨i,rfl⟩:=Int.eq_ofNat_of_zero_le h3
   have hi2:((i:Int)+1).toNat=i+1:=by omega
   rw [hi2] at hv
   simp only [Int.toNat_natCast] at hv ⊢
   have Rj:=yh.get (i:=i) (by omega)
   refine (hx.le dN).rd i rfl (by omega) (BD (hy.le dN) (by simp) fun nF dk=>(HZ rest xs[i] d (by omega) Rj hdl).mono ?_)
   rintro r mW dm rfl
   have hq:(rest*4294967296+xs[i]) / d<4294967296:=by
    rw [Nat.div_lt_iff_lt_mul (by omega)]
    have:rest+1<=d:=by omega
    have:=Nat.mul_le_mul_right 4294967296 this
    rw [Nat.mul_comm 4294967296 d]
    omega
   have hr:(rest*4294967296+xs[i])%d<d:=Nat.mod_lt _ (by omega)
   have Fp:=Nat.div_add_mod (rest*4294967296+xs[i]) d
   generalize (rest*4294967296+xs[i]) / d=q at *
   generalize (rest*4294967296+xs[i])%d=r at *
   have w2:i64.wrap ((i:Int)-1)=(i:Int)-1:=ar (by omega)
   simp only [w2]
   refine ⟨_,_,rfl,⟨by omega,by omega⟩,by simp;omega,((r:Int),(i:Int)-1,aF (es.set i q)),?_,?_,?_⟩
   ·(try dsimp only);omega
   ·(try dsimp only);and_intros<;>first|exact True.intro|rfl|(rw [←bq];simp)
   ·(try dsimp only)
    refine ⟨by omega,by omega,by omega,by omega,_,rfl,by simpa using hes,hde.set _ _ (by omega),?_⟩
    have hi3:((i:Int)-1+1).toNat=i:=by omega
    rw [hi3,List.drop_eq_getElem_cons (by omega),List.drop_eq_getElem_cons (l:=es.set i q) (by simp;omega),List.getElem_set_self,List.drop_set_of_lt (by omega)]
    have h9:xs[i]+4294967296*val (List.drop (i+1) xs)=d*(q+4294967296*val (List.drop (i+1) es))+r:=vo hv Fp
    rw [bj,bj,Int.toNat_natCast]
    exact h9
  ·have h3:i=-1:=by simp at h3;omega
   subst h3
   simp only [Int.toNat_natCast] at hv
   have hv:val xs=d*val es+rest:=by simpa using hv
   intro nN cP bk hb
   refine (cV (RD.bE hb hde (n:=n) (c:=n) (by omega) (Nat.le_refl _)) (by omega)).mono ?_
   rintro r qI dZ ⟨k,rfl,h4⟩
   refine ⟨_,_,_,rfl,fun _ tq dR bk2 hb2=>?_⟩
   have hb2:tq.bE bk2 (.cells (aF [rest]).toArray 186 (0,0)):=by
    simpa [aF] using hb2
   refine (cV (RD.bE hb2 (n:=1) (c:=1) (by simp [bV];omega) rfl (Nat.le_refl _)) (by simp)).mono ?_
   rintro r An iQ ⟨k2,rfl,h5⟩
   refine ⟨_,_,_,rfl,fun _ tu eh=>⟨_,_,_,_,_,_,rfl,?_,?_⟩⟩
   ·have e1:val xs / d=val es:=by rw [hv,Nat.mul_add_div (by omega),Nat.div_eq_of_lt (by omega),Nat.add_zero]
    rw [aR hde] at h4
    rw [e1]
    exact h4.le (dR.trans (iQ.trans eh))
   ·have e2:val xs%d=rest:=by rw [hv,Nat.mul_add_mod,Nat.mod_eq_of_lt (by omega)]
    rw [aR (by simp [bV];omega)] at h5
    have e3:val [rest]=rest:=by simp
    rw [e3] at h5
    rw [e2]
    exact h5.le eh
 ·have h0:y<=x:=by simpa [←Int.not_lt,fh] using h0
  refine fun lU cd=>(CF (hx.le cd) (hy.le cd) hm hy0 (aI h0)).mono ?_
  rintro r po dN ⟨p1,n1,c1,p2,n2,c2,rfl,g1,g2⟩
  exact ⟨_,_,_,_,_,_,rfl,fun nF dk=>⟨_,_,_,_,_,_,rfl,g1.le dk,g2.le dk⟩⟩
theorem hJ {V:View}{p q:OA}{n c m e:Nat}{x y:Nat}(hx:RN V p n c x)(hy:RN V q m e y)(hm:(ai x).length<=274877906944)(hm':(ai y).length<=274877906944) :
  ab prog 113 #[.slice p n c,.slice q m e] V fun r V'=>∃p1 n1 c1,r=.slice p1 n1 c1/\RN V' p1 n1 c1 (Nat.gcd x y):=by
 have hlx:=hx.len
 have Ap:=hy.len
 refine xj p n c q m e V _ fun V1 l1=>(kV (hx.le l1) (by omega)).mono ?_
 rintro r V2 l2 rfl
 rw [ag]
 refine ⟨_,_,rfl,fun z V'=>True,⟨fun h0=>?_,fun h0=>⟨(),by (try dsimp only);and_intros<;>first|exact True.intro|rfl,trivial⟩⟩,?_⟩
 ·have h0:n<=2:=by simpa using h0
  refine fun V3 l3=>(kV (hy.le (l1.trans (l2.trans l3))) (by omega)).mono ?_
  rintro r V4 l4 rfl
  rw [ag]
  refine ⟨_,_,rfl,fun h1=>?_,fun h1=>⟨(),by (try dsimp only);and_intros<;>first|exact True.intro|rfl,trivial⟩⟩
  have h1:m<=2:=by simpa using h1
  have hxw:=qD (x:=x) (by omega)
  have UQ:=qD (x:=y) (by omega)
  rw [if_pos h0,if_pos h1]
  refine ⟨fun z V'=>∃a b:Nat,z=((a:Int),(b:Int))/\a<18446744073709551616/\b<18446744073709551616/\Nat.gcd a b=Nat.gcd x y,fun z=>z.2.toNat,
   ⟨((x:Int),(y:Int)),by (try dsimp only);and_intros<;>first|exact True.intro|rfl,x,y,rfl,hxw,UQ,rfl⟩,?_⟩
  rintro _ V5 l5 ⟨a,b,rfl,ha,hb,hg⟩
  dsimp only
  refine ⟨by trivial,fun h3=>?_,fun h3=>?_⟩
  ·have h3:0<b:=by simpa using h3
   have e2:(a:Int).tmod (b:Int)=((a%b:Nat):Int):=by rw [Int.tmod_eq_emod_of_nonneg (by omega)];omega
   have hr:a%b<b:=Nat.mod_lt _ h3
   refine ⟨by omega,((b:Int),((a%b:Nat):Int)),?_,by (try dsimp only);and_intros<;>first|exact True.intro|rfl|exact e2,b,a%b,rfl,hb,by omega,?_⟩
   ·(try dsimp only);simp only [Int.toNat_natCast];exact hr
   ·rw [←hg,Nat.gcd_comm a b,Nat.gcd_rec b a,Nat.gcd_comm]
  ·have h3:b=0:=by simp at h3;omega
   subst h3
   rw [Nat.gcd_zero_right] at hg
   refine fun V6 l6=>(cW a ha).mono ?_
   rintro r V7 l7 ⟨p1,n1,c1,rfl,g1⟩
   rw [hg] at g1
   exact ⟨_,_,_,rfl,fun V8 l8=>⟨_,_,_,rfl,g1.le l8⟩⟩
 rintro _ V9 l9 _
 replace hx:=hx.le (l1.trans (l2.trans l9))
 replace hy:=hy.le (l1.trans (l2.trans l9))
 refine ⟨by trivial,fun z k V'=>∃a b:Nat,RN V' z.1 z.2.1 z.2.2.1 a/\RN V' z.2.2.2.1 z.2.2.2.2.1 z.2.2.2.2.2 b/\b=k/\(ai a).length<=274877906944/\(ai b).length<=274877906944/\Nat.gcd a b=Nat.gcd x y,
  ⟨(p,n,c,q,m,e),y,by (try dsimp only);and_intros<;>first|exact True.intro|rfl,x,y,hx,hy,rfl,hm,hm',rfl⟩,?_⟩
 rintro ⟨ap,an,ac,bp,bn,bc⟩ _ g_ l10 ⟨a,b,ha,hb,rfl,hal,hbl,hg⟩
 dsimp only at ha hb ⊢
 have hla:=ha.len
 have hlb:=hb.len
 refine ⟨by trivial,fun h3=>?_,fun h3=>?_⟩
 ·have h3:0<bn:=by simpa using h3
  have hb0:0<b:=by
   rcases Nat.eq_zero_or_pos b with h|h
   ·subst h;simp at hlb;omega
   ·exact h
  refine fun gW bI=>(cF (ha.le bI) (hb.le bI) hal hbl hb0).mono ?_
  rintro r lH cw ⟨p1,n1,c1,p2,n2,c2,rfl,g1,g2⟩
  have hr:a%b<b:=Nat.mod_lt _ hb0
  have hrl:=aI (Nat.le_of_lt hr)
  refine ⟨_,_,_,_,_,_,rfl,(bp,bn,bc,p2,n2,c2),a%b,hr,by (try dsimp only);and_intros<;>first|exact True.intro|rfl,b,a%b,hb.le (bI.trans cw),g2,rfl,hbl,by omega,?_⟩
  rw [←hg,Nat.gcd_comm a b,Nat.gcd_rec b a,Nat.gcd_comm]
 ·have h3:bn=0:=by simp at h3;omega
  have hb0:b=0:=bC.1 (List.length_eq_zero_iff.1 (by omega))
  subst hb0
  rw [Nat.gcd_zero_right] at hg
  rw [←hg]
  refine ⟨aF (ai a),ha.sl,by simp [hla],by omega,by omega,by simp,by simp [hla],?_,?_⟩
  ·intro v hv
   simp only [aF,List.mem_map] at hv
   obtain ⟨d,-,rfl⟩:=hv
   rfl
  ·intro bk J sp c' h1 h2 V1 l1 b hb
   refine ⟨_,_,_,rfl,?_⟩
   simp only [Nat.zero_add,Nat.zero_mul,List.take_zero,List.nil_append] at hb h1 ⊢
   exact copied (aE a) hla h1 hb
end Go.Proofs.Tryz
namespace Go.fV
def aY (b:Bool)(ds:List Nat):Int:=if b then -(val ds:Int) else val ds
end Go.fV
namespace Go.bK
open Go.fV
def RI (V:View)(v:Value)(z:Int):Prop:=∃p n c,v=.agg #[.bool (decide (z<0)),.slice p n c]/\RD V p n c (ai z.natAbs)
theorem RI.le {V V':View}{v:Value}{z:Int}(h:RI V v z)(l:V.Le V'):RI V' v z:=by
 obtain ⟨p,n,c,e,h⟩:=h;exact ⟨p,n,c,e,h.le l⟩
theorem RI.mk {V:View}{b:Bool}{p:OA}{n c:Nat}{z:Int}(hb:b=decide (z<0))(h:RD V p n c (ai z.natAbs)):RI V (.agg #[.bool b,.slice p n c]) z:=⟨p,n,c,by rw [hb],h⟩
theorem RI.zero {V:View}:RI V (.agg #[.bool false,.slice none 0 0]) 0:=⟨_,_,_,rfl,RD.nil⟩
end Go.bK
namespace Go.Proofs.Tryz
open Go.bK Go.fV
theorem kd {n:Nat}:bh n=0↔n=0:=by
 unfold bh;split<;>simp_all
theorem eQ (b:Bool)(ds:List Nat):(aY b ds).natAbs=val ds:=by unfold aY;cases b<;>simp
theorem Bi (b:Bool)(ds:List Nat):aY b ds<0↔b=true/\val ds≠0:=by
 unfold aY;cases b
 ·simp
 ·simp;omega
theorem aH (z:Int):aY (decide (z<0)) (ai z.natAbs)=z:=by
 unfold aY;rw [ag]
 by_cases h:z<0
 ·rw [decide_eq_true h,if_pos rfl];omega
 ·rw [decide_eq_false h,if_neg (by decide)];omega
theorem Gg (b:Bool)(ds:List Nat):aY (!b) ds=-aY b ds:=by unfold aY;cases b<;>simp
theorem oG (ds:List Nat):aY false ds=val ds:=rfl
theorem fm {x n:Nat}(h:n=(ai x).length):0<n↔x≠0:=by
 rw [h]
 constructor
 ·intro h1 h2;subst h2;simp at h1
 ·intro h1
  rcases Nat.eq_zero_or_pos (ai x).length with e|e
  ·exact absurd (bC.1 (List.length_eq_zero_iff.1 e)) h1
  ·exact e
theorem kh {V:View}(b:Bool){p:OA}{n c x:Nat}(h:RN V p n c x) :
  ab prog 237 #[.bool b,.slice p n c] V fun r V'=>RI V' r (if b then -(x:Int) else x):=by
 have hp:=fm h.len
 refine qB b p n c V _ ⟨fun h0 V1 l1=>?_,fun h0 V1 l1=>?_⟩
 ·rw [if_pos h0]
  refine RI.mk ?_ ?_
  ·rw [Bool.eq_iff_iff,decide_eq_true_eq,decide_eq_true_eq]
   omega
  ·rw [Int.natAbs_neg,Int.natAbs_natCast];exact h.le l1
 ·rw [h0,if_neg (by decide)]
  refine RI.mk ?_ ?_
  ·symm;rw [decide_eq_false_iff_not];omega
  ·rw [Int.natAbs_natCast];exact h.le l1
theorem iI {V:View}(b:Bool){p:OA}{n c:Nat}{ds:List Nat}(h:RD V p n c ds)(hm:ds.length<=1099511627776) :
  ab prog 182 #[.agg #[.bool b,.slice p n c]] V fun r V'=>RI V' r (aY b ds):=by
 refine sS b p n c V _ fun V1 l1=>(iK (h.le l1) hm).mono ?_
 rintro r V2 l2 ⟨p1,n1,c1,rfl,h1⟩
 have hp:=fm h1.len
 have hn:=Bi b ds
 refine ⟨_,_,_,rfl,fun h0 V3 l3=>RI.mk ?_ ?_,fun h0 V3 l3=>RI.mk ?_ ?_⟩
 ·rw [Bool.eq_iff_iff,decide_eq_true_eq,decide_eq_true_eq,hn]
  simp [h0];omega
 ·rw [eQ];exact h1.le l3
 ·symm;rw [decide_eq_false_iff_not,hn];simp [h0]
 ·rw [eQ];exact h1.le l3
def lR (b:Bool)(ds:List Nat):Bool:=decide (ai (val ds)=ds)&&(!b||decide (ds≠[]))
theorem fM {V:View}(b:Bool){p:OA}{n c:Nat}{ds:List Nat}(h:RD V p n c ds)(hm:ds.length<=1099511627776) :
  ab prog 171 #[.agg #[.bool b,.slice p n c]] V fun r V'=>r=.bool (lR b ds):=by
 refine qA b p n c V _ fun V1 l1=>(yW (h.le l1) hm).mono ?_
 rintro r V2 l2 rfl
 refine ⟨_,rfl,fun h0=>⟨fun h1 V3 l3=>?_,fun h1 V3 l3=>?_⟩,fun h0 V3 l3=>?_⟩
 ·simp [lR,h0];simp at h1;simp [h1]
 ·have hl:=h.len
  simp [lR,h0];simp at h1;simp [h1]
  rw [Bool.eq_iff_iff,decide_eq_true_eq]
  simp
  constructor
  ·intro h2 h3;subst h3;simp at hl;omega
  ·intro h2
   rcases Nat.eq_zero_or_pos ds.length with e|e
   ·exact absurd (List.length_eq_zero_iff.1 e) h2
   ·omega
 ·simp [lR,h0]
theorem jn {V:View}(n:Int)(h0:-9223372036854775808<=n)(h1:n<=9223372036854775807) :
  ab prog 183 #[.int .i64 n] V fun r V'=>RI V' r n:=by
 refine oT n V _ ⟨fun h2 V1 l1=>?_,fun h2 V1 l1=>?_⟩
 ·have h2:n<0:=by simpa using h2
  have e:u64.wrap (0-u64.wrap n)=-n:=by rw [rC,rC];omega
  rw [e]
  refine (dE _ (by omega) (by omega)).mono ?_
  rintro r V2 l2 ⟨p1,n1,c1,rfl,g1⟩
  refine ⟨_,_,_,rfl,fun V3 l3=>⟨_,_,_,rfl,?_⟩⟩
  rw [show n.natAbs=(-n).toNat from by omega];exact g1.le l3
 ·have h2:0<=n:=by simpa using h2
  rw [aL (by omega)]
  refine (dE _ (by omega) (by omega)).mono ?_
  rintro r V2 l2 ⟨p1,n1,c1,rfl,g1⟩
  refine ⟨_,_,_,rfl,fun V3 l3=>⟨_,_,_,rfl,?_⟩⟩
  rw [show n.natAbs=n.toNat from by omega];exact g1.le l3
theorem mg {V:View}(b:Bool){p:OA}{n c:Nat}{ds:List Nat}(h:RD V p n c ds)(hm:ds.length<=1099511627776) :
  ab prog 169 #[.agg #[.bool b,.slice p n c]] V fun r V'=>r=.int .i64 (aY b ds).sign:=by
 refine sT b p n c V _ fun V1 l1=>(iJ (h.le l1) hm).mono ?_
 rintro r V2 l2 rfl
 have hz:(aY b ds)=0↔val ds=0:=by rw [←eQ b ds];omega
 have hn:=Bi b ds
 refine ⟨_,rfl,fun h0 V3 l3=>?_,fun h0=>⟨fun h1 V3 l3=>?_,fun h1 V3 l3=>?_⟩⟩
 ·have:val ds=0:=kd.1 (by simp at h0;omega)
  rw [hz.2 this];rfl
 ·have:val ds≠0:=fun e=>by simp [kd.2 e] at h0
  rw [Int.sign_eq_neg_one_of_neg (hn.2 ⟨h1,this⟩)]
 ·have:val ds≠0:=fun e=>by simp [kd.2 e] at h0
  have:0<aY b ds:=by
   have:=hz
   have:¬aY b ds<0:=by rw [hn];simp [h1]
   omega
  rw [Int.sign_eq_one_of_pos this]
theorem wB {V:View}(b:Bool){p:OA}{n c:Nat}{ds:List Nat}(h:RD V p n c ds)(hm:ds.length<=1099511627776) :
  ab prog 222 #[.agg #[.bool b,.slice p n c]] V fun r V'=>RI V' r (-aY b ds):=by
 refine vM b p n c V _ fun V1 l1=>(iI (!b) (h.le l1) hm).mono ?_
 rintro r V2 l2 ⟨p1,n1,c1,rfl,h1⟩
 rw [Gg] at h1 ⊢
 exact ⟨_,_,_,_,rfl,fun V3 l3=>⟨_,_,_,rfl,h1.le l3⟩⟩
theorem fY {V:View}(b1 b2:Bool){p q:OA}{n c m e:Nat}{xa xb:List Nat}(ha:RD V p n c xa)(hb:RD V q m e xb)(hm:xa.length+xb.length<=1099511627776) :
  ab prog 202 #[.agg #[.bool b1,.slice p n c],.agg #[.bool b2,.slice q m e]] V fun r V'=>RI V' r (aY b1 xa*aY b2 xb):=by
 refine vL b1 p n c b2 q m e V _ fun V1 l1=>(fN (ha.le l1) (hb.le l1) hm).mono ?_
 rintro r V2 l2 ⟨p1,n1,c1,rfl,h1⟩
 refine ⟨_,_,_,rfl,fun V3 l3=>(kh _ (h1.le l3)).mono ?_⟩
 rintro r V4 l4 ⟨p2,n2,c2,rfl,h2⟩
 have e1:(if (!(b1==b2))=true then -((val xa*val xb:Nat):Int) else ((val xa*val xb:Nat):Int))=aY b1 xa*aY b2 xb:=by
  unfold aY;cases b1<;>cases b2<;>simp [Int.neg_mul,Int.mul_neg]
 rw [e1] at h2 ⊢
 exact ⟨_,_,_,_,rfl,fun V5 l5=>⟨_,_,_,rfl,h2.le l5⟩⟩
theorem wA {V:View}(b1 b2:Bool){p q:OA}{n c m e:Nat}{xa xb:List Nat}(ha:RD V p n c xa)(hb:RD V q m e xb)(hm:xa.length<=1099511627776)(hn:xb.length<=1099511627776) :
  ab prog 205 #[.agg #[.bool b1,.slice p n c],.agg #[.bool b2,.slice q m e]] V fun r V'=>RI V' r (aY b1 xa+aY b2 xb):=by
 have fin:∀{b:Bool} {x:Nat} {V1:View} {p1:OA} {n1 c1:Nat},RN V1 p1 n1 c1 x->(if b then -(x:Int) else x)=aY b1 xa+aY b2 xb ->
   ab prog 237 #[.bool b,.slice p1 n1 c1] V1 fun r V'=>∃(FE:Bool)(GV:OA)(Gz FJ:Nat),r=.agg #[.bool FE,.slice GV Gz FJ]/\∀V3:View,V'.Le V3->RI V3 (.agg #[.bool FE,.slice GV Gz FJ]) (aY b1 xa+aY b2 xb):=by
  intro b x V1 p1 n1 c1 h he
  refine (kh b h).mono ?_
  rintro r V4 l4 ⟨p2,n2,c2,rfl,h2⟩
  rw [he] at h2 ⊢
  exact ⟨_,_,_,_,rfl,fun V5 l5=>⟨_,_,_,rfl,h2.le l5⟩⟩
 refine vK b1 p n c b2 q m e V _ ⟨fun h0 V1 l1=>(EC (ha.le l1) (hb.le l1) hm hn).mono ?_,fun h0 V1 l1=>(xS (ha.le l1) (hb.le l1) hm hn).mono ?_⟩
 ·rintro r V2 l2 ⟨p1,n1,c1,rfl,h1⟩
  have h0:b1=b2:=by simpa using h0
  subst h0
  exact ⟨_,_,_,rfl,fun V3 l3=>fin (h1.le l3) (by unfold aY;cases b1<;>simp;omega)⟩
 ·rintro r V2 l2 ⟨p1,n1,c1,rfl,h1⟩
  have h0:b2=!b1:=by cases b1<;>cases b2<;>simp_all
  subst h0
  refine ⟨_,_,_,_,rfl,fun h2 V3 l3=>fin (h1.le l3) ?_,fun h2 V3 l3=>(xS (hb.le (l1.trans (l2.trans l3))) (ha.le (l1.trans (l2.trans l3))) hn hm).mono ?_⟩
  ·have h2:val xb<=val xa:=by simpa using h2
   unfold aY;cases b1<;>simp<;>omega
  ·rintro r V4 l4 ⟨p2,n2,c2,rfl,h3⟩
   have h2:val xa<val xb:=by simpa using h2
   exact ⟨_,_,_,_,rfl,fun V5 l5=>fin (h3.le l5) (by unfold aY;cases b1<;>simp<;>omega)⟩
theorem sF {V:View}(b:Bool){p:OA}{n c:Nat}{ds:List Nat}(h:RD V p n c ds)(hm:ds.length<=1099511627776)(hs:val ds<4611686018427387904) :
  ab prog 194 #[.agg #[.bool b,.slice p n c]] V fun r V'=>r=.tuple #[.int .i64 (aY b ds),.bool true]:=by
 refine rE b p n c V _ fun V1 l1=>(kR (h.le l1) hm).mono ?_
 rintro r V2 l2 rfl
 rw [if_pos (by omega),decide_eq_true (show val ds<18446744073709551616 by omega)]
 refine ⟨_,_,rfl,fun _=>⟨fun h1=>⟨fun h2 V3 l3=>?_,fun h2=>?_⟩,fun h1=>⟨fun _=>⟨fun h2=>⟨fun h3 V4 l4=>?_,fun h3=>?_⟩,fun h2=>?_⟩,fun h2=>nomatch h2⟩⟩,fun h1=>nomatch h1⟩
 ·subst h1
  have e:i64.wrap (u64.wrap (0-(val ds:Int)))=-(val ds:Int):=by
   rw [rC,IntKind.wrap_i64];omega
  rw [e];rfl
 ·simp at h2;omega
 ·subst h1
  rw [ar (by omega)];rfl
 ·simp at h3;omega
 ·simp [h1] at h2
end Go.Proofs.Tryz
namespace Go.bK
open Go.fV
def Wd (q:Rat):Prop:=q.num.natAbs<4611686018427387904/\q.den<4611686018427387904
def RR (V:View)(v:Value)(q:Rat):Prop:=
 (v=.agg #[.int .i64 q.num,.int .i64 ((q.den:Int)-1),.pointer none]/\Wd q) \/
 (∃a b p n c p' n' c',v=.agg #[.int .i64 0,.int .i64 0,.pointer (some a)]/\V.at (a.add 0) (.bool b)/\V.at (a.add 1) (.slice p n c)/\V.at (a.add 2) (.slice p' n' c') /\
  RI V (.agg #[.bool b,.slice p n c]) q.num/\RD V p' n' c' (ai q.den)/\¬Wd q)
theorem RR.le {V V':View}{v:Value}{q:Rat}(h:RR V v q)(l:V.Le V'):RR V' v q:=by
 rcases h with h|⟨a,b,p,n,c,p',n',c',e,h1,h2,h3,h4,h5,h6⟩
 ·exact .inl h
 ·exact .inr ⟨a,b,p,n,c,p',n',c',e,l.at h1,l.at h2,l.at h3,h4.le l,h5.le l,h6⟩
def Sz (k:Nat)(q:Rat):Prop:=q.num.natAbs<2^k/\q.den<2^k
theorem Sz.mono {k m:Nat}{q:Rat}(h:Sz k q)(hm:k<=m):Sz m q:=
 ⟨Nat.lt_of_lt_of_le h.1 (Nat.pow_le_pow_right (by omega) hm),Nat.lt_of_lt_of_le h.2 (Nat.pow_le_pow_right (by omega) hm)⟩
theorem af {n k:Nat}(h:n<2^k):(ai n).length<=k:=by
 rw [aG]
 exact Nat.lt_of_lt_of_le h (Nat.pow_le_pow_left (by omega) k)
theorem Wd.sz {q:Rat}(h:Wd q):Sz 62 q:=h
theorem RR.shape {V:View}{v:Value}{q:Rat}(h:RR V v q):∃(n d:Int)(p:OA),v=.agg #[.int .i64 n,.int .i64 d,.pointer p]:=by
 rcases h with ⟨e,-⟩|⟨a,b,p,n,c,p',n',c',e,-⟩
 ·exact ⟨_,_,_,e⟩
 ·exact ⟨_,_,_,e⟩
end Go.bK
namespace Go.Proofs.Tryz
open Go.bK Go.fV
theorem yP (n:Nat):decide ((bh n:Int)<=62)=decide (n<4611686018427387904):=by
 have:=@fX n 62
 rw [Bool.eq_iff_iff,decide_eq_true_eq,decide_eq_true_eq]
 omega
theorem EW {z:Int}{d:Nat}(hd:d≠0)(hg:Nat.gcd z.natAbs d=1):(mkRat z d).num=z/\(mkRat z d).den=d:=by
 have:Nat.gcd d z.natAbs=1:=by rw [Nat.gcd_comm];exact hg
 rw [Rat.num_mkRat,Rat.den_mkRat,if_neg hd,if_neg hd,this]
 simp
theorem cq {V:View}(b:Bool){p q:OA}{n c m e:Nat}{xs ys:List Nat}(hx:RD V p n c xs)(hy:RD V q m e ys)(hm:xs.length<=1099511627776)(hn:ys.length<=1099511627776) :
  ab prog 157 #[.agg #[.bool b,.slice p n c],.slice q m e] V fun r V'=>RR V' r (mkRat (aY b xs) (val ys)):=by
 have zero:∀V':View,RR V' (.agg #[.int .i64 0,.int .i64 0,.pointer none]) 0:=fun V'=>.inl ⟨rfl,by unfold Wd;decide⟩
 refine vE b p n c q m e V _ fun V1 l1=>(iJ (hy.le l1) hn).mono ?_
 rintro r V2 l2 rfl
 refine ⟨_,rfl,fun h0 V3 l3=>?_,fun h0 V4 l4=>(mg b (hx.le (l1.trans (l2.trans l4))) hm).mono ?_⟩
 ·have:val ys=0:=kd.1 (by simp at h0;omega)
  rw [this,Rat.mkRat_zero];exact zero _
 rintro r V5 l5 rfl
 have hy0:val ys≠0:=fun e=>by simp [kd.2 e] at h0
 refine ⟨_,rfl,fun h1 V6 l6=>?_,fun h1 V7 l7=>?_⟩
 ·have:aY b xs=0:=Int.sign_eq_zero_iff_zero.1 (by simpa using h1)
  rw [this,Rat.zero_mkRat];exact zero _
 have hx0:aY b xs≠0:=fun e=>by simp [e] at h1
 have hx0':val xs≠0:=by rw [←eQ b xs];omega
 replace hx:=hx.le (l1.trans (l2.trans (l4.trans (l5.trans l7))))
 replace hy:=hy.le (l1.trans (l2.trans (l4.trans (l5.trans l7))))
 refine (xQ hx hy hm hn).mono ?_
 rintro r V8 l8 ⟨p3,n3,c3,rfl,hg⟩
 replace hx:=hx.le l8
 replace hy:=hy.le l8
 have hgl:Nat.gcd (val xs) (val ys)<=val ys:=Nat.le_of_dvd (by omega) (Nat.gcd_dvd_right _ _)
 have hgd:(ai (Nat.gcd (val xs) (val ys))).length<=1099511627776:=Nat.le_trans (aI hgl) (by have:=bw hy.eI;omega)
 have JD:Nat.gcd (val xs) (val ys)≠0:=by
  intro e0;exact hx0' (Nat.eq_zero_of_gcd_eq_zero_left e0)
 refine ⟨_,_,_,rfl,fun V9 l9=>(iJ (hg.le l9) hgd).mono ?_⟩
 rintro r g_ l10 rfl
 rw [ag]
 replace hx:=hx.le (l9.trans l10)
 replace hy:=hy.le (l9.trans l10)
 replace hg:=hg.le (l9.trans l10)
 refine ⟨_,rfl,fun z V'=>∃(us vs:List Nat),z.2.2.2.1=b/\RD V' z.2.2.2.2.1 z.2.2.2.2.2.1 z.2.2.2.2.2.2 us/\RD V' z.1 z.2.1 z.2.2.1 vs/\us.length<=1099511627776/\vs.length<=1099511627776/\val vs≠0 /\
  Nat.gcd (val us) (val vs)=1/\mkRat (aY b xs) (val ys)=mkRat (aY b us) (val vs),⟨fun h2 gW bI=>?_,fun h2=>?_⟩,?_⟩
 ·refine (kQ (hx.le bI) (hg.le bI) hm hgd (by rw [ag];exact JD)).mono ?_
  rintro r lH cw ⟨p4,n4,c4,p5,n5,c5,rfl,g1,g2⟩
  refine ⟨_,_,_,_,_,_,_,rfl,fun lU cd=>(kQ (hy.le (bI.trans (cw.trans cd))) (hg.le (bI.trans (cw.trans cd))) hn hgd (by rw [ag];exact JD)).mono ?_⟩
  rintro r po dN ⟨p6,n6,c6,p7,n7,c7,rfl,g3,g4⟩
  rw [ag] at g1 g3
  have e1:val (ai (val xs / Nat.gcd (val xs) (val ys)))=val xs / Nat.gcd (val xs) (val ys):=ag _
  have e2:val (ai (val ys / Nat.gcd (val xs) (val ys)))=val ys / Nat.gcd (val xs) (val ys):=ag _
  have d1:=Nat.gcd_dvd_left (val xs) (val ys)
  have d2:=Nat.gcd_dvd_right (val xs) (val ys)
  have hdy:val ys / Nat.gcd (val xs) (val ys)≠0:=by
   intro e0
   have:=Nat.div_mul_cancel d2
   rw [e0,Nat.zero_mul] at this
   exact hy0 this.symm
  refine ⟨_,_,_,_,_,_,_,rfl,(p6,n6,c6,b,p4,n4,c4),by (try dsimp only);and_intros<;>trivial,_,_,rfl,g1.le (cd.trans dN),g3,?_,?_,?_,?_,?_⟩
  ·exact Nat.le_trans (aI (Nat.div_le_self _ _)) (by have:=bw hx.eI;omega)
  ·exact Nat.le_trans (aI (Nat.div_le_self _ _)) (by have:=bw hy.eI;omega)
  ·rw [e2];exact hdy
  ·rw [e1,e2];exact Nat.gcd_div_gcd_div_gcd_of_pos_left (by omega)
  ·rw [e2]
   have k1:val ys=val ys / Nat.gcd (val xs) (val ys)*Nat.gcd (val xs) (val ys):=(Nat.div_mul_cancel d2).symm
   have k2:aY b xs=aY b (ai (val xs / Nat.gcd (val xs) (val ys)))*(Nat.gcd (val xs) (val ys):Nat):=by
    have k3:(val xs:Int)=((val xs / Nat.gcd (val xs) (val ys):Nat):Int)*(Nat.gcd (val xs) (val ys):Nat):=by
     rw [←Int.natCast_mul,Nat.div_mul_cancel d1]
    unfold aY
    rw [e1]
    cases b
    ·simpa using k3
    ·simp only [if_true];rw [Int.neg_mul,←k3]
   conv=>lhs;rw [k1,k2]
   exact Rat.mkRat_mul_right JD
 ·have hg1:Nat.gcd (val xs) (val ys)=1:=by
   have h3:¬(1<bh (Nat.gcd (val xs) (val ys))):=by simp at h2;omega
   have:=@fX (Nat.gcd (val xs) (val ys)) 1
   omega
  exact ⟨(q,m,e,b,p,n,c),by (try dsimp only);and_intros<;>trivial,xs,ys,rfl,hx,hy,hm,hn,hy0,hg1,rfl⟩
 ·rintro ⟨q,m,e,b',p,n,c⟩ nF dk ⟨us,vs,hbb,hu,hv,Ix,hvl,hv0,hgc,hq⟩
  dsimp only at hbb hu hv ⊢
  subst hbb
  rw [hq]
  obtain ⟨sK,hden⟩:=EW (z:=aY b' us) hv0 (by rw [eQ];exact hgc)
  generalize mkRat (aY b' us) (val vs)=w at *
  have hW:Wd w↔val us<4611686018427387904/\val vs<4611686018427387904:=by
   unfold Wd;rw [sK,hden,eQ]
  have Jv:∀V1:View,nF.Le V1->¬Wd w->ab prog 182 #[.agg #[.bool b',.slice p n c]] V1 fun r V2=>∃(FE:Bool)(GV:OA)(Gz FJ:Nat),r=.agg #[.bool FE,.slice GV Gz FJ] /\
    (∀V3:View,V2.Le V3->ab prog 196 #[.slice q m e] V3 fun r V4=>∃(U8:OA)(U4 T5:Nat),r=.slice U8 U4 T5 /\
    (∀V5:View,V4.Le V5->∀bk:Nat,V5.bE bk (.cells #[.bool FE,.slice GV Gz FJ,.slice U8 U4 T5] 243 (0,0))->RR V5 (.agg #[.int .i64 0,.int .i64 0,.pointer (some ⟨bk,0,none⟩)]) w)):=by
   intro V1 l1 hw
   refine (iI b' (hu.le l1) Ix).mono ?_
   rintro r V2 l2 Fq
   obtain ⟨p2,n2,c2,rfl,h2⟩:=Fq
   have Fq:RI V2 (.agg #[.bool (decide (aY b' us<0)),.slice p2 n2 c2]) (aY b' us):=⟨_,_,_,rfl,h2⟩
   refine ⟨_,_,_,_,rfl,fun V3 l3=>(iK (hv.le (l1.trans (l2.trans l3))) hvl).mono ?_⟩
   rintro r V4 l4 ⟨p3,n3,c3,rfl,h3⟩
   refine ⟨_,_,_,rfl,fun V5 l5 bk hb=>.inr ⟨⟨bk,0,none⟩,decide (aY b' us<0),p2,n2,c2,p3,n3,c3,rfl,?_,?_,?_,?_,?_,hw⟩⟩
   ·rw [add_zero'];exact cU (xs:=[_,_,_]) hb rfl
   ·rw [add_zero'];exact cU (xs:=[_,_,_]) hb rfl
   ·rw [add_zero'];exact cU (xs:=[_,_,_]) hb rfl
   ·rw [sK];exact Fq.le (l3.trans (l4.trans l5))
   ·rw [hden];exact h3.le l5
  refine ⟨by trivial,fun mW dm=>(iJ (hu.le dm) Ix).mono ?_⟩
  rintro r nN cP rfl
  refine ⟨_,rfl,fun h3 qI dZ=>(iJ (hv.le (dm.trans (cP.trans dZ))) hvl).mono ?_,fun h3 Fw uN=>Jv Fw (dm.trans (cP.trans uN)) ?_⟩
  ·rintro r tq dR rfl
   rw [yP,decide_eq_true_eq] at h3
   refine ⟨_,rfl,fun h4 An iQ=>?_,fun h4 DN gF=>Jv DN (dm.trans (cP.trans (dZ.trans (dR.trans gF)))) ?_⟩
   ·rw [yP,decide_eq_true_eq] at h4
    refine (sF b' (hu.le (dm.trans (cP.trans (dZ.trans (dR.trans iQ))))) Ix h3).mono ?_
    rintro r tu eh rfl
    refine ⟨_,_,rfl,fun wi kq=>(kR (hv.le (dm.trans (cP.trans (dZ.trans (dR.trans (iQ.trans (eh.trans kq))))))) hvl).mono ?_⟩
    rintro r tM fB rfl
    rw [if_pos (by omega)]
    refine ⟨_,_,rfl,fun Cu pg=>.inl ⟨?_,hW.2 ⟨h3,h4⟩⟩⟩
    rw [ar (x:=((val vs:Nat):Int)) (by omega),ar (by omega),sK,hden]
   ·rw [yP,decide_eq_false_iff_not] at h4
    rw [hW];omega
  ·rw [yP,decide_eq_false_iff_not] at h3
   rw [hW];omega
theorem cx {V:View}(b:Bool){p:OA}{n c x:Nat}(h:RN V p n c x) :
  ab prog 76 #[.bool b,.slice p n c] V fun r V'=>RI V' r (if b then -(x:Int) else x):=by
 have hp:=fm h.len
 refine B_ b p n c V _ ⟨fun h0 V1 l1=>?_,fun h0 V1 l1=>?_⟩
 ·rw [if_pos h0]
  refine RI.mk ?_ ?_
  ·rw [Bool.eq_iff_iff,decide_eq_true_eq,decide_eq_true_eq]
   omega
  ·rw [Int.natAbs_neg,Int.natAbs_natCast];exact h.le l1
 ·rw [h0,if_neg (by decide)]
  refine RI.mk ?_ ?_
  ·symm;rw [decide_eq_false_iff_not];omega
  ·rw [Int.natAbs_natCast];exact h.le l1
theorem iS {V:View}{b:Bool}{p:OA}{n c x:Nat}{z:Int}(h:RN V p n c x)(hz:(if b then -(x:Int) else x)=z) :
  ab prog 76 #[.bool b,.slice p n c] V fun r V'=>∃(FE:Bool)(GV:OA)(Gz FJ:Nat),r=.agg #[.bool FE,.slice GV Gz FJ]/\∀V3:View,V'.Le V3->RI V3 (.agg #[.bool FE,.slice GV Gz FJ]) z:=by
 refine (cx b h).mono ?_
 rintro r V2 l2 ⟨p1,n1,c1,rfl,g⟩
 rw [hz] at g ⊢
 exact ⟨_,_,_,_,rfl,fun V3 l3=>⟨_,_,_,rfl,g.le l3⟩⟩
theorem xT {V:View}(n:Int)(h0:-9223372036854775808<=n)(h1:n<=9223372036854775807) :
  ab prog 115 #[.int .i64 n] V fun r V'=>RI V' r n:=by
 refine DE n V _ ⟨fun h2 V1 l1=>?_,fun h2 V1 l1=>?_⟩
 ·have h2:n<0:=by simpa using h2
  have e:u64.wrap (0-u64.wrap n)=((-n).toNat:Int):=by rw [rC,rC];omega
  rw [e]
  refine (cW _ (by omega)).mono ?_
  rintro r V2 l2 ⟨p1,n1,c1,rfl,g1⟩
  exact ⟨_,_,_,rfl,fun V3 l3=>iS (g1.le l3) (by simp;omega)⟩
 ·have h2:0<=n:=by simpa using h2
  have e:u64.wrap n=(n.toNat:Int):=by rw [aL (by omega)];omega
  rw [e]
  refine (cW _ (by omega)).mono ?_
  rintro r V2 l2 ⟨p1,n1,c1,rfl,g1⟩
  exact ⟨_,_,_,rfl,fun V3 l3=>iS (g1.le l3) (by simp;omega)⟩
theorem kU {V:View}(z:Int){p:OA}{n c:Nat}(h:RN V p n c z.natAbs) :
  ab prog 111 #[.agg #[.bool (decide (z<0)),.slice p n c]] V fun r V'=>r=.int .i64 z.sign:=by
 have hp:=fm h.len
 refine Ce _ p n c V _ ⟨fun h0 V1 l1=>?_,fun h0=>⟨fun h1 V1 l1=>?_,fun h1 V1 l1=>?_⟩⟩
 ·have:z=0:=by simp at h0;omega
  rw [this];rfl
 ·rw [decide_eq_true_eq] at h1
  rw [Int.sign_eq_neg_one_of_neg h1]
 ·rw [decide_eq_false_iff_not] at h1
  have:0<z:=by simp at h0;omega
  rw [Int.sign_eq_one_of_pos this]
theorem gq {V:View}(z:Int){p:OA}{n c:Nat}(h:RN V p n c z.natAbs) :
  ab prog 112 #[.agg #[.bool (decide (z<0)),.slice p n c]] V fun r V'=>RI V' r (-z):=by
 refine zW _ p n c V _ fun V1 l1=>iS (h.le l1) ?_
 by_cases hz:z<0<;>simp [hz]<;>omega
theorem iA {V:View}(z w:Int){p q:OA}{n c m e:Nat}(ha:RN V p n c z.natAbs)(hb:RN V q m e w.natAbs)(hm:(ai z.natAbs).length+(ai w.natAbs).length<=1099511627776) :
  ab prog 75 #[.agg #[.bool (decide (z<0)),.slice p n c],.agg #[.bool (decide (w<0)),.slice q m e]] V fun r V'=>RI V' r (z*w):=by
 refine DF _ p n c _ q m e V _ fun V1 l1=>(ct (ha.le l1) (hb.le l1) hm).mono ?_
 rintro r V2 l2 ⟨p1,n1,c1,rfl,g1⟩
 rw [ag,ag] at g1
 refine ⟨_,_,_,rfl,fun V3 l3=>iS (g1.le l3) ?_⟩
 have e1:z=aY (decide (z<0)) (ai z.natAbs):=(aH z).symm
 have e2:w=aY (decide (w<0)) (ai w.natAbs):=(aH w).symm
 conv=>rhs;rw [e1,e2]
 unfold aY
 rw [ag,ag]
 cases decide (z<0)<;>cases decide (w<0)<;>simp [Int.neg_mul,Int.mul_neg]
theorem qQ {V:View}(z w:Int){p q:OA}{n c m e:Nat}(ha:RN V p n c z.natAbs)(hb:RN V q m e w.natAbs)(hm:(ai z.natAbs).length<=1099511627776)(hn:(ai w.natAbs).length<=1099511627776) :
  ab prog 73 #[.agg #[.bool (decide (z<0)),.slice p n c],.agg #[.bool (decide (w<0)),.slice q m e]] V fun r V'=>RI V' r (z+w):=by
 refine DB _ p n c _ q m e V _ ⟨fun h0 V1 l1=>(EE (ha.le l1) (hb.le l1) hm hn).mono ?_,fun h0 V1 l1=>(iz (ha.le l1) (hb.le l1) hm hn).mono ?_⟩
 ·rintro r V2 l2 ⟨p1,n1,c1,rfl,g1⟩
  rw [ag,ag] at g1
  refine ⟨_,_,_,rfl,fun V3 l3=>iS (g1.le l3) ?_⟩
  by_cases hz:z<0<;>by_cases hw:w<0<;>simp [hz,hw] at h0⊢<;> omega
 ·rintro r V2 l2 rfl
  refine ⟨_,rfl,fun h2 V3 l3=>?_,fun h2 V3 l3=>?_⟩
  ·have h2:z.natAbs<w.natAbs:=by simpa [fh] using h2
   refine (ow (hb.le (l1.trans (l2.trans l3))) (ha.le (l1.trans (l2.trans l3))) hn (aI (Nat.le_of_lt h2)) (by rw [ag,ag];omega)).mono ?_
   rintro r V4 l4 ⟨p1,n1,c1,rfl,g1⟩
   rw [ag,ag] at g1
   refine ⟨_,_,_,rfl,fun V5 l5=>iS (g1.le l5) ?_⟩
   by_cases hz:z<0<;>by_cases hw:w<0<;>simp [hz,hw] at h0⊢<;> omega
  ·have h2:w.natAbs<=z.natAbs:=by simpa [←Int.not_lt,fh] using h2
   refine (ow (ha.le (l1.trans (l2.trans l3))) (hb.le (l1.trans (l2.trans l3))) hm (aI h2) (by rw [ag,ag];omega)).mono ?_
   rintro r V4 l4 ⟨p1,n1,c1,rfl,g1⟩
   rw [ag,ag] at g1
   refine ⟨_,_,_,rfl,fun V5 l5=>iS (g1.le l5) ?_⟩
   by_cases hz:z<0<;>by_cases hw:w<0<;>simp [hz,hw] at h0⊢<;> omega
end Go.Proofs.Tryz
