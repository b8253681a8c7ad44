import Derived.Test.YtdhlkpfmlimjfaaGreatDoorC7
import Derived.Test.YtdhlkpfmlimjfaaGreatDoorC10
import Derived.Test.YtdhlkpfmlimjfaaGreatDoorC11
import Derived.Test.YtdhlkpfmlimjfaaGreatDoorC8
set_option linter.unusedVariables false
open Go.IntKind (i64 u64 u32)
namespace Go.Proofs.Tryz
open Go.Eng Go.Big
theorem cT {V:View}{p:OA}{n c:Nat}{ds:List Nat}(h:RD V p n c ds)(hm:ds.length<=4611686018427387904) :
  Acts prog 116 #[.slice p n c] V fun r V'=>∃k,r=.slice p k c/\RD V' p k c (bT ds):=by
 have j:=h.len;have l:=h.cap;refine Dt p n c V _ ?_;refine ⟨fun z V'=>0<=z/\z<=n/\bT (ds.take z.toNat)=bT ds,fun z=>z.toNat,⟨n,by (try dsimp only);and_intros<;>first|exact True.intro|rfl,by (try dsimp only);omega,by (try dsimp only);omega,?_⟩,?_⟩
 ·simp [j]
 ·rintro k o e ⟨f,m,d⟩;obtain ⟨k,rfl⟩:=Int.eq_ofNat_of_zero_le f;dsimp only at m d ⊢;simp only [Int.toNat_natCast] at d;refine ⟨rfl,fun a=>?_,fun a=>?_⟩
  ·have a:0<k:=by simpa using a
   have w:i64.wrap ((k:Int)-1)=((k-1:Nat):Int):=by rw [i64w (by omega)];omega
   simp only [w];have g:ds.take k=ds.take (k-1)++[ds[k-1]]:=by rw [←List.take_succ_eq_append_getElem (by omega),Nat.sub_add_cancel a]
   refine (h.le e).rd (k-1) rfl (by omega) ⟨fun b=>?_,fun b=>?_⟩
   ·have b:ds[k-1]=0:=by simpa using b
    refine ⟨_,?_,by (try dsimp only);and_intros<;>first|exact True.intro|rfl,?_,?_,?_⟩
    ·(try dsimp only);omega
    ·(try dsimp only);omega
    ·(try dsimp only);omega
    ·(try dsimp only)
     rw [←d,g,b,gQ];rfl
   ·have b:ds[k-1]≠0:=by simpa using b
    refine ⟨⟨by omega,by omega⟩,fun V2 i=>⟨k,rfl,?_⟩⟩;rw [←d,g,nS _ _ b,←g];exact ((h.le e).le i).take (by omega)
  ·have a:k=0:=by simpa using a
   subst a;refine ⟨⟨by omega,by omega⟩,fun V2 i=>⟨0,rfl,?_⟩⟩;rw [←d];exact ((h.le e).le i).take (by omega)
theorem cU {V:View}(u:Nat)(h1:u<18446744073709551616) :
  Acts prog 115 #[.int .u64 (u:Int)] V fun r V'=>∃q k c',r=.slice q k c'/\RN V' q k c' u:=by
 refine Du _ V _ ⟨by omega,fun e h f a=>?_⟩;rw [kU,gZ,pM (by omega)] at a
 have a:e.bg f (.cells (ay [u%4294967296,u / 4294967296]).toArray 225 (0,0)):=by
  simpa [ay] using a
 have d:bM [u%4294967296,u / 4294967296]:=by simp [bM];omega
 refine (cT (RD.bg a d (n:=2) (c:=2) rfl (Nat.le_refl _)) (by simp)).mono ?_;rintro r V2 i ⟨k,rfl,b⟩;refine ⟨_,_,_,rfl,fun _ j g=>⟨_,_,_,rfl,?_⟩⟩;rw [aK d] at b;have:val [u%4294967296,u / 4294967296]=u:=by simp;omega
 rw [this] at b;exact b.le g
theorem ml {V:View} :
  Acts prog 117 #[] V fun r V'=>∃q k c',r=.slice q k c'/\RN V' q k c' 1:=by
 refine E_ V _ fun b e c a=>⟨_,_,_,rfl,?_⟩;have d:af 1=[1]:=Kz (by omega) (by omega);unfold RN;rw [d]
 have a:b.bg c (.cells (ay [1]).toArray 225 (0,0)):=by
  simpa [ay] using a
 exact RD.bg a (by simp [bM]) rfl (Nat.le_refl _)
def Hf (x:Int):Int:=if 0<x then 1 else if x<0 then -1 else 0
theorem DX {V:View}(x:Int) :
  Acts prog 191 #[.int .i64 x] V fun r V'=>r=.int .i64 (Hf x):=by
 refine Dw x V _ ⟨fun h b c=>?_,fun h=>⟨fun a b c=>?_,fun a b c=>?_⟩⟩
 ·have h:0<x:=by simpa using h
  rw [Hf,if_pos h]
 ·have h:x<0:=by simpa using a
  rw [Hf,if_neg (by omega),if_pos h]
 ·have h:¬0<x:=by simpa using h
  have a:¬x<0:=by simpa using a
  rw [Hf,if_neg h,if_neg a]
theorem hZ {V:View}{p q:OA}{n c m e:Nat}{x y:Nat}(ha:RN V p n c x)(hb:RN V q m e y)(hm:(af x).length<=1099511627776)(hn:(af y).length<=1099511627776) :
  Acts prog 150 #[.slice p n c,.slice q m e] V fun r V'=>r=.int .i64 (jI x y):=by
 have v:=ha.len;have A:=hb.len;refine E5 p n c q m e V _ ⟨fun g D E=>?_,fun g=>?_⟩
 ·have w:i64.wrap ((n:Int)-m)=(n:Int)-m:=i64w (by omega);simp only [w];refine (DX _).mono ?_;rintro r V2 F rfl;refine ⟨_,rfl,fun G H=>?_⟩;have g:n≠m:=by simp at g;omega
  congr 1;rcases Nat.lt_or_ge n m with h|h
  ·have:=jP (a:=x) (b:=y) (by omega);rw [jI,if_pos this,Hf,if_neg (by omega),if_pos (by omega)]
  ·have:=jP (a:=y) (b:=x) (by omega);rw [jI,if_neg (by omega),if_pos this,Hf,if_pos (by omega)]
 ·have g:n=m:=by simp at g;omega
  subst g;have w:i64.wrap ((n:Int)-1)=(n:Int)-1:=i64w (by omega);simp only [w];refine ⟨fun z V'=>-1<=z/\z<n/\(af x).drop (z+1).toNat=(af y).drop (z+1).toNat,fun z=>(z+1).toNat,⟨_,by (try dsimp only);and_intros<;>first|exact True.intro|rfl,by (try dsimp only);omega,by (try dsimp only);omega,?_⟩,?_⟩
  ·(try dsimp only)
   rw [List.drop_of_length_le (by omega),List.drop_of_length_le (by omega)]
  ·rintro i I j ⟨k,o,s⟩;dsimp only at k o s ⊢;refine ⟨by trivial,fun d=>?_,fun d J K=>?_⟩
   ·have d:0<=i:=by simpa using d
    obtain ⟨i,rfl⟩:=Int.eq_ofNat_of_zero_le d;have w:i64.wrap ((i:Int)-1)=(i:Int)-1:=i64w (by omega);simp only [w];have f:(af x).drop (i+1)=(af y).drop (i+1):=s;refine (ha.le j).rd i rfl (by omega) ((hb.le j).rd i rfl (by omega) ⟨fun t B C=>?_,fun t=>?_⟩)
    ·have:=i_ (ax y) (by omega) (by omega) f.symm (by simpa using t);rw [ab,ab] at this;rw [jI,if_neg (by omega),if_pos this]
    ·refine (ha.le j).rd i rfl (by omega) ((hb.le j).rd i rfl (by omega) ⟨fun u B C=>?_,fun u=>?_⟩)
     ·have:=i_ (ax x) (by omega) (by omega) f (by simpa using u);rw [ab,ab] at this;rw [jI,if_pos this]
     ·refine ⟨_,?_,by (try dsimp only);and_intros<;>first|exact True.intro|rfl,?_,?_,?_⟩
      ·(try dsimp only);omega
      ·(try dsimp only);omega
      ·(try dsimp only);omega
      ·(try dsimp only)
       have:((i:Int)-1+1).toNat=i:=by omega
       rw [this,List.drop_eq_getElem_cons (by omega),List.drop_eq_getElem_cons (l:=af y) (by omega),f];congr 1;simp at t u;omega
   ·have d:i=-1:=by simp at d;omega
    subst d;have:af x=af y:=by simpa using s
    have:=ui this;subst this;simp [jI]
theorem IL (a b:Nat):maxI (a:Int) (b:Int)=((max a b:Nat):Int):=by
 unfold maxI;split<;>omega
theorem Gt {V:View}{p q:OA}{n c m e:Nat}{xs ys:List Nat}(hx:RD V p n c xs)(hy:RD V q m e ys)(hm:xs.length<=1099511627776)(hn:ys.length<=1099511627776) :
  Acts prog 151 #[.slice p n c,.slice q m e] V fun r V'=>∃p' n' c',r=.slice p' n' c'/\RN V' p' n' c' (val xs+val ys):=by
 have H:=hx.len;have O:=hy.len;have vc:=Fc p n c q m e V;have w:i64.wrap (((max n m:Nat):Int)+1)=((max n m+1:Nat):Int):=by rw [i64w (by omega)];omega
 simp only [IL,w,Int.toNat_natCast] at vc;obtain ⟨k,I⟩:∃k,k=max n m:=⟨_,rfl⟩;rw [←I] at vc
 refine vc _ ⟨by omega,by omega,by omega,fun z V'=>0<=z.1/\z.1<=1/\0<=z.2.1/\z.2.1<=k/\∃es:List Nat,z.2.2=ay es/\es.length=k+1/\bM es /\
   val (es.take z.2.1.toNat)+4294967296^z.2.1.toNat*z.1.toNat=val (xs.take z.2.1.toNat)+val (ys.take z.2.1.toNat),fun z=>k-z.2.1.toNat,⟨(0,0,ay (List.replicate (k+1) 0)),by (try dsimp only);and_intros<;>first|exact True.intro|rfl|exact cw _,by (try dsimp only);omega,by (try dsimp only);omega,by (try dsimp only);omega,by (try dsimp only);omega,_,rfl,by simp,bM.rep _,by simp⟩,?_⟩
 rintro ⟨b,i,P⟩ V2 D ⟨f,o,g,s,es,rfl,t,h,l⟩;dsimp only at f o g s l ⊢;obtain ⟨i,rfl⟩:=Int.eq_ofNat_of_zero_le g;obtain ⟨b,rfl⟩:=Int.eq_ofNat_of_zero_le f;simp only [Int.toNat_natCast] at l;refine ⟨by trivial,fun d=>?_,fun d=>?_⟩
 ·have d:i<k:=by simpa using d
  refine ⟨fun z V'=>∃x:Nat,z=x/\x<4294967296/\val (xs.take (i+1))=val (xs.take i)+4294967296^i*x,⟨fun a=>?_,fun a=>?_⟩,?_⟩
  ·have a:i<n:=by simpa using a
   refine (hx.le D).rd i rfl (by omega) ?_;exact ⟨_,by (try dsimp only);and_intros<;>first|exact True.intro|rfl,xs[i],rfl,hx.fh.get (by omega),aq _ _ (by omega)⟩
  ·have a:n<=i:=by simpa using a
   exact ⟨_,by (try dsimp only);and_intros<;>first|exact True.intro|rfl,0,rfl,by omega,by rw [aj (by omega),aj (by omega)];simp⟩
  rintro _ J E ⟨x,rfl,u,v⟩;refine ⟨by trivial,fun z V'=>∃y:Nat,z=y/\y<4294967296/\val (ys.take (i+1))=val (ys.take i)+4294967296^i*y,⟨fun a=>?_,fun a=>?_⟩,?_⟩
  ·have a:i<m:=by simpa using a
   refine ((hy.le D).le E).rd i rfl (by omega) ?_;exact ⟨_,by (try dsimp only);and_intros<;>first|exact True.intro|rfl,ys[i],rfl,hy.fh.get (by omega),aq _ _ (by omega)⟩
  ·have a:m<=i:=by simpa using a
   exact ⟨_,by (try dsimp only);and_intros<;>first|exact True.intro|rfl,0,rfl,by omega,by rw [aj (by omega),aj (by omega)];simp⟩
  rintro _ K L ⟨y,rfl,A,B⟩;refine ⟨by trivial,fun M F=>(Kp x y b u A (by omega)).mono ?_⟩;rintro r Q R rfl;have w:i64.wrap ((i:Int)+1)=((i+1:Nat):Int):=by rw [i64w (by omega)];omega
  simp only [w,Int.toNat_natCast];refine ⟨_,_,rfl,⟨by omega,by omega⟩,by simp;omega,(((x+y+b) / 4294967296:Nat),((i+1:Nat):Int),ay (es.set i ((x+y+b)%4294967296))),?_,by (try dsimp only);and_intros<;>first|exact True.intro|rfl|(rw [←bo];simp),?_⟩
  ·(try dsimp only);omega
  ·(try dsimp only)
   refine ⟨by omega,by omega,by omega,by omega,_,rfl,by simpa using t,h.set _ _ (by omega),?_⟩;simp only [Int.toNat_natCast];rw [aE _ _ _ (by omega),Nat.pow_succ,v,B];exact tG l (by omega)
 ·have d:i=k:=by simp at d;omega
  subst d;refine ⟨⟨by omega,by omega⟩,by simp;omega,fun J E S C=>?_⟩;have G:(ay es).set (0+((i:Int).toNat)*1) (.int .u32 (b:Int))=ay (es.set i b):=by rw [←bo];simp
  simp only [Int.toNat_natCast] at G;try simp only [Int.toNat_natCast] at C
  rw [G] at C;have j:=h.set i b (by omega);refine (cT (RD.bg C j (n:=i+1) (c:=i+1) (by simp;omega) (Nat.le_refl _)) (by simp;omega)).mono ?_;rintro r K L ⟨k,rfl,a⟩;refine ⟨_,_,_,rfl,fun _ M F=>⟨_,_,_,rfl,?_⟩⟩;rw [aK j] at a
  have N:val (es.set i b)=val xs+val ys:=by
   have:=aE es i b (by omega);rw [aj (by simp;omega)] at this;rw [this,l,aj (by omega),aj (by omega)]
  rw [N] at a;exact a.le F
theorem EO {E A B c x y W d b:Nat}(h:E+B=A+W*c)(hv:d+(y+c)=x+4294967296*b) :
  E+W*d+(B+W*y)=A+W*x+W*4294967296*b:=by
 have:=congrArg (W*·) hv;simp only [Nat.mul_add,←Nat.mul_assoc] at this;omega
theorem nt {V:View}{p q:OA}{n c m e:Nat}{xs ys:List Nat}(hx:RD V p n c xs)(hy:RD V q m e ys)(hm:xs.length<=1099511627776)(hl:ys.length<=xs.length)(hle:val ys<=val xs) :
  Acts prog 152 #[.slice p n c,.slice q m e] V fun r V'=>∃p' n' c',r=.slice p' n' c'/\RN V' p' n' c' (val xs-val ys):=by
 have G:=hx.len;have N:=hy.len
 refine Dm p n c q m e V _ ⟨by omega,by omega,by omega,fun z V'=>0<=z.1/\z.1<=1/\0<=z.2.1/\z.2.1<=n/\∃es:List Nat,z.2.2=ay es/\es.length=n/\bM es /\
   val (es.take z.2.1.toNat)+val (ys.take z.2.1.toNat)=val (xs.take z.2.1.toNat)+4294967296^z.2.1.toNat*z.1.toNat,fun z=>n-z.2.1.toNat,
   ⟨(0,0,List.replicate n (.int .u32 0)),by (try dsimp only);and_intros<;>first|exact True.intro|rfl,by (try dsimp only);omega,by (try dsimp only);omega,by (try dsimp only);omega,by (try dsimp only);omega,List.replicate n 0,cw n,by simp,bM.rep _,by simp⟩,?_⟩
 rintro ⟨l,i,O⟩ V2 C ⟨o,u,s,v,es,rfl,g,a,t⟩;dsimp only at o u s v t ⊢;obtain ⟨i,rfl⟩:=Int.eq_ofNat_of_zero_le s;obtain ⟨l,rfl⟩:=Int.eq_ofNat_of_zero_le o;simp only [Int.toNat_natCast] at t;refine ⟨by trivial,fun j=>?_,fun j=>?_⟩
 ·have j:i<n:=by simpa using j
  refine ⟨fun z V'=>∃y:Nat,z=y/\y<4294967296/\val (ys.take (i+1))=val (ys.take i)+4294967296^i*y,⟨fun f=>?_,fun f=>?_⟩,?_⟩
  ·have f:i<m:=by simpa using f
   refine (hy.le C).rd i rfl (by omega) ?_;exact ⟨_,by (try dsimp only);and_intros<;>first|exact True.intro|rfl,ys[i],rfl,hy.fh.get (by omega),aq _ _ (by omega)⟩
  ·have f:m<=i:=by simpa using f
   exact ⟨_,by (try dsimp only);and_intros<;>first|exact True.intro|rfl,0,rfl,by omega,by rw [aj (by omega),aj (by omega)];simp⟩
  rintro _ H D ⟨y,rfl,x,A⟩;refine ⟨by trivial,?_⟩;refine ((hx.le C).le D).rd i rfl (by omega) fun I J=>(Kv _ y l (hx.fh.get (by omega)) x (by omega)).mono ?_;rintro r K E ⟨d,b,rfl,P,F,B⟩;have w:i64.wrap ((i:Int)+1)=((i+1:Nat):Int):=by rw [i64w (by omega)];omega
  simp only [w,Int.toNat_natCast];refine ⟨_,_,rfl,⟨by omega,by omega⟩,by simp;omega,((b:Int),((i+1:Nat):Int),ay (es.set i d)),?_,by (try dsimp only);and_intros<;>first|exact True.intro|rfl|(rw [←bo];simp),?_⟩
  ·(try dsimp only);omega
  ·(try dsimp only)
   refine ⟨by omega,by omega,by omega,by omega,_,rfl,by simpa using g,a.set _ _ (by omega),?_⟩;simp only [Int.toNat_natCast];rw [aE _ _ _ (by omega),Nat.pow_succ,aq xs i (by omega),A];exact EO t B
 ·have j:i=n:=by simp at j;omega
  subst j;simp only [Int.toNat_natCast];intro H D Q F;refine (cT (RD.bg F a (n:=i) (c:=i) g.symm (Nat.le_refl _)) (by omega)).mono ?_;rintro r I J ⟨k,rfl,f⟩;refine ⟨_,_,_,rfl,fun _ K E=>⟨_,_,_,rfl,?_⟩⟩;rw [aK a] at f;rw [aj (by omega),aj (by omega),aj (by omega)] at t;have L:=fM a;rw [g] at L
  have M:l=0:=by
   rcases Nat.eq_zero_or_pos l with h|h
   ·exact h
   ·have:4294967296^i*1<=4294967296^i*l:=Nat.mul_le_mul_left _ h;omega
  subst M;rw [show val es=val xs-val ys from by omega] at f;exact f.le E
theorem CK {V:View}{p:OA}{n c:Nat}{ds:List Nat}(h:RD V p n c ds){K:Int->Prop}(hn:0<ds.length)
  (hK:K ((ds[0]:Nat):Int)):(p.isSome=true)/\(0<=(0:Int)/\(0:Int)<(n:Int))/\∃x:Int,(∃a,addrAdd p 0=some a/\V.at a (.int .u32 x))/\K x:=by
 have:=h.rd (i:=0) (K:=K) 0 rfl hn hK;simpa using this
theorem Lk {V:View}{p:OA}{n c:Nat}{ds:List Nat}(h:RD V p n c ds){K:Int->Prop}(j:Nat)(hn:j<ds.length)
  (hK:K ((ds[j]:Nat):Int)):(p.isSome=true)/\(0<=(j:Int)/\(j:Int)<(n:Int))/\∃x:Int,(∃a,addrAdd p j=some a/\V.at a (.int .u32 x))/\K x:=by
 have:=h.rd (i:=j) (K:=K) j rfl hn hK;simpa using this
theorem kF {ds:List Nat}(h:ds.length=1):∃a,ds=[a]:=by
 match ds,h with
 | [a],_=>exact ⟨a,rfl⟩
theorem ES {ds:List Nat}(h:ds.length=2):∃a b,ds=[a,b]:=by
 match ds,h with
 | [a,b],_=>exact ⟨a,b,rfl⟩
theorem bZ {V:View}{p q:OA}{n c m e:Nat}{xs ys:List Nat}(hx:RD V p n c xs)(hy:RD V q m e ys)(hm:xs.length+ys.length<=1099511627776) :
  Acts prog 67 #[.slice p n c,.slice q m e] V fun r V'=>∃p' n' c',r=.slice p' n' c'/\RN V' p' n' c' (val xs*val ys):=by
 have X:=hx.len;have Bi:=hy.len;have y:((n:Int)+m).toNat=n+m:=by omega
 have w:i64.wrap ((n:Int)+m)=(n:Int)+m:=i64w (by omega);have vc:=vU p n c q m e V;simp only [w,y,cw] at vc;refine (fun tail=>vc _ ⟨fun S=>⟨fun A=>?_,fun _=>tail⟩,fun _=>tail⟩) ?_
 ·have S:n=1:=by simp at S;omega
  have A:m=1:=by simp at A;omega
  clear tail vc;obtain ⟨a,rfl⟩:=kF (ds:=xs) (by omega);obtain ⟨b,rfl⟩:=kF (ds:=ys) (by omega);have T:=hx.fh.get (i:=0) (by simp);have B:=hy.fh.get (i:=0) (by simp);refine CK hx (by simp) (CK hy (by simp) fun V1 l1=>?_);simp only [List.getElem_cons_zero] at T B ⊢;have Y:a*b<=4294967295*4294967295:=Nat.mul_le_mul (by omega) (by omega);have J:u64.wrap (a:Int)=a:=aG (by omega);have K:u64.wrap (b:Int)=b:=aG (by omega);have Z:(a:Int)*(b:Int)=((a*b:Nat):Int):=by simp
  have e4:u64.wrap ((a*b:Nat):Int)=((a*b:Nat):Int):=aG (by omega);rw [J,K,Z,e4];refine (cU (a*b) (by omega)).mono ?_;rintro r V2 l2 ⟨p',n',c',rfl,h⟩;refine ⟨_,_,_,rfl,fun V3 l3=>⟨_,_,_,rfl,?_⟩⟩;simp only [aZ,dR,Nat.mul_zero,Nat.add_zero];exact h.le l3
 refine ⟨by omega,by omega,by omega,fun z V'=>0<=z.1/\z.1<=n/\∃es:List Nat,z.2=ay es/\es.length=n+m/\bM es /\
  val (es.take (z.1.toNat+m))=val (xs.take z.1.toNat)*val ys,fun z=>n-z.1.toNat,⟨(0,ay (List.replicate (n+m) 0)),by (try dsimp only);and_intros<;>first|exact True.intro|rfl,by (try dsimp only);omega,by (try dsimp only);omega,_,rfl,by simp,bM.rep _,by simp [tB,List.take_replicate]⟩,?_⟩
 rintro ⟨i,vs⟩ V5 U ⟨C,L,es,rfl,M,o,D⟩;dsimp only at C L D ⊢;obtain ⟨i,rfl⟩:=Int.eq_ofNat_of_zero_le C;simp only [Int.toNat_natCast] at D;refine ⟨by trivial,fun v=>?_,fun v=>?_⟩
 ·have v:i<n:=by simpa using v
  refine (hx.le U).rd i rfl (by omega) ?_;have T:=hx.fh.get (i:=i) (by omega)
  refine ⟨fun z V'=>0<=z.1/\z.1<=4294967295/\0<=z.2.1/\z.2.1<=m/\∃d:List Nat,z.2.2=ay d/\d.length=n+m/\bM d/\d.drop (i+z.2.1.toNat)=es.drop (i+z.2.1.toNat) /\
   val (d.take (i+z.2.1.toNat))+4294967296^(i+z.2.1.toNat)*z.1.toNat=val (es.take (i+z.2.1.toNat))+4294967296^i*xs[i]*val (ys.take z.2.1.toNat),fun z=>m-z.2.1.toNat,
   ⟨(0,0,ay es),by (try dsimp only);and_intros<;>first|exact True.intro|rfl,by (try dsimp only);omega,by (try dsimp only);omega,by (try dsimp only);omega,by (try dsimp only);omega,es,rfl,M,o,rfl,by simp⟩,?_⟩
  rintro ⟨I,k,vs⟩ V6 W ⟨E,N,F,O,d,rfl,G,s,j,hw⟩;dsimp only at E N F O j hw ⊢;obtain ⟨k,rfl⟩:=Int.eq_ofNat_of_zero_le F;obtain ⟨I,rfl⟩:=Int.eq_ofNat_of_zero_le E;simp only [Int.toNat_natCast] at j hw;refine ⟨by trivial,fun g=>?_,fun g=>?_⟩
  ·have g:k<m:=by simpa using g
   refine (hy.le (U.trans W)).rd k rfl (by omega) ?_;have B:=hy.fh.get (i:=k) (by omega);have S8:=s.get (i:=i+k) (by omega)
   have P:d[i+k]'(by omega)=es[i+k]'(by omega):=by
    have A:d[i+k]?=es[i+k]?:=by
     have:=congrArg (fun l=>l[0]?) j;simpa [List.getElem?_drop] using this
    rw [List.getElem?_eq_getElem (by omega),List.getElem?_eq_getElem (by omega)] at A;exact Option.some.inj A
   simp (disch:=omega) only [i64w];have u:((i:Int)+k).toNat=i+k:=by omega
   rw [u];refine ⟨⟨by omega,by omega⟩,((d[i+k]'(by omega):Nat):Int),by rw [Nat.zero_add,Nat.mul_one];exact fK (by omega),⟨by omega,by omega⟩,by simp;omega,by omega,?_⟩;have a0:xs[i]*ys[k]<=4294967295*4294967295:=Nat.mul_le_mul (by omega) (by omega);have Nu:(xs[i]:Int)*(ys[k]:Int)=((xs[i]*ys[k]:Nat):Int):=by simp
   obtain ⟨t,ht⟩:∃t:Nat,t=I+xs[i]*ys[k]+d[i+k]'(by omega):=⟨_,rfl⟩;rw [Nat.pow_add] at hw;have f:=Cu hw ht
   have J:u64.wrap (u64.wrap (u64.wrap (u64.wrap (xs[i]:Int)*u64.wrap (ys[k]:Int))+u64.wrap ((d[i+k]'(by omega):Nat):Int))+(I:Int))=(t:Int):=by
    clear f;generalize xs[i]*ys[k]=pq at *;rw [aG (x:=(xs[i]:Int)) (by omega),aG (x:=(ys[k]:Int)) (by omega),Nu,aG (x:=((pq:Nat):Int)) (by omega)];simp (disch:=omega) only [aG];omega
   rw [J,gZ,kU];refine ⟨(_,_,_),?_,by (try dsimp only);and_intros<;>first|exact True.intro|rfl,?_⟩
   ·(try dsimp only);omega
   ·(try dsimp only)
    have H:((k:Int)+1).toNat=k+1:=by omega
    refine ⟨by omega,by omega,by omega,by omega,d.set (i+k) (t%4294967296),?_,by simpa using G,s.set _ _ (by omega),?_,?_⟩
    ·rw [←bo];simp
    ·rw [H,List.drop_set_of_lt (by omega)];have:=congrArg (List.drop 1) j;simpa [List.drop_drop,Nat.add_comm,Nat.add_assoc,Nat.add_left_comm] using this
    ·rw [H,show i+(k+1)=i+k+1 from by omega,aE _ _ _ (by omega),aq es (i+k) (by omega),aq ys k (by omega),←P,Nat.pow_succ];have K:((t:Int) / 4294967296).toNat=t / 4294967296:=by omega
     rw [K,Nat.pow_add,f]
  ·have g:k=m:=by simp at g;omega
   subst g;simp (disch:=omega) only [i64w];have u:((i:Int)+k).toNat=i+k:=by omega
   rw [u];refine ⟨⟨by omega,by omega⟩,by simp;omega,(_,_),?_,by (try dsimp only);and_intros<;>first|exact True.intro|rfl,?_⟩
   ·(try dsimp only);omega
   ·(try dsimp only)
    have Q:((i:Int)+1).toNat=i+1:=by omega
    refine ⟨by omega,by omega,d.set (i+k) I,?_,by simpa using G,s.set _ _ (by omega),?_⟩
    ·rw [←bo,pM (by omega)];simp
    ·rw [Q,show i+1+k=i+k+1 from by omega,aE _ _ _ (by omega),hw,D,aq xs i (by omega),aj (ds:=ys) (by omega)];grind
 ·have v:i=n:=by simp at v;omega
  subst v;intro V6 W bk R;refine (cT (RD.bg R o (n:=i+m) (c:=i+m) (by omega) (Nat.le_refl _)) (by omega)).mono ?_;rintro r V7 l7 ⟨k,rfl,g⟩;refine ⟨_,_,_,rfl,fun _ V8 l8=>⟨_,_,_,rfl,?_⟩⟩;rw [aK o] at g;rw [aj (by omega),aj (by omega)] at D;rw [D] at g;exact g.le l8
theorem kt {V:View}{p:OA}{n c:Nat}{ds:List Nat}(h:RD V p n c ds)(hm:ds.length<=1099511627776) :
  Acts prog 153 #[.slice p n c] V fun r V'=>r=.tuple #[.int .u64 ((if n<=2 then val ds else 0:Nat):Int),.bool (decide (n<=2))]:=by
 have u:=h.len;refine Dx p n c V _ ⟨fun e k l=>?_,fun e=>⟨fun f=>?_,fun f=>⟨fun d=>?_,fun d k l=>?_⟩⟩⟩
 ·have e:n=0:=by simp at e;omega
  subst e;have:ds=[]:=List.length_eq_zero_iff.1 (by omega);subst this;rfl
 ·have f:n=1:=by simp at f;omega
  subst f;obtain ⟨a,rfl⟩:=kF (ds:=ds) (by omega);have o:=h.fh.get (i:=0) (by simp);refine CK h (by simp) fun k l=>?_;simp only [List.getElem_cons_zero] at o ⊢;have m:u64.wrap (a:Int)=a:=aG (by omega);rw [m,if_pos (by omega),decide_eq_true (by omega)];simp
 ·have d:n=2:=by simp at d;omega
  subst d;obtain ⟨a,b,rfl⟩:=ES (ds:=ds) (by omega);have g:=h.fh.get (i:=0) (by simp);have j:=h.fh.get (i:=1) (by simp);refine Lk h 1 (by simp) ⟨by omega,CK h (by simp) fun k l=>?_⟩;simp only [List.getElem_cons_zero,List.getElem_cons_succ] at g j ⊢;have m:u64.wrap (a:Int)=a:=aG (by omega);have q:u64.wrap (b:Int)=b:=aG (by omega);have s:((2:Int)^32)=4294967296:=by decide
  have t:u64.wrap ((b:Int)*4294967296)=(b:Int)*4294967296:=aG (by omega);rw [m,q,s,t,CA _ _ j g,if_pos (by omega),decide_eq_true (by omega)];simp only [aZ,dR];congr 4;omega
 ·have d:¬n<=2:=by simp at e f d;omega
  rw [if_neg d,decide_eq_false d];rfl
theorem G4 (b:Nat):0 ||| b=b:=Nat.zero_or b
theorem kq {V:View}{p:OA}{n c:Nat}{ds:List Nat}(hx:RD V p n c ds)(hm:ds.length<=1099511627776)(k:Nat)(hk:k<=35184372088832) :
  Acts prog 195 #[.slice p n c,.int .i64 (k:Int)] V fun r V'=>∃p' n' c',r=.slice p' n' c'/\RN V' p' n' c' (val ds*2^k):=by
 have hl:=hx.len;have y:(k:Int).tdiv 32=((k / 32:Nat):Int):=by rw [Int.tdiv_eq_ediv_of_nonneg (by omega)];omega
 have A:(k:Int).tmod 32=((k%32:Nat):Int):=by rw [Int.tmod_eq_emod_of_nonneg (by omega)];omega
 have vc:=Dl p n c k V
 have g:val ds*2^k=4294967296^(k / 32)*val ds*2^(k%32):=by
  have:2^k=4294967296^(k / 32)*2^(k%32):=by
   rw [show (4294967296:Nat)=2^32 from rfl,←Nat.pow_mul,←Nat.pow_add,Nat.div_add_mod]
  rw [this];grind
 rw [g];have C:k / 32<=1099511627776:=by omega
 have o:k%32<32:=Nat.mod_lt _ (by omega);rw [y,A] at vc;generalize k / 32=w at *;generalize k%32=r at *;clear y A g;have D:i64.wrap (w:Int)=(w:Int):=i64w (by omega);have E:i64.wrap ((w:Int)+n)=((w+n:Nat):Int):=by rw [i64w (by omega)];omega
 have F:i64.wrap (((w+n:Nat):Int)+1)=((w+n+1:Nat):Int):=by rw [i64w (by omega)];omega
 have G:u64.wrap (r:Int)=(r:Int):=aG (by omega)
 have h:(min r IntKind.u64.bits)=r:=by
  show min _ 64=r;omega
 have H:((2:Int)^r)=((2^r:Nat):Int):=by simp
 simp only [D,E,F,G,Int.toNat_natCast,h,H,cw] at vc
 refine vc _ ⟨by omega,by omega,by omega,by omega,by omega,fun z V'=>0<=z.1/\z.1<=n/\∃es:List Nat,z.2=ay es/\es.length=w+n+1/\bM es/\(∀c,es[z.1.toNat+w]?=some c->c<2^r)/\(∀j c,z.1.toNat+w<j->es[j]?=some c->c=0) /\
   val (es.take (z.1.toNat+w+1))=4294967296^w*val (ds.take z.1.toNat)*2^r,fun z=>n-z.1.toNat,
   ⟨(0,ay (List.replicate (w+n+1) 0)),by (try dsimp only);and_intros<;>first|exact True.intro|rfl,by (try dsimp only);omega,by (try dsimp only);omega,_,rfl,by simp,bM.rep _,?_,?_,?_⟩,?_⟩
 ·intro c a;rw [List.getElem?_replicate] at a;split at a
  ·cases a;exact Nat.two_pow_pos r
  ·cases a
 ·intro j c _ a;rw [List.getElem?_replicate] at a;split at a
  ·cases a;rfl
  ·cases a
 ·simp [List.take_replicate,tB]
 rintro ⟨i,vs⟩ V4 I ⟨l,q,es,rfl,s,d,a,m,e⟩;dsimp only at l q a m e ⊢;obtain ⟨i,rfl⟩:=Int.eq_ofNat_of_zero_le l;simp only [Int.toNat_natCast] at a m e;refine ⟨by trivial,fun f=>?_,fun f=>?_⟩
 ·have f:i<n:=by simpa using f
  have J:i64.wrap ((w:Int)+i)=((i+w:Nat):Int):=by rw [i64w (by omega)];omega
  have K:i64.wrap (((i+w:Nat):Int)+1)=((i+w+1:Nat):Int):=by rw [i64w (by omega)];omega
  have L:i64.wrap ((i:Int)+1)=((i+1:Nat):Int):=by rw [i64w (by omega)];omega
  simp only [J,K,L,Int.toNat_natCast,Nat.mul_one,Nat.zero_add];refine Lk (hx.le I) i (by omega) ?_;have M:=hx.fh.get (i:=i) (by omega);have t:=a (es[i+w]'(by omega)) (List.getElem?_eq_getElem _);have N:=m (i+w+1) (es[i+w+1]'(by omega)) (by omega) (List.getElem?_eq_getElem _);obtain ⟨O,g2,P,g4⟩:=CU M o t;have hmul:((ds[i]:Nat):Int)*((2^r:Nat):Int)=((ds[i]*2^r:Nat):Int):=by simp
  have Q:u64.wrap ((ds[i]:Nat):Int)=((ds[i]:Nat):Int):=aG (by omega);have R:u64.wrap ((ds[i]*2^r:Nat):Int)=((ds[i]*2^r:Nat):Int):=aG (by omega);have S:u32.wrap ((ds[i]*2^r:Nat):Int)=((ds[i]*2^r%4294967296:Nat):Int):=by rw [gZ];omega
  have T:u32.wrap (((ds[i]*2^r:Nat):Int).fdiv (2^32))=((ds[i]*2^r / 4294967296:Nat):Int):=by rw [kU,gZ];omega
  simp only [Q,hmul,R,S,T];have u:ds[i]*2^r / 4294967296<4294967296:=by omega
  have U:=Nat.mod_add_div (ds[i]*2^r) 4294967296;have v:val (List.take (i+1) ds)=val (List.take i ds)+4294967296^i*ds[i]:=aq _ _ (by omega);have W:val (es.take (i+w+1))=val (es.take (i+w))+4294967296^(i+w)*es[i+w]'(by omega):=aq _ _ (by omega);have x:ds[i]*2^r%4294967296<4294967296:=Nat.mod_lt _ (by omega);generalize ds[i]*2^r%4294967296=lo at *;generalize ds[i]*2^r / 4294967296=hi at *;refine ⟨by omega,by omega,⟨by omega,by omega⟩,((es[i+w]'(by omega):Nat):Int),fK (by omega),⟨by omega,by omega⟩,by simp;omega,by omega,⟨by omega,by omega⟩,((es[i+w+1]'(by omega):Nat):Int),?_,by omega,⟨by omega,by omega⟩,by simp;omega,?_⟩
  ·rw [List.getElem?_set_ne (by omega)];exact fK (by omega)
  have X:es[i+w]'(by omega)<4294967296:=d.get (by omega);rw [Ey _ _ X x,O,N,Ey _ _ (by omega) u,G4];refine ⟨(((i+1:Nat):Int),ay ((es.set (i+w) (es[i+w]'(by omega)+lo)).set (i+w+1) hi)),?_,?_,?_⟩
  ·(try dsimp only);omega
  ·(try dsimp only);and_intros<;>first|exact True.intro|rfl|rw [←bo,←bo]
  ·(try dsimp only)
   refine ⟨by omega,by omega,_,rfl,by simpa using s,(d.set _ _ (by omega)).set _ _ (by omega),?_,?_,?_⟩
   ·intro c b;simp only [Int.toNat_natCast] at b;rw [show i+1+w=i+w+1 from by omega,List.getElem?_set_self (by simp;omega)] at b;cases b;exact P
   ·intro j c Y b;simp only [Int.toNat_natCast] at Y;rw [List.getElem?_set_ne (by omega),List.getElem?_set_ne (by omega)] at b;exact m j c (by omega) b
   ·simp only [Int.toNat_natCast];rw [show i+1+w+1=i+w+1+1 from by omega,aE _ _ _ (by simp;omega),aE _ _ _ (by omega),v];rw [W] at e;have Z:4294967296^(i+w+1)*hi=4294967296^(i+w)*(4294967296*hi):=by rw [Nat.pow_succ];grind
    rw [Z,Nat.mul_add,←Nat.add_assoc,e,Nat.add_assoc,←Nat.mul_add,U,Nat.pow_add];grind
 ·have f:i=n:=by simp at f;omega
  subst f;intro V5 l5 bk hb;refine (cT (RD.bg hb d (n:=w+i+1) (c:=w+i+1) (by omega) (Nat.le_refl _)) (by omega)).mono ?_;rintro r' V6 l6 ⟨k',rfl,B⟩;refine ⟨_,_,_,rfl,fun _ V7 l7=>⟨_,_,_,rfl,?_⟩⟩;rw [aj (by omega),aj (by omega)] at e;rw [aK d,e] at B;exact B.le l7
theorem ka (a:Addr)(m n:Nat):(a.add m).add n=a.add (m+n):=by
 unfold Addr.add;by_cases b:m=0
 ·subst b;simp
 ·by_cases c:n=0
  ·subst c;simp [b]
  ·rw [if_neg b,if_neg c,if_neg (by omega)];simp only [Nat.add_assoc]
theorem ML {V:View}{p:OA}{n c:Nat}{ds:List Nat}(h:RD V p n c ds){k:Nat}(hk:k<n):RD V (pH p c k 1) (n-k) (c-k) (ds.drop k):=by
 have g:=h.len;have j:=h.cap;have e:pH p c k 1=addrAdd p k:=by unfold pH;rw [if_neg (by omega),Nat.mul_one]
 rw [e];refine ⟨by simp;omega,by omega,fun i v b=>?_,h.fh.drop k,fun l=>?_⟩
 ·rw [Hk,List.getElem?_drop] at b;obtain ⟨d,f,a⟩:=h.sl _ _ b;refine ⟨d.add k,by rw [f];rfl,?_⟩;rw [ka];exact a
 ·have:p.isNone=true:=by cases p<;>simp_all [addrAdd]
  have:=h.G3 this;omega
theorem BD {V:View}{p:OA}{n c:Nat}{ds:List Nat}(hd:RD V p n c ds)(hm:ds.length<=1099511627776)(k:Nat)(hk:k<=35184372088832) :
  Acts prog 196 #[.slice p n c,.int .i64 (k:Int)] V fun r V'=>∃p' n' c',r=.slice p' n' c'/\RN V' p' n' c' (val ds / 2^k):=by
 have U:=hd.len;have F:(k:Int).tdiv 32=((k / 32:Nat):Int):=by rw [Int.tdiv_eq_ediv_of_nonneg (by omega)];omega
 have v:(k:Int).tmod 32=((k%32:Nat):Int):=by rw [Int.tmod_eq_emod_of_nonneg (by omega)];omega
 have vc:=AX p n c k V
 have o:val ds / 2^k=val ds / 4294967296^(k / 32) / 2^(k%32):=by
  rw [Nat.div_div_eq_div_mul,show (4294967296:Nat)=2^32 from rfl,←Nat.pow_mul,←Nat.pow_add,Nat.div_add_mod]
 rw [o];have J:k / 32<=1099511627776:=by omega
 have y:k%32<32:=Nat.mod_lt _ (by omega);rw [F,v] at vc;generalize k / 32=w at *;generalize k%32=r at *;clear F v o;have K:i64.wrap (w:Int)=(w:Int):=i64w (by omega);have L:u64.wrap (r:Int)=(r:Int):=aG (by omega)
 have q:(min r IntKind.u64.bits)=r:=by
  show min _ 64=r;omega
 simp only [K,L,Int.toNat_natCast,q,cw] at vc;refine vc _ ⟨by omega,fun h W X=>?_,fun h=>?_⟩
 ·have h:n<=w:=by simp at h;omega
  have a:=fM hd.fh;have:4294967296^ds.length<=4294967296^w:=Nat.pow_le_pow_right (by omega) (by omega);rw [Nat.div_eq_of_lt (Nat.lt_of_lt_of_le a this),Nat.zero_div];exact ⟨_,_,_,rfl,RD.nil⟩
 ·have h:w<n:=by simp at h;omega
  clear vc
  have s:val ds / 4294967296^w=val (ds.drop w):=by
   have e:val ds=val (ds.take w++ds.drop w):=by rw [List.take_append_drop]
   have a:=fM (hd.fh.take w);rw [cW] at e;rw [List.length_take,Nat.min_eq_left (by omega)] at e a;rw [e,Nat.add_mul_div_left _ _ (Nat.pow_pos (by omega)),Nat.div_eq_of_lt a,Nat.zero_add]
  rw [s];have j:=ML hd h;have M:=j.len;clear s;generalize pH p c w 1=sp at *;generalize ds.drop w=xs at *;generalize hN:n-w=N at *
  refine ⟨by omega,by omega,⟨by omega,by omega⟩,by omega,by omega,by omega,fun z V'=>0<=z.1/\z.1<=N/\∃es:List Nat,z.2=ay es/\es.length=N/\bM es /\
   val (es.take z.1.toNat)+4294967296^z.1.toNat*(val (xs.drop z.1.toNat) / 2^r)=val xs / 2^r,fun z=>N-z.1.toNat,
   ⟨(0,ay (List.replicate N 0)),by (try dsimp only);and_intros<;>first|exact True.intro|rfl,by (try dsimp only);omega,by (try dsimp only);omega,_,rfl,by simp,bM.rep _,by simp⟩,?_⟩
  rintro ⟨i,Z⟩ V4 G ⟨t,A,es,rfl,B,f,b⟩;dsimp only at t A b ⊢;obtain ⟨i,rfl⟩:=Int.eq_ofNat_of_zero_le t;simp only [Int.toNat_natCast] at b;refine ⟨by trivial,fun m=>?_,fun m=>?_⟩
  ·have m:i<N:=by simpa using m
   have O:i64.wrap ((i:Int)+1)=((i+1:Nat):Int):=by rw [i64w (by omega)];omega
   simp only [O,Int.toNat_natCast,Nat.mul_one,Nat.zero_add];refine Lk (j.le G) i (by omega) ?_;have H:=j.fh.get (i:=i) (by omega);refine ⟨fun z V'=>z=((xs[i]+4294967296*(xs[i+1]?).getD 0:Nat):Int),⟨fun d=>?_,fun d=>?_⟩,?_⟩
   ·have d:i+1<N:=by simp at d;omega
    have C:=j.fh.get (i:=i+1) (by omega)
    have E:bh .or .u64 (u64.wrap ((xs[i]:Nat):Int)) (u64.wrap (u64.wrap ((xs[i+1]:Nat):Int)*2^32))=((xs[i]+4294967296*(xs[i+1]?).getD 0:Nat):Int):=by
     have v:((2:Int)^32)=4294967296:=by decide
     rw [v,aG (by omega),aG (x:=((xs[i+1]:Nat):Int)) (by omega),aG (by omega),Jb _ _ C H,List.getElem?_eq_getElem (by omega),Option.getD_some];omega
    refine Lk (j.le G) (i+1) (by omega) ⟨by omega,((xs[i]+4294967296*(xs[i+1]?).getD 0:Nat):Int),?_,rfl⟩
    (try dsimp only);and_intros<;>first|exact True.intro|exact E|rfl
   ·have d:N<=i+1:=by simp at d;omega
    have E:u64.wrap ((xs[i]:Nat):Int)=((xs[i]+4294967296*(xs[i+1]?).getD 0:Nat):Int):=by
     rw [aG (by omega),List.getElem?_eq_none (by omega)];simp
    refine ⟨((xs[i]+4294967296*(xs[i+1]?).getD 0:Nat):Int),?_,rfl⟩
    (try dsimp only);and_intros<;>first|exact True.intro|exact E|rfl
   rintro _ P Q rfl;have u:=CV (Y:=val (xs.drop (i+1))) H y;rw [pN j.fh] at u
   have g:val (xs.drop i)=xs[i]+4294967296*val (xs.drop (i+1)):=by
    rw [List.drop_eq_getElem_cons (by omega),aZ]
   rw [g,u] at b;rw [fG,gZ];obtain ⟨D,I⟩:∃D,D=(xs[i]+4294967296*(xs[i+1]?).getD 0) / 2^r%4294967296:=⟨_,rfl⟩;have R:(((xs[i]+4294967296*(xs[i+1]?).getD 0) / 2^r:Nat):Int)%4294967296=(D:Int):=by rw [I];omega
   rw [R];rw [←I] at b;refine ⟨by trivial,by omega,⟨by omega,by omega⟩,by simp;omega,(((i+1:Nat):Int),ay (es.set i D)),?_,?_,?_⟩
   ·(try dsimp only);omega
   ·(try dsimp only);and_intros<;>first|exact True.intro|rfl|rw [←bo]
   ·(try dsimp only)
    refine ⟨by omega,by omega,_,rfl,by simpa using B,f.set _ _ (by omega),?_⟩;simp only [Int.toNat_natCast];rw [aE _ _ _ (by omega),←b,Nat.pow_succ,Nat.mul_add,Nat.add_assoc,Nat.mul_assoc]
  ·have m:i=N:=by simp at m;omega
   subst m;intro P Q bk S;refine (cT (RD.bg S f (n:=i) (c:=i) (by omega) (Nat.le_refl _)) (by omega)).mono ?_;rintro r' V6 l6 ⟨k',rfl,d⟩;refine ⟨_,_,_,rfl,fun _ V7 T=>⟨_,_,_,rfl,?_⟩⟩;rw [aj (by omega),List.drop_of_length_le (l:=xs) (i:=i) (by omega)] at b
   have b:val es=val xs / 2^r:=by
    rw [←b,dR,Nat.zero_div,Nat.mul_zero,Nat.add_zero]
   rw [aK f,b] at d;exact d.le T
end Go.Proofs.Tryz
namespace Go.Big
theorem rU {ds:List Nat}(hd:bM ds)(w:Nat)(hw:w<=ds.length):val ds / 4294967296^w=val (ds.drop w):=by
 have e:val ds=val (ds.take w++ds.drop w):=by rw [List.take_append_drop]
 have a:=fM (hd.take w);rw [cW] at e;rw [List.length_take,Nat.min_eq_left (by omega)] at e a;rw [e,Nat.add_mul_div_left _ _ (Nat.pow_pos (by omega)),Nat.div_eq_of_lt a,Nat.zero_add]
theorem Qc {R n:Nat}(h:(af R).length=n+2):R / 4294967296^n=(af R)[n+1]'(by omega)*4294967296+(af R)[n]'(by omega):=by
 have:=rU (ax R) n (by omega);rw [ab] at this;rw [this,List.drop_eq_getElem_cons (by omega),List.drop_eq_getElem_cons (i:=n+1) (by omega),List.drop_of_length_le (by omega)];simp only [aZ,dR];omega
theorem Mq {R n:Nat}(h:(af R).length=n+1):R / 4294967296^n=(af R)[n]'(by omega):=by
 have:=rU (ax R) n (by omega);rw [ab] at this;rw [this,List.drop_eq_getElem_cons (by omega),List.drop_of_length_le (by omega)];simp only [aZ,dR];omega
theorem Qb {R n:Nat}(h:(af R).length<=n):R / 4294967296^n=0:=Nat.div_eq_of_lt (az.1 h)
theorem ER {V n:Nat}(h:(af V).length=n+1):(af V)[n]'(by omega)*4294967296^n<=V:=by
 have:=Mq h;rw [←this];exact Nat.div_mul_le_self _ _
theorem Ip {R V top P W:Nat}(hV:top*P<=V)(ht:0<top)(hP:0<P)(hW:0<W):R / (V*W)<=R / (P*W) / top:=by
 rw [Nat.le_div_iff_mul_le ht,Nat.le_div_iff_mul_le (Nat.mul_pos hP hW)];have a:R / (V*W)*(V*W)<=R:=Nat.div_mul_le_self _ _;have b:R / (V*W)*(top*P*W)<=R / (V*W)*(V*W):=Nat.mul_le_mul_left _ (Nat.mul_le_mul_right _ hV)
 have c:R / (V*W)*top*(P*W)=R / (V*W)*(top*P*W):=by
  generalize R / (V*W)=q;rw [Nat.mul_assoc q top,←Nat.mul_assoc top P W]
 omega
theorem GW {A V W D R q R':Nat}(h:A=V*(W*4294967296*D)+R)(hq:R=V*q*W+R'):A=V*(W*(q+4294967296*D))+R':=by
 subst hq;rw [h];grind
theorem IK {x y s Q R:Nat}(h:x*2^s=y*2^s*Q+R)(hR:R<y*2^s):Q=x / y/\R / 2^s=x%y:=by
 have c:=Nat.two_pow_pos s
 have f:0<y:=by
  rcases Nat.eq_zero_or_pos y with e|e
  ·subst e;simp at hR
  ·exact e
 have g:y*2^s*Q=(y*Q)*2^s:=by grind
 rw [g] at h
 have i:y*Q<=x:=by
  rcases Nat.lt_or_ge x (y*Q) with a|a
  ·have:(x+1)*2^s<=y*Q*2^s:=Nat.mul_le_mul_right _ a;rw [Nat.add_mul] at this;omega
  ·exact a
 obtain ⟨d,rfl⟩:=Nat.exists_eq_add_of_le i;rw [Nat.add_mul] at h;have j:R=d*2^s:=by omega
 subst j;have b:d<y:=Nat.lt_of_mul_lt_mul_right hR;rw [Nat.mul_div_cancel _ c];constructor
 ·rw [Nat.mul_add_div f,Nat.div_eq_of_lt b,Nat.add_zero]
 ·rw [Nat.mul_add_mod,Nat.mod_eq_of_lt b]
theorem Mu (j:Nat):2^(32*j)=4294967296^j:=by rw [Nat.pow_mul]
theorem Ec {R V W g:Nat}(Ot:0<V*W)(h:V*g*W<=R)(hq:R / (V*W)<=g):g=R / (V*W):=by
 have:g<=R / (V*W):=by
  rw [Nat.le_div_iff_mul_le Ot];have:g*(V*W)=V*g*W:=by grind
  omega
 omega
theorem Iq {R V W g:Nat}(Ot:0<V*W)(h:R<V*g*W):R / (V*W)<g:=by
 rw [Nat.div_lt_iff_lt_mul Ot];have:g*(V*W)=V*g*W:=by grind
 omega
theorem EM {R V W:Nat}:R=V*(R / (V*W))*W+R%(V*W):=by
 have:=Nat.div_add_mod R (V*W)
 have e:V*(R / (V*W))*W=V*W*(R / (V*W)):=by
  generalize R / (V*W)=q;grind
 omega
theorem gV {a b:Nat}:(af (a*b)).length<=(af a).length+(af b).length:=by
 rw [az,Nat.pow_add];have c:a<4294967296^(af a).length:=az.1 (Nat.le_refl _);have d:b<4294967296^(af b).length:=az.1 (Nat.le_refl _);exact Nat.mul_lt_mul'' c d
theorem zV (j:Nat):(af (4294967296^j)).length<=j+1:=by
 rw [az];exact Nat.pow_lt_pow_right (by omega) (by omega)
end Go.Big
namespace Go.Proofs.Tryz
open Go.Eng Go.Big
theorem Zx {V:View}{p:OA}{n c:Nat}{ds:List Nat}(h:RD V p n c ds){i:Int}{K:Int->Prop}(j d:Nat)(hj:i=j)(hn:ds[j]?=some d)
  (hK:K (d:Int)):(p.isSome=true)/\(0<=i/\i<(n:Int))/\∃x:Int,(∃a,addrAdd p (i.toNat*1)=some a/\V.at a (.int .u32 x))/\K x:=by
 have b:j<ds.length:=by
  rcases Nat.lt_or_ge j ds.length with h|h
  ·exact h
  ·rw [List.getElem?_eq_none h] at hn;cases hn
 refine h.rd j hj b ?_;rw [List.getElem?_eq_getElem b] at hn;cases hn;exact hK
theorem Hi {W n:Nat}(h:(af W).length=n+1):∃top,(af W)[n]?=some top/\top≠0/\top<4294967296/\top*4294967296^n<=W:=by
 refine ⟨(af W)[n]'(by omega),List.getElem?_eq_getElem _,?_,(ax W).get _,ER h⟩;have:=(iC W).last (by omega);simpa [h] using this
structure xU (A V L:Nat) (R:Nat) (j:Nat) (es:List Nat):Prop where
 len:es.length=L
 fh:bM es
 lt:R<V*4294967296^j
 eq:A=V*(4294967296^j*val (es.drop j))+R
theorem xU.step {A V L R j:Nat}{es:List Nat}(h:xU A V L R (j+1) es)(hj:j<L)(hV:0<V) :
  R / (V*4294967296^j)<4294967296/\xU A V L (R-V*(R / (V*4294967296^j))*4294967296^j) j (es.set j (R / (V*4294967296^j))):=by
 have c:0<4294967296^j:=Nat.pow_pos (by omega);have a:0<V*4294967296^j:=Nat.mul_pos hV c
 have b:R / (V*4294967296^j)<4294967296:=by
  rw [Nat.div_lt_iff_lt_mul a];have:=h.lt;rw [Nat.pow_succ] at this
  have e:4294967296*(V*4294967296^j)=V*(4294967296^j*4294967296):=by
   generalize 4294967296^j=w;grind
  omega
 have d:=EM (R:=R) (V:=V) (W:=4294967296^j);have hm:=Nat.mod_lt R a;have he:R-V*(R / (V*4294967296^j))*4294967296^j=R%(V*4294967296^j):=by omega
 refine ⟨b,⟨by simpa using h.len,h.fh.set _ _ b,by rw [he];exact hm,?_⟩⟩;have f:=h.len;rw [List.drop_eq_getElem_cons (by simp;omega),List.getElem_set_self,List.drop_set_of_lt (by omega),aZ,he];exact GW (by have:=h.eq;rwa [Nat.pow_succ] at this) d
theorem Jy {R V j:Nat}(h:R<V*4294967296^(j+1)):(af R).length<=(af V).length+j+1:=by
 have a:V*4294967296^(j+1)<=4294967296^(af V).length*4294967296^(j+1):=Nat.mul_le_mul_right _ (Nat.le_of_lt (az.1 (Nat.le_refl _)));rw [←Nat.pow_add] at a;have:=az.2 (Nat.lt_of_lt_of_le h a);omega
theorem K0 {R n:Nat}(h:(af R).length<=n+2):R / 4294967296^n<18446744073709551616:=by
 rw [Nat.div_lt_iff_lt_mul (Nat.pow_pos (by omega))];have:=az.1 h;rw [Nat.pow_succ,Nat.pow_succ] at this
 have e:4294967296^n*4294967296*4294967296=18446744073709551616*4294967296^n:=by
  generalize 4294967296^n=w;omega
 omega
theorem DW {V:View}{p q:OA}{n c m e:Nat}{x y:Nat}(hx:RN V p n c x)(hy:RN V q m e y)(hm:(af x).length<=274877906944)(hy0:0<y)(hle:(af y).length<=(af x).length) :
  Acts prog 155 #[.slice p n c,.slice q m e] V fun r V'=>∃p1 n1 c1 p2 n2 c2,r=.tuple #[.slice p1 n1 c1,.slice p2 n2 c2]/\RN V' p1 n1 c1 (x / y)/\RN V' p2 n2 c2 (x%y):=by
 have a4:=hx.len;have Bi:=hy.len
 have c5:0<m:=by
  rcases Nat.eq_zero_or_pos m with h|h
  ·have:=bw.1 (List.length_eq_zero_iff.1 (Bi▸h));omega
  ·exact h
 have vc:=Dv p n c q m e V;have w1:i64.wrap ((m:Int)-1)=((m-1:Nat):Int):=by rw [i64w (by omega)];omega
 have w2:i64.wrap ((n:Int)-m)=((n-m:Nat):Int):=by rw [i64w (by omega)];omega
 have w3:i64.wrap (((n-m:Nat):Int)+1)=((n-m+1:Nat):Int):=by rw [i64w (by omega)];omega
 have w4:i64.wrap (((n-m+1:Nat):Int)-1)=((n-m:Nat):Int):=by rw [i64w (by omega)];omega
 simp only [w1,w2,w3,Int.toNat_natCast,w4,cw] at vc;obtain ⟨L,hL⟩:∃L,L=n-m+1:=⟨_,rfl⟩;rw [←hL] at vc;refine vc _ ?_;clear vc;refine hy.rd (m-1) rfl (by omega) fun V1 P=>(fO _ ((ax y).get (by omega))).mono ?_;rintro r V2 S rfl;have a5:bF ((af y)[m-1]'(by omega))<=32:=iO.2 (by have:=(ax y).get (i:=m-1) (by omega);omega);obtain ⟨s,hs⟩:∃s:Nat,(32:Int)-(bF ((af y)[m-1]'(by omega)):Int)=s:=⟨32-bF ((af y)[m-1]'(by omega)),by omega⟩;have KO:s<=32:=by omega
 rw [hs];clear hs a5;refine ⟨_,rfl,fun V3 l3=>(kq (hy.le (P.trans (S.trans l3))) (by omega) s (by omega)).mono ?_⟩;rintro r V4 l4 ⟨vp,d,vc,rfl,H⟩;rw [ab] at H;refine ⟨_,_,_,rfl,fun V5 l5=>(kq (hx.le (P.trans (S.trans (l3.trans (l4.trans l5))))) (by omega) s (by omega)).mono ?_⟩;rintro r V6 l6 ⟨rp,O,rc,rfl,hr⟩;rw [ab] at hr
 replace H:=H.le (l5.trans l6)
 have a6:=H.len;have T:=Nat.two_pow_pos s;have c6:2^s<=4294967296:=Nat.pow_le_pow_right (n:=2) (by omega) KO;have Wv:0<y*2^s:=Nat.mul_pos hy0 T;have c7:(af (2^s)).length<=2:=az.2 (by omega);have c8:d<=m+2:=by have:=gV (a:=y) (b:=2^s);omega
 have c9:0<d:=by
  rcases Nat.eq_zero_or_pos d with h|h
  ·have:=bw.1 (List.length_eq_zero_iff.1 (a6▸h));omega
  ·exact h
 have I:xU (x*2^s) (y*2^s) L (x*2^s) L (List.replicate L 0):=by
  refine ⟨by simp,bM.rep _,?_,by simp⟩;have h1:x<4294967296^n:=by rw [a4];exact az.1 (Nat.le_refl _)
  have h2:4294967296^(m-1)<=y:=by rw [←rE];omega
  have C:4294967296^(m-1)*4294967296^L<=y*4294967296^L:=Nat.mul_le_mul_right _ h2;rw [←Nat.pow_add,show m-1+L=n from by omega] at C;have D:x*2^s<y*4294967296^L*2^s:=Nat.mul_lt_mul_of_pos_right (by omega) T
  have E:y*4294967296^L*2^s=y*2^s*4294967296^L:=by
   generalize 4294967296^L=w;grind
  omega
 have G:∀{Q R:Nat},x*2^s=y*2^s*Q+R->R<y*2^s->Q=x / y/\R / 2^s=x%y:=fun h1 h2=>IK h1 h2;generalize x*2^s=A at *;generalize y*2^s=W at *;have w5:i64.wrap ((d:Int)-1)=((d-1:Nat):Int):=by rw [i64w (by omega)];omega
 simp only [w5,Int.toNat_natCast];refine ⟨_,_,_,rfl,?_⟩;obtain ⟨top,Y6,WE,WG,PD⟩:=Hi (W:=W) (n:=d-1) (by omega);refine Zx H (d-1) top rfl Y6 ?_;have w6:u64.wrap (top:Int)=top:=aG (by omega);simp only [w6]
 refine ⟨by omega,by omega,by omega,fun z V'=>∃R:Nat,RN V' z.1 z.2.1 z.2.2.1 R/\-1<=z.2.2.2.1/\z.2.2.2.1<L/\∃es:List Nat,z.2.2.2.2=ay es/\xU A W L R (z.2.2.2.1+1).toNat es,fun z=>(z.2.2.2.1+1).toNat,
  ⟨(rp,O,rc,((n-m:Nat):Int),ay (List.replicate L 0)),by (try dsimp only);and_intros<;>first|exact True.intro|rfl,A,hr,by (try dsimp only);omega,by (try dsimp only);omega,_,rfl,?_⟩,?_⟩
 ·(try dsimp only)
  rw [show (((n-m:Nat):Int)+1).toNat=L from by omega];exact I
 rintro ⟨rp,O,rc,j,vs⟩ V7 l7 ⟨R,J,a7,a8,es,rfl,o⟩;dsimp only at J a7 a8 o ⊢;have d0:=J.len;refine ⟨by trivial,fun C=>?_,fun C=>?_⟩
 ·have C:0<=j:=by simpa using C
  obtain ⟨j,rfl⟩:=Int.eq_ofNat_of_zero_le C;have o:xU A W L R (j+1) es:=o;have YU:j<L:=by omega
  have U:=Jy o.lt;obtain ⟨hq,X⟩:=o.step YU Wv;have w7:i64.wrap ((d:Int)+j)=((d-1+j+1:Nat):Int):=by rw [i64w (by omega)];omega
  have w8:i64.wrap (((d-1+j+1:Nat):Int)-1)=((d-1+j:Nat):Int):=by rw [i64w (by omega)];omega
  have w9:i64.wrap ((32:Int)*j)=((32*j:Nat):Int):=by rw [i64w (by omega)];omega
  have UN:i64.wrap ((j:Int)-1)=(j:Int)-1:=i64w (by omega);simp only [w7,w8,w9,UN,Int.toNat_natCast];have U:(af R).length<=d-1+j+2:=by omega
  have a9:=K0 U;have hP:0<4294967296^(d-1):=Nat.pow_pos (by omega);have hW:0<4294967296^j:=Nat.pow_pos (by omega);have hg:=Ip (R:=R) PD (by omega) hP hW;rw [←Nat.pow_add] at hg;have S:=@Qc R (d-1+j);have P:=@Mq R (d-1+j);have l0:=@Qb R (d-1+j);have l:∀i (hi:i<(af R).length),(af R)[i]<4294967296:=fun i hi=>(ax R).get hi;generalize R / 4294967296^(d-1+j)=lead at *;refine ⟨fun z V'=>z=(lead:Int),⟨fun D=>?_,fun D=>?_⟩,?_⟩
  ·have D:d-1+j+1<O:=by simp at D;omega
   refine (J.rd (d-1+j+1) rfl (by omega) ⟨by omega,J.rd (d-1+j) rfl (by omega) ⟨(lead:Int),?_,rfl⟩⟩)
   have Y:bh .or .u64 (u64.wrap (u64.wrap (((af R)[d-1+j+1]'(by omega):Nat):Int)*2^32)) (u64.wrap (((af R)[d-1+j]'(by omega):Nat):Int))=(lead:Int):=by
    have e3:((2:Int)^32)=4294967296:=by decide
    have g1:=l (d-1+j+1) (by omega);have Z:=l (d-1+j) (by omega);have:=S (by omega);rw [e3,aG (x:=(((af R)[d-1+j+1]'(by omega):Nat):Int)) (by omega),aG (x:=(((af R)[d-1+j]'(by omega):Nat):Int)) (by omega),aG (by omega),CA _ _ g1 Z,this];omega
   (try dsimp only);and_intros<;>first|exact True.intro|exact Y|rfl
  ·have D:O<=d-1+j+1:=by simp at D;omega
   refine ⟨fun z V'=>z=(lead:Int),⟨fun E=>?_,fun E=>?_⟩,?_⟩
   ·have E:d-1+j<O:=by simp at E;omega
    refine J.rd (d-1+j) rfl (by omega) ⟨(lead:Int),?_,rfl⟩
    have Y:u64.wrap (((af R)[d-1+j]'(by omega):Nat):Int)=(lead:Int):=by
     have Z:=l (d-1+j) (by omega);rw [aG (by omega),P (by omega)]
    (try dsimp only);and_intros<;>first|exact True.intro|exact Y|rfl
   ·have E:O<=d-1+j:=by simp at E;omega
    have Y:(0:Int)=(lead:Int):=by rw [l0 (by omega)];rfl
    refine ⟨(lead:Int),?_,rfl⟩
    (try dsimp only);and_intros<;>first|exact True.intro|exact Y|rfl
   ·rintro _ V8 l8 rfl;refine ⟨by trivial,(lead:Int),?_,rfl⟩
    (try dsimp only);and_intros<;>first|exact True.intro|rfl
  rintro _ V9 l9 rfl;clear S P l0 l;have O_:(lead:Int).tdiv (top:Int)=((lead / top:Nat):Int):=by rw [Int.tdiv_eq_ediv_of_nonneg (by omega)];omega
  have b0:lead / top<=lead:=Nat.div_le_self _ _;rw [O_];generalize lead / top=lt at *
  obtain ⟨F,a0,Nh,Tc⟩:∃F:Nat,bJ (u64.wrap (lt:Int)) 4294967295=(F:Int)/\F<4294967296/\R / (W*4294967296^j)<=F:=by
   rw [aG (by omega)];unfold bJ;split
   ·exact ⟨4294967295,rfl,by omega,by omega⟩
   ·exact ⟨lt,rfl,by omega,hg⟩
  rw [a0];clear a0 O_ b0 hg a9;have Ww:0<W*4294967296^j:=Nat.mul_pos Wv hW;have v:∀g:Nat,g<4294967296->(af g).length<=1:=fun g hg=>az.2 (by omega);refine ⟨by trivial,by omega,fun b5 u=>(cU F (by omega)).mono ?_⟩;rintro r b6 B ⟨gp,gn,gc,rfl,b7⟩;refine ⟨_,_,_,rfl,fun b8 t=>(bZ (H.le (l7.trans (l9.trans (u.trans (B.trans t))))) (b7.le t) (by have:=v F Nh;omega)).mono ?_⟩;rintro r d1 a1 ⟨pp,pn,pc,rfl,L_⟩;rw [ab,ab] at L_;have K:=fun g=>gV (a:=W) (b:=g);refine ⟨_,_,_,rfl,fun d2 cO=>(kq (L_.le cO) (by have:=v F Nh;have:=K F;omega) (32*j) (by omega)).mono ?_⟩;rintro r d3 dh ⟨tp,tn,tc,rfl,Ma⟩;rw [ab,Mu] at Ma;have Pm:=J.le (l9.trans (u.trans (B.trans (t.trans (a1.trans (cO.trans dh))))));have Tt:=H.le (l7.trans (l9.trans (u.trans (B.trans (t.trans (a1.trans (cO.trans dh)))))))
  refine ⟨_,_,_,rfl,fun z V'=>∃g:Nat,z.1=g/\g<4294967296/\R / (W*4294967296^j)<=g/\RN V' z.2.1 z.2.2.1 z.2.2.2 (W*g*4294967296^j),fun z=>z.1.toNat,
   ⟨((F:Int),tp,tn,tc),by (try dsimp only);and_intros<;>first|exact True.intro|rfl,F,rfl,Nh,Tc,Ma⟩,?_⟩
  rintro ⟨_,tp,tn,tc⟩ j9 cQ ⟨g,rfl,b9,YT,ht⟩;dsimp only at ht ⊢
  have c0:(af (W*g*4294967296^j)).length<=1099511627776:=by
   have h1:=gV (a:=W*g) (b:=4294967296^j);have h2:=zV j;have C:=K g;have D:=v g b9;omega
  refine ⟨by trivial,fun ng ck=>(hZ (ht.le ck) (Pm.le (cQ.trans ck)) c0 (by omega)).mono ?_⟩;rintro r oo dk rfl;refine ⟨_,rfl,fun f=>?_,fun f=>?_⟩
  ·have f:R<W*g*4294967296^j:=by
    have f:0<jI (W*g*4294967296^j) R:=by simpa using f
    unfold jI at f;split at f
    ·omega
    ·split at f
     ·assumption
     ·omega
   have c3:=Iq Ww f;have d4:0<g:=Nat.lt_of_le_of_lt (Nat.zero_le _) c3;have e1:u64.wrap ((g:Int)-1)=((g-1:Nat):Int):=by rw [aG (by omega)];omega
   simp only [e1];refine fun se d_=>(cU (g-1) (by omega)).mono ?_;rintro r DB gY ⟨gp,gn,gc,rfl,c4⟩;refine ⟨_,_,_,rfl,fun pZ fN=>(bZ (Tt.le (cQ.trans (ck.trans (dk.trans (d_.trans (gY.trans fN)))))) (c4.le fN) (by have:=v (g-1) (by omega);omega)).mono ?_⟩;rintro r rf iN ⟨pp,pn,pc,rfl,a2⟩;rw [ab,ab] at a2;refine ⟨_,_,_,rfl,fun tE fV=>(kq (a2.le fV) (by have:=v (g-1) (by omega);have:=K (g-1);omega) (32*j) (by omega)).mono ?_⟩;rintro r Ge my ⟨tp,tn,tc,rfl,Wp⟩;rw [ab,Mu] at Wp;refine ⟨_,_,_,rfl,(((g-1:Nat):Int),tp,tn,tc),?_,by (try dsimp only);and_intros<;>first|exact True.intro|rfl,g-1,rfl,by omega,by omega,Wp⟩
   (try dsimp only);omega
  ·have f:W*g*4294967296^j<=R:=by
    have f:¬0<jI (W*g*4294967296^j) R:=by simpa using f
    unfold jI at f;split at f
    ·omega
    ·split at f
     ·omega
     ·omega
   have M:=Ec Ww f YT;rw [←M] at X;have d5:=o.len;refine ⟨⟨by omega,by omega⟩,by simp;omega,fun DH a3=>(nt (Pm.le (cQ.trans (ck.trans (dk.trans a3)))) (ht.le (ck.trans (dk.trans a3))) (by omega) (aB f) (by rw [ab,ab];exact f)).mono ?_⟩;rintro r LS d6 ⟨np,nn,nc,rfl,Wq⟩;rw [ab,ab] at Wq;have e1:u32.wrap (g:Int)=(g:Int):=pM (by omega);have e2:(ay es).set (0+j*1) (.int .u32 (g:Int))=ay (es.set j g):=by rw [←bo];simp
   simp only [e1];refine ⟨_,_,_,rfl,(np,nn,nc,(j:Int)-1,ay (es.set j g)),?_,by (try dsimp only);and_intros<;>first|exact True.intro|rfl|exact e2|(rw [←bo];simp),R-W*g*4294967296^j,Wq,by (try dsimp only);omega,by (try dsimp only);omega,_,rfl,?_⟩
   ·(try dsimp only);omega
   ·(try dsimp only)
    rw [show ((j:Int)-1+1).toNat=j from by omega];exact X
 ·have C:j=-1:=by simp at C;omega
  subst C
  have To:(af R).length<=1099511627776:=by
   have f:=o.lt;have f:R<W:=by simpa using f
   have:=aB (Nat.le_of_lt f);omega
  intro V8 l8 bk hb;refine (cT (RD.bg hb o.fh (n:=L) (c:=L) o.len.symm (Nat.le_refl _)) (by have:=o.len;omega)).mono ?_;rintro r V9 l9 ⟨k,rfl,D⟩;refine ⟨_,_,_,rfl,fun _ b5 u=>(BD (J.le (l8.trans (l9.trans u))) To s (by omega)).mono ?_⟩;rintro r b6 B ⟨p2,n2,c2,rfl,E⟩;rw [ab] at E;refine ⟨_,_,_,rfl,fun b8 t=>⟨_,_,_,_,_,_,rfl,?_,?_⟩⟩
  ·have f:=o.lt;have N:=o.eq;have f:R<W:=by simpa using f
   have N:A=W*val es+R:=by simpa using N
   obtain ⟨g1,Z⟩:=G N f;rw [aK o.fh,g1] at D;exact D.le (u.trans (B.trans t))
  ·have f:=o.lt;have N:=o.eq;have f:R<W:=by simpa using f
   have N:A=W*val es+R:=by simpa using N
   obtain ⟨g1,Z⟩:=G N f;rw [Z] at E;exact E.le t
theorem pW {x:Nat}(h:(af x).length<=2):x<18446744073709551616:=by
 have:=az.1 h;omega
theorem copied {V:View}{b n c:Nat}{ds:List Nat}{sp:List Value}{ty:TypeId}(hd:bM ds)(hn:n=ds.length)(hc:n<=c)(hb:V.bg b (.cells (ay ds++sp).toArray ty (0,0))):RD V (some ⟨b,0,none⟩) n c ds:=by
 refine ⟨hn,hc,fun i v a=>⟨_,rfl,?_⟩,hd,fun e=>nomatch e⟩;rw [add_zero'];refine blk_at hb ?_;rw [List.getElem?_append_left]
 ·exact a
 ·rcases Nat.lt_or_ge i (ay ds).length with e|e
  ·exact e
  ·rw [List.getElem?_eq_none e] at a;cases a
theorem dM {V:View}{p q:OA}{n c m e:Nat}{x y:Nat}(hx:RN V p n c x)(hy:RN V q m e y)(hm:(af x).length<=274877906944)(hm':(af y).length<=274877906944)(hy0:0<y) :
  Acts prog 119 #[.slice p n c,.slice q m e] V fun r V'=>∃p1 n1 c1 p2 n2 c2,r=.tuple #[.slice p1 n1 c1,.slice p2 n2 c2]/\RN V' p1 n1 c1 (x / y)/\RN V' p2 n2 c2 (x%y):=by
 have o:=hx.len;have Bi:=hy.len
 have a1:0<m:=by
  rcases Nat.eq_zero_or_pos m with h|h
  ·have:=bw.1 (List.length_eq_zero_iff.1 (Bi▸h));omega
  ·exact h
 refine xG p n c q m e V _ fun V1 w=>(kt (hx.le w) (by omega)).mono ?_;rintro r V2 G rfl;rw [ab];refine ⟨_,_,rfl,fun z V'=>True,⟨fun a=>?_,fun a=>⟨(),by (try dsimp only);and_intros<;>first|exact True.intro|rfl,trivial⟩⟩,?_⟩
 ·have a:n<=2:=by simpa using a
  refine fun V3 l3=>(kt (hy.le (w.trans (G.trans l3))) (by omega)).mono ?_;rintro r V4 l4 rfl;rw [ab];refine ⟨_,_,rfl,fun f=>?_,fun f=>⟨(),by (try dsimp only);and_intros<;>first|exact True.intro|rfl,trivial⟩⟩;have f:m<=2:=by simpa using f
  have a2:=pW (x:=x) (by omega);have WK:=pW (x:=y) (by omega);rw [if_pos a,if_pos f];have hq:x / y<=x:=Nat.div_le_self _ _;have hr:x%y<y:=Nat.mod_lt _ hy0;have H:((x:Nat):Int).tdiv (y:Int)=((x / y:Nat):Int):=by rw [Int.tdiv_eq_ediv_of_nonneg (by omega)];omega
  have I:((x:Nat):Int).tmod (y:Int)=((x%y:Nat):Int):=by rw [Int.tmod_eq_emod_of_nonneg (by omega)];omega
  rw [H,I];generalize x / y=qq at *;generalize x%y=rr at *;have K:u64.wrap (qq:Int)=qq:=aG (by omega);rw [K];refine ⟨by omega,by omega,fun V5 l5=>(cU qq (by omega)).mono ?_⟩;rintro r V6 l6 ⟨p1,n1,c1,rfl,L⟩;refine ⟨_,_,_,rfl,fun V7 l7=>(cU rr (by omega)).mono ?_⟩;rintro r V8 l8 ⟨p2,n2,c2,rfl,M⟩;exact ⟨_,_,_,rfl,fun V9 l9=>⟨_,_,_,_,_,_,rfl,L.le (l7.trans (l8.trans l9)),M.le l9⟩⟩
 rintro _ a3 A _
 replace hx:=hx.le (w.trans (G.trans A))
 replace hy:=hy.le (w.trans (G.trans A))
 refine ⟨by trivial,fun a4 j=>(hZ (hx.le j) (hy.le j) (by omega) (by omega)).mono ?_⟩;rintro r a5 B rfl
 replace hx:=hx.le (j.trans B)
 replace hy:=hy.le (j.trans B)
 refine ⟨_,rfl,fun a=>⟨ay (af x),hx.sl,by simp [o],by omega,by omega,by simp,by simp [o],?_,?_⟩,fun a=>⟨fun f=>?_,fun f=>?_⟩⟩
 ·intro v g;simp only [ay,List.mem_map] at g;obtain ⟨d,-,rfl⟩:=g;rfl
 ·have a:x<y:=by simpa [fF] using a
  intro bk J sp c' f h2 V1 w b E;rw [Nat.div_eq_of_lt a,Nat.mod_eq_of_lt a];refine ⟨_,_,_,_,_,_,rfl,RD.nil,?_⟩;simp only [Nat.zero_add,Nat.zero_mul,List.take_zero,List.nil_append] at E f ⊢;exact copied (ax x) o f E
 ·have a:y<=x:=by simpa [←Int.not_lt,fF] using a
  have f:m=1:=by simp at f;omega
  subst f;obtain ⟨d,F⟩:=kF (ds:=af y) (by omega);have N:d=y:=by have:=ab y;rw [F] at this;simpa using this
  subst N;have O:d<4294967296:=by have:=ax d;rw [F] at this;exact (bM.cons.1 this).1
  try unfold RN at hy
  rw [F] at hy;have a6:0<n:=by have:=aB a;omega
  have w1:i64.wrap ((n:Int)-1)=(n:Int)-1:=i64w (by omega);simp only [w1,Int.toNat_natCast,cw];have wC:=ax x;have PI:=ab x;try unfold RN at hx
  clear F;rw [←PI];clear PI a;generalize af x=xs at *
  refine ⟨by omega,by omega,by omega,fun z V'=>0<=z.1/\z.1<d/\-1<=z.2.1/\z.2.1<n/\∃es:List Nat,z.2.2=ay es/\es.length=n/\bM es /\
   val (xs.drop (z.2.1+1).toNat)=d*val (es.drop (z.2.1+1).toNat)+z.1.toNat,fun z=>(z.2.1+1).toNat,
   ⟨(0,(n:Int)-1,ay (List.replicate n 0)),by (try dsimp only);and_intros<;>first|exact True.intro|rfl,by (try dsimp only);omega,by (try dsimp only);omega,by (try dsimp only);omega,by (try dsimp only);omega,_,rfl,by simp,bM.rep _,?_⟩,?_⟩
  ·(try dsimp only)
   rw [List.drop_of_length_le (by omega),List.drop_of_length_le (by simp)];rfl
  rintro ⟨rest,i,vs⟩ P Q ⟨C,R,S,T,es,rfl,U,s,g⟩;dsimp only at C R S T g ⊢;obtain ⟨rest,rfl⟩:=Int.eq_ofNat_of_zero_le C;refine ⟨by trivial,fun t=>?_,fun t=>?_⟩
  ·have t:0<=i:=by simpa using t
   obtain ⟨i,rfl⟩:=Int.eq_ofNat_of_zero_le t;have W:((i:Int)+1).toNat=i+1:=by omega
   rw [W] at g;simp only [Int.toNat_natCast] at g ⊢;have Tb:=wC.get (i:=i) (by omega);refine (hx.le Q).rd i rfl (by omega) (CK (hy.le Q) (by simp) fun X Y=>(Kq rest xs[i] d (by omega) Tb O).mono ?_);rintro r j9 cQ rfl
   have hq:(rest*4294967296+xs[i]) / d<4294967296:=by
    rw [Nat.div_lt_iff_lt_mul (by omega)];have:rest+1<=d:=by omega
    have:=Nat.mul_le_mul_right 4294967296 this;rw [Nat.mul_comm 4294967296 d];omega
   have hr:(rest*4294967296+xs[i])%d<d:=Nat.mod_lt _ (by omega);have Ed:=Nat.div_add_mod (rest*4294967296+xs[i]) d;generalize (rest*4294967296+xs[i]) / d=q at *;generalize (rest*4294967296+xs[i])%d=r at *;have w2:i64.wrap ((i:Int)-1)=(i:Int)-1:=i64w (by omega);simp only [w2];refine ⟨_,_,rfl,⟨by omega,by omega⟩,by simp;omega,((r:Int),(i:Int)-1,ay (es.set i q)),?_,?_,?_⟩
   ·(try dsimp only);omega
   ·(try dsimp only);and_intros<;>first|exact True.intro|rfl|(rw [←bo];simp)
   ·(try dsimp only)
    refine ⟨by omega,by omega,by omega,by omega,_,rfl,by simpa using U,s.set _ _ (by omega),?_⟩;have Z:((i:Int)-1+1).toNat=i:=by omega
    rw [Z,List.drop_eq_getElem_cons (by omega),List.drop_eq_getElem_cons (l:=es.set i q) (by simp;omega),List.getElem_set_self,List.drop_set_of_lt (by omega)];have h9:xs[i]+4294967296*val (List.drop (i+1) xs)=d*(q+4294967296*val (List.drop (i+1) es))+r:=vr g Ed;rw [aZ,aZ,Int.toNat_natCast];exact h9
  ·have t:i=-1:=by simp at t;omega
   subst t;simp only [Int.toNat_natCast] at g;have g:val xs=d*val es+rest:=by simpa using g
   intro ng ck bk E;refine (cT (RD.bg E s (n:=n) (c:=n) (by omega) (Nat.le_refl _)) (by omega)).mono ?_;rintro r oo dk ⟨k,rfl,h4⟩;refine ⟨_,_,_,rfl,fun _ se d_ a0 u=>?_⟩
   have u:se.bg a0 (.cells (ay [rest]).toArray 225 (0,0)):=by
    simpa [ay] using u
   refine (cT (RD.bg u (n:=1) (c:=1) (by simp [bM];omega) rfl (Nat.le_refl _)) (by simp)).mono ?_;rintro r DB gY ⟨k2,rfl,h5⟩;refine ⟨_,_,_,rfl,fun _ pZ fN=>⟨_,_,_,_,_,_,rfl,?_,?_⟩⟩
   ·have H:val xs / d=val es:=by rw [g,Nat.mul_add_div (by omega),Nat.div_eq_of_lt (by omega),Nat.add_zero]
    rw [aK s] at h4;rw [H];exact h4.le (d_.trans (gY.trans fN))
   ·have I:val xs%d=rest:=by rw [g,Nat.mul_add_mod,Nat.mod_eq_of_lt (by omega)]
    rw [aK (by simp [bM];omega)] at h5;have K:val [rest]=rest:=by simp
    rw [K] at h5;rw [I];exact h5.le fN
 ·have a:y<=x:=by simpa [←Int.not_lt,fF] using a
  refine fun a7 D=>(DW (hx.le D) (hy.le D) hm hy0 (aB a)).mono ?_;rintro r P Q ⟨p1,n1,c1,p2,n2,c2,rfl,L,M⟩;exact ⟨_,_,_,_,_,_,rfl,fun X Y=>⟨_,_,_,_,_,_,rfl,L.le Y,M.le Y⟩⟩
theorem kn {V:View}{p q:OA}{n c m e:Nat}{x y:Nat}(hx:RN V p n c x)(hy:RN V q m e y)(hm:(af x).length<=274877906944)(hm':(af y).length<=274877906944) :
  Acts prog 118 #[.slice p n c,.slice q m e] V fun r V'=>∃p1 n1 c1,r=.slice p1 n1 c1/\RN V' p1 n1 c1 (Nat.gcd x y):=by
 have M:=hx.len;have Bi:=hy.len;refine xF p n c q m e V _ fun N u=>(kt (hx.le u) (by omega)).mono ?_;rintro r V2 C rfl;rw [ab];refine ⟨_,_,rfl,fun z V'=>True,⟨fun A=>?_,fun A=>⟨(),by (try dsimp only);and_intros<;>first|exact True.intro|rfl,trivial⟩⟩,?_⟩
 ·have A:n<=2:=by simpa using A
  refine fun V3 O=>(kt (hy.le (u.trans (C.trans O))) (by omega)).mono ?_;rintro r V4 l4 rfl;rw [ab];refine ⟨_,_,rfl,fun j=>?_,fun j=>⟨(),by (try dsimp only);and_intros<;>first|exact True.intro|rfl,trivial⟩⟩;have j:m<=2:=by simpa using j
  have D:=pW (x:=x) (by omega);have P:=pW (x:=y) (by omega);rw [if_pos A,if_pos j]
  refine ⟨fun z V'=>∃a b:Nat,z=((a:Int),(b:Int))/\a<18446744073709551616/\b<18446744073709551616/\Nat.gcd a b=Nat.gcd x y,fun z=>z.2.toNat,
   ⟨((x:Int),(y:Int)),by (try dsimp only);and_intros<;>first|exact True.intro|rfl,x,y,rfl,D,P,rfl⟩,?_⟩
  rintro _ V5 l5 ⟨a,b,rfl,t,g,l⟩;dsimp only;refine ⟨by trivial,fun f=>?_,fun f=>?_⟩
  ·have f:0<b:=by simpa using f
   have Q:(a:Int).tmod (b:Int)=((a%b:Nat):Int):=by rw [Int.tmod_eq_emod_of_nonneg (by omega)];omega
   have B:a%b<b:=Nat.mod_lt _ f;refine ⟨by omega,((b:Int),((a%b:Nat):Int)),?_,by (try dsimp only);and_intros<;>first|exact True.intro|rfl|exact Q,b,a%b,rfl,g,by omega,?_⟩
   ·(try dsimp only);simp only [Int.toNat_natCast];exact B
   ·rw [←l,Nat.gcd_comm a b,Nat.gcd_rec b a,Nat.gcd_comm]
  ·have f:b=0:=by simp at f;omega
   subst f;rw [Nat.gcd_zero_right] at l;refine fun V6 l6=>(cU a t).mono ?_;rintro r V7 l7 ⟨p1,n1,c1,rfl,E⟩;rw [l] at E;exact ⟨_,_,_,rfl,fun V8 R=>⟨_,_,_,rfl,E.le R⟩⟩
 rintro _ V9 K _
 replace hx:=hx.le (u.trans (C.trans K))
 replace hy:=hy.le (u.trans (C.trans K))
 refine ⟨by trivial,fun z k V'=>∃a b:Nat,RN V' z.1 z.2.1 z.2.2.1 a/\RN V' z.2.2.2.1 z.2.2.2.2.1 z.2.2.2.2.2 b/\b=k/\(af a).length<=274877906944/\(af b).length<=274877906944/\Nat.gcd a b=Nat.gcd x y,
  ⟨(p,n,c,q,m,e),y,by (try dsimp only);and_intros<;>first|exact True.intro|rfl,x,y,hx,hy,rfl,hm,hm',rfl⟩,?_⟩
 rintro ⟨ap,an,ac,S,F,T⟩ _ U W ⟨a,b,t,g,rfl,G,w,l⟩;dsimp only at t g ⊢;have o:=t.len;have H:=g.len;refine ⟨by trivial,fun f=>?_,fun f=>?_⟩
 ·have f:0<F:=by simpa using f
  have i:0<b:=by
   rcases Nat.eq_zero_or_pos b with h|h
   ·subst h;simp at H;omega
   ·exact h
  refine fun X s=>(dM (t.le s) (g.le s) G w i).mono ?_;rintro r Y I ⟨p1,n1,c1,Z,n2,c2,rfl,E,g2⟩;have B:a%b<b:=Nat.mod_lt _ i;have a0:=aB (Nat.le_of_lt B);refine ⟨_,_,_,_,_,_,rfl,(S,F,T,Z,n2,c2),a%b,B,by (try dsimp only);and_intros<;>first|exact True.intro|rfl,b,a%b,g.le (s.trans I),g2,rfl,w,by omega,?_⟩;rw [←l,Nat.gcd_comm a b,Nat.gcd_rec b a,Nat.gcd_comm]
 ·have f:F=0:=by simp at f;omega
  have i:b=0:=bw.1 (List.length_eq_zero_iff.1 (by omega));subst i;rw [Nat.gcd_zero_right] at l;rw [←l];refine ⟨ay (af a),t.sl,by simp [o],by omega,by omega,by simp,by simp [o],?_,?_⟩
  ·intro v L;simp only [ay,List.mem_map] at L;obtain ⟨d,-,rfl⟩:=L;rfl
  ·intro bk J sp c' j h2 N u b g;refine ⟨_,_,_,rfl,?_⟩;simp only [Nat.zero_add,Nat.zero_mul,List.take_zero,List.nil_append] at g j ⊢;exact copied (ax a) o j g
end Go.Proofs.Tryz
namespace Go.Big
def aQ (b:Bool)(ds:List Nat):Int:=if b then -(val ds:Int) else val ds
end Go.Big
namespace Go.Eng
open Go.Big
def RI (V:View)(v:Value)(z:Int):Prop:=∃p n c,v=.agg #[.bool (decide (z<0)),.slice p n c]/\RD V p n c (af z.natAbs)
theorem RI.le {V V':View}{v:Value}{z:Int}(h:RI V v z)(l:V.Le V'):RI V' v z:=by
 obtain ⟨p,n,c,e,h⟩:=h;exact ⟨p,n,c,e,h.le l⟩
theorem RI.mk {V:View}{b:Bool}{p:OA}{n c:Nat}{z:Int}(hb:b=decide (z<0))(h:RD V p n c (af z.natAbs)):RI V (.agg #[.bool b,.slice p n c]) z:=⟨p,n,c,by rw [hb],h⟩
theorem RI.zero {V:View}:RI V (.agg #[.bool false,.slice none 0 0]) 0:=⟨_,_,_,rfl,RD.nil⟩
end Go.Eng
namespace Go.Proofs.Tryz
open Go.Eng Go.Big
theorem jC {n:Nat}:bF n=0↔n=0:=by
 unfold bF;split<;>simp_all
theorem fl (b:Bool)(ds:List Nat):(aQ b ds).natAbs=val ds:=by unfold aQ;cases b<;>simp
theorem Ch (b:Bool)(ds:List Nat):aQ b ds<0↔b=true/\val ds≠0:=by
 unfold aQ;cases b
 ·simp
 ·simp;omega
theorem aA (z:Int):aQ (decide (z<0)) (af z.natAbs)=z:=by
 unfold aQ;rw [ab];by_cases h:z<0
 ·rw [decide_eq_true h,if_pos rfl];omega
 ·rw [decide_eq_false h,if_neg (by decide)];omega
theorem IC (b:Bool)(ds:List Nat):aQ (!b) ds=-aQ b ds:=by unfold aQ;cases b<;>simp
theorem nG (ds:List Nat):aQ false ds=val ds:=rfl
theorem fI {x n:Nat}(h:n=(af x).length):0<n↔x≠0:=by
 rw [h];constructor
 ·intro a b;subst b;simp at a
 ·intro a;rcases Nat.eq_zero_or_pos (af x).length with e|e
  ·exact absurd (bw.1 (List.length_eq_zero_iff.1 e)) a
  ·exact e
theorem jE {V:View}(b:Bool){p:OA}{n c x:Nat}(h:RN V p n c x) :
  Acts prog 242 #[.bool b,.slice p n c] V fun r V'=>RI V' r (if b then -(x:Int) else x):=by
 have f:=fI h.len;refine pU b p n c V _ ⟨fun a e d=>?_,fun a e d=>?_⟩
 ·rw [if_pos a];refine RI.mk ?_ ?_
  ·rw [Bool.eq_iff_iff,decide_eq_true_eq,decide_eq_true_eq];omega
  ·rw [Int.natAbs_neg,Int.natAbs_natCast];exact h.le d
 ·rw [a,if_neg (by decide)];refine RI.mk ?_ ?_
  ·symm;rw [decide_eq_false_iff_not];omega
  ·rw [Int.natAbs_natCast];exact h.le d
theorem ik {V:View}(b:Bool){p:OA}{n c:Nat}{ds:List Nat}(h:RD V p n c ds)(hm:ds.length<=1099511627776) :
  Acts prog 178 #[.agg #[.bool b,.slice p n c]] V fun r V'=>RI V' r (aQ b ds):=by
 refine sN b p n c V _ fun j g=>(im (h.le g) hm).mono ?_;rintro r V2 k ⟨l,m,o,rfl,a⟩;have q:=fI a.len;have f:=Ch b ds;refine ⟨_,_,_,rfl,fun d i e=>RI.mk ?_ ?_,fun d i e=>RI.mk ?_ ?_⟩
 ·rw [Bool.eq_iff_iff,decide_eq_true_eq,decide_eq_true_eq,f];simp [d];omega
 ·rw [fl];exact a.le e
 ·symm;rw [decide_eq_false_iff_not,f];simp [d]
 ·rw [fl];exact a.le e
def kW (b:Bool)(ds:List Nat):Bool:=decide (af (val ds)=ds)&&(!b||decide (ds≠[]))
theorem fQ {V:View}(b:Bool){p:OA}{n c:Nat}{ds:List Nat}(h:RD V p n c ds)(hm:ds.length<=1099511627776) :
  Acts prog 159 #[.agg #[.bool b,.slice p n c]] V fun r V'=>r=.bool (kW b ds):=by
 refine pT b p n c V _ fun m j=>(zM (h.le j) hm).mono ?_;rintro r V2 o rfl;refine ⟨_,rfl,fun d=>⟨fun a f g=>?_,fun a f g=>?_⟩,fun d f g=>?_⟩
 ·simp [kW,d];simp at a;simp [a]
 ·have k:=h.len;simp [kW,d];simp at a;simp [a];rw [Bool.eq_iff_iff,decide_eq_true_eq];simp;constructor
  ·intro i l;subst l;simp at k;omega
  ·intro i;rcases Nat.eq_zero_or_pos ds.length with e|e
   ·exact absurd (List.length_eq_zero_iff.1 e) i
   ·omega
 ·simp [kW,d]
theorem iR {V:View}(n:Int)(h0:-9223372036854775808<=n)(h1:n<=9223372036854775807) :
  Acts prog 179 #[.int .i64 n] V fun r V'=>RI V' r n:=by
 refine nW n V _ ⟨fun a d f=>?_,fun a d f=>?_⟩
 ·have a:n<0:=by simpa using a
  have e:u64.wrap (0-u64.wrap n)=-n:=by rw [qS,qS];omega
  rw [e];refine (dz _ (by omega) (by omega)).mono ?_;rintro r V2 g ⟨h,i,j,rfl,b⟩;refine ⟨_,_,_,rfl,fun k c=>⟨_,_,_,rfl,?_⟩⟩;rw [show n.natAbs=(-n).toNat from by omega];exact b.le c
 ·have a:0<=n:=by simpa using a
  rw [aG (by omega)];refine (dz _ (by omega) (by omega)).mono ?_;rintro r V2 g ⟨h,i,j,rfl,b⟩;refine ⟨_,_,_,rfl,fun k c=>⟨_,_,_,rfl,?_⟩⟩;rw [show n.natAbs=n.toNat from by omega];exact b.le c
theorem lq {V:View}(b:Bool){p:OA}{n c:Nat}{ds:List Nat}(h:RD V p n c ds)(hm:ds.length<=1099511627776) :
  Acts prog 182 #[.agg #[.bool b,.slice p n c]] V fun r V'=>r=.int .i64 (aQ b ds).sign:=by
 refine sO b p n c V _ fun l k=>(il (h.le k) hm).mono ?_;rintro r V2 m rfl;have f:(aQ b ds)=0↔val ds=0:=by rw [←fl b ds];omega
 have g:=Ch b ds;refine ⟨_,rfl,fun a i j=>?_,fun a=>⟨fun d i j=>?_,fun d i j=>?_⟩⟩
 ·have:val ds=0:=jC.1 (by simp at a;omega);rw [f.2 this];rfl
 ·have:val ds≠0:=fun e=>by simp [jC.2 e] at a
  rw [Int.sign_eq_neg_one_of_neg (g.2 ⟨d,this⟩)]
 ·have:val ds≠0:=fun e=>by simp [jC.2 e] at a
  have:0<aQ b ds:=by
   have:=f;have:¬aQ b ds<0:=by rw [g];simp [d]
   omega
  rw [Int.sign_eq_one_of_pos this]
theorem wK {V:View}(b:Bool){p:OA}{n c:Nat}{ds:List Nat}(h:RD V p n c ds)(hm:ds.length<=1099511627776) :
  Acts prog 237 #[.agg #[.bool b,.slice p n c]] V fun r V'=>RI V' r (-aQ b ds):=by
 refine vR b p n c V _ fun f d=>(ik (!b) (h.le d) hm).mono ?_;rintro r V2 g ⟨i,j,k,rfl,a⟩;rw [IC] at a ⊢;exact ⟨_,_,_,_,rfl,fun l e=>⟨_,_,_,rfl,a.le e⟩⟩
theorem gg {V:View}(b1 b2:Bool){p q:OA}{n c m e:Nat}{xa xb:List Nat}(ha:RD V p n c xa)(hb:RD V q m e xb)(hm:xa.length+xb.length<=1099511627776) :
  Acts prog 229 #[.agg #[.bool b1,.slice p n c],.agg #[.bool b2,.slice q m e]] V fun r V'=>RI V' r (aQ b1 xa*aQ b2 xb):=by
 refine vQ b1 p n c b2 q m e V _ fun i a=>(fR (ha.le a) (hb.le a) hm).mono ?_;rintro r V2 j ⟨k,l,o,rfl,d⟩;refine ⟨_,_,_,rfl,fun s f=>(jE _ (d.le f)).mono ?_⟩;rintro r t u ⟨v,w,x,rfl,b⟩
 have g:(if (!(b1==b2))=true then -((val xa*val xb:Nat):Int) else ((val xa*val xb:Nat):Int))=aQ b1 xa*aQ b2 xb:=by
  unfold aQ;cases b1<;>cases b2<;>simp [Int.neg_mul,Int.mul_neg]
 rw [g] at b ⊢;exact ⟨_,_,_,_,rfl,fun y h=>⟨_,_,_,rfl,b.le h⟩⟩
theorem wJ {V:View}(b1 b2:Bool){p q:OA}{n c m e:Nat}{xa xb:List Nat}(ha:RD V p n c xa)(hb:RD V q m e xb)(hm:xa.length<=1099511627776)(hn:xb.length<=1099511627776) :
  Acts prog 228 #[.agg #[.bool b1,.slice p n c],.agg #[.bool b2,.slice q m e]] V fun r V'=>RI V' r (aQ b1 xa+aQ b2 xb):=by
 have fin:∀{b:Bool} {x:Nat} {i:View} {j:OA} {k l:Nat},RN i j k l x->(if b then -(x:Int) else x)=aQ b1 xa+aQ b2 xb ->
   Acts prog 242 #[.bool b,.slice j k l] i fun r V'=>∃(HG:Bool)(Jc:OA)(IW HN:Nat),r=.agg #[.bool HG,.slice Jc IW HN]/\∀o:View,V'.Le o->RI o (.agg #[.bool HG,.slice Jc IW HN]) (aQ b1 xa+aQ b2 xb):=by
  intro b x i j k l h he;refine (jE b h).mono ?_;rintro r v w ⟨y,z,A,rfl,a⟩;rw [he] at a ⊢;exact ⟨_,_,_,_,rfl,fun B s=>⟨_,_,_,rfl,a.le s⟩⟩
 refine vP b1 p n c b2 q m e V _ ⟨fun f i d=>(Gq (ha.le d) (hb.le d) hm hn).mono ?_,fun f i d=>(yv (ha.le d) (hb.le d) hm hn).mono ?_⟩
 ·rintro r V2 t ⟨j,k,l,rfl,u⟩;have f:b1=b2:=by simpa using f
  subst f;exact ⟨_,_,_,rfl,fun o g=>fin (u.le g) (by unfold aQ;cases b1<;>simp;omega)⟩
 ·rintro r V2 t ⟨j,k,l,rfl,u⟩;have f:b2=!b1:=by cases b1<;>cases b2<;>simp_all
  subst f;refine ⟨_,_,_,_,rfl,fun a o g=>fin (u.le g) ?_,fun a o g=>(yv (hb.le (d.trans (t.trans g))) (ha.le (d.trans (t.trans g))) hn hm).mono ?_⟩
  ·have a:val xb<=val xa:=by simpa using a
   unfold aQ;cases b1<;>simp<;>omega
  ·rintro r v w ⟨y,z,A,rfl,C⟩;have a:val xa<val xb:=by simpa using a
   exact ⟨_,_,_,_,rfl,fun B s=>fin (C.le s) (by unfold aQ;cases b1<;>simp<;>omega)⟩
theorem si {V:View}(b:Bool){p:OA}{n c:Nat}{ds:List Nat}(h:RD V p n c ds)(hm:ds.length<=1099511627776)(hs:val ds<4611686018427387904) :
  Acts prog 185 #[.agg #[.bool b,.slice p n c]] V fun r V'=>r=.tuple #[.int .i64 (aQ b ds),.bool true]:=by
 refine qX b p n c V _ fun i g=>(km (h.le g) hm).mono ?_;rintro r V2 j rfl;rw [if_pos (by omega),decide_eq_true (show val ds<18446744073709551616 by omega)];refine ⟨_,_,rfl,fun _=>⟨fun d=>⟨fun a k l=>?_,fun a=>?_⟩,fun d=>⟨fun _=>⟨fun a=>⟨fun f m o=>?_,fun f=>?_⟩,fun a=>?_⟩,fun a=>nomatch a⟩⟩,fun d=>nomatch d⟩
 ·subst d
  have e:i64.wrap (u64.wrap (0-(val ds:Int)))=-(val ds:Int):=by
   rw [qS,IntKind.wrap_i64];omega
  rw [e];rfl
 ·simp at a;omega
 ·subst d;rw [i64w (by omega)];rfl
 ·simp at f;omega
 ·simp [d] at a
end Go.Proofs.Tryz
namespace Go.Eng
open Go.Big
def Wd (q:Rat):Prop:=q.num.natAbs<4611686018427387904/\q.den<4611686018427387904
def RR (V:View)(v:Value)(q:Rat):Prop:=
 (v=.agg #[.int .i64 q.num,.int .i64 ((q.den:Int)-1),.pointer none]/\Wd q) \/
 (∃a b p n c p' n' c',v=.agg #[.int .i64 0,.int .i64 0,.pointer (some a)]/\V.at (a.add 0) (.bool b)/\V.at (a.add 1) (.slice p n c)/\V.at (a.add 2) (.slice p' n' c') /\
  RI V (.agg #[.bool b,.slice p n c]) q.num/\RD V p' n' c' (af q.den)/\¬Wd q)
theorem RR.le {V V':View}{v:Value}{q:Rat}(h:RR V v q)(l:V.Le V'):RR V' v q:=by
 rcases h with h|⟨a,b,p,n,c,d,f,g,e,i,j,k,m,o,r⟩
 ·exact .inl h
 ·exact .inr ⟨a,b,p,n,c,d,f,g,e,l.at i,l.at j,l.at k,m.le l,o.le l,r⟩
def Sz (k:Nat)(q:Rat):Prop:=q.num.natAbs<2^k/\q.den<2^k
theorem Sz.mono {k m:Nat}{q:Rat}(h:Sz k q)(hm:k<=m):Sz m q:=
 ⟨Nat.lt_of_lt_of_le h.1 (Nat.pow_le_pow_right (by omega) hm),Nat.lt_of_lt_of_le h.2 (Nat.pow_le_pow_right (by omega) hm)⟩
theorem ae {n k:Nat}(h:n<2^k):(af n).length<=k:=by
 rw [az];exact Nat.lt_of_lt_of_le h (Nat.pow_le_pow_left (by omega) k)
theorem Wd.sz {q:Rat}(h:Wd q):Sz 62 q:=h
theorem RR.shape {V:View}{v:Value}{q:Rat}(h:RR V v q):∃(n d:Int)(p:OA),v=.agg #[.int .i64 n,.int .i64 d,.pointer p]:=by
 rcases h with ⟨e,-⟩|⟨a,b,p,n,c,f,g,i,e,-⟩
 ·exact ⟨_,_,_,e⟩
 ·exact ⟨_,_,_,e⟩
end Go.Eng
namespace Go.Proofs.Tryz
open Go.Eng Go.Big
theorem zD (n:Nat):decide ((bF n:Int)<=62)=decide (n<4611686018427387904):=by
 have:=@iO n 62;rw [Bool.eq_iff_iff,decide_eq_true_eq,decide_eq_true_eq];omega
theorem GZ {z:Int}{d:Nat}(hd:d≠0)(hg:Nat.gcd z.natAbs d=1):(mkRat z d).num=z/\(mkRat z d).den=d:=by
 have:Nat.gcd d z.natAbs=1:=by rw [Nat.gcd_comm];exact hg
 rw [Rat.num_mkRat,Rat.den_mkRat,if_neg hd,if_neg hd,this];simp
theorem bY {V:View}(b:Bool){p q:OA}{n c m e:Nat}{xs ys:List Nat}(hx:RD V p n c xs)(hy:RD V q m e ys)(hm:xs.length<=1099511627776)(hn:ys.length<=1099511627776) :
  Acts prog 144 #[.agg #[.bool b,.slice p n c],.slice q m e] V fun r V'=>RR V' r (mkRat (aQ b xs) (val ys)):=by
 have zero:∀V':View,RR V' (.agg #[.int .i64 0,.int .i64 0,.pointer none]) 0:=fun V'=>.inl ⟨rfl,by unfold Wd;decide⟩;refine vK b p n c q m e V _ fun G i=>(il (hy.le i) hn).mono ?_;rintro r V2 t rfl;refine ⟨_,rfl,fun O H P=>?_,fun O Q u=>(lq b (hx.le (i.trans (t.trans u))) hm).mono ?_⟩
 ·have:val ys=0:=jC.1 (by simp at O;omega);rw [this,Rat.mkRat_zero];exact zero _
 rintro r v y rfl;have A:val ys≠0:=fun e=>by simp [jC.2 e] at O
 refine ⟨_,rfl,fun R V6 l6=>?_,fun R V7 l7=>?_⟩
 ·have:aQ b xs=0:=Int.sign_eq_zero_iff_zero.1 (by simpa using R);rw [this,Rat.zero_mkRat];exact zero _
 have a3:aQ b xs≠0:=fun e=>by simp [e] at R
 have B:val xs≠0:=by rw [←fl b xs];omega
 replace hx:=hx.le (i.trans (t.trans (u.trans (y.trans l7))))
 replace hy:=hy.le (i.trans (t.trans (u.trans (y.trans l7))))
 refine (yr hx hy hm hn).mono ?_;rintro r V8 l8 ⟨p3,n3,c3,rfl,C⟩
 replace hx:=hx.le l8
 replace hy:=hy.le l8
 have S:Nat.gcd (val xs) (val ys)<=val ys:=Nat.le_of_dvd (by omega) (Nat.gcd_dvd_right _ _);have j:(af (Nat.gcd (val xs) (val ys))).length<=1099511627776:=Nat.le_trans (aB S) (by have:=bq hy.fh;omega)
 have T:Nat.gcd (val xs) (val ys)≠0:=by
  intro U;exact B (Nat.eq_zero_of_gcd_eq_zero_left U)
 refine ⟨_,_,_,rfl,fun V9 I=>(il (C.le I) j).mono ?_⟩;rintro r a4 k rfl;rw [ab]
 replace hx:=hx.le (I.trans k)
 replace hy:=hy.le (I.trans k)
 replace C:=C.le (I.trans k)
 refine ⟨_,rfl,fun z V'=>∃(us d:List Nat),z.2.2.2.1=b/\RD V' z.2.2.2.2.1 z.2.2.2.2.2.1 z.2.2.2.2.2.2 us/\RD V' z.1 z.2.1 z.2.2.1 d/\us.length<=1099511627776/\d.length<=1099511627776/\val d≠0 /\
  Nat.gcd (val us) (val d)=1/\mkRat (aQ b xs) (val ys)=mkRat (aQ b us) (val d),⟨fun J a5 f=>?_,fun J=>?_⟩,?_⟩
 ·refine (kl (hx.le f) (C.le f) hm j (by rw [ab];exact T)).mono ?_;rintro r a6 D ⟨p4,n4,c4,p5,n5,c5,rfl,g1,g2⟩;refine ⟨_,_,_,_,_,_,_,rfl,fun a7 l=>(kl (hy.le (f.trans (D.trans l))) (C.le (f.trans (D.trans l))) hn j (by rw [ab];exact T)).mono ?_⟩;rintro r a8 cO ⟨p6,n6,c6,p7,n7,c7,rfl,g3,g4⟩;rw [ab] at g1 g3;have e1:val (af (val xs / Nat.gcd (val xs) (val ys)))=val xs / Nat.gcd (val xs) (val ys):=ab _;have W:val (af (val ys / Nat.gcd (val xs) (val ys)))=val ys / Nat.gcd (val xs) (val ys):=ab _;have d1:=Nat.gcd_dvd_left (val xs) (val ys);have d2:=Nat.gcd_dvd_right (val xs) (val ys)
  have X:val ys / Nat.gcd (val xs) (val ys)≠0:=by
   intro U;have:=Nat.div_mul_cancel d2;rw [U,Nat.zero_mul] at this;exact A this.symm
  refine ⟨_,_,_,_,_,_,_,rfl,(p6,n6,c6,b,p4,n4,c4),by (try dsimp only);and_intros<;>trivial,_,_,rfl,g1.le (l.trans cO),g3,?_,?_,?_,?_,?_⟩
  ·exact Nat.le_trans (aB (Nat.div_le_self _ _)) (by have:=bq hx.fh;omega)
  ·exact Nat.le_trans (aB (Nat.div_le_self _ _)) (by have:=bq hy.fh;omega)
  ·rw [W];exact X
  ·rw [e1,W];exact Nat.gcd_div_gcd_div_gcd_of_pos_left (by omega)
  ·rw [W];have k1:val ys=val ys / Nat.gcd (val xs) (val ys)*Nat.gcd (val xs) (val ys):=(Nat.div_mul_cancel d2).symm
   have k2:aQ b xs=aQ b (af (val xs / Nat.gcd (val xs) (val ys)))*(Nat.gcd (val xs) (val ys):Nat):=by
    have k3:(val xs:Int)=((val xs / Nat.gcd (val xs) (val ys):Nat):Int)*(Nat.gcd (val xs) (val ys):Nat):=by
     rw [←Int.natCast_mul,Nat.div_mul_cancel d1]
    unfold aQ;rw [e1];cases b
    ·simpa using k3
    ·simp only [if_true];rw [Int.neg_mul,←k3]
   conv=>lhs;rw [k1,k2]
   exact Rat.mkRat_mul_right T
 ·have Y:Nat.gcd (val xs) (val ys)=1:=by
   have g:¬(1<bF (Nat.gcd (val xs) (val ys))):=by simp at J;omega
   have:=@iO (Nat.gcd (val xs) (val ys)) 1;omega
  exact ⟨(q,m,e,b,p,n,c),by (try dsimp only);and_intros<;>trivial,xs,ys,rfl,hx,hy,hm,hn,A,Y,rfl⟩
 ·rintro ⟨q,m,e,h,p,n,c⟩ Z dh ⟨us,d,E,hu,K,PE,o,a0,a1,hq⟩;dsimp only at E hu K ⊢;subst E;rw [hq];obtain ⟨sB,a⟩:=GZ (z:=aQ h us) a0 (by rw [fl];exact a1);generalize mkRat (aQ h us) (val d)=w at *
  have hW:Wd w↔val us<4611686018427387904/\val d<4611686018427387904:=by
   unfold Wd;rw [sB,a,fl]
  have LX:∀G:View,Z.Le G->¬Wd w->Acts prog 178 #[.agg #[.bool h,.slice p n c]] G fun r V2=>∃(HG:Bool)(Jc:OA)(IW HN:Nat),r=.agg #[.bool HG,.slice Jc IW HN] /\
    (∀H:View,V2.Le H->Acts prog 187 #[.slice q m e] H fun r Q=>∃(W6:OA)(WX VF:Nat),r=.slice W6 WX VF /\
    (∀v:View,Q.Le v->∀L:Nat,v.bg L (.cells #[.bool HG,.slice Jc IW HN,.slice W6 WX VF] 289 (0,0))->RR v (.agg #[.int .i64 0,.int .i64 0,.pointer (some ⟨L,0,none⟩)]) w)):=by
   intro G i hw;refine (ik h (hu.le i) PE).mono ?_;rintro r V2 t Ht;obtain ⟨p2,n2,c2,rfl,J⟩:=Ht;have Ht:RI V2 (.agg #[.bool (decide (aQ h us<0)),.slice p2 n2 c2]) (aQ h us):=⟨_,_,_,rfl,J⟩;refine ⟨_,_,_,_,rfl,fun H P=>(im (K.le (i.trans (t.trans P))) o).mono ?_⟩;rintro r Q u ⟨p3,n3,c3,rfl,g⟩;refine ⟨_,_,_,rfl,fun v y L hb=>.inr ⟨⟨L,0,none⟩,decide (aQ h us<0),p2,n2,c2,p3,n3,c3,rfl,?_,?_,?_,?_,?_,hw⟩⟩
   ·rw [add_zero'];exact blk_at (xs:=[_,_,_]) hb rfl
   ·rw [add_zero'];exact blk_at (xs:=[_,_,_]) hb rfl
   ·rw [add_zero'];exact blk_at (xs:=[_,_,_]) hb rfl
   ·rw [sB];exact Ht.le (P.trans (u.trans y))
   ·rw [a];exact g.le y
  refine ⟨by trivial,fun j9 s=>(il (hu.le s) PE).mono ?_⟩;rintro r ng F rfl;refine ⟨_,rfl,fun g oo M=>(il (K.le (s.trans (F.trans M))) o).mono ?_,fun g Kl wD=>LX Kl (s.trans (F.trans wD)) ?_⟩
  ·rintro r se d_ rfl;rw [zD,decide_eq_true_eq] at g;refine ⟨_,rfl,fun N DB gY=>?_,fun N DH a2=>LX DH (s.trans (F.trans (M.trans (d_.trans a2)))) ?_⟩
   ·rw [zD,decide_eq_true_eq] at N;refine (si h (hu.le (s.trans (F.trans (M.trans (d_.trans gY))))) PE g).mono ?_;rintro r pZ fN rfl;refine ⟨_,_,rfl,fun rf iN=>(km (K.le (s.trans (F.trans (M.trans (d_.trans (gY.trans (fN.trans iN))))))) o).mono ?_⟩;rintro r tE fV rfl;rw [if_pos (by omega)];refine ⟨_,_,rfl,fun Ge my=>.inl ⟨?_,hW.2 ⟨g,N⟩⟩⟩;rw [i64w (x:=((val d:Nat):Int)) (by omega),i64w (by omega),sB,a]
   ·rw [zD,decide_eq_false_iff_not] at N;rw [hW];omega
  ·rw [zD,decide_eq_false_iff_not] at g;rw [hW];omega
theorem eX {V:View}(b:Bool){p:OA}{n c x:Nat}(h:RN V p n c x) :
  Acts prog 69 #[.bool b,.slice p n c] V fun r V'=>RI V' r (if b then -(x:Int) else x):=by
 have f:=fI h.len;refine Dn b p n c V _ ⟨fun a e d=>?_,fun a e d=>?_⟩
 ·rw [if_pos a];refine RI.mk ?_ ?_
  ·rw [Bool.eq_iff_iff,decide_eq_true_eq,decide_eq_true_eq];omega
  ·rw [Int.natAbs_neg,Int.natAbs_natCast];exact h.le d
 ·rw [a,if_neg (by decide)];refine RI.mk ?_ ?_
  ·symm;rw [decide_eq_false_iff_not];omega
  ·rw [Int.natAbs_natCast];exact h.le d
theorem iz {V:View}{b:Bool}{p:OA}{n c x:Nat}{z:Int}(h:RN V p n c x)(hz:(if b then -(x:Int) else x)=z) :
  Acts prog 69 #[.bool b,.slice p n c] V fun r V'=>∃(HG:Bool)(Jc:OA)(IW HN:Nat),r=.agg #[.bool HG,.slice Jc IW HN]/\∀V3:View,V'.Le V3->RI V3 (.agg #[.bool HG,.slice Jc IW HN]) z:=by
 refine (eX b h).mono ?_;rintro r V2 d ⟨e,f,i,rfl,g⟩;rw [hz] at g ⊢;exact ⟨_,_,_,_,rfl,fun V3 a=>⟨_,_,_,rfl,g.le a⟩⟩
theorem yw {V:View}(n:Int)(h0:-9223372036854775808<=n)(h1:n<=9223372036854775807) :
  Acts prog 120 #[.int .i64 n] V fun r V'=>RI V' r n:=by
 refine E7 n V _ ⟨fun a d f=>?_,fun a d f=>?_⟩
 ·have a:n<0:=by simpa using a
  have e:u64.wrap (0-u64.wrap n)=((-n).toNat:Int):=by rw [qS,qS];omega
  rw [e];refine (cU _ (by omega)).mono ?_;rintro r V2 g ⟨h,i,j,rfl,b⟩;exact ⟨_,_,_,rfl,fun k c=>iz (b.le c) (by simp;omega)⟩
 ·have a:0<=n:=by simpa using a
  have e:u64.wrap n=(n.toNat:Int):=by rw [aG (by omega)];omega
  rw [e];refine (cU _ (by omega)).mono ?_;rintro r V2 g ⟨h,i,j,rfl,b⟩;exact ⟨_,_,_,rfl,fun k c=>iz (b.le c) (by simp;omega)⟩
theorem kr {V:View}(z:Int){p:OA}{n c:Nat}(h:RN V p n c z.natAbs) :
  Acts prog 79 #[.agg #[.bool (decide (z<0)),.slice p n c]] V fun r V'=>r=.int .i64 z.sign:=by
 have f:=fI h.len;refine Ds _ p n c V _ ⟨fun b d e=>?_,fun b=>⟨fun a d e=>?_,fun a d e=>?_⟩⟩
 ·have:z=0:=by simp at b;omega
  rw [this];rfl
 ·rw [decide_eq_true_eq] at a;rw [Int.sign_eq_neg_one_of_neg a]
 ·rw [decide_eq_false_iff_not] at a;have:0<z:=by simp at b;omega
  rw [Int.sign_eq_one_of_pos this]
theorem gC {V:View}(z:Int){p:OA}{n c:Nat}(h:RN V p n c z.natAbs) :
  Acts prog 100 #[.agg #[.bool (decide (z<0)),.slice p n c]] V fun r V'=>RI V' r (-z):=by
 refine AW _ p n c V _ fun d a=>iz (h.le a) ?_;by_cases b:z<0<;>simp [b]<;>omega
theorem jF {V:View}(z w:Int){p q:OA}{n c m e:Nat}(ha:RN V p n c z.natAbs)(hb:RN V q m e w.natAbs)(hm:(af z.natAbs).length+(af w.natAbs).length<=1099511627776) :
  Acts prog 114 #[.agg #[.bool (decide (z<0)),.slice p n c],.agg #[.bool (decide (w<0)),.slice q m e]] V fun r V'=>RI V' r (z*w):=by
 refine E9 _ p n c _ q m e V _ fun h a=>(bZ (ha.le a) (hb.le a) hm).mono ?_;rintro r V2 i ⟨j,k,l,rfl,b⟩;rw [ab,ab] at b;refine ⟨_,_,_,rfl,fun o d=>iz (b.le d) ?_⟩;have f:z=aQ (decide (z<0)) (af z.natAbs):=(aA z).symm;have g:w=aQ (decide (w<0)) (af w.natAbs):=(aA w).symm
 conv=>rhs;rw [f,g]
 unfold aQ;rw [ab,ab];cases decide (z<0)<;>cases decide (w<0)<;>simp [Int.neg_mul,Int.mul_neg]
theorem qi {V:View}(z w:Int){p q:OA}{n c m e:Nat}(ha:RN V p n c z.natAbs)(hb:RN V q m e w.natAbs)(hm:(af z.natAbs).length<=1099511627776)(hn:(af w.natAbs).length<=1099511627776) :
  Acts prog 112 #[.agg #[.bool (decide (z<0)),.slice p n c],.agg #[.bool (decide (w<0)),.slice q m e]] V fun r V'=>RI V' r (z+w):=by
 refine E4 _ p n c _ q m e V _ ⟨fun i t a=>(Gt (ha.le a) (hb.le a) hm hn).mono ?_,fun i t a=>(hZ (ha.le a) (hb.le a) hm hn).mono ?_⟩
 ·rintro r V2 g ⟨k,l,o,rfl,b⟩;rw [ab,ab] at b;refine ⟨_,_,_,rfl,fun s d=>iz (b.le d) ?_⟩;by_cases h:z<0<;>by_cases hw:w<0<;>simp [h,hw] at i⊢<;> omega
 ·rintro r V2 g rfl;refine ⟨_,rfl,fun f s d=>?_,fun f s d=>?_⟩
  ·have f:z.natAbs<w.natAbs:=by simpa [fF] using f
   refine (nt (hb.le (a.trans (g.trans d))) (ha.le (a.trans (g.trans d))) hn (aB (Nat.le_of_lt f)) (by rw [ab,ab];omega)).mono ?_;rintro r u v ⟨k,l,o,rfl,b⟩;rw [ab,ab] at b;refine ⟨_,_,_,rfl,fun x j=>iz (b.le j) ?_⟩;by_cases h:z<0<;>by_cases hw:w<0<;>simp [h,hw] at i⊢<;> omega
  ·have f:w.natAbs<=z.natAbs:=by simpa [←Int.not_lt,fF] using f
   refine (nt (ha.le (a.trans (g.trans d))) (hb.le (a.trans (g.trans d))) hm (aB f) (by rw [ab,ab];omega)).mono ?_;rintro r u v ⟨k,l,o,rfl,b⟩;rw [ab,ab] at b;refine ⟨_,_,_,rfl,fun x j=>iz (b.le j) ?_⟩;by_cases h:z<0<;>by_cases hw:w<0<;>simp [h,hw] at i⊢<;> omega
end Go.Proofs.Tryz
