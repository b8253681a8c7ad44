import Derived.Test.YtlhmddanbgcbjaaGreatDoorL14
import Derived.Test.YtlhmddanbgcbjaaGreatDoorL7
import Derived.Test.YtlhmddanbgcbjaaGreatDoorL13
import Derived.Test.YtlhmddanbgcbjaaGreatDoorL5
import Derived.Test.YtlhmddanbgcbjaaGreatDoorL11
set_option linter.all false
open Go.IntKind (i64 u64 u32)
namespace Go.Proofs.Tryz
open Go.Eng Go.Big
open Go.Value renaming slice→qD,agg→hF,bool→dQ,pointer→dZ,tuple→dB,int→qvZ
variable{V:View}{v:Value}{x y:Rat}{k:Nat}
theorem RA.shape {q:Rat}(h:RA V v q):∃b p n c p' n' c',v=hF #[dQ b,qD p n c,qD p' n' c']:=by obtain ⟨p,n,c,p',n',c',e,-⟩:=h;exact qyW e
def Xa (V:View)(v:Value)(x y:Rat):Prop:=∃b p n c p' n' c' d q m e q' m' e',v=.agg #[.bool b,.slice p n c,.slice p' n' c',.bool d,.slice q m e,.slice q' m' e'] /\
 RA V (.agg #[.bool b,.slice p n c,.slice p' n' c']) x/\RA V (.agg #[.bool d,.slice q m e,.slice q' m' e']) y
theorem Xa.le {V V':ut}(h:Xa V v x y)(l:V.Le V'):Xa V' v x y:=by obtain ⟨b,p,n,c,g,i,j,d,q,m,e,k,o,r,rfl,a,f⟩:=h;exact qyZ ⟨rfl,a.le l,f.le l⟩
theorem jE {q:Rat}(h:RQ V v q)(s:Sz k q)(hk:k<=1099511627776):aa prog 98 #[v] V λr V'=>RA V' r q:=by obtain ⟨p,n,c,f,g,i,rfl,j,l⟩:=h;have y:=ag s.1;have z:=ag s.2;refine GQ V _ λA a=>(ma ⟨_,_,_,rfl,j.le a⟩).s ?_;rintro r V2 m ⟨B,C,D,rfl,o⟩;refine qvJ ⟨rfl,λE b=>(dS q _ (l.le (a.m (m.m b)))).s ?_⟩;rintro r F t ⟨G,H,I,rfl,u⟩;refine ⟨_,_,_,rfl,λJ d=>(xh (u.le d)).s ?_⟩;rintro r K w ⟨L,M,N,rfl,x⟩;exact ⟨_,_,_,rfl,λO e=>⟨_,_,_,_,_,_,rfl,o.le (b.m (t.m (d.m (w.m e)))),x.le e⟩⟩
theorem HH (h:RP V v x y)(s1:Sz k x)(s2:Sz k y)(hk:k<=1099511627776):aa prog 182 #[v] V λr V'=>Xa V' r x y:=by obtain ⟨i,j,l,m,n,o,p,q,s,t,u,w,rfl,z,A⟩:=h;refine G2 V _ λD c=>(jE (z.le c) s1 hk).s ?_;rintro r V2 B d;have a:=d;obtain ⟨_,_,_,_,_,_,_,rfl⟩:=d.shape;refine qyW ⟨rfl,λE e=>(jE (A.le (c.m (B.m e))) s2 hk).s ?_⟩;rintro r F C f;have b:=f;obtain ⟨_,_,_,_,_,_,_,rfl⟩:=f.shape;exact qyW ⟨rfl,λG g=>⟨_,_,_,_,_,_,_,_,_,_,_,_,_,_,rfl,a.le (e.m (C.m g)),b.le g⟩⟩
theorem rA {w:un}(hx:RA V v x)(hy:RA V w y)(s:Sz k x)(hk:k<=1099511627776) :
  aa prog 97 #[v,w] V λr V'=>r=dQ (decide (x=y)):=by obtain ⟨p,n,c,f,i,j,rfl,l,o⟩:=hx;obtain ⟨q,m,e,t,u,z,rfl,A,B⟩:=hy;have C:=ag s.1;have D:=ag s.2;refine Cg V _ λE a=>(js (l.le a) (A.le a)).s ?_;rintro r V2 b rfl;refine ⟨_,rfl,λg F d=>(rz (o.le (a.m (b.m d))) (B.le (a.m (b.m d)))).s ?_,λg G H=>?_⟩;{have g:=of_decide_eq_true g;rintro r I J rfl;refine ⟨_,rfl,λK L=>?_⟩;have e:ah x.den=ah y.den↔x=y:=⟨λh=>Rat.ext g (by have:=congrArg val h;rwa [af,af] at this),λh=>by rw [h]⟩;rw [show decide (ah x.den=ah y.den)=decide (x=y) from by rw [decide_eq_decide];exact e]};{have g:=of_decide_eq_false g;rw [decide_eq_false (λh=>g (by rw [h]))]}
abbrev L3:=Int×Int×Int
variable{c k n tb:Nat}{V:View}{a at_ b:Int}{v:Value}{x:L3}{p:OA}
def cW (x:L3):Bool:=decide (¬(x.1=0/\x.2.1=0))&&decide (cg x.1 x.2.1 x.2.2=1)
def Bd (x:L3):Prop:=x.1.natAbs<2^1000/\x.2.1.natAbs<2^1000/\x.2.2.natAbs<2^1000
inductive Tr where
 | leaf (i:Bool)|node (l:L3) (a b:Tr)
 deriving DecidableEq
structure Nd where
 ln:L3
 left:Int
 right:Int
 deriving DecidableEq
def Tr.size:Tr->Nat
 | .leaf _=>0
 | .node _ a b=>a.size+b.size+1
def Tr.pS:Tr->Bool
 | .leaf _=>true
 | .node ..=>false
def Tr.dT (p:L3->Prop):Tr->Prop
 | .leaf _=>True
 | .node l a b=>p l/\a.dT p/\b.dT p
theorem Tr.dT.imp {p q:L3->Prop}(h:∀x,p x->q x):∀{t:Tr},t.dT p->t.dT q
 | .leaf _,_=>trivial
 | .node _ _ _,⟨h1,h2,h3⟩=>⟨h _ h1,Tr.dT.imp h h2,Tr.dT.imp h h3⟩
def rt (k:Nat):Tr->Int
 | .leaf i=>if i then -2 else -1
 | .node ..=>(k:Int)
def wr:Nat->Tr->List Nd
 | _,.leaf _=>[]
 | k,.node l a b=>⟨l,rt (k+1) a,rt (k+1+a.size) b⟩::(wr (k+1) a++wr (k+1+a.size) b)
theorem jj:∀(t:Tr)(k:Nat),(wr k t).length=t.size
 | .leaf _,_=>rfl
 | .node _ a b,k=>by simp only [wr,Qw6,Qq3,jj a,jj b,Tr.size]
def Zx (l:List Nd):Int->Tr->List Nat->Prop
 | n,.leaf i,I=>n=(if i then -2 else -1)/\I=[]
 | n,.node ln a b,I=>∃(k:Nat)(x:Nd)(A B:List Nat),n=(k:Int)/\l[k]?=some x/\x.ln=ln/\Zx l x.left a A/\Zx l x.right b B/\I=k::(A++B)
theorem Lc:∀(t:Tr)(l pre post:pz Nd)(k:Nat),l=pre++(wr k t++post)->pre.length=k->Zx l (rt k t) t (List.range' k t.size)
 | .leaf i,l,pre,post,k,_,_=>⟨rfl,rfl⟩
 | .node ln a b,l,pre,post,k,hl,hp=>by
  refine ⟨k,⟨ln,rt (k+1) a,rt (k+1+a.size) b⟩,List.range' (k+1) a.size,List.range' (k+1+a.size) b.size,rfl,?_,rfl,?_,?_,?_⟩
  ·subst hl;simp [hp,wr]
  ·refine Lc a l (pre++[⟨ln,rt (k+1) a,rt (k+1+a.size) b⟩]) (wr (k+1+a.size) b++post) (k+1) ?_ (by simp [hp])<;>grind [wr]
  ·refine Lc b l (pre++(⟨ln,rt (k+1) a,rt (k+1+a.size) b⟩::wr (k+1) a)) post (k+1+a.size) ?_ (by simp [jj];omega)<;>grind [wr]
  ·simp only [Tr.size];rw [List.range'_succ,←List.range'_append_1]
structure RS where
 seen:List Bool
 pg:Nat
 bad:Bool
def ja (l:List Nd):Nat->Int->RS->Tr×RS
 | 0,_,s=>(.leaf false,s)
 | f+1,n,s=>
  if n=-2 then (.leaf true,s) else if n=-1 then (.leaf false,s) else if n<0 then (.leaf false,{ s with bad:=true })
  else match l[n.toNat]?,s.seen[n.toNat]? with
   | some x,some false=>
    if cW x.ln then
     let r1:=ja l f x.left ⟨s.seen.set n.toNat true,s.pg+1,s.bad⟩
     let r2:=ja l f x.right r1.2
     (.node x.ln r1.1 r2.1,r2.2)
    else (.leaf false,⟨s.seen.set n.toNat true,s.pg+1,true⟩)
   | _,_=>(.leaf false,{ s with bad:=true })
theorem count_set {l:pz md}(h:l[k]?=some false):(l.set k true).count false+1=l.count false:=by grind
theorem Bn (l:pz Nd):∀(f:Nat)(n:Int)(s:RS),(ja l f n s).2.seen.count false<=s.seen.count false/\(ja l f n s).2.seen.length=s.seen.length
 | 0,_,_=>⟨Qq2 _,rfl⟩
 | f+1,n,s=>by
  simp only [ja];split
  ·exact ⟨Qq2 _,rfl⟩
  ·split
   ·exact ⟨Qq2 _,rfl⟩
   ·split
    ·exact ⟨Qq2 _,rfl⟩
    ·split
     ·rename_i x hx hs;have hc:=count_set hs;split
      ·have ⟨a,b⟩:=Bn l f x.left ⟨s.seen.set n.toNat true,s.pg+1,s.bad⟩;have ⟨c,d⟩:=Bn l f x.right (ja l f x.left ⟨s.seen.set n.toNat true,s.pg+1,s.bad⟩).2;grind
      grind
     grind
theorem Ga (l:pz Nd):∀(f:Nat)(n:Int)(s:RS),(ja l f n s).2.pg+(ja l f n s).2.seen.count false=s.pg+s.seen.count false
 | 0,_,_=>rfl
 | f+1,n,s=>by
  simp only [ja];split
  ·rfl
  ·split
   ·rfl
   ·split
    ·rfl
    ·split
     ·rename_i x hx hs;have hc:=count_set hs;split
      ·have a:=Ga l f x.left ⟨s.seen.set n.toNat true,s.pg+1,s.bad⟩;have b:=Ga l f x.right (ja l f x.left ⟨s.seen.set n.toNat true,s.pg+1,s.bad⟩).2;grind
      ·dsimp only;omega
     ·rfl
theorem Bo (l:pz Nd):∀(f:Nat)(n:Int)(s:RS),(ja l f n s).1.size+s.pg<=(ja l f n s).2.pg
 | 0,_,_=>by simp [ja,Tr.size]
 | f+1,n,s=>by
  simp only [ja];split
  ·simp [Tr.size]
  ·split
   ·simp [Tr.size]
   ·split
    ·simp [Tr.size]
    ·split
     ·split
      ·rename_i x hx hs hok;have h1:=Bo l f x.left ⟨s.seen.set n.toNat true,s.pg+1,s.bad⟩;have a:=Bo l f x.right (ja l f x.left ⟨s.seen.set n.toNat true,s.pg+1,s.bad⟩).2;grind [Tr.size]
      ·simp [Tr.size]
     ·simp [Tr.size]
def th (s:List Bool)(I:List Nat):List Bool:=I.foldl (λs k=>s.set k true) s
theorem BB:∀(I:pz Nat)(s:pz md)(k:Nat),k∉I->(th s I)[k]?=s[k]?
 | [],_,_,_=>rfl
 | i::r,s,k,h=>by
  have:=BB r (s.set i true) k (λh'=>h (Qq8 _ h'));grind [th]
theorem Gb (l:pz Nd):∀(t:Tr)(f:Nat)(n:Int)(s:RS)(I:pz Nat),Zx l n t I->I.Nodup->(∀k∈I,s.seen[k]?=some false)->t.dT (λx=>cW x=true)->t.size<f->ja l f n s=(t,⟨th s.seen I,s.pg+t.size,s.bad⟩)
 | .leaf i,f,n,s,I,⟨h1,h2⟩,_,_,_,hf=>by
  subst h2;obtain ⟨f,rfl⟩:∃g,f=g+1:=⟨f-1,by simp [Tr.size] at hf;omega⟩
  cases i with
  | true=>simp only at h1;subst h1;simp [ja,th,Tr.size]
  | false=>
   subst h1;simp [ja,th,Tr.size]
 | .node ln a b,f,n,s,I,⟨k,x,A,B,h1,h2,h3,h4,h5,h6⟩,hnd,hun,hok,hf=>by
  subst h1 h3 h6;obtain ⟨f,rfl⟩:∃g,f=g+1:=⟨f-1,by simp [Tr.size] at hf;omega⟩;rw [List.nodup_cons,List.nodup_append] at hnd;obtain ⟨r,u,v,d⟩:=hnd;have m:=hun k (by simp);simp only [Tr.size] at hf
  have w:=Gb l a f x.left ⟨s.seen.set k true,s.pg+1,s.bad⟩ A h4 u (λj c=>by
   have:k≠j:=λe=>r (by rw [e];simp [c]);rw [Qm8 this];exact hun j (by simp [c])) hok.2.1 (by omega)
  have y:=Gb l b f x.right ⟨th (s.seen.set k true) A,s.pg+1+a.size,s.bad⟩ B h5 v (λj c=>by
   have:k≠j:=λe=>r (by rw [e];simp [c]);rw [BB A _ j (λh=>d j h j c rfl),Qm8 this];exact hun j (by simp [c])) hok.2.2 (by omega)
  have o:¬((k:Int)=-2):=by omega
  have p:¬((k:Int)=-1):=by omega
  have q:¬((k:Int)<0):=by omega
  have z:ja l (f+1) (k:Int) s=(.node x.ln (ja l f x.left ⟨s.seen.set k true,s.pg+1,s.bad⟩).1 (ja l f x.right (ja l f x.left ⟨s.seen.set k true,s.pg+1,s.bad⟩).2).1,(ja l f x.right (ja l f x.left ⟨s.seen.set k true,s.pg+1,s.bad⟩).2).2):=by
   rw [ja];rw [if_neg o,if_neg p,if_neg q];simp only [Qq0,h2,m,hok.1,if_true]
  grind [th,Tr.size]
def Bf (l:List Nd)(root:Int):Option Tr:=
 if 65536<l.length then none else
 let r:=ja l (l.length+1) root ⟨List.replicate l.length false,0,false⟩
 if r.2.bad=true\/r.2.pg≠l.length then none else some r.1
theorem UH {l:pz Nd}{n:Int}{t:Tr}{I:pz Nat}(h:Zx l n t I)(hn:I.Nodup)(hI:∀k∈I,k<l.length)(hs:t.size=l.length)(hok:t.dT λx=>cW x=true)(hl:l.length<=65536):Bf l n=some t:=by unfold Bf;rw [if_neg (by omega)];rw [Gb l t (l.length+1) n _ I h hn (λk a=>by simp [hI k a]) hok (by omega)];simp [hs]
theorem RV {t:Tr}(hok:t.dT λx=>cW x=true)(hl:t.size<=65536:=by omega):Bf (wr 0 t) (rt 0 t)=some t:=by have h:=Lc t (wr 0 t) [] [] 0 (by simp) rfl;grind [UH,jj]
theorem RU {l:pz Nd}{n:Int}{t:Tr}(h:Bf l n=some t):t.size<=65536:=by unfold Bf at h;split at h;{cases h};{dsimp only at h;split at h;{cases h};{rename_i a b;cases h;have:=Bo l (l.length+1) n ⟨List.replicate l.length false,0,false⟩;grind}}
theorem zM (a:Addr)(i j:Nat):(a.add i).add j=a.add (i+j):=by grind [Addr.add]
theorem yk {b:Nat}{xs:pz un}{ty:TypeId}{m:Nat×Nat}(h:V.bg b (.cells xs.toArray ty m))(i:Nat)(hv:xs[i]?=some v):∃a,ae (some ⟨b,0,none⟩) i=some a/\V.at a v:=
 ⟨⟨b,i,none⟩,by simp [ae,add_zero'],dH h hv⟩
theorem II {c:Int}:De (decide (a<0)) (ah a.natAbs) (decide (b<0)) (ah b.natAbs) (decide (c<0)) (ah c.natAbs)=cW (a,b,c):=by have d:∀z:Int,oV (decide (z<0)) (ah z.natAbs)=true:=by{intro z;unfold oV;grind [af,bR.1]};have f:fD (fD (a:Rat) (b:Rat)) (c:Rat)=((cg a b c:Nat):Int):=by{have e:∀x y:Int,fD (x:Rat) (y:Rat)=((Nat.gcd x.natAbs y.natAbs:Nat):Int):=by{intro x y;unfold fD;have g:((x:Rat)).num=x:=rfl;have h:((y:Rat)).num=y:=rfl;have i:((x:Rat)).den=1:=rfl;have j:((y:Rat)).den=1:=rfl;rw [g,h,i,j];simp only [Qk5];exact Qh0 _};rw [e,e];rfl};unfold De cW;rw [d,d,d,aJ,aJ,aJ,f];have k:∀z:Int,((z:Rat)=0)↔z=0:=λz=>by{exact Rat.intCast_eq_zero_iff};simp only [Bool.true_and,k];rw [Qk7];simp only [Qx1,Qz6,Bool.and_eq_false_iff,decide_eq_false_iff_not,decide_eq_true_eq];have l:(((cg a b c:Nat):Int):Rat)=((1:Int):Rat)↔cg a b c=1:=by{rw [Qh8];omega};grind
theorem Gx {z:Int}(h:z.natAbs<2^k)(hk:0<k:=by omega):Sz k (z:Rat):=⟨h,Qc8 (by omega)⟩
theorem Bd.ah (h:Bd x):(ah x.1.natAbs).length<=1000/\(ah x.2.1.natAbs).length<=1000/\(ah x.2.2.natAbs).length<=1000:=⟨ag h.1,ag h.2.1,ag h.2.2⟩
theorem Bd.sz (h:Bd x):Sz 1000 (x.1:Rat)/\Sz 1000 (x.2.1:Rat)/\Sz 1000 (x.2.2:Rat):=⟨Gx h.1,Gx h.2.1,Gx h.2.2⟩
theorem HC (h:RL V v x.1 x.2.1 x.2.2)(hb:Bd x) :
  aa prog 37 #[v] V λr V'=>∃w,r=dB #[w,dQ (cW x)]/\Tv w/\(cW x=true->zI V' w x.1 x.2.1 x.2.2):=by obtain ⟨p,n,s,f,g,s',q,m,e,rfl,b,c,d⟩:=h;obtain ⟨d1,d2,d3⟩:=hb.ah;obtain ⟨s1,s2,s3⟩:=hb.sz;have a:=sf (V:=V) (decide (x.1<0)) (decide (x.2.1<0)) (decide (x.2.2<0)) b c d (by omega) (by omega) (by omega) (k:=1000) (by rw [aJ];exact s1) (by rw [aJ];exact s2) (by rw [aJ];exact s3);rw [II,aJ,aJ,aJ] at a;exact a
theorem Vt (x y u w:Int):oS (x:Rat) (y:Rat) ((x:Rat)+((1:Int):Rat)*(u:Rat)) ((y:Rat)+((1:Int):Rat)*(w:Rat))=(((-w:Int):Rat),((u:Int):Rat),((w*x-u*y:Int):Rat)):=by have a:(x:Rat)+((1:Int):Rat)*(u:Rat)=((x+u:Int):Rat):=by{rw [←Qd8,←Qs1,Wy5]};have b:(y:Rat)+((1:Int):Rat)*(w:Rat)=((y+w:Int):Rat):=by{rw [←Qd8,←Qs1,Wy5]};rw [a,b];have c:-(((y+w:Int):Rat)-(y:Rat))=((-w:Int):Rat):=by{rw [←Wz8,←Qs2];congr 1;omega};have d:((x+u:Int):Rat)-(x:Rat)=((u:Int):Rat):=by{rw [←Wz8];congr 1;omega};have e:-(((-w:Int):Rat)*(x:Rat)+((u:Int):Rat)*(y:Rat))=((w*x-u*y:Int):Rat):=by{grind};have f:(((((-w:Int):Rat).den*((u:Int):Rat).den*((w*x-u*y:Int):Rat).den:Nat):Int):Rat)=1:=rfl;unfold oS;grind
def AW (a b c:Int):L3:=(a / (cg a b c:Int),b / (cg a b c:Int),c / (cg a b c:Int))
def small (z:Int)(k:Nat):Bool:=decide (z.natAbs<=k)
theorem Rl:∀i:Fin 9,∀j:Fin 9,∀k:Fin 65,(i.1=4/\j.1=4)\/(cW (AW ((i.1:Int)-4) ((j.1:Int)-4) ((k.1:Int)-32))&&small (AW ((i.1:Int)-4) ((j.1:Int)-4) ((k.1:Int)-32)).1 32&&small (AW ((i.1:Int)-4) ((j.1:Int)-4) ((k.1:Int)-32)).2.1 32&&small (AW ((i.1:Int)-4) ((j.1:Int)-4) ((k.1:Int)-32)).2.2 32)=true:=by decide +kernel
theorem Xo (k:Nat)(hk:6<=k){z:Int}(h:z.natAbs<=32):z.natAbs<2^k:=Qm0 h (Qy6 (by decide:32<2^6) (Qx5 (by decide) hk))
theorem ZK (k:Nat)(hk:6<=k)(h1:x.1.natAbs<=32)(h2:x.2.1.natAbs<=32)(h3:x.2.2.natAbs<=32):x.1.natAbs<2^k/\x.2.1.natAbs<2^k/\x.2.2.natAbs<2^k:=⟨Xo k hk h1,Xo k hk h2,Xo k hk h3⟩
theorem UA {a b c:Int}(h1:-4<=a/\a<=4)(h2:-4<=b/\b<=4)(h3:-32<=c/\c<=32)(h:¬(a=0/\b=0):=by omega):cW (AW a b c)=true/\Bd (AW a b c):=by have:=Rl ⟨(a+4).toNat,by omega⟩ ⟨(b+4).toNat,by omega⟩ ⟨(c+32).toNat,by omega⟩;dsimp only at this;rw [show (((a+4).toNat:Nat):Int)-4=a from by omega,show (((b+4).toNat:Nat):Int)-4=b from by omega,show (((c+32).toNat:Nat):Int)-32=c from by omega] at this;rcases this with h'|h';{omega};{simp only [Qx1,small,decide_eq_true_eq] at h';exact ⟨h'.1.1.1,ZK 1000 (by decide) h'.1.1.2 h'.1.2 h'.2⟩}
theorem Rv {x y:Int}(h1:-4<=x/\x<=4)(h2:-4<=y/\y<=4):-16<=x*y/\x*y<=16:=by have:(x*y).natAbs<=4*4:=by{rw [Qv3];exact Qf8 (by omega) (by omega)};omega
theorem num_mul {r:Rat}{f:Nat}(hf:f≠0)(h:r*((f:Nat):Int)=(a:Rat)):r.num*f=a*r.den:=by have b:=r.den_nz;rw [←Qs8 r,←Qh0 f,←Qh0 a,Ww3,Wy9 (by simpa using b) (by omega)] at h;simpa using h
theorem Ax {r s:Rat}{f:Nat}(hf:f≠0)(hr:r*((f:Nat):Int)=(a:Rat))(hs:s*((f:Nat):Int)=(b:Rat)):fD r s*((f:Nat):Int)=(((Nat.gcd a.natAbs b.natAbs:Nat):Int):Rat):=by have c:=num_mul hf hr;have d:=num_mul hf hs;have d1:=r.den_nz;have d2:=s.den_nz;have e:r.num.natAbs*f=a.natAbs*r.den:=by{have:=congrArg Int.natAbs c;rwa [Qv3,Qv3,Qx6,Qx6] at this};have g:s.num.natAbs*f=b.natAbs*s.den:=by{have:=congrArg Int.natAbs d;rwa [Qv3,Qv3,Qx6,Qx6] at this};have h:Nat.gcd (r.num.natAbs*s.den) (s.num.natAbs*r.den)*f=Nat.gcd a.natAbs b.natAbs*(r.den*s.den):=by{rw [←Nat.gcd_mul_right,←Nat.gcd_mul_right];congr 1;{rw [Nat.mul_right_comm,e,Qn0]};{rw [Nat.mul_right_comm,g,Qn0,Qv5 s.den]}};unfold fD;rw [←Qh0 ((f:Nat):Int),Ww3,←Qh0 (((Nat.gcd a.natAbs b.natAbs:Nat):Int)),Wy9 (by simpa using Qb6 d1 d2) (by omega)];have:=congrArg (Nat.cast (R:=Int)) h;simpa using this
theorem pW (q:Rat)(m:Nat):q*(((q.den*m:Nat):Int):Rat)=((q.num*m:Int):Rat):=by have e:q*(((q.den:Nat):Int):Rat)=((q.num:Int):Rat):=by{have h:=q.den_nz;have a:mkRat q.num q.den*mkRat ((q.den:Nat):Int) 1=mkRat q.num 1:=by{grind [Rat.mkRat_mul_mkRat,Rat.mkRat_eq_iff]};grind [Rat.mkRat_self,Rat.mkRat_one]};rw [Qn1,Qd8,←Rat.mul_assoc,e,←Qd8]
theorem FU {g:Nat}(hg:g≠0)(h:(g:Int)∣a):((a / (g:Int):Int):Rat)=(a:Rat) / ((g:Int):Rat):=by obtain ⟨k,rfl⟩:=h;have b:((g:Int):Rat)≠0:=by{exact_mod_cast hg};rw [Qg5 _ (by omega),Qd8,Rat.div_def,Rat.mul_comm ((g:Int):Rat),Rat.mul_assoc,Qv8 _ b,Rat.mul_one]
def A9 (a b c:Rat):L3:=
 let f:Nat:=a.den*b.den*c.den
 AW (a*((f:Int):Rat)).num (b*((f:Int):Rat)).num (c*((f:Int):Rat)).num
theorem qQ {a b c:Rat}(h:¬(a=0/\b=0)):let g:=fD (fD a b) c
  g≠0/\a*g⁻¹=((A9 a b c).1:Rat)/\b*g⁻¹=((A9 a b c).2.1:Rat)/\c*g⁻¹=((A9 a b c).2.2:Rat):=by intro g;have m:a.den*b.den*c.den≠0:=Qb6 (Qb6 a.den_nz b.den_nz) c.den_nz;have i:a*(((a.den*b.den*c.den:Nat):Int):Rat)=((a.num*(b.den*c.den:Nat):Int):Rat):=by{rw [Qn0,pW]};have j:b*(((a.den*b.den*c.den:Nat):Int):Rat)=((b.num*(a.den*c.den:Nat):Int):Rat):=by{rw [Qv5 a.den,Qn0,pW]};have k:c*(((a.den*b.den*c.den:Nat):Int):Rat)=((c.num*(a.den*b.den:Nat):Int):Rat):=by{rw [Qv5 (a.den*b.den),pW]};have hm:A9 a b c=AW (a.num*(b.den*c.den:Nat)) (b.num*(a.den*c.den:Nat)) (c.num*(a.den*b.den:Nat)):=by{unfold A9;dsimp only;rw [i,j,k,Qd9,Qd9,Qd9]};have n:=Ax m i j;have d:=Ax m n k;rw [hm];have t:a.num*(b.den*c.den:Nat)=0↔a=0:=by{grind [Int.mul_eq_zero,Rat.num_eq_zero]};have u:b.num*(a.den*c.den:Nat)=0↔b=0:=by{grind [Int.mul_eq_zero,Rat.num_eq_zero]};generalize a.num*(b.den*c.den:Nat)=A at *;generalize b.num*(a.den*c.den:Nat)=B at *;generalize c.num*(a.den*b.den:Nat)=C at *;generalize a.den*b.den*c.den=f at *;have o:Nat.gcd (((Nat.gcd A.natAbs B.natAbs:Nat):Int)).natAbs C.natAbs=cg A B C:=by{unfold cg;rw [Qx6]};rw [o] at d;change g*((f:Int):Rat)=_ at d;have p:cg A B C≠0:=by{intro e;have:=Qr0.1 e;grind};have l:((cg A B C:Int):Rat)≠0:=by{exact_mod_cast p};have q:g≠0:=by{intro e;rw [e,Rat.zero_mul] at d;exact l d.symm};have r:((cg A B C:Nat):Int)∣A:=Qh9.1 (by rw [Qx6];exact Qs0 (Qj5 _ _) (Qj5 _ _));have s:((cg A B C:Nat):Int)∣B:=Qh9.1 (by rw [Qx6];exact Qs0 (Qj5 _ _) (Qb9 _ _));have dC:((cg A B C:Nat):Int)∣C:=Qh9.1 (by rw [Qx6];exact Qb9 _ _);have key:∀{x:Rat} {X:Int},x*((f:Int):Rat)=(X:Rat)->((cg A B C:Nat):Int)∣X->x*g⁻¹=((X / (cg A B C:Int):Int):Rat):=by{grind [FU]};exact ⟨q,key i r,key j s,key k dC⟩
theorem UF {a b c:Rat}(h:¬(a=0/\b=0)):¬((A9 a b c).1=0/\(A9 a b c).2.1=0):=by obtain ⟨i,d,e,-⟩:=qQ (c:=c) h;rintro ⟨f,g⟩;rw [f] at d;rw [g] at e;grind
theorem vM {c:Int}(h:RL V v a b c):∃(b1:md)(p1:OA)(n1 c1:Nat)(b2:md)(p2:OA)(n2 c2:Nat)(b3:md)(p3:OA)(n3 c3:Nat),v=hF #[dQ b1,qD p1 n1 c1,dQ b2,qD p2 n2 c2,dQ b3,qD p3 n3 c3]:=by obtain ⟨p,n,s,d,f,s',q,m,e,rfl,-⟩:=h;exact qxQ rfl
def Ka (V:View)(p:OA)(n:Nat):Prop:=∀i,i<n->∃(a:Addr)(x:Int),ae p (i*1)=some a/\V.at a (.int .i64 x)
theorem Ka.le {V V':ut}(h:Ka V p n)(l:V.Le V'):Ka V' p n:=λi b=>by
 have ⟨a,x,e,c⟩:=h i b;exact ⟨a,x,e,l.at c⟩
def jZ (V:View)(tb:Nat)(p:OA)(n c:Nat)(at_:Int):Prop:=V.w.heap[tb]?=some (.cells #[.slice p n c,.int .i64 at_] 77 (0,0))
theorem eV {V:ut}(k:Int)(hr:Ka V p n)(hn:n<=400)(hw:jZ V tb p n c at_)(hx:V.X tb)(h0:0<=at_)(hk:0<k)(hk2:k<=1000:=by omega) :
  aa prog 9 #[dZ (some ⟨tb,0,none⟩),qvZ .i64 k] V λr V'=>∃x at',r=qvZ .i64 x/\0<=x/\x<k/\0<=at'/\jZ V' tb p n c at':=by refine tH tb p n c at_ k V _ hw hx ⟨λg m o e=>⟨0,at_,rfl,by omega,hk,h0,e⟩,λg=>?_⟩;have g:at_<n:=by{have:=of_decide_eq_false g;omega};obtain ⟨i,rfl⟩:∃i:Nat,at_=i:=⟨at_.toNat,by omega⟩;have ⟨a,x,d,f⟩:=hr i (by omega);have h:p.isSome=true:=by{(cases p with|none=>simp [ae] at d|some a=>rfl)};have q:(x.tmod k).natAbs<k.natAbs:=by{rw [Int.natAbs_tmod];exact Qj7 _ (by omega)};have j:i64.wrap ((i:Int)+1)=((i+1:Nat):Int):=by{rw [aw (by omega)];omega};rw [Qq0,j];have l:i64.wrap (x.tmod k+k)=x.tmod k+k:=aw (by omega);refine ⟨h,⟨by omega,by omega⟩,x,⟨a,d,f⟩,by omega,λb V2 s e=>⟨x.tmod k+k,_,by rw [l],?_,?_,?_,e⟩,λb t u e=>⟨_,_,rfl,?_,?_,?_,e⟩⟩;{omega};{have:=of_decide_eq_true b;omega};{omega};{have:=of_decide_eq_false b;omega};{omega};{omega}
theorem c_P {V:ut}(hr:Ka V p n)(hn:n<=400)(hw:jZ V tb p n c at_)(hx:V.X tb)(h0:0<=at_) :
  aa prog 29 #[dZ (some ⟨tb,0,none⟩)] V λr V'=>∃(x y at':Int),RP V' r (x:Rat) (y:Rat)/\(-4<=x/\x<=4)/\(-4<=y/\y<=4)/\0<=at'/\jZ V' tb p n c at':=by refine yS tb p n c at_ V _ hw hx λk i a l m=>(eV (V:=k.ar [a]) 9 (hr.le λb o h=>i b o h) hn l ⟨by simp,m⟩ h0 (by omega)).s ?_;rintro r V2 q ⟨x,B,rfl,C,D,t1,d⟩;refine ⟨_,rfl,_,_,_,_,d,λs t u v w=>(eV (V:=s.ar [u]) 9 (hr.le λb o h=>t b o (q b o (i b o h))) hn v ⟨by simp,w⟩ t1 (by omega)).s ?_⟩;rintro r E F ⟨y,e,rfl,G,H,t2,f⟩;refine ⟨_,rfl,_,_,_,_,f,λI J=>?_⟩;rw [aw (x:=x-4) (by omega),aw (x:=y-4) (by omega)];refine (dJ (x-4) (y-4) (by omega) (by omega) (by omega)).s ?_;rintro r K L j;have g:=j;obtain ⟨M,N,O,P,Q,R,S,T,U,W,Y,Z,rfl,-⟩:=j;exact qyZ ⟨rfl,λV7 z A=>⟨x-4,y-4,e,g.le z,⟨by omega,by omega⟩,⟨by omega,by omega⟩,t2,A⟩⟩
theorem RQ.zero {V:ut}:RQ V (hF #[dQ false,qD none 0 0,qD none 0 0]) ((0:Int):Rat):=⟨none,0,0,none,0,0,rfl,RD.nil,RD.nil⟩
theorem RP.zero {V:ut}:RP V (hF #[dQ false,qD none 0 0,qD none 0 0,dQ false,qD none 0 0,qD none 0 0]) ((0:Int):Rat) ((0:Int):Rat):=
 ⟨none,0,0,none,0,0,none,0,0,none,0,0,rfl,RQ.zero,RQ.zero⟩
theorem E4 {z:Int}(h:-40<=z/\z<=40:=by omega):Sz 10 (z:Rat):=Gx (by omega)
theorem c_V {V:ut}(hr:Ka V p n)(hn:n<=400)(hw:jZ V tb p n c at_)(hx:V.X tb)(h0:0<=at_) :
  aa prog 33 #[dZ (some ⟨tb,0,none⟩)] V λr V'=>∃(x y at':Int),RP V' r (x:Rat) (y:Rat)/\(-4<=x/\x<=4)/\(-4<=y/\y<=4)/\¬(x=0/\y=0)/\0<=at'/\jZ V' tb p n c at':=by refine yT tb p n c at_ V _ hw hx λs t d u v=>(c_P (V:=s.ar [d]) (hr.le λb o h=>t b o h) hn u ⟨by simp,v⟩ h0).s ?_;rintro r V2 P ⟨x,y,k,l,e,f,t1,i⟩;have a:=l;obtain ⟨w,z,A,B,C,D,E,F,G,H,I,J,rfl,-⟩:=l;refine qyZ ⟨rfl,_,_,_,_,i,λQ m=>(nW (a.le λb o h=>m b o h) RP.zero (E4) (E4) (E4) (E4)).s ?_⟩;rintro r R K rfl;refine ⟨_,rfl,λg S T=>(dJ 1 0 (by omega) (by omega) (by omega)).s ?_,λg U L M=>⟨x,y,k,a.le λb o h=>L b o (K b o (m b o h)),e,f,?_,t1,M⟩⟩;{rintro r W Y q;have j:=q;obtain ⟨w,z,A,B,C,D,E,F,G,H,I,J,rfl,-⟩:=q;exact qyZ ⟨rfl,λZ N O=>⟨1,0,k,j.le N,⟨by omega,by omega⟩,⟨by omega,by omega⟩,by omega,t1,O⟩⟩};{rintro ⟨rfl,rfl⟩;simp at g}
theorem c_L {V:ut}(hr:Ka V p n)(hn:n<=400)(hw:jZ V tb p n c at_)(hx:V.X tb)(h0:0<=at_) :
  aa prog 7 #[dZ (some ⟨tb,0,none⟩)] V λr V'=>∃(x:L3)(at':Int),RL V' r x.1 x.2.1 x.2.2/\cW x=true/\Bd x/\0<=at'/\jZ V' tb p n c at':=by refine yR tb p n c at_ V _ hw hx λW H f Y Z=>(c_P (V:=W.ar [f]) (hr.le λb o h=>H b o h) hn Y ⟨by simp,Z⟩ h0).s ?_;rintro r V2 l2 ⟨x,y,Ho,I,g,i,t1,j⟩;have d:=I;obtain ⟨p1,J,c1,p2,K,c2,p3,L,c3,p4,n4,c4,rfl,-⟩:=I;refine qyZ ⟨rfl,_,_,_,_,j,λV3 M=>(dV 1 (by omega)).s ?_⟩;rintro r V4 N O;have q:=O;obtain ⟨p5,n5,c5,p6,n6,c6,rfl⟩:=O.shape;refine qyW ⟨rfl,λV5 s ZL e5 h5=>(c_V (V:=V5.ar [ZL]) (hr.le λb o h=>s b o (N b o (M b o (l2 b o (H b o h))))) hn e5 ⟨by simp,h5⟩ t1).s ?_⟩;rintro r V6 P ⟨u,w,t,Q,v,e,a0,t2,z⟩;have A:=Q;obtain ⟨q1,m1,d1,q2,m2,d2,q3,m3,d3,q4,m4,d4,rfl,-⟩:=Q;refine qyZ ⟨rfl,_,_,_,_,z,λB C=>?_⟩;have R:V2.Le B:=λb o h=>C b o (P b o (s b o (N b o (M b o h))));have Zl:V4.Le B:=λb o h=>C b o (P b o (s b o h));have D:V6.Le B:=λb o h=>C b o h;refine (fL (d.le R) (q.le Zl) (A.le D) (k:=10) (m:=10) (E4) (E4) (E4) (E4) (E4)).s ?_;rintro r V8 l8 S;have E:=S;obtain ⟨s1,i1,j1,s2,i2,j2,s3,i3,j3,s4,i4,j4,rfl,-⟩:=S;have f1:(x:Rat)+((1:Int):Rat)*(u:Rat)=((x+u:Int):Rat):=by{rw [←Qd8,←Qs1,Wy5]};have f2:(y:Rat)+((1:Int):Rat)*(w:Rat)=((y+w:Int):Rat):=by{rw [←Qd8,←Qs1,Wy5]};refine qyZ ⟨rfl,λV9 T=>(jM (d.le (R.m (l8.m T))) (E.le T) (k:=10) (E4) (E4) (by rw [f1];exact E4) (by rw [f2];exact E4) (by omega)).s ?_⟩;rintro r fy a1 ⟨-,h⟩;rw [Vt] at h;have J:((-w:Int):Rat).num=-w:=rfl;have K:((u:Int):Rat).num=u:=rfl;have L:((w*x-u*y:Int):Rat).num=w*x-u*y:=rfl;dsimp only at h;rw [J,K,L] at h;obtain ⟨l,rfl,U⟩:=h (by omega);have m1:=Rv e g;have m2:=Rv v i;have ⟨k1,k2⟩:=UA (a:=-w) (b:=u) (c:=w*x-u*y) (by omega) (by omega) (by omega);have F:=U;obtain ⟨b1,u1,v1,w1,b2,u2,v2,w2,b3,u3,v3,w3,rfl⟩:=(vM U);exact ⟨_,_,_,_,_,_,_,_,_,_,_,_,_,rfl,λfC bo G=>⟨AW (-w) u (w*x-u*y),t,F.le bo,k1,k2,t2,G⟩⟩
theorem Fw {l p:un}{l_0 l_1 l_2:Int}{kf kg:Rat}(hl:RL V l l_0 l_1 l_2)(hp:RP V p kf kg)(s0:Sz k ((l_0:Int):Rat))(s1:Sz k ((l_1:Int):Rat))(s2:Sz k ((l_2:Int):Rat))(s3:Sz k kf)(s4:Sz k kg)(hk:16*k+16<274877906944) :
  aa prog 106 #[l,p] V λr V'=>r=qvZ .i64 ((l_0:Rat)*kf+(l_1:Rat)*kg+(l_2:Rat)).num.sign:=by have a:=hl;have b:=hp;obtain ⟨d,e,f,g,h,i,j,m,n,rfl,-,-,-⟩:=hl;obtain ⟨o,q,s,t,u,v,w,x,y,z,A,B,rfl,-,-⟩:=hp;refine DH V _ λE c=>(jt (a.le c) (b.le c) s0 s1 s2 s3 s4).s ?_;rintro r V2 F ⟨G,H,I,J,K,L,rfl,C,M⟩;refine qyW ⟨rfl,λN D=>(qH _ (C.le D)).s ?_⟩;rintro r O P rfl;exact ⟨_,rfl,λQ R=>rfl⟩
theorem ik {l:un}{a b c:Int}(hl:RL V l a b c):aa prog 10 #[l] V λr V'=>RL V' r (-a) (-b) (-c):=by obtain ⟨k,m,n,o,p,q,s,t,u,rfl,v,w,x⟩:=hl;refine GZ V _ λB d=>(jD a (v.le d)).s ?_;rintro r V2 h ⟨C,D,E,rfl,y⟩;refine qvJ ⟨rfl,λF e=>(jD b (w.le (d.m (h.m e)))).s ?_⟩;rintro r G i ⟨H,I,J,rfl,z⟩;refine qvJ ⟨rfl,λK f=>(jD c (x.le (d.m (h.m (e.m (i.m f)))))).s ?_⟩;rintro r L j ⟨M,N,O,rfl,A⟩;exact qvJ ⟨rfl,λP g=>⟨_,_,_,_,_,_,_,_,_,rfl,y.le (e.m (i.m (f.m (j.m g)))),z.le (f.m (j.m g)),A.le g⟩⟩
end Go.Proofs.Tryz
namespace Go.Eng
open Go.Big
open Go.Value renaming agg→hF,pointer→dZ,int→qvZ
def RR.zero (V:ut):RR V (hF #[qvZ .i64 0,qvZ .i64 0,dZ none]) 0:=.inl ⟨rfl,by unfold Wd;decide⟩
end Go.Eng
namespace Go.Proofs.Tryz
open Go.Eng Go.Big
open Go.Value renaming slice→qD,agg→hF,bool→dQ,tuple→dB,int→qvZ
structure Sp where
 lo:Rat
 hi:Rat
 a:Bool
 b:Bool
def Sp.can (s:Sp):Prop:=(s.a=true->s.lo=0)/\(s.b=true->s.hi=0)
def Sp.sz (k:Nat)(s:Sp):Prop:=Sz k s.lo/\Sz k s.hi
def Sp.zero:Sp:=⟨0,0,false,false⟩
variable{v:Value}{l:L3}{V:View}
def kH (k:Nat)(l:L3):Prop:=Sz k (l.1:Rat)/\Sz k (l.2.1:Rat)/\Sz k (l.2.2:Rat)
def eM (V:View)(v:Value)(s:Sp):Prop:=∃(x1 x2:Int)(p:OA)(y1 y2:Int)(q:OA),v=.agg #[.int .i64 x1,.int .i64 x2,.pointer p,.int .i64 y1,.int .i64 y2,.pointer q,.bool s.a,.bool s.b] /\
 RR V (.agg #[.int .i64 x1,.int .i64 x2,.pointer p]) s.lo/\RR V (.agg #[.int .i64 y1,.int .i64 y2,.pointer q]) s.hi
theorem eM.le {V V':ut}{s:Sp}(h:eM V v s)(l:V.Le V'):eM V' v s:=by obtain ⟨a,b,p,c,d,q,e,f,g⟩:=h;exact ⟨a,b,p,c,d,q,e,f.le l,g.le l⟩
def qE (V:View)(v:Value)(l:L3):Prop:=zI V v (l.1:Rat) (l.2.1:Rat) (l.2.2:Rat)
theorem qE.le {V V':ut}(h:qE V v l)(e:V.Le V'):qE V' v l:=zI.le h e
def G8 (V:View)(v:Value)(l:L3)(s:Sp):Prop:=∃(x1 x2:Int)(p:OA)(y1 y2:Int)(q:OA)(z1 z2:Int)(r:OA)(u1 u2:Int)(t:OA)(w1 w2:Int)(o:OA),
 v=.agg #[.int .i64 x1,.int .i64 x2,.pointer p,.int .i64 y1,.int .i64 y2,.pointer q,.int .i64 z1,.int .i64 z2,.pointer r,.int .i64 u1,.int .i64 u2,.pointer t,.int .i64 w1,.int .i64 w2,.pointer o,.bool s.a,.bool s.b] /\
 qE V (.agg #[.int .i64 x1,.int .i64 x2,.pointer p,.int .i64 y1,.int .i64 y2,.pointer q,.int .i64 z1,.int .i64 z2,.pointer r]) l /\
 eM V (.agg #[.int .i64 u1,.int .i64 u2,.pointer t,.int .i64 w1,.int .i64 w2,.pointer o,.bool s.a,.bool s.b]) s
theorem G8.le {V V':ut}{s:Sp}(h:G8 V v l s)(e:V.Le V'):G8 V' v l s:=by obtain ⟨a,b,p,c,d,q,f,g,r,i,j,t,k,m,o,rfl,n,u⟩:=h;exact ⟨a,b,p,c,d,q,f,g,r,i,j,t,k,m,o,rfl,n.le e,u.le e⟩
def Pw (V:View)(v:Value)(b:Bool)(xs ys:List Nat):Prop:=∃p n c p' n' c',v=.agg #[.bool b,.slice p n c,.slice p' n' c']/\RD V p n c xs/\RD V p' n' c' ys
theorem Pw.le {V V':ut}{b:md}{xs ys:pz Nat}(h:Pw V v b xs ys)(l:V.Le V'):Pw V' v b xs ys:=by obtain ⟨p,n,c,a,d,f,e,g,i⟩:=h;exact ⟨p,n,c,a,d,f,e,g.le l,i.le l⟩
theorem Pw.nil:Pw V (hF #[dQ false,qD none 0 0,qD none 0 0]) false [] []:=qyQ ⟨rfl,RD.nil,RD.nil⟩
def RE (V:View)(v:Value)(q:Rat)(no:Bool):Prop:=(no=true->Pw V v false [] [])/\(no=false->RA V v q)
theorem RE.le {V V':ut}{q:Rat}{no:md}(h:RE V v q no)(l:V.Le V'):RE V' v q no:=⟨λe=>(h.1 e).le l,λe=>(h.2 e).le l⟩
def xU (V:View)(v:Value)(s:Sp):Prop:=∃b p n c p' n' c' d q m e q' m' e',v=.agg #[.bool b,.slice p n c,.slice p' n' c',.bool d,.slice q m e,.slice q' m' e',.bool s.a,.bool s.b] /\
 RE V (.agg #[.bool b,.slice p n c,.slice p' n' c']) s.lo s.a/\RE V (.agg #[.bool d,.slice q m e,.slice q' m' e']) s.hi s.b
theorem xU.le {V V':ut}{s:Sp}(h:xU V v s)(l:V.Le V'):xU V' v s:=by obtain ⟨b,p,n,c,g,i,j,d,q,m,e,k,o,r,rfl,a,f⟩:=h;exact qyZ ⟨rfl,a.le l,f.le l⟩
def Xc (V:View)(v:Value)(l:L3)(s:Sp):Prop:=∃b1 p1 n1 c1 b2 p2 n2 c2 b3 p3 n3 c3 b p n c p' n' c' d q m e q' m' e',
 v=.agg #[.bool b1,.slice p1 n1 c1,.bool b2,.slice p2 n2 c2,.bool b3,.slice p3 n3 c3,.bool b,.slice p n c,.slice p' n' c',.bool d,.slice q m e,.slice q' m' e',.bool s.a,.bool s.b] /\
 RL V (.agg #[.bool b1,.slice p1 n1 c1,.bool b2,.slice p2 n2 c2,.bool b3,.slice p3 n3 c3]) l.1 l.2.1 l.2.2/\xU V (.agg #[.bool b,.slice p n c,.slice p' n' c',.bool d,.slice q m e,.slice q' m' e',.bool s.a,.bool s.b]) s
theorem Xc.le {V V':ut}{s:Sp}(h:Xc V v l s)(e:V.Le V'):Xc V' v l s:=by obtain ⟨i,j,k,o,r,t,u,w,x,y,z,A,b,p,n,c,B,C,D,d,q,m,f,E,F,G,rfl,a,g⟩:=h;exact ⟨_,_,_,_,_,_,_,_,_,_,_,_,_,_,_,_,_,_,_,_,_,_,_,_,_,_,rfl,a.le e,g.le e⟩
def mO (V:View)(v:Value)(s:Sp):Prop:=∃b p n c p' n' c' d q m e q' m' e',v=.agg #[.bool b,.slice p n c,.slice p' n' c',.bool d,.slice q m e,.slice q' m' e',.bool s.a,.bool s.b] /\
 RQ V (.agg #[.bool b,.slice p n c,.slice p' n' c']) s.lo/\RQ V (.agg #[.bool d,.slice q m e,.slice q' m' e']) s.hi
theorem mO.le {V V':ut}{s:Sp}(h:mO V v s)(l:V.Le V'):mO V' v s:=by obtain ⟨b,p,n,c,g,i,j,d,q,m,e,k,o,r,rfl,a,f⟩:=h;exact qyZ ⟨rfl,a.le l,f.le l⟩
def RF (V:View)(v:Value)(l:L3)(s:Sp):Prop:=∃b1 p1 n1 c1 b2 p2 n2 c2 b3 p3 n3 c3 b p n c p' n' c' d q m e q' m' e',
 v=.agg #[.bool b1,.slice p1 n1 c1,.bool b2,.slice p2 n2 c2,.bool b3,.slice p3 n3 c3,.bool b,.slice p n c,.slice p' n' c',.bool d,.slice q m e,.slice q' m' e',.bool s.a,.bool s.b] /\
 RL V (.agg #[.bool b1,.slice p1 n1 c1,.bool b2,.slice p2 n2 c2,.bool b3,.slice p3 n3 c3]) l.1 l.2.1 l.2.2/\mO V (.agg #[.bool b,.slice p n c,.slice p' n' c',.bool d,.slice q m e,.slice q' m' e',.bool s.a,.bool s.b]) s
theorem RF.le {V V':ut}{s:Sp}(h:RF V v l s)(e:V.Le V'):RF V' v l s:=by obtain ⟨i,j,k,o,r,t,u,w,x,y,z,A,b,p,n,c,B,C,D,d,q,m,f,E,F,G,rfl,a,g⟩:=h;exact ⟨_,_,_,_,_,_,_,_,_,_,_,_,_,_,_,_,_,_,_,_,_,_,_,_,_,_,rfl,a.le e,g.le e⟩
theorem Bw {a b c:Int}(h:RL V v a b c):∃b1 p1 n1 c1 b2 p2 n2 c2 b3 p3 n3 c3,v=hF #[dQ b1,qD p1 n1 c1,dQ b2,qD p2 n2 c2,dQ b3,qD p3 n3 c3]:=by obtain ⟨_,_,_,_,_,_,_,_,_,e,-⟩:=h;exact qxQ e
theorem lG {x y:Rat}(h:RP V v x y):∃b1 p1 n1 c1 p2 n2 c2 b3 p3 n3 c3 p4 n4 c4,v=hF #[dQ b1,qD p1 n1 c1,qD p2 n2 c2,dQ b3,qD p3 n3 c3,qD p4 n4 c4]:=by obtain ⟨_,_,_,_,_,_,_,_,_,_,_,_,e,-⟩:=h;exact qyZ e
def aq (l:L3)(x y:Rat):Rat:=(l.1:Rat)*x+(l.2.1:Rat)*y+(l.2.2:Rat)
def gU (l:L3):Rat:=(l.1:Rat)*(l.1:Rat)+(l.2.1:Rat)*(l.2.1:Rat)
def iw (l:L3)(x y:Rat):Rat:=((l.2.1:Rat)*x-(l.1:Rat)*y)*(gU l)⁻¹
def cz (l:L3)(t:Rat):Rat:=(l.2.1:Rat)*t-(l.1:Rat)*(l.2.2:Rat)*(gU l)⁻¹
def cD (l:L3)(t:Rat):Rat:=-((l.1:Rat)*t)-(l.2.1:Rat)*(l.2.2:Rat)*(gU l)⁻¹
def revL (l:L3):L3:=(-l.1,-l.2.1,-l.2.2)
def Sp.emp (s:Sp):Bool:=!s.a&&!s.b&&decide (dK s.lo s.hi≥0)
variable{L l:L3}{a b c px py q qx qy x:Rat}{k:Nat}{V:View}{v:Value}
def Nz (l:L3):Prop:=¬(l.1=0/\l.2.1=0)
theorem sq_nonneg (x:Int):0<=x*x:=by rw [←Int.natAbs_mul_self];exact Int.natCast_nonneg _
theorem RJ (l:L3):gU l=((l.1*l.1+l.2.1*l.2.1:Int):Rat):=by unfold gU;simp
theorem Nz.norm (h:Nz l):gU l≠0:=by rw [RJ];have d:=sq_nonneg l.1;have f:=sq_nonneg l.2.1;have a:l.1*l.1+l.2.1*l.2.1≠0:=by{intro e;have b:l.1*l.1=0:=by{omega};have c:l.2.1*l.2.1=0:=by{omega};exact h ⟨(Ww4.1 b).elim id id,(Ww4.1 c).elim id id⟩};exact_mod_cast a
theorem IH (h:q≠0):q.num≠0:=λe=>h (Qv0.1 e)
theorem Ng {y:Rat}(sl:kH k L)(s1:Sz k x)(s2:Sz k y):Sz (8*k+7) (iw L x y):=by have e:iw L x y=((((L.2.1:Rat))*x+(-(L.1:Rat))*y)*(((L.2.1:Rat))*((L.2.1:Rat))+(-(L.1:Rat))*(-(L.1:Rat)))⁻¹):=by{unfold iw gU;grind};rw [e];exact w_ sl.1 sl.2.1 sl.2.2 s1 s2
theorem Gv (sl:kH k L)(s1:Sz k x):Sz (20*k+19) (cz L x):=by have a:cz L x=((L.1:Rat)*((-(L.2.2:Rat))*((L.1:Rat)*(L.1:Rat)+(L.2.1:Rat)*(L.2.1:Rat))⁻¹))+((L.2.1:Rat)*x):=by{unfold cz gU;grind};rw [a];exact DX sl.1 sl.2.1 sl.2.2 s1
theorem Gw (sl:kH k L)(s1:Sz k x):Sz (20*k+19) (cD L x):=by have a:cD L x=((L.2.1:Rat)*((-(L.2.2:Rat))*((L.1:Rat)*(L.1:Rat)+(L.2.1:Rat)*(L.2.1:Rat))⁻¹))+((-(L.1:Rat))*x):=by{unfold cD gU;grind};rw [a];exact DY sl.1 sl.2.1 sl.2.2 s1
theorem uW (q:Rat):q.num.sign=0↔q=0:=by rw [Qm2,Qv0]
theorem kv {l:un}{L:L3}(hl:qE V l L)(sl:kH k L)(hk:1*k+1<274877906944:=by omega) :
  aa prog 110 #[l] V λr V'=>qE V' r (revL L):=by refine (vV hl sl.1 sl.2.1 sl.2.2 hk).s ?_;rintro r V2 a g;unfold qE revL;simpa using g
theorem kH.rev (h:kH k L):kH k (revL L):=by unfold kH revL;exact ⟨h.1.neg,h.2.1.neg,h.2.2.neg⟩
theorem K_ (h:Nz L):((((((L.2.1:Int):Rat)))*((((L.2.1:Int):Rat))))+(((-(((L.1:Int):Rat))))*((-(((L.1:Int):Rat)))))).num≠0:=by grind [gU,IH,h.norm]
theorem uI {l p:un}{L:L3}{y:Rat}(hl:RL V l L.1 L.2.1 L.2.2)(hp:RP V p x y)(hz:Nz L)(sl:kH k L)(s1:Sz k x)(s2:Sz k y)(hk:8*k+7<274877906944:=by omega) :
  aa prog 100 #[l,p] V λr V'=>RQ V' r (iw L x y):=by refine (CX hl hp (K_ hz) sl.1 sl.2.1 sl.2.2 s1 s2 hk).s ?_;rintro r V2 a g;have e:iw L x y=((((x)*((((L.2.1:Int):Rat))))+((y)*((-(((L.1:Int):Rat))))))*((((((L.2.1:Int):Rat)))*((((L.2.1:Int):Rat))))+(((-(((L.1:Int):Rat))))*((-(((L.1:Int):Rat))))))⁻¹):=by{unfold iw gU;grind};rw [e];exact g
theorem YR {l t:un}{L:L3}(hl:RL V l L.1 L.2.1 L.2.2)(ht:RQ V t x)(hz:Nz L)(sl:kH k L)(s1:Sz k x)(hk:18*k+16<274877906944:=by omega) :
  aa prog 51 #[l,t] V λr V'=>RP V' r (cz L x) (cD L x):=by refine (Ks hl ht (K_ hz) sl.1 sl.2.1 sl.2.2 s1 hk).s ?_;rintro r V2 c g;have a:cz L x=(((-((((L.2.2:Int):Rat))*((((((L.2.1:Int):Rat)))*((((L.2.1:Int):Rat))))+(((-(((L.1:Int):Rat))))*((-(((L.1:Int):Rat))))))⁻¹))*(((L.1:Int):Rat)))+(x)*(((L.2.1:Int):Rat))):=by{unfold cz gU;grind};have b:cD L x=(((-((((L.2.2:Int):Rat))*((((((L.2.1:Int):Rat)))*((((L.2.1:Int):Rat))))+(((-(((L.1:Int):Rat))))*((-(((L.1:Int):Rat))))))⁻¹))*(((L.2.1:Int):Rat)))+(x)*(-(((L.1:Int):Rat)))):=by{unfold cD gU;grind};rw [a,b];exact g
theorem Bu {l p:un}{x y:Rat}(hl:RL V l L.1 L.2.1 L.2.2)(hp:RP V p x y){k:Nat}(sl:kH k L)(s1:Sz k x)(s2:Sz k y)(hk:16*k+16<274877906944:=by omega) :
  aa prog 106 #[l,p] V λr V'=>r=qvZ .i64 (aq L x y).num.sign:=Fw hl hp sl.1 sl.2.1 sl.2.2 s1 s2 hk
theorem sz_gI (sa:Sz k a)(sb:Sz k b)(sc:Sz k c):Sz (3*k+2) (fD (fD a b) c)⁻¹:=
 fw (Sz.s (lU (lU sa sb) sc))
theorem Vl {k:Nat}(sa:Sz k a)(sb:Sz k b)(sc:Sz k c)(h:¬(a=0/\b=0)):kH (4*k+3) (A9 a b c):=by obtain ⟨-,e,f,g⟩:=qQ (c:=c) h;have d:=sz_gI sa sb sc;unfold kH;rw [←e,←f,←g];exact ⟨Sz.s (Sz.mul sa d),Sz.s (Sz.mul sb d),Sz.s (Sz.mul sc d)⟩
def mH (px py qx qy:Rat):L3:=A9 (-(qy-py)) (qx-px) (-(-(qy-py)*px+(qx-px)*py))
theorem vd (h:¬(px=qx/\py=qy)):¬(-(qy-py)=0/\qx-px=0):=by rintro ⟨a,b⟩;exact h ⟨by grind,by grind⟩
theorem Vs:(px=qx/\py=qy)↔(-(qy-py)=0/\qx-px=0):=⟨λ⟨a,b⟩=>⟨by grind,by grind⟩,λ⟨a,b⟩=>⟨by grind,by grind⟩⟩
theorem Nk (h:¬(px=qx/\py=qy)):Nz (mH px py qx qy):=UF (vd h)
theorem Gz (s1:Sz k px)(s2:Sz k py)(s3:Sz k qx)(s4:Sz k qy)(h:¬(px=qx/\py=qy)):kH (40*k+40) (mH px py qx qy):=by have a:Sz (2*k+1) (-(qy-py)):=Sz.s (s4.sub s2).neg;have b:Sz (2*k+1) (qx-px):=Sz.s (s3.sub s1);have c:Sz (8*k+8) (-(-(qy-py)*px+(qx-px)*py)):=Sz.s ((a.mul s1).add (b.mul s2)).neg;have:=Vl (k:=8*k+8) (Sz.s a) (Sz.s b) c (vd h);exact ⟨Sz.s this.1,Sz.s this.2.1,Sz.s this.2.2⟩
def Lj (px py qx qy:Rat):Sp:=⟨iw (mH px py qx qy) px py,iw (mH px py qx qy) qx qy,false,false⟩
def OT (b:Bool)(xs ys:List Nat):Rat:=mkRat (bI b xs) (val ys)
def YG (b:Bool)(xs ys:List Nat):Bool:=oV b xs&&decide (ah (val ys)=ys)&&!decide (ys=[])&&decide (Nat.gcd (val xs) (val ys)=1)
def zerQ (b:Bool)(xs ys:List Nat):Bool:=!b&&decide (xs=[])&&decide (ys=[])
def endQ (b:Bool)(xs ys:List Nat)(no:Bool):Rat:=if no then 0 else OT b xs ys
def endOk (b:Bool)(xs ys:List Nat)(no:Bool):Bool:=if no then zerQ b xs ys else YG b xs ys
theorem ML:YG (decide (q.num<0)) (ah q.num.natAbs) (ah q.den)=true/\OT (decide (q.num<0)) (ah q.num.natAbs) (ah q.den)=q:=by constructor;{unfold YG;have a:oV (decide (q.num<0)) (ah q.num.natAbs)=true:=by{unfold oV;rw [af];by_cases h:q.num<0;{have:ah q.num.natAbs≠[]:=λe=>by{have:=bR.1 e;omega};simp [h,this]};{simp [h]}};have b:ah q.den≠[]:=λe=>q.den_nz (bR.1 e);rw [a,af,af];simp [b,q.reduced]};{unfold OT;rw [aJ,af,Qs8]}
theorem Ke {s:Sp}(h:eM V v s)(hs:s.sz k)(hk:2*k<1099511627776) :
  aa prog 169 #[v] V λr V'=>r=dQ s.emp:=by obtain ⟨f,g,p,i,j,q,rfl,l,m⟩:=h;refine yB V _ ⟨λc=>⟨λd n e=>(lY (l.le e) (m.le e) hs.1 hs.2).s ?_,λd o t=>?_⟩,λc u w=>?_⟩;{rintro r V2 x rfl;exact ⟨_,rfl,λy z=>by rw [Qz6] at c d;simp [Sp.emp,c,d]⟩};{rw [Qv1] at d;simp [Sp.emp,d]};{rw [Qv1] at c;simp [Sp.emp,c]}
def FOk (l:L3)(s:Sp):Prop:=cW l=true/\s.can/\s.emp=false
theorem RE.raw {no:md}(h:RE V v q no)(hc:no=true->q=0):∃b xs ys,Pw V v b xs ys/\endOk b xs ys no=true/\endQ b xs ys no=q/\(∀k,Sz k q->xs.length<=k/\ys.length<=k):=by (cases no with|true=>{exact ⟨false,[],[],h.1 rfl,rfl,by rw [hc rfl];rfl,λk _=>⟨Qq4 _,Qq4 _⟩⟩}|false=>{obtain ⟨p,n,c,f,g,i,rfl,d,e⟩:=h.2 rfl;exact ⟨_,_,_,(qyQ ⟨rfl,d,e⟩),ML.1,ML.2,λk a=>⟨ag a.1,ag a.2⟩⟩})
theorem Ht {s:Sp}(h:eM V v s)(hs:s.sz k)(hk:k<=1099511627776):aa prog 93 #[v] V λr V'=>xU V' r s:=by obtain ⟨w,y,p,z,A,q,rfl,B,l⟩:=h;have t:∀{V:ut} {v:un} {x:Rat} {no:md},RA V v x->(!no)=true->RE V v x no:=λh e=>by{rw [Qz6] at e;subst e;exact ⟨(λh=>nomatch h),λ_=>h⟩};have f:∀{V:ut} {x:Rat} {no:md},(!no)=false->RE V (hF #[dQ false,qD none 0 0,qD none 0 0]) x no:=λe=>by{rw [Qv1] at e;subst e;exact ⟨λ_=>Pw.nil,(λh=>nomatch h)⟩};refine Ds V _ ⟨λg I m=>(Fm (B.le m) hs.1 hk).s ?_,λg=>⟨λc J C=>(Fm (l.le C) hs.2 hk).s ?_,λc K D=>?_⟩⟩;{rintro r V2 E n;have i:=n;obtain ⟨_,_,_,_,_,_,_,rfl⟩:=n.shape;refine qyW ⟨rfl,λc L o=>(Fm (l.le (m.m (E.m o))) hs.2 hk).s ?_,λc M F=>?_⟩;{rintro r N G j;have d:=j;obtain ⟨_,_,_,_,_,_,_,rfl⟩:=j.shape;exact qyW ⟨rfl,λO u=>⟨_,_,_,_,_,_,_,_,_,_,_,_,_,_,rfl,t (i.le (o.m (G.m u))) g,t (d.le u) c⟩⟩};{exact qyZ ⟨rfl,t (i.le F) g,f c⟩}};{rintro r P Q j;have d:=j;obtain ⟨_,_,_,_,_,_,_,rfl⟩:=j.shape;exact qyW ⟨rfl,λR H=>⟨_,_,_,_,_,_,_,_,_,_,_,_,_,_,rfl,f g,t (d.le H) c⟩⟩};{exact qyZ ⟨rfl,f g,f c⟩}
theorem qE.api {r:un}(h:RL V r ((l.1:Rat)).num ((l.2.1:Rat)).num ((l.2.2:Rat)).num):RL V r l.1 l.2.1 l.2.2:=by simpa [Qd9] using h
theorem PX {s:Sp}(h:G8 V v l s)(sl:kH k l)(hs:s.sz k)(hk:k<=1099511627776):aa prog 62 #[v] V λr V'=>Xc V' r l s:=by obtain ⟨u,w,p,x,y,q,z,A,r,B,C,t,D,E,o,rfl,i,j⟩:=h;refine Dr V _ λF c=>(NL (i.le c) sl.1 sl.2.1 sl.2.2 hk).s ?_;rintro r V2 m d;have a:=qE.api d;obtain ⟨_,_,_,_,_,_,_,_,_,_,_,_,rfl⟩:=Bw d;refine qxQ ⟨rfl,λG e=>(Ht (j.le (c.m (m.m e))) hs hk).s ?_⟩;rintro r H n f;have b:=f;obtain ⟨_,_,_,_,_,_,_,_,_,_,_,_,_,_,rfl,-,-⟩:=f;exact ⟨_,_,_,_,_,_,_,_,_,_,_,_,_,_,_,_,rfl,λI g=>⟨_,_,_,_,_,_,_,_,_,_,_,_,_,_,_,_,_,_,_,_,_,_,_,_,_,_,rfl,a.le (e.m (n.m g)),b.le g⟩⟩
theorem lA (h:cW l=true):Nz l:=by unfold cW at h;intro e;simp [e.1,e.2] at h
theorem RX {a b c:Int}(h:¬(a=0/\b=0)):cW (AW a b c)=true:=by have p:0<cg a b c:=by{apply Nat.pos_of_ne_zero;intro e;have d:=Qr0.1 e;have j:=Qr0.1 d.1;exact h ⟨by omega,by omega⟩};have f:cg a b c∣a.natAbs:=Qs0 (Qj5 _ _) (Qj5 _ _);have g:cg a b c∣b.natAbs:=Qs0 (Qj5 _ _) (Qb9 _ _);have l:cg a b c∣c.natAbs:=Qb9 _ _;have m:∀{x:Int},cg a b c∣x.natAbs->((cg a b c:Nat):Int)∣x:=λh=>Qh9.1 (by rw [Qx6];exact h);have i:∀{x:Int},cg a b c∣x.natAbs->(x / (cg a b c:Int)).natAbs=x.natAbs / cg a b c:=λh=>by{rw [Qs4 (m h),Qx6]};have nz:∀{x:Int},cg a b c∣x.natAbs->x / (cg a b c:Int)=0->x=0:=λq e=>by{have ⟨k,o⟩:=m q;rw [o,Qg5 _ (by omega)] at e;rw [o,e,Int.mul_zero]};have e:cg (a / (cg a b c:Int)) (b / (cg a b c:Int)) (c / (cg a b c:Int))=1:=by{show Nat.gcd (Nat.gcd (a / (cg a b c:Int)).natAbs (b / (cg a b c:Int)).natAbs) (c / (cg a b c:Int)).natAbs=1;rw [i f,i g,i l,Nat.gcd_div f g,Nat.gcd_div (show cg a b c∣Nat.gcd a.natAbs b.natAbs from Qj5 _ _) l];exact Nat.div_self p};have n:¬(a / (cg a b c:Int)=0/\b / (cg a b c:Int)=0):=λ⟨d,j⟩=>h ⟨nz f d,nz g j⟩;show (decide (¬(a / (cg a b c:Int)=0/\b / (cg a b c:Int)=0))&&decide (cg (a / (cg a b c:Int)) (b / (cg a b c:Int)) (c / (cg a b c:Int))=1))=true;rw [decide_eq_true n,decide_eq_true e];rfl
theorem RY (h:¬(a=0/\b=0)):cW (A9 a b c)=true:=by refine RX ?_;have i:a.den*b.den*c.den≠0:=Qb6 (Qb6 a.den_nz b.den_nz) c.den_nz;have d:(((a.den*b.den*c.den:Nat):Int):Rat)≠0:=by{exact_mod_cast i};rintro ⟨f,g⟩;rw [Qv0] at f g;exact h ⟨(Qg6.1 f).elim id λe=>absurd e d,(Qg6.1 g).elim id λe=>absurd e d⟩
theorem RZ (h:¬(px=qx/\py=qy)):cW (mH px py qx qy)=true:=RY (vd h)
theorem NC {x:L3}(h:RL V v x.1 x.2.1 x.2.2)(ho:cW x=true)(sl:kH k x)(hk:4*k+4<1099511627776:=by omega) :
  aa prog 37 #[v] V λr V'=>∃w,r=dB #[w,dQ true]/\qE V' w x:=by obtain ⟨p,n,s,i,j,s',q,m,e,rfl,c,d,f⟩:=h;have d1:=ag (show x.1.natAbs<2^k from sl.1.1);have d2:=ag (show x.2.1.natAbs<2^k from sl.2.1.1);have d3:=ag (show x.2.2.natAbs<2^k from sl.2.2.1);have b:=sf (V:=V) (decide (x.1<0)) (decide (x.2.1<0)) (decide (x.2.2<0)) c d f (by omega) (by omega) (by omega) (k:=k) (by rw [aJ];exact sl.1) (by rw [aJ];exact sl.2.1) (by rw [aJ];exact sl.2.2) hk;rw [II,aJ,aJ,aJ] at b;refine b.s ?_;rintro r V2 l ⟨w,rfl,-,g⟩;have a:cW (x.1,x.2.1,x.2.2)=true:=ho;exact ⟨w,by rw [a],g a⟩
def sR (x y:Rat):Rat:=if 0<dK y x then y else x
def sS (x y:Rat):Rat:=if dK y x<0 then y else x
theorem cU (x y:Rat):(x<y/\dK x y=-1)\/(x=y/\dK x y=0)\/(y<x/\dK x y=1):=by grind [FC.1,g_.1,yW.1]
theorem Sp.iG {s:Sp}:s.emp=false↔(s.a=true\/s.b=true\/s.lo<s.hi):=by unfold Sp.emp;rcases cU s.lo s.hi with ⟨h,e⟩|⟨h,e⟩|⟨h,e⟩<;>rw [e]<;>cases s.a<;>cases s.b<;>simp<;>grind
def Sp.meet (v w:Sp):Sp:=⟨if v.a then w.lo else if w.a then v.lo else sR v.lo w.lo,if v.b then w.hi else if w.b then v.hi else sS v.hi w.hi,if v.a then w.a else false,if v.b then w.b else false⟩
theorem Sp.AZ {v w:Sp}(h1:v.can)(h2:w.can):(v.meet w).can:=by unfold Sp.meet;constructor<;>dsimp only;{(cases hv:v.a with|false=>{intro h;cases h}|true=>exact λh=>h2.1 h)};{(cases hv:v.b with|false=>{intro h;cases h}|true=>exact λh=>h2.2 h)}
def Sp.gH (s:Sp):Rat:=if s.a then (if s.b then 0 else s.hi-((1:Int):Rat)) else if s.b then s.lo+((1:Int):Rat) else (s.lo+s.hi)*((2:Int):Rat)⁻¹
theorem Sp.M8 {s:Sp}(h:s.emp=false):(s.a=false->s.lo<s.gH)/\(s.b=false->s.gH<s.hi):=by rw [Sp.iG] at h;unfold Sp.gH;cases ha:s.a<;>cases hb:s.b<;>simp at h⊢<;> grind
def dotL (m l:L3):Rat:=((m.1:Rat)*(l.2.1:Rat))+((m.2.1:Rat)*(-(l.1:Rat)))
def jC (m l:L3):Rat:=aq m (cz l 0) (cD l 0)
theorem jV (m l:L3)(t:Rat):aq m (cz l t) (cD l t)=jC m l+dotL m l*t:=by unfold jC aq dotL cz cD;grind
def cutP (m l:L3):Rat:=-(jC m l*(dotL m l)⁻¹)
def bj (l:L3)(s:Sp)(m:L3):Sp:=
 if (dotL m l).num.sign==0 then s else if (dotL m l).num.sign==1 then s.meet ⟨cutP m l,0,false,true⟩ else s.meet ⟨0,cutP m l,true,false⟩
def cH (l:L3)(s:Sp)(m:L3):Bool:=
 if (dotL m l).num.sign==0 then decide ((jC m l).num.sign>0) else !(bj l s m).emp
theorem bY (q:Rat):(q=0/\q.num.sign=0)\/(0<q/\q.num.sign=1)\/(q<0/\q.num.sign=-1):=by have a:=@IF q;have b:=@IG q;have c:=@Qv0 q;rcases Qg4 q.num 0 with h|h|h<;>grind
theorem Qk {l:L3}{s:Sp}{m:L3}(he:s.emp=false)(hb:cH l s m=true):(bj l s m).emp=false:=by grind [cH,bj]
theorem Qm {l:L3}{s:Sp}{m:L3}(hc:s.can):(bj l s m).can:=by unfold bj;split;{exact hc};{split;{exact Sp.AZ hc ⟨(λh=>nomatch h),λ_=>rfl⟩};{exact Sp.AZ hc ⟨λ_=>rfl,(λh=>nomatch h)⟩}}
theorem val_rev (m:L3)(x y:Rat):aq (revL m) x y=-aq m x y:=by unfold aq revL;simp only [Qs2];grind
def crossL (l m:L3):Rat:=((l.1:Rat)*(m.2.1:Rat))-((l.2.1:Rat)*(m.1:Rat))
def Ow (l m:L3):Rat:=(((l.2.1:Rat)*(m.2.2:Rat))-((l.2.2:Rat)*(m.2.1:Rat)))*(crossL l m)⁻¹
def Ox (l m:L3):Rat:=(((l.2.2:Rat)*(m.1:Rat))-((l.1:Rat)*(m.2.2:Rat)))*(crossL l m)⁻¹
def Sp.inn (s:Sp)(t:Rat):Prop:=(s.a=true\/s.lo<t)/\(s.b=true\/t<s.hi)
def yj (ss:List Sp)(t:Rat):Prop:=∃s∈ss,s.inn t
def Sp.good (s:Sp):Prop:=s.can/\s.emp=false
def Sp.Ph (s t:Sp):Prop:=s.b=false/\t.a=false/\s.hi<t.lo
def vJ (ss:List Sp):Prop:=(∀s∈ss,s.good)/\ss.Pairwise Sp.Ph
theorem pick (E:pz Rat):∀l u:Rat,l<u->∃t,l<t/\t<u/\t∉E:=by
 induction E with
 | nil=>exact λl u h=>⟨(l+u) / 2,by grind,by grind,by simp⟩
 | cons e r ih=>grind
theorem maxL:∀l:pz Rat,l=[]\/∃m∈l,∀x∈l,x<=m:=by
 intro l
 induction l with
 | nil=>exact .inl rfl
 | cons y r ih=>
  rcases ih with rfl|⟨m,hm,h⟩
  ·exact .inr ⟨y,by simp,by intro x a;simp at a;grind⟩
  grind
theorem minL:∀l:pz Rat,l=[]\/∃m∈l,∀x∈l,m<=x:=by
 intro l
 induction l with
 | nil=>exact .inl rfl
 | cons y r ih=>
  rcases ih with rfl|⟨m,hm,h⟩
  ·exact .inr ⟨y,by simp,by intro x a;simp at a;grind⟩
  grind
theorem IW (E Ls Us:pz Rat)(h:∀l∈Ls,∀u∈Us,l<u):∃t,(∀l∈Ls,l<t)/\(∀u∈Us,t<u)/\t∉E:=by have key:∃a b:Rat,a<b/\(∀l∈Ls,l<=a)/\∀u∈Us,b<=u:=by{rcases maxL Ls with rfl|⟨m,hm,e⟩;{rcases minL Us with rfl|⟨n,f,c⟩;{exact ⟨0,1,by decide,(λ_ h=>by cases h),(λ_ h=>by cases h)⟩};{exact ⟨n-1,n,by grind,(λ_ h=>by cases h),c⟩}};{rcases minL Us with rfl|⟨n,f,c⟩;{exact ⟨m,m+1,by grind,e,(λ_ h=>by cases h)⟩};grind}};obtain ⟨a,b,d,e,c⟩:=key;have ⟨t,t1,t2,t3⟩:=pick E a b d;grind
def Sp.MG (s:Sp):List Rat:=if s.a then [] else [s.lo]
def Sp.KH (s:Sp):List Rat:=if s.b then [] else [s.hi]
variable{r:List Sp}
theorem zf {s:Sp}{t:Rat}:s.inn t↔(∀l∈s.MG,l<t)/\∀u∈s.KH,t<u:=by unfold Sp.inn Sp.MG Sp.KH;cases s.a<;>cases s.b<;>simp
theorem oq {s:Sp}{l:Rat}(h:l∈s.MG):s.a=false/\l=s.lo:=by unfold Sp.MG at h;cases ha:s.a<;>simp [ha] at h;exact ⟨rfl,h⟩
theorem qM {s:Sp}{l:Rat}(h:l∈s.KH):s.b=false/\l=s.hi:=by unfold Sp.KH at h;cases ha:s.b<;>simp [ha] at h;exact ⟨rfl,h⟩
theorem nk {s:Sp}(h:s.emp=false)(ha:s.a=false)(hb:s.b=false):s.lo<s.hi:=by grind [Sp.iG.1]
theorem MS {s:Sp}(h:s.emp=false)(E:pz Rat):∃t,s.inn t/\t∉E:=by
 have ⟨t,c,d,e⟩:=IW E s.MG s.KH (λl a u hu=>by
  obtain ⟨b,rfl⟩:=oq a;obtain ⟨hb,rfl⟩:=qM hu;exact nk h b hb)
 grind [zf.2]
theorem vJ.tail {s:Sp}(h:vJ (s::r)):vJ r:=⟨λx a=>h.1 x (by simp [a]),(Qx4.1 h.2).2⟩
theorem vJ.Ph {s:Sp}(h:vJ (s::r)){x:Sp}(hx:x∈r):s.Ph x:=(Qx4.1 h.2).1 x hx
theorem F0 {s:Sp}(h:vJ (s::r))(ha:s.a=false){t:Rat}(ht:t<=s.lo):¬yj (s::r) t:=by rintro ⟨x,b,d,e⟩;rcases Qq5.1 b with rfl|b;{grind};{have ⟨c,f,g⟩:=h.Ph b;have:=nk (h.1 s (by simp)).2 ha c;grind}
def nl:List Sp->List Rat
 | []=>[]
 | x::_=>[x.lo]
theorem MJ {s:Sp}(h:vJ (s::r))(hb:s.b=false){t:Rat}(h1:s.hi<=t)(h2:∀x∈nl r,t<=x):¬yj (s::r) t:=by rintro ⟨x,a,c,d⟩;rcases Qq5.1 a with rfl|a;{grind};{(cases r with|nil=>{cases a}|cons y r=>{exact F0 h.tail (h.Ph (by simp)).2.1 (h2 y.lo (by simp [nl])) ⟨x,a,c,d⟩})}
section
variable {s s':Sp} {r r':List Sp} {E:List Rat} (h:vJ (s :: r)) (h':vJ (s' :: r')) (e:∀t,t ∉ E->yj (s :: r) t->yj (s' :: r') t)
include h h' e
theorem un_a (ha:s.a=true):s'.a=true:=by (cases ha':s'.a with|true=>rfl|false=>{obtain ⟨t,-,c,d⟩:=IW E [] (s'.lo::s.KH) (λl b=>by cases b);have:=e t d ⟨s,by simp,.inl ha,(zf.2 ⟨(λl b=>by unfold Sp.MG at b;rw [if_pos ha] at b;cases b),λu hu=>c u (by simp [hu])⟩).2⟩;exact absurd this (F0 h' ha' (by have:=c s'.lo (by simp);grind))})
theorem WW (ha:s.a=false)(ha':s'.a=false):¬s.lo<s'.lo:=by
 intro b
 have ⟨t,f,d,g⟩:=IW E [s.lo] (s'.lo::s.KH) (λl c u hu=>by
  obtain rfl:l=s.lo:=by simpa using c
  rcases Qq5.1 hu with rfl|hu
  ·exact b
  ·obtain ⟨i,rfl⟩:=qM hu;exact nk (h.1 s (by simp)).2 ha i)
 have:=e t g ⟨s,by simp,zf.2 ⟨(λl c=>by obtain ⟨-,rfl⟩:=oq c;exact f _ (by simp)),λu hu=>d u (by simp [hu])⟩⟩;exact absurd this (F0 h' ha' (by have:=d s'.lo (by simp);grind))
theorem un_b (h0 : s.a = false → s'.a = false ∧ s.lo = s'.lo)(hb : s.b = true) : s'.b = true := by
  cases hb' : s'.b with
  | true => rfl
  | false =>
    have g : ∀ u∈nl r', s'.hi<u := λu hu => by
      cases r' with
      | nil => cases hu
      | cons y r' => obtain rfl : u = y.lo := by simpa [nl] using hu
                     exact (h'.Ph (by simp)).2.2
    obtain ⟨t, d, h, i⟩ := IW E (s'.hi::s.MG) (nl r') (λl c u hu => by
      rcases Qq5.1 c with rfl|c
      · exact g u hu
      · obtain ⟨f, rfl⟩ := oq c;have := nk (h'.1 s' (by simp)).2 (h0 f).1 hb';rw [(h0 f).2];grind)
    have := e t i ⟨s, by simp, (zf.2 ⟨(λl c => d l (by simp [c])), (λu hu => by unfold Sp.KH at hu;rw [if_pos hb] at hu;cases hu)⟩ : s.inn t)⟩;exact absurd this (MJ h' hb' (by have := d s'.hi (by simp);grind) (λx j => by have := h x j;grind))
theorem WV (h0 : s.a = false → s'.a = false ∧ s.lo = s'.lo)(hb : s.b = false)(hb' : s'.b = false) : ¬s'.hi<s.hi := by
  intro c
  have g : ∀ u∈nl r', s'.hi<u := λu hu => by
    cases r' with
    | nil => cases hu
    | cons y r' => obtain rfl : u = y.lo := by simpa [nl] using hu
                   exact (h'.Ph (by simp)).2.2
  obtain ⟨t, h, f, i⟩ := IW E [s'.hi] (s.hi::nl r') (λl j u hu => by
    obtain rfl : l = s'.hi := by simpa using j
    rcases Qq5.1 hu with rfl|hu
    · exact c
    · exact g u hu)
  have m := h s'.hi (by simp)
  have d : s.inn t := by
    refine ⟨?_, .inr (f s.hi (by simp))⟩
    cases ha : s.a with
    | true => exact .inl rfl
    | false =>
      have := nk (h'.1 s' (by simp)).2 (h0 ha).1 hb';exact .inr (by grind)
  exact absurd (e t i ⟨s, by simp, d⟩) (MJ h' hb' (by grind) (λx k => by have := f x (by simp [k]);grind))
end
theorem Sp.ext' {s t:Sp}(h1:s.a=t.a)(h2:s.b=t.b)(h3:s.lo=t.lo)(h4:s.hi=t.hi):s=t:=by cases s;cases t;simp at *;exact ⟨h3,h4,h1,h2⟩
theorem Lb {E:pz Rat}:∀{xs ys:pz Sp},vJ xs->vJ ys->(∀t,t∉E->(yj xs t↔yj ys t))->xs=ys:=by
 intro xs
 induction xs with
 | nil=>
  intro ys _ f e
  cases ys with
  | nil=>rfl
  | cons s r=>
   have ⟨t,c,i⟩:=MS (f.1 s (by simp)).2 E;obtain ⟨x,d,-⟩:=(e t i).2 ⟨s,by simp,c⟩;cases d
 | cons s r ih=>
  intro ys d f e
  cases ys with
  | nil=>
   have ⟨t,c,i⟩:=MS (d.1 s (by simp)).2 E;obtain ⟨x,d,-⟩:=(e t i).1 ⟨s,by simp,c⟩;cases d
  | cons s' r'=>
   have k:=λt j=>(e t j).1;have l:=λt j=>(e t j).2
   have beq:∀{a b:md},(a=true->b=true)->(b=true->a=true)->a=b:=λ{a b} c i=>by cases a<;>cases b<;>simp at c i ⊢
   have g:s.a=s'.a:=beq (un_a d f k) (un_a f d l)
   have y:s.a=false->s.lo=s'.lo:=λc=>by have A:=WW d f k c (g▸c);have B:=WW f d l (g▸c) c;grind
   have z:s.a=false->s'.a=false/\s.lo=s'.lo:=λh=>⟨g▸h,y h⟩;have n:s'.a=false->s.a=false/\s'.lo=s.lo:=λh=>⟨g.symm▸h,(y (g.symm▸h)).symm⟩;have u:s.b=s'.b:=beq (un_b d f k z) (un_b f d l n)
   have C:s.b=false->s.hi=s'.hi:=λc=>by have A:=WV d f k z c (u▸c);have B:=WV f d l n (u▸c) c;grind
   have gs:=(d.1 s (by simp)).1;have o:=(f.1 s' (by simp)).1
   have es:s=s':=by refine Sp.ext' g u ?_ ?_;{(cases c:s.a with|false=>exact y c|true=>{rw [gs.1 c,o.1 (g▸c)]})};{(cases c:s.b with|false=>exact C c|true=>{rw [gs.2 c,o.2 (u▸c)]})}
   subst es
   have p:∀{q:pz Sp} {t:Rat},vJ (s::q)->yj q t->¬s.inn t:=by rintro q t D ⟨x,d,c,i⟩ ⟨v,w⟩;have ⟨F,G,H⟩:=D.Ph d;grind
   rw [ih d.tail f.tail (λt j=>⟨λm=>?_,λm=>?_⟩)]
   ·have ⟨x,hm,hi⟩:=k t j (by obtain ⟨x,v,w⟩:=m;exact ⟨x,by simp [v],w⟩);rcases Qq5.1 hm with rfl|hm;{exact absurd hi (p d m)};{exact ⟨x,hm,hi⟩}
   ·have ⟨x,hm,hi⟩:=l t j (by obtain ⟨x,v,w⟩:=m;exact ⟨x,by simp [v],w⟩);rcases Qq5.1 hm with rfl|hm;{exact absurd hi (p f m)};{exact ⟨x,hm,hi⟩}
end Go.Proofs.Tryz
namespace Go.Eng
theorem zN (a:Addr)(m n:Nat):(a.add m).add n=a.add (m+n):=by grind [Addr.add]
variable {α:Type} {sz:Nat} {R:View->Value->α->Prop} {V V':View}
structure Row (sz:Nat) (R:View->Value->α->Prop) (V:View) (vs:List Value) (al:List α):Prop where
 at_:∀(i:Nat)(h:i<al.length),∃xs:List Value,xs.length=sz/\R V (.agg xs.toArray) al[i]/\∀j x,xs[j]?=some x->vs[i*sz+j]?=some x
structure bE (sz:Nat) (R:View->Value->α->Prop) (V:View) (p:OA) (n:Nat) (al:List α):Prop where
 len:n=al.length
 at_:∀(i:Nat)(h:i<al.length),∃ad,ae p (i*sz)=some ad/\∃xs:List Value,xs.length=sz/\R V (.agg xs.toArray) al[i]/\∀j x,xs[j]?=some x->V.at (ad.add j) x
theorem Row.nil {vs:pz un}:Row sz R V vs []:=⟨λi h=>absurd h (Qn2 i)⟩
theorem bE.nil {p:OA}:bE sz R V p 0 []:=⟨rfl,λi h=>absurd h (Qn2 i)⟩
theorem Row.le {vs:pz un}{al:pz α}(h:Row sz R V vs al)(m:∀v a,R V v a->R V' v a):Row sz R V' vs al:=
 ⟨λi b=>by have ⟨xs,c,d,e⟩:=h.at_ i b;exact ⟨xs,c,m _ _ d,e⟩⟩
theorem bE.le {p:OA}{n:Nat}{al:pz α}(h:bE sz R V p n al)(l:V.Le V')(m:∀v a,R V v a->R V' v a):bE sz R V' p n al:=
 ⟨h.len,λi b=>by have ⟨c,d,xs,e,f,g⟩:=h.at_ i b;exact ⟨c,d,xs,e,m _ _ f,λj x k=>l.at (g j x k)⟩⟩
theorem Row.jR {vs:pz un}{al:pz α}(h:Row sz R V vs al)(hs:0<sz):al.length*sz<=vs.length:=by by_cases a:al.length=0;{rw [a];omega};{obtain ⟨xs,d,-,b⟩:=h.at_ (al.length-1) (by omega);have c:sz-1<xs.length:=by{omega};have:=(Qw9.1 (b (sz-1) _ (Qq1 c))).1;have e:al.length*sz=(al.length-1)*sz+sz:=by{obtain ⟨m,hm⟩:∃m,al.length=m+1:=⟨al.length-1,by omega⟩;grind [Nat.succ_mul]};omega}
theorem Row.snoc {vs:pz un}{al:pz α}(h:Row sz R V vs al){xs sp:pz un}{a:α}(hx:xs.length=sz)(ha:R V (.agg xs.toArray) a)(hs:0<sz) :
  Row sz R V (vs.take (al.length*sz)++xs++sp) (al++[a]):=by have n:=h.jR hs;have o:(vs.take (al.length*sz)).length=al.length*sz:=by{rw [Qq7];omega};refine ⟨λi c=>?_⟩;rw [Qq3,Qf4] at c;by_cases e:i=al.length;{grind [Nat.add_sub_cancel_left]};{have b:i<al.length:=by{omega};have ⟨d,f,g,p⟩:=h.at_ i b;refine ⟨d,f,by rw [Qr5 b];exact g,λj x k=>?_⟩;have l:=(Qw9.1 k).1;have m:i*sz+j<al.length*sz:=by{have:(i+1)*sz<=al.length*sz:=Qw0 _ b;rw [Qg8] at this;omega};grind}
theorem bE.gF {bk:Nat}{ty:TypeId}{m:Nat×Nat}{vs:pz un}{al:pz α}(hb:V.bg bk (.cells vs.toArray ty m))(h:Row sz R V vs al):bE sz R V (some ⟨bk,0,none⟩) al.length al:=by refine ⟨rfl,λi a=>?_⟩;have ⟨xs,b,c,d⟩:=h.at_ i a;refine ⟨⟨bk,i*sz,none⟩,by simp [ae,add_zero'],xs,b,c,λj x f=>?_⟩;have e:(⟨bk,i*sz,none⟩:Addr).add j=⟨bk,i*sz+j,none⟩:=by{rw [←add_zero',zN,add_zero']};grind [dH]
theorem bE.bJ {bk c:Nat}{ty:TypeId}{m:Nat×Nat}{vs:pz un}{al:pz α}(hb:vs≠[]->V.bg bk (.cells vs.toArray ty m))(h:Row sz R V vs al)(hs:0<sz)(hc:al.length<=c:=by omega):bE sz R V (mA bk c) al.length al:=by (cases al with|nil=>exact bE.nil|cons a r=>{have b:vs≠[]:=λe=>by{have:=h.jR hs;grind [Nat.succ_mul]};have:mA bk c=some ⟨bk,0,none⟩:=by{unfold mA;rw [if_neg];rw [Qw6] at hc;omega};grind [bE.gF]})
end Go.Eng
namespace Go.Proofs.Tryz
open Go.Eng Go.Big
variable{V:View}{n:Nat}{vs:List Value}
structure GR {α:Type} (sz:Nat) (R:View->Value->α->Prop) (V:View) (n c:Nat) (vs:List Value) (l:List α):Prop where
 len:n=l.length
 le:n<=c
 cap:c*sz<=vs.length
 row:Row sz R V vs l
theorem GR.nil {α:Type}{sz:Nat}{R:ut->un->α->Prop}:GR sz R V 0 0 [] []:=⟨rfl,Qq2 _,by simp,Row.nil⟩
theorem GR.s {α:Type}{sz:Nat}{R:ut->un->α->Prop}{V':ut}{c:Nat}{l:pz α}(h:GR sz R V n c vs l)(m:∀v a,R V v a->R V' v a):GR sz R V' n c vs l:=⟨h.len,h.le,h.cap,h.row.le m⟩
theorem GR.snoc {α:Type}{sz:Nat}{R:ut->un->α->Prop}{c:Nat}{l:pz α}(h:GR sz R V n c vs l){xs:pz un}{a:α}(hx:xs.length=sz)(ha:R V (.agg xs.toArray) a)(h0:0<sz){sp:pz un}{c':Nat}(h1:n+1<=c')(h2:c'*sz<=(n+1)*sz+sp.length) :
  GR sz R V (n+1) c' (vs.take (n*sz)++xs++sp) (l++[a]):=by have b:=h.len;have d:=h.cap;have e:n*sz<=c*sz:=Qw0 _ h.le;refine ⟨by rw [Qq3,b];rfl,h1,?_,?_⟩;{have f:(vs.take (n*sz)).length=n*sz:=by{rw [Qq7];omega};grind};{grind [h.row.snoc]}
theorem row_one {α:Type}{sz:Nat}{R:ut->un->α->Prop}{xs:pz un}{a:α}(hx:xs.length=sz)(ha:R V (.agg xs.toArray) a):Row sz R V xs [a]:=by refine ⟨λi b=>?_⟩<;>grind
theorem Lg {α:Type}{sz:Nat}{R:ut->un->α->Prop}{ls:pz α}(h:Row sz R V vs ls){k:Nat}(hk:k<=ls.length){xs sp:pz un}{a:α}(hx:xs.length=sz)(ha:R V (.agg xs.toArray) a)(hs:0<sz) :
  Row sz R V (vs.take (k*sz)++(xs++(vs.take (ls.length*sz)).drop (k*sz))++sp) (ls.take k++a::ls.drop k):=by have v:=h.jR hs;have q:k*sz<=ls.length*sz:=Qw0 _ hk;have t1:(vs.take (k*sz)).length=k*sz:=by{rw [Qq7];omega};have t2:((vs.take (ls.length*sz)).drop (k*sz)).length=ls.length*sz-k*sz:=by{rw [Qb5,Qq7];omega};have g:(ls.take k).length=k:=by{rw [Qq7];omega};refine ⟨λi r=>?_⟩;rw [Qy3];by_cases s:i<k;{have c:i<ls.length:=by{omega};have ⟨l,n,o,p⟩:=h.at_ i c;have e:(ls.take k++a::ls.drop k)[i]=ls[i]:=by{rw [Qr5 (by omega),Wy0]};refine ⟨l,n,by rw [e];exact o,λj x b=>?_⟩;have d:=(Qw9.1 b).1;have f:i*sz+j<k*sz:=by{have:(i+1)*sz<=k*sz:=Qw0 _ s;rw [Qg8] at this;omega};rw [Qx0 (by omega),Qy7,if_pos f];exact p j x b};{by_cases t:i=k;{subst t;have e:(ls.take i++a::ls.drop i)[i]=a:=by{simp [g]};refine ⟨xs,hx,by rw [e];exact ha,λj x b=>?_⟩;have d:=(Qw9.1 b).1;rw [Qy8 (by omega),t1,Qn5,Qy3,Qx0 d];exact b};{have c:i-1<ls.length:=by{rw [Qq3,g,Qw6,Qb5] at r;omega};have ⟨l,n,o,p⟩:=h.at_ (i-1) c;have e:(ls.take k++a::ls.drop k)[i]=ls[i-1]:=by{rw [Wx4 (by omega)];obtain ⟨m,hm⟩:∃m,i=k+(m+1):=⟨i-k-1,by omega⟩;subst hm;simp only [g,Qn5,List.getElem_cons_succ,List.getElem_drop];congr 1};refine ⟨l,n,by rw [e];exact o,λj x b=>?_⟩;have d:=(Qw9.1 b).1;obtain ⟨m,hm⟩:∃m,i=k+1+m:=⟨i-k-1,by omega⟩;subst hm;have w:(k+1+m)*sz=k*sz+sz+m*sz:=by{rw [Qk1,Qk1,Qd1]};have u:(k+1+m-1)*sz=k*sz+m*sz:=by{rw [show k+1+m-1=k+m by omega,Qk1]};have:=p j x b;rw [u] at this;have f:k*sz+m*sz+j<ls.length*sz:=by{have:(k+m+1)*sz<=ls.length*sz:=Qw0 _ (by omega);rw [Qk1,Qk1,Qd1] at this;omega};rw [Qy8 (by omega),t1,Qy3,Qy8 (by omega),hx,Qx0 (by omega),Qn8,Qy7,if_pos (by omega)];rw [show k*sz+((k+1+m)*sz+j-k*sz-sz)=k*sz+m*sz+j by omega];exact this}}
theorem dF {α:Type}{sz:Nat}{R:ut->un->α->Prop}{p:OA}{ls:pz α}(h:bE sz R V p n ls)(hs:0<sz):∃xs:pz un,V.sl p xs/\xs.length=ls.length*sz/\Row sz R V xs ls:=by
 have step:∀k,k<=ls.length->∃xs:pz un,V.sl p xs/\xs.length=k*sz/\Row sz R V xs (ls.take k):=by
  intro k
  induction k with
  | zero=>exact λ_=>⟨[],λi v b=>by simp at b,by simp,by rw [Qd4];exact Row.nil⟩
  | succ k ih=>
   intro r;have ⟨xs,d,e,f⟩:=ih (by omega);have ⟨l,g,m,j,o,s⟩:=h.at_ k (by omega);have q:(ls.take k).length=k:=by rw [Qq7];omega
   refine ⟨xs++m,λi v b=>?_,by rw [Qq3,e,j,Qg8],?_⟩
   ·by_cases c:i<xs.length;{rw [Qx0 c] at b;exact d i v b};{rw [Qy8 (by omega)] at b;(cases p with|none=>{cases g}|some a=>{obtain rfl:=Qb8 (show some (a.add (k*sz))=some l from g);grind [zN]})}
   ·have:=f.snoc (sp:=[]) j o hs;rw [q,Qx2,Qv4 (by omega)] at this;rw [Qz0,Qq1 (by omega)];exact this
 have ⟨xs,d,e,f⟩:=step ls.length (Qq2 _);grind
theorem eF {α:Type}{sz:Nat}{R:ut->un->α->Prop}{V:ut}{vs xs sp:pz un}{ls ms:pz α}(h:Row sz R V vs ls)(h':Row sz R V xs ms)(hs:0<sz):Row sz R V (vs.take (ls.length*sz)++xs++sp) (ls++ms):=by have q:=h.jR hs;have o:=h'.jR hs;have n:(vs.take (ls.length*sz)).length=ls.length*sz:=by{rw [Qq7];omega};refine ⟨λi p=>?_⟩;by_cases c:i<ls.length;{have ⟨d,f,g,k⟩:=h.at_ i c;refine ⟨d,f,by rw [Qr5 c];exact g,λj x a=>?_⟩;have l:=(Qw9.1 a).1;have b:i*sz+j<ls.length*sz:=by{have:(i+1)*sz<=ls.length*sz:=Qw0 _ c;rw [Qg8] at this;omega};rw [Qy3,Qx0 (by omega),Qy7,if_pos b];exact k j x a};{rw [Qq3] at p;obtain ⟨m,rfl⟩:∃m,i=ls.length+m:=⟨i-ls.length,by omega⟩;have hm:m<ms.length:=by{omega};have ⟨d,f,g,k⟩:=h'.at_ m hm;refine ⟨d,f,?_,λj x a=>?_⟩;{have e:(ls++ms)[ls.length+m]=ms[m]:=by{rw [Wx4 (by omega)];simp};rw [e];exact g};{have l:=(Qw9.1 a).1;have b:m*sz+j<xs.length:=by{have:(m+1)*sz<=ms.length*sz:=Qw0 _ hm;rw [Qg8] at this;omega};rw [Qy3,Qy8 (by rw [n,Qk1];omega),n,Qk1,Qx0 (by omega)];rw [show ls.length*sz+m*sz+j-ls.length*sz=m*sz+j by omega];exact k j x a}}
theorem gg {α:Type}{sz:Nat}{R:ut->un->α->Prop}{al:pz α}(h:Row sz R V vs al)(hs:0<sz)(hc:∀xs a,R V (.agg (List.toArray xs)) a->∀v∈xs,v.oneCell'=true){m:Nat}(hm:m<al.length*sz){v:un}(hv:vs[m]?=some v):v.oneCell'=true:=by have b:m / sz<al.length:=Nat.div_lt_of_lt_mul (by rw [Qv5];exact hm);have ⟨xs,c,f,d⟩:=h.at_ (m / sz) b;have e:m%sz<xs.length:=by{rw [c];exact Qj7 _ hs};grind [Nat.mul_comm,Nat.div_add_mod,List.getElem_mem]
theorem uv {α:Type}{sz:Nat}{R:ut->un->α->Prop}{V:ut}{w1 w2:Nat}{us:pz un}{O:pz α}(hg:GR sz R V w1 w2 us O)(hs:0<sz)(one:∀xs a,R V (.agg (List.toArray xs)) a->∀v∈xs,v.oneCell'=true){bk:Nat}{ty:TypeId}{m:Nat×Nat}(hb:us≠[]->V.bg bk (.cells us.toArray ty m))
  {es:pz un}{x:α}(he:es.length=sz)(hx:R V (.agg es.toArray) x){j:Nat}(uw:j<=w1:=by omega) :
  ∃xs ys:pz un,V.sl (rP (mA bk w2) w2 j sz) xs/\xs.length=(w1-j)*sz/\(∀v∈xs,v.oneCell'=true)/\V.sl (mA bk w2) ys/\ys.length=j*sz/\((mA bk w2).isNone=true->j=0) /\
   (∀sp:pz un,aA (es.take (1*sz)++xs++sp) 0 ((1+(w1-j))*sz)=es++xs)/\(es++xs).length / sz=1+(w1-j)/\(es++xs).length=(1+(w1-j))*sz/\(∀v∈es++xs,v.oneCell'=true) /\
   ∀(sp:pz un)(c':Nat),j+(1+(w1-j))<=c'->c'*sz<=(j+(1+(w1-j)))*sz+sp.length->GR sz R V (j+(1+(w1-j))) c' (ys++(es++xs)++sp) (O.take j++x::O.drop j):=by have n:=hg.len;have s:=hg.le;have o:=hg.cap;have p:=hg.row;have B:w1*sz<=w2*sz:=Qw0 _ s;have C:j*sz<=w1*sz:=Qw0 _ uw;have D:(w1-j)*sz=w1*sz-j*sz:=Nat.sub_mul ..;have t:(1+(w1-j))*sz=sz+(w1-j)*sz:=by{rw [Qk1,Qd1]};have t1:(us.take (j*sz)).length=j*sz:=by{rw [Qq7];omega};have t2:((us.take (w1*sz)).drop (j*sz)).length=(w1-j)*sz:=by{rw [Qb5,Qq7];omega};have q:∀v∈(us.take (w1*sz)).drop (j*sz),v.oneCell'=true:=by{intro v g;have ⟨k,hm,e⟩:=Qm9.1 (Qp3 g);have d:k<w1*sz:=by{rw [Qq7] at hm;omega};have:=Qq1 hm;rw [e,Qy7,if_pos d] at this;exact gg p hs one (by rw [←n];exact d) this};have f:0<w2->us≠[]:=λhw e=>by{have:0<w2*sz:=Wy4 hw hs;rw [e] at o;simp at o;omega};have i:0<w2->mA bk w2=some ⟨bk,0,none⟩:=λhw=>by{unfold mA;rw [if_neg (by omega)]};have at_:∀k v,0<w2->us[k]?=some v->V.at ⟨bk,k,none⟩ v:=λk v hm g=>dH (hb (f hm)) g;have u:∀v∈es,v.oneCell'=true:=one _ _ hx;have b:(es++(us.take (w1*sz)).drop (j*sz)).length=(1+(w1-j))*sz:=by{rw [Qq3,t2,he,t]};refine ⟨(us.take (w1*sz)).drop (j*sz),us.take (j*sz),?_,t2,q,?_,t1,?_,λsp=>?_,by rw [b];exact Qf3 _ hs,b,λv w=>(Qw3.1 w).elim (u v) (q v),λsp c' y E=>?_⟩;{intro k v hm;have c:=(Qw9.1 hm).1;rw [t2] at c;rw [Qn8,Qy7,if_pos (by omega)] at hm;have z:j<w2:=by{rcases Qz3 j w2 with h|h;{exact h};{have:w1-j=0:=by{omega};rw [this,Qc4] at c;omega}};have:=at_ (j*sz+k) v (by omega) hm;refine ⟨⟨bk,j*sz,none⟩,?_,?_⟩;{unfold rP;rw [if_neg (by omega),i (by omega)];simp [ae,add_zero']};{rw [←add_zero',zN,add_zero'];exact this}};{intro k v hm;have c:=(Qw9.1 hm).1;rw [t1] at c;rw [Qy7,if_pos c] at hm;have hw:0<w2:=by{rcases Qy9 w2 with h|h;{have:j=0:=by{omega};rw [this,Qc4] at c;omega};{exact h}};exact ⟨⟨bk,0,none⟩,i hw,by rw [add_zero'];exact at_ k v hw hm⟩};{intro r;by_cases hw:0<w2;{rw [i hw] at r;cases r};{omega}};{have A:es.take (1*sz)=es:=by{rw [Qd1,←he,Qy2]};rw [A];unfold aA;rw [Nat.ble_eq_true_of_le (by rw [Qq3,b];omega),cond_true,Qs9,Qt5 (by rw [b];exact Qq2 _),Qv4 (by rw [b];exact Qq2 _)]};{have l:j<=O.length:=by{omega};refine ⟨by rw [Qq3,Qq7,Qw6,Qb5];omega,y,?_,?_⟩;{have F:(j+(1+(w1-j)))*sz=j*sz+(1+(w1-j))*sz:=Qk1 ..;rw [Qq3,Qq3,t1,b];omega};{rw [n];exact Lg p l he hx hs}}
end Go.Proofs.Tryz
