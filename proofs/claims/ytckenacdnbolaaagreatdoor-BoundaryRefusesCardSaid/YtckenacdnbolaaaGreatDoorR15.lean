import Derived.Test.YtckenacdnbolaaaGreatDoorR14
import Derived.Test.YtckenacdnbolaaaGreatDoorR7
import Derived.Test.YtckenacdnbolaaaGreatDoorR13
import Derived.Test.YtckenacdnbolaaaGreatDoorR5
set_option linter.all false
open Go.IntKind (i64 u64 u32)
namespace Go.Proofs.Tryz
open Go.Eng Go.Big
open Go.Value renaming slice→hF,agg→dB,bool→qvQ,pointer→qvW,tuple→qvZ,int→qvK
variable{V:View}{v:Value}
theorem RA.shape {q:Rat}(h:RA V v q):∃b p n c p' n' c',v=dB #[qvQ b,hF p n c,hF p' n' c']:=by
 obtain ⟨p,n,c,p',n',c',e,-⟩:=h;exact qyZ e
def WZ (V:View)(v:Value)(x y:Rat):Prop:=∃b p n c p' n' c' d q m e q' m' e',v=.agg #[.bool b,.slice p n c,.slice p' n' c',.bool d,.slice q m e,.slice q' m' e'] /\
 RA V (.agg #[.bool b,.slice p n c,.slice p' n' c']) x/\RA V (.agg #[.bool d,.slice q m e,.slice q' m' e']) y
theorem WZ.le {V V':ut}{x y:Rat}(h:WZ V v x y)(l:V.Le V'):WZ V' v x y:=by
 obtain ⟨b,p,n,c,g,i,j,d,q,m,e,k,o,r,rfl,a,f⟩:=h;exact qyK ⟨rfl,a.le l,f.le l⟩
theorem wN {q:Rat}(h:RQ V v q){k:Nat}(s:Sz k q)(hk:k<=1099511627776):aa prog 106 #[v] V λr V'=>RA V' r q:=by
 obtain ⟨p,n,c,f,g,i,rfl,j,l⟩:=h;have y:=ag s.1;have z:=ag s.2;refine Gz V _ λA a=>(lO ⟨_,_,_,rfl,j.le a⟩).s ?_;rintro r V2 m ⟨B,C,D,rfl,o⟩;refine qyQ ⟨rfl,λE b=>(dQ q _ (l.le (a.m (m.m b)))).s ?_⟩;rintro r F t ⟨G,H,I,rfl,u⟩;refine ⟨_,_,_,rfl,λJ d=>(wM (u.le d)).s ?_⟩;rintro r K w ⟨L,M,N,rfl,x⟩;exact ⟨_,_,_,rfl,λO e=>⟨_,_,_,_,_,_,rfl,o.le (b.m (t.m (d.m (w.m e)))),x.le e⟩⟩
theorem Hp {x y:Rat}(h:RP V v x y){k:Nat}(s1:Sz k x)(s2:Sz k y)(hk:k<=1099511627776):aa prog 206 #[v] V λr V'=>WZ V' r x y:=by
 obtain ⟨i,j,l,m,n,o,p,q,s,t,u,w,rfl,z,A⟩:=h;refine GN V _ λD c=>(wN (z.le c) s1 hk).s ?_;rintro r V2 B d;have a:=d;obtain ⟨_,_,_,_,_,_,_,rfl⟩:=d.shape;refine qyZ ⟨rfl,λE e=>(wN (A.le (c.m (B.m e))) s2 hk).s ?_⟩;rintro r F C f;have b:=f;obtain ⟨_,_,_,_,_,_,_,rfl⟩:=f.shape;exact qyZ ⟨rfl,λG g=>⟨_,_,_,_,_,_,_,_,_,_,_,_,_,_,rfl,a.le (e.m (C.m g)),b.le g⟩⟩
abbrev L3:=Int×Int×Int
variable{c k n tb:Nat}{V:View}{v:Value}{x:L3}{a at_:Int}{p:OA}
def cX (x:L3):Bool:=decide (¬(x.1=0/\x.2.1=0))&&decide (bY x.1 x.2.1 x.2.2=1)
def Bd (x:L3):Prop:=x.1.natAbs<2^1000/\x.2.1.natAbs<2^1000/\x.2.2.natAbs<2^1000
inductive Tr where
 | leaf (i:Bool)|node (l:L3) (a b:Tr)
 deriving DecidableEq
structure Nd where
 ln:L3
 left:Int
 right:Int
 deriving DecidableEq
def Tr.size:Tr->Nat
 | .leaf _=>0
 | .node _ a b=>a.size+b.size+1
def Tr.pR:Tr->Bool
 | .leaf _=>true
 | .node ..=>false
def Tr.eU (p:L3->Prop):Tr->Prop
 | .leaf _=>True
 | .node l a b=>p l/\a.eU p/\b.eU p
theorem Tr.eU.imp {p q:L3->Prop}(h:∀x,p x->q x):∀{t:Tr},t.eU p->t.eU q
 | .leaf _,_=>trivial
 | .node _ _ _,⟨h1,h2,h3⟩=>⟨h _ h1,Tr.eU.imp h h2,Tr.eU.imp h h3⟩
def rt (k:Nat):Tr->Int
 | .leaf i=>if i then -2 else -1
 | .node ..=>(k:Int)
def wr:Nat->Tr->List Nd
 | _,.leaf _=>[]
 | k,.node l a b=>⟨l,rt (k+1) a,rt (k+1+a.size) b⟩::(wr (k+1) a++wr (k+1+a.size) b)
theorem jh:∀(t:Tr)(k:Nat),(wr k t).length=t.size
 | .leaf _,_=>rfl
 | .node _ a b,k=>by simp only [wr,Qw9,Qq3,jh a,jh b,Tr.size]
def Zu (l:List Nd):Int->Tr->List Nat->Prop
 | n,.leaf i,I=>n=(if i then -2 else -1)/\I=[]
 | n,.node ln a b,I=>∃(k:Nat)(x:Nd)(A B:List Nat),n=(k:Int)/\l[k]?=some x/\x.ln=ln/\Zu l x.left a A/\Zu l x.right b B/\I=k::(A++B)
theorem K0:∀(t:Tr)(l pre post:pz Nd)(k:Nat),l=pre++(wr k t++post)->pre.length=k->Zu l (rt k t) t (List.range' k t.size)
 | .leaf i,l,pre,post,k,_,_=>⟨rfl,rfl⟩
 | .node ln a b,l,pre,post,k,hl,hp=>by
  refine ⟨k,⟨ln,rt (k+1) a,rt (k+1+a.size) b⟩,List.range' (k+1) a.size,List.range' (k+1+a.size) b.size,rfl,?_,rfl,?_,?_,?_⟩
  ·subst hl;simp [hp,wr]
  ·refine K0 a l (pre++[⟨ln,rt (k+1) a,rt (k+1+a.size) b⟩]) (wr (k+1+a.size) b++post) (k+1) ?_ (by simp [hp])<;>grind [wr]
  ·refine K0 b l (pre++(⟨ln,rt (k+1) a,rt (k+1+a.size) b⟩::wr (k+1) a)) post (k+1+a.size) ?_ (by simp [jh];omega)<;>grind [wr]
  ·simp only [Tr.size];rw [List.range'_succ,←List.range'_append_1]
structure RS where
 seen:List Bool
 oZ:Nat
 bad:Bool
def iO (l:List Nd):Nat->Int->RS->Tr×RS
 | 0,_,s=>(.leaf false,s)
 | f+1,n,s=>
  if n=-2 then (.leaf true,s) else if n=-1 then (.leaf false,s) else if n<0 then (.leaf false,{ s with bad:=true })
  else match l[n.toNat]?,s.seen[n.toNat]? with
   | some x,some false=>
    if cX x.ln then
     let r1:=iO l f x.left ⟨s.seen.set n.toNat true,s.oZ+1,s.bad⟩
     let r2:=iO l f x.right r1.2
     (.node x.ln r1.1 r2.1,r2.2)
    else (.leaf false,⟨s.seen.set n.toNat true,s.oZ+1,true⟩)
   | _,_=>(.leaf false,{ s with bad:=true })
theorem count_set {l:pz md}(h:l[k]?=some false):(l.set k true).count false+1=l.count false:=by grind
theorem AZ (l:pz Nd):∀(f:Nat)(n:Int)(s:RS),(iO l f n s).2.seen.count false<=s.seen.count false/\(iO l f n s).2.seen.length=s.seen.length
 | 0,_,_=>⟨Qq2 _,rfl⟩
 | f+1,n,s=>by
  simp only [iO];split
  ·exact ⟨Qq2 _,rfl⟩
  ·split
   ·exact ⟨Qq2 _,rfl⟩
   ·split
    ·exact ⟨Qq2 _,rfl⟩
    ·split
     ·rename_i x hx hs;have hc:=count_set hs;split
      ·have ⟨a,b⟩:=AZ l f x.left ⟨s.seen.set n.toNat true,s.oZ+1,s.bad⟩;have ⟨c,d⟩:=AZ l f x.right (iO l f x.left ⟨s.seen.set n.toNat true,s.oZ+1,s.bad⟩).2;grind
      grind
     grind
theorem FZ (l:pz Nd):∀(f:Nat)(n:Int)(s:RS),(iO l f n s).2.oZ+(iO l f n s).2.seen.count false=s.oZ+s.seen.count false
 | 0,_,_=>rfl
 | f+1,n,s=>by
  simp only [iO];split
  ·rfl
  ·split
   ·rfl
   ·split
    ·rfl
    ·split
     ·rename_i x hx hs;have hc:=count_set hs;split
      ·have a:=FZ l f x.left ⟨s.seen.set n.toNat true,s.oZ+1,s.bad⟩;have b:=FZ l f x.right (iO l f x.left ⟨s.seen.set n.toNat true,s.oZ+1,s.bad⟩).2;grind
      ·dsimp only;omega
     ·rfl
theorem A6 (l:pz Nd):∀(f:Nat)(n:Int)(s:RS),(iO l f n s).1.size+s.oZ<=(iO l f n s).2.oZ
 | 0,_,_=>by simp [iO,Tr.size]
 | f+1,n,s=>by
  simp only [iO];split
  ·simp [Tr.size]
  ·split
   ·simp [Tr.size]
   ·split
    ·simp [Tr.size]
    ·split
     ·split
      ·rename_i x hx hs hok;have h1:=A6 l f x.left ⟨s.seen.set n.toNat true,s.oZ+1,s.bad⟩;have a:=A6 l f x.right (iO l f x.left ⟨s.seen.set n.toNat true,s.oZ+1,s.bad⟩).2;grind [Tr.size]
      ·simp [Tr.size]
     ·simp [Tr.size]
def sR (s:List Bool)(I:List Nat):List Bool:=I.foldl (λs k=>s.set k true) s
theorem Bh:∀(I:pz Nat)(s:pz md)(k:Nat),k∉I->(sR s I)[k]?=s[k]?
 | [],_,_,_=>rfl
 | i::r,s,k,h=>by
  have:=Bh r (s.set i true) k (λa=>h (Qq8 _ a));grind [sR]
theorem F0 (l:pz Nd):∀(t:Tr)(f:Nat)(n:Int)(s:RS)(I:pz Nat),Zu l n t I->I.Nodup->(∀k∈I,s.seen[k]?=some false)->t.eU (λx=>cX x=true)->t.size<f->iO l f n s=(t,⟨sR s.seen I,s.oZ+t.size,s.bad⟩)
 | .leaf i,f,n,s,I,⟨h1,h2⟩,_,_,_,hf=>by
  subst h2;obtain ⟨f,rfl⟩:∃g,f=g+1:=⟨f-1,by simp [Tr.size] at hf;omega⟩
  cases i with
  | true=>simp only at h1;subst h1;simp [iO,sR,Tr.size]
  | false=>
   subst h1;simp [iO,sR,Tr.size]
 | .node ln a b,f,n,s,I,⟨k,x,A,B,h1,h2,h3,h4,h5,h6⟩,hnd,hun,hok,hf=>by
  subst h1 h3 h6;obtain ⟨f,rfl⟩:∃g,f=g+1:=⟨f-1,by simp [Tr.size] at hf;omega⟩;rw [List.nodup_cons,List.nodup_append] at hnd;obtain ⟨r,u,v,d⟩:=hnd;have m:=hun k (by simp);simp only [Tr.size] at hf
  have w:=F0 l a f x.left ⟨s.seen.set k true,s.oZ+1,s.bad⟩ A h4 u (λj c=>by
   have:k≠j:=λe=>r (by rw [e];simp [c]);rw [Qm6 this];exact hun j (by simp [c])) hok.2.1 (by omega)
  have y:=F0 l b f x.right ⟨sR (s.seen.set k true) A,s.oZ+1+a.size,s.bad⟩ B h5 v (λj c=>by
   have:k≠j:=λe=>r (by rw [e];simp [c]);rw [Bh A _ j (λh=>d j h j c rfl),Qm6 this];exact hun j (by simp [c])) hok.2.2 (by omega)
  have o:¬((k:Int)=-2):=by omega
  have p:¬((k:Int)=-1):=by omega
  have q:¬((k:Int)<0):=by omega
  have z:iO l (f+1) (k:Int) s=(.node x.ln (iO l f x.left ⟨s.seen.set k true,s.oZ+1,s.bad⟩).1 (iO l f x.right (iO l f x.left ⟨s.seen.set k true,s.oZ+1,s.bad⟩).2).1,(iO l f x.right (iO l f x.left ⟨s.seen.set k true,s.oZ+1,s.bad⟩).2).2):=by
   rw [iO];rw [if_neg o,if_neg p,if_neg q];simp only [Qq0,h2,m,hok.1,if_true]
  grind [sR,Tr.size]
def xf (l:List Nd)(root:Int):Option Tr:=
 if 65536<l.length then none else
 let r:=iO l (l.length+1) root ⟨List.replicate l.length false,0,false⟩
 if r.2.bad=true\/r.2.oZ≠l.length then none else some r.1
theorem UA {l:pz Nd}{n:Int}{t:Tr}{I:pz Nat}(h:Zu l n t I)(hn:I.Nodup)(hI:∀k∈I,k<l.length)(hs:t.size=l.length)(hok:t.eU λx=>cX x=true)(hl:l.length<=65536):xf l n=some t:=by
 unfold xf;rw [if_neg (by omega)];rw [F0 l t (l.length+1) n _ I h hn (λk a=>by simp [hI k a]) hok (by omega)];simp [hs]
theorem Rp {t:Tr}(hok:t.eU λx=>cX x=true)(hl:t.size<=65536:=by omega):xf (wr 0 t) (rt 0 t)=some t:=by
 have h:=K0 t (wr 0 t) [] [] 0 (by simp) rfl;grind [UA,jh]
theorem Ro {l:pz Nd}{n:Int}{t:Tr}(h:xf l n=some t):t.size<=65536:=by
 unfold xf at h;split at h
 ·cases h
 ·dsimp only at h;split at h
  ·cases h
  ·rename_i a b;cases h;have:=A6 l (l.length+1) n ⟨List.replicate l.length false,0,false⟩;grind
theorem JV (a:Addr)(i j:Nat):(a.add i).add j=a.add (i+j):=by grind [Addr.add]
theorem F9 {b:Nat}{xs:pz un}{ty:TypeId}{m:Nat×Nat}(h:V.a_ b (.cells xs.toArray ty m))(i:Nat)(hv:xs[i]?=some v):∃a,ae (some ⟨b,0,none⟩) i=some a/\V.at a v:=
 ⟨⟨b,i,none⟩,by simp [ae,add_zero'],dF h hv⟩
theorem AP {a b c:Int}:jF (decide (a<0)) (ah a.natAbs) (decide (b<0)) (ah b.natAbs) (decide (c<0)) (ah c.natAbs)=cX (a,b,c):=by
 have d:∀z:Int,iu (decide (z<0)) (ah z.natAbs)=true:=by
  intro z;unfold iu;grind [af,bE.1]
 have f:fC (fC (a:Rat) (b:Rat)) (c:Rat)=((bY a b c:Nat):Int):=by
  have e:∀x y:Int,fC (x:Rat) (y:Rat)=((Nat.gcd x.natAbs y.natAbs:Nat):Int):=by
   intro x y;unfold fC;have g:((x:Rat)).num=x:=rfl;have h:((y:Rat)).num=y:=rfl;have i:((x:Rat)).den=1:=rfl;have j:((y:Rat)).den=1:=rfl;rw [g,h,i,j];simp only [Qk6];exact Qh1 _
  rw [e,e];rfl
 unfold jF cX;rw [d,d,d,aC,aC,aC,f];have k:∀z:Int,((z:Rat)=0)↔z=0:=λz=>by exact Rat.intCast_eq_zero_iff
 simp only [Wy7,k];rw [Qz5];simp only [Qw7,Qx9,Bool.and_eq_false_iff,decide_eq_false_iff_not,decide_eq_true_eq]
 have l:(((bY a b c:Nat):Int):Rat)=((1:Int):Rat)↔bY a b c=1:=by
  rw [Qh9];omega
 grind
theorem sZ {z:Int}(h:z.natAbs<2^k)(hk:0<k:=by omega):Sz k (z:Rat):=⟨h,Qc6 (by omega)⟩
theorem Bd.ah (h:Bd x):(ah x.1.natAbs).length<=1000/\(ah x.2.1.natAbs).length<=1000/\(ah x.2.2.natAbs).length<=1000:=⟨ag h.1,ag h.2.1,ag h.2.2⟩
theorem Bd.sz (h:Bd x):Sz 1000 (x.1:Rat)/\Sz 1000 (x.2.1:Rat)/\Sz 1000 (x.2.2:Rat):=⟨sZ h.1,sZ h.2.1,sZ h.2.2⟩
theorem Hl (h:RL V v x.1 x.2.1 x.2.2)(hb:Bd x) :
  aa prog 37 #[v] V λr V'=>∃w,r=qvZ #[w,qvQ (cX x)]/\Th w/\(cX x=true->zf V' w x.1 x.2.1 x.2.2):=by
 obtain ⟨p,n,s,f,g,i,q,m,e,rfl,b,c,d⟩:=h;obtain ⟨d1,d2,d3⟩:=hb.ah;obtain ⟨s1,s2,s3⟩:=hb.sz;have a:=nM (V:=V) (decide (x.1<0)) (decide (x.2.1<0)) (decide (x.2.2<0)) b c d (by omega) (by omega) (by omega) (k:=1000) (by rw [aC];exact s1) (by rw [aC];exact s2) (by rw [aC];exact s3);rw [AP,aC,aC,aC] at a;exact a
theorem Vl (x y u w:Int):oP (x:Rat) (y:Rat) ((x:Rat)+((1:Int):Rat)*(u:Rat)) ((y:Rat)+((1:Int):Rat)*(w:Rat))=(((-w:Int):Rat),((u:Int):Rat),((w*x-u*y:Int):Rat)):=by
 have a:(x:Rat)+((1:Int):Rat)*(u:Rat)=((x+u:Int):Rat):=by rw [←Qd8,←Qs1,Wy8]
 have b:(y:Rat)+((1:Int):Rat)*(w:Rat)=((y+w:Int):Rat):=by rw [←Qd8,←Qs1,Wy8]
 rw [a,b];have c:-(((y+w:Int):Rat)-(y:Rat))=((-w:Int):Rat):=by rw [←Wk3,←Qs2];congr 1;omega
 have d:((x+u:Int):Rat)-(x:Rat)=((u:Int):Rat):=by rw [←Wk3];congr 1;omega
 have e:-(((-w:Int):Rat)*(x:Rat)+((u:Int):Rat)*(y:Rat))=((w*x-u*y:Int):Rat):=by grind
 have f:(((((-w:Int):Rat).den*((u:Int):Rat).den*((w*x-u*y:Int):Rat).den:Nat):Int):Rat)=1:=rfl;unfold oP;grind
def Az (a b c:Int):L3:=(a / (bY a b c:Int),b / (bY a b c:Int),c / (bY a b c:Int))
def small (z:Int)(k:Nat):Bool:=decide (z.natAbs<=k)
theorem QS:∀i:Fin 9,∀j:Fin 9,∀k:Fin 65,(i.1=4/\j.1=4)\/(cX (Az ((i.1:Int)-4) ((j.1:Int)-4) ((k.1:Int)-32))&&small (Az ((i.1:Int)-4) ((j.1:Int)-4) ((k.1:Int)-32)).1 32&&small (Az ((i.1:Int)-4) ((j.1:Int)-4) ((k.1:Int)-32)).2.1 32&&small (Az ((i.1:Int)-4) ((j.1:Int)-4) ((k.1:Int)-32)).2.2 32)=true:=by decide +kernel
theorem Xa (k:Nat)(hk:6<=k){z:Int}(h:z.natAbs<=32):z.natAbs<2^k:=Qn9 h (Qx5 (by decide:32<2^6) (Qx2 (by decide) hk))
theorem ZH (k:Nat)(hk:6<=k)(h1:x.1.natAbs<=32)(h2:x.2.1.natAbs<=32)(h3:x.2.2.natAbs<=32):x.1.natAbs<2^k/\x.2.1.natAbs<2^k/\x.2.2.natAbs<2^k:=⟨Xa k hk h1,Xa k hk h2,Xa k hk h3⟩
theorem Ur {a b c:Int}(h1:-4<=a/\a<=4)(h2:-4<=b/\b<=4)(h3:-32<=c/\c<=32)(h:¬(a=0/\b=0):=by omega):cX (Az a b c)=true/\Bd (Az a b c):=by
 have:=QS ⟨(a+4).toNat,by omega⟩ ⟨(b+4).toNat,by omega⟩ ⟨(c+32).toNat,by omega⟩;dsimp only at this;rw [show (((a+4).toNat:Nat):Int)-4=a from by omega,show (((b+4).toNat:Nat):Int)-4=b from by omega,show (((c+32).toNat:Nat):Int)-32=c from by omega] at this;rcases this with d|d
 ·omega
 ·simp only [Qw7,small,decide_eq_true_eq] at d;exact ⟨d.1.1.1,ZH 1000 (by decide) d.1.1.2 d.1.2 d.2⟩
theorem Ra {x y:Int}(h1:-4<=x/\x<=4)(h2:-4<=y/\y<=4):-16<=x*y/\x*y<=16:=by
 have:(x*y).natAbs<=4*4:=by rw [Qv3];exact Qf8 (by omega) (by omega)
 omega
theorem num_mul {r:Rat}{f:Nat}(hf:f≠0)(h:r*((f:Nat):Int)=(a:Rat)):r.num*f=a*r.den:=by
 have b:=r.den_nz;rw [←Qt1 r,←Qh1 f,←Qh1 a,Ww6,Wz2 (by simpa using b) (by omega)] at h;simpa using h
theorem Af {r s:Rat}{f:Nat}{b:Int}(hf:f≠0)(hr:r*((f:Nat):Int)=(a:Rat))(hs:s*((f:Nat):Int)=(b:Rat)):fC r s*((f:Nat):Int)=(((Nat.gcd a.natAbs b.natAbs:Nat):Int):Rat):=by
 have c:=num_mul hf hr;have d:=num_mul hf hs;have d1:=r.den_nz;have d2:=s.den_nz;have e:r.num.natAbs*f=a.natAbs*r.den:=by have:=congrArg Int.natAbs c;rwa [Qv3,Qv3,Qx6,Qx6] at this
 have g:s.num.natAbs*f=b.natAbs*s.den:=by have:=congrArg Int.natAbs d;rwa [Qv3,Qv3,Qx6,Qx6] at this
 have h:Nat.gcd (r.num.natAbs*s.den) (s.num.natAbs*r.den)*f=Nat.gcd a.natAbs b.natAbs*(r.den*s.den):=by
  rw [←Nat.gcd_mul_right,←Nat.gcd_mul_right];congr 1
  ·rw [Nat.mul_right_comm,e,Qb8]
  ·rw [Nat.mul_right_comm,g,Qb8,Qv4 s.den]
 unfold fC;rw [←Qh1 ((f:Nat):Int),Ww6,←Qh1 (((Nat.gcd a.natAbs b.natAbs:Nat):Int)),Wz2 (by simpa using Qb3 d1 d2) (by omega)];have:=congrArg (Nat.cast (R:=Int)) h;simpa using this
theorem pV (q:Rat)(m:Nat):q*(((q.den*m:Nat):Int):Rat)=((q.num*m:Int):Rat):=by
 have e:q*(((q.den:Nat):Int):Rat)=((q.num:Int):Rat):=by
  have h:=q.den_nz;have a:mkRat q.num q.den*mkRat ((q.den:Nat):Int) 1=mkRat q.num 1:=by grind [Rat.mkRat_mul_mkRat,Rat.mkRat_eq_iff]
  grind [Rat.mkRat_self,Rat.mkRat_one]
 rw [Qn1,Qd8,←Rat.mul_assoc,e,←Qd8]
theorem FF {g:Nat}(hg:g≠0)(h:(g:Int)∣a):((a / (g:Int):Int):Rat)=(a:Rat) / ((g:Int):Rat):=by
 obtain ⟨k,rfl⟩:=h;have b:((g:Int):Rat)≠0:=by exact_mod_cast hg
 rw [Qg6 _ (by omega),Qd8,Rat.div_def,Rat.mul_comm ((g:Int):Rat),Rat.mul_assoc,Qb9 _ b,Rat.mul_one]
def AH (a b c:Rat):L3:=
 let f:Nat:=a.den*b.den*c.den
 Az (a*((f:Int):Rat)).num (b*((f:Int):Rat)).num (c*((f:Int):Rat)).num
theorem qN {a b c:Rat}(h:¬(a=0/\b=0)):let g:=fC (fC a b) c
  g≠0/\a*g⁻¹=((AH a b c).1:Rat)/\b*g⁻¹=((AH a b c).2.1:Rat)/\c*g⁻¹=((AH a b c).2.2:Rat):=by
 intro g;have m:a.den*b.den*c.den≠0:=Qb3 (Qb3 a.den_nz b.den_nz) c.den_nz;have i:a*(((a.den*b.den*c.den:Nat):Int):Rat)=((a.num*(b.den*c.den:Nat):Int):Rat):=by rw [Qb8,pV]
 have j:b*(((a.den*b.den*c.den:Nat):Int):Rat)=((b.num*(a.den*c.den:Nat):Int):Rat):=by rw [Qv4 a.den,Qb8,pV]
 have k:c*(((a.den*b.den*c.den:Nat):Int):Rat)=((c.num*(a.den*b.den:Nat):Int):Rat):=by rw [Qv4 (a.den*b.den),pV]
 have hm:AH a b c=Az (a.num*(b.den*c.den:Nat)) (b.num*(a.den*c.den:Nat)) (c.num*(a.den*b.den:Nat)):=by
  unfold AH;dsimp only;rw [i,j,k,Qd9,Qd9,Qd9]
 have n:=Af m i j;have d:=Af m n k;rw [hm];have t:a.num*(b.den*c.den:Nat)=0↔a=0:=by grind [Int.mul_eq_zero,Rat.num_eq_zero]
 have u:b.num*(a.den*c.den:Nat)=0↔b=0:=by grind [Int.mul_eq_zero,Rat.num_eq_zero]
 generalize a.num*(b.den*c.den:Nat)=A at *;generalize b.num*(a.den*c.den:Nat)=B at *;generalize c.num*(a.den*b.den:Nat)=C at *;generalize a.den*b.den*c.den=f at *;have o:Nat.gcd (((Nat.gcd A.natAbs B.natAbs:Nat):Int)).natAbs C.natAbs=bY A B C:=by unfold bY;rw [Qx6]
 rw [o] at d;change g*((f:Int):Rat)=_ at d
 have p:bY A B C≠0:=by
  intro e;have:=Qh2.1 e;grind
 have l:((bY A B C:Int):Rat)≠0:=by exact_mod_cast p
 have q:g≠0:=by intro e;rw [e,Rat.zero_mul] at d;exact l d.symm
 have r:((bY A B C:Nat):Int)∣A:=Qp0.1 (by rw [Qx6];exact Qs0 (Qj5 _ _) (Qj5 _ _));have s:((bY A B C:Nat):Int)∣B:=Qp0.1 (by rw [Qx6];exact Qs0 (Qj5 _ _) (Qb5 _ _));have dC:((bY A B C:Nat):Int)∣C:=Qp0.1 (by rw [Qx6];exact Qb5 _ _);have key:∀{x:Rat} {X:Int},x*((f:Int):Rat)=(X:Rat)->((bY A B C:Nat):Int)∣X->x*g⁻¹=((X / (bY A B C:Int):Int):Rat):=by grind [FF]
 exact ⟨q,key i r,key j s,key k dC⟩
theorem Ux {a b c:Rat}(h:¬(a=0/\b=0)):¬((AH a b c).1=0/\(AH a b c).2.1=0):=by
 obtain ⟨i,d,e,-⟩:=qN (c:=c) h;rintro ⟨f,g⟩;rw [f] at d;rw [g] at e;grind
theorem vo {b c:Int}(h:RL V v a b c):∃(b1:md)(p1:OA)(n1 c1:Nat)(b2:md)(p2:OA)(n2 c2:Nat)(b3:md)(p3:OA)(n3 c3:Nat),v=dB #[qvQ b1,hF p1 n1 c1,qvQ b2,hF p2 n2 c2,qvQ b3,hF p3 n3 c3]:=by
 obtain ⟨p,n,s,d,f,g,q,m,e,rfl,-⟩:=h;exact qxW rfl
def JR (V:View)(p:OA)(n:Nat):Prop:=∀i,i<n->∃(a:Addr)(x:Int),ae p (i*1)=some a/\V.at a (.int .i64 x)
theorem JR.le {V V':ut}(h:JR V p n)(l:V.Le V'):JR V' p n:=λi b=>by
 have ⟨a,x,e,c⟩:=h i b;exact ⟨a,x,e,l.at c⟩
def jZ (V:View)(tb:Nat)(p:OA)(n c:Nat)(at_:Int):Prop:=V.w.heap[tb]?=some (.cells #[.slice p n c,.int .i64 at_] 71 (0,0))
theorem gj {V:ut}(k:Int)(hr:JR V p n)(hn:n<=400)(hw:jZ V tb p n c at_)(hx:V.X tb)(h0:0<=at_)(hk:0<k)(hk2:k<=1000:=by omega) :
  aa prog 9 #[qvW (some ⟨tb,0,none⟩),qvK .i64 k] V λr V'=>∃x at',r=qvK .i64 x/\0<=x/\x<k/\0<=at'/\jZ V' tb p n c at':=by
 refine tz tb p n c at_ k V _ hw hx ⟨λg m o e=>⟨0,at_,rfl,by omega,hk,h0,e⟩,λg=>?_⟩;have g:at_<n:=by have:=of_decide_eq_false g;omega
 obtain ⟨i,rfl⟩:∃i:Nat,at_=i:=⟨at_.toNat,by omega⟩;have ⟨a,x,d,f⟩:=hr i (by omega)
 have h:p.isSome=true:=by
  cases p with
  | none=>simp [ae] at d
  | some a=>rfl
 have q:(x.tmod k).natAbs<k.natAbs:=by rw [Int.natAbs_tmod];exact Qj8 _ (by omega)
 have j:i64.wrap ((i:Int)+1)=((i+1:Nat):Int):=by rw [au (by omega)];omega
 rw [Qq0,j];have l:i64.wrap (x.tmod k+k)=x.tmod k+k:=au (by omega);refine ⟨h,⟨by omega,by omega⟩,x,⟨a,d,f⟩,by omega,λb V2 s e=>⟨x.tmod k+k,_,by rw [l],?_,?_,?_,e⟩,λb t u e=>⟨_,_,rfl,?_,?_,?_,e⟩⟩
 ·omega
 ·have:=of_decide_eq_true b;omega
 ·omega
 ·have:=of_decide_eq_false b;omega
 ·omega
 ·omega
theorem c_P {V:ut}(hr:JR V p n)(hn:n<=400)(hw:jZ V tb p n c at_)(hx:V.X tb)(h0:0<=at_) :
  aa prog 29 #[qvW (some ⟨tb,0,none⟩)] V λr V'=>∃(x y at':Int),RP V' r (x:Rat) (y:Rat)/\(-4<=x/\x<=4)/\(-4<=y/\y<=4)/\0<=at'/\jZ V' tb p n c at':=by
 refine yA tb p n c at_ V _ hw hx λk i a l m=>(gj (V:=k.ar [a]) 9 (hr.le λb o h=>i b o h) hn l ⟨by simp,m⟩ h0 (by omega)).s ?_;rintro r V2 q ⟨x,B,rfl,C,D,t1,d⟩;refine ⟨_,rfl,_,_,_,_,d,λs t u v w=>(gj (V:=s.ar [u]) 9 (hr.le λb o h=>t b o (q b o (i b o h))) hn v ⟨by simp,w⟩ t1 (by omega)).s ?_⟩;rintro r E F ⟨y,e,rfl,G,H,t2,f⟩;refine ⟨_,rfl,_,_,_,_,f,λI J=>?_⟩;rw [au (x:=x-4) (by omega),au (x:=y-4) (by omega)];refine (dH (x-4) (y-4) (by omega) (by omega) (by omega)).s ?_;rintro r K L j;have g:=j;obtain ⟨M,N,O,P,Q,R,S,T,U,W,Y,Z,rfl,-⟩:=j;exact qyK ⟨rfl,λV7 z A=>⟨x-4,y-4,e,g.le z,⟨by omega,by omega⟩,⟨by omega,by omega⟩,t2,A⟩⟩
theorem RQ.zero {V:ut}:RQ V (dB #[qvQ false,hF none 0 0,hF none 0 0]) ((0:Int):Rat):=⟨none,0,0,none,0,0,rfl,RD.nil,RD.nil⟩
theorem RP.zero {V:ut}:RP V (dB #[qvQ false,hF none 0 0,hF none 0 0,qvQ false,hF none 0 0,hF none 0 0]) ((0:Int):Rat) ((0:Int):Rat):=
 ⟨none,0,0,none,0,0,none,0,0,none,0,0,rfl,RQ.zero,RQ.zero⟩
theorem EN {z:Int}(h:-40<=z/\z<=40:=by omega):Sz 10 (z:Rat):=sZ (by omega)
theorem c_V {V:ut}(hr:JR V p n)(hn:n<=400)(hw:jZ V tb p n c at_)(hx:V.X tb)(h0:0<=at_) :
  aa prog 33 #[qvW (some ⟨tb,0,none⟩)] V λr V'=>∃(x y at':Int),RP V' r (x:Rat) (y:Rat)/\(-4<=x/\x<=4)/\(-4<=y/\y<=4)/\¬(x=0/\y=0)/\0<=at'/\jZ V' tb p n c at':=by
 refine yB tb p n c at_ V _ hw hx λs t d u v=>(c_P (V:=s.ar [d]) (hr.le λb o h=>t b o h) hn u ⟨by simp,v⟩ h0).s ?_;rintro r V2 P ⟨x,y,k,l,e,f,t1,i⟩;have a:=l;obtain ⟨w,z,A,B,C,D,E,F,G,H,I,J,rfl,-⟩:=l;refine qyK ⟨rfl,_,_,_,_,i,λQ m=>(nU (a.le λb o h=>m b o h) RP.zero (EN) (EN) (EN) (EN)).s ?_⟩;rintro r R K rfl;refine ⟨_,rfl,λg S T=>(dH 1 0 (by omega) (by omega) (by omega)).s ?_,λg U L M=>⟨x,y,k,a.le λb o h=>L b o (K b o (m b o h)),e,f,?_,t1,M⟩⟩
 ·rintro r W Y q;have j:=q;obtain ⟨w,z,A,B,C,D,E,F,G,H,I,J,rfl,-⟩:=q;exact qyK ⟨rfl,λZ N O=>⟨1,0,k,j.le N,⟨by omega,by omega⟩,⟨by omega,by omega⟩,by omega,t1,O⟩⟩
 ·rintro ⟨rfl,rfl⟩;simp at g
theorem c_L {V:ut}(hr:JR V p n)(hn:n<=400)(hw:jZ V tb p n c at_)(hx:V.X tb)(h0:0<=at_) :
  aa prog 7 #[qvW (some ⟨tb,0,none⟩)] V λr V'=>∃(x:L3)(at':Int),RL V' r x.1 x.2.1 x.2.2/\cX x=true/\Bd x/\0<=at'/\jZ V' tb p n c at':=by
 refine yy tb p n c at_ V _ hw hx λW H f Y Z=>(c_P (V:=W.ar [f]) (hr.le λb o h=>H b o h) hn Y ⟨by simp,Z⟩ h0).s ?_;rintro r V2 l2 ⟨x,y,G8,I,g,i,t1,j⟩;have d:=I;obtain ⟨p1,J,c1,p2,K,c2,p3,L,c3,p4,n4,c4,rfl,-⟩:=I;refine qyK ⟨rfl,_,_,_,_,j,λV3 M=>(dS 1 (by omega)).s ?_⟩;rintro r V4 N O;have q:=O;obtain ⟨p5,n5,c5,p6,n6,c6,rfl⟩:=O.shape;refine qyZ ⟨rfl,λV5 s ZI e5 h5=>(c_V (V:=V5.ar [ZI]) (hr.le λb o h=>s b o (N b o (M b o (l2 b o (H b o h))))) hn e5 ⟨by simp,h5⟩ t1).s ?_⟩;rintro r V6 P ⟨u,w,t,Q,v,e,a0,t2,z⟩;have A:=Q;obtain ⟨q1,m1,d1,q2,m2,d2,q3,m3,d3,q4,m4,d4,rfl,-⟩:=Q;refine qyK ⟨rfl,_,_,_,_,z,λB C=>?_⟩;have R:V2.Le B:=λb o h=>C b o (P b o (s b o (N b o (M b o h))));have Ze:V4.Le B:=λb o h=>C b o (P b o (s b o h));have D:V6.Le B:=λb o h=>C b o h;refine (fJ (d.le R) (q.le Ze) (A.le D) (k:=10) (m:=10) (EN) (EN) (EN) (EN) (EN)).s ?_;rintro r V8 l8 S;have E:=S;obtain ⟨s1,i1,j1,s2,i2,j2,s3,i3,j3,s4,i4,j4,rfl,-⟩:=S;have f1:(x:Rat)+((1:Int):Rat)*(u:Rat)=((x+u:Int):Rat):=by rw [←Qd8,←Qs1,Wy8]
 have f2:(y:Rat)+((1:Int):Rat)*(w:Rat)=((y+w:Int):Rat):=by rw [←Qd8,←Qs1,Wy8]
 refine qyK ⟨rfl,λV9 T=>(jN (d.le (R.m (l8.m T))) (E.le T) (k:=10) (EN) (EN) (by rw [f1];exact EN) (by rw [f2];exact EN) (by omega)).s ?_⟩;rintro r fQ a1 ⟨-,h⟩;rw [Vl] at h;have J:((-w:Int):Rat).num=-w:=rfl;have K:((u:Int):Rat).num=u:=rfl;have L:((w*x-u*y:Int):Rat).num=w*x-u*y:=rfl;dsimp only at h;rw [J,K,L] at h;obtain ⟨l,rfl,U⟩:=h (by omega);have m1:=Ra e g;have m2:=Ra v i;have ⟨k1,k2⟩:=Ur (a:=-w) (b:=u) (c:=w*x-u*y) (by omega) (by omega) (by omega);have F:=U;obtain ⟨b1,u1,v1,w1,b2,u2,v2,w2,b3,u3,v3,w3,rfl⟩:=(vo U);exact ⟨_,_,_,_,_,_,_,_,_,_,_,_,_,rfl,λfD bq G=>⟨Az (-w) u (w*x-u*y),t,F.le bq,k1,k2,t2,G⟩⟩
theorem Ff {l p:un}{cF l_1 eY:Int}{kf kg:Rat}(hl:RL V l cF l_1 eY)(hp:RP V p kf kg)(s0:Sz k ((cF:Int):Rat))(s1:Sz k ((l_1:Int):Rat))(s2:Sz k ((eY:Int):Rat))(s3:Sz k kf)(s4:Sz k kg)(hk:16*k+16<274877906944) :
  aa prog 114 #[l,p] V λr V'=>r=qvK .i64 ((cF:Rat)*kf+(l_1:Rat)*kg+(eY:Rat)).num.sign:=by
 have a:=hl;have b:=hp;obtain ⟨d,e,f,g,h,i,j,m,n,rfl,-,-,-⟩:=hl;obtain ⟨o,q,s,t,u,v,w,x,y,z,A,B,rfl,-,-⟩:=hp;refine Dr V _ λE c=>(jo (a.le c) (b.le c) s0 s1 s2 s3 s4).s ?_;rintro r V2 F ⟨G,H,I,J,K,L,rfl,C,M⟩;refine qyZ ⟨rfl,λN D=>(qC _ (C.le D)).s ?_⟩;rintro r O P rfl;exact ⟨_,rfl,λQ R=>rfl⟩
theorem jA {l:un}{a b c:Int}(hl:RL V l a b c):aa prog 10 #[l] V λr V'=>RL V' r (-a) (-b) (-c):=by
 obtain ⟨k,m,n,o,p,q,s,t,u,rfl,v,w,x⟩:=hl;refine GJ V _ λB d=>(jz a (v.le d)).s ?_;rintro r V2 h ⟨C,D,E,rfl,y⟩;refine qyQ ⟨rfl,λF e=>(jz b (w.le (d.m (h.m e)))).s ?_⟩;rintro r G i ⟨H,I,J,rfl,z⟩;refine qyQ ⟨rfl,λK f=>(jz c (x.le (d.m (h.m (e.m (i.m f)))))).s ?_⟩;rintro r L j ⟨M,N,O,rfl,A⟩;exact qyQ ⟨rfl,λP g=>⟨_,_,_,_,_,_,_,_,_,rfl,y.le (e.m (i.m (f.m (j.m g)))),z.le (f.m (j.m g)),A.le g⟩⟩
end Go.Proofs.Tryz
namespace Go.Eng
open Go.Big
open Go.Value renaming agg→dB,pointer→qvW,int→qvK
def RR.zero (V:ut):RR V (dB #[qvK .i64 0,qvK .i64 0,qvW none]) 0:=.inl ⟨rfl,by unfold Wd;decide⟩
end Go.Eng
namespace Go.Proofs.Tryz
open Go.Eng Go.Big
open Go.Value renaming slice→hF,agg→dB,bool→qvQ,pointer→qvW,tuple→qvZ,int→qvK
structure Sp where
 lo:Rat
 hi:Rat
 a:Bool
 b:Bool
def Sp.can (s:Sp):Prop:=(s.a=true->s.lo=0)/\(s.b=true->s.hi=0)
def Sp.sz (k:Nat)(s:Sp):Prop:=Sz k s.lo/\Sz k s.hi
def Sp.zero:Sp:=⟨0,0,false,false⟩
variable{v:Value}{s:Sp}{l:L3}{V:View}
def lA (k:Nat)(l:L3):Prop:=Sz k (l.1:Rat)/\Sz k (l.2.1:Rat)/\Sz k (l.2.2:Rat)
def eC (V:View)(v:Value)(s:Sp):Prop:=∃(x1 x2:Int)(p:OA)(y1 y2:Int)(q:OA),v=.agg #[.int .i64 x1,.int .i64 x2,.pointer p,.int .i64 y1,.int .i64 y2,.pointer q,.bool s.a,.bool s.b] /\
 RR V (.agg #[.int .i64 x1,.int .i64 x2,.pointer p]) s.lo/\RR V (.agg #[.int .i64 y1,.int .i64 y2,.pointer q]) s.hi
theorem eC.le {V V':ut}(h:eC V v s)(l:V.Le V'):eC V' v s:=by
 obtain ⟨a,b,p,c,d,q,e,f,g⟩:=h;exact ⟨a,b,p,c,d,q,e,f.le l,g.le l⟩
def o_ (V:View)(v:Value)(l:L3):Prop:=zf V v (l.1:Rat) (l.2.1:Rat) (l.2.2:Rat)
theorem o_.le {V V':ut}(h:o_ V v l)(e:V.Le V'):o_ V' v l:=zf.le h e
def GU (V:View)(v:Value)(l:L3)(s:Sp):Prop:=∃(x1 x2:Int)(p:OA)(y1 y2:Int)(q:OA)(z1 z2:Int)(r:OA)(u1 u2:Int)(t:OA)(w1 w2:Int)(o:OA),
 v=.agg #[.int .i64 x1,.int .i64 x2,.pointer p,.int .i64 y1,.int .i64 y2,.pointer q,.int .i64 z1,.int .i64 z2,.pointer r,.int .i64 u1,.int .i64 u2,.pointer t,.int .i64 w1,.int .i64 w2,.pointer o,.bool s.a,.bool s.b] /\
 o_ V (.agg #[.int .i64 x1,.int .i64 x2,.pointer p,.int .i64 y1,.int .i64 y2,.pointer q,.int .i64 z1,.int .i64 z2,.pointer r]) l /\
 eC V (.agg #[.int .i64 u1,.int .i64 u2,.pointer t,.int .i64 w1,.int .i64 w2,.pointer o,.bool s.a,.bool s.b]) s
theorem GU.le {V V':ut}(h:GU V v l s)(e:V.Le V'):GU V' v l s:=by
 obtain ⟨a,b,p,c,d,q,f,g,r,i,j,t,k,m,o,rfl,n,u⟩:=h;exact ⟨a,b,p,c,d,q,f,g,r,i,j,t,k,m,o,rfl,n.le e,u.le e⟩
def O_ (V:View)(v:Value)(b:Bool)(xs ys:List Nat):Prop:=∃p n c p' n' c',v=.agg #[.bool b,.slice p n c,.slice p' n' c']/\RD V p n c xs/\RD V p' n' c' ys
theorem O_.le {V V':ut}{b:md}{xs ys:pz Nat}(h:O_ V v b xs ys)(l:V.Le V'):O_ V' v b xs ys:=by
 obtain ⟨p,n,c,a,d,f,e,g,i⟩:=h;exact ⟨p,n,c,a,d,f,e,g.le l,i.le l⟩
theorem O_.nil:O_ V (dB #[qvQ false,hF none 0 0,hF none 0 0]) false [] []:=qyW ⟨rfl,RD.nil,RD.nil⟩
def RE (V:View)(v:Value)(q:Rat)(no:Bool):Prop:=(no=true->O_ V v false [] [])/\(no=false->RA V v q)
theorem RE.le {V V':ut}{q:Rat}{no:md}(h:RE V v q no)(l:V.Le V'):RE V' v q no:=⟨λe=>(h.1 e).le l,λe=>(h.2 e).le l⟩
def JJ (V:View)(v:Value)(s:Sp):Prop:=∃b p n c p' n' c' d q m e q' m' e',v=.agg #[.bool b,.slice p n c,.slice p' n' c',.bool d,.slice q m e,.slice q' m' e',.bool s.a,.bool s.b] /\
 RE V (.agg #[.bool b,.slice p n c,.slice p' n' c']) s.lo s.a/\RE V (.agg #[.bool d,.slice q m e,.slice q' m' e']) s.hi s.b
theorem JJ.le {V V':ut}(h:JJ V v s)(l:V.Le V'):JJ V' v s:=by
 obtain ⟨b,p,n,c,g,i,j,d,q,m,e,k,o,r,rfl,a,f⟩:=h;exact qyK ⟨rfl,a.le l,f.le l⟩
def W3 (V:View)(v:Value)(l:L3)(s:Sp):Prop:=∃b1 p1 n1 c1 b2 p2 n2 c2 b3 p3 n3 c3 b p n c p' n' c' d q m e q' m' e',
 v=.agg #[.bool b1,.slice p1 n1 c1,.bool b2,.slice p2 n2 c2,.bool b3,.slice p3 n3 c3,.bool b,.slice p n c,.slice p' n' c',.bool d,.slice q m e,.slice q' m' e',.bool s.a,.bool s.b] /\
 RL V (.agg #[.bool b1,.slice p1 n1 c1,.bool b2,.slice p2 n2 c2,.bool b3,.slice p3 n3 c3]) l.1 l.2.1 l.2.2/\JJ V (.agg #[.bool b,.slice p n c,.slice p' n' c',.bool d,.slice q m e,.slice q' m' e',.bool s.a,.bool s.b]) s
theorem W3.le {V V':ut}(h:W3 V v l s)(e:V.Le V'):W3 V' v l s:=by
 obtain ⟨i,j,k,o,r,t,u,w,x,y,z,A,b,p,n,c,B,C,D,d,q,m,f,E,F,G,rfl,a,g⟩:=h;exact ⟨_,_,_,_,_,_,_,_,_,_,_,_,_,_,_,_,_,_,_,_,_,_,_,_,_,_,rfl,a.le e,g.le e⟩
def oT (V:View)(v:Value)(s:Sp):Prop:=∃b p n c p' n' c' d q m e q' m' e',v=.agg #[.bool b,.slice p n c,.slice p' n' c',.bool d,.slice q m e,.slice q' m' e',.bool s.a,.bool s.b] /\
 RQ V (.agg #[.bool b,.slice p n c,.slice p' n' c']) s.lo/\RQ V (.agg #[.bool d,.slice q m e,.slice q' m' e']) s.hi
theorem oT.le {V V':ut}(h:oT V v s)(l:V.Le V'):oT V' v s:=by
 obtain ⟨b,p,n,c,g,i,j,d,q,m,e,k,o,r,rfl,a,f⟩:=h;exact qyK ⟨rfl,a.le l,f.le l⟩
def RF (V:View)(v:Value)(l:L3)(s:Sp):Prop:=∃b1 p1 n1 c1 b2 p2 n2 c2 b3 p3 n3 c3 b p n c p' n' c' d q m e q' m' e',
 v=.agg #[.bool b1,.slice p1 n1 c1,.bool b2,.slice p2 n2 c2,.bool b3,.slice p3 n3 c3,.bool b,.slice p n c,.slice p' n' c',.bool d,.slice q m e,.slice q' m' e',.bool s.a,.bool s.b] /\
 RL V (.agg #[.bool b1,.slice p1 n1 c1,.bool b2,.slice p2 n2 c2,.bool b3,.slice p3 n3 c3]) l.1 l.2.1 l.2.2/\oT V (.agg #[.bool b,.slice p n c,.slice p' n' c',.bool d,.slice q m e,.slice q' m' e',.bool s.a,.bool s.b]) s
theorem RF.le {V V':ut}(h:RF V v l s)(e:V.Le V'):RF V' v l s:=by
 obtain ⟨i,j,k,o,r,t,u,w,x,y,z,A,b,p,n,c,B,C,D,d,q,m,f,E,F,G,rfl,a,g⟩:=h;exact ⟨_,_,_,_,_,_,_,_,_,_,_,_,_,_,_,_,_,_,_,_,_,_,_,_,_,_,rfl,a.le e,g.le e⟩
theorem Bc {a b c:Int}(h:RL V v a b c):∃b1 p1 n1 c1 b2 p2 n2 c2 b3 p3 n3 c3,v=dB #[qvQ b1,hF p1 n1 c1,qvQ b2,hF p2 n2 c2,qvQ b3,hF p3 n3 c3]:=by
 obtain ⟨_,_,_,_,_,_,_,_,_,e,-⟩:=h;exact qxW e
theorem uB {x y:Rat}(h:RP V v x y):∃b1 p1 n1 c1 p2 n2 c2 b3 p3 n3 c3 p4 n4 c4,v=dB #[qvQ b1,hF p1 n1 c1,hF p2 n2 c2,qvQ b3,hF p3 n3 c3,hF p4 n4 c4]:=by
 obtain ⟨_,_,_,_,_,_,_,_,_,_,_,_,e,-⟩:=h;exact qyK e
def aq (l:L3)(x y:Rat):Rat:=(l.1:Rat)*x+(l.2.1:Rat)*y+(l.2.2:Rat)
def gK (l:L3):Rat:=(l.1:Rat)*(l.1:Rat)+(l.2.1:Rat)*(l.2.1:Rat)
def kX (l:L3)(x y:Rat):Rat:=((l.2.1:Rat)*x-(l.1:Rat)*y)*(gK l)⁻¹
def eK (l:L3)(t:Rat):Rat:=(l.2.1:Rat)*t-(l.1:Rat)*(l.2.2:Rat)*(gK l)⁻¹
def eN (l:L3)(t:Rat):Rat:=-((l.1:Rat)*t)-(l.2.1:Rat)*(l.2.2:Rat)*(gK l)⁻¹
def revL (l:L3):L3:=(-l.1,-l.2.1,-l.2.2)
def Sp.emp (s:Sp):Bool:=!s.a&&!s.b&&decide (dI s.lo s.hi≥0)
variable{L l:L3}{a b c px py q qx qy x:Rat}{k:Nat}{V:View}{p:OA}{v:Value}{s:Sp}{ad:Addr}
def Nz (l:L3):Prop:=¬(l.1=0/\l.2.1=0)
theorem sq_nonneg (x:Int):0<=x*x:=by
 rw [←Int.natAbs_mul_self];exact Int.natCast_nonneg _
theorem Ri (l:L3):gK l=((l.1*l.1+l.2.1*l.2.1:Int):Rat):=by unfold gK;simp
theorem Nz.norm (h:Nz l):gK l≠0:=by
 rw [Ri];have d:=sq_nonneg l.1;have f:=sq_nonneg l.2.1
 have a:l.1*l.1+l.2.1*l.2.1≠0:=by
  intro e;have b:l.1*l.1=0:=by omega
  have c:l.2.1*l.2.1=0:=by omega
  exact h ⟨(Ww7.1 b).elim id id,(Ww7.1 c).elim id id⟩
 exact_mod_cast a
theorem Io (h:q≠0):q.num≠0:=λe=>h (Qv1.1 e)
theorem MT {y:Rat}(sl:lA k L)(s1:Sz k x)(s2:Sz k y):Sz (8*k+7) (kX L x y):=by
 have e:kX L x y=((((L.2.1:Rat))*x+(-(L.1:Rat))*y)*(((L.2.1:Rat))*((L.2.1:Rat))+(-(L.1:Rat))*(-(L.1:Rat)))⁻¹):=by
  unfold kX gK;grind
 rw [e];exact wH sl.1 sl.2.1 sl.2.2 s1 s2
theorem Lc (sl:lA k L)(s1:Sz k x):Sz (20*k+19) (eK L x):=by
 have a:eK L x=((L.1:Rat)*((-(L.2.2:Rat))*((L.1:Rat)*(L.1:Rat)+(L.2.1:Rat)*(L.2.1:Rat))⁻¹))+((L.2.1:Rat)*x):=by unfold eK gK;grind
 rw [a];exact DF sl.1 sl.2.1 sl.2.2 s1
theorem Ld (sl:lA k L)(s1:Sz k x):Sz (20*k+19) (eN L x):=by
 have a:eN L x=((L.2.1:Rat)*((-(L.2.2:Rat))*((L.1:Rat)*(L.1:Rat)+(L.2.1:Rat)*(L.2.1:Rat))⁻¹))+((-(L.1:Rat))*x):=by unfold eN gK;grind
 rw [a];exact DG sl.1 sl.2.1 sl.2.2 s1
theorem uI (q:Rat):q.num.sign=0↔q=0:=by rw [Qm1,Qv1]
theorem kq {l:un}{L:L3}(hl:o_ V l L)(sl:lA k L)(hk:1*k+1<274877906944:=by omega) :
  aa prog 125 #[l] V λr V'=>o_ V' r (revL L):=by
 refine (vD hl sl.1 sl.2.1 sl.2.2 hk).s ?_;rintro r V2 a g;unfold o_ revL;simpa using g
theorem lA.rev (h:lA k L):lA k (revL L):=by
 unfold lA revL;exact ⟨h.1.neg,h.2.1.neg,h.2.2.neg⟩
theorem KX (h:Nz L):((((((L.2.1:Int):Rat)))*((((L.2.1:Int):Rat))))+(((-(((L.1:Int):Rat))))*((-(((L.1:Int):Rat)))))).num≠0:=by grind [gK,Io,h.norm]
theorem yT {l p:un}{y:Rat}(hl:RL V l L.1 L.2.1 L.2.2)(hp:RP V p x y)(hz:Nz L)(sl:lA k L)(s1:Sz k x)(s2:Sz k y)(hk:8*k+7<274877906944:=by omega) :
  aa prog 108 #[l,p] V λr V'=>RQ V' r (kX L x y):=by
 refine (CE hl hp (KX hz) sl.1 sl.2.1 sl.2.2 s1 s2 hk).s ?_;rintro r V2 a g
 have e:kX L x y=((((x)*((((L.2.1:Int):Rat))))+((y)*((-(((L.1:Int):Rat))))))*((((((L.2.1:Int):Rat)))*((((L.2.1:Int):Rat))))+(((-(((L.1:Int):Rat))))*((-(((L.1:Int):Rat))))))⁻¹):=by
  unfold kX gK;grind
 rw [e];exact g
theorem r_At {l t:un}(hl:RL V l L.1 L.2.1 L.2.2)(ht:RQ V t x)(hz:Nz L)(sl:lA k L)(s1:Sz k x)(hk:18*k+16<274877906944:=by omega) :
  aa prog 51 #[l,t] V λr V'=>RP V' r (eK L x) (eN L x):=by
 refine (Kg hl ht (KX hz) sl.1 sl.2.1 sl.2.2 s1 hk).s ?_;rintro r V2 c g;have a:eK L x=(((-((((L.2.2:Int):Rat))*((((((L.2.1:Int):Rat)))*((((L.2.1:Int):Rat))))+(((-(((L.1:Int):Rat))))*((-(((L.1:Int):Rat))))))⁻¹))*(((L.1:Int):Rat)))+(x)*(((L.2.1:Int):Rat))):=by unfold eK gK;grind
 have b:eN L x=(((-((((L.2.2:Int):Rat))*((((((L.2.1:Int):Rat)))*((((L.2.1:Int):Rat))))+(((-(((L.1:Int):Rat))))*((-(((L.1:Int):Rat))))))⁻¹))*(((L.2.1:Int):Rat)))+(x)*(-(((L.1:Int):Rat)))):=by unfold eN gK;grind
 rw [a,b];exact g
theorem F7 {l p:un}{x y:Rat}(hl:RL V l L.1 L.2.1 L.2.2)(hp:RP V p x y){k:Nat}(sl:lA k L)(s1:Sz k x)(s2:Sz k y)(hk:16*k+16<274877906944:=by omega) :
  aa prog 114 #[l,p] V λr V'=>r=qvK .i64 (aq L x y).num.sign:=Ff hl hp sl.1 sl.2.1 sl.2.2 s1 s2 hk
theorem sz_gI (sa:Sz k a)(sb:Sz k b)(sc:Sz k c):Sz (3*k+2) (fC (fC a b) c)⁻¹:=
 fu (Sz.s (lG (lG sa sb) sc))
theorem Ve {k:Nat}(sa:Sz k a)(sb:Sz k b)(sc:Sz k c)(h:¬(a=0/\b=0)):lA (4*k+3) (AH a b c):=by
 obtain ⟨-,e,f,g⟩:=qN (c:=c) h;have d:=sz_gI sa sb sc;unfold lA;rw [←e,←f,←g];exact ⟨Sz.s (Sz.mul sa d),Sz.s (Sz.mul sb d),Sz.s (Sz.mul sc d)⟩
def mu (px py qx qy:Rat):L3:=AH (-(qy-py)) (qx-px) (-(-(qy-py)*px+(qx-px)*py))
theorem uN (h:¬(px=qx/\py=qy)):¬(-(qy-py)=0/\qx-px=0):=by
 rintro ⟨a,b⟩;exact h ⟨by grind,by grind⟩
theorem Vk:(px=qx/\py=qy)↔(-(qy-py)=0/\qx-px=0):=⟨λ⟨a,b⟩=>⟨by grind,by grind⟩,λ⟨a,b⟩=>⟨by grind,by grind⟩⟩
theorem MX (h:¬(px=qx/\py=qy)):Nz (mu px py qx qy):=Ux (uN h)
theorem Gm (s1:Sz k px)(s2:Sz k py)(s3:Sz k qx)(s4:Sz k qy)(h:¬(px=qx/\py=qy)):lA (40*k+40) (mu px py qx qy):=by
 have a:Sz (2*k+1) (-(qy-py)):=Sz.s (s4.sub s2).neg;have b:Sz (2*k+1) (qx-px):=Sz.s (s3.sub s1);have c:Sz (8*k+8) (-(-(qy-py)*px+(qx-px)*py)):=Sz.s ((a.mul s1).add (b.mul s2)).neg;have:=Ve (k:=8*k+8) (Sz.s a) (Sz.s b) c (uN h);exact ⟨Sz.s this.1,Sz.s this.2.1,Sz.s this.2.2⟩
def K6 (px py qx qy:Rat):Sp:=⟨kX (mu px py qx qy) px py,kX (mu px py qx qy) qx qy,false,false⟩
def F8 (b:Bool)(xs ys:List Nat):Rat:=mkRat (aA b xs) (val ys)
def Uz (b:Bool)(xs ys:List Nat):Bool:=iu b xs&&decide (ah (val ys)=ys)&&!decide (ys=[])&&decide (Nat.gcd (val xs) (val ys)=1)
def YY (b:Bool)(xs ys:List Nat):Bool:=!b&&decide (xs=[])&&decide (ys=[])
def endQ (b:Bool)(xs ys:List Nat)(no:Bool):Rat:=if no then 0 else F8 b xs ys
def VZ (b:Bool)(xs ys:List Nat)(no:Bool):Bool:=if no then YY b xs ys else Uz b xs ys
theorem Mv:Uz (decide (q.num<0)) (ah q.num.natAbs) (ah q.den)=true/\F8 (decide (q.num<0)) (ah q.num.natAbs) (ah q.den)=q:=by
 constructor
 ·unfold Uz
  have a:iu (decide (q.num<0)) (ah q.num.natAbs)=true:=by
   unfold iu;rw [af];by_cases h:q.num<0
   ·have:ah q.num.natAbs≠[]:=λe=>by have:=bE.1 e;omega
    simp [h,this]
   ·simp [h]
  have b:ah q.den≠[]:=λe=>q.den_nz (bE.1 e);rw [a,af,af];simp [b,q.reduced]
 ·unfold F8;rw [aC,af,Qt1]
theorem JZ (h:eC V v s)(hs:s.sz k)(hk:2*k<1099511627776) :
  aa prog 282 #[v] V λr V'=>r=qvQ s.emp:=by
 obtain ⟨f,g,p,i,j,q,rfl,l,m⟩:=h;refine xY V _ ⟨λc=>⟨λd n e=>(lK (l.le e) (m.le e) hs.1 hs.2).s ?_,λd o t=>?_⟩,λc u w=>?_⟩
 ·rintro r V2 x rfl;exact ⟨_,rfl,λy z=>by rw [Qx9] at c d;simp [Sp.emp,c,d]⟩
 ·rw [Qj0] at d;simp [Sp.emp,d]
 ·rw [Qj0] at c;simp [Sp.emp,c]
def FOk (l:L3)(s:Sp):Prop:=cX l=true/\s.can/\s.emp=false
theorem RE.raw {no:md}(h:RE V v q no)(hc:no=true->q=0):∃b xs ys,O_ V v b xs ys/\VZ b xs ys no=true/\endQ b xs ys no=q/\(∀k,Sz k q->xs.length<=k/\ys.length<=k):=by
 cases no with
 | true=>
  exact ⟨false,[],[],h.1 rfl,rfl,by rw [hc rfl];rfl,λk _=>⟨Qq4 _,Qq4 _⟩⟩
 | false=>
  obtain ⟨p,n,c,f,g,i,rfl,d,e⟩:=h.2 rfl;exact ⟨_,_,_,(qyW ⟨rfl,d,e⟩),Mv.1,Mv.2,λk a=>⟨ag a.1,ag a.2⟩⟩
theorem Hc (h:eC V v s)(hs:s.sz k)(hk:k<=1099511627776):aa prog 101 #[v] V λr V'=>JJ V' r s:=by
 obtain ⟨w,y,p,z,A,q,rfl,B,l⟩:=h
 have t:∀{V:ut} {v:un} {x:Rat} {no:md},RA V v x->(!no)=true->RE V v x no:=λh e=>by
  rw [Qx9] at e;subst e;exact ⟨(λh=>nomatch h),λ_=>h⟩
 have f:∀{V:ut} {x:Rat} {no:md},(!no)=false->RE V (dB #[qvQ false,hF none 0 0,hF none 0 0]) x no:=λe=>by
  rw [Qj0] at e;subst e;exact ⟨λ_=>O_.nil,(λh=>nomatch h)⟩
 refine Db V _ ⟨λg I m=>(E7 (B.le m) hs.1 hk).s ?_,λg=>⟨λc J C=>(E7 (l.le C) hs.2 hk).s ?_,λc K D=>?_⟩⟩
 ·rintro r V2 E n;have i:=n;obtain ⟨_,_,_,_,_,_,_,rfl⟩:=n.shape;refine qyZ ⟨rfl,λc L o=>(E7 (l.le (m.m (E.m o))) hs.2 hk).s ?_,λc M F=>?_⟩
  ·rintro r N G j;have d:=j;obtain ⟨_,_,_,_,_,_,_,rfl⟩:=j.shape;exact qyZ ⟨rfl,λO u=>⟨_,_,_,_,_,_,_,_,_,_,_,_,_,_,rfl,t (i.le (o.m (G.m u))) g,t (d.le u) c⟩⟩
  ·exact qyK ⟨rfl,t (i.le F) g,f c⟩
 ·rintro r P Q j;have d:=j;obtain ⟨_,_,_,_,_,_,_,rfl⟩:=j.shape;exact qyZ ⟨rfl,λR H=>⟨_,_,_,_,_,_,_,_,_,_,_,_,_,_,rfl,f g,t (d.le H) c⟩⟩
 ·exact qyK ⟨rfl,f g,f c⟩
theorem o_.api {r:un}(h:RL V r ((l.1:Rat)).num ((l.2.1:Rat)).num ((l.2.2:Rat)).num):RL V r l.1 l.2.1 l.2.2:=by
 simpa [Qd9] using h
theorem PC (h:GU V v l s)(sl:lA k l)(hs:s.sz k)(hk:k<=1099511627776):aa prog 123 #[v] V λr V'=>W3 V' r l s:=by
 obtain ⟨u,w,p,x,y,q,z,A,r,B,C,t,D,E,o,rfl,i,j⟩:=h;refine Da V _ λF c=>(Ns (i.le c) sl.1 sl.2.1 sl.2.2 hk).s ?_;rintro r V2 m d;have a:=o_.api d;obtain ⟨_,_,_,_,_,_,_,_,_,_,_,_,rfl⟩:=Bc d;refine qxW ⟨rfl,λG e=>(Hc (j.le (c.m (m.m e))) hs hk).s ?_⟩;rintro r H n f;have b:=f;obtain ⟨_,_,_,_,_,_,_,_,_,_,_,_,_,_,rfl,-,-⟩:=f;exact ⟨_,_,_,_,_,_,_,_,_,_,_,_,_,_,_,_,rfl,λI g=>⟨_,_,_,_,_,_,_,_,_,_,_,_,_,_,_,_,_,_,_,_,_,_,_,_,_,_,rfl,a.le (e.m (n.m g)),b.le g⟩⟩
theorem pW (h:cX l=true):Nz l:=by
 unfold cX at h;intro e;simp [e.1,e.2] at h
theorem Rq {a b c:Int}(h:¬(a=0/\b=0)):cX (Az a b c)=true:=by
 have p:0<bY a b c:=by
  apply Qr9;intro e;have d:=Qh2.1 e;have j:=Qh2.1 d.1;exact h ⟨by omega,by omega⟩
 have f:bY a b c∣a.natAbs:=Qs0 (Qj5 _ _) (Qj5 _ _);have g:bY a b c∣b.natAbs:=Qs0 (Qj5 _ _) (Qb5 _ _);have l:bY a b c∣c.natAbs:=Qb5 _ _;have m:∀{x:Int},bY a b c∣x.natAbs->((bY a b c:Nat):Int)∣x:=λh=>Qp0.1 (by rw [Qx6];exact h);have i:∀{x:Int},bY a b c∣x.natAbs->(x / (bY a b c:Int)).natAbs=x.natAbs / bY a b c:=λh=>by rw [Qs4 (m h),Qx6]
 have nz:∀{x:Int},bY a b c∣x.natAbs->x / (bY a b c:Int)=0->x=0:=λq e=>by
  have ⟨k,o⟩:=m q;rw [o,Qg6 _ (by omega)] at e;rw [o,e,Int.mul_zero]
 have e:bY (a / (bY a b c:Int)) (b / (bY a b c:Int)) (c / (bY a b c:Int))=1:=by
  show Nat.gcd (Nat.gcd (a / (bY a b c:Int)).natAbs (b / (bY a b c:Int)).natAbs) (c / (bY a b c:Int)).natAbs=1;rw [i f,i g,i l,Nat.gcd_div f g,Nat.gcd_div (show bY a b c∣Nat.gcd a.natAbs b.natAbs from Qj5 _ _) l];exact Nat.div_self p
 have n:¬(a / (bY a b c:Int)=0/\b / (bY a b c:Int)=0):=λ⟨d,j⟩=>h ⟨nz f d,nz g j⟩;show (decide (¬(a / (bY a b c:Int)=0/\b / (bY a b c:Int)=0))&&decide (bY (a / (bY a b c:Int)) (b / (bY a b c:Int)) (c / (bY a b c:Int))=1))=true;rw [decide_eq_true n,decide_eq_true e];rfl
theorem Rr (h:¬(a=0/\b=0)):cX (AH a b c)=true:=by
 refine Rq ?_;have i:a.den*b.den*c.den≠0:=Qb3 (Qb3 a.den_nz b.den_nz) c.den_nz;have d:(((a.den*b.den*c.den:Nat):Int):Rat)≠0:=by exact_mod_cast i
 rintro ⟨f,g⟩;rw [Qv1] at f g;exact h ⟨(Qg7.1 f).elim id λe=>absurd e d,(Qg7.1 g).elim id λe=>absurd e d⟩
theorem Rs (h:¬(px=qx/\py=qy)):cX (mu px py qx qy)=true:=Rr (uN h)
theorem Nk {x:L3}(h:RL V v x.1 x.2.1 x.2.2)(ho:cX x=true)(sl:lA k x)(hk:4*k+4<1099511627776:=by omega) :
  aa prog 37 #[v] V λr V'=>∃w,r=qvZ #[w,qvQ true]/\o_ V' w x:=by
 obtain ⟨p,n,s,i,j,l,q,m,e,rfl,c,d,f⟩:=h;have d1:=ag (show x.1.natAbs<2^k from sl.1.1);have d2:=ag (show x.2.1.natAbs<2^k from sl.2.1.1);have d3:=ag (show x.2.2.natAbs<2^k from sl.2.2.1);have b:=nM (V:=V) (decide (x.1<0)) (decide (x.2.1<0)) (decide (x.2.2<0)) c d f (by omega) (by omega) (by omega) (k:=k) (by rw [aC];exact sl.1) (by rw [aC];exact sl.2.1) (by rw [aC];exact sl.2.2) hk;rw [AP,aC,aC,aC] at b;refine b.s ?_;rintro r V2 o ⟨w,rfl,-,g⟩;have a:cX (x.1,x.2.1,x.2.2)=true:=ho;exact ⟨w,by rw [a],g a⟩
theorem lA.ah (h:lA k l)(hk:k<=1099511627776):(ah l.1.natAbs).length<=1099511627776/\(ah l.2.1.natAbs).length<=1099511627776/\(ah l.2.2.natAbs).length<=1099511627776:=by
 have d1:=ag (show l.1.natAbs<2^k from h.1.1);have d2:=ag (show l.2.1.natAbs<2^k from h.2.1.1);have d3:=ag (show l.2.2.natAbs<2^k from h.2.2.1);exact ⟨by omega,by omega,by omega⟩
def FAt (V:View)(ad:Addr)(l:L3)(s:Sp):Prop:=∃xs:List Value,W3 V (.agg xs.toArray) l s/\∀i x,xs[i]?=some x->V.at (ad.add i) x
theorem FAt.le {V V':ut}(h:FAt V ad l s)(e:V.Le V'):FAt V' ad l s:=by
 obtain ⟨xs,a,b⟩:=h;exact ⟨xs,a.le e,λi x c=>e.at (b i x c)⟩
structure O8 (V:View) (p:OA) (n:Nat) (fs:List (L3×Sp)):Prop where
 len:n=fs.length
 at_:∀(i:Nat)(h:i<fs.length),∃ad,ae p (i*14)=some ad/\FAt V ad fs[i].1 fs[i].2
theorem O8.le {V V':ut}{n:Nat}{fs:pz (L3×Sp)}(h:O8 V p n fs)(e:V.Le V'):O8 V' p n fs:=⟨h.len,λi a=>by have ⟨b,c,d⟩:=h.at_ i a;exact ⟨b,c,d.le e⟩⟩
theorem aX {j:Nat}(h:ae p j=some ad):p.isSome=true:=by
 cases p with
 | none=>cases h
 | some a=>rfl
def SAt (V:View)(ad:Addr)(s:Sp):Prop:=∃xs:List Value,oT V (.agg xs.toArray) s/\∀i x,xs[i]?=some x->V.at (ad.add i) x
theorem SAt.le {V V':ut}(h:SAt V ad s)(e:V.Le V'):SAt V' ad s:=by
 obtain ⟨xs,a,b⟩:=h;exact ⟨xs,a.le e,λi x c=>e.at (b i x c)⟩
structure LQ (V:View) (p:OA) (n:Nat) (ss:List Sp):Prop where
 len:n=ss.length
 at_:∀(i:Nat)(h:i<ss.length),∃ad,ae p (i*8)=some ad/\SAt V ad ss[i]
theorem LQ.le {V V':ut}{n:Nat}{ss:pz Sp}(h:LQ V p n ss)(e:V.Le V'):LQ V' p n ss:=⟨h.len,λi a=>by have ⟨b,c,d⟩:=h.at_ i a;exact ⟨b,c,d.le e⟩⟩
def xI (a b:Int):Int:=if 0<a/\b<0 then 2 else if (a=0/\b<=0)\/(b=0/\0<=a) then 1 else 0
def Sp.la (s:Sp)(t:Rat):Int:=if s.a then 1 else dI t s.lo
def Sp.lb (s:Sp)(t:Rat):Int:=if s.b then -1 else dI t s.hi
variable{V:View}{p:OA}{c k n:Nat}{v:Value}{px py qx qy:Rat}{ds xs ys zs:List Nat}{b b1 b2 b3:Bool}{l:L3}
def qX:List Sp->Rat->Int
 | [],_=>0
 | s::r,t=>if xI (s.la t) (s.lb t)≠0 then xI (s.la t) (s.lb t) else qX r t
theorem CG {ss:pz Sp}{t:Rat}(hl:LQ V p n ss)(ht:RQ V v t)(hs:∀s∈ss,s.sz k)(st:Sz k t)(hk:2*k<274877906944)(hn:ss.length<4611686018427387904) :
  aa prog 299 #[hF p n c,v] V λr V'=>r=qvK .i64 (qX ss t):=by
 obtain rfl:=hl.len;have m:=ht;obtain ⟨_,_,_,_,_,_,rfl⟩:=ht.shape;refine B0 V _ ⟨λz V'=>0<=z/\z<=ss.length/\qX ss t=qX (ss.drop z.toNat) t,λz=>(ss.length-z).toNat,⟨0,by and_intros<;>rfl,by omega,by omega,rfl⟩,?_⟩;rintro z N q ⟨O,P,g⟩;refine ⟨rfl,λl=>?_,λl Q R=>?_⟩
 ·have l:z<ss.length:=of_decide_eq_true l;obtain ⟨i,rfl⟩:∃i:Nat,z=i:=⟨z.toNat,by omega⟩;have u:i<ss.length:=by omega
  rw [Qq0] at g ⊢;have w:i64.wrap ((i:Int)+1)=(i:Int)+1:=au (by omega);rw [w];have x:=hs _ (Qq9 u);obtain ⟨C,d,xs,⟨S,pp,T,U,D,E,F,W,X,Y,Z,G,H,I,ex,J,K⟩,f⟩:=(hl.le q).at_ i u;have ex:=congrArg Array.toList (Value.agg.inj ex);dsimp only at ex;subst ex;rw [Qw4 u] at g;generalize ss[i]=s at *;simp only [qX] at g;refine ⟨aX d,⟨by omega,l⟩,_,_,_,_,_,_,_,_,_,_,_,_,_,_,s.a,s.b,C,by rw [d],f 0 _ rfl,f 1 _ rfl,f 2 _ rfl,f 3 _ rfl,f 4 _ rfl,f 5 _ rfl,f 6 _ rfl,f 7 _ rfl,λz _=>z=s.la t,⟨λh V2 y=>(fw (m.le (q.m y)) (J.le y) st x.1).s ?_,λh=>⟨1,by and_intros<;>rfl,?_⟩⟩,?_⟩
  ·rintro r V3 l3 rfl;exact ⟨_,rfl,_,by and_intros<;>rfl,by unfold Sp.la;rw [Qx9] at h;rw [h];rfl⟩
  ·unfold Sp.la;rw [Qj0] at h;rw [h];rfl
  rintro za V4 A rfl;refine ⟨rfl,λz _=>z=s.lb t,⟨λh V5 B=>(fw (m.le (q.m (A.m B))) (K.le (A.m B)) st x.2).s ?_,λh=>⟨-1,by and_intros<;>rfl,?_⟩⟩,?_⟩
  ·rintro r V6 l6 rfl;exact ⟨_,rfl,_,by and_intros<;>rfl,by unfold Sp.lb;rw [Qx9] at h;rw [h];rfl⟩
  ·unfold Sp.lb;rw [Qj0] at h;rw [h];rfl
  rintro zb V7 l7 rfl;generalize s.la t=a at *;generalize s.lb t=b at *;refine ⟨rfl,λz _=>z=decide (0<a/\b<0),⟨λh=>⟨_,by and_intros<;>rfl,?_⟩,λh=>⟨_,by and_intros<;>rfl,?_⟩⟩,?_⟩
  ·have h:0<a:=of_decide_eq_true h;simp [h]
  ·have h:¬0<a:=of_decide_eq_false h;simp [h]
  rintro z9 V8 l8 rfl;refine ⟨rfl,λh V9 l9=>?_,λh=>⟨λz _=>z=decide ((a=0/\b<=0)\/(b=0/\0<=a)),⟨λd=>⟨λo=>⟨_,by and_intros<;>rfl,?_⟩,λo=>⟨λe=>⟨_,by and_intros<;>rfl,?_⟩,λe=>⟨_,by and_intros<;>rfl,?_⟩⟩⟩,λd=>⟨λe=>⟨_,by and_intros<;>rfl,?_⟩,λe=>⟨_,by and_intros<;>rfl,?_⟩⟩⟩,?_⟩⟩
  ·have h:=of_decide_eq_true h;rw [g];simp [xI,h]
  ·simp at d o;simp [d,o]
  ·simp at d o e;simp [d,e]
  ·simp at d o e;simp [d,e];omega
  ·simp at d e;simp [d,e]
  ·simp at d e;simp [d,e]
  rintro L fQ M rfl;have h:=of_decide_eq_false h;refine ⟨rfl,λj fD bq=>?_,λj=>⟨(i:Int)+1,by dsimp only;omega,by and_intros<;>rfl,by omega,by omega,?_⟩⟩
  ·have j:=of_decide_eq_true j;rw [g];have:xI a b=1:=by unfold xI;rw [if_neg h,if_pos j]
   rw [this];rfl
  ·have j:=of_decide_eq_false j;have:xI a b=0:=by unfold xI;rw [if_neg h,if_neg j]
   rw [g,this];show _=qX (ss.drop ((i:Int)+1).toNat) t;rw [show ((i:Int)+1).toNat=i+1 from by omega];rfl
 ·have l:¬z<ss.length:=of_decide_eq_false l;rw [g,show z.toNat=ss.length from by omega,Qt7];rfl
theorem ND (x y:Rat):dI y x=- dI x y:=by
 unfold dI;rw [show y-x=-(x-y) from by grind];exact Int.sign_neg _
theorem Kd {q:Rat}(h:RQ V v q):aa prog 49 #[v] V λr V'=>RQ V' r (-q):=by
 obtain ⟨p,n,c,d,e,f,rfl,a,b⟩:=h;exact mM q a b
theorem SG {px py qx qy:Rat}:((oP px py qx qy).1.num / (bY (oP px py qx qy).1.num (oP px py qx qy).2.1.num (oP px py qx qy).2.2.num:Int),(oP px py qx qy).2.1.num / (bY (oP px py qx qy).1.num (oP px py qx qy).2.1.num (oP px py qx qy).2.2.num:Int),(oP px py qx qy).2.2.num / (bY (oP px py qx qy).1.num (oP px py qx qy).2.1.num (oP px py qx qy).2.2.num:Int))=mu px py qx qy:=by
 unfold oP mu AH Az;have e:∀x:Rat,(-x).den=x.den:=λx=>rfl;rw [e (-(qy-py)*px+(qx-px)*py)];rfl
theorem SH:((oP px py qx qy).1.num=0/\(oP px py qx qy).2.1.num=0)↔(px=qx/\py=qy):=by
 unfold oP;dsimp only;generalize hf:(-(qy-py)).den*(qx-px).den*(-(-(qy-py)*px+(qx-px)*py)).den=f;have b:f≠0:=by rw [←hf];exact Qb3 (Qb3 (Rat.den_nz _) (Rat.den_nz _)) (Rat.den_nz _)
 have a:((f:Int):Rat)≠0:=by exact_mod_cast b
 rw [Qv1,Qv1,Qg7,Qg7,or_iff_left a,or_iff_left a];exact Vk.symm
theorem Ox {u w:un}(hp:RP V u px py)(hq:RP V w qx qy)(s1:Sz k px)(s2:Sz k py)(s3:Sz k qx)(s4:Sz k qy)(hk1:1<=k)(hk:64*k+64<274877906944:=by omega) :
  aa prog 30 #[u,w] V λr V'=>(px=qx/\py=qy->∃l,r=qvZ #[l,qvQ false]/\RL V' l 0 0 0)/\(¬(px=qx/\py=qy)->∃l,r=qvZ #[l,qvQ true]/\RL V' l (mu px py qx qy).1 (mu px py qx qy).2.1 (mu px py qx qy).2.2):=by
 refine (jN hp hq s1 s2 s3 s4 hk1 hk).s ?_;rintro r V2 d ⟨a,b⟩;have e:=SG (px:=px) (py:=py) (qx:=qx) (qy:=qy);rw [SH] at a b;refine ⟨a,λh=>?_⟩;have ⟨l,c,g⟩:=b h;rw [←e];exact ⟨l,c,g⟩
theorem xG {u:un}(hp:RP V u px py)(hq:RP V v qx qy)(s1:Sz k px)(s2:Sz k py)(s3:Sz k qx)(s4:Sz k qy)(hk1:1<=k)(hk:400*k+400<274877906944:=by omega) :
  aa prog 202 #[u,v] V λr V'=>(px=qx/\py=qy->∃l,r=qvZ #[l,qvQ false]/\RF V' l (0,0,0) Sp.zero)/\(¬(px=qx/\py=qy)->∃l,r=qvZ #[l,qvQ true]/\RF V' l (mu px py qx qy) (K6 px py qx qy)):=by
 have a:=hp;have b:=hq;obtain ⟨_,_,_,_,_,_,_,_,_,_,_,_,_,_,rfl⟩:=uB hp;obtain ⟨_,_,_,_,_,_,_,_,_,_,_,_,_,_,rfl⟩:=uB hq;refine wE V _ λy d=>(Ox (a.le d) (b.le d) s1 s2 s3 s4 hk1).s ?_;rintro r V2 p ⟨w,x⟩;by_cases h:px=qx/\py=qy
 ·obtain ⟨l,rfl,e⟩:=w h;obtain ⟨_,_,_,_,_,_,_,_,_,_,_,_,rfl⟩:=Bc e;have z:∀V:ut,RQ V (dB #[qvQ false,hF none 0 0,hF none 0 0]) 0:=λV=>by have:=RQ.zero (V:=V);simpa using this
  refine ⟨_,_,_,_,_,_,_,_,_,_,_,_,_,rfl,λ_ A B=>⟨λ_=>⟨_,rfl,?_⟩,λg=>absurd h g⟩,λh=>nomatch h⟩;exact ⟨_,_,_,_,_,_,_,_,_,_,_,_,_,_,_,_,_,_,_,_,_,_,_,_,_,_,rfl,(qyJ ⟨rfl,RD.nil,RD.nil,RD.nil⟩),_,_,_,_,_,_,_,_,_,_,_,_,_,_,rfl,z _,z _⟩
 ·obtain ⟨l,rfl,e⟩:=x h;have i:=e;have sl:=Gm s1 s2 s3 s4 h;have nz:=MX h;obtain ⟨_,_,_,_,_,_,_,_,_,_,_,_,rfl⟩:=Bc e;refine ⟨_,_,_,_,_,_,_,_,_,_,_,_,_,rfl,(λh=>nomatch h),λ_ C c=>(yT (i.le c) (a.le (d.m (p.m c))) nz sl (Sz.s s1) (Sz.s s2)).s ?_⟩;rintro r D j q;have m:=q;obtain ⟨_,_,_,_,_,_,rfl⟩:=q.shape;refine qyZ ⟨rfl,λE f=>(yT (i.le (c.m (j.m f))) (b.le (d.m (p.m (c.m (j.m f))))) nz sl (Sz.s s3) (Sz.s s4)).s ?_⟩;rintro r F s t;have n:=t;obtain ⟨_,_,_,_,_,_,rfl⟩:=t.shape;refine qyZ ⟨rfl,λG o=>⟨λg=>absurd g h,λ_=>⟨_,rfl,?_⟩⟩⟩;exact ⟨_,_,_,_,_,_,_,_,_,_,_,_,_,_,_,_,_,_,_,_,_,_,_,_,_,_,rfl,i.le (c.m (j.m (f.m (s.m o)))),_,_,_,_,_,_,_,_,_,_,_,_,_,_,rfl,m.le (f.m (s.m o)),n.le o⟩
theorem D3 (h:RD V p n c ds)(hm:ds.length<=1099511627776:=by omega) :
  aa prog 118 #[hF p n c] V λr V'=>∃p1 n1 c1,r=hF p1 n1 c1/\RN V' p1 n1 c1 (val ds):=by
 have a:=h.len;refine LG V _ ⟨aK ds,h.sl,by simp [a],by omega,by omega,by simp,by simp [a],?_,?_⟩
 ·intro v e;simp only [aK,Qz0] at e;obtain ⟨d,-,rfl⟩:=e;rfl
 ·intro l J sp m f o q s b i;simp only [Qz1,Qc1,Qd3,Qn0] at i f ⊢;refine (er (copied h.fy a f i)).s ?_;rintro r V2 t ⟨k,rfl,g⟩;rw [aY h.fy] at g;exact ⟨_,_,_,rfl,λu w j=>⟨_,_,_,rfl,g.le j⟩⟩
theorem qD (b:md)(h:RD V p n c ds)(hm:ds.length<=1099511627776:=by omega) :
  aa prog 57 #[dB #[qvQ b,hF p n c]] V λr V'=>RI V' r (aA b ds):=by
 refine LD V _ λi a=>(D3 (h.le a) hm).s ?_;rintro r V2 j ⟨k,l,m,rfl,g⟩;refine ⟨_,_,_,rfl,λo d=>(fH b (g.le d)).s ?_⟩;rintro r q s ⟨t,u,v,rfl,e⟩;exact qyQ ⟨rfl,λw f=>⟨_,_,_,rfl,e.le f⟩⟩
theorem uf {b:md}(h:cK ds):(ah (aA b ds).natAbs).length<=ds.length:=by
 rw [eQ];exact bF h
theorem Nx (h:O_ V v b xs ys)(m1:xs.length<=274877906944)(m2:ys.length<=274877906944:=by omega) :
  aa prog 249 #[v] V λr V'=>RQ V' r (F8 b xs ys):=by
 obtain ⟨p,n,c,q,m,e,rfl,d,f⟩:=h;have d1:=uf (b:=b) d.fy;have d2:=bF f.fy;refine LH V _ λB i=>(D3 (f.le i)).s ?_;rintro r V2 t ⟨C,j,D,rfl,g⟩;have l:=g.len;refine ⟨_,_,_,rfl,λa u E=>?_,λa F o=>(qD b (d.le (i.m (t.m o)))).s ?_⟩
 ·have a:((j:Nat):Int)=0:=by simpa using a
  have:ah (val ys)=[]:=Qw5.1 (by omega);have:val ys=0:=bE.1 this;unfold F8;rw [this,Rat.mkRat_zero];have:=RQ.zero (V:=u);simpa using this
 ·have w:val ys≠0:=λe=>by
   rw [e] at l;have a:¬((j:Nat):Int)=0:=by simpa using a
   exact a (by rw [l];rfl)
  rintro r G x ⟨H,I,J,rfl,y⟩;refine qyQ ⟨rfl,λK s=>(nQ _ (y.le s) (g.le (o.m (x.m s))) (by omega) (by omega) w).s ?_⟩;rintro r L M k;have z:=k;obtain ⟨_,_,_,_,_,_,rfl⟩:=k.shape;exact qyZ ⟨rfl,λN A=>z.le A⟩
theorem xF (h:RD V p n c ds)(hm:ds.length<=1099511627776) :
  aa prog 117 #[hF p n c] V λr V'=>r=qvQ (decide (ah (val ds)=ds)):=by
 have d:=h.len;refine wA V _ ⟨λa e f=>?_,λa=>?_⟩
 ·have:ds=[]:=Qw5.1 (by simp at a;omega);subst this;rfl
 ·have a:0<n:=by simp at a;omega
  simp (disch:=omega) only [au];refine h.rd (n-1) (by omega) (by omega) λe f=>?_;congr 1;rw [Qz5];simp only [bne_iff_ne,ne_eq,decide_eq_true_eq];subst d;constructor
  ·intro b;exact tU h.fy (xd λ_=>by simpa using b)
  ·intro he b;have:wJ ds:=by rw [←he];exact jE _
   exact this.last (by omega) (by simpa using b)
theorem jM (b:md)(h:RD V p n c ds)(hm:ds.length<=1099511627776:=by omega) :
  aa prog 56 #[dB #[qvQ b,hF p n c]] V λr V'=>r=qvQ (iu b ds):=by
 have g:=h.len;refine wu V _ λi f=>(xF (h.le f) hm).s ?_;rintro r V2 j rfl;refine ⟨_,rfl,λd=>⟨λa k l=>?_,λa m o=>?_⟩,λd q s=>?_⟩
 ·rw [Qx9] at a;simp [iu,d,a]
 ·rw [Qj0] at a
  have e:decide (((n:Nat):Int)>0)=!decide (ds=[]):=by
   rw [Qz5,decide_eq_true_eq,Qx9,decide_eq_false_iff_not,←Qw5];omega
  rw [e];simp [iu,d,a]
 ·simp [iu,d]
def VD (V:View)(v:Value)(b1:Bool)(xs:List Nat)(b2:Bool)(ys:List Nat)(b3:Bool)(zs:List Nat):Prop:=∃p n c q m e s i j,v=.agg #[.bool b1,.slice p n c,.bool b2,.slice q m e,.bool b3,.slice s i j]/\RD V p n c xs/\RD V q m e ys/\RD V s i j zs
theorem VD.le {V V':ut}(h:VD V v b1 xs b2 ys b3 zs)(l:V.Le V'):VD V' v b1 xs b2 ys b3 zs:=by
 obtain ⟨p,n,c,q,m,e,s,i,j,rfl,a,b,d⟩:=h;exact qyJ ⟨rfl,a.le l,b.le l,d.le l⟩
def LSh (v:Value):Prop:=∃b1 p1 n1 c1 b2 p2 n2 c2 b3 p3 n3 c3,v=.agg #[.bool b1,.slice p1 n1 c1,.bool b2,.slice p2 n2 c2,.bool b3,.slice p3 n3 c3]
def O1 (b1:Bool)(xs:List Nat)(b2:Bool)(ys:List Nat)(b3:Bool)(zs:List Nat):L3:=(aA b1 xs,aA b2 ys,aA b3 zs)
theorem nf:jF b1 xs b2 ys b3 zs=(iu b1 xs&&iu b2 ys&&iu b3 zs&&cX (O1 b1 xs b2 ys b3 zs)):=by
 have e:=AP (a:=aA b1 xs) (b:=aA b2 ys) (c:=aA b3 zs)
 have d:∀z:Int,iu (decide (z<0)) (ah z.natAbs)=true:=by
  intro z;unfold iu;rw [af];by_cases h:z<0
  ·have:ah z.natAbs≠[]:=λe=>by have:=bE.1 e;omega
   simp [h,this]
  ·simp [h]
 unfold jF at e ⊢;rw [d,d,d,aC,aC,aC] at e;simp only [Wy7] at e;unfold O1;rw [←e];simp only [Bool.and_assoc]
theorem Kh (h:VD V v b1 xs b2 ys b3 zs)(m1:xs.length<=1000000)(m2:ys.length<=1000000)(m3:zs.length<=1000000:=by omega) :
  aa prog 19 #[v] V λr V'=>∃w,r=qvZ #[w,qvQ (jF b1 xs b2 ys b3 zs)]/\LSh w/\(jF b1 xs b2 ys b3 zs=true->RL V' w (aA b1 xs) (aA b2 ys) (aA b3 zs)):=by
 obtain ⟨p,n,c,q,m,e,s,i,j,rfl,C,D,E⟩:=h;have d1:=uf (b:=b1) C.fy;have d2:=uf (b:=b2) D.fy;have d3:=uf (b:=b3) E.fy
 have bad:∀{V':ut},jF b1 xs b2 ys b3 zs=false->∃w,Value.tuple #[dB #[qvQ false,hF none 0 0,qvQ false,hF none 0 0,qvQ false,hF none 0 0],qvQ false]=qvZ #[w,qvQ (jF b1 xs b2 ys b3 zs)]/\LSh w/\(jF b1 xs b2 ys b3 zs=true->RL V' w (aA b1 xs) (aA b2 ys) (aA b3 zs)):=λh=>by
  rw [h];exact ⟨_,rfl,(qxW rfl),(λh=>nomatch h)⟩
 refine JD V _ λV1 F=>(jM b1 (C.le F)).s ?_;rintro r V2 O rfl;refine ⟨_,rfl,λk V3 l3=>bad (by rw [Qx9] at k;rw [nf];simp [k]),λk V4 P=>(jM b2 (D.le (F.m (O.m P)))).s ?_⟩;rintro r V5 l5 rfl;refine ⟨_,rfl,λl V6 l6=>bad (by rw [Qx9] at l;rw [nf];simp [l]),λl V7 l7=>?_⟩;have Q:V.Le V7:=F.m (O.m (P.m (l5.m l7)));refine (jM b3 (E.le Q)).s ?_;rintro r V8 l8 rfl;refine ⟨_,rfl,λo V9 l9=>bad (by rw [Qx9] at o;rw [nf];simp [o]),λo fQ G=>?_⟩;rw [Qj0] at k l o;have f:V.Le fQ:=Q.m (l8.m G);refine (qD b1 (C.le f)).s ?_;rintro r fD R ⟨pa,na,ca,rfl,S⟩;refine qyQ ⟨rfl,λgS u=>(qD b2 (D.le (f.m (R.m u)))).s ?_⟩;rintro r j7 H ⟨pb,nb,cb,rfl,T⟩;refine qyQ ⟨rfl,λlB t=>(qD b3 (E.le (f.m (R.m (u.m (H.m t)))))).s ?_⟩;rintro r jI z ⟨pc,nc,cc,rfl,gc⟩;refine qyQ ⟨rfl,λlH g=>(iA (x:=(aA b1 xs).natAbs) (y:=(aA b2 ys).natAbs) (S.le (u.m (H.m (t.m (z.m g))))) (T.le (t.m (z.m g))) (by omega)).s ?_⟩;rintro r lC A ⟨pg,I,cg,rfl,U⟩;have hg:=U.len
 have J:(ah (Nat.gcd (aA b1 xs).natAbs (aA b2 ys).natAbs)).length<=274877906944:=by
  by_cases W:(aA b1 xs).natAbs=0
  ·rw [W,Qs9];omega
  ·have:=aG (Ww5 (aA b2 ys).natAbs (Qr9 W));omega
 have ok:jF b1 xs b2 ys b3 zs=cX (O1 b1 xs b2 ys b3 zs):=by rw [nf,k,l,o];rfl
 have rl:∀V':ut,lC.Le V'->RL V' (dB #[qvQ (decide (aA b1 xs<0)),hF pa na ca,qvQ (decide (aA b2 ys<0)),hF pb nb cb,qvQ (decide (aA b3 zs<0)),hF pc nc cc]) (aA b1 xs) (aA b2 ys) (aA b3 zs):=λV' K=>
  ⟨_,_,_,_,_,_,_,_,_,rfl,S.le (u.m (H.m (t.m (z.m (g.m (A.m K)))))),T.le (t.m (z.m (g.m (A.m K)))),gc.le (g.m (A.m K))⟩
 have X:(Nat.gcd (aA b1 xs).natAbs (aA b2 ys).natAbs=0)↔(aA b1 xs=0/\aA b2 ys=0):=by rw [Qh2];omega
 have d:I=0↔(aA b1 xs=0/\aA b2 ys=0):=by
  rw [←X,←@bE (Nat.gcd (aA b1 xs).natAbs (aA b2 ys).natAbs),←Qw5];omega
 refine ⟨_,_,_,rfl,λa mE L=>?_,λa Cs lU=>?_⟩
 ·have a:¬I=0:=by have:=of_decide_eq_true a;omega
  rw [d] at a;refine (iA (x:=Nat.gcd (aA b1 xs).natAbs (aA b2 ys).natAbs) (y:=(aA b3 zs).natAbs) (U.le L) (gc.le (g.m (A.m L))) J).s ?_;rintro r pf du ⟨ph,nh,ch,rfl,gh⟩;refine ⟨_,_,_,rfl,λvh Y=>mL.s ?_⟩;rintro r qB Z ⟨po,no,co,rfl,go⟩
  have M:(ah (Nat.gcd (Nat.gcd (aA b1 xs).natAbs (aA b2 ys).natAbs) (aA b3 zs).natAbs)).length<=1099511627776:=by
   have:=aG (Ww5 (aA b3 zs).natAbs (Qr9 λe=>a (X.1 e)));omega
  refine ⟨_,_,_,rfl,λtC N=>(iW (x:=Nat.gcd (Nat.gcd (aA b1 xs).natAbs (aA b2 ys).natAbs) (aA b3 zs).natAbs) (y:=1) (gh.le (Y.m (Z.m N))) (go.le N) M (by decide)).s ?_⟩;rintro r rk ij rfl
  have B:(mi (Nat.gcd (Nat.gcd (aA b1 xs).natAbs (aA b2 ys).natAbs) (aA b3 zs).natAbs) 1==0)=cX (O1 b1 xs b2 ys b3 zs):=by
   unfold cX O1 bY;dsimp only;rw [decide_eq_true a,Wy7];rw [Qz5,beq_iff_eq,decide_eq_true_eq];exact ko
  refine ⟨_,rfl,λzk kt=>⟨_,by rw [ok,←B],(qxW rfl),λ_=>rl zk (L.m (du.m (Y.m (Z.m (N.m (ij.m kt))))))⟩⟩
 ·have a:I=0:=by have:=of_decide_eq_false a;omega
  rw [d] at a;have B:cX (O1 b1 xs b2 ys b3 zs)=false:=by unfold cX O1;simp [a.1,a.2]
  exact ⟨_,by rw [ok,B],(qxW rfl),λh=>by rw [ok,B] at h;cases h⟩
theorem FQ (h:iu b xs=true):b=decide (aA b xs<0)/\xs=ah (aA b xs).natAbs:=by
 unfold iu at h;simp only [Qw7,decide_eq_true_eq,Qg3,Qx9] at h;obtain ⟨a,c⟩:=h;refine ⟨?_,by rw [eQ,a]⟩
 cases b with
 | false=>simp [aA]
 | true=>
  have:xs≠[]:=by simpa using c
  have:val xs≠0:=λe=>this (by rw [←a,e];rfl);simp [aA];omega
structure Zt (V:View) (p:OA) (n:Nat) (l:List Nat):Prop where
 len:n=l.length
 at_:∀(i:Nat)(h:i<l.length),∃ad q e,ae p (i*1)=some ad/\V.at ad (.slice q l[i] e)
theorem Zt.le {V V':ut}{l:pz Nat}(h:Zt V p n l)(e:V.Le V'):Zt V' p n l:=⟨h.len,λi a=>by have ⟨b,q,c,d,f⟩:=h.at_ i a;exact ⟨b,q,c,d,e.at f⟩⟩
theorem TC {l:pz Nat}(N:Int)(h:Zt V p n l)(hn:l.length<1000000) :
  aa prog 55 #[qvK .i64 N,hF p n c] V λr V'=>∃b,r=qvQ b/\(b=true->∀m∈l,(m:Int)<=N):=by
 obtain rfl:=h.len;refine Cb V _ ⟨λz _=>0<=z/\z<=l.length/\∀i (d:i<l.length),(i:Int)<z->((l[i]:Nat):Int)<=N,λz=>(l.length-z).toNat,⟨0,by and_intros<;>rfl,by omega,by omega,λi d h=>by omega⟩,?_⟩;rintro z x o ⟨y,A,g⟩;refine ⟨rfl,λa=>?_,λa B C=>⟨true,rfl,λ_ m hm=>?_⟩⟩
 ·have a:z<l.length:=of_decide_eq_true a;obtain ⟨i,rfl⟩:∃i:Nat,z=i:=⟨z.toNat,by omega⟩;have d:i<l.length:=by omega
  rw [Qq0];have w:i64.wrap ((i:Int)+1)=(i:Int)+1:=au (by omega);rw [w];obtain ⟨s,q,e,k,t⟩:=(h.le o).at_ i d;refine ⟨aX k,⟨by omega,a⟩,q,l[i],e,⟨s,k,t⟩,λf V2 D=>⟨false,rfl,(λh=>nomatch h)⟩,λf=>⟨(i:Int)+1,by dsimp only;omega,by and_intros<;>rfl,by omega,by omega,λj u v=>?_⟩⟩;have f:¬((l[i]:Nat):Int)>N:=of_decide_eq_false f;by_cases e:j=i
  ·subst e;omega
  ·exact g j u (by omega)
 ·have a:¬z<l.length:=of_decide_eq_false a;obtain ⟨i,d,rfl⟩:=Qd1.1 hm;exact g i d (by omega)
theorem PH {bk:Nat}{p1 n1 c1 b2 p2 n2 c2 b3 p3 n3 c3}{ty:TypeId}(N:Int)(h:V.a_ bk (.cells #[qvQ b1,hF p1 n1 c1,qvQ b2,hF p2 n2 c2,qvQ b3,hF p3 n3 c3] ty (0,0))) :
  aa prog 18 #[qvK .i64 N,hF (some ⟨bk,0,none⟩) 1 c] V λr V'=>∃b,r=qvQ b/\(b=true->(n1:Int)<=N/\(n2:Int)<=N/\(n3:Int)<=N):=by
 have a:∀{g:ut},V.Le g->∀(i:Nat)(x:un),([Value.bool b1,hF p1 n1 c1,qvQ b2,hF p2 n2 c2,qvQ b3,hF p3 n3 c3]:pz un)[i]?=some x->g.at ((⟨bk,0,none⟩:Addr).add i) x:=λl i x j=>by rw [add_zero'];exact l.at (dF (xs:=[Value.bool b1,hF p1 n1 c1,qvQ b2,hF p2 n2 c2,qvQ b3,hF p3 n3 c3]) h j)
 refine yx V _ ⟨λz _=>z=0\/(z=1/\((n1:Int)<=N/\(n2:Int)<=N/\(n3:Int)<=N)),λz=>(1-z).toNat,⟨0,by and_intros<;>rfl,.inl rfl⟩,?_⟩;rintro z g f p;refine ⟨rfl,λd=>?_,λd t u=>⟨true,rfl,λ_=>?_⟩⟩
 ·have d:z<1:=of_decide_eq_true d;obtain rfl:z=0:=by rcases p with h|h<;>omega
  have w:i64.wrap ((0:Int)+1)=1:=au (by omega);rw [w];refine ⟨rfl,⟨by omega,by omega⟩,_,_,_,_,_,_,_,_,_,_,_,_,(⟨bk,0,none⟩:Addr),by rfl,a f 0 _ rfl,a f 1 _ rfl,a f 2 _ rfl,a f 3 _ rfl,a f 4 _ rfl,a f 5 _ rfl,λV2 y e k=>?_⟩
  have q:Zt V2 (some ⟨e,0,none⟩) 3 [n1,n2,n3]:=by
   refine ⟨rfl,λi m=>?_⟩;have n:=λx j=>dF (i:=i) (v:=x) (xs:=[Value.slice p1 n1 c1,hF p2 n2 c2,hF p3 n3 c3]) k j;have o:ae (some ⟨e,0,none⟩) (i*1)=some ⟨e,i,none⟩:=by simp [ae,add_zero']
   have m:i=0\/i=1\/i=2:=by have:i<3:=m;omega
   rcases m with rfl|rfl|rfl
   ·exact ⟨_,_,_,o,n _ rfl⟩
   ·exact ⟨_,_,_,o,n _ rfl⟩
   ·exact ⟨_,_,_,o,n _ rfl⟩
  refine (TC N q (by simp)).s ?_;rintro r A B ⟨b,rfl,s⟩;refine ⟨_,rfl,λJ=>⟨λh C D=>⟨false,rfl,(λh=>nomatch h)⟩,λh=>⟨1,by dsimp only;omega,by and_intros<;>rfl,.inr ⟨rfl,?_⟩⟩⟩⟩;rw [Qj0] at h;have:=s h;exact ⟨this n1 (by simp),this n2 (by simp),this n3 (by simp)⟩
 ·have d:¬z<1:=of_decide_eq_false d;rcases p with h|h
  ·omega
  ·exact h.2
def RT (V:View):OA->Tr->Prop
 | p,.leaf i=>∃(b:Nat)(c0 c1 c2 c3 c4 c5 c6 c7 c8:Value)(r:OA),p=some ⟨b,0,none⟩/\V.a_ b (.cells #[c0,c1,c2,c3,c4,c5,c6,c7,c8,.pointer none,.pointer r,.bool i] 270 (0,0))
 | p,.node l x y=>∃(b:Nat)(x1 x2:Int)(x3:OA)(y1 y2:Int)(y3:OA)(z1 z2:Int)(z3:OA)(pl pr:OA)(i:Bool),p=some ⟨b,0,none⟩ /\
   V.a_ b (.cells #[.int .i64 x1,.int .i64 x2,.pointer x3,.int .i64 y1,.int .i64 y2,.pointer y3,.int .i64 z1,.int .i64 z2,.pointer z3,.pointer pl,.pointer pr,.bool i] 270 (0,0)) /\
   zf V (.agg #[.int .i64 x1,.int .i64 x2,.pointer x3,.int .i64 y1,.int .i64 y2,.pointer y3,.int .i64 z1,.int .i64 z2,.pointer z3]) l.1 l.2.1 l.2.2/\RT V pl x/\RT V pr y
theorem RT.le {V V':ut}(h:V.Le V'):∀{t:Tr} {p:OA},RT V p t->RT V' p t
 | .leaf i,p,⟨b,c0,c1,c2,c3,c4,c5,c6,c7,c8,r,e,hb⟩=>⟨b,c0,c1,c2,c3,c4,c5,c6,c7,c8,r,e,h _ _ hb⟩
 | .node l x y,p,⟨b,x1,x2,x3,y1,y2,y3,z1,z2,z3,pl,pr,i,e,hb,hl,hx,hy⟩=>⟨b,x1,x2,x3,y1,y2,y3,z1,z2,z3,pl,pr,i,e,h _ _ hb,hl.le h,RT.le h hx,RT.le h hy⟩
theorem RT.isS {t:Tr}(h:RT V p t):p.isSome=true:=by
 cases t with
 | leaf i=>obtain ⟨b,a,c,d,e,f,g,j,k,m,r,rfl,n⟩:=h;rfl
 | node l x y=>obtain ⟨b,o,q,s,u,v,w,z,A,B,pl,C,i,rfl,-⟩:=h;rfl
theorem iS (i:md):aa prog 218 #[qvQ i] V λr V'=>∃p,r=qvW p/\RT V' p (.leaf i):=
 Ja V _ λc d b a=>⟨_,rfl,b,_,_,_,_,_,_,_,_,_,_,rfl,a⟩
theorem dR {t:Tr}(h:RT V p t):aa prog 155 #[qvW p] V λr V'=>r=qvQ t.pR:=by
 cases t with
 | leaf i=>
  obtain ⟨b,g,j,k,m,n,o,q,s,u,r,rfl,c⟩:=h;exact oQ V _ ⟨rfl,rfl,_,F9 c 9 rfl,λd e=>rfl⟩
 | node l x y=>
  obtain ⟨b,v,w,z,A,B,C,D,E,F,pl,G,i,rfl,c,H,f,I⟩:=h;refine oQ V _ ⟨rfl,rfl,_,F9 c 9 rfl,λd e=>?_⟩;have:=f.isS
  cases pl with
  | none=>cases this
  | some a=>rfl
theorem Np {q:OA}{x y:Tr}(hl:zf V v l.1 l.2.1 l.2.2)(hx:RT V p x)(hy:RT V q y) :
  aa prog 219 #[v,qvW p,qvW q] V λr V'=>∃p',r=qvW p'/\RT V' p' (.node l x y):=by
 have a:=hl;obtain ⟨e,f,g,h,i,j,k,m,n,rfl,-⟩:=hl;exact Lj V _ λo c b d=>⟨_,rfl,b,_,_,_,_,_,_,_,_,_,_,_,_,rfl,d,a.le c,hx.le c,hy.le c⟩
def VC (V:View)(v:Value)(l:L3):Prop:=RL V v l.1 l.2.1 l.2.2\/cX l=false/\∃b1 p n c xs b2 q m e ys b3 s i j zs,v=.agg #[.bool b1,.slice p n c,.bool b2,.slice q m e,.bool b3,.slice s i j]/\RD V p n c xs/\RD V q m e ys/\RD V s i j zs /\
 jF b1 xs b2 ys b3 zs=false/\(xs.length<=1000000/\ys.length<=1000000/\zs.length<=1000000)/\Sz 1000000 (aA b1 xs:Rat)/\Sz 1000000 (aA b2 ys:Rat)/\Sz 1000000 (aA b3 zs:Rat)
theorem VC.le {V V':ut}(h:VC V v l)(e:V.Le V'):VC V' v l:=by
 rcases h with h|⟨a,b,p,n,c,xs,d,q,m,f,g,k,s,i,j,o,r,t,u,w,x⟩
 ·exact .inl (h.le e)
 ·exact .inr ⟨a,b,p,n,c,xs,d,q,m,f,g,k,s,i,j,o,r,t.le e,u.le e,w.le e,x⟩
theorem VC.ok (h:VC V v l)(ho:cX l=true):RL V v l.1 l.2.1 l.2.2:=by
 rcases h with h|⟨h,-⟩
 ·exact h
 ·rw [ho] at h;cases h
theorem Fb {x:L3}(h:VC V v x)(hb:Bd x) :
  aa prog 37 #[v] V λr V'=>∃w,r=qvZ #[w,qvQ (cX x)]/\Th w/\(cX x=true->zf V' w x.1 x.2.1 x.2.2):=by
 rcases h with h|⟨a,b,p,n,c,xs,d,q,m,u,y,e,s,i,j,z,rfl,f,g,k,l,⟨A,B,C⟩,s1,s2,s3⟩
 ·exact Hl h hb
 ·refine (nM b d e f g k (by omega) (by omega) (by omega) s1 s2 s3).s ?_;rintro r V2 D ⟨w,rfl,o,t⟩;rw [l] at t ⊢;rw [a];exact ⟨w,rfl,o,λh=>by cases h⟩
def NR (V:View)(vs:List Value)(l:List Nd):Prop:=∀(i:Nat)(d:Nd),l[i]?=some d->∃(b1:Bool)(p1:OA)(n1 c1:Nat)(b2:Bool)(p2:OA)(n2 c2:Nat)(b3:Bool)(p3:OA)(n3 c3:Nat),
 (∀j v,([.bool b1,.slice p1 n1 c1,.bool b2,.slice p2 n2 c2,.bool b3,.slice p3 n3 c3,.int .i64 d.left,.int .i64 d.right]:List Value)[j]?=some v->vs[i*8+j]?=some v) /\
 VC V (.agg #[.bool b1,.slice p1 n1 c1,.bool b2,.slice p2 n2 c2,.bool b3,.slice p3 n3 c3]) d.ln
theorem NR.le {V V':ut}{vs:pz un}{l:pz Nd}(h:NR V vs l)(hl:V.Le V'):NR V' vs l:=λi d a=>by
 have ⟨b,c,e,f,g,j,k,m,n,o,p,q,r,s⟩:=h i d a;exact ⟨b,c,e,f,g,j,k,m,n,o,p,q,r,s.le hl⟩
structure NS (V:View) (p:OA) (n c:Nat) (l:List Nd):Prop where
 len:n=l.length
 cap:n<=c
 row:∃vs,V.sl p vs/\NR V vs l
 Ik:p.isNone=true->c=0
theorem NS.le {V V':ut}{l:pz Nd}(h:NS V p n c l)(hl:V.Le V'):NS V' p n c l:=by
 obtain ⟨a,b,⟨d,e,f⟩,g⟩:=h;exact ⟨a,b,⟨d,hl.sl e,f.le hl⟩,g⟩
theorem NS.nil:NS V none 0 0 []:=⟨rfl,Qq2 _,⟨[],λi v h=>by simp at h,λi d h=>by simp at h⟩,λ_=>rfl⟩
theorem NS.isS {l:pz Nd}(h:NS V p n c l)(hn:n≠0):p.isSome=true:=by
 cases p with
 | none=>have:=h.Ik rfl;have:=h.cap;omega
 | some a=>rfl
def pj (l:List Bool):List Value:=l.map .bool
theorem Nh {l:pz md}{i:Nat}(h:l[i]?=some b):(pj l)[i]?=some (qvQ b):=by simp [pj,h]
theorem NS.rd {l:pz Nd}(h:NS V p n c l){d:Nd}(hd:l[k]?=some d) :
  ∃(b1:md)(p1:OA)(n1 c1:Nat)(b2:md)(p2:OA)(n2 c2:Nat)(b3:md)(p3:OA)(n3 c3:Nat)(a:Addr),ae p (k*8)=some a /\
   V.at (a.add 0) (qvQ b1)/\V.at (a.add 1) (hF p1 n1 c1)/\V.at (a.add 2) (qvQ b2)/\V.at (a.add 3) (hF p2 n2 c2)/\V.at (a.add 4) (qvQ b3)/\V.at (a.add 5) (hF p3 n3 c3)/\V.at (a.add 6) (qvK .i64 d.left)/\V.at (a.add 7) (qvK .i64 d.right) /\
   VC V (dB #[qvQ b1,hF p1 n1 c1,qvQ b2,hF p2 n2 c2,qvQ b3,hF p3 n3 c3]) d.ln:=by
 obtain ⟨s,b,g⟩:=h.row;have ⟨b1,p1,n1,c1,b2,p2,n2,c2,b3,p3,n3,c3,f,i⟩:=g k d hd;obtain ⟨m,rfl,-⟩:=b _ _ (f 0 _ rfl)
 have key:∀j v,([qvQ b1,hF p1 n1 c1,qvQ b2,hF p2 n2 c2,qvQ b3,hF p3 n3 c3,qvK .i64 d.left,qvK .i64 d.right]:pz un)[j]?=some v->V.at ((m.add (k*8)).add j) v:=by
  intro j v o;have ⟨q,e,r⟩:=b _ _ (f j v o);cases e;rw [JV];exact r
 exact ⟨b1,p1,n1,c1,b2,p2,n2,c2,b3,p3,n3,c3,_,rfl,key 0 _ rfl,key 1 _ rfl,key 2 _ rfl,key 3 _ rfl,key 4 _ rfl,key 5 _ rfl,key 6 _ rfl,key 7 _ rfl,i⟩
theorem J6 {l:pz Nd}(hb:∀x∈l,Bd x.ln)(hlen:l.length<=65536):∀(f:Nat) (n:Int) (s:RS) {V:ut} {rb sb:Nat} {Zi:OA} {nc:Nat},NS V Zi l.length nc l ->
  V.w.heap[rb]?=some (.cells #[hF Zi l.length nc,hF (some ⟨sb,0,none⟩) l.length l.length,qvK .i64 (s.oZ:Int),qvQ s.bad] 267 (0,0))->V.X rb ->
  V.w.heap[sb]?=some (.cells (pj s.seen).toArray 4 (0,0))->V.X sb->rb≠sb->s.seen.length=l.length->s.seen.count false<f->s.oZ+s.seen.count false<=l.length ->
  aa prog 154 #[qvW (some ⟨rb,0,none⟩),qvK .i64 n] V λr V'=>∃p,r=qvW p/\RT V' p (iO l f n s).1 /\
   V'.w.heap[rb]?=some (.cells #[hF Zi l.length nc,hF (some ⟨sb,0,none⟩) l.length l.length,qvK .i64 ((iO l f n s).2.oZ:Int),qvQ (iO l f n s).2.bad] 267 (0,0)) /\
   V'.w.heap[sb]?=some (.cells (pj (iO l f n s).2.seen).toArray 4 (0,0)):=by
 intro f
 induction f with
 | zero=>intro n s V rb sb Zi nc _ _ _ _ _ _ _ h;omega
 | succ f ih=>
  intro n s V rb sb Zi nc m R S T W Y F b5 b6;refine tm rb sb Zi l.length nc l.length l.length s.oZ s.bad (pj s.seen) n V _ R S T W Y ⟨λy V1 l1=>(iS _).s ?_,λy=>⟨λE V4 l4=>(iS _).s ?_,λE=>⟨λG V7 l7=>(iS _).s ?_,λG=>⟨λM fQ b7=>(iS _).s ?_,λM=>?_⟩⟩⟩⟩
  ·rintro r V2 I ⟨p,rfl,d⟩;have Z:n=-2:=by simpa using y
   have e:iO l (f+1) n s=(.leaf true,s):=by simp [iO,Z]
   rw [y] at d;exact ⟨p,rfl,λJ j g c=>⟨p,rfl,by rw [e];exact d.le j,by rw [e];exact g,by rw [e];exact c⟩⟩
  ·rintro r V2 I ⟨p,rfl,d⟩;have Z:n=-1:=by simpa using E
   have e:iO l (f+1) n s=(.leaf false,s):=by simp [iO,Z]
   rw [y] at d;exact ⟨p,rfl,λJ j g c=>⟨p,rfl,by rw [e];exact d.le j,by rw [e];exact g,by rw [e];exact c⟩⟩
  ·rintro r V2 I ⟨p,rfl,d⟩;have C:¬n=-2:=by simpa using y
   have D:¬n=-1:=by simpa using E
   have z:n<0:=by simpa using G
   have e:iO l (f+1) n s=(.leaf false,{ s with bad:=true }):=by simp [iO,C,D,z]
   exact ⟨p,rfl,λJ j g c=>⟨p,rfl,by rw [e];exact d.le j,by rw [e];exact g,by rw [e];exact c⟩⟩
  ·rintro r V2 I ⟨p,rfl,d⟩;have C:¬n=-2:=by simpa using y
   have D:¬n=-1:=by simpa using E
   have z:¬n<0:=by simpa using G
   have N:(l.length:Int)<=n:=by simpa using M
   have e:iO l (f+1) n s=(.leaf false,{ s with bad:=true }):=by
    simp only [iO,C,D,z,if_false];rw [Qz6 (by omega)]
   exact ⟨p,rfl,λJ j g c=>⟨p,rfl,by rw [e];exact d.le j,by rw [e];exact g,by rw [e];exact c⟩⟩
  ·have C:¬n=-2:=by simpa using y
   have D:¬n=-1:=by simpa using E
   have z:¬n<0:=by simpa using G
   have N:n<(l.length:Int):=by simpa using M
   clear y E G M;obtain ⟨k,rfl⟩:=Qw2 (Wq7.1 z);have hk:k<l.length:=by omega
   have a8:k<s.seen.length:=by omega
   simp only [Qq0,Qk6,Qz1];have i:s.seen[k]?=some s.seen[k]:=Qq1 a8;have t:l[k]?=some l[k]:=Qq1 hk;refine ⟨⟨by omega,N⟩,s.seen[k],Nh i,λh4 j7 bU=>(iS _).s ?_,λh4=>⟨⟨by omega,N⟩,by simp [pj];omega,m.isS (by omega),⟨by omega,N⟩,?_⟩⟩
   ·rintro r V2 I ⟨p,rfl,d⟩
    have e:iO l (f+1) (k:Int) s=(.leaf false,{ s with bad:=true }):=by
     simp only [iO,C,D,z,if_false,Qq0];rw [i,h4,t]
    exact ⟨p,rfl,λJ j g c=>⟨p,rfl,by rw [e];exact d.le j,by rw [e];exact g,by rw [e];exact c⟩⟩
   ·have ⟨b1,p1,m1,c1,b2,p2,m2,c2,b3,p3,m3,c3,a,ha,a0,a1,a2,a3,a4,a5,a6,a7,hL⟩:=m.rd t;refine ⟨b1,p1,m1,c1,b2,p2,m2,c2,b3,p3,m3,c3,_,_,a,ha,a0,a1,a2,a3,a4,a5,a6,a7,λlH cq=>(Fb (hL.le cq) (hb _ (Qq9 hk))).s ?_⟩;rintro r lC b_ ⟨w,rfl,⟨x1,x2,x3,y1,y2,y3,z1,z2,z3,rfl⟩,hw⟩;rw [h4] at i;have K:(pj s.seen).set k (qvQ true)=pj (s.seen.set k true):=by simp [pj,List.map_set]
    have O:=count_set i;have w1:i64.wrap ((s.oZ:Int)+1)=((s.oZ+1:Nat):Int):=by rw [au (by omega)];omega
    rw [K,w1];refine ⟨_,_,_,_,_,_,_,_,_,_,rfl,λA mE cj=>(iS _).s ?_,λA qB gi a9 b0 g c g3 g4 g5=>?_⟩
    ·rintro r V2 I ⟨p,rfl,d⟩;have A:cX l[k].ln=false:=by simpa using A
     have e:iO l (f+1) (k:Int) s=(.leaf false,⟨s.seen.set k true,s.oZ+1,true⟩):=by
      simp only [iO,C,D,z,if_false,Qq0];rw [i,t];simp [A]
     exact ⟨p,rfl,λJ j g c=>⟨p,rfl,by rw [e];exact d.le j,by rw [e];exact g,by rw [e];exact c⟩⟩
    ·have A:cX l[k].ln=true:=by simpa using A
     have lv:V.Le qB:=cq.m (b_.m gi);have P:∀(U:ut)(u v:Nat),U.H u->U.H v->(U.ar [u,v]).X u/\(U.ar [u,v]).X v:=λU u v hu hv=>⟨⟨by simp,hu⟩,⟨by simp,hv⟩⟩;have i1:=ih l[k].left ⟨s.seen.set k true,s.oZ+1,s.bad⟩ (V:=qB.ar [a9,b0]) (m.le lv) g (P _ _ _ c g4).1 g3 (P _ _ _ c g4).2 g5 (by simp [F]) (by dsimp only;omega) (by dsimp only;omega);have hm:=AZ l f l[k].left ⟨s.seen.set k true,s.oZ+1,s.bad⟩;have b4:=FZ l f l[k].left ⟨s.seen.set k true,s.oZ+1,s.bad⟩
     have e:iO l (f+1) (k:Int) s=(.node l[k].ln (iO l f l[k].left ⟨s.seen.set k true,s.oZ+1,s.bad⟩).1 (iO l f l[k].right (iO l f l[k].left ⟨s.seen.set k true,s.oZ+1,s.bad⟩).2).1,(iO l f l[k].right (iO l f l[k].left ⟨s.seen.set k true,s.oZ+1,s.bad⟩).2).2):=by
      simp only [iO,C,D,z,if_false,Qq0];rw [i,t];simp [A]
     rw [e];clear e;dsimp only;generalize iO l f l[k].left ⟨s.seen.set k true,s.oZ+1,s.bad⟩=q1 at *;obtain ⟨t1,s1⟩:=q1;dsimp only at i1 hm b4 ⊢;refine i1.s ?_;rintro r tC gV ⟨p,rfl,d,e1,e2⟩;refine ⟨p,rfl,_,_,_,_,_,e1,_,e2,λQ ij VM Ts f1 f2 f3 f4 f5=>?_⟩;have L:qB.Le Q:=λb o h=>ij b o (gV b o h);have i2:=ih l[k].right s1 (V:=Q.ar [VM,Ts]) (m.le (lv.m L)) f1 (P _ _ _ f2 f4).1 f3 (P _ _ _ f2 f4).2 f5 (by rw [hm.2];simp [F]) (by omega) (by omega);generalize iO l f l[k].right s1=q2 at *;obtain ⟨t2,s2⟩:=q2;dsimp only at i2 ⊢;refine i2.s ?_;rintro r zk kt ⟨q,rfl,hq,e3,e4⟩;refine ⟨q,rfl,_,_,_,_,_,e3,_,e4,λCs lU=>?_⟩;have B:Q.Le zk:=λb o h=>kt b o h;have Yf:zk.Le Cs:=λb o h=>lU b o h;have lw:lC.Le Cs:=gi.m (L.m (B.m Yf));have Ye:tC.Le Q:=λb o h=>ij b o h;refine (Np ((hw A).le lw) (d.le (Ye.m (B.m Yf))) (hq.le Yf)).s ?_;rintro r JS oV ⟨u,rfl,hu⟩;exact ⟨u,rfl,λPa oW g c=>⟨u,rfl,hu.le oW,g,c⟩⟩
theorem PI {l:pz Nd}(hb:∀x∈l,Bd x.ln)(root:Int)(h:NS V p n c l) :
  aa prog 97 #[dB #[qvK .i64 root,hF p n c]] V λr V'=>(xf l root=none->∃q,r=qvZ #[qvW q,qvQ false])/\(∀t,xf l root=some t->∃q,r=qvZ #[qvW q,qvQ true]/\RT V' q t):=by
 have v:=h.len;subst v;refine OO V _ ⟨λa J K=>?_,λa=>⟨by omega,Qt0 _,?_,λV2 w j k u y m z A=>?_⟩⟩
 ·have a:65536<l.length:=by simp at a;omega
  have e:xf l root=none:=by unfold xf;rw [if_pos a]
  exact ⟨λ_=>⟨_,rfl⟩,λt d=>by rw [e] at d;cases d⟩
 ·have a:¬65536<l.length:=by simp at a;omega
  omega
 ·have a:¬65536<l.length:=by simp at a;omega
  simp only [Qq0] at u m ⊢;have B:List.replicate l.length (Value.bool false)=pj (List.replicate l.length false):=by simp [pj]
  rw [B] at m;have C:(List.replicate l.length false).count false=l.length:=by simp
  refine (J6 hb (by omega) (l.length+1) root ⟨List.replicate l.length false,0,false⟩ (V:=V2.ar [j,k]) (h.le w) u ⟨by simp,y⟩ m ⟨by simp,z⟩ A (by simp) (by dsimp only;omega) (by dsimp only;omega)).s ?_;rintro r D L ⟨q,rfl,E,F,G⟩
  have g:xf l root=if (iO l (l.length+1) root ⟨List.replicate l.length false,0,false⟩).2.bad=true\/(iO l (l.length+1) root ⟨List.replicate l.length false,0,false⟩).2.oZ≠l.length then none else some (iO l (l.length+1) root ⟨List.replicate l.length false,0,false⟩).1:=by
   unfold xf;rw [if_neg a]
  rw [g];clear g;generalize iO l (l.length+1) root ⟨List.replicate l.length false,0,false⟩=r0 at *;obtain ⟨t,s⟩:=r0;refine ⟨q,rfl,_,_,_,_,_,F,_,G,λi M N=>?_,λi=>⟨λf O P=>?_,λf H I=>?_⟩⟩
  ·rw [if_pos (.inl i)];exact ⟨λ_=>⟨_,rfl⟩,λt d=>by cases d⟩
  ·have f:s.oZ≠l.length:=by simp at f;omega
   rw [if_pos (.inr f)];exact ⟨λ_=>⟨_,rfl⟩,λt d=>by cases d⟩
  ·have f:s.oZ=l.length:=by simp at f;omega
   dsimp only at i ⊢;rw [if_neg (by rw [i,f];simp)];exact ⟨λe=>(by cases e),λt1 d=>by cases d;exact ⟨q,rfl,RT.le (V:=D) (V':=H) (λb o h=>I b o h) E⟩⟩
end Go.Proofs.Tryz
