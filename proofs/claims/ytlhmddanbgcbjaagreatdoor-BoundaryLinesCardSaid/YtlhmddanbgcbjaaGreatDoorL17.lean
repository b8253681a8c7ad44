import Derived.Test.YtlhmddanbgcbjaaGreatDoorL16
import Derived.Test.YtlhmddanbgcbjaaGreatDoorL5
import Derived.WalkKit
import Derived.LaidEql
import Derived.Stop.Asserts
import Derived.RowKitTokens
import Derived.Test.YtlhmddanbgcbjaaGreatDoorL15
import Derived.Test.YtlhmddanbgcbjaaGreatDoorL8
import Derived.Test.YtlhmddanbgcbjaaGreatDoorL7
import Derived.Test.YtlhmddanbgcbjaaGreatDoorL14
import Derived.Shelf.SlSortCmp.WholeK
import Derived.Shelf.SlSortCmp.NoneTotal
import Derived.Test.YtlhmddanbgcbjaaGreatDoorL11
set_option linter.all false
open Go.IntKind (i64 u64 u32)
namespace Go.Proofs.Tryz
open Go.Eng Go.Big
def bF:Sp:=⟨0,0,true,true⟩
def Ar (l:List Sp):List Rat:=l.flatMap λs=>s.MG++s.KH
def fe (l:List Sp):Nat:=(Ar l).length
theorem Ms {s:Sp}{r:pz Sp}:fe (s::r)=(s.MG++s.KH).length+fe r:=by unfold fe Ar;rw [Qy0,Qq3]
def Qw {a b:pz Sp}:fe (a++b)=fe a+fe b:=by unfold fe Ar;rw [Qc1,Qq3]
def FA {A B:pz Sp}:(oY A B).length=fe A+fe B:=by
 have one:∀(k:Int)(l:pz Sp),(l.flatMap (jN k)).length=fe l:=λk l=>by
  induction l with
  | nil=>rfl
  | cons s r ih=>
   rw [Qy0,Qq3,Ms,ih];unfold jN Sp.MG Sp.KH;cases s.a<;>cases s.b<;>simp
 unfold oY;grind
def rI:∀(ss:pz Sp)(o:pz Rat),(ss.foldl (λo s=>fh s o 2) o).length<=o.length+fe ss
 | [],o=>by simp [Ar]
 | s::r,o=>by
  have ih:=rI r (fh s o 2)
  have:(fh s o 2).length<=o.length+(s.MG++s.KH).length:=by
   have c:=@lk s.lo o;have d:=@lk s.hi o;have e:=@lk s.hi (cZ s.lo o);show (if s.b=true then (if s.a=true then o else cZ s.lo o) else cZ s.hi (if s.a=true then o else cZ s.lo o)).length<=_;unfold Sp.MG Sp.KH;cases s.a<;>cases s.b<;>simp<;>omega
  grind [Ms]
def Qs (ss:pz Sp):(endsL ss).length<=fe ss:=by have:=rI ss [];simpa [endsL] using this
def MY:∀{l:pz Sp},vJ l->asc (Ar l)
 | [],_=>List.Pairwise.nil
 | s::r,h=>by
  unfold asc Ar;refine Qp4.2 ⟨?_,MY h.tail,λx hx y hy=>?_⟩
  ·refine Qp4.2 ⟨by unfold Sp.MG;cases s.a<;>simp,by unfold Sp.KH;cases s.b<;>simp,λx hx y hy=>?_⟩;obtain ⟨ha,rfl⟩:=oq hx;obtain ⟨c,rfl⟩:=qM hy;exact nk (h.1 s (by simp)).2 ha c
  ·have ⟨z,d,hy⟩:=Qy1.1 hy;have ⟨e,f,g⟩:=h.Ph d
   have i:x<=s.hi:=by
    rcases Qw3.1 hx with hx|hx
    ·obtain ⟨ha,rfl⟩:=oq hx;have:=nk (h.1 s (by simp)).2 ha e;grind
    grind [qM]
   have j:z.lo<=y:=by rcases Qw3.1 hy with hy|hy;{obtain ⟨ha,rfl⟩:=oq hy;grind};{obtain ⟨c,rfl⟩:=qM hy;have:=nk (h.1 z (by simp [d])).2 f c;grind}
   grind
def Fi:∀{ys xs:pz Rat},asc xs->asc ys->(∀x∈xs,x∈ys)->xs.length<=ys.length
 | [],xs,_,_,h=>by
  cases xs with
  | nil=>simp
  | cons x r=>exact absurd (h x (by simp)) (by simp)
 | y::r,[],_,_,_=>by simp
 | y::r,x::s,hx,hy,h=>by
  have ⟨x1,x2⟩:=Qx4.1 hx;have ⟨d,a⟩:=Qx4.1 hy;by_cases e:x=y
  ·have:=Fi (xs:=s) x2 a λz b=>by grind
   grind
  ·have c:x∈r:=by grind
   have:=Fi (xs:=x::s) hx a λz b=>by grind
   grind
def Qz {c:pz Rat}{i:Nat}(hi:i<=c.length:=by omega):((dL c i).a=false->(dL c i).lo∈c)/\((dL c i).b=false->(dL c i).hi∈c):=by unfold dL;grind
def EB {c:pz Rat}{ms:pz md}:∀(i:Nat),i<=c.length+1->∀s∈cE c ms i,(s.a=false->s.lo∈c)/\(s.b=false->s.hi∈c)
 | 0,_,s,h=>by cases h
 | i+1,hi,s,h=>by
  have ih:=EB (c:=c) (ms:=ms) i (by omega);have g:=Qz (c:=c) (i:=i);unfold cE at h;split at h
  ·split at h
   ·rename_i f;rcases Qw3.1 h with h|h
    ·exact ih s (List.dropLast_subset _ h)
    ·obtain rfl:=Qq6.1 h;refine ⟨λj=>?_,λk=>g.2 k⟩;have d:cE c ms i≠[]:=λe=>by rw [e] at f;simp at f
     have l:(cE c ms i).getLastD Sp.zero=(cE c ms i).getLast d:=by rw [Wx5,List.getLast?_eq_some_getLast d];rfl
     rw [l] at j ⊢;exact (ih _ (List.getLast_mem d)).1 j
   ·rcases Qw3.1 h with h|h
    ·exact ih s h
    ·obtain rfl:=Qq6.1 h;exact g
  ·exact ih s h
def Ek {op:Int}{a b:pz Sp}:∀s∈combL op a b,(s.a=false->s.lo∈endsL (a++b))/\(s.b=false->s.hi∈endsL (a++b)):=by intro s c;exact EB _ (by rw [kz];omega) s c
def HQ (op:Int)(a b:pz Sp):(combL op a b).length<=fe a+fe b+1:=by have h:=EA (endsL (a++b)) (i_ op a b (endsL (a++b))) (i_ op a b (endsL (a++b))).length;have c:=Qs (a++b);rw [Qw] at c;rw [kz] at h;unfold combL pM;rw [kz];omega
end Go.Proofs.Tryz
namespace Go.Proofs.Tryz.au
abbrev V2:=Rat×Rat
def cr (u v:V2):Rat:=u.1*v.2-u.2*v.1
def dt (u v:V2):Rat:=u.1*v.1+u.2*v.2
def up (u:V2):Prop:=u.2>0\/u.2=0/\u.1>0
def dn (u:V2):Prop:=u.2<0\/u.2=0/\u.1<0
def nz (u:V2):Prop:=u.1≠0\/u.2≠0
theorem Mo (u v:V2):cr v u=-cr u v:=by unfold cr;grind
def jac2 (u w r:V2):cr u r*w.2+cr r w*u.2=cr u w*r.2:=by unfold cr;grind
def mp {a b:Rat}(ha:a>0)(hb:b>0):a*b>0:=Qv7 ha hb
def mn {a b:Rat}(ha:a≥0)(hb:b≥0):a*b≥0:=Wk4 ha hb
def sq_pos {u:V2}(h:nz u):dt u u>0:=by have a:∀x:Rat,x*x≥0:=λx=>by{by_cases b:x≥0;{exact mn b b};{have:=mn (show -x≥0 by grind) (show -x≥0 by grind);grind}};have:=a u.1;have:=a u.2;by_cases c:u.1*u.1+u.2*u.2>0;{exact c};grind [nz,Rat.mul_eq_zero.1]
end Go.Proofs.Tryz.au
namespace Go.Proofs.Tryz
open Go.Eng
def rY (V:View)(g:Nat)(y:Value):Prop:=V.at ⟨g,0,none⟩ y
theorem rY.le {V V':ut}{g:Nat}{y:un}(h:rY V g y)(l:V.Le V'):rY V' g y:=l.at h
def Zy (y:Value):Prop:=∃a:Addr,y=.iface 375 (.pointer (some a))
end Go.Proofs.Tryz
namespace Go.Proofs.Tryz
open Go.Eng Go.Big
open Go.Value renaming slice→qD,agg→hF,bool→dQ,pointer→dZ,tuple→dB,int→qvZ
variable{V:View}{p:OA}{v:Value}{l:L3}{vs:List Value}{c k n:Nat}
def RT (V:View):OA->Tr->Prop
 | p,.leaf i=>∃(b:Nat)(c0 c1 c2 c3 c4 c5 c6 c7 c8:Value)(r:OA),p=some ⟨b,0,none⟩/\V.bg b (.cells #[c0,c1,c2,c3,c4,c5,c6,c7,c8,.pointer none,.pointer r,.bool i] 202 (0,0))
 | p,.node l x y=>∃(b:Nat)(x1 x2:Int)(x3:OA)(y1 y2:Int)(y3:OA)(z1 z2:Int)(z3:OA)(pl pr:OA)(i:Bool),p=some ⟨b,0,none⟩ /\
   V.bg b (.cells #[.int .i64 x1,.int .i64 x2,.pointer x3,.int .i64 y1,.int .i64 y2,.pointer y3,.int .i64 z1,.int .i64 z2,.pointer z3,.pointer pl,.pointer pr,.bool i] 202 (0,0)) /\
   zI V (.agg #[.int .i64 x1,.int .i64 x2,.pointer x3,.int .i64 y1,.int .i64 y2,.pointer y3,.int .i64 z1,.int .i64 z2,.pointer z3]) l.1 l.2.1 l.2.2/\RT V pl x/\RT V pr y
theorem RT.le {V V':ut}(h:V.Le V'):∀{t:Tr} {p:OA},RT V p t->RT V' p t
 | .leaf i,p,⟨b,c0,c1,c2,c3,c4,c5,c6,c7,c8,r,e,hb⟩=>⟨b,c0,c1,c2,c3,c4,c5,c6,c7,c8,r,e,h _ _ hb⟩
 | .node l x y,p,⟨b,x1,x2,x3,y1,y2,y3,z1,z2,z3,pl,pr,i,e,hb,hl,hx,hy⟩=>⟨b,x1,x2,x3,y1,y2,y3,z1,z2,z3,pl,pr,i,e,h _ _ hb,hl.le h,RT.le h hx,RT.le h hy⟩
theorem RT.isS {t:Tr}(h:RT V p t):p.isSome=true:=by (cases t with|leaf i=>{obtain ⟨b,a,c,d,e,f,g,j,k,m,r,rfl,n⟩:=h;rfl}|node l x y=>{obtain ⟨b,o,q,s,u,v,w,z,A,B,pl,C,i,rfl,-⟩:=h;rfl})
theorem iW (i:md):aa prog 113 #[dQ i] V λr V'=>∃p,r=dZ p/\RT V' p (.leaf i):=
 Ju V _ λc d b a=>⟨_,rfl,b,_,_,_,_,_,_,_,_,_,_,rfl,a⟩
theorem dU {t:Tr}(h:RT V p t):aa prog 112 #[dZ p] V λr V'=>r=dQ t.pS:=by (cases t with|leaf i=>{obtain ⟨b,g,j,k,m,n,o,q,s,u,r,rfl,c⟩:=h;exact oT V _ ⟨rfl,rfl,_,yk c 9 rfl,λd e=>rfl⟩}|node l x y=>{obtain ⟨b,v,w,z,A,B,C,D,E,F,pl,G,i,rfl,c,H,f,I⟩:=h;refine oT V _ ⟨rfl,rfl,_,yk c 9 rfl,λd e=>?_⟩;have:=f.isS;(cases pl with|none=>{cases this}|some a=>rfl)})
theorem NI {q:OA}{x y:Tr}(hl:zI V v l.1 l.2.1 l.2.2)(hx:RT V p x)(hy:RT V q y) :
  aa prog 114 #[v,dZ p,dZ q] V λr V'=>∃p',r=dZ p'/\RT V' p' (.node l x y):=by have a:=hl;obtain ⟨e,f,g,h,i,j,k,m,n,rfl,-⟩:=hl;exact Lv V _ λo c b d=>⟨_,rfl,b,_,_,_,_,_,_,_,_,_,_,_,_,rfl,d,a.le c,hx.le c,hy.le c⟩
def VK (V:View)(v:Value)(l:L3):Prop:=RL V v l.1 l.2.1 l.2.2\/cW l=false/\∃b1 p n c xs b2 q m e ys b3 s i j zs,v=.agg #[.bool b1,.slice p n c,.bool b2,.slice q m e,.bool b3,.slice s i j]/\RD V p n c xs/\RD V q m e ys/\RD V s i j zs /\
 De b1 xs b2 ys b3 zs=false/\(xs.length<=1000000/\ys.length<=1000000/\zs.length<=1000000)/\Sz 1000000 (bI b1 xs:Rat)/\Sz 1000000 (bI b2 ys:Rat)/\Sz 1000000 (bI b3 zs:Rat)
theorem VK.le {V V':ut}(h:VK V v l)(e:V.Le V'):VK V' v l:=by rcases h with h|⟨a,b,p,n,c,xs,d,q,m,f,g,k,s,i,j,o,hv,r,t,u,w⟩;{exact .inl (h.le e)};{exact .inr ⟨a,b,p,n,c,xs,d,q,m,f,g,k,s,i,j,o,hv,r.le e,t.le e,u.le e,w⟩}
theorem VK.ok (h:VK V v l)(ho:cW l=true):RL V v l.1 l.2.1 l.2.2:=by rcases h with h|⟨h,-⟩;{exact h};{rw [ho] at h;cases h}
theorem Ft {x:L3}(h:VK V v x)(hb:Bd x) :
  aa prog 37 #[v] V λr V'=>∃w,r=dB #[w,dQ (cW x)]/\Tv w/\(cW x=true->zI V' w x.1 x.2.1 x.2.2):=by rcases h with h|⟨a,b,p,n,c,xs,d,q,m,u,y,e,s,i,j,z,rfl,f,g,k,l,⟨A,B,C⟩,s1,s2,s3⟩;{exact HC h hb};{refine (sf b d e f g k (by omega) (by omega) (by omega) s1 s2 s3).s ?_;rintro r V2 D ⟨w,rfl,o,t⟩;rw [l] at t ⊢;rw [a];exact ⟨w,rfl,o,λh=>by cases h⟩}
def NR (V:View)(vs:List Value)(l:List Nd):Prop:=∀(i:Nat)(d:Nd),l[i]?=some d->∃(b1:Bool)(p1:OA)(n1 c1:Nat)(b2:Bool)(p2:OA)(n2 c2:Nat)(b3:Bool)(p3:OA)(n3 c3:Nat),
 (∀j v,([.bool b1,.slice p1 n1 c1,.bool b2,.slice p2 n2 c2,.bool b3,.slice p3 n3 c3,.int .i64 d.left,.int .i64 d.right]:List Value)[j]?=some v->vs[i*8+j]?=some v) /\
 VK V (.agg #[.bool b1,.slice p1 n1 c1,.bool b2,.slice p2 n2 c2,.bool b3,.slice p3 n3 c3]) d.ln
theorem NR.le {V V':ut}{l:pz Nd}(h:NR V vs l)(hl:V.Le V'):NR V' vs l:=λi d a=>by
 have ⟨b,c,e,f,g,j,k,m,n,o,p,q,r,s⟩:=h i d a;exact ⟨b,c,e,f,g,j,k,m,n,o,p,q,r,s.le hl⟩
structure NS (V:View) (p:OA) (n c:Nat) (l:List Nd):Prop where
 len:n=l.length
 cap:n<=c
 row:∃vs,V.sl p vs/\NR V vs l
 ID:p.isNone=true->c=0
theorem NS.le {V V':ut}{l:pz Nd}(h:NS V p n c l)(hl:V.Le V'):NS V' p n c l:=by obtain ⟨a,b,⟨d,e,f⟩,g⟩:=h;exact ⟨a,b,⟨d,hl.sl e,f.le hl⟩,g⟩
theorem NS.isS {l:pz Nd}(h:NS V p n c l)(hn:n≠0):p.isSome=true:=by (cases p with|none=>{have:=h.ID rfl;have:=h.cap;omega}|some a=>rfl)
def pj (l:List Bool):List Value:=l.map .bool
theorem Ny {l:pz md}{i:Nat}{b:md}(h:l[i]?=some b):(pj l)[i]?=some (dQ b):=by simp [pj,h]
theorem NS.rd {l:pz Nd}(h:NS V p n c l){d:Nd}(hd:l[k]?=some d) :
  ∃(b1:md)(p1:OA)(n1 c1:Nat)(b2:md)(p2:OA)(n2 c2:Nat)(b3:md)(p3:OA)(n3 c3:Nat)(a:Addr),ae p (k*8)=some a /\
   V.at (a.add 0) (dQ b1)/\V.at (a.add 1) (qD p1 n1 c1)/\V.at (a.add 2) (dQ b2)/\V.at (a.add 3) (qD p2 n2 c2)/\V.at (a.add 4) (dQ b3)/\V.at (a.add 5) (qD p3 n3 c3)/\V.at (a.add 6) (qvZ .i64 d.left)/\V.at (a.add 7) (qvZ .i64 d.right) /\
   VK V (hF #[dQ b1,qD p1 n1 c1,dQ b2,qD p2 n2 c2,dQ b3,qD p3 n3 c3]) d.ln:=by obtain ⟨q,b,g⟩:=h.row;have ⟨b1,p1,n1,c1,b2,p2,n2,c2,b3,p3,n3,c3,f,i⟩:=g k d hd;obtain ⟨m,rfl,-⟩:=b _ _ (f 0 _ rfl);have key:∀j v,([dQ b1,qD p1 n1 c1,dQ b2,qD p2 n2 c2,dQ b3,qD p3 n3 c3,qvZ .i64 d.left,qvZ .i64 d.right]:pz un)[j]?=some v->V.at ((m.add (k*8)).add j) v:=by{intro j v hv;have ⟨r,e,o⟩:=b _ _ (f j v hv);cases e;rw [zM];exact o};exact ⟨b1,p1,n1,c1,b2,p2,n2,c2,b3,p3,n3,c3,_,rfl,key 0 _ rfl,key 1 _ rfl,key 2 _ rfl,key 3 _ rfl,key 4 _ rfl,key 5 _ rfl,key 6 _ rfl,key 7 _ rfl,i⟩
theorem Kj {l:pz Nd}(hb:∀x∈l,Bd x.ln)(hlen:l.length<=65536):∀(f:Nat) (n:Int) (s:RS) {V:ut} {rb sb:Nat} {Zn:OA} {nc:Nat},NS V Zn l.length nc l ->
  V.w.heap[rb]?=some (.cells #[qD Zn l.length nc,qD (some ⟨sb,0,none⟩) l.length l.length,qvZ .i64 (s.pg:Int),dQ s.bad] 198 (0,0))->V.X rb ->
  V.w.heap[sb]?=some (.cells (pj s.seen).toArray 4 (0,0))->V.X sb->rb≠sb->s.seen.length=l.length->s.seen.count false<f->s.pg+s.seen.count false<=l.length ->
  aa prog 111 #[dZ (some ⟨rb,0,none⟩),qvZ .i64 n] V λr V'=>∃p,r=dZ p/\RT V' p (ja l f n s).1 /\
   V'.w.heap[rb]?=some (.cells #[qD Zn l.length nc,qD (some ⟨sb,0,none⟩) l.length l.length,qvZ .i64 ((ja l f n s).2.pg:Int),dQ (ja l f n s).2.bad] 198 (0,0)) /\
   V'.w.heap[sb]?=some (.cells (pj (ja l f n s).2.seen).toArray 4 (0,0)):=by
 intro f
 induction f with
 | zero=>intro n s V rb sb Zn nc _ _ _ _ _ _ _ h;omega
 | succ f ih=>
  intro n s V rb sb Zn nc m R S T W Y F b5 b6;refine tB rb sb Zn l.length nc l.length l.length s.pg s.bad (pj s.seen) n V _ R S T W Y ⟨λy V1 l1=>(iW _).s ?_,λy=>⟨λE V4 l4=>(iW _).s ?_,λE=>⟨λG V7 l7=>(iW _).s ?_,λG=>⟨λM fy b7=>(iW _).s ?_,λM=>?_⟩⟩⟩⟩
  ·rintro r V2 I ⟨p,rfl,d⟩;have Z:n=-2:=by{simpa using y};have e:ja l (f+1) n s=(.leaf true,s):=by{simp [ja,Z]};rw [y] at d;exact ⟨p,rfl,λJ j g c=>⟨p,rfl,by rw [e];exact d.le j,by rw [e];exact g,by rw [e];exact c⟩⟩
  ·rintro r V2 I ⟨p,rfl,d⟩;have Z:n=-1:=by{simpa using E};have e:ja l (f+1) n s=(.leaf false,s):=by{simp [ja,Z]};rw [y] at d;exact ⟨p,rfl,λJ j g c=>⟨p,rfl,by rw [e];exact d.le j,by rw [e];exact g,by rw [e];exact c⟩⟩
  ·rintro r V2 I ⟨p,rfl,d⟩;have C:¬n=-2:=by{simpa using y};have D:¬n=-1:=by{simpa using E};have z:n<0:=by{simpa using G};have e:ja l (f+1) n s=(.leaf false,{ s with bad:=true }):=by{simp [ja,C,D,z]};exact ⟨p,rfl,λJ j g c=>⟨p,rfl,by rw [e];exact d.le j,by rw [e];exact g,by rw [e];exact c⟩⟩
  ·rintro r V2 I ⟨p,rfl,d⟩;have C:¬n=-2:=by{simpa using y};have D:¬n=-1:=by{simpa using E};have z:¬n<0:=by{simpa using G};have N:(l.length:Int)<=n:=by{simpa using M};have e:ja l (f+1) n s=(.leaf false,{ s with bad:=true }):=by{simp only [ja,C,D,z,if_false];rw [Qz7 (by omega)]};exact ⟨p,rfl,λJ j g c=>⟨p,rfl,by rw [e];exact d.le j,by rw [e];exact g,by rw [e];exact c⟩⟩
  ·have C:¬n=-2:=by{simpa using y};have D:¬n=-1:=by{simpa using E};have z:¬n<0:=by{simpa using G};have N:n<(l.length:Int):=by{simpa using M};clear y E G M;obtain ⟨k,rfl⟩:=Qw2 (Wq4.1 z);have hk:k<l.length:=by{omega};have a8:k<s.seen.length:=by{omega};simp only [Qq0,Qk5,Qz2];have i:s.seen[k]?=some s.seen[k]:=Qq1 a8;have t:l[k]?=some l[k]:=Qq1 hk;refine ⟨⟨by omega,N⟩,s.seen[k],Ny i,λh4 iT bP=>(iW _).s ?_,λh4=>⟨⟨by omega,N⟩,by simp [pj];omega,m.isS (by omega),⟨by omega,N⟩,?_⟩⟩;{rintro r V2 I ⟨p,rfl,d⟩;have e:ja l (f+1) (k:Int) s=(.leaf false,{ s with bad:=true }):=by{simp only [ja,C,D,z,if_false,Qq0];rw [i,h4,t]};exact ⟨p,rfl,λJ j g c=>⟨p,rfl,by rw [e];exact d.le j,by rw [e];exact g,by rw [e];exact c⟩⟩};{have ⟨b1,p1,m1,c1,b2,p2,m2,c2,b3,p3,m3,c3,a,ha,a0,a1,a2,a3,a4,a5,a6,a7,hL⟩:=m.rd t;refine ⟨b1,p1,m1,c1,b2,p2,m2,c2,b3,p3,m3,c3,_,_,a,ha,a0,a1,a2,a3,a4,a5,a6,a7,λkI cB=>(Ft (hL.le cB) (hb _ (Qq9 hk))).s ?_⟩;rintro r lQ cG ⟨w,rfl,⟨x1,x2,x3,y1,y2,y3,z1,z2,z3,rfl⟩,hw⟩;rw [h4] at i;have K:(pj s.seen).set k (dQ true)=pj (s.seen.set k true):=by{simp [pj,List.map_set]};have O:=count_set i;have w1:i64.wrap ((s.pg:Int)+1)=((s.pg+1:Nat):Int):=by{rw [aw (by omega)];omega};rw [K,w1];refine ⟨_,_,_,_,_,_,_,_,_,_,rfl,λA mM cq=>(iW _).s ?_,λA qF gQ a9 b0 g c g3 g4 g5=>?_⟩;{rintro r V2 I ⟨p,rfl,d⟩;have A:cW l[k].ln=false:=by{simpa using A};have e:ja l (f+1) (k:Int) s=(.leaf false,⟨s.seen.set k true,s.pg+1,true⟩):=by{simp only [ja,C,D,z,if_false,Qq0];rw [i,t];simp [A]};exact ⟨p,rfl,λJ j g c=>⟨p,rfl,by rw [e];exact d.le j,by rw [e];exact g,by rw [e];exact c⟩⟩};{have A:cW l[k].ln=true:=by{simpa using A};have lv:V.Le qF:=cB.m (cG.m gQ);have P:∀(U:ut)(u v:Nat),U.H u->U.H v->(U.ar [u,v]).X u/\(U.ar [u,v]).X v:=λU u v hu hv=>⟨⟨by simp,hu⟩,⟨by simp,hv⟩⟩;have i1:=ih l[k].left ⟨s.seen.set k true,s.pg+1,s.bad⟩ (V:=qF.ar [a9,b0]) (m.le lv) g (P _ _ _ c g4).1 g3 (P _ _ _ c g4).2 g5 (by simp [F]) (by dsimp only;omega) (by dsimp only;omega);have hm:=Bn l f l[k].left ⟨s.seen.set k true,s.pg+1,s.bad⟩;have b4:=Ga l f l[k].left ⟨s.seen.set k true,s.pg+1,s.bad⟩;have e:ja l (f+1) (k:Int) s=(.node l[k].ln (ja l f l[k].left ⟨s.seen.set k true,s.pg+1,s.bad⟩).1 (ja l f l[k].right (ja l f l[k].left ⟨s.seen.set k true,s.pg+1,s.bad⟩).2).1,(ja l f l[k].right (ja l f l[k].left ⟨s.seen.set k true,s.pg+1,s.bad⟩).2).2):=by{simp only [ja,C,D,z,if_false,Qq0];rw [i,t];simp [A]};rw [e];clear e;dsimp only;generalize ja l f l[k].left ⟨s.seen.set k true,s.pg+1,s.bad⟩=q1 at *;obtain ⟨t1,s1⟩:=q1;dsimp only at i1 hm b4 ⊢;refine i1.s ?_;rintro r tK gR ⟨p,rfl,d,e1,e2⟩;refine ⟨p,rfl,_,_,_,_,_,e1,_,e2,λQ iu TE PK f1 f2 f3 f4 f5=>?_⟩;have L:qF.Le Q:=λb o h=>iu b o (gR b o h);have i2:=ih l[k].right s1 (V:=Q.ar [TE,PK]) (m.le (lv.m L)) f1 (P _ _ _ f2 f4).1 f3 (P _ _ _ f2 f4).2 f5 (by rw [hm.2];simp [F]) (by omega) (by omega);generalize ja l f l[k].right s1=q2 at *;obtain ⟨t2,s2⟩:=q2;dsimp only at i2 ⊢;refine i2.s ?_;rintro r Hg jX ⟨q,rfl,hq,e3,e4⟩;refine ⟨q,rfl,_,_,_,_,_,e3,_,e4,λHh mi=>?_⟩;have B:Q.Le Hg:=λb o h=>jX b o h;have Yp:Hg.Le Hh:=λb o h=>mi b o h;have lw:lQ.Le Hh:=gQ.m (L.m (B.m Yp));have Yn:tK.Le Q:=λb o h=>iu b o h;refine (NI ((hw A).le lw) (d.le (Yn.m (B.m Yp))) (hq.le Yp)).s ?_;rintro r Pa ni ⟨u,rfl,hu⟩;exact ⟨u,rfl,λTw oo g c=>⟨u,rfl,hu.le oo,g,c⟩⟩}}
theorem P5 {l:pz Nd}(hb:∀x∈l,Bd x.ln)(root:Int)(h:NS V p n c l) :
  aa prog 57 #[hF #[qvZ .i64 root,qD p n c]] V λr V'=>(Bf l root=none->∃q,r=dB #[dZ q,dQ false])/\(∀t,Bf l root=some t->∃q,r=dB #[dZ q,dQ true]/\RT V' q t):=by have v:=h.len;subst v;refine O6 V _ ⟨λa J K=>?_,λa=>⟨by omega,Ww5 _,?_,λV2 w j k u y m z A=>?_⟩⟩;{have a:65536<l.length:=by{simp at a;omega};have e:Bf l root=none:=by{unfold Bf;rw [if_pos a]};exact ⟨λ_=>⟨_,rfl⟩,λt d=>by rw [e] at d;cases d⟩};{have a:¬65536<l.length:=by{simp at a;omega};omega};{have a:¬65536<l.length:=by{simp at a;omega};simp only [Qq0] at u m ⊢;have B:List.replicate l.length (Value.bool false)=pj (List.replicate l.length false):=by{simp [pj]};rw [B] at m;have C:(List.replicate l.length false).count false=l.length:=by{simp};refine (Kj hb (by omega) (l.length+1) root ⟨List.replicate l.length false,0,false⟩ (V:=V2.ar [j,k]) (h.le w) u ⟨by simp,y⟩ m ⟨by simp,z⟩ A (by simp) (by dsimp only;omega) (by dsimp only;omega)).s ?_;rintro r D L ⟨q,rfl,E,F,G⟩;have g:Bf l root=if (ja l (l.length+1) root ⟨List.replicate l.length false,0,false⟩).2.bad=true\/(ja l (l.length+1) root ⟨List.replicate l.length false,0,false⟩).2.pg≠l.length then none else some (ja l (l.length+1) root ⟨List.replicate l.length false,0,false⟩).1:=by{unfold Bf;rw [if_neg a]};rw [g];clear g;generalize ja l (l.length+1) root ⟨List.replicate l.length false,0,false⟩=r0 at *;obtain ⟨t,s⟩:=r0;refine ⟨q,rfl,_,_,_,_,_,F,_,G,λi M N=>?_,λi=>⟨λf O P=>?_,λf H I=>?_⟩⟩;{rw [if_pos (.inl i)];exact ⟨λ_=>⟨_,rfl⟩,λt d=>by cases d⟩};{have f:s.pg≠l.length:=by{simp at f;omega};rw [if_pos (.inr f)];exact ⟨λ_=>⟨_,rfl⟩,λt d=>by cases d⟩};{have f:s.pg=l.length:=by{simp at f;omega};dsimp only at i ⊢;rw [if_neg (by rw [i,f];simp)];exact ⟨λe=>(by cases e),λt1 d=>by cases d;exact ⟨q,rfl,RT.le (V:=D) (V':=H) (λb o h=>I b o h) E⟩⟩}}
theorem aa.monoH {f:FuncId}{args:Array un}{R R':un->ut->Prop}(h:aa prog f args V R)(hR:∀r V',V.Le V'->(∀b,V'.H b->V.H b)->R r V'->R' r V'):aa prog f args V R':=
 ⟨h.1,h.2.s λ_ c ⟨r,he,a,d⟩=>⟨r,he,a,hR r _ (V.Rj c a) (λ_ e=>e) d⟩⟩
theorem rR {b:Nat}(h:vs≠[]):vb vs n b=b:=by cases vs with|nil=>exact absurd rfl h|cons v r=>rfl
theorem NR.push {vs sp:pz un}{l:pz Nd}(h:NR V vs l)(hl:l.length*8<=vs.length){ln:L3}{x y:Int}{b1:md}{p1:OA}{n1 c1:Nat}{b2:md}{p2:OA}{n2 c2:Nat}{b3:md}{p3:OA}{n3 c3:Nat}
  (hL:RL V (hF #[dQ b1,qD p1 n1 c1,dQ b2,qD p2 n2 c2,dQ b3,qD p3 n3 c3]) ln.1 ln.2.1 ln.2.2) :
  NR V (vs.take (l.length*8)++[dQ b1,qD p1 n1 c1,dQ b2,qD p2 n2 c2,dQ b3,qD p3 n3 c3,qvZ .i64 x,qvZ .i64 y]++sp) (l++[⟨ln,x,y⟩]):=by intro i d a;rcases Qz3 i l.length with c|c;{rw [Qx0 c] at a;have ⟨e,f,g,k,m,n,o,p,q,r,s,t,z,A⟩:=h i d a;refine ⟨e,f,g,k,m,n,o,p,q,r,s,t,λj v hv=>?_,A⟩;have b:j<8:=by{rcases Qz3 j 8 with b|b;{exact b};{rw [Qz7 (by simpa using b)] at hv;cases hv}};have:=z j v hv;rw [Qy3,Qx0 (by rw [Qq7];omega),Qy7,if_pos (by omega)];exact this};{rw [Qy8 c] at a;have u:i=l.length:=by{rcases Qz3 (i-l.length) 1 with w|w;{omega};{rw [Qz7 (by simpa using w)] at a;cases a}};subst u;simp only [Nat.sub_self,List.getElem?_cons_zero,Qw1] at a;subst a;refine ⟨b1,p1,n1,c1,b2,p2,n2,c2,b3,p3,n3,c3,λj v hv=>?_,.inl hL⟩<;>grind [Nat.add_sub_cancel_left]}
theorem NR.set6 {l:pz Nd}(h:NR V vs l){d:Nd}(hd:l[k]?=some d){x:Int}:NR V (vs.set (k*8+6) (qvZ .i64 x)) (l.set k ⟨d.ln,x,d.right⟩):=by intro i z a;rw [Qp1] at a;split at a;{rename_i e;subst e;split at a;{cases a;have ⟨b,c,f,g,m,n,o,p,q,r,s,t,y,u⟩:=h k d hd;refine ⟨b,c,f,g,m,n,o,p,q,r,s,t,λj v hv=>?_,u⟩;rw [Qp1];by_cases A:j=6;{subst A;have:=y 6 _ rfl;have w:k*8+6<vs.length:=by{rcases Qz3 (k*8+6) vs.length with h|h;{exact h};{rw [Qz7 h] at this;cases this}};rw [if_pos rfl,if_pos w];exact hv};grind};{cases a}};{rename_i e;have ⟨b,c,f,g,m,n,o,p,q,r,s,t,y,u⟩:=h i z a;refine ⟨b,c,f,g,m,n,o,p,q,r,s,t,λj v hv=>?_,u⟩<;>grind}
theorem NR.set7 {l:pz Nd}(h:NR V vs l){d:Nd}(hd:l[k]?=some d){x:Int}:NR V (vs.set (k*8+7) (qvZ .i64 x)) (l.set k ⟨d.ln,d.left,x⟩):=by intro i z a;rw [Qp1] at a;split at a;{rename_i e;subst e;split at a;{cases a;have ⟨b,c,f,g,m,n,o,p,q,r,s,t,y,u⟩:=h k d hd;refine ⟨b,c,f,g,m,n,o,p,q,r,s,t,λj v hv=>?_,u⟩;rw [Qp1];by_cases A:j=7;{subst A;have:=y 7 _ rfl;have w:k*8+7<vs.length:=by{rcases Qz3 (k*8+7) vs.length with h|h;{exact h};{rw [Qz7 h] at this;cases this}};rw [if_pos rfl,if_pos w];exact hv};grind};{cases a}};{rename_i e;have ⟨b,c,f,g,m,n,o,p,q,r,s,t,y,u⟩:=h i z a;refine ⟨b,c,f,g,m,n,o,p,q,r,s,t,λj v hv=>?_,u⟩<;>grind}
theorem NR.kids {V:ut}{l r:pz Nd}{ln:L3}{u v x y:Int}(h:NR V vs (l++⟨ln,u,v⟩::r)):NR V ((vs.set (l.length*8+6) (qvZ .i64 x)).set (l.length*8+7) (qvZ .i64 y)) (l++⟨ln,x,y⟩::r):=by have b:(l++(⟨ln,u,v⟩:Nd)::r)[l.length]?=some ⟨ln,u,v⟩:=by{simp};have a:=h.set6 b (x:=x);have c:(l++(⟨ln,u,v⟩:Nd)::r).set l.length ⟨ln,x,v⟩=l++⟨ln,x,v⟩::r:=by{simp};rw [c] at a;have d:(l++(⟨ln,x,v⟩:Nd)::r)[l.length]?=some ⟨ln,x,v⟩:=by{simp};have e:=a.set7 d (x:=y);grind
theorem NR.take {l:pz Nd}(h:NR V vs l):NR V (vs.take (l.length*8)) l:=by intro i d a;have ⟨b,c,e,f,g,k,m,n,o,p,q,r,t,s⟩:=h i d a;refine ⟨b,c,e,f,g,k,m,n,o,p,q,r,λj v hv=>?_,s⟩<;>grind
theorem NS.ofRow {V:ut}{b c:Nat}{vm:pz un}{l:pz Nd}{ty:TypeId}(hb:vm≠[]->V.bg b (.cells vm.toArray ty (0,0)))(hc:l.length<=c)(hr:NR V vm l):NS V (mA b c) l.length c l:=by refine ⟨rfl,hc,⟨_,?_,hr.take⟩,?_⟩;{intro i v hv;rw [Qy7] at hv;split at hv;{rename_i d;have a:vm≠[]:=λe=>by{rw [e] at hv;simp at hv};refine ⟨⟨b,0,none⟩,by unfold mA;rw [if_neg (by omega)],?_⟩<;>grind [add_zero',dH]};{cases hv}};{intro e;unfold mA at e;grind}
def J7:List Tr->Nat
 | []=>0
 | t::r=>2*t.size+1+J7 r
theorem Bb (a b:pz Tr):J7 (a++b)=J7 a+J7 b:=by
 induction a with
 | nil=>simp [J7]
 | cons t r ih=>simp only [Qd0,J7];omega
def Xd (V:View)(vs:List Value)(ts:List Tr):Prop:=∀(i:Nat)(t:Tr),ts[i]?=some t->∃p,vs[i]?=some (.pointer p)/\RT V p t
theorem Xd.le {V V':ut}{ts:pz Tr}(h:Xd V vs ts)(l:V.Le V'):Xd V' vs ts:=λi t a=>by
 have ⟨p,b,c⟩:=h i t a;exact ⟨p,b,c.le l⟩
theorem UG (ts:pz Tr):ts.length<=J7 ts:=by
 induction ts with
 | nil=>simp
 | cons t r ih=>simp only [J7,Qw6];omega
theorem Xd.UZ {sp:pz un}{ts:pz Tr}{x y:Tr}{q:OA}{m:Nat}(h:Xd V vs ts)(hm:m<=ts.length)(hl:m<=vs.length)(hx:RT V p x)(hy:RT V q y) :
  Xd V (vs.take m++[dZ p,dZ q]++sp) (ts.take m++[x,y]):=by intro i t a;rcases Qz3 i m with b|b;{rw [Qx0 (by rw [Qq7];omega),Qy7,if_pos b] at a;have ⟨r,c,d⟩:=h i t a;grind};{rw [Qy8 (by rw [Qq7];omega),Qq7,Qj3 hm] at a;obtain ⟨j,rfl⟩:∃j,i=m+j:=⟨i-m,by omega⟩;rw [Qn5] at a;have e:∀v,([dZ p,dZ q]:pz un)[j]?=some v->(vs.take m++[dZ p,dZ q]++sp)[m+j]?=some v:=by{grind};grind}
def AT (V:View)(v:Value)(root:Int)(l:List Nd):Prop:=∃q n c,v=.agg #[.int .i64 root,.slice q n c]/\NS V q n c l
theorem AT.le {V V':ut}{root:Int}{l:pz Nd}(h:AT V v root l)(hl:V.Le V'):AT V' v root l:=by obtain ⟨q,n,c,e,h⟩:=h;exact ⟨q,n,c,e,h.le hl⟩
theorem NJ {l:pz Nd}(hb:∀x∈l,Bd x.ln){root:Int}(h:AT V v root l) :
  aa prog 57 #[v] V λr V'=>∃q,r=dB #[dZ q,dQ (Bf l root).isSome]/\∀t,Bf l root=some t->RT V' q t:=by obtain ⟨p,n,c,rfl,h⟩:=h;refine (P5 hb root h).s ?_;rintro r V' _ ⟨b,d⟩;(cases e:Bf l root with|none=>{obtain ⟨q,rfl⟩:=b e;exact ⟨q,rfl,λt a=>by cases a⟩}|some t=>{obtain ⟨q,rfl,f⟩:=d t e;exact ⟨q,rfl,λg a=>by cases a;exact f⟩})
def RW (V:View):OA->Tr->Prop
 | p,.leaf i=>∃(b:Nat)(c2 c3 c4 c5 c6 c7 c8 c9:Value),p=some ⟨b,0,none⟩/\V.bg b (.cells #[.bool true,.bool i,c2,c3,c4,c5,c6,c7,c8,c9] 60 (0,0))
 | p,.node l x y=>∃(b:Nat)(i:Bool)(b1:Bool)(p1:OA)(n1 c1:Nat)(b2:Bool)(p2:OA)(n2 c2:Nat)(b3:Bool)(p3:OA)(n3 c3:Nat)(pl pr:OA),p=some ⟨b,0,none⟩ /\
   V.bg b (.cells #[.bool false,.bool i,.bool b1,.slice p1 n1 c1,.bool b2,.slice p2 n2 c2,.bool b3,.slice p3 n3 c3,.pointer pl,.pointer pr] 60 (0,0)) /\
   RL V (.agg #[.bool b1,.slice p1 n1 c1,.bool b2,.slice p2 n2 c2,.bool b3,.slice p3 n3 c3]) l.1 l.2.1 l.2.2/\RW V pl x/\RW V pr y
theorem RW.le {V V':ut}(h:V.Le V'):∀{t:Tr} {p:OA},RW V p t->RW V' p t
 | .leaf i,p,⟨b,c2,c3,c4,c5,c6,c7,c8,c9,e,hb⟩=>⟨b,c2,c3,c4,c5,c6,c7,c8,c9,e,h _ _ hb⟩
 | .node l x y,p,⟨b,i,b1,p1,n1,c1,b2,p2,n2,c2,b3,p3,n3,c3,pl,pr,e,hb,hl,hx,hy⟩=>⟨b,i,b1,p1,n1,c1,b2,p2,n2,c2,b3,p3,n3,c3,pl,pr,e,h _ _ hb,hl.le h,RW.le h hx,RW.le h hy⟩
theorem cT (i:md):aa prog 25 #[dQ i] V λr V'=>∃p,r=dZ p/\RW V' p (.leaf i):=
 DU V _ λc d b a=>⟨_,rfl,b,_,_,_,_,_,_,_,_,rfl,a⟩
def kF (x:L3):Prop:=cW x=true/\Bd x
theorem Xr:∀(k:Nat) {V:ut} {tb:Nat} {p:OA} {n c:Nat} {at_:Int},k<=10->Ka V p n->n<=400->jZ V tb p n c at_->V.X tb->0<=at_ ->
  aa prog 26 #[dZ (some ⟨tb,0,none⟩),qvZ .i64 (k:Int)] V λr V'=>∃q t at',r=dZ q/\RW V' q t/\t.dT kF/\t.size<2^k/\0<=at'/\jZ V' tb p n c at':=by
 intro k
 induction k with
 | zero=>
  intro V tb p n c at_ _ a d hw j l;refine lK tb p n c at_ _ V _ hw j ⟨λg V1 l1 m e1 h1=>(eV (V:=V1.ar [m]) 2 (a.le λb o h=>l1 b o h) d e1 ⟨by simp,h1⟩ l (by omega)).s ?_,λg=>by simp at g⟩;rintro r V2 l2 ⟨x,T,rfl,-,-,t1,e⟩;refine ⟨_,rfl,_,_,_,_,e,λV3 l3=>(cT _).s ?_⟩;rintro r V4 l4 ⟨q,rfl,s⟩;exact ⟨_,rfl,λV5 l5 e5=>⟨_,_,T,rfl,s.le l5,trivial,by simp [Tr.size],t1,e5⟩⟩
 | succ k ih=>
  intro V tb p n c at_ hk a d hw j l;refine lK tb p n c at_ _ V _ hw j ⟨λg=>by rw [beq_iff_eq] at g;omega,λ_ V6 U u e6 h6=>(eV (V:=V6.ar [u]) 4 (a.le λb o h=>U b o h) d e6 ⟨by simp,h6⟩ l (by omega)).s ?_⟩;rintro r V7 l7 ⟨x,T,rfl,-,-,t1,e⟩;have v:V.Le V7:=λb o h=>l7 b o (U b o h);refine ⟨_,rfl,_,_,_,_,e,λg V8 l8 TB e8 h8=>(eV (V:=V8.ar [TB]) 2 (a.le λb o h=>l8 b o (v b o h)) d e8 ⟨by simp,h8⟩ t1 (by omega)).s ?_,λg iT W ZM w y=>(c_L (V:=iT.ar [ZM]) (a.le λb o h=>W b o (v b o h)) d w ⟨by simp,y⟩ t1).s ?_⟩
  ·rintro r V9 l9 ⟨x,i,rfl,-,-,t2,f⟩;refine ⟨_,rfl,_,_,_,_,f,λfy a0=>(cT _).s ?_⟩;rintro r fC bo ⟨q,rfl,s⟩;exact ⟨_,rfl,λgI bW z=>⟨_,_,i,rfl,s.le bW,trivial,by simpa [Tr.size] using Qk3 _,t2,z⟩⟩
  ·rintro r lP cN ⟨ln,i,Y,A,B,t2,f⟩;have C:=Y;obtain ⟨b1,u1,v1,w1,b2,u2,v2,w2,b3,u3,v3,w3,rfl⟩:=(vM Y);have Z:V.Le lP:=λb o h=>cN b o (W b o (v b o h));have wk:i64.wrap (((k+1:Nat):Int)-1)=(k:Int):=by{rw [aw (by omega)];omega};refine qxQ ⟨rfl,_,_,_,_,f,λjJ D TD E F=>?_⟩;rw [wk];refine ((ih (V:=jJ.ar [TD]) (by omega) (a.le λb o h=>D b o (Z b o h)) d E ⟨by simp,F⟩ t2).s ?_);rintro r kI cB ⟨qa,ta,a1,rfl,G,H,a2,t3,I⟩;have On:V.Le kI:=λb o h=>cB b o (D b o (Z b o h));refine ⟨_,rfl,_,_,_,_,I,λlQ J ZO K L=>(ih (V:=lQ.ar [ZO]) (by omega) (a.le λb o h=>J b o (On b o h)) d K ⟨by simp,L⟩ t3).s ?_⟩;rintro r mM cq ⟨qb,M,N,rfl,O,P,a3,t4,Q⟩;refine ⟨_,rfl,_,_,_,_,Q,λpf R ZP S hb=>⟨_,.node ln ta M,N,rfl,⟨ZP,_,_,_,_,_,_,_,_,_,_,_,_,_,_,_,rfl,hb,?_,?_,?_⟩,⟨⟨A,B⟩,H,P⟩,?_,t4,S⟩⟩;{exact C.le λb o h=>R b o (cq b o (J b o (cB b o (D b o h))))};{exact RW.le (V:=kI) (V':=pf) (λb o h=>R b o (cq b o (J b o h))) G};{exact RW.le (V:=mM) (V':=pf) (λb o h=>R b o h) O};{simp only [Tr.size];rw [Qk8];omega}
def Tr.depth:Tr->Nat
 | .leaf _=>0
 | .node _ a b=>1+max a.depth b.depth
theorem mX:∀t:Tr,t.depth<=t.size
 | .leaf _=>Qq2 _
 | .node _ a b=>by have:=mX a;have:=mX b;simp only [Tr.depth,Tr.size];omega
theorem Rq {a b:Nat}(ha:a<=1000000)(hb:b<=1000000:=by omega):i64.wrap ((1:Int)+ch (a:Int) (b:Int))=((1+max a b:Nat):Int):=by have:ch (a:Int) (b:Int)=((max a b:Nat):Int):=by{unfold ch;split<;>omega};rw [this,aw (by omega)];omega
theorem pD:∀(t:Tr) {V:ut} {p:OA},RT V p t->t.size<=1000000->aa prog 90 #[dZ p] V λr V'=>r=qvZ .i64 (t.depth:Int)
 | .leaf i,V,p,h,hs=>by
  refine qp V _ λV1 l1=>(dU (h.le l1)).s ?_;rintro r V2 l2 rfl;exact ⟨_,rfl,λ_ V3 l3=>rfl,(λh=>nomatch h)⟩
 | .node ln a b,V,p,h,hs=>by
  have h0:=h;refine qp V _ λV1 l1=>(dU (h0.le l1)).s ?_;rintro r V2 l2 rfl;obtain ⟨l,m,n,o,q,s,u,v,w,x,pl,f,i,rfl,d,y,g,c⟩:=h.le (l1.m l2);have s1:=mX a;have s2:=mX b;simp only [Tr.size] at hs;refine ⟨_,rfl,(λh=>nomatch h),λ_=>⟨rfl,rfl,pl,yk d 9 rfl,rfl,rfl,f,yk d 10 rfl,λz e=>(pD a (g.le e) (by omega)).s ?_⟩⟩;rintro r A j rfl;refine ⟨_,rfl,λB k=>(pD b (c.le (e.m (j.m k))) (by omega)).s ?_⟩;rintro r C D rfl;exact ⟨_,rfl,λE F=>by rw [Rq (by omega)];rfl⟩
def lo1:Tr->Int
 | .leaf i=>if i then 0 else 1
 | .node ..=>0
theorem kh {i:md}(h:RW V p (.leaf i)):p.isSome=true/\(∃a,ae p 0=some a/\V.at a (dQ true))/\∃a,ae p 1=some a/\V.at a (dQ i):=by obtain ⟨b,d,e,f,g,j,k,l,m,rfl,c⟩:=h;exact ⟨rfl,yk c 0 rfl,yk c 1 rfl⟩
end Go.Proofs.Tryz
namespace Go.Eng
open Go.Proofs.Tryz
variable {α:Type} {sz:Nat} {R:View->Value->α->Prop} {V V':View} {d:α}
theorem Row.get {vs:pz un}{al:pz α}(h:Row sz R V vs al){i:Nat}(hi:i<al.length)(hs:0<sz) :
  ∃xs:pz un,xs.length=sz/\R V (.agg xs.toArray) (al.getD i d)/\i*sz+sz<=vs.length/\(vs.drop (i*sz)).take sz=xs:=by have ⟨xs,a,b,c⟩:=h.at_ i hi;have e:=h.jR hs;have:(i+1)*sz<=al.length*sz:=Qw0 _ hi;rw [Qg8] at this;refine ⟨xs,a,by simpa [hi] using b,by omega,?_⟩;apply Qg2;intro j;rw [Qy7];split;{grind};{grind}
end Go.Eng
namespace Go.Proofs.Tryz
open Go.Eng Go.Big
section
variable {α:Type} (e:α->α->Bool)
def FD:α->List α->List α
 | _,[]=>[]
 | p,a::r=>if e a p then FD a r else a::FD a r
def C8:List α->List α
 | []=>[]
 | a::r=>a::FD e a r
variable {e}
theorem HT:∀{r:pz α} {p:α},(FD e p r).length<=r.length
 | [],p=>Qq2 _
 | b::r,p=>by
  have:=HT (r:=r) (p:=b);grind [FD]
theorem P8 {l:pz α}:(C8 e l).length<=l.length:=by (cases l with|nil=>exact Qq2 _|cons a r=>{have:=HT (e:=e) (r:=r) (p:=a);simp [C8];omega})
theorem P9 {l:pz α}(h:l.length<=1:=by omega):C8 e l=l:=by
 match l,h with
 | [],_=>rfl
 | [a],_=>rfl
 | _::_::_,h=>simp at h
end
end Go.Proofs.Tryz
namespace Go.Proofs.Tryz
open Go.Eng Go.Big
open Go.Value renaming slice→qD,agg→hF,bool→dQ,pointer→dZ,tuple→dB,int→qvZ
variable{V:View}{v w:Value}{k n:Nat}{L M a b l m:L3}{s:Sp}{p:OA}{px py qx qy:Rat}
theorem Km {x y:Rat}(hx:RR V v x)(hy:RR V w y)(sx:Sz k x)(sy:Sz k y)(hk:2*k<1099511627776) :
  aa prog 262 #[v,w] V λr V'=>RR V' r (sR x y):=by have g:=hx;have i:=hy;obtain ⟨a,b,c,rfl⟩:=hx.shape;obtain ⟨d,e,f,rfl⟩:=hy.shape;refine Jx V _ λo j=>(lY (i.le j) (g.le j) sy sx).s ?_;rintro r V2 l rfl;unfold sR;exact ⟨_,rfl,λh p m=>by rw [if_pos (of_decide_eq_true h)];exact i.le (j.m (l.m m)),λh q n=>by rw [if_neg (of_decide_eq_false h)];exact g.le (j.m (l.m n))⟩
theorem Kn {x y:Rat}(hx:RR V v x)(hy:RR V w y)(sx:Sz k x)(sy:Sz k y)(hk:2*k<1099511627776) :
  aa prog 263 #[v,w] V λr V'=>RR V' r (sS x y):=by have g:=hx;have i:=hy;obtain ⟨a,b,c,rfl⟩:=hx.shape;obtain ⟨d,e,f,rfl⟩:=hy.shape;refine Jy V _ λo j=>(lY (i.le j) (g.le j) sy sx).s ?_;rintro r V2 l rfl;unfold sS;exact ⟨_,rfl,λh p m=>by rw [if_pos (of_decide_eq_true h)];exact i.le (j.m (l.m m)),λh q n=>by rw [if_neg (of_decide_eq_false h)];exact g.le (j.m (l.m n))⟩
theorem Sp.FX {v w:Sp}(h1:v.sz k)(h2:w.sz k):(v.meet w).sz k:=by unfold Sp.meet Sp.sz sR sS;constructor<;>dsimp only;{split;{exact h2.1};{split;{exact h1.1};{split;{exact h2.1};{exact h1.1}}}};{split;{exact h2.2};{split;{exact h1.2};{split;{exact h2.2};{exact h1.2}}}}
theorem Eb {s t:Sp}(h:eM V v s)(h':eM V w t)(hs:s.sz k)(ht:t.sz k)(hk:2*k<1099511627776:=by omega) :
  aa prog 235 #[v,w] V λr V'=>∃u,r=dB #[u,dQ (!(s.meet t).emp)]/\eM V' u (s.meet t):=by obtain ⟨T,U,p,l,m,q,rfl,W,A⟩:=h;obtain ⟨X,Y,o,Z,w2,j,rfl,g1,g2⟩:=h';have lo1:s.a=true->(s.meet t).lo=t.lo/\(s.meet t).a=t.a:=λe=>by{simp [Sp.meet,e]};have D:s.a=false->t.a=false->(s.meet t).lo=sR s.lo t.lo:=λe f=>by{simp [Sp.meet,e,f]};have E:s.a=false->t.a=true->(s.meet t).lo=s.lo:=λe f=>by{simp [Sp.meet,e,f]};have n:s.a=false->(s.meet t).a=s.a:=λe=>by{simp [Sp.meet,e]};have x:s.b=true->(s.meet t).hi=t.hi/\(s.meet t).b=t.b:=λe=>by{simp [Sp.meet,e]};have F:s.b=false->t.b=false->(s.meet t).hi=sS s.hi t.hi:=λe f=>by{simp [Sp.meet,e,f]};have G:s.b=false->t.b=true->(s.meet t).hi=s.hi:=λe f=>by{simp [Sp.meet,e,f]};have y:s.b=false->(s.meet t).b=s.b:=λe=>by{simp [Sp.meet,e]};refine BX V _ ⟨λz i=>RR i (hF #[qvZ .i64 z.1,qvZ .i64 z.2.1,dZ z.2.2.1]) (s.meet t).lo/\RR i (hF #[qvZ .i64 z.2.2.2.1,qvZ .i64 z.2.2.2.2.1,dZ z.2.2.2.2.2.1]) s.hi/\z.2.2.2.2.2.2.1=(s.meet t).a/\z.2.2.2.2.2.2.2=s.b,⟨λc=>?_,λc=>⟨λd i H=>(Km (W.le H) (g1.le H) hs.1 ht.1 hk).s ?_,λd=>?_⟩⟩,?_⟩;{refine ⟨(X,Y,o,l,m,q,t.a,s.b),by and_intros<;>rfl,?_,A,(lo1 c).2.symm,rfl⟩;rw [(lo1 c).1];exact g1};{rintro r V2 l2 g;rw [Qz6] at d;have I:=g;obtain ⟨J,K,L,rfl⟩:=g.shape;refine ⟨_,_,_,rfl,(J,K,L,l,m,q,s.a,s.b),by and_intros<;>rfl,?_,A.le (H.m l2),(n c).symm,rfl⟩;rw [D c d];exact I};{rw [Qv1] at d;refine ⟨(T,U,p,l,m,q,s.a,s.b),by and_intros<;>rfl,?_,A,(n c).symm,rfl⟩;rw [E c d];exact W};{rintro ⟨M,N,O,z4,z5,z6,z7,z8⟩ V3 P ⟨B,k2,k3,k4⟩;dsimp only at B k2 k3 k4;subst k3 k4;refine ⟨rfl,λz i=>RR i (hF #[qvZ .i64 z.1,qvZ .i64 z.2.1,dZ z.2.2.1]) (s.meet t).lo/\RR i (hF #[qvZ .i64 z.2.2.2.1,qvZ .i64 z.2.2.2.2.1,dZ z.2.2.2.2.2.1]) (s.meet t).hi/\z.2.2.2.2.2.2.1=(s.meet t).a/\z.2.2.2.2.2.2.2=(s.meet t).b,⟨λc=>?_,λc=>⟨λd V4 Q=>(Kn (A.le (P.m Q)) (g2.le (P.m Q)) hs.2 ht.2 hk).s ?_,λd=>?_⟩⟩,?_⟩;{refine ⟨(M,N,O,Z,w2,j,(s.meet t).a,t.b),by and_intros<;>rfl,B,?_,rfl,(x c).2.symm⟩;rw [(x c).1];exact g2.le P};{rintro r V5 l5 g;rw [Qz6] at d;have I:=g;obtain ⟨J,K,L,rfl⟩:=g.shape;refine ⟨_,_,_,rfl,(M,N,O,J,K,L,(s.meet t).a,s.b),by and_intros<;>rfl,B.le (Q.m l5),?_,rfl,(y c).symm⟩;rw [F c d];exact I};{rw [Qv1] at d;refine ⟨(M,N,O,z4,z5,z6,(s.meet t).a,s.b),by and_intros<;>rfl,B,?_,rfl,(y c).symm⟩;rw [G c d];exact k2};{rintro ⟨l,m,y3,y4,y5,y6,y7,y8⟩ V6 l6 ⟨R,S,j3,j4⟩;dsimp only at R S j3 j4;subst j3 j4;refine ⟨rfl,λV7 C=>(Ke ⟨_,_,_,_,_,_,rfl,R.le C,S.le C⟩ (Sp.FX hs ht) hk).s ?_⟩;rintro r V8 l8 rfl;exact ⟨_,rfl,λV9 l9=>⟨_,rfl,_,_,_,_,_,_,rfl,R.le (C.m (l8.m l9)),S.le (C.m (l8.m l9))⟩⟩}}
theorem qY (sl:kH k L)(sm:kH k M):Sz (4*k+3) (dotL M L):=cY sm.1 sm.2.1 sl.2.1 sl.1.neg
theorem PI:(((M.1:Rat)*((L.1:Rat)*(((-(L.2.2:Rat))*(((L.1:Rat)*(L.1:Rat))+((L.2.1:Rat)*(L.2.1:Rat)))⁻¹))))+((M.2.1:Rat)*((L.2.1:Rat)*(((-(L.2.2:Rat))*(((L.1:Rat)*(L.1:Rat))+((L.2.1:Rat)*(L.2.1:Rat)))⁻¹)))))+(M.2.2:Rat)=jC M L:=by unfold jC aq cz cD gU;grind
theorem qX (sl:kH k L)(sm:kH k M):Sz (50*k+49) (jC M L):=by rw [←PI];exact Sz.s (xd (k:=10*k+9) (sm.1.s (by omega)) (sm.2.1.s (by omega)) (sm.2.2.s (by omega)) (h_ sl.1 sl.2.1 sl.2.2) (ia sl.1 sl.2.1 sl.2.2))
theorem kj (sl:kH k L)(sm:kH k M):Sz (60*k+60) (cutP M L):=Sz.s ((qX sl sm).mul (fw (qY sl sm))).neg
theorem Hu {l m:un}(hl:qE V l L)(hv:eM V v s)(hm:qE V m M)(sl:kH k L)(hs:s.sz k)(sm:kH k M)(hk:200*k+200<274877906944:=by omega) :
  aa prog 201 #[l,v,m] V λr V'=>∃w,r=dB #[w,dQ (cH L s M)]/\eM V' w (bj L s M):=by have i:=hl;have b:=hv;have j:=hm;obtain ⟨_,_,_,_,_,_,_,_,_,rfl,-,-,-⟩:=hl;obtain ⟨_,_,_,_,_,_,rfl,-,-⟩:=hv;obtain ⟨_,_,_,_,_,_,_,_,_,rfl,-,-,-⟩:=hm;have n:s.sz (60*k+60):=⟨hs.1.s (by omega),hs.2.s (by omega)⟩;have z:=Di (60*k+60);refine Dw V _ λV1 B=>(jL (j.le B) sm.1 sm.2.1 sm.2.2).s ?_;rintro r V2 Y Z;have C:=Z;obtain ⟨_,_,_,_,_,_,rfl,-,-⟩:=Z;refine qyQ ⟨rfl,λV3 D=>(Fu (i.le (B.m (Y.m D))) sl.1 sl.2.1 sl.2.2).s ?_⟩;rintro r V4 l4 g2;have E:=g2;obtain ⟨_,_,_,_,_,_,rfl,-,-⟩:=g2;refine qyQ ⟨rfl,λV5 F=>(nO (C.le (D.m (l4.m F))) (E.le F) sm.1 sm.2.1 sl.2.1 sl.1.neg).s ?_⟩;rintro r G l6 g3;have H:RR G r (dotL M L):=g3;obtain ⟨_,_,_,rfl⟩:=g3.shape;have o:V.Le G:=B.m (Y.m (D.m (l4.m (F.m l6))));refine ⟨_,_,_,rfl,λV7 I=>(CO (i.le (o.m I)) sl.1 sl.2.1 sl.2.2).s ?_⟩;rintro r V8 l8 g4;have J:=g4;obtain ⟨_,_,_,_,_,_,rfl,-,-⟩:=g4;refine qyQ ⟨rfl,λV9 K=>(zZ (k:=10*k+9) (j.le (o.m (I.m (l8.m K)))) (J.le K) (sm.1.s (by omega)) (sm.2.1.s (by omega)) (sm.2.2.s (by omega)) (h_ sl.1 sl.2.1 sl.2.2) (ia sl.1 sl.2.1 sl.2.2)).s ?_⟩;rintro r fy N O;rw [PI] at O;have P:=O;obtain ⟨_,_,_,rfl⟩:=O.shape;have h:G.Le fy:=I.m (l8.m (K.m N));refine ⟨_,_,_,rfl,λfC bo=>(po (H.le (h.m bo)) (qY sl sm)).s ?_⟩;rintro r gI bW rfl;have a:fy.Le gI:=bo.m bW;refine ⟨_,rfl,λc iT bP=>(po (P.le (a.m bP)) (qX sl sm)).s ?_,λc=>⟨λQ kI R=>(Fp (P.le (a.m R)) (H.le (h.m (a.m R))) (qX sl sm) (qY sl sm)).s ?_,λQ vH S=>(Fp (P.le (a.m S)) (H.le (h.m (a.m S))) (qX sl sm) (qY sl sm)).s ?_⟩⟩;{rintro r lP cN rfl;have p:cH L s M=decide ((jC M L).num.sign>0):=by{unfold cH;rw [if_pos c]};have d:bj L s M=s:=by{unfold bj;rw [if_pos c]};rw [p,d];exact ⟨_,rfl,λjJ cF=>⟨_,rfl,b.le (o.m (h.m (a.m (bP.m (cN.m cF)))))⟩⟩};{have d:bj L s M=s.meet ⟨cutP M L,0,false,true⟩:=by{unfold bj;rw [if_neg (by rw [c];exact Qv9),if_pos Q]};have p:cH L s M=!(s.meet ⟨cutP M L,0,false,true⟩).emp:=by{rw [←d];unfold cH;rw [if_neg (by rw [c];exact Qv9)]};rw [p,d];rintro r lQ T q;have e:=q;obtain ⟨_,_,_,rfl⟩:=q.shape;refine ⟨_,_,_,rfl,λmM u=>(lZ (e.le u) ((qX sl sm).mul (fw (qY sl sm)))).s ?_⟩;rintro r U W x;have f:RR U r (cutP M L):=x;obtain ⟨_,_,_,rfl⟩:=x.shape;refine ⟨_,_,_,rfl,λvG y=>(Eb (t:=⟨cutP M L,0,false,true⟩) (b.le (o.m (h.m (a.m (R.m (T.m (u.m (W.m y)))))))) ⟨_,_,_,_,_,_,rfl,f.le y,RR.zero _⟩ n ⟨kj sl sm,z⟩).s ?_⟩;rintro r qF gQ ⟨w,rfl,A⟩;have g:=A;obtain ⟨_,_,_,_,_,_,rfl,-,-⟩:=A;exact ⟨_,_,_,_,_,_,_,_,_,rfl,λtK X=>⟨_,rfl,g.le X⟩⟩};{have d:bj L s M=s.meet ⟨0,cutP M L,true,false⟩:=by{unfold bj;rw [if_neg (by rw [c];exact Qv9),if_neg (by rw [Q];exact Qv9)]};have p:cH L s M=!(s.meet ⟨0,cutP M L,true,false⟩).emp:=by{rw [←d];unfold cH;rw [if_neg (by rw [c];exact Qv9)]};rw [p,d];rintro r lQ T q;have e:=q;obtain ⟨_,_,_,rfl⟩:=q.shape;refine ⟨_,_,_,rfl,λmM u=>(lZ (e.le u) ((qX sl sm).mul (fw (qY sl sm)))).s ?_⟩;rintro r U W x;have f:RR U r (cutP M L):=x;obtain ⟨_,_,_,rfl⟩:=x.shape;refine ⟨_,_,_,rfl,λvG y=>(Eb (t:=⟨0,cutP M L,true,false⟩) (b.le (o.m (h.m (a.m (S.m (T.m (u.m (W.m y)))))))) ⟨_,_,_,_,_,_,rfl,RR.zero _,f.le y⟩ n ⟨z,kj sl sm⟩).s ?_⟩;rintro r qF gQ ⟨w,rfl,A⟩;have g:=A;obtain ⟨_,_,_,_,_,_,rfl,-,-⟩:=A;exact ⟨_,_,_,_,_,_,_,_,_,rfl,λtK X=>⟨_,rfl,g.le X⟩⟩}
structure Pu (V:View) (p:OA) (n:Nat) (fs:List (L3×Sp)):Prop where
 len:n=fs.length
 at_:∀(i:Nat)(h:i<fs.length),∃ad,ae p (i*17)=some ad/\∃xs:List Value,G8 V (.agg xs.toArray) fs[i].1 fs[i].2/\∀j x,xs[j]?=some x->V.at (ad.add j) x
theorem Pu.le {V V':ut}{fs:pz (L3×Sp)}(h:Pu V p n fs)(e:V.Le V'):Pu V' p n fs:=⟨h.len,λi a=>by have ⟨b,c,xs,d,f⟩:=h.at_ i a;exact ⟨b,c,xs,d.le e,λj x g=>e.at (f j x g)⟩⟩
def oR (l:L3)(s:Sp)(m:L3):List (L3×Sp):=if cH l s m=true then [(l,bj l s m)] else []
theorem Ki {c:Nat}{fs:pz (L3×Sp)}(h:Pu V p n fs)(hn:fs.length<=1000)(hs:∀f∈fs,kH k f.1/\f.2.sz k)(hk:k<=1099511627776:=by omega) :
  aa prog 55 #[qD p n c] V λr V'=>∃q m e,r=qD q m e/\J_ V' q m fs:=by
 obtain rfl:=h.len
 refine yG V _ ⟨λz V'=>∃j:Nat,z.2.2.2=(j:Int)/\j<=fs.length/\z.1=j/\j<=z.2.1/\z.2.1*14<=z.2.2.1.length/\∀(i:Nat)(_:i<j)(l:i<fs.length),∃xs:pz un,xs.length=14/\Xc V' (.agg xs.toArray) fs[i].1 fs[i].2/\∀q x,xs[q]?=some x->z.2.2.1[i*14+q]?=some x,
  λz=>fs.length-z.2.2.2.toNat,⟨(0,0,[],0),by and_intros<;>rfl,0,rfl,Qq4 _,rfl,Qq2 _,Qq2 _,λi l=>absurd l (Qn2 i)⟩,?_⟩
 rintro ⟨b,O,u,z4⟩ V1 P ⟨j,H,uw,I,J,hv,y⟩;dsimp only at H I J hv y;subst H I;refine ⟨rfl,λd=>?_,λd V4 Q A R=>?_⟩
 ·have d:(b:Int)<fs.length:=of_decide_eq_true d;have l:b<fs.length:=by{omega};obtain ⟨S,K,xs,L,a⟩:=(h.le P).at_ b l;have w:i64.wrap ((b:Int)+1)=(b:Int)+1:=aw (by omega);dsimp only;rw [Qq0,w];have B:=L;obtain ⟨_,_,_,_,_,_,_,_,_,_,_,_,_,_,_,ex,-,-⟩:=L;have ex:=congrArg Array.toList (Value.agg.inj ex);dsimp only at ex;subst ex;have ⟨s1,s2⟩:=hs _ (Qq9 l);refine ⟨aF K,⟨by omega,by omega⟩,_,_,_,_,_,_,_,_,_,_,_,_,_,_,_,_,_,S,K,a 0 _ rfl,a 1 _ rfl,a 2 _ rfl,a 3 _ rfl,a 4 _ rfl,a 5 _ rfl,a 6 _ rfl,a 7 _ rfl,a 8 _ rfl,a 9 _ rfl,a 10 _ rfl,a 11 _ rfl,a 12 _ rfl,a 13 _ rfl,a 14 _ rfl,a 15 _ rfl,a 16 _ rfl,λV2 M=>(PX (B.le M) s1 s2 hk).s ?_⟩;rintro r V3 T g;have U:=g;obtain ⟨_,_,_,_,_,_,_,_,_,_,_,_,_,_,_,_,_,_,_,_,_,_,_,_,_,_,rfl⟩:=Qv g;refine ⟨_,_,_,_,_,_,_,_,_,_,_,_,_,_,_,_,_,_,_,_,_,_,_,_,_,_,_,_,rfl,by omega,J,hv,rfl,?_,?_⟩;{intro v hm;simp only [Qq5,Qx7,or_false] at hm;rcases hm with rfl|rfl|rfl|rfl|rfl|rfl|rfl|rfl|rfl|rfl|rfl|rfl|rfl|rfl<;>rfl};{intro sp W X h2;refine ⟨(b+1,W,_,(b:Int)+1),by dsimp only;omega,by and_intros<;>rfl,b+1,rfl,l,rfl,X,?_,?_⟩;{dsimp only;have t:(u.take (b*14)).length=b*14:=by{rw [Qq7];omega};rw [Qq3,Qq3,t];simp only [Qw6,Qk9];omega};{intro i Y C;dsimp only;have t:(u.take (b*14)).length=b*14:=by{rw [Qq7];omega};by_cases o:i=b;{subst o;refine ⟨_,rfl,U,λq x s=>?_⟩;rw [Qy3,Qy8 (by rw [t];omega),t,Qn5];have:q<14:=(Qw9.1 s).1;rw [Qx0 (by exact this)];exact s};{have ⟨D,N,E,F⟩:=y i (by omega) C;refine ⟨D,N,E.le (M.m T),λq x s=>?_⟩;have:q<14:=by{have:=(Qw9.1 s).1;omega};rw [Qy3,Qx0 (by rw [t];omega),Qy7,if_pos (by omega)];exact F q x s}}}
 ·have d:¬(b:Int)<fs.length:=of_decide_eq_false d;obtain rfl:b=fs.length:=by{omega};refine ⟨_,_,_,rfl,rfl,λi l=>?_⟩;have Z:O≠0:=by{omega};have G:u≠[]:=λe=>by{rw [e] at hv;simp at hv;omega};have ⟨D,N,E,F⟩:=y i l l;refine ⟨⟨A,i*14,none⟩,by simp [mA,Z,ae,add_zero'],D,E.le Q,λq x s=>?_⟩;have hj:(⟨A,i*14,none⟩:Addr).add q=⟨A,i*14+q,none⟩:=by{rw [←add_zero',fU,add_zero']};rw [hj];exact dH (R G) (F q x s)
theorem T4:((L.1:Rat)=(M.1:Rat)/\(L.2.1:Rat)=(M.2.1:Rat)/\(L.2.2:Rat)=(M.2.2:Rat))↔L=M:=by constructor;{rintro ⟨a,b,c⟩;exact Prod.ext (Qh8.1 a) (Prod.ext (Qh8.1 b) (Qh8.1 c))};{rintro rfl;exact ⟨rfl,rfl,rfl⟩}
theorem qN (hl:qE V v L)(hm:qE V w M)(sl:kH k L)(sm:kH k M)(hk:k+k<1099511627776:=by omega) :
  aa prog 123 #[v,w] V λr V'=>r=dQ (decide (L=M)):=by refine (HB hl hm sl.1 sl.2.1 sl.2.2 sm.1 sm.2.1 sm.2.2 hk).s ?_;rintro r V' l rfl;rw [decide_eq_decide.2 T4]
theorem yd (x y:Rat):0<=(fD x y).num:=by unfold fD;grind [Rat.num_mkRat]
theorem SF (h:¬(px=qx/\py=qy)):iw (mH px py qx qy) qx qy-iw (mH px py qx qy) px py=fD (fD (-(qy-py)) (qx-px)) (-(-(qy-py)*px+(qx-px)*py)):=by obtain ⟨f,d,e,-⟩:=qQ (a:=-(qy-py)) (b:=qx-px) (c:=-(-(qy-py)*px+(qx-px)*py)) (vd h);have i:=(Nk h).norm;change _=((mH px py qx qy).1:Rat) at d;change _=((mH px py qx qy).2.1:Rat) at e;generalize fD (fD (-(qy-py)) (qx-px)) (-(-(qy-py)*px+(qx-px)*py))=g at *;have j:=Qv8 g f;have k:=Qv8 _ i;unfold iw;have l:gU (mH px py qx qy)=((qy-py)*(qy-py)+(qx-px)*(qx-px))*(g⁻¹*g⁻¹):=by{unfold gU;rw [←d,←e];grind};grind
theorem Vg (h:¬(px=qx/\py=qy)):(Lj px py qx qy).emp=false:=by obtain ⟨f,-⟩:=qQ (a:=-(qy-py)) (b:=qx-px) (c:=-(-(qy-py)*px+(qx-px)*py)) (vd h);have d:=SF h;have i:=yd (fD (-(qy-py)) (qx-px)) (-(-(qy-py)*px+(qx-px)*py));unfold Lj Sp.emp;generalize fD (fD (-(qy-py)) (qx-px)) (-(-(qy-py)*px+(qx-px)*py))=g at *;have e:dK (iw (mH px py qx qy) px py) (iw (mH px py qx qy) qx qy)=- g.num.sign:=by{rw [NY,←d];rfl};grind [IH]
theorem YW (h:¬(px=qx/\py=qy)):FOk (mH px py qx qy) (Lj px py qx qy):=⟨RZ h,⟨(λh=>nomatch h),(λh=>nomatch h)⟩,Vg h⟩
theorem Zq (V:ut):RQ V (hF #[dQ false,qD none 0 0,qD none 0 0]) 0:=by have:=RQ.zero (V:=V);simpa using this
theorem tU:aa prog 212 #[] V λr V'=>mO V' r ⟨0,0,true,true⟩:=
 DM V _ λa b=>⟨_,_,_,_,_,_,_,_,_,_,_,_,_,_,rfl,Zq _,Zq _⟩
theorem Bz (h:mO V v s):∃b p n c p' n' c' d q m e q' m' e',v=hF #[dQ b,qD p n c,qD p' n' c',dQ d,qD q m e,qD q' m' e',dQ s.a,dQ s.b]:=by obtain ⟨_,_,_,_,_,_,_,_,_,_,_,_,_,_,e,-⟩:=h;exact qyZ e
theorem Ja (h:RF V v l s):∃b1 p1 n1 c1 b2 p2 n2 c2 b3 p3 n3 c3 b p n c p' n' c' d q m e q' m' e',
 v=hF #[dQ b1,qD p1 n1 c1,dQ b2,qD p2 n2 c2,dQ b3,qD p3 n3 c3,dQ b,qD p n c,qD p' n' c',dQ d,qD q m e,qD q' m' e',dQ s.a,dQ s.b]:=by obtain ⟨_,_,_,_,_,_,_,_,_,_,_,_,_,_,_,_,_,_,_,_,_,_,_,_,_,_,e,-⟩:=h;exact ⟨_,_,_,_,_,_,_,_,_,_,_,_,_,_,_,_,_,_,_,_,_,_,_,_,_,_,e⟩
theorem Vp {k:Nat}(h:kH k l):l.1.natAbs<2^k/\l.2.1.natAbs<2^k/\l.2.2.natAbs<2^k:=by have e:∀{x:Int},Sz k (x:Rat)->x.natAbs<2^k:=λh=>by{have:=h.1;rwa [Qd9] at this};exact ⟨e h.1,e h.2.1,e h.2.2⟩
theorem Xp (h:kH 1000 l):Bd l:=Vp (k:=1000) h
theorem mz (z w:Int){q:OA}{c m e:Nat}(ha:RD V p n c (ah z.natAbs))(hb:RD V q m e (ah w.natAbs))(hm:(ah z.natAbs).length<=1099511627776)(hn:(ah w.natAbs).length<=1099511627776) :
  aa prog 141 #[hF #[dQ (decide (z<0)),qD p n c],hF #[dQ (decide (w<0)),qD q m e]] V λr V'=>r=qvZ .i64 (z-w).sign:=by refine Cc V _ λi a=>(jD w (hb.le a)).s ?_;rintro r V2 d ⟨j,k,l,rfl,f⟩;refine qvJ ⟨rfl,λo b=>(vW z (-w) (ha.le (a.m (d.m b))) (f.le b) hm (by rw [Qd6];exact hn)).s ?_⟩;rintro r s t ⟨u,v,x,rfl,g⟩;refine qvJ ⟨rfl,λy h=>(nU _ (g.le h)).s ?_⟩;rintro r A B rfl;exact ⟨_,rfl,λC D=>by rw [Int.sub_eq_add_neg]⟩
def mC (l m:L3):Int:=if (l.1-m.1).sign≠0 then (l.1-m.1).sign else if (l.2.1-m.2.1).sign≠0 then (l.2.1-m.2.1).sign else (l.2.2-m.2.2).sign
theorem FB:mC l m=0↔l=m:=by have e:∀{a b:Int},(a-b).sign=0↔a=b:=λ{a b}=>by{rw [Qm2];omega};unfold mC;constructor;{intro h;by_cases c:(l.1-m.1).sign=0;{rw [if_neg (by simpa using c)] at h;by_cases d:(l.2.1-m.2.1).sign=0;{rw [if_neg (by simpa using d)] at h;exact Prod.ext (e.1 c) (Prod.ext (e.1 d) (e.1 h))};{rw [if_pos d] at h;exact absurd h d}};{rw [if_pos c] at h;exact absurd h c}};{rintro rfl;simp}
theorem mb (hl:RL V v l.1 l.2.1 l.2.2)(hm:RL V w m.1 m.2.1 m.2.2)(sl:kH k l)(sm:kH k m)(hk:k<=1099511627776:=by omega) :
  aa prog 83 #[v,w] V λr V'=>r=qvZ .i64 (mC l m):=by have ⟨d1,d2,d3⟩:=sl.ah hk;have ⟨f,g,i⟩:=sm.ah hk;obtain ⟨_,_,_,_,_,_,_,_,_,rfl,j,n,o⟩:=hl;obtain ⟨_,_,_,_,_,_,_,_,_,rfl,p,q,s⟩:=hm;refine GU V _ λt a=>(mz _ _ (j.le a) (p.le a) d1 f).s ?_;rintro r V2 b rfl;unfold mC;refine ⟨_,rfl,λh u x=>?_,λh y c=>(mz _ _ (n.le (a.m (b.m c))) (q.le (a.m (b.m c))) d2 g).s ?_⟩;{rw [bne_iff_ne] at h;rw [if_pos h]};{rw [bne_eq_false_iff_eq] at h;rw [if_neg (by rw [h];decide)];rintro r z d rfl;refine ⟨_,rfl,λh A B=>?_,λh C e=>(mz _ _ (o.le (a.m (b.m (c.m (d.m e))))) (s.le (a.m (b.m (c.m (d.m e))))) d3 i).s ?_⟩;{rw [bne_iff_ne] at h;rw [if_pos h]};{rw [bne_eq_false_iff_eq] at h;rw [if_neg (by rw [h];decide)];rintro r D E rfl;exact ⟨_,rfl,λF G=>rfl⟩}}
theorem HO:(mC l m==(0:Int))=decide (l=m):=by by_cases h:l=m;{rw [decide_eq_true h,beq_iff_eq];exact FB.2 h};{rw [decide_eq_false h,beq_eq_false_iff_ne];exact λe=>h (FB.1 e)}
def L_ (u:Value):Prop:=u=.agg #[.bool false,.slice none 0 0,.slice none 0 0,.bool false,.slice none 0 0,.slice none 0 0]
theorem K9 {l m:L3}(hl:RL V v l.1 l.2.1 l.2.2)(hm:RL V w m.1 m.2.1 m.2.2)(sl:kH k l)(sm:kH k m)(hk:20*k+20<274877906944:=by omega) :
  aa prog 99 #[v,w] V λr V'=>∃u,r=dB #[u,dQ (decide (crossL l m≠0))]/\(crossL l m=0->L_ u)/\(crossL l m≠0->RP V' u (Ow l m) (Ox l m)):=by have e0:((l.1:Int):Rat)*((m.2.1:Int):Rat)-((m.1:Int):Rat)*((l.2.1:Int):Rat)=crossL l m:=by{unfold crossL;grind};have e1:((l.2.1:Int):Rat)*((m.2.2:Int):Rat)-((m.2.1:Int):Rat)*((l.2.2:Int):Rat)=((l.2.1:Rat)*(m.2.2:Rat))-((l.2.2:Rat)*(m.2.1:Rat)):=by{grind};have e2:((m.1:Int):Rat)*((l.2.2:Int):Rat)-((l.1:Int):Rat)*((m.2.2:Int):Rat)=((l.2.2:Rat)*(m.1:Rat))-((l.1:Rat)*(m.2.2:Rat)):=by{grind};obtain ⟨a,b,c⟩:=sl;obtain ⟨d,e,f⟩:=sm;obtain ⟨_,_,_,_,_,_,_,_,_,rfl,a1,a2,a3⟩:=hl;obtain ⟨_,_,_,_,_,_,_,_,_,rfl,b1,b2,b3⟩:=hm;refine DE V _ λV1 A=>(bz (a1.le A) a).s ?_;rintro r V2 l2 B;have C:=B;obtain ⟨_,_,_,_,_,_,rfl⟩:=B.shape;refine qyW ⟨rfl,λV3 D=>(bz (b2.le (A.m (l2.m (D)))) e).s ?_⟩;rintro r V4 l4 E;have F:=E;obtain ⟨_,_,_,_,_,_,rfl⟩:=E.shape;refine qyW ⟨rfl,λV5 G=>(aX (C.le (D.m (l4.m (G)))) (F.le G) a e).s ?_⟩;rintro r V6 l6 H;have I:=H;obtain ⟨_,_,_,_,_,_,rfl⟩:=H.shape;refine qyW ⟨rfl,λV7 l7=>(bz (b1.le (A.m (l2.m (D.m (l4.m (G.m (l6.m (l7)))))))) d).s ?_⟩;rintro r V8 l8 J;have K:=J;obtain ⟨_,_,_,_,_,_,rfl⟩:=J.shape;refine qyW ⟨rfl,λV9 l9=>(bz (a2.le (A.m (l2.m (D.m (l4.m (G.m (l6.m (l7.m (l8.m (l9)))))))))) b).s ?_⟩;rintro r fy i L;have M:=L;obtain ⟨_,_,_,_,_,_,rfl⟩:=L.shape;refine qyW ⟨rfl,λfC bo=>(aX (K.le (l9.m (i.m (bo)))) (M.le bo) d b).s ?_⟩;rintro r gI bW N;have O:=N;obtain ⟨_,_,_,_,_,_,rfl⟩:=N.shape;refine qyW ⟨rfl,λiT bP=>(ij (I.le (l7.m (l8.m (l9.m (i.m (bo.m (bW.m (bP)))))))) (O.le bP) (a.mul e) (d.mul b)).s ?_⟩;rintro r lP cN j;rw [e0] at j;have g:=j;obtain ⟨_,_,_,_,_,_,rfl,P,-⟩:=j;have sD:Sz (4*k+3) (((l.1:Int):Rat)*((m.2.1:Int):Rat)-((m.1:Int):Rat)*((l.2.1:Int):Rat)):=Sz.s ((a.mul e).sub (d.mul b));rw [e0] at sD;refine qyW ⟨rfl,λjJ cF=>(qH _ (P.le cF)).s ?_⟩;rintro r kI cB rfl;refine ⟨_,rfl,λn lQ cG=>?_,λn=>?_⟩;{rw [beq_iff_eq,uW] at n;rw [n];exact ⟨_,rfl,λ_=>rfl,λh=>absurd rfl h⟩};{rw [beq_eq_false_iff_ne,ne_eq,uW] at n;rw [decide_eq_true n];have Q:¬(crossL l m).num=0:=λh=>n (Qv0.1 h);intro lQ cG;have R:V.Le lQ:=(A.m (l2.m (D.m (l4.m (G.m (l6.m (l7.m (l8.m (l9.m (i.m (bo.m (bW.m (bP.m (cN.m (cF.m (cB.m (cG)))))))))))))))));replace g:=g.le (cF.m (cB.m (cG)));refine (bz (a2.le R) b).s ?_;rintro r mM S T;have U:=T;obtain ⟨_,_,_,_,_,_,rfl⟩:=T.shape;refine qyW ⟨rfl,λpf s=>(bz (b3.le (R.m (S.m (s)))) f).s ?_⟩;rintro r vG W X;have Y:=X;obtain ⟨_,_,_,_,_,_,rfl⟩:=X.shape;refine qyW ⟨rfl,λqF t=>(aX (U.le (s.m (W.m (t)))) (Y.le t) b f).s ?_⟩;rintro r tK gR Z;have a0:=Z;obtain ⟨_,_,_,_,_,_,rfl⟩:=Z.shape;refine qyW ⟨rfl,λvH iu=>(bz (b2.le (R.m (S.m (s.m (W.m (t.m (gR.m (iu)))))))) e).s ?_⟩;rintro r Hg jX a4;have a5:=a4;obtain ⟨_,_,_,_,_,_,rfl⟩:=a4.shape;refine qyW ⟨rfl,λHh mi=>(bz (a3.le (R.m (S.m (s.m (W.m (t.m (gR.m (iu.m (jX.m (mi)))))))))) c).s ?_⟩;rintro r Pa ni a6;have a7:=a6;obtain ⟨_,_,_,_,_,_,rfl⟩:=a6.shape;refine qyW ⟨rfl,λTw oo=>(aX (a5.le (mi.m (ni.m (oo)))) (a7.le oo) e c).s ?_⟩;rintro r Pb rj a8;have a9:=a8;obtain ⟨_,_,_,_,_,_,rfl⟩:=a8.shape;refine qyW ⟨rfl,λVN xB=>(ij (a0.le (iu.m (jX.m (mi.m (ni.m (oo.m (rj.m (xB)))))))) (a9.le xB) (b.mul f) (e.mul c)).s ?_⟩;rintro r Pc uz o;rw [e1] at o;have X0:=o;obtain ⟨_,_,_,_,_,_,rfl⟩:=o.shape;have sX:Sz (4*k+3) (((l.2.1:Rat)*(m.2.2:Rat))-((l.2.2:Rat)*(m.2.1:Rat))):=by{rw [←e1];exact Sz.s ((b.mul f).sub (e.mul c))};have M1:V.Le Pc:=(R.m (S.m (s.m (W.m (t.m (gR.m (iu.m (jX.m (mi.m (ni.m (oo.m (rj.m (xB.m (uz))))))))))))));replace g:=g.le (S.m (s.m (W.m (t.m (gR.m (iu.m (jX.m (mi.m (ni.m (oo.m (rj.m (xB.m (uz)))))))))))));refine qyW ⟨rfl,λXe x=>(bz (b1.le (M1.m x)) d).s ?_⟩;rintro r Xf wD b0;have b4:=b0;obtain ⟨_,_,_,_,_,_,rfl⟩:=b0.shape;refine qyW ⟨rfl,λPx y=>(bz (a3.le (M1.m (x.m (wD.m (y))))) c).s ?_⟩;rintro r Y9 EH b5;have b6:=b5;obtain ⟨_,_,_,_,_,_,rfl⟩:=b5.shape;refine qyW ⟨rfl,λZA z=>(aX (b4.le (y.m (EH.m (z)))) (b6.le z) d c).s ?_⟩;rintro r c9 MD b7;have b8:=b7;obtain ⟨_,_,_,_,_,_,rfl⟩:=b7.shape;refine qyW ⟨rfl,λd0 Pn=>(bz (a1.le (M1.m (x.m (wD.m (y.m (EH.m (z.m (MD.m (Pn))))))))) a).s ?_⟩;rintro r d1 Oo b9;have c0:=b9;obtain ⟨_,_,_,_,_,_,rfl⟩:=b9.shape;refine qyW ⟨rfl,λd2 Tq=>(bz (b3.le (M1.m (x.m (wD.m (y.m (EH.m (z.m (MD.m (Pn.m (Oo.m (Tq))))))))))) f).s ?_⟩;rintro r d3 Yq c1;have c2:=c1;obtain ⟨_,_,_,_,_,_,rfl⟩:=c1.shape;refine qyW ⟨rfl,λd4 Yr=>(aX (c0.le (Tq.m (Yq.m (Yr)))) (c2.le Yr) a f).s ?_⟩;rintro r d5 p c3;have c4:=c3;obtain ⟨_,_,_,_,_,_,rfl⟩:=c3.shape;refine qyW ⟨rfl,λd6 Yt=>(ij (b8.le (Pn.m (Oo.m (Tq.m (Yq.m (Yr.m (p.m (Yt)))))))) (c4.le Yt) (d.mul c) (a.mul f)).s ?_⟩;rintro r d7 c5 q;rw [e2] at q;have c6:=q;obtain ⟨_,_,_,_,_,_,rfl⟩:=q.shape;have sY:Sz (4*k+3) (((l.2.2:Rat)*(m.1:Rat))-((l.1:Rat)*(m.2.2:Rat))):=by{rw [←e2];exact Sz.s ((d.mul c).sub (a.mul f))};replace g:=g.le (x.m (wD.m (y.m (EH.m (z.m (MD.m (Pn.m (Oo.m (Tq.m (Yq.m (Yr.m (p.m (Yt.m (c5))))))))))))));replace X0:=X0.le (x.m (wD.m (y.m (EH.m (z.m (MD.m (Pn.m (Oo.m (Tq.m (Yq.m (Yr.m (p.m (Yt.m (c5))))))))))))));refine qyW ⟨rfl,λd8 Ra=>(iZ (X0.le Ra) (g.le Ra) Q sX sD).s ?_⟩;rintro r d9 c7 gr;have xu:=gr;obtain ⟨_,_,_,_,_,_,rfl⟩:=gr.shape;refine qyW ⟨rfl,λe3 Zl=>(iZ (c6.le (Ra.m (c7.m (Zl)))) (g.le (Ra.m (c7.m (Zl)))) Q sY sD).s ?_⟩;rintro r ZB Ux gs;have c8:=gs;obtain ⟨_,_,_,_,_,_,rfl⟩:=gs.shape;exact qyW ⟨rfl,λe4 Zm=>⟨_,rfl,λh=>absurd h n,λ_=>⟨_,_,_,_,_,_,_,_,_,_,_,_,rfl,xu.le (Zl.m (Ux.m (Zm))),c8.le Zm⟩⟩⟩}
def Tg (a b:L3):Int:=mC a b
theorem uc:mC a b<0↔(a.1<b.1\/a.1=b.1/\(a.2.1<b.2.1\/a.2.1=b.2.1/\a.2.2<b.2.2)):=by have s:∀{x y:Int},(x<y/\(x-y).sign=-1)\/(x=y/\(x-y).sign=0)\/(y<x/\(x-y).sign=1):=by{grind};unfold mC;grind
theorem ordCL:Ord Tg:=⟨λa b h=>by unfold Tg at *;rw [uc] at *;omega,λa b d h c=>by unfold Tg at *;rw [uc] at *;omega⟩
theorem R7:OE [dK (a.1:Rat) (b.1:Rat),dK (a.2.1:Rat) (b.2.1:Rat),dK (a.2.2:Rat) (b.2.2:Rat)]=mC a b:=by have e:∀x y:Int,dK (x:Rat) (y:Rat)=(x-y).sign:=λx y=>by{unfold dK;rw [←Wz8,Qd9]};rw [e,e,e];unfold mC;generalize (a.1-b.1).sign=x;generalize (a.2.1-b.2.1).sign=y;generalize (a.2.2-b.2.2).sign=z;simp only [OE];grind
def nI (V:View)(v:Value)(c:L3):Prop:=zI V v c.1 c.2.1 c.2.2/\Bd c
theorem nI.le {V V':ut}{c:L3}(h:nI V v c)(l:V.Le V'):nI V' v c:=⟨h.1.le l,h.2⟩
theorem nI.shape {c:L3}(h:nI V v c):∃(x y:Int)(p:OA)(xb yb:Int)(pb:OA)(xc yc:Int)(pc:OA),v=hF #[qvZ .i64 x,qvZ .i64 y,dZ p,qvZ .i64 xb,qvZ .i64 yb,dZ pb,qvZ .i64 xc,qvZ .i64 yc,dZ pc]:=by obtain ⟨⟨a,b,p,d,f,q,g,i,r,e,-⟩,-⟩:=h;exact ⟨_,_,_,_,_,_,_,_,_,e⟩
theorem Kl (h:nI V v a)(h':nI V w b):aa prog 122 #[v,w] V λr V'=>r=qvZ .i64 (Tg a b):=by obtain ⟨s1,s2,s3⟩:=h.2.sz;obtain ⟨t1,t2,t3⟩:=h'.2.sz;refine (Ec h.1 h'.1 s1 s2 s3 t1 t2 t3).s ?_;rintro r c d rfl;rw [R7];rfl
def eL (a b:L3):Bool:=decide (a=b)
end Go.Proofs.Tryz
namespace Go.Eng
open Go.Proofs Go.Shelf Go.RowKit Go.Lib Go.Sort
open Go.Value renaming slice→qD,tuple→dB,int→qvZ
def VF {τ:Type}(R:View->Value->τ->Prop)(k:Nat)(V:View):Type:={p:List Value×τ // R V (.agg p.1.toArray) p.2/\p.1.length=k/\∀x∈p.1,x.oneCell'=true}
theorem FP {w w':World}(h:iP (λ_=>False) w w'):∃q os,w'=grow (w.drewN q) os:=by refine ⟨w'.drawn-w.drawn,w'.heap.extract w.heap.size w'.heap.size,?_⟩;obtain ⟨a,k,dr,os,out⟩:=w';have b:=h.os;have c:=h.tape;have d:=h.out;have e:=h.dr;have f:=h.size;have g:=h.bg;dsimp only at b c d e f g;subst b c d;have i:a=w.heap++a.extract w.heap.size a.size:=by{grind};have j:dr=w.drawn+(dr-w.drawn):=by{omega};show (⟨a,w.tape,dr,w.os,w.output⟩:World)=⟨w.heap++a.extract w.heap.size a.size,w.tape,w.drawn+(dr-w.drawn),w.os,w.output⟩;rw [←i,←j]
def sM {α:Type}[Inhabited α](enc:α->pz un)(k:Nat)(w:World)(b off m:Nat)(d:Array α)(os:Array Obj)(i:Nat)(hi:i<w.heap.size) :
  (sortWorldK enc k w b off m d os).heap[i]?=if b=i then (w.heap[i]?).map (onCells (putCells id off (flatK enc k d))) else w.heap[i]?:=by show (((w.heap.modify b (onCells (putCells id off (flatK enc k d))))++os))[i]?=_;rw [Array.getElem?_append,if_pos (by rw [Array.size_modify];exact hi),Array.getElem?_modify]
def QC {α:Type}[Inhabited α](enc:α->pz un)(k:Nat)(hk:∀x,(enc x).length=k)(d:Array α)(vs:pz un)(hl:d.size*k<=vs.length)(i:Nat)(hi:i<d.size)(j:Nat)(x:un)(hx:(enc d[i]!)[j]?=some x) :
  (putCells id 0 (flatK enc k d) vs.toArray).toList[i*k+j]?=some x:=by have c:j<k:=by{have:=(Qw9.1 hx).1;rw [hk] at this;exact this};have lt:i*k+j<d.size*k:=by{have:=Qw0 k (show i+1<=d.size from hi);rw [Qk1,Qd1] at this;omega};have a:(i*k+j) / k=i:=(blk_iff k i _ (by omega)).1 ⟨by omega,by omega⟩;have b:(i*k+j)%k=j:=by{rw [Nat.mod_eq_sub_div_mul,a];omega};unfold putCells;rw [Array.getElem?_toList,Array.getElem?_mapIdx,List.getElem?_toArray,Qq1 (by omega),Wq5,if_pos ⟨Qq4 _,by rw [size_flatK];omega⟩,Wz1,get_flatK _ _ _ _ lt,a,b];rw [Qt1,hx];rfl
variable {P:Program} {ρ:Ren} {τ:Type} {R:View->Value->τ->Prop} {k g:Nat} {ty:TypeId} {cf:τ->τ->Int}
set_option maxHeartbeats 1000000 in
theorem Ll (L:SlLaysF0.n6 P ρ)(aE:∀w,(isAgg (ρ.t 24)).run P w=.ok true w)(zE:∀w,(Go.sizeOf (ρ.t 24)).run P w=.ok k w)
  (hR:∀{V V':ut} {v a},R V v a->V.Le V'->R V' v a)(hS:∀{V:ut} {v a},R V v a->∃xs:pz un,v=.agg xs.toArray/\xs.length=k/\∀x∈xs,x.oneCell'=true)
  (hO:SWO λx y=>decide (cf x y<0))(hc:∀{V:ut} {v w a b},R V v a->R V w b->aa P g #[v,w] V λr _=>r=qvZ .i64 (cf a b))
  {V:ut}{lb n c:Nat}{vs:pz un}{l:pz τ}(hw:V.w.heap[lb]?=some (.cells vs.toArray ty (0,0)))(hx:V.X lb)(row:Row k R V vs l)(hn:n=l.length)(h0:l≠[])(k0:0<k)(G9:l.length<1000000000) :
  aa P (ρ.f 6) #[qD (some ⟨lb,0,none⟩) n c,.func (.func g) #[] #[]] V λr V'=>r=dB #[]/\∃vs' l',V'.w.heap[lb]?=some (.cells vs'.toArray ty (0,0))/\Row k R V' vs' l'/\l'.Perm l/\l'.Pairwise λx y=>¬cf y x<0:=by subst hn;have s:∀i:Fin l.length,∃e:VF R k V,e.1.2=l[i.1]/\∀j x,e.1.1[j]?=some x->vs[i.1*k+j]?=some x:=λi=>by{have ⟨xs,J,O,Z⟩:=row.at_ i.1 i.2;have ⟨ys,f1,f2,f3⟩:=hS O;have:xs=ys:=List.toArray_inj (Value.agg.inj f1);subst this;exact ⟨⟨(xs,l[i.1]),O,f2,f3⟩,rfl,Z⟩};have pos:0<l.length:=Qh2.2 h0;obtain ⟨K,-,-⟩:=s ⟨0,pos⟩;letI:Inhabited (VF R k V):=⟨K⟩;let enc:VF R k V->pz un:=λe=>e.1.1;have I:∀x,(enc x).length=k:=λx=>x.2.2.1;let d:Array (VF R k V):=Array.ofFn λi=>Classical.choose (s i);have B:d.size=l.length:=Array.size_ofFn;have Q:∀i (p:i<l.length),(d[i]!)=Classical.choose (s ⟨i,p⟩):=λi p=>by{rw [getElem!_pos d i (by omega)];exact Array.getElem_ofFn _};have d1:∀i (p:i<l.length),(d[i]!).1.2=l[i]:=λi p=>by{rw [Q i p];exact (Classical.choose_spec (s ⟨i,p⟩)).1};have d2:∀i (p:i<l.length) j x,(enc d[i]!)[j]?=some x->vs[i*k+j]?=some x:=λi p j x h=>by{rw [Q i p] at h;exact (Classical.choose_spec (s ⟨i,p⟩)).2 j x h};have vl:l.length*k<=vs.length:=row.jR k0;have E:=aG hw;have hH:HoldsK enc k V.w lb 0 d:=λt M=>by{rw [size_flatK] at M;have Ie:t / k<l.length:=by{rw [←B];exact Nat.div_lt_of_lt_mul (by rw [Qv5];exact M)};have hm:t%k<k:=Qj7 _ k0;rw [get_flatK _ _ _ _ M,Qz2];have hg:(enc d[t / k]!)[t%k]?=some ((enc d[t / k]!)[t%k]!):=by{rw [Qt1,Qq1 (by rw [I];exact hm)];rfl};have:=d2 _ Ie _ _ hg;rw [Nat.div_add_mod' t k] at this;unfold World.cell? World.frozen?;rw [hw];refine ⟨?_,?_⟩;{show (if (none:Option _).isSome=true then none else vs.toArray[t]?)=_;rw [if_neg (by simp),List.getElem?_toArray];exact this};grind};have hle:∀m (u:Array (VF R k V)) os (F:∀b,V.H b->b<(sortWorldK enc k V.w lb 0 m u os).heap.size) (X:Nat->Prop) (C:∀b,X b->V.H b),V.Le ⟨sortWorldK enc k V.w lb 0 m u os,V.H,X,F,C⟩:=λm u os F X C b o ⟨D,S⟩=>by{refine ⟨D,?_⟩;rw [sM _ _ _ _ _ _ _ _ _ (aG S),if_neg (show ¬lb=b from λe=>D (e▸V.hX _ hx))];exact S};have G:∀m (u:Array (VF R k V)) os,V.w.heap.size<=(sortWorldK enc k V.w lb 0 m u os).heap.size:=λm u os=>size_sortWorldK_c ..;have hC:CmpLays P g #[] enc k (λx y=>cf x.1.2 y.1.2) lb 0 d.size V.w:=λm os u _ x y=>by{have T:∀b,V.H b->b<(sortWorldK enc k V.w lb 0 m u os).heap.size:=λb D=>Qy6 (V.hH b D) (G m u os);have:=(hc (hR x.2.1 (hle m u os T (λ_=>False) λ_ h=>h.elim)) (hR y.2.1 (hle m u os T (λ_=>False) λ_ h=>h.elim))).2;refine this.s ?_<;>grind [FP]};have Tn:SWO (ltOf λ(x y:VF R k V)=>cf x.1.2 y.1.2):=⟨λx=>hO.irrefl _,λx y z=>hO.2 _ _ _,λx y z=>hO.3 _ _ _⟩;rw [←B];refine ⟨?_,(AnyQ.slices_SortFunc L k aE zE enc I (λx=>x.2.2.2) (λx y=>cf x.1.2 y.1.2) Tn g #[] lb 0 c d V.w (λargs w=>iC.run (hc K.2.1 K.2.1).1 args) hC hH E (by omega)).s ?_⟩;{obtain ⟨nm,F,C⟩:=L.f6;exact ⟨_,C,rfl,F⟩};rintro e w' ⟨rfl,A,q,os,hp,hs,rfl⟩;obtain ⟨p1,-,U⟩:=hp;have W:A.size=l.length:=p1.m B;refine ⟨_,rfl,⟨G _ _ _,λb D hX=>?_,rfl,rfl,rfl,Qp6 _ _⟩,rfl,(putCells id 0 (flatK enc k A) vs.toArray).toList,A.toList.map λx=>x.1.2,?_,⟨λi p=>?_⟩,?_,?_⟩;{rw [sM _ _ _ _ _ _ _ _ _ D,if_neg (show ¬lb=b from λe=>hX (e▸hx))]};{show (sortWorldK enc k V.w lb 0 q A os).heap[lb]?=_;rw [sM _ _ _ _ _ _ _ _ _ E,if_pos rfl,hw,Array.toArray_toList];rfl};{rw [Qy5,Wq7] at p;refine ⟨enc A[i]!,I _,?_,λj x hx=>QC enc k I A vs (by rw [W];exact vl) i p j x hx⟩;rw [Qp8,Qp5,getElem!_pos A i p];exact hR A[i].2.1 (hle q A os _ V.X V.hX)};{have J:∀a:Array (VF R k V),a.size=l.length->a.extract 0 d.size=a:=λa ha=>by{rw [B,←ha];simp};rw [J _ W,J _ B] at U;have p4:=U.map λx=>x.1.2;have:d.toList.map (λx=>x.1.2)=l:=List.ext_getElem (by simp [B]) λi F C=>by{rw [Qp8,Qp5,←getElem!_pos d i (by omega)];exact d1 i C};rwa [this] at p4};{refine Qc2.2 λi j p Y N=>?_;rw [Qy5,Wq7] at p Y;have:=hs i j (Qq4 _) N (by omega);rw [Qp8,Qp8,Qp5,Qp5,←getElem!_pos A i p,←getElem!_pos A j Y];exact of_decide_eq_false this}
end Go.Eng
namespace Go.Proofs.Tryz
open Go.Eng Go.Proofs Go.Shelf Go.RowKit Go.Lib Go.Sort
open Go.Value renaming slice→qD,tuple→dB,int→qvZ
def Ord.swo {τ:Type}{c:τ->τ->Int}(h:Ord c):SWO λx y=>decide (c x y<0):=
 ⟨λx=>decide_eq_false (h.refl x),λx y z a b=>decide_eq_true (Decidable.byContradiction λn=>h.tr _ _ _ n (h.asy _ _ (of_decide_eq_true b)) (of_decide_eq_true a)),
  λx y z a b=>decide_eq_false (h.tr _ _ _ (of_decide_eq_false a) (of_decide_eq_false b))⟩
variable {P:Program} {ρ:Ren} {τ:Type} {R:View->Value->τ->Prop} {k g:Nat} {ty:TypeId} {cf:τ->τ->Int}
theorem wO (L:SlLaysF0.n6 P ρ){V:ut}{p:OA}{c:Nat}{fv:un}:aa P (ρ.f 6) #[qD p 0 c,fv] V λr V'=>r=dB #[]/\V'=V:=by refine ⟨?_,(AnyF.slices_SortFunc_none L p c fv V.w).s ?_⟩;{obtain ⟨d,a,b⟩:=L.f6;exact ⟨_,b,rfl,a⟩};rintro e g ⟨rfl,rfl⟩;exact ⟨_,rfl,iP.refl _ _,rfl,rfl⟩
theorem Jk (L:SlLaysF0.n6 P ρ)(aE:∀w,(isAgg (ρ.t 24)).run P w=.ok true w)(zE:∀w,(Go.sizeOf (ρ.t 24)).run P w=.ok k w)
  (hR:∀{V V':ut} {v a},R V v a->V.Le V'->R V' v a)(hS:∀{V:ut} {v a},R V v a->∃xs:pz un,v=.agg xs.toArray/\xs.length=k/\∀x∈xs,x.oneCell'=true)
  (hO:Ord cf)(hc:∀{V:ut} {v w a b},R V v a->R V w b->aa P g #[v,w] V λr _=>r=qvZ .i64 (cf a b))(k0:0<k)
  {V:ut}{lb n c:Nat}{vs:pz un}{l:pz τ}(hw:V.w.heap[lb]?=some (.cells vs.toArray ty (0,0)))(hx:V.X lb)(row:Row k R V vs l)(hn:n=l.length)(G9:l.length<1000000000:=by omega) :
  aa P (ρ.f 6) #[qD (some ⟨lb,0,none⟩) n c,.func (.func g) #[] #[]] V λr V'=>r=dB #[]/\∃vs' l',V'.w.heap[lb]?=some (.cells vs'.toArray ty (0,0))/\Row k R V' vs' l'/\l'.Perm l/\l'.Pairwise λx y=>¬cf y x<0:=by by_cases d:l=[];{subst d hn;refine (wO L).s ?_;rintro r V' e ⟨rfl,rfl⟩;exact ⟨rfl,vs,[],hw,row,.refl _,.nil⟩};{exact Ll (R:=R) (cf:=cf) L aE zE hR hS hO.swo hc hw hx row hn d k0 G9}
end Go.Proofs.Tryz
namespace Go.Proofs.Tryz
open Go.Eng Go.Big
open Go.Value renaming slice→qD,tuple→dB
variable{V:View}{b:Nat}
structure VL (V:View) (n:Nat) (vs:List Value) (l:List L3):Prop where
 row:Row 9 nI V vs l
 len:n=l.length
 G9:l.length<4000
theorem VL.le {V V':ut}{n:Nat}{vs:pz un}{l:pz L3}(h:VL V n vs l)(e:V.Le V'):VL V' n vs l:=⟨h.row.le λ_ _ g=>nI.le g e,h.len,h.G9⟩
theorem nI.cells {v:un}{c:L3}(h:nI V v c):∃xs:pz un,v=.agg xs.toArray/\xs.length=9/\∀x∈xs,x.oneCell'=true:=by obtain ⟨_,_,_,_,_,_,_,_,_,rfl⟩:=h.shape;exact ⟨_,rfl,rfl,Qz4.1 rfl⟩
theorem Hw {lb n c:Nat}{vs:pz un}{l:pz L3}(hw:V.w.heap[lb]?=some (.cells vs.toArray 97 (0,0)))(hx:V.X lb)(h:VL V n vs l) :
  aa prog 165 #[qD (some ⟨lb,0,none⟩) n c,.func (.func 122) #[] #[]] V λr V'=>r=dB #[]/\∃vs' l',V'.w.heap[lb]?=some (.cells vs'.toArray 97 (0,0))/\VL V' n vs' l'/\l'.Perm l/\l'.Pairwise λx y=>¬Tg y x<0:=by have G9:=h.G9;refine (Jk (R:=nI) (cf:=Tg) EY aggL sizL nI.le nI.cells ordCL Kl (by decide) hw hx h.row h.len).s ?_;rintro r V' b ⟨rfl,vs',l',e,row,pm,a⟩;exact ⟨rfl,vs',l',e,⟨row,h.len.m pm.length_eq.symm,by rw [pm.length_eq];exact G9⟩,pm,a⟩
theorem xV:aa prog 165 #[qD none 0 0,.func (.func 122) #[] #[]] V λr V'=>r=dB #[]:=
 (wO EY).s λ_ _ _ h=>h.1
def Hd (m:Nat):Prop:=(m=0->∀{V:View},aa prog 166 #[.slice none 0 0,.func (.func 123) #[] #[]] V λr V'=>r=.slice none 0 0) /\
 ∀{V:View} {lb n c:Nat} {vs:List Value} {l:List L3},l.length=m->V.w.heap[lb]?=some (.cells vs.toArray 97 (0,0))->V.X lb->VL V n vs l->n<=c ->
 aa prog 166 #[.slice (some ⟨lb,0,none⟩) n c,.func (.func 123) #[] #[]] V λr V'=>∃vs',r=.slice (some ⟨lb,0,none⟩) (C8 eL l).length c/\V'.w.heap[lb]?=some (.cells vs'.toArray 97 (0,0))/\Row 9 nI V' vs' (C8 eL l)/\vs'.length=vs.length
theorem Xv:Hd 1:=by refine ⟨(λh=>nomatch h),?_⟩;intro V lb n c b l j hw f h k;have len:=h.len;refine nH lb n c b V _ hw f ⟨λd m i a=>?_,λd=>absurd (of_decide_eq_false d) (by omega)⟩;have e:=P9 (e:=eL) (l:=l);rw [e,←len];exact ⟨b,rfl,a,h.row.le λ_ _ g=>nI.le g i,rfl⟩
def E_ (m:Nat):Prop:=∀{V:View} {lb n c:Nat} {vs:List Value} {l:List L3},l.length=m->V.w.heap[lb]?=some (.cells vs.toArray 97 (0,0))->V.X lb->VL V n vs l ->
 aa prog 165 #[.slice (some ⟨lb,0,none⟩) n c,.func (.func 122) #[] #[]] V λr V'=>r=.tuple #[]/\∃vs' l',V'.w.heap[lb]?=some (.cells vs'.toArray 97 (0,0))/\VL V' n vs' l'/\l'.Perm l/\l'.Pairwise λx y=>¬Tg y x<0
theorem YZ (m:Nat):E_ m:=λ_ hw a h=>Hw hw a h
theorem Rg {P:Prop}(h:P->V.H b):V.Le (V.shut.bu P b):=λx o g=>⟨λa=>by
 rcases a with a|a
 ·exact g.1 a
 ·rw [a.2.1] at g;exact g.1 (h a.1),g.2⟩
theorem aa.monoB {f:FuncId}{args:Array un}{R R':un->ut->Prop}(h:aa prog f args V R)(hR:∀r V',V.Le V'->(∀b,V.H b->V'.H b)->R r V'->R' r V'):aa prog f args V R':=
 ⟨h.1,h.2.s λ_ c ⟨r,he,a,d⟩=>⟨r,he,a,hR r _ (V.Rj c a) (λ_ e=>e) d⟩⟩
theorem KG {V':ut}{P:Prop}(h:V.Le (V'.bu True b)):V.Le (V'.bu P b):=λx o a=>
 ⟨λc=>(h x o a).1 (c.imp id λe=>⟨trivial,e.2⟩),(h x o a).2⟩
theorem Oj {V':ut}{P:Prop}(h:V.Le V')(n:¬P):V.Le (V'.bu P b):=λx o a=>
 ⟨λc=>(h x o a).1 (c.elim id λe=>absurd e.1 n),(h x o a).2⟩
end Go.Proofs.Tryz
