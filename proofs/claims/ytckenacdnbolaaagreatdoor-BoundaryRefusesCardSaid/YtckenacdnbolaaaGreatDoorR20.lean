import Derived.Test.YtckenacdnbolaaaGreatDoorR16
import Derived.Test.YtckenacdnbolaaaGreatDoorR17
import Derived.Test.YtckenacdnbolaaaGreatDoorR15
import Derived.Test.YtckenacdnbolaaaGreatDoorR19
import Derived.Test.YtckenacdnbolaaaGreatDoorR5
import Derived.Test.YtckenacdnbolaaaGreatDoorR18
import Derived.Test.YtckenacdnbolaaaGreatDoorR9
set_option linter.all false
open Go.IntKind (i64 u64 u32)
namespace Go.Proofs.Tryz
open Go.Eng Go.Big
open Go.Value renaming slice→hF,agg→dB,bool→qvQ,pointer→qvW,tuple→qvZ,int→qvK
variable{V:View}
theorem Sl {t:Tr}{p:OA}(h:RW V p t):p.isSome=true:=by
 cases t with
 | leaf i=>obtain ⟨b,a,c,d,e,f,g,j,k,rfl,m⟩:=h;rfl
 | node l x y=>obtain ⟨b,i,n,o,q,r,s,u,v,a,w,z,A,c,pl,B,rfl,-⟩:=h;rfl
theorem TE:∀(t:Tr) {V:ut} {p:OA} {lb:Nat} {n c:Nat} {vs:pz un} {l:pz Nd},RW V p t->t.eU nE->n=l.length ->
  (vs≠[]->V.w.heap[lb]?=some (.cells vs.toArray 193 (0,0)))->(vs≠[]->V.X lb)->n<=c->c*8<=vs.length->NR V vs l->n+t.size<=1000000 ->
  aa prog 41 #[qvW p,hF (mA lb c) n c] V λr V'=>∃(bm:Nat)(vm:pz un)(c':Nat),(vm≠[]->V'.w.heap[bm]?=some (.cells vm.toArray 193 (0,0)))/\(vm≠[]->V.w.heap.size<=bm\/(vs≠[]/\bm=lb)) /\
   r=qvZ #[hF (mA bm c') (n+t.size) c',qvK .i64 (rt n t)]/\n+t.size<=c'/\c'*8<=vm.length/\NR (V'.bg (vm≠[]) bm) vm (l++wr n t)/\(t.size=0->c'=c):=by
 intro t
 induction t with
 | leaf i=>
  intro V p lb n c vs l F _ G a s z A B H;have f:=Sl F;obtain ⟨b,U,W,c4,c5,c6,c7,c8,c9,rfl,C⟩:=F
  have fin:∀(D:ut)(k:Nat)(x:Int),V.Le (D.bg (vs≠[]) k)->(vs≠[]->D.w.heap[k]?=some (.cells vs.toArray 193 (0,0))) ->
    (vs≠[]->V.w.heap.size<=k\/(vs≠[]/\k=lb)\/False)->x=rt n (.leaf i)->∃(bm:Nat)(vm:pz un)(c':Nat),(vm≠[]->D.w.heap[bm]?=some (.cells vm.toArray 193 (0,0)))/\(vm≠[]->V.w.heap.size<=bm\/(vs≠[]/\bm=lb)) /\
   Value.tuple #[hF (mA k c) n c,qvK .i64 x]=qvZ #[hF (mA bm c') (n+(Tr.leaf i).size) c',qvK .i64 (rt n (.leaf i))]/\n+(Tr.leaf i).size<=c'/\c'*8<=vm.length/\NR (D.bg (vm≠[]) bm) vm (l++wr n (.leaf i))/\((Tr.leaf i).size=0->c'=c):=by
   intro D k x hle e3 e4 Y;refine ⟨k,vs,c,e3,λh=>?_,by rw [Y];rfl,z,A,?_,λ_=>rfl⟩
   ·rcases e4 h with h|h|h
    ·exact .inl h
    ·exact .inr h
    ·exact h.elim
   ·simp only [wr,Qx3];exact B.le hle
  refine qw _ lb n c vs V _ a s ⟨f,f,true,F9 C 0 rfl,λ_=>⟨f,f,i,F9 C 1 rfl,λZ V1 k I E a3=>fin V1 k _ I E a3 (by subst Z;rfl),λZ V2 k I E a3=>fin V2 k _ I E a3 (by subst Z;rfl)⟩,λh=>by cases h⟩
 | node ln x y Wk ihy=>
  intro V p lb n c vs l F J G a s z A B H;have f:=Sl F;simp only [Tr.size] at H;obtain ⟨⟨-,a0⟩,a4,a8⟩:=J;obtain ⟨b,i,b1,p1,n1,c1,b2,p2,n2,U,b3,p3,n3,W,pl,pr,rfl,C,hl,Y,hy⟩:=F
  have g:∀j v,([qvQ b1,hF p1 n1 c1,qvQ b2,hF p2 n2 U,qvQ b3,hF p3 n3 W]:pz un)[j]?=some v->V.at (((⟨b,2,none⟩:Addr)).add j) v:=by
   intro j v a
   have K:j<6:=by
    rcases Qz2 j 6 with K|K
    ·exact K
    ·rw [Qz6 (by simpa using K)] at a;cases a
   have h2:(⟨b,2,none⟩:Addr)=(⟨b,0,none⟩:Addr).add 2:=by rw [add_zero']
   rw [h2,JV,add_zero'];refine dF (xs:=[_,_,_,_,_,_,_,_,_,_]) C ?_
   match j,K,a with
   | 0,_,a=>exact a
   | 1,_,a=>exact a
   | 2,_,a=>exact a
   | 3,_,a=>exact a
   | 4,_,a=>exact a
   | 5,_,a=>exact a
  obtain ⟨t1,t2,t3⟩:=a0.ah;refine qw _ lb n c vs V _ a s ⟨f,f,false,F9 C 0 rfl,(λh=>by cases h),λ_=>⟨f,f,b1,p1,n1,c1,b2,p2,n2,U,b3,p3,n3,W,⟨b,2,none⟩,by simp [ae,add_zero'],g 0 _ rfl,g 1 _ rfl,g 2 _ rfl,g 3 _ rfl,g 4 _ rfl,g 5 _ rfl,λD l3=>(wO (hl.le l3) (by omega) (by omega)).s ?_⟩⟩;rintro r V4 l4 L;have M:=L;obtain ⟨d1,q1,m1,e1,d2,q2,m2,e2,d3,q3,m3,e3,rfl⟩:=vo L;have JM:=l3.m l4;refine qxW ⟨rfl,by omega,z,A,rfl,by intro v a;simp at a;rcases a with rfl|rfl|rfl|rfl|rfl|rfl|rfl|rfl<;>rfl,λsp c' g1 g2=>?_⟩;have a9:=JM _ _ C;refine ⟨f,f,pl,F9 a9 8 rfl,λm l5 N f1 f2=>?_⟩;have d:=NR.push (sp:=sp) (x:=0) (y:=0) (B.le JM) (by omega) (ln:=ln) M;rw [←G] at d;generalize hrow:vs.take (n*8)++([_,_,_,_,_,_,_,_]:pz un)++sp=row at f1 f2 d ⊢
  have O:row.length=n*8+8+sp.length:=by
   rw [←hrow];simp only [Qq3,Qq7,Qw9,Qj6];omega
  have P:row≠[]:=λe=>by rw [e] at O;simp only [Qj6] at O;omega
  have Un:=JM.m l5;have i1:=Wk (V:=m.ar [vb row m.w.heap.size N]) (p:=pl) (lb:=N) (n:=n+1) (c:=c') (vs:=row) (l:=l++[⟨ln,0,0⟩]) (RW.le (V:=V) (V':=m.ar _) (λb o h=>Un b o h) Y) a4 (by simp [G]) f1 (λh=>⟨by simp [rM h],f2 h⟩) g1 (by omega) (NR.le (V:=V4) (V':=m.ar _) d λb o h=>l5 b o h) (by omega);refine i1.s ?_;rintro r V6 l6 ⟨bm,vm,b0,I,E,rfl,a5,a6,a7,-⟩;have N9:m.Le V6:=λb o h=>l6 b o h;have Q:m.Le (V6.shut.bg (vm≠[]) bm):=Av (V':=m) N9 (View.Le.refl m) λh=>(E h).imp id λh'=>by rw [h'.2];exact f2 P
  refine ⟨bm,vm,I,E,none,_,_,_,rfl,f,f,pr,F9 ((Un.m Q) _ _ C) 9 rfl,λR l7 S d1 d2=>?_⟩;have b4:vm≠[]:=λe=>by rw [e] at a6;simp at a6;omega
  have OZ:V.Le R:=(Un.m Q).m l7;have i2:=ihy (V:=R.ar [vb vm R.w.heap.size S]) (p:=pr) (lb:=S) (n:=n+1+x.size) (c:=b0) (vs:=vm) (l:=l++[⟨ln,0,0⟩]++wr (n+1) x) (RW.le (V:=V) (V':=R.ar _) (λb o h=>OZ b o h) hy) a8 (by simp [G,jh];omega) d1 (λh=>⟨by simp [rM h],d2 h⟩) a5 a6 (NR.le (V:=V6.bg (vm≠[]) bm) (V':=R.ar _) a7 λb o h=>l7 b o h) (by omega);refine i2.s ?_;rintro r V8 l8 ⟨bn,T,b8,b9,c0,rfl,b5,b6,b7,-⟩;have hlen:n*8+8<=T.length:=by omega
  simp only [Qq0];refine ⟨bn,T,b9,c0,none,_,_,_,rfl,⟨by omega,by omega⟩,b5,by omega,⟨by omega,by omega⟩,b5,by rw [Wk4];omega,λV9 VM u1 u4 u5=>?_⟩;have q:=NR.kids (V:=V8.bg (T≠[]) bn) (l:=l) (r:=wr (n+1) x++wr (n+1+x.size) y) (ln:=ln) (u:=0) (v:=0) (x:=rt (n+1) x) (y:=rt (n+1+x.size) y) (by simpa using b7);rw [←G] at q;refine ⟨VM,_,b8,u4,λh=>?_,by rw [show n+(Tr.node ln x y).size=n+1+x.size+y.size from by simp only [Tr.size];omega];rfl,by simp only [Tr.size];omega,by simp only [Wk4];omega,?_,λh=>by simp only [Tr.size] at h;omega⟩
  ·rcases u5 h with h|h|h
   ·exact .inl h
   ·exact .inr h
   ·exact h.elim
  ·simp only [wr];exact NR.le (V:=V8.bg (T≠[]) bn) q λb o h=>u1 b o h
theorem zR {p:OA}{t:Tr}(h:RW V p t)(ha:t.eU nE)(hs:t.size<=1000000) :
  aa prog 12 #[qvW p] V λr V'=>AT V' r (rt 0 t) (wr 0 t)/\(t.size=0->r=dB #[qvK .i64 (rt 0 t),hF none 0 0]):=by
 refine B_ V _ λg j=>?_;refine aa.monoH (TE t (V:=g) (lb:=0) (vs:=[]) (l:=[]) (n:=0) (c:=0) (h.le j) ha rfl (λh=>absurd rfl h) (λh=>absurd rfl h) (Qq2 _) (Qq2 _) (λi d k=>by simp at k) (by omega)) ?_;rintro r V2 B C ⟨m,vm,q,s,u,rfl,a,D,e,v⟩;refine ⟨m,vm,s,λh=>(u h).imp id λw=>absurd rfl w.1,none,_,_,_,rfl,λx y z A=>?_⟩;simp only [Qn0,Qz1] at e a ⊢;have:=NS.ofRow (V:=x) (b:=z) (c:=q) (vm:=vm) (l:=wr 0 t) (ty:=193) A (by rw [jh];exact a) (e.le λb o h=>y b o h);rw [jh] at this;refine ⟨⟨_,_,_,rfl,this⟩,λf=>?_⟩;rw [v f,f];rfl
theorem rC {V:ut}{p:OA}{t:Tr}(h:RW V p t)(ha:t.eU nE)(hs:t.size<=1000000:=by omega) :
  aa prog 12 #[qvW p] V λr V'=>AT V' r (rt 0 t) (wr 0 t):=(zR h ha hs).s λ_ _ _ h=>h.1
def Mh (V:View):View:=⟨V.w,λb=>b<V.w.heap.size,λ_=>False,λ_ h=>h,λ_ h=>h.elim⟩
theorem JT {f:FuncId}{args:Array un}{o:Obj}(h:aa prog f args (Mh V) λr V'=>∃bk,r=qvW (some ⟨bk,0,none⟩)/\V'.a_ bk o) :
  aa prog f args V λr V'=>∃bk,r=qvW (some ⟨bk,0,none⟩)/\V.w.heap.size<=bk/\V'.a_ bk o:=
 ⟨h.1,h.2.s λ_ _ ⟨_,he,a,bk,d,c⟩=>⟨_,he,⟨a.size,λb c _=>a.a_ b c (λh=>h),a.os,a.tape,a.out,a.dr⟩,bk,d,Nat.le_of_not_lt c.1,λe=>c.1 (V.hH bk e),c.2⟩⟩
theorem Hr {lp:OA}{ln lc:Nat}(hc:ln<=lc) :
  aa prog 5 #[hF lp ln lc] V λr V'=>∃bk,r=qvW (some ⟨bk,0,none⟩)/\V.w.heap.size<=bk/\V'.a_ bk (.cells #[hF lp (min ln 400) lc,qvK .i64 0] 71 (0,0)):=by
 refine JT (GQ (Mh V) _ ?_)
 have e:cI (ln:Int) 400=((min ln 400:Nat):Int):=by
  unfold cI;simp only [Nat.min_def];split<;>split<;>omega
 rw [e,Qq0];have:=Nat.min_le_left ln 400;exact ⟨⟨by omega,by omega⟩,λb c bk a=>⟨bk,rfl,a⟩⟩
theorem UB {t:Tr}(h:t.eU nE):t.eU λx=>cX x=true:=Tr.eU.imp (λ_ h=>h.1) h
theorem Ru {t:Tr}(h:t.eU nE):t.eU Bd:=Tr.eU.imp (λ_ h=>h.2) h
end Go.Proofs.Tryz
namespace Go.Eng
open Go.Value renaming int→qvK
def View.bare (V:View)(b:Nat):View:=⟨V.w,λx=>V.H x/\x≠b,λx=>V.X x/\x≠b,λx h=>V.hH x h.1,λx h=>⟨V.hX x h.1,h.2⟩⟩
def View.Tn (V:ut)(b:Nat):V.Le (V.bare b):=λ_ _ h=>⟨λa=>h.1 a.1,h.2⟩
def aa.bare {P:Program}{f:FuncId}{args:Array un}{V:ut}{b:Nat}{R:un->ut->Prop}(hs:b<V.w.heap.size)(h:aa P f args (V.bare b) R) :
  aa P f args V λr V'=>V'.w.heap[b]?=V.w.heap[b]?/\R r (V'.bare b):=by
 refine ⟨h.1,h.2.s λ_ g ⟨r,he,a,c⟩=>⟨r,he,⟨a.size,λx d e=>a.a_ x d λh=>e h.1,a.os,a.tape,a.out,a.dr⟩,a.a_ b hs (λh=>h.2 rfl),c⟩⟩
theorem View.ju {V:ut}{b:Nat}{a:Addr}{v:un}(h:(V.bare b).at a v)(hb:a.block≠b):V.at a v:=⟨λc=>h.1 ⟨c,hb⟩,h.2⟩
def GZ (V:View)(b:Nat):Prop:=∃(cs:Array Value)(ty:TypeId)(m:Nat×Nat),V.w.heap[b]?=some (.cells cs ty m)/\∀v∈cs,∀k z,v≠.int k z
theorem GZ.ne {V:ut}{b:Nat}(h:GZ V b){a:Addr}{k:IntKind}{z:Int}(ha:(V.bare b).at a (qvK k z)):a.block≠b:=by
 obtain ⟨cs,ty,m,d,g⟩:=h;intro e;have c:=ha.2;unfold World.cell? at c;rw [e] at c;have f:(V.bare b).w.heap[b]?=some (.cells cs ty m):=d;grind
end Go.Eng
namespace Go.Proofs.Tryz
open Go.Eng Go.Big
open Go.Value renaming slice→hF,agg→dB,bool→qvQ,pointer→qvW,tuple→qvZ,int→qvK
variable{V:View}{b cc cn n:Nat}{cp p:OA}{S c ls:List L3}{v:Value}{l:L3}
theorem RD.ju (hn:GZ V b){c:Nat}{ds:pz Nat}(h:RD (V.bare b) p n c ds):RD V p n c ds:=by
 refine ⟨h.len,h.cap,λi v a=>?_,h.fy,h.Ik⟩;have ⟨f,e,g⟩:=h.sl i v a
 have:∃d:Int,v=qvK .u32 d:=by
  unfold aK at a;grind
 grind [View.ju,hn.ne]
theorem RL.ju (hn:GZ V b){x y z:Int}(h:RL (V.bare b) v x y z):RL V v x y z:=by
 obtain ⟨_,_,_,_,_,_,_,_,_,e,a,c,d⟩:=h;exact qyJ ⟨e,RD.ju hn a,RD.ju hn c,RD.ju hn d⟩
theorem DL (a:Addr)(i:Nat):(a.add i).block=a.block:=by
 unfold Addr.add;split<;>rfl
theorem AT.ju (hn:GZ V b){root:Int}{l:pz Nd}(h:AT (V.bare b) v root l)(hk:∀x∈l,cX x.ln=true):AT V v root l:=by
 obtain ⟨q,n,c,rfl,f⟩:=h;refine ⟨q,n,c,rfl,f.len,f.cap,?_,f.Ik⟩;obtain ⟨D,a,k⟩:=f.row
 cases l with
 | nil=>exact ⟨[],λi v h=>by simp at h,λi d h=>by simp at h⟩
 | cons d l=>
  have E:∀g,q=some g->g.block≠b:=by
   intro g e;obtain ⟨m,o,p,r,s,t,u,w,y,z,A,B,j,-⟩:=k 0 d rfl;have ⟨F,J,G⟩:=a _ _ (j 6 _ rfl);grind [hn.ne,DL]
  refine ⟨D,λi v H=>?_,λi x C=>?_⟩
  ·have ⟨g,e,G⟩:=a i v H;grind [View.ju,DL]
  ·have ⟨m,o,p,r,s,t,u,w,y,z,A,B,j,I⟩:=k i x C;exact ⟨m,o,p,r,s,t,u,w,y,z,A,B,j,.inl (RL.ju hn (I.ok (hk x (Qv5 C))))⟩
theorem SP:∀{t:Tr} {k:Nat},t.eU nE->∀x∈wr k t,cX x.ln=true
 | .leaf _,_,_,x,h=>by cases h
 | .node l a b,k,⟨h1,h2,h3⟩,x,h=>by
  rcases Qq6.1 h with rfl|h
  ·exact h1.1
  ·rcases Qw3.1 h with h|h
   ·exact SP h2 x h
   ·exact SP h3 x h
theorem rY {V:ut}{rb:Nat}{i:md}{b1:md}{p1:OA}{n1 c1:Nat}{b2:md}{p2:OA}{n2 c2:Nat}{b3:md}{p3:OA}{n3 c3:Nat}{pl pr:OA}{ln:L3}{x y:Tr}
  (hw:V.w.heap[rb]?=some (.cells #[qvQ false,qvQ i,qvQ b1,hF p1 n1 c1,qvQ b2,hF p2 n2 c2,qvQ b3,hF p3 n3 c3,qvW pl,qvW pr] 76 (0,0)))
  (hl:RL V (dB #[qvQ b1,hF p1 n1 c1,qvQ b2,hF p2 n2 c2,qvQ b3,hF p3 n3 c3]) ln.1 ln.2.1 ln.2.2)(hx:RW V pl x)(hy:RW V pr y)(ha:(Tr.node ln x y).eU nE)(hs:(Tr.node ln x y).size<=1000000) :
  aa prog 12 #[qvW (some ⟨rb,0,none⟩)] V λr V'=>V'.w.heap[rb]?=some (.cells #[qvQ false,qvQ i,qvQ b1,hF p1 n1 c1,qvQ b2,hF p2 n2 c2,qvQ b3,hF p3 n3 c3,qvW pl,qvW pr] 76 (0,0))/\AT V' r (rt 0 (.node ln x y)) (wr 0 (.node ln x y)):=by
 have a:rb<V.w.heap.size:=(Qf1.1 hw).1;have b:=V.Tn rb;refine (aa.bare a (rC (V:=V.bare rb) (p:=some ⟨rb,0,none⟩) (t:=.node ln x y) ⟨rb,i,b1,p1,n1,c1,b2,p2,n2,c2,b3,p3,n3,c3,pl,pr,rfl,⟨λh=>h.2 rfl,hw⟩,hl.le b,hx.le b,hy.le b⟩ ha hs)).s ?_;rintro r V' g ⟨c,d⟩;rw [hw] at c;refine ⟨c,AT.ju ⟨_,_,_,c,?_⟩ d (SP ha)⟩;intro v f k z e;subst e;simp at f
theorem qE {a b:Rat}:dI a b<0↔a<b:=by grind [iC.1,yD.1,Fo.1]
theorem yW:Sz 10 ((1:Int):Rat):=EN (z:=1)
theorem sz_v (h:Bd l){k:Nat}{p:Rat×Rat}(s1:Sz k p.1)(s2:Sz k p.2):Sz (2*k+3010) (aq l p.1 p.2):=by
 have:=h.jf;exact (((this.1.mul s1).add (this.2.1.mul s2)).add this.2.2).s (by omega)
theorem Rk {p v:Rat×Rat}{i:Nat}(h:i<ls.length)(s:Rat):(ls.take (i+1)).foldl (aw.FP p v) s=aw.FP p v ((ls.take i).foldl (aw.FP p v) s) ls[i]:=by grind [List.take_append_getElem]
theorem L_ {a b:Rat}:dI a b>0↔b<a:=by
 constructor
 ·intro h;rcases cR a b with ⟨g,e⟩|⟨g,e⟩|⟨g,e⟩<;>first|omega|exact g
 ·intro h;have:=yD.1 h;omega
abbrev S16:=Bool×OA×Nat×Nat×OA×Nat×Nat×Bool×OA×Nat×Nat×OA×Nat×Nat×Bool×Bool
def agS (z:S16):Value:=.agg #[.bool z.1,.slice z.2.1 z.2.2.1 z.2.2.2.1,.slice z.2.2.2.2.1 z.2.2.2.2.2.1 z.2.2.2.2.2.2.1,.bool z.2.2.2.2.2.2.2.1,.slice z.2.2.2.2.2.2.2.2.1 z.2.2.2.2.2.2.2.2.2.1 z.2.2.2.2.2.2.2.2.2.2.1,.slice z.2.2.2.2.2.2.2.2.2.2.2.1 z.2.2.2.2.2.2.2.2.2.2.2.2.1 z.2.2.2.2.2.2.2.2.2.2.2.2.2.1,.bool z.2.2.2.2.2.2.2.2.2.2.2.2.2.2.1,.bool z.2.2.2.2.2.2.2.2.2.2.2.2.2.2.2]
theorem rsS {xb:md}{xp:OA}{xn xc:Nat}{xq:OA}{xm xe:Nat}{yb:md}{yp:OA}{yn yc:Nat}{yq:OA}{ym ye:Nat}{xa ya:md}{s:Sp}(h:oT V (dB #[qvQ xb,hF xp xn xc,hF xq xm xe,qvQ yb,hF yp yn yc,hF yq ym ye,qvQ xa,qvQ ya]) s):xa=s.a/\ya=s.b/\RQ V (dB #[qvQ xb,hF xp xn xc,hF xq xm xe]) s.lo/\RQ V (dB #[qvQ yb,hF yp yn yc,hF yq ym ye]) s.hi:=by
 obtain ⟨_,_,_,_,_,_,_,_,_,_,_,_,_,_,e,c,d⟩:=h;have e:=congrArg Array.toList (Value.agg.inj e);simp only [Qk5,Value.bool.injEq,Value.slice.injEq,and_true] at e;obtain ⟨rfl,⟨rfl,rfl,rfl⟩,⟨rfl,rfl,rfl⟩,rfl,⟨rfl,rfl,rfl⟩,⟨rfl,rfl,rfl⟩,rfl,rfl⟩:=e;exact ⟨rfl,rfl,c,d⟩
theorem rsS' {xb:md}{xp:OA}{xn xc:Nat}{xq:OA}{xm xe:Nat}{yb:md}{yp:OA}{yn yc:Nat}{yq:OA}{ym ye:Nat}{xa ya:md}{s:Sp}(ea:xa=s.a)(eb:ya=s.b)(h1:RQ V (dB #[qvQ xb,hF xp xn xc,hF xq xm xe]) s.lo)(h2:RQ V (dB #[qvQ yb,hF yp yn yc,hF yq ym ye]) s.hi):oT V (dB #[qvQ xb,hF xp xn xc,hF xq xm xe,qvQ yb,hF yp yn yc,hF yq ym ye,qvQ xa,qvQ ya]) s:=by
 subst ea eb;exact qyK ⟨rfl,h1,h2⟩
def pS (l m:L3)(s:Sp):Sp:=if 0<(dotL m l).num.sign then (if s.a=true\/s.lo<ni l m then ⟨ni l m,s.hi,false,s.b⟩ else s) else (if s.b=true\/ni l m<s.hi then ⟨s.lo,ni l m,s.a,false⟩ else s)
theorem D9 {m:L3}{s:Sp}(hc:crossL l m≠0):tV l m s=if (pS l m s).a=false/\(pS l m s).b=false/\(pS l m s).hi<=(pS l m s).lo then none else some (pS l m s):=by
 unfold tV;rw [if_neg hc];rfl
theorem NH {m:L3}{s:Sp}(hc:crossL l m=0):tV l m s=if (aq m (eK l 0) (eN l 0)).num.sign<=0 then none else some s:=by
 unfold tV;rw [if_pos hc]
theorem MU {m:L3}(hl:Nz l)(bl:Bd l)(bm:Bd m)(hc:crossL l m≠0):Sz 100000 (ni l m):=by
 rw [AW hl hc];exact (oH bl.jf bm.jf).s (by omega)
theorem Yt {m:L3}{s:Sp}(hl:Nz l)(bl:Bd l)(bm:Bd m)(hc:crossL l m≠0)(hs:s.sz 100000):(pS l m s).sz 100000:=by
 have:=MU hl bl bm hc;unfold pS;split<;>split<;>first|exact hs|exact ⟨this,hs.2⟩|exact ⟨hs.1,this⟩
theorem PZ {m:L3}{s w:Sp}(hl:Nz l)(bl:Bd l)(bm:Bd m)(sg:s.good)(hs:s.sz 100000)(e:tV l m s=some w):w.good/\w.sz 100000:=by
 rw [zZ hl sg] at e;split at e
 ·rename_i g;cases e;exact ⟨iD sg g,yV bl.jf bm.jf hs⟩
 ·cases e
theorem MD {L:L3}(h:RL V v L.1 L.2.1 L.2.2)(hz:Nz L)(hb:Bd L):aa prog 113 #[v] V λr V'=>RP V' r (eK L 0) (eN L 0):=by
 have sl:=hb.jf;refine (tH h (KX hz) sl.1 sl.2.1 sl.2.2).s λr V' _ g=>?_;have b:eK L 0=_:=rfl;unfold eK eN;unfold gK;have a:∀x y:Rat,x=y->∀z w:Rat,z=w->RP V' r x z->RP V' r y w:=by rintro x _ rfl z _ rfl h;exact h
 refine a _ _ ?_ _ _ ?_ g<;>grind
theorem Gl {L:L3}(hb:Bd L):Sz 30000 (eK L 0)/\Sz 30000 (eN L 0):=by
 have sl:=hb.jf;exact ⟨Sz.s (Lc sl (CZ 1000)),Sz.s (Ld sl (CZ 1000))⟩
theorem tM {i:Nat}(h:bI 6 cA V cp cn ls)(hb:∀l∈ls,Bd l)(hk:∀l∈ls,cX l=true)(hl:ls.length<=1000)(hi:i<ls.length) :
  aa prog 197 #[hF cp cn cc,qvK .i64 i] V λr V'=>∃u s,r=qvZ #[u,qvQ (eX ls[i] ls fullSp).isSome]/\oT V' u s/\s.sz 100000/\∀w,eX ls[i] ls fullSp=some w->s=w:=by
 have hn:=h.len;subst hn;have ⟨is,b1,p1,n1,c1,b2,p2,n2,c2,b3,p3,n3,c3,a,a6,a0,a1,a2,a3,a4,a5,n⟩:=yQ h hi;have v:=hb _ (Qq9 hi);have ok:=hk _ (Qq9 hi);generalize el:ls[i]=L at *;have sl:=v.jf;have nz:=pW ok;have hd:=Bu v;refine Dy V _ ⟨is,⟨by omega,by omega⟩,b1,p1,n1,c1,b2,p2,n2,c2,b3,p3,n3,c3,a,(by rw [Qq0];exact a6),a0,a1,a2,a3,a4,a5,λV1 l1=>tK.s ?_⟩;rintro r V2 l2 gf;have a7:=gf;obtain ⟨_,_,_,_,_,_,_,_,_,_,_,_,_,_,rfl⟩:=Bf gf;have nD:=l1.m l2;refine ⟨_,_,_,_,_,_,_,_,_,_,_,_,_,_,_,_,rfl,λz V'=>∃(j:Nat)(s:Sp),z.1=(j:Int)/\j<=ls.length/\oT V' (agS z.2) s/\s.good/\s.sz 100000/\eX L ls fullSp=eX L (ls.drop j) s,λz=>(ls.length-z.1).toNat,⟨(0,_,_,_,_,_,_,_,_,_,_,_,_,_,_,_,_),by and_intros<;>first|rfl|trivial,0,fullSp,rfl,Qq4 _,a7,fh,T1,by rw [Wx7]⟩,?_⟩;rintro ⟨z,O,P,Q,R,S,T,U,X,Y,Z,yc,yq,ym,ye,xa,ya⟩ V3 l3 ⟨j,s,ez,hj,gs,sg,x,d⟩;dsimp only [agS] at ez gs ⊢;subst ez;obtain ⟨rfl,rfl,F,G⟩:=rsS gs;have C:=nD.m l3;refine ⟨by trivial,λf=>?_,λf Zx yN=>?_⟩;rotate_left
 ·have e:j=ls.length:=by have:=of_decide_eq_false f;omega
  subst e;rw [Qt7] at d;exact ⟨_,s,by rw [d];rfl,gs.le yN,x,λw e=>by rw [d] at e;exact Qv6 e⟩
 have f:j<ls.length:=by have:=of_decide_eq_true f;omega
 have w1:i64.wrap ((j:Int)+1)=((j+1:Nat):Int):=by rw [au (by omega)];rfl
 rw [w1,Qq0];have ⟨a8,B1,P1,N1,C1,B2,P2,N2,C2,B3,P3,N3,C3,A,a9,A0,A1,A2,A3,A4,A5,o⟩:=yQ (h.le C λ_ _ g=>cA.le g C) f;have H:=hb _ (Qq9 f);have sm:=H.jf;have Ku:=Bu H;have ej:j=i->ls[j]=L:=λe=>by subst e;exact el
 have ed:ls.drop j=ls[j]::ls.drop (j+1):=Qw4 f;rw [ed] at d;generalize ls[j]=M at *;have b0:eX L (M::ls.drop (j+1)) s=if M=L then eX L (ls.drop (j+1)) s else match tV L M s with|some s'=>eX L (ls.drop (j+1)) s'|none=>none:=rfl
 rw [b0] at d;have next:∀{W:ut} {O:md} {P:OA} {Q R:Nat} {S:OA} {T U:Nat} {X:md} {Y:OA} {Z yc:Nat} {yq:OA} {ym ye:Nat} {xa ya:md} {s':Sp},oT W (dB #[qvQ O,hF P Q R,hF S T U,qvQ X,hF Y Z yc,hF yq ym ye,qvQ xa,qvQ ya]) s'->s'.good->s'.sz 100000->eX L ls fullSp=eX L (ls.drop (j+1)) s'->∃(j':Nat)(s:Sp),((j+1:Nat):Int)=(j':Int)/\j'<=ls.length/\oT W (dB #[qvQ O,hF P Q R,hF S T U,qvQ X,hF Y Z yc,hF yq ym ye,qvQ xa,qvQ ya]) s/\s.good/\s.sz 100000/\eX L ls fullSp=eX L (ls.drop j') s:=λg1 g2 g3 e=>⟨j+1,_,rfl,f,g1,g2,g3,e⟩;refine ⟨a8,⟨by omega,by omega⟩,B1,P1,N1,C1,B2,P2,N2,C2,B3,P3,N3,C3,A,a9,A0,A1,A2,A3,A4,A5,λz _=>z=decide (M=L),⟨λc=>⟨true,by and_intros<;>rfl,?_⟩,λc V4 l4=>(lP (n.le (C.m l4)) (o.le l4) sl sm).s ?_⟩,?_⟩
 ·exact (decide_eq_true (ej (by have:=of_decide_eq_true c;omega))).symm
 ·rintro r V5 l5 rfl;exact ⟨_,rfl,(mh L M==(0:Int)),by and_intros<;>rfl,by rw [Hw];exact decide_eq_decide.2 eq_comm⟩
 rintro z V6 l6 rfl;refine ⟨by trivial,λc=>?_,λc V7 l7=>(R_ (n.le (C.m (l6.m l7))) (o.le (l6.m l7)) sl sm).s ?_⟩
 ·rw [if_pos (of_decide_eq_true c)] at d;exact ⟨(((j+1:Nat):Int),_,_,_,_,_,_,_,_,_,_,_,_,_,_,_,_),by dsimp only;omega,by and_intros<;>rfl,next (gs.le l6) sg x d⟩
 rw [if_neg (of_decide_eq_false c)] at d;rintro r V8 l8 ⟨u,rfl,q0,q1⟩;have ⟨s1,s2⟩:=MS sl sm;have N8:=l6.m (l7.m l8);by_cases p:crossL L M=0
 ·have qz:=q0 p;unfold O7 at qz;subst qz;rw [NH p] at d;refine ⟨_,_,_,_,_,_,_,_,_,_,_,_,_,_,_,rfl,λ_ V9 l9=>(MD (n.le (C.m (N8.m l9))) nz v).s ?_,λh=>by simp [p] at h⟩;rintro r fQ b4 gB;have b5:=gB;obtain ⟨_,_,_,_,_,_,_,_,_,_,_,_,rfl,-⟩:=gB;have y:=N8.m (l9.m b4);refine qyK ⟨rfl,λfD bq=>(F7 (o.le (y.m bq)) (b5.le bq) (sm.up (K:=30000) (by omega)) (Gl v).1 (Gl v).2).s ?_⟩;rintro r gS bS rfl;have B:=y.m (bq.m bS);refine ⟨_,rfl,λc j7 bU=>?_,λc=>?_⟩
  ·rw [if_pos (of_decide_eq_true c)] at d;exact ⟨_,s,by rw [d];rfl,gs.le (B.m bU),x,λw e=>by rw [d] at e;cases e⟩
  ·rw [if_neg (of_decide_eq_false c)] at d;exact ⟨(((j+1:Nat):Int),_,_,_,_,_,_,_,_,_,_,_,_,_,_,_,_),by dsimp only;omega,by and_intros<;>rfl,next (gs.le B) sg x d⟩
 have hp:=q1 p;have b6:=hp;obtain ⟨_,_,_,_,_,_,_,_,_,_,_,_,rfl,-⟩:=hp;refine ⟨_,_,_,_,_,_,_,_,_,_,_,_,_,_,_,rfl,λh=>by simp [p] at h,λ_ lB cz=>(yT (n.le (C.m (N8.m cz))) (b6.le cz) nz (sl.up (K:=30000) (by omega)) (s1.s (by omega)) (s2.s (by omega))).s ?_⟩;rintro r jI cE gt;have q:RQ jI r (ni L M):=gt;obtain ⟨_,_,_,_,_,_,rfl⟩:=gt.shape;have st:=MU nz v H p;have KE:=N8.m (cz.m cE);refine qyZ ⟨rfl,λlH cq=>(eO (o.le (KE.m cq)) sm.1 sm.2.1 sm.2.2).s ?_⟩;rintro r lC b_ gm;have b7:=gm;obtain ⟨_,_,_,_,_,_,_,_,_,_,_,_,rfl,-⟩:=gm;have KF:=KE.m (cq.m b_);refine qyK ⟨rfl,λmE cj=>(eO (n.le (C.m (KF.m cj))) sl.1 sl.2.1 sl.2.2).s ?_⟩;rintro r pf du gl;have b8:=gl;obtain ⟨_,_,_,_,_,_,_,_,_,_,_,_,rfl,-⟩:=gl;have I:=KF.m (cj.m du);refine qyK ⟨rfl,λvh fl=>(jm (k:=1000) (b7.le (cj.m (du.m fl))) (b8.le fl) Ku.1 Ku.2 hd.1 hd.2).s ?_⟩;rintro r qB gi gc
 have Y9:RQ qB r (dotL M L):=by
  have e:dotL M L=_:=(Xj M L).symm;rw [e];exact gc
 obtain ⟨_,_,_,_,_,_,rfl⟩:=gc.shape;have J:=I.m (fl.m gi);refine qyZ ⟨rfl,λtC gV=>(mN (Y9.le gV)).s ?_⟩;rintro r rk ij rfl;have E:=J.m (gV.m ij);have Mk:jI.Le rk:=(cq.m b_).m ((cj.m du).m ((fl.m gi).m (gV.m ij)));refine ⟨_,rfl,λz W=>oT W (agS z) (pS L M s),⟨λt=>?_,λt=>?_⟩,?_⟩
 ·have t:0<(dotL M L).num.sign:=of_decide_eq_true t;refine ⟨λz _=>z=decide (s.a=true\/s.lo<ni L M),⟨λm=>⟨true,by and_intros<;>rfl,?_⟩,λm zk N=>(fw (q.le (Mk.m N)) (F.le (E.m N)) st x.1).s ?_⟩,?_⟩
  ·exact (decide_eq_true (.inl m)).symm
  ·rintro r Cs lU rfl;refine ⟨_,rfl,decide (dI (ni L M) s.lo>(0:Int)),by and_intros<;>rfl,?_⟩;rw [m];exact decide_eq_decide.2 ⟨λh=>.inr (L_.1 h),λh=>h.elim (λh=>nomatch h) L_.2⟩
  rintro z JS D rfl;refine ⟨by trivial,λc=>⟨(_,_,_,_,_,_,_,_,_,_,_,_,_,_,_,_),by and_intros<;>rfl,?_⟩,λc=>⟨(_,_,_,_,_,_,_,_,_,_,_,_,_,_,_,_),by and_intros<;>rfl,?_⟩⟩
  ·have e:pS L M s=⟨ni L M,s.hi,false,s.b⟩:=by unfold pS;rw [if_pos t,if_pos (of_decide_eq_true c)]
   rw [e];exact rsS' rfl rfl (q.le (Mk.m D)) (G.le (E.m D))
  ·have e:pS L M s=s:=by unfold pS;rw [if_pos t,if_neg (of_decide_eq_false c)]
   rw [e];exact gs.le (E.m D)
 ·have t:¬0<(dotL M L).num.sign:=of_decide_eq_false t;refine ⟨λz _=>z=decide (s.b=true\/ni L M<s.hi),⟨λm=>⟨true,by and_intros<;>rfl,?_⟩,λm zk N=>(fw (q.le (Mk.m N)) (G.le (E.m N)) st x.2).s ?_⟩,?_⟩
  ·exact (decide_eq_true (.inl m)).symm
  ·rintro r Cs lU rfl;refine ⟨_,rfl,decide (dI (ni L M) s.hi<(0:Int)),by and_intros<;>rfl,?_⟩;rw [m];exact decide_eq_decide.2 ⟨λh=>.inr (qE.1 h),λh=>h.elim (λh=>nomatch h) qE.2⟩
  rintro z JS D rfl;refine ⟨by trivial,λc=>⟨(_,_,_,_,_,_,_,_,_,_,_,_,_,_,_,_),by and_intros<;>rfl,?_⟩,λc=>⟨(_,_,_,_,_,_,_,_,_,_,_,_,_,_,_,_),by and_intros<;>rfl,?_⟩⟩
  ·have e:pS L M s=⟨s.lo,ni L M,s.a,false⟩:=by unfold pS;rw [if_neg t,if_pos (of_decide_eq_true c)]
   rw [e];exact rsS' rfl rfl (F.le (E.m D)) (q.le (Mk.m D))
  ·have e:pS L M s=s:=by unfold pS;rw [if_neg t,if_neg (of_decide_eq_false c)]
   rw [e];exact gs.le (E.m D)
 rw [D9 p] at d;have kk:=λw=>PZ (w:=w) nz v H sg x;rw [D9 p] at kk;have sz:=Yt nz v H p x;generalize pS L M s=s' at *;clear gs F G;rintro ⟨O,P,Q,R,S,T,U,X,Y,Z,yc,yq,ym,ye,xa,ya⟩ OT vR gs;dsimp only [agS] at gs ⊢;obtain ⟨rfl,rfl,F,G⟩:=rsS gs;refine ⟨by trivial,λz _=>z=decide (s'.a=false/\s'.b=false/\s'.hi<=s'.lo),⟨λm=>⟨λhb W5 yM=>(fw (F.le yM) (G.le yM) sz.1 sz.2).s ?_,λhb=>⟨false,by and_intros<;>rfl,?_⟩⟩,λm=>⟨false,by and_intros<;>rfl,?_⟩⟩,?_⟩
 ·rintro r Y0 Cn rfl;rw [Qx9] at m hb;refine ⟨_,rfl,decide (dI s'.lo s'.hi≥(0:Int)),by and_intros<;>rfl,decide_eq_decide.2 ⟨λh=>⟨m,hb,?_⟩,λh=>?_⟩⟩
  ·refine Rat.not_lt.1 λg=>?_;have:=qE.2 g;omega
  ·refine Wq7.1 λg=>?_;have:=qE.1 g;have:=h.2.2;grind
 ·rw [Qj0] at hb;exact (decide_eq_false λh=>by rw [hb] at h;cases h.2.1).symm
 ·rw [Qj0] at m;exact (decide_eq_false λh=>by rw [m] at h;cases h.1).symm
 rintro z SZ xO rfl;refine ⟨by trivial,λc Zw FH=>?_,λc=>?_⟩
 ·rw [if_pos (of_decide_eq_true c)] at d;exact ⟨_,s',by rw [d];rfl,gs.le (xO.m FH),sz,λw e=>by rw [d] at e;cases e⟩
 ·rw [if_neg (of_decide_eq_false c)] at d kk;have ⟨k1,k2⟩:=kk _ rfl;exact ⟨(((j+1:Nat):Int),_,_,_,_,_,_,_,_,_,_,_,_,_,_,_,_),by dsimp only;omega,by and_intros<;>rfl,next (gs.le xO) k1 k2 d⟩
theorem Mi (x:L3):∀(O:pz L3)(j:Nat),j<=O.length->(∀(i':Nat)(h:i'<O.length),i'<j->aw.kn (aw.aN O[i']) (aw.aN x)<0)->(∀h:j<O.length,¬aw.kn (aw.aN O[j]) (aw.aN x)<0) ->
  mS x O=if ∃h:j<O.length,O[j]=x then O else O.take j++x::O.drop j
 | [],j,hj,_,_=>by
  rw [if_neg (λ⟨h,_⟩=>absurd h (Qm0 _))];simp [mS]
 | u::r,0,_,_,hge=>by
  have h0:¬aw.kn (aw.aN u) (aw.aN x)<0:=hge (Wq1 _);unfold mS;rw [if_neg h0];by_cases e:u=x
  ·rw [if_pos e,if_pos ⟨Wq1 _,e⟩]
  ·rw [if_neg e,if_neg (λ⟨_,h⟩=>e h)];rfl
 | u::r,j+1,hj,hlt,hge=>by
  have h0:aw.kn (aw.aN u) (aw.aN x)<0:=hlt 0 (Wq1 _) (Wq1 _);unfold mS;rw [if_pos h0,Mi x r j (by simpa using hj) (λi' h a=>hlt (i'+1) (by simpa using h) (by omega)) (λh=>hge (by simpa using h))];by_cases c:∃h:j<r.length,r[j]=x
  ·obtain ⟨h,e⟩:=c;rw [if_pos ⟨h,e⟩,if_pos ⟨by simpa using h,e⟩]
  ·rw [if_neg c,if_neg (λ⟨h,e⟩=>c ⟨by simpa using h,e⟩)];rfl
theorem CI {c:Nat}(h:bI 6 cA V p n ls)(hb:∀l∈ls,Bd l)(hk:∀l∈ls,cX l=true)(hl:ls.length<=1000) :
  aa prog 133 #[hF p n c] V λr V'=>∃q m e,r=qvZ #[hF q m e,qvQ (decide (ls=[]\/lE ls ls []≠[]))]/\bI 6 cA V' q m (lE ls ls []):=by
 obtain rfl:=h.len
 refine B5 V _ ⟨λz V'=>∃(i:Nat)(O:pz L3),z.2.2.2=(i:Int)/\i<=ls.length/\O.length<=i/\(∀q∈O,q∈ls)/\lE ls ls []=lE ls (ls.drop i) O/\GR 6 cA V' z.1 z.2.1 z.2.2.1 O,λz=>ls.length-z.2.2.2.toNat,
  ⟨(0,0,[],0),by and_intros<;>rfl,0,[],rfl,Qq4 _,Qq4 _,(λq I=>by cases I),by rw [Wx7],GR.nil⟩,?_⟩
 rintro ⟨B,N,us,z4⟩ V1 P ⟨i,O,e4,Ta,a8,Q,t,H⟩;dsimp only at e4 H;subst e4;have R:=H.len;have C:=H.le;have W:=H.cap;have D:=H.row;refine ⟨rfl,λd=>?_,λd=>?_⟩;rotate_left
 ·have d:¬(i:Int)<ls.length:=of_decide_eq_false d;obtain rfl:i=ls.length:=by omega
  rw [Qt7] at t;have t:lE ls ls []=O:=t;rw [t];subst R;refine ⟨λE lH X bk hb=>?_,λE lH X bk hb=>?_⟩
  ·have E:((ls.length:Nat):Int)=0:=by simpa using E
   refine ⟨_,_,N,?_,bI.bJ hb (D.le λ_ _ g=>cA.le g X) (by decide) C⟩;rw [decide_eq_true (.inl (Qw5.1 (by omega)))]
  ·have E:¬((ls.length:Nat):Int)=0:=by simpa using E
   refine ⟨_,_,N,?_,bI.bJ hb (D.le λ_ _ g=>cA.le g X) (by decide) C⟩;congr 5;refine decide_eq_decide.2 ⟨λh=>.inr λe=>by rw [e] at h;simp at h,λh=>?_⟩;rcases h with h|h
   ·rw [h] at E;exact absurd rfl E
   ·have:=Qh4.2 h;omega
 have d:(i:Int)<ls.length:=of_decide_eq_true d;have y:i<ls.length:=by omega
 have w:i64.wrap ((i:Int)+1)=((i+1:Nat):Int):=by rw [au (by omega)];rfl
 dsimp only;rw [Qq0,w];obtain ⟨ad,ha,xs,-,hf,k⟩:=(h.le P λ_ _ g=>cA.le g P).at_ i y;have Y:=hf;obtain ⟨eb,ep,en,ec,fb,fp,fn,fe,gb,gp,gn,gc,ex⟩:=bR hf;have ex:=congrArg Array.toList (Value.agg.inj ex);dsimp only at ex;subst ex;have ed:ls.drop i=ls[i]::ls.drop (i+1):=Qw4 y;have Z:lE ls (ls[i]::ls.drop (i+1)) O=lE ls (ls.drop (i+1)) (if (eX ls[i] ls fullSp).isSome=true then mS ls[i] O else O):=rfl;rw [ed,Z] at t;have F:Bd ls[i]:=hb _ (Qq9 y);have a0:ls[i]∈ls:=Qq9 y;have Wc:∀q∈O,Bd q:=λq I=>hb q (Q q I);clear H;refine ⟨aX ha,⟨by omega,by omega⟩,eb,ep,en,ec,fb,fp,fn,fe,gb,gp,gn,gc,ad,ha,k 0 _ rfl,k 1 _ rfl,k 2 _ rfl,k 3 _ rfl,k 4 _ rfl,k 5 _ rfl,λV2 S=>(tM (h.le (P.m S) λ_ _ g=>cA.le g (P.m S)) hb hk hl y).s ?_⟩;generalize ls[i]=x at *;rintro r V3 l3 ⟨u,s,rfl,gs,-,-⟩;obtain ⟨_,_,_,_,_,_,_,_,_,_,_,_,_,_,rfl⟩:=Bf gs;refine ⟨_,_,_,_,_,_,_,_,_,_,_,_,_,_,_,_,_,rfl,λo=>?_,λo=>?_⟩
 ·rw [Qx9] at o;rw [o,if_neg (by decide)] at t;exact ⟨(B,N,us,((i+1:Nat):Int)),by dsimp only;omega,by and_intros<;>rfl,i+1,O,rfl,y,by omega,Q,t,R,C,W,D.le λ_ _ g=>cA.le g (S.m l3)⟩
 rw [Qj0] at o;rw [o,if_pos rfl] at t;have G:cA V1 _ x:=Y;refine ⟨λz _=>∃j:Nat,z=(j:Int)/\j<=O.length/\∀(A:Nat)(h:A<O.length),A<j->aw.kn (aw.aN O[A]) (aw.aN x)<0,λz=>O.length-z.toNat,⟨0,by and_intros<;>rfl,0,rfl,Qq4 _,λA _ h=>absurd h (Qm0 A)⟩,?_⟩;rintro z V4 l4 ⟨j,rfl,wX,jl⟩;have wj:i64.wrap ((j:Int)+1)=((j+1:Nat):Int):=by rw [au (by omega)];rfl
 rw [Qq0,wj];have cz:=S.m (l3.m l4);have sx:=F.jf;have dx:=Bu F;refine ⟨rfl,λz _=>z=true↔∃h:j<O.length,aw.kn (aw.aN O[j]) (aw.aN x)<0,⟨λd=>?_,λd=>⟨false,by and_intros<;>rfl,?_⟩⟩,?_⟩
 ·have d:(j:Int)<(B:Int):=of_decide_eq_true d;have v:j<O.length:=by omega
  have K:=Wc _ (Qq9 v);have sj:=K.jf;have dj:=Bu K;have ⟨b1,p1,n1,c1,b2,p2,n2,c2,b3,p3,n3,c3,fW,Kp,hr⟩:=Ge D v;refine ⟨⟨by omega,by omega⟩,C,b1,p1,n1,c1,b2,p2,n2,c2,b3,p3,n3,c3,⟨fW,Kp⟩,λV5 l5=>(eO (hr.le (cz.m l5)) sj.1 sj.2.1 sj.2.2).s ?_⟩;rintro r V6 l6 gd;have a1:=gd;obtain ⟨_,_,_,_,_,_,_,_,_,_,_,_,rfl,-⟩:=gd;refine qyK ⟨rfl,λV7 T=>(eO (RL.le G (cz.m (l5.m (l6.m T)))) sx.1 sx.2.1 sx.2.2).s ?_⟩;rintro r V8 U ge;have a2:=ge;obtain ⟨_,_,_,_,_,_,_,_,_,_,_,_,rfl,-⟩:=ge;refine qyK ⟨rfl,λV9 l9=>(CA (a:=aw.aN O[j]) (b:=aw.aN x) (a1.le (T.m (U.m l9))) (a2.le l9) dj.1 dj.2 dx.1 dx.2).s ?_⟩;rintro r fQ L rfl;exact ⟨_,rfl,decide (aw.kn (aw.aN O[j]) (aw.aN x)<0),by and_intros<;>rfl,by dsimp only;rw [decide_eq_true_eq];exact ⟨λh=>⟨v,h⟩,λ⟨_,h⟩=>h⟩⟩
 ·have d:¬(j:Int)<(B:Int):=of_decide_eq_false d;exact ⟨(λh=>nomatch h),λ⟨h,_⟩=>absurd h (by omega)⟩
 rintro z V7 T Qw;refine ⟨rfl,λo=>?_,λo=>?_⟩
 ·have ⟨v,a3⟩:=Qw.1 o;refine ⟨((j+1:Nat):Int),by dsimp only;omega,by and_intros<;>rfl,j+1,rfl,v,λA h a9=>?_⟩;by_cases e:A=j
  ·subst e;exact a3
  ·exact jl A h (by omega)
 have a4:∀h:j<O.length,¬aw.kn (aw.aN O[j]) (aw.aN x)<0:=λh h'=>by
  have:=Qw.2 ⟨h,h'⟩;rw [o] at this;cases this
 have f:=Mi x O j wX jl a4;have a5:∀q∈mS x O,q∈ls:=λq I=>(mT.1 I).elim (λe=>e▸a0) (Q q);have b_:=cz.m T;refine ⟨λz _=>z=true↔∃h:j<O.length,O[j]=x,⟨λd=>?_,λd=>⟨false,by and_intros<;>rfl,?_⟩⟩,?_⟩
 ·have d:(j:Int)<(B:Int):=of_decide_eq_true d;have v:j<O.length:=by omega
  have ⟨b1,p1,n1,c1,b2,p2,n2,c2,b3,p3,n3,c3,fW,Kp,hr⟩:=Ge D v;refine ⟨⟨by omega,by omega⟩,C,b1,p1,n1,c1,b2,p2,n2,c2,b3,p3,n3,c3,⟨fW,Kp⟩,λV8 U=>(lP (hr.le (b_.m U)) (RL.le G (b_.m U)) (Wc _ (Qq9 v)).jf F.jf).s ?_⟩;rintro r V9 l9 rfl;exact ⟨_,rfl,(mh O[j] x==(0:Int)),by and_intros<;>rfl,by dsimp only;rw [Hw,decide_eq_true_eq];exact ⟨λh=>⟨v,h⟩,λ⟨_,h⟩=>h⟩⟩
 ·have d:¬(j:Int)<(B:Int):=of_decide_eq_false d;exact ⟨(λh=>nomatch h),λ⟨h,_⟩=>absurd h (by omega)⟩
 rintro z fQ L Ak;have N7:=b_.m L;refine ⟨rfl,λo=>?_,λo fD bq bk hb J=>?_⟩
 ·have hex:=Ak.1 o;rw [if_pos hex] at f;rw [f] at t;exact ⟨(B,N,us,((i+1:Nat):Int)),by dsimp only;omega,by and_intros<;>rfl,i+1,O,rfl,y,by omega,Q,t,R,C,W,D.le λ_ _ g=>cA.le g N7⟩
 ·have a6:¬∃h:j<O.length,O[j]=x:=λh=>by have:=Ak.2 h;rw [o] at this;cases this
  rw [if_neg a6] at f;have ⟨xs,ys,x1,x2,x3,y1,y2,y3,r1,r2,r3,r4,r5⟩:=yK (V:=fD) (GR.s ⟨R,C,W,D⟩ λ_ _ g=>cA.le g (N7.m bq)) (by decide) (λ_ _=>Gd) hb (es:=[_,_,_,_,_,_]) rfl (cA.le G (N7.m bq)) (j:=j);refine ⟨⟨by omega,by omega⟩,⟨by omega,by omega⟩,⟨by omega,by omega⟩,xs,x1,x2,by omega,Qq2 _,Qq2 6,x2,x3,λb0 J2 sp c' h1 h2=>?_⟩;rw [r1,r2];refine ⟨ys,y1,y2,Qq2 _,y3,by omega,by omega,r3,r4,λa7 M h3 h4=>⟨(j+(1+(B-j)),M,_,((i+1:Nat):Int)),by dsimp only;omega,by and_intros<;>first|rfl|omega,i+1,mS x O,rfl,y,?_,a5,t,?_⟩⟩
  ·rw [f,Qq3,Qq7,Qw9,Qn2];omega
  ·show GR 6 cA _ _ _ _ (mS x O);rw [f];exact r5 a7 M h3 h4
theorem CD {lp:OA}{ln lc:Nat}{pv vv:un}{p v:Rat×Rat}(h:bI 6 cA V lp ln ls)(hb:∀l∈ls,Bd l)(hl:ls.length<=1000)(hp:RP V pv p.1 p.2)(hv:RP V vv v.1 v.2)(s1:Sz 60000000 p.1)(s2:Sz 60000000 p.2)(s3:Sz 6000 v.1)(s4:Sz 6000 v.2) :
  aa prog 198 #[hF lp ln lc,pv,vv] V λr V'=>RP V' r (p.1+ls.foldl (aw.FP p v) 1*v.1) (p.2+ls.foldl (aw.FP p v) 1*v.2)/\Sz 500000000 (p.1+ls.foldl (aw.FP p v) 1*v.1)/\Sz 500000000 (p.2+ls.foldl (aw.FP p v) 1*v.2):=by
 have hn:=h.len;subst hn;have d:=hp;have D:=hv;obtain ⟨_,_,_,_,_,_,_,_,_,_,_,_,rfl,-⟩:=hp;obtain ⟨_,_,_,_,_,_,_,_,_,_,_,_,rfl,-⟩:=hv;refine Dp V _ λV1 l1=>(dS 1 (by omega)).s ?_;rintro r V2 l2 g;have Q:=g;obtain ⟨_,_,_,_,_,_,rfl⟩:=g.shape;have nD:=l1.m l2;refine qyZ ⟨rfl,λz V'=>∃i:Nat,z.1=(i:Int)/\i<=ls.length/\RQ V' (dB #[qvQ z.2.1,hF z.2.2.1 z.2.2.2.1 z.2.2.2.2.1,hF z.2.2.2.2.2.1 z.2.2.2.2.2.2.1 z.2.2.2.2.2.2.2]) ((ls.take i).foldl (aw.FP p v) 1)/\Sz 400000000 ((ls.take i).foldl (aw.FP p v) 1),λz=>(ls.length-z.1).toNat,⟨(0,_,_,_,_,_,_,_),by and_intros<;>first|rfl|trivial,0,rfl,Qq4 _,Q,yW.s (by omega)⟩,?_⟩;rintro ⟨z,zb,zp,zn,E,zq,zm,ze⟩ V3 l3 ⟨i,e,hi,gs,j⟩;dsimp only at e gs ⊢;subst e;have m:=nD.m l3;refine ⟨by trivial,λc=>?_,λc Y0 R=>?_⟩
 ·have c:i<ls.length:=by have:=of_decide_eq_true c;omega
  have w1:i64.wrap ((i:Int)+1)=((i+1:Nat):Int):=by rw [au (by omega)];rfl
  rw [w1,Qq0];have ⟨is,b1,p1,n1,c1,b2,p2,n2,c2,b3,p3,n3,c3,a,S,a0,a1,a2,a3,a4,a5,n⟩:=yQ (h.le m λ_ _ g=>cA.le g m) c;have T:=hb _ (Qq9 c);have sl:=T.jf;have et:=Rk (p:=p) (v:=v) c 1;generalize ls[i]=A at *;generalize (ls.take i).foldl (aw.FP p v) 1=s at *;have next:∀{W:ut} {b:md} {q1 q2:OA} {m1 d1 m2 d2:Nat} {s':Rat},RQ W (dB #[qvQ b,hF q1 m1 d1,hF q2 m2 d2]) s'->Sz 400000000 s'->aw.FP p v s A=s'->∃i':Nat,((i+1:Nat):Int)=(i':Int)/\i'<=ls.length/\RQ W (dB #[qvQ b,hF q1 m1 d1,hF q2 m2 d2]) ((ls.take i').foldl (aw.FP p v) 1)/\Sz 400000000 ((ls.take i').foldl (aw.FP p v) 1):=λo f e=>⟨i+1,rfl,c,by rw [et,e];exact o,by rw [et,e];exact f⟩;have t1:Sz 70000000 (p.1+((1:Int):Rat)*v.1):=(s1.add (yW.mul s3)).s (by omega);have t2:Sz 70000000 (p.2+((1:Int):Rat)*v.2):=(s2.add (yW.mul s4)).s (by omega);refine ⟨is,⟨by omega,by omega⟩,b1,p1,n1,c1,b2,p2,n2,c2,b3,p3,n3,c3,a,S,a0,a1,a2,a3,a4,a5,λV4 l4=>(dS 1 (by omega)).s ?_⟩;rintro r V5 l5 g;have Q:=g;obtain ⟨_,_,_,_,_,_,rfl⟩:=g.shape;have U:=l4.m l5;refine qyZ ⟨rfl,λV6 I=>(fJ (d.le (m.m (U.m I))) (Q.le I) (D.le (m.m (U.m I))) s1 s2 (yW.s (by omega)) s3 s4).s ?_⟩;rintro r V7 l7 F;have w:=F;obtain ⟨_,_,_,_,_,_,_,_,_,_,_,_,rfl,-⟩:=F;have O0:=U.m (I.m l7);refine qyK ⟨rfl,λV8 X=>(jo (k:=70000000) (n.le (O0.m X)) (w.le X) (sl.1.s (by omega)) (sl.2.1.s (by omega)) (sl.2.2.s (by omega)) t1 t2).s ?_⟩;rintro r V9 l9 gA;have Y:RQ V9 r (aq A (p.1+((1:Int):Rat)*v.1) (p.2+((1:Int):Rat)*v.2)):=gA;obtain ⟨_,_,_,_,_,_,rfl⟩:=gA.shape;have Z:=O0.m (X.m l9);refine qyZ ⟨rfl,λfQ q=>(jo (k:=70000000) (n.le (Z.m q)) (d.le (m.m (Z.m q))) (sl.1.s (by omega)) (sl.2.1.s (by omega)) (sl.2.2.s (by omega)) (s1.s (by omega)) (s2.s (by omega))).s ?_⟩;rintro r fD bq gB;have a6:RQ fD r (aq A p.1 p.2):=gB;obtain ⟨_,_,_,_,_,_,rfl⟩:=gB.shape;have zA:=sz_v T (p:=((p.1+((1:Int):Rat)*v.1),(p.2+((1:Int):Rat)*v.2))) t1 t2;have J:=sz_v T s1 s2;have G:=Z.m (q.m bq);refine qyZ ⟨rfl,λgS bS=>(ia (Y.le (q.m (bq.m bS))) (a6.le bS) zA J).s ?_⟩;rintro r j7 bU gc
  have ec:aq A (p.1+((1:Int):Rat)*v.1) (p.2+((1:Int):Rat)*v.2)-aq A p.1 p.2=aw.nv A v:=by
   have:=aw.jy A p v 1;have e1:((1:Int):Rat)=1:=rfl;rw [e1,this];grind
  have E:=zA.sub J;dsimp only at E;rw [ec] at gc E;have Y9:=gc;obtain ⟨_,_,_,_,_,_,rfl⟩:=gc.shape;have H:=G.m (bS.m bU);refine qyZ ⟨rfl,λlB cz=>(mN (Y9.le cz)).s ?_⟩;rintro r jI cE rfl;have K:=H.m (cz.m cE);refine ⟨_,rfl,λB=>⟨(((i+1:Nat):Int),_,_,_,_,_,_,_),by dsimp only;omega,by and_intros<;>first|rfl|trivial,next (gs.le K) j ?_⟩,λB lH L=>(F7 (x:=p.1) (y:=p.2) (n.le (K.m L)) (d.le (m.m (K.m L))) ⟨sl.1.s (Qw8 (by omega) (Qq2 60000000)),sl.2.1.s (by omega),sl.2.2.s (by omega)⟩ s1 s2).s ?_⟩
  ·unfold aw.FP;rw [if_pos (.inl (aw.ki.1 (beq_iff_eq.1 B)))]
  have B:aw.nv A v≠0:=λe=>by rw [aw.ki.2 e] at B;cases B
  rintro r lC b_ rfl;have M:=K.m (L.m b_);refine ⟨_,rfl,λv0=>⟨(((i+1:Nat):Int),_,_,_,_,_,_,_),by dsimp only;omega,by and_intros<;>first|rfl|trivial,next (gs.le M) j ?_⟩,λv0 mE N=>(jo (k:=70000000) (n.le (M.m N)) (d.le (m.m (M.m N))) (sl.1.s (by omega)) (sl.2.1.s (by omega)) (sl.2.2.s (by omega)) (s1.s (by omega)) (s2.s (by omega))).s ?_⟩
  ·unfold aw.FP;rw [if_pos (.inr (aw.ki.1 (beq_iff_eq.1 v0)))]
  have v0:aq A p.1 p.2≠0:=λe=>by rw [aw.ki.2 e] at v0;cases v0
  have ns:¬(aw.nv A v=0\/aq A p.1 p.2=0):=λh=>h.elim B v0;rintro r pf du gD;have a7:RQ pf r (aq A p.1 p.2):=gD;obtain ⟨_,_,_,_,_,_,rfl⟩:=gD.shape;refine qyZ ⟨rfl,λvh fl=>(iX (a7.le fl) (Y9.le (cz.m (cE.m (L.m (b_.m (N.m (du.m fl))))))) (λe=>B (Qv1.1 e)) J E).s ?_⟩;rintro r qB gi gt;have a8:=gt;obtain ⟨_,_,_,_,_,_,rfl⟩:=gt.shape;have zt:=(J.mul (fu E)).neg;refine qyZ ⟨rfl,λtC gV=>(Kd (a8.le gV)).s ?_⟩;rintro r rk ij go;have C:=go;obtain ⟨_,_,_,_,_,_,rfl⟩:=go.shape;have Ib:=M.m (N.m (du.m (fl.m (gi.m (gV.m ij)))));refine qyZ ⟨rfl,λzk O=>(mN (C.le O)).s ?_⟩;rintro r Cs lU rfl;have t:=Ib.m (O.m lU);have eh:-(aq A p.1 p.2*(aw.nv A v)⁻¹)*((2:Int):Rat)⁻¹=-(aq A p.1 p.2*(aw.nv A v)⁻¹)*(1 / 2):=by rw [show (((2:Int):Rat))⁻¹=1 / 2 by decide +kernel]
  have zh:Sz 400000000 (-(aq A p.1 p.2*(aw.nv A v)⁻¹)*((2:Int):Rat)⁻¹):=(zt.mul (fu (EN (z:=2)))).s (by omega);refine ⟨_,rfl,λo JS oV=>(rV (C.le (O.m (lU.m oV))) zt).s ?_,λo=>⟨(((i+1:Nat):Int),_,_,_,_,_,_,_),by dsimp only;omega,by and_intros<;>first|rfl|trivial,next (gs.le t) j ?_⟩⟩
  ·have o:-(aq A p.1 p.2*(aw.nv A v)⁻¹)>0:=aw.rK.1 (of_decide_eq_true o);rintro r Pa oW gh;have a9:=gh;obtain ⟨_,_,_,_,_,_,rfl⟩:=gh.shape;have u:=t.m (oV.m oW);refine qyZ ⟨rfl,λM6 P=>(fw (a9.le P) (gs.le (u.m P)) zh j).s ?_⟩;rintro r Ti yL rfl;refine ⟨_,rfl,λf OT vR=>(rV (C.le (O.m (lU.m (oV.m (oW.m (P.m (yL.m vR))))))) zt).s ?_,λf=>⟨(((i+1:Nat):Int),_,_,_,_,_,_,_),by dsimp only;omega,by and_intros<;>first|rfl|trivial,next (gs.le (u.m (P.m yL))) j ?_⟩⟩
   ·have f:=qE.1 (of_decide_eq_true f);rintro r W5 yM gk;have b0:=gk;obtain ⟨_,_,_,_,_,_,rfl⟩:=gk.shape;refine qyZ ⟨rfl,(((i+1:Nat):Int),_,_,_,_,_,_,_),by dsimp only;omega,by and_intros<;>first|rfl|trivial,next b0 zh ?_⟩;rw [eh] at f ⊢;unfold aw.FP;rw [if_neg ns,if_pos ⟨o,f⟩]
   ·have f:¬_:=λh=>of_decide_eq_false f (qE.2 h);rw [eh] at f;unfold aw.FP;rw [if_neg ns,if_neg λh=>f h.2]
  ·have o:¬_:=λh=>of_decide_eq_false o (aw.rK.2 h);unfold aw.FP;rw [if_neg ns,if_neg λh=>o h.1]
 ·have c:i=ls.length:=by have:=of_decide_eq_false c;omega
  subst c;rw [Qy5] at gs j;generalize ls.foldl (aw.FP p v) 1=s at *;refine (fJ (d.le (m.m R)) (gs.le R) (D.le (m.m R)) s1 s2 j (s3.s (by omega)) (s4.s (by omega))).s ?_;rintro r SZ xO F;have w:=F;obtain ⟨_,_,_,_,_,_,_,_,_,_,_,_,rfl,-⟩:=F;exact qyK ⟨rfl,λZw FH=>⟨w.le FH,(s1.add (j.mul s3)).s (by omega),(s2.add (j.mul s4)).s (by omega)⟩⟩
theorem uA {vs:pz un}(h:Row 6 cA V vs ls)(hl:vs.length=ls.length*6):∀v∈vs,v.oneCell'=true:=by
 intro v a;have ⟨m,hm,e⟩:=Qd1.1 a;exact kh h (by decide) (λ_ _=>Gd) (m:=m) (by omega) (by rw [←e];exact Qq1 hm)
def Al (ls:List L3):Bool:=decide (ls=[]\/∃l∈ls,(eX l ls fullSp).isSome=true)
theorem Qx (hk:∀m∈ls,cX m=true):Al ls=true↔∃q,aw.pos ls q:=by
 unfold Al;rw [decide_eq_true_eq,←N5 hk];refine or_congr Iff.rfl ⟨λ⟨l,a,b⟩=>⟨l,a,(yF (pW (hk l a))).1 b⟩,λ⟨l,a,b⟩=>⟨l,a,(yF (pW (hk l a))).2 b⟩⟩
theorem MI (V:ut):RP V (dB #[qvQ false,hF none 0 0,hF none 0 0,qvQ false,hF none 0 0,hF none 0 0]) 0 0:=qxW ⟨rfl,Zl _,Zl _⟩
theorem ry (h:bI 6 cA V cp cn ls)(hb:∀l∈ls,Bd l)(hk:∀l∈ls,cX l=true)(hl:ls.length<=1000:=by omega) :
  aa prog 132 #[hF cp cn cc] V λr V'=>∃u p,r=qvZ #[u,qvQ (Al ls)]/\RP V' u (Prod.fst p) (Prod.snd p)/\Sz 500000000 (Prod.fst p)/\Sz 500000000 (Prod.snd p):=by
 have hn:=h.len;subst hn;refine B6 V _ ⟨λc V1 l1=>?_,λc=>⟨λz _=>∃i:Nat,z=(i:Int)/\i<=ls.length/\∀(k:Nat)(g:k<ls.length),k<i->(eX ls[k] ls fullSp).isSome=false,λz=>(ls.length-z).toNat,⟨0,by and_intros<;>rfl,0,rfl,Qq4 _,λk _ g=>absurd g (Qm0 k)⟩,?_⟩⟩
 ·have e:ls=[]:=Qw5.1 (by have:=of_decide_eq_true c;omega);refine ⟨_,(0,0),?_,MI V1,CZ _,CZ _⟩;rw [show Al ls=true from decide_eq_true (.inl e)]
 have c:ls.length≠0:=λe=>by rw [e] at c;cases c
 rintro z V2 w ⟨i,rfl,hi,Q⟩;refine ⟨by trivial,λb=>?_,λb lH cq=>?_⟩;rotate_left
 ·have e:i=ls.length:=by have:=of_decide_eq_false b;omega
  subst e;refine ⟨_,(0,0),?_,MI lH,CZ _,CZ _⟩;rw [show Al ls=false from decide_eq_false ?_];rintro (g|⟨l,g1,R⟩)
  ·rw [g] at c;exact c rfl
  ·obtain ⟨k,S,rfl⟩:=Qd1.1 g1;rw [Q k S S] at R;cases R
 have b:i<ls.length:=by have:=of_decide_eq_true b;omega
 have w1:i64.wrap ((i:Int)+1)=((i+1:Nat):Int):=by rw [au (by omega)];rfl
 rw [w1,Qq0];have x:∀{W:ut},V.Le W->bI 6 cA W cp ls.length ls:=λg=>h.le g λ_ _ k=>cA.le k g;have ⟨is,b1,p1,n1,c1,b2,p2,n2,c2,b3,p3,n3,c3,a,y,a0,a1,a2,a3,a4,a5,f⟩:=yQ (x w) b;have T:=hb _ (Qq9 b);have ok:=hk _ (Qq9 b);have hm:=Qq9 b;have sl:=T.jf;have nz:=pW ok;have A:=Bu T
 have B:(eX ls[i] ls fullSp).isSome=false->∀(k:Nat)(g:k<ls.length),k<i+1->(eX ls[k] ls fullSp).isSome=false:=λe k g a6=>by
  by_cases e':k=i
  ·subst e';exact e
  ·exact Q k g (by omega)
 refine ⟨is,⟨by omega,by omega⟩,b1,p1,n1,c1,b2,p2,n2,c2,b3,p3,n3,c3,a,y,a0,a1,a2,a3,a4,a5,λV3 U=>(tM (x (w.m U)) hb hk hl b).s ?_⟩;generalize ls[i]=L at *;rintro r V4 l4 ⟨u,s,rfl,gs,X,-⟩;have C:=gs;obtain ⟨_,_,_,_,_,_,_,_,_,_,_,_,_,_,rfl⟩:=Bf gs;have Y:=U.m l4;refine ⟨_,_,_,_,_,_,_,_,_,_,_,_,_,_,_,_,_,rfl,λD V5 E=>(eO (f.le (Y.m E)) sl.1 sl.2.1 sl.2.2).s ?_,λD=>⟨((i+1:Nat):Int),by dsimp only;omega,by and_intros<;>rfl,i+1,rfl,b,B D⟩⟩;rintro r V6 Z gd;have a7:=gd;obtain ⟨_,_,_,_,_,_,_,_,_,_,_,_,rfl,Cl,F⟩:=gd;have oV:=Y.m (E.m Z);refine qyK ⟨rfl,λV7 o=>(zO (C.le (E.m (Z.m o))) X).s ?_⟩;rintro r V8 G gq;have H:=gq;obtain ⟨_,_,_,_,_,_,rfl⟩:=gq.shape;have I:=Vg X;have uh:=oV.m (o.m G);refine qyZ ⟨rfl,λV9 j=>(r_At (f.le (uh.m j)) (H.le j) nz (sl.up (K:=200010) (by omega)) I).s ?_⟩;rintro r fQ d ga;have J:=ga;obtain ⟨_,_,_,_,_,_,_,_,_,_,_,_,rfl,-⟩:=ga;have m:=uh.m (j.m d);refine qyK ⟨rfl,λfD q=>(rX (F.le ((o.m G).m ((j.m d).m q))) A.2).s ?_⟩;rintro r gS M go;have N:=go;obtain ⟨_,_,_,_,_,_,rfl⟩:=go.shape;have n:=m.m (q.m M);have sx:=(Lc (sl.up (K:=200010) (by omega)) I).s (show _<=60000000 by omega);have sy:=(Ld (sl.up (K:=200010) (by omega)) I).s (show _<=60000000 by omega);refine qyZ ⟨rfl,λj7 t=>(CD (p:=(eK L s.gE,eN L s.gE)) (v:=(-(-((L.1:Int):Rat)),((L.2.1:Int):Rat))) (x (w.m (n.m t))) hb hl (J.le (q.m (M.m t))) ⟨_,_,_,_,_,_,_,_,_,_,_,_,rfl,N.le t,Cl.le ((o.m G).m ((j.m d).m ((q.m M).m t)))⟩ sx sy (Sz.s A.2.neg) (Sz.s A.1)).s ?_⟩;rintro r lB cz ⟨gp,O,P⟩;have V_:=gp;obtain ⟨_,_,_,_,_,_,_,_,_,_,_,_,rfl,-⟩:=gp;refine qyK ⟨rfl,λjI cE=>⟨_,(_,_),?_,V_.le cE,O,P⟩⟩;rw [show Al ls=true from decide_eq_true (.inr ⟨L,hm,D⟩)]
def AY (ls:List L3)(m:L3):Int:=if Al (ls++[m])=true/\Al (ls++[revL m])=true then 0 else if Al (ls++[m])=true then 1 else -1
theorem wL {V:ut}{c:Nat}{vs:pz un}(hw:V.w.heap[b]?=some (.cells vs.toArray 32 (0,0)))(hr:Row 6 cA V vs ls)(hc:ls.length<=c)(h0:ls≠[])(hb:∀l∈ls,Bd l)(hk:∀l∈ls,cX l=true)(hl:ls.length<=1000) :
  aa prog 132 #[hF (some ⟨b,0,none⟩) ls.length c] (V.ar [b]) λr V'=>∃b1 p n1 c1 p' n2 c2 b2 q n3 c3 q' n4 c4,r=qvZ #[dB #[qvQ b1,hF p n1 c1,hF p' n2 c2,qvQ b2,hF q n3 c3,hF q' n4 c4],qvQ (Al ls)]/\V'.w.heap[b]?=some (.cells vs.toArray 32 (0,0)):=by
 have d:b<V.w.heap.size:=(Qf1.1 hw).1;have f:=Qh4.2 h0;have j:V.Le ((V.ar [b]).bare b):=λa v h=>⟨λk=>h.1 k.1,h.2⟩;have i:bI 6 cA ((V.ar [b]).bare b) (mA b c) ls.length ls:=bI.bJ (V:=(V.ar [b]).bare b) (λ_=>⟨λh=>h.2 rfl,hw⟩) (hr.le λ_ _ g=>cA.le g j) (by decide) hc;have e:mA b c=some ⟨b,0,none⟩:=by unfold mA;rw [if_neg (by omega)]
 rw [e] at i;refine (aa.bare (V:=V.ar [b]) d (ry i hb hk hl)).s ?_;rintro r V' _ ⟨m,u,p,rfl,n,-⟩;obtain ⟨_,_,_,_,_,_,_,_,_,_,_,_,rfl,-⟩:=n;exact qyK ⟨rfl,m.m hw⟩
theorem UR (q:aw.V2):aw.pos ls q↔aw.pos ls.reverse q:=⟨λh m hm=>h m (Qd0.1 hm),λh m hm=>h m (Qd0.2 hm)⟩
theorem qe {V:ut}{xs ys sp sp':pz un}{m:L3}(hn:n=ls.length)(h:Row 6 cA V xs ls)(hx:xs.length=n*6)(hy:ys.length=6)(hm:cA V (.agg ys.toArray) m):Row 6 cA V ((([]:pz un).take (0*6)++xs++sp).take ((0+n)*6)++ys++sp') (ls++[m]):=by
 subst hn;have e:([]:pz un).take (0*6)++xs++sp=xs++sp:=by simp
 rw [e,Qz1]
 have a:Row 6 cA V (xs++sp) ls:=by
  have:=hZ (V:=V) (vs:=[]) (ls:=[]) (sp:=sp) (Row.nil) h (by decide);simpa using this
 exact hZ a (row_one hy hm) (by decide)
theorem rz (h:bI 6 cA V cp cn ls)(hb:∀l∈ls,Bd l)(hk:∀l∈ls,cX l=true)(hl:ls.length<=999){lv:un}{m:L3}(hm:cA V lv m)(bm:Bd m)(om:cX m=true) :
  aa prog 73 #[hF cp cn cc,lv] V λr V'=>r=qvK .i64 (AY ls m):=by
 have H:=h.len;subst H;have d:=hm;obtain ⟨_,_,_,_,_,_,_,_,_,_,_,_,rfl⟩:=bR hm;have ⟨xs,I,i,u⟩:=eH h (by decide);have one:∀{W:ut} {xs:pz un},Row 6 cA W xs ls->xs.length=ls.length*6->∀v∈xs,v.oneCell'=true:=λk w=>uA k w;have J:∀l∈ls++[m],Bd l:=λl h=>(Qw3.1 h).elim (hb l) λh=>by rw [Qq5.1 h];exact bm
 have K:∀l∈ls++[m],cX l=true:=λl h=>(Qw3.1 h).elim (hk l) λh=>by rw [Qq5.1 h];exact om
 have L:∀l∈ls++[revL m],Bd l:=λl h=>(Qw3.1 h).elim (hb l) λh=>by rw [Qq5.1 h];exact bm.rev
 have M:∀l∈ls++[revL m],cX l=true:=λl h=>(Qw3.1 h).elim (hk l) λh=>by rw [Qq5.1 h];exact vY om
 have c:∀x:L3,(ls++[x]).length=(0+ls.length)+1:=λx=>by rw [Qq3];simp
 refine B7 V _ ⟨xs,I,i,by omega,Qq2 _,by simp,i,one u i,λTs J5 n c3 k w=>⟨by omega,k,by simp;omega,rfl,Oh,λVN J9 p c7 N g4=>λy q To O h1=>?_⟩⟩;have P:=qe (V:=y) (ys:=[_,_,_,_,_,_]) (sp:=n) (sp':=p) rfl (u.le λ_ _ g=>cA.le g q) i rfl (cA.le d q);have z:=wL (V:=y) O P (by rw [c];exact N) (by simp) J K (by rw [c];omega);rw [c] at z;refine z.s ?_;rintro r V2 Q ⟨_,_,_,_,_,_,_,_,_,_,_,_,_,_,rfl,R⟩;have s:V.Le V2.shut:=λb o g=>Q b o (q b o g);have ⟨ys,S,j,A⟩:=eH (h.le s λ_ _ g=>cA.le g s) (by decide);refine ⟨_,_,_,_,_,_,_,_,_,_,_,_,_,_,_,rfl,_,R,ys,S,j,by omega,Qq2 _,by simp,j,one A j,λZK T e U X g6 V3 B=>(jA (cA.le d (s.m B))).s ?_⟩;rintro r Y Z gr;have C:cA Y r (revL m):=gr;obtain ⟨_,_,_,_,_,_,_,_,_,_,_,_,rfl⟩:=bR C;refine qxW ⟨rfl,by omega,X,by simp;omega,rfl,Oh,λZM a0 f a3 g7 g8 D E F e5 h5=>?_⟩;have lU:=B.m (Z.m E);have r2:=qe (V:=D) (ys:=[_,_,_,_,_,_]) (sp:=e) (sp':=f) rfl (A.le λ_ _ g=>cA.le g lU) j rfl (cA.le C E);have G:=wL (V:=D) e5 r2 (by rw [c];exact g7) (by simp) L M (by rw [c];omega);rw [c] at G;refine G.s ?_;rintro r V6 l6 ⟨_,_,_,_,_,_,_,_,_,_,_,_,_,_,rfl,w6⟩;refine ⟨_,_,_,_,_,_,_,_,_,_,_,_,_,_,_,rfl,_,w6,λa=>⟨λt V7 l7=>?_,λt=>⟨λ_ V8 l8=>?_,(λh=>by rw [a] at h;cases h)⟩⟩,λa=>⟨(λh=>by rw [a] at h;cases h),λ_ fD bq=>?_⟩⟩
 ·unfold AY;rw [if_pos ⟨a,t⟩]
 ·unfold AY;rw [if_neg (λh=>by rw [t] at h;cases h.2),if_pos a]
 ·unfold AY;rw [if_neg (λh=>by rw [a] at h;cases h.1),if_neg (λh=>by rw [a] at h;cases h)]
theorem Ga (c:pz L3):∀(r o:pz L3),(lE c r o).length<=r.length+o.length
 | [],o=>by unfold lE;simp
 | l::r,o=>by
  unfold lE;split
  ·have:=Ga c r (mS l o)
   have a:∀o:pz L3,(mS l o).length<=o.length+1:=λo=>by
    induction o with
    | nil=>simp [mS]
    | cons x r ih=>unfold mS;split<;>(try split)<;>simp<;>omega
   have:=a o;simp only [Qw9];omega
  ·have:=Ga c r o;simp only [Qw9];omega
theorem Gb (c:pz L3):∀(r o:pz L3),∀x∈lE c r o,x∈r\/x∈o
 | [],o,x,h=>.inr h
 | l::r,o,x,h=>by
  unfold lE at h;rcases Gb c r _ x h with g|g
  ·exact .inl (Qq8 _ g)
  ·split at g
   ·rcases mT.1 g with rfl|g
    ·exact .inl (Qw6 ..)
    ·exact .inr g
   ·exact .inr g
theorem MK {x y:Tr}(h:RW V p (.node l x y)) :
  ∃(b1:md)(p1:OA)(n1 c1:Nat)(b2:md)(p2:OA)(n2 c2:Nat)(b3:md)(p3:OA)(n3 c3:Nat)(pl pr:OA)(a:Addr),p.isSome=true/\ae p 2=some a/\∀W:ut,V.Le W ->
   (∃a,ae p 0=some a/\W.at a (qvQ false))/\(W.at (a.add 0) (qvQ b1)/\W.at (a.add 1) (hF p1 n1 c1)/\W.at (a.add 2) (qvQ b2)/\W.at (a.add 3) (hF p2 n2 c2)/\W.at (a.add 4) (qvQ b3)/\W.at (a.add 5) (hF p3 n3 c3)) /\
   (∃a,ae p 8=some a/\W.at a (qvW pl))/\(∃a,ae p 9=some a/\W.at a (qvW pr))/\cA W (dB #[qvQ b1,hF p1 n1 c1,qvQ b2,hF p2 n2 c2,qvQ b3,hF p3 n3 c3]) l/\RW W pl x/\RW W pr y:=by
 obtain ⟨e,f,b1,p1,n1,c1,b2,p2,n2,c2,b3,p3,n3,c3,pl,pr,rfl,c,k,m,d⟩:=h;refine ⟨b1,p1,n1,c1,b2,p2,n2,c2,b3,p3,n3,c3,pl,pr,(⟨e,0,none⟩:Addr).add 2,rfl,rfl,λW g=>?_⟩
 have b:∀(i j:Nat) v,i+j<10->([qvQ false,qvQ f,qvQ b1,hF p1 n1 c1,qvQ b2,hF p2 n2 c2,qvQ b3,hF p3 n3 c3,qvW pl,qvW pr]:pz un)[i+j]?=some v->W.at (((⟨e,0,none⟩:Addr).add i).add j) v:=by
  intro i j v _ n;rw [JV,add_zero'];exact dF (xs:=[_,_,_,_,_,_,_,_,_,_]) (g _ _ c) n
 exact ⟨F9 (g _ _ c) 0 rfl,⟨b 2 0 _ (by omega) rfl,b 2 1 _ (by omega) rfl,b 2 2 _ (by omega) rfl,b 2 3 _ (by omega) rfl,b 2 4 _ (by omega) rfl,b 2 5 _ (by omega) rfl⟩,F9 (g _ _ c) 8 rfl,F9 (g _ _ c) 9 rfl,k.le g,m.le g,d.le g⟩
theorem MJ {bk:Nat}{i b1:md}{p1:OA}{n1 c1:Nat}{b2:md}{p2:OA}{n2 c2:Nat}{b3:md}{p3:OA}{n3 c3:Nat}{pl pr:OA}{x y:Tr}
  (h:V.a_ bk (.cells #[qvQ false,qvQ i,qvQ b1,hF p1 n1 c1,qvQ b2,hF p2 n2 c2,qvQ b3,hF p3 n3 c3,qvW pl,qvW pr] 76 (0,0)))
  (hl:cA V (dB #[qvQ b1,hF p1 n1 c1,qvQ b2,hF p2 n2 c2,qvQ b3,hF p3 n3 c3]) l)(hx:RW V pl x)(hy:RW V pr y):RW V (some ⟨bk,0,none⟩) (.node l x y):=
 ⟨bk,i,b1,p1,n1,c1,b2,p2,n2,c2,b3,p3,n3,c3,pl,pr,rfl,h,hl,hx,hy⟩
def N6 (l:L3):Tr->Tr->Tr
 | .leaf i,.leaf j=>if i=j then .leaf i else .node l (.leaf i) (.leaf j)
 | x,y=>.node l x y
theorem H6 {x y:Tr}(h:x.pR=false\/y.pR=false):N6 l x y=.node l x y:=by
 cases x with
 | leaf i=>cases y with
  | leaf j=>rcases h with h|h<;>cases h
  | node=>rfl
 | node=>rfl
theorem tO {q:OA}{x y:Tr}(hl:cA V v l)(hx:RW V p x)(hy:RW V q y) :
  aa prog 74 #[v,qvW p,qvW q] V λr V'=>∃o,r=qvW o/\RW V' o (N6 l x y):=by
 have c:=hl;obtain ⟨_,_,_,_,_,_,_,_,_,_,_,_,rfl⟩:=bR hl
 have d:∀{W:ut} {b:Nat},V.Le W->W.a_ b (.cells #[qvQ false,qvQ false,_,_,_,_,_,_,qvW p,qvW q] 76 (0,0))->(x.pR=false\/y.pR=false\/∃i j,x=.leaf i/\y=.leaf j/\i≠j)->∃o,Value.pointer (some ⟨b,0,none⟩)=qvW o/\RW W o (N6 l x y):=λg h k=>by
  refine ⟨_,rfl,?_⟩
  have e:N6 l x y=.node l x y:=by
   rcases k with k|k|⟨i,j,rfl,rfl,k⟩
   ·exact H6 (.inl k)
   ·exact H6 (.inr k)
   ·show (if i=j then _ else _)=_;rw [if_neg k]
  rw [e];exact MJ h (cA.le c g) (hx.le g) (hy.le g)
 have rd:∀{p:OA} {x:Tr},RW V p x->p.isSome=true/\∃a,ae p 0=some a/\V.at a (qvQ x.pR):=λ{p x} h=>by
  cases x with
  | leaf i=>obtain ⟨s,n,-⟩:=oE h;exact ⟨s,n⟩
  | node l x y=>obtain ⟨_,_,_,_,_,_,_,_,_,_,_,_,_,_,_,s,-,H⟩:=MK h;exact ⟨s,(H V (View.Le.refl V)).1⟩
 have ⟨s1,t⟩:=rd hx;have ⟨s2,u⟩:=rd hy;refine DC V _ ⟨s1,s1,_,t,λf=>⟨s2,s2,_,u,λm=>?_,λm J w b z=>d w z (.inr (.inl m))⟩,λf K A b B=>d A B (.inl f)⟩
 obtain ⟨i,rfl⟩:∃i,x=.leaf i:=by cases x with
  | leaf i=>exact ⟨i,rfl⟩
  | node=>cases f
 obtain ⟨j,rfl⟩:∃j,y=.leaf j:=by cases y with
  | leaf j=>exact ⟨j,rfl⟩
  | node=>cases m
 obtain ⟨-,-,C⟩:=oE hx;obtain ⟨-,-,D⟩:=oE hy;refine ⟨s1,s1,i,C,s2,s2,j,D,λh E F=>⟨p,rfl,?_⟩,λh V2 G b I=>d G I (.inr (.inr ⟨i,j,rfl,rfl,by simpa using h⟩))⟩;have e:i=j:=by simpa using h
 show RW E p (if i=j then _ else _);rw [if_pos e];exact hx.le F
def FN:Tr->Tr
 | .leaf i=>.leaf (!i)
 | .node l x y=>.node l (FN x) (FN y)
theorem lQ:∀(t:Tr) {V:ut} {p:OA},RW V p t->aa prog 27 #[qvW p] V λr V'=>∃q,r=qvW q/\RW V' q (FN t)
 | .leaf i,V,p,h=>by
  have ⟨s,e0,e1⟩:=oE h;refine uZ V _ ⟨s,s,_,e0,λ_=>⟨s,s,i,e1,λM N=>(cP (!i)).s ?_⟩,(λh=>nomatch h)⟩;rintro r V2 O ⟨q,rfl,g⟩;exact ⟨q,rfl,λP j=>⟨q,rfl,g.le j⟩⟩
 | .node l x y,V,p,h=>by
  obtain ⟨Q,R,S,T,U,W,X,Y,Z,p3,n3,c3,pl,k,a,s,m,H⟩:=MK h;obtain ⟨z,⟨n,o,u,v,w,A⟩,B,C,-,-,-⟩:=H V (View.Le.refl V);refine uZ V _ ⟨s,s,_,z,(λh=>nomatch h),λ_=>⟨s,s,_,_,_,_,_,_,_,_,_,_,_,_,a,m,n,o,u,v,w,A,s,s,pl,B,s,s,k,C,λD b=>(lQ x (H D b).2.2.2.2.2.1).s ?_⟩⟩;rintro r V5 e ⟨E,rfl,F⟩;refine ⟨E,rfl,λG c=>(lQ y (H G (b.m (e.m c))).2.2.2.2.2.2).s ?_⟩;rintro r V7 f ⟨I,rfl,J⟩;refine ⟨I,rfl,λK d bk L=>⟨_,rfl,MJ L (H K (b.m (e.m (c.m (f.m d))))).2.2.2.2.1 (F.le (c.m (f.m d))) (J.le d)⟩⟩
def tB (c:List L3)(l:L3):List L3:=lE (c++[l]) (c++[l]) []
theorem yY (hc:∀m∈c,nE m)(hl:nE l):(∀m∈tB c l,nE m)/\(tB c l).length<=c.length+1:=by
 refine ⟨λm hm=>?_,?_⟩
 ·rcases Gb _ _ _ m hm with g|g
  ·rcases Qw3.1 g with g|g
   ·exact hc m g
   ·rw [Qq5.1 g];exact hl
  ·cases g
 ·have:=Ga (c++[l]) (c++[l]) [];simp at this;unfold tB;omega
theorem j8 (hc:bI 6 cA V cp cn c)(kc:∀m∈c,nE m)(hn:c.length<=990)(hl:cA V v l)(kl:nE l) :
  aa prog 75 #[hF cp cn cc,v] V λr V'=>∃q n d,r=hF q n d/\bI 6 cA V' q n (tB c l):=by
 obtain rfl:=hc.len;have b:=hl;obtain ⟨_,_,_,_,_,_,_,_,_,_,_,_,rfl⟩:=bR hl;have ⟨xs,t,a,i⟩:=eH hc (by decide);have j:∀m∈c++[l],nE m:=λm h=>(Qw3.1 h).elim (kc m) λh=>by rw [Qq5.1 h];exact kl
 have k:(c++[l]).length=(0+c.length)+1:=by rw [Qq3];simp
 refine DD V _ ⟨xs,t,a,by omega,Qq2 _,by simp,a,uA i a,λz A e B u C=>⟨by omega,u,by simp;omega,rfl,Oh,λD E f F G H w o I x=>?_⟩⟩;have y:=qe (V:=w) (ys:=[_,_,_,_,_,_]) (sp:=e) (sp':=f) rfl (i.le λ_ _ g=>cA.le g o) a rfl (cA.le b o);have p:=bI.hU x y;rw [k] at p;refine (CI p (λm h=>(j m h).2) (λm h=>(j m h).1) (by rw [k];omega)).s ?_;rintro r V2 K ⟨q,n,d,rfl,g⟩;exact ⟨q,n,d,_,rfl,λJ L s=>⟨q,n,d,rfl,g.le s λ_ _ g=>cA.le g s⟩⟩
def sP:Tr->List L3->Tr
 | .leaf i,_=>.leaf i
 | .node l x y,c=>if AY c l=1 then sP x c else if AY c l=-1 then sP y c else N6 l (sP x (tB c l)) (sP y (tB c (revL l)))
theorem uq (h:nE l):nE (revL l):=⟨vY h.1,h.2.rev⟩
theorem dw:∀(t:Tr) {V:ut} {p cp:OA} {cn cc:Nat} {c:pz L3},RW V p t->t.eU nE->bI 6 cA V cp cn c->(∀m∈c,nE m)->c.length+t.depth<=990 ->
  aa prog 72 #[qvW p,hF cp cn cc] V λr V'=>∃q,r=qvW q/\RW V' q (sP t c)
 | .leaf i,V,p,cp,cn,cc,c,h,_,_,_,_=>by
  obtain ⟨s,e0,-⟩:=oE h;exact mb V _ ⟨s,s,_,e0,λ_ V1 l1=>⟨p,rfl,h.le l1⟩,(λh=>nomatch h)⟩
 | .node l x y,V,p,cp,cn,cc,c,h,ha,hc,kc,hd=>by
  obtain ⟨f,N,O⟩:=ha;simp only [Tr.depth] at hd;obtain ⟨b1,p1,n1,c1,b2,p2,n2,c2,b3,p3,n3,c3,pl,P,a,s,C,H⟩:=MK h;obtain ⟨z,⟨j,n,o,u,v,w⟩,F,G,-,-,-⟩:=H V (View.Le.refl V);have A:∀{W:ut},V.Le W->bI 6 cA W cp cn c:=λg=>hc.le g λ_ _ k=>cA.le k g;refine mb V _ ⟨s,s,_,z,(λh=>nomatch h),λ_=>⟨s,s,_,_,_,_,_,_,_,_,_,_,_,_,a,C,j,n,o,u,v,w,λV2 I=>(rz (A I) (λm h=>(kc m h).2) (λm h=>(kc m h).1) (by omega) (H V2 I).2.2.2.2.1 f.2 f.1).s ?_⟩⟩;rintro r V3 l3 rfl;have L3:=I.m l3;obtain ⟨-,⟨j,n,o,u,v,w⟩,F,G,-,-,-⟩:=H V3 L3;refine ⟨_,rfl,λb=>⟨s,s,pl,F,λV4 Q=>(dw x (H V4 (L3.m Q)).2.2.2.2.2.1 N (A (L3.m Q)) kc (by omega)).s ?_⟩,λb=>⟨λe=>⟨s,s,P,G,λV7 R=>(dw y (H V7 (L3.m R)).2.2.2.2.2.2 O (A (L3.m R)) kc (by omega)).s ?_⟩,λe=>?_⟩⟩
  ·have b:AY c l=1:=by simpa using b
   rintro r V5 l5 ⟨q,rfl,g⟩;exact ⟨q,rfl,λV6 J=>⟨q,rfl,by unfold sP;rw [if_pos b];exact g.le J⟩⟩
  ·have b:¬AY c l=1:=by simpa using b
   have e:AY c l=-1:=by simpa using e
   rintro r V5 l5 ⟨q,rfl,g⟩;exact ⟨q,rfl,λV6 J=>⟨q,rfl,by unfold sP;rw [if_neg b,if_pos e];exact g.le J⟩⟩
  ·have b:¬AY c l=1:=by simpa using b
   have e:¬AY c l=-1:=by simpa using e
   have ⟨w1,w2⟩:=yY kc f;have ⟨w3,w4⟩:=yY kc (uq f);refine ⟨s,s,_,_,_,_,_,_,_,_,_,_,_,_,a,C,j,n,o,u,v,w,s,s,pl,F,s,s,_,_,_,_,_,_,_,_,_,_,_,_,a,C,j,n,o,u,v,w,s,s,P,G,s,s,_,_,_,_,_,_,_,_,_,_,_,_,a,C,j,n,o,u,v,w,λfQ d=>(j8 (A (L3.m d)) kc (by omega) (H fQ (L3.m d)).2.2.2.2.1 f).s ?_⟩;rintro r fD S ⟨q1,m1,d1,rfl,h1⟩;refine ⟨q1,m1,d1,rfl,λgS D=>(dw x (H gS (L3.m (d.m (S.m D)))).2.2.2.2.2.1 N (h1.le D λ_ _ k=>cA.le k D) w1 (by omega)).s ?_⟩;rintro r j7 bU ⟨o1,rfl,t1⟩;have T:=L3.m (d.m (S.m (D.m bU)));refine ⟨o1,rfl,λlB K=>(jA (H lB (T.m K)).2.2.2.2.1).s ?_⟩;rintro r jI U gr;have X:cA jI r (revL l):=gr;obtain ⟨_,_,_,_,_,_,_,_,_,_,_,_,rfl⟩:=bR X;have Y:=T.m (K.m U);refine qxW ⟨rfl,λlH E=>(j8 (A (Y.m E)) kc (by omega) (cA.le X E) (uq f)).s ?_⟩;rintro r lC Z ⟨q2,m2,d2,rfl,h2⟩;have VB:=Y.m (E.m Z);refine ⟨q2,m2,d2,rfl,λmE B=>(dw y (H mE (VB.m B)).2.2.2.2.2.2 O (h2.le B λ_ _ k=>cA.le k B) w3 (by omega)).s ?_⟩;rintro r pf du ⟨o2,rfl,t2⟩;have L:=VB.m (B.m du);refine ⟨o2,rfl,λvh M=>(tO (H vh (L.m M)).2.2.2.2.1 (t1.le (K.m (U.m (E.m (Z.m (B.m (du.m M)))))) ) (t2.le M)).s ?_⟩;rintro r qB gi ⟨o3,rfl,t3⟩;exact ⟨o3,rfl,λtC gV=>⟨o3,rfl,by unfold sP;rw [if_neg b,if_neg e];exact t3.le gV⟩⟩
theorem kK (t:Tr)(h:RW V p t)(ha:t.eU nE)(hd:t.depth<=990:=by omega) :
  aa prog 24 #[qvW p] V λr V'=>∃q,r=qvW q/\RW V' q (sP t []):=by
 refine yw V _ λc a=>(dw t (h.le a) ha (bI.nil (p:=none)) (λm h=>by cases h) (by simpa using hd)).s ?_;rintro r V2 d ⟨q,rfl,g⟩;exact ⟨q,rfl,λe b=>⟨q,rfl,g.le b⟩⟩
def O5 (C:Rat×Rat->Prop):Prop:=∀p q,C p->C q->∀s:Rat,0<s->s<1->C (p.1+s*(q.1-p.1),p.2+s*(q.2-p.2))
def Bg (C:Rat×Rat->Prop)(l:L3)(x:Rat×Rat):Prop:=C x/\0<aq l x.1 x.2
theorem O5.sd {C:Rat×Rat->Prop}(h:O5 C)(l:L3):O5 (Bg C l):=λp q ⟨d,f⟩ ⟨g,i⟩ s c s1=>by
 refine ⟨h p q d g s c s1,?_⟩;have e:aq l (p.1+s*(q.1-p.1)) (p.2+s*(q.2-p.2))=(1-s)*aq l p.1 p.2+s*aq l q.1 q.2:=by unfold aq;grind
 have a:=Qf9 (show 0<1-s by grind) f;have b:=Qf9 c i;rw [e];grind
def JI:(Rat×Rat->Prop)->Tr->Prop
 | _,.leaf _=>True
 | C,.node l x y=>(∃q,Bg C l q)/\(∃q,Bg C (revL l) q)/\JI (Bg C l) x/\JI (Bg C (revL l)) y
def KK (l:L3):Tr->Nat
 | .leaf _=>0
 | .node m x y=>(if m=l\/m=revL l then 1 else 0)+(KK l x+KK l y)
theorem betw {z1 z2 p:Rat}(h:z1<p/\p<z2\/z2<p/\p<z1):∃s:Rat,0<s/\s<1/\p=z1+s*(z2-z1):=by
 have c:z2-z1≠0:=by grind
 have e:=Qb9 _ c;refine ⟨(p-z1)*(z2-z1)⁻¹,?_,?_,by grind⟩ <;>
 ·rcases h with ⟨d,f⟩|⟨d,f⟩
  ·have i:=Wy9.2 (show 0<z2-z1 by grind);have a:=Qf9 (show 0<p-z1 by grind) i;have b:=Qf9 (show 0<z2-p by grind) i;grind
  ·have g:=Qb9 _ (show z1-z2≠0 by grind);have i:=Wy9.2 (show 0<z1-z2 by grind);have a:=Qf9 (show 0<z1-p by grind) i;have b:=Qf9 (show 0<p-z2 by grind) i;have:(z2-z1)⁻¹=-(z1-z2)⁻¹:=by grind
   rw [this];grind
theorem O5.line {C:Rat×Rat->Prop}(h:O5 C){z1 z2 p:Rat}(h1:C (eK l z1,eN l z1))(h2:C (eK l z2,eN l z2))(hb:z1<p/\p<z2\/z2<p/\p<z1):C (eK l p,eN l p):=by
 obtain ⟨s,a,s1,rfl⟩:=betw hb;have:=h _ _ h1 h2 s a s1;have b:eK l z1+s*(eK l z2-eK l z1)=eK l (z1+s*(z2-z1)):=by unfold eK;grind
 have c:eN l z1+s*(eN l z2-eN l z1)=eN l (z1+s*(z2-z1)):=by unfold eN;grind
 grind
theorem YG (h:Nz l){x y:Rat}(hv:aq l x y=0):eK l (kX l x y)=x/\eN l (kX l x y)=y:=by
 have a:=Qb9 _ h.norm;unfold aq at hv;unfold eK eN kX;unfold gK at *;constructor<;>grind
theorem O5.meets {C:Rat×Rat->Prop}(h:O5 C)(ol:cX l=true){p q:Rat×Rat}(h1:Bg C l p)(h2:Bg C (revL l) q):∃z,C (eK l z,eN l z):=by
 obtain ⟨d,v1⟩:=h1;obtain ⟨f,v2⟩:=h2;rw [val_rev] at v2;have g:aq l p.1 p.2-aq l q.1 q.2≠0:=by grind
 have e:=Qb9 _ g;have i:=Wy9.2 (show 0<aq l p.1 p.2-aq l q.1 q.2 by grind);have a:=Qf9 v1 i;have b:=Qf9 v2 i;have c:=h p q d f (aq l p.1 p.2*(aq l p.1 p.2-aq l q.1 q.2)⁻¹) a (by grind);generalize hs:aq l p.1 p.2*(aq l p.1 p.2-aq l q.1 q.2)⁻¹=s at *
 have v0:aq l (p.1+s*(q.1-p.1)) (p.2+s*(q.2-p.2))=0:=by
  have j:aq l (p.1+s*(q.1-p.1)) (p.2+s*(q.2-p.2))=aq l p.1 p.2-s*(aq l p.1 p.2-aq l q.1 q.2):=by unfold aq;grind
  rw [j,←hs];grind
 refine ⟨kX l (p.1+s*(q.1-p.1)) (p.2+s*(q.2-p.2)),?_⟩<;>grind [YG,pW]
theorem Ip (ol:cX l=true):∀{t:Tr} {C:Rat×Rat->Prop},JI C t->O5 C->t.eU (λm=>cX m=true)->KK l t≠0->∃z,C (eK l z,eN l z)
 | .leaf _,C,_,_,_,h=>absurd rfl h
 | .node m x y,C,⟨⟨q1,g1⟩,⟨q2,g2⟩,hx,hy⟩,hC,⟨om,ox,oy⟩,h=>by
  unfold KK at h;split at h
  ·grind [hC.meets,rev_rev]
  ·by_cases k:KK l x=0
   ·have ⟨z,hz⟩:=Ip ol hy (hC.sd _) oy (by omega);exact ⟨z,hz.1⟩
   ·have ⟨z,hz⟩:=Ip ol hx (hC.sd _) ox k;exact ⟨z,hz.1⟩
open Classical in
theorem KM (ol:cX l=true){P:pz Rat}:∀{t:Tr} {C:Rat×Rat->Prop},JI C t->O5 C->t.eU (λm=>cX m=true)->Zp l P t->KK l t<=1+P.countP λp=>decide (C (eK l p,eN l p))
 | .leaf _,C,_,_,_,_=>Qq4 _
 | .node m x y,C,⟨⟨q1,g1⟩,⟨q2,g2⟩,hx,hy⟩,hC,⟨om,ox,oy⟩,⟨cm,cx,cy⟩=>by
  unfold KK;have ne:∀{z:Rat},aq l (eK l z) (eN l z)=0:=λ{z}=>(nG (pW ol) z).1
  have sub:∀k:L3,P.countP (λp=>decide (Bg C k (eK l p,eN l p)))<=P.countP λp=>decide (C (eK l p,eN l p)):=λk=>List.countP_mono_left λp _ h=>by
   simp only [decide_eq_true_eq] at h ⊢;exact h.1
  split
  ·rename_i e
   have zero:∀{k:L3} {t:Tr},(k=l\/k=revL l)->JI (Bg C k) t->t.eU (λm=>cX m=true)->KK l t=0:=λ{k t} u h o=>by
    by_cases z:KK l t=0
    ·exact z
    ·obtain ⟨w,-,hw⟩:=Ip ol h (hC.sd _) o z;rcases u with rfl|rfl
     ·rw [ne] at hw;exact absurd hw (by decide)
     ·rw [val_rev,ne] at hw;exact absurd hw (by decide)
   rw [zero e hx ox,zero (by rcases e with rfl|rfl;exact .inr rfl;exact .inl (rev_rev _)) hy oy];omega
  ·have A:=KM ol hx (hC.sd _) ox cx;have B:=KM ol hy (hC.sd _) oy cy;have s1:=sub m;have s2:=sub (revL m);by_cases v:KK l x=0
   ·omega
   ·by_cases D:KK l y=0
    ·omega
    ·have ⟨d,E,n⟩:=Ip ol hx (hC.sd _) ox v;have ⟨i,F,j⟩:=Ip ol hy (hC.sd _) oy D;rw [val_rev] at j;rw [tj] at n j;have q:dotL m l≠0:=λh=>by rw [h] at n j;grind
     have G:dotL m l*cutP m l=-jJ m l:=by
      unfold cutP;grind
     have I:d<cutP m l/\cutP m l<i\/i<cutP m l/\cutP m l<d:=by
      rcases dV (dotL m l) with ⟨g,_⟩|⟨g,_⟩|⟨g,_⟩
      ·exact absurd g q
      ·right;have t1:dotL m l*(d-cutP m l)>0:=by grind
       have t2:dotL m l*(cutP m l-i)>0:=by grind
       exact ⟨by have:=(Qp1 g).1 t2;grind,by have:=(Qp1 g).1 t1;grind⟩
      ·left;have N:-dotL m l>0:=by grind
       have t1:-dotL m l*(cutP m l-d)>0:=by grind
       have t2:-dotL m l*(i-cutP m l)>0:=by grind
       grind [Rat.mul_pos_iff_of_pos_left]
     have J:=hC.line E F I;have O:aq m (eK l (cutP m l)) (eN l (cutP m l))=0:=by rw [tj,G];grind
     have r:0<P.countP λc=>decide (c=cutP m l):=Qr0.2 ⟨_,cm q,by simp⟩
     have H:=Xg (f:=λp=>decide (Bg C m (eK l p,eN l p))) (g:=λp=>decide (Bg C (revL m) (eK l p,eN l p))) (h:=λc=>decide (c=cutP m l)) (k:=λp=>decide (C (eK l p,eN l p))) (λc=>by
      by_cases e:c=cutP m l
      ·subst e;have K:¬Bg C m (eK l (cutP m l),eN l (cutP m l)):=λh=>by have:=h.2;dsimp only at this;grind
       have L:¬Bg C (revL m) (eK l (cutP m l),eN l (cutP m l)):=λh=>by have:=h.2;dsimp only at this;rw [val_rev] at this;grind
       simp [K,L,J]
      ·by_cases a:Bg C m (eK l c,eN l c)
       ·have b:¬Bg C (revL m) (eK l c,eN l c):=λh=>by have s:=h.2;have M:=a.2;dsimp only at s M;rw [val_rev] at s;grind
        simp [a,b,e,a.1]
       ·by_cases b:Bg C (revL m) (eK l c,eN l c)
        ·simp [a,b,e,b.1]
        ·simp [a,b,e]) P
     omega
theorem SD {α:Type}{f g:α->Nat}:∀{S:pz α},(∀x∈S,f x<=g x)->(S.map f).sum<=(S.map g).sum
 | [],_=>Qq2 _
 | x::S,h=>by
  have:=h x (Qw6 ..);have:=SD (S:=S) λy a=>h y (Qq8 _ a);grind
theorem sum_add {α:Type}{f g:α->Nat}:∀S:pz α,(S.map λx=>f x+g x).sum=(S.map f).sum+(S.map g).sum
 | []=>rfl
 | x::S=>by simp only [Qn3,List.sum_cons,sum_add S];omega
theorem EM {α:Type}{k:Nat}:∀S:pz α,(S.map λ_=>k).sum=S.length*k
 | []=>by simp
 | x::S=>by simp only [Qn3,List.sum_cons,EM S,Qw9,Qk1];omega
theorem Bk:∀{t:Tr},t.eU (·∈ S)->t.size<=(S.map λl=>KK l t).sum
 | .leaf _,_=>Qq4 _
 | .node m x y,⟨hm,hx,hy⟩=>by
  have A:=Bk hx;have B:=Bk hy
  have e:(S.map λl=>KK l (.node m x y)).sum=(S.map λl=>if m=l\/m=revL l then 1 else 0).sum+((S.map λl=>KK l x).sum+(S.map λl=>KK l y).sum):=by
   rw [←sum_add,←sum_add];rfl
  have one:1<=(S.map λl=>if m=l\/m=revL l then 1 else 0).sum:=by
   clear A B e hx hy
   induction S<;>grind
  grind [Tr.size]
theorem PS {t:Tr}(h:t.eU (·∈ S)):Zp l (S.map λm=>cutP m l) t:=h.imp λm hm _=>Qz0.2 ⟨m,hm,rfl⟩
theorem Su {t:Tr}{C:Rat×Rat->Prop}(h:JI C t)(hC:O5 C)(ht:t.eU (·∈ S))(ho:∀l∈S,cX l=true):t.size<=S.length*(1+S.length):=by
 refine Qw8 (Bk ht) ?_;rw [←EM (k:=1+S.length) S];exact SD λl a=>Qw8 (KM (ho l a) h hC (ht.imp λm hm=>ho m hm) (PS ht)) (Nat.add_le_add_left (Qw8 (List.countP_le_length ..) (by rw [Qk3];exact Qq2 _)) 1)
theorem JI.jn {C:Rat×Rat->Prop}{x y:Tr}(h:JI C (.node l x y)):JI C (N6 l x y):=by
 unfold N6;split
 ·split
  ·trivial
  ·exact h
 ·exact h
theorem eU.jn {q:L3->Prop}{x y:Tr}(h:(Tr.node l x y).eU q):(N6 l x y).eU q:=by
 unfold N6;split
 ·split
  ·trivial
  ·exact h
 ·exact h
theorem Xl {x y:Tr}:(N6 l x y).depth<=(Tr.node l x y).depth:=by
 unfold N6;split
 ·split
  ·exact Qq4 _
  ·exact Qq2 _
 ·exact Qq2 _
theorem TR (c:pz L3):O5 (aw.pos c):=by
 induction c with
 | nil=>exact λp q _ _ s _ _ m hm=>nomatch hm
 | cons l c ih=>
  have e:aw.pos (l::c)=Bg (aw.pos c) l:=by
   funext q;refine propext ⟨λh=>⟨λm hm=>h m (Qq8 _ hm),h l (Qw6 ..)⟩,λh m hm=>?_⟩;rcases Qq6.1 hm with rfl|hm
   ·exact h.2
   ·exact h.1 m hm
  rw [e];exact ih.sd l
theorem FX {q:Rat×Rat}:aw.pos (c++[l]) q↔Bg (aw.pos c) l q:=
 ⟨λh=>⟨λm hm=>h m (Qz4 _ hm),h l (by simp)⟩,λh m hm=>(Qw3.1 hm).elim (h.1 m) λg=>by rw [Qq5.1 g];exact h.2⟩
theorem MB (hc:∀m∈c,cX m=true)(hl:cX l=true)(h:∃q,Bg (aw.pos c) l q):aw.pos (tB c l)=Bg (aw.pos c) l:=by
 have a:∀m∈c++[l],cX m=true:=λm hm=>(Qw3.1 hm).elim (hc m) λg=>by rw [Qq5.1 g];exact hl
 have ⟨b,d⟩:=PJ a
 cases e:rZ (c++[l]) [] [] with
 | none=>
  obtain ⟨q,f⟩:=h;exact absurd ⟨q,FX.2 f⟩ (d e).2.2
 | some k=>
  obtain ⟨i,j,-⟩:=b k e;have cs:=(Hu j (λm hm=>a m (Qd0.1 hm)));funext q;refine propext ?_;rw [←FX];unfold tB;rw [i];refine Iff.trans ⟨λg s n=>g _ (Qz0.2 ⟨s,n,rfl⟩),λg m hm=>?_⟩ ((cs q).2.m (UR q).symm)<;>grind
theorem UP (hc:∀m∈c,cX m=true)(hl:cX l=true)(ne:∃q,aw.pos c q)(h1:AY c l≠1)(h2:AY c l≠-1):(∃q,Bg (aw.pos c) l q)/\∃q,Bg (aw.pos c) (revL l) q:=by
 have add:∀{m:L3},cX m=true->(Al (c++[m])=true->∃q,Bg (aw.pos c) m q):=λ{m} hm h=>by
  obtain ⟨q,a⟩:=(Qx (λx b=>(Qw3.1 b).elim (hc x) λh=>by rw [Qq5.1 h];exact hm)).1 h;exact ⟨q,FX.1 a⟩
 unfold AY at h1 h2;split at h1
 ·rename_i g;exact ⟨add hl g.1,add (vY hl) g.2⟩
 grind
structure JK (q:L3->Prop) (d:Nat) (C:Rat×Rat->Prop) (t:Tr):Prop where
 prp:JI C t
 all:t.eU q
 dep:t.depth<=d
theorem JK.node {q:L3->Prop}{d:Nat}{x y:Tr}(hc:∀m∈c,cX m=true)(hl:cX l=true)(hq:q l)(ne:∃q,aw.pos c q)(h1:AY c l≠1)(h2:AY c l≠-1)(hx:(∃q,aw.pos (tB c l) q)->JK q d (aw.pos (tB c l)) x)(hy:(∃q,aw.pos (tB c (revL l)) q)->JK q d (aw.pos (tB c (revL l))) y):JK q (d+1) (aw.pos c) (N6 l x y):=by
 have ⟨a,b⟩:=UP hc hl ne h1 h2;rw [MB hc hl a] at hx;rw [MB hc (vY hl) b] at hy;have hx:=hx a;have hy:=hy b;refine ⟨JI.jn ⟨a,b,hx.prp,hy.prp⟩,eU.jn ⟨hq,hx.all,hy.all⟩,Qw8 Xl ?_⟩<;>grind [hx.dep,hy.dep,Tr.depth]
theorem yZ (hc:∀m∈c,cX m=true)(hl:cX l=true):∀m∈tB c l,cX m=true:=λm hm=>by rcases Gb _ _ _ m hm with g|g<;>grind
theorem JK.s {q:L3->Prop}{d e:Nat}{C:Rat×Rat->Prop}{t:Tr}(h:JK q d C t)(hd:d<=e):JK q e C t:=⟨h.prp,h.all,Qw8 h.dep hd⟩
theorem sQ {q:L3->Prop}(ho:∀l,q l->cX l=true):∀{t:Tr} {c:pz L3},t.eU q->(∀m∈c,cX m=true)->(∃x,aw.pos c x)->JK q t.depth (aw.pos c) (sP t c)
 | .leaf i,c,_,_,_=>⟨trivial,trivial,Qq2 _⟩
 | .node l x y,c,⟨ql,qx,qy⟩,hc,ne=>by
  have hl:=ho l ql;unfold sP;simp only [Tr.depth];split
  ·exact (sQ ho qx hc ne).s (by omega)
  ·split
   ·exact (sQ ho qy hc ne).s (by omega)
   ·rename_i a b;refine (JK.node (d:=max x.depth y.depth) hc hl ql ne a b (λg=>(sQ ho qx (yZ hc hl) g).s (by omega)) (λg=>(sQ ho qy (yZ hc (vY hl)) g).s (by omega))).s (by omega)
theorem JI.not:∀{t:Tr} {C:Rat×Rat->Prop},JI C t->JI C (FN t)
 | .leaf _,_,_=>trivial
 | .node _ _ _,_,⟨a,b,c,d⟩=>⟨a,b,JI.not c,JI.not d⟩
theorem eU.not {q:L3->Prop}:∀{t:Tr},t.eU q->(FN t).eU q
 | .leaf _,_=>trivial
 | .node _ _ _,⟨a,b,c⟩=>⟨a,eU.not b,eU.not c⟩
theorem Fq:∀t:Tr,(FN t).depth=t.depth
 | .leaf _=>rfl
 | .node _ x y=>by simp only [FN,Tr.depth,Fq x,Fq y]
theorem JK.not {q:L3->Prop}{d:Nat}{C:Rat×Rat->Prop}{t:Tr}(h:JK q d C t):JK q d C (FN t):=⟨h.prp.not,eU.not h.all,by rw [Fq];exact h.dep⟩
def pU (op:Int):Tr->Tr->List L3->Tr
 | .leaf i,b,c=>if op=1/\i=true then .leaf true else if (op=2\/op=3)/\i=false then .leaf false else if (op=3\/op=4)/\i=true then FN (sP b c) else sP b c
 | .node l x y,b,c=>if AY c l=1 then pU op x b c else if AY c l=-1 then pU op y b c else N6 l (pU op x b (tB c l)) (pU op y b (tB c (revL l)))
theorem AJ {q:L3->Prop}(ho:∀l,q l->cX l=true){op:Int}{b:Tr}(hb:b.eU q):∀{a:Tr} {c:pz L3},a.eU q->(∀m∈c,cX m=true)->(∃x,aw.pos c x)->JK q (a.depth+b.depth) (aw.pos c) (pU op a b c)
 | .leaf i,c,_,hc,ne=>by
  have R:JK q ((Tr.leaf i).depth+b.depth) (aw.pos c) (sP b c):=(sQ ho hb hc ne).s (by omega);unfold pU;split
  ·exact ⟨trivial,trivial,Qq4 _⟩
  ·split
   ·exact ⟨trivial,trivial,Qq4 _⟩
   grind [R.not]
 | .node l x y,c,⟨ql,qx,qy⟩,hc,ne=>by
  have e:=ho l ql;unfold pU;simp only [Tr.depth];split
  ·exact (AJ ho hb qx hc ne).s (by omega)
  ·split
   ·exact (AJ ho hb qy hc ne).s (by omega)
   ·rename_i f h;refine (JK.node (d:=max x.depth y.depth+b.depth) hc e ql ne f h (λg=>(AJ ho hb qx (yZ hc e) g).s (by omega)) (λg=>(AJ ho hb qy (yZ hc (vY e)) g).s (by omega))).s (by omega)
theorem JW:∀t:Tr,t.eU (·∈ t.n_)
 | .leaf _=>trivial
 | .node l x y=>⟨Qw6 ..,(JW x).imp λ_ h=>Qq8 _ (Qz4 _ h),(JW y).imp λ_ h=>Qq8 _ (Qk7 _ h)⟩
def oS (V:View)(v:Value)(x:L3×Sp):Prop:=GU V v x.1 x.2
theorem IM {V:ut}{xs:pz un}{x:L3×Sp}(h:oS V (.agg xs.toArray) x):∀v∈xs,v.oneCell'=true:=by
 obtain ⟨_,_,_,_,_,_,_,_,_,_,_,_,_,_,_,ex,-,-⟩:=h;have ex:=congrArg Array.toList (Value.agg.inj ex);subst ex;intro v a;simp only [Qq6,Qy0,or_false] at a;rcases a with rfl|rfl|rfl|rfl|rfl|rfl|rfl|rfl|rfl|rfl|rfl|rfl|rfl|rfl|rfl|rfl|rfl<;>rfl
def dCF:L3×Sp:=((0,0,0),⟨0,0,false,false⟩)
theorem PB {c:Nat}{fs:pz (L3×Sp)}(h:bI 17 oS V p n fs)(hn:fs.length<=1000000)(h0:fs=[]->p=none) :
  aa prog 178 #[hF p n c] V λr V'=>∃(bm:Nat)(vs:pz un),(vs≠[]->V'.w.heap[bm]?=some (.cells vs.toArray 142 (0,0)))/\(vs≠[]->V.w.heap.size<=bm) /\
   ∃e,r=hF (mA bm e) fs.length e/\fs.length<=e/\(vs=[]↔e=0)/\(vs≠[]↔fs≠[])/\Row 17 oS (V'.bg (vs≠[]) bm) vs fs/\V.Le (V'.bg (vs≠[]) bm):=by
 obtain rfl:=h.len;refine u_ p _ c V _ ⟨λg C q=>?_,λg=>?_⟩
 ·have s:p=none:=by simpa using g
  have e:fs=[]:=by
   rcases fs with-| ⟨x,r⟩
   ·rfl
   ·obtain ⟨D,e,-⟩:=h.at_ 0 (Nat.succ_pos _);rw [s] at e;cases e
  subst e;exact ⟨0,[],λh=>absurd rfl h,λh=>absurd rfl h,0,rfl,Qq2 _,⟨λ_=>rfl,λ_=>rfl⟩,⟨λh=>absurd rfl h,λh=>absurd rfl h⟩,Row.nil,NZ q λh=>h rfl⟩
 ·have b:fs≠[]:=λe=>by rw [h0 e] at g;cases g
  have j:0<fs.length:=Qh4.2 b;have ⟨xs,t,i,k⟩:=eH h (by decide);refine ⟨xs,t,i,by omega,Qq2 _,Qq2 _,i,λv u=>?_,λE J sp y l F V2 d z A B=>?_⟩
  ·obtain ⟨m,hm,rfl⟩:=Qd1.1 u;exact kh k (by decide) (λxs a g=>IM g) (m:=m) (by omega) (Qq1 hm)
  rw [Qz1] at l ⊢;have o:V.Le (V2.bg ((([]:pz un).take (0*17)++xs++sp)≠[]) d):=Kv z
  have f:(([]:pz un).take (0*17)++xs++sp)≠[]:=λe=>by
   have:=congrArg List.length e;rw [Qq3,Qq3,i] at this;simp at this;omega
  exact ⟨d,_,λ_=>A,λ_=>B.elim id False.elim,y,by rw [mA,if_neg (by omega)],l,⟨λe=>absurd e f,λe=>by omega⟩,⟨λ_=>b,λ_=>f⟩,(hZ (vs:=[]) (sp:=sp) Row.nil k (by decide)).le λ_ _ g=>GU.le g o,o⟩
def halfU (l m:L3):List Sp:=if crossL l m=0 then (if 0<aq m (eK l 0) (eN l 0) then [fullSp] else []) else if 0<dotL m l then [⟨cutP m l,0,false,true⟩] else [⟨0,cutP m l,true,false⟩]
theorem vQ (l m:L3):halfU l m=[]\/∃u,halfU l m=[u]/\u.can:=by
 unfold halfU;split
 ·grind [fh.1]
 ·split
  ·exact .inr ⟨_,rfl,⟨(λh=>by cases h),λ_=>rfl⟩⟩
  ·exact .inr ⟨_,rfl,⟨λ_=>rfl,(λh=>by cases h)⟩⟩
theorem comb_nil (a:pz Sp):combL 2 a []=[]:=by
 cases e:combL 2 a [] with
 | nil=>rfl
 | cons s r=>
  exfalso;have d:=comb_reg 2 a [];rw [e] at d;have ⟨g,i,b,c⟩:=Qm (d.1 s (Qw6 ..));have ⟨t,t1,t2,t3⟩:=Po (endsL (a++[])) b;have f:=comb_inB 2 a [] (t:=t) (λh=>t3 t h rfl);rw [e] at f;have j:inB (s::r) t=true:=lT.2 ⟨s,Qw6 ..,c t t1 t2⟩;have k:inB [] t=false:=rfl;have l:opB 2 (inB a t) false=(inB a t&&false):=rfl;grind
theorem Od {v:Sp}(hv:v.can):v.meet fullSp=v:=by
 obtain ⟨c,d,a,b⟩:=v;unfold Sp.can at hv;unfold Sp.meet fullSp;grind
theorem NQ {v:Sp}(hv:v.can):fullSp.meet v=v:=by
 obtain ⟨c,d,a,b⟩:=v;unfold Sp.meet fullSp;cases a<;>cases b<;>simp at hv⊢<;> simp
theorem AQ {u:Sp}(hu:u.good):combL 2 [fullSp] [u]=[u]:=by
 rw [tQ fh.1 hu.1,NQ hu.1,if_neg (by rw [hu.2];exact Qv7)]
theorem OG {l m:L3}{v:Sp}(hv:v.good):combL 2 [v] (combL 2 [fullSp] (halfU l m))=if cH l v m=true then [bu l v m] else []:=by
 unfold halfU;by_cases a:crossL l m=0
 ·have b:dotL m l=0:=by rw [cross_dot] at a;grind
  have d:bu l v m=v:=by unfold bu;rw [b];rfl
  have c:cH l v m=decide ((jJ m l).num.sign>0):=by unfold cH;rw [b];rfl
  rw [if_pos a,d,c];by_cases g:0<aq m (eK l 0) (eN l 0)
  ·rw [if_pos g,AQ fh,tQ hv.1 fh.1,Od hv.1,if_neg (by rw [hv.2];exact Qv7),if_pos (decide_eq_true (show (jJ m l).num.sign>0 from aw.rK.2 g))]
  ·rw [if_neg g,comb_nil,comb_nil,if_neg (by rw [decide_eq_true_eq];exact λh=>g (aw.rK.1 h))]
 ·have b:dotL m l≠0:=λe=>a (by rw [cross_dot,e];grind)
  have c:cH l v m=!(bu l v m).emp:=by
   unfold cH;grind [dV]
  have fin:∀{u:Sp},u.good->v.meet u=bu l v m->combL 2 [v] (combL 2 [fullSp] [u])=if cH l v m=true then [bu l v m] else []:=λ{u} hu e=>by
   rw [AQ hu,tQ hv.1 hu.1,e,c];grind
  rw [if_neg a];rcases dV (dotL m l) with ⟨h,e⟩|⟨h,e⟩|⟨h,e⟩
  ·exact absurd h b
  ·rw [if_pos h];refine fin ⟨⟨(λh=>by cases h),λ_=>rfl⟩,Sp.iE.2 (.inr (.inl rfl))⟩ ?_;unfold bu;rw [e];rfl
  ·rw [if_neg (by grind)];refine fin ⟨⟨λ_=>rfl,(λh=>by cases h)⟩,Sp.iE.2 (.inl rfl)⟩ ?_;unfold bu;rw [e];rfl
end Go.Proofs.Tryz
