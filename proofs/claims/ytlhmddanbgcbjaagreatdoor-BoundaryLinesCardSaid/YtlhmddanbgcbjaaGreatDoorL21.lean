import Derived.Test.YtlhmddanbgcbjaaGreatDoorL18
import Derived.Test.YtlhmddanbgcbjaaGreatDoorL20
import Derived.Test.YtlhmddanbgcbjaaGreatDoorL17
import Derived.Test.YtlhmddanbgcbjaaGreatDoorL15
import Derived.Test.YtlhmddanbgcbjaaGreatDoorL9
import Derived.Test.YtlhmddanbgcbjaaGreatDoorL16
import Derived.Test.YtlhmddanbgcbjaaGreatDoorL5
import Derived.Test.YtlhmddanbgcbjaaGreatDoorL19
import Derived.Test.YtlhmddanbgcbjaaGreatDoorL13
import Derived.Test.YtlhmddanbgcbjaaGreatDoorL8
import Derived.Test.YtlhmddanbgcbjaaGreatDoorL10
set_option linter.all false
open Go.IntKind (i64 u64 u32)
namespace Go.Proofs.Tryz
open Go.Eng Go.Big
variable{l:L3}{S c:List L3}
def Ps (C:Rat×Rat->Prop):Prop:=∀p q,C p->C q->∀s:Rat,0<s->s<1->C (p.1+s*(q.1-p.1),p.2+s*(q.2-p.2))
def BA (C:Rat×Rat->Prop)(l:L3)(x:Rat×Rat):Prop:=C x/\0<aq l x.1 x.2
theorem Ps.sd {C:Rat×Rat->Prop}(h:Ps C)(l:L3):Ps (BA C l):=λp q ⟨d,f⟩ ⟨g,i⟩ s c s1=>by
 refine ⟨h p q d g s c s1,?_⟩;have e:aq l (p.1+s*(q.1-p.1)) (p.2+s*(q.2-p.2))=(1-s)*aq l p.1 p.2+s*aq l q.1 q.2:=by unfold aq;grind
 have a:=Qv7 (show 0<1-s by grind) f;have b:=Qv7 c i;rw [e];grind
def J3:(Rat×Rat->Prop)->Tr->Prop
 | _,.leaf _=>True
 | C,.node l x y=>(∃q,BA C l q)/\(∃q,BA C (revL l) q)/\J3 (BA C l) x/\J3 (BA C (revL l)) y
def KV (l:L3):Tr->Nat
 | .leaf _=>0
 | .node m x y=>(if m=l\/m=revL l then 1 else 0)+(KV l x+KV l y)
theorem betw {z1 z2 p:Rat}(h:z1<p/\p<z2\/z2<p/\p<z1):∃s:Rat,0<s/\s<1/\p=z1+s*(z2-z1):=by have c:z2-z1≠0:=by{grind};have e:=Qv8 _ c;refine ⟨(p-z1)*(z2-z1)⁻¹,?_,?_,by grind⟩ <;>{rcases h with ⟨d,f⟩|⟨d,f⟩;{have i:=Wy6.2 (show 0<z2-z1 by grind);have a:=Qv7 (show 0<p-z1 by grind) i;have b:=Qv7 (show 0<z2-p by grind) i;grind};{have g:=Qv8 _ (show z1-z2≠0 by grind);have i:=Wy6.2 (show 0<z1-z2 by grind);have a:=Qv7 (show 0<z1-p by grind) i;have b:=Qv7 (show 0<p-z2 by grind) i;have:(z2-z1)⁻¹=-(z1-z2)⁻¹:=by{grind};rw [this];grind}}
theorem Ps.line {C:Rat×Rat->Prop}(h:Ps C){z1 z2 p:Rat}(h1:C (cz l z1,cD l z1))(h2:C (cz l z2,cD l z2))(hb:z1<p/\p<z2\/z2<p/\p<z1):C (cz l p,cD l p):=by obtain ⟨s,a,s1,rfl⟩:=betw hb;have:=h _ _ h1 h2 s a s1;have b:cz l z1+s*(cz l z2-cz l z1)=cz l (z1+s*(z2-z1)):=by{unfold cz;grind};have c:cD l z1+s*(cD l z2-cD l z1)=cD l (z1+s*(z2-z1)):=by{unfold cD;grind};grind
theorem Sf (h:Nz l){x y:Rat}(hv:aq l x y=0):cz l (iw l x y)=x/\cD l (iw l x y)=y:=by have a:=Qv8 _ h.norm;unfold aq at hv;unfold cz cD iw;unfold gU at *;constructor<;>grind
theorem Ps.meets {C:Rat×Rat->Prop}(h:Ps C)(ol:cW l=true){p q:Rat×Rat}(h1:BA C l p)(h2:BA C (revL l) q):∃z,C (cz l z,cD l z):=by obtain ⟨d,v1⟩:=h1;obtain ⟨f,v2⟩:=h2;rw [val_rev] at v2;have g:aq l p.1 p.2-aq l q.1 q.2≠0:=by{grind};have e:=Qv8 _ g;have i:=Wy6.2 (show 0<aq l p.1 p.2-aq l q.1 q.2 by grind);have a:=Qv7 v1 i;have b:=Qv7 v2 i;have c:=h p q d f (aq l p.1 p.2*(aq l p.1 p.2-aq l q.1 q.2)⁻¹) a (by grind);generalize hs:aq l p.1 p.2*(aq l p.1 p.2-aq l q.1 q.2)⁻¹=s at *;have v0:aq l (p.1+s*(q.1-p.1)) (p.2+s*(q.2-p.2))=0:=by{have j:aq l (p.1+s*(q.1-p.1)) (p.2+s*(q.2-p.2))=aq l p.1 p.2-s*(aq l p.1 p.2-aq l q.1 q.2):=by{unfold aq;grind};rw [j,←hs];grind};refine ⟨iw l (p.1+s*(q.1-p.1)) (p.2+s*(q.2-p.2)),?_⟩<;>grind [Sf,lA]
theorem IJ (ol:cW l=true):∀{t:Tr} {C:Rat×Rat->Prop},J3 C t->Ps C->t.dT (λm=>cW m=true)->KV l t≠0->∃z,C (cz l z,cD l z)
 | .leaf _,C,_,_,_,h=>absurd rfl h
 | .node m x y,C,⟨⟨q1,g1⟩,⟨q2,g2⟩,hx,hy⟩,hC,⟨om,ox,oy⟩,h=>by
  unfold KV at h;split at h
  ·grind [hC.meets,rev_rev]
  ·by_cases k:KV l x=0
   ·have ⟨z,hz⟩:=IJ ol hy (hC.sd _) oy (by omega);exact ⟨z,hz.1⟩
   ·have ⟨z,hz⟩:=IJ ol hx (hC.sd _) ox k;exact ⟨z,hz.1⟩
open Classical in
theorem KX (ol:cW l=true){P:pz Rat}:∀{t:Tr} {C:Rat×Rat->Prop},J3 C t->Ps C->t.dT (λm=>cW m=true)->Y6 l P t->KV l t<=1+P.countP λp=>decide (C (cz l p,cD l p))
 | .leaf _,C,_,_,_,_=>Qq4 _
 | .node m x y,C,⟨⟨q1,g1⟩,⟨q2,g2⟩,hx,hy⟩,hC,⟨om,ox,oy⟩,⟨cm,cx,cy⟩=>by
  unfold KV;have ne:∀{z:Rat},aq l (cz l z) (cD l z)=0:=λ{z}=>(kJ (lA ol) z).1
  have sub:∀k:L3,P.countP (λp=>decide (BA C k (cz l p,cD l p)))<=P.countP λp=>decide (C (cz l p,cD l p)):=λk=>List.countP_mono_left λp _ h=>by
   simp only [decide_eq_true_eq] at h ⊢;exact h.1
  split
  ·rename_i e
   have zero:∀{k:L3} {t:Tr},(k=l\/k=revL l)->J3 (BA C k) t->t.dT (λm=>cW m=true)->KV l t=0:=λ{k t} u h o=>by
    by_cases z:KV l t=0
    ·exact z
    ·obtain ⟨w,-,hw⟩:=IJ ol h (hC.sd _) o z;rcases u with rfl|rfl
     ·rw [ne] at hw;exact absurd hw (by decide)
     ·rw [val_rev,ne] at hw;exact absurd hw (by decide)
   rw [zero e hx ox,zero (by rcases e with rfl|rfl;exact .inr rfl;exact .inl (rev_rev _)) hy oy];omega
  ·have A:=KX ol hx (hC.sd _) ox cx;have B:=KX ol hy (hC.sd _) oy cy;have s1:=sub m;have s2:=sub (revL m);by_cases v:KV l x=0
   ·omega
   ·by_cases D:KV l y=0
    ·omega
    ·have ⟨d,E,n⟩:=IJ ol hx (hC.sd _) ox v;have ⟨i,F,j⟩:=IJ ol hy (hC.sd _) oy D;rw [val_rev] at j;rw [jV] at n j;have q:dotL m l≠0:=λh=>by rw [h] at n j;grind
     have G:dotL m l*cutP m l=-jC m l:=by
      unfold cutP;grind
     have I:d<cutP m l/\cutP m l<i\/i<cutP m l/\cutP m l<d:=by rcases bY (dotL m l) with ⟨g,_⟩|⟨g,_⟩|⟨g,_⟩;{exact absurd g q};{right;have t1:dotL m l*(d-cutP m l)>0:=by{grind};have t2:dotL m l*(cutP m l-i)>0:=by{grind};exact ⟨by have:=(Qp0 g).1 t2;grind,by have:=(Qp0 g).1 t1;grind⟩};{left;have N:-dotL m l>0:=by{grind};have t1:-dotL m l*(cutP m l-d)>0:=by{grind};have t2:-dotL m l*(i-cutP m l)>0:=by{grind};grind [Rat.mul_pos_iff_of_pos_left]}
     have J:=hC.line E F I;have O:aq m (cz l (cutP m l)) (cD l (cutP m l))=0:=by rw [jV,G];grind
     have r:0<P.countP λc=>decide (c=cutP m l):=Qr1.2 ⟨_,cm q,by simp⟩
     have H:=Xu (f:=λp=>decide (BA C m (cz l p,cD l p))) (g:=λp=>decide (BA C (revL m) (cz l p,cD l p))) (h:=λc=>decide (c=cutP m l)) (k:=λp=>decide (C (cz l p,cD l p))) (λc=>by
      by_cases e:c=cutP m l
      ·subst e;have K:¬BA C m (cz l (cutP m l),cD l (cutP m l)):=λh=>by{have:=h.2;dsimp only at this;grind};have L:¬BA C (revL m) (cz l (cutP m l),cD l (cutP m l)):=λh=>by{have:=h.2;dsimp only at this;rw [val_rev] at this;grind};simp [K,L,J]
      ·by_cases a:BA C m (cz l c,cD l c)
       ·have b:¬BA C (revL m) (cz l c,cD l c):=λh=>by{have s:=h.2;have M:=a.2;dsimp only at s M;rw [val_rev] at s;grind};simp [a,b,e,a.1]
       ·by_cases b:BA C (revL m) (cz l c,cD l c)
        ·simp [a,b,e,b.1]
        ·simp [a,b,e]) P
     omega
theorem SU {α:Type}{f g:α->Nat}:∀{S:pz α},(∀x∈S,f x<=g x)->(S.map f).sum<=(S.map g).sum
 | [],_=>Qq2 _
 | x::S,h=>by
  have:=h x (Qw5 ..);have:=SU (S:=S) λy a=>h y (Qq8 _ a);grind
theorem sum_add {α:Type}{f g:α->Nat}:∀S:pz α,(S.map λx=>f x+g x).sum=(S.map f).sum+(S.map g).sum
 | []=>rfl
 | x::S=>by simp only [Qn3,List.sum_cons,sum_add S];omega
theorem E3 {α:Type}{k:Nat}:∀S:pz α,(S.map λ_=>k).sum=S.length*k
 | []=>by simp
 | x::S=>by simp only [Qn3,List.sum_cons,E3 S,Qw6,Qk1];omega
theorem BE:∀{t:Tr},t.dT (·∈ S)->t.size<=(S.map λl=>KV l t).sum
 | .leaf _,_=>Qq4 _
 | .node m x y,⟨hm,hx,hy⟩=>by
  have A:=BE hx;have B:=BE hy
  have e:(S.map λl=>KV l (.node m x y)).sum=(S.map λl=>if m=l\/m=revL l then 1 else 0).sum+((S.map λl=>KV l x).sum+(S.map λl=>KV l y).sum):=by
   rw [←sum_add,←sum_add];rfl
  have one:1<=(S.map λl=>if m=l\/m=revL l then 1 else 0).sum:=by
   clear A B e hx hy
   induction S<;>grind
  grind [Tr.size]
theorem Qi {t:Tr}(h:t.dT (·∈ S)):Y6 l (S.map λm=>cutP m l) t:=h.imp λm hm _=>Qz1.2 ⟨m,hm,rfl⟩
theorem SK {t:Tr}{C:Rat×Rat->Prop}(h:J3 C t)(hC:Ps C)(ht:t.dT (·∈ S))(ho:∀l∈S,cW l=true):t.size<=S.length*(1+S.length):=by refine Qw7 (BE ht) ?_;rw [←E3 (k:=1+S.length) S];exact SU λl a=>Qw7 (KX (ho l a) h hC (ht.imp λm hm=>ho m hm) (Qi ht)) (Nat.add_le_add_left (Qw7 (List.countP_le_length ..) (by rw [Qy5];exact Qq2 _)) 1)
theorem J3.jn {C:Rat×Rat->Prop}{x y:Tr}(h:J3 C (.node l x y)):J3 C (Om l x y):=by unfold Om;split;{split;{trivial};{exact h}};{exact h}
theorem dT.jn {q:L3->Prop}{x y:Tr}(h:(Tr.node l x y).dT q):(Om l x y).dT q:=by unfold Om;split;{split;{trivial};{exact h}};{exact h}
theorem Xx {x y:Tr}:(Om l x y).depth<=(Tr.node l x y).depth:=by unfold Om;split;{split;{exact Qq4 _};{exact Qq2 _}};{exact Qq2 _}
theorem T2 (c:pz L3):Ps (au.pos c):=by
 induction c with
 | nil=>exact λp q _ _ s _ _ m hm=>nomatch hm
 | cons l c ih=>
  have e:au.pos (l::c)=BA (au.pos c) l:=by funext q;refine propext ⟨λh=>⟨λm hm=>h m (Qq8 _ hm),h l (Qw5 ..)⟩,λh m hm=>?_⟩;rcases Qq5.1 hm with rfl|hm;{exact h.2};{exact h.1 m hm}
  rw [e];exact ih.sd l
theorem F9 {q:Rat×Rat}:au.pos (c++[l]) q↔BA (au.pos c) l q:=
 ⟨λh=>⟨λm hm=>h m (Qz5 _ hm),h l (by simp)⟩,λh m hm=>(Qw3.1 hm).elim (h.1 m) λg=>by rw [Qq6.1 g];exact h.2⟩
theorem MT (hc:∀m∈c,cW m=true)(hl:cW l=true)(h:∃q,BA (au.pos c) l q):au.pos (tJ c l)=BA (au.pos c) l:=by have a:∀m∈c++[l],cW m=true:=λm hm=>(Qw3.1 hm).elim (hc m) λg=>by{rw [Qq6.1 g];exact hl};have ⟨b,d⟩:=P6 a;(cases e:sG (c++[l]) [] [] with|none=>{obtain ⟨q,f⟩:=h;exact absurd ⟨q,F9.2 f⟩ (d e).2.2}|some k=>{obtain ⟨i,j,-⟩:=b k e;have cs:=(HM j (λm hm=>a m (Qd2.1 hm)));funext q;refine propext ?_;rw [←F9];unfold tJ;rw [i];refine Iff.trans ⟨λg s n=>g _ (Qz1.2 ⟨s,n,rfl⟩),λg m hm=>?_⟩ ((cs q).2.m (U0 q).symm)<;>grind})
theorem UY (hc:∀m∈c,cW m=true)(hl:cW l=true)(ne:∃q,au.pos c q)(h1:Bm c l≠1)(h2:Bm c l≠-1):(∃q,BA (au.pos c) l q)/\∃q,BA (au.pos c) (revL l) q:=by have add:∀{m:L3},cW m=true->(AB (c++[m])=true->∃q,BA (au.pos c) m q):=λ{m} hm h=>by{obtain ⟨q,a⟩:=(QO (λx b=>(Qw3.1 b).elim (hc x) λh=>by rw [Qq6.1 h];exact hm)).1 h;exact ⟨q,F9.1 a⟩};unfold Bm at h1 h2;split at h1;{rename_i g;exact ⟨add hl g.1,add (wJ hl) g.2⟩};grind
structure J4 (q:L3->Prop) (d:Nat) (C:Rat×Rat->Prop) (t:Tr):Prop where
 prp:J3 C t
 all:t.dT q
 dep:t.depth<=d
theorem J4.node {q:L3->Prop}{d:Nat}{x y:Tr}(hc:∀m∈c,cW m=true)(hl:cW l=true)(hq:q l)(ne:∃q,au.pos c q)(h1:Bm c l≠1)(h2:Bm c l≠-1)(hx:(∃q,au.pos (tJ c l) q)->J4 q d (au.pos (tJ c l)) x)(hy:(∃q,au.pos (tJ c (revL l)) q)->J4 q d (au.pos (tJ c (revL l))) y):J4 q (d+1) (au.pos c) (Om l x y):=by have ⟨a,b⟩:=UY hc hl ne h1 h2;rw [MT hc hl a] at hx;rw [MT hc (wJ hl) b] at hy;have hx:=hx a;have hy:=hy b;refine ⟨J3.jn ⟨a,b,hx.prp,hy.prp⟩,dT.jn ⟨hq,hx.all,hy.all⟩,Qw7 Xx ?_⟩<;>grind [hx.dep,hy.dep,Tr.depth]
theorem zG (hc:∀m∈c,cW m=true)(hl:cW l=true):∀m∈tJ c l,cW m=true:=λm hm=>by rcases Gj _ _ _ m hm with g|g<;>grind
theorem J4.s {q:L3->Prop}{d e:Nat}{C:Rat×Rat->Prop}{t:Tr}(h:J4 q d C t)(hd:d<=e):J4 q e C t:=⟨h.prp,h.all,Qw7 h.dep hd⟩
theorem te {q:L3->Prop}(ho:∀l,q l->cW l=true):∀{t:Tr} {c:pz L3},t.dT q->(∀m∈c,cW m=true)->(∃x,au.pos c x)->J4 q t.depth (au.pos c) (s_ t c)
 | .leaf i,c,_,_,_=>⟨trivial,trivial,Qq2 _⟩
 | .node l x y,c,⟨ql,qx,qy⟩,hc,ne=>by
  have hl:=ho l ql;unfold s_;simp only [Tr.depth];split
  ·exact (te ho qx hc ne).s (by omega)
  ·split
   ·exact (te ho qy hc ne).s (by omega)
   ·rename_i a b;refine (J4.node (d:=max x.depth y.depth) hc hl ql ne a b (λg=>(te ho qx (zG hc hl) g).s (by omega)) (λg=>(te ho qy (zG hc (wJ hl)) g).s (by omega))).s (by omega)
theorem J3.not:∀{t:Tr} {C:Rat×Rat->Prop},J3 C t->J3 C (FZ t)
 | .leaf _,_,_=>trivial
 | .node _ _ _,_,⟨a,b,c,d⟩=>⟨a,b,J3.not c,J3.not d⟩
theorem dT.not {q:L3->Prop}:∀{t:Tr},t.dT q->(FZ t).dT q
 | .leaf _,_=>trivial
 | .node _ _ _,⟨a,b,c⟩=>⟨a,dT.not b,dT.not c⟩
theorem FE:∀t:Tr,(FZ t).depth=t.depth
 | .leaf _=>rfl
 | .node _ x y=>by simp only [FZ,Tr.depth,FE x,FE y]
theorem J4.not {q:L3->Prop}{d:Nat}{C:Rat×Rat->Prop}{t:Tr}(h:J4 q d C t):J4 q d C (FZ t):=⟨h.prp.not,dT.not h.all,by rw [FE];exact h.dep⟩
def pV (op:Int):Tr->Tr->List L3->Tr
 | .leaf i,b,c=>if op=1/\i=true then .leaf true else if (op=2\/op=3)/\i=false then .leaf false else if (op=3\/op=4)/\i=true then FZ (s_ b c) else s_ b c
 | .node l x y,b,c=>if Bm c l=1 then pV op x b c else if Bm c l=-1 then pV op y b c else Om l (pV op x b (tJ c l)) (pV op y b (tJ c (revL l)))
theorem A_ {q:L3->Prop}(ho:∀l,q l->cW l=true){op:Int}{b:Tr}(hb:b.dT q):∀{a:Tr} {c:pz L3},a.dT q->(∀m∈c,cW m=true)->(∃x,au.pos c x)->J4 q (a.depth+b.depth) (au.pos c) (pV op a b c)
 | .leaf i,c,_,hc,ne=>by
  have R:J4 q ((Tr.leaf i).depth+b.depth) (au.pos c) (s_ b c):=(te ho hb hc ne).s (by omega);unfold pV;split
  ·exact ⟨trivial,trivial,Qq4 _⟩
  ·split
   ·exact ⟨trivial,trivial,Qq4 _⟩
   grind [R.not]
 | .node l x y,c,⟨ql,qx,qy⟩,hc,ne=>by
  have e:=ho l ql;unfold pV;simp only [Tr.depth];split
  ·exact (A_ ho hb qx hc ne).s (by omega)
  ·split
   ·exact (A_ ho hb qy hc ne).s (by omega)
   ·rename_i f h;refine (J4.node (d:=max x.depth y.depth+b.depth) hc e ql ne f h (λg=>(A_ ho hb qx (zG hc e) g).s (by omega)) (λg=>(A_ ho hb qy (zG hc (wJ e)) g).s (by omega))).s (by omega)
theorem Fb:∀t:Tr,t.dT (·∈ t.gS)
 | .leaf _=>trivial
 | .node l x y=>⟨Qw5 ..,(Fb x).imp λ_ h=>Qq8 _ (Qz5 _ h),(Fb y).imp λ_ h=>Qq8 _ (Qk6 _ h)⟩
def oW (V:View)(v:Value)(x:L3×Sp):Prop:=G8 V v x.1 x.2
theorem Jb {V:ut}{xs:pz un}{x:L3×Sp}(h:oW V (.agg xs.toArray) x):∀v∈xs,v.oneCell'=true:=by obtain ⟨_,_,_,_,_,_,_,_,_,_,_,_,_,_,_,ex,-,-⟩:=h;have ex:=congrArg Array.toList (Value.agg.inj ex);subst ex;intro v a;simp only [Qq5,Qx7,or_false] at a;rcases a with rfl|rfl|rfl|rfl|rfl|rfl|rfl|rfl|rfl|rfl|rfl|rfl|rfl|rfl|rfl|rfl|rfl<;>rfl
def dCF:L3×Sp:=((0,0,0),⟨0,0,false,false⟩)
end Go.Proofs.Tryz
namespace Go.Proofs.Tryz
open Go.Eng Go.Big
open Go.Value renaming slice→qD,agg→hF,bool→dQ,pointer→dZ,tuple→dB,int→qvZ
variable{V:View}{p:OA}{c i n:Nat}{v y z:Value}{L l:L3}{vs xs:List Value}{root:Int}
theorem PW {fs:pz (L3×Sp)}(h:bE 17 oW V p n fs)(hn:fs.length<=1000000)(h0:fs=[]->p=none) :
  aa prog 119 #[qD p n c] V λr V'=>∃(bm:Nat)(vs:pz un),(vs≠[]->V'.w.heap[bm]?=some (.cells vs.toArray 137 (0,0)))/\(vs≠[]->V.w.heap.size<=bm) /\
   ∃e,r=qD (mA bm e) fs.length e/\fs.length<=e/\(vs=[]↔e=0)/\(vs≠[]↔fs≠[])/\Row 17 oW (V'.bu (vs≠[]) bm) vs fs/\V.Le (V'.bu (vs≠[]) bm):=by obtain rfl:=h.len;refine vC p _ c V _ ⟨λg C q=>?_,λg=>?_⟩;{have s:p=none:=by{simpa using g};have e:fs=[]:=by{rcases fs with-| ⟨x,r⟩;{rfl};{obtain ⟨D,e,-⟩:=h.at_ 0 (Nat.succ_pos _);rw [s] at e;cases e}};subst e;exact ⟨0,[],λh=>absurd rfl h,λh=>absurd rfl h,0,rfl,Qq2 _,⟨λ_=>rfl,λ_=>rfl⟩,⟨λh=>absurd rfl h,λh=>absurd rfl h⟩,Row.nil,Oj q λh=>h rfl⟩};{have b:fs≠[]:=λe=>by{rw [h0 e] at g;cases g};have j:0<fs.length:=Qh2.2 b;have ⟨xs,t,i,k⟩:=dF h (by decide);refine ⟨xs,t,i,by omega,Qq2 _,Qq2 _,i,λv u=>?_,λE J sp y l F V2 d z A B=>?_⟩;{obtain ⟨m,hm,rfl⟩:=Qm9.1 u;exact gg k (by decide) (λxs a g=>Jb g) (m:=m) (by omega) (Qq1 hm)};rw [Qz2] at l ⊢;have o:V.Le (V2.bu ((([]:pz un).take (0*17)++xs++sp)≠[]) d):=KG z;have f:(([]:pz un).take (0*17)++xs++sp)≠[]:=λe=>by{have:=congrArg List.length e;rw [Qq3,Qq3,i] at this;simp at this;omega};exact ⟨d,_,λ_=>A,λ_=>B.elim id False.elim,y,by rw [mA,if_neg (by omega)],l,⟨λe=>absurd e f,λe=>by omega⟩,⟨λ_=>b,λ_=>f⟩,(eF (vs:=[]) (sp:=sp) Row.nil k (by decide)).le λ_ _ g=>G8.le g o,o⟩}
def halfU (l m:L3):List Sp:=if crossL l m=0 then (if 0<aq m (cz l 0) (cD l 0) then [fullSp] else []) else if 0<dotL m l then [⟨cutP m l,0,false,true⟩] else [⟨0,cutP m l,true,false⟩]
theorem wC (l m:L3):halfU l m=[]\/∃u,halfU l m=[u]/\u.can:=by unfold halfU;split;{grind [fl.1]};{split;{exact .inr ⟨_,rfl,⟨(λh=>by cases h),λ_=>rfl⟩⟩};{exact .inr ⟨_,rfl,⟨λ_=>rfl,(λh=>by cases h)⟩⟩}}
theorem comb_nil (a:pz Sp):combL 2 a []=[]:=by (cases e:combL 2 a [] with|nil=>rfl|cons s r=>{exfalso;have d:=comb_reg 2 a [];rw [e] at d;have ⟨g,i,b,c⟩:=QE (d.1 s (Qw5 ..));have ⟨t,t1,t2,t3⟩:=PG (endsL (a++[])) b;have f:=comb_inB 2 a [] (t:=t) (λh=>t3 t h rfl);rw [e] at f;have j:inB (s::r) t=true:=ke.2 ⟨s,Qw5 ..,c t t1 t2⟩;have k:inB [] t=false:=rfl;have l:opB 2 (inB a t) false=(inB a t&&false):=rfl;grind})
theorem Oy {v:Sp}(hv:v.can):v.meet fullSp=v:=by obtain ⟨c,d,a,b⟩:=v;unfold Sp.can at hv;unfold Sp.meet fullSp;grind
theorem Od {v:Sp}(hv:v.can):fullSp.meet v=v:=by obtain ⟨c,d,a,b⟩:=v;unfold Sp.meet fullSp;cases a<;>cases b<;>simp at hv⊢<;> simp
theorem Bg {u:Sp}(hu:u.good):combL 2 [fullSp] [u]=[u]:=by rw [ue fl.1 hu.1,Od hu.1,if_neg (by rw [hu.2];exact Qv9)]
theorem OZ {l m:L3}{v:Sp}(hv:v.good):combL 2 [v] (combL 2 [fullSp] (halfU l m))=if cH l v m=true then [bj l v m] else []:=by unfold halfU;by_cases a:crossL l m=0;{have b:dotL m l=0:=by{rw [cross_dot] at a;grind};have d:bj l v m=v:=by{unfold bj;rw [b];rfl};have c:cH l v m=decide ((jC m l).num.sign>0):=by{unfold cH;rw [b];rfl};rw [if_pos a,d,c];by_cases g:0<aq m (cz l 0) (cD l 0);{rw [if_pos g,Bg fl,ue hv.1 fl.1,Oy hv.1,if_neg (by rw [hv.2];exact Qv9),if_pos (decide_eq_true (show (jC m l).num.sign>0 from au.rO.2 g))]};{rw [if_neg g,comb_nil,comb_nil,if_neg (by rw [decide_eq_true_eq];exact λh=>g (au.rO.1 h))]}};{have b:dotL m l≠0:=λe=>a (by rw [cross_dot,e];grind);have c:cH l v m=!(bj l v m).emp:=by{unfold cH;grind [bY]};have fin:∀{u:Sp},u.good->v.meet u=bj l v m->combL 2 [v] (combL 2 [fullSp] [u])=if cH l v m=true then [bj l v m] else []:=λ{u} hu e=>by{rw [Bg hu,ue hv.1 hu.1,e,c];grind};rw [if_neg a];rcases bY (dotL m l) with ⟨h,e⟩|⟨h,e⟩|⟨h,e⟩;{exact absurd h b};{rw [if_pos h];refine fin ⟨⟨(λh=>by cases h),λ_=>rfl⟩,Sp.iG.2 (.inr (.inl rfl))⟩ ?_;unfold bj;rw [e];rfl};{rw [if_neg (by grind)];refine fin ⟨⟨λ_=>rfl,(λh=>by cases h)⟩,Sp.iG.2 (.inl rfl)⟩ ?_;unfold bj;rw [e];rfl}}
def sideL (m:L3)(k:Int):L3:=if k=1 then m else revL m
theorem Jd {q:Rat}{k:Int}(hk:k=1\/k=-1):(q.num.sign==k)=decide (0<(if k=1 then q else -q)):=by rcases bY q with ⟨h,e⟩|⟨h,e⟩|⟨h,e⟩<;>rcases hk with rfl|rfl<;>rw [e]<;>simp<;>grind
theorem Ji (m:L3)(k:Int)(x y:Rat):aq (sideL m k) x y=if k=1 then aq m x y else -aq m x y:=by unfold sideL;split;{rfl};{exact val_rev ..}
theorem Jh (m l:L3)(k:Int):dotL (sideL m k) l=if k=1 then dotL m l else -dotL m l:=by unfold sideL;split;{rfl};{exact dot_rev ..}
theorem side_cross (m l:L3)(k:Int):crossL l (sideL m k)=0↔crossL l m=0:=by rw [cross_dot,cross_dot,Jh];split<;>grind
theorem SJ {m:L3}(k:Int)(h:dotL m l≠0):cutP (sideL m k) l=cutP m l:=by unfold sideL;split;{rfl};{exact cutP_rev h}
def Zo (l m:L3):Bool:=decide (crossL l m=0/\aq m (cz l 0) (cD l 0)=0)
theorem tW {w:un}{l m:L3}{k:Int}(hk:k=1\/k=-1)(hl:bM V v l)(hm:bM V w m)(nz:Nz l)(bl:Bd l)(bm:Bd m) :
  aa prog 216 #[v,w,qvZ .i64 k] V λr V'=>∃q n c,r=dB #[qD q n c,dQ (Zo l m)]/\bE 8 mO V' q n (halfU l (sideL m k)):=by have i:=hl;have j:=hm;obtain ⟨_,_,_,_,_,_,_,_,_,_,_,_,rfl⟩:=bD hl;obtain ⟨_,_,_,_,_,_,_,_,_,_,_,_,rfl⟩:=bD hm;have sl:=bl.fF;have sm:=bm.fF;refine DP V _ λV1 z=>(K9 (bM.le i z) (bM.le j z) sl sm).s ?_;rintro r V2 l2 ⟨u,rfl,q0,q1⟩;have ⟨s1,s2⟩:=Gy sl sm;have s:=z.m l2;by_cases f:crossL l m=0;{have L:=q0 f;unfold L_ at L;subst L;refine ⟨_,_,_,_,_,_,_,_,_,_,_,_,_,_,_,rfl,λ_ V3 M=>(MW (bM.le i (s.m M)) nz bl).s ?_,λh=>by simp [f] at h⟩;rintro r V4 l4 N;have A:=N;obtain ⟨_,_,_,_,_,_,_,_,_,_,_,_,rfl,-⟩:=N;have O:=s.m (M.m l4);refine qyZ ⟨rfl,λV5 B=>(Bu (bM.le j (O.m B)) (A.le B) (sm.up (K:=30000) (by omega)) (Gu bl).1 (Gu bl).2).s ?_⟩;rintro r V6 l6 rfl;have zg:=O.m (B.m l6);have a:((aq m (cz l 0) (cD l 0)).num.sign==(0:Int))=Zo l m:=by{unfold Zo;rcases bY (aq m (cz l 0) (cD l 0)) with ⟨h,e⟩|⟨h,e⟩|⟨h,e⟩<;>rw [e]<;>simp [f]<;>grind};have b:halfU l (sideL m k)=if ((aq m (cz l 0) (cD l 0)).num.sign==k)=true then [fullSp] else []:=by{unfold halfU;rw [if_pos ((side_cross m l k).2 f),Jd hk,Ji];by_cases g:0<(if k=1 then aq m (cz l 0) (cD l 0) else -aq m (cz l 0) (cD l 0));{rw [if_pos g,if_pos (decide_eq_true g)]};{rw [if_neg g,if_neg (by rw [decide_eq_false g];exact Qv9)]}};refine ⟨_,rfl,λh V7 l7=>tU.s ?_,λh fy a1=>⟨_,_,_,by rw [a],?_⟩⟩;{rintro r V8 l8 P;have C:=P;obtain ⟨_,_,_,_,_,_,_,_,_,_,_,_,_,_,rfl,-⟩:=P;refine ⟨_,_,_,_,_,_,_,_,_,_,_,_,_,_,_,_,rfl,λV9 l9 Q d=>⟨_,_,_,by rw [a],?_⟩⟩;rw [b,if_pos h];exact bE.gF (V:=V9) d (row_one rfl (C.le l9))};{rw [b,if_neg (by rw [h];exact Qv9)];exact bE.nil}};have R:dotL m l≠0:=λh=>f (by rw [cross_dot,h];grind);have S:=q1 f;have D:=S;obtain ⟨_,_,_,_,_,_,_,_,_,_,_,_,rfl,-⟩:=S;have a:Zo l m=false:=by{unfold Zo;rw [decide_eq_false λh=>f h.1]};refine ⟨_,_,_,_,_,_,_,_,_,_,_,_,_,_,_,rfl,λh=>by simp [f] at h,λ_ fC E=>(uI (bM.le i (s.m E)) (D.le E) nz (sl.up (K:=30000) (by omega)) (s1.s (by omega)) (s2.s (by omega))).s ?_⟩;rintro r gI bW gt;have o:RQ gI r (nt l m):=gt;rw [Bk nz f] at o;clear gt;have p:=o;obtain ⟨_,_,_,_,_,_,rfl⟩:=o.shape;have st:Sz 70000 (cutP m l):=(kj sl sm).s (by omega);have Iu:=s.m (E.m bW);refine qyW ⟨rfl,λiT bP=>(dV 1 (by omega)).s ?_⟩;rintro r lP cN T;have F:=T;obtain ⟨_,_,_,_,_,_,rfl⟩:=T.shape;have G:=bP.m cN;refine qyW ⟨rfl,λjJ t=>(dI (p.le (G.m t)) (F.le t) st jA).s ?_⟩;rintro r kI U gs;have H:=gs;obtain ⟨_,_,_,_,_,_,rfl⟩:=gs.shape;have W:=Iu.m (G.m (t.m U));have I:Sz 80000 (cutP m l+((1:Int):Rat)):=(st.add jA).s (by omega);refine qyW ⟨rfl,λlQ x=>(YR (bM.le i (W.m x)) (H.le x) nz (sl.up (K:=80000) (by omega)) I).s ?_⟩;rintro r mM X Y;have J:=Y;obtain ⟨_,_,_,_,_,_,_,_,_,_,_,_,rfl,-⟩:=Y;have Z:=W.m (x.m X);have sx:=Gv (sl.up (K:=80000) (by omega)) I;have sy:=Gw (sl.up (K:=80000) (by omega)) I;refine qyZ ⟨rfl,λpf y=>(Bu (k:=10000000) (bM.le j (Z.m y)) (J.le y) (sm.up (by omega)) (sx.s (by omega)) (sy.s (by omega))).s ?_⟩;rintro r vG e_ rfl;have a0:=Z.m (y.m e_);have ev:aq m (cz l (cutP m l+((1:Int):Rat))) (cD l (cutP m l+((1:Int):Rat)))=dotL m l:=by{rw [jV];have hi:=Qv8 _ R;unfold cutP;have e1:((1:Int):Rat)=1:=rfl;rw [e1];grind};rw [ev];have Ww:=G.m (t.m (U.m (x.m (X.m (y.m e_)))));have b:halfU l (sideL m k)=if ((dotL m l).num.sign==k)=true then [⟨cutP m l,0,false,true⟩] else [⟨0,cutP m l,true,false⟩]:=by{unfold halfU;rw [if_neg (λh=>f ((side_cross m l k).1 h)),Jd hk,Jh,SJ k R];by_cases g:0<(if k=1 then dotL m l else -dotL m l);{rw [if_pos g,if_pos (decide_eq_true g)]};{rw [if_neg g,if_neg (by rw [decide_eq_false g];exact Qv9)]}};refine ⟨_,rfl,λh qF gQ Q d=>⟨_,_,_,by rw [a],?_⟩,λh tK gR Q d=>⟨_,_,_,by rw [a],?_⟩⟩;{rw [b,if_pos h];exact bE.gF (V:=qF) d (row_one rfl (qyZ ⟨rfl,p.le (Ww.m gQ),Zq _⟩))};{rw [b,if_neg (by rw [h];exact Qv9)];exact bE.gF (V:=tK) d (row_one rfl (qyZ ⟨rfl,Zq _,p.le (Ww.m gR)⟩))}
theorem MP {bk:Nat}{ty:TypeId}{m:Nat×Nat}{s:Sp}(hb:V.bg bk (.cells xs.toArray ty m))(h:mO V (.agg xs.toArray) s):Mb V (some ⟨bk,0,none⟩) 1 [s]:=
 uC (bE.gF hb (row_one (by obtain ⟨_,_,_,_,_,_,_,_,_,_,_,_,_,_,e,-⟩:=uQ h;rw [e];rfl) h))
def rX (V:View)(v:Value)(x:L3×Sp):Prop:=RF V v x.1 x.2
theorem rX.le {V V':ut}{x:L3×Sp}(h:rX V v x)(l:V.Le V'):rX V' v x:=RF.le h l
theorem y_ {m:L3}(h:Zo l m=true)(k:Int):halfU l (sideL m k)=[]:=by have h:crossL l m=0/\aq m (cz l 0) (cD l 0)=0:=of_decide_eq_true h;unfold halfU;rw [if_pos ((side_cross m l k).2 h.1),Ji,h.2];split<;>rw [if_neg (by grind)]
theorem Ui {m:L3}(bl:Bd l)(bm:Bd m)(k:Int):∀s∈halfU l (sideL m k),s.sz 100000:=by have b:Bd (sideL m k):=by{unfold sideL;split;exact bm;exact bm.rev};have st:Sz 100000 (cutP (sideL m k) l):=(kj bl.fF b.fF).s (by omega);have z:=Di 100000;intro s a;unfold halfU at a;split at a;{split at a;{rw [Qq6.1 a];exact ⟨z,z⟩};{cases a}};{split at a;{rw [Qq6.1 a];exact ⟨st,z⟩};{rw [Qq6.1 a];exact ⟨z,st⟩}}
theorem C9 {s:Sp}(hs:s.can)(l m:L3):(combL 2 [s] (halfU l m)).length<=1:=by rcases wC l m with h|⟨u,h,hu⟩;{rw [h,comb_nil];exact Qq4 _};{rw [h,ue hs hu];split;{exact Qq4 _};{exact Qq2 _}}
theorem QI (l m:L3):(halfU l m).length<=1:=by rcases wC l m with h|⟨u,h,hu⟩<;>rw [h];{exact Qq4 _};{exact Qq2 _}
theorem MH {al:pz Sp}(h:bE 8 mO V p n al)(hi:i<al.length) :
  p.isSome=true/\∃(b:md)(p1:OA)(n1 c1:Nat)(p2:OA)(n2 c2:Nat)(d:md)(p3:OA)(n3 c3:Nat)(p4:OA)(n4 c4:Nat)(a:Addr),ae p (i*8)=some a/\V.at (a.add 0) (dQ b)/\V.at (a.add 1) (qD p1 n1 c1)/\V.at (a.add 2) (qD p2 n2 c2)/\V.at (a.add 3) (dQ d)/\V.at (a.add 4) (qD p3 n3 c3)/\V.at (a.add 5) (qD p4 n4 c4)/\V.at (a.add 6) (dQ al[i].a)/\V.at (a.add 7) (dQ al[i].b) /\
   mO V (hF #[dQ b,qD p1 n1 c1,qD p2 n2 c2,dQ d,qD p3 n3 c3,qD p4 n4 c4,dQ al[i].a,dQ al[i].b]) al[i]:=by have ⟨j,f,xs,k,g,c⟩:=h.at_ i hi;have e:=g;obtain ⟨_,_,_,_,_,_,_,_,_,_,_,_,_,_,ex,-,-⟩:=g;have ex:=congrArg Array.toList (Value.agg.inj ex);dsimp only at ex;subst ex;refine ⟨?_,_,_,_,_,_,_,_,_,_,_,_,_,_,_,j,f,c 0 _ rfl,c 1 _ rfl,c 2 _ rfl,c 3 _ rfl,c 4 _ rfl,c 5 _ rfl,c 6 _ rfl,c 7 _ rfl,e⟩;(cases p with|none=>{cases f}|some a=>rfl)
theorem MO {b1:md}{p1:OA}{n1 c1:Nat}{b2:md}{p2:OA}{n2 c2:Nat}{b3:md}{p3:OA}{n3 c3:Nat}{b:md}{q1:OA}{m1 e1:Nat}{q2:OA}{m2 e2:Nat}{d:md}{q3:OA}{m3 e3:Nat}{q4:OA}{m4 e4:Nat}{x y:md} :
  ∀v∈([dQ b1,qD p1 n1 c1,dQ b2,qD p2 n2 c2,dQ b3,qD p3 n3 c3,dQ b,qD q1 m1 e1,qD q2 m2 e2,dQ d,qD q3 m3 e3,qD q4 m4 e4,dQ x,dQ y]:pz un),v.oneCell'=true:=by intro v a;simp only [Qq5,Qx7,or_false] at a;rcases a with rfl|rfl|rfl|rfl|rfl|rfl|rfl|rfl|rfl|rfl|rfl|rfl|rfl|rfl<;>rfl
def yo (l:L3)(s:Sp)(m:L3):List (L3×Sp):=(combL 2 [s] (halfU l m)).map λu=>(l,u)
theorem CZ {w:un}{l m:L3}{s:Sp}(hf:RF V v l s)(hm:bM V w m)(nz:Nz l)(bl:Bd l)(bm:Bd m)(hs:s.can)(ss:s.sz 1000000) :
  aa prog 180 #[v,w] V λr V'=>∃p1 n1 c1 p2 n2 c2,r=dB #[qD p1 n1 c1,qD p2 n2 c2]/\bE 14 rX V' p1 n1 (yo l s m)/\bE 14 rX V' p2 n2 (yo l s (revL m)):=by have x:=hm;obtain ⟨_,_,_,_,_,_,_,_,_,_,_,_,_,_,_,_,_,_,_,_,_,_,_,_,_,_,rfl,G,hS⟩:=hf;obtain ⟨_,_,_,_,_,_,_,_,_,_,_,_,rfl⟩:=bD hm;have s1:sideL m 1=m:=rfl;have s2:sideL m (-1)=revL m:=rfl;have c:=Ui bl bm;have i:=λk=>C9 hs l (sideL m k);have n:=λk=>QI l (sideL m k);refine Cp V _ ⟨λ_=>⟨by decide,λV1 K=>(tW (l:=l) (.inl rfl) (RL.le G K) (bM.le x K) nz bl bm).s ?_⟩,λh=>by cases h⟩;rintro r V2 l2 ⟨q1,n1,c1,rfl,hH⟩;have oh:=K.m l2;refine qvJ ⟨rfl,λp V3 l3=>⟨_,_,_,_,_,_,rfl,?_,?_⟩,λp V4 H TE L=>(oP (op:=2) (la':=[s]) (lb':=halfU l (sideL m 1)) (MP L (hS.le (oh.m H))) (uC (hH.le H λ_ _ g=>mO.le g H)) (by have:=n 1;rw [Qf4];omega) (k:=1000000) (λz d=>Qq6.1 d▸ss) (λz d=>⟨(c 1 z d).1.s (by omega),(c 1 z d).2.s (by omega)⟩) (by omega)).s ?_⟩;{unfold yo;rw [←s1,y_ p,comb_nil];exact bE.nil};{unfold yo;rw [←s2,y_ p,comb_nil];exact bE.nil};rintro r V5 l5 ⟨p4,n4,c4,rfl,I⟩;have Uv:=oh.m (H.m l5);have I:=I.lst;have la:=i 1;have a5:=I.len;generalize hA:combL 2 [s] (halfU l (sideL m 1))=A at *;refine ⟨_,_,_,rfl,λ_=>⟨λz V'=>∃j:Nat,z.1=(j:Int)/\j<=A.length/\z.2.2.2.1=0/\z.2.2.2.2.1=0/\z.2.2.2.2.2.2=[]/\GR 14 rX V' z.2.1 z.2.2.1 z.2.2.2.2.2.1 ((A.take j).map λu=>(l,u)),λz=>A.length-z.1.toNat,⟨(0,0,0,0,0,[],[]),by and_intros<;>rfl,0,rfl,Qq4 _,rfl,rfl,rfl,GR.nil⟩,?_⟩⟩;rintro ⟨zi,x1,x2,x3,x4,xs,ys⟩ V6 M ⟨j,y,uw,e3,e4,e5,q⟩;dsimp only at y e3 e4 e5 q ⊢;subst y e3 e4 e5;have C:=Uv.m M;refine ⟨by trivial,λb=>?_,λb=>⟨λ_=>⟨by decide,λV7 N=>(tW (l:=l) (.inr rfl) (RL.le G (C.m N)) (bM.le x (C.m N)) nz bl bm).s ?_⟩,λh=>by cases h⟩⟩;{have b:(j:Int)<n4:=of_decide_eq_true b;have t:j<A.length:=by{omega};have wr:i64.wrap ((j:Int)+1)=((j+1:Nat):Int):=by{rw [aw (by omega)];rfl};rw [wr,Qq0];obtain ⟨is,_,_,_,_,_,_,_,_,_,_,_,_,_,_,O,P,Q,R,S,T,U,W,X,Y,gs⟩:=MH (I.le M λ_ _ g=>mO.le g M) t;have Z:A.take (j+1)=A.take j++[A[j]]:=(Qg7 t).symm;have lx:=q.len;rw [Qy5,Qq7] at lx;generalize A[j]=u at *;refine ⟨is,⟨by omega,by omega⟩,_,_,_,_,_,_,_,_,_,_,_,_,_,_,_,_,O,P,Q,R,S,T,U,W,X,Y,by decide,by omega,q.le,q.cap,rfl,MO,λsp c' k1 k2=>⟨by decide,(((j+1:Nat):Int),x1+1,c',0,0,_,[]),by dsimp only;omega,by and_intros<;>rfl,j+1,rfl,t,rfl,rfl,rfl,?_⟩⟩;rw [Z,Qh6];exact q.snoc (a:=(l,u)) rfl ⟨_,_,_,_,_,_,_,_,_,_,_,_,_,_,_,_,_,_,_,_,_,_,_,_,_,_,rfl,RL.le G C,gs⟩ (by decide) k1 k2};have b:¬(j:Int)<n4:=of_decide_eq_false b;obtain rfl:j=A.length:=by{omega};rw [Qy2] at q;rintro r V8 l8 ⟨q2,n2,c2,rfl,a1⟩;have Rb:=N.m l8;refine qvJ ⟨rfl,λp V9 l9=>⟨_,_,_,_,_,_,rfl,?_,?_⟩,λp fy e TD D=>(oP (op:=2) (la':=[s]) (lb':=halfU l (sideL m (-1))) (MP D (hS.le (C.m (Rb.m e)))) (uC (a1.le e λ_ _ g=>mO.le g e)) (by have:=n (-1);rw [Qf4];omega) (k:=1000000) (λz d=>Qq6.1 d▸ss) (λz d=>⟨(c (-1) z d).1.s (by omega),(c (-1) z d).2.s (by omega)⟩) (by omega)).s ?_⟩;{unfold yo;rw [←s1,y_ p,comb_nil];exact bE.nil};{unfold yo;rw [←s2,y_ p,comb_nil];exact bE.nil};rintro r fC bo ⟨a6,E,a7,rfl,J⟩;have J:=J.lst;have lb:=i (-1);have a4:=J.len;generalize hB:combL 2 [s] (halfU l (sideL m (-1)))=B at *;have o:=Rb.m (e.m bo);refine ⟨_,_,_,rfl,λ_=>⟨λz V'=>∃j:Nat,z.1=(j:Int)/\j<=B.length/\GR 14 rX V' z.2.1 z.2.2.1 z.2.2.2.2.2.1 (A.map λu=>(l,u))/\GR 14 rX V' z.2.2.2.1 z.2.2.2.2.1 z.2.2.2.2.2.2 ((B.take j).map λu=>(l,u)),λz=>B.length-z.1.toNat,⟨(0,x1,x2,0,0,xs,[]),by and_intros<;>rfl,0,rfl,Qq4 _,q.s λ_ _ g=>rX.le g o,GR.nil⟩,?_⟩⟩;rintro ⟨zi,y1,y2,y3,y4,us,ws⟩ gI bW ⟨j,y,uw,F,f⟩;dsimp only at y F f ⊢;subst y;have Iu:=C.m (o.m bW);refine ⟨by trivial,λb=>?_,λb=>⟨(λh=>by cases h),λ_=>⟨by decide,by decide,λiT bP a8 a9 a2 a3=>?_⟩⟩⟩;{have b:(j:Int)<E:=of_decide_eq_true b;have t:j<B.length:=by{omega};have wr:i64.wrap ((j:Int)+1)=((j+1:Nat):Int):=by{rw [aw (by omega)];rfl};rw [wr,Qq0];obtain ⟨is,_,_,_,_,_,_,_,_,_,_,_,_,_,_,O,P,Q,R,S,T,U,W,X,Y,gs⟩:=MH (J.le bW λ_ _ g=>mO.le g bW) t;have Z:B.take (j+1)=B.take j++[B[j]]:=(Qg7 t).symm;have lx:=f.len;rw [Qy5,Qq7] at lx;generalize B[j]=u at *;refine ⟨is,⟨by omega,by omega⟩,_,_,_,_,_,_,_,_,_,_,_,_,_,_,_,_,O,P,Q,R,S,T,U,W,X,Y,by decide,by omega,f.le,f.cap,rfl,MO,λsp c' k1 k2=>⟨by decide,(((j+1:Nat):Int),y1,y2,y3+1,c',us,_),by dsimp only;omega,by and_intros<;>rfl,j+1,rfl,t,F,?_⟩⟩;rw [Z,Qh6];exact f.snoc (a:=(l,u)) rfl ⟨_,_,_,_,_,_,_,_,_,_,_,_,_,_,_,_,_,_,_,_,_,_,_,_,_,_,rfl,RL.le G Iu,gs⟩ (by decide) k1 k2};{have b:¬(j:Int)<E:=of_decide_eq_false b;obtain rfl:j=B.length:=by{omega};rw [Qy2] at f;have e1:=F.len;have e2:=f.len;have f1:=F.le;have f2:=f.le;have g1:yo l s m=A.map λu=>(l,u):=by{unfold yo;rw [←hA];rfl};have g2:yo l s (revL m)=B.map λu=>(l,u):=by{unfold yo;rw [←hB];rfl};rw [g1,g2];subst e1 e2;exact qyQ ⟨rfl,bE.bJ a2 (F.row.le λ_ _ g=>rX.le g bP) (by decide) f1,bE.bJ a3 (f.row.le λ_ _ g=>rX.le g bP) (by decide) f2⟩}
def Nu (l:List Rat):List Rat:=l.foldl (λo x=>cZ x o) []
theorem Nv (l:pz Rat):asc (Nu l)/\∀x,x∈Nu l↔x∈l:=by
 have:∀(l o:pz Rat),asc o->asc (l.foldl (λo x=>cZ x o) o)/\∀x,x∈l.foldl (λo x=>cZ x o) o↔x∈o\/x∈l:=by
  intro l
  induction l<;>grind [AE,pQ]
 have ⟨a,b⟩:=this l [] List.Pairwise.nil;grind [Nu]
theorem Og {m:L3}:∀u∈halfU l m,u.good:=λu hu=>by
 unfold halfU at hu;split at hu
 ·grind [fl]
 ·split at hu
  ·rw [Qq6.1 hu];exact ⟨⟨(λh=>by cases h),λ_=>rfl⟩,rfl⟩
  ·rw [Qq6.1 hu];exact ⟨⟨λ_=>rfl,(λh=>by cases h)⟩,rfl⟩
theorem R3 (l m:L3):combL 2 [fullSp] (halfU l m)=halfU l m:=by grind [wC,comb_nil,Bg,Og]
theorem SL {m:L3}{s:Sp}(hs:s.good):yo l s m=oR l s m:=by have h:=OZ (l:=l) (m:=m) hs;rw [R3] at h;unfold yo oR;rw [h];split<;>rfl
theorem YV {ws:pz un}{m:pz (L3×Sp)}(h:Row 17 oW V ws m)(hi:i<m.length) :
  ∃(x1 x2:Int)(p:OA)(y1 y2:Int)(q:OA)(z1 z2:Int)(r:OA)(u1 u2:Int)(t:OA)(w1 w2:Int)(o:OA),((i*17+0)+9<=ws.length/\(ws.drop (i*17+0)).take 9=[qvZ .i64 x1,qvZ .i64 x2,dZ p,qvZ .i64 y1,qvZ .i64 y2,dZ q,qvZ .i64 z1,qvZ .i64 z2,dZ r]) /\
   ((i*17+9)+8<=ws.length/\(ws.drop (i*17+9)).take 8=[qvZ .i64 u1,qvZ .i64 u2,dZ t,qvZ .i64 w1,qvZ .i64 w2,dZ o,dQ m[i].2.a,dQ m[i].2.b]) /\
   qE V (hF #[qvZ .i64 x1,qvZ .i64 x2,dZ p,qvZ .i64 y1,qvZ .i64 y2,dZ q,qvZ .i64 z1,qvZ .i64 z2,dZ r]) m[i].1/\eM V (hF #[qvZ .i64 u1,qvZ .i64 u2,dZ t,qvZ .i64 w1,qvZ .i64 w2,dZ o,dQ m[i].2.a,dQ m[i].2.b]) m[i].2:=by obtain ⟨xs,-,c,k,f⟩:=h.get (d:=dCF) hi (by decide);have e:m.getD i dCF=m[i]:=by{rw [Qx3,Qq1 hi];rfl};rw [e] at c;obtain ⟨_,_,_,_,_,_,_,_,_,_,_,_,_,_,_,ex,g,j⟩:=c;have ex:=congrArg Array.toList (Value.agg.inj ex);subst ex;refine ⟨_,_,_,_,_,_,_,_,_,_,_,_,_,_,_,⟨by omega,?_⟩,⟨by omega,?_⟩,g,j⟩;{have:=congrArg (List.take 9) f;rw [Wk1] at this;exact this};{have:=congrArg (List.drop 9) f;rw [List.drop_take,Qh3] at this;exact this}
theorem Vc {V:ut}{x:Sp}(h:eM V (.agg xs.toArray) x):∀v∈xs,v.oneCell'=true:=by obtain ⟨_,_,_,_,_,_,ex,-,-⟩:=h;have ex:=congrArg Array.toList (Value.agg.inj ex);subst ex;intro v a;simp only [Qq5,Qx7,or_false] at a;rcases a with rfl|rfl|rfl|rfl|rfl|rfl|rfl|rfl<;>rfl
theorem Va {fs:pz (L3×Sp)}(h:bE 17 oW V p n fs):Pu V p n fs:=⟨h.len,λi a=>by
 obtain ⟨b,c,xs,-,d,e⟩:=h.at_ i a;exact ⟨b,c,xs,d,e⟩⟩
theorem PD (l:pz Rat):(Nu l).length<=l.length:=by
 have:∀(l o:pz Rat),(l.foldl (λo x=>cZ x o) o).length<=o.length+l.length:=by
  intro l
  induction l with
  | nil=>exact λo=>Qq2 _
  | cons y r ih=>intro o;have a:=ih (cZ y o);have b:=@lk y o;rw [Qm5,Qw6];omega
 have:=this l [];simpa [Nu] using this
theorem oN {l:pz Nd}(hb:∀x∈l,Bd x.ln)(h:AT V v root l)(hy:rY V 0 y)(hz:rY V 1 z) :
  aa prog 38 #[v] V λr V'=>(Bf l root=none->r=dB #[dZ none,y])/\∀t,Bf l root=some t->t.depth<=1024->∃q,r=dB #[dZ q,.nilIface]/\RT V' q t:=by
 have s:=h;obtain ⟨q,n,c,rfl,-⟩:=h;refine wP V _ λC i=>(NJ hb (s.le i)).s ?_;rintro r V2 u ⟨a,rfl,j⟩;have m:=i.m u;refine ⟨_,_,rfl,λg=>⟨y,⟨_,rfl,hy.le m⟩,λD E=>?_⟩,λg F o=>?_⟩
 ·have g:Bf l root=none:=by cases e:Bf l root with
   | none=>rfl
   | some t=>rw [e] at g;cases g
  exact ⟨λ_=>rfl,λt b=>by rw [g] at b;cases b⟩
 ·(cases e:Bf l root with|none=>{rw [e] at g;cases g}|some t=>{have G:=RU e;refine (pD t ((j t e).le o) (by omega)).s ?_;rintro r H w rfl;have p:=o.m w;refine ⟨_,rfl,λd=>⟨z,⟨_,rfl,hz.le (m.m p)⟩,λI J=>⟨(λk=>by cases k),λA b f=>?_⟩⟩,λd K B=>⟨(λk=>by cases k),λA b f=>?_⟩⟩;{cases b;have d:=of_decide_eq_true d;omega};{cases b;exact ⟨_,rfl,(j t e).le (p.m B)⟩}})
theorem Xw {S:pz L3}{t:Tr}{L:L3}(bl:Bd L)(ht:t.dT λl=>Bd l/\l∈S)(hs:S.length<=30)(hb:∀l∈S,Bd l):LZ L (Nu (S.map λm=>cutP m L)) t:=by have ⟨b,a⟩:=Nv (S.map λm=>cutP m L);refine ⟨(Qi (ht.imp λ_ h=>h.2)).imp λm h c=>(a _).2 (h c),b,?_,λx d=>?_⟩;{have:=PD (S.map λm=>cutP m L);rw [Qy5] at this;omega};{obtain ⟨m,hm,rfl⟩:=Qz1.1 ((a x).1 d);exact (kj bl.fF (hb m hm).fF).s (by omega)}
theorem zS {t:Tr}{P:pz Rat}(hc:LZ L P t):vJ (tL L t)/\(∀s∈tL L t,s.sz 1000000)/\(tL L t).length<=61:=by have r:vJ (tL L t):=comb_reg _ _ _;refine ⟨r,Am hc.sz λs a=>⟨r.1 s a,YK hc.crs s a⟩,?_⟩;have:=HQ 3 (nh L true t) (nh L false t);obtain ⟨-,-,f1,-⟩:=ux hc true;obtain ⟨-,-,f2,-⟩:=ux hc false;show (combL 3 (nh L true t) (nh L false t)).length<=61;omega
theorem CN {w:un}{l:pz Nd}(hb:∀x∈l,Bd x.ln)(h:AT V v root l){t:Tr}(ht:Bf l root=some t)(hd:t.depth<=1024)(ha:t.dT Bd)(hl:RL V w L.1 L.2.1 L.2.2)(ok:cW L=true)(bl:Bd L){P:pz Rat}(hc:LZ L P t)(so:∀i,i<=60->ph i)(hy:rY V 0 y)(hz:rY V 1 z) :
  aa prog 11 #[v,w] V λr V'=>∃p n c,r=dB #[qD p n c,.nilIface]/\bE 8 xU V' p n (tL L t):=by have D:=h;have b:=hl;obtain ⟨q,n,c,rfl,-⟩:=h;obtain ⟨_,_,_,_,_,_,_,_,_,_,_,_,rfl⟩:=tN hl;refine BT V _ λO f=>(NC (b.le f) ok bl.fF).s ?_;rintro r V2 E ⟨u,rfl,j⟩;have d:=j;obtain ⟨_,_,_,_,_,_,_,_,_,rfl,-,-,-⟩:=j;have e:=f.m E;refine ⟨_,_,_,_,_,_,_,_,_,_,rfl,(λh=>nomatch h),λ_ Q a=>(oN hb (D.le (e.m a)) (hy.le (e.m a)) (hz.le (e.m a))).s ?_⟩;rintro r R F ⟨-,g⟩;obtain ⟨p,rfl,gt⟩:=g t ht hd;refine ⟨p,.nilIface,rfl,.inl rfl,(λh=>nomatch h),λ_ S m=>(Hy (gt.le m) ha (d.le (a.m (F.m m))) bl hc so).s ?_⟩;rintro r T U ⟨G,H,I,rfl,J⟩;have ⟨W,s1,K⟩:=zS hc;refine ⟨G,H,I,rfl,λX o=>(NG (J.le o λ_ _ k=>eM.le k o) (by omega) s1).s ?_⟩;rintro r Y M ⟨s,A,B,rfl,N⟩;exact ⟨s,A,B,rfl,λZ C=>⟨s,A,B,rfl,N.le C λ_ _ k=>xU.le k C⟩⟩
def xo (t:Tr)(L:L3):List (L3×Sp):=(tL L t).map λs=>(L,s)
def Mt (t:Tr)(D:List L3):List (L3×Sp):=D.flatMap λl=>xo t l++xo t (revL l)
theorem El:combL 1 [bF] []=[bF]:=by refine reg_eq (endsL ([bF]++[])) (comb_reg ..) ⟨λs h=>by rw [Qq6.1 h];exact kZ,Qd3 _ _⟩ λt a=>?_;rw [comb_inB 1 _ _ a];simp [opB,inB]
def E9 (fs F:List (L3×Sp)):Prop:=∀{V:View} {p:OA} {n c:Nat},bE 17 oW V p n fs->(fs=[]->p=none)->aa prog 64 #[.slice p n c] V λr V'=>∃q m e,r=.slice q m e/\bE 17 oW V' q m F
def Tu (V:View)(n c:Nat)(vs:List Value)(l:List (L3×Sp)):Prop:=GR 17 oW V n c vs l/\(l=[]->c=0)
theorem Tu.le {V V':ut}{l:pz (L3×Sp)}(h:Tu V n c vs l)(g:V.Le V'):Tu V' n c vs l:=⟨h.1.s λ_ _ k=>G8.le k g,h.2⟩
set_option maxHeartbeats 4000000 in
theorem zV {q:OA}{t:Tr}(h:RT V q t)(ha:t.dT Bd)(hs:t.size<4000)(hD:(bV t.gS).length<=50)(hc:∀l∈bV t.gS,∃P P',LZ l P t/\LZ (revL l) P' t)(so:∀i,i<=60->ph i)(sl:E_ t.gS.length)(cl:Hd t.gS.length){F:pz (L3×Sp)}(hJ:E9 (Mt t (bV t.gS)) F) :
  aa prog 56 #[dZ q] V λr V'=>∃p n c,r=qD p n c/\bE 17 oW V' p n F:=by
 refine vq V _ λV1 l1=>(Hx (h.le l1) ha hs sl cl).s ?_;rintro r V2 l2 ⟨p,n,c,m,rfl,gD,sD⟩;rw [Rk sD] at gD;have b5:=hD;generalize bV t.gS=D at *;obtain rfl:=gD.len;have oh:=l1.m l2
 have G9:∀l∈D,(xo t l).length<=61/\(xo t (revL l)).length<=61:=λl R=>by have ⟨P,P',c1,c2⟩:=hc l R;unfold xo;rw [Qy5,Qy5];exact ⟨(zS c1).2.2,(zS c2).2.2⟩
 have M:∀j,(Mt t (D.take j)).length<=122*50:=λj=>by
  have:∀E:pz L3,(∀l∈E,l∈D)->(Mt t E).length<=122*E.length:=λE hE=>by
   induction E with
   | nil=>exact Qq2 _
   | cons l E ih=>
    have h1:=ih λx hx=>hE x (Qq8 _ hx);have ⟨f1,f2⟩:=G9 l (hE l (Qw5 ..));unfold Mt at *;rw [Qy0,Qq3,Qq3,Qw6];omega
  have h1:=this (D.take j) λl R=>Qt9 _ _ R;rw [Qq7] at h1;omega
 refine ⟨p,_,c,rfl,λz V'=>∃j:Nat,z.2.2.2=(j:Int)/\j<=D.length/\Tu V' z.1 z.2.1 z.2.2.1 (Mt t (D.take j)),λz=>D.length-z.2.2.2.toNat,⟨(0,0,[],0),by and_intros<;>rfl,0,rfl,Qq4 _,GR.nil,λ_=>rfl⟩,?_⟩;rintro ⟨z1,z2,vs,z4⟩ V3 l3 ⟨j,N,uw,O⟩;dsimp only at N O;subst N;dsimp only;rw [Qq0];have xA:=oh.m l3;refine ⟨rfl,λA=>?_,λA fy b0 bk hb=>?_⟩;rotate_left
 ·have A:¬(j:Int)<D.length:=of_decide_eq_false A;obtain rfl:j=D.length:=by{omega};rw [Qy2] at O;obtain ⟨O,h0⟩:=O;obtain rfl:=O.len;refine (hJ (bE.bJ hb (O.row.le λ_ _ g=>G8.le g b0) (by decide) O.le) λe=>by rw [h0 e];rfl).s ?_;rintro r fC bo ⟨q',m',e',rfl,g⟩;exact ⟨q',m',e',rfl,λ_ gI bW=>⟨q',m',e',rfl,g.le bW λ_ _ g=>G8.le g bW⟩⟩
 have A:(j:Int)<D.length:=of_decide_eq_true A;have hi:j<D.length:=by omega
 have w:i64.wrap ((j:Int)+1)=((j+1:Nat):Int):=by rw [aw (by omega)];rfl
 rw [w];have ⟨ps,S,T,U,W,X,Y,v,y,Z,a,b1,a0,a1,a2,a3,a4,a5,a6,a7,a8,gl⟩:=UC (gD.le l3 λ_ _ k=>nI.le k l3) hi;have R:=Qq9 hi
 have et:Mt t (D.take (j+1))=Mt t (D.take j)++(xo t D[j]++xo t (revL D[j])):=by unfold Mt;rw [Qz0,Qq1 hi];show List.flatMap _ (_++[D[j]])=_;rw [Qc1,Qy0,Wz0,Qx2]
 have ⟨P,P',c1,c2⟩:=hc _ R;have ⟨f1,f2⟩:=G9 _ R;have fj:=M j;have b2:=M (j+1);rw [et] at b2;generalize D[j]=L at *;obtain ⟨gl,bl⟩:=gl;have gl:qE V3 _ L:=gl;refine ⟨ps,⟨by omega,by omega⟩,S,T,U,W,X,Y,v,y,Z,a,b1,a0,a1,a2,a3,a4,a5,a6,a7,a8,λV4 l4=>(kv (gl.le l4) bl.fF).s ?_⟩;rintro r V5 l5 gr;have xu:qE V5 r (revL L):=gr;obtain ⟨s1,s2,s3,s4,s5,s6,s7,s8,s9,rfl,-,-,-⟩:=gr;have zk:=l4.m l5
 refine ⟨s1,s2,s3,s4,s5,s6,s7,s8,s9,rfl,λz V'=>∃i:Nat,z.2.2.2.1=(i:Int)/\i<=2/\z.2.2.2.2=[qvZ .i64 S,qvZ .i64 T,dZ U,qvZ .i64 W,qvZ .i64 X,dZ Y,qvZ .i64 v,qvZ .i64 y,dZ Z,qvZ .i64 s1,qvZ .i64 s2,dZ s3,qvZ .i64 s4,qvZ .i64 s5,dZ s6,qvZ .i64 s7,qvZ .i64 s8,dZ s9]/\V5.Le V'/\Tu V' z.1 z.2.1 z.2.2.1 (Mt t (D.take j)++([L,revL L].take i).flatMap (xo t)),λz=>2-z.2.2.2.1.toNat,
  ⟨(z1,z2,vs,0,_),by and_intros<;>rfl,0,rfl,by omega,rfl,View.Le.refl _,by show Tu V5 z1 z2 vs (_++[]);rw [Qx2];exact O.le zk⟩,?_⟩
 rintro ⟨u1,u2,us,u4,lits⟩ V6 l6 ⟨i,N,Pl,e5,Oq,K⟩;dsimp only at N e5 K;subst N e5;dsimp only;rw [Qq0];refine ⟨rfl,λf=>?_,λf=>?_⟩;rotate_left
 ·have f:¬(i:Int)<2:=of_decide_eq_false f;obtain rfl:i=2:=by{omega};have e:([L,revL L].take 2).flatMap (xo t)=xo t L++xo t (revL L):=by{show xo t L++(xo t (revL L)++[])=_;rw [Qx2]};rw [e,←et] at K;exact ⟨(u1,u2,us,((j+1:Nat):Int)),by dsimp only;omega,by and_intros<;>rfl,j+1,rfl,hi,K⟩
 have f:(i:Int)<2:=of_decide_eq_true f;have wi:i64.wrap ((i:Int)+1)=((i+1:Nat):Int):=by rw [aw (by omega)];rfl
 have b3:∃(Y3 Tt:Int)(B:OA)(C G:Int)(H:OA)(Tb Tc:Int)(I:OA)(d:L3),((0+i*9)+9<=([qvZ .i64 S,qvZ .i64 T,dZ U,qvZ .i64 W,qvZ .i64 X,dZ Y,qvZ .i64 v,qvZ .i64 y,dZ Z,qvZ .i64 s1,qvZ .i64 s2,dZ s3,qvZ .i64 s4,qvZ .i64 s5,dZ s6,qvZ .i64 s7,qvZ .i64 s8,dZ s9]:pz un).length/\(([qvZ .i64 S,qvZ .i64 T,dZ U,qvZ .i64 W,qvZ .i64 X,dZ Y,qvZ .i64 v,qvZ .i64 y,dZ Z,qvZ .i64 s1,qvZ .i64 s2,dZ s3,qvZ .i64 s4,qvZ .i64 s5,dZ s6,qvZ .i64 s7,qvZ .i64 s8,dZ s9]:pz un).drop (0+i*9)).take 9=[qvZ .i64 Y3,qvZ .i64 Tt,dZ B,qvZ .i64 C,qvZ .i64 G,dZ H,qvZ .i64 Tb,qvZ .i64 Tc,dZ I]) /\
   qE V6 (hF #[qvZ .i64 Y3,qvZ .i64 Tt,dZ B,qvZ .i64 C,qvZ .i64 G,dZ H,qvZ .i64 Tb,qvZ .i64 Tc,dZ I]) d/\Bd d/\(∃P,LZ d P t)/\([L,revL L].take (i+1)).flatMap (xo t)=([L,revL L].take i).flatMap (xo t)++xo t d/\(([L,revL L].take i).flatMap (xo t)).length<=61:=by
  rcases (show i=0\/i=1 by omega) with rfl|rfl
  ·exact ⟨S,T,U,W,X,Y,v,y,Z,L,⟨by show 0+0*9+9<=18;omega,rfl⟩,gl.le (zk.m Oq),bl,⟨P,c1⟩,by show xo t L++[]=[]++xo t L;rw [Qx2];rfl,Qq4 _⟩
  ·exact ⟨s1,s2,s3,s4,s5,s6,s7,s8,s9,revL L,⟨by show 0+1*9+9<=18;omega,rfl⟩,xu.le Oq,bl.rev,⟨P',c2⟩,by show xo t L++(xo t (revL L)++[])=(xo t L++[])++xo t (revL L);rw [Qx2,Qx2],by show (xo t L++[]).length<=61;rw [Qx2];exact f1⟩
 obtain ⟨Y3,Tt,B,C,G,H,Tb,Tc,I,d,a9,gL,bL,⟨PL,cL⟩,eT,fT⟩:=b3;have zg:=xA.m (zk.m Oq);refine ⟨⟨by omega,by omega⟩,Y3,Tt,B,C,G,H,Tb,Tc,I,a9,λV7 l7=>(Hy (h.le (zg.m l7)) ha (gL.le l7) bL cL so).s ?_⟩;rintro r V8 l8 ⟨p8,n8,c8,rfl,g8⟩;obtain rfl:=g8.len;have Rb:=l7.m l8;have b6:=(zS cL).2.2
 refine ⟨p8,_,c8,rfl,λz V'=>∃k:Nat,z.2.2.2.1=(k:Int)/\k<=(tL d t).length/\z.2.2.2.2=[qvZ .i64 S,qvZ .i64 T,dZ U,qvZ .i64 W,qvZ .i64 X,dZ Y,qvZ .i64 v,qvZ .i64 y,dZ Z,qvZ .i64 s1,qvZ .i64 s2,dZ s3,qvZ .i64 s4,qvZ .i64 s5,dZ s6,qvZ .i64 s7,qvZ .i64 s8,dZ s9]/\V8.Le V'/\Tu V' z.1 z.2.1 z.2.2.1 ((Mt t (D.take j)++([L,revL L].take i).flatMap (xo t))++((tL d t).take k).map λs=>(d,s)),λz=>(tL d t).length-z.2.2.2.1.toNat,
  ⟨(u1,u2,us,0,_),by and_intros<;>rfl,0,rfl,Qq4 _,rfl,View.Le.refl _,by show Tu V8 u1 u2 us (_++[]);rw [Qx2];exact K.le Rb⟩,?_⟩
 rintro ⟨w1,w2,ws,w4,lits⟩ V9 l9 ⟨k,N,b7,e5,J,Q⟩;dsimp only at N e5 Q;subst N e5;dsimp only;rw [Qq0];refine ⟨rfl,λo=>?_,λo=>?_⟩;rotate_left
 ·have o:¬(k:Int)<(tL d t).length:=of_decide_eq_false o;obtain rfl:k=(tL d t).length:=by omega
  rw [Qy2] at Q;refine ⟨(w1,w2,ws,((i+1:Nat):Int),_),by dsimp only;omega,by and_intros<;>first|rfl|exact wi,i+1,rfl,by omega,rfl,Oq.m (Rb.m J),?_⟩;show Tu V9 w1 w2 ws _;rw [eT,←Qy3];exact Q
 have o:(k:Int)<(tL d t).length:=of_decide_eq_true o;have hk:k<(tL d t).length:=by omega
 have wk:i64.wrap ((k:Int)+1)=((k+1:Nat):Int):=by rw [aw (by omega)];rfl
 obtain ⟨ad,hd,xs,-,hq,u⟩:=(g8.le J λ_ _ g=>eM.le g J).at_ k hk;have b4:=hq;obtain ⟨v1,v2,v3,v4,v5,v6,ex,-,-⟩:=hq;have ex:=congrArg Array.toList (Value.agg.inj ex);dsimp only at ex;subst ex;have zl:=Q.1.len;rw [Qq3,Qq3,Qy5,Qq7] at zl
 have ek:(((tL d t).take (k+1)).map λs=>(d,s))=(((tL d t).take k).map λs=>(d,s))++[(d,(tL d t)[k])]:=by rw [Qz0,Qq1 hk,Qh6];rfl
 have rf:oW V9 (hF #[qvZ .i64 Y3,qvZ .i64 Tt,dZ B,qvZ .i64 C,qvZ .i64 G,dZ H,qvZ .i64 Tb,qvZ .i64 Tc,dZ I,qvZ .i64 v1,qvZ .i64 v2,dZ v3,qvZ .i64 v4,qvZ .i64 v5,dZ v6,dQ (tL d t)[k].a,dQ (tL d t)[k].b]) (d,(tL d t)[k]):=⟨_,_,_,_,_,_,_,_,_,_,_,_,_,_,_,rfl,gL.le (Rb.m J),b4⟩;refine ⟨aF hd,⟨by omega,by omega⟩,v1,v2,v3,v4,v5,v6,_,_,ad,hd,u 0 _ rfl,u 1 _ rfl,u 2 _ rfl,u 3 _ rfl,u 4 _ rfl,u 5 _ rfl,u 6 _ rfl,u 7 _ rfl,by omega,Q.1.le,Q.1.cap,rfl,one17,λsp c' h1 h2=>⟨(w1+1,c',_,((k+1:Nat):Int),_),by dsimp only;omega,by and_intros<;>first|rfl|exact wk,k+1,rfl,hk,rfl,J,?_,λe=>?_⟩⟩
 ·show GR 17 oW V9 _ _ _ _;rw [ek,←Qy3];exact Q.1.snoc rfl rf (by decide) h1 h2
 ·rw [ek,←Qy3] at e;simp at e
theorem pC {l:pz Nd}(hb:∀x∈l,Bd x.ln)(h:AT V v root l){t:Tr}(ht:Bf l root=some t)(hd:t.depth<=1024)(ha:t.dT Bd)(hs:t.size<4000)(hD:(bV t.gS).length<=50)(hc:∀l∈bV t.gS,∃P P',LZ l P t/\LZ (revL l) P' t)(so:∀i,i<=60->ph i)(sl:E_ t.gS.length)(cl:Hd t.gS.length){F:pz (L3×Sp)}(hJ:E9 (Mt t (bV t.gS)) F)(G9:F.length<=1000)(sz:∀f∈F,kH 1000000 f.1/\f.2.sz 1000000)(hy:rY V 0 y)(hz:rY V 1 z) :
  aa prog 18 #[v] V λr V'=>∃p n c,r=dB #[qD p n c,.nilIface]/\J_ V' p n F:=by have k:=h;obtain ⟨q,n,c,rfl,-⟩:=h;refine oZ V _ λC a=>(oN hb (k.le a) (hy.le a) (hz.le a)).s ?_;rintro r V2 D ⟨-,g⟩;obtain ⟨p,rfl,gt⟩:=g t ht hd;refine ⟨p,.nilIface,rfl,.inl rfl,(λh=>nomatch h),λ_ E m=>(zV (gt.le m) ha hs hD hc so sl cl hJ).s ?_⟩;rintro r G H ⟨o,s,u,rfl,w⟩;refine ⟨o,s,u,rfl,λI b=>(Ki (Va (w.le b λ_ _ g=>G8.le g b)) G9 sz).s ?_⟩;rintro r J K ⟨d,e,j,rfl,A⟩;exact ⟨d,e,j,rfl,λL B=>⟨d,e,j,rfl,A.le B⟩⟩
def xM:Tr:=.node LL (.leaf true) (.leaf false)
theorem GA:xM.dT kF:=⟨⟨Zw,Pt⟩,trivial,trivial⟩
theorem VU:tL LL xM=[bF]/\tL (revL LL) xM=[]:=by have b:combL 1 [] []=[]:=reg_eq (endsL ([]++[])) (comb_reg ..) ⟨λs h=>(by cases h),List.Pairwise.nil⟩ λt a=>by{rw [comb_inB 1 _ _ a];simp [opB,inB]};have c:a_ LL true xM bF=[bF]:=by{unfold xM;rw [a_,if_pos (.inl ⟨rfl,rfl⟩)];rfl};have d:a_ LL false xM bF=[]:=by{unfold xM;rw [a_,if_neg (by decide),if_pos (.inl rfl)];rfl};have e:a_ (revL LL) true xM bF=[]:=by{unfold xM;rw [a_,if_neg (by decide),if_pos (.inr (by decide))];rfl};have f:a_ (revL LL) false xM bF=[bF]:=by{unfold xM;rw [a_,if_pos (.inr ⟨by decide,rfl⟩)];rfl};unfold tL;rw [c,d,e,f,b,El];refine ⟨?_,?_⟩;{refine reg_eq (endsL ([bF]++[])) (comb_reg ..) ⟨λs h=>by rw [Qq6.1 h];exact kZ,Qd3 _ _⟩ λt a=>?_;rw [comb_inB 3 _ _ a];simp [opB,inB]};{refine reg_eq (endsL ([]++[bF])) (comb_reg ..) ⟨λs h=>(by cases h),List.Pairwise.nil⟩ λt a=>?_;rw [comb_inB 3 _ _ a];simp [opB,inB]}
theorem Qg (h:dotL LL L=0):LZ L [] xM:=⟨⟨λg=>absurd h g,trivial,trivial⟩,List.Pairwise.nil,by simp,λx h=>by cases h⟩
theorem fr_HP:Mt xM (bV xM.gS)=[(LL,bF)]:=by have e:bV xM.gS=[LL]:=by{decide +kernel};rw [e];unfold Mt xo;rw [Qy0,VU.1,VU.2];rfl
set_option maxHeartbeats 1000000 in
theorem NM (hj:E9 [(LL,bF)] [(LL,bF)])(cl:Hd 1)(hy:rY V 0 y)(hz:rY V 1 z):aa prog 14 #[] V λr V'=>r=dQ true:=by refine Cb V _ λV1 X=>(dJ 0 0 (by omega) (by omega) (by omega)).s ?_;rintro r V2 Y K;have A:=K;obtain ⟨_,_,_,_,_,_,_,_,_,_,_,_,rfl,-⟩:=K;refine qyZ ⟨rfl,λV3 L=>(dJ 1 0 (by omega) (by omega) (by omega)).s ?_⟩;rintro r V4 M N;have B:=N;obtain ⟨_,_,_,_,_,_,_,_,_,_,_,_,rfl,-⟩:=N;refine qyZ ⟨rfl,λV5 C=>(Fz (A.le (L.m (M.m C))) (B.le C)).s ?_⟩;rintro r Z l6 ⟨l,rfl,j⟩;obtain ⟨b1,u1,v1,w1,b2,u2,v2,w2,b3,u3,v3,w3,rfl⟩:=tN j;have zg:=X.m (Y.m (L.m (M.m (C.m l6))));refine ⟨_,_,_,_,_,_,_,_,_,_,_,_,_,rfl,λV7 l7=>(cT true).s ?_⟩;rintro r V8 l8 ⟨pa,rfl,ha⟩;refine ⟨_,rfl,λV9 O=>(cT false).s ?_⟩;rintro r fy k ⟨pb,rfl,hb⟩;have D:=l7.m (l8.m (O.m k));refine ⟨_,rfl,λm s bk e1 e2=>(sE (V:=m.ar [bk]) (ln:=LL) (x:=.leaf true) (y:=.leaf false) e1 (RL.le (V:=Z) (V':=m.ar _) j λb o h=>(D.m s) b o h) (RW.le (V:=V8) (V':=m.ar _) (λb o h=>(O.m (k.m s)) b o h) ha) (RW.le (V:=fy) (V':=m.ar _) (λb o h=>s b o h) hb) GA (by decide)).s ?_⟩;rintro r E bW ⟨e3,a⟩;have g:AT E r (rt 0 xM) (wr 0 xM):=a;clear a;have X2:=g;obtain ⟨q,n,c,rfl,-⟩:=g;have Q:m.Le E:=λb o h=>bW b o h;have Nn:=zg.m (D.m (s.m Q));refine qvJ ⟨rfl,_,_,_,_,_,_,_,_,_,_,_,_,_,_,_,_,e3,λiT t=>?_⟩;have t:E.Le iT:=λb o h=>t b o h;have R:=Nn.m t;have eT:Bf (wr 0 xM) (rt 0 xM)=some xM:=RV (GA.imp λ_ h=>h.1) (by decide);have hJ:E9 (Mt xM (bV xM.gS)) [(LL,bF)]:=by{rw [fr_HP];exact hj};have F:∀l∈bV xM.gS,∃P P',LZ l P xM/\LZ (revL l) P' xM:=λl j=>by{rw [show bV xM.gS=[LL] by decide +kernel] at j;rw [Qq6.1 j];exact ⟨[],[],Qg (by decide +kernel),Qg (by decide +kernel)⟩};refine (pC (uA (F4 GA)) (X2.le t) eT (by decide) (GA.imp λ_ h=>h.2) (by decide) (by decide) F (λi hi=>Lm i) (YZ _) cl hJ (by decide) (λf hf=>by rw [Qq6.1 hf];exact ⟨Pt.fF.up (by omega),Di _,Di _⟩) (hy.le R) (hz.le R)).s ?_;rintro r lP cN ⟨p,n,c,rfl,S⟩;obtain rfl:=S.len;obtain ⟨d,e,xs,⟨c1,c2,c3,c4,c5,c6,c7,c8,c9,d1,d2,d3,d4,d5,d6,d7,d8,d9,d10,d11,d12,d13,d14,d15,d16,d17,ex,G,-⟩,a⟩:=S.at_ 0 (by decide);have ex:=congrArg Array.toList (Value.agg.inj ex);dsimp only at ex;subst ex;have H:=aF e;have e:ae p 0=some d:=e;have az:d.add 0=d:=by{simp [Addr.add]};have u:=D.m (s.m (Q.m (t.m cN)));have G:RL lP _ LL.1 LL.2.1 LL.2.2:=G;have T:ae (some d) 6=some (d.add 6):=rfl;refine ⟨p,1,c,.nilIface,rfl,.inl rfl,λ_=>⟨λ_=>⟨H,⟨by decide,by decide⟩,by rw [e];rfl,_,_,_,_,_,_,_,_,_,_,_,_,d,by rw [e];show some (d.add 0)=_;rw [az],a 0 _ rfl,a 1 _ rfl,a 2 _ rfl,a 3 _ rfl,a 4 _ rfl,a 5 _ rfl,λjJ I=>(pH (j.le (u.m I)) (by decide) (by decide) (by decide)).s ?_⟩,(λh=>nomatch h)⟩,(λh=>nomatch h)⟩;rintro r kI U v;have w:=v;obtain ⟨_,_,_,_,_,_,_,_,_,_,_,_,rfl⟩:=tN v;refine qxQ ⟨rfl,λlQ J=>(rB (G.le (I.m (U.m J))) (w.le J) (by decide) (by decide) (by decide)).s ?_⟩;rintro r mM cq rfl;have W:=I.m (U.m (J.m cq));refine ⟨_,rfl,λ_=>⟨H,⟨by decide,by decide⟩,by rw [e];rfl,by rw [e];rfl,true,⟨d.add 12,by rw [e,T];show some ((d.add 6).add 6)=_;rw [fU],W.at (a 12 _ rfl)⟩,λ_=>⟨H,⟨by decide,by decide⟩,by rw [e];rfl,by rw [e];rfl,true,⟨d.add 13,by rw [e,T];show some ((d.add 6).add 7)=_;rw [fU],W.at (a 13 _ rfl)⟩,λpf dE=>rfl⟩,(λh=>nomatch h)⟩,λh=>by simp at h⟩
theorem CP {V:ut}{lb:Nat}(hw:V.w.heap[lb]?=some (.cells vs.toArray 137 (0,0)))(hx:V.X lb) :
  aa prog 210 #[qD (some ⟨lb,0,none⟩) n c,qvZ .i64 0,qvZ .i64 1,.func (.func 121) #[] #[]] V λr V'=>r=dB #[]/\V'.w.heap[lb]?=some (.cells vs.toArray 137 (0,0)):=by
 refine iO lb n c vs 0 1 V _ hw hx ⟨λz _=>z=(1,vs),λ_=>0,⟨(1,vs),by and_intros<;>first|rfl|exact aw (by omega),rfl⟩,?_⟩;rintro z b d rfl;exact ⟨rfl,λh=>absurd (of_decide_eq_true h) (show ¬(1:Int)<1 by decide),λ_ V2 e a=>⟨rfl,a⟩⟩
theorem Kv {V:ut}{lb:Nat}(hw:V.w.heap[lb]?=some (.cells vs.toArray 137 (0,0)))(hx:V.X lb) :
  aa prog 170 #[qD (some ⟨lb,0,none⟩) 1 c,qvZ .i64 1,.func (.func 121) #[] #[]] V λr V'=>r=dB #[]/\V'.w.heap[lb]?=some (.cells vs.toArray 137 (0,0)):=by refine lT lb 1 c vs 1 V _ hw hx ⟨λz _=>z=(0,20,vs),λ_=>0,⟨(0,20,vs),by and_intros<;>rfl,rfl⟩,?_⟩;rintro z i j rfl;dsimp only;refine ⟨rfl,λa=>absurd (of_decide_eq_true a) (by decide),λ_ d k e f g=>(CP (V:=d.ar [e]) f ⟨by simp,g⟩).s ?_⟩;rintro r l m ⟨rfl,b⟩;refine ⟨rfl,vs,b,λz _=>z=(20,vs),λ_=>0,⟨(20,vs),by and_intros<;>rfl,rfl⟩,?_⟩;rintro z n o rfl;dsimp only;exact ⟨rfl,λa=>absurd (of_decide_eq_true a) (by decide),λ_ p q h=>⟨rfl,h⟩⟩
theorem Kh {V:ut}{lb c:Nat}{vs:pz un}(hw:V.w.heap[lb]?=some (.cells vs.toArray 137 (0,0)))(hx:V.X lb) :
  aa prog 120 #[qD (some ⟨lb,0,none⟩) 1 c,.func (.func 121) #[] #[]] V λr V'=>r=dB #[]/\V'.w.heap[lb]?=some (.cells vs.toArray 137 (0,0)):=by refine lL lb 1 c vs V _ hw hx λb h d e f=>(Kv (V:=b.ar [d]) e ⟨by simp,f⟩).s ?_;rintro r V2 i ⟨rfl,g⟩;exact ⟨rfl,vs,g,λj k a=>⟨rfl,a⟩⟩
set_option maxHeartbeats 1000000 in
theorem Kf (hL:kH 10000 L)(h:bE 17 oW V p n [(L,bF)]) :
  aa prog 64 #[qD p n c] V λr V'=>∃q m e,r=qD q m e/\bE 17 oW V' q m [(L,bF)]:=by obtain rfl:=h.len;refine BZ V _ λV1 l1=>(PW (h.le l1 λ_ _ g=>G8.le g l1) (by simp) (λh=>by cases h)).s ?_;rintro r V2-⟨U,vs,a1,a2,e,rfl,hle,ve,vf,row,lW⟩;refine ⟨U,vs,a1,λh=>.inl (a2 h),none,_,e,rfl,?_⟩;have t:Row 17 oW (V2.shut.bu (vs≠[]) U) vs [(L,bF)]:=row.le λ_ _ g=>G8.le g λb o h=>h;clear a1 a2 row lW;generalize V2.shut.bu (vs≠[]) U=W at t ⊢;have y:vs≠[]:=vf.2 (by simp);have hle:1<=e:=hle;refine ⟨λws V'=>Row 17 oW V' ws [(L,bF)],⟨λh=>absurd h y,λ_ V5 l5 I e1 e2=>?_⟩,?_⟩;{have X:e≠0:=λh=>y (ve.2 h);have QL:∀b,mA b e=some ⟨b,0,none⟩:=λb=>by{unfold mA;rw [if_neg X]};rw [QL];refine (Kh (V:=V5.ar [vb vs V5.w.heap.size I]) (lb:=I) (vs:=vs) (e1 y) ⟨by simp [rR y],e2 y⟩).s ?_;rintro r V6 l6 ⟨rfl,e3⟩;exact ⟨rfl,y,vs,y,e3,vs,by and_intros<;>rfl,t.le λ_ _ g=>G8.le g λb o h=>l6 b o (l5 b o h)⟩};rintro ws V7 l7 F;have one:([(L,bF)]:pz (L3×Sp)).length=1:=rfl;rw [one];refine ⟨rfl,λz V'=>∃j:Nat,z.2.2.2=(j:Int)/\j<=1/\GR 17 oW V' z.1 z.2.1 z.2.2.1 ([(L,bF)].take j),λz=>1-z.2.2.2.toNat,⟨(0,0,[],0),by and_intros<;>rfl,0,rfl,Qq4 _,GR.nil⟩,?_⟩;rintro ⟨n1,c1,os,i1⟩ V8 l8 ⟨j,ej,uw,D⟩;dsimp only at ej D;subst ej;refine ⟨rfl,λd=>?_,λd kI cB I A=>?_⟩;rotate_left;{have d:¬(j:Int)<(1:Nat):=of_decide_eq_false d;obtain rfl:j=1:=by{omega};have:=bE.bJ A (D.row.le λ_ _ g=>G8.le g cB) (by decide) (by rw [←D.len];exact D.le);rw [←D.len] at this;exact ⟨_,_,_,rfl,this⟩};have d:(j:Int)<(1:Nat):=of_decide_eq_true d;obtain rfl:j=0:=by{omega};dsimp only;have Y:V7.Le V8:=l8;refine ⟨λz V'=>∃k:Nat,z.2.2.2=(k:Int)/\k<=1/\GR 8 eM V' z.1 z.2.1 z.2.2.1 ([bF].take k),λz=>1-z.2.2.2.toNat,⟨(0,0,[],((0:Nat):Int)),by and_intros<;>rfl,0,rfl,Qq4 _,GR.nil⟩,?_⟩;rintro ⟨n2,c2,us,i2⟩ V9 l9 ⟨k,ek,a0,f⟩;dsimp only at ek f;subst ek;have Z:Row 17 oW V9 ws [(L,bF)]:=F.le λ_ _ g=>G8.le g (Y.m l9);obtain ⟨K,M,N,O,P,Q,R,S,T,d1,d2,d3,d4,d5,d6,jl,kl,jr,kr⟩:=YV Z (i:=0) (Nat.succ_pos _);refine ⟨rfl,λb V'=>V9.Le V'/\b=decide (k=0),⟨λl=>?_,λl=>?_⟩,?_⟩;{have l:(k:Int)<(1:Nat):=of_decide_eq_true l;obtain rfl:k=0:=by{omega};dsimp only;rw [Qq0];refine ⟨⟨by omega,by omega⟩,hle,K,M,N,O,P,Q,R,S,T,jl,⟨by omega,by omega⟩,hle,K,M,N,O,P,Q,R,S,T,jl,λfy B=>(qN (qE.le jr B) (qE.le jr B) hL hL).s ?_⟩;rintro r fC bo rfl;exact ⟨_,rfl,_,by and_intros<;>rfl,B.m bo,decide_eq_decide.2 ⟨λ_=>rfl,λ_=>rfl⟩⟩};{have l:¬(k:Int)<(1:Nat):=of_decide_eq_false l;exact ⟨false,by and_intros<;>rfl,View.Le.refl _,(decide_eq_false (by omega)).symm⟩};rintro b gI bW ⟨G,rfl⟩;refine ⟨rfl,λl=>?_,λl iT bP I A=>?_⟩;{obtain rfl:k=0:=of_decide_eq_true l;have w:i64.wrap (((0:Nat):Int)+1)=((0+1:Nat):Int):=by{rw [aw (by omega)];rfl};dsimp only;rw [Qq0,w];have u:=eM.le kr G;have sl:n2=0:=f.len;refine ⟨⟨by omega,by omega⟩,hle,d1,d2,d3,d4,d5,d6,_,_,kl,by omega,f.le,f.cap,rfl,Vc (V:=gI) (x:=bF) u,λsp c' k1 k2=>⟨(n2+1,c',_,((0+1:Nat):Int)),by dsimp only;omega,by and_intros<;>rfl,1,rfl,Qq2 _,?_⟩⟩;exact (f.s λ_ _ g=>eM.le g G).snoc rfl u (by decide) k1 k2};have a3:¬k=0:=of_decide_eq_false l;obtain rfl:k=1:=by{omega};have hA:=bE.bJ A (f.row.le λ_ _ g=>eM.le g (G.m bP)) (by decide) (by rw [←f.len];exact f.le);rw [←f.len] at hA;have UK:([bF]:pz Sp).take 1=[bF]:=rfl;rw [UK] at hA;refine (zY hA (λs hs=>by rw [Qq6.1 hs];exact kZ) (λs hs=>by rw [Qq6.1 hs];exact ⟨Di _,Di _⟩) (by decide) (by decide) (Lm _)).s ?_;rintro r lP cN ⟨q,n3,c3,rfl,hC⟩;rw [El] at hC;refine ⟨_,_,_,rfl,λJ=>?_⟩;have C:=l9.m (G.m (bP.m cN));obtain rfl:=hC.len;refine ⟨λz V'=>∃i:Nat,z.2.2.2=(i:Int)/\i<=1/\GR 17 oW V' z.1 z.2.1 z.2.2.1 ([(L,bF)].take i),λz=>1-z.2.2.2.toNat,⟨(n1,c1,os,0),by and_intros<;>rfl,0,rfl,Qq4 _,D.s λ_ _ g=>G8.le g C⟩,?_⟩;rintro ⟨n4,c4,ts,i4⟩ jJ cF ⟨i,ei,Pl,E⟩;dsimp only at ei E;subst ei;refine ⟨rfl,λH=>?_,λH=>?_⟩;{have H:(i:Int)<(1:Nat):=of_decide_eq_true H;obtain rfl:i=0:=by{omega};have w:i64.wrap (((0:Nat):Int)+1)=((0+1:Nat):Int):=by{rw [aw (by omega)];rfl};dsimp only;rw [Qq0,w];obtain ⟨ad,h0,xs,-,y2,v⟩:=(hC.le cF λ_ _ g=>eM.le g cF).at_ 0 (by decide);obtain ⟨_,_,_,_,_,_,ex,g1,g2⟩:=y2;have ex:=congrArg Array.toList (Value.agg.inj ex);dsimp only at ex;subst ex;have he:G8 jJ (hF #[qvZ .i64 K,qvZ .i64 M,dZ N,qvZ .i64 O,qvZ .i64 P,dZ Q,qvZ .i64 R,qvZ .i64 S,dZ T,qvZ .i64 _,qvZ .i64 _,dZ _,qvZ .i64 _,qvZ .i64 _,dZ _,dQ true,dQ true]) L bF:=⟨_,_,_,_,_,_,_,_,_,_,_,_,_,_,_,rfl,qE.le jr (G.m (bP.m (cN.m cF))),_,_,_,_,_,_,rfl,g1,g2⟩;have tl:n4=0:=E.len;refine ⟨aF h0,⟨by decide,by decide⟩,_,_,_,_,_,_,_,_,ad,h0,v 0 _ rfl,v 1 _ rfl,v 2 _ rfl,v 3 _ rfl,v 4 _ rfl,v 5 _ rfl,v 6 _ rfl,v 7 _ rfl,⟨by omega,by omega⟩,hle,K,M,N,O,P,Q,R,S,T,jl,by omega,E.le,E.cap,rfl,Jb (V:=jJ) (x:=(_,_)) he,λsp c' k1 k2=>⟨(n4+1,c',_,((0+1:Nat):Int)),by dsimp only;omega,by and_intros<;>rfl,1,rfl,Qq2 _,?_⟩⟩;exact E.snoc (a:=(L,bF)) rfl he (by decide) k1 k2};{have H:¬(i:Int)<(1:Nat):=of_decide_eq_false H;obtain rfl:i=1:=by{omega};exact ⟨(n4,c4,ts,((1:Nat):Int)),by dsimp only;omega,by and_intros<;>rfl,1,rfl,Qq2 _,E⟩}
def qi (l:L3)(o:List Rat)(m:L3):List Rat:=if crossL l m=0 then o else cZ (iw l (Ow l m) (Ox l m)) o
def Al (l:L3)(ls:List L3):List Rat:=ls.foldl (qi l) []
theorem Sg {m:L3}(h:Nz l)(hc:crossL l m≠0):iw l (Ow l m) (Ox l m)=cutP m l:=by have ⟨v1,v2⟩:=S5 hc;have ⟨a,b⟩:=Sf h v1;generalize iw l (Ow l m) (Ox l m)=z at *;rw [←a,←b,jV] at v2;have c:dotL m l≠0:=by{rw [cross_dot] at hc;grind};have:=Qv8 _ c;unfold cutP;grind
theorem uf (h:Nz l):∀(ls:pz L3)(o:pz Rat),(asc o->asc (ls.foldl (qi l) o))/\(ls.foldl (qi l) o).length<=o.length+ls.length/\∀x,x∈ls.foldl (qi l) o↔x∈o\/∃m∈ls,dotL m l≠0/\x=cutP m l
 | [],o=>⟨id,Qq2 _,λx=>by simp⟩
 | m::ls,o=>by
  have ⟨h1,h2,h3⟩:=uf h ls (qi l o m);rw [Qm5];have b:crossL l m=0↔dotL m l=0:=by rw [cross_dot];grind
  refine ⟨λg=>h1 ?_,Qw7 h2 ?_,λx=>(h3 x).m ?_⟩
  ·unfold qi;split
   ·exact g
   ·exact AE g
  ·unfold qi;split
   ·simp only [Qw6];omega
   ·have:=@lk (iw l (Ow l m) (Ox l m)) o;simp only [Qw6];omega
  ·unfold qi;split
   ·rename_i e;have e:=b.1 e;refine or_congr Wk5 ⟨λ⟨k,a,g⟩=>⟨k,Qq8 _ a,g⟩,λ⟨k,a,g⟩=>?_⟩;rcases Qq5.1 a with rfl|a
    ·exact absurd e g.1
    ·exact ⟨k,a,g⟩
   ·rename_i e;have d:¬dotL m l=0:=λg=>e (b.2 g);rw [pQ,Sg h e];constructor
    ·rintro ((g|g)|⟨k,a,g⟩)
     ·exact .inr ⟨m,Qw5 ..,d,g⟩
     ·exact .inl g
     ·exact .inr ⟨k,Qq8 _ a,g⟩
    ·rintro (g|⟨k,a,f,c⟩)
     ·exact .inl (.inr g)
     ·rcases Qq5.1 a with rfl|a
      ·exact .inl (.inl c)
      ·exact .inr ⟨k,a,f,c⟩
theorem TZ {ls:pz L3}(bl:Bd l)(h:Nz l)(hb:∀m∈ls,Bd m):∀x∈Al l ls,Sz 60060 x:=λx a=>by
 rcases ((uf h ls []).2.2 x).1 a with g|⟨m,hm,-,rfl⟩
 ·cases g
 ·exact (kj bl.fF (hb m hm).fF).s (by omega)
theorem t_ {ls:pz L3}(hl:bM V v l)(bl:Bd l)(nz:Nz l)(h:bE 6 bM V p n ls)(hn:ls.length<=1000000)(hb:∀m∈ls,Bd m) :
  aa prog 47 #[v,qD p n c] V λr V'=>∃q m e,r=qD q m e/\bE 3 RQ V' q m (Al l ls):=by
 obtain rfl:=h.len;have G:=hl;obtain ⟨_,_,_,_,_,_,_,_,_,_,_,_,rfl⟩:=bD hl
 refine tG V _ ⟨λz V'=>∃(i:Nat)(O:pz Rat),z.2.2.2=(i:Int)/\i<=ls.length/\O.length<=i/\(∀q∈O,Sz 60060 q)/\Al l ls=(ls.drop i).foldl (qi l) O/\GR 3 RQ V' z.1 z.2.1 z.2.2.1 O,λz=>ls.length-z.2.2.2.toNat,
  ⟨(0,0,[],0),by and_intros<;>rfl,0,[],rfl,Qq4 _,Qq4 _,(λq k=>by cases k),by rw [Qs9];rfl,GR.nil⟩,?_⟩
 rintro ⟨B,S,us,z4⟩ V1 Q ⟨i,O,e4,Pl,b1,H,f,o⟩;dsimp only at e4 o;subst e4;have g1:=o.len;have T:=o.le;refine ⟨rfl,λb=>?_,λb fy s bk hb=>?_⟩;rotate_left
 ·have b:¬(i:Int)<ls.length:=of_decide_eq_false b;obtain rfl:i=ls.length:=by{omega};rw [Qp7] at f;have f:Al l ls=O:=f;rw [f];subst g1;exact ⟨_,_,S,rfl,bE.bJ hb (o.row.le λ_ _ g=>g.le s) (by decide) T⟩
 have b:(i:Int)<ls.length:=of_decide_eq_true b;have F:i<ls.length:=by omega
 have w:i64.wrap ((i:Int)+1)=((i+1:Nat):Int):=by rw [aw (by omega)];rfl
 dsimp only;rw [Qq0,w];have ⟨is,d1,q1,m1,e1,d2,q2,m2,e2,d3,q3,m3,e3,a,ha,a0,a1,a2,a3,a4,a5,gm⟩:=qP (h.le Q λ_ _ g=>bM.le g Q) F;have ed:ls.drop i=ls[i]::ls.drop (i+1):=Qw4 F;rw [ed,Qm5] at f;have U:=hb _ (Qq9 F);generalize ls[i]=m at *;refine ⟨is,⟨by omega,by omega⟩,d1,q1,m1,e1,d2,q2,m2,e2,d3,q3,m3,e3,a,ha,a0,a1,a2,a3,a4,a5,λV2 W=>(K9 (l:=l) (m:=m) (bM.le G (Q.m W)) (bM.le gm W) bl.fF U.fF).s ?_⟩;rintro r V3 l3 ⟨u,rfl,gz,R⟩;have X:=W.m l3;by_cases C:crossL l m=0
 ·have es:qi l O m=O:=if_pos C;rw [es] at f;have:=gz C;unfold L_ at this;subst this;exact ⟨_,_,_,_,_,_,_,_,_,_,_,_,_,_,_,rfl,λ_=>⟨(B,S,us,((i+1:Nat):Int)),by dsimp only;omega,by and_intros<;>rfl,i+1,O,rfl,F,by omega,H,f,o.s λ_ _ g=>g.le X⟩,λg=>by rw [decide_eq_false (λg=>g C)] at g;cases g⟩
 have es:qi l O m=cZ (iw l (Ow l m) (Ox l m)) O:=if_neg C;rw [es] at f;have Y:Sz 60060 (iw l (Ow l m) (Ox l m)):=by rw [Sg nz C];exact (kj bl.fF U.fF).s (by omega)
 have R:=R C;have Zg:=R;obtain ⟨_,_,_,_,_,_,_,_,_,_,_,_,_,_,rfl⟩:=lG R;have ⟨s1,s2⟩:=Gy bl.fF U.fF;refine ⟨_,_,_,_,_,_,_,_,_,_,_,_,_,_,_,rfl,λg=>by rw [decide_eq_true C] at g;(first|cases g|exact absurd g (by decide)),λ_ V4 Z=>(uI (L:=l) (bM.le G (Q.m (X.m Z))) (Zg.le Z) nz (bl.fF.up (K:=20020) (by omega)) s1 s2).s ?_⟩;rintro r V5 l5 k;have D:=k;obtain ⟨ep,en,ec,eq,em,ee,rfl⟩:=k.shape;have cF:=X.m (Z.m l5);clear k;generalize iw l (Ow l m) (Ox l m)=x at *;refine ⟨_,ep,en,ec,eq,em,ee,rfl,λz _=>∃j:Nat,z=(j:Int)/\j<=O.length/\∀(y:Nat)(h:y<O.length),y<j->O[y]<x,λz=>O.length-z.toNat,⟨0,by and_intros<;>rfl,0,rfl,Qq4 _,λy _ h=>absurd h (Qn2 y)⟩,?_⟩;rintro z V6 l6 ⟨j,rfl,uw,jl⟩;have wj:i64.wrap ((j:Int)+1)=((j+1:Nat):Int):=by rw [aw (by omega)];rfl
 rw [Qq0,wj];have cB:=cF.m l6;refine ⟨rfl,λz _=>z=true↔∃h:j<O.length,O[j]<x,⟨λb=>?_,λb=>⟨false,by and_intros<;>rfl,?_⟩⟩,?_⟩
 ·have b:(j:Int)<(B:Int):=of_decide_eq_true b;have t:j<O.length:=by{omega};have ⟨rb,rp,rn,rc,rq,rm,re,fE,FJ,hr⟩:=Gm o.row t;refine ⟨⟨by omega,by omega⟩,T,rb,rp,rn,rc,rq,rm,re,⟨fE,FJ⟩,λV7 l7=>(eI (hr.le (cB.m l7)) (D.le (l6.m l7)) (H _ (Qq9 t)) Y).s ?_⟩;rintro r V8 l8 rfl;exact ⟨_,rfl,_,by and_intros<;>rfl,by dsimp only;rw [decide_eq_true_eq,HP];exact ⟨λh=>⟨t,h⟩,λ⟨_,h⟩=>h⟩⟩
 ·have b:¬(j:Int)<(B:Int):=of_decide_eq_false b;exact ⟨(λh=>nomatch h),λ⟨h,_⟩=>absurd h (by omega)⟩
 rintro z V9 l9 Mv;refine ⟨rfl,λE=>?_,λE=>?_⟩
 ·have ⟨t,a6⟩:=Mv.1 E;refine ⟨((j+1:Nat):Int),by (try dsimp only);omega,by and_intros<;>rfl,j+1,rfl,t,λy h b2=>?_⟩;by_cases e:y=j;{subst e;exact a6};{exact jl y h (by omega)}
 have a7:∀h:j<O.length,¬O[j]<x:=λh I=>by have:=Mv.2 ⟨h,I⟩;rw [E] at this;cases this
 have d:=Mx O j uw jl a7;have dE:=cB.m l9;have M:=l6.m l9;refine ⟨λz _=>z=true↔¬∃h:j<O.length,O[j]=x,⟨λhe=>⟨true,by and_intros<;>rfl,?_⟩,λhe=>?_⟩,?_⟩
 ·have he:(j:Int)=(B:Int):=by{simpa using he};exact ⟨λ_ ⟨h,_⟩=>absurd h (by omega),λ_=>rfl⟩
 ·have he:¬(j:Int)=(B:Int):=by{simpa using he};have t:j<O.length:=by{omega};have ⟨rb,rp,rn,rc,rq,rm,re,fE,FJ,hr⟩:=Gm o.row t;refine ⟨⟨by omega,by omega⟩,T,rb,rp,rn,rc,rq,rm,re,⟨fE,FJ⟩,λfy s=>(eI (hr.le (dE.m s)) (D.le (M.m s)) (H _ (Qq9 t)) Y).s ?_⟩;rintro r fC bo rfl;exact ⟨_,rfl,_,by and_intros<;>rfl,by dsimp only;rw [bne_iff_ne,ne_eq,←g_];exact ⟨λh ⟨_,I⟩=>h I,λh I=>h ⟨t,I⟩⟩⟩
 rintro z gI bW ur;have A:=dE.m bW;refine ⟨rfl,λE iT Uw bk a8 J=>?_,λE=>?_⟩
 ·have a9:=ur.1 E;rw [if_neg a9] at d;have N:=A.m Uw;have ⟨xs,ys,x1,x2,x3,y1,y2,y3,r1,r2,r3,r4,r5⟩:=uv (V:=iT) (o.s λ_ _ g=>g.le N) (by decide) (λ_ _=>SB) a8 (es:=[_,_,_]) rfl (D.le (M.m (bW.m Uw))) (j:=j);refine ⟨⟨by omega,by omega⟩,⟨by omega,by omega⟩,⟨by omega,by omega⟩,xs,x1,x2,by omega,Qq2 _,Qq2 3,x2,x3,λb3 J2 sp c' h1 h2=>?_⟩;rw [r1,r2];(refine ⟨ys,y1,y2,Qq2 _,y3,by omega,by omega,r3,r4,λb0 P h3 h4=>⟨(j+(1+(B-j)),P,_,((i+1:Nat):Int)),by dsimp only;omega,by and_intros<;>first|rfl|omega,i+1,cZ x O,rfl,F,?_,?_,f,?_⟩⟩);{rw [d,Qq3,Qq7,Qw6,Qb5];omega};{intro q k;rcases pQ.1 k with rfl|k;{exact Y};{exact H q k}};{show GR 3 RQ _ _ _ _ (cZ x O);rw [d];exact r5 b0 P h3 h4}
 ·have hex:∃h:j<O.length,O[j]=x:=Qf9 λh=>by{have:=ur.2 h;rw [E] at this;cases this};rw [if_pos hex] at d;rw [d] at f;exact ⟨(B,S,us,((i+1:Nat):Int)),by dsimp only;omega,by and_intros<;>rfl,i+1,O,rfl,F,by omega,H,f,o.s λ_ _ g=>g.le A⟩
theorem Qh (nz:Nz l){t:Tr}:Y6 l (Al l (bV t.gS)) t:=by refine (Fb t).imp λm hm a=>((uf nz (bV t.gS) []).2.2 _).2 (.inr ⟨cJ m,(nY _).2 _ |>.2 (Qz1.2 ⟨m,hm,rfl⟩),?_⟩);rcases sF m with e|e<;>rw [e];{exact ⟨a,rfl⟩};{exact ⟨by rw [dot_rev];grind,(cutP_rev a).symm⟩}
theorem Ku {t:Tr}(h:RW V p t)(ha:t.dT kF)(hs:t.size<=100000)(hl:bM V v l)(kl:kF l) :
  aa prog 17 #[dZ p,v,dQ true,dQ false] V λr V'=>∃q n c,r=qD q n c/\bE 8 mO V' q n (tL l t):=by have A:=hl;have nz:=lA kl.1;have ok:t.dT λm=>cW m=true:=ha.imp λ_ h=>h.1;have db:∀m∈bV t.gS,Bd m:=H2 (q:=Bd) (λl h=>by rcases sF l with e|e<;>rw [e];exact h;exact h.rev) λm hm=>(uB ha m hm).2;have dl:(bV t.gS).length<=100000:=Qw7 (wh _) (by rw [jw];exact hs);have ⟨f1,f2,f3⟩:=uf nz (bV t.gS) [];have C:asc (Al l (bV t.gS)):=f1 List.Pairwise.nil;have a2:(Al l (bV t.gS)).length<=100000:=Qw7 f2 (by simpa using dl);have D:=TZ kl.2 nz db;have cc:=Qh nz (t:=t);have fin:∀ms,ms=(aV (Al l (bV t.gS))).map (λx=>(au.qn t (cz l x,cD l x) (eU l true)).1&&!(au.qn t (cz l x,cD l x) (eU l false)).1)->pM (Al l (bV t.gS)) ms=tL l t:=λms e=>UJ cc kl.1 ok C e;have S:∀{W:ut} {v:un} {q:OA} {n c:Nat},bM W v l->bE 6 bM W q n (bV t.gS)->aa prog 47 #[v,qD q n c] W λr V'=>∃q m e,r=qD q m e/\bE 3 RQ V' q m (Al l (bV t.gS)):=λa b=>t_ a kl.2 nz b (by omega) db;generalize Al l (bV t.gS)=P at *;have pl:(aV P).length=P.length+1:=eE;obtain ⟨_,_,_,_,_,_,_,_,_,_,_,_,rfl⟩:=bD hl;refine J0 V _ λV1 l1=>(rG (h.le l1) ha).s ?_;rintro r V2 l2 ⟨q1,n1,c1,rfl,gd⟩;have oh:=l1.m l2;refine ⟨q1,n1,c1,rfl,λV3 J=>(S (bM.le A (oh.m J)) (gd.le J λ_ _ k=>bM.le k J)).s ?_⟩;rintro r V4 l4 ⟨q2,n2,c2,rfl,gc⟩;have AJ:=oh.m (J.m l4);refine ⟨q2,n2,c2,rfl,λV5 l5=>(dw (l_0:=l.1) (l_1:=l.2.1) (l_2:=l.2.2) (bM.le A (AJ.m l5)) kl.2.fF.1 kl.2.fF.2.1 kl.2.fF.2.2).s ?_⟩;rintro r V6 l6 ⟨x1,x2,x3,x4,x5,x6,y1,y2,y3,y4,y5,y6,rfl,gx,gy⟩;refine qyZ ⟨rfl,λV7 T=>(Aa (gy.le T)).s ?_⟩;rintro r V8 l8 go;rw [Rat.neg_neg] at go;have U:=go;obtain ⟨z1,z2,z3,z4,z5,z6,rfl⟩:=go.shape;have M:=l5.m (l6.m (T.m l8));refine ⟨_,z1,z2,z3,z4,z5,z6,rfl,λV9 X=>(pI (gc.le (M.m X) λ_ _ k=>k.le (M.m X)) (by omega) (k:=60060) D).s ?_⟩;rintro r fy Y ⟨q3,n3,c3,rfl,E⟩;obtain rfl:=E.len;have N:=X.m Y;have F:=AJ.m (M.m N);have gn:RP fy (hF #[dQ (decide (((l.1:Int):Rat).num<0)),qD z1 z2 z3,qD z4 z5 z6,dQ (decide (((l.2.1:Int):Rat).num<0)),qD x1 x2 x3,qD x4 x5 x6]) (eU l true).1 (eU l true).2:=qxQ ⟨rfl,U.le N,gx.le (T.m (l8.m N))⟩;have G:Sz 1000 (eU l true).1/\Sz 1000 (eU l true).2:=⟨kl.2.fF.1,kl.2.fF.2.1⟩;let f:Rat->md:=λx=>(au.qn t (cz l x,cD l x) (eU l true)).1&&!(au.qn t (cz l x,cD l x) (eU l false)).1;refine ⟨q3,_,c3,rfl,λz V'=>∃i:Nat,z.2.2.2=(i:Int)/\i<=(aV P).length/\GR 1 Y8 V' z.1 z.2.1 z.2.2.1 (((aV P).map f).take i),λz=>(aV P).length-z.2.2.2.toNat,⟨(0,0,[],0),by and_intros<;>rfl,0,rfl,Qq4 _,GR.nil⟩,?_⟩;rintro ⟨w1,w2,us,a3⟩ fC H ⟨i,e4,Pl,d⟩;dsimp only at e4 d;subst e4;have gl:=d.len;rw [Qq7,Qy5] at gl;dsimp only;rw [Qq0];refine ⟨rfl,λj=>?_,λj vG e_ bk o=>?_⟩;rotate_left;{have j:¬(i:Int)<(aV P).length:=of_decide_eq_false j;obtain rfl:i=(aV P).length:=by{omega};rw [Qv4 (by rw [Qy5];exact Qq2 _)] at d;obtain rfl:=d.len;have s:=M.m (N.m (H.m e_));refine (tT (gc.le s λ_ _ k=>k.le s) (bE.bJ o (d.row.le λ_ _ g=>g) (by decide) d.le) (by rw [Qy5];exact pl)).s ?_;rintro r qF gQ ⟨q,n,c,rfl,g⟩;rw [fin _ rfl] at g;exact ⟨q,n,c,rfl,λ_ tK gR=>⟨q,n,c,rfl,g.le gR λ_ _ g=>mO.le g gR⟩⟩};have j:(i:Int)<(aV P).length:=of_decide_eq_true j;have I:i<(aV P).length:=by{omega};have w:i64.wrap ((i:Int)+1)=((i+1:Nat):Int):=by{rw [aw (by omega)];rfl};rw [w];have et:((aV P).map f).take (i+1)=((aV P).map f).take i++[f (aV P)[i]]:=by{rw [Qz0,Qq1 (by rw [Qy5];exact I)];simp};have Z:=EP D (Qq9 I);obtain ⟨ad,hd,xs,-,hq,B⟩:=(E.le H λ_ _ g=>g.le H).at_ i I;have a0:=hq;obtain ⟨ep,en,ec,eq,em,ee,ex⟩:=hq.shape;have ex:=congrArg Array.toList (Value.agg.inj ex);dsimp only at ex;subst ex;have ef:f (aV P)[i]=((au.qn t (cz l (aV P)[i],cD l (aV P)[i]) (eU l true)).1&&!(au.qn t (cz l (aV P)[i],cD l (aV P)[i]) (eU l false)).1):=rfl;clear hq;generalize (aV P)[i]=x at *;have It:=F.m H;refine ⟨aF hd,⟨by omega,by omega⟩,_,ep,en,ec,eq,em,ee,ad,hd,B 0 _ rfl,B 1 _ rfl,B 2 _ rfl,λgI O=>(YR (L:=l) (bM.le A (It.m O)) (a0.le O) nz (kl.2.fF.up (K:=120124) (by omega)) (Z.s (by omega))).s ?_⟩;rintro r iT bP gp;have Zg:=gp;obtain ⟨_,_,_,_,_,_,_,_,_,_,_,_,_,_,rfl⟩:=lG gp;have px:=(Gv (kl.2.fF.up (K:=120124) (by omega)) (Z.s (by omega))).s (show _<=60000000 by omega);have py:=(Gw (kl.2.fF.up (K:=120124) (by omega)) (Z.s (by omega))).s (show _<=60000000 by omega);have Wt:=H.m (O.m bP);have tw:∀{pv:un},RP iT pv (cz l x) (cD l x)->∀{W:ut} {e:md} {u:un},iT.Le W->RP W u (eU l e).1 (eU l e).2->Sz 1000 (eU l e).1/\Sz 1000 (eU l e).2->aa prog 52 #[dZ p,pv,u] W λr V'=>r=dB #[dQ (au.qn t (cz l x,cD l x) (eU l e)).1,dQ (au.qn t (cz l x,cD l x) (eU l e)).2]:=λ{pv} gq {W e u} g hu su=>Ah (p:=(cz l x,cD l x)) (k:=60000000) (by omega) (by omega) px py (su.1.s (by omega)) (su.2.s (by omega)) (h.le (It.m (O.m (bP.m g)))) (F4 ha) (gq.le g) hu;refine qyZ ⟨rfl,λlP Q=>(tw Zg (e:=true) Q (gn.le (Wt.m Q)) G).s ?_⟩;rintro r jJ cF rfl;refine ⟨_,_,rfl,λkI cB=>(HF (p:=eU l true) (gn.le (Wt.m (Q.m (cF.m cB)))) G.1 G.2).s ?_⟩;rintro r lQ cG R;have R:RP lQ r (eU l false).1 (eU l false).2:=R;have a1:=R;obtain ⟨_,_,_,_,_,_,_,_,_,_,_,_,_,_,rfl⟩:=lG R;refine qyZ ⟨rfl,λmM cq=>(tw Zg (e:=false) (Q.m (cF.m (cB.m (cG.m cq)))) (a1.le cq) ⟨G.1.neg,G.2.neg⟩).s ?_⟩;rintro r pf dE rfl;have y:=d.s (V':=pf) λ_ _ g=>g;refine ⟨_,_,rfl,λo=>⟨by omega,d.le,d.cap,rfl,λv hv=>by rw [Qq6.1 hv];rfl,λsp c' h1 h2=>⟨(w1+1,c',_,((i+1:Nat):Int)),by dsimp only;omega,by and_intros<;>rfl,i+1,rfl,I,?_⟩⟩,λo=>⟨by omega,d.le,d.cap,rfl,λv hv=>by rw [Qq6.1 hv];rfl,λsp c' h1 h2=>⟨(w1+1,c',_,((i+1:Nat):Int)),by dsimp only;omega,by and_intros<;>rfl,i+1,rfl,I,?_⟩⟩⟩;{show GR 1 Y8 _ _ _ _ (((aV P).map f).take (i+1));rw [et];refine y.snoc rfl ?_ (by decide) h1 h2;have o:(au.qn t (cz l x,cD l x) (eU l true)).1=true:=by{simpa using o};rw [ef,o];cases (au.qn t (cz l x,cD l x) (eU l false)).1<;>rfl};{show GR 1 Y8 _ _ _ _ (((aV P).map f).take (i+1));rw [et];refine y.snoc rfl ?_ (by decide) h1 h2;have o:(au.qn t (cz l x,cD l x) (eU l true)).1=false:=by{simpa using o};rw [ef,o];rfl}
structure VG (f:L3×Sp):Prop where
 ok:cW f.1=true
 bd:Bd f.1
 gd:f.2.good
 sz:f.2.sz 100000
theorem D8 (l:L3)(h:Nz l):jC l l=0:=by unfold jC;exact (kJ h 0).1
theorem Lk (h:Nz l)(s:Sp):oR l s l=[]/\oR l s (revL l)=[]:=by have a:dotL l l=0:=by{unfold dotL;grind};have b:dotL (revL l) l=0:=by{unfold dotL revL;simp only [Qs2];grind};have c:jC (revL l) l=0:=by{have:=D8 l h;unfold jC at *;rw [val_rev,this];rfl};refine ⟨?_,?_⟩<;>unfold oR cH;{rw [a,D8 l h];rfl};{rw [b,c];rfl}
theorem wN (l:L3)(s:Sp)(m:L3):(oR l s m).length<=1:=by unfold oR;split<;>simp
theorem SI {m:L3}{s:Sp}(h:VG (l,s))(bm:Bd m):∀u∈oR l s m,VG u:=λu hu=>by
 unfold oR at hu;split at hu
 ·rename_i g;rw [Qq6.1 hu];exact ⟨h.ok,h.bd,gO h.gd g,zy h.bd.fF bm.fF h.sz⟩
 ·cases hu
def lC (m:L3)(fs:List (L3×Sp)):List (L3×Sp):=fs.flatMap λf=>oR f.1 f.2 m
theorem IU {m:L3}{fs:pz (L3×Sp)}(h:∀f∈fs,VG f)(bm:Bd m):∀u∈lC m fs,VG u:=λu hu=>by
 have ⟨f,a,b⟩:=Qy1.1 hu;grind [SI]
theorem qS (m:L3):∀fs:pz (L3×Sp),(lC m fs).length<=fs.length
 | []=>Qq2 _
 | f::fs=>by
  have:=qS m fs;grind [wN,lC]
theorem K0 {f:L3×Sp}{fs:pz (L3×Sp)}(h:Nz f.1):(lC f.1 (f::fs)).length<=fs.length/\(lC (revL f.1) (f::fs)).length<=fs.length:=by have ⟨a,b⟩:=Lk h f.2;refine ⟨?_,?_⟩<;>unfold lC<;>rw [Qy0];{rw [a];exact qS _ fs};{rw [b];exact qS _ fs}
theorem FW {al:pz (L3×Sp)}(h:bE 14 rX V p n al)(hi:i<al.length) :
  p.isSome=true/\∃(b1:md)(p1:OA)(n1 c1:Nat)(b2:md)(p2:OA)(n2 c2:Nat)(b3:md)(p3:OA)(n3 c3:Nat)(b:md)(q1:OA)(m1 e1:Nat)(q2:OA)(m2 e2:Nat)(d:md)(q3:OA)(m3 e3:Nat)(q4:OA)(m4 e4:Nat)(a:Addr),ae p (i*14)=some a /\
   V.at (a.add 0) (dQ b1)/\V.at (a.add 1) (qD p1 n1 c1)/\V.at (a.add 2) (dQ b2)/\V.at (a.add 3) (qD p2 n2 c2)/\V.at (a.add 4) (dQ b3)/\V.at (a.add 5) (qD p3 n3 c3) /\
   V.at (a.add 6) (dQ b)/\V.at (a.add 7) (qD q1 m1 e1)/\V.at (a.add 8) (qD q2 m2 e2)/\V.at (a.add 9) (dQ d)/\V.at (a.add 10) (qD q3 m3 e3)/\V.at (a.add 11) (qD q4 m4 e4)/\V.at (a.add 12) (dQ al[i].2.a)/\V.at (a.add 13) (dQ al[i].2.b) /\
   bM V (hF #[dQ b1,qD p1 n1 c1,dQ b2,qD p2 n2 c2,dQ b3,qD p3 n3 c3]) al[i].1 /\
   mO V (hF #[dQ b,qD q1 m1 e1,qD q2 m2 e2,dQ d,qD q3 m3 e3,qD q4 m4 e4,dQ al[i].2.a,dQ al[i].2.b]) al[i].2:=by have ⟨f,e,xs,l,g,c⟩:=h.at_ i hi;obtain ⟨_,_,_,_,_,_,_,_,_,_,_,_,_,_,_,_,_,_,_,_,_,_,_,_,_,_,ex,j,k⟩:=g;have ex:=congrArg Array.toList (Value.agg.inj ex);subst ex;refine ⟨?_,_,_,_,_,_,_,_,_,_,_,_,_,_,_,_,_,_,_,_,_,_,_,_,_,_,_,f,e,c 0 _ rfl,c 1 _ rfl,c 2 _ rfl,c 3 _ rfl,c 4 _ rfl,c 5 _ rfl,c 6 _ rfl,c 7 _ rfl,c 8 _ rfl,c 9 _ rfl,c 10 _ rfl,c 11 _ rfl,c 12 _ rfl,c 13 _ rfl,j,k⟩;(cases p with|none=>{cases e}|some a=>rfl)
theorem U_ {x:L3×Sp}(h:rX V (.agg xs.toArray) x):∀v∈xs,v.oneCell'=true:=by have ⟨_,_,_,_,_,_,_,_,_,_,_,_,_,_,_,_,_,_,_,_,_,_,_,_,_,_,ex⟩:=Ja h;have ex:=congrArg Array.toList (Value.agg.inj ex);subst ex;exact MO
theorem TM {x y:Rat}(h:Xa V v x y){k:Nat}(s1:Sz k x)(s2:Sz k y)(hk:k<=274877906944:=by omega):aa prog 181 #[v] V λr V'=>RP V' r x y:=by obtain ⟨_,_,_,_,_,_,_,_,_,_,_,_,_,_,rfl,e,f⟩:=h;refine JX V _ λn c=>(PY (e.le c) s1 hk).s ?_;rintro r V2 g ⟨o,p,q,s,t,u,rfl,i,j⟩;refine qyW ⟨rfl,λw b=>(PY (f.le (c.m (g.m b))) s2 hk).s ?_⟩;rintro r z d ⟨A,B,C,D,E,F,rfl,l,m⟩;exact qyW ⟨rfl,λG a=>⟨_,_,_,_,_,_,_,_,_,_,_,_,rfl,⟨_,_,_,_,_,_,rfl,i.le (b.m (d.m a)),j.le (b.m (d.m a))⟩,⟨_,_,_,_,_,_,rfl,l.le a,m.le a⟩⟩⟩
end Go.Proofs.Tryz
