import Derived.Test.YtlhmddanbgcbjaaGreatDoorF19
import Derived.Test.YtlhmddanbgcbjaaGreatDoorF10
set_option linter.all false
open Go.IntKind (i64 u64 u32)
open Go.Value renaming slice→zF,agg→hF,bool→dB,pointer→dS,tuple→tN,int→Ô
open Go.Eng Go.Big
namespace Go.Proofs.Tryz
variable{l:L3}{S c:List L3}{V:Ó}{n:Nat}{v:Value}{vs:List Value}
def Rk (C:Rat×Rat->Prop):Prop:=∀p q,C p->C q->∀s:Rat,0<s->s<1->C (p.1+s*(q.1-p.1),p.2+s*(q.2-p.2))
def CG (C:Rat×Rat->Prop)(l:L3)(x:Rat×Rat):Prop:=C x/\0<ar l x.1 x.2
theorem Rk.sd {C:Rat×Rat->Prop}(h:Rk C)(l:L3):Rk (CG C l):=λp q ⟨d,f⟩ ⟨g,i⟩ s c s1=>by
 refine ⟨h p q d g s c s1,?_⟩;have e:ar l (p.1+s*(q.1-p.1)) (p.2+s*(q.2-p.2))=(1-s)*ar l p.1 p.2+s*ar l q.1 q.2:=by unfold ar;grind
 have a:=ń (show 0<1-s by grind) f;have b:=ń c i;rw [e];grind
def Ln:(Rat×Rat->Prop)->Tr->Prop
 | _,.leaf _=>True
 | C,.node l x y=>(∃q,CG C l q)/\(∃q,CG C (Õ l) q)/\Ln (CG C l) x/\Ln (CG C (Õ l)) y
def MB (l:L3):Tr->Nat
 | .leaf _=>0
 | .node m x y=>(if m=l\/m=Õ l then 1 else 0)+(MB l x+MB l y)
theorem betw {z1 z2 p:Rat}(h:z1<p/\p<z2\/z2<p/\p<z1):∃s:Rat,0<s/\s<1/\p=z1+s*(z2-z1):=by have c:z2-z1≠0:=χ;have e:=Qn8 _ c;refine ⟨(p-z1)*(z2-z1)⁻¹,?_,?_,χ⟩<;>{rcases h with ⟨d,f⟩|⟨d,f⟩;{have i:=Wz7.2 (show 0<z2-z1 by grind);have a:=ń (show 0<p-z1 by grind) i;have b:=ń (show 0<z2-p by grind) i;grind};{have g:=Qn8 _ (show z1-z2≠0 by grind);have i:=Wz7.2 (show 0<z1-z2 by grind);have a:=ń (show 0<z1-p by grind) i;have b:=ń (show 0<p-z2 by grind) i;have:(z2-z1)⁻¹=-(z1-z2)⁻¹:=χ;rw [this];grind}}
theorem Rk.line {C:Rat×Rat->Prop}(h:Rk C){z1 z2 p:Rat}(h1:C (cT l z1,cW l z1))(h2:C (cT l z2,cW l z2))(hb:z1<p/\p<z2\/z2<p/\p<z1):C (cT l p,cW l p):=by obtain ⟨s,a,s1,rfl⟩:=betw hb;have:=h _ _ h1 h2 s a s1;have b:cT l z1+s*(cT l z2-cT l z1)=cT l (z1+s*(z2-z1)):=by{unfold cT;grind};have c:cW l z1+s*(cW l z2-cW l z1)=cW l (z1+s*(z2-z1)):=by{unfold cW;grind};grind
theorem par_at (h:Nz l){x y:Rat}(hv:ar l x y=0):cT l (lG l x y)=x/\cW l (lG l x y)=y:=by have a:=Qn8 _ h.norm;unfold ar at hv;unfold cT cW lG;unfold fR at *;constructor<;>grind
theorem Rk.meets {C:Rat×Rat->Prop}(h:Rk C)(ol:bX l=true){p q:Rat×Rat}(h1:CG C l p)(h2:CG C (Õ l) q):∃z,C (cT l z,cW l z):=by obtain ⟨a,v1⟩:=h1;obtain ⟨d,v2⟩:=h2;rw [val_rev] at v2;have f:ar l p.1 p.2-ar l q.1 q.2≠0:=χ;have e:=Qn8 _ f;have i:=Wz7.2 (show 0<ar l p.1 p.2-ar l q.1 q.2 by grind);have b:=ń v2 i;have c:=h p q a d (ar l p.1 p.2*(ar l p.1 p.2-ar l q.1 q.2)⁻¹) (ń v1 i) χ;generalize hs:ar l p.1 p.2*(ar l p.1 p.2-ar l q.1 q.2)⁻¹=s at *;have v0:ar l (p.1+s*(q.1-p.1)) (p.2+s*(q.2-p.2))=0:=by{have g:ar l (p.1+s*(q.1-p.1)) (p.2+s*(q.2-p.2))=ar l p.1 p.2-s*(ar l p.1 p.2-ar l q.1 q.2):=by{unfold ar;grind};rw [g,<-hs];grind};refine ⟨lG l (p.1+s*(q.1-p.1)) (p.2+s*(q.2-p.2)),?_⟩<;>grind [par_at,jo]
theorem J4 (ol:bX l=true):∀{t:Tr} {C:Rat×Rat->Prop},Ln C t->Rk C->t.dV (λm=>bX m=true)->MB l t≠0->∃z,C (cT l z,cW l z)
 | .leaf _,C,_,_,_,h=>Å rfl h
 | .node m x y,C,⟨⟨q1,g1⟩,⟨q2,g2⟩,hx,hy⟩,hC,⟨om,ox,oy⟩,h=>by
  unfold MB at h;split at h
  ·grind [hC.meets,rev_rev]
  ·by_cases k:MB l x=0
   ·have ⟨z,hz⟩:=J4 ol hy (hC.sd _) oy ω;exact ⟨z,hz.1⟩
   ·have ⟨z,hz⟩:=J4 ol hx (hC.sd _) ox k;exact ⟨z,hz.1⟩
open Classical in
theorem ME (ol:bX l=true){P:pz Rat}:∀{t:Tr} {C:Rat×Rat->Prop},Ln C t->Rk C->t.dV (λm=>bX m=true)->Crs l P t->MB l t<=1+P.countP λp=>decide (C (cT l p,cW l p))
 | .leaf _,C,_,_,_,_=>â _
 | .node m x y,C,⟨⟨q1,g1⟩,⟨q2,g2⟩,hx,hy⟩,hC,⟨om,ox,oy⟩,⟨cm,cx,cy⟩=>by
  unfold MB;have ne:∀{z:Rat},ar l (cT l z) (cW l z)=0:=λ{z}=>(j7 (jo ol) z).1
  have sub:∀k:L3,P.countP (λp=>decide (CG C k (cT l p,cW l p)))<=P.countP λp=>decide (C (cT l p,cW l p)):=λk=>List.countP_mono_left λp _ h=>by
   simp only [Ñ] at h ⊢;exact h.1
  split
  ·rename_i e
   have zero:∀{k:L3} {t:Tr},(k=l\/k=Õ l)->Ln (CG C k) t->t.dV (λm=>bX m=true)->MB l t=0:=λ{k t} u h o=>by
    by_cases z:MB l t=0
    ·exact z
    ·obtain ⟨w,-,hw⟩:=J4 ol h (hC.sd _) o z;rcases u with rfl|rfl
     ·rw [ne] at hw;exact Å hw φ
     ·rw [val_rev,ne] at hw;exact Å hw φ
   rw [zero e hx ox,zero (by rcases e with rfl|rfl;exact .inr rfl;exact .inl (rev_rev _)) hy oy];omega
  ·have A:=ME ol hx (hC.sd _) ox cx;have B:=ME ol hy (hC.sd _) oy cy;have s1:=sub m;have s2:=sub (Õ m);by_cases v:MB l x=0
   ·omega
   ·by_cases D:MB l y=0
    ·omega
    ·have ⟨d,E,n⟩:=J4 ol hx (hC.sd _) ox v;have ⟨i,F,j⟩:=J4 ol hy (hC.sd _) oy D;rw [val_rev] at j;rw [pg] at n j;have q:Ú m l≠0:=λh=>by rw [h] at n j;grind
     have G:Ú m l*Ø m l=-j8 m l:=by
      unfold Ø;grind
     have I:d<Ø m l/\Ø m l<i\/i<Ø m l/\Ø m l<d:=by rcases cM (Ú m l) with ⟨g,_⟩|⟨g,_⟩|⟨g,_⟩;{exact Å g q};{right;have t1:Ú m l*(d-Ø m l)>0:=χ;have t2:Ú m l*(Ø m l-i)>0:=χ;exact ⟨by have:=(Qp7 g).1 t2;grind,by have:=(Qp7 g).1 t1;grind⟩};{left;have M:-Ú m l>0:=χ;have t1:-Ú m l*(Ø m l-d)>0:=χ;have t2:-Ú m l*(i-Ø m l)>0:=χ;grind [Rat.mul_pos_iff_of_pos_left]}
     have N:ar m (cT l (Ø m l)) (cW l (Ø m l))=0:=by rw [pg,G];grind
     have r:0<P.countP λc=>decide (c=Ø m l):=Qr6.2 ⟨_,cm q,ψ⟩
     have H:=Zy (f:=λp=>decide (CG C m (cT l p,cW l p))) (g:=λp=>decide (CG C (Õ m) (cT l p,cW l p))) (h:=λc=>decide (c=Ø m l)) (k:=λp=>decide (C (cT l p,cW l p))) (λc=>by
      by_cases e:c=Ø m l
      ·subst e;have J:¬CG C m (cT l (Ø m l),cW l (Ø m l)):=λh=>by{have:=h.2;dsimp only at this;grind};have K:¬CG C (Õ m) (cT l (Ø m l),cW l (Ø m l)):=λh=>by{have:=h.2;dsimp only at this;rw [val_rev] at this;grind};simp [J,K,(hC.line E F I)]
      ·by_cases a:CG C m (cT l c,cW l c)
       ·have b:¬CG C (Õ m) (cT l c,cW l c):=λh=>by{have s:=h.2;have L:=a.2;dsimp only at s L;rw [val_rev] at s;grind};simp [a,b,e,a.1]
       ·by_cases b:CG C (Õ m) (cT l c,cW l c)
        ·simp [a,b,e,b.1]
        ·simp [a,b,e]) P
     omega
theorem UR {α:Type}{f g:α->Nat}:∀{S:pz α},(∀x∈S,f x<=g x)->(S.map f).sum<=(S.map g).sum
 | [],_=>Ù _
 | x::S,h=>by
  have:=h x (þ ..);have:=UR (S:=S) λy a=>h y (ó _ a);grind
theorem sum_add {α:Type}{f g:α->Nat}:∀S:pz α,(S.map λx=>f x+g x).sum=(S.map f).sum+(S.map g).sum
 | []=>rfl
 | x::S=>by simp only [Ļ,Wz8,sum_add S];omega
theorem Gl {α:Type}{k:Nat}:∀S:pz α,(S.map λ_=>k).sum=S.length*k
 | []=>ψ
 | x::S=>by simp only [Ļ,Wz8,Gl S,Ą,đ];omega
theorem CK:∀{t:Tr},t.dV (·∈ S)->t.size<=(S.map λl=>MB l t).sum
 | .leaf _,_=>â _
 | .node m x y,⟨hm,hx,hy⟩=>by
  have A:=CK hx;have B:=CK hy
  have e:(S.map λl=>MB l (.node m x y)).sum=(S.map λl=>if m=l\/m=Õ l then 1 else 0).sum+((S.map λl=>MB l x).sum+(S.map λl=>MB l y).sum):=by
   rw [<-sum_add,<-sum_add];rfl
  have one:1<=(S.map λl=>if m=l\/m=Õ l then 1 else 0).sum:=by
   clear A B e hx hy
   induction S<;>grind
  grind [Tr.size]
theorem LZ {t:Tr}(h:t.dV (·∈ S)):Crs l (S.map λm=>Ø m l) t:=h.imp λm hm _=>ò.2 ⟨m,hm,rfl⟩
theorem UI {t:Tr}{C:Rat×Rat->Prop}(h:Ln C t)(hC:Rk C)(ht:t.dV (·∈ S))(ho:∀l∈S,bX l=true):t.size<=S.length*(1+S.length):=by refine ā (CK ht) ?_;rw [<-Gl (k:=1+S.length) S];exact UR λl a=>ā (ME (ho l a) h hC (ht.imp λm hm=>ho m hm) (LZ ht)) (Nat.add_le_add_left (ā (List.countP_le_length ..) (by rw [ď];exact Ù _)) 1)
theorem Ln.jn {C:Rat×Rat->Prop}{x y:Tr}(h:Ln C (.node l x y)):Ln C (P9 l x y):=by unfold P9;split;{split;{trivial};{exact h}};{exact h}
theorem dV.jn {q:L3->Prop}{x y:Tr}(h:(Tr.node l x y).dV q):(P9 l x y).dV q:=by unfold P9;split;{split;{trivial};{exact h}};{exact h}
theorem ZA {x y:Tr}:(P9 l x y).depth<=(Tr.node l x y).depth:=by unfold P9;split;{split;{exact â _};{exact Ù _}};{exact Ù _}
theorem Wk (c:pz L3):Rk (aw.pos c):=by
 induction c with
 | nil=>exact λp q _ _ s _ _ m hm=>nomatch hm
 | cons l c ih=>
  have e:aw.pos (l::c)=CG (aw.pos c) l:=by funext q;refine propext ⟨λh=>⟨λm hm=>h m (ó _ hm),h l (þ ..)⟩,λh m hm=>?_⟩;rcases å.1 hm with rfl|hm;{exact h.2};{exact h.1 m hm}
  rw [e];exact ih.sd l
theorem Hw {q:Rat×Rat}:aw.pos (c++[l]) q↔CG (aw.pos c) l q:=
 ⟨λh=>⟨λm hm=>h m (ĭ _ hm),h l ψ⟩,λh m hm=>(õ.1 hm).elim (h.1 m) λg=>by rw [ö.1 g];exact h.2⟩
theorem Oz (hc:∀m∈c,bX m=true)(hl:bX l=true)(h:∃q,CG (aw.pos c) l q):aw.pos (uv c l)=CG (aw.pos c) l:=by have a:∀m∈c++[l],bX m=true:=λm hm=>(õ.1 hm).elim (hc m) λg=>by{rw [ö.1 g];exact hl};have ⟨b,d⟩:=Sj a;(cases e:tI (c++[l]) [] [] with|none=>{obtain ⟨q,f⟩:=h;exact Å ⟨q,Hw.2 f⟩ (d e).2.2}|some k=>{obtain ⟨i,j,-⟩:=b k e;funext q;refine propext ?_;rw [<-Hw];unfold uv;rw [i];refine Iff.trans ⟨λg s n=>g _ (ò.2 ⟨s,n,rfl⟩),λg m hm=>?_⟩ ((((Jd j (λm hm=>a m (Qf2.1 hm)))) q).2.m (Xk q).symm)<;>grind})
theorem Xi (hc:∀m∈c,bX m=true)(hl:bX l=true)(ne:∃q,aw.pos c q)(h1:Ct c l≠1)(h2:Ct c l≠-1):(∃q,CG (aw.pos c) l q)/\∃q,CG (aw.pos c) (Õ l) q:=by have add:∀{m:L3},bX m=true->(BS (c++[m])=true->∃q,CG (aw.pos c) m q):=λ{m} hm h=>by{obtain ⟨q,a⟩:=(S6 (λx b=>(õ.1 b).elim (hc x) λh=>by rw [ö.1 h];exact hm)).1 h;exact ⟨q,Hw.1 a⟩};unfold Ct at h1 h2;split at h1;{rename_i g;exact ⟨add hl g.1,add (xH hl) g.2⟩};grind
structure Lo (q:L3->Prop) (d:Nat) (C:Rat×Rat->Prop) (t:Tr):Prop where
 prp:Ln C t
 all:t.dV q
 dep:t.depth<=d
theorem Lo.node {q:L3->Prop}{d:Nat}{x y:Tr}(hc:∀m∈c,bX m=true)(hl:bX l=true)(hq:q l)(ne:∃q,aw.pos c q)(h1:Ct c l≠1)(h2:Ct c l≠-1)(hx:(∃q,aw.pos (uv c l) q)->Lo q d (aw.pos (uv c l)) x)(hy:(∃q,aw.pos (uv c (Õ l)) q)->Lo q d (aw.pos (uv c (Õ l))) y):Lo q (d+1) (aw.pos c) (P9 l x y):=by have ⟨a,b⟩:=Xi hc hl ne h1 h2;rw [Oz hc hl a] at hx;rw [Oz hc (xH hl) b] at hy;have hx:=hx a;have hy:=hy b;refine ⟨Ln.jn ⟨a,b,hx.prp,hy.prp⟩,dV.jn ⟨hq,hx.all,hy.all⟩,ā ZA ?_⟩<;>grind [hx.dep,hy.dep,Tr.depth]
theorem AQ (hc:∀m∈c,bX m=true)(hl:bX l=true):∀m∈uv c l,bX m=true:=λm hm=>by rcases HJ _ _ _ m hm with g|g<;>grind
theorem Lo.s {q:L3->Prop}{d e:Nat}{C:Rat×Rat->Prop}{t:Tr}(h:Lo q d C t)(hd:d<=e):Lo q e C t:=⟨h.prp,h.all,ā h.dep hd⟩
theorem tZ {q:L3->Prop}(ho:∀l,q l->bX l=true):∀{t:Tr} {c:pz L3},t.dV q->(∀m∈c,bX m=true)->(∃x,aw.pos c x)->Lo q t.depth (aw.pos c) (tY t c)
 | .leaf i,c,_,_,_=>⟨trivial,trivial,Ù _⟩
 | .node l x y,c,⟨ql,qx,qy⟩,hc,ne=>by
  have hl:=ho l ql;unfold tY;simp only [Tr.depth];split
  ·exact (tZ ho qx hc ne).s ω
  ·split
   ·exact (tZ ho qy hc ne).s ω
   ·rename_i a b;refine (Lo.node (d:=max x.depth y.depth) hc hl ql ne a b (λg=>(tZ ho qx (AQ hc hl) g).s ω) (λg=>(tZ ho qy (AQ hc (xH hl)) g).s ω)).s ω
theorem Ln.not:∀{t:Tr} {C:Rat×Rat->Prop},Ln C t->Ln C (Hp t)
 | .leaf _,_,_=>trivial
 | .node _ _ _,_,⟨a,b,c,d⟩=>⟨a,b,Ln.not c,Ln.not d⟩
theorem dV.not {q:L3->Prop}:∀{t:Tr},t.dV q->(Hp t).dV q
 | .leaf _,_=>trivial
 | .node _ _ _,⟨a,b,c⟩=>⟨a,dV.not b,dV.not c⟩
theorem G5:∀t:Tr,(Hp t).depth=t.depth
 | .leaf _=>rfl
 | .node _ x y=>by simp only [Hp,Tr.depth,G5 x,G5 y]
theorem Lo.not {q:L3->Prop}{d:Nat}{C:Rat×Rat->Prop}{t:Tr}(h:Lo q d C t):Lo q d C (Hp t):=⟨h.prp.not,dV.not h.all,by rw [G5];exact h.dep⟩
def qD (op:Int):Tr->Tr->List L3->Tr
 | .leaf i,b,c=>if op=1/\i=true then .leaf true else if (op=2\/op=3)/\i=false then .leaf false else if (op=3\/op=4)/\i=true then Hp (tY b c) else tY b c
 | .node l x y,b,c=>if Ct c l=1 then qD op x b c else if Ct c l=-1 then qD op y b c else P9 l (qD op x b (uv c l)) (qD op y b (uv c (Õ l)))
theorem Ch {q:L3->Prop}(ho:∀l,q l->bX l=true){op:Int}{b:Tr}(hb:b.dV q):∀{a:Tr} {c:pz L3},a.dV q->(∀m∈c,bX m=true)->(∃x,aw.pos c x)->Lo q (a.depth+b.depth) (aw.pos c) (qD op a b c)
 | .leaf i,c,_,hc,ne=>by
  have R:Lo q ((Tr.leaf i).depth+b.depth) (aw.pos c) (tY b c):=(tZ ho hb hc ne).s ω;unfold qD;split
  ·exact ⟨trivial,trivial,â _⟩
  ·split
   ·exact ⟨trivial,trivial,â _⟩
   grind [R.not]
 | .node l x y,c,⟨ql,qx,qy⟩,hc,ne=>by
  have e:=ho l ql;unfold qD;simp only [Tr.depth];split
  ·exact (Ch ho hb qx hc ne).s ω
  ·split
   ·exact (Ch ho hb qy hc ne).s ω
   ·rename_i f h;refine (Lo.node (d:=max x.depth y.depth+b.depth) hc e ql ne f h (λg=>(Ch ho hb qx (AQ hc e) g).s ω) (λg=>(Ch ho hb qy (AQ hc (xH e)) g).s ω)).s ω
theorem Ly:∀t:Tr,t.dV (·∈ t.eU)
 | .leaf _=>trivial
 | .node l x y=>⟨þ ..,(Ly x).imp λ_ h=>ó _ (ĭ _ h),(Ly y).imp λ_ h=>ó _ (Ľ _ h)⟩
def nY (V:Ó)(v:Value)(x:L3×Sp):Prop:=uB V v x.1 x.2
theorem CC {V:ut}{xs:pz un}{x:L3×Sp}(h:nY V (.agg xs.toArray) x):∀v∈xs,v.oneCell'=true:=by obtain ⟨_,_,_,_,_,_,_,_,_,_,_,_,_,_,_,ex,-,-⟩:=h;have ex:=Æ Array.toList (Value.agg.inj ex);subst ex;intro v a;simp only [å,Ě,Ì] at a;rcases a with rfl|rfl|rfl|rfl|rfl|rfl|rfl|rfl|rfl|rfl|rfl|rfl|rfl|rfl|rfl|rfl|rfl<;>rfl
theorem VO {p:OA}{c:Nat}{fs:pz (L3×Sp)}(h:y_ V p n fs)(hn:fs.length<=1000000){k:Nat}(hs:∀f∈fs,iH k f.1/\f.2.sz k)(ho:∀f∈fs,U9 f.1 f.2)(hk:4*k+4<2^40:=by omega):À 63 #[zF p n c] V λr V'=>∃q m e,r=tN #[zF q m e,dB true]/\bP 17 nY V' q m fs/\(fs=[]->q=none):=by obtain rfl:=h.len;refine H7 V _ ⟨λz V'=>∃j:Nat,z.2.2.2=(j:Int)/\j<=fs.length/\GR 17 nY V' z.1 z.2.1 z.2.2.1 (fs.take j)/\(j=0->z.2.1=0),λz=>fs.length-z.2.2.2.toNat,⟨(0,0,[],0),σ,0,rfl,â _,GR.nil,λ_=>rfl⟩,?_⟩;rintro ⟨C,D,N,O⟩ P E ⟨j,u,Q,d,o⟩;dsimp only at u d o;subst u;have s:=d.len;refine ⟨rfl,λb=>?_,λb R F S G=>?_⟩;rotate_left;{have b:¬(j:Int)<fs.length:=Â b;obtain rfl:j=fs.length:=ω;rw [ě] at d s;subst s;exact ⟨_,_,D,rfl,bP.bM G (d.row.le λ_ _ g=>uB.le g F) φ d.le,λh=>by rw [h] at o;rw [o rfl];rfl⟩};have b:(j:Int)<fs.length:=Á b;have i:j<fs.length:=ω;have w:i64.wrap ((j:Int)+1)=((j+1:Nat):Int):=by{rw [au ω];rfl};dsimp only;rw [Ý,w];obtain ⟨H,v,xs,y,a⟩:=(h.le E).at_ j i;have t:=y;obtain ⟨_,_,_,_,_,_,_,_,_,_,_,_,_,_,_,_,_,_,_,_,_,_,_,_,_,_,ex,-,-⟩:=y;have ex:=Æ Array.toList (Value.agg.inj ex);dsimp only at ex;subst ex;have ⟨s1,s2⟩:=hs _ (ù i);rw [é] at s;refine ⟨aQ v,⟨ω,ω⟩,_,_,_,_,_,_,_,_,_,_,_,_,_,_,_,_,_,_,_,_,_,_,_,_,_,_,_,_,H,v,a 0 _ rfl,a 1 _ rfl,a 2 _ rfl,a 3 _ rfl,a 4 _ rfl,a 5 _ rfl,a 6 _ rfl,a 7 _ rfl,a 8 _ rfl,a 9 _ rfl,a 10 _ rfl,a 11 _ rfl,a 12 _ rfl,a 13 _ rfl,λV2 A=>(Fk (t.le A) (ho _ (ù i)) s1 s2 hk).s ?_⟩;rintro r I J ⟨w,rfl,B⟩;have l:=B;obtain ⟨_,_,_,_,_,_,_,_,_,_,_,_,_,_,_,rfl,-,-⟩:=B;refine ⟨_,_,_,_,_,_,_,_,_,_,_,_,_,_,_,_,_,_,rfl,ţ,λ_=>⟨ω,d.le,d.cap,rfl,CC (V:=I) (x:=fs[j]) l,λsp K L M=>⟨(C+1,K,_,((j+1:Nat):Int)),by dsimp only;omega,σ,j+1,rfl,i,?_,λh=>nomatch h⟩⟩⟩;rw [<-Qj6 i];exact (d.s λ_ _ g=>uB.le g (A.m J)).snoc rfl l φ L M
def gi:L3×Sp:=((0,0,0),⟨0,0,false,false⟩)
def tA (a b:L3×Sp):Int:=jR a.1 b.1
theorem T5:œ tA:=⟨λa b h=>T6.Zq a.1 b.1 h,λa b d h c=>T6.tr a.1 b.1 d.1 h c⟩
def Ra (V:Ó)(v:Value)(c:L3×Sp):Prop:=uB V v c.1 c.2/\iH 10000 c.1
theorem Ra.le {V V':ut}{c:L3×Sp}(h:Ra V v c)(l:V.Le V'):Ra V' v c:=⟨h.1.le l,h.2⟩
theorem Ra.shape {c:L3×Sp}(h:Ra V v c):∃(x y:Int)(p:OA)(xb yb:Int)(pb:OA)(xc yc:Int)(pc:OA)(xd yd:Int)(pd:OA)(xe ye:Int)(pe:OA)(fa fb:md),v=hF #[Ô .i64 x,Ô .i64 y,dS p,Ô .i64 xb,Ô .i64 yb,dS pb,Ô .i64 xc,Ô .i64 yc,dS pc,Ô .i64 xd,Ô .i64 yd,dS pd,Ô .i64 xe,Ô .i64 ye,dS pe,dB fa,dB fb]:=by obtain ⟨⟨_,_,_,_,_,_,_,_,_,_,_,_,_,_,_,e,-⟩,-⟩:=h;exact ⟨_,_,_,_,_,_,_,_,_,_,_,_,_,_,_,_,_,e⟩
theorem oe {w:un}{a b:L3×Sp}(h:Ra V v a)(h':Ra V w b):À 121 #[v,w] V λr V'=>r=Ô .i64 (tA a b):=by obtain ⟨⟨_,_,_,_,_,_,_,_,_,_,_,_,_,_,_,rfl,f,-⟩,c⟩:=h;obtain ⟨⟨_,_,_,_,_,_,_,_,_,_,_,_,_,_,_,rfl,g,-⟩,d⟩:=h';refine xT V _ λi e=>(wR (f.le e) (g.le e) c.1 c.2.1 c.2.2 d.1 d.2.1 d.2.2).s ?_;rintro r V2 j rfl;rw [Kb];exact ⟨_,rfl,λk l=>rfl⟩
structure uC (V:Ó) (n:Nat) (vs:List Value) (l:List (L3×Sp)):Prop where
 row:ç 17 Ra V vs l
 len:n=l.length
 mN:l.length<10000
theorem uC.le {V V':ut}{l:pz (L3×Sp)}(h:uC V n vs l)(e:V.Le V'):uC V' n vs l:=⟨h.row.le λ_ _ g=>Ra.le g e,h.len,h.mN⟩
theorem uC.get {l:pz (L3×Sp)}(h:uC V n vs l){k:Nat}(hk:k<l.length):∃(x y:Int)(p:OA)(xb yb:Int)(pb:OA)(xc yc:Int)(pc:OA)(xd yd:Int)(pd:OA)(xe ye:Int)(pe:OA)(fa fb:md),((0+k*17)+17<=vs.length/\(vs.drop (0+k*17)).take 17=[Ô .i64 x,Ô .i64 y,dS p,Ô .i64 xb,Ô .i64 yb,dS pb,Ô .i64 xc,Ô .i64 yc,dS pc,Ô .i64 xd,Ô .i64 yd,dS pd,Ô .i64 xe,Ô .i64 ye,dS pe,dB fa,dB fb])/\Ra V (hF #[Ô .i64 x,Ô .i64 y,dS p,Ô .i64 xb,Ô .i64 yb,dS pb,Ô .i64 xc,Ô .i64 yc,dS pc,Ô .i64 xd,Ô .i64 yd,dS pd,Ô .i64 xe,Ô .i64 ye,dS pe,dB fa,dB fb]) (l.getD k gi):=by obtain ⟨xs,-,a,b,c⟩:=h.row.get (d:=gi) hk φ;obtain ⟨x,y,p,xb,yb,pb,xc,yc,pc,xd,yd,pd,xe,ye,pe,fa,fb,e⟩:=a.shape;have e:=Æ Array.toList (Value.agg.inj e);dsimp only at e;subst e;rw [ą];exact ⟨x,y,p,xb,yb,pb,xc,yc,pc,xd,yd,pd,xe,ye,pe,fa,fb,⟨b,c⟩,a⟩
theorem uC.swap {l:pz (L3×Sp)}(h:uC V n vs l){i j:Nat}(hi:i<l.length)(hj:j<l.length){x y:Int}{p:OA}{xb yb:Int}{pb:OA}{xc yc:Int}{pc:OA}{xd yd:Int}{pd:OA}{xe ye:Int}{pe:OA}{fa fb:md}{x' y':Int}{p':OA}{xb' yb':Int}{pb':OA}{XY yc':Int}{pc':OA}{xd' yd':Int}{pd':OA}{xe' ye':Int}{pe':OA}{fa' fb':md}(h1:Ra V (hF #[Ô .i64 x,Ô .i64 y,dS p,Ô .i64 xb,Ô .i64 yb,dS pb,Ô .i64 xc,Ô .i64 yc,dS pc,Ô .i64 xd,Ô .i64 yd,dS pd,Ô .i64 xe,Ô .i64 ye,dS pe,dB fa,dB fb]) (l.getD i gi))(h2:Ra V (hF #[Ô .i64 x',Ô .i64 y',dS p',Ô .i64 xb',Ô .i64 yb',dS pb',Ô .i64 XY,Ô .i64 yc',dS pc',Ô .i64 xd',Ô .i64 yd',dS pd',Ô .i64 xe',Ô .i64 ye',dS pe',dB fa',dB fb']) (l.getD j gi)):(0+i*17)+17<=vs.length/\(0+j*17)+17<=(bC vs (0+i*17) [Ô .i64 x',Ô .i64 y',dS p',Ô .i64 xb',Ô .i64 yb',dS pb',Ô .i64 XY,Ô .i64 yc',dS pc',Ô .i64 xd',Ô .i64 yd',dS pd',Ô .i64 xe',Ô .i64 ye',dS pe',dB fa',dB fb']).length/\uC V n (bC (bC vs (0+i*17) [Ô .i64 x',Ô .i64 y',dS p',Ô .i64 xb',Ô .i64 yb',dS pb',Ô .i64 XY,Ô .i64 yc',dS pc',Ô .i64 xd',Ô .i64 yd',dS pd',Ô .i64 xe',Ô .i64 ye',dS pe',dB fa',dB fb']) (0+j*17) [Ô .i64 x,Ô .i64 y,dS p,Ô .i64 xb,Ô .i64 yb,dS pb,Ô .i64 xc,Ô .i64 yc,dS pc,Ô .i64 xd,Ô .i64 yd,dS pd,Ô .i64 xe,Ô .i64 ye,dS pe,dB fa,dB fb]) (HU gi l i j):=by obtain ⟨-,-,-,a,-⟩:=h.row.get (d:=gi) hi φ;obtain ⟨-,-,-,b,-⟩:=h.row.get (d:=gi) hj φ;rw [ą,ą];refine ⟨a,by rw [yR (by exact a)];exact b,h.row.swap hi hj φ rfl rfl h1 h2,by rw [HV];exact h.len,by rw [HV];exact h.mN⟩
def Lv (lb n:Nat)(l:List (L3×Sp))(a b:Nat)(V':Ó)(Q:List (L3×Sp)->Prop):Prop:=∃vs' l',V'.w.heap[lb]?=some (.cells vs'.toArray 137 (0,0))/\uC V' n vs' l'/\tu gi l l' a b/\Q l'
theorem ni {V:ut}{lb c:Nat}{l:pz (L3×Sp)}(hw:V.w.heap[lb]?=some (.cells vs.toArray 137 (0,0)))(hx:V.X lb)(h:uC V n vs l){a b:Nat}(hab:a<=b)(hb:b<=l.length:=by omega):À 210 #[zF (some ⟨lb,0,none⟩) n c,Ô .i64 a,Ô .i64 b,.func (.func 121) #[] #[]] V λr V'=>r=tN #[]/\Lv lb n l a b V' λl'=>pj tA gi l' a b:=by
 have mN:=h.mN;have len:=h.len;have wa:i64.wrap ((a:Int)+1)=((a+1:Nat):Int):=by rw [au ω];omega
 refine iY lb n c vs a b V _ hw hx ⟨λz V'=>∃(i:Nat)(m:pz (L3×Sp)),z.1=(i:Int)/\a<i/\(i<=b\/i=a+1)/\uC V' n z.2 m/\tu gi l m a b/\pj tA gi m a i,λz=>(b-z.1).toNat,
  ⟨(_,vs),σ,a+1,l,wa,ω,.inr rfl,h,.refl _ _ _,.short ω⟩,?_⟩
 rintro ⟨z,us⟩ V1 l1 ⟨i,m,e,a0,q,f,d,o⟩;dsimp only at e f;subst e;dsimp only;have ml:=d.len;refine ⟨rfl,λg=>?_,λg V6 l6 Y=>⟨rfl,us,m,Y,f.le l6,d,?_⟩⟩
 ·have g:=Á g;have w2:i64.wrap ((i:Int)+1)=((i+1:Nat):Int):=by rw [au ω];omega
  rw [w2];refine ⟨λz V'=>∃(j:Nat)(k:pz (L3×Sp)),z.1=(j:Int)/\a<=j/\j<=i/\uC V' n z.2 k/\tu gi l k a b/\X2 tA gi k a i j,λz=>z.1.toNat,⟨((i:Int),us),σ,i,m,rfl,ω,Ù _,f,d,.start o⟩,?_⟩;rintro ⟨z,ws⟩ V2 l2 ⟨j,k,e,a1,T,f,d,p⟩;dsimp only at e f;subst e;dsimp only;have kl:=d.len;refine ⟨rfl,λz V'=>V2.Le V'/\(z=true->a<j/\tA (k.getD j gi) (k.getD (j-1) gi)<0)/\(z=false->j<=a\/¬tA (k.getD j gi) (k.getD (j-1) gi)<0),⟨λs=>?_,λs=>?_⟩,?_⟩
  ·have s:=Á s;have Z:i64.wrap ((j:Int)-1)=((j-1:Nat):Int):=by{rw [au ω];omega};rw [Z,Ý,Ý];obtain ⟨x1,y1,p1,Vt,Vv,Vp,Vu,Vw,u,v,x,y,A,B,C,D,E,g1,r1⟩:=f.get (k:=j) ω;obtain ⟨x2,y2,p2,F,G,H,I,J,K,L,M,N,O,P,Q,R,S,g2,r2⟩:=f.get (k:=j-1) ω;refine ⟨⟨ω,ω⟩,x1,y1,p1,Vt,Vv,Vp,Vu,Vw,u,v,x,y,A,B,C,D,E,g1,⟨ω,ω⟩,x2,y2,p2,F,G,H,I,J,K,L,M,N,O,P,Q,R,S,g2,λV3 l3=>(oe (r1.le l3) (r2.le l3)).s ?_⟩;rintro r V4 l4 rfl;exact ⟨_,rfl,_,σ,l3.m l4,λh=>⟨ω,Á h⟩,λh=>.inr (Â h)⟩
  ·have s:=Â s;exact ⟨false,σ,Ó.Le.refl _,κ,λ_=>.inl ω⟩
  ·rintro t V5 W ⟨lv,t1,t2⟩;refine ⟨rfl,λht=>?_,λht=>⟨(((i+1:Nat):Int),ws),ω,σ,i+1,k,rfl,ω,.inl ω,f.le W,d,p.done T5 T (t2 ht)⟩⟩;have ⟨s,U⟩:=t1 ht;have Z:i64.wrap ((j:Int)-1)=((j-1:Nat):Int):=by rw [au ω];omega
   rw [Z,Ý,Ý];obtain ⟨x1,y1,p1,Vt,Vv,Vp,Vu,Vw,u,v,x,y,A,B,C,D,E,g1,r1⟩:=(f.le W).get (k:=j) ω;obtain ⟨x2,y2,p2,F,G,H,I,J,K,L,M,N,O,P,Q,R,S,g2,r2⟩:=(f.le W).get (k:=j-1) ω;obtain ⟨s1,s2,s3⟩:=(f.le W).swap (i:=j) (j:=j-1) ω ω r1 r2
   exact ⟨⟨ω,ω⟩,x2,y2,p2,F,G,H,I,J,K,L,M,N,O,P,Q,R,S,g2,⟨ω,ω⟩,x1,y1,p1,Vt,Vv,Vp,Vu,Vw,u,v,x,y,A,B,C,D,E,g1,⟨ω,ω⟩,s1,⟨ω,ω⟩,s2,(((j-1:Nat):Int),_),ω,σ,j-1,_,rfl,ω,ω,s3,
    d.m (tu.HU ω ω ω ω),p.move T5 s T ω U⟩
 ·have g:=Â g;rcases q with q|q;{rw [show b=i by omega];exact o};{exact .short ω}
end Go.Proofs.Tryz
namespace Go.Proofs.Tryz
section
variable {α:Type} {c:α->α->Int} {d:α}
structure DQ (d:α) (l l':List α) (s m e:Nat):Prop where
 pT:tu d l l' s e
 lo:∀k,s<=k->k+m<s+e->l'.getD k d=l.getD (k+m-s) d
 hi:∀k,s+e<=k+m->k<e->l'.getD k d=l.getD (k+m-e) d
theorem DQ.nil1 {l:pz α}{m e:Nat}:DQ d l l m m e:=⟨.refl _ _ _,λk _ _=>by rw [Qc9],λk h a=>ω⟩
theorem DQ.nil2 {l:pz α}{s m:Nat}:DQ d l l s m m:=⟨.refl _ _ _,λk h a=>ω,λk _ _=>by rw [Qc9]⟩
structure Vd (d:α) (l l':List α) (a b n:Nat):Prop where
 pT:tu d l l' a (b+n)
 e1:∀k,k<n->l'.getD (a+k) d=l.getD (b+k) d
 e2:∀k,k<n->l'.getD (b+k) d=l.getD (a+k) d
 out:∀k,¬(a<=k/\k<a+n)->¬(b<=k/\k<b+n)->l'.getD k d=l.getD k d
theorem Vd.nil {l:pz α}{a b:Nat}:Vd d l l a b 0:=⟨.refl _ _ _,λk h=>ω,λk h=>ω,λ_ _ _=>rfl⟩
theorem Vd.snoc {l m:pz α}{a b n:Nat}(h:Vd d l m a b n)(ha:a+n<b)(hb:b+n<l.length):Vd d l (HU d m (a+n) (b+n)) a b (n+1):=by have len:=h.pT.len;have e:=λk=>xP (d:=d) (l:=m) (i:=a+n) (j:=b+n) (k:=k) ω;refine ⟨(h.pT.wide (Ù _) ω).m (tu.HU ω ω ω ω),λk f=>?_,λk f=>?_,λk g o=>?_⟩;{rw [e,Ã ω];by_cases c:k=n;{subst c;rw [Ä rfl];exact h.out _ ω ω};{rw [Ã ω];exact h.e1 k ω}};{rw [e];by_cases c:k=n;{subst c;rw [Ä rfl];exact h.out _ ω ω};{rw [Ã ω,Ã ω];exact h.e2 k ω}};{rw [e,Ã ω,Ã ω];exact h.out _ ω ω}
theorem rot_eq {l l':pz α}{m i:Nat}(hi:i<=m)(h:Vd d l l' (m-i) m i):DQ d l l' (m-i) m (m+i):=by refine ⟨h.pT,λk a b=>?_,λk a b=>?_⟩;{have:=h.e1 (k-(m-i)) ω;rwa [show m-i+(k-(m-i))=k by omega,show m+(k-(m-i))=k+m-(m-i) by omega] at this};{have:=h.e2 (k-m) ω;rwa [show m+(k-m)=k by omega,show m-i+(k-m)=k+m-(m+i) by omega] at this}
theorem rot_gt {l n l':pz α}{m i j:Nat}(hi:i<=m)(hj:j<i)(h:Vd d l n (m-i) m j)(g:DQ d n l' (m-(i-j)) m (m+j)):DQ d l l' (m-i) m (m+j):=by refine ⟨h.pT.m (g.pT.wide ω ω),λk b a=>?_,λk b a=>?_⟩;{have:=h.e1 (k-(m-i)) ω;rw [show m-i+(k-(m-i))=k by omega,show m+(k-(m-i))=k+m-(m-i) by omega] at this;rw [<-this];exact g.pT.out k ω};{by_cases c:k+m<m-(i-j)+(m+j);{rw [g.lo k ω c];have:=h.e2 (k+m-(m-(i-j))-m) ω;rw [show m+(k+m-(m-(i-j))-m)=k+m-(m-(i-j)) by omega] at this;rw [this];congr 1;omega};{rw [g.hi k ω a];exact h.out _ ω ω}}
theorem rot_lt {l n l':pz α}{m i j:Nat}(hi:i<=m)(hj:i<j)(h:Vd d l n (m-i) (m+j-i) i)(g:DQ d n l' (m-i) m (m+(j-i))):DQ d l l' (m-i) m (m+j):=by have s:=h.pT;rw [show m+j-i+i=m+j by omega] at s;refine ⟨s.m (g.pT.wide ω ω),λk a b=>?_,λk a b=>?_⟩;{by_cases c:k+m<m-i+(m+(j-i));{rw [g.lo k a c];exact h.out _ ω ω};{by_cases e:k<m+(j-i);{rw [g.hi k ω e];have:=h.e1 (k+m-(m+(j-i))-(m-i)) ω;rw [show m-i+(k+m-(m+(j-i))-(m-i))=k+m-(m+(j-i)) by omega] at this;rw [this];congr 1;omega};{exfalso;omega}}};{rw [g.pT.out k ω];have:=h.e2 (k-(m+j-i)) ω;rw [show m+j-i+(k-(m+j-i))=k by omega] at this;rw [this];congr 1;omega}
theorem GC {l l':pz α}{a s m e b:Nat}(h1:a<=s)(h2:s<=m)(h3:m<=e)(h4:e<=b)(r:DQ d l l' s m e)(u:pj c d l a m)(v:pj c d l m b)(hA:∀x y,a<=x->x<s->e<=y->y<b->¬c (l.getD y d) (l.getD x d)<0)(hB:∀x y,s<=x->x<m->m<=y->y<e->¬c (l.getD x d) (l.getD y d)<0):(∀p q,a<=p->p+m<s+e->s+e<=q+m->q<b->¬c (l'.getD q d) (l'.getD p d)<0)/\pj c d l' a s/\(∀p q,s<=p->p<q->q+m<s+e->¬c (l'.getD q d) (l'.getD p d)<0)/\(∀p q,s+e<=p+m->p<q->q<e->¬c (l'.getD q d) (l'.getD p d)<0)/\pj c d l' e b:=by have o:=λk (h:¬(s<=k/\k<e))=>r.pT.out k h;refine ⟨λp q f g n t=>?_,λp q f g i=>?_,λp q f g i=>?_,λp q f g i=>?_,λp q f g i=>?_⟩;{by_cases w:p<s;{rw [o p ω];by_cases j:q<e;{rw [r.hi q n j];exact u _ _ f ω ω};{rw [o q ω];exact hA _ _ f w ω t}};{rw [r.lo p ω g];by_cases j:q<e;{rw [r.hi q n j];exact hB _ _ ω ω ω ω};{rw [o q ω];exact v _ _ ω ω t}}};{rw [o p ω,o q ω];exact u _ _ f g ω};{rw [r.lo p f ω,r.lo q ω i];exact v _ _ ω ω ω};{rw [r.hi p f ω,r.hi q ω i];exact u _ _ ω ω ω};{rw [o p ω,o q ω];exact v _ _ ω g i}
theorem Zp {l l':pz α}{a e b:Nat}(h3:a+1<=e)(h4:e<=b)(r:DQ d l l' a (a+1) e)(v:pj c d l (a+1) b)(hB:∀y,a+1<=y->y<e->c (l.getD y d) (l.getD a d)<0)(hD:∀y,e<=y->y<b->¬c (l.getD y d) (l.getD a d)<0)(ho:œ c):pj c d l' a b:=by obtain ⟨t1,-,t2,t3,t4⟩:=GC (a:=a) (Ù _) (Ww2 _) h3 h4 r (.short (Ù _)) v (λx y h o=>ω) λx y s t k m=>by{obtain rfl:x=a:=ω;exact ho.Zq _ _ (hB y k m)};intro p q g i f;by_cases u:p+1<e;{by_cases j:q+1<e;{exact t2 p q g i ω};{exact t1 p q g ω ω f}};{by_cases j:p<e;{have n:=r.hi p ω j;rw [n,show p+(a+1)-e=a by omega,r.pT.out q ω];exact hD q ω f};{exact t4 p q ω i f}}
theorem RB {l l':pz α}{a s m:Nat}(h1:a<=s)(h2:s<=m)(r:DQ d l l' s m (m+1))(u:pj c d l a m)(hB:∀x,s<=x->x<m->c (l.getD m d) (l.getD x d)<0)(hC:∀x,a<=x->x<s->¬c (l.getD m d) (l.getD x d)<0)(ho:œ c):pj c d l' a (m+1):=by obtain ⟨t1,t2,-,t4,-⟩:=GC (b:=m+1) h1 h2 (Ww2 _) (Ù _) r u (.short (Ù _)) (λx y _ _ h t=>ω) λx y j k v w=>by{obtain rfl:y=m:=ω;exact ho.Zq _ _ (hB x j k)};intro p q e f g;by_cases n:p<s;{by_cases i:q<s;{exact t2 p q e f i};{by_cases o:q=s;{subst o;rw [r.lo q (Ù _) ω,r.pT.out p ω,show q+m-q=m by omega];exact hC p e n};{exact t1 p q e ω ω g}}};{by_cases i:p=s;{exact t1 p q e ω ω g};{exact t4 p q ω f ω}}
theorem NO {l l2 l3:pz α}{a m b:Nat}(h:∀p q,a<=p->p<m->m<=q->q<b->¬c (l.getD q d) (l.getD p d)<0)(s1:tu d l l2 a m)(u:pj c d l2 a m)(s2:tu d l2 l3 m b)(v:pj c d l3 m b):pj c d l3 a b:=by intro p q f g j;by_cases n:q<m;{rw [s2.out p ω,s2.out q ω];exact u p q f g n};{by_cases o:p<m;{have ⟨k,r,s,e⟩:=s2.mem q ω j;have ⟨i,i1,i2,t⟩:=s1.mem p f o;rw [e,s1.out k ω,s2.out p ω,t];exact h i k i1 i2 r s};{exact v p q ω g j}}
theorem pj.pT {l m:pz α}{a b x y:Nat}(h:pj c d l x y)(s:tu d l m a b)(o:y<=a\/b<=x):pj c d m x y:=λp q e f g=>by
 rw [s.out p ω,s.out q ω];exact h p q e f g
theorem pj.sub {l:pz α}{a b x y:Nat}(h:pj c d l a b)(ha:a<=x)(hb:y<=b):pj c d l x y:=λp q f e g=>h p q ω e ω
theorem rot_up {l g:pz α}{a k:Nat}(h:DQ d l g a (a+1) (k+1))(hak:a<=k)(hk:k+1<l.length:=by omega):DQ d l (HU d g k (k+1)) a (a+1) (k+2):=by have len:=h.pT.len;have e:=λi=>xP (d:=d) (l:=g) (i:=k) (j:=k+1) (k:=i) ω;refine ⟨(h.pT.wide (Ù _) ω).m (tu.HU ω ω ω ω),λi b f=>?_,λi b f=>?_⟩;{rw [e,Ã ω];by_cases c:i=k;{rw [Ä c,h.pT.out _ ω];congr 1;omega};{rw [Ã c];exact h.lo i b ω}};{rw [e,Ä ω,h.hi k ω ω];congr 1;omega}
theorem Uu {l g:pz α}{k m:Nat}(h:DQ d l g k m (m+1))(h0:0<k)(hk:k<=m)(hm:m<l.length:=by omega):DQ d l (HU d g k (k-1)) (k-1) m (m+1):=by have len:=h.pT.len;have e:=λi=>xP (d:=d) (l:=g) (i:=k) (j:=k-1) (k:=i) ω;refine ⟨(h.pT.wide ω (Ù _)).m (tu.HU ω ω ω ω),λi c a=>?_,λi c a=>?_⟩;{rw [e,Ä ω,h.lo k ω ω];congr 1;omega};{rw [e,Ã ω];by_cases b:i=k;{rw [Ä b,h.pT.out _ ω];congr 1;omega};{rw [Ã b];exact h.hi i ω a}}
theorem pj.le {l:pz α}{a b:Nat}(h:pj c d l a b)(ho:œ c){x y:Nat}(h1:a<=x)(h2:x<=y)(h3:y<b):¬c (l.getD y d) (l.getD x d)<0:=by by_cases e:x=y;{subst e;exact ho.refl _};{exact h x y h1 ω h3}
def U_ (c:α->α->Int)(d:α)(l:List α)(B q:Nat):Prop:=∀p,p<q->pj c d l (p*B) ((p+1)*B)
def Blk (c:α->α->Int)(d:α)(l:List α)(B n:Nat):Prop:=∀p,pj c d l (p*B) (min ((p+1)*B) n)
theorem U_.pT {l m:pz α}{B q e:Nat}(h:U_ c d l B q)(s:tu d l m (q*B) e):U_ c d m B q:=λp a=>(h p a).pT s (.inl (ÿ B a))
theorem U_.snoc {l m:pz α}{B q e:Nat}(h:U_ c d l B q)(s:tu d l m (q*B) e)(a:pj c d m (q*B) (q*B+B)):U_ c d m B (q+1):=λp b=>by
 by_cases e:p=q
 ·subst e;rw [đ,ŋ];exact a
 ·exact h.pT s p ω
theorem U_.bg {l m:pz α}{B q n:Nat}(h:U_ c d l B q)(s:tu d l m (q*B) n)(a:pj c d m (q*B) n)(hn:n<=q*B+B):Blk c d m B n:=λp=>by
 rcases Nat.lt_trichotomy p q with g|rfl|g
 ·exact (h.pT s p g).sub (Ù _) (Wj3 _ _)
 ·exact a.sub (Ù _) (Nat.min_le_right _ _)
 ·have:=ÿ B g;rw [Ś] at this;exact .short ω
end
end Go.Proofs.Tryz
namespace Go.Proofs.Tryz
variable{c lb n:Nat}{vs:List Value}{V:Ó}{v:Sp}{l:L3}
theorem oG {V:ut}{l:pz (L3×Sp)}(hw:V.w.heap[lb]?=some (.cells vs.toArray 137 (0,0)))(hx:V.X lb)(h:uC V n vs l){a b k:Nat}(hab:a+k<=b)(hb:b+k<=l.length:=by omega):À 278 #[zF (some ⟨lb,0,none⟩) n c,Ô .i64 a,Ô .i64 b,Ô .i64 k,.func (.func 121) #[] #[]] V λr V'=>r=tN #[]/\∃vs' l',V'.w.heap[lb]?=some (.cells vs'.toArray 137 (0,0))/\uC V' n vs' l'/\Vd gi l l' a b k:=by have mN:=h.mN;have len:=h.len;refine ki lb n c vs a b k V _ hw hx ⟨λz V'=>∃(i:Nat)(m:pz (L3×Sp)),z.1=(i:Int)/\i<=k/\uC V' n z.2 m/\Vd gi l m a b i,λz=>(k-z.1).toNat,⟨(0,vs),σ,0,l,rfl,â _,h,.nil⟩,?_⟩;rintro ⟨z,us⟩ y A ⟨i,m,e,B,f,hx⟩;dsimp only at e f;subst e;dsimp only;have C:=hx.pT.len;refine ⟨rfl,λd=>?_,λd D o g=>⟨rfl,us,m,g,f.le o,?_⟩⟩;{have d:(i:Int)<k:=Á d;have p:i64.wrap ((a:Int)+i)=((a+i:Nat):Int):=by{rw [au ω];omega};have q:i64.wrap ((b:Int)+i)=((b+i:Nat):Int):=by{rw [au ω];omega};have s:i64.wrap ((i:Int)+1)=((i+1:Nat):Int):=by{rw [au ω];omega};rw [p,q,s,Ý,Ý];have ⟨_,_,_,_,_,_,_,_,_,_,_,_,_,_,_,_,_,t,u⟩:=f.get (k:=b+i) ω;have ⟨_,_,_,_,_,_,_,_,_,_,_,_,_,_,_,_,_,v,x⟩:=f.get (k:=a+i) ω;obtain ⟨s1,s2,s3⟩:=f.swap (i:=a+i) (j:=b+i) ω ω x u;exact ⟨⟨ω,ω⟩,_,_,_,_,_,_,_,_,_,_,_,_,_,_,_,_,_,t,⟨ω,ω⟩,_,_,_,_,_,_,_,_,_,_,_,_,_,_,_,_,_,v,⟨ω,ω⟩,s1,⟨ω,ω⟩,s2,(((i+1:Nat):Int),_),by dsimp only;omega,σ,i+1,_,rfl,ω,s3,hx.snoc ω ω⟩};{have d:¬(i:Int)<k:=Â d;obtain rfl:i=k:=ω;exact hx}
theorem PA {V:ut}{l:pz (L3×Sp)}(hw:V.w.heap[lb]?=some (.cells vs.toArray 137 (0,0)))(hx:V.X lb)(h:uC V n vs l){a m b:Nat}(ham:a<m)(hmb:m<b)(hb:b<=l.length:=by omega):À 248 #[zF (some ⟨lb,0,none⟩) n c,Ô .i64 a,Ô .i64 m,Ô .i64 b,.func (.func 121) #[] #[]] V λr V'=>r=tN #[]/\∃vs' l',V'.w.heap[lb]?=some (.cells vs'.toArray 137 (0,0))/\uC V' n vs' l'/\DQ gi l l' a m b:=by
 have mN:=h.mN;have len:=h.len;have L:i64.wrap ((m:Int)-a)=((m-a:Nat):Int):=by rw [au ω];omega
 have M:i64.wrap ((b:Int)-m)=((b-m:Nat):Int):=by rw [au ω];omega
 refine mb lb n c vs a m b V _ hw hx ⟨λz V'=>∃(i j:Nat)(g:pz (L3×Sp)),z.1=(i:Int)/\z.2.1=(j:Int)/\0<i/\0<j/\a+i<=m/\m+j<=b/\uC V' n z.2.2 g/\g.length=l.length/\∀l',DQ gi g l' (m-i) m (m+j)->DQ gi l l' a m b,λz=>(z.1+z.2.1).toNat,
  ⟨(_,_,vs),σ,m-a,b-m,l,L,M,ω,ω,ω,ω,h,rfl,λl' h=>by rwa [show m-(m-a)=a by omega,show m+(b-m)=b by omega] at h⟩,?_⟩
 rintro ⟨T,U,us⟩ W Y ⟨i,j,g,G,H,N,O,y,A,x,I,B⟩;dsimp only at G H x;subst G H;dsimp only;have P:i64.wrap ((m:Int)-i)=((m-i:Nat):Int):=by rw [au ω];omega
 have Q:i64.wrap ((m:Int)+j)=((m+j:Nat):Int):=by rw [au ω];omega
 have R:i64.wrap (((m+j:Nat):Int)-i)=((m+j-i:Nat):Int):=by rw [au ω];omega
 rw [P,Q,R];refine ⟨rfl,λC=>⟨λf V2 q s t u=>?_,λf V2 q s t u=>?_⟩,λheq V2 q s t u=>?_⟩
 ·have f:(i:Int)>j:=Á f;have D:i64.wrap ((i:Int)-j)=((i-j:Nat):Int):=by rw [au ω];omega
  refine (oG (V:=V2.aq [s]) t ⟨ψ,u⟩ (x.le λb o h=>q b o h) (a:=m-i) (b:=m) (k:=j) ω).s ?_;rintro r J K ⟨rfl,ws,k,v,p,d⟩;exact ⟨rfl,ws,v,(((i-j:Nat):Int),(j:Int),ws),by dsimp only;omega,by and_intros<;>first|rfl|exact D,i-j,j,k,rfl,rfl,ω,O,ω,A,p.le λb o h=>h,d.pT.len.m I,λl' h=>B l' (rot_gt ω ω d h)⟩
 ·have f:¬(i:Int)>j:=Â f;have E:i≠j:=λe=>by subst e;simp at C
  have D:i64.wrap ((j:Int)-i)=((j-i:Nat):Int):=by rw [au ω];omega
  refine (oG (V:=V2.aq [s]) t ⟨ψ,u⟩ (x.le λb o h=>q b o h) (a:=m-i) (b:=m+j-i) (k:=i) ω).s ?_;rintro r J K ⟨rfl,ws,k,v,p,d⟩;exact ⟨rfl,ws,v,((i:Int),((j-i:Nat):Int),ws),by dsimp only;omega,by and_intros<;>first|rfl|exact D,i,j-i,k,rfl,rfl,N,ω,y,ω,p.le λb o h=>h,d.pT.len.m I,λl' h=>B l' (rot_lt ω ω d h)⟩
 ·have E:(i:Int)=j:=by{simpa using heq};obtain rfl:i=j:=ω;refine (oG (V:=V2.aq [s]) t ⟨ψ,u⟩ (x.le λb o h=>q b o h) (a:=m-i) (b:=m) (k:=i) ω).s ?_;rintro r J K ⟨rfl,ws,k,v,p,d⟩;exact ⟨rfl,ws,v,λZ S F=>⟨rfl,ws,k,F,p.le λb o h=>S b o h,B k (rot_eq ω d)⟩⟩
theorem He {x y:Nat}(h:x+y<2^62:=by omega):i64.wrap ((u64.wrap (i64.wrap ((x:Int)+y))).fdiv (2^1))=(((x+y)/2:Nat):Int):=by have e:(x:Int)+y=((x+y:Nat):Int):=ω;rw [e,au (x:=((x+y:Nat):Int)) ω,bj ω,jU,au ω]
set_option maxHeartbeats 4000000 in
theorem mu:∀(N:Nat) {V:ut} {lb n c:Nat} {vs:pz un} {l:pz (L3×Sp)},V.w.heap[lb]?=some (.cells vs.toArray 137 (0,0))->V.X lb->uC V n vs l->∀{a m b:Nat},b<=a+N->a<m->m<b->b<=l.length->pj tA gi l a m->pj tA gi l m b ->À 211 #[zF (some ⟨lb,0,none⟩) n c,Ô .i64 a,Ô .i64 m,Ô .i64 b,.func (.func 121) #[] #[]] V λr V'=>r=tN #[]/\Lv lb n l a b V' λl'=>pj tA gi l' a b
 | 0,_,_,_,_,_,_,_,_,_,a,m,b,h1,h2,h3,_,_,_=>ω
 | N+1,V,lb,n,c,vs,l,hw,hx,h,a,m,b,hN,ham,hmb,hb,ua,ub=>by
  have mN:=h.mN;have len:=h.len;have f:=T5;have a5:i64.wrap ((m:Int)-a)=((m-a:Nat):Int):=by rw [au ω];omega
  have a6:i64.wrap ((b:Int)-m)=((b-m:Nat):Int):=by rw [au ω];omega
  have R:i64.wrap ((u64.wrap (i64.wrap ((a:Int)+b))).fdiv (2^1))=(((a+b)/2:Nat):Int):=He;have hM:a<(a+b)/2/\(a+b)/2<b/\a+b<2*((a+b)/2)+2/\2*((a+b)/2)<a+b+1:=ω
  generalize (a+b)/2=mid at *;have wn:i64.wrap ((mid:Int)+m)=((mid+m:Nat):Int):=by rw [au ω];omega
  have wp:i64.wrap (((mid+m:Nat):Int)-1)=((mid+m-1:Nat):Int):=by rw [au ω];omega
  refine kP lb n c vs a m b V _ hw hx ?_;rw [a5,a6,R,wn,wp];refine ⟨λc1=>?_,λc1=>⟨λc2=>?_,λc2=>⟨φ,?_⟩⟩⟩
  ·
   obtain rfl:m=a+1:=by have:=Ê c1;omega
   refine ⟨λz V'=>∃i j:Nat,z.1=(i:Int)/\z.2=(j:Int)/\a+1<=i/\i<=j/\j<=b/\(∀y,a+1<=y->y<i->tA (l.getD y gi) (l.getD a gi)<0)/\∀y,j<=y->y<b->¬tA (l.getD y gi) (l.getD a gi)<0,λz=>(z.2-z.1).toNat,
    ⟨(_,_),σ,a+1,b,rfl,rfl,Ù _,ω,Ù _,λy h1 h2=>ω,λy h1 h2=>ω⟩,?_⟩
   rintro ⟨S,z2⟩ V1 P ⟨i,j,u,F,J,T,K,L,v⟩;dsimp only at u F;subst u F;dsimp only;refine ⟨rfl,λd=>⟨φ,?_⟩,λd=>?_⟩
   ·have d:(i:Int)<j:=Á d;rw [He];have hH:i<=(i+j)/2/\(i+j)/2<j:=ω
    generalize (i+j)/2=k at *;have U:i64.wrap ((k:Int)+1)=((k+1:Nat):Int):=by rw [au ω];omega
    rw [U,Ý,Ý];have ⟨_,_,_,_,_,_,_,_,_,_,_,_,_,_,_,_,_,A,H⟩:=h.get (k:=k) ω;have ⟨_,_,_,_,_,_,_,_,_,_,_,_,_,_,_,_,_,t,I⟩:=h.get (k:=a) ω;refine ⟨⟨ω,ω⟩,_,_,_,_,_,_,_,_,_,_,_,_,_,_,_,_,_,A,⟨ω,ω⟩,_,_,_,_,_,_,_,_,_,_,_,_,_,_,_,_,_,t,λV2 W=>(oe (H.le (P.m W)) (I.le (P.m W))).s ?_⟩;rintro r V3 l3 rfl;refine ⟨_,rfl,λp=>⟨(((k+1:Nat):Int),(j:Int)),by dsimp only;omega,σ,k+1,j,rfl,rfl,ω,ω,K,λy h1 h2=>?_,v⟩,λp=>⟨((i:Int),(k:Int)),by dsimp only;omega,σ,i,k,rfl,rfl,J,ω,ω,L,λy h1 h2=>?_⟩⟩
    ·have p:=Á p;exact Qb0 λg=>f.tr _ _ _ (ub.le f h1 (show y<=k by omega) ω) g p
    ·exact f.tr _ _ _ (ub.le f ω h1 h2) (Â p)
   ·have d:¬(i:Int)<j:=Â d;obtain rfl:i=j:=ω
    have w4:i64.wrap ((i:Int)-1)=((i-1:Nat):Int):=by rw [au ω];omega
    rw [w4];refine ⟨λz V'=>∃(k:Nat)(g:pz (L3×Sp)),z.1=(k:Int)/\a<=k/\k+1<=i/\uC V' n z.2 g/\DQ gi l g a (a+1) (k+1),λz=>(i-z.1).toNat,⟨((a:Int),vs),σ,a,l,rfl,Ù _,J,h.le P,.nil2⟩,?_⟩;rintro ⟨S,us⟩ V4 l4 ⟨k,g,u,a7,b1,C,D⟩;dsimp only at u C;subst u;dsimp only;have gl:=D.pT.len;refine ⟨rfl,λd=>?_,λd V5 l5 Q=>⟨rfl,us,g,Q,C.le l5,D.pT.wide (Ù _) ω,?_⟩⟩
    ·have d:(k:Int)<((i-1:Nat):Int):=Á d;have Y:i64.wrap ((k:Int)+1)=((k+1:Nat):Int):=by rw [au ω];omega
     rw [Y,Ý,Ý];have ⟨_,_,_,_,_,_,_,_,_,_,_,_,_,_,_,_,_,A,H⟩:=C.get (k:=k+1) ω;have ⟨_,_,_,_,_,_,_,_,_,_,_,_,_,_,_,_,_,t,I⟩:=C.get (k:=k) ω;obtain ⟨s1,s2,s3⟩:=C.swap (i:=k) (j:=k+1) ω ω I H;exact ⟨⟨ω,ω⟩,_,_,_,_,_,_,_,_,_,_,_,_,_,_,_,_,_,A,⟨ω,ω⟩,_,_,_,_,_,_,_,_,_,_,_,_,_,_,_,_,_,t,⟨ω,ω⟩,s1,⟨ω,ω⟩,s2,(((k+1:Nat):Int),_),by dsimp only;omega,σ,k+1,_,rfl,ω,ω,s3,rot_up D a7⟩
    ·have d:¬(k:Int)<((i-1:Nat):Int):=Â d;obtain rfl:i=k+1:=ω
     exact Zp J K D ub L v f
  ·
   obtain rfl:b=m+1:=by have:=Ê c2;omega
   refine ⟨λz V'=>∃i j:Nat,z.1=(i:Int)/\z.2=(j:Int)/\a<=i/\i<=j/\j<=m/\(∀x,a<=x->x<i->¬tA (l.getD m gi) (l.getD x gi)<0)/\∀x,j<=x->x<m->tA (l.getD m gi) (l.getD x gi)<0,λz=>(z.2-z.1).toNat,
    ⟨(_,_),σ,a,m,rfl,rfl,Ù _,ω,Ù _,λy h1 h2=>ω,λy h1 h2=>ω⟩,?_⟩
   rintro ⟨S,z2⟩ V1 P ⟨i,j,u,F,J,T,K,L,v⟩;dsimp only at u F;subst u F;dsimp only;refine ⟨rfl,λd=>⟨φ,?_⟩,λd=>?_⟩
   ·have d:(i:Int)<j:=Á d;rw [He];have hH:i<=(i+j)/2/\(i+j)/2<j:=ω
    generalize (i+j)/2=k at *;have U:i64.wrap ((k:Int)+1)=((k+1:Nat):Int):=by rw [au ω];omega
    rw [U,Ý,Ý];have ⟨_,_,_,_,_,_,_,_,_,_,_,_,_,_,_,_,_,A,H⟩:=h.get (k:=m) ω;have ⟨_,_,_,_,_,_,_,_,_,_,_,_,_,_,_,_,_,t,I⟩:=h.get (k:=k) ω;refine ⟨⟨ω,ω⟩,_,_,_,_,_,_,_,_,_,_,_,_,_,_,_,_,_,A,⟨ω,ω⟩,_,_,_,_,_,_,_,_,_,_,_,_,_,_,_,_,_,t,λV2 W=>(oe (H.le (P.m W)) (I.le (P.m W))).s ?_⟩;rintro r V3 l3 rfl;refine ⟨_,rfl,λp=>⟨(((k+1:Nat):Int),(j:Int)),by dsimp only;omega,σ,k+1,j,rfl,rfl,ω,ω,K,λx h1 h2=>?_,v⟩,λp=>⟨((i:Int),(k:Int)),by dsimp only;omega,σ,i,k,rfl,rfl,J,ω,ω,L,λx h1 h2=>?_⟩⟩
    ·have p:¬tA (l.getD m gi) (l.getD k gi)<0:=Â (by simpa using p);exact f.tr _ _ _ p (ua.le f h1 (show x<=k by omega) ω)
    ·have p:tA (l.getD m gi) (l.getD k gi)<0:=Á (by simpa using p);exact Qb0 λg=>f.tr _ _ _ g (ua.le f ω h1 h2) p
   ·have d:¬(i:Int)<j:=Â d;obtain rfl:i=j:=ω
    refine ⟨λz V'=>∃(k:Nat)(g:pz (L3×Sp)),z.1=(k:Int)/\i<=k/\k<=m/\uC V' n z.2 g/\DQ gi l g k m (m+1),λz=>z.1.toNat,⟨((m:Int),vs),σ,m,l,rfl,K,Ù _,h.le P,.nil1⟩,?_⟩;rintro ⟨S,us⟩ V4 l4 ⟨k,g,u,b2,a8,C,D⟩;dsimp only at u C;subst u;dsimp only;have gl:=D.pT.len;refine ⟨rfl,λd=>?_,λd V5 l5 Q=>⟨rfl,us,g,Q,C.le l5,D.pT.wide ω (Ù _),?_⟩⟩
    ·have d:(k:Int)>(i:Int):=Á d;have Y:i64.wrap ((k:Int)-1)=((k-1:Nat):Int):=by rw [au ω];omega
     rw [Y,Ý,Ý];have ⟨_,_,_,_,_,_,_,_,_,_,_,_,_,_,_,_,_,A,H⟩:=C.get (k:=k-1) ω;have ⟨_,_,_,_,_,_,_,_,_,_,_,_,_,_,_,_,_,t,I⟩:=C.get (k:=k) ω;obtain ⟨s1,s2,s3⟩:=C.swap (i:=k) (j:=k-1) ω ω I H;exact ⟨⟨ω,ω⟩,_,_,_,_,_,_,_,_,_,_,_,_,_,_,_,_,_,A,⟨ω,ω⟩,_,_,_,_,_,_,_,_,_,_,_,_,_,_,_,_,_,t,⟨ω,ω⟩,s1,⟨ω,ω⟩,s2,(((k-1:Nat):Int),_),by dsimp only;omega,σ,k-1,_,rfl,ω,ω,s3,Uu D ω a8⟩
    ·have d:¬(k:Int)>(i:Int):=Â d;obtain rfl:i=k:=ω
     exact RB J K D ua v L f
  refine ⟨λz V'=>∃s r:Nat,z.1=(s:Int)/\z.2=(r:Int)/\a<=s/\s<=r/\r<=m/\r<=mid/\mid+m<=s+b/\(s=a\/s+b=mid+m)/\(r=m\/r=mid),⟨λB=>⟨(((mid+m-b:Nat):Int),(mid:Int)),?_,mid+m-b,mid,rfl,rfl,?_⟩,λB=>⟨((a:Int),(m:Int)),σ,a,m,rfl,rfl,?_⟩⟩,?_⟩
  ·have B:(m:Int)>mid:=Á B;have w:i64.wrap (((mid+m:Nat):Int)-b)=((mid+m-b:Nat):Int):=by rw [au ω];omega
   and_intros<;>first|rfl|exact w
  ·have B:(m:Int)>mid:=Á B;omega
  ·have B:¬(m:Int)>mid:=Â B;omega
  rintro ⟨S,z2⟩ fk bw ⟨s0,r0,u,F,b3,a9,b4,rd0,b5,sa,ra⟩;dsimp only at u F;subst u F;dsimp only
  refine ⟨rfl,λz V'=>∃i j:Nat,z.1=(i:Int)/\z.2=(j:Int)/\s0<=i/\i<=j/\j<=r0/\(∀x,s0<=x->x<i->¬tA (l.getD (mid+m-1-x) gi) (l.getD x gi)<0)/\∀x,j<=x->x<r0->tA (l.getD (mid+m-1-x) gi) (l.getD x gi)<0,λz=>(z.2-z.1).toNat,
   ⟨(_,_),σ,s0,r0,rfl,rfl,Ù _,a9,Ù _,λy h1 h2=>ω,λy h1 h2=>ω⟩,?_⟩
  rintro ⟨S,z2⟩ iD bY ⟨i,j,u,F,J,T,K,L,v⟩;dsimp only at u F;subst u F;dsimp only;have P_:=bw.m bY;refine ⟨rfl,λd=>⟨φ,?_⟩,λd=>?_⟩
  ·have d:(i:Int)<j:=Á d;rw [He];have hH:i<=(i+j)/2/\(i+j)/2<j:=ω
   generalize (i+j)/2=k at *;have U:i64.wrap ((k:Int)+1)=((k+1:Nat):Int):=by rw [au ω];omega
   have w4:i64.wrap (((mid+m-1:Nat):Int)-k)=((mid+m-1-k:Nat):Int):=by rw [au ω];omega
   rw [U,w4,Ý,Ý];have ⟨_,_,_,_,_,_,_,_,_,_,_,_,_,_,_,_,_,A,H⟩:=h.get (k:=mid+m-1-k) ω;have ⟨_,_,_,_,_,_,_,_,_,_,_,_,_,_,_,_,_,t,I⟩:=h.get (k:=k) ω;refine ⟨⟨ω,ω⟩,_,_,_,_,_,_,_,_,_,_,_,_,_,_,_,_,_,A,⟨ω,ω⟩,_,_,_,_,_,_,_,_,_,_,_,_,_,_,_,_,_,t,λku ct=>(oe (H.le (P_.m ct)) (I.le (P_.m ct))).s ?_⟩;rintro r lV cJ rfl;refine ⟨_,rfl,λp=>⟨(((k+1:Nat):Int),(j:Int)),by dsimp only;omega,σ,k+1,j,rfl,rfl,ω,ω,K,λx h1 h2=>?_,v⟩,λp=>⟨((i:Int),(k:Int)),by dsimp only;omega,σ,i,k,rfl,rfl,J,ω,ω,L,λx h1 h2=>?_⟩⟩
   ·have p:¬tA (l.getD (mid+m-1-k) gi) (l.getD k gi)<0:=Â (by simpa using p);exact f.tr _ _ _ (ub.le f ω (show mid+m-1-k<=mid+m-1-x by omega) ω) (f.tr _ _ _ p (ua.le f ω (show x<=k by omega) ω))
   ·have p:tA (l.getD (mid+m-1-k) gi) (l.getD k gi)<0:=Á (by simpa using p);exact Qb0 λg=>f.tr _ _ _ (ub.le f ω (show mid+m-1-x<=mid+m-1-k by omega) ω) (f.tr _ _ _ g (ua.le f ω h1 ω)) p
  have d:¬(i:Int)<j:=Â d;obtain rfl:i=j:=ω
  have Y:i64.wrap (((mid+m:Nat):Int)-i)=((mid+m-i:Nat):Int):=by rw [au ω];omega
  rw [Y];obtain ⟨e,he⟩:∃e,e=mid+m-i:=⟨_,rfl⟩;rw [<-he]
  have hA:∀x y,a<=x->x<i->e<=y->y<b->¬tA (l.getD y gi) (l.getD x gi)<0:=λx y h1 h2 h3 h4=>by
   have q:=L (i-1) ω ω;rw [show mid+m-1-(i-1)=e by omega] at q;exact f.tr _ _ _ (ub.le f ω h3 h4) (f.tr _ _ _ q (ua.le f h1 (show x<=i-1 by omega) ω))
  have hB:∀x y,i<=x->x<m->m<=y->y<e->¬tA (l.getD x gi) (l.getD y gi)<0:=λx y h1 h2 h3 h4=>by
   have q:=f.Zq _ _ (v i (Ù _) ω);rw [show mid+m-1-i=e-1 by omega] at q;exact f.tr _ _ _ (ua.le f ω h1 h2) (f.tr _ _ _ q (ub.le f h3 (show y<=e-1 by omega) ω))
  refine ⟨λz V'=>z=decide (i<m/\m<e),⟨λg=>⟨_,σ,?_⟩,λg=>⟨_,σ,?_⟩⟩,?_⟩
  ·have g:(i:Int)<m:=Á g;exact É.2 ⟨λh=>⟨ω,ω⟩,λh=>ω⟩
  ·have g:¬(i:Int)<m:=Â g;exact (È λh=>ω).symm
  rintro z mg cP rfl;have M:=P_.m cP;refine ⟨rfl,λus V'=>∃g,uC V' n us g/\DQ gi l g i m e,⟨λg lY cK Z e3 h3=>?_,λg=>⟨_,σ,l,h.le M,?_⟩⟩,?_⟩
  ·have g:=Á g;refine (PA (V:=lY.aq [Z]) e3 ⟨ψ,h3⟩ (h.le λb o h=>cK b o (M b o h)) g.1 g.2).s ?_;rintro r mY cG ⟨rfl,ws,k,e4,G,b0⟩;exact ⟨rfl,ws,e4,ws,σ,k,G.le λb o h=>h,b0⟩
  ·have g:=Â g;rcases ĉ i m with A|A
   ·obtain rfl:m=e:=ω
    exact .nil2
   ·obtain rfl:i=m:=ω
    exact .nil1
  rintro us nX cD ⟨g,C,D⟩;have gl:=D.pT.len;have ⟨t1,t2,t3,t4,t5⟩:=GC (a:=a) (b:=b) ω ω ω ω D ua ub hA hB;refine ⟨rfl,λz V'=>z=decide (a<i/\i<mid),⟨λg=>⟨_,σ,?_⟩,λg=>⟨_,σ,?_⟩⟩,?_⟩
  ·have g:(a:Int)<i:=Á g;exact É.2 ⟨λh=>⟨ω,ω⟩,λh=>ω⟩
  ·have g:¬(a:Int)<i:=Â g;exact (È λh=>ω).symm
  rintro z rU dy rfl;refine ⟨rfl,λws V'=>∃t,uC V' n ws t/\tu gi g t a mid/\pj tA gi t a mid,⟨λq uD fy Z e3 h3=>?_,λq=>⟨_,σ,g,C.le dy,.refl _ _ _,?_⟩⟩,?_⟩
  ·have q:=Á q;refine (mu N (V:=uD.aq [Z]) e3 ⟨ψ,h3⟩ (C.le λb o h=>fy b o (dy b o h)) ω q.1 q.2 ω t2 λx y h1 h2 h3=>t3 x y h1 h2 ω).s ?_;rintro r ux iA ⟨rfl,ws,k,e4,G,sg,asc⟩;exact ⟨rfl,ws,e4,ws,σ,k,G.le λb o h=>h,sg,asc⟩
  ·have q:=Â q;rcases ĉ a i with A|A
   ·obtain rfl:i=mid:=ω
    exact t2
   ·obtain rfl:a=i:=ω
    exact λx y h1 h2 h3=>t3 x y h1 h2 ω
  rintro ws uE iP ⟨t,a0,E,O⟩;have b6:=E.len;refine ⟨rfl,λz V'=>z=decide (mid<e/\e<b),⟨λg=>⟨_,σ,?_⟩,λg=>⟨_,σ,?_⟩⟩,?_⟩
  ·have g:(mid:Int)<e:=Á g;exact É.2 ⟨λh=>⟨ω,ω⟩,λh=>ω⟩
  ·have g:¬(mid:Int)<e:=Â g;exact (È λh=>ω).symm
  have a1:pj tA gi t mid e:=pj.pT (λx y h1 h2 h3=>t4 x y ω h2 h3) E (.inr (Ù _));have a2:pj tA gi t e b:=t5.pT E (.inr ω);have cr:∀x y,a<=x->x<mid->mid<=y->y<b->¬tA (g.getD y gi) (g.getD x gi)<0:=λx y h1 h2 h3 h4=>t1 x y h1 ω ω h4;have sl:tu gi l t a b:=(D.pT.wide ω ω).m (E.wide (Ù _) ω);rintro z wH hZ rfl;refine ⟨rfl,λq Gv kS Z e3 h3=>?_,λq Gv kS a3=>⟨rfl,ws,t,a3,a0.le (hZ.m kS),sl,?_⟩⟩
  ·have q:=Á q;refine (mu N (V:=Gv.aq [Z]) e3 ⟨ψ,h3⟩ (a0.le λb o h=>kS b o (hZ b o h)) ω q.1 q.2 ω a1 a2).s ?_;rintro r IF l_ ⟨rfl,xs,k,e4,G,sg,asc⟩;exact ⟨rfl,xs,e4,λO6 pG a4=>⟨rfl,xs,k,a4,G.le λb o h=>pG b o h,sl.m (sg.wide ω (Ù _)),NO cr E O sg asc⟩⟩
  ·have q:=Â q;refine NO cr E O (.refl _ _ _) ?_;rcases ĉ mid e with A|A
   ·obtain rfl:e=b:=ω
    exact a1
   ·obtain rfl:mid=e:=ω
    exact a2
set_option maxHeartbeats 1000000 in
theorem PB {V:ut}{l:pz (L3×Sp)}(hw:V.w.heap[lb]?=some (.cells vs.toArray 137 (0,0)))(hx:V.X lb)(h:uC V n vs l):À 170 #[zF (some ⟨lb,0,none⟩) n c,Ô .i64 n,.func (.func 121) #[] #[]] V λr V'=>r=tN #[]/\Lv lb n l 0 n V' λl'=>pj tA gi l' 0 n:=by
 have len:=h.len;have mN:=h.mN;refine mc lb n c vs n V _ hw hx ⟨λz V'=>∃(q:Nat)(g:pz (L3×Sp)),z.1=((q*20:Nat):Int)/\z.2.1=((q*20+20:Nat):Int)/\q*20<=n/\uC V' n z.2.2 g/\tu gi l g 0 n/\U_ tA gi g 20 q,λz=>n-z.1.toNat,⟨(0,20,vs),σ,0,l,rfl,rfl,â _,h,.refl _ _ _,λp D=>ω⟩,?_⟩;rintro ⟨z1,z2,us⟩ V1 l1 ⟨q,g,I,J,Y,Z,K,fr⟩;subst I J;dsimp only;have gl:=K.len;refine ⟨rfl,λd V2 L t M N=>?_,λd V2 L t M N=>?_⟩
 ·have d:=Á d;have w:i64.wrap (((q*20+20:Nat):Int)+20)=(((q+1)*20+20:Nat):Int):=by{rw [au ω];omega};refine (ni (V:=V2.aq [t]) M ⟨ψ,N⟩ (Z.le λb o h=>L b o h) (a:=q*20) (b:=q*20+20) ω).s λr V3 l3 ⟨rfl,ws,k,O,u,f,asc⟩=>⟨rfl,ws,O,(((q*20+20:Nat):Int),_,ws),ω,σ,q+1,k,ω,w,ω,u.le λb o h=>h,K.m (f.wide ω ω),fr.snoc f asc⟩
 have d:=Â d;refine (ni (V:=V2.aq [t]) M ⟨ψ,N⟩ (Z.le λb o h=>L b o h) (a:=q*20) (b:=n) Y).s ?_;rintro r V3 l3 ⟨rfl,ws,k,O,u,f,asc⟩;refine ⟨rfl,ws,O,λz V'=>∃(B:Nat)(g:pz (L3×Sp)),z.1=(B:Int)/\0<B/\B<=20000/\uC V' n z.2 g/\tu gi l g 0 n/\Blk tA gi g B n,λz=>n-z.1.toNat,⟨(20,ws),σ,20,k,rfl,ω,ω,u.le λb o h=>h,K.m (f.wide ω ω),fr.bg f asc ω⟩,?_⟩;rintro ⟨z,xs⟩ V6 l6 ⟨B,g2,e,B0,Bn,E,F,s⟩;subst e;refine ⟨rfl,λd=>?_,λd iD bY WJ=>⟨rfl,xs,g2,WJ,E.le bY,F,?_⟩⟩;rotate_left
 ·have d:=Â d;have:=s 0;grind
 have d:=Á d;have w1:i64.wrap (2*(B:Int))=((2*B:Nat):Int):=by rw [au ω];omega
 have w2:i64.wrap ((B:Int)*2)=((2*B:Nat):Int):=by rw [au ω];omega
 rw [w1,w2]
 refine ⟨λz V'=>∃(q:Nat)(g:pz (L3×Sp)),z.1=((q*(2*B):Nat):Int)/\z.2.1=((q*(2*B)+2*B:Nat):Int)/\q*(2*B)<=n/\uC V' n z.2.2 g/\tu gi l g 0 n/\U_ tA gi g (2*B) q/\∀p,2*q<=p->pj tA gi g (p*B) (min ((p+1)*B) n),λz=>n-z.1.toNat,
  ⟨(0,((2*B:Nat):Int),xs),σ,0,g2,by rw [Ō];rfl,by rw [Ō,ą],ω,E,F,λp D=>ω,λp _=>s p⟩,?_⟩
 rintro ⟨z1,z2,ys⟩ V7 l7 ⟨q,g3,I,J,Y,v,i,x,rest⟩;subst I J;dsimp only;have a0:=i.len;have H:=rest (2*q) (Ù _);have P:=rest (2*q+1) ω
 have Q:∀p,2*(q+1)<=p->q*(2*B)+2*B<=p*B:=λp D=>by have:=ÿ B D;grind
 have q1:(q+1)*(2*B)=q*(2*B)+2*B:=χ
 rw [show 2*q*B=q*(2*B) by grind,show (2*q+1)*B=q*(2*B)+B by grind] at H;rw [show (2*q+1)*B=q*(2*B)+B by grind,show (2*q+1+1)*B=q*(2*B)+2*B by grind] at P;generalize hA:q*(2*B)=A at *;have w3:i64.wrap ((A:Int)+B)=((A+B:Nat):Int):=by rw [au ω];omega
 rw [w3];refine ⟨rfl,λy R S t T U=>?_,λy=>⟨λhm R S t T U=>?_,λhm=>?_⟩⟩
 ·have y:=Á y;have w4:i64.wrap (((A+2*B:Nat):Int)+((2*B:Nat):Int))=((A+2*B+2*B:Nat):Int):=by rw [au ω];omega
  refine (mu (2*B) (V:=R.aq [t]) T ⟨ψ,U⟩ (v.le λb o h=>S b o h) (a:=A) (m:=A+B) (b:=A+2*B) ω ω ω ω (H.sub (Ù _) ω) (P.sub (Ù _) ω)).s λr V9 l9 ⟨rfl,us,k,W,C,j,G⟩=>⟨rfl,us,W,(((A+2*B:Nat):Int),((A+2*B+2*B:Nat):Int),us),ω,by and_intros<;>first|rfl|exact w4,q+1,k,by rw [q1],by rw [q1],ω,C.le λb o h=>h,i.m (j.wide ω ω),?_,λp D=>(rest p ω).pT j (.inr (Q p D))⟩<;>grind [x.snoc]
 ·have y:=Â y;have hm:=Á hm;refine (mu (2*B) (V:=R.aq [t]) T ⟨ψ,U⟩ (v.le λb o h=>S b o h) (a:=A) (m:=A+B) (b:=n) ω ω ω ω (H.sub (Ù _) ω) (P.sub (Ù _) ω)).s λr V9 l9 ⟨rfl,us,k,W,C,j,G⟩=>⟨rfl,us,W,(((2*B:Nat):Int),us),ω,σ,2*B,k,rfl,ω,ω,C.le λb o h=>h,i.m (j.wide ω ω),?_⟩<;>grind [x.bg]
 ·have y:=Â y;have hm:=Â hm;refine ⟨(((2*B:Nat):Int),ys),ω,σ,2*B,g3,rfl,ω,ω,v,i,?_⟩;subst hA;exact x.bg (.refl _ _ _) (H.sub (Ù _) ω) ω
theorem DY {V:ut}{lb n c:Nat}{vs:pz un}{l:pz (L3×Sp)}(hw:V.w.heap[lb]?=some (.cells vs.toArray 137 (0,0)))(hx:V.X lb)(h:uC V n vs l):À 120 #[zF (some ⟨lb,0,none⟩) n c,.func (.func 121) #[] #[]] V λr V'=>r=tN #[]/\∃vs' l',V'.w.heap[lb]?=some (.cells vs'.toArray 137 (0,0))/\uC V' n vs' l'/\l'.Perm l/\l'.Pairwise λx y=>¬jR y.1 x.1<0:=by have len:=h.len;refine lS lb n c vs V _ hw hx λf g k p q=>(PB (V:=f.aq [k]) p ⟨ψ,q⟩ (h.le λb o h=>g b o h)).s λr V2 A ⟨rfl,ws,m,s,t,e,asc⟩=>⟨rfl,ws,s,λB u a=>⟨rfl,ws,m,a,t.le λb o h=>u b o h,e.perm,?_⟩⟩;have sl:=e.len;refine Qn4.2 λi j v z d=>?_;have:=asc i j ω d ω;rw [ġ,ġ,ô v,ô z] at this;exact this
theorem uI:À 120 #[zF none 0 0,.func (.func 121) #[] #[]] V λr V'=>r=tN #[]:=by refine jy V _ λb f=>?_;have st:À 170 #[zF none 0 0,Ô .i64 0,.func (.func 121) #[] #[]] b λr V'=>r=tN #[]:=by{refine jX 0 b _ ⟨λz _=>z=(0,20),λ_=>0,⟨(0,20),σ,rfl⟩,?_⟩;rintro z V2 g rfl;refine ⟨rfl,λa=>Å (Á a) φ,λ_ c i=>?_⟩;have ins:À 210 #[zF none 0 0,Ô .i64 0,Ô .i64 0,.func (.func 121) #[] #[]] c λr V'=>r=tN #[]:=by{(refine gO 0 0 c _ ⟨λz _=>z=1,λ_=>0,⟨1,by and_intros<;>first|rfl|exact au ω,rfl⟩,?_⟩;rintro z d e rfl;exact ⟨rfl,λh=>Å (Á h) ω,λ_ j k=>rfl⟩)};refine ins.s ?_;rintro r d e rfl;refine ⟨rfl,λz _=>z=20,λ_=>0,⟨20,σ,rfl⟩,?_⟩<;>grind};grind
theorem R8 {p:OA}{fs:pz (L3×Sp)}(h:bP 17 nY V p n fs)(hn:fs.length<=1000000)(h0:fs=[]->p=none):À 119 #[zF p n c] V λr V'=>∃(bm:Nat)(vs:pz un),(vs≠[]->V'.w.heap[bm]?=some (.cells vs.toArray 137 (0,0)))/\(vs≠[]->V.w.heap.size<=bm)/\∃e,r=zF (mA bm e) fs.length e/\fs.length<=e/\(vs=[]↔e=0)/\(vs≠[]↔fs≠[])/\ç 17 nY (V'.aW (vs≠[]) bm) vs fs/\V.Le (V'.aW (vs≠[]) bm):=by obtain rfl:=h.len;refine wA p _ c V _ ⟨λg C q=>?_,λg=>?_⟩;{have s:p=none:=by{simpa using g};have e:fs=[]:=by{rcases fs with-| ⟨x,r⟩;{rfl};{obtain ⟨D,e,-⟩:=h.at_ 0 (Nat.succ_pos _);rw [s] at e;cases e}};subst e;exact ⟨0,[],λh=>Å rfl h,λh=>Å rfl h,0,rfl,Ù _,⟨λ_=>rfl,λ_=>rfl⟩,⟨λh=>Å rfl h,λh=>Å rfl h⟩,ç.nil,P6 q λh=>h rfl⟩};{have b:fs≠[]:=λe=>by{rw [h0 e] at g;cases g};have i:=Qh7.2 b;have ⟨xs,t,j,k⟩:=eI h φ;refine ⟨xs,t,j,ω,Ù _,Ù _,j,λv u=>?_,λE J sp y l F V2 d z A B=>?_⟩;{obtain ⟨m,hm,rfl⟩:=Qm2.1 u;exact kK k φ (λxs a g=>CC g) (m:=m) ω (ô hm)};rw [ą] at l ⊢;have o:V.Le (V2.aW ((([]:pz un).take (0*17)++xs++sp)≠[]) d):=Ml z;have f:(([]:pz un).take (0*17)++xs++sp)≠[]:=λe=>χ;exact ⟨d,_,λ_=>A,λ_=>B.elim id False.elim,y,by rw [mA,Ã ω],l,⟨λe=>Å e f,λe=>ω⟩,⟨λ_=>b,λ_=>f⟩,(im (vs:=[]) (sp:=sp) ç.nil k φ).le λ_ _ g=>uB.le g o,o⟩}
def ë (l m:L3):List Sp:=if ß l m=0 then (if 0<ar m (cT l 0) (cW l 0) then [à] else []) else if 0<Ú m l then [⟨Ø m l,0,false,true⟩] else [⟨0,Ø m l,true,false⟩]
theorem xr (l m:L3):ë l m=[]\/∃u,ë l m=[u]/\u.can:=by unfold ë;split;{grind [fo.1]};{split;{exact .inr ⟨_,rfl,⟨ţ,λ_=>rfl⟩⟩};{exact .inr ⟨_,rfl,⟨λ_=>rfl,ţ⟩⟩}}
theorem comb_nil (a:pz Sp):Ö 2 a []=[]:=by (cases e:Ö 2 a [] with|nil=>rfl|cons s r=>{exfalso;have d:=comb_reg 2 a [];rw [e] at d;have ⟨g,i,b,c⟩:=SN (d.1 s (þ ..));have ⟨t,t1,t2,t3⟩:=RH (Þ (a++[])) b;have f:=comb_inB 2 a [] (t:=t) (λh=>t3 t h rfl);rw [e] at f;have j:è (s::r) t=true:=jI.2 ⟨s,þ ..,c t t1 t2⟩;have k:è [] t=false:=rfl;have l:ę 2 (è a t) false=(è a t&&false):=rfl;grind})
theorem Qq (hv:v.can):v.meet à=v:=by obtain ⟨c,d,a,b⟩:=v;unfold Sp.can at hv;unfold Sp.meet à;grind
theorem PW (hv:v.can):à.meet v=v:=by obtain ⟨c,d,a,b⟩:=v;unfold Sp.meet à;cases a<;>cases b<;>simp at hv⊢<;>simp
theorem Cn {u:Sp}(hu:u.good):Ö 2 [à] [u]=[u]:=by rw [uT fo.1 hu.1,PW hu.1,Ã (by rw [hu.2];exact Š)]
theorem QP {l m:L3}(hv:v.good):Ö 2 [v] (Ö 2 [à] (ë l m))=if cF l v m=true then [bu l v m] else []:=by unfold ë;by_cases a:ß l m=0;{have b:Ú m l=0:=by{rw [cross_dot] at a;grind};have d:bu l v m=v:=by{unfold bu;rw [b];rfl};have c:cF l v m=decide ((j8 m l).num.sign>0):=by{unfold cF;rw [b];rfl};rw [Ä a,d,c];by_cases g:0<ar m (cT l 0) (cW l 0);{rw [Ä g,Cn fo,uT hv.1 fo.1,Qq hv.1,Ã (by rw [hv.2];exact Š),Ä (Ç (show (j8 m l).num.sign>0 from aw.sU.2 g))]};{rw [Ã g,comb_nil,comb_nil,Ã (by rw [Ñ];exact λh=>g (aw.sU.1 h))]}};{have b:Ú m l≠0:=λe=>a (by rw [cross_dot,e];grind);have c:cF l v m=!(bu l v m).emp:=by{unfold cF;grind [cM]};have fin:∀{u:Sp},u.good->v.meet u=bu l v m->Ö 2 [v] (Ö 2 [à] [u])=if cF l v m=true then [bu l v m] else []:=λ{u} hu e=>by{rw [Cn hu,uT hv.1 hu.1,e,c];grind};rw [Ã a];rcases cM (Ú m l) with ⟨h,e⟩|⟨h,e⟩|⟨h,e⟩;{exact Å h b};{rw [Ä h];refine fin ⟨⟨ţ,λ_=>rfl⟩,Sp.gy.2 (.inr (.inl rfl))⟩ ?_;unfold bu;rw [e];rfl};{rw [Ã χ];refine fin ⟨⟨λ_=>rfl,ţ⟩,Sp.gy.2 (.inl rfl)⟩ ?_;unfold bu;rw [e];rfl}}
def ï (m:L3)(k:Int):L3:=if k=1 then m else Õ m
theorem Kx {q:Rat}{k:Int}(hk:k=1\/k=-1):(q.num.sign==k)=decide (0<(if k=1 then q else -q)):=by rcases cM q with ⟨h,e⟩|⟨h,e⟩|⟨h,e⟩<;>rcases hk with rfl|rfl<;>rw [e]<;>simp<;>grind
theorem KC (m:L3)(k:Int)(x y:Rat):ar (ï m k) x y=if k=1 then ar m x y else -ar m x y:=by unfold ï;split;{rfl};{exact val_rev ..}
theorem KB (m l:L3)(k:Int):Ú (ï m k) l=if k=1 then Ú m l else -Ú m l:=by unfold ï;split;{rfl};{exact dot_rev ..}
theorem side_cross (m l:L3)(k:Int):ß l (ï m k)=0↔ß l m=0:=by rw [cross_dot,cross_dot,KB];split<;>grind
theorem UH {m:L3}(k:Int)(h:Ú m l≠0):Ø (ï m k) l=Ø m l:=by unfold ï;split;{rfl};{exact cutP_rev h}
def onP (l m:L3):Bool:=decide (ß l m=0/\ar m (cT l 0) (cW l 0)=0)
theorem uO {v w:un}{l m:L3}{k:Int}(hk:k=1\/k=-1)(hl:cO V v l)(hm:cO V w m)(nz:Nz l)(bl:Bd l)(bm:Bd m):À 216 #[v,w,Ô .i64 k] V λr V'=>∃q n c,r=tN #[zF q n c,dB (onP l m)]/\bP 8 pU V' q n (ë l (ï m k)):=by have i:=hl;have j:=hm;obtain ⟨_,_,_,_,_,_,_,_,_,_,_,_,rfl⟩:=bW hl;obtain ⟨_,_,_,_,_,_,_,_,_,_,_,_,rfl⟩:=bW hm;have sl:=bl.ja;have sm:=bm.ja;refine EY V _ λV1 z=>(Um (cO.le i z) (cO.le j z) sl sm).s ?_;rintro r V2 l2 ⟨u,rfl,q0,q1⟩;have ⟨s1,s2⟩:=OW sl sm;have s:=z.m l2;by_cases f:ß l m=0;{have I:=q0 f;unfold Rn at I;subst I;refine ⟨_,_,_,_,_,_,_,_,_,_,_,_,_,_,_,rfl,λ_ V3 J=>(OD (cO.le i (s.m J)) nz bl).s ?_,λh=>by simp [f] at h⟩;rintro r V4 l4 L;have A:=L;obtain ⟨_,_,_,_,_,_,_,_,_,_,_,_,rfl,-⟩:=L;have M:=s.m (J.m l4);refine qyK ⟨rfl,λV5 B=>(HF (cO.le j (M.m B)) (A.le B) (sm.up (K:=30000) ω) (HW bl).1 (HW bl).2).s ?_⟩;rintro r V6 l6 rfl;have Ay:=M.m (B.m l6);have a:((ar m (cT l 0) (cW l 0)).num.sign==(0:Int))=onP l m:=by{unfold onP;rcases cM (ar m (cT l 0) (cW l 0)) with ⟨h,e⟩|⟨h,e⟩|⟨h,e⟩<;>rw [e]<;>simp [f]<;>grind};have b:ë l (ï m k)=if ((ar m (cT l 0) (cW l 0)).num.sign==k)=true then [à] else []:=by{unfold ë;rw [Ä ((side_cross m l k).2 f),Kx hk,KC];by_cases g:0<(if k=1 then ar m (cT l 0) (cW l 0) else -ar m (cT l 0) (cW l 0));{rw [Ä g,Ä (Ç g)]};{rw [Ã g,Ã (by rw [È g];exact Š)]}};refine ⟨_,rfl,λh V7 l7=>uN.s ?_,λh fW a0=>⟨_,_,_,by rw [a],?_⟩⟩;{rintro r V8 l8 N;have C:=N;obtain ⟨_,_,_,_,_,_,_,_,_,_,_,_,_,_,rfl,-⟩:=N;refine ⟨_,_,_,_,_,_,_,_,_,_,_,_,_,_,_,_,rfl,λV9 l9 O d=>⟨_,_,_,by rw [a],?_⟩⟩;rw [b,Ä h];exact bP.il (V:=V9) d (row_one rfl (C.le l9))};{rw [b,Ã (by rw [h];exact Š)];exact bP.nil}};have P:Ú m l≠0:=λh=>f (by rw [cross_dot,h];grind);have Q:=q1 f;have D:=Q;obtain ⟨_,_,_,_,_,_,_,_,_,_,_,_,rfl,-⟩:=Q;have a:onP l m=false:=by{unfold onP;rw [È λh=>f h.1]};refine ⟨_,_,_,_,_,_,_,_,_,_,_,_,_,_,_,rfl,λh=>by simp [f] at h,λ_ fk E=>(AH (cO.le i (s.m E)) (D.le E) nz (sl.up (K:=30000) ω) (s1.s ω) (s2.s ω)).s ?_⟩;rintro r iD bY gt;have o:RQ iD r (oU l m):=gt;rw [Cr nz f] at o;clear gt;have p:=o;obtain ⟨_,_,_,_,_,_,rfl⟩:=o.shape;have st:Sz 70000 (Ø m l):=(pf sl sm).s ω;refine qyZ ⟨rfl,λku ct=>(dW 1 ω).s ?_⟩;rintro r lV cJ R;obtain ⟨_,_,_,_,_,_,rfl⟩:=R.shape;have F:=ct.m cJ;refine qyZ ⟨rfl,λmg t=>(dM (p.le (F.m t)) (R.le t) st jM).s ?_⟩;rintro r lY S gs;obtain ⟨_,_,_,_,_,_,rfl⟩:=gs.shape;have T:=(s.m (E.m bY)).m (F.m (t.m S));have G:Sz 80000 (Ø m l+((1:Int):Rat)):=(st.add jM).s ω;refine qyZ ⟨rfl,λmY x=>(r_At (cO.le i (T.m x)) (gs.le x) nz (sl.up (K:=80000) ω) G).s ?_⟩;rintro r nX U W;have H:=W;obtain ⟨_,_,_,_,_,_,_,_,_,_,_,_,rfl,-⟩:=W;have X:=T.m (x.m U);refine qyK ⟨rfl,λrU y=>(HF (k:=10000000) (cO.le j (X.m y)) (H.le y) (sm.up ω) ((M8 (sl.up (K:=80000) ω) G).s ω) ((M9 (sl.up (K:=80000) ω) G).s ω)).s ?_⟩;rintro r uD Y rfl;have Z:=X.m (y.m Y);have ev:ar m (cT l (Ø m l+((1:Int):Rat))) (cW l (Ø m l+((1:Int):Rat)))=Ú m l:=by{rw [pg];have hi:=Qn8 _ P;unfold Ø;have e1:((1:Int):Rat)=1:=rfl;rw [e1];grind};rw [ev];have YF:=F.m (t.m (S.m (x.m (U.m (y.m Y)))));have b:ë l (ï m k)=if ((Ú m l).num.sign==k)=true then [⟨Ø m l,0,false,true⟩] else [⟨0,Ø m l,true,false⟩]:=by{unfold ë;rw [Ã (λh=>f ((side_cross m l k).1 h)),Kx hk,KB,UH k P];by_cases g:0<(if k=1 then Ú m l else -Ú m l);{rw [Ä g,Ä (Ç g)]};{rw [Ã g,Ã (by rw [È g];exact Š)]}};refine ⟨_,rfl,λh ux iA O d=>⟨_,_,_,by rw [a],?_⟩,λh uE iP O d=>⟨_,_,_,by rw [a],?_⟩⟩;{rw [b,Ä h];exact bP.il (V:=ux) d (row_one rfl (qyK ⟨rfl,p.le (YF.m iA),rq0 _⟩))};{rw [b,Ã (by rw [h];exact Š)];exact bP.il (V:=uE) d (row_one rfl (qyK ⟨rfl,rq0 _,p.le (YF.m iP)⟩))}
theorem Ov {bk:Nat}{xs:pz un}{ty:TypeId}{m:Nat×Nat}{s:Sp}(hb:V.bg bk (.cells xs.toArray ty m))(h:pU V (.agg xs.toArray) s):NL V (some ⟨bk,0,none⟩) 1 [s]:=
 vr (bP.il hb (row_one (by obtain ⟨_,_,_,_,_,_,_,_,_,_,_,_,_,_,e,-⟩:=vK h;rw [e];rfl) h))
theorem TP {t:Sp}(h:t.can/\t.emp=false):t.neg.can/\t.neg.emp=false:=by obtain ⟨⟨d,e⟩,c⟩:=h;rw [Sp.gy] at c;rw [Sp.gy];unfold Sp.neg Sp.can;cases ha:t.a<;>cases hb:t.b<;>simp [ha,hb] at d e c⊢<;>grind
def tm (V:Ó)(v:Value)(x:L3×Sp):Prop:=RF V v x.1 x.2
theorem tm.le {V V':ut}{v:un}{x:L3×Sp}(h:tm V v x)(l:V.Le V'):tm V' v x:=RF.le h l
theorem Au {m:L3}(h:onP l m=true)(k:Int):ë l (ï m k)=[]:=by have h:=Á h;unfold ë;rw [Ä ((side_cross m l k).2 h.1),KC,h.2];split<;>rw [Ã χ]
theorem WB {m:L3}(bl:Bd l)(bm:Bd m)(k:Int):∀s∈ë l (ï m k),s.sz 100000:=by have b:Bd (ï m k):=by{unfold ï;split;exact bm;exact bm.rev};have st:Sz 100000 (Ø (ï m k) l):=(pf bl.ja b.ja).s ω;have z:=CZ 100000;intro s a;unfold ë at a;split at a;{split at a;{rw [ö.1 a];exact ⟨z,z⟩};{cases a}};{split at a;{rw [ö.1 a];exact ⟨st,z⟩};{rw [ö.1 a];exact ⟨z,st⟩}}
theorem Ec {s:Sp}(hs:s.can)(l m:L3):(Ö 2 [s] (ë l m)).length<=1:=by rcases xr l m with h|⟨u,h,hu⟩;{rw [h,comb_nil];exact â _};{rw [h,uT hs hu];split;{exact â _};{exact Ù _}}
theorem SS (l m:L3):(ë l m).length<=1:=by rcases xr l m with h|⟨u,h,hu⟩<;>rw [h];{exact â _};{exact Ù _}
theorem Oj {p:OA}{al:pz Sp}(h:bP 8 pU V p n al){i:Nat}(hi:i<al.length):p.isSome=true/\∃(b:md)(p1:OA)(n1 c1:Nat)(p2:OA)(n2 c2:Nat)(d:md)(p3:OA)(n3 c3:Nat)(p4:OA)(n4 c4:Nat)(a:Addr),ae p (i*8)=some a/\V.at (a.add 0) (dB b)/\V.at (a.add 1) (zF p1 n1 c1)/\V.at (a.add 2) (zF p2 n2 c2)/\V.at (a.add 3) (dB d)/\V.at (a.add 4) (zF p3 n3 c3)/\V.at (a.add 5) (zF p4 n4 c4)/\V.at (a.add 6) (dB al[i].a)/\V.at (a.add 7) (dB al[i].b)/\pU V (hF #[dB b,zF p1 n1 c1,zF p2 n2 c2,dB d,zF p3 n3 c3,zF p4 n4 c4,dB al[i].a,dB al[i].b]) al[i]:=by have ⟨j,f,xs,k,g,c⟩:=h.at_ i hi;have e:=g;obtain ⟨_,_,_,_,_,_,_,_,_,_,_,_,_,_,ex,-,-⟩:=g;have ex:=Æ Array.toList (Value.agg.inj ex);dsimp only at ex;subst ex;refine ⟨?_,_,_,_,_,_,_,_,_,_,_,_,_,_,_,j,f,c 0 _ rfl,c 1 _ rfl,c 2 _ rfl,c 3 _ rfl,c 4 _ rfl,c 5 _ rfl,c 6 _ rfl,c 7 _ rfl,e⟩;(cases p with|none=>{cases f}|some a=>rfl)
theorem J7 {b1:md}{p1:OA}{n1 c1:Nat}{b2:md}{p2:OA}{n2 c2:Nat}{b3:md}{p3:OA}{n3 c3:Nat}{b:md}{q1:OA}{m1 e1:Nat}{q2:OA}{m2 e2:Nat}{d:md}{q3:OA}{m3 e3:Nat}{q4:OA}{m4 e4:Nat}{x y:md}:∀v∈([dB b1,zF p1 n1 c1,dB b2,zF p2 n2 c2,dB b3,zF p3 n3 c3,dB b,zF q1 m1 e1,zF q2 m2 e2,dB d,zF q3 m3 e3,zF q4 m4 e4,dB x,dB y]:pz un),v.oneCell'=true:=by intro v a;simp only [å,Ě,Ì] at a;rcases a with rfl|rfl|rfl|rfl|rfl|rfl|rfl|rfl|rfl|rfl|rfl|rfl|rfl|rfl<;>rfl
def zJ (l:L3)(s:Sp)(m:L3):List (L3×Sp):=(Ö 2 [s] (ë l m)).map λu=>(l,u)
theorem D9 {v w:un}{l m:L3}{s:Sp}(hf:RF V v l s)(hm:cO V w m)(nz:Nz l)(bl:Bd l)(bm:Bd m)(hs:s.can)(ss:s.sz 1000000):À 180 #[v,w] V λr V'=>∃p1 n1 c1 p2 n2 c2,r=tN #[zF p1 n1 c1,zF p2 n2 c2]/\bP 14 tm V' p1 n1 (zJ l s m)/\bP 14 tm V' p2 n2 (zJ l s (Õ m)):=by have t:=hm;obtain ⟨_,_,_,_,_,_,_,_,_,_,_,_,_,_,_,_,_,_,_,_,_,_,_,_,_,_,rfl,E,hS⟩:=hf;obtain ⟨_,_,_,_,_,_,_,_,_,_,_,_,rfl⟩:=bW hm;have s1:ï m 1=m:=rfl;have s2:ï m (-1)=Õ m:=rfl;have c:=WB bl bm;have i:=λk=>Ec hs l (ï m k);have n:=λk=>SS l (ï m k);refine DA V _ ⟨λ_=>⟨φ,λV1 I=>(uO (l:=l) (.inl rfl) (RL.le E I) (cO.le t I) nz bl bm).s ?_⟩,λh=>by cases h⟩;rintro r V2 l2 ⟨q1,n1,c1,rfl,hH⟩;have sP:=I.m l2;refine qyQ ⟨rfl,λo V3 l3=>⟨_,_,_,_,_,_,rfl,?_,?_⟩,λo V4 F RU J=>(pE (op:=2) (la':=[s]) (lb':=ë l (ï m 1)) (Ov J (hS.le (sP.m F))) (vr (hH.le F λ_ _ g=>pU.le g F)) (by have:=n 1;rw [Qc4];omega) (k:=1000000) (λz d=>ö.1 d▸ss) (λz d=>⟨(c 1 z d).1.s ω,(c 1 z d).2.s ω⟩) ω).s ?_⟩;{unfold zJ;rw [<-s1,Au o,comb_nil];exact bP.nil};{unfold zJ;rw [<-s2,Au o,comb_nil];exact bP.nil};rintro r V5 l5 ⟨p4,n4,c4,rfl,G⟩;have G:=G.lst;have la:=i 1;have a5:=G.len;generalize hA:Ö 2 [s] (ë l (ï m 1))=A at *;refine ⟨_,_,_,rfl,λ_=>⟨λz V'=>∃j:Nat,z.1=(j:Int)/\j<=A.length/\z.2.2.2.1=0/\z.2.2.2.2.1=0/\z.2.2.2.2.2.2=[]/\GR 14 tm V' z.2.1 z.2.2.1 z.2.2.2.2.2.1 ((A.take j).map λu=>(l,u)),λz=>A.length-z.1.toNat,⟨(0,0,0,0,0,[],[]),σ,0,rfl,â _,rfl,rfl,rfl,GR.nil⟩,?_⟩⟩;rintro ⟨zi,x1,x2,x3,x4,xs,ys⟩ V6 K ⟨j,x,yF,e3,e4,e5,p⟩;dsimp only at x e3 e4 e5 p ⊢;subst x e3 e4 e5;have y:=(sP.m (F.m l5)).m K;refine ⟨θ,λb=>?_,λb=>⟨λ_=>⟨φ,λV7 L=>(uO (l:=l) (.inr rfl) (RL.le E (y.m L)) (cO.le t (y.m L)) nz bl bm).s ?_⟩,λh=>by cases h⟩⟩;{have b:=Á b;have q:j<A.length:=ω;have wr:i64.wrap ((j:Int)+1)=((j+1:Nat):Int):=by{rw [au ω];rfl};rw [wr,Ý];obtain ⟨is,_,_,_,_,_,_,_,_,_,_,_,_,_,_,M,N,O,P,Q,R,S,T,U,W,gs⟩:=Oj (G.le K λ_ _ g=>pU.le g K) q;have X:=(Qj6 q).symm;have Y:=p.len;rw [ď,é] at Y;generalize A[j]=u at *;refine ⟨is,⟨ω,ω⟩,_,_,_,_,_,_,_,_,_,_,_,_,_,_,_,_,M,N,O,P,Q,R,S,T,U,W,φ,ω,p.le,p.cap,rfl,J7,λsp Z k1 k2=>⟨φ,(((j+1:Nat):Int),x1+1,Z,0,0,_,[]),ω,σ,j+1,rfl,q,rfl,rfl,rfl,?_⟩⟩;rw [X,ŝ];exact p.snoc (a:=(l,u)) rfl ⟨_,_,_,_,_,_,_,_,_,_,_,_,_,_,_,_,_,_,_,_,_,_,_,_,_,_,rfl,RL.le E y,gs⟩ φ k1 k2};have b:=Â b;obtain rfl:j=A.length:=ω;rw [ě] at p;rintro r V8 l8 ⟨q2,n2,c2,rfl,a1⟩;have Qk:=L.m l8;refine qyQ ⟨rfl,λo V9 l9=>⟨_,_,_,_,_,_,rfl,?_,?_⟩,λo fW e VJ C=>(pE (op:=2) (la':=[s]) (lb':=ë l (ï m (-1))) (Ov C (hS.le (y.m (Qk.m e)))) (vr (a1.le e λ_ _ g=>pU.le g e)) (by have:=n (-1);rw [Qc4];omega) (k:=1000000) (λz d=>ö.1 d▸ss) (λz d=>⟨(c (-1) z d).1.s ω,(c (-1) z d).2.s ω⟩) ω).s ?_⟩;{unfold zJ;rw [<-s1,Au o,comb_nil];exact bP.nil};{unfold zJ;rw [<-s2,Au o,comb_nil];exact bP.nil};rintro r fk bw ⟨a6,a7,a8,rfl,H⟩;have H:=H.lst;have lb:=i (-1);have a4:=H.len;generalize hB:Ö 2 [s] (ë l (ï m (-1)))=B at *;have Qj:=Qk.m (e.m bw);refine ⟨_,_,_,rfl,λ_=>⟨λz V'=>∃j:Nat,z.1=(j:Int)/\j<=B.length/\GR 14 tm V' z.2.1 z.2.2.1 z.2.2.2.2.2.1 (A.map λu=>(l,u))/\GR 14 tm V' z.2.2.2.1 z.2.2.2.2.1 z.2.2.2.2.2.2 ((B.take j).map λu=>(l,u)),λz=>B.length-z.1.toNat,⟨(0,x1,x2,0,0,xs,[]),σ,0,rfl,â _,p.s λ_ _ g=>tm.le g Qj,GR.nil⟩,?_⟩⟩;rintro ⟨zi,y1,y2,y3,y4,us,ws⟩ iD bY ⟨j,x,yF,D,f⟩;dsimp only at x D f ⊢;subst x;refine ⟨θ,λb=>?_,λb=>⟨ţ,λ_=>⟨φ,φ,λku ct a9 b8 a2 a3=>?_⟩⟩⟩;{have b:=Á b;have q:j<B.length:=ω;have wr:i64.wrap ((j:Int)+1)=((j+1:Nat):Int):=by{rw [au ω];rfl};rw [wr,Ý];obtain ⟨is,_,_,_,_,_,_,_,_,_,_,_,_,_,_,M,N,O,P,Q,R,S,T,U,W,gs⟩:=Oj (H.le bY λ_ _ g=>pU.le g bY) q;have X:=(Qj6 q).symm;have Y:=f.len;rw [ď,é] at Y;generalize B[j]=u at *;refine ⟨is,⟨ω,ω⟩,_,_,_,_,_,_,_,_,_,_,_,_,_,_,_,_,M,N,O,P,Q,R,S,T,U,W,φ,ω,f.le,f.cap,rfl,J7,λsp Z k1 k2=>⟨φ,(((j+1:Nat):Int),y1,y2,y3+1,Z,us,_),ω,σ,j+1,rfl,q,D,?_⟩⟩;rw [X,ŝ];exact f.snoc (a:=(l,u)) rfl ⟨_,_,_,_,_,_,_,_,_,_,_,_,_,_,_,_,_,_,_,_,_,_,_,_,_,_,rfl,RL.le E (y.m (Qj.m bY)),gs⟩ φ k1 k2};{have b:=Â b;obtain rfl:j=B.length:=ω;rw [ě] at f;have e1:=D.len;have e2:=f.len;have g1:zJ l s m=A.map λu=>(l,u):=by{unfold zJ;rw [<-hA];rfl};have g2:zJ l s (Õ m)=B.map λu=>(l,u):=by{unfold zJ;rw [<-hB];rfl};rw [g1,g2];subst e1 e2;exact qyW ⟨rfl,bP.bM a2 (D.row.le λ_ _ g=>tm.le g ct) φ D.le,bP.bM a3 (f.row.le λ_ _ g=>tm.le g ct) φ f.le⟩}
def LA (l:List Rat):List Rat:=l.foldl (λo x=>dI x o) []
theorem Pb (l:pz Rat):asc (LA l)/\∀x,x∈LA l↔x∈l:=by
 have:∀(l o:pz Rat),asc o->asc (l.foldl (λo x=>dI x o) o)/\∀x,x∈l.foldl (λo x=>dI x o) o↔x∈o\/x∈l:=by
  intro l
  induction l<;>grind [JJ,BV]
 have ⟨a,b⟩:=this l [] List.Pairwise.nil;grind [LA]
theorem PZ {m:L3}:∀u∈ë l m,u.good:=λu hu=>by
 unfold ë at hu;split at hu
 ·grind [fo]
 ·split at hu
  ·rw [ö.1 hu];exact ⟨⟨ţ,λ_=>rfl⟩,rfl⟩
  ·rw [ö.1 hu];exact ⟨⟨λ_=>rfl,ţ⟩,rfl⟩
theorem T1 (l m:L3):Ö 2 [à] (ë l m)=ë l m:=by grind [xr,comb_nil,Cn,PZ]
theorem UK {m:L3}{s:Sp}(hs:s.good):zJ l s m=pH l s m:=by have h:=QP (l:=l) (m:=m) hs;rw [T1] at h;unfold zJ pH;rw [h];split<;>rfl
theorem inB_nil (t:Rat):è [] t=false:=rfl
def eH (l:List L3):List L3:=l.foldl (λo x=>jV x o) []
theorem bI (l:pz L3):(eH l).Pairwise qA/\∀x,x∈eH l↔x∈l:=by
 have:∀(l o:pz L3),o.Pairwise qA->(l.foldl (λo x=>jV x o) o).Pairwise qA/\∀x,x∈l.foldl (λo x=>jV x o) o↔x∈o\/x∈l:=by
  intro l
  induction l with
  | nil=>intro o h;exact ⟨h,λx=>ψ⟩
  | cons y r ih=>
   intro o h;have ⟨a,b⟩:=ih (jV y o) (BT h);refine ⟨a,λx=>?_⟩;rw [Qc6,b x,vk,å];constructor
   ·rintro ((h|h)|h)<;>simp [h]
   ·rintro (h|h|h)<;>simp [h]
 have ⟨a,b⟩:=this l [] List.Pairwise.nil;exact ⟨a,λx=>by rw [eH,b x];simp⟩
theorem Qn {l m:pz L3}(h:∀x,x∈l↔x∈m):eH l=eH m:=
 Ba (bI l).1 (bI m).1 λx=>by rw [(bI l).2 x,(bI m).2 x];exact h x
def ax (m:L3)(l:List (L3×Sp)):List Sp:=(l.filter λx=>decide (x.1=m)).map Prod.snd
def dw (l:List (L3×Sp)):List (L3×Sp):=(eH (l.map Prod.fst)).flatMap λm=>(Ö 1 (ax m l) []).map λs=>(m,s)
theorem PG {A B:pz Sp}(h:A.Perm B):Ö 1 A []=Ö 1 B []:=by refine reg_eq (Þ (A++[])++Þ (B++[])) (comb_reg ..) (comb_reg ..) λt a=>?_;rw [õ,not_or] at a;rw [comb_inB 1 _ _ a.1,comb_inB 1 _ _ a.2];have:è A t=è B t:=by{unfold è;rw [Ģ,Qh9,Qh9];exact ⟨λ⟨x,b,c⟩=>⟨x,h.mem_iff.1 b,c⟩,λ⟨x,b,c⟩=>⟨x,h.mem_iff.2 b,c⟩⟩};rw [this]
theorem Ms {l m:pz (L3×Sp)}(h:l.Perm m):dw l=dw m:=by unfold dw;rw [Qn (l:=l.map Prod.fst) (m:=m.map Prod.fst) λx=>(h.map _).mem_iff];refine Æ (λf=>(eH (m.map Prod.fst)).flatMap f) (funext λk=>?_);rw [PG (A:=ax k l) (B:=ax k m) ((h.filter _).map _)]
theorem Mt {P Q:pz (L3×Sp)}{m:L3}(hP:∀x∈P,qA x.1 m)(hQ:∀x∈Q,x.1=m)(hne:Q≠[]):dw (P++Q)=dw P++(Ö 1 (Q.map Prod.snd) []).map λs=>(m,s):=by
 have i:eH ((P++Q).map Prod.fst)=eH (P.map Prod.fst)++[m]:=by have ⟨j,k⟩:=bI ((P++Q).map Prod.fst);have ⟨n,g⟩:=bI (P.map Prod.fst);refine Ba j (Qg7.2 ⟨n,Qd1 _ _,λx c y d=>?_⟩) λx=>?_;{rw [ö.1 d];obtain ⟨z,b,rfl⟩:=ò.1 ((g x).1 c);exact hP z b};{rw [k x,ŝ,õ,õ,g x,ö];refine or_congr_right ⟨λh=>?_,λh=>?_⟩;{obtain ⟨z,b,rfl⟩:=ò.1 h;exact hQ z b};{have ⟨z,b⟩:=Wy8 Q hne;exact ò.2 ⟨z,b,(hQ z b).m h.symm⟩}}
 have c:∀x∈eH (P.map Prod.fst),ax x (P++Q)=ax x P:=λx c=>by obtain ⟨z,b,rfl⟩:=ò.1 (((bI _).2 x).1 c);have f:=hP z b;unfold ax;rw [Qs9,(Qp3 (l:=Q)).2 λy d=>?_,Ć];intro e;have e:=Á e;rw [<-e,hQ y d] at f;exact yI f
 have hm:ax m (P++Q)=Q.map Prod.snd:=by unfold ax;rw [Qs9,(Qp3 (l:=P)).2 λy d=>?_,ō,(Qr8 (l:=Q)).2 λy d=>Ç (hQ y d)];intro e;exact yI ((Á e)▸hP y d)
 unfold dw;rw [i,Qc1,List.flatMap_singleton,hm];congr 1;generalize eH (P.map Prod.fst)=L at c
 induction L with
 | nil=>rfl
 | cons a r ih=>rw [Ď,Ď,c a (þ ..),ih λx h=>c x (ó _ h)]
end Go.Proofs.Tryz
namespace Go.Proofs.Tryz
section
variable{V:Ó}{c n:Nat}{p:OA}{y z:Value}{L l:L3}
theorem OL {α:Type}{sz:Nat}{R R':ut->un->α->Prop}{V':ut}{vs:pz un}{l:pz α}(h:ç sz R V vs l)(m:∀v a,a∈l->R V v a->R' V' v a):ç sz R' V' vs l:=
 ⟨λi b=>by have ⟨xs,c,d,e⟩:=h.at_ i b;exact ⟨xs,c,m _ _ (ù b) d,e⟩⟩
theorem MV {ws:pz un}{m:pz (L3×Sp)}(h:ç 17 nY V ws m){i:Nat}(hi:i<m.length):∃(x1 x2:Int)(p:OA)(y1 y2:Int)(q:OA)(z1 z2:Int)(r:OA)(u1 u2:Int)(t:OA)(w1 w2:Int)(o:OA),((i*17+0)+9<=ws.length/\(ws.drop (i*17+0)).take 9=[Ô .i64 x1,Ô .i64 x2,dS p,Ô .i64 y1,Ô .i64 y2,dS q,Ô .i64 z1,Ô .i64 z2,dS r])/\((i*17+9)+8<=ws.length/\(ws.drop (i*17+9)).take 8=[Ô .i64 u1,Ô .i64 u2,dS t,Ô .i64 w1,Ô .i64 w2,dS o,dB m[i].2.a,dB m[i].2.b])/\uw V (hF #[Ô .i64 x1,Ô .i64 x2,dS p,Ô .i64 y1,Ô .i64 y2,dS q,Ô .i64 z1,Ô .i64 z2,dS r]) m[i].1/\eM V (hF #[Ô .i64 u1,Ô .i64 u2,dS t,Ô .i64 w1,Ô .i64 w2,dS o,dB m[i].2.a,dB m[i].2.b]) m[i].2:=by obtain ⟨xs,-,c,k,f⟩:=h.get (d:=gi) hi φ;have e:m.getD i gi=m[i]:=by{rw [ġ,ô hi];rfl};rw [e] at c;obtain ⟨_,_,_,_,_,_,_,_,_,_,_,_,_,_,_,ex,g,j⟩:=c;have ex:=Æ Array.toList (Value.agg.inj ex);subst ex;refine ⟨_,_,_,_,_,_,_,_,_,_,_,_,_,_,_,⟨ω,?_⟩,⟨ω,?_⟩,g,j⟩;{have:=Æ (List.take 9) f;rw [Qt6] at this;exact this};{have:=Æ (List.drop 9) f;rw [List.drop_take,Qp1] at this;exact this}
theorem Xw {V:ut}{xs:pz un}{x:Sp}(h:eM V (.agg xs.toArray) x):∀v∈xs,v.oneCell'=true:=by obtain ⟨_,_,_,_,_,_,ex,-,-⟩:=h;have ex:=Æ Array.toList (Value.agg.inj ex);subst ex;intro v a;simp only [å,Ě,Ì] at a;rcases a with rfl|rfl|rfl|rfl|rfl|rfl|rfl|rfl<;>rfl
theorem lt_le {a b c:L3}(h:qA a b)(h':¬jR c b<0):qA a c:=by by_cases e:b=c;{rw [<-e];exact h};{exact Ty h (Ok h' λk=>e k.symm)}
set_option maxHeartbeats 2000000 in
theorem wO {fs:pz (L3×Sp)}(h:bP 17 nY V p n fs)(h0:fs=[]->p=none)(mN:fs.length<10000)(each:∀m,(ax m fs).length<70)(hb:∀f∈fs,iH 10000 f.1)(hg:∀f∈fs,f.2.good)(hs:∀f∈fs,f.2.sz 1000000)(so:∀i,nZ i):À 64 #[zF p n c] V λr V'=>∃q m e,r=zF q m e/\bP 17 nY V' q m (dw fs):=by
 refine Dd V _ λV1 l1=>(R8 (h.le l1 λ_ _ g=>uB.le g l1) ω h0).s ?_;rintro r V2-⟨bm,vs,a1,a2,e,rfl,hle,Z,vf,row,lW⟩;refine ⟨bm,vs,a1,λh=>.inl (a2 h),none,fs.length,e,rfl,?_⟩;have F:ç 17 nY (V2.shut.aW (vs≠[]) bm) vs fs:=row.le λ_ _ g=>uB.le g λb o h=>h;clear a1 a2 row lW;refine ⟨λws V'=>∃m:pz (L3×Sp),m.Perm fs/\(m.Pairwise λx y=>¬jR y.1 x.1<0)/\ç 17 nY V' ws m,⟨λD=>?_,λD V5 l5 W e1 e2=>?_⟩,?_⟩
 ·have a0:=Qb0 λh=>vf.2 h D;subst a0;obtain rfl:=Z.1 D;refine ⟨rfl,λV3 l3=>uI.s ?_⟩;rintro r V4 l4 rfl;exact ⟨rfl,vs,σ,[],.refl _,List.Pairwise.nil,ç.nil⟩
 ·have a3:e≠0:=λh=>D (Z.2 h);have SY:∀b,mA b e=some ⟨b,0,none⟩:=λb=>by{unfold mA;rw [Ã a3]};rw [SY];refine (DY (V:=V5.aq [vb vs V5.w.heap.size W]) (lb:=W) (vs:=vs) (l:=fs) (e1 D) ⟨by simp [pJ D],e2 D⟩ ⟨OL F λv a ha g=>⟨uB.le g λb o h=>l5 b o h,hb a ha⟩,rfl,mN⟩).s ?_;rintro r V6 l6 ⟨rfl,ws,m,e3,sr,pm,pw⟩;have W0:=pm.length_eq;have hw:ws≠[]:=λe=>by{have:=sr.row.fP φ;rw [e,W0] at this;exact vf.1 D (ĕ.1 (by rw [į] at this;omega))};exact ⟨rfl,D,ws,hw,e3,ws,σ,m,pm,pw,OL sr.row λv a _ g=>uB.le g.1 λb o h=>h⟩
 rintro ws V7 l7 ⟨m,pm,pw,R⟩;rw [Ms pm.symm]
 replace hb:∀f∈m,iH 10000 f.1:=λf P=>hb f (pm.mem_iff.1 P)
 replace hg:∀f∈m,f.2.good:=λf P=>hg f (pm.mem_iff.1 P)
 replace hs:∀f∈m,f.2.sz 1000000:=λf P=>hs f (pm.mem_iff.1 P)
 replace each:∀u,(ax u m).length<70:=λu=>by have:=((pm.filter λx=>decide (x.1=u)).map Prod.snd).length_eq;have:=each u;unfold ax at *;omega
 rw [<-pm.length_eq] at mN hle ⊢;clear h0 h pm F Z vf;have S:∀i j (A:i<m.length) (H:j<m.length),i<j->¬jR m[j].1 m[i].1<0:=λi j A H=>Qn4.1 pw i j A H;refine ⟨rfl,λz V'=>∃j:Nat,z.2.2.2=(j:Int)/\j<=m.length/\GR 17 nY V' z.1 z.2.1 z.2.2.1 (dw (m.take j))/\(dw (m.take j)).length<=300*j/\∀x∈m.take j,∀y∈m.drop j,qA x.1 y.1,λz=>m.length-z.2.2.2.toNat,⟨(0,0,[],0),σ,0,rfl,â _,GR.nil,â _,λx d=>by simp at d⟩,?_⟩;rintro ⟨n1,c1,os,i1⟩ V8 l8 ⟨j,ej,yF,Q,ol,sep⟩;subst ej;refine ⟨rfl,λB=>?_,λB lY cK W I=>?_⟩;rotate_left
 ·have B:¬(j:Int)<(m.length:Nat):=Â B;obtain rfl:j=m.length:=ω;rw [ě] at Q;have:=bP.bM I (Q.row.le λ_ _ g=>uB.le g cK) φ (by rw [<-Q.len];exact Q.le);rw [<-Q.len] at this;exact ⟨_,_,_,rfl,this⟩
 have B:(j:Int)<(m.length:Nat):=Á B;have H:j<m.length:=ω
 refine ⟨λz V'=>∃k:Nat,z.2.2.2=(k:Int)/\j<=k/\k<=m.length/\GR 8 eM V' z.1 z.2.1 z.2.2.1 (((m.take k).drop j).map Prod.snd)/\∀x∈(m.take k).drop j,x.1=m[j].1,λz=>m.length-z.2.2.2.toNat,⟨(0,0,[],(j:Int)),σ,j,rfl,Ù _,ω,?_,?_⟩,?_⟩
 ·rw [List.drop_eq_nil_of_le (by rw [é];omega)];exact GR.nil
 ·rw [List.drop_eq_nil_of_le (by rw [é];omega)];intro x d;cases d
 rintro ⟨n2,c2,us,i2⟩ V9 l9 ⟨k,ek,jk,a4,E,same⟩;dsimp only at ek E;subst ek;have K:=R.le λ_ _ g=>uB.le g (l8.m l9);obtain ⟨b1,b2,b3,b4,b5,b6,b7,b8,b9,-,-,-,-,-,-,jl,-,jr,-⟩:=MV K H;refine ⟨rfl,λb V'=>V9.Le V'/\b=decide (∃h:k<m.length,m[k].1=m[j].1),⟨λt=>?_,λt=>?_⟩,?_⟩
 ·have t:(k:Int)<(m.length:Nat):=Á t;have t:k<m.length:=ω;dsimp only;rw [Ý,Ý];obtain ⟨d1,d2,d3,d4,d5,d6,d7,d8,d9,-,-,-,-,-,-,kl,-,X,-⟩:=MV K t;refine ⟨⟨ω,ω⟩,hle,d1,d2,d3,d4,d5,d6,d7,d8,d9,kl,⟨ω,ω⟩,hle,b1,b2,b3,b4,b5,b6,b7,b8,b9,jl,λfW L=>(rF (uw.le X L) (uw.le jr L) (hb _ (ù t)) (hb _ (ù H))).s ?_⟩;rintro r fk bw rfl;exact ⟨_,rfl,_,σ,L.m bw,É.2 ⟨λh=>⟨t,h⟩,λ⟨_,h⟩=>h⟩⟩
 ·have t:¬(k:Int)<(m.length:Nat):=Â t;exact ⟨false,σ,Ó.Le.refl _,(È λ⟨h,_⟩=>ω).symm⟩
 rintro b iD bY ⟨T,rfl⟩;refine ⟨rfl,λt=>?_,λt ku ct W I=>?_⟩
 ·have ⟨t,a5⟩:=Á t;have w:i64.wrap ((k:Int)+1)=((k+1:Nat):Int):=by{rw [au ω];rfl};dsimp only;rw [Ý,w];obtain ⟨-,-,-,-,-,-,-,-,-,d1,d2,d3,d4,d5,d6,-,kl,-,X⟩:=MV (K.le λ_ _ g=>uB.le g T) t;have tk:(m.take (k+1)).drop j=(m.take k).drop j++[m[k]]:=by{rw [<-Qj6 t,List.drop_append_of_le_length (by rw [é];omega)]};have sl:=E.len;rw [ď,Ĵ,é] at sl;refine ⟨⟨ω,ω⟩,hle,d1,d2,d3,d4,d5,d6,_,_,kl,ω,E.le,E.cap,rfl,Xw (V:=iD) (x:=m[k].2) X,λsp c' k1 k2=>⟨(n2+1,c',_,((k+1:Nat):Int)),by dsimp only;omega,σ,k+1,rfl,ω,t,?_,?_⟩⟩;{rw [tk,ŝ];exact (E.s λ_ _ g=>eM.le g T).snoc rfl X φ k1 k2};{rw [tk];intro x d;rcases õ.1 d with d|d;{exact same x d};{rw [ö.1 d];exact a5}}
 have t:=Â t;have a6:=Nat.lt_of_le_of_ne jk λe=>by subst e;exact t ⟨H,rfl⟩
 have sub:∀x∈(m.take k).drop j,x∈m:=λx d=>Qn5 (Qg5 d);have hA:=bP.bM I (E.row.le λ_ _ g=>eM.le g (T.m ct)) φ (by rw [<-E.len];exact E.le);rw [<-E.len] at hA
 have Al:(((m.take k).drop j).map Prod.snd).length<70:=by refine Ń ?_ (each m[j].1);unfold ax;rw [<-Qr8.2 λx d=>Ç (same x d)];exact ((((List.drop_sublist _ _).m (List.take_sublist _ _)).filter _).map _).length_le
 have P:=SF (((m.take k).drop j).map Prod.snd);refine (Bj hA (λs M=>by obtain ⟨x,d,rfl⟩:=ò.1 M;exact hg x (sub x d)) (λs M=>by obtain ⟨x,d,rfl⟩:=ò.1 M;exact hs x (sub x d)) ω ω (so _)).s ?_;rintro r lV cJ ⟨q,n3,c3,rfl,hC⟩;refine ⟨_,_,_,rfl,λJ=>?_⟩
 have sn:dw (m.take k)=dw (m.take j)++(Ö 1 (((m.take k).drop j).map Prod.snd) []).map λs=>(m[j].1,s):=by
  have e:m.take k=m.take j++(m.take k).drop j:=by
   conv=>lhs;rw [<-Qv0 j (m.take k),Qt6,ģ ω]
  conv=>lhs;rw [e]
  refine Mt (λx d=>sep x d _ (Qm2.2 ⟨0,by rw [Ĵ];omega,by rw [Qp8];rfl⟩)) same λh=>?_;have:=Æ List.length h;rw [Ĵ,é] at this;simp at this;omega
 have cl:=Bw 1 (((m.take k).drop j).map Prod.snd) [];have f0:fe []=0:=rfl;generalize Ö 1 (((m.take k).drop j).map Prod.snd) []=C at hC sn cl;obtain rfl:=hC.len;refine ⟨λz V'=>∃i:Nat,z.2.2.2=(i:Int)/\i<=C.length/\GR 17 nY V' z.1 z.2.1 z.2.2.1 (dw (m.take j)++(C.take i).map λs=>(m[j].1,s)),λz=>C.length-z.2.2.2.toNat,⟨(n1,c1,os,0),σ,0,rfl,â _,?_⟩,?_⟩
 ·rw [Qd4,List.map_nil,Ć];exact Q.s λ_ _ g=>uB.le g (l9.m (T.m (ct.m cJ)))
 rintro ⟨n4,c4,ts,i4⟩ mg cP ⟨i,ei,Vn,N⟩;dsimp only at ei N;subst ei;refine ⟨rfl,λA=>?_,λA=>?_⟩
 ·have A:(i:Int)<(C.length:Nat):=Á A;have A:i<C.length:=ω;have w:i64.wrap ((i:Int)+1)=((i+1:Nat):Int):=by{rw [au ω];rfl};dsimp only;rw [Ý,Ý,w];obtain ⟨ad,h0,xs,-,y2,G⟩:=(hC.le cP λ_ _ g=>eM.le g cP).at_ i A;obtain ⟨_,_,_,_,_,_,ex,g1,g2⟩:=y2;have ex:=Æ Array.toList (Value.agg.inj ex);dsimp only at ex;subst ex;have he:uB mg (hF #[Ô .i64 b1,Ô .i64 b2,dS b3,Ô .i64 b4,Ô .i64 b5,dS b6,Ô .i64 b7,Ô .i64 b8,dS b9,Ô .i64 _,Ô .i64 _,dS _,Ô .i64 _,Ô .i64 _,dS _,dB C[i].a,dB C[i].b]) m[j].1 C[i]:=⟨_,_,_,_,_,_,_,_,_,_,_,_,_,_,_,rfl,uw.le jr (T.m (ct.m (cJ.m cP))),_,_,_,_,_,_,rfl,g1,g2⟩;have tl:=N.len;rw [í,ď,é] at tl;refine ⟨aQ h0,⟨ω,ω⟩,_,_,_,_,_,_,_,_,ad,h0,G 0 _ rfl,G 1 _ rfl,G 2 _ rfl,G 3 _ rfl,G 4 _ rfl,G 5 _ rfl,G 6 _ rfl,G 7 _ rfl,⟨ω,ω⟩,hle,b1,b2,b3,b4,b5,b6,b7,b8,b9,jl,ω,N.le,N.cap,rfl,CC (V:=mg) (x:=(_,_)) he,λsp c' k1 k2=>⟨(n4+1,c',_,((i+1:Nat):Int)),by dsimp only;omega,σ,i+1,rfl,A,?_⟩⟩;rw [<-Qj6 A,ŝ,<-ė];exact N.snoc (a:=(m[j].1,C[i])) rfl he φ k1 k2
 ·have A:¬(i:Int)<(C.length:Nat):=Â A;obtain rfl:i=C.length:=ω
  rw [ě] at N;refine ⟨(n4,c4,ts,(k:Int)),by dsimp only;omega,σ,k,rfl,a4,by rw [sn];exact N,by rw [sn,í,ď];omega,λx d y hy=>?_⟩;obtain ⟨Y,a7,rfl⟩:=Qm2.1 hy;rw [Ĵ] at a7;rw [Qp8];have O:k<m.length:=ω
  have U:=Ok (S j k H O a6) λe=>t ⟨O,e⟩
  have a8:qA m[j].1 m[k+Y].1:=by by_cases e:Y=0;{subst e;exact U};{exact lt_le U (S k (k+Y) O ω ω)}
  have e:m.take k=m.take j++(m.take k).drop j:=by
   conv=>lhs;rw [<-Qv0 j (m.take k),Qt6,ģ ω]
  rw [e] at d;rcases õ.1 d with d|d
  ·exact sep x d _ (Qm2.2 ⟨k+Y-j,by rw [Ĵ];omega,by rw [Qp8];congr 1;omega⟩)
  grind
theorem OJ {fs:pz (L3×Sp)}(h:bP 17 nY V p n fs):Ro V p n fs:=⟨h.len,λi a=>by
 obtain ⟨b,c,xs,-,d,e⟩:=h.at_ i a;exact ⟨b,c,xs,d,e⟩⟩
theorem Rz (l:pz Rat):(LA l).length<=l.length:=by
 have:∀(l o:pz Rat),(l.foldl (λo x=>dI x o) o).length<=o.length+l.length:=by
  intro l
  induction l with
  | nil=>exact λo=>Ù _
  | cons y r ih=>intro o;have a:=ih (dI y o);have b:=@nH y o;rw [Qc6,Ą];omega
 have:=this l [];simpa [LA] using this
theorem I2 {fs:pz (L3×Sp)}(h:y_ V p n fs)(mN:fs.length<10000)(each:∀m,(ax m fs).length<70)(hb:∀f∈fs,iH 10000 f.1)(hs:∀f∈fs,f.2.sz 1000000)(ho:∀f∈fs,U9 f.1 f.2)(hl:(dw fs).length<=10000)(so:∀i,nZ i):À 22 #[zF p n c] V λr V'=>∃q m e,r=tN #[zF q m e,.nilIface]/\y_ V' q m (dw fs):=by have b:∀f∈dw fs,iH 1000000 f.1/\f.2.sz 1000000:=λf a=>by{have ⟨m,hm,a⟩:=Đ.1 a;obtain ⟨s,d,rfl⟩:=ò.1 a;obtain ⟨g,o,rfl⟩:=ò.1 (((bI _).2 _).1 hm);have z:=hb g o;refine ⟨⟨z.1.s ω,z.2.1.s ω,z.2.2.s ω⟩,G4 φ (λu hu=>?_) (λu hu=>by cases hu) s d⟩;obtain ⟨x,t,rfl⟩:=ò.1 hu;exact hs x (ĺ.1 t).1};refine xS V _ λD v=>(VO (h.le v) ω (λf a=>⟨⟨(hb f a).1.s ω,(hb f a).2.1.s ω,(hb f a).2.2.s ω⟩,hs f a⟩) ho (k:=1000000)).s ?_;rintro r V2 E ⟨F,G,H,rfl,w,y⟩;refine qyQ ⟨rfl,κ,λ_ I j=>(wO (w.le j λ_ _ g=>uB.le g j) y mN each hb (λf a=>(ho f a).2) hs so).s ?_⟩;rintro r J K ⟨L,M,N,rfl,A⟩;refine ⟨_,_,_,rfl,λO l=>(Bg (OJ (A.le l λ_ _ g=>uB.le g l)) hl b).s ?_⟩;rintro r P Q ⟨R,S,T,rfl,B⟩;exact ⟨_,_,_,rfl,λU C=>⟨_,_,_,rfl,B.le C⟩⟩
theorem zg {v:un}{root:Int}{l:pz Nd}(hb:∀x∈l,Bd x.ln)(h:AT V v root l)(hy:tv V 0 y)(hz:tv V 1 z):À 38 #[v] V λr V'=>(Ek l root=none->r=tN #[dS none,y])/\∀t,Ek l root=some t->t.depth<=1024->∃q,r=tN #[dS q,.nilIface]/\RT V' q t:=by
 obtain ⟨q,n,c,rfl,-⟩:=id h;refine xQ V _ λB i=>(Fo hb (h.le i)).s ?_;rintro r V2 s ⟨a,rfl,j⟩;have m:=i.m s;refine ⟨_,_,rfl,λg=>⟨y,⟨_,rfl,hy.le m⟩,λC D=>?_⟩,λg E o=>?_⟩
 ·have g:Ek l root=none:=by cases e:Ek l root with
   | none=>rfl
   | some t=>rw [e] at g;cases g
  exact ⟨λ_=>rfl,λt b=>by rw [g] at b;cases b⟩
 ·(cases e:Ek l root with|none=>{rw [e] at g;cases g}|some t=>{have F:=TW e;refine (pY t ((j t e).le o) ω).s ?_;rintro r G u rfl;have p:=o.m u;refine ⟨_,rfl,λd=>⟨z,⟨_,rfl,hz.le (m.m p)⟩,λH I=>⟨ţ,λw b f=>?_⟩⟩,λd J A=>⟨ţ,λw b f=>?_⟩⟩;{cases b;have d:=Á d;omega};{cases b;exact ⟨_,rfl,(j t e).le (p.m A)⟩}})
theorem Zz {S:pz L3}{t:Tr}(bl:Bd L)(ht:t.dV λl=>Bd l/\l∈S)(hs:S.length<=30)(hb:∀l∈S,Bd l):NJ L (LA (S.map λm=>Ø m L)) t:=by have ⟨b,a⟩:=Pb (S.map λm=>Ø m L);refine ⟨(LZ (ht.imp λ_ h=>h.2)).imp λm h c=>(a _).2 (h c),b,?_,λx d=>?_⟩;{have:=Rz (S.map λm=>Ø m L);rw [ď] at this;omega};{obtain ⟨m,hm,rfl⟩:=ò.1 ((a x).1 d);exact (pf bl.ja (hb m hm).ja).s ω}
theorem tw {t:Tr}{P:pz Rat}(hc:NJ L P t):rW (po L t)/\(∀s∈po L t,s.sz 1000000)/\(po L t).length<=61:=by have r:rW (po L t):=comb_reg _ _ _;refine ⟨r,Bx hc.sz λs a=>⟨r.1 s a,on_end hc.crs s a⟩,?_⟩;have:=Bw 3 (nI L true t) (nI L false t);obtain ⟨-,-,f1,-⟩:=vl hc true;obtain ⟨-,-,f2,-⟩:=vl hc false;show (Ö 3 (nI L true t) (nI L false t)).length<=61;omega
def sO (t:Tr)(L:L3):List (L3×Sp):=(po L t).map λs=>(L,s)
def rE (t:Tr)(D:List L3):List (L3×Sp):=D.flatMap λl=>sO t l++sO t (Õ l)
theorem Fy:Ö 1 [bZ] []=[bZ]:=by refine reg_eq (Þ ([bZ]++[])) (comb_reg ..) ⟨λs h=>by rw [ö.1 h];exact lr,Qd1 _ _⟩ λt a=>?_;rw [comb_inB 1 _ _ a];simp [ę,è]
def Gt (fs F:List (L3×Sp)):Prop:=∀{V:Ó} {p:OA} {n c:Nat},bP 17 nY V p n fs->(fs=[]->p=none)->À 64 #[.slice p n c] V λr V'=>∃q m e,r=.slice q m e/\bP 17 nY V' q m F
def Vx (V:Ó)(n c:Nat)(vs:List Value)(l:List (L3×Sp)):Prop:=GR 17 nY V n c vs l/\(l=[]->c=0)
theorem Vx.le {V V':ut}{vs:pz un}{l:pz (L3×Sp)}(h:Vx V n c vs l)(g:V.Le V'):Vx V' n c vs l:=⟨h.1.s λ_ _ k=>uB.le k g,h.2⟩
set_option maxHeartbeats 4000000 in
theorem Bh {q:OA}{t:Tr}(h:RT V q t)(ha:t.dV Bd)(hs:t.size<4000)(hD:(bV t.eU).length<=50)(hc:∀l∈bV t.eU,∃P P',NJ l P t/\NJ (Õ l) P' t)(so:∀i,i<=60->nZ i)(sl:Gu t.eU.length)(cl:IB t.eU.length){F:pz (L3×Sp)}(hJ:Gt (rE t (bV t.eU)) F):À 56 #[dS q] V λr V'=>∃p n c,r=zF p n c/\bP 17 nY V' p n F:=by
 refine we V _ λV1 l1=>(I0 (h.le l1) ha hs sl cl).s ?_;rintro r V2 l2 ⟨p,n,c,m,rfl,gD,sD⟩;rw [Tu sD] at gD;have b5:=hD;generalize bV t.eU=D at *;obtain rfl:=gD.len;have sP:=l1.m l2
 have mN:∀l∈D,(sO t l).length<=61/\(sO t (Õ l)).length<=61:=λl S=>by have ⟨P,P',c1,c2⟩:=hc l S;unfold sO;rw [ď,ď];exact ⟨(tw c1).2.2,(tw c2).2.2⟩
 have O:∀j,(rE t (D.take j)).length<=122*50:=λj=>by
  have:∀E:pz L3,(∀l∈E,l∈D)->(rE t E).length<=122*E.length:=λE hE=>by
   induction E with
   | nil=>exact Ù _
   | cons l E ih=>
    have h1:=ih λx hx=>hE x (ó _ hx);have ⟨f1,f2⟩:=mN l (hE l (þ ..));unfold rE at *;rw [Ď,í,í,Ą];omega
  have h1:=this (D.take j) λl S=>Wq7 _ _ S;rw [é] at h1;omega
 refine ⟨p,_,c,rfl,λz V'=>∃j:Nat,z.2.2.2=(j:Int)/\j<=D.length/\Vx V' z.1 z.2.1 z.2.2.1 (rE t (D.take j)),λz=>D.length-z.2.2.2.toNat,⟨(0,0,[],0),σ,0,rfl,â _,GR.nil,λ_=>rfl⟩,?_⟩;rintro ⟨z1,z2,vs,z4⟩ V3 l3 ⟨j,Q,yF,R⟩;dsimp only at Q R;subst Q;dsimp only;rw [Ý];have yG:=sP.m l3;refine ⟨rfl,λB=>?_,λB fW b0 bk hb=>?_⟩;rotate_left
 ·have B:¬(j:Int)<D.length:=Â B;obtain rfl:j=D.length:=ω;rw [ě] at R;obtain ⟨R,h0⟩:=R;obtain rfl:=R.len;refine (hJ (bP.bM hb (R.row.le λ_ _ g=>uB.le g b0) φ R.le) λe=>by rw [h0 e];rfl).s ?_;rintro r fk bw ⟨q',m',e',rfl,g⟩;exact ⟨q',m',e',rfl,λ_ iD bY=>⟨q',m',e',rfl,g.le bY λ_ _ g=>uB.le g bY⟩⟩
 have B:(j:Int)<D.length:=Á B;have hi:j<D.length:=ω
 have w:i64.wrap ((j:Int)+1)=((j+1:Nat):Int):=by rw [au ω];rfl
 rw [w];have ⟨ps,T,U,W,X,Y,Z,y,A,q3,a,b1,a0,a1,a2,a3,a4,a5,a6,a7,a8,gl⟩:=WW (gD.le l3 λ_ _ k=>mI.le k l3) hi;have S:=ù hi
 have et:rE t (D.take (j+1))=rE t (D.take j)++(sO t D[j]++sO t (Õ D[j])):=by unfold rE;rw [ŀ,ô hi];show List.flatMap _ (_++[D[j]])=_;rw [Qc1,Ď,Wk2,Ć]
 have ⟨P,P',c1,c2⟩:=hc _ S;have ⟨f1,f2⟩:=mN _ S;have fj:=O j;have b2:=O (j+1);rw [et] at b2;generalize D[j]=L at *;obtain ⟨gl,bl⟩:=gl;have gl:uw V3 _ L:=gl;refine ⟨ps,⟨ω,ω⟩,T,U,W,X,Y,Z,y,A,q3,a,b1,a0,a1,a2,a3,a4,a5,a6,a7,a8,λV4 l4=>(jj (gl.le l4) bl.ja).s ?_⟩;rintro r V5 l5 gr;have Eg:uw V5 r (Õ L):=gr;obtain ⟨s1,s2,s3,s4,s5,s6,s7,s8,s9,rfl,-,-,-⟩:=gr;have xB:=l4.m l5
 refine ⟨s1,s2,s3,s4,s5,s6,s7,s8,s9,rfl,λz V'=>∃i:Nat,z.2.2.2.1=(i:Int)/\i<=2/\z.2.2.2.2=[Ô .i64 T,Ô .i64 U,dS W,Ô .i64 X,Ô .i64 Y,dS Z,Ô .i64 y,Ô .i64 A,dS q3,Ô .i64 s1,Ô .i64 s2,dS s3,Ô .i64 s4,Ô .i64 s5,dS s6,Ô .i64 s7,Ô .i64 s8,dS s9]/\V5.Le V'/\Vx V' z.1 z.2.1 z.2.2.1 (rE t (D.take j)++([L,Õ L].take i).flatMap (sO t)),λz=>2-z.2.2.2.1.toNat,
  ⟨(z1,z2,vs,0,_),σ,0,rfl,ω,rfl,Ó.Le.refl _,by show Vx V5 z1 z2 vs (_++[]);rw [Ć];exact R.le xB⟩,?_⟩
 rintro ⟨u1,u2,us,u4,lits⟩ V6 l6 ⟨i,Q,Vn,e5,Qi,N⟩;dsimp only at Q e5 N;subst Q e5;dsimp only;rw [Ý];refine ⟨rfl,λf=>?_,λf=>?_⟩;rotate_left
 ·have f:¬(i:Int)<2:=Â f;obtain rfl:i=2:=ω;have e:([L,Õ L].take 2).flatMap (sO t)=sO t L++sO t (Õ L):=by{show sO t L++(sO t (Õ L)++[])=_;rw [Ć]};rw [e,<-et] at N;exact ⟨(u1,u2,us,((j+1:Nat):Int)),by dsimp only;omega,σ,j+1,rfl,hi,N⟩
 have f:(i:Int)<2:=Á f;have wi:i64.wrap ((i:Int)+1)=((i+1:Nat):Int):=by rw [au ω];rfl
 have b3:∃(C Vs:Int)(G:OA)(H I:Int)(J:OA)(U6 U7:Int)(K:OA)(d:L3),((0+i*9)+9<=([Ô .i64 T,Ô .i64 U,dS W,Ô .i64 X,Ô .i64 Y,dS Z,Ô .i64 y,Ô .i64 A,dS q3,Ô .i64 s1,Ô .i64 s2,dS s3,Ô .i64 s4,Ô .i64 s5,dS s6,Ô .i64 s7,Ô .i64 s8,dS s9]:pz un).length/\(([Ô .i64 T,Ô .i64 U,dS W,Ô .i64 X,Ô .i64 Y,dS Z,Ô .i64 y,Ô .i64 A,dS q3,Ô .i64 s1,Ô .i64 s2,dS s3,Ô .i64 s4,Ô .i64 s5,dS s6,Ô .i64 s7,Ô .i64 s8,dS s9]:pz un).drop (0+i*9)).take 9=[Ô .i64 C,Ô .i64 Vs,dS G,Ô .i64 H,Ô .i64 I,dS J,Ô .i64 U6,Ô .i64 U7,dS K]) /\
   uw V6 (hF #[Ô .i64 C,Ô .i64 Vs,dS G,Ô .i64 H,Ô .i64 I,dS J,Ô .i64 U6,Ô .i64 U7,dS K]) d/\Bd d/\(∃P,NJ d P t)/\([L,Õ L].take (i+1)).flatMap (sO t)=([L,Õ L].take i).flatMap (sO t)++sO t d/\(([L,Õ L].take i).flatMap (sO t)).length<=61:=by
  rcases (show i=0\/i=1 by omega) with rfl|rfl
  ·exact ⟨T,U,W,X,Y,Z,y,A,q3,L,⟨by show 0+0*9+9<=18;omega,rfl⟩,gl.le (xB.m Qi),bl,⟨P,c1⟩,by show sO t L++[]=[]++sO t L;rw [Ć];rfl,â _⟩
  ·exact ⟨s1,s2,s3,s4,s5,s6,s7,s8,s9,Õ L,⟨by show 0+1*9+9<=18;omega,rfl⟩,Eg.le Qi,bl.rev,⟨P',c2⟩,by show sO t L++(sO t (Õ L)++[])=(sO t L++[])++sO t (Õ L);rw [Ć,Ć],by show (sO t L++[]).length<=61;rw [Ć];exact f1⟩
 obtain ⟨C,Vs,G,H,I,J,U6,U7,K,d,a9,gL,bL,⟨PL,cL⟩,eT,fT⟩:=b3;have Ay:=yG.m (xB.m Qi);refine ⟨⟨ω,ω⟩,C,Vs,G,H,I,J,U6,U7,K,a9,λV7 l7=>(Sf (h.le (Ay.m l7)) ha (gL.le l7) bL cL so).s ?_⟩;rintro r V8 l8 ⟨p8,n8,c8,rfl,g8⟩;obtain rfl:=g8.len;have Qk:=l7.m l8;have b6:=(tw cL).2.2
 refine ⟨p8,_,c8,rfl,λz V'=>∃k:Nat,z.2.2.2.1=(k:Int)/\k<=(po d t).length/\z.2.2.2.2=[Ô .i64 T,Ô .i64 U,dS W,Ô .i64 X,Ô .i64 Y,dS Z,Ô .i64 y,Ô .i64 A,dS q3,Ô .i64 s1,Ô .i64 s2,dS s3,Ô .i64 s4,Ô .i64 s5,dS s6,Ô .i64 s7,Ô .i64 s8,dS s9]/\V8.Le V'/\Vx V' z.1 z.2.1 z.2.2.1 ((rE t (D.take j)++([L,Õ L].take i).flatMap (sO t))++((po d t).take k).map λs=>(d,s)),λz=>(po d t).length-z.2.2.2.1.toNat,
  ⟨(u1,u2,us,0,_),σ,0,rfl,â _,rfl,Ó.Le.refl _,by show Vx V8 u1 u2 us (_++[]);rw [Ć];exact N.le Qk⟩,?_⟩
 rintro ⟨w1,w2,ws,w4,lits⟩ V9 l9 ⟨k,Q,b7,e5,M,v⟩;dsimp only at Q e5 v;subst Q e5;dsimp only;rw [Ý];refine ⟨rfl,λo=>?_,λo=>?_⟩;rotate_left
 ·have o:¬(k:Int)<(po d t).length:=Â o;obtain rfl:k=(po d t).length:=ω
  rw [ě] at v;refine ⟨(w1,w2,ws,((i+1:Nat):Int),_),by dsimp only;omega,by and_intros<;>first|rfl|exact wi,i+1,rfl,ω,rfl,Qi.m (Qk.m M),?_⟩;show Vx V9 w1 w2 ws _;rw [eT,<-ė];exact v
 have o:(k:Int)<(po d t).length:=Á o;have hk:k<(po d t).length:=ω
 have wk:i64.wrap ((k:Int)+1)=((k+1:Nat):Int):=by rw [au ω];rfl
 obtain ⟨ad,hd,xs,-,hq,u⟩:=(g8.le M λ_ _ g=>eM.le g M).at_ k hk;have b4:=hq;obtain ⟨v1,v2,v3,v4,v5,v6,ex,-,-⟩:=hq;have ex:=Æ Array.toList (Value.agg.inj ex);dsimp only at ex;subst ex;have zl:=v.1.len;rw [í,í,ď,é] at zl
 have ek:(((po d t).take (k+1)).map λs=>(d,s))=(((po d t).take k).map λs=>(d,s))++[(d,(po d t)[k])]:=by rw [ŀ,ô hk,ŝ];rfl
 have rf:nY V9 (hF #[Ô .i64 C,Ô .i64 Vs,dS G,Ô .i64 H,Ô .i64 I,dS J,Ô .i64 U6,Ô .i64 U7,dS K,Ô .i64 v1,Ô .i64 v2,dS v3,Ô .i64 v4,Ô .i64 v5,dS v6,dB (po d t)[k].a,dB (po d t)[k].b]) (d,(po d t)[k]):=⟨_,_,_,_,_,_,_,_,_,_,_,_,_,_,_,rfl,gL.le (Qk.m M),b4⟩;refine ⟨aQ hd,⟨ω,ω⟩,v1,v2,v3,v4,v5,v6,_,_,ad,hd,u 0 _ rfl,u 1 _ rfl,u 2 _ rfl,u 3 _ rfl,u 4 _ rfl,u 5 _ rfl,u 6 _ rfl,u 7 _ rfl,ω,v.1.le,v.1.cap,rfl,one17,λsp c' h1 h2=>⟨(w1+1,c',_,((k+1:Nat):Int),_),by dsimp only;omega,by and_intros<;>first|rfl|exact wk,k+1,rfl,hk,rfl,M,?_,λe=>?_⟩⟩
 ·show GR 17 nY V9 _ _ _ _;rw [ek,<-ė];exact v.1.snoc rfl rf φ h1 h2
 ·rw [ek,<-ė] at e;simp at e
theorem jO {v:un}{root:Int}{l:pz Nd}(hb:∀x∈l,Bd x.ln)(h:AT V v root l){t:Tr}(ht:Ek l root=some t)(hd:t.depth<=1024)(ha:t.dV Bd)(hs:t.size<4000)(hD:(bV t.eU).length<=50)(hc:∀l∈bV t.eU,∃P P',NJ l P t/\NJ (Õ l) P' t)(so:∀i,i<=60->nZ i)(sl:Gu t.eU.length)(cl:IB t.eU.length){F:pz (L3×Sp)}(hJ:Gt (rE t (bV t.eU)) F)(mN:F.length<=10000)(sz:∀f∈F,iH 1000000 f.1/\f.2.sz 1000000)(hy:tv V 0 y)(hz:tv V 1 z):À 18 #[v] V λr V'=>∃p n c,r=tN #[zF p n c,.nilIface]/\y_ V' p n F:=by have k:=h;obtain ⟨q,n,c,rfl,-⟩:=h;refine pO V _ λC a=>(zg hb (k.le a) (hy.le a) (hz.le a)).s ?_;rintro r V2 D ⟨-,g⟩;obtain ⟨p,rfl,gt⟩:=g t ht hd;refine ⟨p,.nilIface,rfl,.inl rfl,κ,λ_ E m=>(Bh (gt.le m) ha hs hD hc so sl cl hJ).s ?_⟩;rintro r G H ⟨o,s,u,rfl,w⟩;refine ⟨o,s,u,rfl,λI b=>(Bg (OJ (w.le b λ_ _ g=>uB.le g b)) mN sz).s ?_⟩;rintro r J K ⟨d,e,j,rfl,A⟩;exact ⟨d,e,j,rfl,λL B=>⟨d,e,j,rfl,A.le B⟩⟩
def Gn:Tr:=.node LL (.leaf true) (.leaf false)
theorem HZ:Gn.dV me:=⟨⟨LL_ok,Rm⟩,trivial,trivial⟩
theorem Yf:po LL Gn=[bZ]/\po (Õ LL) Gn=[]:=by have b:=reg_eq (Þ ([]++[])) (comb_reg ..) ⟨λs h=>(by cases h),List.Pairwise.nil⟩ λt a=>by{rw [comb_inB 1 _ _ a];simp [ę,è]};have c:bf LL true Gn bZ=[bZ]:=by{unfold Gn;rw [bf,Ä (.inl ⟨rfl,rfl⟩)];rfl};have d:bf LL false Gn bZ=[]:=by{unfold Gn;rw [bf,Ã φ,Ä (.inl rfl)];rfl};have e:bf (Õ LL) true Gn bZ=[]:=by{unfold Gn;rw [bf,Ã φ,Ä (.inr φ)];rfl};have f:bf (Õ LL) false Gn bZ=[bZ]:=by{unfold Gn;rw [bf,Ä (.inr ⟨φ,rfl⟩)];rfl};unfold po;rw [c,d,e,f,b,Fy];refine ⟨?_,?_⟩;{refine reg_eq (Þ ([bZ]++[])) (comb_reg ..) ⟨λs h=>by rw [ö.1 h];exact lr,Qd1 _ _⟩ λt a=>?_;rw [comb_inB 3 _ _ a];simp [ę,è]};{refine reg_eq (Þ ([]++[bZ])) (comb_reg ..) ⟨λs h=>(by cases h),List.Pairwise.nil⟩ λt a=>?_;rw [comb_inB 3 _ _ a];simp [ę,è]}
theorem So (h:Ú LL L=0):NJ L [] Gn:=⟨⟨λg=>Å h g,trivial,trivial⟩,List.Pairwise.nil,ψ,λx h=>by cases h⟩
theorem fr_HP:rE Gn (bV Gn.eU)=[(LL,bZ)]:=by have e:bV Gn.eU=[LL]:=ξ;rw [e];unfold rE sO;rw [Ď,Yf.1,Yf.2];rfl
set_option maxHeartbeats 1000000 in
theorem Ps (hj:Gt [(LL,bZ)] [(LL,bZ)])(cl:IB 1)(hy:tv V 0 y)(hz:tv V 1 z):À 14 #[] V λr V'=>r=dB true:=by refine Dl V _ λV1 Q=>(dN 0 0 ω ω ω).s ?_;rintro r V2 R E;obtain ⟨_,_,_,_,_,_,_,_,_,_,_,_,rfl,-⟩:=id E;refine qyK ⟨rfl,λV3 F=>(dN 1 0 ω ω ω).s ?_⟩;rintro r V4 G H;obtain ⟨_,_,_,_,_,_,_,_,_,_,_,_,rfl,-⟩:=id H;refine qyK ⟨rfl,λV5 v=>(G0 (E.le (F.m (G.m v))) (H.le v)).s ?_⟩;rintro r S T ⟨l,rfl,k⟩;obtain ⟨b1,u1,v1,w1,b2,u2,v2,w2,b3,u3,v3,w3,rfl⟩:=AV k;refine ⟨_,_,_,_,_,_,_,_,_,_,_,_,_,rfl,λV7 U=>(cX true).s ?_⟩;rintro r W X ⟨pa,rfl,Y⟩;refine ⟨_,rfl,λV9 I=>(cX false).s ?_⟩;rintro r Z m ⟨pb,rfl,hb⟩;have d:=U.m (X.m (I.m m));refine ⟨_,rfl,λs t bk e1 e2=>(lf (V:=s.aq [bk]) (ln:=LL) (x:=.leaf true) (y:=.leaf false) e1 (RL.le (V:=S) (V':=s.aq _) k λb o h=>(d.m t) b o h) (RW.le (V:=W) (V':=s.aq _) (λb o h=>(I.m (m.m t)) b o h) Y) (RW.le (V:=Z) (V':=s.aq _) (λb o h=>t b o h) hb) HZ φ).s ?_⟩;rintro r iD bY ⟨e3,a⟩;have j:=a;clear a;obtain ⟨q,n,c,rfl,-⟩:=id j;have J:s.Le iD:=λb o h=>bY b o h;refine qyQ ⟨rfl,_,_,_,_,_,_,_,_,_,_,_,_,_,_,_,_,e3,λku w=>?_⟩;have K:=((Q.m (R.m (F.m (G.m (v.m T))))).m (d.m (t.m J))).m w;have hJ:Gt (rE Gn (bV Gn.eU)) [(LL,bZ)]:=by{rw [fr_HP];exact hj};have A:∀l∈bV Gn.eU,∃P P',NJ l P Gn/\NJ (Õ l) P' Gn:=λl k=>by{rw [ö.1 k];exact ⟨[],[],So ξ,So ξ⟩};refine (jO (qw (Cm HZ)) (j.le w) (MD (HZ.imp λ_ h=>h.1) φ) φ (HZ.imp λ_ h=>h.2) φ φ A (λi hi=>CO i) (UJ _) cl hJ φ (λf hf=>by rw [ö.1 hf];exact ⟨Rm.ja.up ω,CZ _,CZ _⟩) (hy.le K) (hz.le K)).s ?_;rintro r lV cJ ⟨p,n,c,rfl,L⟩;obtain rfl:=L.len;obtain ⟨e,g,xs,⟨c1,c2,c3,c4,c5,c6,c7,c8,c9,d1,d2,d3,d4,d5,d6,d7,d8,d9,d10,d11,d12,d13,d14,d15,d16,d17,ex,gl,-⟩,a⟩:=L.at_ 0 φ;have ex:=Æ Array.toList (Value.agg.inj ex);subst ex;have B:=aQ g;have az:e.add 0=e:=by{simp [Addr.add]};have M:ae (some e) 6=some (e.add 6):=rfl;refine ⟨p,1,c,.nilIface,rfl,.inl rfl,λ_=>⟨λ_=>⟨B,⟨φ,φ⟩,by rw [g];rfl,_,_,_,_,_,_,_,_,_,_,_,_,e,by rw [g];show some (e.add 0)=_;rw [az],a 0 _ rfl,a 1 _ rfl,a 2 _ rfl,a 3 _ rfl,a 4 _ rfl,a 5 _ rfl,λmg C=>(yu (k.le ((d.m (t.m (J.m (w.m cJ)))).m C)) φ φ φ).s ?_⟩,κ⟩,κ⟩;rintro r lY N u;obtain ⟨_,_,_,_,_,_,_,_,_,_,_,_,rfl⟩:=AV u;refine qxW ⟨rfl,λmY D=>(sF (gl.le (C.m (N.m D))) (u.le D) φ φ φ).s ?_⟩;rintro r nX cD rfl;have O:=C.m (N.m (D.m cD));refine ⟨_,rfl,λ_=>⟨B,⟨φ,φ⟩,by rw [g];rfl,by rw [g];rfl,true,⟨e.add 12,by rw [g,M];show some ((e.add 6).add 6)=_;rw [fX],O.at (a 12 _ rfl)⟩,λ_=>⟨B,⟨φ,φ⟩,by rw [g];rfl,by rw [g];rfl,true,⟨e.add 13,by rw [g,M];show some ((e.add 6).add 7)=_;rw [fX],O.at (a 13 _ rfl)⟩,λrU dy=>rfl⟩,κ⟩,λh=>by simp at h⟩
theorem JN {fs:pz (L3×Sp)}(hb:∀f∈fs,Bd f.1/\f.2.sz 1000000):∀f∈dw fs,iH 1000000 f.1/\f.2.sz 1000000:=λf a=>by
 have ⟨m,hm,a⟩:=Đ.1 a;obtain ⟨s,b,rfl⟩:=ò.1 a;obtain ⟨g,c,rfl⟩:=ò.1 (((bI _).2 _).1 hm);refine ⟨(hb g c).1.ja.up ω,G4 φ (λu hu=>?_) (λu hu=>by cases hu) s b⟩;obtain ⟨x,d,rfl⟩:=ò.1 hu;exact (hb x (ĺ.1 d).1).2
theorem Oi {s:Sp}(h:s.a=false):s.Iw.length=1:=by unfold Sp.Iw;rw [h];rfl
theorem N8 {s:Sp}(h:s.b=false):s.Hf.length=1:=by unfold Sp.Hf;rw [h];rfl
theorem OG:∀{l:pz Sp},rW l->(∀s∈l,s.a=false)->2*l.length<=fe l+1
 | [],_,_=>â _
 | [s],_,h=>by
  have:=Oi (h s (þ ..));rw [rC,í,Qc4];omega
 | s::z::r,h,ha=>by
  have c:=OG h.tail λx b=>ha x (ó _ b);have d:=Oi (ha s (þ ..));have e:=N8 (h.LB (þ ..)).1;rw [rC,í,Ą];omega
theorem reg_fe:∀{l:pz Sp},rW l->2*l.length<=fe l+2
 | [],_=>â _
 | [s],_=>by rw [Qc4];omega
 | s::z::r,h=>by
  have ih:=OG h.tail λx a=>(h.LB a).2.1;have b:=N8 (h.LB (þ ..)).1;rw [rC,í,Ą];omega
theorem PF (A:pz Sp):(Ö 1 A []).length<=A.length+1:=by have a:=reg_fe (comb_reg 1 A []);have b:=Wf 1 A [];have c:=SF A;have d:fe []=0:=rfl;omega
theorem BJ {α:Type}(p:α->md):∀l:pz α,(l.filter p).length+(l.filter λx=>!p x).length=l.length
 | []=>rfl
 | x::r=>by
  have ih:=BJ p r;rw [Qr3,Qr3];cases p x<;>simp<;>omega
theorem Kf:∀(L:pz L3)(l:pz (L3×Sp)),L.Pairwise qA->(L.map λm=>(ax m l).length).sum<=l.length
 | [],_,_=>â _
 | m::L,l,h=>by
  have ⟨h1,h2⟩:=Ġ.1 h
  have e:(L.map λa=>(ax a l).length)=L.map λa=>(ax a (l.filter λx=>!decide (x.1=m))).length:=by
   refine Ŗ λa hm=>?_;unfold ax;rw [List.filter_filter];congr 2;refine List.filter_congr λx _=>?_;by_cases c:x.1=a
   ·have:¬x.1=m:=λe=>yI (show qA m m from by have:=h1 a hm;rw [<-c,e] at this;exact this);simp [c,this];rw [c] at this;simpa using this
   ·simp [c]
  have b:=Kf L (l.filter λx=>!decide (x.1=m)) h2;have f:=BJ (λx:L3×Sp=>decide (x.1=m)) l;rw [Ļ,Wz8,e];have g:(ax m l).length=(l.filter λx=>decide (x.1=m)).length:=by unfold ax;rw [ď]
  omega
theorem Mw (l:pz L3):(eH l).length<=l.length:=by
 have:∀(l o:pz L3),(l.foldl (λo x=>jV x o) o).length<=o.length+l.length:=by
  intro l
  induction l with
  | nil=>exact λo=>Ù _
  | cons y r ih=>intro o;have a:=ih (jV y o);have b:=BU y o;rw [Qc6,Ą];omega
 have:=this l [];simpa [eH] using this
theorem xu (l:pz (L3×Sp)):(dw l).length<=2*l.length:=by
 have b:=Kf (eH (l.map Prod.fst)) l (bI _).1;have a:=Mw (l.map Prod.fst);rw [ď] at a;unfold dw;generalize eH (l.map Prod.fst)=L at *
 have c:(L.flatMap λm=>(Ö 1 (ax m l) []).map λs=>(m,s)).length<=(L.map λm=>(ax m l).length).sum+L.length:=by
  clear b a
  induction L with
  | nil=>exact Ù _
  | cons m r ih=>
   have:=PF (ax m l);rw [Ď,í,ď,Ļ,Wz8,Ą];omega
 omega
theorem S9 {l:pz (L3×Sp)}{k m:Nat}(hm:1<=m)(h:∀f∈l,U9 f.1 f.2/\iH k f.1/\f.2.sz m):∀f∈dw l,U9 f.1 f.2/\iH k f.1/\f.2.sz m:=λf a=>by
 have ⟨m,hm,a⟩:=Đ.1 a;obtain ⟨s,b,rfl⟩:=ò.1 a;obtain ⟨g,c,rfl⟩:=ò.1 (((bI _).2 _).1 hm);refine ⟨⟨(h g c).1.1,(comb_reg ..).1 s b⟩,(h g c).2.1,G4 (by assumption) (λu hu=>?_) (λu hu=>by cases hu) s b⟩;obtain ⟨x,d,rfl⟩:=ò.1 hu;exact (h x (ĺ.1 d).1).2.2
theorem uU {A:pz Sp}(h:rW A):Ö 1 A []=A:=by refine reg_eq (Þ (A++[])) (comb_reg ..) h λt a=>?_;rw [comb_inB 1 _ _ a,inB_nil];unfold ę;simp
theorem CP (C:L3->pz Sp)(m:L3):∀L:pz L3,L.Pairwise qA->ax m (L.flatMap λm'=>(C m').map λs=>(m',s))=if m∈L then C m else []
 | [],_=>rfl
 | k::L,h=>by
  have ⟨h1,h2⟩:=Ġ.1 h
  have b:ax m ((k::L).flatMap λm'=>(C m').map λs=>(m',s))=ax m ((C k).map λs=>(k,s))++ax m (L.flatMap λm'=>(C m').map λs=>(m',s)):=by
   unfold ax;rw [Ď,Qs9,ŝ]
  rw [b,(CP C m L h2)];by_cases c:m=k
  ·subst c;rw [Ã λhm=>yI (h1 m hm),Ä (þ ..),Ć];unfold ax;rw [Qr8.2 λx a=>by obtain ⟨s,-,rfl⟩:=ò.1 a;exact Ç rfl,Wx6];exact List.map_id _
  ·have e:ax m ((C k).map λs=>(k,s))=[]:=by{unfold ax;rw [Qp3.2 λx a=>by obtain ⟨s,-,rfl⟩:=ò.1 a;simp;exact λh=>c h.symm];rfl};rw [e,ō];by_cases d:m∈L;{rw [Ä d,Ä (ó _ d)]};{rw [Ã d,Ã λh=>by rcases å.1 h with h|h;exact c h;exact d h]}
theorem qk (C:L3->pz Sp):∀L:pz L3,((L.filter λm=>!(C m).isEmpty).flatMap λm=>(C m).map λs=>(m,s))=L.flatMap λm=>(C m).map λs=>(m,s)
 | []=>rfl
 | k::L=>by
  rw [Qr3,Ď]
  cases h:C k with
  | nil=>simp [qk C L]
  | cons a r=>simp [qk C L,h]
theorem BM {α β:Type}{f g:α->pz β}:∀{L:pz α},(∀m∈L,f m=g m)->L.flatMap f=L.flatMap g
 | [],_=>rfl
 | a::r,h=>by rw [Ď,Ď,h a (þ ..),BM λm hm=>h m (ó _ hm)]
theorem vA (h:bX l=true):bX (Õ l)=true:=by unfold bX Õ cq at *;simp only [ş] at *;simpa using h
theorem ry:Ö 1 [] []=[]:=uU ⟨λ_ h=>(nomatch h),List.Pairwise.nil⟩
theorem uc {m:L3}{l:pz (L3×Sp)}(h:m∉l.map Prod.fst):ax m l=[]:=by unfold ax;rw [Qp3.2 λx a=>?_];rfl;intro e;exact h (ò.2 ⟨x,a,Á e⟩)
theorem FV {l l':pz (L3×Sp)}(h:∀m,Ö 1 (ax m l) []=Ö 1 (ax m l') []):dw l=dw l':=by
 have key:∀l:pz (L3×Sp),dw l=((eH (l.map Prod.fst)).filter λm=>!(Ö 1 (ax m l) []).isEmpty).flatMap λm=>(Ö 1 (ax m l) []).map λs=>(m,s):=λl=>(qk (λm=>Ö 1 (ax m l) []) _).symm
 have mem:∀(l:pz (L3×Sp)) m,m∈((eH (l.map Prod.fst)).filter λm=>!(Ö 1 (ax m l) []).isEmpty)↔Ö 1 (ax m l) []≠[]:=λl m=>by rw [ĺ,(bI _).2];constructor;{rintro ⟨-,h⟩ e;rw [e] at h;cases h};{intro h;refine ⟨Qb0 λg=>h (by rw [uc g,ry]),by simpa using h⟩}
 have e:(eH (l.map Prod.fst)).filter (λm=>!(Ö 1 (ax m l) []).isEmpty)=(eH (l'.map Prod.fst)).filter λm=>!(Ö 1 (ax m l') []).isEmpty:=
  Ba ((bI _).1.filter _) ((bI _).1.filter _) λm=>(mem l m).m (by rw [h m];exact (mem l' m).symm)
 rw [key l,key l',e];exact BM λm _=>Æ (List.map λs=>(m,s)) (h m)
theorem Ge (m:L3)(a b:pz (L3×Sp)):ax m (a++b)=ax m a++ax m b:=by unfold ax;rw [Qs9,ŝ]
theorem Gg (m L:L3)(t:Tr):ax m (sO t L)=if L=m then po m t else []:=by unfold sO;by_cases h:L=m;{subst h;rw [Ä rfl];unfold ax;rw [Qr8.2 λx a=>by obtain ⟨s,-,rfl⟩:=ò.1 a;exact Ç rfl,Wx6];exact List.map_id _};{rw [Ã h];refine uc λg=>h ?_;obtain ⟨x,a,rfl⟩:=ò.1 g;obtain ⟨s,-,rfl⟩:=ò.1 a;rfl}
theorem Jb (h:bX l=true):bJ (Õ l)=bJ l:=by have nz:=jo h;unfold Nz at nz;unfold bJ;by_cases c:l.1<0\/l.1=0/\l.2.1<0;{rw [Ä c,Ã (by unfold Õ;dsimp only;omega)]};{rw [Ã c,Ä (by unfold Õ;dsimp only;omega),rev_rev]}
theorem Gf (t:Tr)(m:L3):∀{D:pz L3},D.Pairwise qA->(∀l∈D,bX l=true/\bJ l=l)->ax m (rE t D)=if bJ m∈D then po m t else []
 | [],_,_=>rfl
 | l::D,h,hD=>by
  have ⟨h1,h2⟩:=Ġ.1 h;have ⟨o,c⟩:=hD l (þ ..);have e:rE t (l::D)=(sO t l++sO t (Õ l))++rE t D:=rfl;rw [e,Ge,Ge,Gg,Gg,(Gf t m h2 λx f=>hD x (ó _ f))];have out:bJ m=l->bJ m∉D:=λg k=>yI (show qA l l by have:=h1 _ k;rwa [g] at this);by_cases a:l=m
  ·subst a;rw [Ä rfl,Ã (rev_ne o),Ã (out c),Ä (by rw [c];exact þ ..)];simp
  ·rw [Ã a];by_cases b:Õ l=m
   ·subst b;have g:bJ (Õ l)=l:=by rw [Jb o,c]
    rw [Ä rfl,Ã (out g),Ä (by rw [g];exact þ ..)];simp
   ·rw [Ã b]
    have g:bJ m≠l:=λg=>by
     rcases qf m with k|k<;>rw [k] at g
     ·exact a g.symm
     ·exact b (by rw [<-g,rev_rev])
    by_cases d:bJ m∈D
    ·rw [Ä d,Ä (ó _ d)];rfl
    ·rw [Ã d,Ã λk=>by rcases å.1 k with k|k;exact g k;exact d k];rfl
def Bz (m:L3)(t:Tr):List Rat:=t.eU.map λk=>Ø k m
theorem Jl (m:L3)(t:Tr):Crs m (Bz m t) t:=LZ (Tr.iq λ_ h=>h)
theorem H2 {m:L3}(om:bX m=true){q:Rat}{v w:Rat×Rat}:∀{t:Tr},(∀k∈t.eU,bX k=true/\k≠m/\k≠Õ m/\Ø k m≠q)->aw.C8 t (cT m q,cW m q) v=aw.C8 t (cT m q,cW m q) w
 | .leaf _,_=>rfl
 | .node k a b,h=>by
  have ⟨ok,h1,h2,h3⟩:=h k (þ ..);have d:ar k (cT m q) (cW m q)≠0:=by rcases AE ok om (t:=q) (Wv1 h3) with g|g|g;exact Å g h1;exact Å g h2;exact g
  have s:∀x,aw.QM k (cT m q,cW m q) x=(ar k (cT m q) (cW m q)).num.sign:=λx=>by
   unfold aw.QM;rw [Ã λe=>d (aw.iT.1 e)]
  unfold aw.C8;rw [s,s,(H2 om (v:=v) (w:=w) (t:=a) λx c=>h x (ó _ (ĭ _ c))),(H2 om (v:=v) (w:=w) (t:=b) λx c=>h x (ó _ (Ľ _ c)))]
theorem RM {m:L3}(om:bX m=true){t:Tr}(ht:∀k∈t.eU,bX k=true)(h:bJ m∉t.eU.map bJ):po m t=[]:=by refine reg_eq (Bz m t) (comb_reg ..) ⟨λ_ h=>(nomatch h),List.Pairwise.nil⟩ λq b=>?_;have ne:∀k∈t.eU,k≠m/\k≠Õ m:=λk a=>⟨λe=>h (ò.2 ⟨k,a,by rw [e]⟩),λe=>h (ò.2 ⟨k,a,by rw [e,Jb om]⟩)⟩;rw [J6 (Jl m t) om (Tr.iq ht) b,H2 om (v:=i_ m true) (w:=i_ m false) λk a=>⟨ht k a,(ne k a).1,(ne k a).2,λe=>b (ò.2 ⟨k,a,e⟩)⟩];cases (aw.C8 t (cT m q,cW m q) (i_ m false)).1<;>rfl
theorem rP {t:Tr}(ht:∀k∈t.eU,bX k=true)(m:L3):ax m (rE t (bV t.eU))=if bX m=true then po m t else []:=by
 have ⟨d1,d2⟩:=lk t.eU
 rw [Gf t m d1 λl b=>by
  obtain ⟨k,a,rfl⟩:=ò.1 ((d2 l).1 b);exact ⟨Ot (ht k a),Si k⟩]
 by_cases o:bX m=true
 ·rw [Ä o];by_cases c:bJ m∈bV t.eU;{rw [Ä c]};{rw [Ã c,RM o ht λk=>c ((d2 _).2 k)]}
 ·rw [Ã o,Ã λc=>o ?_];have ⟨k,a,e⟩:=ò.1 ((d2 _).1 c);have:=Ot (ht k a);rw [e] at this;rcases qf m with g|g<;>rw [g] at this;{exact this};{rw [<-rev_rev m];exact vA this}
theorem W4 (h:bX l=true):(l.1:Rat)*l.1+(l.2.1:Rat)*l.2.1>0:=by have c:∀z:Rat,z≠0->z*z>0:=λz b=>by{rcases cM z with ⟨g,_⟩|⟨g,_⟩|⟨g,_⟩;{exact Å g b};{exact ń g g};{have:=ń (show -z>0 by grind) (show -z>0 by grind);grind}};have a:∀z:Rat,z*z≥0:=λz=>by{by_cases b:z=0;{rw [b];grind};{have:=c z b;grind}};have f:=a l.1;have i:=a l.2.1;by_cases e:l.1=0;{have d:l.2.1≠0:=λd=>(jo h) ⟨e,d⟩;have:=c l.2.1 (by exact_mod_cast d);grind};{have:=c l.1 (by exact_mod_cast e);grind}
theorem UC {k m:L3}(ok:bX k=true)(om:bX m=true){q:Rat}(h:Ø k m≠q)(e:md):aw.QM k (cT m q,cW m q) (i_ m e)=1\/aw.QM k (cT m q,cW m q) (i_ m e)=-1:=by have key:∀{z:Rat},z≠0->z.num.sign=1\/z.num.sign=-1:=λ{z} a=>by{rcases cM z with ⟨g,_⟩|⟨_,g⟩|⟨_,g⟩;{exact Å g a};{exact .inl g};{exact .inr g}};have b:=W4 om;have v0:=(j7 (jo om) q).1;unfold aw.QM;rcases AE ok om (t:=q) (Wv1 h) with rfl|rfl|g;{rw [Ä (by rw [v0];rfl)];exact key (by unfold aw.nv i_;cases e<;>simp<;>grind)};{rw [Ä (by rw [val_rev,v0];rfl)];exact key (by unfold aw.nv i_ Õ;cases e<;>simp<;>grind)};{rw [Ã λe=>g (aw.iT.1 e)];exact key g}
theorem VG {m:L3}(oL:bX L=true)(om:bX m=true){t:Tr}(ht:∀k∈t.eU,bX k=true):po m (.node L t t)=po m t:=by
 have d:∀k∈(Tr.node L t t).eU,bX k=true:=λk a=>by rcases å.1 a with rfl|a;{exact oL};{rcases õ.1 a with a|a<;>exact ht k a}
 refine reg_eq (Bz m (.node L t t)) (comb_reg ..) (comb_reg ..) λq b=>?_
 have c:q∉Bz m t:=λh=>b (by
  have ⟨k,a,e⟩:=ò.1 h;exact ò.2 ⟨k,ó _ (ĭ _ a),e⟩)
 rw [J6 (Jl m _) om (Tr.iq d) b,J6 (Jl m t) om (Tr.iq ht) c]
 have one:∀e,aw.C8 (.node L t t) (cT m q,cW m q) (i_ m e)=aw.C8 t (cT m q,cW m q) (i_ m e):=λe=>by rw [aw.C8];rcases UC oL om (q:=q) (λe=>b (ò.2 ⟨L,þ ..,e⟩)) e with h|h<;>rw [h]<;>rfl
 rw [one,one]
theorem PU (oL:bX L=true){t:Tr}(ht:∀k∈t.eU,bX k=true):dw (rE (.node L t t) (bV (Tr.node L t t).eU))=dw (rE t (bV t.eU)):=by have b:∀k∈(Tr.node L t t).eU,bX k=true:=λk a=>by{rcases å.1 a with rfl|a;{exact oL};{rcases õ.1 a with a|a<;>exact ht k a}};refine FV λm=>?_;rw [rP b,rP ht];split;{rw [VG oL (by assumption) ht]};{rfl}
def Tr.rz:Tr->Tr
 | .leaf i=>.leaf !i
 | .node l a b=>.node l a.rz b.rz
theorem Ap:∀t:Tr,t.rz.eU=t.eU
 | .leaf _=>rfl
 | .node l a b=>by show l::(a.rz.eU++b.rz.eU)=_;rw [Ap a,Ap b];rfl
theorem H0 {p v:Rat×Rat}:∀{t:Tr},(∀k∈t.eU,aw.QM k p v=1\/aw.QM k p v=-1)->(aw.C8 t.rz p v).1=!(aw.C8 t p v).1
 | .leaf _,_=>rfl
 | .node k a b,h=>by
  show (aw.C8 (.node k a.rz b.rz) p v).1=_;unfold aw.C8;rcases h k (þ ..) with e|e<;>rw [e]
  ·exact (H0 (t:=a) λx hx=>h x (ó _ (ĭ _ hx)))
  ·exact (H0 (t:=b) λx hx=>h x (ó _ (Ľ _ hx)))
theorem WL (l:pz Sp)(q:Rat):è (l.map Sp.neg) q=è l (-q):=by refine An ?_;rw [jI,jI];constructor;{rintro ⟨s,a,h⟩;obtain ⟨u,hu,rfl⟩:=ò.1 a;exact ⟨u,hu,(Ol u q).1 h⟩};{rintro ⟨u,hu,h⟩;exact ⟨_,ò.2 ⟨u,hu,rfl⟩,(Ol u q).2 h⟩}
theorem Zs {m:L3}(om:bX m=true){t:Tr}(ht:∀k∈t.eU,bX k=true):Ö 1 ((po (Õ m) t.rz).map Sp.neg) []=po m t:=by have i:∀k∈t.rz.eU,bX k=true:=by{rw [Ap];exact ht};refine reg_eq (Bz m t++(Þ ((po (Õ m) t.rz).map Sp.neg++[])++(Bz (Õ m) t.rz).map λx=>-x)) (comb_reg ..) (comb_reg ..) λq d=>?_;rw [õ,õ,not_or,not_or] at d;obtain ⟨f,j,b⟩:=d;have b:-q∉Bz (Õ m) t.rz:=λh=>b (ò.2 ⟨_,h,χ⟩);have l:∀a:md,ę 1 a false=a:=λa=>by{cases a<;>rfl};rw [comb_inB 1 _ _ j,show è [] q=false from rfl,l,WL,J6 (Jl _ _) (vA om) (Tr.iq i) b,J6 (Jl m t) om (Tr.iq ht) f,VD,VE];have n:∀e,i_ (Õ m) e=i_ m !e:=λe=>by{unfold i_ Õ;cases e<;>simp};have c:∀e,(aw.C8 t.rz (cT m q,cW m q) (i_ m e)).1=!(aw.C8 t (cT m q,cW m q) (i_ m e)).1:=λe=>H0 λk g=>UC (ht k g) om (λe=>f (ò.2 ⟨k,g,e⟩)) e;rw [n,n,c,c];rw [Bool.not_not,Bool.and_comm];rfl
def xL (c:List (L3×Sp)):List (L3×Sp):=c.map λf=>(Õ f.1,f.2.neg)
theorem xO (m:L3):∀c:pz (L3×Sp),ax m (xL c)=(ax (Õ m) c).map Sp.neg
 | []=>rfl
 | f::c=>by
  have ih:=xO m c;have e:xL (f::c)=(Õ f.1,f.2.neg)::xL c:=rfl;unfold ax at *;rw [e,Qr3,Qr3];by_cases h:f.1=Õ m
  ·rw [Ä (Ç (by rw [h,rev_rev])),Ä (Ç h),Ļ,ih];rfl
  ·rw [Ã λk=>h ?_,Ã λk=>h (Á k),ih];rw [<-(Á k),rev_rev]
theorem yS (m:L3)(l:pz (L3×Sp)):ax m (dw l)=Ö 1 (ax m l) []:=by show ax m ((eH (l.map Prod.fst)).flatMap λm=>(Ö 1 (ax m l) []).map λs=>(m,s))=_;rw [CP (λm=>Ö 1 (ax m l) []) m _ (bI _).1];split;{rfl};{rename_i h;rw [uc λg=>h (((bI _).2 m).2 g),ry]}
theorem SH {t:Tr}(ht:∀k∈t.eU,bX k=true):dw (xL (dw (rE t.rz (bV t.rz.eU))))=dw (rE t (bV t.eU)):=by have a:∀k∈t.rz.eU,bX k=true:=by{rw [Ap];exact ht};refine FV λm=>?_;rw [xO,yS,rP a,rP ht];by_cases o:bX m=true;{rw [Ä o,Ä (vA o),uU (show rW (po (Õ m) t.rz) from comb_reg ..),Zs o ht,uU (show rW (po m t) from comb_reg ..)]};{rw [Ã o,Ã λk=>o (by rw [<-rev_rev m];exact vA k),ry];rfl}
structure AU (S:List L3) (t:Tr):Prop where
 ok:t.dV me
 on:t.dV λl=>Bd l/\l∈S
 mN:S.length<=25
 bd:∀l∈S,Bd l
 size:t.size<4000
 dep:t.depth<=1024
section
variable {S:List L3} {t:Tr} (h:AU S t)
include h
theorem AU.crp {m:L3}(bm:Bd m):NJ m (LA (S.map λk=>Ø k m)) t:=Zz bm h.on (by have:=h.mN;omega) h.bd
theorem AU.okb:∀l∈bV t.eU,me l:=Sx (q:=me) (λl h=>by rcases qf l with e|e<;>rw [e];exact h;exact oR h) λl a=>rH h.ok l a
theorem AU.oks:∀l∈t.eU,bX l=true:=λl a=>(rH h.ok l a).1
theorem AU.lines:(bV t.eU).length<=25:=by have ⟨d1,d2⟩:=lk t.eU;have:=List.Nodup.length_le_of_subset (l₂:=S.map bJ) (d1.imp λ{a b} g (e:a=b)=>by subst e;exact yI g) λx c=>by{grind [rH,h.on]};grind [h.mN]
theorem AU.each (m:L3):(ax m (rE t (bV t.eU))).length<=61:=by rw [rP h.oks];split;{rename_i o;by_cases c:bJ m∈t.eU.map bJ;{have ⟨k,b,e⟩:=ò.1 c;have a:=(rH h.ok k b).2.can;rw [e] at a;have d:Bd m:=by{grind [qf,rev_rev,a.rev]};exact (tw (h.crp d)).2.2};grind [RM,h.oks]};{exact â _}
theorem AU.yB:∀f∈rE t (bV t.eU),U9 f.1 f.2/\Bd f.1/\f.2.sz 1000000:=λf a=>by
 have ⟨l,d,a⟩:=Đ.1 a;have k:=h.okb l d
 have one:∀m,me m->f∈sO t m->U9 f.1 f.2/\Bd f.1/\f.2.sz 1000000:=λm b hm=>by
  obtain ⟨s,c,rfl⟩:=ò.1 hm;obtain ⟨r,z,-⟩:=tw (h.crp b.2);exact ⟨⟨b.1,r.1 s c⟩,b.2,z s c⟩
 rcases õ.1 a with g|g<;>grind [oR]
theorem AU.len:(rE t (bV t.eU)).length<=3050:=by
 have:∀E:pz L3,(∀l∈E,me l)->(rE t E).length<=122*E.length:=λE a=>by
  induction E with
  | nil=>exact Ù _
  | cons l E ih=>
   have c:=ih λx b=>a x (ó _ b);have k:=a l (þ ..);have f1:=(tw (h.crp k.2)).2.2;have f2:=(tw (h.crp k.2.rev)).2.2;unfold rE sO at *;grind
 grind [h.okb,h.lines]
theorem GL {V:ut}{v y z:un}(hA:AT V v (rt 0 t) (wr 0 t))(hy:tv V 0 y)(hz:tv V 1 z):À 18 #[v] V λr V'=>∃p n c,r=tN #[zF p n c,.nilIface]/\y_ V' p n (dw (rE t (bV t.eU))):=by
 have e:=h.len;have k:=h.lines;have j:=xu (rE t (bV t.eU));have sz:=h.size
 exact jO (qw (Cm h.ok)) hA (MD (Ou h.ok)) h.dep (Cm h.ok) sz ω (λl b=>⟨_,_,h.crp (h.okb l b).2,h.crp (h.okb l b).2.rev⟩) (λi _=>CO i) (UJ _) (Ym _)
  (λg d=>wO g d ω (λm=>Ń (h.each m) ω) (λf a=>(h.yB f a).2.1.ja.up ω) (λf a=>(h.yB f a).1.2) (λf a=>(h.yB f a).2.2) λi=>CO i) ω (JN λf a=>(h.yB f a).2) hy hz
end
end
section
variable{V:Ó}{v:Value}{p:OA}{c i n:Nat}{xs:List Value}
theorem uW:∀t:Tr,t.rz.size=t.size
 | .leaf _=>rfl
 | .node l a b=>by simp only [Tr.rz,Tr.size,uW a,uW b]
theorem w_:∀t:Tr,t.rz.depth=t.depth
 | .leaf _=>rfl
 | .node l a b=>by simp only [Tr.rz,Tr.depth,w_ a,w_ b]
theorem uV {p:L3->Prop}:∀{t:Tr},t.dV p->t.rz.dV p
 | .leaf _,_=>trivial
 | .node _ _ _,⟨h,ha,hb⟩=>⟨h,uV ha,uV hb⟩
theorem jf:∀(t:Tr) {V:ut} {p:OA},RT V p t->À 58 #[dS p] V λr V'=>∃q,r=dS q/\RT V' q t.rz
 | .leaf i,V,p,h=>by
  refine ko V _ λV1 l1=>(ch (h.le l1)).s ?_;rintro r V2 l2 rfl;obtain ⟨b,c0,c1,c2,c3,c4,c5,c6,c7,c8,r,rfl,hb⟩:=h.le (l1.m l2);refine ⟨_,rfl,λ_=>⟨rfl,rfl,_,zI hb 11 rfl,λw e=>(ik (!i)).s ?_⟩,κ⟩;rintro r x f ⟨q,rfl,g⟩;exact ⟨_,rfl,λy d=>⟨_,rfl,g.le d⟩⟩
 | .node ln a b,V,p,h=>by
  refine ko V _ λV1 l1=>(ch (h.le l1)).s ?_;rintro r V2 l2 rfl;obtain ⟨n,z,A,B,C,D,E,F,G,H,pl,o,i,rfl,hb,I,J,k⟩:=h.le (l1.m l2)
  have c:∀j v,([Ô .i64 z,Ô .i64 A,dS B,Ô .i64 C,Ô .i64 D,dS E,Ô .i64 F,Ô .i64 G,dS H,dS pl,dS o,dB i]:pz un)[j]?=some v->V2.at ((⟨n,0,none⟩:Addr).add j) v:=by
   intro j v K;rw [add_zero'];exact dL (xs:=[_,_,_,_,_,_,_,_,_,_,_,_]) hb K
  refine ⟨_,rfl,κ,λ_=>⟨rfl,rfl,_,_,_,_,_,_,_,_,_,⟨n,0,none⟩,rfl,c 0 _ rfl,c 1 _ rfl,c 2 _ rfl,c 3 _ rfl,c 4 _ rfl,c 5 _ rfl,c 6 _ rfl,c 7 _ rfl,c 8 _ rfl,rfl,rfl,pl,zI hb 9 rfl,rfl,rfl,o,zI hb 10 rfl,λw e=>(jf a (J.le e)).s ?_⟩⟩;rintro r x f ⟨L,rfl,M⟩;refine ⟨L,rfl,λy d=>(jf b (k.le (e.m (f.m d)))).s ?_⟩;rintro r R s ⟨N,rfl,O⟩;refine ⟨N,rfl,λS m=>(Fm (l:=ln) (I.le (e.m (f.m (d.m (s.m m))))) (M.le (d.m (s.m m))) (O.le m)).s ?_⟩;rintro r T U ⟨u,rfl,P⟩;exact ⟨u,rfl,λW Q=>⟨u,rfl,P.le Q⟩⟩
theorem tE {root:Int}{l:pz Nd}(hb:∀x∈l,Bd x.ln)(h:AT V v root l){t:Tr}(ht:Ek l root=some t)(ha:t.dV Bd)(hs:t.size<=1000000:=by omega):À 19 #[v] V λr V'=>∃w,r=tN #[w,.nilIface]/\AT V' w (rt 0 t.rz) (wr 0 t.rz):=by have a:=h;obtain ⟨q,n,c,rfl,-⟩:=h;refine r_ V _ λm b=>(Fo hb (a.le b)).s ?_;rintro r V2 o ⟨p,rfl,d⟩;rw [ht];refine ⟨_,_,rfl,κ,λ_ s e=>(jf t ((d t ht).le e)).s ?_⟩;rintro r u y ⟨f,rfl,g⟩;refine ⟨f,rfl,λz i=>(Pq (g.le i) (uV ha) (by rw [uW];exact hs)).s ?_⟩;rintro r A B ⟨C,D,E,rfl,j⟩;exact qyQ ⟨rfl,λF k=>⟨_,rfl,_,_,_,rfl,j.le k⟩⟩
theorem Hm {al:pz (L3×Sp)}(h:bP 14 tm V p n al)(hi:i<al.length):p.isSome=true/\∃(b1:md)(p1:OA)(n1 c1:Nat)(b2:md)(p2:OA)(n2 c2:Nat)(b3:md)(p3:OA)(n3 c3:Nat)(b:md)(q1:OA)(m1 e1:Nat)(q2:OA)(m2 e2:Nat)(d:md)(q3:OA)(m3 e3:Nat)(q4:OA)(m4 e4:Nat)(a:Addr),ae p (i*14)=some a/\V.at (a.add 0) (dB b1)/\V.at (a.add 1) (zF p1 n1 c1)/\V.at (a.add 2) (dB b2)/\V.at (a.add 3) (zF p2 n2 c2)/\V.at (a.add 4) (dB b3)/\V.at (a.add 5) (zF p3 n3 c3)/\V.at (a.add 6) (dB b)/\V.at (a.add 7) (zF q1 m1 e1)/\V.at (a.add 8) (zF q2 m2 e2)/\V.at (a.add 9) (dB d)/\V.at (a.add 10) (zF q3 m3 e3)/\V.at (a.add 11) (zF q4 m4 e4)/\V.at (a.add 12) (dB al[i].2.a)/\V.at (a.add 13) (dB al[i].2.b)/\cO V (hF #[dB b1,zF p1 n1 c1,dB b2,zF p2 n2 c2,dB b3,zF p3 n3 c3]) al[i].1/\pU V (hF #[dB b,zF q1 m1 e1,zF q2 m2 e2,dB d,zF q3 m3 e3,zF q4 m4 e4,dB al[i].2.a,dB al[i].2.b]) al[i].2:=by have ⟨f,e,xs,l,g,c⟩:=h.at_ i hi;obtain ⟨_,_,_,_,_,_,_,_,_,_,_,_,_,_,_,_,_,_,_,_,_,_,_,_,_,_,ex,j,k⟩:=g;have ex:=Æ Array.toList (Value.agg.inj ex);subst ex;refine ⟨?_,_,_,_,_,_,_,_,_,_,_,_,_,_,_,_,_,_,_,_,_,_,_,_,_,_,_,f,e,c 0 _ rfl,c 1 _ rfl,c 2 _ rfl,c 3 _ rfl,c 4 _ rfl,c 5 _ rfl,c 6 _ rfl,c 7 _ rfl,c 8 _ rfl,c 9 _ rfl,c 10 _ rfl,c 11 _ rfl,c 12 _ rfl,c 13 _ rfl,j,k⟩;(cases p with|none=>{cases e}|some a=>rfl)
theorem Xu {x:L3×Sp}(h:tm V (.agg xs.toArray) x):∀v∈xs,v.oneCell'=true:=by have ⟨_,_,_,_,_,_,_,_,_,_,_,_,_,_,_,_,_,_,_,_,_,_,_,_,_,_,ex⟩:=Kv h;have ex:=Æ Array.toList (Value.agg.inj ex);subst ex;exact J7
structure X1 (f:L3×Sp):Prop where
 ok:bX f.1=true
 bd:Bd f.1
 gd:f.2.good
 sz:f.2.sz 100000
theorem Fg (l:L3)(h:Nz l):j8 l l=0:=by unfold j8;exact (j7 h 0).1
theorem MZ {l:L3}(h:Nz l)(s:Sp):pH l s l=[]/\pH l s (Õ l)=[]:=by have a:Ú l l=0:=by{unfold Ú;grind};have b:Ú (Õ l) l=0:=by{unfold Ú Õ;simp only [Qh2];grind};have c:j8 (Õ l) l=0:=by{have:=Fg l h;unfold j8 at *;rw [val_rev,this];rfl};refine ⟨?_,?_⟩<;>unfold pH cF;{rw [a,Fg l h];rfl};{rw [b,c];rfl}
theorem xM (l:L3)(s:Sp)(m:L3):(pH l s m).length<=1:=by unfold pH;split<;>simp
theorem UG {l m:L3}{s:Sp}(h:X1 (l,s))(bm:Bd m):∀u∈pH l s m,X1 u:=λu hu=>by
 unfold pH at hu;split at hu
 ·rename_i g;rw [ö.1 hu];exact ⟨h.ok,h.bd,gR h.gd g,AL h.bd.ja bm.ja h.sz⟩
 ·cases hu
def lH (m:L3)(fs:List (L3×Sp)):List (L3×Sp):=fs.flatMap λf=>pH f.1 f.2 m
theorem Ke {m:L3}{fs:pz (L3×Sp)}(h:∀f∈fs,X1 f)(bm:Bd m):∀u∈lH m fs,X1 u:=λu hu=>by
 have ⟨f,a,b⟩:=Đ.1 hu;grind [UG]
theorem rK (m:L3):∀fs:pz (L3×Sp),(lH m fs).length<=fs.length
 | []=>Ù _
 | f::fs=>by
  have:=rK m fs;grind [xM,lH]
theorem MH {f:L3×Sp}{fs:pz (L3×Sp)}(h:Nz f.1):(lH f.1 (f::fs)).length<=fs.length/\(lH (Õ f.1) (f::fs)).length<=fs.length:=by have ⟨a,b⟩:=MZ h f.2;refine ⟨?_,?_⟩<;>unfold lH<;>rw [Ď];{rw [a];exact rK _ fs};{rw [b];exact rK _ fs}
theorem VS {x y:Rat}(h:Zc V v x y){k:Nat}(s1:Sz k x)(s2:Sz k y)(hk:k<=2^38:=by omega):À 181 #[v] V λr V'=>RP V' r x y:=by obtain ⟨_,_,_,_,_,_,_,_,_,_,_,_,_,_,rfl,e,f⟩:=h;refine Lj V _ λn c=>(Sa (e.le c) s1 hk).s ?_;rintro r V2 g ⟨o,p,q,s,t,u,rfl,i,j⟩;refine qyZ ⟨rfl,λw b=>(Sa (f.le (c.m (g.m b))) s2 hk).s ?_⟩;rintro r z d ⟨A,B,C,D,E,F,rfl,l,m⟩;exact qyZ ⟨rfl,λG a=>⟨_,_,_,_,_,_,_,_,_,_,_,_,rfl,⟨_,_,_,_,_,_,rfl,i.le (b.m (d.m a)),j.le (b.m (d.m a))⟩,⟨_,_,_,_,_,_,rfl,l.le a,m.le a⟩⟩⟩
theorem Uy {b1 b2:md}{p1 p2 p3 p4:OA}{n1 c1 n2 c2 n3 c3 n4 c4:Nat}{c:Rat×Rat}(h:cS V (hF #[dB b1,zF p1 n1 c1,zF p2 n2 c2,dB b2,zF p3 n3 c3,zF p4 n4 c4]) c):RQ V (hF #[dB b1,zF p1 n1 c1,zF p2 n2 c2]) c.1/\RQ V (hF #[dB b2,zF p3 n3 c3,zF p4 n4 c4]) c.2:=by obtain ⟨_,_,_,_,_,_,_,_,_,_,_,_,e,a,b⟩:=h;have e:=Æ Array.toList (Value.agg.inj e);simp only [ĵ,Value.bool.injEq,Value.slice.injEq,Í] at e;obtain ⟨rfl,⟨rfl,rfl,rfl⟩,⟨rfl,rfl,rfl⟩,rfl,⟨rfl,rfl,rfl⟩,⟨rfl,rfl,rfl⟩⟩:=e;exact ⟨a,b⟩
theorem Bm {u w:un}{a b c:Rat×Rat}(ha:cS V u a)(hb:cS V v b)(hc:cS V w c){k:Nat}(h1:1<=k)(sa:Sz k a.1/\Sz k a.2)(sb:Sz k b.1/\Sz k b.2)(sc:Sz k c.1/\Sz k c.2)(hk:40*k+40<2^38:=by omega):À 249 #[u,v,w] V λr V'=>∃x,r=Ô .i64 x:=by obtain ⟨_,_,_,_,_,_,_,_,_,_,_,_,_,_,rfl⟩:=ha.shape;obtain ⟨_,_,_,_,_,_,_,_,_,_,_,_,_,_,rfl⟩:=hb.shape;obtain ⟨_,_,_,_,_,_,_,_,_,_,_,_,_,_,rfl⟩:=hc.shape;refine Aa V _ λt f=>(qc (RP.le hb f) (RP.le ha f) sb.1 sb.2 sa.1 sa.2 h1).s ?_;rintro r V2 h i;obtain ⟨_,_,_,_,_,_,_,_,_,_,_,_,_,_,rfl⟩:=vJ i;refine qyK ⟨rfl,λy g=>(qc (RP.le hc (f.m (h.m g))) (RP.le ha (f.m (h.m g))) sc.1 sc.2 sa.1 sa.2 h1).s ?_⟩;rintro r z o j;obtain ⟨_,_,_,_,_,_,_,_,_,_,_,_,_,_,rfl⟩:=vJ j;have m:k+(k+1)<=2*k+1:=ω;refine qyK ⟨rfl,λA l=>(jE (k:=2*k+1) (i.le (g.m (o.m l))) (j.le l) ((sb.1.sub sa.1).s ω) ((sb.2.sub sa.2).s ω) ((sc.1.sub sa.1).s ω) ((sc.2.sub sa.2).s ω)).s ?_⟩;rintro r B C ⟨p,n,d,D,E,F,rfl,q,G⟩;exact qyZ ⟨rfl,λH s=>(rj _ (q.le s)).s λr I J e=>⟨_,e,λK L=>⟨_,rfl⟩⟩⟩
theorem zo (f n:Int):À 215 #[Ô .i64 f,Ô .i64 n] V λr V'=>∃b,r=dB b:=
 x_ V _ ⟨λ_=>⟨φ,λ_ a c=>⟨_,rfl⟩,λ_=>⟨λ_ V2 d=>⟨_,rfl⟩,λ_ e g=>⟨_,rfl⟩⟩⟩,λ_=>⟨λ_ h i=>⟨_,rfl⟩,λ_ j k=>⟨_,rfl⟩⟩⟩
def Vb (k:Nat)(l:List (Rat×Rat)):Prop:=∀p∈l,Sz k p.1/\Sz k p.2
theorem Bs {l:pz (Rat×Rat)}{q:Rat×Rat}(h:bP 6 cS V p n l)(hl:l.length<=1000)(hs:Vb 600000000 l)(hq:cS V v q)(sq:Sz 600000000 q.1/\Sz 600000000 q.2):À 214 #[zF p n c,v] V λr V'=>∃x,r=Ô .i64 x:=by
 obtain rfl:=h.len;obtain ⟨Q1,Q2,Q3,Q4,Q5,Q6,Q7,P,Q,R,U,X,Y,Z,rfl⟩:=hq.shape;refine Af V _ ⟨λz _=>∃j:Nat,z.2=(j:Int)/\j<=l.length,λz=>l.length-z.2.toNat,⟨(0,0),σ,0,rfl,â _⟩,?_⟩;rintro ⟨z1,z2⟩ m o ⟨j,e,yF⟩;dsimp only at e;subst e;refine ⟨rfl,λd=>?_,λ_ ku ct=>⟨_,rfl⟩⟩;have d:=Á d;have s:j<l.length:=ω
 have w:i64.wrap ((j:Int)+1)=((j+1:Nat):Int):=by rw [au ω];rfl
 have hm:(((j+1:Nat):Int)).tmod (l.length:Int)=(((j+1)%l.length:Nat):Int):=by rw [Wj6]
 have hk:(j+1)%l.length<l.length:=Ė _ ω;dsimp only;rw [w,hm];rw [Ý,Ý];have hL:=h.le o λ_ _ g=>cS.le g o;obtain ⟨ps,b1,p1,n1,c1,p2,n2,c2,t,u,A,B,C,D,E,a,ha,a0,a1,a2,a3,a4,a5,gu⟩:=tR cS.shape hL s;obtain ⟨-,B1,P1,N1,C1,P2,N2,C2,F,G,H,I,J,K,L,b,hb,A0,A1,A2,A3,A4,A5,gw⟩:=tR cS.shape hL hk;have S:=hs _ (ù s);have T:=hs _ (ù hk);have uy:∀{W:ut},m.Le W->RQ W (hF #[dB t,zF u A B,zF C D E]) l[j].2:=λg=>(Uy gu).2.le g;have wy:∀{W:ut},m.Le W->RQ W (hF #[dB F,zF G H I,zF J K L]) l[(j+1)%l.length].2:=λg=>(Uy gw).2.le g;have qy:∀{W:ut},m.Le W->RQ W (hF #[dB P,zF Q R U,zF X Y Z]) q.2:=λg=>(Uy hq).2.le (o.m g)
 have f:∀{W:ut},m.Le W->À 249 #[hF #[dB b1,zF p1 n1 c1,zF p2 n2 c2,dB t,zF u A B,zF C D E],hF #[dB B1,zF P1 N1 C1,zF P2 N2 C2,dB F,zF G H I,zF J K L],hF #[dB Q1,zF Q2 Q3 Q4,zF Q5 Q6 Q7,dB P,zF Q R U,zF X Y Z]] W λr V'=>∃x,r=Ô .i64 x:=λg=>
  Bm (k:=600000000) (cS.le gu g) (cS.le gw g) (cS.le hq (o.m g)) ω S T sq
 refine ⟨ps,⟨ω,ω⟩,b1,p1,n1,c1,p2,n2,c2,t,u,A,B,C,D,E,a,ha,a0,a1,a2,a3,a4,a5,ω,ps,⟨ω,ω⟩,B1,P1,N1,C1,P2,N2,C2,F,G,H,I,J,K,L,b,hb,A0,A1,A2,A3,A4,A5,λV2 i=>(fB (uy i) (qy i) S.2 sq.2).s ?_⟩;rintro r V3 M rfl;refine ⟨_,rfl,λV4 N=>(fB (wy (i.m (M.m N))) (qy (i.m (M.m N))) T.2 sq.2).s ?_⟩;rintro r V5 l5 rfl;have L5:=i.m (M.m (N.m l5));refine ⟨_,rfl,λ_ _=>True,⟨λ_=>⟨λ_ V6 l6=>(f (L5.m l6)).s ?_,λ_=>⟨_,σ,trivial⟩⟩,λ_=>⟨_,σ,trivial⟩⟩,λz V8 l8 _=>⟨rfl,λ_ _=>True,⟨λ_=>⟨_,σ,trivial⟩,λ_=>⟨_,σ,trivial⟩⟩,λy V9 l9 _=>⟨rfl,λ_ _=>True,⟨λ_=>⟨λ_ fW O=>(f (L5.m (l8.m (l9.m O)))).s ?_,λ_=>⟨_,σ,trivial⟩⟩,λ_=>⟨_,σ,trivial⟩⟩,λx iD bY _=>⟨rfl,λ_=>⟨(_,((j+1:Nat):Int)),ω,σ,j+1,rfl,s⟩,λ_=>⟨(_,((j+1:Nat):Int)),ω,σ,j+1,rfl,s⟩⟩⟩⟩⟩
 ·rintro r V7 l7 ⟨x,rfl⟩;exact ⟨_,rfl,_,σ,trivial⟩
 ·rintro r fk bw ⟨x,rfl⟩;exact ⟨_,rfl,_,σ,trivial⟩
def NK (R:Ó->Value->Rat×Rat->Prop)(V:Ó)(v:Value)(l:List (Rat×Rat)):Prop:=∃p n c,v=.agg #[.slice p n c]/\bP 6 R V p n l
abbrev DP:=NK cS
theorem NK.s {R:ut->un->Rat×Rat->Prop}{V':ut}{l:pz (Rat×Rat)}(h:NK R V v l)(m:∀v a,R V v a->R V' v a)(g:V.Le V'):NK R V' v l:=by obtain ⟨p,n,c,rfl,h⟩:=h;exact ⟨p,n,c,rfl,h.le g m⟩
theorem DP.le {V V':ut}{l:pz (Rat×Rat)}(h:DP V v l)(g:V.Le V'):DP V' v l:=NK.s h (λ_ _ k=>cS.le k g) g
theorem Hl {R:ut->un->Rat×Rat->Prop}{L:pz (pz (Rat×Rat))}(h:bP 1 (NK R) V p n L)(hi:i<L.length):p.isSome=true/\∃(q:OA)(m e:Nat),(∃a,ae p (i*1)=some a/\V.at a (zF q m e))/\bP 6 R V q m L[i]:=by have ⟨a,b,xs,j,⟨q,m,e,d,f⟩,g⟩:=h.at_ i hi;have c:=Æ Array.toList (Value.agg.inj d);dsimp only at c;subst c;refine ⟨?_,q,m,e,⟨a,b,?_⟩,f⟩;{(cases p with|none=>simp [ae] at b|some a=>rfl)};{have:=g 0 _ rfl;simpa [Addr.add] using this}
theorem one1:∀v∈([zF p n c]:pz un),v.oneCell'=true:=λv a=>by rw [ö.1 a];rfl
structure Pgs (L:List (List (Rat×Rat))):Prop where
 len:L.length<=1000
 each:∀l∈L,l.length<=1000/\Vb 600000000 l
theorem LX {p2:OA}{n2 c2:Nat}{fill:Int}{L:pz (pz (Rat×Rat))}{q:Rat×Rat}(h:bP 1 DP V p n L)(hL:Pgs L)(hq:cS V v q)(sq:Sz 600000000 q.1/\Sz 600000000 q.2):À 179 #[hF #[zF p n c,Ô .i64 fill,zF p2 n2 c2],v] V λr V'=>∃b,r=dB b:=by obtain rfl:=h.len;have B:=hL.len;obtain ⟨_,_,_,_,_,_,_,_,_,_,_,_,_,_,rfl⟩:=hq.shape;refine E2 V _ ⟨λz _=>∃j:Nat,z.2=(j:Int)/\j<=L.length,λz=>L.length-z.2.toNat,⟨(0,0),σ,0,rfl,â _⟩,?_⟩;rintro ⟨m,C⟩ D d ⟨j,e,E⟩;dsimp only at e;subst e;refine ⟨rfl,λa=>?_,λ_ F G=>(zo fill m).s λr H I ⟨b,e⟩=>⟨b,e,λJ K=>⟨b,rfl⟩⟩⟩;have a:=Á a;have f:j<L.length:=ω;have w:i64.wrap ((j:Int)+1)=((j+1:Nat):Int):=by{rw [au ω];rfl};dsimp only;rw [w,Ý];have ⟨o,s,t,u,i,g⟩:=Hl (h.le d λ_ _ k=>DP.le k d) f;have ⟨y,A⟩:=hL.each _ (ù f);refine ⟨o,⟨ω,ω⟩,s,t,u,i,λV2 l=>(Bs (g.le l λ_ _ k=>cS.le k l) y A (cS.le hq (d.m l)) sq).s ?_⟩;rintro r M N ⟨x,rfl⟩;exact ⟨x,rfl,(_,((j+1:Nat):Int)),ω,σ,j+1,rfl,f⟩
theorem I7 {A:pz (Rat×Rat)}(h:bP 6 kV V p n A)(hn:A.length<=1000000)(hs:Vb 600000000 A):À 130 #[zF p n c] V λr V'=>∃q m e,r=zF q m e/\bP 6 cS V' q m A:=by obtain rfl:=h.len;refine Il V _ ⟨λz V'=>∃j:Nat,z.2.2.2=(j:Int)/\j<=A.length/\GR 6 cS V' z.1 z.2.1 z.2.2.1 (A.take j),λz=>A.length-z.2.2.2.toNat,⟨(0,0,[],0),σ,0,rfl,â _,GR.nil⟩,?_⟩;rintro ⟨t,N,O,P⟩ Q i ⟨j,k,R,d⟩;dsimp only at k d;subst k;have u:=d.len;rw [é] at u;refine ⟨rfl,λb=>?_,λb S v T x=>?_⟩;{have b:(j:Int)<A.length:=Á b;have f:j<A.length:=ω;have w:i64.wrap ((j:Int)+1)=((j+1:Nat):Int):=by{rw [au ω];rfl};dsimp only;rw [Ý,w];obtain ⟨y,U,W,X,Y,Z,n2,c2,b2,p3,n3,c3,p4,n4,c4,a,B,C,D,E,F,G,H,g⟩:=tR kV.shape (h.le i λ_ _ g=>kV.le g i) f;have ⟨s1,s2⟩:=hs _ (ù f);refine ⟨y,⟨ω,ω⟩,_,_,_,_,_,_,_,_,_,_,_,_,_,_,a,B,C,D,E,F,G,H,λV2 l=>(VS (kV.le g l) s1 s2).s ?_⟩;rintro r o I J;have s:cS o r A[j]:=J;obtain ⟨_,_,_,_,_,_,_,_,_,_,_,_,_,_,rfl⟩:=s.shape;refine qyK ⟨rfl,ω,d.le,d.cap,rfl,T0,λsp K L M=>⟨(t+1,K,_,((j+1:Nat):Int)),by dsimp only;omega,σ,j+1,rfl,f,?_⟩⟩;dsimp only;rw [ŀ,ô f];exact (d.s (V':=o) λ_ _ g=>cS.le g (l.m I)).snoc rfl s φ L M};{have b:¬(j:Int)<A.length:=Â b;obtain rfl:j=A.length:=ω;rw [ě] at d;obtain rfl:=d.len;exact ⟨_,_,_,rfl,bP.bM x (d.row.le λ_ _ g=>cS.le g v) φ d.le⟩}
def edg (l:List (Rat×Rat))(i:Nat):L3×Sp:=
 (mT (l.getD i (0,0)).1 (l.getD i (0,0)).2 (l.getD ((i+1)%l.length) (0,0)).1 (l.getD ((i+1)%l.length) (0,0)).2,MY (l.getD i (0,0)).1 (l.getD i (0,0)).2 (l.getD ((i+1)%l.length) (0,0)).1 (l.getD ((i+1)%l.length) (0,0)).2)
def mM (l:List (Rat×Rat)):List (L3×Sp):=(List.range l.length).map (edg l)
structure Pg (l:List (Rat×Rat)):Prop where
 len:l.length<=6
 sm:Vb 10 l
 ne:∀i,i<l.length->¬((l.getD i (0,0)).1=(l.getD ((i+1)%l.length) (0,0)).1/\(l.getD i (0,0)).2=(l.getD ((i+1)%l.length) (0,0)).2)
theorem gS {l:pz (Rat×Rat)}(h:i<l.length):l.getD i (0,0)=l[i]:=by rw [ġ,ô h];rfl
theorem Pg.at_ {l:pz (Rat×Rat)}(h:Pg l)(hi:i<l.length):Sz 10 (l.getD i (0,0)).1/\Sz 10 (l.getD i (0,0)).2:=by rw [gS hi];exact h.sm _ (ù hi)
theorem Pg.nxt {l:pz (Rat×Rat)}(hi:i<l.length):(i+1)%l.length<l.length:=Ė _ ω
theorem Pg.edge {l:pz (Rat×Rat)}(h:Pg l)(hi:i<l.length):X1 (edg l i):=by have ⟨s1,s2⟩:=h.at_ hi;obtain ⟨s3,s4⟩:=h.at_ (Pg.nxt hi);have ok:=seg_ok (h.ne i hi);have sl:=HY s1 s2 s3 s4 (h.ne i hi);have a:=XI s1 s2 s3 s4 (h.ne i hi);exact ⟨ok.1,Zt ⟨Sz.s sl.1,Sz.s sl.2.1,Sz.s sl.2.2⟩,⟨ok.2.1,ok.2.2⟩,⟨Sz.s a.1,Sz.s a.2⟩⟩
theorem Pg.Yq {l:pz (Rat×Rat)}(h:Pg l):∀f∈mM l,X1 f:=λf a=>by
 obtain ⟨i,b,rfl⟩:=ò.1 a;exact h.edge (Wj5.1 b)
theorem nD (l:pz (Rat×Rat)):(mM l).length=l.length:=by unfold mM;simp
theorem PJ {l:pz (Rat×Rat)}{j:Nat}(hj:j<l.length):(mM l).take (j+1)=(mM l).take j++[edg l j]:=by rw [ŀ,ô (by rw [nD];exact hj)];unfold mM;simp
theorem sI {l:pz (Rat×Rat)}(h:bP 6 cS V p n l)(hg:Pg l):À 128 #[zF p n c] V λr V'=>∃q m e,r=zF q m e/\bP 14 tm V' q m (mM l):=by obtain rfl:=h.len;have h6:=hg.len;refine DE V _ ⟨λz V'=>∃j:Nat,z.2.2.2=(j:Int)/\j<=l.length/\GR 14 tm V' z.1 z.2.1 z.2.2.1 ((mM l).take j),λz=>l.length-z.2.2.2.toNat,⟨(0,0,[],0),σ,0,rfl,â _,GR.nil⟩,?_⟩;rintro ⟨C,z2,vs,z4⟩ V1 u ⟨j,v,yF,i⟩;dsimp only at v i;subst v;have D:=i.len;rw [é,nD] at D;refine ⟨rfl,λd=>?_,λd V4 F bk s=>?_⟩;{have d:(j:Int)<l.length:=Á d;have k:j<l.length:=ω;have w:i64.wrap ((j:Int)+1)=((j+1:Nat):Int):=by{rw [au ω];rfl};have hm:(((j+1:Nat):Int)).tmod (l.length:Int)=(((j+1)%l.length:Nat):Int):=by{rw [Wj6]};have o:=Pg.nxt k;dsimp only;rw [w,hm];rw [Ý,Ý];have x:=h.le u λ_ _ g=>cS.le g u;obtain ⟨y,G,H,I,J,K,L,M,O,P,Q,R,U,W,X,a,Y,Z,a1,a2,a3,a4,a5,gu⟩:=tR cS.shape x k;obtain ⟨-,B1,P1,N1,C1,P2,N2,C2,B2,P3,N3,C3,P4,N4,C4,b,s,A0,A1,A2,A3,A4,A5,gw⟩:=tR cS.shape x o;have S:=hg.at_ k;have T:=hg.at_ o;have N:=hg.ne j k;have E:edg l j=(mT l[j].1 l[j].2 l[(j+1)%l.length].1 l[(j+1)%l.length].2,MY l[j].1 l[j].2 l[(j+1)%l.length].1 l[(j+1)%l.length].2):=by{unfold edg;rw [gS k,gS o]};rw [gS k] at S;rw [gS o] at T;rw [gS k,gS o] at N;refine ⟨y,⟨ω,ω⟩,G,H,I,J,K,L,M,O,P,Q,R,U,W,X,a,Y,Z,a1,a2,a3,a4,a5,ω,y,⟨ω,ω⟩,B1,P1,N1,C1,P2,N2,C2,B2,P3,N3,C3,P4,N4,C4,b,s,A0,A1,A2,A3,A4,A5,λV2 t=>(zk (cS.le gu t) (cS.le gw t) S.1 S.2 T.1 T.2 ω).s ?_⟩;rintro r A l3 ⟨-,m2⟩;obtain ⟨f,rfl,B⟩:=m2 N;have g0:tm A f (edg l j):=by{rw [E];exact B};obtain ⟨_,_,_,_,_,_,_,_,_,_,_,_,_,_,_,_,_,_,_,_,_,_,_,_,_,_,rfl⟩:=Kv B;refine ⟨_,_,_,_,_,_,_,_,_,_,_,_,_,_,_,_,_,_,_,_,_,_,_,_,_,_,_,_,_,rfl,ω,i.le,i.cap,rfl,J7,λsp c' h1 h2=>⟨(C+1,c',_,((j+1:Nat):Int)),by dsimp only;omega,σ,j+1,rfl,k,?_⟩⟩;dsimp only;rw [PJ k];exact (i.s (V':=A) λ_ _ g=>tm.le g (t.m l3)).snoc rfl g0 φ h1 h2};{have d:¬(j:Int)<l.length:=Â d;obtain rfl:j=l.length:=ω;rw [show (mM l).take l.length=mM l by rw [<-nD l];exact ě] at i;obtain rfl:=i.len;exact ⟨_,_,_,rfl,bP.bM s (i.row.le λ_ _ g=>tm.le g F) φ i.le⟩}
theorem yv {L:pz (pz (Rat×Rat))}(h:bP 1 DP V p n L)(hn:L.length<=1000)(hL:∀l∈L,Pg l):À 72 #[zF p n c] V λr V'=>∃q m e,r=zF q m e/\bP 1 (NK kV) V' q m L:=by obtain rfl:=h.len;refine Is V _ ⟨λz V'=>∃j:Nat,z.2.2.2=(j:Int)/\j<=L.length/\GR 1 (NK kV) V' z.1 z.2.1 z.2.2.1 (L.take j),λz=>L.length-z.2.2.2.toNat,⟨(0,0,[],0),σ,0,rfl,â _,GR.nil⟩,?_⟩;rintro ⟨B,P,Q,R⟩ S o ⟨j,s,T,b⟩;dsimp only at s b;subst s;have C:=b.len;rw [é] at C;refine ⟨rfl,λa=>?_,λa U t W D=>?_⟩;{have a:(j:Int)<L.length:=Á a;have d:j<L.length:=ω;have w:i64.wrap ((j:Int)+1)=((j+1:Nat):Int):=by{rw [au ω];rfl};dsimp only;rw [Ý,w];have ⟨E,F,G,H,i,g⟩:=Hl (h.le o λ_ _ k=>DP.le k o) d;have k:=hL _ (ù d);have X:=k.len;refine ⟨E,⟨ω,ω⟩,F,G,H,i,λV2 f=>(GW (k:=10) (g.le f λ_ _ k=>cS.le k f) ω (λx I=>k.sm x I)).s ?_⟩;rintro r J u ⟨v,y,A,rfl,K⟩;refine ⟨v,y,A,rfl,ω,b.le,b.cap,rfl,one1,λsp M N O=>⟨(B+1,M,_,((j+1:Nat):Int)),by dsimp only;omega,σ,j+1,rfl,d,?_⟩⟩;dsimp only;rw [ŀ,ô d];exact (b.s (V':=J) λ_ _ g=>NK.s g (λ_ _ k=>kV.le k (f.m u)) (f.m u)).snoc rfl ⟨v,y,A,rfl,K⟩ φ N O};{have a:¬(j:Int)<L.length:=Â a;obtain rfl:j=L.length:=ω;rw [ě] at b;obtain rfl:=b.len;exact ⟨_,_,_,rfl,bP.bM D (b.row.le λ_ _ g=>NK.s g (λ_ _ k=>kV.le k t) t) φ b.le⟩}
theorem uQ {L:pz (pz (Rat×Rat))}(fill:Int)(h:bP 1 (NK kV) V p n L)(hn:L.length<=1000)(hL:∀l∈L,Pg l):À 71 #[zF p n c,Ô .i64 fill] V λr V'=>∃p n c q m e,r=hF #[zF p n c,Ô .i64 fill,zF q m e]/\bP 1 DP V' p n L:=by
 obtain rfl:=h.len
 refine E1 V _ ⟨λz V'=>∃(j:Nat)(ls:pz L3),z.2.2.2.1=(j:Int)/\j<=L.length/\z.2.2.2.2.2.2.1=fill/\GR 6 cO V' z.1 z.2.1 z.2.2.1 ls/\ls.length<=6*j/\(∀l∈ls,Bd l)/\GR 1 DP V' z.2.2.2.2.1 z.2.2.2.2.2.1 z.2.2.2.2.2.2.2.2.2.2 (L.take j),λz=>L.length-z.2.2.2.1.toNat,
  ⟨(0,0,[],0,0,0,fill,none,0,0,[]),σ,0,[],rfl,â _,rfl,GR.nil,ψ,(λl h=>nomatch h),GR.nil⟩,?_⟩
 rintro ⟨z1,z2,vs,z4,D,r2,z7,z8,z9,E,us⟩ V1 F ⟨j,ls,W,yF,X,v,G,Y,t⟩;dsimp only at W X v t;subst W X;have zl:=v.len;have rl:=t.len;rw [é] at rl;dsimp only;rw [Ý];refine ⟨rfl,λs=>?_,λs V7 Z bk H=>?_⟩
 ·have s:=Á s;have B:j<L.length:=ω
  have w:i64.wrap ((j:Int)+1)=((j+1:Nat):Int):=by rw [au ω];rfl
  rw [w];have ⟨ps,q1,m1,e1,I,g⟩:=Hl (h.le F λ_ _ k=>NK.s k (λ_ _ k=>kV.le k F) F) B;have k:=hL _ (ù B);have k6:=k.len;refine ⟨ps,⟨ω,ω⟩,q1,m1,e1,I,λV2 J=>(I7 (g.le J λ_ _ k=>kV.le k J) ω (λx hx=>⟨(k.sm x hx).1.s ω,(k.sm x hx).2.s ω⟩)).s ?_⟩;rintro r V3 l3 ⟨K,M,N,rfl,gp⟩;refine ⟨K,M,N,rfl,ω,t.le,t.cap,rfl,one1,λsp c' h1 h2 V4 y=>(sI (gp.le y λ_ _ k=>cS.le k y) k).s ?_⟩;rintro r V5 O ⟨q3,m3,e3,rfl,ge⟩;have cP:=J.m (l3.m (y.m O))
  have r5:GR 1 DP V5 (D+1) c' (us.take (D*1)++([zF K M N]:pz un)++sp) (L.take (j+1)):=by rw [ŀ,ô B];exact (t.s λ_ _ g=>DP.le g cP).snoc rfl ⟨K,M,N,rfl,gp.le (y.m O) λ_ _ k=>cS.le k (y.m O)⟩ φ h1 h2
  obtain rfl:=ge.len;have el:=nD L[j]
  refine ⟨q3,_,e3,rfl,λz V'=>∃(i:Nat)(ms:pz L3),z.2.2.2=(i:Int)/\i<=(mM L[j]).length/\V5.Le V'/\GR 6 cO V' z.1 z.2.1 z.2.2.1 ms/\ms.length<=6*j+i/\∀l∈ms,Bd l,λz=>(mM L[j]).length-z.2.2.2.toNat,
   ⟨(z1,z2,vs,0),σ,0,ls,rfl,â _,Ó.Le.refl _,v.s λ_ _ g=>cO.le g cP,G,Y⟩,?_⟩
  rintro ⟨y1,y2,ws,y4⟩ V6 l6 ⟨i,ms,f4,Vn,C,o,hm,A⟩;dsimp only at f4 o;subst f4;have yl:=o.len;dsimp only;rw [Ý];refine ⟨rfl,λf=>?_,λf=>?_⟩
  ·have f:=Á f;have u:i<(mM L[j]).length:=ω;have w':i64.wrap ((i:Int)+1)=((i+1:Nat):Int):=by{rw [au ω];rfl};rw [w'];obtain ⟨P,b1,p1,n1,c1,b2,p2,n2,c2,b3,p3,n3,c3,b,s1,s2,s3,s4,s5,s6,d,t1,t2,t3,t4,t5,t6,a,ha,a0,a1,a2,a3,a4,a5,a6,a7,a8,a9,Zj,Zk,Q,R,gl,-⟩:=Hm (ge.le C λ_ _ k=>tm.le k C) u;refine ⟨P,⟨ω,ω⟩,b1,p1,n1,c1,b2,p2,n2,c2,b3,p3,n3,c3,b,s1,s2,s3,s4,s5,s6,d,t1,t2,t3,t4,t5,t6,_,_,a,ha,a0,a1,a2,a3,a4,a5,a6,a7,a8,a9,Zj,Zk,Q,R,ω,o.le,o.cap,rfl,Qu,λb0 S h3 h4=>⟨(y1+1,S,_,((i+1:Nat):Int)),by dsimp only;omega,σ,i+1,ms++[(mM L[j])[i].1],rfl,u,C,o.snoc rfl gl φ h3 h4,by simp;omega,λl T=>(õ.1 T).elim (A l) λT=>by rw [ö.1 T];exact (k.Yq _ (ù u)).bd⟩⟩
  ·have f:=Â f;exact ⟨(y1,y2,ws,((j+1:Nat):Int),D+1,c',z7,z8,z9,E,_),by dsimp only;omega,σ,j+1,ms,rfl,B,rfl,o,ω,A,r5.s λ_ _ g=>DP.le g C⟩
 ·have s:=Â s;obtain rfl:j=L.length:=ω;rw [ě] at t;obtain rfl:=v.len;refine (uL (bP.bM H (v.row.le λ_ _ g=>cO.le g Z) φ v.le) ω Y).s ?_;rintro r V8 l8 ⟨q,m,e,rfl,-⟩;obtain rfl:=t.len;exact ⟨q,m,e,rfl,λ_ V9 l9 Yh U=>⟨_,_,_,_,_,_,rfl,bP.bM U (t.row.le λ_ _ g=>DP.le g (Z.m (l8.m l9))) φ t.le⟩⟩
theorem GR.app {α:Type}{sz:Nat}{R:ut->un->α->Prop}{vs:pz un}{l:pz α}(h:GR sz R V n c vs l){ms:pz α}(h':ç sz R V xs ms)(hx:xs.length=ms.length*sz)(h0:0<sz){sp:pz un}{c':Nat}(h1:n+ms.length<=c')(h2:c'*sz<=(n+ms.length)*sz+sp.length):GR sz R V (n+ms.length) c' (vs.take (n*sz)++xs++sp) (l++ms):=by have a:=h.len;have d:=h.cap;have e:n*sz<=c*sz:=ÿ _ h.le;refine ⟨by rw [í,a],h1,?_,?_⟩;{have b:(vs.take (n*sz)).length=n*sz:=by{rw [é];omega};rw [í,í,b,hx];rw [đ] at h2;exact h2};{rw [a];exact im h.row h' h0}
theorem F4 {m:L3}{fs:pz (L3×Sp)}{q:L3->Prop}(h:∀f∈fs,q f.1):∀u∈lH m fs,q u.1:=λu hu=>by
 have ⟨f,b,a⟩:=Đ.1 hu;unfold pH at a;split at a
 ·rw [ö.1 a];exact h f b
 ·cases a
theorem Cs {m:L3}{fs:pz (L3×Sp)}{j:Nat}(hj:j<fs.length):lH m (fs.take (j+1))=lH m (fs.take j)++pH fs[j].1 fs[j].2 m:=by unfold lH;rw [ŀ,ô hj];show List.flatMap _ (_++[fs[j]])=_;rw [Qc1,Ď,Wk2,Ć]
theorem HK {l:pz (L3×Sp)}(h:ç 14 tm V xs l)(hl:xs.length=l.length*14):∀v∈xs,v.oneCell'=true:=λv a=>by
 have ⟨m,hm,e⟩:=Qm2.1 a;exact kK h φ (λ_ _=>Xu) (m:=m) ω (by rw [<-e];exact ô hm)
theorem I9 {q:L3->Prop}:∀(k:Nat) {fs:pz (L3×Sp)} {c:pz L3} {L:pz (pz (Rat×Rat))} {V:ut} {lp cp r0p r2p:OA} {ln lc cn cc r0n r0c r2n r2c:Nat} {fill:Int},fs.length<=k->bP 14 tm V lp ln fs->(∀f∈fs,X1 f)->(∀f∈fs,q f.1)->bP 6 cO V cp cn c->(∀m∈c,me m)->c.length+k<=980->bP 1 DP V r0p r0n L->Pgs L ->À 129 #[hF #[zF r0p r0n r0c,Ô .i64 fill,zF r2p r2n r2c],zF lp ln lc,zF cp cn cc] V λr V'=>∃o t,r=dS o/\RW V' o t/\t.dV q/\t.depth<=k:=by
 intro k
 induction k using Nat.strongRecOn with
 | ind k ih=>
  intro fs c L V lp cp r0p r2p ln lc cn cc r0n r0c r2n r2c fill hk hf hr hq hc kc f6 hL hP;obtain rfl:=hf.len;obtain rfl:=hc.len;have hC:∀{W:ut},V.Le W->bP 6 cO W cp c.length c:=λg=>hc.le g λ_ _ k=>cO.le k g;have hR:∀{W:ut},V.Le W->bP 1 DP W r0p r0n L:=λg=>hL.le g λ_ _ k=>DP.le k g;refine Ir V _ ⟨λh0 V1 l1=>(sG (hC l1) (λm h=>(kc m h).2) (λm h=>(kc m h).1)).s ?_,λh0=>?_⟩
  ·rintro r V2 l2 ⟨u,p,rfl,g,s1,s2⟩;have g0:cS V2 u p:=g;obtain ⟨_,_,_,_,_,_,_,_,_,_,_,_,_,_,rfl⟩:=g0.shape;refine ⟨_,_,_,_,_,_,_,_,_,_,_,_,_,_,_,rfl,λV3 l3=>(LX (hR (l1.m (l2.m l3))) hP (cS.le g0 l3) ⟨s1.s ω,s2.s ω⟩).s ?_⟩;rintro r V4 l4 ⟨b,rfl⟩;refine ⟨b,rfl,λV5 l5=>(cX b).s ?_⟩;rintro r V6 l6 ⟨o,rfl,g⟩;exact ⟨o,rfl,λV7 l7=>⟨o,_,rfl,g.le l7,trivial,â _⟩⟩
  have E:0<fs.length:=by have:=Â h0;omega
  obtain ⟨f0,e,rfl⟩:∃f0 e,fs=f0::e:=by cases fs with
   | nil=>simp at E
   | cons f r=>exact ⟨f,r,rfl⟩
  have F:=hr f0 (þ ..);obtain ⟨ps,b1,p1,n1,c1,b2,p2,n2,c2,b3,p3,n3,c3,_,_,_,_,_,_,_,_,_,_,_,_,_,_,a,ha,a0,a1,a2,a3,a4,a5,_,_,_,_,_,_,_,_,G,-⟩:=Hm hf E;have G:cO V (hF #[dB b1,zF p1 n1 c1,dB b2,zF p2 n2 c2,dB b3,zF p3 n3 c3]) f0.1:=G;have ea:=ha;have az:a.add 0=a:=by simp [Addr.add]
  have i:me f0.1:=⟨F.ok,F.bd⟩;refine ⟨ps,⟨ω,ω⟩,by rw [ea];rfl,b1,p1,n1,c1,b2,p2,n2,c2,b3,p3,n3,c3,a,by rw [ea];show some (a.add 0)=_;rw [az],a0,a1,a2,a3,a4,a5,?_⟩
  refine ⟨λz V'=>∃j:Nat,z.2.2.2.2.2.2=(j:Int)/\j<=(f0::e).length/\GR 14 tm V' z.1 z.2.1 z.2.2.1 (lH f0.1 ((f0::e).take j))/\GR 14 tm V' z.2.2.2.1 z.2.2.2.2.1 z.2.2.2.2.2.1 (lH (Õ f0.1) ((f0::e).take j)),λz=>(f0::e).length-z.2.2.2.2.2.2.toNat,
   ⟨(0,0,[],0,0,[],0),σ,0,rfl,â _,GR.nil,GR.nil⟩,?_⟩
  rintro ⟨z1,z2,vs,y1,y2,us,z4⟩ V8 A ⟨j,e4,yF,B,C⟩;dsimp only at e4 B C;subst e4;have zl:=B.len;have yl:=C.len;have J:∀m:L3,(lH m ((f0::e).take j)).length<=(f0::e).length:=λm=>ā (rK _ _) (by rw [é];omega);have f7:=J f0.1;have f8:=J (Õ f0.1);dsimp only;rw [Ý];refine ⟨rfl,λn=>?_,λn=>?_⟩
  ·have n:=Á n;have K:j<(f0::e).length:=ω;have w:i64.wrap ((j:Int)+1)=((j+1:Nat):Int):=by{rw [au ω];rfl};rw [w];have H:=hr _ (ù K);obtain ⟨a7,d1,q1,m1,e1,d2,q2,m2,e2,d3,q3,m3,e3,d,s1,s2,s3,s4,s5,s6,t0,t1,t2,t3,t4,t5,t6,a',a8,a9,b0,b4,b5,b6,b7,b8,b9,c0,c6,M,N,O,P,c8,c9⟩:=Hm (hf.le A λ_ _ k=>tm.le k A) K;refine ⟨a7,⟨ω,ω⟩,d1,q1,m1,e1,d2,q2,m2,e2,d3,q3,m3,e3,d,s1,s2,s3,s4,s5,s6,t0,t1,t2,t3,t4,t5,t6,_,_,a',a8,a9,b0,b4,b5,b6,b7,b8,b9,c0,c6,M,N,O,P,λV9 l9=>(D9 (l:=(f0::e)[j].1) (s:=(f0::e)[j].2) ⟨_,_,_,_,_,_,_,_,_,_,_,_,_,_,_,_,_,_,_,_,_,_,_,_,_,_,rfl,cO.le c8 l9,pU.le c9 l9⟩ (cO.le G (A.m l9)) (jo H.ok) H.bd i.2 H.gd.1 ⟨H.sz.1.s ω,H.sz.2.s ω⟩).s ?_⟩;rintro r fW d0 ⟨p4,n4,c4,p5,n5,c5,rfl,k1,k2⟩;rw [UK H.gd] at k1 k2;obtain rfl:=k1.len;obtain rfl:=k2.len;obtain ⟨xs,x1,D,Q⟩:=eI k1 φ;have ⟨ws,w1,I,w3⟩:=eI k2 φ;have o1:=xM (f0::e)[j].1 (f0::e)[j].2 f0.1;have o2:=xM (f0::e)[j].1 (f0::e)[j].2 (Õ f0.1);have Ql:=l9.m d0;refine ⟨p4,_,c4,p5,_,c5,rfl,xs,x1,D,ω,B.le,B.cap,D,HK Q D,λsp c' u1 u2=>⟨ws,w1,I,ω,C.le,C.cap,I,HK w3 I,λsp' d4 u3 u4=>⟨(z1+_,c',_,y1+_,d4,_,((j+1:Nat):Int)),by dsimp only;omega,σ,j+1,rfl,K,?_,?_⟩⟩⟩;{rw [Cs K];exact (B.s λ_ _ g=>tm.le g Ql).app Q D φ u1 u2};{rw [Cs K];exact (C.s λ_ _ g=>tm.le g Ql).app w3 I φ u3 u4}
  have n:=Â n;obtain rfl:j=(f0::e).length:=ω
  rw [ě] at B C;have ⟨f1,f2⟩:=MH (f:=f0) (fs:=e) (jo F.ok);have sm:(lH f0.1 (f0::e)).length<k/\(lH (Õ f0.1) (f0::e)).length<k:=by simp only [Ą] at hk;omega
  obtain ⟨k',rfl⟩:∃k',k=k'+1:=⟨k-1,ω⟩;obtain ⟨xs,x1,D,Q⟩:=eI (hC A) φ;have ln:∀m:L3,(c++[m]).length=(0+c.length)+1:=λm=>by rw [í];simp
  have R:∀m,me m->∀x∈c++[m],me x:=λm hm x hx=>(õ.1 hx).elim (kc x) λh=>by rw [ö.1 h];exact hm
  refine ⟨xs,x1,D,ω,Ù _,ψ,D,vI Q D,λNQ J5 d5 c3 u1 u2=>⟨ω,u1,by simp;omega,rfl,Qu,λYi J9 d6 c7 u3 u4 fk S VH f3 d7 d8=>?_⟩⟩;have L1:=bP.il d8 (qL (V:=fk) (ys:=[_,_,_,_,_,_]) (sp:=d5) (sp':=d6) rfl (Q.le λ_ _ g=>cO.le g S) D rfl (cO.le G (A.m S)));rw [ln] at L1;obtain rfl:=B.len;refine (ih k' ω ω (bP.bM d7 (B.row.le λ_ _ g=>tm.le g S) φ B.le) (Ke hr i.2) (F4 hq) L1 (R _ i) (by rw [ln];omega) (hR (A.m S)) hP).s ?_;rintro r iD bY ⟨o1,t1,rfl,w1,d9,f9⟩;have v:=S.m bY;have ⟨e0,e5,Vs,T⟩:=eI (hC (A.m v)) φ;refine ⟨o1,rfl,e0,e5,Vs,ω,Ù _,ψ,Vs,vI T Vs,λf4 g3 U g4 e6 g5 ku ct=>(jQ (cO.le G (A.m (v.m ct)))).s ?_⟩;rintro r lV cJ gr;have Eg:cO lV r (Õ f0.1):=gr;obtain ⟨_,_,_,_,_,_,_,_,_,_,_,_,rfl⟩:=bW Eg;refine qxW ⟨rfl,ω,e6,by simp;omega,rfl,Qu,λf5 g6 X g7 g8 g9 mg cP e7 e8 Y Z=>?_⟩;have Td:=ct.m (cJ.m cP);have y:=v.m Td;have a6:=bP.il Z (qL (V:=mg) (ys:=[_,_,_,_,_,_]) (sp:=U) (sp':=X) rfl (T.le λ_ _ g=>cO.le g Td) Vs rfl (cO.le Eg cP));rw [ln] at a6;obtain rfl:=C.len;refine (ih k' ω ω (bP.bM Y (C.row.le λ_ _ g=>tm.le g y) φ C.le) (Ke hr i.2.rev) (F4 hq) a6 (R _ (oR i)) (by rw [ln];omega) (hR (A.m y)) hP).s ?_;rintro r lY cK ⟨o2,t2,rfl,I,e9,h1⟩;refine ⟨o2,rfl,λmY cG bk hb=>⟨_,.node f0.1 t1 t2,rfl,ON hb (cO.le G (A.m (y.m (cK.m cG)))) (w1.le (Td.m (cK.m cG))) (I.le cG),⟨hq _ (þ ..),d9,e9⟩,by simp only [Tr.depth];omega⟩⟩
end
end Go.Proofs.Tryz
