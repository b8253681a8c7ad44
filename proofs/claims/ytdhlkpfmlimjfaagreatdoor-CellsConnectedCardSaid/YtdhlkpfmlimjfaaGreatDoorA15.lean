import Derived.Test.YtdhlkpfmlimjfaaGreatDoorA14
import Derived.Test.YtdhlkpfmlimjfaaGreatDoorA6
import Derived.Test.YtdhlkpfmlimjfaaGreatDoorA8
import Derived.Test.YtdhlkpfmlimjfaaGreatDoorA10
import Derived.Test.YtdhlkpfmlimjfaaGreatDoorA13
set_option linter.unusedVariables false
open Go.IntKind (i64 u64 u32)
namespace Go.Proofs.Tryz
open Go.Eng Go.Big
theorem FH {L M:L3}:((L.1:Rat)=(M.1:Rat)/\(L.2.1:Rat)=(M.2.1:Rat)/\(L.2.2:Rat)=(M.2.2:Rat))↔L=M:=by
 constructor
 ·rintro ⟨h1,h2,h3⟩
  exact Prod.ext (Rat.intCast_inj.1 h1) (Prod.ext (Rat.intCast_inj.1 h2) (Rat.intCast_inj.1 h3))
 ·rintro rfl
  exact ⟨rfl,rfl,rfl⟩
theorem vY {V:View}{v w:Value}{L M:L3}(hl:RLi V v L)(hm:RLi V w M){k:Nat}(sl:kU k L)(sm:kU k M)(hk:k+k<1099511627776) :
  Acts prog 197 #[v,w] V fun r V'=>r=.bool (decide (L=M)):=by
 refine (xG hl hm sl.1 sl.2.1 sl.2.2 sm.1 sm.2.1 sm.2.2 hk).mono ?_
 rintro r V' l rfl
 rw [decide_eq_decide.2 FH]
def LC (u:Value):Prop:=∃(x1 x2:Int)(p:OA)(y1 y2:Int)(q:OA)(a b:Bool),u=.agg #[.int .i64 x1,.int .i64 x2,.pointer p,.int .i64 y1,.int .i64 y2,.pointer q,.bool a,.bool b]
theorem Ck {V:View}{v w:Value}{M:L3}{t:Sp}{L:L3}(h:Dn V v M t)(hl:RLi V w L){k:Nat}(sm:kU k M)(st:t.sz k)(sl:kU k L)(hk:2*k+2<274877906944) :
  Acts prog 156 #[v,w] V fun r V'=>∃u,r=.tuple #[u,.bool (Fo M L)]/\LC u/\(Fo M L=true->xl V' u (CO M t L)):=by
 have hl0:=hl
 obtain ⟨_,_,_,_,_,_,_,_,_,_,_,_,_,_,_,rfl,h1,h2⟩:=h
 obtain ⟨_,_,_,_,_,_,_,_,_,rfl,-,-,-⟩:=hl
 refine sC _ _ _ _ _ _ _ _ _ _ _ _ _ _ _ _ _ _ _ _ _ _ _ _ _ _ V _ fun V1 l1=>(vY (h1.le l1) (hl0.le l1) sm sl (by omega)).mono ?_
 rintro r V2 l2 rfl
 refine ⟨_,rfl,fun he V3 l3=>?_,fun he V4 l4=>(k_Reverse (hl0.le (l1.trans (l2.trans l4))) sl (by omega)).mono ?_⟩
 ·have he:=of_decide_eq_true he
  have e1:Fo M L=true:=by unfold Fo;simp [he]
  have e2:CO M t L=t:=if_pos he
  rw [e1,e2]
  exact ⟨_,rfl,⟨_,_,_,_,_,_,_,_,rfl⟩,fun _=>h2.le (l1.trans (l2.trans l3))⟩
 ·have he:=of_decide_eq_false he
  rintro r V5 l5 g
  have g0:=g
  obtain ⟨_,_,_,_,_,_,_,_,_,rfl,-,-,-⟩:=g
  have L4:=l1.trans (l2.trans (l4.trans l5))
  refine ⟨_,_,_,_,_,_,_,_,_,rfl,fun V6 l6=>(vY (h1.le (L4.trans l6)) (g0.le l6) sm sl.rev (by omega)).mono ?_⟩
  rintro r V7 l7 rfl
  refine ⟨_,rfl,fun h' V8 l8=>(DI (h2.le (L4.trans (l6.trans (l7.trans l8)))) st (by omega)).mono ?_,fun h' V11 l11=>?_⟩
  ·have e1:Fo M L=true:=by unfold Fo;rw [h',Bool.or_true]
   have e2:CO M t L=t.neg:=if_neg he
   rw [e1,e2]
   rintro r V9 l9 g2
   have g20:=g2
   obtain ⟨_,_,_,_,_,_,rfl,-,-⟩:=g2
   exact ⟨_,_,_,_,_,_,_,_,rfl,fun V10 l10=>⟨_,rfl,⟨_,_,_,_,_,_,_,_,rfl⟩,fun _=>g20.le l10⟩⟩
  ·have e1:Fo M L=false:=by unfold Fo;rw [h',decide_eq_false he];rfl
   rw [e1]
   exact ⟨_,rfl,⟨_,_,_,_,_,_,_,_,rfl⟩,(fun h=>nomatch h)⟩
end Go.Proofs.Tryz
namespace Go.Proofs.Tryz
open Go.Eng
set_option maxRecDepth 100000
end Go.Proofs.Tryz
namespace Go.Proofs.Tryz
open Go.Eng Go.Big
def K9 (V:View)(v:Value)(b1:Bool)(xs:List Nat)(b2:Bool)(ys:List Nat)(b3:Bool)(zs:List Nat):Prop:=∃p n c q m e s i j,v=.agg #[.bool b1,.slice p n c,.bool b2,.slice q m e,.bool b3,.slice s i j]/\RD V p n c xs/\RD V q m e ys/\RD V s i j zs
theorem K9.le {V V':View}{v:Value}{b1:Bool}{xs:List Nat}{b2:Bool}{ys:List Nat}{b3:Bool}{zs:List Nat}(h:K9 V v b1 xs b2 ys b3 zs)(l:V.Le V'):K9 V' v b1 xs b2 ys b3 zs:=by
 obtain ⟨p,n,c,q,m,e,s,i,j,rfl,h1,h2,h3⟩:=h
 exact ⟨_,_,_,_,_,_,_,_,_,rfl,h1.le l,h2.le l,h3.le l⟩
def Ph (b1:Bool)(xs:List Nat)(b2:Bool)(ys:List Nat)(b3:Bool)(zs:List Nat):L3:=(aO b1 xs,aO b2 ys,aO b3 zs)
structure FW where
 b1:Bool
 xs:List Nat
 b2:Bool
 ys:List Nat
 b3:Bool
 zs:List Nat
 c1:Bool
 us:List Nat
 vs:List Nat
 c2:Bool
 ws:List Nat
 ts:List Nat
 na:Bool
 nb:Bool
def FW.ln (f:FW):L3:=Ph f.b1 f.xs f.b2 f.ys f.b3 f.zs
def FW.sp (f:FW):Sp:=KI f.c1 f.us f.vs f.c2 f.ws f.ts f.na f.nb
def FW.ok (f:FW):Bool:=rI f.b1 f.xs f.b2 f.ys f.b3 f.zs&&okW f.c1 f.us f.vs f.c2 f.ws f.ts f.na f.nb
structure FW.short (f:FW):Prop where
 x:f.xs.length<=1000000
 y:f.ys.length<=1000000
 z:f.zs.length<=1000000
 u:f.us.length<=1000000
 v:f.vs.length<=1000000
 w:f.ws.length<=1000000
 t:f.ts.length<=1000000
def K8 (V:View)(v:Value)(f:FW):Prop:=∃p1 n1 d1 p2 n2 d2 p3 n3 d3 p n c p' n' c' q m e q' m' e',
 v=.agg #[.bool f.b1,.slice p1 n1 d1,.bool f.b2,.slice p2 n2 d2,.bool f.b3,.slice p3 n3 d3,.bool f.c1,.slice p n c,.slice p' n' c',.bool f.c2,.slice q m e,.slice q' m' e',.bool f.na,.bool f.nb] /\
 K9 V (.agg #[.bool f.b1,.slice p1 n1 d1,.bool f.b2,.slice p2 n2 d2,.bool f.b3,.slice p3 n3 d3]) f.b1 f.xs f.b2 f.ys f.b3 f.zs /\
 La V (.agg #[.bool f.c1,.slice p n c,.slice p' n' c',.bool f.c2,.slice q m e,.slice q' m' e',.bool f.na,.bool f.nb]) f.c1 f.us f.vs f.c2 f.ws f.ts f.na f.nb
theorem K8.le {V V':View}{v:Value}{f:FW}(h:K8 V v f)(l:V.Le V'):K8 V' v f:=by
 obtain ⟨p1,n1,d1,p2,n2,d2,p3,n3,d3,p,n,c,p',n',c',q,m,e,q',m',e',rfl,h1,h2⟩:=h
 exact ⟨_,_,_,_,_,_,_,_,_,_,_,_,_,_,_,_,_,_,_,_,_,rfl,h1.le l,h2.le l⟩
def HB:L3:=(0,0,0)
def Fj (V:View)(v:Value)(c:L3):Prop:=ph V v c.1 c.2.1 c.2.2/\Bd c
theorem Fj.le {V V':View}{v:Value}{c:L3}(h:Fj V v c)(l:V.Le V'):Fj V' v c:=⟨h.1.le l,h.2⟩
theorem Fj.shape {V:View}{v:Value}{c:L3}(h:Fj V v c):∃(x y:Int)(p:OA)(xb yb:Int)(pb:OA)(xc yc:Int)(pc:OA),v=.agg #[.int .i64 x,.int .i64 y,.pointer p,.int .i64 xb,.int .i64 yb,.pointer pb,.int .i64 xc,.int .i64 yc,.pointer pc]:=by
 obtain ⟨⟨x1,x2,p,y1,y2,q,z1,z2,r,e,-⟩,-⟩:=h;exact ⟨_,_,_,_,_,_,_,_,_,e⟩
end Go.Proofs.Tryz
namespace Go.Proofs.Tryz
open Go.Big
section
variable {α:Type} {c:α->α->Int} {d:α}
structure PQ (c:α->α->Int) (d:α) (l0 l:List α) (a0 b0 a b:Nat):Prop where
 Ls:oC d l0 l a0 b0
 ha:a0<=a
 hab:a<=b
 hb:b<=b0
 lo:sX c d l a0 a
 hi:sX c d l b b0
 s1:Sep c d l a0 a b0
 s2:Sep c d l a0 b b0
 pre:0<a->∀k,a<=k->k<b->¬c (l.getD k d) (l.getD (a-1) d)<0
variable {l0 l m:List α} {a0 b0 a b mid:Nat}
theorem PQ.start {l:List α}(h:a<=b)(hp:0<a->∀k,a<=k->k<b->¬c (l.getD k d) (l.getD (a-1) d)<0):PQ c d l l a b a b:=
 ⟨.refl _ _ _,Nat.le_refl _,h,Nat.le_refl _,.short (by omega),.short (by omega),fun p q h1 h2=>by omega,fun p q h1 h2 h3 h4=>by omega,hp⟩
theorem PQ.change (h:PQ c d l0 l a0 b0 a b)(hs:oC d l m a b):PQ c d l0 m a0 b0 a b:=
 ⟨h.Ls.trans (hs.wide h.ha h.hb),h.ha,h.hab,h.hb,hs.asc h.lo (.inl (Nat.le_refl _)),hs.asc h.hi (.inr (Nat.le_refl _)),hs.sep h.s1 (.inr (.inl ⟨Nat.le_refl _,h.hb⟩)),hs.sep h.s2 (.inl ⟨h.ha,Nat.le_refl _⟩),fun h0 k h1 h2=>by
  obtain ⟨k',h3,h4,e⟩:=hs.mem k h1 h2
  rw [e,hs.out (a-1) (by omega)]
  exact h.pre h0 k' h3 h4⟩
theorem PQ.fin (h:PQ c d l0 l a0 b0 a b)(hs:oC d l m a b)(ha:sX c d m a b):oC d l0 m a0 b0/\sX c d m a0 b0:=by
 have h':=h.change hs
 refine ⟨h'.Ls,h'.lo.join (ha.join h'.hi fun p q h1 h2 h3 h4=>h'.s2 p q (by have:=h.ha;omega) h2 h3 h4) h'.s1⟩
theorem PQ.left (ho:Ord c)(h:PQ c d l0 l a0 b0 a b)(hm:a<=mid)(hm':mid<b)(h1:∀k,a<=k->k<mid->c (l.getD k d) (l.getD mid d)<0)(h2:∀k,mid<k->k<b->¬c (l.getD k d) (l.getD mid d)<0)
  (hs:oC d l m a mid)(ha:sX c d m a mid):PQ c d l0 m a0 b0 (mid+1) b:=by
 have e0:=h.ha
 have e1:=h.hb
 have em:m.getD mid d=l.getD mid d:=hs.out mid (by omega)
 have below:∀k,a<=k->k<mid->¬c (m.getD mid d) (m.getD k d)<0:=fun k g1 g2=>by
  obtain ⟨k',g3,g4,e⟩:=hs.mem k g1 g2
  rw [em,e];exact ho.IF _ _ (h1 k' g3 g4)
 have t1:=hs.sep h.s1 (.inr (.inl ⟨Nat.le_refl _,by omega⟩))
 have t2:=hs.sep h.s2 (.inl ⟨e0,by omega⟩)
 have up:∀q,mid<q->q<b->¬c (m.getD q d) (m.getD mid d)<0:=fun q g1 g2=>by rw [em,hs.out q (by omega)];exact h2 q g1 g2
 refine ⟨h.Ls.trans (hs.wide e0 (by omega)),by omega,by omega,e1,(hs.asc h.lo (.inl (Nat.le_refl _))).join (m:=a) (fun p q g1 g2 g3=>?_) fun p q g1 g2 g3 g4=>t1 p q g1 g2 g3 (by omega),hs.asc h.hi (.inr (by omega)),fun p q g1 g2 g3 g4=>?_,t2,fun _ k g1 g2=>up k (by omega) g2⟩
 ·by_cases e:q=mid
  ·subst e;exact below p g1 g2
  ·exact ha p q g1 g2 (by omega)
 ·by_cases hq:b<=q
  ·exact t2 p q g1 (by omega) hq g4
  ·by_cases hp:p<a
   ·exact t1 p q g1 hp (by omega) g4
   ·have u:=up q (by omega) (by omega)
    by_cases e:p=mid
    ·subst e;exact u
    ·exact ho.tr _ _ _ u (below p (by omega) (by omega))
theorem PQ.right (ho:Ord c)(h:PQ c d l0 l a0 b0 a b)(hm:a<=mid)(hm':mid<b)(h1:∀k,a<=k->k<mid->c (l.getD k d) (l.getD mid d)<0)(h2:∀k,mid<k->k<b->¬c (l.getD k d) (l.getD mid d)<0)
  (hs:oC d l m (mid+1) b)(ha:sX c d m (mid+1) b):PQ c d l0 m a0 b0 a mid:=by
 have e0:=h.ha
 have e1:=h.hb
 have em:m.getD mid d=l.getD mid d:=hs.out mid (by omega)
 have up:∀q,mid<q->q<b->¬c (m.getD q d) (m.getD mid d)<0:=fun q g1 g2=>by
  obtain ⟨k',g3,g4,e⟩:=hs.mem q (by omega) g2
  rw [em,e];exact h2 k' (by omega) g4
 have below:∀k,a<=k->k<mid->¬c (m.getD mid d) (m.getD k d)<0:=fun k g1 g2=>by
  rw [em,hs.out k (by omega)];exact ho.IF _ _ (h1 k g1 g2)
 have t1:=hs.sep h.s1 (.inr (.inl ⟨by omega,e1⟩))
 have t2:=hs.sep h.s2 (.inl ⟨by omega,Nat.le_refl _⟩)
 have t3:=hs.asc h.hi (.inr (Nat.le_refl _))
 refine ⟨h.Ls.trans (hs.wide (by omega) e1),e0,hm,by omega,hs.asc h.lo (.inl (by omega)),fun p q g1 g2 g3=>?_,t1,fun p q g1 g2 g3 g4=>?_,fun h0 k g1 g2=>?_⟩
 ·by_cases hq:q<b
  ·by_cases e:p=mid
   ·subst e;exact up q g2 hq
   ·exact ha p q (by omega) g2 hq
  ·by_cases hp:p<b
   ·exact t2 p q (by omega) hp (by omega) g3
   ·exact t3 p q (by omega) g2 g3
 ·by_cases hq:b<=q
  ·exact t2 p q g1 (by omega) hq g4
  ·by_cases hp:p<a
   ·exact t1 p q g1 hp (by omega) g4
   ·have u:=below p (by omega) g2
    by_cases e:q=mid
    ·subst e;exact u
    ·exact ho.tr _ _ _ (up q (by omega) (by omega)) u
 ·rw [hs.out k (by omega),hs.out (a-1) (by omega)];exact h.pre h0 k g1 (by omega)
structure HQ (c:α->α->Int) (d:α) (l:List α) (f i n:Nat):Prop where
 hp:Hp c d l f 0 i none
 asc:sX c d l (f+i) (f+n)
 sep:Sep c d l f (f+i) (f+n)
theorem HQ.start {f n:Nat}(h:Hp c d l f 0 n none):HQ c d l f n n:=⟨h,.short (by omega),fun p q h1 h2 h3 h4=>by omega⟩
theorem HQ.step (ho:Ord c){f k n:Nat}(h:HQ c d l f (k+1) n)(hk:k+1<=n)(hl:f+n<=l.length)(hs:oC d (pB d l f (f+k)) m f (f+k))(hm:Hp c d m f 0 k none):HQ c d m f k n:=by
 have ha:=fun x=>lN (d:=d) (l:=l) (i:=f) (j:=f+k) (k:=x) (by omega) (by omega)
 have out:∀q,f+k<q->m.getD q d=l.getD q d:=fun q hq=>by rw [hs.out q (by omega),ha,if_neg (by omega),if_neg (by omega)]
 have top:m.getD (f+k) d=l.getD f d:=by rw [hs.out (f+k) (by omega),ha,if_pos rfl]
 refine ⟨hm,fun p q g1 g2 g3=>?_,fun p q g1 g2 g3 g4=>?_⟩
 ·rw [out q (by omega)]
  by_cases e:p=f+k
  ·rw [e,top];exact h.sep f q (Nat.le_refl _) (by omega) (by omega) g3
  ·rw [out p (by omega)];exact h.asc p q (by omega) g2 g3
 ·have hp:∃j,j<k+1/\m.getD p d=l.getD (f+j) d:=by
   obtain ⟨p',e1,e2,e⟩:=hs.mem p g1 g2
   rw [e,ha,if_neg (by omega)]
   split
   ·exact ⟨k,by omega,rfl⟩
   ·exact ⟨p'-f,by omega,by rw [show f+(p'-f)=p' by omega]⟩
  obtain ⟨j,hj,e⟩:=hp
  rw [e]
  by_cases eq:q=f+k
  ·rw [eq,top];exact h.hp.top ho j hj
  ·rw [out q (by omega)];exact h.sep (f+j) q (by omega) (by omega) (by omega) g4
theorem HQ.fin {f n:Nat}(h:HQ c d l f 0 n):sX c d l f (f+n):=by have:=h.asc;simpa using this
structure PT (P:α->Prop) (d:α) (l:List α) (a b i j:Nat):Prop where
 hi:a<i
 HL:i<=j+1
 hj:j<b
 lo:∀k,a<k->k<i->P (l.getD k d)
 up:∀k,j<k->k<b->¬P (l.getD k d)
variable {P:α->Prop} {i j:Nat}
theorem PT.start (h:a+1<b):PT P d l a b (a+1) (b-1):=⟨by omega,by omega,by omega,fun k h1 h2=>by omega,fun k h1 h2=>by omega⟩
theorem PT.swap (h:PT P d l a b i j)(HL:i<=j)(hl:b<=l.length)(h1:¬P (l.getD i d))(h2:P (l.getD j d)):PT P d (pB d l i j) a b (i+1) (j-1)/\(pB d l i j).getD a d=l.getD a d/\oC d l (pB d l i j) a b:=by
 have e0:=h.hi
 have e1:=h.hj
 have ne:i≠j:=fun e=>h1 (e▸h2)
 have ha:=fun x=>lN (d:=d) (l:=l) (i:=i) (j:=j) (k:=x) (by omega) (by omega)
 refine ⟨⟨by omega,by omega,by omega,fun k g1 g2=>?_,fun k g1 g2=>?_⟩,by rw [ha,if_neg (by omega),if_neg (by omega)],oC.pB (by omega) (by omega) (by omega) e1 hl⟩
 ·rw [ha,if_neg (by omega)]
  by_cases e:k=i
  ·rw [if_pos e];exact h2
  ·rw [if_neg e];exact h.lo k g1 (by omega)
 ·rw [ha]
  by_cases e:k=j
  ·rw [if_pos e];exact h1
  ·rw [if_neg e,if_neg (by omega)];exact h.up k (by omega) g2
theorem PT.fin (ho:Ord c)(h:PT (fun x=>c x (l.getD a d)<0) d l a b i j)(HL:¬i<=j)(hl:b<=l.length):oC d l (pB d l j a) a b/\a<=j/\j<b /\
  (∀k,a<=k->k<j->c ((pB d l j a).getD k d) ((pB d l j a).getD j d)<0)/\(∀k,j<k->k<b->¬c ((pB d l j a).getD k d) ((pB d l j a).getD j d)<0):=by
 have e0:=h.hi
 have e1:=h.HL
 have e2:=h.hj
 have ha:=fun x=>lN (d:=d) (l:=l) (i:=j) (j:=a) (k:=x) (by omega) (by omega)
 have ej:(pB d l j a).getD j d=l.getD a d:=by
  rw [ha]
  by_cases e:j=a
  ·rw [if_pos e,e]
  ·rw [if_neg e,if_pos rfl]
 refine ⟨oC.pB (by omega) e2 (Nat.le_refl _) (by omega) hl,by omega,e2,fun k g1 g2=>?_,fun k g1 g2=>?_⟩
 ·rw [ej,ha]
  by_cases e:k=a
  ·rw [if_pos e];exact h.lo j (by omega) (by omega)
  ·rw [if_neg e,if_neg (by omega)];exact h.lo k (by omega) (by omega)
 ·rw [ej,ha,if_neg (by omega),if_neg (by omega)];exact h.up k g1 g2
end
end Go.Proofs.Tryz
namespace Go.Proofs.Tryz
open Go.Eng Go.Big
structure GH (V:View) (n:Nat) (vs:List Value) (l:List L3):Prop where
 row:Row 9 Fj V vs l
 len:n=l.length
 OL:l.length<50
theorem GH.le {V V':View}{n:Nat}{vs:List Value}{l:List L3}(h:GH V n vs l)(e:V.Le V'):GH V' n vs l:=⟨h.row.le fun _ _ g=>Fj.le g e,h.len,h.OL⟩
theorem GH.get {V:View}{n:Nat}{vs:List Value}{l:List L3}(h:GH V n vs l){k:Nat}(hk:k<l.length):∃(x y:Int)(p:OA)(xb yb:Int)(pb:OA)(xc yc:Int)(pc:OA),
  ((0+k*9)+9<=vs.length/\(vs.drop (0+k*9)).take 9=[.int .i64 x,.int .i64 y,.pointer p,.int .i64 xb,.int .i64 yb,.pointer pb,.int .i64 xc,.int .i64 yc,.pointer pc])/\Fj V (.agg #[.int .i64 x,.int .i64 y,.pointer p,.int .i64 xb,.int .i64 yb,.pointer pb,.int .i64 xc,.int .i64 yc,.pointer pc]) (l.getD k HB):=by
 obtain ⟨xs,-,h2,h3,h4⟩:=h.row.get (d:=HB) hk (by decide)
 have h20:=h2
 obtain ⟨x,y,p,xb,yb,pb,xc,yc,pc,e⟩:=h2.shape
 have e:=congrArg Array.toList (Value.agg.inj e)
 dsimp only at e
 subst e
 rw [Nat.zero_add]
 exact ⟨x,y,p,xb,yb,pb,xc,yc,pc,⟨h3,h4⟩,h20⟩
theorem GH.swap {V:View}{n:Nat}{vs:List Value}{l:List L3}(h:GH V n vs l){i j:Nat}(hi:i<l.length)(hj:j<l.length){x y:Int}{p:OA}{xb yb:Int}{pb:OA}{xc yc:Int}{pc:OA}{x' y':Int}{p':OA}{NU NV:Int}{pb':OA}{Gz NW:Int}{pc':OA}
  (h1:Fj V (.agg #[.int .i64 x,.int .i64 y,.pointer p,.int .i64 xb,.int .i64 yb,.pointer pb,.int .i64 xc,.int .i64 yc,.pointer pc]) (l.getD i HB))(h2:Fj V (.agg #[.int .i64 x',.int .i64 y',.pointer p',.int .i64 NU,.int .i64 NV,.pointer pb',.int .i64 Gz,.int .i64 NW,.pointer pc']) (l.getD j HB)) :
  (0+i*9)+9<=vs.length/\(0+j*9)+9<=(dw vs (0+i*9) [.int .i64 x',.int .i64 y',.pointer p',.int .i64 NU,.int .i64 NV,.pointer pb',.int .i64 Gz,.int .i64 NW,.pointer pc']).length /\
  GH V n (dw (dw vs (0+i*9) [.int .i64 x',.int .i64 y',.pointer p',.int .i64 NU,.int .i64 NV,.pointer pb',.int .i64 Gz,.int .i64 NW,.pointer pc']) (0+j*9) [.int .i64 x,.int .i64 y,.pointer p,.int .i64 xb,.int .i64 yb,.pointer pb,.int .i64 xc,.int .i64 yc,.pointer pc]) (pB HB l i j):=by
 obtain ⟨-,-,-,g1,-⟩:=h.row.get (d:=HB) hi (by decide)
 obtain ⟨-,-,-,g2,-⟩:=h.row.get (d:=HB) hj (by decide)
 rw [Nat.zero_add,Nat.zero_add]
 refine ⟨g1,by rw [y_ (by exact g1)];exact g2,h.row.swap hi hj (by decide) rfl rfl h1 h2,by rw [wH];exact h.len,by rw [wH];exact h.OL⟩
structure GR {α:Type} (sz:Nat) (R:View->Value->α->Prop) (V:View) (n c:Nat) (vs:List Value) (l:List α):Prop where
 len:n=l.length
 le:n<=c
 cap:c*sz<=vs.length
 row:Row sz R V vs l
theorem GR.nil {α:Type}{sz:Nat}{R:View->Value->α->Prop}{V:View}:GR sz R V 0 0 [] []:=⟨rfl,Nat.le_refl _,by simp,Row.nil⟩
theorem GR.mono {α:Type}{sz:Nat}{R:View->Value->α->Prop}{V V':View}{n c:Nat}{vs:List Value}{l:List α}(h:GR sz R V n c vs l)(m:∀v a,R V v a->R V' v a):GR sz R V' n c vs l:=⟨h.len,h.le,h.cap,h.row.le m⟩
theorem GR.snoc {α:Type}{sz:Nat}{R:View->Value->α->Prop}{V:View}{n c:Nat}{vs:List Value}{l:List α}(h:GR sz R V n c vs l){xs:List Value}{a:α}(hx:xs.length=sz)(ha:R V (.agg xs.toArray) a)(h0:0<sz){sp:List Value}{c':Nat}(h1:n+1<=c')(h2:c'*sz<=(n+1)*sz+sp.length) :
  GR sz R V (n+1) c' (vs.take (n*sz)++xs++sp) (l++[a]):=by
 have hn:=h.len
 have hc:=h.cap
 have hl:n*sz<=c*sz:=Nat.mul_le_mul_right _ h.le
 refine ⟨by rw [List.length_append,hn];rfl,h1,?_,?_⟩
 ·have ht:(vs.take (n*sz)).length=n*sz:=by rw [List.length_take];omega
  rw [List.length_append,List.length_append,ht,hx]
  rw [Nat.succ_mul] at h2
  exact h2
 ·have:=h.row.snoc (sp:=sp) hx ha h0
  rw [←hn] at this
  exact this
def jN (l:L3):L3:=if l.1<0\/l.1=0/\l.2.1<0 then revL l else l
def Tr.Hc:Tr->List L3
 | .leaf _=>[]
 | .node l a b=>l::(a.Hc++b.Hc)
theorem Bd.rev {l:L3}(h:Bd l):Bd (revL l):=by
 obtain ⟨h1,h2,h3⟩:=h
 unfold Bd revL
 simp only [Int.natAbs_neg]
 exact ⟨h1,h2,h3⟩
theorem Bd.can {l:L3}(h:Bd l):Bd (jN l):=by
 unfold jN;split
 ·exact h.rev
 ·exact h
theorem Bd.szl {l:L3}(h:Bd l):kU 1000 l:=⟨h.sz.1,h.sz.2.1,h.sz.2.2⟩
end Go.Proofs.Tryz
namespace Go.Proofs.Tryz.Sec
open Go.Eng Go.Big
def nv (l:L3)(v:V2):Rat:=(l.1:Rat)*v.1+(l.2.1:Rat)*v.2
def dirL (l:L3):V2:=((l.2.1:Rat),-(l.1:Rat))
theorem BR (l:L3)(v:V2):nv l v=cr (dirL l) v:=by unfold nv cr dirL;grind
theorem E5 {q:Rat}:q.num.sign=-1↔q<0:=by
 rw [Int.sign_eq_neg_one_iff_neg,←Int.not_le,←Rat.not_le,Rat.num_nonneg]
theorem Iu {q:Rat}:q.num.sign=1↔q>0:=by
 have h:=@E5 (-q)
 rw [Rat.neg_num,Int.sign_neg] at h
 constructor
 ·intro e;have:=h.1 (by rw [e]);grind
 ·intro e;have:=h.2 (by grind);omega
theorem mW {q:Rat}:q.num.sign=0↔q=0:=by rw [Int.sign_eq_zero_iff_zero,Rat.num_eq_zero]
def K5 (D:List V2)(M:List L3):Prop:=∀l∈M,∃r∈D,∃c:Rat,c>0/\r=(c*(dirL l).1,c*(dirL l).2)
theorem An {l:L3}{r:V2}{c:Rat}(c0:c>0)(e:r=(c*(dirL l).1,c*(dirL l).2))(v:V2):cr r v=c*nv l v:=by
 rw [BR,e];unfold cr;grind
theorem BN {c x:Rat}(c0:c>0):(c*x>0↔x>0)/\(c*x<0↔x<0)/\(c*x=0↔x=0):=by
 have p:x>0->c*x>0:=fun h=>mp c0 h
 have n:x<0->c*x<0:=fun h=>by have:=mp c0 (show -x>0 by grind);grind
 have z:x=0->c*x=0:=fun h=>by rw [h];grind
 refine ⟨⟨fun h=>?_,p⟩,⟨fun h=>?_,n⟩,⟨fun h=>?_,z⟩⟩
 ·by_cases q:x>0
  ·exact q
  ·by_cases q':x<0
   ·have:=n q';grind
   ·have:=z (by grind);grind
 ·by_cases q:x<0
  ·exact q
  ·by_cases q':x>0
   ·have:=p q';grind
   ·have:=z (by grind);grind
 ·rcases Rat.mul_eq_zero.1 h with h|h
  ·grind
  ·exact h
theorem K5.gen {D:List V2}{M:List L3}(h:K5 D M){v:V2}(hv:∀r∈D,cr r v≠0):∀l∈M,nv l v≠0:=by
 intro l hl e
 obtain ⟨r,hr,c,c0,e'⟩:=h l hl
 exact hv r hr (by rw [An c0 e',e];grind)
theorem K5.same {D:List V2}{M:List L3}(h:K5 D M){v x:V2}(hv:∀r∈D,(cr r v>0->cr r x>0)/\(cr r v<0->cr r x<0)) :
  ∀l∈M,(nv l v>0->nv l x>0)/\(nv l v<0->nv l x<0):=by
 intro l hl
 obtain ⟨r,hr,c,c0,e'⟩:=h l hl
 have:=hv r hr
 rw [An c0 e',An c0 e'] at this
 obtain ⟨a1,a2,_⟩:=@BN c (nv l v) c0
 obtain ⟨b1,b2,_⟩:=@BN c (nv l x) c0
 exact ⟨fun h=>b1.1 (this.1 (a1.2 h)),fun h=>b2.1 (this.2 (a2.2 h))⟩
theorem fr (l:L3)(p v:V2)(s:Rat):aj l (p.1+s*v.1) (p.2+s*v.2)=aj l p.1 p.2+s*nv l v:=by unfold aj nv;grind
theorem inv_mul {c:Rat}(h:c≠0)(a:Rat):a*c⁻¹*c=a:=by rw [Rat.mul_assoc,Rat.inv_mul_cancel _ h,Rat.mul_one]
def half (u:V2):Int:=if u.2.num.sign>0\/u.2.num.sign=0/\u.1.num.sign>0 then 1 else if u.2.num.sign<0\/u.1.num.sign<0 then 2 else 0
def ang (u v:V2):Int:=if half u<half v then -1 else if half u>half v then 1 else -(cr u v).num.sign
theorem vj {q:Rat}:q.num.sign>0↔q>0:=by
 have:=Rat.num_nonneg (q:=-q)
 rw [Rat.neg_num] at this
 rw [gt_iff_lt,Int.sign_pos_iff]
 have h2:(0<=-q)↔¬q>0:=by constructor<;>intro h<;>grind
 rw [h2] at this
 by_cases h:q>0
 ·exact ⟨fun _=>h,fun _=>by
   have:¬0<=-q.num:=fun g=>this.1 g h
   omega⟩
 ·exact ⟨fun g=>by have:=this.2 h;omega,fun g=>absurd g h⟩
theorem B0 {q:Rat}:q.num.sign<0↔q<0:=by
 have:=@vj (-q)
 rw [Rat.neg_num,Int.sign_neg] at this
 constructor
 ·intro h;have:=this.1 (by omega);grind
 ·intro h;have:=this.2 (by grind);omega
theorem cG (u:V2):half u=1/\up u\/half u=2/\dn u\/half u=0/\u.1=0/\u.2=0:=by
 unfold half up dn
 split
 ·rename_i h;rw [vj,vj,mW] at h;exact .inl ⟨rfl,h⟩
 ·rename_i h
  rw [vj,vj,mW] at h
  split
  ·rename_i h';rw [B0,B0] at h';exact .inr (.inl ⟨rfl,by grind⟩)
  ·rename_i h';rw [B0,B0] at h';exact .inr (.inr ⟨rfl,by grind,by grind⟩)
theorem vv {u v:V2}:ang u v<0↔half u<half v\/half u=half v/\cr u v>0:=by
 have:=@vj (cr u v)
 unfold ang
 by_cases h1:half u<half v
 ·simp [h1]
 ·by_cases h2:half u>half v
  ·rw [if_neg h1,if_pos h2];omega
  ·rw [if_neg h1,if_neg h2];constructor
   ·intro h;exact .inr ⟨by omega,this.1 (by omega)⟩
   ·rintro (h|⟨h,h'⟩)
    ·omega
    ·have:=this.2 h';omega
theorem xq {u v:V2}:ang u v=0↔half u=half v/\cr u v=0:=by
 have:=@mW (cr u v)
 unfold ang
 by_cases h1:half u<half v
 ·rw [if_pos h1];constructor
  ·intro h;omega
  ·rintro ⟨h,_⟩;omega
 ·by_cases h2:half u>half v
  ·rw [if_neg h1,if_pos h2];constructor
   ·intro h;omega
   ·rintro ⟨h,_⟩;omega
  ·rw [if_neg h1,if_neg h2];constructor
   ·intro h;exact ⟨by omega,this.1 (by omega)⟩
   ·rintro ⟨_,h⟩;have:=this.2 h;omega
theorem Hs (u v:V2):ang u v<0\/ang u v=0\/ang v u<0:=by
 rw [vv,xq,vv]
 have:=BG u v
 rcases Int.lt_trichotomy (half u) (half v) with h|h|h
 ·exact .inl (.inl h)
 ·by_cases p:cr u v>0
  ·exact .inl (.inr ⟨h,p⟩)
  ·by_cases q:cr u v=0
   ·exact .inr (.inl ⟨h,q⟩)
   ·exact .inr (.inr (.inr ⟨h.symm,by grind⟩))
 ·exact .inr (.inr (.inl h))
theorem Fv (u v:V2)(h:ang u v<0):¬ang v u<0:=by
 rw [vv] at *
 have:=BG u v
 rintro (h'|⟨h',g'⟩)<;>rcases h with h|⟨h,g⟩
 ·omega
 ·omega
 ·omega
 ·grind
theorem FF {a b d:V2}(hab:half a=half b)(hbd:half b=half d)(h1:cr a b<=0)(h2:cr b d<=0):cr a d<=0:=by
 by_cases h:cr a d<=0
 ·exact h
 exfalso
 have c:cr a d>0:=by grind
 have j1:=MN a d b
 have j2:=Ec a d b
 rcases cG b with ⟨e,hb⟩|⟨e,hb⟩|⟨e,hb⟩
 ·have ha:up a:=by rcases cG a with ⟨e',h⟩|⟨e',h⟩|⟨e',h⟩<;>first|exact h|omega
  have hd:up d:=by rcases cG d with ⟨e',h⟩|⟨e',h⟩|⟨e',h⟩<;>first|exact h|omega
  unfold up at ha hb hd
  have m1:=mn (show -(cr a b)≥0 by grind) (show d.2≥0 by grind)
  have m2:=mn (show -(cr b d)≥0 by grind) (show a.2≥0 by grind)
  have m3:=mn (show cr a d≥0 by grind) (show b.2≥0 by grind)
  have z3:cr a d*b.2=0:=by grind
  have b2:b.2=0:=by rcases Rat.mul_eq_zero.1 z3 with h|h<;>grind
  have b1:b.1>0:=by grind
  have d2:d.2=0:=by
   by_cases q:d.2>0
   ·have:=mp b1 q;unfold cr at h2;rw [b2] at h2;grind
   ·grind
  have d1:d.1>0:=by grind
  have:=mn (show a.2≥0 by grind) (show d.1≥0 by grind)
  unfold cr at c
  rw [d2] at c
  grind
 ·have ha:dn a:=by rcases cG a with ⟨e',h⟩|⟨e',h⟩|⟨e',h⟩<;>first|exact h|omega
  have hd:dn d:=by rcases cG d with ⟨e',h⟩|⟨e',h⟩|⟨e',h⟩<;>first|exact h|omega
  unfold dn at ha hb hd
  have m1:=mn (show -(cr a b)≥0 by grind) (show -d.2≥0 by grind)
  have m2:=mn (show -(cr b d)≥0 by grind) (show -a.2≥0 by grind)
  have m3:=mn (show cr a d≥0 by grind) (show -b.2≥0 by grind)
  have z3:cr a d*b.2=0:=by grind
  have b2:b.2=0:=by rcases Rat.mul_eq_zero.1 z3 with h|h<;>grind
  have b1:-b.1>0:=by grind
  have d2:d.2=0:=by
   by_cases q:-d.2>0
   ·have:=mp b1 q;unfold cr at h2;rw [b2] at h2;grind
   ·grind
  have d1:d.1<0:=by grind
  have:=mn (show -a.2≥0 by grind) (show -d.1≥0 by grind)
  unfold cr at c
  rw [d2] at c
  grind
 ·have ha:a.1=0/\a.2=0:=by rcases cG a with ⟨e',h⟩|⟨e',h⟩|⟨e',h⟩<;>first|exact h|omega
  unfold cr at c
  rw [ha.1,ha.2] at c
  grind
theorem Hr {u v:V2}:¬ang u v<0↔half v<half u\/half u=half v/\cr u v<=0:=by
 rw [vv]
 constructor
 ·intro h
  rcases Int.lt_trichotomy (half u) (half v) with g|g|g
  ·exact absurd (.inl g) h
  ·exact .inr ⟨g,by by_cases p:cr u v>0;exact absurd (.inr ⟨g,p⟩) h;grind⟩
  ·exact .inl g
 ·rintro (h|⟨h,g⟩) (h'|⟨h',g'⟩)
  ·omega
  ·omega
  ·omega
  ·grind
theorem Ht (a b d:V2)(h:¬ang a b<0)(h':¬ang b d<0):¬ang a d<0:=by
 rw [Hr] at *
 rcases h with h|⟨h,g⟩<;>rcases h' with h'|⟨h',g'⟩
 ·exact .inl (by omega)
 ·exact .inl (by omega)
 ·exact .inl (by omega)
 ·exact .inr ⟨by omega,FF h h' g g'⟩
theorem Ds {u v:V2}(hu:nz u)(h:ang u v=0):∃c:Rat,c>0/\u=(c*v.1,c*v.2):=by
 rw [xq] at h
 obtain ⟨e,c⟩:=h
 have fin:∀k:Rat,k>0->u.1=k*v.1->u.2=k*v.2->∃c:Rat,c>0/\u=(c*v.1,c*v.2):=fun k h0 h1 h2=>⟨k,h0,Prod.ext h1 h2⟩
 have pos:∀x y:Rat,y≠0->x*y>0->x*y⁻¹>0:=fun x y hy h=>by
  have e:=inv_mul hy x
  generalize x*y⁻¹=t at *
  have e2:t*(y*y)=x*y:=by grind
  have:=sq_pos (u:=(y,0)) (.inl hy)
  unfold dt at this
  by_cases q:t>0
  ·exact q
  ·have:=mn (show -t≥0 by grind) (show y*y≥0 by grind);grind
 unfold cr at c
 have two:v.2≠0->u.2*v.2>0->∃c:Rat,c>0/\u=(c*v.1,c*v.2):=fun h0 h1=>by
  refine fin (u.2*v.2⁻¹) (pos _ _ h0 h1) ?_ (inv_mul h0 _).symm
  have:=inv_mul h0 u.1
  have:u.1*v.2*v.2⁻¹=u.2*v.1*v.2⁻¹:=by rw [show u.1*v.2=u.2*v.1 by grind]
  grind
 have one:v.1≠0->u.1*v.1>0->v.2=0->u.2=0->∃c:Rat,c>0/\u=(c*v.1,c*v.2):=fun h0 h1 h2 h3=>
  fin (u.1*v.1⁻¹) (pos _ _ h0 h1) (inv_mul h0 _).symm (by rw [h2,h3];grind)
 rcases cG u with ⟨e1,h⟩|⟨e1,h⟩|⟨e1,h⟩
 ·have h':up v:=by rcases cG v with ⟨e',h⟩|⟨e',h⟩|⟨e',h⟩<;>first|exact h|omega
  unfold up at h h'
  by_cases q:v.2>0
  ·refine two (by grind) ?_
   by_cases q':u.2>0
   ·exact mp q' q
   ·have u2:u.2=0:=by grind
    have:=mp (show u.1>0 by grind) q
    rw [u2] at c;grind
  ·have v2:v.2=0:=by grind
   have v1:v.1>0:=by grind
   by_cases q':u.2>0
   ·have:=mp q' v1;rw [v2] at c;grind
   ·exact one (by grind) (mp (by grind) v1) v2 (by grind)
 ·have h':dn v:=by rcases cG v with ⟨e',h⟩|⟨e',h⟩|⟨e',h⟩<;>first|exact h|omega
  unfold dn at h h'
  by_cases q:v.2<0
  ·refine two (by grind) ?_
   by_cases q':u.2<0
   ·have:=mp (show -u.2>0 by grind) (show -v.2>0 by grind);grind
   ·have u2:u.2=0:=by grind
    have:=mp (show -u.1>0 by grind) (show -v.2>0 by grind)
    rw [u2] at c;grind
  ·have v2:v.2=0:=by grind
   have v1:-v.1>0:=by grind
   by_cases q':u.2<0
   ·have:=mp (show -u.2>0 by grind) v1;rw [v2] at c;grind
   ·refine one (by grind) ?_ v2 (by grind)
    have:=mp (show -u.1>0 by grind) v1;grind
 ·unfold nz at hu;grind
def eP (u v:V2):Bool:=decide (ang u v=0)
section
variable {D:List V2} (h:Lb D)
include h
end
theorem pU {a b c x y z:Int}(h1:a*y=b*x)(h2:a*z=c*x)(g:Nat.gcd (Nat.gcd x.natAbs y.natAbs) z.natAbs=1):x.natAbs∣a.natAbs:=by
 have e1:a.natAbs*y.natAbs=b.natAbs*x.natAbs:=by rw [←Int.natAbs_mul,←Int.natAbs_mul,h1]
 have e2:a.natAbs*z.natAbs=c.natAbs*x.natAbs:=by rw [←Int.natAbs_mul,←Int.natAbs_mul,h2]
 have d1:x.natAbs∣a.natAbs*Nat.gcd (Nat.gcd x.natAbs y.natAbs) z.natAbs:=by
  rw [←Nat.gcd_mul_left,←Nat.gcd_mul_left]
  exact Nat.dvd_gcd (Nat.dvd_gcd ⟨a.natAbs,by rw [Nat.mul_comm]⟩ ⟨b.natAbs,by rw [e1,Nat.mul_comm]⟩) ⟨c.natAbs,by rw [e2,Nat.mul_comm]⟩
 rwa [g,Nat.mul_one] at d1
theorem C1 {l m:L3}(ol:okL l=true)(om:okL m=true)(cl:jN l=l)(cm:jN m=m){x y:Rat}(hl:aj l x y=0)(hm:aj m x y=0)
  (hc:cr (dirL l) (dirL m)=0):l=m:=by
 unfold okL at ol om
 rw [Bool.and_eq_true,decide_eq_true_iff,decide_eq_true_iff] at ol om
 have c12:l.1*m.2.1=l.2.1*m.1:=by
  unfold cr dirL at hc
  have:(l.1:Rat)*(m.2.1:Rat)=(l.2.1:Rat)*(m.1:Rat):=by grind
  exact_mod_cast this
 unfold aj at hl hm
 have S5:(l.1:Rat)*(m.2.1:Rat)=(l.2.1:Rat)*(m.1:Rat):=by exact_mod_cast c12
 have c13:l.1*m.2.2=l.2.2*m.1:=by
  have:(l.1:Rat)*(m.2.2:Rat)=(l.2.2:Rat)*(m.1:Rat):=by grind
  exact_mod_cast this
 have c23:l.2.1*m.2.2=l.2.2*m.2.1:=by
  have:(l.2.1:Rat)*(m.2.2:Rat)=(l.2.2:Rat)*(m.2.1:Rat):=by grind
  exact_mod_cast this
 obtain ⟨Rz,MZ⟩:=ol
 obtain ⟨SZ,M0⟩:=om
 unfold gC at MZ M0
 have QF:Nat.gcd (Nat.gcd l.2.1.natAbs l.1.natAbs) l.2.2.natAbs=1:=by rw [Nat.gcd_comm l.2.1.natAbs];exact MZ
 have QG:Nat.gcd (Nat.gcd m.2.1.natAbs m.1.natAbs) m.2.2.natAbs=1:=by rw [Nat.gcd_comm m.2.1.natAbs];exact M0
 have a1:l.1.natAbs=m.1.natAbs:=Nat.dvd_antisymm (pU (a:=m.1) (b:=m.2.1) (c:=m.2.2) (by rw [Int.mul_comm,←c12,Int.mul_comm]) (by rw [Int.mul_comm,←c13,Int.mul_comm]) MZ) (pU c12 c13 M0)
 have a2:l.2.1.natAbs=m.2.1.natAbs:=Nat.dvd_antisymm (pU (a:=m.2.1) (b:=m.1) (c:=m.2.2) (by rw [Int.mul_comm,c12,Int.mul_comm]) (by rw [Int.mul_comm,←c23,Int.mul_comm]) QF) (pU (b:=l.1) (c:=l.2.2) c12.symm c23 QG)
 have sl:¬(l.1<0\/l.1=0/\l.2.1<0):=fun h=>by
  unfold jN at cl
  rw [if_pos h] at cl
  have e1:-l.1=l.1:=congrArg (fun x:L3=>x.1) cl
  have e2:-l.2.1=l.2.1:=congrArg (fun x:L3=>x.2.1) cl
  omega
 have sm:¬(m.1<0\/m.1=0/\m.2.1<0):=fun h=>by
  unfold jN at cm
  rw [if_pos h] at cm
  have e1:-m.1=m.1:=congrArg (fun x:L3=>x.1) cm
  have e2:-m.2.1=m.2.1:=congrArg (fun x:L3=>x.2.1) cm
  omega
 have e1:l.1=m.1:=by omega
 by_cases z:l.1=0
 ·have e2:l.2.1=m.2.1:=by omega
  have n2:l.2.1≠0:=fun h=>Rz ⟨z,h⟩
  have e3:m.2.2=l.2.2:=Int.eq_of_mul_eq_mul_left n2 (by rw [c23,e2,Int.mul_comm])
  exact Prod.ext e1 (Prod.ext e2 e3.symm)
 ·have e2:m.2.1=l.2.1:=Int.eq_of_mul_eq_mul_left z (by rw [c12,e1,Int.mul_comm])
  have e3:m.2.2=l.2.2:=Int.eq_of_mul_eq_mul_left z (by rw [c13,e1,Int.mul_comm])
  exact Prod.ext e1 (Prod.ext e2.symm e3.symm)
end Go.Proofs.Tryz.Sec
namespace Go.Proofs.Tryz.Sec
def mx (x:Rat×Rat)(t:Rat):Rat:=x.1+t*(x.2-x.1)
theorem AH {x:Rat×Rat}{t:Rat}(h1:x.1>0)(h2:x.2>0)(t0:t>0)(t1:t<=1):mx x t>0:=by
 have a:=mn (show 1-t≥0 by grind) (show x.1≥0 by grind)
 have b:=mp t0 h2
 unfold mx;grind
theorem H_ {x:Rat×Rat}{t s:Rat}(h1:x.1>0)(hs:mx x s≥0)(s0:s>0)(t0:t>0)(ts:t<=s):mx x t≥0:=by
 unfold mx at *
 have e:s*(x.1+t*(x.2-x.1))=(s-t)*x.1+t*(x.1+s*(x.2-x.1)):=by grind
 have a:=mn (show s-t≥0 by grind) (show x.1≥0 by grind)
 have b:=mn (show t≥0 by grind) hs
 by_cases h:x.1+t*(x.2-x.1)≥0
 ·exact h
 ·have:=mp s0 (show -(x.1+t*(x.2-x.1))>0 by grind)
  grind
theorem qh {y:Rat×Rat}(h1:y.1>0){s:Rat}(s0:s>0)(hs:mx y s<=0):∃t,t>0/\t<=s/\mx y t=0:=by
 have hd:y.1-y.2>0:=by
  by_cases c:y.1-y.2>0
  ·exact c
  ·have:=mn (show s≥0 by grind) (show y.2-y.1≥0 by grind)
   unfold mx at hs;grind
 have e:=inv_mul (show y.1-y.2≠0 by grind) y.1
 have p:=mp h1 (Rat.inv_pos.2 hd)
 refine ⟨y.1*(y.1-y.2)⁻¹,p,?_,?_⟩
 ·generalize y.1*(y.1-y.2)⁻¹=t at *
  by_cases c:t<=s
  ·exact c
  ·have:=mp (show t-s>0 by grind) hd
   unfold mx at hs;grind
 ·generalize y.1*(y.1-y.2)⁻¹=t at *
  unfold mx;grind
theorem Aq:∀(L:List (Rat×Rat)),(∀x∈L,x.1>0)->(∃x∈L,x.2<=0)->∃t,t>0/\t<=1/\(∀x∈L,mx x t≥0)/\∃x∈L,mx x t=0
 | [],_,h=>by obtain ⟨x,hx,_⟩:=h;cases hx
 | y::L,h0,h=>by
  have hy:=h0 y (List.mem_cons_self ..)
  have hL:=fun x hx=>h0 x (List.mem_cons_of_mem y hx)
  by_cases c:∃x∈L,x.2<=0
  ·obtain ⟨t,t0,t1,a,x,hx,e⟩:=Aq L hL c
   by_cases g:mx y t≥0
   ·exact ⟨t,t0,t1,fun z hz=>by rcases List.mem_cons.1 hz with rfl|hz;exact g;exact a z hz,x,List.mem_cons_of_mem _ hx,e⟩
   ·obtain ⟨s,s0,st,es⟩:=qh hy t0 (by grind)
    exact ⟨s,s0,by grind,fun z hz=>by rcases List.mem_cons.1 hz with rfl|hz;grind;exact H_ (hL z hz) (a z hz) t0 s0 st,y,List.mem_cons_self ..,es⟩
  ·obtain ⟨x,hx,hx2⟩:=h
   have:x=y:=by
    rcases List.mem_cons.1 hx with rfl|hx
    ·rfl
    ·exact absurd ⟨x,hx,hx2⟩ c
   subst this
   obtain ⟨s,s0,st,es⟩:=qh hy (s:=1) (by decide) (by unfold mx;grind)
   refine ⟨s,s0,st,fun z hz=>?_,x,List.mem_cons_self ..,es⟩
   rcases List.mem_cons.1 hz with rfl|hz
   ·grind
   ·have:z.2>0:=by
     by_cases q:z.2>0
     ·exact q
     ·exact absurd ⟨z,hz,by grind⟩ c
    have:=AH (hL z hz) this s0 st
    grind
theorem rY:∀(L:List (Rat×Rat)),(∀x∈L,x.1>0)->∃s,s>0/\∀x∈L,x.1+s*x.2>0
 | [],_=>⟨1,by decide,fun x h=>by cases h⟩
 | y::L,h0=>by
  have hy:=h0 y (List.mem_cons_self ..)
  obtain ⟨s,s0,h⟩:=rY L fun x hx=>h0 x (List.mem_cons_of_mem y hx)
  by_cases c:y.1+s*y.2>0
  ·exact ⟨s,s0,fun z hz=>by rcases List.mem_cons.1 hz with rfl|hz;exact c;exact h z hz⟩
  ·have hn:-y.2>0:=by
    by_cases q:y.2<0
    ·grind
    ·have:=mn (show s≥0 by grind) (show y.2≥0 by grind);grind
   have e:=inv_mul (show -y.2≠0 by grind) y.1
   have p:=mp hy (Rat.inv_pos.2 hn)
   generalize y.1*(-y.2)⁻¹=r at *
   have hr:r<=s:=by
    by_cases q:r<=s
    ·exact q
    ·have:=mp (show r-s>0 by grind) hn;grind
   refine ⟨r*(1 / 2),by grind,fun z hz=>?_⟩
   rcases List.mem_cons.1 hz with rfl|hz
   ·grind
   ·have hz1:=h0 z (List.mem_cons_of_mem _ hz)
    have hz2:=h z hz
    by_cases q:z.2≥0
    ·have:=mn (show r*(1 / 2)≥0 by grind) q;grind
    ·have:=mn (show s-r*(1 / 2)≥0 by grind) (show -z.2≥0 by grind)
     grind
def pos (M:List L3)(p:V2):Prop:=∀m∈M,aj m p.1 p.2>0
def Es (M:List L3)(l:L3):Prop:=∃p:V2,aj l p.1 p.2=0/\∀m∈M,m≠l->aj m p.1 p.2>0
def N0 (M:List L3):Prop:=∀l∈M,∀m∈M,l≠m->∀p:V2,aj l p.1 p.2=0->aj m p.1 p.2=0->cr (dirL l) (dirL m)≠0
theorem Gf {l m:L3}{w:V2}(hw:w.1≠0\/w.2≠0)(h1:nv l w=0)(h2:nv m w=0):cr (dirL l) (dirL m)=0:=by
 have e1:cr (dirL l) (dirL m)*w.1=0:=by unfold nv at *;unfold cr dirL;grind
 have e2:cr (dirL l) (dirL m)*w.2=0:=by unfold nv at *;unfold cr dirL;grind
 rcases hw with h|h
 ·rcases Rat.mul_eq_zero.1 e1 with g|g;exact g;exact absurd g h
 ·rcases Rat.mul_eq_zero.1 e2 with g|g;exact g;exact absurd g h
theorem BF (u:V2):cr u u=0:=by unfold cr;grind
theorem ng (m:L3)(q p:V2)(t:Rat):aj m (q.1+t*(p.1-q.1)) (q.2+t*(p.2-q.2))=aj m q.1 q.2+t*(aj m p.1 p.2-aj m q.1 q.2):=by unfold aj;grind
theorem Ic (m:L3)(q p:V2)(t:Rat):nv m (q.1+t*(p.1-q.1),q.2+t*(p.2-q.2))=nv m q+t*(nv m p-nv m q):=by unfold nv;grind
theorem Ig (m:L3)(q x:V2):nv m (q.1-x.1,q.2-x.2)=aj m q.1 q.2-aj m x.1 x.2:=by unfold nv aj;grind
theorem Qw {M:List L3}(hd:N0 M)(hn:∀m∈M,(dirL m).1≠0\/(dirL m).2≠0){q p:V2}(hq:pos M q)(hp:∀m∈M,Es M m->aj m p.1 p.2>0):pos M p:=by
 intro m0 hm0
 by_cases c:aj m0 p.1 p.2>0
 ·exact c
 exfalso
 let f:L3->Rat×Rat:=fun m=>(aj m q.1 q.2,aj m p.1 p.2)
 obtain ⟨t,t0,t1,ge,x,hx,ex⟩:=Aq (M.map f) (fun x hx=>by obtain ⟨m,hm,rfl⟩:=List.mem_map.1 hx;exact hq m hm) ⟨f m0,List.mem_map_of_mem hm0,by show aj m0 p.1 p.2<=0;grind⟩
 obtain ⟨m1,hm1,rfl⟩:=List.mem_map.1 hx
 let X:V2:=(q.1+t*(p.1-q.1),q.2+t*(p.2-q.2))
 have vX:∀m,aj m X.1 X.2=mx (f m) t:=fun m=>ng m q p t
 have QD:∀m∈M,aj m X.1 X.2≥0:=fun m hm=>by rw [vX];exact ge _ (List.mem_map_of_mem hm)
 have zX:aj m1 X.1 X.2=0:=by rw [vX];exact ex
 let u:V2:=(q.1-X.1,q.2-X.2)
 have vu:∀m,nv m u=aj m q.1 q.2-aj m X.1 X.2:=fun m=>Ig m q X
 let Z:=M.filter fun m=>decide (aj m X.1 X.2=0)
 have F9:∀m,m∈Z↔m∈M/\aj m X.1 X.2=0:=fun m=>by simp [Z,List.mem_filter]
 have Rs:m1∈Z:=(F9 m1).2 ⟨hm1,zX⟩
 let d:=dirL m1
 have d0:nv m1 d=0:=by rw [BR];exact BF _
 let g:L3->Rat×Rat:=fun m=>(nv m u,nv m d)
 obtain ⟨k,k0,k1,QE,y,hy,ey⟩:=Aq (Z.map g) (fun x hx=>by
  obtain ⟨m,hm,rfl⟩:=List.mem_map.1 hx
  obtain ⟨Q2,hz⟩:=(F9 m).1 hm
  show nv m u>0
  rw [vu,hz];have:=hq m Q2;grind) ⟨g m1,List.mem_map_of_mem Rs,by show nv m1 d<=0;rw [d0];grind⟩
 obtain ⟨m2,hm2,rfl⟩:=List.mem_map.1 hy
 obtain ⟨MV,MW⟩:=(F9 m2).1 hm2
 let w:V2:=(u.1+k*(d.1-u.1),u.2+k*(d.2-u.2))
 have vw:∀m,nv m w=mx (g m) k:=fun m=>Ic m u d k
 have wz:nv m2 w=0:=by rw [vw];exact ey
 have w0:w.1≠0\/w.2≠0:=by
  by_cases e:k=1
  ·have:=hn m1 hm1
   have e1:w.1=d.1:=by dsimp only [w];rw [e];grind
   have e2:w.2=d.2:=by dsimp only [w];rw [e];grind
   rw [e1,e2];exact this
  ·have a:nv m1 w>0:=by
    rw [vw]
    show nv m1 u+k*(nv m1 d-nv m1 u)>0
    rw [d0]
    have:nv m1 u>0:=by rw [vu,zX];have:=hq m1 hm1;grind
    have:=mp (show 1-k>0 by grind) this
    grind
   by_cases e1:w.1=0
   ·by_cases e2:w.2=0
    ·unfold nv at a;rw [e1,e2] at a;grind
    ·exact .inr e2
   ·exact .inl e1
 obtain ⟨s,s0,hs⟩:=rY ((M.filter fun m=>decide (aj m X.1 X.2>0)).map fun m=>(aj m X.1 X.2,nv m w)) (fun x hx=>by
  obtain ⟨m,hm,rfl⟩:=List.mem_map.1 hx
  simpa using (List.mem_filter.1 hm).2)
 have es:Es M m2:=by
  refine ⟨(X.1+s*w.1,X.2+s*w.2),?_,fun m hm hne=>?_⟩
  ·rw [fr,MW,wz];grind
  ·rw [fr]
   by_cases z:aj m X.1 X.2=0
   ·have Q3:=(F9 m).2 ⟨hm,z⟩
    have g0:nv m w≥0:=by rw [vw];exact QE _ (List.mem_map_of_mem Q3)
    have ne:nv m w≠0:=fun e=>hd m2 MV m hm (fun h=>hne h.symm) X MW z (Gf w0 wz e)
    have:=mp s0 (show nv m w>0 by grind)
    rw [z];grind
   ·have gz:=QD m hm
    have hmem:(aj m X.1 X.2,nv m w)∈((M.filter fun m=>decide (aj m X.1 X.2>0)).map fun m=>(aj m X.1 X.2,nv m w)):=List.mem_map.2 ⟨m,List.mem_filter.2 ⟨hm,by simp;grind⟩,rfl⟩
    exact hs _ hmem
 have a:=hp m2 MV es
 have b:=hq m2 MV
 have:=AH (x:=f m2) b a t0 t1
 rw [←vX,MW] at this
 grind
def F_ (l:L3):V2:=((l.1:Rat),(l.2.1:Rat))
theorem ND {x y:Rat}(h:x≠0\/y≠0):x*x+y*y>0:=by
 have p:∀z:Rat,z≠0->z*z>0:=fun z hz=>by
  by_cases c:z>0
  ·exact mp c c
  ·have:=mp (show -z>0 by grind) (show -z>0 by grind);grind
 have q:∀z:Rat,z*z≥0:=fun z=>by
  by_cases c:z≥0
  ·exact mn c c
  ·have:=mn (show -z≥0 by grind) (show -z≥0 by grind);grind
 rcases h with h|h
 ·have:=p x h;have:=q y;grind
 ·have:=p y h;have:=q x;grind
theorem Ie {l:L3}(h:(dirL l).1≠0\/(dirL l).2≠0):nv l (F_ l)>0:=by
 have:nv l (F_ l)=(l.1:Rat)*(l.1:Rat)+(l.2.1:Rat)*(l.2.1:Rat):=rfl
 rw [this]
 refine ND ?_
 rcases h with h|h
 ·exact .inr h
 ·left;intro e;apply h;show -(l.1:Rat)=0;rw [e];grind
theorem qQ {M:List L3}{l:L3}(hn:(dirL l).1≠0\/(dirL l).2≠0){x:V2}(hx:aj l x.1 x.2=0)(h:∀m∈M,m≠l->aj m x.1 x.2>0)(L:List L3)(hL:∀m∈L,aj m x.1 x.2>0):∃q:V2,pos M q/\aj l q.1 q.2>0/\pos L q:=by
 have h1:=Ie hn
 obtain ⟨s,s0,hs⟩:=rY (((M.filter fun m=>decide (m≠l))++L).map fun m=>(aj m x.1 x.2,nv m (F_ l))) (fun y hy=>by
  obtain ⟨m,hm,rfl⟩:=List.mem_map.1 hy
  rcases List.mem_append.1 hm with hm|hm
  ·have:=List.mem_filter.1 hm
   exact h m this.1 (by simpa using this.2)
  ·exact hL m hm)
 have hl:aj l (x.1+s*(F_ l).1) (x.2+s*(F_ l).2)>0:=by rw [fr,hx];have:=mp s0 h1;grind
 refine ⟨(x.1+s*(F_ l).1,x.2+s*(F_ l).2),fun m hm=>?_,hl,fun m hm=>?_⟩
 ·by_cases e:m=l
  ·rw [e];exact hl
  ·rw [fr]
   exact hs (aj m x.1 x.2,nv m (F_ l)) (List.mem_map.2 ⟨m,List.mem_append_left _ (List.mem_filter.2 ⟨hm,by simpa using e⟩),rfl⟩)
 ·rw [fr]
  exact hs (aj m x.1 x.2,nv m (F_ l)) (List.mem_map.2 ⟨m,List.mem_append_right _ hm,rfl⟩)
theorem mK {M:List L3}{l:L3}(hno:∀x:V2,aj l x.1 x.2=0->¬pos M x){q p:V2}(hq:pos M q)(hp:pos M p):aj l q.1 q.2>0->aj l p.1 p.2>0:=by
 intro h
 by_cases c:aj l p.1 p.2>0
 ·exact c
 exfalso
 obtain ⟨t,t0,t1,e⟩:=qh (y:=(aj l q.1 q.2,aj l p.1 p.2)) h (s:=1) (by decide) (by unfold mx;grind)
 refine hno (q.1+t*(p.1-q.1),q.2+t*(p.2-q.2)) ?_ fun m hm=>?_
 ·rw [ng];exact e
 ·rw [ng];exact AH (x:=(aj m q.1 q.2,aj m p.1 p.2)) (hq m hm) (hp m hm) t0 t1
end Go.Proofs.Tryz.Sec
namespace Go.Proofs.Tryz
open Go.Eng Go.Big
def Sp.jP (s:Sp)(t:Rat):Prop:=(s.a=true\/s.lo<t)/\(s.b=true\/t<s.hi)
def CJ (ss:List Sp)(t:Rat):Prop:=∃s∈ss,s.jP t
def Sp.mB (s:Sp):Prop:=s.can/\s.emp=false
def Sp.IG (s t:Sp):Prop:=s.b=false/\t.a=false/\s.hi<t.lo
def Dk (ss:List Sp):Prop:=(∀s∈ss,s.mB)/\ss.Pairwise Sp.IG
theorem pick (E:List Rat):∀l u:Rat,l<u->∃t,l<t/\t<u/\t∉E:=by
 induction E with
 | nil=>exact fun l u h=>⟨(l+u) / 2,by grind,by grind,by simp⟩
 | cons e r ih=>
  intro l u h
  by_cases c:l<e/\e<u
  ·obtain ⟨t,h1,h2,h3⟩:=ih l e c.1
   refine ⟨t,h1,by grind,fun hm=>?_⟩
   rcases List.mem_cons.1 hm with rfl|hm
   ·grind
   ·exact h3 hm
  ·obtain ⟨t,h1,h2,h3⟩:=ih l u h
   refine ⟨t,h1,h2,fun hm=>?_⟩
   rcases List.mem_cons.1 hm with rfl|hm
   ·exact c ⟨h1,h2⟩
   ·exact h3 hm
theorem yw {s:Sp}(h:s.emp=false)(ha:s.a=false)(hb:s.b=false):s.lo<s.hi:=by
 rcases Sp.mu.1 h with h|h|h
 ·rw [ha] at h;cases h
 ·rw [hb] at h;cases h
 ·exact h
theorem Dk.tail {s:Sp}{r:List Sp}(h:Dk (s::r)):Dk r:=⟨fun x hx=>h.1 x (by simp [hx]),(List.pairwise_cons.1 h.2).2⟩
theorem Dk.IG {s:Sp}{r:List Sp}(h:Dk (s::r)){x:Sp}(hx:x∈r):s.IG x:=(List.pairwise_cons.1 h.2).1 x hx
set_option linter.unusedSectionVars false
section
variable {s s':Sp} {r r':List Sp} {E:List Rat} (h:Dk (s :: r)) (h':Dk (s' :: r')) (e:∀t,t ∉ E->CJ (s :: r) t->CJ (s' :: r') t)
include h h' e
end
theorem Sp.ext' {s t:Sp}(h1:s.a=t.a)(h2:s.b=t.b)(h3:s.lo=t.lo)(h4:s.hi=t.hi):s=t:=by
 cases s;cases t;simp at *;exact ⟨h3,h4,h1,h2⟩
end Go.Proofs.Tryz
namespace Go.Proofs.Tryz
open Go.Eng Go.Big
theorem AZ {α:Type}{sz:Nat}{R:View->Value->α->Prop}{V:View}{vs:List Value}{ls:List α}(h:Row sz R V vs ls){k:Nat}(hk:k<=ls.length){xs sp:List Value}{a:α}(hx:xs.length=sz)(ha:R V (.agg xs.toArray) a)(hs:0<sz) :
  Row sz R V (vs.take (k*sz)++(xs++(vs.take (ls.length*sz)).drop (k*sz))++sp) (ls.take k++a::ls.drop k):=by
 have hl:=h.nT hs
 have hks:k*sz<=ls.length*sz:=Nat.mul_le_mul_right _ hk
 have t1:(vs.take (k*sz)).length=k*sz:=by rw [List.length_take];omega
 have t2:((vs.take (ls.length*sz)).drop (k*sz)).length=ls.length*sz-k*sz:=by rw [List.length_drop,List.length_take];omega
 have a1:(ls.take k).length=k:=by rw [List.length_take];omega
 refine ⟨fun i hi=>?_⟩
 rw [List.append_assoc]
 by_cases c1:i<k
 ·have hi':i<ls.length:=by omega
  obtain ⟨ys,y1,y2,y3⟩:=h.at_ i hi'
  have e:(ls.take k++a::ls.drop k)[i]=ls[i]:=by rw [List.getElem_append_left (by omega),List.getElem_take]
  refine ⟨ys,y1,by rw [e];exact y2,fun j x hj=>?_⟩
  have hj':=(List.getElem?_eq_some_iff.1 hj).1
  have hlt:i*sz+j<k*sz:=by
   have:(i+1)*sz<=k*sz:=Nat.mul_le_mul_right _ c1
   rw [Nat.succ_mul] at this
   omega
  rw [List.getElem?_append_left (by omega),List.getElem?_take,if_pos hlt]
  exact y3 j x hj
 ·by_cases c2:i=k
  ·subst c2
   have e:(ls.take i++a::ls.drop i)[i]=a:=by
    rw [List.getElem_append_right (by omega)]
    simp [a1]
   refine ⟨xs,hx,by rw [e];exact ha,fun j x hj=>?_⟩
   have hj':=(List.getElem?_eq_some_iff.1 hj).1
   rw [List.getElem?_append_right (by omega),t1,Nat.add_sub_cancel_left,List.append_assoc,List.getElem?_append_left hj']
   exact hj
  ·have hi':i-1<ls.length:=by
    rw [List.length_append,a1,List.length_cons,List.length_drop] at hi
    omega
   obtain ⟨ys,y1,y2,y3⟩:=h.at_ (i-1) hi'
   have e:(ls.take k++a::ls.drop k)[i]=ls[i-1]:=by
    rw [List.getElem_append_right (by omega)]
    obtain ⟨m,hm⟩:∃m,i=k+(m+1):=⟨i-k-1,by omega⟩
    subst hm
    simp only [a1,Nat.add_sub_cancel_left,List.getElem_cons_succ,List.getElem_drop]
    congr 1
   refine ⟨ys,y1,by rw [e];exact y2,fun j x hj=>?_⟩
   have hj':=(List.getElem?_eq_some_iff.1 hj).1
   obtain ⟨m,hm⟩:∃m,i=k+1+m:=⟨i-k-1,by omega⟩
   subst hm
   have e1:(k+1+m)*sz=k*sz+sz+m*sz:=by rw [Nat.add_mul,Nat.add_mul,Nat.one_mul]
   have e2:(k+1+m-1)*sz=k*sz+m*sz:=by rw [show k+1+m-1=k+m by omega,Nat.add_mul]
   have:=y3 j x hj
   rw [e2] at this
   have hlt:k*sz+m*sz+j<ls.length*sz:=by
    have:(k+m+1)*sz<=ls.length*sz:=Nat.mul_le_mul_right _ (by omega)
    rw [Nat.add_mul,Nat.add_mul,Nat.one_mul] at this
    omega
   rw [List.getElem?_append_right (by omega),t1,List.append_assoc,List.getElem?_append_right (by omega),hx,List.getElem?_append_left (by omega),List.getElem?_drop,List.getElem?_take,if_pos (by omega)]
   rw [show k*sz+((k+1+m)*sz+j-k*sz-sz)=k*sz+m*sz+j by omega]
   exact this
theorem row_one_cell {α:Type}{sz:Nat}{R:View->Value->α->Prop}{V:View}{vs:List Value}{al:List α}(h:Row sz R V vs al)(hs:0<sz)(hc:∀xs a,R V (.agg (List.toArray xs)) a->∀v∈xs,v.oneCell'=true){m:Nat}(hm:m<al.length*sz){v:Value}(hv:vs[m]?=some v):v.oneCell'=true:=by
 have hi:m / sz<al.length:=Nat.div_lt_of_lt_mul (by rw [Nat.mul_comm];exact hm)
 obtain ⟨xs,hl,hx,hat⟩:=h.at_ (m / sz) hi
 have hlt:m%sz<xs.length:=by rw [hl];exact Nat.mod_lt _ hs
 have e3:m=m / sz*sz+m%sz:=by rw [Nat.mul_comm];exact (Nat.div_add_mod m sz).symm
 have:=hat (m%sz) _ (List.getElem?_eq_getElem hlt)
 rw [←e3,hv] at this
 obtain rfl:=Option.some.inj this
 exact hc xs _ hx _ (List.getElem_mem hlt)
theorem B7:Sz 2 (((2:Int):Rat)):=⟨by show (2:Int).natAbs<_;decide,by show (1:Nat)<_;decide⟩
theorem qf:Sz 2 (((1:Int):Rat)):=⟨by show (1:Int).natAbs<_;decide,by show (1:Nat)<_;decide⟩
theorem Gw {s:Sp}{k:Nat}(ss:s.sz k):Sz (2*k+10) s.df:=by
 have z:Sz (2*k+10) (0:Rat):=⟨by show (0:Int).natAbs<_;exact Nat.lt_of_lt_of_le (by decide) (Nat.one_le_two_pow),Nat.one_lt_two_pow (by omega)⟩
 unfold Sp.df
 split
 ·split
  ·exact z
  ·exact (ss.2.sub qf).mono (by omega)
 ·split
  ·exact (ss.1.add qf).mono (by omega)
  ·exact ((ss.1.add ss.2).mul (jH B7)).mono (by omega)
theorem ID.raw {V:View}{v:Value}{l:L3}{s:Sp}(h:ID V v l s)(ho:PE l s){k:Nat}(sl:kU k l)(ss:s.sz k)(hk:k<=1000000):∃f:FW,K8 V v f/\f.ok=true/\f.ln=l/\f.sp=s/\f.short:=by
 obtain ⟨b1,p1,n1,c1,b2,p2,n2,c2,b3,p3,n3,c3,b,p,n,c,p',n',c',d,q,m,e,q',m',e',rfl,h1,h2⟩:=h
 obtain ⟨_,_,_,_,_,_,_,_,_,el,x1,x2,x3⟩:=h1
 have el:=congrArg Array.toList (Value.agg.inj el)
 simp only [List.cons.injEq,Value.bool.injEq,Value.slice.injEq,and_true] at el
 obtain ⟨rfl,⟨rfl,rfl,rfl⟩,rfl,⟨rfl,rfl,rfl⟩,rfl,rfl,rfl,rfl⟩:=el
 obtain ⟨_,_,_,_,_,_,_,_,_,_,_,_,_,_,es,y1,y2⟩:=h2
 have es:=congrArg Array.toList (Value.agg.inj es)
 simp only [List.cons.injEq,Value.bool.injEq,Value.slice.injEq,and_true] at es
 obtain ⟨rfl,⟨rfl,rfl,rfl⟩,⟨rfl,rfl,rfl⟩,rfl,⟨rfl,rfl,rfl⟩,⟨rfl,rfl,rfl⟩⟩:=es
 obtain ⟨ok,can,emp⟩:=ho
 obtain ⟨w1,us,vs,r1,o1,e1,z1⟩:=y1.raw can.1
 obtain ⟨w2,ws,ts,r2,o2,e2,z2⟩:=y2.raw can.2
 have i1:=r1
 have i2:=r2
 obtain ⟨_,_,_,_,_,_,f1,-,-⟩:=i1
 obtain ⟨_,_,_,_,_,_,f2,-,-⟩:=i2
 have f1:=congrArg Array.toList (Value.agg.inj f1)
 have f2:=congrArg Array.toList (Value.agg.inj f2)
 simp only [List.cons.injEq,Value.bool.injEq,Value.slice.injEq,and_true] at f1 f2
 obtain ⟨rfl,-⟩:=f1
 obtain ⟨rfl,-⟩:=f2
 have len:∀{z:Int},Sz k (z:Rat)->(af z.natAbs).length<=1000000:=fun h=>Nat.le_trans (ae h.1) hk
 have d1:=z1 k ss.1
 have d2:=z2 k ss.2
 refine ⟨⟨decide (l.1<0),af l.1.natAbs,decide (l.2.1<0),af l.2.1.natAbs,decide (l.2.2<0),af l.2.2.natAbs,b,us,vs,d,ws,ts,s.a,s.b⟩,⟨_,_,_,_,_,_,_,_,_,_,_,_,_,_,_,_,_,_,_,_,_,rfl,⟨_,_,_,_,_,_,_,_,_,rfl,x1,x2,x3⟩,⟨_,_,_,_,_,_,_,_,_,_,_,_,rfl,r1,r2⟩⟩,?_,?_,?_,⟨len sl.1,len sl.2.1,len sl.2.2,Nat.le_trans d1.1 hk,Nat.le_trans d1.2 hk,Nat.le_trans d2.1 hk,Nat.le_trans d2.2 hk⟩⟩
 ·have e3:KI b us vs d ws ts s.a s.b=s:=by unfold KI;rw [e1,e2]
  unfold FW.ok okW
  dsimp only
  rw [yI,o1,o2,e3,emp]
  show okL l&&true=true
  rw [ok];rfl
 ·unfold FW.ln Ph
  dsimp only
  rw [aA,aA,aA]
 ·unfold FW.sp KI
  dsimp only
  rw [e1,e2]
end Go.Proofs.Tryz
namespace Go.Proofs.Tryz
open Go.Eng
set_option maxRecDepth 100000
end Go.Proofs.Tryz
namespace Go.Proofs.Tryz
open Go.Eng Go.Big
theorem vS {c:List Rat}{i:Nat}(h:i<c.length):c.getD i 0=c[i]:=by rw [List.getD_eq_getElem?_getD,List.getElem?_eq_getElem h];rfl
def fS (cuts:List Rat)(i:Nat):Sp:=⟨if 0<i then cuts.getD (i-1) 0 else 0,if i<cuts.length then cuts.getD i 0 else 0,decide (i=0),decide (i=cuts.length)⟩
def Eg (out:List Sp)(s:Sp):List Sp:=out.dropLast++[⟨(out.getLastD Sp.zero).lo,s.hi,(out.getLastD Sp.zero).a,s.b⟩]
def eL (cuts:List Rat)(marks:List Bool):Nat->List Sp
 | 0=>[]
 | i+1=>if marks.getD i false=true then (if 0<i/\marks.getD (i-1) false=true/\0<(eL cuts marks i).length then Eg (eL cuts marks i) (fS cuts i) else eL cuts marks i++[fS cuts i]) else eL cuts marks i
end Go.Proofs.Tryz
namespace Go.Proofs.Tryz
open Go.Eng Go.Big
set_option linter.unusedSectionVars false
def asc (c:List Rat):Prop:=c.Pairwise (·< ·)
section
variable {c:List Rat} (h:asc c)
include h
theorem vA {i j:Nat}(HL:i<j)(hj:j<c.length):c.getD i 0<c.getD j 0:=by
 rw [vS (by omega),vS hj]
 exact List.pairwise_iff_getElem.1 h i j (by omega) hj HL
omit h
include h
theorem DX {i:Nat}(hi:i<=c.length):(fS c i).mB:=by
 refine ⟨⟨fun e=>?_,fun e=>?_⟩,Sp.mu.2 ?_⟩
 ·have e:i=0:=of_decide_eq_true e
  subst e;rfl
 ·have e:i=c.length:=of_decide_eq_true e
  subst e
  exact if_neg (Nat.lt_irrefl _)
 ·by_cases h0:i=0
  ·exact .inl (decide_eq_true h0)
  ·by_cases h1:i=c.length
   ·exact .inr (.inl (decide_eq_true h1))
   ·refine .inr (.inr ?_)
    show (if 0<i then c.getD (i-1) 0 else 0)<(if i<c.length then c.getD i 0 else 0)
    rw [if_pos (by omega),if_pos (by omega)]
    exact vA h (by omega) (by omega)
omit h
end
section
variable {c:List Rat} {ms:List Bool}
structure FI (c:List Rat) (ms:List Bool) (i:Nat):Prop where
 r:Dk (eL c ms i)
 mem:∀t,t∉c->(CJ (eL c ms i) t↔∃j,j<i/\ms.getD j false=true/\(fS c j).jP t)
 top:0<i->i<=c.length->∀s∈eL c ms i,s.b=false/\s.hi<=c.getD (i-1) 0
 str:0<i->i<=c.length->ms.getD (i-1) false=false->∀s∈eL c ms i,s.hi<c.getD (i-1) 0
 last:0<i->i<=c.length->ms.getD (i-1) false=true->∃l0 l,eL c ms i=l0++[l]/\l.hi=c.getD (i-1) 0
theorem nW {ss:List Sp}{s:Sp}{t:Rat}:CJ (ss++[s]) t↔CJ ss t\/s.jP t:=by
 unfold CJ
 constructor
 ·rintro ⟨x,hx,hi⟩
  rcases List.mem_append.1 hx with hx|hx
  ·exact .inl ⟨x,hx,hi⟩
  ·obtain rfl:x=s:=by simpa using hx
   exact .inr hi
 ·rintro (⟨x,hx,hi⟩|hi)
  ·exact ⟨x,by simp [hx],hi⟩
  ·exact ⟨s,by simp,hi⟩
theorem yX {ss:List Sp}{s:Sp}(h:Dk ss)(hs:s.mB)(hb:∀x∈ss,x.IG s):Dk (ss++[s]):=by
 refine ⟨fun x hx=>?_,List.pairwise_append.2 ⟨h.2,by simp,fun x hx y hy=>?_⟩⟩
 ·rcases List.mem_append.1 hx with hx|hx
  ·exact h.1 x hx
  ·obtain rfl:x=s:=by simpa using hx
   exact hs
 ·obtain rfl:y=s:=by simpa using hy
  exact hb x hx
theorem EZ {ss:List Sp}{s:Sp}(h:Dk (ss++[s])):Dk ss/\s.mB/\∀x∈ss,x.IG s:=by
 obtain ⟨h1,-,h3⟩:=List.pairwise_append.1 h.2
 exact ⟨⟨fun x hx=>h.1 x (by simp [hx]),h1⟩,h.1 s (by simp),fun x hx=>h3 x hx s (by simp)⟩
theorem vR {P:Nat->Prop}{i:Nat}:(∃j,j<i+1/\P j)↔(∃j,j<i/\P j)\/P i:=by
 constructor
 ·rintro ⟨j,hj,hp⟩
  rcases Nat.lt_or_ge j i with h|h
  ·exact .inl ⟨j,h,hp⟩
  ·obtain rfl:j=i:=by omega
   exact .inr hp
 ·rintro (⟨j,hj,hp⟩|hp)
  ·exact ⟨j,by omega,hp⟩
  ·exact ⟨i,by omega,hp⟩
theorem FJ (h:asc c){i:Nat}(hi:i<=c.length)(F:FI c ms i):FI c ms (i+1):=by
 have hg:=DX h hi
 have Lm:i<c.length->(fS c i).hi=c.getD i 0:=fun h0=>if_pos h0
 have Ln:0<i->(fS c i).lo=c.getD (i-1) 0:=fun h0=>if_pos h0
 have ga:0<i->(fS c i).a=false:=fun h0=>decide_eq_false (by omega)
 have gb:i<c.length->(fS c i).b=false:=fun h0=>decide_eq_false (by omega)
 by_cases hm:ms.getD i false=true
 ·have hne:¬ms.getD i false=false:=by rw [hm];decide
  by_cases h0:0<i/\ms.getD (i-1) false=true
  ·obtain ⟨l0,l,el,hl⟩:=F.last h0.1 hi h0.2
   have e:eL c ms (i+1)=l0++[⟨l.lo,(fS c i).hi,l.a,(fS c i).b⟩]:=by
    rw [eL,if_pos hm,if_pos ⟨h0.1,h0.2,by rw [el];simp⟩,el]
    simp [Eg]
   have F1:=F.r
   rw [el] at F1
   obtain ⟨f1,f2,f3⟩:=EZ F1
   have hlb:l.b=false:=(F.top h0.1 hi l (by rw [el];simp)).1
   have hgood:(⟨l.lo,(fS c i).hi,l.a,(fS c i).b⟩:Sp).mB:=by
    refine ⟨⟨f2.1.1,hg.1.2⟩,Sp.mu.2 ?_⟩
    dsimp only
    cases ha:l.a with
    | true=>exact .inl rfl
    | false=>
     cases hb:(fS c i).b with
     | true=>exact .inr (.inl rfl)
     | false=>
      have h1:=yw f2.2 ha hlb
      have h2:=yw hg.2 (ga h0.1) hb
      rw [Ln h0.1] at h2
      exact .inr (.inr (by grind))
   refine ⟨?_,fun t ht=>?_,fun _ hi1 s hs=>?_,fun _ hi1 hx=>?_,fun _ hi1 _=>?_⟩
   ·rw [e]
    exact yX f1 hgood fun x hx=>⟨(f3 x hx).1,(f3 x hx).2.1,(f3 x hx).2.2⟩
   ·rw [e,vR,←F.mem t ht,nW,el,nW,or_assoc]
    refine or_congr Iff.rfl ?_
    have hk:(fS c i).jP t↔c.getD (i-1) 0<t/\((fS c i).b=true\/t<(fS c i).hi):=by
     unfold Sp.jP;rw [ga h0.1,Ln h0.1];simp
    have hne':t≠c.getD (i-1) 0:=by
     rintro rfl
     rw [vS (by omega)] at ht
     exact ht (List.getElem_mem _)
    rw [hk]
    show (l.a=true\/l.lo<t)/\((fS c i).b=true\/t<(fS c i).hi)↔((l.a=true\/l.lo<t)/\(l.b=true\/t<l.hi))\/_
    rw [hl,hlb]
    have h1:l.a=true\/l.lo<c.getD (i-1) 0:=by
     cases ha:l.a with
     | true=>exact .inl rfl
     | false=>have:=yw f2.2 ha hlb;rw [hl] at this;exact .inr this
    have h2:(fS c i).b=true\/c.getD (i-1) 0<(fS c i).hi:=by
     cases hb:(fS c i).b with
     | true=>exact .inl rfl
     | false=>have:=yw hg.2 (ga h0.1) hb;rw [Ln h0.1] at this;exact .inr this
    constructor
    ·rintro ⟨g1,g2⟩
     by_cases g:t<c.getD (i-1) 0
     ·exact .inl ⟨g1,.inr g⟩
     ·exact .inr ⟨hm,by grind,g2⟩
    ·rintro (⟨g1,g2⟩|⟨-,g1,g2⟩)
     ·have g3:t<c.getD (i-1) 0:=by
       rcases g2 with g2|g2
       ·cases g2
       ·exact g2
      exact ⟨g1,h2.imp_right fun h2=>by grind⟩
     ·exact ⟨h1.imp_right fun h1=>by grind,g2⟩
   ·rw [e] at hs
    rw [Nat.add_sub_cancel]
    rcases List.mem_append.1 hs with hs|hs
    ·have b:=f3 s hs
     refine ⟨b.1,?_⟩
     have h1:l.lo<c.getD (i-1) 0:=by have:=yw f2.2 b.2.1 hlb;rwa [hl] at this
     have h2:=vA h (show i-1<i by omega) hi1
     have:=b.2.2
     grind
    ·obtain rfl:s=_:=by simpa using hs
     refine ⟨gb hi1,?_⟩
     show (fS c i).hi<=_
     rw [Lm hi1];grind
   ·rw [Nat.add_sub_cancel] at hx;exact absurd hx hne
   ·rw [Nat.add_sub_cancel]
    exact ⟨l0,_,e,Lm hi1⟩
  ·have e:eL c ms (i+1)=eL c ms i++[fS c i]:=by
    rw [eL,if_pos hm,if_neg (fun g=>h0 ⟨g.1,g.2.1⟩)]
   have hb:∀x∈eL c ms i,x.IG (fS c i):=fun x hx=>by
    by_cases hz:0<i
    ·have Q4:ms.getD (i-1) false=false:=by
      cases hq:ms.getD (i-1) false with
      | false=>rfl
      | true=>exact absurd ⟨hz,hq⟩ h0
     exact ⟨(F.top hz hi x hx).1,ga hz,by rw [Ln hz];exact F.str hz hi Q4 x hx⟩
    ·obtain rfl:i=0:=by omega
     cases hx
   refine ⟨?_,fun t ht=>?_,fun _ hi1 s hs=>?_,fun _ hi1 hx=>?_,fun _ hi1 _=>?_⟩
   ·rw [e];exact yX F.r hg hb
   ·rw [e,vR,←F.mem t ht,nW]
    exact or_congr Iff.rfl ⟨fun g=>⟨hm,g⟩,fun g=>g.2⟩
   ·rw [e] at hs
    rw [Nat.add_sub_cancel]
    rcases List.mem_append.1 hs with hs|hs
    ·refine ⟨(hb s hs).1,?_⟩
     by_cases hz:0<i
     ·have h1:=(F.top hz hi s hs).2
      have h2:=vA h (show i-1<i by omega) hi1
      grind
     ·obtain rfl:i=0:=by omega
      cases hs
    ·obtain rfl:s=_:=by simpa using hs
     refine ⟨gb hi1,?_⟩
     rw [Lm hi1];grind
   ·rw [Nat.add_sub_cancel] at hx;exact absurd hx hne
   ·rw [Nat.add_sub_cancel]
    exact ⟨_,_,e,Lm hi1⟩
 ·have e:eL c ms (i+1)=eL c ms i:=by rw [eL,if_neg hm]
  have hlt:i<c.length->∀s∈eL c ms i,s.b=false/\s.hi<c.getD i 0:=fun hi1 s hs=>by
   by_cases hz:0<i
   ·obtain ⟨h1,h2⟩:=F.top hz hi s hs
    have h3:=vA h (show i-1<i by omega) hi1
    exact ⟨h1,by grind⟩
   ·obtain rfl:i=0:=by omega
    cases hs
  refine ⟨by rw [e];exact F.r,fun t ht=>?_,fun _ hi1 s hs=>?_,fun _ hi1 hx s hs=>?_,fun _ hi1 hx=>?_⟩
  ·rw [e,vR,F.mem t ht]
   exact ⟨.inl,fun g=>g.elim id fun g=>absurd g.1 hm⟩
  ·rw [e] at hs
   rw [Nat.add_sub_cancel]
   obtain ⟨h1,h2⟩:=hlt hi1 s hs
   exact ⟨h1,by grind⟩
  ·rw [e] at hs
   rw [Nat.add_sub_cancel]
   exact (hlt hi1 s hs).2
  ·rw [Nat.add_sub_cancel] at hx;exact absurd hx hm
theorem fi (h:asc c):∀{i:Nat},i<=c.length+1->FI c ms i:=by
 intro i
 induction i with
 | zero=>exact fun _=>⟨⟨(fun _ h=>by cases h),List.Pairwise.nil⟩,(fun t _=>⟨(fun ⟨_,h,_⟩=>by cases h),(fun ⟨_,h,_⟩=>absurd h (Nat.not_lt_zero _))⟩),(fun h=>absurd h (Nat.lt_irrefl _)),(fun h=>absurd h (Nat.lt_irrefl _)),(fun h=>absurd h (Nat.lt_irrefl _))⟩
 | succ i ih=>exact fun hi=>FJ h (by omega) (ih (by omega))
end
end Go.Proofs.Tryz
namespace Go.Proofs.Tryz
open Go.Eng Go.Big
theorem mI {s u:Sp}{t:Rat}:(s.meet u).jP t↔s.jP t/\u.jP t:=by
 have h1:AD s.lo u.lo<t↔s.lo<t/\u.lo<t:=by
  unfold AD
  rcases vN u.lo s.lo with ⟨h,e⟩|⟨h,e⟩|⟨h,e⟩<;>rw [e]<;>simp<;>grind
 have h2:t<AG s.hi u.hi↔t<s.hi/\t<u.hi:=by
  unfold AG
  rcases vN u.hi s.hi with ⟨h,e⟩|⟨h,e⟩|⟨h,e⟩<;>rw [e]<;>simp<;>grind
 unfold Sp.jP Sp.meet
 cases s.a<;>cases s.b<;>cases u.a<;>cases u.b<;>simp [h1,h2]<;>grind
theorem i_ {l:L3}(h:Nz l)(t:Rat):aj l (fC l t) (fD l t)=0/\EL l (fC l t) (fD l t)=t:=by
 have hn:=h.norm
 have hi:=Rat.mul_inv_cancel _ hn
 unfold aj EL fC fD
 unfold fO at *
 constructor<;>grind
def ovB (l:L3)(s:Sp)(m:L3)(t:Sp):Bool:=Fo m l&&!(s.meet (CO m t l)).emp
theorem BB (l:L3):jN (jN l)=jN l:=by
 unfold jN
 by_cases h:l.1<0\/l.1=0/\l.2.1<0
 ·rw [if_pos h,if_neg]
  unfold revL
  dsimp only
  omega
 ·rw [if_neg h,if_neg h]
theorem EA {l:L3}(h:okL l=true):okL (jN l)=true:=by
 unfold jN
 split
 ·unfold okL revL gC at *
  simp only [Int.natAbs_neg]
  rw [Bool.and_eq_true,decide_eq_true_iff,decide_eq_true_iff] at h ⊢
  exact ⟨fun e=>h.1 ⟨by omega,by omega⟩,h.2⟩
 ·exact h
theorem ib {l:L3}(h:okL l=true):¬(l.1=0/\l.2.1=0):=by
 unfold okL at h
 rw [Bool.and_eq_true,decide_eq_true_iff] at h
 exact h.1
theorem kD {s:Sp}:s.emp=false↔∃t,s.jP t:=by
 constructor
 ·intro h
  obtain ⟨h1,h2⟩:=Sp.BZ h
  refine ⟨s.df,?_,?_⟩
  ·cases ha:s.a
   ·exact .inr (h1 ha)
   ·exact .inl rfl
  ·cases hb:s.b
   ·exact .inr (h2 hb)
   ·exact .inl rfl
 ·rintro ⟨t,h1,h2⟩
  rw [Sp.mu]
  rcases h1 with h1|h1
  ·exact .inl h1
  ·rcases h2 with h2|h2
   ·exact .inr (.inl h2)
   ·exact .inr (.inr (by grind))
theorem mq {l:L3}{s:Sp}{m:L3} :
  (eI l s m=true->∀t,(eJ l s m).jP t↔s.jP t/\0<aj m (fC l t) (fD l t))/\(s.emp=false->eI l s m=false->∀t,s.jP t->¬0<aj m (fC l t) (fD l t)):=by
 have key:gU m l≠0->∀t,(eJ l s m).jP t↔s.jP t/\0<jR m l+gU m l*t:=fun hd t=>by
  have hi:=Rat.mul_inv_cancel _ hd
  unfold eJ
  rcases qe (gU m l) with ⟨h,e⟩|⟨h,e⟩|⟨h,e⟩
  ·exact absurd h hd
  ·rw [e]
   show (s.meet ⟨eT m l,0,false,true⟩).jP t↔_
   rw [mI]
   have e2:gU m l*(t-eT m l)=jR m l+gU m l*t:=by unfold eT;grind
   have:(⟨eT m l,0,false,true⟩:Sp).jP t↔eT m l<t:=by unfold Sp.jP;simp
   rw [this,←e2]
   refine and_congr_right fun _=>⟨fun h'=>Rat.mul_pos h (by grind),fun h'=>?_⟩
   by_cases c:eT m l<t
   ·exact c
   ·have:=Rat.mul_nonneg (show 0<=gU m l by grind) (show 0<=eT m l-t by grind)
    grind
  ·rw [e]
   show (s.meet ⟨0,eT m l,true,false⟩).jP t↔_
   rw [mI]
   have e2:-gU m l*(eT m l-t)=jR m l+gU m l*t:=by unfold eT;grind
   have:(⟨0,eT m l,true,false⟩:Sp).jP t↔t<eT m l:=by unfold Sp.jP;simp
   rw [this,←e2]
   refine and_congr_right fun _=>⟨fun h'=>Rat.mul_pos (by grind) (by grind),fun h'=>?_⟩
   by_cases c:t<eT m l
   ·exact c
   ·have:=Rat.mul_nonneg (show 0<=-gU m l by grind) (show 0<=t-eT m l by grind)
    grind
 by_cases hd:gU m l=0
 ·have ec:eJ l s m=s:=by unfold eJ;rw [hd];rfl
  have eb:eI l s m=decide ((jR m l).num.sign>0):=by unfold eI;rw [hd];rfl
  constructor
  ·intro hb t
   rw [ec,sk,hd]
   rw [eb] at hb
   have hb:(jR m l).num.sign>0:=by simpa using hb
   have:0<jR m l:=by
    rcases qe (jR m l) with ⟨h,e⟩|⟨h,e⟩|⟨h,e⟩
    ·omega
    ·exact h
    ·omega
   exact ⟨fun h=>⟨h,by grind⟩,fun h=>h.1⟩
  ·intro _ hb t _ hp
   rw [sk,hd] at hp
   rw [eb] at hb
   have hb:¬(jR m l).num.sign>0:=by simpa using hb
   rcases qe (jR m l) with ⟨h,e⟩|⟨h,e⟩|⟨h,e⟩
   ·grind
   ·omega
   ·grind
 ·have eb:eI l s m=!(eJ l s m).emp:=by
   unfold eI
   rcases qe (gU m l) with ⟨h,e⟩|⟨h,e⟩|⟨h,e⟩
   ·exact absurd h hd
   ·rw [e];rfl
   ·rw [e];rfl
  constructor
  ·intro _ t
   rw [sk];exact key hd t
  ·intro _ hb t ht hp
   rw [sk] at hp
   rw [eb] at hb
   have:=kD.2 ⟨t,(key hd t).2 ⟨ht,hp⟩⟩
   rw [this] at hb;cases hb
theorem qI {l:L3}{s:Sp}{m:L3}(hs:s.mB)(hb:eI l s m=true):(eJ l s m).mB:=⟨DQ hs.1,DP hs.2 hb⟩
abbrev Sd:=L3×Sp
def bh:List Sd->L3->Sp->Option Sp
 | [],_,v=>some v
 | s::c,l,v=>if eI l v s.1 then bh c l (eJ l v s.1) else none
theorem kJ:∀{c:List Sd} {l:L3} {v w:Sp},v.mB->bh c l v=some w->w.mB/\∀t,w.jP t↔v.jP t/\∀s∈c,0<aj s.1 (fC l t) (fD l t)
 | [],_,v,w,h,e=>by cases e;exact ⟨h,fun t=>⟨fun g=>⟨g,fun s hs=>by cases hs⟩,fun g=>g.1⟩⟩
 | s::c,l,v,w,h,e=>by
  unfold bh at e
  split at e
  ·rename_i hb
   obtain ⟨g1,g2⟩:=kJ (qI h hb) e
   refine ⟨g1,fun t=>?_⟩
   rw [g2,(mq.1 hb t)]
   simp only [List.forall_mem_cons,and_assoc]
  ·cases e
theorem nY:∀{c:List Sd} {l:L3} {v:Sp},v.mB->bh c l v=none->∀t,v.jP t->¬∀s∈c,0<aj s.1 (fC l t) (fD l t)
 | [],_,v,h,e=>by cases e
 | s::c,l,v,h,e=>by
  intro t ht hall
  unfold bh at e
  split at e
  ·rename_i hb
   exact nY (qI h hb) e t ((mq.1 hb t).2 ⟨ht,hall s (List.mem_cons_self ..)⟩) fun u hu=>hall u (List.mem_cons_of_mem _ hu)
  ·rename_i hb
   exact mq.2 h.2 (by simpa using hb) t ht (hall s (List.mem_cons_self ..))
theorem qF (l:L3):jN l=l\/jN l=revL l:=by unfold jN;split;exact .inr rfl;exact .inl rfl
theorem rev_rev (l:L3):revL (revL l)=l:=by unfold revL;simp
theorem pT (l:L3):Sec.dirL (revL l)=(-(Sec.dirL l).1,-(Sec.dirL l).2):=by unfold Sec.dirL revL;simp only [Rat.intCast_neg]
theorem yH {l:L3}(h:okL l=true):(Sec.dirL l).1≠0\/(Sec.dirL l).2≠0:=by
 have:=ib h
 unfold Sec.dirL
 by_cases e:l.2.1=0
 ·right;intro e'
  have:(l.1:Rat)=0:=by grind
  exact ib h ⟨by exact_mod_cast this,e⟩
 ·left;show (l.2.1:Rat)≠0;exact_mod_cast e
theorem BX {l m:L3}(ol:okL l=true)(om:okL m=true){p:Sec.V2}(h1:aj l p.1 p.2=0)(h2:aj m p.1 p.2=0)(hc:Sec.cr (Sec.dirL l) (Sec.dirL m)=0):l=m\/l=revL m:=by
 have vz:∀{x:L3},aj x p.1 p.2=0->aj (jN x) p.1 p.2=0:=fun {x} h=>by
  rcases qF x with e|e<;>rw [e]
  ·exact h
  ·rw [val_rev];grind
 have c0:Sec.cr (Sec.dirL (jN l)) (Sec.dirL (jN m))=0:=by
  unfold Sec.cr at *
  rcases qF l with e|e<;>rcases qF m with e'|e'<;>rw [e,e']<;>(try rw [pT l])<;>(try rw [pT m])<;>(try dsimp only)<;>grind
 have:=Sec.C1 (EA ol) (EA om) (BB l) (BB m) (vz h1) (vz h2) c0
 rcases qF l with e|e<;>rcases qF m with e'|e'<;>rw [e,e'] at this
 ·exact .inl this
 ·exact .inr this
 ·right;rw [←this,rev_rev]
 ·left;have:=congrArg revL this;rwa [rev_rev,rev_rev] at this
theorem HC {M:List L3}(hk:∀m∈M,okL m=true){q:Sec.V2}(hq:Sec.pos M q):Sec.N0 M:=by
 intro l hl m hm hne p h1 h2 hc
 rcases BX (hk l hl) (hk m hm) h1 h2 hc with e|e
 ·exact hne e
 ·have a:=hq l hl
  have b:=hq m hm
  rw [e,val_rev] at a
  grind
theorem wb {l:L3}(h:Nz l){x y:Rat}(hp:aj l x y=0):∃t,x=fC l t/\y=fD l t:=by
 have hi:=Rat.mul_inv_cancel _ h.norm
 unfold aj at hp
 refine ⟨EL l x y,?_,?_⟩
 ·unfold fC EL fO at *;grind
 ·unfold fD EL fO at *;grind
def fullSp:Sp:=⟨0,0,true,true⟩
theorem iK:fullSp.mB:=⟨⟨fun _=>rfl,fun _=>rfl⟩,rfl⟩
theorem qV (t:Rat):fullSp.jP t:=⟨.inl rfl,.inl rfl⟩
structure CanC (M:List L3) (c:List Sd):Prop where
 pos:∃q,Sec.pos M q
 mem:∀s∈c,s.1∈M/\s.2.mB/\∀t,s.2.jP t↔∀m∈M,m≠s.1->0<aj m (fC s.1 t) (fD s.1 t)
 all:∀l∈M,Sec.Es M l->∃v,(l,v)∈c
 asc:c.Pairwise fun s u=>Sec.ang (Sec.dirL s.1) (Sec.dirL u.1)<0
def j9 (x:Sd):List Sd->List Sd
 | []=>[x]
 | s::r=>if Sec.ang (Sec.dirL s.1) (Sec.dirL x.1)<0 then s::j9 x r else x::s::r
def jO (c:List Sd)(l:L3):List Sd:=c.filterMap fun s=>if eI s.1 s.2 l then some (s.1,eJ s.1 s.2 l) else none
def cw:List Sd->L3->Int
 | [],_=>-1
 | s::c,l=>if (aj l (fC s.1 s.2.df) (fD s.1 s.2.df)).num.sign≠0 then (aj l (fC s.1 s.2.df) (fD s.1 s.2.df)).num.sign else if s.1=l then 1 else cw c l
def clipC (c:List Sd)(l:L3):Option (List Sd):=
 match bh c l fullSp with
 | some v=>some (j9 (l,v) (jO c l))
 | none=>if 0<cw c l then some c else none
theorem j_ {x y:Sd}:∀{r:List Sd},y∈j9 x r↔y=x\/y∈r
 | []=>by simp [j9]
 | s::r=>by
  unfold j9
  split
  ·rw [List.mem_cons,j_,List.mem_cons];exact or_left_comm
  ·rw [List.mem_cons]
theorem Bq {a b d:Sec.V2}(h:Sec.ang a b<0)(h':Sec.ang b d<0):Sec.ang a d<0:=by
 by_cases q:Sec.ang a d<0
 ·exact q
 ·exact absurd h (Sec.Ht _ _ _ q (Sec.Fv _ _ h'))
theorem yo {x:Sd}:∀{r:List Sd},(r.Pairwise fun s u=>Sec.ang (Sec.dirL s.1) (Sec.dirL u.1)<0)->(∀s∈r,Sec.ang (Sec.dirL s.1) (Sec.dirL x.1)≠0)->(j9 x r).Pairwise fun s u=>Sec.ang (Sec.dirL s.1) (Sec.dirL u.1)<0
 | [],_,_=>List.pairwise_singleton ..
 | s::r,h,hn=>by
  obtain ⟨h1,h2⟩:=List.pairwise_cons.1 h
  unfold j9
  split
  ·rename_i hs
   refine List.pairwise_cons.2 ⟨fun y hy=>?_,yo h2 fun u hu=>hn u (List.mem_cons_of_mem _ hu)⟩
   rcases j_.1 hy with rfl|hy
   ·exact hs
   ·exact h1 y hy
  ·rename_i hs
   have hx:Sec.ang (Sec.dirL x.1) (Sec.dirL s.1)<0:=by
    rcases Sec.Hs (Sec.dirL s.1) (Sec.dirL x.1) with g|g|g
    ·exact absurd g hs
    ·exact absurd g (hn s (List.mem_cons_self ..))
    ·exact g
   refine List.pairwise_cons.2 ⟨fun y hy=>?_,h⟩
   rcases List.mem_cons.1 hy with rfl|hy
   ·exact hx
   ·exact Bq hx (h1 y hy)
theorem xS {c:List Sd}{l:L3}{y:Sd}:y∈jO c l↔∃s∈c,eI s.1 s.2 l=true/\y=(s.1,eJ s.1 s.2 l):=by
 unfold jO
 rw [List.mem_filterMap]
 constructor
 ·rintro ⟨s,hs,e⟩
  split at e
  ·rename_i hb;cases e;exact ⟨s,hs,hb,rfl⟩
  ·cases e
 ·rintro ⟨s,hs,hb,rfl⟩
  exact ⟨s,hs,by rw [if_pos hb]⟩
theorem xR {c:List Sd}{l:L3}(h:c.Pairwise fun s u=>Sec.ang (Sec.dirL s.1) (Sec.dirL u.1)<0):(jO c l).Pairwise fun s u=>Sec.ang (Sec.dirL s.1) (Sec.dirL u.1)<0:=by
 unfold jO
 refine List.Pairwise.filterMap _ ?_ h
 intro a b hab x hx y hy
 split at hx
 ·split at hy
  ·cases hx;cases hy;exact hab
  ·cases hy
 ·cases hx
theorem EM {l s:L3}(hl:Sec.nz (Sec.dirL s))(h:Sec.ang (Sec.dirL s) (Sec.dirL l)=0){p r:Sec.V2}(p0:aj l p.1 p.2=0)(p1:0<aj s p.1 p.2)(r0:aj s r.1 r.2=0)(r1:0<aj l r.1 r.2):False:=by
 obtain ⟨c,c0,e⟩:=Sec.Ds hl h
 have e1:(s.2.1:Rat)=c*(l.2.1:Rat):=congrArg Prod.fst e
 have e2:-(s.1:Rat)=c*-(l.1:Rat):=congrArg Prod.snd e
 have e2:(s.1:Rat)=c*(l.1:Rat):=by grind
 have key:∀x:Sec.V2,aj s x.1 x.2=c*(aj l x.1 x.2-(l.2.2:Rat))+(s.2.2:Rat):=fun x=>by unfold aj;rw [e1,e2];grind
 have k:=Sec.mp c0 r1
 rw [key] at p1 r0
 rw [p0] at p1
 generalize aj l r.1 r.2=z at *
 grind
section
variable {M:List L3} {c:List Sd} (h:CanC M c) (hk:∀m ∈ M,okL m=true)
include h hk
theorem CanC.int {p:Sec.V2}(hp:∀s∈c,0<aj s.1 p.1 p.2):Sec.pos M p:=by
 obtain ⟨q,hq⟩:=h.pos
 refine Sec.Qw (HC hk hq) (fun m hm=>yH (hk m hm)) hq fun m hm he=>?_
 obtain ⟨v,hv⟩:=h.all m hm he
 exact hp _ hv
theorem Cu {l:L3}(hl:okL l=true){v:Sp}(e:bh c l fullSp=some v):CanC (l::M) (j9 (l,v) (jO c l)):=by
 have hN:Nz l:=ib hl
 obtain ⟨gv,hv⟩:=kJ iK e
 have qZ:∀t,v.jP t↔Sec.pos M (fC l t,fD l t):=fun t=>⟨fun g=>h.int hk ((hv t).1 g).2,fun g=>(hv t).2 ⟨qV t,fun s hs=>g s.1 (h.mem s hs).1⟩⟩
 obtain ⟨t0,ht0⟩:=kD.1 gv.2
 have p0:=(qZ t0).1 ht0
 have z0:=(i_ hN t0).1
 have lM:l∉M:=fun hm=>by have:=p0 l hm;dsimp only at this;grind
 have ne:∀m∈M,m≠l:=fun m hm e=>lM (e▸hm)
 obtain ⟨q,hq,JL,-⟩:=Sec.qQ (M:=M) (x:=(fC l t0,fD l t0)) (yH hl) z0 (fun m hm _=>p0 m hm) [] (fun m hm=>by cases hm)
 have J_:∀s∈jO c l,s.1∈M/\s.2.mB/\∀t,s.2.jP t↔∀m∈l::M,m≠s.1->0<aj m (fC s.1 t) (fD s.1 t):=fun s hs=>by
  obtain ⟨s0,h0,hb,rfl⟩:=xS.1 hs
  obtain ⟨m1,m2,m3⟩:=h.mem s0 h0
  refine ⟨m1,qI m2 hb,fun t=>?_⟩
  dsimp only
  rw [mq.1 hb t,m3 t,List.forall_mem_cons]
  exact ⟨fun g=>⟨fun _=>g.2,g.1⟩,fun g=>⟨g.2,g.1 (fun e=>ne _ m1 e.symm)⟩⟩
 refine ⟨⟨q,List.forall_mem_cons.2 ⟨JL,hq⟩⟩,fun s hs=>?_,fun l' hl' he=>?_,yo (xR h.asc) fun s hs e0=>?_⟩
 ·rcases j_.1 hs with rfl|hs
  ·refine ⟨List.mem_cons_self ..,gv,fun t=>?_⟩
   rw [qZ t,List.forall_mem_cons]
   exact ⟨fun g=>⟨fun h=>absurd rfl h,fun m hm _=>g m hm⟩,fun g m hm=>g.2 m hm (ne m hm)⟩
  ·obtain ⟨a,b⟩:=J_ s hs
   exact ⟨List.mem_cons_of_mem _ a,b⟩
 ·rcases List.mem_cons.1 hl' with rfl|hl'
  ·exact ⟨v,j_.2 (.inl rfl)⟩
  ·obtain ⟨p,pz,hp⟩:=he
   obtain ⟨w,hw⟩:=h.all l' hl' ⟨p,pz,fun m hm hne=>hp m (List.mem_cons_of_mem _ hm) hne⟩
   obtain ⟨m1,m2,m3⟩:=h.mem _ hw
   obtain ⟨t,e1,e2⟩:=wb (ib (hk l' hl')) pz
   have hb:eI l' w l=true:=by
    cases hb:eI l' w l
    ·exfalso
     refine mq.2 m2.2 hb t ((m3 t).2 fun m hm hne=>?_) ?_
     ·dsimp only;rw [←e1,←e2];exact hp m (List.mem_cons_of_mem _ hm) hne
     ·rw [←e1,←e2];exact hp l (List.mem_cons_self ..) (fun e=>lM (e▸hl'))
    ·rfl
   exact ⟨eJ l' w l,j_.2 (.inr (xS.2 ⟨_,hw,hb,rfl⟩))⟩
 ·obtain ⟨m1,m2,m3⟩:=J_ s hs
  obtain ⟨t,ht⟩:=kD.1 m2.2
  have hr:=(m3 t).1 ht l (List.mem_cons_self ..) (fun e=>ne _ m1 e.symm)
  exact EM (yH (hk _ m1)) e0 (p:=(fC l t0,fD l t0)) (r:=(fC s.1 t,fD s.1 t)) z0 (p0 _ m1) (i_ (ib (hk _ m1)) t).1 hr
omit h in
theorem nM {l:L3}(hl:okL l=true)(hno:∀x:Sec.V2,aj l x.1 x.2=0->¬Sec.pos M x){q:Sec.V2}(hq:Sec.pos M q){s:L3}(hs:s∈M){x:Sec.V2}(xz:aj s x.1 x.2=0)(hx:∀m∈M,m≠s->0<aj m x.1 x.2) :
  (0<aj l q.1 q.2->0<aj l x.1 x.2\/s=l)/\(aj l q.1 q.2<0->aj l x.1 x.2<0\/aj l x.1 x.2=0/\s≠l):=by
 have side:∀g:L3,(∀x:Sec.V2,aj g x.1 x.2=0->¬Sec.pos M x)->0<aj g q.1 q.2->∀y:Sec.V2,aj s y.1 y.2=0->(∀m∈M,m≠s->0<aj m y.1 y.2)->¬aj g y.1 y.2<0:=fun g hno gq y yz hy hneg=>by
  obtain ⟨q',h1,-,h3⟩:=Sec.qQ (yH (hk s hs)) yz hy [revL g] (fun m hm=>by rcases List.mem_singleton.1 hm with rfl;rw [val_rev];grind)
  have h3:=h3 _ (List.mem_singleton.2 rfl)
  rw [val_rev] at h3
  have:=Sec.mK hno hq h1 gq
  grind
 constructor
 ·intro hp
  by_cases c1:0<aj l x.1 x.2
  ·exact .inl c1
  right
  have z:aj l x.1 x.2=0:=by have:=side l hno hp x xz hx;grind
  by_cases e:s=l
  ·exact e
  exfalso
  have Qu:Sec.cr (Sec.dirL l) (Sec.dirL s)≠0:=fun e0=>by
   rcases BX hl (hk s hs) z xz e0 with g|g
   ·exact e g.symm
   ·rw [g,val_rev] at hp
    have:=hq s hs
    grind
  have step:∀d:Sec.V2,Sec.nv s d=0->Sec.nv l d<0->False:=fun d d0 d1=>by
   obtain ⟨r,r0,hr⟩:=Sec.rY ((M.filter fun m=>decide (m≠s)).map fun m=>(aj m x.1 x.2,Sec.nv m d)) (fun y hy=>by
    obtain ⟨m,hm,rfl⟩:=List.mem_map.1 hy
    have:=List.mem_filter.1 hm
    exact hx m this.1 (by simpa using this.2))
   refine side l hno hp (x.1+r*d.1,x.2+r*d.2) ?_ (fun m hm hne=>?_) ?_
   ·rw [Sec.fr,xz,d0];grind
   ·rw [Sec.fr]
    exact hr (aj m x.1 x.2,Sec.nv m d) (List.mem_map.2 ⟨m,List.mem_filter.2 ⟨hm,by simpa using hne⟩,rfl⟩)
   ·rw [Sec.fr,z]
    have:=Sec.mp r0 (show -Sec.nv l d>0 by grind)
    grind
  have s0:Sec.nv s (Sec.dirL s)=0:=by rw [Sec.BR];exact Sec.BF _
  have ls:Sec.nv l (Sec.dirL s)≠0:=by rw [Sec.BR];exact Qu
  by_cases c2:Sec.nv l (Sec.dirL s)<0
  ·exact step _ s0 c2
  ·have e1:Sec.nv s (-(Sec.dirL s).1,-(Sec.dirL s).2)=-Sec.nv s (Sec.dirL s):=by unfold Sec.nv;dsimp only;grind
   have e2:Sec.nv l (-(Sec.dirL s).1,-(Sec.dirL s).2)=-Sec.nv l (Sec.dirL s):=by unfold Sec.nv;dsimp only;grind
   exact step (-(Sec.dirL s).1,-(Sec.dirL s).2) (by rw [e1,s0];grind) (by rw [e2];grind)
 ·intro hp
  have:=side (revL l) (fun x hx=>hno x (by rw [val_rev] at hx;grind)) (by rw [val_rev];grind) x xz hx
  rw [val_rev] at this
  by_cases c1:aj l x.1 x.2<0
  ·exact .inl c1
  ·refine .inr ⟨by grind,fun e=>?_⟩
   have:=hq s hs
   rw [e] at this
   grind
theorem oU {s:Sd}(hs:s∈c):aj s.1 (fC s.1 s.2.df) (fD s.1 s.2.df)=0/\∀m∈M,m≠s.1->0<aj m (fC s.1 s.2.df) (fD s.1 s.2.df):=by
 obtain ⟨m1,m2,m3⟩:=h.mem s hs
 refine ⟨(i_ (ib (hk _ m1)) _).1,(m3 _).1 ?_⟩
 obtain ⟨h1,h2⟩:=Sp.BZ m2.2
 constructor
 ·cases ha:s.2.a
  ·exact .inr (h1 ha)
  ·exact .inl rfl
 ·cases hb:s.2.b
  ·exact .inr (h2 hb)
  ·exact .inl rfl
theorem uX {l:L3}(hl:okL l=true)(hno:∀x:Sec.V2,aj l x.1 x.2=0->¬Sec.pos M x){q:Sec.V2}(hq:Sec.pos M q)(hp:0<aj l q.1 q.2)(h0:c≠[]):cw c l=1:=by
 cases hc:c with
 | nil=>exact absurd hc h0
 | cons s r=>
  have hs:s∈c:=by rw [hc];exact List.mem_cons_self ..
  obtain ⟨e1,e2⟩:=oU h hk hs
  have:=(nM hk hl hno hq (h.mem s hs).1 (x:=(fC s.1 s.2.df,fD s.1 s.2.df)) e1 e2).1 hp
  unfold cw
  dsimp only at this
  by_cases c1:0<aj l (fC s.1 s.2.df) (fD s.1 s.2.df)
  ·rw [Sec.Iu.2 c1];rfl
  ·have hsl:s.1=l:=this.resolve_left c1
   have z:aj l (fC s.1 s.2.df) (fD s.1 s.2.df)=0:=by
    have h:=e1;rw [hsl] at h ⊢;exact h
   rw [Sec.mW.2 z,if_neg (by simp),if_pos hsl]
theorem uW {l:L3}(hl:okL l=true)(hno:∀x:Sec.V2,aj l x.1 x.2=0->¬Sec.pos M x){q:Sec.V2}(hq:Sec.pos M q)(hp:aj l q.1 q.2<0):cw c l=-1:=by
 have:∀r:List Sd,(∀s∈r,s∈c)->cw r l=-1:=by
  intro r
  induction r with
  | nil=>intro _;rfl
  | cons s r ih=>
   intro hr
   have hs:=hr s (List.mem_cons_self ..)
   obtain ⟨e1,e2⟩:=oU h hk hs
   have:=(nM hk hl hno hq (h.mem s hs).1 (x:=(fC s.1 s.2.df,fD s.1 s.2.df)) e1 e2).2 hp
   dsimp only at this
   unfold cw
   rcases this with g|⟨g,g'⟩
   ·rw [Sec.E5.2 g];rfl
   ·rw [Sec.mW.2 g,if_neg (by simp),if_neg g']
    exact ih fun u hu=>hr u (List.mem_cons_of_mem _ hu)
 exact this c fun _ h=>h
theorem clip_ok {l:L3}(hl:okL l=true):(∀c',clipC c l=some c'->CanC (l::M) c')/\(clipC c l=none->¬∃q,Sec.pos (l::M) q):=by
 unfold clipC
 cases e:bh c l fullSp with
 | some v=>exact ⟨fun c' e'=>by cases e';exact Cu h hk hl e,fun e'=>by cases e'⟩
 | none=>
  dsimp only
  have hno:∀x:Sec.V2,aj l x.1 x.2=0->¬Sec.pos M x:=fun x hx hp=>by
   obtain ⟨t,e1,e2⟩:=wb (ib hl) hx
   refine nY iK e t (qV t) fun s hs=>?_
   rw [←e1,←e2];exact hp s.1 (h.mem s hs).1
  have h0:c≠[]:=fun e0=>by rw [e0] at e;cases e
  obtain ⟨q,hq⟩:=h.pos
  by_cases c1:0<aj l q.1 q.2
  ·rw [uX h hk hl hno hq c1 h0]
   refine ⟨fun c' e'=>?_,fun e'=>by cases e'⟩
   cases e'
   refine ⟨⟨q,List.forall_mem_cons.2 ⟨c1,hq⟩⟩,fun s hs=>?_,fun l' hl' he=>?_,h.asc⟩
   ·obtain ⟨m1,m2,m3⟩:=h.mem s hs
    refine ⟨List.mem_cons_of_mem _ m1,m2,fun t=>?_⟩
    rw [m3 t,List.forall_mem_cons]
    refine ⟨fun g=>⟨fun hne=>?_,g⟩,fun g=>g.2⟩
    exact ((nM hk hl hno hq m1 (x:=(fC s.1 t,fD s.1 t)) (i_ (ib (hk _ m1)) t).1 g).1 c1).resolve_right fun e=>hne e.symm
   ·obtain ⟨p,pz,hp⟩:=he
    by_cases hm:l'∈M
    ·exact h.all l' hm ⟨p,pz,fun m hm hne=>hp m (List.mem_cons_of_mem _ hm) hne⟩
    ·exfalso
     have e1:l'=l:=(List.mem_cons.1 hl').resolve_right hm
     refine hno p (e1▸pz) fun m hm'=>hp m (List.mem_cons_of_mem _ hm') fun e2=>hm (e2▸hm')
  ·have c2:aj l q.1 q.2<0:=by
    by_cases z:aj l q.1 q.2=0
    ·exact absurd hq (hno q z)
    ·grind
   rw [uW h hk hl hno hq c2]
   refine ⟨fun c' e'=>(by cases e'),fun _=>?_⟩
   rintro ⟨q',hq'⟩
   obtain ⟨a,b⟩:=List.forall_mem_cons.1 hq'
   have:=Sec.mK hno (fun m hm=>b m hm) hq a
   grind
end
theorem CanC.nil:CanC [] []:=⟨⟨(0,0),fun m hm=>by cases hm⟩,(fun s hs=>by cases hs),(fun l hl=>by cases hl),List.Pairwise.nil⟩
end Go.Proofs.Tryz
namespace Go.Proofs.Tryz
open Go.Eng Go.Big
theorem HA (m l:L3):Sec.cr (Sec.dirL m) (Sec.dirL l)=gU m l:=by unfold Sec.cr Sec.dirL gU;grind
theorem Es.of {M N:List L3}(h:∀x,x∈M->x∈N){l:L3}(e:Sec.Es N l):Sec.Es M l:=by
 obtain ⟨p,p0,p1⟩:=e
 exact ⟨p,p0,fun m hm=>p1 m (h m hm)⟩
theorem ok_rev {l:L3}(h:okL l=true):okL (revL l)=true:=by
 unfold okL revL gC at *
 simp only [Int.natAbs_neg]
 rw [Bool.and_eq_true,decide_eq_true_iff,decide_eq_true_iff] at h ⊢
 exact ⟨fun e=>h.1 ⟨by omega,by omega⟩,h.2⟩
section
variable {M:List L3} {c:List Sd} (h:CanC M c) (hk:∀m ∈ M,okL m=true)
include h hk
theorem kd {l:L3}(hl:okL l=true):(bh c l fullSp).isSome=true↔∃x:Sec.V2,aj l x.1 x.2=0/\Sec.pos M x:=by
 constructor
 ·intro e
  obtain ⟨v,hv⟩:=Option.isSome_iff_exists.1 e
  obtain ⟨g1,g2⟩:=kJ iK hv
  obtain ⟨t,ht⟩:=kD.1 g1.2
  exact ⟨(fC l t,fD l t),(i_ (ib hl) t).1,h.int hk ((g2 t).1 ht).2⟩
 ·rintro ⟨x,x0,x1⟩
  obtain ⟨t,e1,e2⟩:=wb (ib hl) x0
  cases e:bh c l fullSp with
  | some v=>rfl
  | none=>exact absurd (fun s hs=>by rw [←e1,←e2];exact x1 _ (h.mem s hs).1) (nY iK e t (qV t))
theorem rM {l:L3}(hl:okL l=true):((bh c l fullSp).isSome=true↔(∃q,Sec.pos M q/\0<aj l q.1 q.2)/\∃q,Sec.pos M q/\aj l q.1 q.2<0) /\
  ((bh c l fullSp).isSome=false->(cw c l=1/\∃q,Sec.pos M q/\0<aj l q.1 q.2)\/cw c l=-1/\¬∃q,Sec.pos M q/\0<aj l q.1 q.2):=by
 constructor
 ·rw [kd h hk hl]
  constructor
  ·rintro ⟨x,x0,x1⟩
   obtain ⟨q,hq,JL,-⟩:=Sec.qQ (M:=M) (yH hl) x0 (fun m hm _=>x1 m hm) [] (fun m hm=>by cases hm)
   obtain ⟨r,hr,hrl,-⟩:=Sec.qQ (M:=M) (l:=revL l) (x:=x) (yH (ok_rev hl)) (by rw [val_rev,x0];rfl) (fun m hm _=>x1 m hm) [] (fun m hm=>by cases hm)
   rw [val_rev] at hrl
   exact ⟨⟨q,hq,JL⟩,r,hr,by grind⟩
  ·rintro ⟨⟨q,hq,JL⟩,r,hr,hrl⟩
   by_cases c0:∃x:Sec.V2,aj l x.1 x.2=0/\Sec.pos M x
   ·exact c0
   ·have:=Sec.mK (fun x x0 x1=>c0 ⟨x,x0,x1⟩) hq hr JL
    grind
 ·intro e
  have hno:∀x:Sec.V2,aj l x.1 x.2=0->¬Sec.pos M x:=fun x x0 x1=>by
   rw [(kd h hk hl).2 ⟨x,x0,x1⟩] at e;cases e
  obtain ⟨q,hq⟩:=h.pos
  have hne:c≠[]:=fun e0=>by subst e0;unfold bh at e;cases e
  by_cases hp:0<aj l q.1 q.2
  ·exact .inl ⟨uX h hk hl hno hq hp hne,q,hq,hp⟩
  ·have hz:aj l q.1 q.2≠0:=fun z=>hno q z hq
   refine .inr ⟨uW h hk hl hno hq (by grind),?_⟩
   rintro ⟨r,hr,hrl⟩
   exact hp (Sec.mK hno hr hq hrl)
theorem mo {p:Sec.V2}(hp:∀s∈c,0<=aj s.1 p.1 p.2):∀m∈M,0<=aj m p.1 p.2:=by
 intro m hm
 obtain ⟨q,hq⟩:=h.pos
 have key:∀t:Rat,0<=t->t<1->Sec.pos M (q.1+t*(p.1-q.1),q.2+t*(p.2-q.2)):=fun t t0 t1=>h.int hk fun s hs=>by
  dsimp only
  rw [Sec.ng]
  have h1:=hq s.1 (h.mem s hs).1
  have h2:=Sec.mn t0 (hp s hs)
  have h3:=Sec.mp (show 1-t>0 by grind) h1
  grind
 by_cases c0:0<=aj m p.1 p.2
 ·exact c0
 exfalso
 have h1:=hq m hm
 obtain ⟨t,t0,t1,e⟩:=Sec.qh (y:=(aj m q.1 q.2,aj m p.1 p.2)) h1 (s:=1) (by decide) (by unfold Sec.mx;grind)
 have t1':t<1:=by
  by_cases e1:t=1
  ·subst e1;unfold Sec.mx at e;dsimp only at e;grind
  ·grind
 have:=key t (by grind) t1' m hm
 dsimp only at this
 rw [Sec.ng] at this
 unfold Sec.mx at e
 dsimp only at e
 grind
end
end Go.Proofs.Tryz
namespace Go.Proofs.Tryz
open Go.Eng Go.Big
section
variable {M:List L3} {c:List Sd} (h:CanC M c) (hk:∀m ∈ M,okL m=true)
include h hk
end
end Go.Proofs.Tryz
namespace Go.Proofs.Tryz
open Go.Eng Go.Big
namespace Sec
end Sec
section
variable {M:List L3} {c:List Sd} (h:CanC M c) (hk:∀m ∈ M,okL m=true)
include h hk
end
end Go.Proofs.Tryz
namespace Go.Proofs.Tryz
open Go.Eng Go.Big
namespace Sec
end Sec
section
variable {M:List L3} {c:List Sd} (h:CanC M c) (hk:∀m ∈ M,okL m=true)
include h hk
end
end Go.Proofs.Tryz
namespace Go.Proofs.Tryz
open Go.Eng Go.Big
section
variable {M:List L3} {c:List Sd} (h:CanC M c) (hk:∀m ∈ M,okL m=true) (hb:∀s ∈ c,s.2.a=false/\s.2.b=false)
include h hk hb
end
end Go.Proofs.Tryz
namespace Go.Proofs.Tryz
open Go.Eng Go.Big
section
variable {M:List L3} {c:List Sd} (h:CanC M c) (hk:∀m ∈ M,okL m=true) (hb:∀s ∈ c,s.2.a=false/\s.2.b=false)
include h hk hb
end
end Go.Proofs.Tryz
namespace Go.Proofs.Tryz
open Go.Eng Go.Big
section
variable {M:List L3} {c:List Sd} (h:CanC M c) (hk:∀m ∈ M,okL m=true) (hb:∀s ∈ c,s.2.a=false/\s.2.b=false)
include h hk hb
end
end Go.Proofs.Tryz
namespace Go.Proofs.Tryz
open Go.Eng Go.Big
section
variable {M:List L3} {c:List Sd} (h:CanC M c) (hk:∀m ∈ M,okL m=true)
include h hk
end
end Go.Proofs.Tryz
namespace Go.Proofs.Tryz
open Go.Eng Go.Big
theorem kU.up {k K:Nat}{l:L3}(h:kU k l)(hk:k<=K):kU K l:=⟨h.1.mono hk,h.2.1.mono hk,h.2.2.mono hk⟩
theorem B6 {L M:L3}{s:Sp}{k K:Nat}(sl:kU k L)(sm:kU k M)(hs:s.sz K)(hk:60*k+60<=K):(eJ L s M).sz K:=by
 have z:=IW K (by omega)
 have c:=(wI sl sm).mono hk
 unfold eJ
 split
 ·exact hs
 ·split
  ·exact Sp.vZ hs ⟨c,z⟩
  ·exact Sp.vZ hs ⟨z,c⟩
theorem FL {k:Nat}(hk:0<k):fullSp.sz k:=⟨IW k hk,IW k hk⟩
def LK (s:Sd):Prop:=Bd s.1/\s.2.sz 100000
theorem BK {x:Sd}:∀{r:List Sd} {i:Nat},i<=r.length->(∀k (h:k<r.length),k<i->Sec.ang (Sec.dirL r[k].1) (Sec.dirL x.1)<0)->(∀h:i<r.length,¬Sec.ang (Sec.dirL r[i].1) (Sec.dirL x.1)<0)->j9 x r=r.take i++x::r.drop i
 | [],i,hi,_,_=>by simp [j9]
 | s::r,0,_,_,h=>by
  have:¬Sec.ang (Sec.dirL s.1) (Sec.dirL x.1)<0:=h (Nat.zero_lt_succ _)
  unfold j9
  rw [if_neg this]
  rfl
 | s::r,i+1,hi,h1,h2=>by
  have:Sec.ang (Sec.dirL s.1) (Sec.dirL x.1)<0:=h1 0 (Nat.zero_lt_succ _) (Nat.zero_lt_succ _)
  unfold j9
  rw [if_pos this,BK (r:=r) (i:=i) (by simpa using hi) (fun k hk hki=>h1 (k+1) (by simpa using hk) (by omega)) fun h=>h2 (by simpa using h)]
  rfl
structure Bs (r:List Sd) (l:L3) (i j:Nat):Prop where
 le:i<=j
 len:j<=r.length
 lo:∀k (h:k<r.length),k<i->Sec.ang (Sec.dirL r[k].1) (Sec.dirL l)<0
 hi:∀h:j<r.length,¬Sec.ang (Sec.dirL r[j].1) (Sec.dirL l)<0
theorem Bs.start (r:List Sd)(l:L3):Bs r l 0 r.length:=⟨Nat.zero_le _,Nat.le_refl _,fun k h hk=>absurd hk (Nat.not_lt_zero _),fun h=>absurd h (Nat.lt_irrefl _)⟩
theorem Bs.up {r:List Sd}{l:L3}{i j h:Nat}(b:Bs r l i j)(asc:r.Pairwise fun s u=>Sec.ang (Sec.dirL s.1) (Sec.dirL u.1)<0)(h2:h<j)(hl:h<r.length)(hc:Sec.ang (Sec.dirL r[h].1) (Sec.dirL l)<0):Bs r l (h+1) j:=
 ⟨h2,b.len,fun k hk hkh=>by
  by_cases e:k=h
  ·subst e;exact hc
  ·exact Bq (List.pairwise_iff_getElem.1 asc k h hk hl (by omega)) hc,b.hi⟩
theorem Bs.down {r:List Sd}{l:L3}{i j h:Nat}(b:Bs r l i j)(h1:i<=h)(hl:h<r.length)(hc:¬Sec.ang (Sec.dirL r[h].1) (Sec.dirL l)<0):Bs r l i h:=
 ⟨h1,by omega,b.lo,fun _=>hc⟩
theorem Bs.done {r:List Sd}{l:L3}{i:Nat}(b:Bs r l i i)(v:Sp):j9 (l,v) r=r.take i++(l,v)::r.drop i:=BK b.len b.lo b.hi
theorem RR.half (V:View):RR V (.agg #[.int .i64 1,.int .i64 1,.pointer none]) (((2:Int):Rat)⁻¹):=by
 have e1:(((2:Int):Rat)⁻¹).num=1:=by decide +kernel
 have e2:(((2:Int):Rat)⁻¹).den=2:=by decide +kernel
 refine .inl ⟨by rw [e1,e2];rfl,?_⟩
 unfold Wd
 rw [e1,e2];decide
theorem DJ {V:View}{v:Value}{x:Rat}(hx:RR V v x){k:Nat}(hk:Sz k x)(hkm:k+2<1099511627776) :
  Acts prog 235 #[v] V fun r V'=>RR V' r (x*((2:Int):Rat)⁻¹):=by
 have hx0:=hx
 obtain ⟨a,b,c,rfl⟩:=hx.shape
 refine sr a b c V _ fun V1 l1=>(gY (hx0.le l1) (RR.half V1) hk (jH B7) hkm).mono ?_
 rintro r V2 l2 g
 have g0:=g
 obtain ⟨u,v,w,rfl⟩:=g.shape
 exact ⟨_,_,_,rfl,fun V3 l3=>g0.le l3⟩
theorem xC {V:View}{v:Value}{s:Sp}(h:xl V v s){k:Nat}(hs:s.sz k)(hk:4*k+8<1099511627776) :
  Acts prog 211 #[v] V fun r V'=>RR V' r s.df:=by
 obtain ⟨x1,x2,p,y1,y2,q,rfl,h1,h2⟩:=h
 have a1:s.a=true->s.b=true->s.df=0:=fun x y=>by simp [Sp.df,x,y]
 have a2:s.a=true->s.b=false->s.df=s.hi-((1:Int):Rat):=fun x y=>by simp [Sp.df,x,y]
 have a3:s.a=false->s.b=true->s.df=s.lo+((1:Int):Rat):=fun x y=>by simp [Sp.df,x,y]
 have a4:s.a=false->s.b=false->s.df=(s.lo+s.hi)*((2:Int):Rat)⁻¹:=fun x y=>by simp [Sp.df,x,y]
 have no:∀{P:Prop},s.a=true->s.a=false->P:=fun x y=>by rw [x] at y;cases y
 have SS:∀{P:Prop},s.b=true->s.b=false->P:=fun x y=>by rw [x] at y;cases y
 refine oq x1 x2 p y1 y2 q s.a s.b V _ ⟨fun ha=>⟨fun hb V1 l1=>?_,fun hb=>⟨fun _ V2 l2=>(gk 1 (by decide) (by decide)).mono ?_,fun e=>no ha e⟩⟩,fun ha=>⟨fun e=>no e ha,fun _=>⟨fun hb xn mF=>(gk 1 (by decide) (by decide)).mono ?_,fun hb Lf l27=>(jd (h1.le l27) (h2.le l27) hs.1 hs.2 (by omega)).mono ?_⟩⟩⟩
 ·rw [a1 ha hb];exact RR.zero _
 ·rintro r V3 l3 g
  have g0:=g
  obtain ⟨u,v,w,rfl⟩:=g.shape
  refine ⟨_,_,_,rfl,fun V4 l4=>(vI (h2.le (l2.trans (l3.trans l4))) (g0.le l4) hs.2 qf (by omega)).mono ?_⟩
  rintro r V5 l5 f
  have f0:=f
  obtain ⟨u,v,w,rfl⟩:=f.shape
  exact ⟨_,_,_,rfl,fun V6 l6=>by rw [a2 ha hb];exact f0.le l6⟩
 ·rintro r V3 l3 g
  have g0:=g
  obtain ⟨u,v,w,rfl⟩:=g.shape
  refine ⟨_,_,_,rfl,fun V4 l4=>(jd (h1.le (mF.trans (l3.trans l4))) (g0.le l4) hs.1 qf (by omega)).mono ?_⟩
  rintro r V5 l5 f
  have f0:=f
  obtain ⟨u,v,w,rfl⟩:=f.shape
  exact ⟨_,_,_,rfl,fun V6 l6=>by rw [a3 ha hb];exact f0.le l6⟩
 ·rintro r V3 l3 g
  have g0:=g
  obtain ⟨u,v,w,rfl⟩:=g.shape
  refine ⟨_,_,_,rfl,fun V4 l4=>(DJ (g0.le l4) (hs.1.add hs.2) (by omega)).mono ?_⟩
  rintro r V5 l5 f
  have f0:=f
  obtain ⟨u,v,w,rfl⟩:=f.shape
  exact ⟨_,_,_,rfl,fun V6 l6=>by rw [a4 ha hb];exact f0.le l6⟩
theorem Jq {V:View}:Acts prog 209 #[] V fun r V'=>r=.agg #[.int .i64 0,.int .i64 0,.pointer none,.int .i64 0,.int .i64 0,.pointer none,.bool true,.bool true]:=
 A7 V _ fun V1 l1=>rfl
end Go.Proofs.Tryz
