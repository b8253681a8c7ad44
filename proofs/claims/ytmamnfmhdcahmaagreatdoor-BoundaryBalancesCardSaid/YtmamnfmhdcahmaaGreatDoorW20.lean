import Derived.Laws.IdiomCopy
import Derived.Lib.Overlaps
import Derived.Lib.JoinLaws
import Derived.Lib.AppendZerosOnto
import Derived.Shelf.RegionOpenPlain
import Derived.Lib.Walk
import Derived.Lib.SliceRun
import Derived.Laws.NewBlocks
import Derived.Test.YtmamnfmhdcahmaaGreatDoorW18
import Derived.Test.YtmamnfmhdcahmaaGreatDoorW9
set_option linter.all false
open Go.IntKind (i64 u64 u32)
open Go.Value renaming slice→pT,agg→dB,bool→Õ,pointer→qvZ,tuple→æ,int→Ô
namespace Go.Proofs.Tryz
open Go.Eng Go.Big
variable{V:Ó}{lv v w:Value}{c i k n:Nat}{L a l x:L3}{b:Bool}{p q:OA}{P:List Rat}{vs:List Value}{ls:List L3}
theorem FP {p}(h:ja V v p.1 p.2)(s1:Sz k p.1)(s2:Sz k p.2)(Z:k<=2^40:=by omega):À 76 #[v] V λr W=>r=Jq (aq.half p):=by obtain ⟨i,j,q,l,m,n,rfl,s,t⟩:=h;refine DG V _ λu w=>(fC ra s2 Z).s ?_;rintro r V2 x rfl;refine ⟨_,rfl,λb y z=>?_,λb=>⟨λc A B=>(fC ra s1 Z).s ?_,λc=>⟨λa C f=>?_,λa D E=>(fC ra s1 Z).s ?_⟩⟩⟩;{have b:p.2.num.sign>0:=Á b;unfold aq.half;rw [Ä (.inl b)]};{have b:¬p.2.num.sign>0:=Â b;have c:p.2.num.sign=0:=by{simpa using c};rintro r F G rfl;refine ⟨_,rfl,λa H I=>?_,λa=>⟨λe J K=>?_,λe L M=>(fC ra s1 Z).s ?_⟩⟩;{have a:p.1.num.sign>0:=Á a;unfold aq.half;rw [Ä (.inr ⟨c,a⟩)]};{have e:p.2.num.sign<0:=Á e;omega};{have a:¬p.1.num.sign>0:=Â a;have g:¬(p.2.num.sign>0\/p.2.num.sign=0/\p.1.num.sign>0):=ω;rintro r N O rfl;refine ⟨_,rfl,λd P o=>?_,λd Q R=>?_⟩;{have d:p.1.num.sign<0:=Á d;unfold aq.half;rw [Ã g,Ä (.inr d)]};{have d:¬p.1.num.sign<0:=Â d;unfold aq.half;rw [Ã g,Ã ω]}}};{have b:¬p.2.num.sign>0:=Â b;have c:¬p.2.num.sign=0:=by{simpa using c};have a:p.2.num.sign<0:=Á a;unfold aq.half;rw [Ã ω,Ä (.inl a)]};{have b:¬p.2.num.sign>0:=Â b;have c:¬p.2.num.sign=0:=by{simpa using c};have a:¬p.2.num.sign<0:=Â a;omega}
theorem Yz (q:Rat):-1<=q.num.sign/\q.num.sign<=1:=by rcases Qp8 q.num 0 with h|h|h;{rw [Qd2 h];omega};{rw [h];decide};{rw [Qf8 h];omega}
theorem yZ {a b}(h:ja V v a.1 a.2)(Z:ja V w b.1 b.2)(s1:Sz k a.1)(s2:Sz k a.2)(s3:Sz k b.1)(s4:Sz k b.2)(hk:4*k+3<2^38:=by omega):À 36 #[v,w] V λr W=>r=Jq (aq.cM a b):=by have x:=h;have d:=Z;obtain ⟨e,f,q,i,j,l,rfl,-⟩:=h;obtain ⟨m,n,t,o,p,s,rfl,-⟩:=Z;refine IW V _ λy z=>(FP ra s1 s2).s ?_;rintro r V2 A rfl;refine ⟨_,rfl,λB C=>(FP ra s3 s4).s ?_⟩;rintro r D E rfl;refine ⟨_,rfl,λg F G=>?_,λg=>⟨λc H I=>?_,λc J K=>(BR ra ra s1 s2 s3 s4 hk).s ?_⟩⟩;{unfold aq.cM;rw [Ä (Á g)]};{unfold aq.cM;rw [Ã (Â g),Ä (Á c)]};{rintro r L M gc;obtain ⟨N,O,P,rfl⟩:=gc.shape;refine ⟨_,_,_,rfl,λQ R=>(fC ra (yW s1 s2 s3 s4)).s λr S u rfl=>⟨_,rfl,λT U=>?_⟩⟩;have W:=Yz (a.1*b.2-a.2*b.1);rw [au ω];unfold aq.cM;rw [Ã (Â g),Ã (Â c)];show _=Value.int .i64 (-(a.1*b.2-a.2*b.1).num.sign);congr 1;omega}
def nJ:Rat×Rat:=(0,0)
def OX (a b:Rat×Rat):Int:=aq.cM a b
theorem ordCP:ņ OX:=⟨aq.AW,aq.xJ⟩
def oT (V:Ó)(v:Value)(c:Rat×Rat):Prop:=ja V v c.1 c.2/\Sz 100000 c.1/\Sz 100000 c.2
theorem oT.le {V V' c}(h:oT V v c)(l:V.Le V'):oT V' v c:=⟨h.1.le l,h.2⟩
theorem oT.shape {c}(h:oT V v c):∃(x y:Int)(p:OA)(u z:Int)(E:OA),v=dB #[Jq x,Jq y,qvZ p,Jq u,Jq z,qvZ E]:=by obtain ⟨⟨a,b,p,d,f,q,e,-⟩,-⟩:=h;exact qyZ e
theorem BM {a b}(h:oT V v a)(u:oT V w b):À 36 #[v,w] V λr W=>r=Jq (OX a b):=
 yZ h.1 u.1 h.2.1 h.2.2 u.2.1 u.2.2
def eP (a b:Rat×Rat):Bool:=aq.eP a b
theorem Tl {a b}(h:oT V v a)(u:oT V w b):À 75 #[v,w] V λr W=>r=Õ (eP a b):=by have d:=h;have c:=u;obtain ⟨_,_,_,_,_,_,rfl⟩:=h.shape;obtain ⟨_,_,_,_,_,_,rfl⟩:=u.shape;refine tN V _ λe f=>(BM ra ra).s λr V2 g rfl=>⟨_,rfl,λi j=>?_⟩;unfold eP aq.eP OX;congr 1
theorem vF {p:Rat×Rat}(h:ja V v p.1 p.2)(s1:Sz k p.1)(s2:Sz k p.2)(E:k<=2^40:=by omega):À 34 #[v] V λr W=>ja W r (-p.1) (-p.2):=by obtain ⟨c,d,q,e,f,g,rfl,j,l⟩:=h;refine E_ V _ λm n=>(oX ra s1 E).s λr V2 o a=>RR.ex a λ_ a=>λs t=>(oX ra s2 E).s ?_;rintro r u w b;have i:=b;obtain ⟨x,y,z,rfl⟩:=b.shape;exact ⟨_,_,_,rfl,λA B=>⟨_,_,_,_,_,_,rfl,ra,ra⟩⟩
def iO (p:Rat×Rat):Rat×Rat:=(p.1*(eG p.1 p.2)⁻¹,p.2*(eG p.1 p.2)⁻¹)
theorem BK {p}(h:ja V v p.1 p.2)(s1:Sz k p.1)(s2:Sz k p.2)(M:8*k+8<2^38:=by omega):À 33 #[v] V λr W=>ja W r (iO p).1 (iO p).2:=by obtain ⟨d,e,q,f,g,i,rfl,m,n⟩:=id h;refine tO V _ λo s=>(k_ ra ra s1 s2).s λr V2 t b=>RR.ex b λ_ b=>λu w=>(O0 ra (gU s1 s2)).s ?_;rintro r x y c;have j:=c;obtain ⟨z,A,B,rfl⟩:=c.shape;refine ⟨_,_,_,rfl,λC D=>(qV ra ra (k:=k+k+1) (s1.s ω) (s2.s ω) (il (gU s1 s2)) ω).s λr E F a=>ja.ex a λ_ _ a _ _=>λG l=>a.le l⟩
theorem k_Dir (h:vy V v l)(u:Bd l):À 32 #[v] V λr W=>ja W r (aq.aB l).1 (aq.aB l).2:=o_ h u.iS.1 u.iS.2.1 u.iS.2.2 ω
theorem vi (u:Bd l):Sz 1000 (aq.aB l).1/\Sz 1000 (aq.aB l).2:=⟨u.iS.2.1,u.iS.1.neg⟩
theorem Uj {V V':un}{P:Prop}{b}(l:V.Le V')(h:P->V.w.heap.size<=b\/V.H b):V.Le (V'.shut.bf P b):=λx o a=>by
 have c:=l x o a;refine ⟨λd=>d.elim c.1 ?_,c.2⟩;rintro ⟨e,rfl,-⟩;rcases h e with h|h
 ·have:=(Qr0.1 a.2).1;omega
 ·exact a.1 h
theorem Qw {M}(z:vy V v L)(hm:vy V w M)(E:Bd L)(y:Bd M):À 241 #[v,w] V λr W=>r=Õ (decide (L=M\/L=Ö M)):=by have a:=z;have b:=hm;obtain ⟨_,_,_,_,_,_,_,_,_,rfl,-,-,-⟩:=z;obtain ⟨_,_,_,_,_,_,_,_,_,rfl,-,-,-⟩:=hm;refine DE V _ λd f=>(tj ra ra E.iS y.iS).s ?_;rintro r V2 g rfl;refine ⟨_,rfl,λe i j=>?_,λe k l=>(kV ra y.iS).s ?_⟩;{rw [Ç (.inl (Á e))]};{have e:=Â e;rintro r m n c;obtain ⟨_,_,_,_,_,_,_,_,_,rfl,-,-,-⟩:=id c;refine ⟨_,_,_,_,_,_,_,_,_,rfl,λo p=>(tj ra ra E.iS y.iS.rev).s λr q s rfl=>⟨_,rfl,λt u=>Æ Value.bool (É.2 ⟨.inr,λh=>h.resolve_left e⟩)⟩⟩}
theorem one8i {u y z E a}:∀v∈([Jq u,Jq y,qvZ p,Jq z,Jq E,qvZ q,Õ a,Õ b]:zA um),v.oneCell'=true:=λv c=>by
 simp only [ç,Ġ,Ì] at c;rcases c with rfl|rfl|rfl|rfl|rfl|rfl|rfl|rfl<;>rfl
theorem MM {e k}(h1:decide (k>0)=e)(h2:decide (k<0)=!e)(hb:Bd L):∀(t:Tr) {V:un} {q:OA} {lv v:um} {s:Sp} {lb n m:Nat} {vs:zA um} {o:zA Sp},RT V q t->t.eu Bd->vy V lv L->fQ V v s->s.sz 100000 ->(vs≠[]->V.w.heap[lb]?=some (.cells vs.toArray 78 (0,0)))->(vs≠[]->V.X lb)->GR 8 fQ V n m vs o->n+(bg L e t s).length<=1000000 ->À 178 #[qvZ q,lv,v,Jq k,pT (mA lb m) n m] V λr V'=>∃(bm:Nat)(vm:zA um)(n' c':Nat),(vm≠[]->V'.w.heap[bm]?=some (.cells vm.toArray 78 (0,0)))/\(vm≠[]->V.w.heap.size<=bm\/(vs≠[]/\bm=lb))/\r=pT (mA bm c') n' c'/\GR 8 fQ (V'.bf (vm≠[]) bm) n' c' vm (o++bg L e t s):=by
 intro t;have U0:∀{A B:Prop},A\/B\/False->A\/B:=λh=>h.imp id λh=>h.elim id False.elim
 induction t with
 | leaf i=>
  intro V q lv v s lb n m vs o h ha hl hv sz hw hx K C;have D:=hv;obtain ⟨_,_,_,_,_,_,_,_,_,rfl,-,-,-⟩:=hl;obtain ⟨_,_,_,_,_,_,rfl,-,-⟩:=hv;refine uj q _ _ _ _ _ _ _ _ _ _ _ _ _ _ _ _ _ k lb n m vs V _ hw hx ⟨λz _=>z=i,λV1 l1=>(dQ (h.le l1)).s ?_,?_⟩
  ·rintro r V2 l2 rfl;obtain ⟨b,c0,c1,c2,c3,c4,c5,c6,c7,c8,r,rfl,hb⟩:=h.le (l1.m l2);exact ⟨_,rfl,λ_=>⟨rfl,rfl,i,Is hb 11 rfl,_,σ,rfl⟩,π⟩
  rintro z V3 l3 rfl;refine ⟨rfl,λhz=>?_,λhz V5 l5=>(dQ (h.le ax)).s ?_⟩
  ·subst hz;refine ⟨ω,K.le,K.cap,rfl,one8i,λsp c k1 k2 V4 f hle E F=>⟨f,_,n+1,c,E,λh=>U0 (F h),rfl,?_⟩⟩;exact (K.s λ_ _ g=>fQ.le g ax).snoc rfl ra φ k1 k2
  ·rintro r V6 l6 rfl;subst hz;refine ⟨_,rfl,λ_ V7 f hle E F=>⟨f,vs,n,m,E,λh=>U0 (F h),rfl,?_⟩,π⟩;show GR 8 fQ _ n m vs (o++[]);rw [ą];exact K.s λ_ _ g=>fQ.le g ax
 | node ln a b iha ihb=>
  intro V q lv v s lb n m vs o h ha hl hv sz hw hx K C;have l:=hl;have D:=hv;obtain ⟨_,_,_,_,_,_,_,_,_,rfl,-,-,-⟩:=hl;obtain ⟨_,_,_,_,_,_,rfl,-,-⟩:=hv;obtain ⟨p,a6,a7⟩:=ha;refine uj q _ _ _ _ _ _ _ _ _ _ _ _ _ _ _ _ _ k lb n m vs V _ hw hx ⟨λz _=>z=false,λV1 l1=>(dQ (h.le l1)).s ?_,?_⟩
  ·rintro r V2 l2 rfl;exact ⟨_,rfl,π,λ_=>⟨_,σ,rfl⟩⟩
  rintro z V3 l3 rfl;refine ⟨rfl,π,λ_ V5 l5=>(dQ (h.le ax)).s ?_⟩;rintro r V6 l6 rfl;have a8:=l3.m (l5.m l6);obtain ⟨M,u1,u2,u3,v1,v2,v3,w1,w2,w3,pl,pr,i,rfl,a0,y,a9,b0⟩:=h.le a8
  have d:∀{W:un},V6.Le W->∀j v,([Jq u1,Jq u2,qvZ u3,Jq v1,Jq v2,qvZ v3,Jq w1,Jq w2,qvZ w3,qvZ pl,qvZ pr,Õ i]:zA um)[j]?=some v->W.at ((⟨M,0,none⟩:Addr).add j) v:=by intro W hW j v hv;rw [add_zero'];exact dX (xs:=[_,_,_,_,_,_,_,_,_,_,_,_]) (hW _ _ a0) hv
  have N:=Ó.Le.refl V6;have hp:∀{W:un},V6.Le W->(∃a,af (some ⟨M,0,none⟩) 9=some a/\W.at a (qvZ pl))/\∃a,af (some ⟨M,0,none⟩) 10=some a/\W.at a (qvZ pr):=λhW=>⟨Is (hW _ _ a0) 9 rfl,Is (hW _ _ a0) 10 rfl⟩;refine ⟨_,rfl,π,λ_=>⟨λz _=>z=decide (ln=L/\e=true\/ln=Ö L/\e=false),⟨rfl,rfl,_,_,_,_,_,_,_,_,_,⟨M,0,none⟩,rfl,d N 0 _ rfl,d N 1 _ rfl,d N 2 _ rfl,d N 3 _ rfl,d N 4 _ rfl,d N 5 _ rfl,d N 6 _ rfl,d N 7 _ rfl,d N 8 _ rfl,λV8 l8=>(tj (y.le l8) (l.le ax) p.iS hb.iS).s ?_⟩,?_⟩⟩
  ·rintro r V9 l9 rfl;have u:=l8.m l9;have rv:∀{P:ut->Prop},(decide (ln=Ö L)=true->P (decide (k<0)))->(decide (ln=Ö L)=false->P false)->P (decide (ln=Ö L)&&!e):=λa b=>by{cases g:decide (ln=Ö L);{exact b g};{rw [h2] at a;exact a g}};have eqv:∀{c:ut},(c=true->(ln=L/\e=true\/ln=Ö L/\e=false))->((ln=L/\e=true\/ln=Ö L/\e=false)->c=true)->c=decide (ln=L/\e=true\/ln=Ö L/\e=false):=λ{c} a b=>by{cases c;{exact (È λh=>by have:=b h;cases this).symm};{exact (Ç (a rfl)).symm}};refine ⟨_,rfl,λg=>⟨λgk=>⟨_,σ,?_⟩,λgk=>?_⟩,λg=>?_⟩;{rw [h1] at gk;exact eqv (λ_=>.inl ⟨Á g,gk⟩) λ_=>rfl};{rw [h1] at gk;refine ⟨rfl,rfl,_,_,_,_,_,_,_,_,_,⟨M,0,none⟩,rfl,d u 0 _ rfl,d u 1 _ rfl,d u 2 _ rfl,d u 3 _ rfl,d u 4 _ rfl,d u 5 _ rfl,d u 6 _ rfl,d u 7 _ rfl,d u 8 _ rfl,λgx b9=>(kV (l.le ax) hb.iS).s ?_⟩;rintro r fu dM T;have Ko:=T;obtain ⟨_,_,_,_,_,_,_,_,_,rfl,-,-,-⟩:=T;refine ⟨_,_,_,_,_,_,_,_,_,rfl,λiD eN=>(tj (y.le ax) (Ko.le eN) p.iS hb.iS.rev).s ?_⟩;rintro r kE fw rfl;refine ⟨_,rfl,λg2=>⟨_,σ,?_⟩,λg2=>⟨_,σ,?_⟩⟩;{rw [h2,show (!e)=true by rw [gk];rfl];exact eqv (λ_=>.inr ⟨Á g2,gk⟩) λ_=>rfl};{exact eqv π λh=>(Â g2 (h.elim (λh=>by rw [gk] at h;exact nomatch h.2) λh=>h.1)).elim}};{refine ⟨rfl,rfl,_,_,_,_,_,_,_,_,_,⟨M,0,none⟩,rfl,d u 0 _ rfl,d u 1 _ rfl,d u 2 _ rfl,d u 3 _ rfl,d u 4 _ rfl,d u 5 _ rfl,d u 6 _ rfl,d u 7 _ rfl,d u 8 _ rfl,λmg hZ=>(kV (l.le ax) hb.iS).s ?_⟩;rintro r mz eH T;have Ko:=T;obtain ⟨_,_,_,_,_,_,_,_,_,rfl,-,-,-⟩:=T;refine ⟨_,_,_,_,_,_,_,_,_,rfl,λmh fP=>(tj (y.le ax) (Ko.le fP) p.iS hb.iS.rev).s ?_⟩;rintro r mX gX rfl;refine ⟨_,rfl,λg2=>⟨_,σ,?_⟩,λg2=>⟨_,σ,?_⟩⟩;{rw [h2];exact eqv (λh=>.inr ⟨Á g2,by simpa using h⟩) λh=>by{rcases h with h|h;exact Å h.1 (Â g);rw [h.2];rfl}};{exact eqv π λh=>(h.elim (λh=>Â g h.1) λh=>Â g2 h.1).elim}}
  rintro z nM x rfl;have XK:=a8.m x;have G:=K.s λ_ _ g=>fQ.le g XK
  have go:∀{lw:um},vy V lw L->∀{O:Tr} {q':OA} {W:un} (f:Nat),nM.Le W->RT V6 q' O->(∀{V:un} {q:OA} {lv v:um} {s:Sp} {lb n m:Nat} {vs:zA um} {o:zA Sp},RT V q O->O.eu Bd->vy V lv L->fQ V v s->s.sz 100000 ->
    (vs≠[]->V.w.heap[lb]?=some (.cells vs.toArray 78 (0,0)))->(vs≠[]->V.X lb)->GR 8 fQ V n m vs o->n+(bg L e O s).length<=1000000 ->
    À 178 #[qvZ q,lv,v,Jq k,pT (mA lb m) n m] V λr V'=>∃(bm:Nat)(vm:zA um)(n' c':Nat),(vm≠[]->V'.w.heap[bm]?=some (.cells vm.toArray 78 (0,0)))/\(vm≠[]->V.w.heap.size<=bm\/(vs≠[]/\bm=lb)) /\
     r=pT (mA bm c') n' c'/\GR 8 fQ (V'.bf (vm≠[]) bm) n' c' vm (o++bg L e O s))->O.eu Bd->∀{v':um} {s':Sp},fQ W v' s'->s'.sz 100000->∀{n m:Nat} {vs:zA um} {o:zA Sp},(vs≠[]->W.w.heap[f]?=some (.cells vs.toArray 78 (0,0)))->(vs≠[]->W.H f)->GR 8 fQ W n m vs o->n+(bg L e O s').length<=1000000 ->
    À 178 #[qvZ q',lw,v',Jq k,pT (mA f m) n m] (W.aw [vb vs W.w.heap.size f]) λr V'=>∃(bm:Nat)(vm:zA um)(n' c':Nat),(vm≠[]->V'.w.heap[bm]?=some (.cells vm.toArray 78 (0,0)))/\(vm≠[]->W.w.heap.size<=bm\/(vs≠[]/\bm=f)) /\
     r=pT (mA bm c') n' c'/\W.Le (V'.shut.bf (vm≠[]) bm)/\GR 8 fQ (V'.shut.bf (vm≠[]) bm) n' c' vm (o++bg L e O s'):=by
   intro lw b5 O q' W f lW hq ih ha v' s' yk b6 n m vs o f1 f2 K C;refine (ih (V:=W.aw [vb vs W.w.heap.size f]) (lb:=f) (RT.le (V:=V6) (V':=W.aw _) (λb o h=>(x.m lW) b o h) hq) ha (vy.le (V:=V) (V':=W.aw _) b5 λb o h=>(XK.m lW) b o h) (fQ.le (V:=W) (V':=W.aw _) yk λb o h=>h) b6 f1 (λh=>⟨by simp [kt h],f2 h⟩) (K.s (V':=W.aw _) λ_ _ g=>fQ.le (V:=W) g λb o h=>h) C).s ?_;rintro r V' l' ⟨bm,vm,n',c',Q,I,a3,R⟩;exact ⟨bm,vm,n',c',Q,I,a3,Uj (V:=W) (V':=V') (λb o h=>l' b o h) λh=>(I h).imp id λ(g:vs≠[]/\bm=f)=>by rw [g.2];exact f2 g.1,R.s λ_ _ g=>fQ.le g λb o h=>h⟩
  refine ⟨rfl,λc=>?_,λc=>?_⟩
  ·have c:=Á c;have eP:bg L e (.node ln a b) s=bg L e a s:=by{rw [bg,Ä c]};rw [eP] at C ⊢;refine ⟨rfl,rfl,pl,(hp x).1,λqh iX f f1 f2=>(go l f iX a9 iha a6 (D.le ax) sz f1 f2 (G.s λ_ _ g=>fQ.le g iX) C).s ?_⟩;rintro r jZ gG ⟨bm,vm,n',c',Q,I,rfl,a3,R⟩;exact ⟨bm,vm,Q,I,none,n',c',rfl,λqN SW hle E F=>⟨SW,vm,n',c',E,λh=>U0 (F h),rfl,R.s λ_ _ g=>fQ.le g hle⟩⟩
  have c:=Â c;refine ⟨rfl,rfl,_,_,_,_,_,_,_,_,_,⟨M,0,none⟩,rfl,d x 0 _ rfl,d x 1 _ rfl,d x 2 _ rfl,d x 3 _ rfl,d x 4 _ rfl,d x 5 _ rfl,d x 6 _ rfl,d x 7 _ rfl,d x 8 _ rfl,λtR oB=>(Qw (y.le ax) (l.le ax) p hb).s ?_⟩;rintro r sO mL rfl;have ZB:=oB.m mL;have J:=x.m ZB;refine ⟨_,rfl,λc2=>?_,λc2=>?_⟩
  ·have c2:=Á c2;have eP:bg L e (.node ln a b) s=bg L e b s:=by{rw [bg,Ã c,Ä c2]};rw [eP] at C ⊢;refine ⟨rfl,rfl,pr,(hp J).2,λEc oC f f1 f2=>(go l f ax b0 ihb a7 (D.le ax) sz f1 f2 (G.s λ_ _ g=>fQ.le g ax) C).s ?_⟩;rintro r Bw zC ⟨bm,vm,n',c',Q,I,rfl,a3,R⟩;exact ⟨bm,vm,Q,I,none,n',c',rfl,λJw SW hle E F=>⟨SW,vm,n',c',E,λh=>U0 (F h),rfl,R.s λ_ _ g=>fQ.le g hle⟩⟩
  have eP:bg L e (.node ln a b) s=(if cU L s ln=true then bg L e a (bD L s ln) else [])++(if cU L s (Ö ln)=true then bg L e b (bD L s (Ö ln)) else []):=by rw [bg,Ã c,Ã (Â c2)]
  rw [eP] at C ⊢;rw [î] at C;have sK:jC 100000 L:=hb.iS.up ω;refine ⟨rfl,rfl,_,_,_,_,_,_,_,_,_,⟨M,0,none⟩,rfl,d J 0 _ rfl,d J 1 _ rfl,d J 2 _ rfl,d J 3 _ rfl,d J 4 _ rfl,d J 5 _ rfl,d J 6 _ rfl,d J 7 _ rfl,d J 8 _ rfl,λMp Bf=>(JJ (l.le ax) (D.le ax) (y.le ax) (k:=100000) sK sz (p.iS.up ω)).s ?_⟩;rintro r YW Ns ⟨w,rfl,gw⟩;have b7:=gw;obtain ⟨_,_,_,_,_,_,rfl,-,-⟩:=gw;have Ue:=ZB.m (Bf.m Ns);have U:=x.m Ue;have Y:=G.s λ_ _ g=>fQ.le g Ue;refine ⟨_,_,_,_,_,_,_,_,_,rfl,λz V'=>GR 8 fQ V' z.1 z.2.1 z.2.2 (o++(if cU L s ln=true then bg L e a (bD L s ln) else [])),⟨λb1=>?_,λb1=>?_⟩,?_⟩
  ·rw [Ä b1] at C ⊢;refine ⟨rfl,rfl,pl,(hp U).1,λc9 Rl f f1 f2=>(go l f ax a9 iha a6 (b7.le Rl) (Bp hb.iS p.iS sz ω) f1 f2 (Y.s λ_ _ g=>fQ.le g Rl) ω).s ?_⟩;rintro r Wl Nt ⟨bm,vm,n',c',Q,I,rfl,a3,R⟩;exact ⟨bm,vm,Q,I,none,n',c',rfl,(n',c',vm),σ,R⟩
  ·rw [Ã (by rw [b1];simp)];refine ⟨(n,m,vs),σ,?_⟩;rw [ą];exact Y
  rintro ⟨z1,z2,us⟩ d0 Jj hz;have zl:=hz.len;have ol:=K.len;rw [î] at zl;have S:=U.m Jj;refine ⟨rfl,rfl,rfl,_,_,_,_,_,_,_,_,_,⟨M,0,none⟩,rfl,d S 0 _ rfl,d S 1 _ rfl,d S 2 _ rfl,d S 3 _ rfl,d S 4 _ rfl,d S 5 _ rfl,d S 6 _ rfl,d S 7 _ rfl,d S 8 _ rfl,λd1 KF=>(kV (y.le ax) p.iS).s ?_⟩;rintro r WC Ee T;have Ko:=T;obtain ⟨_,_,_,_,_,_,_,_,_,rfl,-,-,-⟩:=T;have a5:=(Ue.m Jj).m (KF.m Ee);refine ⟨_,_,_,_,_,_,_,_,_,rfl,λd2 Nu=>(JJ (l.le ax) (D.le ax) (Ko.le Nu) (k:=100000) sK sz (p.iS.rev.up ω)).s ?_⟩;rintro r d3 Jk ⟨w,rfl,gw⟩;obtain ⟨_,_,_,_,_,_,rfl,-,-⟩:=id gw;have b8:=a5.m (Nu.m Jk);have Z:=hz.s λ_ _ g=>fQ.le g (KF.m (Ee.m (Nu.m Jk)));refine ⟨_,_,_,_,_,_,_,_,_,rfl,λb2=>?_,λb2 d4 SW hle E F=>⟨SW,us,z1,z2,E,λh=>U0 (F h),rfl,?_⟩⟩
  ·rw [Ä b2] at C ⊢;refine ⟨rfl,rfl,pr,(hp ax).2,λWD Ms f f1 f2=>(go l f ax b0 ihb a7 (gw.le Ms) (Bp hb.iS p.iS.rev sz ω) f1 f2 (Z.s λ_ _ g=>fQ.le g Ms) ω).s ?_⟩;rintro r d5 Rm ⟨bm,vm,n',c',Q,I,rfl,a3,R⟩;refine ⟨bm,vm,Q,I,none,n',c',rfl,λd6 SW hle E F=>⟨SW,vm,n',c',E,λh=>U0 (F h),rfl,?_⟩⟩;rw [<-ě];exact R.s λ_ _ g=>fQ.le g hle
  ·rw [Ã (c:=cU L s (Ö ln)=true) (by rw [b2];simp),ą];exact Z.s λ_ _ g=>fQ.le g hle
theorem O3 {e k}(N:decide (k>0)=e)(O:decide (k<0)=!e)(M:Bd L){t s}(h:RT V q t)(Z:t.eu Bd)(hl:vy V lv L)(hv:fQ V v s)(hs:s.sz 100000)(hn:(bg L e t s).length<=1000000):À 178 #[qvZ q,lv,v,Jq k,pT none 0 0] V λr W=>∃p n c,r=pT p n c/\bM 8 fQ W p n (bg L e t s):=by
 have own:∀{f:FuncId} {args:Array um} {V:un} {R:um->un->Prop},À f args V R->À f args V λr W=>R r W/\∀b,V.w.heap.size<=b->¬W.H b:=λ{f args V R} h=>
  ⟨h.1,h.2.s λ_ C ⟨r,he,a,u⟩=>⟨r,he,a,u,λb M d=>Å (V.hH b d) ω⟩⟩
 refine (own (MM N O M t (lb:=0) (n:=0) (m:=0) (vs:=[]) (o:=[]) h Z hl hv hs (λh=>Å rfl h) (λh=>Å rfl h) GR.nil ω)).s ?_;rintro r V' l ⟨⟨y,D,E,F,z,A,rfl,i⟩,B⟩;have j:=i.len;rw [j];exact ⟨_,_,_,rfl,bM.bI (λh=>⟨B y ((A h).elim id λg=>Å rfl g.1),z h⟩) (i.row.le λ_ _ g=>fQ.le g λx o a=>⟨λd=>a.1 (.inl d),a.2⟩) φ (by rw [<-j];exact i.le)⟩
theorem B7 (u:∀x∈P,Sz 1000000 x){l:zA Sp}(E:∀s∈l,s.good/\∀q,s.cS q->q∈P):∀s∈l,s.sz 1000000:=λs h=>by
 have ⟨g,e⟩:=E s h;refine ⟨?_,?_⟩
 ·cases y:s.a
  ·exact u _ (e _ (.inl ⟨y,rfl⟩))
  ·rw [g.1.1 y];exact Dt _
 ·cases z:s.b
  ·exact u _ (e _ (.inr ⟨z,rfl⟩))
  ·rw [g.1.2 z];exact Dt _
structure OP (L:L3) (P:List Rat) (t:Tr):Prop where
 crs:Crs L P t
 asc:asc P
 len:P.length<=30
 sz:∀x∈P,Sz 1000000 x
def oA (L:L3)(e:Bool)(t:Tr):List Sp:=Ú 1 (bg L e t bV) []
theorem Hl {t}(h:RT V q t)(ha:t.eu Bd)(hl:vy V lv L)(hb:Bd L)(hc:OP L P t)(so:∀i,i<=60->qM i):À 112 #[qvZ q,lv] V λr W=>∃p n c p' n' c',r=æ #[pT p n c,pT p' n' c']/\bM 8 fQ W p n (oA L true t)/\bM 8 fQ W p' n' (oA L false t):=by obtain ⟨_,_,_,_,_,_,_,_,_,rfl,-,-,-⟩:=id hl;have o:∀W:un,fQ W (dB #[Jq 0,Jq 0,qvZ none,Jq 0,Jq 0,qvZ none,Õ true,Õ true]) bV:=λW=>⟨0,0,none,0,0,none,rfl,RR.zero W,RR.zero W⟩;have v:=hc.len;have go:∀e:ut,(∀s∈bg L e t bV,s.good)/\(∀s∈bg L e t bV,s.sz 1000000)/\fe (bg L e t bV)<=60/\(bg L e t bV).length<=1000:=λe=>by{have ⟨a,b,c⟩:=PJ (e:=e) hc.crs;exact ⟨λs h=>(a s h).1,B7 hc.sz a,ω,ω⟩};have join:∀(e:ut) {W:un} {p:OA} {n c:Nat},bM 8 fQ W p n (bg L e t bV)->À 117 #[pT p n c] W λr W=>∃q m e',r=pT q m e'/\bM 8 fQ W q m (oA L e t):=λe W p n c g=>by{have ⟨a,b,c,d⟩:=go e;exact BO g a b d ω (so _ c)};refine Aq V _ λM N=>Zb.s ?_;rintro r V2 O rfl;refine ⟨_,_,_,_,_,_,_,_,rfl,λQ R=>(O3 (e:=true) rfl rfl hb (RT.le ax h) ha ra (o _) ⟨Dt _,Dt _⟩ (by have:=(go true).2.2.2;omega)).s ?_⟩;rintro r S T ⟨p,n,c,rfl,U⟩;refine ⟨p,n,c,rfl,λX Y=>(join true ra).s ?_⟩;rintro r w Z ⟨x,y,z,rfl,A⟩;refine ⟨x,y,z,rfl,λV7 B=>Zb.s ?_⟩;rintro r V8 C rfl;have j:=B.m C;refine ⟨_,_,_,_,_,_,_,_,rfl,λV9 l9=>(O3 (e:=false) rfl rfl hb (RT.le ax h) ha ra (o _) ⟨Dt _,Dt _⟩ (by have:=(go false).2.2.2;omega)).s ?_⟩;rintro r gx D ⟨E,F,G,rfl,g3⟩;refine ⟨E,F,G,rfl,λfu dM=>(join false ra).s ?_⟩;rintro r H eN ⟨I,J,K,rfl,g4⟩;have f:∀{k:un},H.Le k->w.Le k:=λl=>j.m ax;exact ⟨I,J,K,rfl,λk u=>⟨_,_,_,_,_,_,rfl,A.le (f u) λ_ _ g=>fQ.le g (f u),ra⟩⟩
theorem wh {t}(u:OP L P t)(e):uY (oA L e t)/\(∀s∈oA L e t,s.sz 1000000)/\fe (oA L e t)<=30/\(oA L e t).length<=1000:=by have f:=u.len;have ⟨a,b,c⟩:=PJ (e:=e) u.crs;have r:uY (oA L e t):=comb_reg _ _ _;refine ⟨r,B7 u.sz λs d=>⟨r.1 s d,λq g=>oH u.crs q (eQ.2 ⟨s,d,g⟩)⟩,Ą (Vb u.crs u.asc) u.len,?_⟩;have:=B5 1 (bg L e t bV) [];have h:fe ([]:zA Sp)=0:=rfl;unfold oA;omega
theorem Tj {t}(h:RT V q t)(Z:t.eu Bd)(N:vy V lv L)(hb:Bd L)(M:OP L P t)(O:∀i,i<=60->qM i):À 59 #[qvZ q,lv] V λr W=>∃p n c,r=pT p n c/\bM 8 fQ W p n (nO L t):=by obtain ⟨_,_,_,_,_,_,_,_,_,rfl,-,-,-⟩:=id N;refine LG V _ λB d=>(Hl (h.le d) Z (N.le d) hb M O).s ?_;rintro r V2 C ⟨p,n,c,j,k,l,rfl,D,E⟩;have ⟨o,s1,f1,s⟩:=wh M true;have ⟨u,s2,f2,v⟩:=wh M false;refine qyZ ⟨rfl,λw F=>?_⟩;refine ae.s (R:=λr W=>∃q m e,r=pT q m e/\bM 8 fQ W q m (nO L t)) ?_ ?_;{refine tP w _ λG H=>(J1 (op:=3) (acc:=λx y=>x&&!y) (λt=>by simp [ģ]) ra ra o.1 u.1 s1 s2 s v ω (O _ ω) λa b W=>(c_D1 a b W).s λr _ _ e=>by rw [e];simp [ģ]).s ?_;rintro r z A ⟨q,m,e,rfl,g⟩;exact ⟨_,_,_,rfl,λI f=>⟨_,_,_,rfl,g.le f λ_ _ g=>fQ.le g f⟩⟩};{rintro r z A ⟨q,m,e,rfl,g⟩;grind [g.le,fQ.le]}
def RPk (k:Nat)(V:Ó)(v:Value)(c:Rat×Rat):Prop:=ja V v c.1 c.2/\Sz k c.1/\Sz k c.2
theorem CO {a b c d}:∀v∈([Jq a,Jq b,qvZ p,Jq c,Jq d,qvZ q]:zA um),v.oneCell'=true:=by intro v hm;simp only [ç,Ġ,Ì] at hm;rcases hm with rfl|rfl|rfl|rfl|rfl|rfl<;>rfl
theorem XV {k al}(h:bM 6 (RPk k) V p n al)(hi:i<al.length):p.isSome=true/\∃(x y:Int)(q:OA)(u z:Int)(E:OA)(a:Addr),af p (i*6)=some a/\V.at (a.add 0) (Jq x)/\V.at (a.add 1) (Jq y)/\V.at (a.add 2) (qvZ q)/\V.at (a.add 3) (Jq u)/\V.at (a.add 4) (Jq z)/\V.at (a.add 5) (qvZ E)/\RPk k V (dB #[Jq x,Jq y,qvZ q,Jq u,Jq z,qvZ E]) al[i]:=by have ⟨g,d,xs,j,f,b⟩:=h.at_ i hi;have c:=f;obtain ⟨⟨x,y,q,u,z,E,e,-⟩,-⟩:=f;have e:=Æ Array.toList (Value.agg.inj e);dsimp only at e;subst e;refine ⟨?_,x,y,q,u,z,E,g,d,b 0 _ rfl,b 1 _ rfl,b 2 _ rfl,b 3 _ rfl,b 4 _ rfl,b 5 _ rfl,c⟩;(cases p with|none=>{cases d}|some a=>rfl)
def dh (V:Ó)(v:Value)(l:L3):Prop:=RL V v l.1 l.2.1 l.2.2
theorem dh.le {V V'}(h:dh V v l)(e:V.Le V'):dh V' v l:=RL.le h e
theorem bT (h:dh V v l):∃(b1:ut)(u:OA)(y c1:Nat)(b2:ut)(z:OA)(E F:Nat)(b3:ut)(M:OA)(N O:Nat),v=dB #[Õ b1,pT u y c1,Õ b2,pT z E F,Õ b3,pT M N O]:=by obtain ⟨_,_,_,_,_,_,_,_,_,e,-⟩:=h;exact qxZ e
theorem Ix {xs}(h:dh V (.agg (List.toArray xs)) l):∀v∈xs,v.oneCell'=true:=by have ⟨_,_,_,_,_,_,_,_,_,_,_,_,e⟩:=bT h;have e:=Æ Array.toList (Value.agg.inj e);dsimp only at e;subst e;intro v hm;simp only [ç,Ġ,Ì] at hm;rcases hm with rfl|rfl|rfl|rfl|rfl|rfl<;>rfl
theorem RG {b' F n' M u y z E}:∀v∈([Õ b,pT p n c,Õ b',pT F n' M,Õ u,pT y z E]:zA um),v.oneCell'=true:=by intro v hm;simp only [ç,Ġ,Ì] at hm;rcases hm with rfl|rfl|rfl|rfl|rfl|rfl<;>rfl
theorem XU {al}(h:bM 9 mW V p n al)(hi:i<al.length):p.isSome=true/\∃(u y:Int)(z:OA)(E F:Int)(M:OA)(N O:Int)(Z:OA)(a:Addr),af p (i*9)=some a/\V.at (a.add 0) (Jq u)/\V.at (a.add 1) (Jq y)/\V.at (a.add 2) (qvZ z)/\V.at (a.add 3) (Jq E)/\V.at (a.add 4) (Jq F)/\V.at (a.add 5) (qvZ M)/\V.at (a.add 6) (Jq N)/\V.at (a.add 7) (Jq O)/\V.at (a.add 8) (qvZ Z)/\mW V (dB #[Jq u,Jq y,qvZ z,Jq E,Jq F,qvZ M,Jq N,Jq O,qvZ Z]) al[i]:=by have ⟨f,c,xs,g,d,b⟩:=h.at_ i hi;obtain ⟨_,_,_,_,_,_,_,_,_,e⟩:=d.shape;have e:=Æ Array.toList (Value.agg.inj e);subst e;refine ⟨?_,_,_,_,_,_,_,_,_,_,f,c,b 0 _ rfl,b 1 _ rfl,b 2 _ rfl,b 3 _ rfl,b 4 _ rfl,b 5 _ rfl,b 6 _ rfl,b 7 _ rfl,b 8 _ rfl,d⟩;(cases p with|none=>{cases c}|some a=>rfl)
def cW (V:Ó)(v:Value)(c:Rat×Rat):Prop:=RP V v c.1 c.2
theorem cW.le {V V' c}(h:cW V v c)(l:V.Le V'):cW V' v c:=RP.le h l
theorem cW.shape {c}(h:cW V v c):∃(b:ut)(p:OA)(n c:Nat)(u:OA)(n' y:Nat)(d:ut)(q:OA)(m e:Nat)(z:OA)(E F:Nat),v=dB #[Õ b,pT p n c,pT u n' y,Õ d,pT q m e,pT z E F]:=by obtain ⟨p,n,c,u,n',y,q,m,e,z,E,F,h,-⟩:=h;grind
theorem cW.ex {r x}{K:ut->OA->Nat->Nat->OA->Nat->Nat->ut->OA->Nat->Nat->OA->Nat->Nat->Prop}(g:cW V r x)(h:∀t u:OA×Nat×Nat×OA×Nat×Nat,cW V (dB #[Õ (decide (x.1.num<0)),pT t.1 t.2.1 t.2.2.1,pT t.2.2.2.1 t.2.2.2.2.1 t.2.2.2.2.2,Õ (decide (x.2.num<0)),pT u.1 u.2.1 u.2.2.1,pT u.2.2.2.1 u.2.2.2.2.1 u.2.2.2.2.2]) x ->K (decide (x.1.num<0)) t.1 t.2.1 t.2.2.1 t.2.2.2.1 t.2.2.2.2.1 t.2.2.2.2.2 (decide (x.2.num<0)) u.1 u.2.1 u.2.2.1 u.2.2.2.1 u.2.2.2.2.1 u.2.2.2.2.2):∃b p n c y n' z d q m e E F M,r=dB #[Õ b,pT p n c,pT y n' z,Õ d,pT q m e,pT E F M]/\K b p n c y n' z d q m e E F M:=RP.ex g λt u k _ _=>h t u k
theorem gI {R:un->um->Rat×Rat->Prop}(sh:∀{V v c},R V v c->∃(b:ut)(p:OA)(n c:Nat)(p':OA)(n' c':Nat)(d:ut)(q:OA)(m e:Nat)(q':OA)(m' e':Nat),v=dB #[Õ b,pT p n c,pT p' n' c',Õ d,pT q m e,pT q' m' e']){al}(h:bM 6 R V p n al)(hi:i<al.length):p.isSome=true/\∃(b1:ut)(u:OA)(y c1:Nat)(z:OA)(E F:Nat)(b2:ut)(M:OA)(N O:Nat)(Z:OA)(n4 c4:Nat)(a:Addr),af p (i*6)=some a/\V.at (a.add 0) (Õ b1)/\V.at (a.add 1) (pT u y c1)/\V.at (a.add 2) (pT z E F)/\V.at (a.add 3) (Õ b2)/\V.at (a.add 4) (pT M N O)/\V.at (a.add 5) (pT Z n4 c4)/\R V (dB #[Õ b1,pT u y c1,pT z E F,Õ b2,pT M N O,pT Z n4 c4]) al[i]:=by have ⟨k,g,xs,l,j,f⟩:=h.at_ i hi;have ⟨_,_,_,_,_,_,_,_,_,_,_,_,_,_,e⟩:=sh j;have e:=Æ Array.toList (Value.agg.inj e);subst e;refine ⟨?_,_,_,_,_,_,_,_,_,_,_,_,_,_,_,k,g,f 0 _ rfl,f 1 _ rfl,f 2 _ rfl,f 3 _ rfl,f 4 _ rfl,f 5 _ rfl,j⟩;(cases p with|none=>{cases g}|some a=>rfl)
def df (V:Ó)(v:Value)(c:Rat×Rat):Prop:=xE V v c.1 c.2
theorem df.le {V V' c}(h:df V v c)(l:V.Le V'):df V' v c:=xE.le h l
theorem PD {u n' y d m e z E F}:∀v∈([Õ b,pT p n c,pT u n' y,Õ d,pT q m e,pT z E F]:zA um),v.oneCell'=true:=by intro v hm;simp only [ç,Ġ,Ì] at hm;rcases hm with rfl|rfl|rfl|rfl|rfl|rfl<;>rfl
theorem df.shape {c}(h:df V v c):∃(b:ut)(p:OA)(n c:Nat)(u:OA)(n' y:Nat)(d:ut)(q:OA)(m e:Nat)(z:OA)(E F:Nat),v=dB #[Õ b,pT p n c,pT u n' y,Õ d,pT q m e,pT z E F]:=by obtain ⟨_,_,_,_,_,_,_,_,_,_,_,_,_,_,h,-⟩:=h;exact qyJ h
theorem N7 {R:un->um->Rat×Rat->Prop}(sh:∀{V v c},R V v c->∃(b:ut)(p:OA)(n c:Nat)(p':OA)(n' c':Nat)(d:ut)(q:OA)(m e:Nat)(q':OA)(m' e':Nat),v=dB #[Õ b,pT p n c,pT p' n' c',Õ d,pT q m e,pT q' m' e']){al}(h:é 6 R V vs al)(hi:i<al.length):∃(b1:ut)(u:OA)(y c1:Nat)(z:OA)(E F:Nat)(b2:ut)(M:OA)(N O:Nat)(Z:OA)(n4 c4:Nat),i*6+6<=vs.length/\(vs.drop (i*6)).take 6=[Õ b1,pT u y c1,pT z E F,Õ b2,pT M N O,pT Z n4 c4]/\R V (dB #[Õ b1,pT u y c1,pT z E F,Õ b2,pT M N O,pT Z n4 c4]) al[i]:=by have ⟨xs,f,a,g⟩:=h.at_ i hi;have k:=h.dN φ;have ⟨_,_,_,_,_,_,_,_,_,_,_,_,_,_,e⟩:=sh a;have e:=Æ Array.toList (Value.agg.inj e);subst e;refine qyJ ⟨ω,?_,a⟩;apply Qg6;intro j;rw [ĩ];split;{grind};{grind}
theorem Tf {q}(h:RA V v q)(u:Sz k q)(y:k<=2^38):À 227 #[v] V λr W=>RQ W r q:=by obtain ⟨b,xs,d,a,-,e,c⟩:=RE.raw (no:=false) ⟨π,λ_=>h⟩ (λh=>nomatch h);have ⟨f,g⟩:=c k u;rw [<-e];exact QI a ω
def jU (x:L3):List L3->List L3
 | []=>[x]
 | y::r=>if jP y x<0 then y::jU x r else if y=x then y::r else x::y::r
theorem XE:∀(o:zA L3)(k:Nat),k<=o.length->(∀j (h:j<o.length),j<k->jP o[j] x<0)->(∀h:k<o.length,¬jP o[k] x<0) ->jU x o=if (∃h:k<o.length,o[k]=x) then o else o.take k++x::o.drop k:=by
 intro o
 induction o with
 | nil=>
  intro k d _ _;simp [jU]
 | cons y r u=>
  intro k d a b
  cases k with
  | zero=>
   have c:¬jP y x<0:=b ψ;unfold jU;rw [Ã c];by_cases e:y=x
   ·rw [Ä e,Ä ⟨ψ,e⟩]
   grind
  | succ k=>
   have c:jP y x<0:=a 0 ψ ω;unfold jU;rw [Ä c,u k (by simpa using d) (λj h i=>a (j+1) (by simpa using h) ω) (λh=>b (by simpa using h))];by_cases e:∃h:k<r.length,r[k]=x
   ·obtain ⟨f,g⟩:=e;rw [Ä ⟨f,g⟩,Ä ⟨by simpa using f,g⟩]
   grind
def aV (l:List L3):List L3:=l.foldl (λo x=>jU (bC x) o) []
theorem M6 {l:zA L3}(h:i<l.length):aV (l.take (i+1))=jU (bC l[i]) (aV (l.take i)):=by grind [aV,List.take_add_one]
theorem Cp (x):∀o:zA L3,(jU x o).length<=o.length+1
 | []=>by simp [jU]
 | y::r=>by
  have:=Cp x r;grind [jU]
theorem QT (l):(aV l).length<=l.length:=by
 have:∀(l o:zA L3),(l.foldl (λo x=>jU (bC x) o) o).length<=o.length+l.length:=by
  intro l
  induction l with
  | nil=>intro o;simp
  | cons x r u=>
   intro o;have a:=u (jU (bC x) o);have b:=Cp (bC x) o;grind
 grind [aV]
def rE (a b:L3):Prop:=jP a b<0
theorem Uq {b c}(h:rE a b)(u:rE b c):rE a c:=by unfold rE at *;rw [vR] at *;omega
theorem ZI {b}(h:rE a b)(u:rE b a):False:=by unfold rE at *;rw [vR] at *;omega
theorem wz (h:rE a a):False:=ZI h h
theorem Pt {b}(h:¬rE a b)(hne:a≠b):rE b a:=by grind [rE,vR]
theorem Hb:∀{l m:zA L3},l.Pairwise rE->m.Pairwise rE->(∀x,x∈l↔x∈m)->l=m
 | [],[],_,_,_=>rfl
 | [],b::m,_,_,h=>by have:=(h b).2 ψ;cases this
 | a::l,[],_,_,h=>by have:=(h a).1 ψ;cases this
 | a::l,b::m,u,y,h=>by
  have ⟨g,c⟩:=Ģ.1 u;have ⟨i,d⟩:=Ģ.1 y;have e:a=b:=by rcases ç.1 ((h a).1 ψ) with e|e<;>grind [ZI]
  subst e;rw [Hb c d λx=>⟨λf=>?_,λf=>?_⟩]
  ·grind [wz]
  grind [wz]
theorem wg {y:L3}:∀{o:zA L3},y∈jU x o↔y=x\/y∈o
 | []=>by simp [jU]
 | z::r=>by
  unfold jU;split
  ·simp only [ç,wg (o:=r)];grind
  grind
theorem Co:∀{o:zA L3},o.Pairwise rE->(jU x o).Pairwise rE
 | [],_=>Qf3 _ _
 | z::r,h=>by
  have ⟨u,E⟩:=Ģ.1 h;unfold jU;split
  ·rename_i b;refine Ģ.2 ⟨λy a=>?_,Co E⟩;rcases wg.1 a with rfl|a
   ·exact b
   ·exact u y a
  grind [rE,Pt,List.pairwise_cons.2,Uq]
theorem hU (l):(aV l).Pairwise rE/\∀x,x∈aV l↔x∈l.map bC:=by
 have:∀(l o:zA L3),o.Pairwise rE->(l.foldl (λo x=>jU (bC x) o) o).Pairwise rE/\∀x,x∈l.foldl (λo x=>jU (bC x) o) o↔x∈o\/x∈l.map bC:=by
  intro l
  induction l with
  | nil=>intro o h;exact ⟨h,λx=>ψ⟩
  | cons y r u=>
   intro o h;have ⟨a,b⟩:=u (jU (bC y) o) (Co h);refine ⟨a,λx=>?_⟩;rw [Š,b x,wg,ĺ,ç];grind
 grind [List.Pairwise.nil,aV]
theorem Kb:∀{r:zA L3} {p:L3},(p::r).Pairwise (λx y=>¬Wn y x<0)->(lC eL p r).Pairwise rE/\(∀x∈lC eL p r,rE p x)/\∀x,x∈p::lC eL p r↔x∈p::r
 | [],p,_=>⟨List.Pairwise.nil,(λx h=>by cases h),λx=>Wv7⟩
 | a::r,p,h=>by
  have ⟨u,z⟩:=Ģ.1 h;have ⟨i1,i2,i3⟩:=Kb z;unfold lC;by_cases e:a=p
  ·subst e;have:eL a a=true:=by simp [eL]
   grind
  ·have:eL a p=false:=by simp [eL,e]
   rw [this];have b:=Pt (u a ψ) e;grind [List.pairwise_cons.2,Uq]
theorem Tp {m}(h:m.Pairwise (λx y=>¬Wn y x<0)):(bU eL m).Pairwise rE/\∀x,x∈bU eL m↔x∈m:=by (cases m with|nil=>exact ⟨List.Pairwise.nil,λx=>Wv7⟩|cons p r=>{have ⟨a,b,c⟩:=Kb h;exact ⟨Ģ.2 ⟨b,a⟩,c⟩})
theorem Um {l m}(h:ZX (l.map bC) m):bU eL m=aV l:=by
 have ⟨a,b⟩:=Tp h.2;have ⟨c,d⟩:=hU l;exact Hb a c λx=>by rw [b x,d x];exact h.1.mem_iff
theorem Iy (h:é 6 dh V vs ls)(hi:i<ls.length):∃b1 u y c1 b2 z E F b3 M N O,i*6+6<=vs.length/\(vs.drop (i*6)).take 6=[Value.bool b1,pT u y c1,Õ b2,pT z E F,Õ b3,pT M N O]/\dh V (dB #[Õ b1,pT u y c1,Õ b2,pT z E F,Õ b3,pT M N O]) ls[i]:=by have ⟨xs,b,a,c⟩:=h.at_ i hi;have d:=h.dN φ;have ⟨_,_,_,_,_,_,_,_,_,_,_,_,e⟩:=bT a;have e:=Æ Array.toList (Value.agg.inj e);subst e;refine qxZ ⟨ω,?_,a⟩;apply Qg6;intro j;rw [ĩ];split;{grind};{grind}
theorem Ep (h:dh V v l):À 171 #[v] V λr W=>∃w b,r=æ #[w,Õ b]/\dh W w (bC l):=by have n:=h;obtain ⟨o,p,q,s,t,u,x,y,z,rfl,F,G,H⟩:=h;have rev:∀(i:un),V.Le i->(l.1<0\/l.1=0/\l.2.1<0)->À 46 #[dB #[Õ (decide (l.1<0)),pT o p q,Õ (decide (l.2.1<0)),pT s t u,Õ (decide (l.2.2<0)),pT x y z]] i λr W=>dh W r (bC l):=λi m f=>by{refine (jO (a:=l.1) (b:=l.2.1) (c:=l.2.2) (n.le m)).s ?_;rintro r A B g;unfold bC;rw [Ä f];exact g};refine DU V _ λI J=>(po l.1 ra).s ?_;rintro r V2 K rfl;refine ⟨_,rfl,λf i m=>(rev i ax (.inl (Ww0.1 (Á f)))).s ?_,λf=>⟨λk L M=>(po l.2.1 ra).s ?_,λd N O=>?_⟩⟩;{rintro r A B g;have P:=g;obtain ⟨_,_,_,_,_,_,_,_,_,_,_,_,rfl⟩:=bT g;exact qxZ ⟨rfl,λQ R=>⟨_,_,rfl,ra⟩⟩};{have C:=Qm6.1 (by simpa using k);rintro r S T rfl;refine ⟨_,rfl,λj D U=>(rev D ax (.inr ⟨C,Ww0.1 (Á j)⟩)).s ?_,λj W X=>⟨_,_,rfl,?_⟩⟩;{rintro r Y Z g;obtain ⟨_,_,_,_,_,_,_,_,_,_,_,_,rfl⟩:=bT g;exact qxZ ⟨rfl,λgx E=>⟨_,_,rfl,ra⟩⟩};{have j:=Â j;unfold bC;rw [Ã λh=>j (Ww0.2 (h.elim (λh=>ω) (·.2)))];exact ra}};{have f:=Â f;have d:¬l.1=0:=λe=>by{rw [e] at d;simp at d};refine ⟨_,_,rfl,?_⟩;unfold bC;rw [Ã λh=>h.elim (λh=>f (Ww0.2 h)) (λh=>d h.1)];exact ra}
set_option maxHeartbeats 1000000 in
theorem vK (h:bM 6 dh V p n ls)(hn:ls.length<100000000)(hs:∀l∈ls,Bd l):À 101 #[pT p n c] V λr W=>∃q m e,r=pT q m e/\bM 6 dh W q m (aV ls)/\m<=e:=by
 obtain rfl:=h.len
 refine xu V _ ⟨λz V'=>∃i:Nat,z.2.2.2=(i:Int)/\i<=ls.length/\GR 6 dh V' z.1 z.2.1 z.2.2.1 (aV (ls.take i)),λz=>ls.length-z.2.2.2.toNat,
  ⟨(0,0,[],0),σ,0,rfl,ã _,GR.nil⟩,?_⟩
 rintro ⟨C,w2,us,z4⟩ V1 X ⟨i,Y,Ws,o⟩;dsimp only at Y o;subst Y;have Z:=o.len;have D:=o.le;have fv:=o.cap;have t:=o.row;refine ⟨rfl,λa=>?_,λa kE fw bk hb=>?_⟩;rotate_left
 ·grind [bM.bI,t.le,dh.le]
 have a:(i:Int)<ls.length:=Á a;have u:i<ls.length:=ω
 have w:i64.wrap ((i:Int)+1)=((i+1:Nat):Int):=by rw [au ω];rfl
 dsimp only;rw [Ü,w];obtain ⟨ad,ha,xs,-,hf,b⟩:=(h.le X λ_ _ g=>dh.le g X).at_ i u;have ⟨_,_,_,_,_,_,_,_,_,_,_,_,ex⟩:=bT hf;have ex:=Æ Array.toList (Value.agg.inj ex);dsimp only at ex;subst ex;have Xt:=M6 u;have v:=(hs _ (ô u)).can
 have a0:(aV (ls.take i)).length<100000000:=by have:=QT (ls.take i);rw [ê] at this;omega
 have Zo:∀q∈aV (ls.take i),Bd q:=λq E=>by obtain ⟨y,hy,rfl⟩:=ù.1 ((hU _).2 q |>.1 E);exact (hs y (Qn4 hy)).can
 clear o;generalize aV (ls.take i)=O at *;refine ⟨bj ha,ū,_,_,_,_,_,_,_,_,_,_,_,_,ad,ha,b 0 _ rfl,b 1 _ rfl,b 2 _ rfl,b 3 _ rfl,b 4 _ rfl,b 5 _ rfl,λV2 l2=>(Ep ra).s ?_⟩;generalize bC ls[i]=x at *;rintro r V3 l3 ⟨wv,bc,rfl,E⟩;have A:=E;obtain ⟨eb,ep,en,ec,fb,fp,fn,fe,gb,gp,gn,gc,rfl⟩:=bT E;refine ⟨_,_,_,_,_,_,_,_,_,_,_,_,_,rfl,λz _=>∃j:Nat,z=(j:Int)/\j<=O.length/\∀(s:Nat)(h:s<O.length),s<j->jP O[s] x<0,λz=>O.length-z.toNat,⟨0,σ,0,rfl,ã _,λs _ h=>Å h (Ş s)⟩,?_⟩;rintro z V4 l4 ⟨j,rfl,yo,jl⟩;have wj:i64.wrap ((j:Int)+1)=((j+1:Nat):Int):=by rw [au ω];rfl
 rw [Ü,wj];refine ⟨rfl,λz _=>z=true↔∃h:j<O.length,jP O[j] x<0,⟨λa=>?_,λa=>⟨false,σ,?_⟩⟩,?_⟩
 ·have a:=Á a;have f:j<O.length:=ω;obtain ⟨b1,F,G,H,b2,I,K,L,b3,M,N,P,Q,R,S⟩:=Iy t f;refine ⟨ū,D,b1,F,G,H,b2,I,K,L,b3,M,N,P,⟨Q,R⟩,λV5 l5=>(mG (S.le ax) (A.le ax) (Zo _ (ô f)).iS v.iS).s λr V6 l6 rfl=>⟨_,rfl,_,σ,by dsimp only;rw [Ñ];exact ⟨λh=>⟨f,h⟩,λ⟨_,h⟩=>h⟩⟩⟩
 ·have a:=Â a;exact ⟨π,λ⟨h,_⟩=>Å h ω⟩
 rintro z V7 l7 Ua;refine ⟨rfl,λk=>?_,λk=>?_⟩
 ·have ⟨f,a1⟩:=Ua.1 k;refine ⟨((j+1:Nat):Int),by dsimp only;omega,σ,j+1,rfl,f,λs h a2=>?_⟩<;>grind
 have T:∀h:j<O.length,¬jP O[j] x<0:=λh B=>by have:=Ua.2 ⟨h,B⟩;rw [k] at this;cases this
 have d:=XE O j yo jl T;refine ⟨λz _=>z=true↔¬∃h:j<O.length,O[j]=x,⟨λhe=>⟨true,σ,?_⟩,λhe=>?_⟩,?_⟩
 ·have he:(j:Int)=(C:Int):=by{simpa using he};exact ⟨λ_ ⟨h,_⟩=>Å h ω,λ_=>rfl⟩
 ·have he:¬(j:Int)=(C:Int):=by{simpa using he};have f:j<O.length:=ω;obtain ⟨b1,F,G,H,b2,I,K,L,b3,M,N,P,Q,R,S⟩:=Iy t f;refine ⟨ū,D,b1,F,G,H,b2,I,K,L,b3,M,N,P,⟨Q,R⟩,λV8 l8=>(mG (S.le ax) (A.le ax) (Zo _ (ô f)).iS v.iS).s λr V9 l9 rfl=>⟨_,rfl,_,σ,by dsimp only;rw [bne_iff_ne,ne_eq,Hz];exact ⟨λh ⟨_,B⟩=>h B,λh B=>h ⟨f,B⟩⟩⟩⟩
 rintro z gx a3 Cn;refine ⟨rfl,λk fu dM bk hb J=>?_,λk=>?_⟩
 ·have U:=Cn.1 k;rw [Ã U] at d;obtain ⟨xs,ys,x1,x2,x3,y1,y2,y3,r1,r2,r3,r4,r5⟩:=Be (V:=fu) (GR.s ⟨Z,D,fv,t⟩ λ_ _ g=>dh.le g ax) φ (λ_ _=>Ix) hb (es:=[_,_,_,_,_,_]) rfl ra (j:=j);refine ⟨ū,ū,ū,xs,x1,x2,ω,Ù _,Ù 6,x2,x3,λa4 J2 sp c' h1 h2=>?_⟩;rw [r1,r2];refine ⟨ys,y1,y2,Ù _,y3,ω,ω,r3,r4,λa5 W h3 h4=>⟨(j+(1+(C-j)),W,_,((i+1:Nat):Int)),by dsimp only;omega,by and_intros<;>first|rfl|omega,i+1,rfl,u,?_⟩⟩;show GR 6 dh _ _ _ _ (aV (ls.take (i+1)));grind
 ·have hex:=Qv0 λh=>by{have:=Cn.2 h;rw [k] at this;cases this};rw [Ä hex] at d;refine ⟨(C,w2,us,((i+1:Nat):Int)),by dsimp only;omega,σ,i+1,rfl,u,?_⟩;show GR 6 dh _ _ _ _ (aV (ls.take (i+1)));rw [Xt,d];exact ⟨Z,D,fv,t.le λ_ _ g=>dh.le g ax⟩
theorem Hs {A}(h:bM 6 cW V p n A)(hn:A.length<=1000000){k}(hs:∀x∈A,Sz k x.1/\Sz k x.2)(hk:k<=2^40:=by omega):À 102 #[pT p n c] V λr W=>∃q m e,r=pT q m e/\bM 6 df W q m A:=by obtain rfl:=h.len;refine Fk V _ ⟨λz V'=>∃j:Nat,z.2.2.2=(j:Int)/\j<=A.length/\GR 6 df V' z.1 z.2.1 z.2.2.1 (A.take j),λz=>A.length-z.2.2.2.toNat,⟨(0,0,[],0),σ,0,rfl,ã _,GR.nil⟩,?_⟩;rintro ⟨t,O,P,Q⟩ R i ⟨j,l,S,d⟩;dsimp only at l d;subst l;have u:=d.len;rw [ê] at u;refine ⟨rfl,λb=>?_,λb T v U y=>?_⟩;{have b:(j:Int)<A.length:=Á b;have f:j<A.length:=ω;have w:i64.wrap ((j:Int)+1)=((j+1:Nat):Int):=by{rw [au ω];rfl};dsimp only;rw [Ü,w];obtain ⟨B,b1,W,X,Y,Z,n2,c2,b2,p3,n3,c3,p4,n4,c4,a,C,D,E,F,G,H,I,g⟩:=gI cW.shape (h.le i λ_ _ g=>cW.le g i) f;have ⟨s1,s2⟩:=hs _ (ô f);refine ⟨B,ū,_,_,_,_,_,_,_,_,_,_,_,_,_,_,a,C,D,E,F,G,H,I,λV2 J=>(JY (g.le J) s1 s2 hk).s ?_⟩;rintro r o l3 K;have s:df o r A[j]:=K;obtain ⟨_,_,_,_,_,_,_,_,_,_,_,_,_,_,rfl⟩:=s.shape;refine qyJ ⟨rfl,ω,d.le,d.cap,rfl,PD,λsp L M N=>⟨(t+1,L,_,((j+1:Nat):Int)),by dsimp only;omega,σ,j+1,rfl,f,?_⟩⟩;dsimp only;rw [Ķ,ï f];exact (d.s (V':=o) λ_ _ g=>df.le g ax).snoc rfl s φ M N};{have b:¬(j:Int)<A.length:=Â b;obtain rfl:j=A.length:=ω;rw [Ĥ] at d;obtain rfl:=d.len;exact ⟨_,_,_,rfl,bM.bI y (d.row.le λ_ _ g=>df.le g v) φ d.le⟩}
theorem nW {q}(h:RQ V v q):À 95 #[v] V λr W=>r=Jq q.num.sign:=by obtain ⟨_,_,_,_,_,_,rfl,a,-⟩:=h;exact sS q a
theorem vL {p}(h:RP V v p.1 p.2):À 221 #[v] V λr W=>r=Jq (aq.half p):=by obtain ⟨_,_,_,_,_,_,_,_,_,_,_,_,rfl,o,q⟩:=h;refine Fl V _ λs t=>(nW ra).s ?_;rintro r V2 u rfl;refine ⟨_,rfl,λw x=>(nW ra).s ?_⟩;rintro r y A rfl;have key:∀z:Int,(z=if p.2.num.sign>0\/p.2.num.sign=0/\p.1.num.sign>0 then 1 else if p.2.num.sign<0\/p.1.num.sign<0 then 2 else 0)->Value.int .i64 z=Jq (aq.half p):=λz e=>by{rw [e];rfl};refine ⟨_,rfl,λa=>?_,λa=>?_⟩;{have a:p.1.num.sign=0:=by{simpa using a};refine ⟨λb B C=>key _ ?_,λb=>⟨λc f g=>key _ ?_,λc=>⟨λd=>⟨λe i j=>key _ ?_,λe k l=>key _ ?_⟩,λd m n=>key _ ?_⟩⟩⟩;{have b:p.2.num.sign=0:=by{simpa using b};rw [Ã ω,Ã ω]};{have c:=Á c;rw [Ä (.inl c)]};{have b:¬p.2.num.sign=0:=by{simpa using b};have d:p.2.num.sign=0:=by{simpa using d};exact Å d b};{have b:¬p.2.num.sign=0:=by{simpa using b};have d:p.2.num.sign=0:=by{simpa using d};exact Å d b};{have b:¬p.2.num.sign=0:=by{simpa using b};have c:=Â c;rw [Ã ω,Ä ω]}};{have a:¬p.1.num.sign=0:=by{simpa using a};refine ⟨λc f g=>key _ ?_,λc=>⟨λd=>⟨λe i j=>key _ ?_,λe k l=>key _ ?_⟩,λd m n=>key _ ?_⟩⟩;{have c:=Á c;rw [Ä (.inl c)]};{have d:p.2.num.sign=0:=by{simpa using d};have e:=Á e;rw [Ä (.inr ⟨d,e⟩)]};{have d:p.2.num.sign=0:=by{simpa using d};have e:=Â e;rw [Ã ω,Ä ω]};{have d:¬p.2.num.sign=0:=by{simpa using d};have c:=Â c;rw [Ã ω,Ä ω]}}
theorem sign_b (q:Rat):-1<=q.num.sign/\q.num.sign<=1:=by rcases Qp8 q.num 0 with h|h|h;{rw [Qd2 h];omega};{rw [h];decide};{rw [Qf8 h];omega}
theorem Eo {a b}(h:RP V v a.1 a.2)(M:RP V w b.1 b.2)(s1:Sz k a.1)(s2:Sz k a.2)(s3:Sz k b.1)(s4:Sz k b.2)(N:4*k+4<2^38:=by omega):À 161 #[v,w] V λr W=>r=Jq (aq.cM a b):=by have f:=h;have d:=M;obtain ⟨_,_,_,_,_,_,_,_,_,_,_,_,rfl,-⟩:=h;obtain ⟨_,_,_,_,_,_,_,_,_,_,_,_,rfl,-⟩:=M;refine DT V _ λi j=>(vL ra).s ?_;rintro r V2 l rfl;refine ⟨_,rfl,λm n=>(vL ra).s ?_⟩;rintro r o p rfl;refine ⟨_,rfl,λg=>⟨λc q s=>?_,λc t u=>?_⟩,λg x y=>(jE ra ra s1 s2 s3 s4 N).s ?_⟩;{unfold aq.cM;rw [Ä (Á c)]};{have g:aq.half a≠aq.half b:=by{simpa using g};have c:=Â c;unfold aq.cM;rw [Ã c,Ä ω]};{have g:aq.half a=aq.half b:=by{simpa using g};rintro r z A gc;obtain ⟨_,_,_,_,_,_,rfl⟩:=gc.shape;refine qyK ⟨rfl,λB C=>(nW ra).s λr D e rfl=>⟨_,rfl,λE F=>?_⟩⟩;have G:=sign_b (a.1*b.2-a.2*b.1);rw [au ω];unfold aq.cM;rw [Ã ω,Ã ω];show _=Value.int .i64 (-(a.1*b.2-a.2*b.1).num.sign);congr 1;omega}
theorem Bi {al}(h:bM 6 dh V p n al)(hi:i<al.length):p.isSome=true/\∃(b1:ut)(u:OA)(y c1:Nat)(b2:ut)(z:OA)(E F:Nat)(b3:ut)(M:OA)(N O:Nat)(a:Addr),af p (i*6)=some a/\V.at (a.add 0) (Õ b1)/\V.at (a.add 1) (pT u y c1)/\V.at (a.add 2) (Õ b2)/\V.at (a.add 3) (pT z E F)/\V.at (a.add 4) (Õ b3)/\V.at (a.add 5) (pT M N O)/\dh V (dB #[Õ b1,pT u y c1,Õ b2,pT z E F,Õ b3,pT M N O]) al[i]:=by have ⟨f,c,xs,g,d,b⟩:=h.at_ i hi;have ⟨_,_,_,_,_,_,_,_,_,_,_,_,e⟩:=bT d;have e:=Æ Array.toList (Value.agg.inj e);subst e;refine ⟨?_,_,_,_,_,_,_,_,_,_,_,_,_,f,c,b 0 _ rfl,b 1 _ rfl,b 2 _ rfl,b 3 _ rfl,b 4 _ rfl,b 5 _ rfl,d⟩;(cases p with|none=>{cases c}|some a=>rfl)
theorem P9 {m}(sl:jC k l)(sm:jC k m):Sz (20*k+20) (meX l m)/\Sz (20*k+20) (meY l m):=by obtain ⟨a,b,c⟩:=sl;obtain ⟨b1,b2,b3⟩:=sm;exact ⟨(Sz.mul ((b.mul b3).sub (c.mul b2)) (il ((a.mul b2).sub (b.mul b1)))).s ω,(Sz.mul ((c.mul b1).sub (a.mul b3)) (il ((a.mul b2).sub (b.mul b1)))).s ω⟩
theorem TF {q:L3->Prop}(u:∀l,q l->q (bC l))(h:∀l∈ls,q l):∀l∈aV ls,q l:=λl a=>by grind [hU]
def UJ (p:Rat×Rat):Rat×Rat:=(-p.1,-p.2)
theorem Lt {p}(s1:Sz k p.1)(s2:Sz k p.2):Sz (3*k+3) (iO p).1/\Sz (3*k+3) (iO p).2:=
 ⟨(Sz.mul s1 (il (gU s1 s2))).s ω,(Sz.mul s2 (il (gU s1 s2))).s ω⟩
structure SB (V:Ó) (n:Nat) (vs:List Value) (l:List (Rat×Rat)):Prop where
 row:é 6 oT V vs l
 len:n=l.length
 iY:l.length<20000
theorem SB.le {V V' l}(h:SB V n vs l)(e:V.Le V'):SB V' n vs l:=⟨h.row.le λ_ _ g=>oT.le g e,h.len,h.iY⟩
theorem SB.get {l}(h:SB V n vs l){k}(F:k<l.length):∃(x y:Int)(p:OA)(u z:Int)(E:OA),((0+k*6)+6<=vs.length/\(vs.drop (0+k*6)).take 6=[Jq x,Jq y,qvZ p,Jq u,Jq z,qvZ E])/\oT V (dB #[Jq x,Jq y,qvZ p,Jq u,Jq z,qvZ E]) (l.getD k nJ):=by obtain ⟨xs,-,b,c,f⟩:=h.row.get (d:=nJ) F φ;have a:=b;obtain ⟨x,y,p,u,z,E,e⟩:=b.shape;have e:=Æ Array.toList (Value.agg.inj e);dsimp only at e;subst e;rw [Ĉ];exact ⟨x,y,p,u,z,E,⟨c,f⟩,a⟩
theorem oT.cells {c}(h:oT V v c):∃xs:zA um,v=.agg xs.toArray/\xs.length=6/\∀x∈xs,x.oneCell'=true:=by obtain ⟨_,_,_,_,_,_,rfl⟩:=h.shape;exact ⟨_,rfl,rfl,Ħ.1 rfl⟩
theorem JN {lb l}(hw:V.w.heap[lb]?=some (.cells vs.toArray 84 (0,0)))(z:V.X lb)(h:SB V n vs l):À 25 #[pT (some ⟨lb,0,none⟩) n c,.func (.func 36) #[] #[]] V λr W=>r=æ #[]/\∃u l',W.w.heap[lb]?=some (.cells u.toArray 84 (0,0))/\SB W n u l'/\l'.Perm l/\l'.Pairwise λx y=>¬OX y x<0:=by have iY:=h.iY;refine (wT (R:=oT) (cf:=OX) tF aggP sizP oT.le oT.cells ordCP BM φ hw z h.row h.len).s ?_;rintro r V' b ⟨rfl,u,l',e,row,pm,a⟩;exact ⟨rfl,u,l',e,⟨row,h.len.m pm.length_eq.symm,by rw [pm.length_eq];exact iY⟩,pm,a⟩
theorem zW:À 25 #[pT none 0 0,.func (.func 36) #[] #[]] V λr W=>r=æ #[]:=
 (oL tF).s λ_ _ _ h=>h.1
set_option maxHeartbeats 1000000 in
theorem BI {V lb n c vs l}(hw:V.w.heap[lb]?=some (.cells vs.toArray 84 (0,0)))(hx:V.X lb)(h:SB V n vs l)(hc:n<=c):À 28 #[pT (some ⟨lb,0,none⟩) n c,.func (.func 75) #[] #[]] V λr W=>∃vs',r=pT (some ⟨lb,0,none⟩) (bU eP l).length c/\W.w.heap[lb]?=some (.cells vs'.toArray 84 (0,0))/\é 6 oT W vs' (bU eP l)/\vs'.length=vs.length:=by
 have iY:=h.iY;have len:=h.len;have a0:=h.row.dN φ;refine oQ lb n c vs V _ hw hx ⟨λx V1 l1 J=>?_,λx=>⟨λz V'=>∃k:Nat,z=((k+1:Nat):Int)/\k+1<=n/\bU eP (l.take (k+1))=l.take (k+1),λz=>n-z.toNat,⟨1,σ,0,rfl,by have:=Â x;omega,nZ (by rw [ê];omega)⟩,?_⟩⟩
 ·have x:(n:Int)<2:=Á x;have e:=nZ (e:=eP) (l:=l);rw [e,<-len];exact ⟨vs,rfl,J,h.row.le λ_ _ g=>oT.le g l1,rfl⟩
 have x:¬(n:Int)<2:=Â x;rintro z V2 l2 ⟨k,rfl,hk,j⟩;have H:=h.le l2;refine ⟨rfl,λb=>?_,λb V9 l9 K=>?_⟩;rotate_left
 ·have b:¬((k+1:Nat):Int)<n:=Â b;have e:l.take (k+1)=l:=Ŋ ω;rw [e] at j;rw [j,<-len];exact ⟨vs,rfl,K,h.row.le λ_ _ g=>oT.le g ax,rfl⟩
 have b:((k+1:Nat):Int)<n:=Á b;have w1:i64.wrap (((k+1:Nat):Int)-1)=(k:Int):=by rw [au ω];omega
 have w2:i64.wrap (((k+1:Nat):Int)+1)=((k+1+1:Nat):Int):=by rw [au ω];rfl
 rw [w1,w2,Ü,Ü];obtain ⟨y,A,B,C,D,E,I,W⟩:=H.get (k:=k+1) ω;obtain ⟨L,M,N,O,P,Q,R,Y⟩:=H.get (k:=k) ω;refine ⟨⟨ω,b⟩,y,A,B,C,D,E,I,ū,L,M,N,O,P,Q,R,λV3 l3=>(Tl ra ra).s ?_⟩;rintro r V4 l4 rfl;have step:=ir (e:=eP) (d:=nJ) (l:=l) (k:=k);refine ⟨_,rfl,λhe=>⟨ū,?_⟩,λhe=>⟨((k+1+1:Nat):Int),by dsimp only;omega,σ,k+1,rfl,ω,?_⟩⟩;rotate_left
 ·have p:eP (l.getD (k+1) nJ) (l.getD k nJ)=false:=he;rw [step,j,p];show l.take (k+1)++[_]=_;have F:k+1<l.length:=ω;rw [show l.getD (k+1) nJ=l[k+1] by rw [ĕ,ï F];rfl,š F]
 have p:eP (l.getD (k+1) nJ) (l.getD k nJ)=true:=he;have oC:=l3.m l4;have Z:∀{m:Nat},m<c->jW 0 c m 6=m*6:=λhm=>by unfold jW;rw [Ã ω,Ĉ]
 refine ⟨λz V'=>∃(q t:Nat)(m:zA (Rat×Rat)),z.1=(q:Int)/\z.2.1=((t+1:Nat):Int)/\q<=k+1+t/\k+1+t+1<=n/\SB V' n z.2.2 m/\z.2.2.length=vs.length/\(∀i,k+1+t<=i->m.getD i nJ=l.getD i nJ)/\m.take q=bU eP (l.take (k+1+t+1)),λz=>n-z.2.1.toNat,
  ⟨(((k+1:Nat):Int),1,vs),σ,k+1,0,l,rfl,rfl,ω,ω,ra,rfl,λi _=>rfl,?_⟩,?_⟩
 ·rw [Ę,step,p,Ä rfl,ą,j]
 rintro ⟨zq,zt,us⟩ V5 l5 ⟨q,t,m,e1,e2,hq,ht,s,S,hm,G⟩;dsimp only at e1 e2 s S;subst e1 e2;dsimp only;have ml:=s.len;have a3:=s.row.dN φ;refine ⟨rfl,λa=>?_,λa=>?_⟩
 ·have a:((t+1:Nat):Int)<((n-(k+1):Nat):Int):=Á a;have w3:i64.wrap (((t+1:Nat):Int)-1)=(t:Int):=by{rw [au ω];omega};have w4:i64.wrap (((t+1:Nat):Int)+1)=((t+1+1:Nat):Int):=by{rw [au ω];rfl};have w5:i64.wrap ((q:Int)+1)=((q+1:Nat):Int):=by{rw [au ω];rfl};rw [w3,w4,w5,Ü,Ü,Ü,Z ω];obtain ⟨y,A,B,C,D,E,I,W⟩:=s.get (k:=k+1+(t+1)) ω;obtain ⟨L,M,N,O,P,Q,R,Y⟩:=s.get (k:=k+1+t) ω;have a1:(k+1)*6+(t+1)*6=0+(k+1+(t+1))*6:=ω;have a2:(k+1)*6+t*6=0+(k+1+t)*6:=ω;rw [a1,a2];rw [hm _ ω] at W;rw [hm _ ω] at Y;refine ⟨⟨ω,a⟩,y,A,B,C,D,E,I,ū,L,M,N,O,P,Q,R,λV6 l6=>(Tl ra ra).s ?_⟩;rintro r V7 l7 rfl;have Wu:=l6.m l7;have f:=ir (e:=eP) (d:=nJ) (l:=l) (k:=k+1+t);refine ⟨_,rfl,λT=>⟨⟨ω,a⟩,y,A,B,C,D,E,I,ū,ω,(((q+1:Nat):Int),((t+1+1:Nat):Int),_),by dsimp only;omega,σ,q+1,t+1,m.set q (l.getD (k+1+(t+1)) nJ),rfl,rfl,ω,ω,?_,?_,λi F=>?_,?_⟩,λT=>⟨(((q:Nat):Int),((t+1+1:Nat):Int),us),by dsimp only;omega,σ,q,t+1,m,rfl,rfl,ω,ω,ra,S,λi F=>hm i ω,?_⟩⟩;{refine ⟨?_,by rw [Qc9];exact ml,by rw [Qc9];exact s.iY⟩;have:=(s.le Wu).row.put (i:=q) ω φ (xs:=[Jq y,Jq A,qvZ B,Jq C,Jq D,qvZ E]) rfl ra;dsimp only;rw [Ĉ];exact this};{exact (mR (vs:=us) (xs:=[Jq y,Jq A,qvZ B,Jq C,Jq D,qvZ E]) (o:=0+q*6) (by show 0+q*6+6<=_;omega)).m S};{rw [ĕ,Qb3 ω,<-ĕ];exact hm i ω};{have u:eP (l.getD (k+1+(t+1)) nJ) (l.getD (k+1+t) nJ)=false:=by{simpa using T};have v:eP (l.getD (k+1+t+1) nJ) (l.getD (k+1+t) nJ)=false:=u;have F:q<m.length:=ω;rw [show k+1+(t+1)+1=k+1+t+2 from rfl,f,v,<-G,Ã φ];rw [Qh3,Ķ,ï F,show (some m[q]).toList=[m[q]] from rfl];rw [Wq4 _ _ (by rw [ê];omega),ê,ğ ω,Wv1];rfl};{have u:eP (l.getD (k+1+(t+1)) nJ) (l.getD (k+1+t) nJ)=true:=by{simpa using T};have v:eP (l.getD (k+1+t+1) nJ) (l.getD (k+1+t) nJ)=true:=u;rw [show k+1+(t+1)+1=k+1+t+2 from rfl,f,v,Ä rfl,ą,G]}
 ·have a:¬((t+1:Nat):Int)<((n-(k+1):Nat):Int):=Â a;have hl:l.take (k+1+t+1)=l:=Ŋ ω;rw [hl] at G;have a4:q<n:=by{have:=HC (e:=eP) (d:=nJ) (l:=l) (k:=k) ω p;rw [<-G,ê] at this;omega};rw [Ü,Z ω];have hz:q*6+(n-q)*6=n*6:=by{rw [<-Ē];congr 1;omega};rw [hz];refine ⟨ū,ω,ū,λV8 l8 U=>⟨_,?_,U,?_,?_⟩⟩;{rw [<-G,ê,ğ ω]};{rw [<-G,ě];exact (s.row.le λ_ _ g=>oT.le g l8).Hx ω φ};{simp only [î,ê,Į,mV,Qr6,Qs6,Qt7,Ā,Ļ];omega}
theorem uF:À 28 #[pT none 0 0,.func (.func 75) #[] #[]] V λr W=>r=pT none 0 0:=
 kR V _ ⟨λ_ a b=>rfl,λh=>Å (Â h) φ⟩
def SC (n c:Nat)(l:List (Rat×Rat)):Prop:=∀(V:Ó)(lb:Nat)(vs:List Value),V.w.heap[lb]?=some (.cells vs.toArray 84 (0,0))->V.X lb->SB V n vs l ->
 À 25 #[.slice (some ⟨lb,0,none⟩) n c,.func (.func 36) #[] #[]] V λr W=>r=.tuple #[]/\∃u l',W.w.heap[lb]?=some (.cells u.toArray 84 (0,0))/\SB W n u l'/\l'.Perm l/\l'.Pairwise λx y=>¬OX y x<0
theorem VE (n c l):SC n c l:=λ_ _ _ hw a h=>JN hw a h
theorem vE {V lb n c o}(hw:vs≠[]->V.w.heap[lb]?=some (.cells vs.toArray 84 (0,0)))(hx:vs≠[]->V.X lb)(hg:GR 6 oT V n c vs o)(hpos:vs≠[]->0<n)(hs:o.length<20000)(hso:SC n c o):À 35 #[pT (mA lb c) n c] V λr V'=>∃(bm:Nat)(vm:zA um)(n' c':Nat)(m:zA (Rat×Rat)),(vm≠[]->V'.w.heap[bm]?=some (.cells vm.toArray 84 (0,0)))/\(vm≠[]->V.w.heap.size<=bm\/(vs≠[]/\bm=lb))/\r=pT (mA bm c') n' c'/\é 6 oT (V'.bf (vm≠[]) bm) vm (bU eP m)/\n'=(bU eP m).length/\n'<=c'/\m.Perm o/\m.Pairwise λx y=>¬OX y x<0:=by have F:∀{A B:Prop},A\/B\/False->A\/B:=λh=>h.imp id λh=>h.elim id False.elim;have i:=hg.cap;have hle:=hg.le;have hlen:=hg.len;refine xk lb n c vs V _ hw hx ⟨λd=>?_,λd u G j f1 f2=>?_⟩;{subst d;have H:c=0:=by{simp at i;omega};subst H;have I:n=0:=ω;subst I;have k:o=[]:=Ĝ.1 hlen.symm;refine ⟨rfl,λS T=>zW.s ?_⟩;rintro r V2 U rfl;refine ⟨rfl,λW Y Z e1 e2=>uF.s ?_⟩;rintro r V4 l4 rfl;refine ⟨0,[],λh=>Å rfl h,λh=>Å rfl h,none,0,0,rfl,λV5 J v z C=>⟨J,[],0,0,[],λh=>Å rfl h,λh=>Å rfl h,rfl,é.nil,rfl,Ù _,?_,List.Pairwise.nil⟩⟩;rw [k]};{have K:=hpos d;have s:c≠0:=ω;have t:∀b,mA b c=some ⟨b,0,none⟩:=λb=>by{unfold mA;rw [Ã s]};rw [t];refine (hso (u.aw [vb vs u.w.heap.size j]) j vs (f1 d) ⟨by simp [kt d],f2 d⟩ ⟨hg.row.le λ_ _ g=>oT.le g λb o h=>G b o h,hlen,hs⟩).s ?_;rintro r V7 l7 ⟨rfl,a,m,z,sr,pm,L⟩;have M:=pm.length_eq;have f:a≠[]:=λe=>by{have:=sr.row.dN φ;rw [e,M,<-hlen] at this;simp at this;omega};refine ⟨rfl,d,a,f,z,λD N p O E=>?_⟩;rw [t];refine ae.Uy (BI (V:=D.aw [vb a D.w.heap.size p]) (lb:=p) (vs:=a) (l:=m) (O f) ⟨by simp [kt f],E f⟩ (sr.le λb o h=>N b o h) hle) ?_;rintro r V9 l9 P ⟨ws,rfl,C,row,wl⟩;have hk:=jQ (e:=eP) (l:=m);refine ⟨p,ws,λ_=>C,λ_=>.inr ⟨f,rfl⟩,some ⟨p,0,none⟩,(bU eP m).length,c,by rw [t],λgx q v Q R=>⟨q,ws,_,c,m,Q,λh=>F (R h),rfl,?_,rfl,ω,pm,L⟩⟩;exact row.le λ_ _ g=>oT.le g ((Cw λ_=>P p (E f)).m v)}
theorem NC (n){d}(h:d≠0):mkRat n d*((d:Nat):Rat)=(n:Rat):=by have a:((d:Nat):Rat)≠0:=by{exact_mod_cast h};rw [Rat.mkRat_eq_div,Rat.div_def];exact aq.inv_mul a _
theorem TX {p}(h:aq.nz p):eG p.1 p.2>0:=by have a:p.1.den*p.2.den≠0:=Ō p.1.den_nz p.2.den_nz;have e:=NC (Nat.gcd (p.1.num.natAbs*p.2.den) (p.2.num.natAbs*p.1.den):Nat) a;have b:0<Nat.gcd (p.1.num.natAbs*p.2.den) (p.2.num.natAbs*p.1.den):=by{apply Qt0;intro z;rw [Qr8] at z;have c:p.1=0:=by{rcases Qp3.1 z.1 with e|e;{exact Ŝ.1 ω};{exact Å e p.2.den_nz}};have d:p.2=0:=by{rcases Qp3.1 z.2 with e|e;{exact Ŝ.1 ω};{exact Å e p.1.den_nz}};unfold aq.nz at h;rcases h with h|h;{exact h c};{exact h d}};have d0:((p.1.den*p.2.den:Nat):Rat)>0:=by{exact_mod_cast Qt0 a};have g:(((Nat.gcd (p.1.num.natAbs*p.2.den) (p.2.num.natAbs*p.1.den):Nat):Int):Rat)>0:=by{exact_mod_cast b};show mkRat _ _>0;generalize mkRat ((Nat.gcd (p.1.num.natAbs*p.2.den) (p.2.num.natAbs*p.1.den):Nat):Int) (p.1.den*p.2.den)=q at *;by_cases f:q>0;{exact f};{have:=aq.mn (show -q≥0 by grind) (show ((p.1.den*p.2.den:Nat):Rat)≥0 by grind);grind}
theorem wC {p}(h:aq.nz p):∃c:Rat,c>0/\iO p=(c*p.1,c*p.2):=
 ⟨(eG p.1 p.2)⁻¹,Wq0.2 (TX h),Ww7 (Wv0 ..) (Wv0 ..)⟩
theorem Pz (h:¬(l.1=0/\l.2.1=0)):aq.nz (aq.aB l):=by unfold aq.nz aq.aB;by_cases e:l.2.1=0;{right;intro a;have:(l.1:Rat)=0:=χ;exact h ⟨by exact_mod_cast this,e⟩};{left;show (l.2.1:Rat)≠0;exact_mod_cast e}
theorem US (h:bX l=true):¬(l.1=0/\l.2.1=0):=by unfold bX at h;rw [Ċ,decide_eq_true_iff] at h;exact h.1
def QS (p:Rat×Rat)(l:L3):List (Rat×Rat):=if ay l p.1 p.2=0 then [aq.aB l,((-(aq.aB l).1,-(aq.aB l).2):Rat×Rat)] else []
def qo (p:Rat×Rat)(ls:List L3):List (Rat×Rat):=ls.flatMap (QS p)
theorem oh {p}{r:Rat×Rat}(h:r∈qo p ls):∃l∈ls,ay l p.1 p.2=0/\(r=aq.aB l\/r=(-(aq.aB l).1,-(aq.aB l).2)):=by have ⟨l,b,a⟩:=ċ.1 h;unfold QS at a;split at a;{rename_i e;simp only [ç,Ġ,Ì] at a;exact ⟨l,b,e,a⟩};{cases a}
theorem tu {p}(u:l∈ls)(e:ay l p.1 p.2=0):aq.aB l∈qo p ls/\((-(aq.aB l).1,-(aq.aB l).2):Rat×Rat)∈qo p ls:=by constructor<;>refine ċ.2 ⟨l,u,?_⟩<;>unfold QS<;>rw [Ä e]<;>simp
theorem WK {v}(h:aq.nz v):¬aq.cM v (-v.1,-v.2)=0:=by rw [aq.fA];rintro ⟨e,-⟩;unfold aq.nz at h;(rcases aq.dH v with ⟨b,a⟩|⟨b,a⟩|⟨b,a⟩<;>rcases aq.dH (-v.1,-v.2) with ⟨g1,g2⟩|⟨g1,g2⟩|⟨g1,g2⟩<;>first|omega|skip);{unfold aq.up at a g2;dsimp only at g2;grind};{unfold aq.dn at a g2;dsimp only at g2;grind};{grind}
theorem oU {u v}(h:aq.cM u v=0):aq.cM v u=0:=by rw [aq.fA] at *;have:=aq.eA u v;exact ⟨h.1.symm,χ⟩
theorem Kj {p}:∀{ls:zA L3},(∀l∈ls,bX l=true/\bC l=l)->ls.Nodup->(qo p ls).Pairwise λx y=>¬aq.cM x y=0
 | [],_,_=>List.Pairwise.nil
 | l::r,h,u=>by
  have z:=Kj (p:=p) (λm hm=>h m (ø _ hm)) (Wj8.1 u).2;have:qo p (l::r)=QS p l++qo p r:=rfl;rw [this];have ⟨ol,f⟩:=h l (Ć ..);have nl:=Pz (US ol);refine Qf2.2 ⟨?_,z,λx g y a e=>?_⟩
  ·unfold QS;split
   ·exact Ģ.2 ⟨λy a=>by rcases õ.1 a with rfl;exact WK nl,Qf3 ..⟩
   ·exact List.Pairwise.nil
  ·have b:x∈qo p [l]:=by show x∈QS p l++[];rw [ą];exact g
   have ⟨i,d,j,k⟩:=oh b;rcases õ.1 d with rfl;have ⟨m,hm,n,o⟩:=oh a;have ⟨q,s⟩:=h m (ø _ hm)
   have t:aq.cr (aq.aB i) (aq.aB m)=0:=by
    have c:=(aq.fA.1 e).2;rcases k with rfl|rfl<;>rcases o with rfl|rfl<;>unfold aq.cr at c⊢<;>grind
   have:=aq.GH ol q f s j n t;exact (Wj8.1 u).1 (this▸hm)
theorem TE {p}(h:∀l∈ls,bX l=true/\bC l=l)(u:ls.Nodup){m}(pm:m.Perm (qo p ls))(z:m.Pairwise λx y=>¬OX y x<0):aq.YU m:=by refine aq.Yi z (λr a=>?_) (λr a=>?_) (pm.symm.pairwise (Kj h u) λe c=>e (oU c));{obtain ⟨l,b,-,e⟩:=oh (pm.mem_iff.1 a);have nl:=Pz (US (h l b).1);rcases e with rfl|rfl;{exact nl};{unfold aq.nz at *;rcases nl with nl|nl;{left;dsimp only;grind};{right;dsimp only;grind}}};{have ⟨l,b,d,e⟩:=oh (pm.mem_iff.1 a);have ⟨f,g⟩:=tu b d;rcases e with rfl|rfl;{exact ⟨_,pm.mem_iff.2 g,1,φ,by dsimp only;grind,by dsimp only;grind⟩};{exact ⟨_,pm.mem_iff.2 f,1,φ,by dsimp only;grind,by dsimp only;grind⟩}}
theorem TD {p m}(pm:m.Perm (qo p ls)){M}(u:∀l∈M,ay l p.1 p.2=0/\bC l∈ls):aq.Cov m M:=by intro l a;have ⟨e,b⟩:=u l a;have c:ay (bC l) p.1 p.2=0:=by{unfold bC;split;{unfold ay Ö at *;simp only [Qh0];grind};{exact e}};have ⟨d,f⟩:=tu b c;have two:aq.aB (bC l)=aq.aB l\/((-(aq.aB (bC l)).1,-(aq.aB (bC l)).2):Rat×Rat)=aq.aB l:=by{unfold bC;split;{right;unfold aq.aB Ö;simp only [Qh0];exact Ww7 (by dsimp only;grind) (by dsimp only;grind)};{left;rfl}};rcases two with t|t;{exact ⟨_,pm.mem_iff.2 d,1,φ,by rw [t];exact Ww7 (by dsimp only;grind) (by dsimp only;grind)⟩};{exact ⟨_,pm.mem_iff.2 f,1,φ,by rw [t];exact Ww7 (by dsimp only;grind) (by dsimp only;grind)⟩}
def LL:L3:=(0,1,0)
theorem LL_ok:bX LL=true:=φ
theorem Di {z:Int}(k:Nat)(u:k≠0)(h:z.natAbs<=1):z.natAbs<2^k:=ś h (Qd8 u)
theorem LL_bd' (k:Nat)(u:k≠0):LL.1.natAbs<2^k/\LL.2.1.natAbs<2^k/\LL.2.2.natAbs<2^k:=⟨Di k u φ,Di k u φ,Di k u φ⟩
theorem Sw:Bd LL:=LL_bd' 1000 φ
theorem Ju {a b c}(h:RL V v a b c):∃(b1:ut)(u:OA)(y c1:Nat)(b2:ut)(z:OA)(E F:Nat)(b3:ut)(M:OA)(N O:Nat),v=dB #[Õ b1,pT u y c1,Õ b2,pT z E F,Õ b3,pT M N O]:=by obtain ⟨p,n,s,d,f,g,q,m,e,rfl,-⟩:=h;grind
theorem Hv {u}(y:RP V u ((0:Int):Rat) ((0:Int):Rat))(z:RP V w ((1:Int):Rat) ((0:Int):Rat)):À 37 #[u,w] V λr W=>∃l,r=æ #[l,Õ true]/\RL W l LL.1 LL.2.1 LL.2.2:=by have a:Sz 1 ((0:Int):Rat):=by{unfold Sz;decide};refine (kd y z a a Of a ω).s ?_;have b:(qv ((0:Int):Rat) ((0:Int):Rat) ((1:Int):Rat) ((0:Int):Rat)).1.num=0:=κ;have c:(qv ((0:Int):Rat) ((0:Int):Rat) ((1:Int):Rat) ((0:Int):Rat)).2.1.num=1:=κ;have d:(qv ((0:Int):Rat) ((0:Int):Rat) ((1:Int):Rat) ((0:Int):Rat)).2.2.num=0:=κ;rw [b,c,d];rintro r V' _ ⟨-,h⟩;exact h ω
theorem rD {p:L3->Prop}:∀{t:Tr} {k:Nat},t.eu p->∀x∈wr k t,p x.ln
 | .leaf _,_,_,x,h=>by simp [wr] at h
 | .node l a b,k,⟨u,y,z⟩,x,h=>by
  simp only [wr,ç,ú] at h;rcases h with rfl|h|h
  ·exact u
  ·exact rD y x h
  ·exact rD z x h
theorem Vw {t}(h:RW V p t):p.isSome=true:=by (cases t with|leaf i=>{obtain ⟨b,a,c,d,e,f,g,j,k,rfl,m⟩:=h;rfl}|node l x y=>{obtain ⟨b,i,b1,n,o,q,b2,r,s,a,b3,u,v,c,pl,w,rfl,-⟩:=h;rfl})
theorem W0:∀(t:Tr) {V:un} {p:OA} {lb:Nat} {n c:Nat} {vs:zA um} {l:zA Nd},RW V p t->t.eu my->n=l.length ->(vs≠[]->V.w.heap[lb]?=some (.cells vs.toArray 115 (0,0)))->(vs≠[]->V.X lb)->n<=c->c*8<=vs.length->NR V vs l->n+t.size<=1000000 ->À 12 #[qvZ p,pT (mA lb c) n c] V λr V'=>∃(bm:Nat)(vm:zA um)(c':Nat),(vm≠[]->V'.w.heap[bm]?=some (.cells vm.toArray 115 (0,0)))/\(vm≠[]->V.w.heap.size<=bm\/(vs≠[]/\bm=lb))/\r=æ #[pT (mA bm c') (n+t.size) c',Jq (rt n t)]/\n+t.size<=c'/\c'*8<=vm.length/\NR (V'.bf (vm≠[]) bm) vm (l++wr n t)/\(t.size=0->c'=c):=by
 intro t
 induction t with
 | leaf i=>
  intro V p lb n c vs l F _ G a q s z H I;have f:=Vw F;obtain ⟨b,W,Y,c4,c5,c6,c7,c8,c9,rfl,A⟩:=F
  have fin:∀(D:un)(k:Nat)(x:Int),V.Le (D.bf (vs≠[]) k)->(vs≠[]->D.w.heap[k]?=some (.cells vs.toArray 115 (0,0))) ->
    (vs≠[]->V.w.heap.size<=k\/(vs≠[]/\k=lb)\/False)->x=rt n (.leaf i)->∃(bm:Nat)(vm:zA um)(c':Nat),(vm≠[]->D.w.heap[bm]?=some (.cells vm.toArray 115 (0,0)))/\(vm≠[]->V.w.heap.size<=bm\/(vs≠[]/\bm=lb)) /\
   Value.tuple #[pT (mA k c) n c,Jq x]=æ #[pT (mA bm c') (n+(Tr.leaf i).size) c',Jq (rt n (.leaf i))]/\n+(Tr.leaf i).size<=c'/\c'*8<=vm.length/\NR (D.bf (vm≠[]) bm) vm (l++wr n (.leaf i))/\((Tr.leaf i).size=0->c'=c):=by
   intro D k x hle e3 e4 Z;refine ⟨k,vs,c,e3,λh=>?_,by rw [Z];rfl,s,z,?_,λ_=>rfl⟩
   ·rcases e4 h with h|h|h;{exact .inl h};{exact .inr h};{exact h.elim}
   ·simp only [wr,ą];exact H.le hle
  refine sM _ lb n c vs V _ a q ⟨f,f,true,Is A 0 rfl,λ_=>⟨f,f,i,Is A 1 rfl,λhi V1 k J E a3=>fin V1 k _ J E a3 (by subst hi;rfl),λhi V2 k J E a3=>fin V2 k _ J E a3 (by subst hi;rfl)⟩,λh=>by cases h⟩
 | node ln x y Zv ihy=>
  intro V p lb n c vs l F K G a q s z H I;have f:=Vw F;simp only [Tr.size] at I;obtain ⟨⟨-,a0⟩,a4,a8⟩:=K;obtain ⟨b,i,b1,p1,n1,c1,b2,p2,n2,W,b3,p3,n3,Y,pl,pr,rfl,A,hl,Z,hy⟩:=F
  have g:∀j v,([Õ b1,pT p1 n1 c1,Õ b2,pT p2 n2 W,Õ b3,pT p3 n3 Y]:zA um)[j]?=some v->V.at ((⟨b,2,none⟩:Addr).add j) v:=by
   intro j v a
   have L:j<6:=by rcases Ď j 6 with L|L;{exact L};{rw [ţ (by simpa using L)] at a;cases a}
   have h2:(⟨b,2,none⟩:Addr)=(⟨b,0,none⟩:Addr).add 2:=by rw [add_zero']
   rw [h2,MA,add_zero'];refine dX (xs:=[_,_,_,_,_,_,_,_,_,_]) A ?_
   match j,L,a with
   | 0,_,a=>exact a
   | 1,_,a=>exact a
   | 2,_,a=>exact a
   | 3,_,a=>exact a
   | 4,_,a=>exact a
   | 5,_,a=>exact a
  obtain ⟨t1,t2,t3⟩:=a0.ai;refine sM _ lb n c vs V _ a q ⟨f,f,false,Is A 0 rfl,Ū,λ_=>⟨f,f,b1,p1,n1,c1,b2,p2,n2,W,b3,p3,n3,Y,⟨b,2,none⟩,by simp [af,add_zero'],g 0 _ rfl,g 1 _ rfl,g 2 _ rfl,g 3 _ rfl,g 4 _ rfl,g 5 _ rfl,λD l3=>(zg ra ω ω).s ?_⟩⟩;rintro r V4 l4 M;obtain ⟨d1,q1,m1,e1,d2,q2,m2,e2,d3,q3,m3,e3,rfl⟩:=xG M;have N:=l3.m l4;refine qxZ ⟨rfl,ω,s,z,rfl,by intro v a;simp at a;rcases a with rfl|rfl|rfl|rfl|rfl|rfl|rfl|rfl<;>rfl,λsp c' g1 g2=>?_⟩;refine ⟨f,f,pl,Is (N _ _ A) 8 rfl,λB l5 O f1 f2=>?_⟩;have d:=NR.push (sp:=sp) (x:=0) (y:=0) ra ω (ln:=ln) M;rw [<-G] at d;generalize hrow:vs.take (n*8)++([_,_,_,_,_,_,_,_]:zA um)++sp=row at f1 f2 d ⊢
  have P:row.length=n*8+8+sp.length:=by rw [<-hrow];simp only [î,ê,Ā,Ļ];omega
  have Q:row≠[]:=λe=>by rw [e] at P;simp only [Ļ] at P;omega
  have C:=N.m l5;refine (Zv (V:=B.aw [vb row B.w.heap.size O]) (p:=pl) (lb:=O) (n:=n+1) (c:=c') (vs:=row) (l:=l++[⟨ln,0,0⟩]) (RW.le (V:=V) (V':=B.aw _) (λb o h=>C b o h) Z) a4 (by simp [G]) f1 (λh=>⟨by simp [kt h],f2 h⟩) g1 ω (NR.le (V:=V4) (V':=B.aw _) d λb o h=>l5 b o h) ω).s ?_;rintro r V6 l6 ⟨bm,vm,a9,J,E,rfl,a5,a6,a7,-⟩;have XP:B.Le V6:=λb o h=>l6 b o h;have R:=rC (V':=B) XP (Ó.Le.refl B) λh=>(E h).imp id λh'=>by rw [h'.2];exact f2 Q
  refine ⟨bm,vm,J,E,none,_,_,_,rfl,f,f,pr,Is ((C.m R) _ _ A) 9 rfl,λT l7 S d1 d2=>?_⟩;have b0:vm≠[]:=λe=>by rw [e] at a6;simp at a6;omega
  refine (ihy (V:=T.aw [vb vm T.w.heap.size S]) (p:=pr) (lb:=S) (n:=n+1+x.size) (c:=a9) (vs:=vm) (l:=l++[⟨ln,0,0⟩]++wr (n+1) x) (RW.le (V:=V) (V':=T.aw _) (λb o h=>((C.m R).m l7) b o h) hy) a8 (by simp [G,jB];omega) d1 (λh=>⟨by simp [kt h],d2 h⟩) a5 a6 (NR.le (V:=V6.bf (vm≠[]) bm) (V':=T.aw _) a7 λb o h=>l7 b o h) ω).s ?_;rintro r V8 l8 ⟨bn,U,b8,b9,c0,rfl,b5,b6,b7,-⟩;have hlen:n*8+8<=U.length:=ω
  simp only [Ü];refine ⟨bn,U,b9,c0,none,_,_,_,rfl,ū,b5,ω,ū,b5,by rw [Qc9];omega,λV9 Y_ u1 u4 u5=>?_⟩;have m:=NR.kids (V:=V8.bf (U≠[]) bn) (l:=l) (r:=wr (n+1) x++wr (n+1+x.size) y) (ln:=ln) (u:=0) (v:=0) (x:=rt (n+1) x) (y:=rt (n+1+x.size) y) (by simpa using b7);rw [<-G] at m;refine ⟨Y_,_,b8,u4,λh=>?_,by rw [show n+(Tr.node ln x y).size=n+1+x.size+y.size from by simp only [Tr.size];omega];rfl,by simp only [Tr.size];omega,by simp only [Qc9];omega,?_,λh=>by simp only [Tr.size] at h;omega⟩
  ·rcases u5 h with h|h|h;{exact .inl h};{exact .inr h};{exact h.elim}
  ·simp only [wr];exact NR.le (V:=V8.bf (U≠[]) bn) m λb o h=>u1 b o h
theorem BZ {t}(h:RW V p t)(E:t.eu my)(F:t.size<=1000000):À 4 #[qvZ p] V λr W=>AT W r (rt 0 t) (wr 0 t)/\(t.size=0->r=dB #[Jq (rt 0 t),pT none 0 0]):=by refine D7 V _ λg j=>?_;refine ae.monoH (W0 t (V:=g) (lb:=0) (vs:=[]) (l:=[]) (n:=0) (c:=0) (h.le j) E rfl (λh=>Å rfl h) (λh=>Å rfl h) (Ù _) (Ù _) (λi d k=>by simp at k) ω) ?_;rintro r V2 B C ⟨m,vm,q,s,u,rfl,a,D,e,v⟩;refine ⟨m,vm,s,λh=>(u h).imp id λw=>Å rfl w.1,none,_,_,_,rfl,λx y z A=>?_⟩;simp only [ŗ,Ĉ] at e a ⊢;have:=NS.ofRow (V:=x) (b:=z) (c:=q) (vm:=vm) (l:=wr 0 t) (ty:=115) A (by rw [jB];exact a) (e.le λb o h=>y b o h);rw [jB] at this;refine ⟨⟨_,_,_,rfl,this⟩,λf=>?_⟩;rw [v f,f];rfl
theorem tY {V p t}(h:RW V p t)(u:t.eu my)(y:t.size<=1000000:=by omega):À 4 #[qvZ p] V λr W=>AT W r (rt 0 t) (wr 0 t):=(BZ h u y).s λ_ _ _ h=>h.1
def Pk (V:Ó):Ó:=⟨V.w,λb=>b<V.w.heap.size,λ_=>False,λ_ h=>h,λ_ h=>h.elim⟩
theorem Mz {f args o}(h:À f args (Pk V) λr W=>∃u,r=qvZ (some ⟨u,0,none⟩)/\W.bh u o):À f args V λr W=>∃u,r=qvZ (some ⟨u,0,none⟩)/\V.w.heap.size<=u/\W.bh u o:=
 ⟨h.1,h.2.s λ_ _ ⟨_,he,a,u,d,c⟩=>⟨_,he,⟨a.size,λb c _=>a.bh b c (λh=>h),a.os,a.tape,a.out,a.dr⟩,u,d,Nat.le_of_not_lt c.1,λe=>c.1 (V.hH u e),c.2⟩⟩
theorem J0 {y ln lc}(z:ln<=lc):À 5 #[pT y ln lc] V λr W=>∃u,r=qvZ (some ⟨u,0,none⟩)/\V.w.heap.size<=u/\W.bh u (.cells #[pT y (min ln 400) lc,Jq 0] 52 (0,0)):=by refine Mz (Jg (Pk V) _ ?_);have e:cH (ln:Int) 400=((min ln 400:Nat):Int):=by{unfold cH;simp only [Nat.min_def];split<;>split<;>omega};rw [e,Ü];have:=Wv2 ln 400;exact ⟨ū,λb c u a=>⟨u,rfl,a⟩⟩
theorem PA {t:Tr}(h:t.eu my):t.eu λx=>bX x=true:=Tr.eu.imp (λ_ h=>h.1) h
theorem H_ {t:Tr}(h:t.eu my):t.eu Bd:=Tr.eu.imp (λ_ h=>h.2) h
theorem R7 (l):∃m:zA (Rat×Rat),m.Perm l/\m.Pairwise λx y=>¬OX y x<0:=by refine ⟨l.mergeSort (λx y=>decide (¬OX y x<0)),List.mergeSort_perm ..,?_⟩;refine (List.pairwise_mergeSort (le:=λx y=>decide (¬OX y x<0)) (λa b c d e=>?_) (λa b=>?_) l).imp λh=>Á h;{exact Ç (aq.xJ c b a (Á e) (Á d))};{by_cases h:OX b a<0;{have:=aq.AW b a h;rw [Qf6];exact .inr (Ç this)};{rw [Qf6];exact .inl (Ç h)}}
theorem J3 (l):bC (bC l)=bC l:=by unfold bC;by_cases h:l.1<0\/l.1=0/\l.2.1<0;{rw [Ä h,Ã];unfold Ö;dsimp only;omega};{rw [Ã h,Ã h]}
theorem H9 (h:bX l=true):bX (bC l)=true:=by unfold bC;split;{unfold bX Ö cj at *;simp only [Ŧ];rw [Ċ,decide_eq_true_iff,decide_eq_true_iff] at h ⊢;exact ⟨λe=>h.1 ū,h.2⟩};{exact h}
end Go.Proofs.Tryz
namespace Go.Eng
def Ó.bare (V:Ó)(b:Nat):Ó:=⟨V.w,λx=>V.H x/\x≠b,λx=>V.X x/\x≠b,λx h=>V.hH x h.1,λx h=>⟨V.hX x h.1,h.2⟩⟩
def Ó.WL (V:un)(b:Nat):V.Le (V.bare b):=λ_ _ h=>⟨λa=>h.1 a.1,h.2⟩
def ae.bare {P:Program}{f:FuncId}{args:Array um}{V:un}{b:Nat}{R:um->un->Prop}(u:b<V.w.heap.size)(h:ae P f args (V.bare b) R):ae P f args V λr V'=>V'.w.heap[b]?=V.w.heap[b]?/\R r (V'.bare b):=by refine ⟨h.1,h.2.s λ_ g ⟨r,he,a,c⟩=>⟨r,he,⟨a.size,λx d e=>a.bh x d λh=>e h.1,a.os,a.tape,a.out,a.dr⟩,a.bh b u (λh=>h.2 rfl),c⟩⟩
theorem Ó.jJ {V:un}{b a v}(h:(V.bare b).at a v)(u:a.block≠b):V.at a v:=⟨λc=>h.1 ⟨c,u⟩,h.2⟩
def Jt (V:Ó)(b:Nat):Prop:=∃(cs:Array Value)(ty:TypeId)(m:Nat×Nat),V.w.heap[b]?=some (.cells cs ty m)/\∀v∈cs,∀k z,v≠.int k z
theorem Jt.ne {V b}(h:Jt V b){a k z}(u:(V.bare b).at a (Ô k z)):a.block≠b:=by obtain ⟨cs,ty,m,d,g⟩:=h;intro e;have c:=u.2;unfold World.cell? at c;rw [e] at c;have f:(V.bare b).w.heap[b]?=some (.cells cs ty m):=d;grind
end Go.Eng
namespace Go.Proofs.Tryz
open Go.Eng Go.Big
variable{V:Ó}{b:Nat}
theorem RD.jJ (u:Jt V b){p n c ds}(h:RD (V.bare b) p n c ds):RD V p n c ds:=by refine ⟨h.len,h.cap,λi v a=>?_,h.gC,h.KM⟩;have ⟨f,e,g⟩:=h.sl i v a;have:∃d:Int,v=Ô .u32 d:=by{unfold aN at a;grind};grind [Ó.jJ,u.ne]
theorem RL.jJ (u:Jt V b){v x y z}(h:RL (V.bare b) v x y z):RL V v x y z:=by obtain ⟨_,_,_,_,_,_,_,_,_,e,a,c,d⟩:=h;exact ⟨_,_,_,_,_,_,_,_,_,e,RD.jJ u a,RD.jJ u c,RD.jJ u d⟩
theorem FB (a:Addr)(i):(a.add i).block=a.block:=by unfold Addr.add;split<;>rfl
theorem AT.jJ (M:Jt V b){v root l}(h:AT (V.bare b) v root l)(N:∀x∈l,bX x.ln=true):AT V v root l:=by obtain ⟨q,n,c,rfl,f⟩:=h;refine ⟨q,n,c,rfl,f.len,f.cap,?_,f.KM⟩;obtain ⟨A,a,k⟩:=f.row;(cases l with|nil=>{exact ⟨[],λi v h=>by simp at h,λi d h=>by simp at h⟩}|cons d l=>{have B:∀g,q=some g->g.block≠b:=by{intro g e;obtain ⟨b1,m,o,p,b2,r,s,t,b3,u,w,y,j,-⟩:=k 0 d rfl;obtain ⟨C,G,D⟩:=a _ _ (j 6 _ rfl);grind [M.ne,FB]};refine ⟨A,λi v E=>?_,λi x z=>?_⟩;{have ⟨g,e,D⟩:=a i v E;grind [Ó.jJ,FB]};{obtain ⟨b1,m,o,p,b2,r,s,t,b3,u,w,y,j,F⟩:=k i x z;exact ⟨b1,m,o,p,b2,r,s,t,b3,u,w,y,j,.inl (RL.jJ M (F.ok (N x (ı z))))⟩}})
theorem We:∀{t:Tr} {k:Nat},t.eu my->∀x∈wr k t,bX x.ln=true
 | .leaf _,_,_,x,h=>by cases h
 | .node l a b,k,⟨u,y,z⟩,x,h=>by
  rcases ç.1 h with rfl|h
  ·exact u.1
  ·rcases ú.1 h with h|h
   ·exact We y x h
   ·exact We z x h
theorem uM {V}{u:Nat}{i b1 E F c1 b2 M N O b3 Z n3 c3 pl pr ln x y}(hw:V.w.heap[u]?=some (.cells #[Õ false,Õ i,Õ b1,pT E F c1,Õ b2,pT M N O,Õ b3,pT Z n3 c3,qvZ pl,qvZ pr] 64 (0,0)))(hl:RL V (dB #[Õ b1,pT E F c1,Õ b2,pT M N O,Õ b3,pT Z n3 c3]) ln.1 ln.2.1 ln.2.2)(hx:RW V pl x)(hy:RW V pr y)(ha:(Tr.node ln x y).eu my)(hs:(Tr.node ln x y).size<=1000000):À 4 #[qvZ (some ⟨u,0,none⟩)] V λr W=>W.w.heap[u]?=some (.cells #[Õ false,Õ i,Õ b1,pT E F c1,Õ b2,pT M N O,Õ b3,pT Z n3 c3,qvZ pl,qvZ pr] 64 (0,0))/\AT W r (rt 0 (.node ln x y)) (wr 0 (.node ln x y)):=by have a:=(Qr0.1 hw).1;have b:=V.WL u;refine (ae.bare a (tY (V:=V.bare u) (p:=some ⟨u,0,none⟩) (t:=.node ln x y) ⟨u,i,b1,E,F,c1,b2,M,N,O,b3,Z,n3,c3,pl,pr,rfl,⟨λh=>h.2 rfl,hw⟩,hl.le b,hx.le b,hy.le b⟩ ha hs)).s ?_;rintro r V' g ⟨c,d⟩;rw [hw] at c;refine ⟨c,AT.jJ ⟨_,_,_,c,?_⟩ d (We ha)⟩;intro v f k z e;subst e;simp at f
theorem sT {a b}:cT a b<0↔a<b:=by grind [iK.1,HA.1,HB.1]
theorem Bq:Sz 10 ((1:Int):Rat):=GW (z:=1)
theorem sz_v {l}(h:Bd l){k}{p:Rat×Rat}(s1:Sz k p.1)(s2:Sz k p.2):Sz (2*k+3010) (ay l p.1 p.2):=by have:=h.iS;exact (((this.1.mul s1).add (this.2.1.mul s2)).add this.2.2).s ω
theorem UN {p v:Rat×Rat}{ls:zA L3}{i:Nat}(h:i<ls.length)(s:Rat):(ls.take (i+1)).foldl (aq.zI p v) s=aq.zI p v ((ls.take i).foldl (aq.zI p v) s) ls[i]:=by grind [List.take_append_getElem]
end Go.Proofs.Tryz
namespace Go.Proofs.Tryz
open Go.Eng Go.Big
open Go.Value renaming slice→pT,agg→dB,bool→Õ,pointer→qvZ,tuple→æ,int→Ô
variable{V:Ó}{l:L3}{v:Value}{cp p:OA}{cc cn n:Nat}{S c ls:List L3}{vs:List Value}
theorem O9 {a b}:cT a b>0↔b<a:=by grind [cg]
abbrev S16:=Bool×OA×Nat×Nat×OA×Nat×Nat×Bool×OA×Nat×Nat×OA×Nat×Nat×Bool×Bool
def agS (z:S16):Value:=.agg #[.bool z.1,.slice z.2.1 z.2.2.1 z.2.2.2.1,.slice z.2.2.2.2.1 z.2.2.2.2.2.1 z.2.2.2.2.2.2.1,.bool z.2.2.2.2.2.2.2.1,.slice z.2.2.2.2.2.2.2.2.1 z.2.2.2.2.2.2.2.2.2.1 z.2.2.2.2.2.2.2.2.2.2.1,.slice z.2.2.2.2.2.2.2.2.2.2.2.1 z.2.2.2.2.2.2.2.2.2.2.2.2.1 z.2.2.2.2.2.2.2.2.2.2.2.2.2.1,.bool z.2.2.2.2.2.2.2.2.2.2.2.2.2.2.1,.bool z.2.2.2.2.2.2.2.2.2.2.2.2.2.2.2]
theorem rsS {u y z xc E F M N O Z yc yq ym ye xa ya s}(h:qK V (dB #[Õ u,pT y z xc,pT E F M,Õ N,pT O Z yc,pT yq ym ye,Õ xa,Õ ya]) s):xa=s.a/\ya=s.b/\RQ V (dB #[Õ u,pT y z xc,pT E F M]) s.lo/\RQ V (dB #[Õ N,pT O Z yc,pT yq ym ye]) s.hi:=by obtain ⟨_,_,_,_,_,_,_,_,_,_,_,_,_,_,e,c,d⟩:=h;grind
theorem rsS' {u y z xc E F M N O Z yc yq ym ye xa ya s}(ea:xa=s.a)(eb:ya=s.b)(h1:RQ V (dB #[Õ u,pT y z xc,pT E F M]) s.lo)(h2:RQ V (dB #[Õ N,pT O Z yc,pT yq ym ye]) s.hi):qK V (dB #[Õ u,pT y z xc,pT E F M,Õ N,pT O Z yc,pT yq ym ye,Õ xa,Õ ya]) s:=by subst ea eb;exact qyJ ⟨rfl,h1,h2⟩
def rF (l m:L3)(s:Sp):Sp:=if 0<(Û m l).num.sign then (if s.a=true\/s.lo<pU l m then ⟨pU l m,s.hi,false,s.b⟩ else s) else (if s.b=true\/pU l m<s.hi then ⟨s.lo,pU l m,s.a,false⟩ else s)
theorem F6 {m s}(u:ß l m≠0):vW l m s=if (rF l m s).a=false/\(rF l m s).b=false/\(rF l m s).hi<=(rF l m s).lo then none else some (rF l m s):=by unfold vW;rw [Ã u];rfl
theorem QV {m s}(u:ß l m=0):vW l m s=if (ay m (cP l 0) (cR l 0)).num.sign<=0 then none else some s:=by unfold vW;rw [Ä u]
theorem P_ {m}(u:Nz l)(y:Bd l)(z:Bd m)(E:ß l m≠0):Sz 100000 (pU l m):=by rw [CU u E];exact (qc y.iS z.iS).s ω
theorem mid_sz {m s}(y:Nz l)(z:Bd l)(E:Bd m)(F:ß l m≠0)(u:s.sz 100000):(rF l m s).sz 100000:=by
 have:=P_ y z E F;unfold rF;split<;>split<;>first|exact u|exact ⟨this,u.2⟩|exact ⟨u.1,this⟩
theorem TG {m s w}(z:Nz l)(u:Bd l)(y:Bd m)(E:s.good)(F:s.sz 100000)(e:vW l m s=some w):w.good/\w.sz 100000:=by grind [Cb,lD,Bp,u.iS,y.iS]
theorem PM {L}(h:RL V v L.1 L.2.1 L.2.2)(u:Nz L)(y:Bd L):À 214 #[v] V λr W=>RP W r (cP L 0) (cR L 0):=by have sl:=y.iS;refine (vJ h (NV u) sl.1 sl.2.1 sl.2.2).s λr V' _ g=>?_;have a:cP L 0=_:=rfl;unfold cP cR;unfold fh;grind
theorem II {L}(u:Bd L):Sz 30000 (cP L 0)/\Sz 30000 (cR L 0):=by have sl:=u.iS;exact ⟨Sz.s (nt sl (Dt 1000)) ω,Sz.s (ny sl (Dt 1000)) ω⟩
theorem vO {i}(h:bM 6 dh V cp cn ls)(hb:∀l∈ls,Bd l)(hk:∀l∈ls,bX l=true)(hl:ls.length<=1000)(hi:i<ls.length):À 156 #[pT cp cn cc,Jq i] V λr W=>∃u s,r=æ #[u,Õ (eI ls[i] ls ä).isSome]/\qK W u s/\s.sz 100000/\∀w,eI ls[i] ls ä=some w->s=w:=by
 have hn:=h.len;subst hn;obtain ⟨is,b1,p1,n1,c1,b2,p2,n2,c2,b3,p3,n3,c3,a,Z,a0,a1,a2,a3,a4,a5,n⟩:=Bi h hi;have t:=hb _ (ô hi);have ok:=hk _ (ô hi);generalize el:ls[i]=L at *;have sl:=t.iS;have nz:=eK ok;have hd:=vi t;refine Fs V _ ⟨is,ū,b1,p1,n1,c1,b2,p2,n2,c2,b3,p3,n3,c3,a,(by rw [Ü];exact Z),a0,a1,a2,a3,a4,a5,λV1 l1=>vM.s ?_⟩;rintro r V2 l2 gf;obtain ⟨_,_,_,_,_,_,_,_,_,_,_,_,_,_,rfl⟩:=Db gf;refine ⟨_,_,_,_,_,_,_,_,_,_,_,_,_,_,_,_,rfl,λz V'=>∃(j:Nat)(s:Sp),z.1=(j:Int)/\j<=ls.length/\qK V' (agS z.2) s/\s.good/\s.sz 100000/\eI L ls ä=eI L (ls.drop j) s,λz=>(ls.length-z.1).toNat,⟨(0,_,_,_,_,_,_,_,_,_,_,_,_,_,_,_,_),by and_intros<;>first|rfl|trivial,0,ä,rfl,ã _,gf,iw,Xn,by rw [Wz1]⟩,?_⟩;rintro ⟨z,C,D,E,F,G,H,I,J,N,O,P,Q,R,S,T,U⟩ V3 l3 ⟨j,s,ez,hj,gs,sg,v,d⟩;dsimp only at ez gs ⊢;subst ez;obtain ⟨rfl,rfl,X,Y⟩:=rsS gs;have Zx:=(l1.m l2).m l3;refine ⟨θ,λf=>?_,λf b6 Jk=>?_⟩;rotate_left
 ·have e:j=ls.length:=by{have:=Â f;omega};subst e;rw [Wq9] at d;exact ⟨_,s,by rw [d];rfl,gs.le Jk,v,λw e=>by rw [d] at e;exact ŏ e⟩
 have f:j<ls.length:=by have:=Á f;omega
 have w1:i64.wrap ((j:Int)+1)=((j+1:Nat):Int):=by rw [au ω];rfl
 rw [w1,Ü];obtain ⟨a6,B1,P1,N1,C1,B2,P2,N2,C2,B3,P3,N3,C3,A,a7,A0,A1,A2,A3,A4,A5,o⟩:=Bi ra f;have x:=hb _ (ô f);have sm:=x.iS;have Ng:=vi x;have ej:j=i->ls[j]=L:=λe=>by subst e;exact el
 rw [(Ī f)] at d;generalize ls[j]=M at *;have a8:eI L (M::ls.drop (j+1)) s=if M=L then eI L (ls.drop (j+1)) s else match vW L M s with|some s'=>eI L (ls.drop (j+1)) s'|none=>none:=rfl
 rw [a8] at d;have next:∀{W:un} {C:ut} {D:OA} {E F:Nat} {G:OA} {H I:Nat} {J:ut} {N:OA} {O P:Nat} {Q:OA} {R S:Nat} {T U:ut} {s':Sp},qK W (dB #[Õ C,pT D E F,pT G H I,Õ J,pT N O P,pT Q R S,Õ T,Õ U]) s'->s'.good->s'.sz 100000->eI L ls ä=eI L (ls.drop (j+1)) s'->∃(j':Nat)(s:Sp),((j+1:Nat):Int)=(j':Int)/\j'<=ls.length/\qK W (dB #[Õ C,pT D E F,pT G H I,Õ J,pT N O P,pT Q R S,Õ T,Õ U]) s/\s.good/\s.sz 100000/\eI L ls ä=eI L (ls.drop j') s:=λg1 g2 g3 e=>⟨j+1,_,rfl,f,g1,g2,g3,e⟩;refine ⟨a6,ū,B1,P1,N1,C1,B2,P2,N2,C2,B3,P3,N3,C3,A,a7,A0,A1,A2,A3,A4,A5,λz _=>z=decide (M=L),⟨λc=>⟨true,σ,?_⟩,λc V4 l4=>(mG (n.le ax) (o.le l4) sl sm).s ?_⟩,?_⟩
 ·exact (Ç (ej (by have:=Á c;omega))).symm
 ·rintro r V5 l5 rfl;exact ⟨_,rfl,(jP L M==(0:Int)),σ,by rw [J6];exact É.2 eq_comm⟩
 rintro z V6 l6 rfl;refine ⟨θ,λc=>?_,λc V7 l7=>(Vj (n.le ax) (o.le ax) sl sm).s ?_⟩
 ·rw [Ä (Á c)] at d;exact ⟨(((j+1:Nat):Int),_,_,_,_,_,_,_,_,_,_,_,_,_,_,_,_),ω,σ,next (gs.le l6) sg v d⟩
 rw [Ã (Â c)] at d;rintro r V8 l8 ⟨u,rfl,q0,q1⟩;have ⟨s1,s2⟩:=P9 sl sm;have Nv:=l6.m (l7.m l8);by_cases p:ß L M=0
 ·have qz:=q0 p;unfold Sx at qz;subst qz;rw [QV p] at d;refine ⟨_,_,_,_,_,_,_,_,_,_,_,_,_,_,_,rfl,λ_ V9 l9=>(PM (n.le ax) nz t).s ?_,λh=>by simp [p] at h⟩;rintro r gx a9 gB;obtain ⟨_,_,_,_,_,_,_,_,_,_,_,_,rfl,-⟩:=id gB;have y:=Nv.m (l9.m a9);refine qyJ ⟨rfl,λfu dM=>(Ir (o.le ax) (gB.le dM) (sm.up (K:=30000) ω) (II t).1 (II t).2).s ?_⟩;rintro r iD eN rfl;have B:=y.m (dM.m eN);refine ⟨_,rfl,λc kE fw=>?_,λc=>?_⟩;{rw [Ä (Á c)] at d;exact ⟨_,s,by rw [d];rfl,gs.le ax,v,λw e=>by rw [d] at e;cases e⟩};{rw [Ã (Â c)] at d;exact ⟨(((j+1:Nat):Int),_,_,_,_,_,_,_,_,_,_,_,_,_,_,_,_),ω,σ,next (gs.le B) sg v d⟩}
 have hp:=q1 p;obtain ⟨_,_,_,_,_,_,_,_,_,_,_,_,rfl,-⟩:=id hp;refine ⟨_,_,_,_,_,_,_,_,_,_,_,_,_,_,_,rfl,λh=>by simp [p] at h,λ_ mg hZ=>(Bl (n.le ax) (hp.le hZ) nz (sl.up (K:=30000) ω) (s1.s ω) (s2.s ω)).s ?_⟩;rintro r mz eH gt;obtain ⟨_,_,_,_,_,_,rfl⟩:=gt.shape;have st:=P_ nz t x p;have XL:=Nv.m (hZ.m eH);refine qyK ⟨rfl,λmh fP=>(iq (o.le ax) sm.1 sm.2.1 sm.2.2 ω).s ?_⟩;rintro r mX gX gm;obtain ⟨_,_,_,_,_,_,_,_,_,_,_,_,rfl,-⟩:=id gm;have XM:=XL.m ax;refine qyJ ⟨rfl,λnM gy=>(iq (n.le ax) sl.1 sl.2.1 sl.2.2 ω).s λr qh iX gl=>RP.ex gl λ_ _ gl _ _=>λjZ gG=>(jE (k:=1000) (gm.le ax) (gl.le gG) Ng.1 Ng.2 hd.1 hd.2).s ?_⟩;rintro r qN mo gc
 have b7:RQ qN r (Û M L):=by have e:=(Tu M L).symm;rw [e];exact gc
 obtain ⟨_,_,_,_,_,_,rfl⟩:=gc.shape;refine qyK ⟨rfl,λtR oB=>(nW ra).s ?_⟩;rintro r sO mL rfl;have b5:=((XM.m ax).m ax).m ax;have b0:=(fP.m gX).m ((gy.m iX).m ((gG.m mo).m ax));refine ⟨_,rfl,λz W=>qK W (agS z) (rF L M s),⟨λq=>?_,λq=>?_⟩,?_⟩
 ·have q:=Á q;refine ⟨λz _=>z=decide (s.a=true\/s.lo<pU L M),⟨λm=>⟨true,σ,?_⟩,λm Ec oC=>(e_ (gt.le ax) (X.le ax) st v.1).s ?_⟩,?_⟩;{exact (Ç (.inl m)).symm};{rintro r Bw zC rfl;refine ⟨_,rfl,decide (cT (pU L M) s.lo>(0:Int)),σ,?_⟩;rw [m];exact É.2 ⟨λh=>.inr (O9.1 h),λh=>h.elim π O9.2⟩};rintro z Jw yr rfl;refine ⟨θ,λc=>⟨(_,_,_,_,_,_,_,_,_,_,_,_,_,_,_,_),σ,?_⟩,λc=>⟨(_,_,_,_,_,_,_,_,_,_,_,_,_,_,_,_),σ,?_⟩⟩;{have e:rF L M s=⟨pU L M,s.hi,false,s.b⟩:=by{unfold rF;rw [Ä q,Ä (Á c)]};rw [e];exact rsS' rfl rfl (gt.le ax) (Y.le ax)};{have e:rF L M s=s:=by{unfold rF;rw [Ä q,Ã (Â c)]};rw [e];exact ra}
 ·have q:=Â q;refine ⟨λz _=>z=decide (s.b=true\/pU L M<s.hi),⟨λm=>⟨true,σ,?_⟩,λm Ec oC=>(e_ (gt.le ax) (Y.le ax) st v.2).s ?_⟩,?_⟩;{exact (Ç (.inl m)).symm};{rintro r Bw zC rfl;refine ⟨_,rfl,decide (cT (pU L M) s.hi<(0:Int)),σ,?_⟩;rw [m];exact É.2 ⟨λh=>.inr (sT.1 h),λh=>h.elim π sT.2⟩};rintro z Jw yr rfl;refine ⟨θ,λc=>⟨(_,_,_,_,_,_,_,_,_,_,_,_,_,_,_,_),σ,?_⟩,λc=>⟨(_,_,_,_,_,_,_,_,_,_,_,_,_,_,_,_),σ,?_⟩⟩;{have e:rF L M s=⟨s.lo,pU L M,s.a,false⟩:=by{unfold rF;rw [Ã q,Ä (Á c)]};rw [e];exact rsS' rfl rfl (X.le ax) (gt.le ax)};{have e:rF L M s=s:=by{unfold rF;rw [Ã q,Ã (Â c)]};rw [e];exact ra}
 rw [F6 p] at d;have kk:=λw=>TG (w:=w) nz t x sg v;rw [F6 p] at kk;have sz:=mid_sz nz t x p v;generalize rF L M s=s' at *;clear gs X Y;rintro ⟨C,D,E,F,G,H,I,J,N,O,P,Q,R,S,T,U⟩ Wl Nt gs;dsimp only at gs ⊢;obtain ⟨rfl,rfl,X,Y⟩:=rsS gs;refine ⟨θ,λz _=>z=decide (s'.a=false/\s'.b=false/\s'.hi<=s'.lo),⟨λm=>⟨λhb b8 Jj=>(e_ ra ra sz.1 sz.2).s ?_,λhb=>⟨false,σ,?_⟩⟩,λm=>⟨false,σ,?_⟩⟩,?_⟩
 ·rintro r b9 KF rfl;rw [Ł] at m hb;refine ⟨_,rfl,decide (cT s'.lo s'.hi≥(0:Int)),σ,É.2 ⟨λh=>⟨m,hb,?_⟩,λh=>?_⟩⟩;{refine Rat.not_lt.1 λg=>?_;have:=sT.2 g;omega};{refine Ww8.1 λg=>?_;have:=sT.1 g;have:=h.2.2;grind}
 ·rw [Qn8] at hb;exact (È λh=>by rw [hb] at h;cases h.2.1).symm
 ·rw [Qn8] at m;exact (È λh=>by rw [m] at h;cases h.1).symm
 rintro z WC Ee rfl;refine ⟨θ,λc c0 Nu=>?_,λc=>?_⟩
 ·rw [Ä (Á c)] at d;exact ⟨_,s',by rw [d];rfl,gs.le ax,sz,λw e=>by rw [d] at e;cases e⟩
 ·rw [Ã (Â c)] at d kk;have ⟨k1,k2⟩:=kk _ rfl;exact ⟨(((j+1:Nat):Int),_,_,_,_,_,_,_,_,_,_,_,_,_,_,_,_),ω,σ,next (gs.le Ee) k1 k2 d⟩
theorem Pm (x):∀(O:zA L3)(j:Nat),j<=O.length->(∀(y:Nat)(h:y<O.length),y<j->aq.cM (aq.aB O[y]) (aq.aB x)<0)->(∀h:j<O.length,¬aq.cM (aq.aB O[j]) (aq.aB x)<0) ->ry x O=if ∃h:j<O.length,O[j]=x then O else O.take j++x::O.drop j
 | [],j,E,_,_=>by
  rw [Ã (λ⟨h,_⟩=>Å h (Ş _))];simp [ry]
 | u::r,0,_,_,hge=>by
  have z:¬aq.cM (aq.aB u) (aq.aB x)<0:=hge (Ww1 _);unfold ry;rw [Ã z];by_cases e:u=x
  ·rw [Ä e,Ä ⟨Ww1 _,e⟩]
  ·rw [Ã e,Ã (λ⟨_,h⟩=>e h)];rfl
 | u::r,j+1,E,hlt,hge=>by
  have z:aq.cM (aq.aB u) (aq.aB x)<0:=hlt 0 (Ww1 _) (Ww1 _);unfold ry;rw [Ä z,Pm x r j (by simpa using E) (λy h a=>hlt (y+1) (by simpa using h) ω) (λh=>hge (by simpa using h))];by_cases c:∃h:j<r.length,r[j]=x
  ·obtain ⟨h,e⟩:=c;rw [Ä ⟨h,e⟩,Ä ⟨by simpa using h,e⟩]
  ·rw [Ã c,Ã (λ⟨h,e⟩=>c ⟨by simpa using h,e⟩)];rfl
theorem Ey {c}(h:bM 6 dh V p n ls)(hb:∀l∈ls,Bd l)(hk:∀l∈ls,bX l=true)(hl:ls.length<=1000):À 91 #[pT p n c] V λr W=>∃q m e,r=æ #[pT q m e,Õ (decide (ls=[]\/rN ls ls []≠[]))]/\bM 6 dh W q m (rN ls ls []):=by
 obtain rfl:=h.len
 refine D2 V _ ⟨λz V'=>∃(i:Nat)(O:zA L3),z.2.2.2=(i:Int)/\i<=ls.length/\O.length<=i/\(∀q∈O,q∈ls)/\rN ls ls []=rN ls (ls.drop i) O/\GR 6 dh V' z.1 z.2.1 z.2.2.1 O,λz=>ls.length-z.2.2.2.toNat,
  ⟨(0,0,[],0),σ,0,[],rfl,ã _,ã _,(λq H=>by cases H),by rw [Wz1],GR.nil⟩,?_⟩
 rintro ⟨Q,M,us,z4⟩ V1 l1 ⟨i,O,e4,Ws,a6,N,t,G⟩;dsimp only at e4 G;subst e4;have P:=G.len;have B:=G.le;have R:=G.cap;have C:=G.row;refine ⟨rfl,λd=>?_,λd=>?_⟩;rotate_left
 ·have d:¬(i:Int)<ls.length:=Â d;obtain rfl:i=ls.length:=ω;rw [Wq9] at t;have t:rN ls ls []=O:=t;rw [t];subst P;refine ⟨λD mh S bk hb=>?_,λD mh S bk hb=>?_⟩;{have D:((ls.length:Nat):Int)=0:=by{simpa using D};refine ⟨_,_,M,?_,bM.bI hb (C.le λ_ _ g=>dh.le g S) φ B⟩;rw [Ç (.inl (Ĝ.1 ω))]};{have D:¬((ls.length:Nat):Int)=0:=by{simpa using D};refine ⟨_,_,M,?_,bM.bI hb (C.le λ_ _ g=>dh.le g S) φ B⟩;congr 5;refine É.2 ⟨λh=>.inr λe=>by rw [e] at h;simp at h,λh=>?_⟩;rcases h with h|h;{rw [h] at D;exact Å rfl D};{have:=Qh6.2 h;omega}}
 have d:(i:Int)<ls.length:=Á d;have y:i<ls.length:=ω
 have w:i64.wrap ((i:Int)+1)=((i+1:Nat):Int):=by rw [au ω];rfl
 dsimp only;rw [Ü,w];obtain ⟨ad,ha,xs,-,hf,k⟩:=(h.le l1 λ_ _ g=>dh.le g l1).at_ i y;obtain ⟨eb,ep,en,ec,fb,fp,fn,fe,gb,gp,gn,gc,ex⟩:=bT hf;have ex:=Æ Array.toList (Value.agg.inj ex);dsimp only at ex;subst ex;have T:rN ls (ls[i]::ls.drop (i+1)) O=rN ls (ls.drop (i+1)) (if (eI ls[i] ls ä).isSome=true then ry ls[i] O else O):=rfl;rw [(Ī y),T] at t;have E:=hb _ (ô y);have U:=ô y;have Zo:∀q∈O,Bd q:=λq H=>hb q (N q H);clear G;refine ⟨bj ha,ū,eb,ep,en,ec,fb,fp,fn,fe,gb,gp,gn,gc,ad,ha,k 0 _ rfl,k 1 _ rfl,k 2 _ rfl,k 3 _ rfl,k 4 _ rfl,k 5 _ rfl,λV2 l2=>(vO ra hb hk hl y).s ?_⟩;generalize ls[i]=x at *;rintro r V3 l3 ⟨u,s,rfl,gs,-,-⟩;obtain ⟨_,_,_,_,_,_,_,_,_,_,_,_,_,_,rfl⟩:=Db gs;refine ⟨_,_,_,_,_,_,_,_,_,_,_,_,_,_,_,_,_,rfl,λo=>?_,λo=>?_⟩
 ·rw [Ł] at o;rw [o,Ã φ] at t;exact ⟨(Q,M,us,((i+1:Nat):Int)),by dsimp only;omega,σ,i+1,O,rfl,y,ω,N,t,P,B,R,C.le λ_ _ g=>dh.le g ax⟩
 rw [Qn8] at o;rw [o,Ä rfl] at t;have I:=hf;refine ⟨λz _=>∃j:Nat,z=(j:Int)/\j<=O.length/\∀(A:Nat)(h:A<O.length),A<j->aq.cM (aq.aB O[A]) (aq.aB x)<0,λz=>O.length-z.toNat,⟨0,σ,0,rfl,ã _,λA _ h=>Å h (Ş A)⟩,?_⟩;rintro z V4 l4 ⟨j,rfl,yo,jl⟩;have wj:i64.wrap ((j:Int)+1)=((j+1:Nat):Int):=by rw [au ω];rfl
 rw [Ü,wj];have W:=E.iS;have dx:=vi E;refine ⟨rfl,λz _=>z=true↔∃h:j<O.length,aq.cM (aq.aB O[j]) (aq.aB x)<0,⟨λd=>?_,λd=>⟨false,σ,?_⟩⟩,?_⟩
 ·have d:=Á d;have v:j<O.length:=ω;have K:=Zo _ (ô v);have X:=K.iS;have dj:=vi K;obtain ⟨b1,Y,Z,c1,b2,p2,n2,c2,b3,p3,n3,c3,fZ,M9,hr⟩:=Iy C v;refine ⟨ū,B,b1,Y,Z,c1,b2,p2,n2,c2,b3,p3,n3,c3,⟨fZ,M9⟩,λV5 l5=>(iq (hr.le ax) X.1 X.2.1 X.2.2 ω).s λr V6 l6 F=>RP.ex F λ_ _ F _ _=>λV7 l7=>(iq (RL.le I ax) W.1 W.2.1 W.2.2 ω).s λr V8 l8 Xr=>RP.ex Xr λ_ _ Xr _ _=>λV9 l9=>(Eo (a:=aq.aB O[j]) (b:=aq.aB x) (F.le ax) (Xr.le l9) dj.1 dj.2 dx.1 dx.2).s λr gx a0 rfl=>⟨_,rfl,decide (aq.cM (aq.aB O[j]) (aq.aB x)<0),σ,by dsimp only;rw [Ñ];exact ⟨λh=>⟨v,h⟩,λ⟨_,h⟩=>h⟩⟩⟩
 ·have d:=Â d;exact ⟨π,λ⟨h,_⟩=>Å h ω⟩
 rintro z V7 l7 Ua;refine ⟨rfl,λo=>?_,λo=>?_⟩
 ·have ⟨v,a1⟩:=Ua.1 o;refine ⟨((j+1:Nat):Int),by dsimp only;omega,σ,j+1,rfl,v,λA h a7=>?_⟩;by_cases e:A=j;{subst e;exact a1};{exact jl A h ω}
 have a2:∀h:j<O.length,¬aq.cM (aq.aB O[j]) (aq.aB x)<0:=λh h'=>by have:=Ua.2 ⟨h,h'⟩;rw [o] at this;cases this
 have f:=Pm x O j yo jl a2;have a3:∀q∈ry x O,q∈ls:=λq H=>(we.1 H).elim (λe=>e▸U) (N q);refine ⟨λz _=>z=true↔∃h:j<O.length,O[j]=x,⟨λd=>?_,λd=>⟨false,σ,?_⟩⟩,?_⟩
 ·have d:=Á d;have v:j<O.length:=ω;obtain ⟨b1,Y,Z,c1,b2,p2,n2,c2,b3,p3,n3,c3,fZ,M9,hr⟩:=Iy C v;refine ⟨ū,B,b1,Y,Z,c1,b2,p2,n2,c2,b3,p3,n3,c3,⟨fZ,M9⟩,λV8 l8=>(mG (hr.le ax) (RL.le I ax) (Zo _ (ô v)).iS E.iS).s λr V9 l9 rfl=>⟨_,rfl,(jP O[j] x==(0:Int)),σ,by dsimp only;rw [J6,Ñ];exact ⟨λh=>⟨v,h⟩,λ⟨_,h⟩=>h⟩⟩⟩
 ·have d:=Â d;exact ⟨π,λ⟨h,_⟩=>Å h ω⟩
 rintro z gx a0 Cn;refine ⟨rfl,λo=>?_,λo fu dM bk hb J=>?_⟩
 ·have hex:=Cn.1 o;rw [Ä hex] at f;rw [f] at t;exact ⟨(Q,M,us,((i+1:Nat):Int)),by dsimp only;omega,σ,i+1,O,rfl,y,ω,N,t,P,B,R,C.le λ_ _ g=>dh.le g ax⟩
 ·have a4:¬∃h:j<O.length,O[j]=x:=λh=>by{have:=Cn.2 h;rw [o] at this;cases this};rw [Ã a4] at f;obtain ⟨xs,ys,x1,x2,x3,y1,y2,y3,r1,r2,r3,r4,r5⟩:=Be (V:=fu) (GR.s ⟨P,B,R,C⟩ λ_ _ g=>dh.le g ax) φ (λ_ _=>Ix) hb (es:=[_,_,_,_,_,_]) rfl ra (j:=j);refine ⟨ū,ū,ū,xs,x1,x2,ω,Ù _,Ù 6,x2,x3,λa8 J2 sp c' h1 h2=>?_⟩;rw [r1,r2];(refine ⟨ys,y1,y2,Ù _,y3,ω,ω,r3,r4,λa5 L h3 h4=>⟨(j+(1+(Q-j)),L,_,((i+1:Nat):Int)),by dsimp only;omega,by and_intros<;>first|rfl|omega,i+1,ry x O,rfl,y,?_,a3,t,?_⟩⟩);{rw [f,î,ê,Ā,Į];omega};{show GR 6 dh _ _ _ _ (ry x O);rw [f];exact r5 a5 L h3 h4}
theorem Et {lp ln lc pv vv p v}(h:bM 6 dh V lp ln ls)(hb:∀l∈ls,Bd l)(hl:ls.length<=1000)(hp:RP V pv p.1 p.2)(hv:RP V vv v.1 v.2)(s1:Sz 60000000 p.1)(s2:Sz 60000000 p.2)(s3:Sz 6000 v.1)(s4:Sz 6000 v.2):À 158 #[pT lp ln lc,pv,vv] V λr W=>RP W r (p.1+ls.foldl (aq.zI p v) 1*v.1) (p.2+ls.foldl (aq.zI p v) 1*v.2)/\Sz 500000000 (p.1+ls.foldl (aq.zI p v) 1*v.1)/\Sz 500000000 (p.2+ls.foldl (aq.zI p v) 1*v.2):=by have hn:=h.len;subst hn;have q:=hp;have a6:=hv;obtain ⟨_,_,_,_,_,_,_,_,_,_,_,_,rfl,-⟩:=hp;obtain ⟨_,_,_,_,_,_,_,_,_,_,_,_,rfl,-⟩:=hv;(refine Fh V _ λV1 l1=>(dR 1 ω).s λr V2 l2 C=>RQ.ex C λ_ C=>⟨λz V'=>∃i:Nat,z.1=(i:Int)/\i<=ls.length/\RQ V' (dB #[Õ z.2.1,pT z.2.2.1 z.2.2.2.1 z.2.2.2.2.1,pT z.2.2.2.2.2.1 z.2.2.2.2.2.2.1 z.2.2.2.2.2.2.2]) ((ls.take i).foldl (aq.zI p v) 1)/\Sz 400000000 ((ls.take i).foldl (aq.zI p v) 1),λz=>(ls.length-z.1).toNat,⟨(0,_,_,_,_,_,_,_),by and_intros<;>first|rfl|trivial,0,rfl,ã _,C,Bq.s ω⟩,?_⟩;rintro ⟨z,zb,zp,zn,u,zq,zm,ze⟩ V3 l3 ⟨i,e,hi,gs,f⟩;dsimp only at e gs ⊢;subst e;have Zx:=(l1.m l2).m l3;refine ⟨θ,λc=>?_,λc a7 KF=>?_⟩);{have c:i<ls.length:=by{have:=Á c;omega};have w1:i64.wrap ((i:Int)+1)=((i+1:Nat):Int):=by{rw [au ω];rfl};rw [w1,Ü];obtain ⟨is,b1,p1,n1,c1,b2,p2,n2,c2,b3,p3,n3,c3,a,D,a0,a1,a2,a3,a4,a5,j⟩:=Bi ra c;have E:=hb _ (ô c);have sl:=E.iS;have J:=UN (p:=p) (v:=v) c 1;generalize ls[i]=A at *;generalize (ls.take i).foldl (aq.zI p v) 1=s at *;have next:∀{W:un} {b:ut} {q1 q2:OA} {m1 d1 m2 d2:Nat} {s':Rat},RQ W (dB #[Õ b,pT q1 m1 d1,pT q2 m2 d2]) s'->Sz 400000000 s'->aq.zI p v s A=s'->∃i':Nat,((i+1:Nat):Int)=(i':Int)/\i'<=ls.length/\RQ W (dB #[Õ b,pT q1 m1 d1,pT q2 m2 d2]) ((ls.take i').foldl (aq.zI p v) 1)/\Sz 400000000 ((ls.take i').foldl (aq.zI p v) 1):=λm d e=>⟨i+1,rfl,c,by rw [J,e];exact m,by rw [J,e];exact d⟩;have t1:Sz 70000000 (p.1+((1:Int):Rat)*v.1):=(s1.add (Bq.mul s3)).s ω;have t2:Sz 70000000 (p.2+((1:Int):Rat)*v.2):=(s2.add (Bq.mul s4)).s ω;refine ⟨is,ū,b1,p1,n1,c1,b2,p2,n2,c2,b3,p3,n3,c3,a,D,a0,a1,a2,a3,a4,a5,λV4 l4=>(dR 1 ω).s ?_⟩;rintro r V5 l5 g;obtain ⟨_,_,_,_,_,_,rfl⟩:=g.shape;have Jk:=l4.m l5;refine qyK ⟨rfl,λV6 l6=>(fG ra ra ra s1 s2 (Bq.s ω) s3 s4 ω).s ?_⟩;rintro r V7 l7 w;obtain ⟨_,_,_,_,_,_,_,_,_,_,_,_,rfl,-⟩:=id w;have Rm:=Jk.m (l6.m l7);refine qyJ ⟨rfl,λV8 l8=>(jF (k:=70000000) (j.le ax) (w.le l8) (sl.1.s ω) (sl.2.1.s ω) (sl.2.2.s ω) t1 t2).s ?_⟩;rintro r V9 l9 K;have a8:RQ V9 r (ay A (p.1+((1:Int):Rat)*v.1) (p.2+((1:Int):Rat)*v.2)):=K;obtain ⟨_,_,_,_,_,_,rfl⟩:=K.shape;have Ug:=Rm.m ax;refine qyK ⟨rfl,λgx a9=>(jF (k:=70000000) (j.le ax) (q.le ax) (sl.1.s ω) (sl.2.1.s ω) (sl.2.2.s ω) (s1.s ω) (s2.s ω)).s ?_⟩;rintro r fu dM L;have b0:RQ fu r (ay A p.1 p.2):=L;obtain ⟨_,_,_,_,_,_,rfl⟩:=L.shape;have M:=sz_v E (p:=((p.1+((1:Int):Rat)*v.1),(p.2+((1:Int):Rat)*v.2))) t1 t2;have B:=sz_v E s1 s2;refine qyK ⟨rfl,λiD eN=>(im ra ra M B).s ?_⟩;rintro r kE fw gc;have ec:ay A (p.1+((1:Int):Rat)*v.1) (p.2+((1:Int):Rat)*v.2)-ay A p.1 p.2=aq.nv A v:=by{have:=aq.kO A p v 1;have e1:((1:Int):Rat)=1:=rfl;rw [e1,this];grind};have u:=M.sub B;dsimp only at u;rw [ec] at gc u;obtain ⟨_,_,_,_,_,_,rfl⟩:=gc.shape;refine qyK ⟨rfl,λmg N=>(nW ra).s ?_⟩;rintro r mz O rfl;have P:=((Ug.m ax).m ax).m (N.m O);(refine ⟨_,rfl,λt=>⟨(((i+1:Nat):Int),_,_,_,_,_,_,_),ω,by and_intros<;>first|rfl|trivial,next (gs.le P) f ?_⟩,λt mh Q=>(Ir (x:=p.1) (y:=p.2) (j.le ax) (q.le ax) ⟨sl.1.s (Ą ω (Ù 60000000)),sl.2.1.s ω,sl.2.2.s ω⟩ s1 s2).s ?_⟩);{unfold aq.zI;rw [Ä (.inl (aq.cF.1 (Ë.1 t)))]};have t:aq.nv A v≠0:=λe=>by{rw [aq.cF.2 e] at t;cases t};rintro r mX gX rfl;have R:=P.m (Q.m gX);(refine ⟨_,rfl,λv0=>⟨(((i+1:Nat):Int),_,_,_,_,_,_,_),ω,by and_intros<;>first|rfl|trivial,next (gs.le R) f ?_⟩,λv0 nM gy=>(jF (k:=70000000) (j.le ax) (q.le ax) (sl.1.s ω) (sl.2.1.s ω) (sl.2.2.s ω) (s1.s ω) (s2.s ω)).s ?_⟩);{unfold aq.zI;rw [Ä (.inr (aq.cF.1 (Ë.1 v0)))]};have v0:ay A p.1 p.2≠0:=λe=>by{rw [aq.cF.2 e] at v0;cases v0};have F:¬(aq.nv A v=0\/ay A p.1 p.2=0):=λh=>h.elim t v0;rintro r qh iX S;have G:RQ qh r (ay A p.1 p.2):=S;obtain ⟨_,_,_,_,_,_,rfl⟩:=S.shape;refine qyK ⟨rfl,λjZ gG=>(jj (G.le gG) (gc.le (N.m (O.m (Q.m ax)))) (λe=>t (Ŝ.1 e)) B u ω).s ?_⟩;rintro r qN mo gt;obtain ⟨_,_,_,_,_,_,rfl⟩:=gt.shape;have H:=(B.mul (il u)).neg;refine qyK ⟨rfl,λtR oB=>(MU ra).s λr sO mL n=>RQ.ex n λ_ n=>λEc I=>(nW ra).s ?_⟩;rintro r Bw T rfl;have o:=(R.m ax).m (I.m T);have U:-(ay A p.1 p.2*(aq.nv A v)⁻¹)*((2:Int):Rat)⁻¹=-(ay A p.1 p.2*(aq.nv A v)⁻¹)*(1/2):=by{rw [show ((2:Int):Rat)⁻¹=1/2 by decide +kernel]};have X:Sz 400000000 (-(ay A p.1 p.2*(aq.nv A v)⁻¹)*((2:Int):Rat)⁻¹):=(H.mul (il (GW (z:=2)))).s ω;(refine ⟨_,rfl,λm Jw yr=>(uJ (n.le (I.m ax)) H).s ?_,λm=>⟨(((i+1:Nat):Int),_,_,_,_,_,_,_),ω,by and_intros<;>first|rfl|trivial,next (gs.le o) f ?_⟩⟩);{have m:=aq.qt.1 (Á m);rintro r Mp Bf gh;obtain ⟨_,_,_,_,_,_,rfl⟩:=gh.shape;have Y:=o.m ax;refine qyK ⟨rfl,λYW Ns=>(e_ ra ra X f).s ?_⟩;rintro r b5 Rl rfl;(refine ⟨_,rfl,λd Wl Nt=>(uJ (n.le (I.m (T.m ax))) H).s ?_,λd=>⟨(((i+1:Nat):Int),_,_,_,_,_,_,_),ω,by and_intros<;>first|rfl|trivial,next (gs.le ax) f ?_⟩⟩);{have d:=sT.1 (Á d);rintro r b6 Jj Z;obtain ⟨_,_,_,_,_,_,rfl⟩:=Z.shape;(refine qyK ⟨rfl,(((i+1:Nat):Int),_,_,_,_,_,_,_),ω,by and_intros<;>first|rfl|trivial,next Z X ?_⟩;rw [U] at d ⊢;unfold aq.zI;rw [Ã F,Ä ⟨m,d⟩])};{have d:¬_:=λh=>Â d (sT.2 h);rw [U] at d;unfold aq.zI;rw [Ã F,Ã λh=>d h.2]}};{have m:¬_:=λh=>Â m (aq.qt.2 h);unfold aq.zI;rw [Ã F,Ã λh=>m h.1]}};{have c:i=ls.length:=by{have:=Â c;omega};subst c;rw [Ĥ] at gs f;generalize ls.foldl (aq.zI p v) 1=s at *;refine (fG ra ra ra s1 s2 f (s3.s ω) (s4.s ω) ω).s λr WC Ee w=>RP.ex w λ_ _ w _ _=>λb7 Nu=>⟨ra,(s1.add (f.mul s3)).s ω,(s2.add (f.mul s4)).s ω⟩}
theorem wL (h:é 6 dh V vs ls)(u:vs.length=ls.length*6):∀v∈vs,v.oneCell'=true:=by intro v a;have ⟨m,hm,e⟩:=Qm2.1 a;exact kL h φ (λ_ _=>Ix) (m:=m) ω (by rw [<-e];exact ï hm)
def EF (ls:List L3):Bool:=decide (ls=[]\/∃l∈ls,(eI l ls ä).isSome=true)
theorem PU (V):RP V (dB #[Õ false,pT none 0 0,pT none 0 0,Õ false,pT none 0 0,pT none 0 0]) 0 0:=qxZ ⟨rfl,rq0 _,rq0 _⟩
theorem tU (h:bM 6 dh V cp cn ls)(hb:∀l∈ls,Bd l)(hk:∀l∈ls,bX l=true)(hl:ls.length<=1000:=by omega):À 90 #[pT cp cn cc] V λr W=>∃u p,r=æ #[u,Õ (EF ls)]/\RP W u (Prod.fst p) (Prod.snd p)/\Sz 500000000 (Prod.fst p)/\Sz 500000000 (Prod.snd p):=by have P:=h.len;subst P;refine D3 V _ ⟨λc Q l1=>?_,λc=>⟨λz _=>∃i:Nat,z=(i:Int)/\i<=ls.length/\∀(k:Nat)(g:k<ls.length),k<i->(eI ls[k] ls ä).isSome=false,λz=>(ls.length-z).toNat,⟨0,σ,0,rfl,ã _,λk _ g=>Å g (Ş k)⟩,?_⟩⟩;{have e:ls=[]:=Ĝ.1 (by have:=Á c;omega);refine ⟨_,(0,0),?_,PU Q,Dt _,Dt _⟩;rw [show EF ls=true from Ç (.inl e)]};have c:ls.length≠0:=λe=>by{rw [e] at c;cases c};rintro z V2 B ⟨i,rfl,hi,C⟩;refine ⟨θ,λb=>?_,λb R fP=>?_⟩;rotate_left;{have e:i=ls.length:=by{have:=Â b;omega};subst e;refine ⟨_,(0,0),?_,PU R,Dt _,Dt _⟩;rw [show EF ls=false from È ?_];rintro (g|⟨l,S,D⟩);{rw [g] at c;exact c rfl};{obtain ⟨k,E,rfl⟩:=Qm2.1 S;rw [C k E E] at D;cases D}};have b:i<ls.length:=by{have:=Á b;omega};have T:i64.wrap ((i:Int)+1)=((i+1:Nat):Int):=by{rw [au ω];rfl};rw [T,Ü];have j:∀{W:un},V.Le W->bM 6 dh W cp ls.length ls:=λg=>h.le g λ_ _ k=>dh.le k g;obtain ⟨is,b1,U,X,Y,b2,Z,n2,c2,b3,p3,n3,c3,a,m,a0,a1,a2,a3,a4,a5,d⟩:=Bi (j B) b;have F:=hb _ (ô b);have hm:=ô b;have sl:=F.iS;have nz:=eK (hk _ (ô b));have n:=vi F;have o:(eI ls[i] ls ä).isSome=false->∀(k:Nat)(g:k<ls.length),k<i+1->(eI ls[k] ls ä).isSome=false:=λe k g a6=>by{by_cases e':k=i;{subst e';exact e};{exact C k g ω}};refine ⟨is,ū,b1,U,X,Y,b2,Z,n2,c2,b3,p3,n3,c3,a,m,a0,a1,a2,a3,a4,a5,λV3 l3=>(vO (j ax) hb hk hl b).s ?_⟩;generalize ls[i]=L at *;rintro r V4 l4 ⟨u,s,rfl,gs,G,-⟩;obtain ⟨_,_,_,_,_,_,_,_,_,_,_,_,_,_,rfl⟩:=Db gs;have oC:=l3.m l4;refine ⟨_,_,_,_,_,_,_,_,_,_,_,_,_,_,_,_,_,rfl,λq V5 l5=>(iq (d.le ax) sl.1 sl.2.1 sl.2.2 ω).s ?_,λq=>⟨((i+1:Nat):Int),by dsimp only;omega,σ,i+1,rfl,b,o q⟩⟩;rintro r V6 l6 gd;obtain ⟨_,_,_,_,_,_,_,_,_,_,_,_,rfl,Ed,t⟩:=id gd;refine qyJ ⟨rfl,λV7 H=>(BV ra G).s ?_⟩;rintro r V8 I J;obtain ⟨_,_,_,_,_,_,rfl⟩:=J.shape;have w:=YG G;have Ns:=(oC.m ax).m ax;refine qyK ⟨rfl,λV9 x=>(r_At (d.le ax) (J.le x) nz (sl.up (K:=200010) ω) w).s λr gx f M=>RP.ex M λ_ _ M _ _=>λfu N=>(uL (t.le ((H.m I).m ((x.m f).m N))) n.2 ω).s λr iD eN go=>RQ.ex go λ_ go=>λkE O=>(Et (p:=(cP L s.rS,cR L s.rS)) (v:=(-(-((L.1:Int):Rat)),((L.2.1:Int):Rat))) (j (B.m (((Ns.m ax).m ax).m O))) hb hl ra ⟨_,_,_,_,_,_,_,_,_,_,_,_,rfl,ra,Ed.le ((H.m I).m ((x.m f).m ((N.m eN).m O)))⟩ ((nt (sl.up (K:=200010) ω) w).s (show _<=60000000 by omega)) ((ny (sl.up (K:=200010) ω) w).s (show _<=60000000 by omega)) (Sz.s n.2.neg ω) (Sz.s n.1 ω)).s ?_⟩;rintro r mg hZ ⟨gp,y,A⟩;obtain ⟨_,_,_,_,_,_,_,_,_,_,_,_,rfl,-⟩:=id gp;refine qyJ ⟨rfl,λmz eH=>⟨_,(_,_),?_,ra,y,A⟩⟩;rw [show EF ls=true from Ç (.inr ⟨L,hm,q⟩)]
def CW (ls:List L3)(m:L3):Int:=if EF (ls++[m])=true/\EF (ls++[Ö m])=true then 0 else if EF (ls++[m])=true then 1 else -1
theorem yY {V}{b c:Nat}(hw:V.w.heap[b]?=some (.cells vs.toArray 60 (0,0)))(y:é 6 dh V vs ls)(z:ls.length<=c)(E:ls≠[])(F:∀l∈ls,Bd l)(M:∀l∈ls,bX l=true)(N:ls.length<=1000):À 90 #[pT (some ⟨b,0,none⟩) ls.length c] (V.aw [b]) λr W=>∃b1 p O c1 Z n2 c2 b2 q n3 c3 q' n4 c4,r=æ #[dB #[Õ b1,pT p O c1,pT Z n2 c2,Õ b2,pT q n3 c3,pT q' n4 c4],Õ (EF ls)]/\W.w.heap[b]?=some (.cells vs.toArray 60 (0,0)):=by have d:=(Qr0.1 hw).1;have f:=Qh6.2 E;have j:V.Le ((V.aw [b]).bare b):=λa v h=>⟨λk=>h.1 k.1,h.2⟩;have i:=bM.bI (V:=(V.aw [b]).bare b) (λ_=>⟨λh=>h.2 rfl,hw⟩) (y.le λ_ _ g=>dh.le g j) φ z;have e:mA b c=some ⟨b,0,none⟩:=by{unfold mA;rw [Ã ω]};rw [e] at i;refine (ae.bare (V:=V.aw [b]) d (tU i F M N)).s ?_;rintro r V' _ ⟨m,u,p,rfl,n,-⟩;obtain ⟨_,_,_,_,_,_,_,_,_,_,_,_,rfl,-⟩:=n;exact qyJ ⟨rfl,m.m hw⟩
theorem rQ {V}{xs ys sp sp':zA um}{m}(u:n=ls.length)(h:é 6 dh V xs ls)(z:xs.length=n*6)(y:ys.length=6)(hm:dh V (.agg ys.toArray) m):é 6 dh V ((([]:zA um).take (0*6)++xs++sp).take ((0+n)*6)++ys++sp') (ls++[m]):=by subst u;have e:([]:zA um).take (0*6)++xs++sp=xs++sp:=ψ;rw [e,Ĉ];have a:é 6 dh V (xs++sp) ls:=by{have:=ie (V:=V) (vs:=[]) (ls:=[]) (sp:=sp) (é.nil) h φ;simpa using this};exact ie a (row_one y hm) φ
theorem tV (h:bM 6 dh V cp cn ls)(hb:∀l∈ls,Bd l)(hk:∀l∈ls,bX l=true)(hl:ls.length<=999){lv m}(hm:dh V lv m)(bm:Bd m)(om:bX m=true):À 43 #[pT cp cn cc,lv] V λr W=>r=Jq (CW ls m):=by have H:=h.len;subst H;have d:=hm;obtain ⟨_,_,_,_,_,_,_,_,_,_,_,_,rfl⟩:=bT hm;have ⟨xs,I,i,t⟩:=eC h φ;have one:∀{W:un} {xs:zA um},é 6 dh W xs ls->xs.length=ls.length*6->∀v∈xs,v.oneCell'=true:=λk u=>wL k u;have J:∀l∈ls++[m],Bd l:=λl h=>(ú.1 h).elim (hb l) λh=>by{rw [õ.1 h];exact bm};have K:∀l∈ls++[m],bX l=true:=λl h=>(ú.1 h).elim (hk l) λh=>by{rw [õ.1 h];exact om};have L:∀l∈ls++[Ö m],Bd l:=λl h=>(ú.1 h).elim (hb l) λh=>by{rw [õ.1 h];exact bm.rev};have M:∀l∈ls++[Ö m],bX l=true:=λl h=>(ú.1 h).elim (hk l) λh=>by{rw [õ.1 h];exact yB om};have c:∀x:L3,(ls++[x]).length=(0+ls.length)+1:=λx=>by{rw [î];simp};refine D4 V _ ⟨xs,I,i,ω,Ù _,ψ,i,one t i,λSX J5 n c3 k u=>⟨ω,k,by simp;omega,rfl,RG,λHf J9 p c7 N g4=>λw q WM O h1=>?_⟩⟩;have y:=yY (V:=w) O (rQ (V:=w) (ys:=[_,_,_,_,_,_]) (sp:=n) (sp':=p) rfl (t.le λ_ _ g=>dh.le g q) i rfl (dh.le d q)) (by rw [c];exact N) ψ J K (by rw [c];omega);rw [c] at y;refine y.s ?_;rintro r V2 P ⟨_,_,_,_,_,_,_,_,_,_,_,_,_,_,rfl,Q⟩;have z:V.Le V2.shut:=λb o g=>P b o (q b o g);have ⟨ys,R,j,A⟩:=eC (h.le z λ_ _ g=>dh.le g z) φ;refine ⟨_,_,_,_,_,_,_,_,_,_,_,_,_,_,_,rfl,_,Q,ys,R,j,ω,Ù _,ψ,j,one A j,λB S e T U g6 V3 l3=>(jO (dh.le d ax)).s ?_⟩;rintro r X l4 Y;have C:dh X r (Ö m):=Y;obtain ⟨_,_,_,_,_,_,_,_,_,_,_,_,rfl⟩:=bT C;refine qxZ ⟨rfl,ω,U,by simp;omega,rfl,RG,λD Z f a0 g7 g8 E l5 F e5 h5=>?_⟩;have G:=yY (V:=E) e5 (rQ (V:=E) (ys:=[_,_,_,_,_,_]) (sp:=e) (sp':=f) rfl (A.le λ_ _ g=>dh.le g ax) j rfl (dh.le C l5)) (by rw [c];exact g7) ψ L M (by rw [c];omega);rw [c] at G;refine G.s ?_;rintro r V6 l6 ⟨_,_,_,_,_,_,_,_,_,_,_,_,_,_,rfl,w6⟩;refine ⟨_,_,_,_,_,_,_,_,_,_,_,_,_,_,_,rfl,_,w6,λa=>⟨λs V7 l7=>?_,λs=>⟨λ_ V8 l8=>?_,(λh=>by rw [a] at h;cases h)⟩⟩,λa=>⟨(λh=>by rw [a] at h;cases h),λ_ fu dM=>?_⟩⟩;{unfold CW;rw [Ä ⟨a,s⟩]};{unfold CW;rw [Ã (λh=>by rw [s] at h;cases h.2),Ä a]};{unfold CW;rw [Ã (λh=>by rw [a] at h;cases h.1),Ã (λh=>by rw [a] at h;cases h)]}
theorem Iu (c):∀(r o:zA L3),(rN c r o).length<=r.length+o.length
 | [],o=>by unfold rN;simp
 | l::r,o=>by
  unfold rN;split
  ·have:=Iu c r (ry l o)
   have a:∀o:zA L3,(ry l o).length<=o.length+1:=λo=>by
    induction o with
    | nil=>simp [ry]
    | cons x r u=>unfold ry;split<;>(try split)<;>simp<;>omega
   have:=a o;simp only [Ā];omega
  ·have:=Iu c r o;simp only [Ā];omega
theorem Iv (c):∀(r o:zA L3),∀x∈rN c r o,x∈r\/x∈o
 | [],o,x,h=>.inr h
 | l::r,o,x,h=>by
  unfold rN at h;rcases Iv c r _ x h with g|g
  ·exact .inl (ø _ g)
  ·split at g
   ·rcases we.1 g with rfl|g
    ·exact .inl (Ć ..)
    ·exact .inr g
   ·exact .inr g
theorem PW {x y}(h:RW V p (.node l x y)):∃(b1:ut)(u:OA)(z c1:Nat)(b2:ut)(E:OA)(F M:Nat)(b3:ut)(N:OA)(O Z:Nat)(pl pr:OA)(a:Addr),p.isSome=true/\af p 2=some a/\∀W:un,V.Le W ->(∃a,af p 0=some a/\W.at a (Õ false))/\(W.at (a.add 0) (Õ b1)/\W.at (a.add 1) (pT u z c1)/\W.at (a.add 2) (Õ b2)/\W.at (a.add 3) (pT E F M)/\W.at (a.add 4) (Õ b3)/\W.at (a.add 5) (pT N O Z))/\(∃a,af p 8=some a/\W.at a (qvZ pl))/\(∃a,af p 9=some a/\W.at a (qvZ pr))/\dh W (dB #[Õ b1,pT u z c1,Õ b2,pT E F M,Õ b3,pT N O Z]) l/\RW W pl x/\RW W pr y:=by obtain ⟨e,f,b1,u,z,c1,b2,E,F,M,b3,N,O,Z,pl,pr,rfl,c,k,m,d⟩:=h;refine ⟨b1,u,z,c1,b2,E,F,M,b3,N,O,Z,pl,pr,(⟨e,0,none⟩:Addr).add 2,rfl,rfl,λW g=>?_⟩;have b:∀(i j:Nat) v,i+j<10->([Õ false,Õ f,Õ b1,pT u z c1,Õ b2,pT E F M,Õ b3,pT N O Z,qvZ pl,qvZ pr]:zA um)[i+j]?=some v->W.at (((⟨e,0,none⟩:Addr).add i).add j) v:=by{intro i j v _ n;rw [MA,add_zero'];exact dX (xs:=[_,_,_,_,_,_,_,_,_,_]) (g _ _ c) n};exact ⟨Is (g _ _ c) 0 rfl,⟨b 2 0 _ ω rfl,b 2 1 _ ω rfl,b 2 2 _ ω rfl,b 2 3 _ ω rfl,b 2 4 _ ω rfl,b 2 5 _ ω rfl⟩,Is (g _ _ c) 8 rfl,Is (g _ _ c) 9 rfl,k.le g,m.le g,d.le g⟩
theorem PV {u i b1 z E c1 b2 F M N b3 O Z c3 pl pr x y}(h:V.bh u (.cells #[Õ false,Õ i,Õ b1,pT z E c1,Õ b2,pT F M N,Õ b3,pT O Z c3,qvZ pl,qvZ pr] 64 (0,0)))(hl:dh V (dB #[Õ b1,pT z E c1,Õ b2,pT F M N,Õ b3,pT O Z c3]) l)(hx:RW V pl x)(hy:RW V pr y):RW V (some ⟨u,0,none⟩) (.node l x y):=
 ⟨u,i,b1,z,E,c1,b2,F,M,N,b3,O,Z,c3,pl,pr,rfl,h,hl,hx,hy⟩
def Rk (l:L3):Tr->Tr->Tr
 | .leaf i,.leaf j=>if i=j then .leaf i else .node l (.leaf i) (.leaf j)
 | x,y=>.node l x y
theorem KC {x y}(h:x.rB=false\/y.rB=false):Rk l x y=.node l x y:=by
 cases x with
 | leaf i=>cases y with
  | leaf j=>rcases h with h|h<;>cases h
  | node=>rfl
 | node=>rfl
theorem vQ {q x y}(hl:dh V v l)(Z:RW V p x)(hy:RW V q y):À 44 #[v,qvZ p,qvZ q] V λr W=>∃o,r=qvZ o/\RW W o (Rk l x y):=by
 obtain ⟨b1,m,n,t,b2,u,w,z,b3,A,B,C,rfl⟩:=bT hl
 have c:∀{W:un} {b:Nat},V.Le W->W.bh b (.cells #[Õ false,Õ false,Õ b1,pT m n t,Õ b2,pT u w z,Õ b3,pT A B C,qvZ p,qvZ q] 64 (0,0))->(x.rB=false\/y.rB=false\/∃i j,x=.leaf i/\y=.leaf j/\i≠j)->∃o,Value.pointer (some ⟨b,0,none⟩)=qvZ o/\RW W o (Rk l x y):=λg h k=>by refine ⟨_,rfl,?_⟩;have e:Rk l x y=.node l x y:=by{rcases k with k|k|⟨i,j,rfl,rfl,k⟩;{exact KC (.inl k)};{exact KC (.inr k)};{show (if i=j then _ else _)=_;rw [Ã k]}};rw [e];exact PV h (dh.le hl g) (Z.le g) (hy.le g)
 have rd:∀{p:OA} {x:Tr},RW V p x->p.isSome=true/\∃a,af p 0=some a/\V.at a (Õ x.rB):=λ{p x} h=>by (cases x with|leaf i=>{obtain ⟨s,D,-⟩:=pZ h;exact ⟨s,D⟩}|node l x y=>{obtain ⟨_,_,_,_,_,_,_,_,_,_,_,_,_,_,_,s,-,H⟩:=PW h;exact ⟨s,(H V (Ó.Le.refl V)).1⟩})
 have ⟨s1,E⟩:=rd Z;have ⟨s2,F⟩:=rd hy;refine Fw V _ ⟨s1,s1,_,E,λd=>⟨s2,s2,_,F,λf=>?_,λf R G b I=>c G I (.inr (.inl f))⟩,λd S J b K=>c J K (.inl d)⟩
 obtain ⟨i,rfl⟩:∃i,x=.leaf i:=by cases x with
  | leaf i=>exact ⟨i,rfl⟩
  | node=>cases d
 obtain ⟨j,rfl⟩:∃j,y=.leaf j:=by cases y with
  | leaf j=>exact ⟨j,rfl⟩
  | node=>cases f
 obtain ⟨-,-,L⟩:=pZ Z;obtain ⟨-,-,M⟩:=pZ hy;refine ⟨s1,s1,i,L,s2,s2,j,M,λh N O=>⟨p,rfl,?_⟩,λh V2 P b Q=>c P Q (.inr (.inr ⟨i,j,rfl,rfl,by simpa using h⟩))⟩;have e:i=j:=by simpa using h
 show RW N p (if i=j then _ else _);rw [Ä e];exact Z.le O
def H6:Tr->Tr
 | .leaf i=>.leaf (!i)
 | .node l x y=>.node l (H6 x) (H6 y)
theorem mH:∀(t:Tr) {V:un} {p:OA},RW V p t->À 19 #[qvZ p] V λr W=>∃q,r=qvZ q/\RW W q (H6 t)
 | .leaf i,V,p,h=>by
  have ⟨s,e0,e1⟩:=pZ h;refine xw V _ ⟨s,s,_,e0,λ_=>⟨s,s,i,e1,λM N=>(cQ (!i)).s ?_⟩,π⟩;rintro r V2 O ⟨q,rfl,g⟩;exact ⟨q,rfl,λP f=>⟨q,rfl,g.le f⟩⟩
 | .node l x y,V,p,h=>by
  obtain ⟨b1,Q,R,S,b2,T,U,W,b3,X,Y,Z,pl,j,a,s,k,H⟩:=PW h;obtain ⟨z,⟨m,n,o,u,v,w⟩,A,B,-,-,-⟩:=H V (Ó.Le.refl V);refine xw V _ ⟨s,s,_,z,π,λ_=>⟨s,s,_,_,_,_,_,_,_,_,_,_,_,_,a,k,m,n,o,u,v,w,s,s,pl,A,s,s,j,B,λC b=>(mH x (H C b).2.2.2.2.2.1).s ?_⟩⟩;rintro r V5 c ⟨D,rfl,E⟩;refine ⟨D,rfl,λF d=>(mH y (H F (b.m (c.m d))).2.2.2.2.2.2).s ?_⟩;rintro r V7 G ⟨I,rfl,J⟩;refine ⟨I,rfl,λK e bk L=>⟨_,rfl,PV L (H K (b.m (c.m (d.m (G.m e))))).2.2.2.2.1 (E.le ax) (J.le e)⟩⟩
def xA (c:List L3)(l:L3):List L3:=rN (c++[l]) (c++[l]) []
theorem Bt (u:∀m∈c,my m)(y:my l):(∀m∈xA c l,my m)/\(xA c l).length<=c.length+1:=by refine ⟨λm hm=>?_,?_⟩;{rcases Iv _ _ _ m hm with g|g;{rcases ú.1 g with g|g;{exact u m g};{rw [õ.1 g];exact y}};{cases g}};{have:=Iu (c++[l]) (c++[l]) [];simp at this;unfold xA;omega}
theorem kF (M:bM 6 dh V cp cn c)(N:∀m∈c,my m)(hn:c.length<=990)(O:dh V v l)(Z:my l):À 45 #[pT cp cn cc,v] V λr W=>∃q n d,r=pT q n d/\bM 6 dh W q n (xA c l):=by obtain rfl:=M.len;obtain ⟨_,_,_,_,_,_,_,_,_,_,_,_,rfl⟩:=bT O;have ⟨xs,p,a,f⟩:=eC M φ;have i:∀m∈c++[l],my m:=λm h=>(ú.1 h).elim (N m) λh=>by{rw [õ.1 h];exact Z};have j:(c++[l]).length=(0+c.length)+1:=by{rw [î];simp};refine Fx V _ ⟨xs,p,a,ω,Ù _,ψ,a,wL f a,λx y b z s A=>⟨ω,s,by simp;omega,rfl,RG,λB C e D E F t u G w=>?_⟩⟩;have k:=bM.h_ w (rQ (V:=t) (ys:=[_,_,_,_,_,_]) (sp:=b) (sp':=e) rfl (f.le λ_ _ g=>dh.le g u) a rfl ra);rw [j] at k;refine (Ey k (λm h=>(i m h).2) (λm h=>(i m h).1) (by rw [j];omega)).s ?_;rintro r V2 H ⟨q,n,d,rfl,g⟩;exact ⟨q,n,d,_,rfl,λJ I o=>⟨q,n,d,rfl,g.le o λ_ _ g=>dh.le g o⟩⟩
def u_:Tr->List L3->Tr
 | .leaf i,_=>.leaf i
 | .node l x y,c=>if CW c l=1 then u_ x c else if CW c l=-1 then u_ y c else Rk l (u_ x (xA c l)) (u_ y (xA c (Ö l)))
theorem pQ (h:my l):my (Ö l):=⟨yB h.1,h.2.rev⟩
theorem dD:∀(t:Tr) {V:un} {p cp:OA} {cn cc:Nat} {c:zA L3},RW V p t->t.eu my->bM 6 dh V cp cn c->(∀m∈c,my m)->c.length+t.depth<=990 ->À 42 #[qvZ p,pT cp cn cc] V λr W=>∃q,r=qvZ q/\RW W q (u_ t c)
 | .leaf i,V,p,cp,cn,cc,c,h,_,_,_,_=>by
  obtain ⟨s,e0,-⟩:=pZ h;exact mU V _ ⟨s,s,_,e0,λ_ V1 S=>⟨p,rfl,h.le S⟩,π⟩
 | .node l x y,V,p,cp,cn,cc,c,h,ha,hc,kc,hd=>by
  obtain ⟨e,K,L⟩:=ha;simp only [Tr.depth] at hd;obtain ⟨b1,p1,n1,c1,b2,p2,n2,c2,b3,p3,n3,c3,pl,M,a,s,A,H⟩:=PW h;obtain ⟨z,⟨f,j,n,o,u,v⟩,B,C,-,-,-⟩:=H V (Ó.Le.refl V);have w:∀{W:un},V.Le W->bM 6 dh W cp cn c:=λg=>hc.le g λ_ _ k=>dh.le k g;refine mU V _ ⟨s,s,_,z,π,λ_=>⟨s,s,_,_,_,_,_,_,_,_,_,_,_,_,a,A,f,j,n,o,u,v,λV2 D=>(tV (w D) (λm h=>(kc m h).2) (λm h=>(kc m h).1) ω (H V2 D).2.2.2.2.1 e.2 e.1).s ?_⟩⟩;rintro r T U rfl;have L3:=D.m U;obtain ⟨-,⟨f,j,n,o,u,v⟩,B,C,-,-,-⟩:=H T L3;refine ⟨_,rfl,λb=>⟨s,s,pl,B,λX l4=>(dD x (H X ax).2.2.2.2.2.1 K (w ax) kc ω).s ?_⟩,λb=>⟨λd=>⟨s,s,M,C,λY l7=>(dD y (H Y ax).2.2.2.2.2.2 L (w ax) kc ω).s ?_⟩,λd=>?_⟩⟩
  ·have b:CW c l=1:=by simpa using b
   rintro r Z l5 ⟨q,rfl,g⟩;exact ⟨q,rfl,λV6 E=>⟨q,rfl,by unfold u_;rw [Ä b];exact g.le E⟩⟩
  ·have b:¬CW c l=1:=by simpa using b
   have d:CW c l=-1:=by simpa using d
   rintro r Z l5 ⟨q,rfl,g⟩;exact ⟨q,rfl,λV6 E=>⟨q,rfl,by unfold u_;rw [Ã b,Ä d];exact g.le E⟩⟩
  ·have b:¬CW c l=1:=by simpa using b
   have d:¬CW c l=-1:=by simpa using d
   have ⟨w1,w2⟩:=Bt kc e;have ⟨w3,w4⟩:=Bt kc (pQ e);refine ⟨s,s,_,_,_,_,_,_,_,_,_,_,_,_,a,A,f,j,n,o,u,v,s,s,pl,B,s,s,_,_,_,_,_,_,_,_,_,_,_,_,a,A,f,j,n,o,u,v,s,s,M,C,s,s,_,_,_,_,_,_,_,_,_,_,_,_,a,A,f,j,n,o,u,v,λgx F=>(kF (w ax) kc ω (H gx ax).2.2.2.2.1 e).s ?_⟩;rintro r fu dM ⟨q1,m1,d1,rfl,h1⟩;refine ⟨q1,m1,d1,rfl,λiD eN=>(dD x (H iD ax).2.2.2.2.2.1 K ra w1 ω).s ?_⟩;rintro r kE fw ⟨o1,rfl,t1⟩;have G:=L3.m (F.m (dM.m (eN.m fw)));refine ⟨o1,rfl,λmg N=>(jO (H mg ax).2.2.2.2.1).s ?_⟩;rintro r mz O gr;have Ko:dh mz r (Ö l):=gr;obtain ⟨_,_,_,_,_,_,_,_,_,_,_,_,rfl⟩:=bT Ko;have I:=G.m (N.m O);refine qxZ ⟨rfl,λmh P=>(kF (w ax) kc ω ra (pQ e)).s ?_⟩;rintro r mX gX ⟨q2,m2,d2,rfl,h2⟩;have J:=I.m (P.m gX);refine ⟨q2,m2,d2,rfl,λnM gy=>(dD y (H nM ax).2.2.2.2.2.2 L ra w3 ω).s ?_⟩;rintro r qh iX ⟨o2,rfl,t2⟩;refine ⟨o2,rfl,λjZ Q=>(vQ (H jZ ((J.m ax).m Q)).2.2.2.2.1 (t1.le (N.m (O.m (P.m ax))) ) (t2.le Q)).s ?_⟩;rintro r qN mo ⟨R,rfl,t3⟩;exact ⟨R,rfl,λtR oB=>⟨R,rfl,by unfold u_;rw [Ã b,Ã d];exact t3.le oB⟩⟩
theorem lu (t)(h:RW V p t)(u:t.eu my)(y:t.depth<=990:=by omega):À 15 #[qvZ p] V λr W=>∃q,r=qvZ q/\RW W q (u_ t []):=by refine AM V _ λc a=>(dD t (h.le a) u (bM.nil (p:=none)) (λm h=>by cases h) (by simpa using y)).s ?_;rintro r V2 d ⟨q,rfl,g⟩;exact ⟨q,rfl,λe b=>⟨q,rfl,g.le b⟩⟩
def Sv (C:Rat×Rat->Prop):Prop:=∀p q,C p->C q->∀s:Rat,0<s->s<1->C (p.1+s*(q.1-p.1),p.2+s*(q.2-p.2))
def Dc (C:Rat×Rat->Prop)(l:L3)(x:Rat×Rat):Prop:=C x/\0<ay l x.1 x.2
theorem Sv.sd {C:Rat×Rat->Prop}(h:Sv C)(l):Sv (Dc C l):=λp q ⟨d,f⟩ ⟨g,i⟩ s c s1=>by
 refine ⟨h p q d g s c s1,?_⟩;have e:ay l (p.1+s*(q.1-p.1)) (p.2+s*(q.2-p.2))=(1-s)*ay l p.1 p.2+s*ay l q.1 q.2:=by unfold ay;grind
 have a:=Œ (show 0<1-s by grind) f;have b:=Œ c i;rw [e];grind
def Mn:(Rat×Rat->Prop)->Tr->Prop
 | _,.leaf _=>True
 | C,.node l x y=>(∃q,Dc C l q)/\(∃q,Dc C (Ö l) q)/\Mn (Dc C l) x/\Mn (Dc C (Ö l)) y
def ND (l:L3):Tr->Nat
 | .leaf _=>0
 | .node m x y=>(if m=l\/m=Ö l then 1 else 0)+(ND l x+ND l y)
theorem betw {u y p:Rat}(h:u<p/\p<y\/y<p/\p<u):∃s:Rat,0<s/\s<1/\p=u+s*(y-u):=by have c:y-u≠0:=χ;have e:=Qn7 _ c;refine ⟨(p-u)*(y-u)⁻¹,?_,?_,χ⟩<;>{rcases h with ⟨d,f⟩|⟨d,f⟩;{have i:=Wq0.2 (show 0<y-u by grind);have a:=Œ (show 0<p-u by grind) i;have b:=Œ (show 0<y-p by grind) i;grind};{have g:=Qn7 _ (show u-y≠0 by grind);have i:=Wq0.2 (show 0<u-y by grind);have a:=Œ (show 0<u-p by grind) i;have b:=Œ (show 0<p-y by grind) i;have:(y-u)⁻¹=-(u-y)⁻¹:=χ;rw [this];grind}}
theorem Sv.line {C:Rat×Rat->Prop}(h:Sv C){u y p}(z:C (cP l u,cR l u))(E:C (cP l y,cR l y))(F:u<p/\p<y\/y<p/\p<u):C (cP l p,cR l p):=by obtain ⟨s,a,s1,rfl⟩:=betw F;have:=h _ _ z E s a s1;have b:cP l u+s*(cP l y-cP l u)=cP l (u+s*(y-u)):=by{unfold cP;grind};have c:cR l u+s*(cR l y-cR l u)=cR l (u+s*(y-u)):=by{unfold cR;grind};grind
theorem Ig (h:Nz l){x y}(u:ay l x y=0):cP l (eE l x y)=x/\cR l (eE l x y)=y:=by have a:=Qn7 _ h.norm;unfold ay at u;unfold cP cR eE;unfold fh at *;constructor<;>grind
theorem Sv.meets {C:Rat×Rat->Prop}(h:Sv C)(ol:bX l=true){p q}(u:Dc C l p)(y:Dc C (Ö l) q):∃z,C (cP l z,cR l z):=by obtain ⟨a,v1⟩:=u;obtain ⟨d,v2⟩:=y;rw [val_rev] at v2;have f:ay l p.1 p.2-ay l q.1 q.2≠0:=χ;have e:=Qn7 _ f;have i:=Wq0.2 (show 0<ay l p.1 p.2-ay l q.1 q.2 by grind);have b:=Œ v2 i;have c:=h p q a d (ay l p.1 p.2*(ay l p.1 p.2-ay l q.1 q.2)⁻¹) (Œ v1 i) χ;generalize E:ay l p.1 p.2*(ay l p.1 p.2-ay l q.1 q.2)⁻¹=s at *;have v0:ay l (p.1+s*(q.1-p.1)) (p.2+s*(q.2-p.2))=0:=by{have g:ay l (p.1+s*(q.1-p.1)) (p.2+s*(q.2-p.2))=ay l p.1 p.2-s*(ay l p.1 p.2-ay l q.1 q.2):=by{unfold ay;grind};rw [g,<-E];grind};refine ⟨eE l (p.1+s*(q.1-p.1)) (p.2+s*(q.2-p.2)),?_⟩<;>grind [Ig,eK]
theorem KR (ol:bX l=true):∀{t:Tr} {C:Rat×Rat->Prop},Mn C t->Sv C->t.eu (λm=>bX m=true)->ND l t≠0->∃z,C (cP l z,cR l z)
 | .leaf _,C,_,_,_,h=>Å rfl h
 | .node m x y,C,⟨⟨N,g1⟩,⟨O,g2⟩,F,M⟩,u,⟨Z,ox,oy⟩,h=>by
  unfold ND at h;split at h
  ·grind [u.meets,rev_rev]
  ·by_cases k:ND l x=0
   ·have ⟨z,E⟩:=KR ol M (u.sd _) oy ω;exact ⟨z,E.1⟩
   ·have ⟨z,E⟩:=KR ol F (u.sd _) ox k;exact ⟨z,E.1⟩
open Classical in
theorem NH (ol:bX l=true){P}:∀{t:Tr} {C:Rat×Rat->Prop},Mn C t->Sv C->t.eu (λm=>bX m=true)->Crs l P t->ND l t<=1+P.countP λp=>decide (C (cP l p,cR l p))
 | .leaf _,C,_,_,_,_=>ã _
 | .node m x y,C,⟨⟨q1,g1⟩,⟨q2,g2⟩,N,O⟩,M,⟨om,ox,oy⟩,⟨Z,cx,cy⟩=>by
  unfold ND;have ne:∀{z:Rat},ay l (cP l z) (cR l z)=0:=λ{z}=>(qO (eK ol) z).1
  have sub:∀k:L3,P.countP (λp=>decide (Dc C k (cP l p,cR l p)))<=P.countP λp=>decide (C (cP l p,cR l p)):=λk=>List.countP_mono_left λp _ h=>by
   simp only [Ñ] at h ⊢;exact h.1
  split
  ·rename_i e
   have zero:∀{k:L3} {t:Tr},(k=l\/k=Ö l)->Mn (Dc C k) t->t.eu (λm=>bX m=true)->ND l t=0:=λ{k t} r h o=>by
    by_cases z:ND l t=0
    ·exact z
    ·obtain ⟨w,-,hw⟩:=KR ol h (M.sd _) o z;rcases r with rfl|rfl
     ·rw [ne] at hw;exact Å hw φ
     ·rw [val_rev,ne] at hw;exact Å hw φ
   rw [zero e N ox,zero (by rcases e with rfl|rfl;exact .inr rfl;exact .inl (rev_rev _)) O oy];omega
  ·have A:=NH ol N (M.sd _) ox cx;have B:=NH ol O (M.sd _) oy cy;have s1:=sub m;have s2:=sub (Ö m);by_cases s:ND l x=0
   ·omega
   ·by_cases u:ND l y=0
    ·omega
    ·obtain ⟨d,v,b1⟩:=KR ol N (M.sd _) ox s;obtain ⟨i,D,b2⟩:=KR ol O (M.sd _) oy u;rw [val_rev] at b2;rw [qe] at b1 b2;have j:Û m l≠0:=λh=>by rw [h] at b1 b2;grind
     have E:Û m l*Ø m l=-j9 m l:=by
      unfold Ø;grind
     have F:d<Ø m l/\Ø m l<i\/i<Ø m l/\Ø m l<d:=by rcases cZ (Û m l) with ⟨g,_⟩|⟨g,_⟩|⟨g,_⟩;{exact Å g j};{right;have t1:Û m l*(d-Ø m l)>0:=χ;have t2:Û m l*(Ø m l-i)>0:=χ;exact ⟨by have:=(Qp5 g).1 t2;grind,by have:=(Qp5 g).1 t1;grind⟩};{left;have K:-Û m l>0:=χ;have t1:-Û m l*(Ø m l-d)>0:=χ;have t2:-Û m l*(i-Ø m l)>0:=χ;grind [Rat.mul_pos_iff_of_pos_left]}
     have L:ay m (cP l (Ø m l)) (cR l (Ø m l))=0:=by rw [qe,E];grind
     have n:0<P.countP λc=>decide (c=Ø m l):=Qr9.2 ⟨_,Z j,ψ⟩
     have H:=cnt3 (f:=λp=>decide (Dc C m (cP l p,cR l p))) (g:=λp=>decide (Dc C (Ö m) (cP l p,cR l p))) (h:=λc=>decide (c=Ø m l)) (k:=λp=>decide (C (cP l p,cR l p))) (λc=>by
      by_cases e:c=Ø m l
      ·subst e;have G:¬Dc C m (cP l (Ø m l),cR l (Ø m l)):=λh=>by{have:=h.2;dsimp only at this;grind};have I:¬Dc C (Ö m) (cP l (Ø m l),cR l (Ø m l)):=λh=>by{have:=h.2;dsimp only at this;rw [val_rev] at this;grind};simp [G,I,(M.line v D F)]
      ·by_cases a:Dc C m (cP l c,cR l c)
       ·have b:¬Dc C (Ö m) (cP l c,cR l c):=λh=>by{have q:=h.2;have J:=a.2;dsimp only at q J;rw [val_rev] at q;grind};simp [a,b,e,a.1]
       ·by_cases b:Dc C (Ö m) (cP l c,cR l c)
        ·simp [a,b,e,b.1]
        ·simp [a,b,e]) P
     omega
theorem VO {α:Type}{f g:α->Nat}:∀{S:zA α},(∀x∈S,f x<=g x)->(S.map f).sum<=(S.map g).sum
 | [],_=>Ù _
 | x::S,h=>by
  have:=h x (Ć ..);have:=VO (S:=S) λy a=>h y (ø _ a);grind
theorem sum_add {α:Type}{f g:α->Nat}:∀S:zA α,(S.map λx=>f x+g x).sum=(S.map f).sum+(S.map g).sum
 | []=>rfl
 | x::S=>by simp only [ĺ,Wk5,sum_add S];omega
theorem GV {α:Type}{k:Nat}:∀S:zA α,(S.map λ_=>k).sum=S.length*k
 | []=>ψ
 | x::S=>by simp only [ĺ,Wk5,GV S,Ā,Ē];omega
theorem Dg:∀{t:Tr},t.eu (·∈ S)->t.size<=(S.map λl=>ND l t).sum
 | .leaf _,_=>ã _
 | .node m x y,⟨hm,u,z⟩=>by
  have A:=Dg u;have B:=Dg z
  have e:(S.map λl=>ND l (.node m x y)).sum=(S.map λl=>if m=l\/m=Ö l then 1 else 0).sum+((S.map λl=>ND l x).sum+(S.map λl=>ND l y).sum):=by
   rw [<-sum_add,<-sum_add];rfl
  have one:1<=(S.map λl=>if m=l\/m=Ö l then 1 else 0).sum:=by
   clear A B e u z
   induction S<;>grind
  grind [Tr.size]
theorem M5 {t}(h:t.eu (·∈ S)):Crs l (S.map λm=>Ø m l) t:=h.imp λm hm _=>ù.2 ⟨m,hm,rfl⟩
theorem VC {t:Tr}{C:Rat×Rat->Prop}(h:Mn C t)(z:Sv C)(u:t.eu (·∈ S))(y:∀l∈S,bX l=true):t.size<=S.length*(1+S.length):=by refine Ą (Dg u) ?_;rw [<-GV (k:=1+S.length) S];exact VO λl a=>Ą (NH (y l a) h z (u.imp λm hm=>y m hm) (M5 u)) (Nat.add_le_add_left (Ą (List.countP_le_length ..) (by rw [ē];exact Ù _)) 1)
theorem Mn.jn {C:Rat×Rat->Prop}{x y}(h:Mn C (.node l x y)):Mn C (Rk l x y):=by unfold Rk;split;{split;{trivial};{exact h}};{exact h}
theorem eu.jn {q:L3->Prop}{x y}(h:(Tr.node l x y).eu q):(Rk l x y).eu q:=by unfold Rk;split;{split;{trivial};{exact h}};{exact h}
theorem dep_jn {x y}:(Rk l x y).depth<=(Tr.node l x y).depth:=by unfold Rk;split;{split;{exact ã _};{exact Ù _}};{exact Ù _}
theorem Xd (c):Sv (aq.pos c):=by
 induction c with
 | nil=>exact λp q _ _ s _ _ m hm=>nomatch hm
 | cons l c u=>
  have e:aq.pos (l::c)=Dc (aq.pos c) l:=by funext q;refine propext ⟨λh=>⟨λm hm=>h m (ø _ hm),h l (Ć ..)⟩,λh m hm=>?_⟩;rcases ç.1 hm with rfl|hm;{exact h.2};{exact h.1 m hm}
  rw [e];exact u.sd l
theorem Ih {q}:aq.pos (c++[l]) q↔Dc (aq.pos c) l q:=
 ⟨λh=>⟨λm hm=>h m (Ĩ _ hm),h l ψ⟩,λh m hm=>(ú.1 hm).elim (h.1 m) λg=>by rw [õ.1 g];exact h.2⟩
theorem C8:∀(r out:zA L3)(x:L3),x∈rN c r out↔x∈out\/x∈r/\(eI x c ä).isSome=true
 | [],out,x=>by simp [rN]
 | l::r,out,x=>by
  unfold rN;rw [C8];split<;>grind [we]
theorem PI (u:∀m∈c,bX m=true)(y:bX l=true)(h:∃q,Dc (aq.pos c) l q):aq.pos (xA c l)=Dc (aq.pos c) l:=by have b:∀m∈c++[l],bX m=true:=χ;obtain ⟨q,a⟩:=h;have a:=Ih.2 a;funext x;refine propext (Iff.trans ⟨λg=>aq.ess (dif_of b a) a λm hm e=>g m ((C8 _ _ _).2 (.inr ⟨hm,(Pb (eK (b m hm))).2 e⟩)),λg m hm=>?_⟩ Ih);rcases (C8 _ _ _).1 hm with h|⟨h,-⟩;{cases h};{exact g m h}
theorem XD (u:∀m∈ls,bX m=true)(h:EF ls=true):∃q,aq.pos ls q:=by rcases Á h with rfl|⟨l,a,b⟩;{exact ⟨(0,0),λm hm=>nomatch hm⟩};{obtain ⟨p,c,d⟩:=(Pb (eK (u l a))).1 b;obtain ⟨q,e,-⟩:=aq.es_pos (nz_d (u l a)) c d [] (λm hm=>nomatch hm);exact ⟨q,e⟩}
theorem Ye (z:∀m∈c,bX m=true)(u:bX l=true)(ne:∃q,aq.pos c q)(y:CW c l≠1)(E:CW c l≠-1):(∃q,Dc (aq.pos c) l q)/\∃q,Dc (aq.pos c) (Ö l) q:=by have add:∀{m:L3},bX m=true->(EF (c++[m])=true->∃q,Dc (aq.pos c) m q):=λ{m} hm h=>by{have ⟨q,a⟩:=XD (λx b=>(ú.1 b).elim (z x) λh=>by rw [õ.1 h];exact hm) h;exact ⟨q,Ih.1 a⟩};unfold CW at y E;split at y;{rename_i g;exact ⟨add u g.1,add (yB u) g.2⟩};grind
structure Mo (q:L3->Prop) (d:Nat) (C:Rat×Rat->Prop) (t:Tr):Prop where
 prp:Mn C t
 all:t.eu q
 dep:t.depth<=d
theorem Mo.node {q:L3->Prop}{d x y}(E:∀m∈c,bX m=true)(F:bX l=true)(M:q l)(ne:∃q,aq.pos c q)(N:CW c l≠1)(O:CW c l≠-1)(u:(∃q,aq.pos (xA c l) q)->Mo q d (aq.pos (xA c l)) x)(z:(∃q,aq.pos (xA c (Ö l)) q)->Mo q d (aq.pos (xA c (Ö l))) y):Mo q (d+1) (aq.pos c) (Rk l x y):=by have ⟨a,b⟩:=Ye E F ne N O;rw [PI E F a] at u;rw [PI E (yB F) b] at z;have u:=u a;have z:=z b;refine ⟨Mn.jn ⟨a,b,u.prp,z.prp⟩,eu.jn ⟨M,u.all,z.all⟩,Ą dep_jn ?_⟩<;>grind [u.dep,z.dep,Tr.depth]
theorem Bu (u:∀m∈c,bX m=true)(y:bX l=true):∀m∈xA c l,bX m=true:=λm hm=>by rcases Iv _ _ _ m hm with g|g<;>grind
theorem Mo.s {q:L3->Prop}{d e}{C:Rat×Rat->Prop}{t}(h:Mo q d C t)(u:d<=e):Mo q e C t:=⟨h.prp,h.all,Ą h.dep u⟩
theorem va {q:L3->Prop}(u:∀l,q l->bX l=true):∀{t:Tr} {c:zA L3},t.eu q->(∀m∈c,bX m=true)->(∃x,aq.pos c x)->Mo q t.depth (aq.pos c) (u_ t c)
 | .leaf i,c,_,_,_=>⟨trivial,trivial,Ù _⟩
 | .node l x y,c,⟨ql,qx,qy⟩,z,ne=>by
  have E:=u l ql;unfold u_;simp only [Tr.depth];split
  ·exact (va u qx z ne).s ω
  ·split
   ·exact (va u qy z ne).s ω
   ·rename_i a b;refine (Mo.node (d:=max x.depth y.depth) z E ql ne a b (λg=>(va u qx (Bu z E) g).s ω) (λg=>(va u qy (Bu z (yB E)) g).s ω)).s ω
theorem Mn.not:∀{t:Tr} {C:Rat×Rat->Prop},Mn C t->Mn C (H6 t)
 | .leaf _,_,_=>trivial
 | .node _ _ _,_,⟨a,b,c,d⟩=>⟨a,b,Mn.not c,Mn.not d⟩
theorem eu.not {q:L3->Prop}:∀{t:Tr},t.eu q->(H6 t).eu q
 | .leaf _,_=>trivial
 | .node _ _ _,⟨a,b,c⟩=>⟨a,eu.not b,eu.not c⟩
theorem HF:∀t:Tr,(H6 t).depth=t.depth
 | .leaf _=>rfl
 | .node _ x y=>by simp only [H6,Tr.depth,HF x,HF y]
theorem Mo.not {q:L3->Prop}{d}{C:Rat×Rat->Prop}{t}(h:Mo q d C t):Mo q d C (H6 t):=⟨h.prp.not,eu.not h.all,by rw [HF];exact h.dep⟩
def rH (op:Int):Tr->Tr->List L3->Tr
 | .leaf i,b,c=>if op=1/\i=true then .leaf true else if (op=2\/op=3)/\i=false then .leaf false else if (op=3\/op=4)/\i=true then H6 (u_ b c) else u_ b c
 | .node l x y,b,c=>if CW c l=1 then rH op x b c else if CW c l=-1 then rH op y b c else Rk l (rH op x b (xA c l)) (rH op y b (xA c (Ö l)))
theorem CI {q:L3->Prop}(z:∀l,q l->bX l=true){op b}(E:b.eu q):∀{a:Tr} {c:zA L3},a.eu q->(∀m∈c,bX m=true)->(∃x,aq.pos c x)->Mo q (a.depth+b.depth) (aq.pos c) (rH op a b c)
 | .leaf i,c,_,u,ne=>by
  have R:Mo q ((Tr.leaf i).depth+b.depth) (aq.pos c) (u_ b c):=(va z E u ne).s ω;unfold rH;split
  ·exact ⟨trivial,trivial,ã _⟩
  ·split
   ·exact ⟨trivial,trivial,ã _⟩
   grind [R.not]
 | .node l x y,c,⟨ql,qx,qy⟩,u,ne=>by
  have e:=z l ql;unfold rH;simp only [Tr.depth];split
  ·exact (CI z E qx u ne).s ω
  ·split
   ·exact (CI z E qy u ne).s ω
   ·rename_i f h;refine (Mo.node (d:=max x.depth y.depth+b.depth) u e ql ne f h (λg=>(CI z E qx (Bu u e) g).s ω) (λg=>(CI z E qy (Bu u (yB e)) g).s ω)).s ω
theorem MB:∀t:Tr,t.eu (·∈ t.cV)
 | .leaf _=>trivial
 | .node l x y=>⟨Ć ..,(MB x).imp λ_ h=>ø _ (Ĩ _ h),(MB y).imp λ_ h=>ø _ (Ĺ _ h)⟩
def qD (V:Ó)(v:Value)(x:L3×Sp):Prop:=xF V v x.1 x.2
theorem Lf {V}{xs:zA um}{x}(h:qD V (.agg xs.toArray) x):∀v∈xs,v.oneCell'=true:=by obtain ⟨_,_,_,_,_,_,_,_,_,_,_,_,_,_,_,ex,-,-⟩:=h;have ex:=Æ Array.toList (Value.agg.inj ex);subst ex;intro v a;simp only [ç,Ġ,Ì] at a;rcases a with rfl|rfl|rfl|rfl|rfl|rfl|rfl|rfl|rfl|rfl|rfl|rfl|rfl|rfl|rfl|rfl|rfl<;>rfl
def fY:L3×Sp:=((0,0,0),⟨0,0,false,false⟩)
def uD (a b:L3×Sp):Int:=jP a.1 b.1
theorem U2:ņ uD:=⟨λa b h=>U3.asy a.1 b.1 h,λa b d h c=>U3.tr a.1 b.1 d.1 h c⟩
def Sl (V:Ó)(v:Value)(c:L3×Sp):Prop:=xF V v c.1 c.2/\jC 10000 c.1
theorem Sl.le {V V' c}(h:Sl V v c)(l:V.Le V'):Sl V' v c:=⟨h.1.le l,h.2⟩
theorem Sl.shape {c}(h:Sl V v c):∃(x y:Int)(p:OA)(u z:Int)(E:OA)(xc F:Int)(M:OA)(N O:Int)(pd:OA)(Z ye:Int)(pe:OA)(fa fb:ut),v=dB #[Jq x,Jq y,qvZ p,Jq u,Jq z,qvZ E,Jq xc,Jq F,qvZ M,Jq N,Jq O,qvZ pd,Jq Z,Jq ye,qvZ pe,Õ fa,Õ fb]:=by obtain ⟨⟨_,_,_,_,_,_,_,_,_,_,_,_,_,_,_,e,-⟩,-⟩:=h;exact ⟨_,_,_,_,_,_,_,_,_,_,_,_,_,_,_,_,_,e⟩
theorem oY {w a b}(h:Sl V v a)(u:Sl V w b):À 116 #[v,w] V λr W=>r=Jq (uD a b):=by obtain ⟨⟨_,_,_,_,_,_,_,_,_,_,_,_,_,_,_,rfl,f,-⟩,c⟩:=h;obtain ⟨⟨_,_,_,_,_,_,_,_,_,_,_,_,_,_,_,rfl,g,-⟩,d⟩:=u;refine yL V _ λi e=>(xP (f.le e) (g.le e) c.1 c.2.1 c.2.2 d.1 d.2.1 d.2.2).s ?_;rintro r V2 j rfl;rw [KU];exact ⟨_,rfl,λk l=>rfl⟩
structure vB (V:Ó) (n:Nat) (vs:List Value) (l:List (L3×Sp)):Prop where
 row:é 17 Sl V vs l
 len:n=l.length
 iY:l.length<10000
theorem vB.le {V V' l}(h:vB V n vs l)(e:V.Le V'):vB V' n vs l:=⟨h.row.le λ_ _ g=>Sl.le g e,h.len,h.iY⟩
theorem vB.get {l}(h:vB V n vs l){k}(hk:k<l.length):∃(x y:Int)(p:OA)(u z:Int)(E:OA)(xc F:Int)(M:OA)(N O:Int)(pd:OA)(Z ye:Int)(pe:OA)(fa fb:ut),((0+k*17)+17<=vs.length/\(vs.drop (0+k*17)).take 17=[Jq x,Jq y,qvZ p,Jq u,Jq z,qvZ E,Jq xc,Jq F,qvZ M,Jq N,Jq O,qvZ pd,Jq Z,Jq ye,qvZ pe,Õ fa,Õ fb])/\Sl V (dB #[Jq x,Jq y,qvZ p,Jq u,Jq z,qvZ E,Jq xc,Jq F,qvZ M,Jq N,Jq O,qvZ pd,Jq Z,Jq ye,qvZ pe,Õ fa,Õ fb]) (l.getD k fY):=by obtain ⟨xs,-,a,b,c⟩:=h.row.get (d:=fY) hk φ;obtain ⟨x,y,p,u,z,E,xc,F,M,N,O,pd,Z,ye,pe,fa,fb,e⟩:=a.shape;have e:=Æ Array.toList (Value.agg.inj e);dsimp only at e;subst e;rw [Ĉ];exact ⟨x,y,p,u,z,E,xc,F,M,N,O,pd,Z,ye,pe,fa,fb,⟨b,c⟩,a⟩
theorem vB.swap {l}(h:vB V n vs l){i j}(hi:i<l.length)(hj:j<l.length){x y xb yb pb xc yc pc xd yd pd xe ye pe fa fb x' y' p' u z E YN F M N O Z xe' ye' pe' fa' fb'}(h1:Sl V (dB #[Jq x,Jq y,qvZ p,Jq xb,Jq yb,qvZ pb,Jq xc,Jq yc,qvZ pc,Jq xd,Jq yd,qvZ pd,Jq xe,Jq ye,qvZ pe,Õ fa,Õ fb]) (l.getD i fY))(h2:Sl V (dB #[Jq x',Jq y',qvZ p',Jq u,Jq z,qvZ E,Jq YN,Jq F,qvZ M,Jq N,Jq O,qvZ Z,Jq xe',Jq ye',qvZ pe',Õ fa',Õ fb']) (l.getD j fY)):(0+i*17)+17<=vs.length/\(0+j*17)+17<=(bw vs (0+i*17) [Jq x',Jq y',qvZ p',Jq u,Jq z,qvZ E,Jq YN,Jq F,qvZ M,Jq N,Jq O,qvZ Z,Jq xe',Jq ye',qvZ pe',Õ fa',Õ fb']).length/\vB V n (bw (bw vs (0+i*17) [Jq x',Jq y',qvZ p',Jq u,Jq z,qvZ E,Jq YN,Jq F,qvZ M,Jq N,Jq O,qvZ Z,Jq xe',Jq ye',qvZ pe',Õ fa',Õ fb']) (0+j*17) [Jq x,Jq y,qvZ p,Jq xb,Jq yb,qvZ pb,Jq xc,Jq yc,qvZ pc,Jq xd,Jq yd,qvZ pd,Jq xe,Jq ye,qvZ pe,Õ fa,Õ fb]) (IG fY l i j):=by obtain ⟨-,-,-,a,-⟩:=h.row.get (d:=fY) hi φ;obtain ⟨-,-,-,b,-⟩:=h.row.get (d:=fY) hj φ;rw [Ĉ,Ĉ];refine ⟨a,by rw [mR (by exact a)];exact b,h.row.swap hi hj φ rfl rfl h1 h2,by rw [IH];exact h.len,by rw [IH];exact h.iY⟩
def My (lb n:Nat)(l:List (L3×Sp))(a b:Nat)(V':Ó)(Q:List (L3×Sp)->Prop):Prop:=∃u l',V'.w.heap[lb]?=some (.cells u.toArray 80 (0,0))/\vB V' n u l'/\uv fY l l' a b/\Q l'
theorem nS {V lb c l}(hw:V.w.heap[lb]?=some (.cells vs.toArray 80 (0,0)))(hx:V.X lb)(h:vB V n vs l){a b}(hab:a<=b)(hb:b<=l.length:=by omega):À 246 #[pT (some ⟨lb,0,none⟩) n c,Jq a,Jq b,.func (.func 116) #[] #[]] V λr W=>r=æ #[]/\My lb n l a b W λl'=>qf uD fY l' a b:=by
 have iY:=h.iY;have len:=h.len;have wa:i64.wrap ((a:Int)+1)=((a+1:Nat):Int):=by rw [au ω];omega
 refine iW lb n c vs a b V _ hw hx ⟨λz V'=>∃(i:Nat)(m:zA (L3×Sp)),z.1=(i:Int)/\a<i/\(i<=b\/i=a+1)/\vB V' n z.2 m/\uv fY l m a b/\qf uD fY m a i,λz=>(b-z.1).toNat,
  ⟨(_,vs),σ,a+1,l,wa,ω,.inr rfl,h,.refl _ _ _,.short ω⟩,?_⟩
 rintro ⟨z,us⟩ V1 l1 ⟨i,m,e,a0,q,g,d,o⟩;dsimp only at e g;subst e;dsimp only;have ml:=d.len;refine ⟨rfl,λf=>?_,λf V6 l6 S=>⟨rfl,us,m,S,ra,d,?_⟩⟩
 ·have f:=Á f;have w2:i64.wrap ((i:Int)+1)=((i+1:Nat):Int):=by rw [au ω];omega
  rw [w2];refine ⟨λz V'=>∃(j:Nat)(k:zA (L3×Sp)),z.1=(j:Int)/\a<=j/\j<=i/\vB V' n z.2 k/\uv fY l k a b/\YQ uD fY k a i j,λz=>z.1.toNat,⟨((i:Int),us),σ,i,m,rfl,ω,Ù _,g,d,.start o⟩,?_⟩;rintro ⟨z,ws⟩ V2 l2 ⟨j,k,e,a1,Q,g,d,p⟩;dsimp only at e g;subst e;dsimp only;have kl:=d.len;refine ⟨rfl,λz V'=>V2.Le V'/\(z=true->a<j/\uD (k.getD j fY) (k.getD (j-1) fY)<0)/\(z=false->j<=a\/¬uD (k.getD j fY) (k.getD (j-1) fY)<0),⟨λs=>?_,λs=>?_⟩,?_⟩
  ·have s:=Á s;have T:i64.wrap ((j:Int)-1)=((j-1:Nat):Int):=by{rw [au ω];omega};rw [T,Ü,Ü];obtain ⟨U,W,Y,Z,AV,Bk,Ww,Wx,u,v,x,y,A,B,C,D,E,g1,r1⟩:=g.get (k:=j) ω;have ⟨x2,y2,p2,Mu,Mv,NL,F,G,H,I,J,K,L,M,N,O,P,g2,r2⟩:=g.get (k:=j-1) ω;refine ⟨ū,U,W,Y,Z,AV,Bk,Ww,Wx,u,v,x,y,A,B,C,D,E,g1,ū,x2,y2,p2,Mu,Mv,NL,F,G,H,I,J,K,L,M,N,O,P,g2,λV3 l3=>(oY ra ra).s ?_⟩;rintro r V4 l4 rfl;exact ⟨_,rfl,_,σ,l3.m l4,λh=>⟨ω,Á h⟩,λh=>.inr (Â h)⟩
  ·have s:=Â s;exact ⟨false,σ,Ó.Le.refl _,π,λ_=>.inl ω⟩
  ·rintro t V5 l5 ⟨lv,t1,t2⟩;refine ⟨rfl,λht=>?_,λht=>⟨(((i+1:Nat):Int),ws),ω,σ,i+1,k,rfl,ω,.inl ω,ra,d,p.done U2 Q (t2 ht)⟩⟩;have ⟨s,R⟩:=t1 ht;have T:i64.wrap ((j:Int)-1)=((j-1:Nat):Int):=by rw [au ω];omega
   rw [T,Ü,Ü];obtain ⟨U,W,Y,Z,AV,Bk,Ww,Wx,u,v,x,y,A,B,C,D,E,g1,r1⟩:=(g.le l5).get (k:=j) ω;obtain ⟨x2,y2,p2,Mu,Mv,NL,F,G,H,I,J,K,L,M,N,O,P,g2,r2⟩:=(g.le l5).get (k:=j-1) ω;obtain ⟨s1,s2,s3⟩:=(g.le l5).swap (i:=j) (j:=j-1) ω ω r1 r2
   exact ⟨ū,x2,y2,p2,Mu,Mv,NL,F,G,H,I,J,K,L,M,N,O,P,g2,ū,U,W,Y,Z,AV,Bk,Ww,Wx,u,v,x,y,A,B,C,D,E,g1,ū,s1,ū,s2,(((j-1:Nat):Int),_),ω,σ,j-1,_,rfl,ω,ω,s3,
    d.m (uv.IG ω ω ω ω),p.move U2 s Q ω R⟩
 ·have f:=Â f;rcases q with q|q;{rw [show b=i by omega];exact o};{exact .short ω}
end Go.Proofs.Tryz
namespace Go.Proofs.Tryz
section
variable {α:Type} {c:α->α->Int} {d:α}
structure Ea (d:α) (l l':List α) (s m e:Nat):Prop where
 qJ:uv d l l' s e
 lo:∀k,s<=k->k+m<s+e->l'.getD k d=l.getD (k+m-s) d
 hi:∀k,s+e<=k+m->k<e->l'.getD k d=l.getD (k+m-e) d
theorem Ea.nil1 {l m e}:Ea d l l m m e:=⟨.refl _ _ _,λk _ _=>by rw [Qc8],λk h a=>ω⟩
theorem Ea.nil2 {l s m}:Ea d l l s m m:=⟨.refl _ _ _,λk h a=>ω,λk _ _=>by rw [Qc8]⟩
structure Wm (d:α) (l l':List α) (a b n:Nat):Prop where
 qJ:uv d l l' a (b+n)
 e1:∀k,k<n->l'.getD (a+k) d=l.getD (b+k) d
 e2:∀k,k<n->l'.getD (b+k) d=l.getD (a+k) d
 out:∀k,¬(a<=k/\k<a+n)->¬(b<=k/\k<b+n)->l'.getD k d=l.getD k d
theorem Wm.nil {l a b}:Wm d l l a b 0:=⟨.refl _ _ _,λk h=>ω,λk h=>ω,λ_ _ _=>rfl⟩
theorem Wm.snoc {l m a b n}(h:Wm d l m a b n)(u:a+n<b)(y:b+n<l.length):Wm d l (IG d m (a+n) (b+n)) a b (n+1):=by have len:=h.qJ.len;have e:=λk=>yH (d:=d) (l:=m) (i:=a+n) (j:=b+n) (k:=k) ω;refine ⟨(h.qJ.wide (Ù _) ω).m (uv.IG ω ω ω ω),λk f=>?_,λk f=>?_,λk g o=>?_⟩;{rw [e,Ã ω];by_cases c:k=n;{subst c;rw [Ä rfl];exact h.out _ ω ω};{rw [Ã ω];exact h.e1 k ω}};{rw [e];by_cases c:k=n;{subst c;rw [Ä rfl];exact h.out _ ω ω};{rw [Ã ω,Ã ω];exact h.e2 k ω}};{rw [e,Ã ω,Ã ω];exact h.out _ ω ω}
theorem rot_eq {l l' m i}(hi:i<=m)(h:Wm d l l' (m-i) m i):Ea d l l' (m-i) m (m+i):=by refine ⟨h.qJ,λk a b=>?_,λk a b=>?_⟩;{have:=h.e1 (k-(m-i)) ω;rwa [show m-i+(k-(m-i))=k by omega,show m+(k-(m-i))=k+m-(m-i) by omega] at this};{have:=h.e2 (k-m) ω;rwa [show m+(k-m)=k by omega,show m-i+(k-m)=k+m-(m+i) by omega] at this}
theorem rot_gt {l n l'}{m i j:Nat}(hi:i<=m)(u:j<i)(h:Wm d l n (m-i) m j)(g:Ea d n l' (m-(i-j)) m (m+j)):Ea d l l' (m-i) m (m+j):=by refine ⟨h.qJ.m (g.qJ.wide ω ω),λk b a=>?_,λk b a=>?_⟩;{have:=h.e1 (k-(m-i)) ω;rw [show m-i+(k-(m-i))=k by omega,show m+(k-(m-i))=k+m-(m-i) by omega] at this;rw [<-this];exact g.qJ.out k ω};{by_cases c:k+m<m-(i-j)+(m+j);{rw [g.lo k ω c];have:=h.e2 (k+m-(m-(i-j))-m) ω;rw [show m+(k+m-(m-(i-j))-m)=k+m-(m-(i-j)) by omega] at this;rw [this];congr 1;omega};{rw [g.hi k ω a];exact h.out _ ω ω}}
theorem rot_lt {l n l'}{m i j:Nat}(hi:i<=m)(u:i<j)(h:Wm d l n (m-i) (m+j-i) i)(g:Ea d n l' (m-i) m (m+(j-i))):Ea d l l' (m-i) m (m+j):=by have s:=h.qJ;rw [show m+j-i+i=m+j by omega] at s;refine ⟨s.m (g.qJ.wide ω ω),λk a b=>?_,λk a b=>?_⟩;{by_cases c:k+m<m-i+(m+(j-i));{rw [g.lo k a c];exact h.out _ ω ω};{by_cases e:k<m+(j-i);{rw [g.hi k ω e];have:=h.e1 (k+m-(m+(j-i))-(m-i)) ω;rw [show m-i+(k+m-(m+(j-i))-(m-i))=k+m-(m+(j-i)) by omega] at this;rw [this];congr 1;omega};{exfalso;omega}}};{rw [g.qJ.out k ω];have:=h.e2 (k-(m+j-i)) ω;rw [show m+j-i+(k-(m+j-i))=k by omega] at this;rw [this];congr 1;omega}
theorem Hc {l l' a s m e b}(F:a<=s)(M:s<=m)(N:m<=e)(O:e<=b)(r:Ea d l l' s m e)(u:qf c d l a m)(v:qf c d l m b)(z:∀x y,a<=x->x<s->e<=y->y<b->¬c (l.getD y d) (l.getD x d)<0)(E:∀x y,s<=x->x<m->m<=y->y<e->¬c (l.getD x d) (l.getD y d)<0):(∀p q,a<=p->p+m<s+e->s+e<=q+m->q<b->¬c (l'.getD q d) (l'.getD p d)<0)/\qf c d l' a s/\(∀p q,s<=p->p<q->q+m<s+e->¬c (l'.getD q d) (l'.getD p d)<0)/\(∀p q,s+e<=p+m->p<q->q<e->¬c (l'.getD q d) (l'.getD p d)<0)/\qf c d l' e b:=by have o:=λk (h:¬(s<=k/\k<e))=>r.qJ.out k h;refine ⟨λp q f g n t=>?_,λp q f g i=>?_,λp q f g i=>?_,λp q f g i=>?_,λp q f g i=>?_⟩;{by_cases w:p<s;{rw [o p ω];by_cases j:q<e;{rw [r.hi q n j];exact u _ _ f ω ω};{rw [o q ω];exact z _ _ f w ω t}};{rw [r.lo p ω g];by_cases j:q<e;{rw [r.hi q n j];exact E _ _ ω ω ω ω};{rw [o q ω];exact v _ _ ω ω t}}};{rw [o p ω,o q ω];exact u _ _ f g ω};{rw [r.lo p f ω,r.lo q ω i];exact v _ _ ω ω ω};{rw [r.hi p f ω,r.hi q ω i];exact u _ _ ω ω ω};{rw [o p ω,o q ω];exact v _ _ ω g i}
theorem asc_up {l l' a e b}(z:a+1<=e)(E:e<=b)(r:Ea d l l' a (a+1) e)(v:qf c d l (a+1) b)(F:∀y,a+1<=y->y<e->c (l.getD y d) (l.getD a d)<0)(M:∀y,e<=y->y<b->¬c (l.getD y d) (l.getD a d)<0)(N:ņ c):qf c d l' a b:=by obtain ⟨t1,-,t2,t3,t4⟩:=Hc (a:=a) (Ù _) (Ww9 _) z E r (.short (Ù _)) v (λx y h o=>ω) λx y s t k m=>by{obtain rfl:x=a:=ω;exact N.asy _ _ (F y k m)};intro p q g i f;by_cases u:p+1<e;{by_cases j:q+1<e;{exact t2 p q g i ω};{exact t1 p q g ω ω f}};{by_cases j:p<e;{have n:=r.hi p ω j;rw [n,show p+(a+1)-e=a by omega,r.qJ.out q ω];exact M q ω f};{exact t4 p q ω i f}}
theorem SM {l l' a s m}(z:a<=s)(E:s<=m)(r:Ea d l l' s m (m+1))(u:qf c d l a m)(F:∀x,s<=x->x<m->c (l.getD m d) (l.getD x d)<0)(M:∀x,a<=x->x<s->¬c (l.getD m d) (l.getD x d)<0)(N:ņ c):qf c d l' a (m+1):=by obtain ⟨t1,t2,-,t4,-⟩:=Hc (b:=m+1) z E (Ww9 _) (Ù _) r u (.short (Ù _)) (λx y _ _ h t=>ω) λx y j k v w=>by{obtain rfl:y=m:=ω;exact N.asy _ _ (F x j k)};intro p q e f g;by_cases n:p<s;{by_cases i:q<s;{exact t2 p q e f i};{by_cases o:q=s;{subst o;rw [r.lo q (Ù _) ω,r.qJ.out p ω,show q+m-q=m by omega];exact M p e n};{exact t1 p q e ω ω g}}};{by_cases i:p=s;{exact t1 p q e ω ω g};{exact t4 p q ω f ω}}
theorem OU {l y z a m b}(h:∀p q,a<=p->p<m->m<=q->q<b->¬c (l.getD q d) (l.getD p d)<0)(s1:uv d l y a m)(u:qf c d y a m)(s2:uv d y z m b)(v:qf c d z m b):qf c d z a b:=by intro p q f g j;by_cases n:q<m;{rw [s2.out p ω,s2.out q ω];exact u p q f g n};{by_cases o:p<m;{have ⟨k,r,s,e⟩:=s2.mem q ω j;have ⟨i,i1,i2,t⟩:=s1.mem p f o;rw [e,s1.out k ω,s2.out p ω,t];exact h i k i1 i2 r s};{exact v p q ω g j}}
theorem qf.qJ {l m a b x y}(h:qf c d l x y)(s:uv d l m a b)(o:y<=a\/b<=x):qf c d m x y:=λp q e f g=>by
 rw [s.out p ω,s.out q ω];exact h p q e f g
theorem qf.sub {l a b x y}(h:qf c d l a b)(u:a<=x)(z:y<=b):qf c d l x y:=λp q f e g=>h p q ω e ω
theorem rot_up {l g a k}(h:Ea d l g a (a+1) (k+1))(hak:a<=k)(u:k+1<l.length:=by omega):Ea d l (IG d g k (k+1)) a (a+1) (k+2):=by have len:=h.qJ.len;have e:=λi=>yH (d:=d) (l:=g) (i:=k) (j:=k+1) (k:=i) ω;refine ⟨(h.qJ.wide (Ù _) ω).m (uv.IG ω ω ω ω),λi b f=>?_,λi b f=>?_⟩;{rw [e,Ã ω];by_cases c:i=k;{rw [Ä c,h.qJ.out _ ω];congr 1;omega};{rw [Ã c];exact h.lo i b ω}};{rw [e,Ä ω,h.hi k ω ω];congr 1;omega}
theorem Vq {l g k m}(h:Ea d l g k m (m+1))(u:0<k)(y:k<=m)(hm:m<l.length:=by omega):Ea d l (IG d g k (k-1)) (k-1) m (m+1):=by have len:=h.qJ.len;have e:=λi=>yH (d:=d) (l:=g) (i:=k) (j:=k-1) (k:=i) ω;refine ⟨(h.qJ.wide ω (Ù _)).m (uv.IG ω ω ω ω),λi c a=>?_,λi c a=>?_⟩;{rw [e,Ä ω,h.lo k ω ω];congr 1;omega};{rw [e,Ã ω];by_cases b:i=k;{rw [Ä b,h.qJ.out _ ω];congr 1;omega};{rw [Ã b];exact h.hi i ω a}}
theorem qf.le {l a b}(h:qf c d l a b)(u:ņ c){x y}(z:a<=x)(F:x<=y)(E:y<b):¬c (l.getD y d) (l.getD x d)<0:=by by_cases e:x=y;{subst e;exact u.refl _};{exact h x y z ω E}
def Wi (c:α->α->Int)(d:α)(l:List α)(B q:Nat):Prop:=∀p,p<q->qf c d l (p*B) ((p+1)*B)
def Blk (c:α->α->Int)(d:α)(l:List α)(B n:Nat):Prop:=∀p,qf c d l (p*B) (min ((p+1)*B) n)
theorem Wi.qJ {l m B q e}(h:Wi c d l B q)(s:uv d l m (q*B) e):Wi c d m B q:=λp a=>(h p a).qJ s (.inl (Ă B a))
theorem Wi.snoc {l m B q e}(h:Wi c d l B q)(s:uv d l m (q*B) e)(a:qf c d m (q*B) (q*B+B)):Wi c d m B (q+1):=λp b=>by
 by_cases e:p=q
 ·subst e;rw [Ē,ŋ];exact a
 ·exact h.qJ s p ω
theorem Wi.bh {l m B q n}(h:Wi c d l B q)(s:uv d l m (q*B) n)(a:qf c d m (q*B) n)(u:n<=q*B+B):Blk c d m B n:=λp=>by
 rcases Nat.lt_trichotomy p q with g|rfl|g
 ·exact (h.qJ s p g).sub (Ù _) (Wv2 _ _)
 ·exact a.sub (Ù _) (Nat.min_le_right _ _)
 ·have:=Ă B g;rw [Ś] at this;exact .short ω
end
end Go.Proofs.Tryz
