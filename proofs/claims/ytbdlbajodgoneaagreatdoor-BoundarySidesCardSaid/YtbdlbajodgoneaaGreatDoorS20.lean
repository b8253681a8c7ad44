import Derived.Test.YtbdlbajodgoneaaGreatDoorS19
import Derived.Test.YtbdlbajodgoneaaGreatDoorS9
set_option linter.all false
open Go.IntKind (i64 u64 u32)
namespace Go.Proofs.Tryz
open Go.Eng Go.Big
open Go.Value renaming slice→yD,agg→dB,bool→gF,pointer→Õ,tuple→ê,int→Ô
variable{V:Ó}{lv v w:Value}{L a l x:L3}{p q:OA}{b:Bool}{c d i k n:Nat}{P:List Rat}{vs:List Value}{ls:List L3}{z:Int}
theorem QC {M:L3}(D:vF V v L)(hm:vF V w M)(E:Bd L)(y:Bd M):À 267 #[v,w] V λr W=>r=gF (decide (L=M\/L=Ö M)):=by have a:=D;have b:=hm;obtain ⟨_,_,_,_,_,_,_,_,_,rfl,-,-,-⟩:=D;obtain ⟨_,_,_,_,_,_,_,_,_,rfl,-,-,-⟩:=hm;refine DR V _ λd f=>(tA ra ra E.eO y.eO).s ?_;rintro r V2 g rfl;refine ⟨_,rfl,λe i j=>?_,λe k l=>(lk ra y.eO).s ?_⟩;{rw [Ç (.inl (Á e))]};have e:=Â e;rintro r m n c;obtain ⟨_,_,_,_,_,_,_,_,_,rfl,-,-,-⟩:=id c;refine ⟨_,_,_,_,_,_,_,_,_,rfl,λo p=>(tA ra ra E.eO y.eO.rev).s λr q s rfl=>⟨_,rfl,λt u=>Æ Value.bool (É.2 ⟨.inr,λh=>h.resolve_left e⟩)⟩⟩
theorem one8i {u y:Int}{D E:Int}{a:md}:∀v∈([Ô .i64 u,Ô .i64 y,Õ p,Ô .i64 D,Ô .i64 E,Õ q,gF a,gF b]:zA un),v.oneCell'=true:=λv c=>by
 simp only [í,Ğ,Ì] at c;rcases c with rfl|rfl|rfl|rfl|rfl|rfl|rfl|rfl<;>rfl
theorem M5 {e:md}{k:Int}(h1:decide (k>0)=e)(h2:decide (k<0)=!e)(hb:Bd L):∀(t:Tr) {V:ut} {q:OA} {lv v:un} {s:Sp} {lb n m:Nat} {vs:zA un} {o:zA Sp},RT V q t->t.dU Bd->vF V lv L->kJ V v s->s.sz 100000 ->(vs≠[]->V.w.heap[lb]?=some (.cells vs.toArray 107 (0,0)))->(vs≠[]->V.X lb)->GR 8 kJ V n m vs o->n+(bh L e t s).length<=1000000 ->À 213 #[Õ q,lv,v,Ô .i64 k,yD (mA lb m) n m] V λr V'=>∃(bm:Nat)(vm:zA un)(n' c':Nat),(vm≠[]->V'.w.heap[bm]?=some (.cells vm.toArray 107 (0,0)))/\(vm≠[]->V.w.heap.size<=bm\/(vs≠[]/\bm=lb))/\r=yD (mA bm c') n' c'/\GR 8 kJ (V'.bq (vm≠[]) bm) n' c' vm (o++bh L e t s):=by
 intro t;have UO:∀{A B:Prop},A\/B\/False->A\/B:=λh=>h.imp id λh=>h.elim id False.elim
 induction t with
 | leaf i=>
  intro V q lv v s lb n m vs o h ha hl hv sz hw hx K C;have D:=hv;obtain ⟨_,_,_,_,_,_,_,_,_,rfl,-,-,-⟩:=hl;obtain ⟨_,_,_,_,_,_,rfl,-,-⟩:=hv;refine uw q _ _ _ _ _ _ _ _ _ _ _ _ _ _ _ _ _ k lb n m vs V _ hw hx ⟨λz _=>z=i,λV1 l1=>(dX (h.le l1)).s ?_,?_⟩
  ·rintro r V2 l2 rfl;obtain ⟨b,c0,c1,c2,c3,c4,c5,c6,c7,c8,r,rfl,hb⟩:=h.le (l1.m l2);exact ⟨_,rfl,λ_=>⟨rfl,rfl,i,Ao hb 11 rfl,_,σ,rfl⟩,π⟩
  rintro z V3 l3 rfl;refine ⟨rfl,λhz=>?_,λhz V5 l5=>(dX (h.le au)).s ?_⟩
  ·subst hz;refine ⟨ω,K.le,K.cap,rfl,one8i,λsp c k1 k2 V4 f hle E F=>⟨f,_,n+1,c,E,λh=>UO (F h),rfl,?_⟩⟩;exact (K.up au).snoc rfl ra φ k1 k2
  ·rintro r V6 l6 rfl;subst hz;refine ⟨_,rfl,λ_ V7 f hle E F=>⟨f,vs,n,m,E,λh=>UO (F h),rfl,?_⟩,π⟩;show GR 8 kJ _ n m vs (o++[]);rw [ý];exact K.up au
 | node ln a b iha ihb=>
  intro V q lv v s lb n m vs o h ha hl hv sz hw hx K C;have l:=hl;have D:=hv;obtain ⟨_,_,_,_,_,_,_,_,_,rfl,-,-,-⟩:=hl;obtain ⟨_,_,_,_,_,_,rfl,-,-⟩:=hv;obtain ⟨p,a6,a7⟩:=ha;refine uw q _ _ _ _ _ _ _ _ _ _ _ _ _ _ _ _ _ k lb n m vs V _ hw hx ⟨λz _=>z=false,λV1 l1=>(dX (h.le l1)).s ?_,?_⟩
  ·rintro r V2 l2 rfl;exact ⟨_,rfl,π,λ_=>⟨_,σ,rfl⟩⟩
  rintro z V3 l3 rfl;refine ⟨rfl,π,λ_ V5 l5=>(dX (h.le au)).s ?_⟩;rintro r V6 l6 rfl;have a8:=l3.m (l5.m l6);obtain ⟨M,u1,u2,u3,v1,v2,v3,w1,w2,w3,pl,pr,i,rfl,a0,y,a9,b0⟩:=h.le a8
  have d:∀{W:ut},V6.Le W->∀j v,([Ô .i64 u1,Ô .i64 u2,Õ u3,Ô .i64 v1,Ô .i64 v2,Õ v3,Ô .i64 w1,Ô .i64 w2,Õ w3,Õ pl,Õ pr,gF i]:zA un)[j]?=some v->W.at ((⟨M,0,none⟩:Addr).add j) v:=by intro W hW j v hv;rw [add_zero'];exact dK (xs:=[_,_,_,_,_,_,_,_,_,_,_,_]) (hW _ _ a0) hv
  have N:=Ó.Le.refl V6;have hp:∀{W:ut},V6.Le W->(∃a,ae (some ⟨M,0,none⟩) 9=some a/\W.at a (Õ pl))/\∃a,ae (some ⟨M,0,none⟩) 10=some a/\W.at a (Õ pr):=λhW=>⟨Ao (hW _ _ a0) 9 rfl,Ao (hW _ _ a0) 10 rfl⟩;refine ⟨_,rfl,π,λ_=>⟨λz _=>z=decide (ln=L/\e=true\/ln=Ö L/\e=false),⟨rfl,rfl,_,_,_,_,_,_,_,_,_,⟨M,0,none⟩,rfl,d N 0 _ rfl,d N 1 _ rfl,d N 2 _ rfl,d N 3 _ rfl,d N 4 _ rfl,d N 5 _ rfl,d N 6 _ rfl,d N 7 _ rfl,d N 8 _ rfl,λV8 l8=>(tA (y.le l8) (l.le au) p.eO hb.eO).s ?_⟩,?_⟩⟩
  ·rintro r V9 l9 rfl;have u:=l8.m l9;have rv:∀{P:md->Prop},(decide (ln=Ö L)=true->P (decide (k<0)))->(decide (ln=Ö L)=false->P false)->P (decide (ln=Ö L)&&!e):=λa b=>by{cases g:decide (ln=Ö L);{exact b g};rw [h2] at a;exact a g};have eqv:∀{c:md},(c=true->(ln=L/\e=true\/ln=Ö L/\e=false))->((ln=L/\e=true\/ln=Ö L/\e=false)->c=true)->c=decide (ln=L/\e=true\/ln=Ö L/\e=false):=λ{c} a b=>by{cases c;{exact (È λh=>by have:=b h;cases this).symm};exact (Ç (a rfl)).symm};refine ⟨_,rfl,λg=>⟨λgk=>⟨_,σ,?_⟩,λgk=>?_⟩,λg=>?_⟩;{rw [h1] at gk;exact eqv (λ_=>.inl ⟨Á g,gk⟩) λ_=>rfl};{rw [h1] at gk;refine ⟨rfl,rfl,_,_,_,_,_,_,_,_,_,⟨M,0,none⟩,rfl,d u 0 _ rfl,d u 1 _ rfl,d u 2 _ rfl,d u 3 _ rfl,d u 4 _ rfl,d u 5 _ rfl,d u 6 _ rfl,d u 7 _ rfl,d u 8 _ rfl,λeV b7=>(lk (l.le au) hb.eO).s ?_⟩;rintro r eW cU T;have Jt:=T;obtain ⟨_,_,_,_,_,_,_,_,_,rfl,-,-,-⟩:=T;refine ⟨_,_,_,_,_,_,_,_,_,rfl,λgC dI=>(tA (y.le au) (Jt.le dI) p.eO hb.eO.rev).s ?_⟩;rintro r iI dS rfl;refine ⟨_,rfl,λg2=>⟨_,σ,?_⟩,λg2=>⟨_,σ,?_⟩⟩;{rw [h2,show (!e)=true by rw [gk];rfl];exact eqv (λ_=>.inr ⟨Á g2,gk⟩) λ_=>rfl};exact eqv π λh=>(Â g2 (h.elim (λh=>by rw [gk] at h;exact nomatch h.2) λh=>h.1)).elim};refine ⟨rfl,rfl,_,_,_,_,_,_,_,_,_,⟨M,0,none⟩,rfl,d u 0 _ rfl,d u 1 _ rfl,d u 2 _ rfl,d u 3 _ rfl,d u 4 _ rfl,d u 5 _ rfl,d u 6 _ rfl,d u 7 _ rfl,d u 8 _ rfl,λkK fH=>(lk (l.le au) hb.eO).s ?_⟩;rintro r ke fB T;have Jt:=T;obtain ⟨_,_,_,_,_,_,_,_,_,rfl,-,-,-⟩:=T;refine ⟨_,_,_,_,_,_,_,_,_,rfl,λkf e_=>(tA (y.le au) (Jt.le e_) p.eO hb.eO.rev).s ?_⟩;rintro r lu gX rfl;refine ⟨_,rfl,λg2=>⟨_,σ,?_⟩,λg2=>⟨_,σ,?_⟩⟩;{rw [h2];exact eqv (λh=>.inr ⟨Á g2,by simpa using h⟩) λh=>by{rcases h with h|h;exact Å h.1 (Â g);rw [h.2];rfl}};exact eqv π λh=>(h.elim (λh=>Â g h.1) λh=>Â g2 h.1).elim
  rintro z mD x rfl;have XK:=a8.m x;have G:=K.up XK
  have go:∀{lw:un},vF V lw L->∀{O:Tr} {q':OA} {W:ut} (f:Nat),mD.Le W->RT V6 q' O->(∀{V:ut} {q:OA} {lv v:un} {s:Sp} {lb n m:Nat} {vs:zA un} {o:zA Sp},RT V q O->O.dU Bd->vF V lv L->kJ V v s->s.sz 100000 ->
    (vs≠[]->V.w.heap[lb]?=some (.cells vs.toArray 107 (0,0)))->(vs≠[]->V.X lb)->GR 8 kJ V n m vs o->n+(bh L e O s).length<=1000000 ->
    À 213 #[Õ q,lv,v,Ô .i64 k,yD (mA lb m) n m] V λr V'=>∃(bm:Nat)(vm:zA un)(n' c':Nat),(vm≠[]->V'.w.heap[bm]?=some (.cells vm.toArray 107 (0,0)))/\(vm≠[]->V.w.heap.size<=bm\/(vs≠[]/\bm=lb)) /\
     r=yD (mA bm c') n' c'/\GR 8 kJ (V'.bq (vm≠[]) bm) n' c' vm (o++bh L e O s))->O.dU Bd->∀{v':un} {s':Sp},kJ W v' s'->s'.sz 100000->∀{n m:Nat} {vs:zA un} {o:zA Sp},(vs≠[]->W.w.heap[f]?=some (.cells vs.toArray 107 (0,0)))->(vs≠[]->W.H f)->GR 8 kJ W n m vs o->n+(bh L e O s').length<=1000000 ->
    À 213 #[Õ q',lw,v',Ô .i64 k,yD (mA f m) n m] (W.ao [vb vs W.w.heap.size f]) λr V'=>∃(bm:Nat)(vm:zA un)(n' c':Nat),(vm≠[]->V'.w.heap[bm]?=some (.cells vm.toArray 107 (0,0)))/\(vm≠[]->W.w.heap.size<=bm\/(vs≠[]/\bm=f)) /\
     r=yD (mA bm c') n' c'/\W.Le (V'.shut.bq (vm≠[]) bm)/\GR 8 kJ (V'.shut.bq (vm≠[]) bm) n' c' vm (o++bh L e O s'):=by
   intro lw b3 O q' W f lW hq ih ha v' s' Cw b4 n m vs o f1 f2 K C;refine (ih (V:=W.ao [vb vs W.w.heap.size f]) (lb:=f) (RT.le (V:=V6) (V':=W.ao _) (λb o h=>(x.m lW) b o h) hq) ha (vF.le (V:=V) (V':=W.ao _) b3 λb o h=>(XK.m lW) b o h) (kJ.le (V:=W) (V':=W.ao _) Cw λb o h=>h) b4 f1 (λh=>⟨by simp [mY h],f2 h⟩) (K.s (V':=W.ao _) λ_ _ g=>kJ.le (V:=W) g λb o h=>h) C).s ?_;rintro r V' l' ⟨bm,vm,n',c',Q,I,a3,R⟩;exact ⟨bm,vm,n',c',Q,I,a3,Uc (V:=W) (V':=V') (λb o h=>l' b o h) λh=>(I h).imp id λ(g:vs≠[]/\bm=f)=>by rw [g.2];exact f2 g.1,R.s λ_ _ g=>kJ.le g λb o h=>h⟩
  refine ⟨rfl,λc=>?_,λc=>?_⟩
  ·have c:=Á c;have eP:bh L e (.node ln a b) s=bh L e a s:=by{rw [bh,Ä c]};rw [eP] at C ⊢;refine ⟨rfl,rfl,pl,(hp x).1,λnf je f f1 f2=>(go l f je a9 iha a6 (D.le au) sz f1 f2 (G.up je) C).s ?_⟩;rintro r kg il ⟨bm,vm,n',c',Q,I,rfl,a3,R⟩;exact ⟨bm,vm,Q,I,none,n',c',rfl,λqC SY hle E F=>⟨SY,vm,n',c',E,λh=>UO (F h),rfl,R.up hle⟩⟩
  have c:=Â c;refine ⟨rfl,rfl,_,_,_,_,_,_,_,_,_,⟨M,0,none⟩,rfl,d x 0 _ rfl,d x 1 _ rfl,d x 2 _ rfl,d x 3 _ rfl,d x 4 _ rfl,d x 5 _ rfl,d x 6 _ rfl,d x 7 _ rfl,d x 8 _ rfl,λqN lZ=>(QC (y.le au) (l.le au) p hb).s ?_⟩;rintro r qD l_ rfl;have Zq:=lZ.m l_;have J:=x.m Zq;refine ⟨_,rfl,λc2=>?_,λc2=>?_⟩
  ·have c2:=Á c2;have eP:bh L e (.node ln a b) s=bh L e b s:=by{rw [bh,Ã c,Ä c2]};rw [eP] at C ⊢;refine ⟨rfl,rfl,pr,(hp J).2,λAa nt f f1 f2=>(go l f au b0 ihb a7 (D.le au) sz f1 f2 (G.up au) C).s ?_⟩;rintro r A8 uV ⟨bm,vm,n',c',Q,I,rfl,a3,R⟩;exact ⟨bm,vm,Q,I,none,n',c',rfl,λMD SY hle E F=>⟨SY,vm,n',c',E,λh=>UO (F h),rfl,R.up hle⟩⟩
  have eP:bh L e (.node ln a b) s=(if cW L s ln=true then bh L e a (bF L s ln) else [])++(if cW L s (Ö ln)=true then bh L e b (bF L s (Ö ln)) else []):=by rw [bh,Ã c,Ã (Â c2)]
  rw [eP] at C ⊢;rw [ï] at C;have sK:iL 100000 L:=hb.eO.up ω;refine ⟨rfl,rfl,_,_,_,_,_,_,_,_,_,⟨M,0,none⟩,rfl,d J 0 _ rfl,d J 1 _ rfl,d J 2 _ rfl,d J 3 _ rfl,d J 4 _ rfl,d J 5 _ rfl,d J 6 _ rfl,d J 7 _ rfl,d J 8 _ rfl,λMQ yF=>(JO (l.le au) (D.le au) (y.le au) (k:=100000) sK sz (p.eO.up ω)).s ?_⟩;rintro r Wx KI ⟨w,rfl,gw⟩;have b5:=gw;obtain ⟨_,_,_,_,_,_,rfl,-,-⟩:=gw;have T9:=Zq.m (yF.m KI);have U:=x.m T9;have Y:=G.up T9;refine ⟨_,_,_,_,_,_,_,_,_,rfl,λz V'=>GR 8 kJ V' z.1 z.2.1 z.2.2 (o++(if cW L s ln=true then bh L e a (bF L s ln) else [])),⟨λb1=>?_,λb1=>?_⟩,?_⟩
  ·rw [Ä b1] at C ⊢;refine ⟨rfl,rfl,pl,(hp U).1,λYV H5 f f1 f2=>(go l f au a9 iha a6 (b5.le H5) (Bs hb.eO p.eO sz ω) f1 f2 (Y.up H5) ω).s ?_⟩;rintro r SH MJ ⟨bm,vm,n',c',Q,I,rfl,a3,R⟩;exact ⟨bm,vm,Q,I,none,n',c',rfl,(n',c',vm),σ,R⟩
  ·rw [Ã (by rw [b1];simp)];refine ⟨(n,m,vs),σ,?_⟩;rw [ý];exact Y
  rintro ⟨z1,z2,us⟩ Z_ H6 hz;have zl:=hz.len;have ol:=K.len;rw [ï] at zl;have S:=U.m H6;refine ⟨rfl,rfl,rfl,_,_,_,_,_,_,_,_,_,⟨M,0,none⟩,rfl,d S 0 _ rfl,d S 1 _ rfl,d S 2 _ rfl,d S 3 _ rfl,d S 4 _ rfl,d S 5 _ rfl,d S 6 _ rfl,d S 7 _ rfl,d S 8 _ rfl,λb8 H7=>(lk (y.le au) p.eO).s ?_⟩;rintro r V_ CG T;have Jt:=T;obtain ⟨_,_,_,_,_,_,_,_,_,rfl,-,-,-⟩:=T;have a5:=(T9.m H6).m (H7.m CG);refine ⟨_,_,_,_,_,_,_,_,_,rfl,λb9 MK=>(JO (l.le au) (D.le au) (Jt.le MK) (k:=100000) sK sz (p.eO.rev.up ω)).s ?_⟩;rintro r c9 EU ⟨w,rfl,gw⟩;obtain ⟨_,_,_,_,_,_,rfl,-,-⟩:=id gw;have b6:=a5.m (MK.m EU);have Z:=hz.up (H7.m (CG.m (MK.m EU)));refine ⟨_,_,_,_,_,_,_,_,_,rfl,λb2=>?_,λb2 d0 SY hle E F=>⟨SY,us,z1,z2,E,λh=>UO (F h),rfl,?_⟩⟩
  ·rw [Ä b2] at C ⊢;refine ⟨rfl,rfl,pr,(hp au).2,λWy ML f f1 f2=>(go l f au b0 ihb a7 (gw.le ML) (Bs hb.eO p.eO.rev sz ω) f1 f2 (Z.up ML) ω).s ?_⟩;rintro r d1 Ro ⟨bm,vm,n',c',Q,I,rfl,a3,R⟩;refine ⟨bm,vm,Q,I,none,n',c',rfl,λd2 SY hle E F=>⟨SY,vm,n',c',E,λh=>UO (F h),rfl,?_⟩⟩;rw [<-Ě];exact R.up hle
  ·rw [Ã (c:=cW L s (Ö ln)=true) (by rw [b2];simp),ý];exact Z.up hle
theorem Pa {e:md}{k:Int}(N:decide (k>0)=e)(O:decide (k<0)=!e)(M:Bd L){t:Tr}{s:Sp}(h:RT V q t)(Z:t.dU Bd)(hl:vF V lv L)(hv:kJ V v s)(hs:s.sz 100000)(hn:(bh L e t s).length<=1000000):À 213 #[Õ q,lv,v,Ô .i64 k,yD none 0 0] V λr W=>∃p n c,r=yD p n c/\aZ 8 kJ W p n (bh L e t s):=by
 have own:∀{f:FuncId} {args:Array un} {V:ut} {R:un->ut->Prop},À f args V R->À f args V λr W=>R r W/\∀b,V.w.heap.size<=b->¬W.H b:=λ{f args V R} h=>
  ⟨h.1,h.2.s λ_ C ⟨r,he,a,u⟩=>⟨r,he,a,u,λb M d=>Å (V.hH b d) ω⟩⟩
 refine (own (M5 N O M t (lb:=0) (n:=0) (m:=0) (vs:=[]) (o:=[]) h Z hl hv hs (λh=>Å rfl h) (λh=>Å rfl h) GR.nil ω)).s ?_;rintro r V' l ⟨⟨y,D,E,F,z,A,rfl,i⟩,B⟩;have j:=i.len;rw [j];exact ⟨_,_,_,rfl,aZ.bo (λh=>⟨B y ((A h).elim id λg=>Å rfl g.1),z h⟩) (i.row.le λ_ _ g=>kJ.le g λx o a=>⟨λd=>a.1 (.inl d),a.2⟩) φ (by rw [<-j];exact i.le)⟩
theorem Cg (u:∀x∈P,Sz 1000000 x){l:zA Sp}(E:∀s∈l,s.good/\∀q,s.cV q->q∈P):∀s∈l,s.sz 1000000:=λs h=>by
 have ⟨g,e⟩:=E s h;refine ⟨?_,?_⟩
 ·cases y:s.a
  ·exact u _ (e _ (.inl ⟨y,rfl⟩))
  ·rw [g.1.1 y];exact DF _
 ·cases D:s.b
  ·exact u _ (e _ (.inr ⟨D,rfl⟩))
  ·rw [g.1.2 D];exact DF _
structure OY (L:L3) (P:List Rat) (t:Tr):Prop where
 crs:ZX L P t
 asc:asc P
 len:P.length<=30
 sz:∀x∈P,Sz 1000000 x
def oz (L:L3)(e:Bool)(t:Tr):List Sp:=Ü 1 (bh L e t bV) []
theorem HA {t:Tr}(h:RT V q t)(ha:t.dU Bd)(hl:vF V lv L)(hb:Bd L)(hc:OY L P t)(so:∀i,i<=60->qM i):À 157 #[Õ q,lv] V λr W=>∃p n c p' n' c',r=ê #[yD p n c,yD p' n' c']/\aZ 8 kJ W p n (oz L true t)/\aZ 8 kJ W p' n' (oz L false t):=by obtain ⟨_,_,_,_,_,_,_,_,_,rfl,-,-,-⟩:=id hl;have o:∀W:ut,kJ W (dB #[Ô .i64 0,Ô .i64 0,Õ none,Ô .i64 0,Ô .i64 0,Õ none,gF true,gF true]) bV:=λW=>⟨0,0,none,0,0,none,rfl,RR.zero W,RR.zero W⟩;have u:=hc.len;have go:∀e:md,(∀s∈bh L e t bV,s.good)/\(∀s∈bh L e t bV,s.sz 1000000)/\fe (bh L e t bV)<=60/\(bh L e t bV).length<=1000:=λe=>by{have ⟨a,b,c⟩:=PV (e:=e) hc.crs;exact ⟨λs h=>(a s h).1,Cg hc.sz a,ω,ω⟩};have join:∀(e:md) {W:ut} {p:OA} {n c:Nat},aZ 8 kJ W p n (bh L e t bV)->À 162 #[yD p n c] W λr W=>∃q m e',r=yD q m e'/\aZ 8 kJ W q m (oz L e t):=λe W p n c g=>by{have ⟨a,b,c,d⟩:=go e;exact BT g a b d ω (so _ c)};refine Au V _ λM N=>Y1.s ?_;rintro r V2 O rfl;refine ⟨_,_,_,_,_,_,_,_,rfl,λQ R=>(Pa (e:=true) rfl rfl hb (RT.le au h) ha ra (o _) ⟨DF _,DF _⟩ (by have:=(go true).2.2.2;omega)).s ?_⟩;rintro r S T ⟨p,n,c,rfl,U⟩;refine ⟨p,n,c,rfl,λX Y=>(join true ra).s ?_⟩;rintro r v Z ⟨w,x,y,rfl,z⟩;refine ⟨w,x,y,rfl,λV7 A=>Y1.s ?_⟩;rintro r V8 B rfl;have j:=A.m B;refine ⟨_,_,_,_,_,_,_,_,rfl,λV9 l9=>(Pa (e:=false) rfl rfl hb (RT.le au h) ha ra (o _) ⟨DF _,DF _⟩ (by have:=(go false).2.2.2;omega)).s ?_⟩;rintro r eV C ⟨D,E,F,rfl,g3⟩;refine ⟨D,E,F,rfl,λeW cU=>(join false ra).s ?_⟩;rintro r G dI ⟨H,I,J,rfl,g4⟩;have f:∀{k:ut},G.Le k->v.Le k:=λl=>j.m au;exact ⟨H,I,J,rfl,λk K=>⟨_,_,_,_,_,_,rfl,z.le (f K),ra⟩⟩
theorem wI {t:Tr}(u:OY L P t)(e:md):uu (oz L e t)/\(∀s∈oz L e t,s.sz 1000000)/\fe (oz L e t)<=30/\(oz L e t).length<=1000:=by have f:=u.len;have ⟨a,b,c⟩:=PV (e:=e) u.crs;have r:uu (oz L e t):=comb_reg _ _ _;refine ⟨r,Cg u.sz λs d=>⟨r.1 s d,λq g=>oE u.crs q (fC.2 ⟨s,d,g⟩)⟩,Ā (U2 u.crs u.asc) u.len,?_⟩;have:=Cd 1 (bh L e t bV) [];have h:fe ([]:zA Sp)=0:=rfl;unfold oz;omega
theorem Tj {t:Tr}(h:RT V q t)(Z:t.dU Bd)(N:vF V lv L)(hb:Bd L)(M:OY L P t)(O:∀i,i<=60->qM i):À 96 #[Õ q,lv] V λr W=>∃p n c,r=yD p n c/\aZ 8 kJ W p n (qE L t):=by obtain ⟨_,_,_,_,_,_,_,_,_,rfl,-,-,-⟩:=id N;refine LQ V _ λC f=>(HA (h.le f) Z (N.le f) hb M O).s ?_;rintro r V2 D ⟨p,n,c,j,k,l,rfl,E,F⟩;have ⟨o,s1,f1,s⟩:=wI M true;have ⟨u,s2,f2,v⟩:=wI M false;refine qyJ ⟨rfl,λw G=>?_⟩;refine aa.s (R:=λr W=>∃q m e,r=yD q m e/\aZ 8 kJ W q m (qE L t)) ?_ ?_;{refine tU w _ λH I=>(J7 (op:=3) (acc:=λx y=>x&&!y) (λt=>by simp [ĥ]) ra ra o.1 u.1 s1 s2 s v ω (O _ ω) λa b W=>(c_D1 a b W).s λr _ _ e=>by rw [e];simp [ĥ]).s ?_;rintro r z A ⟨q,m,e,rfl,g⟩;exact ⟨_,_,_,rfl,λB d=>⟨_,_,_,rfl,g.le d⟩⟩};rintro r z A ⟨q,m,e,rfl,g⟩;exact ⟨_,_,_,rfl,λB d=>⟨_,_,_,rfl,g.le d⟩⟩
def RPk (k:Nat)(V:Ó)(v:Value)(c:Rat×Rat):Prop:=kd V v c.1 c.2/\Sz k c.1/\Sz k c.2
theorem KY {a b:Int}{c d:Int}:∀v∈([Ô .i64 a,Ô .i64 b,Õ p,Ô .i64 c,Ô .i64 d,Õ q]:zA un),v.oneCell'=true:=by intro v hm;simp only [í,Ğ,Ì] at hm;rcases hm with rfl|rfl|rfl|rfl|rfl|rfl<;>rfl
theorem XU {k:Nat}{al:zA (Rat×Rat)}(h:aZ 6 (RPk k) V p n al)(hi:i<al.length):p.isSome=true/\∃(x y:Int)(q:OA)(u D:Int)(E:OA)(a:Addr),ae p (i*6)=some a/\V.at (a.add 0) (Ô .i64 x)/\V.at (a.add 1) (Ô .i64 y)/\V.at (a.add 2) (Õ q)/\V.at (a.add 3) (Ô .i64 u)/\V.at (a.add 4) (Ô .i64 D)/\V.at (a.add 5) (Õ E)/\RPk k V (dB #[Ô .i64 x,Ô .i64 y,Õ q,Ô .i64 u,Ô .i64 D,Õ E]) al[i]:=by have ⟨g,d,xs,j,f,b⟩:=h.at_ i hi;have c:=f;obtain ⟨⟨x,y,q,u,D,E,e,-⟩,-⟩:=f;have e:=Æ Array.toList (Value.agg.inj e);dsimp only at e;subst e;refine ⟨?_,x,y,q,u,D,E,g,d,b 0 _ rfl,b 1 _ rfl,b 2 _ rfl,b 3 _ rfl,b 4 _ rfl,b 5 _ rfl,c⟩;(cases p with|none=>{cases d}|some a=>rfl)
def bW (V:Ó)(v:Value)(l:L3):Prop:=RL V v l.1 l.2.1 l.2.2
theorem bW.le {V V':ut}(h:bW V v l)(e:V.Le V'):bW V' v l:=RL.le h e
theorem br (h:bW V v l):∃(b1:md)(u:OA)(y c1:Nat)(D:md)(E:OA)(F M:Nat)(N:md)(O:OA)(Z c3:Nat),v=dB #[gF b1,yD u y c1,gF D,yD E F M,gF N,yD O Z c3]:=by obtain ⟨_,_,_,_,_,_,_,_,_,e,-⟩:=h;exact qxJ e
theorem tK {xs:zA un}(h:bW V (.agg (List.toArray xs)) l):∀v∈xs,v.oneCell'=true:=by have ⟨_,_,_,_,_,_,_,_,_,_,_,_,e⟩:=br h;have e:=Æ Array.toList (Value.agg.inj e);dsimp only at e;subst e;intro v hm;simp only [í,Ğ,Ì] at hm;rcases hm with rfl|rfl|rfl|rfl|rfl|rfl<;>rfl
theorem RG {b':md}{F:OA}{M N:Nat}{u:md}{y:OA}{D E:Nat}:∀v∈([gF b,yD p n c,gF b',yD F M N,gF u,yD y D E]:zA un),v.oneCell'=true:=by intro v hm;simp only [í,Ğ,Ì] at hm;rcases hm with rfl|rfl|rfl|rfl|rfl|rfl<;>rfl
theorem nk:∀(t:Tr) {V:ut} {p:OA},RW V p t->t.size<=1000000->À 74 #[Õ p] V λr W=>∃q n c,r=yD q n c/\aZ 6 bW W q n t.cJ
 | .leaf i,V,p,h,hs=>by
  obtain ⟨s,e0,-⟩:=kV h;exact sR V _ ⟨s,s,_,e0,λ_ V1 l1=>⟨_,_,_,rfl,aZ.nil⟩,π⟩
 | .node ln a b,V,p,h,hs=>by
  have h0:=h;obtain ⟨l,i,o,u,w,x,y,z,A,B,C,D,E,F,pl,R,rfl,k,hl,ha,G⟩:=h
  have H:∀j v,([gF false,gF i,gF o,yD u w x,gF y,yD z A B,gF C,yD D E F,Õ pl,Õ R]:zA un)[j]?=some v->V.at ((⟨l,0,none⟩:Addr).add j) v:=by
   intro j v e;rw [add_zero'];exact dK (xs:=[_,_,_,_,_,_,_,_,_,_]) k e
  have d:∀j v,([gF o,yD u w x,gF y,yD z A B,gF C,yD D E F]:zA un)[j]?=some v->V.at (((⟨l,0,none⟩:Addr).add 2).add j) v:=by
   intro j v e;rw [BE];refine H (2+j) v ?_;have hj:j<6:=(Ī.1 e).1
   match j,hj,e with
   | 0,_,h=>exact h
   | 1,_,h=>exact h
   | 2,_,h=>exact h
   | 3,_,h=>exact h
   | 4,_,h=>exact h
   | 5,_,h=>exact h
  simp only [Tr.size] at hs;have la:=jP a;have lb:=jP b;refine sR V _ ⟨rfl,rfl,false,Ao k 0 rfl,π,λ_=>⟨rfl,rfl,_,_,_,_,_,_,_,_,_,_,_,_,(⟨l,0,none⟩:Addr).add 2,rfl,d 0 _ rfl,d 1 _ rfl,d 2 _ rfl,d 3 _ rfl,d 4 _ rfl,d 5 _ rfl,rfl,rfl,pl,Ao k 8 rfl,rfl,rfl,R,Ao k 9 rfl,λV2 I=>(nk a (ha.le I) ω).s ?_⟩⟩;rintro r V3 S ⟨q,n,c,rfl,g⟩;obtain rfl:=g.len;have ⟨xs,x1,K,T⟩:=cQ g φ
  have oc:∀v∈xs,v.oneCell'=true:=λv e=>by obtain ⟨m,hm,rfl⟩:=Qb8.1 e;exact fy T φ (λ_ _=>tK) ω (ô hm)
  have r1:é 6 bW V3 ([gF o,yD u w x,gF y,yD z A B,gF C,yD D E F]:zA un) [ln]:=row_one rfl (hl.le (I.m S));refine ⟨_,_,_,rfl,xs,x1,K,ω,Ú _,Ú 6,K,oc,λbk J sp c' h1 h2 V4 L=>(nk b (G.le (I.m (S.m L))) ω).s ?_⟩;rintro r V5 U ⟨q',n',a0,rfl,W⟩;obtain rfl:=W.len;have ⟨X,y1,Y,M⟩:=cQ W φ
  have N:∀v∈X,v.oneCell'=true:=λv e=>by obtain ⟨m,hm,rfl⟩:=Qb8.1 e;exact fy M φ (λ_ _=>tK) ω (ô hm)
  have Z:=eM (sp:=sp) r1 T φ;have f:([ln]++a.cJ).length=1+a.cJ.length:=by simp;omega
  have r3:=eM (sp:=[]) (Z.le λ_ _ g=>bW.le g (L.m U)) M φ;rw [f] at r3;refine ⟨_,_,_,rfl,X,y1,Y,ω,h1,?_,Y,N,λa1 J2 O a2 h3 h4 V6 l6 O5 P=>⟨_,_,_,rfl,?_⟩⟩
  ·simp only [ï,ì,Ĉ,ĺ,K];omega
  ·have r4:=eM (sp:=O) (Z.le λ_ _ g=>bW.le g (L.m U)) M φ;rw [f] at r4;have:=aZ.eY P (r4.le λ_ _ g=>bW.le g l6);have Q:([ln]++a.cJ++b.cJ).length=1+a.cJ.length+b.cJ.length:=by{rw [ï,f]};rw [Q] at this;exact this
theorem XT {al:zA L3}(h:aZ 9 qe V p n al)(hi:i<al.length):p.isSome=true/\∃(u y:Int)(D:OA)(E F:Int)(M:OA)(N O:Int)(Z:OA)(a:Addr),ae p (i*9)=some a/\V.at (a.add 0) (Ô .i64 u)/\V.at (a.add 1) (Ô .i64 y)/\V.at (a.add 2) (Õ D)/\V.at (a.add 3) (Ô .i64 E)/\V.at (a.add 4) (Ô .i64 F)/\V.at (a.add 5) (Õ M)/\V.at (a.add 6) (Ô .i64 N)/\V.at (a.add 7) (Ô .i64 O)/\V.at (a.add 8) (Õ Z)/\qe V (dB #[Ô .i64 u,Ô .i64 y,Õ D,Ô .i64 E,Ô .i64 F,Õ M,Ô .i64 N,Ô .i64 O,Õ Z]) al[i]:=by have ⟨f,c,xs,g,d,b⟩:=h.at_ i hi;obtain ⟨_,_,_,_,_,_,_,_,_,e⟩:=d.shape;have e:=Æ Array.toList (Value.agg.inj e);subst e;refine ⟨?_,_,_,_,_,_,_,_,_,_,f,c,b 0 _ rfl,b 1 _ rfl,b 2 _ rfl,b 3 _ rfl,b 4 _ rfl,b 5 _ rfl,b 6 _ rfl,b 7 _ rfl,b 8 _ rfl,d⟩;(cases p with|none=>{cases c}|some a=>rfl)
def ct (V:Ó)(v:Value)(c:Rat×Rat):Prop:=RP V v c.1 c.2
theorem ct.le {V V':ut}{c:Rat×Rat}(h:ct V v c)(l:V.Le V'):ct V' v c:=RP.le h l
theorem ct.shape {c:Rat×Rat}(h:ct V v c):∃(b:md)(p:OA)(n c:Nat)(u:OA)(y D:Nat)(d:md)(q:OA)(m e:Nat)(E:OA)(F M:Nat),v=dB #[gF b,yD p n c,yD u y D,gF d,yD q m e,yD E F M]:=by obtain ⟨p,n,c,u,y,D,q,m,e,E,F,M,h,-⟩:=h;grind
theorem ct.ex {r:un}{x:Rat×Rat}{K:md->OA->Nat->Nat->OA->Nat->Nat->md->OA->Nat->Nat->OA->Nat->Nat->Prop}(g:ct V r x)(h:∀t u:OA×Nat×Nat×OA×Nat×Nat,ct V (dB #[gF (decide (x.1.num<0)),yD t.1 t.2.1 t.2.2.1,yD t.2.2.2.1 t.2.2.2.2.1 t.2.2.2.2.2,gF (decide (x.2.num<0)),yD u.1 u.2.1 u.2.2.1,yD u.2.2.2.1 u.2.2.2.2.1 u.2.2.2.2.2]) x ->K (decide (x.1.num<0)) t.1 t.2.1 t.2.2.1 t.2.2.2.1 t.2.2.2.2.1 t.2.2.2.2.2 (decide (x.2.num<0)) u.1 u.2.1 u.2.2.1 u.2.2.2.1 u.2.2.2.2.1 u.2.2.2.2.2):∃b p n c y D E d q m e F M N,r=dB #[gF b,yD p n c,yD y D E,gF d,yD q m e,yD F M N]/\K b p n c y D E d q m e F M N:=RP.ex g λt u k _ _=>h t u k
theorem CO {R:ut->un->Rat×Rat->Prop}(sh:∀{V v c},R V v c->∃(b:md)(p:OA)(n c:Nat)(p':OA)(n' c':Nat)(d:md)(q:OA)(m e:Nat)(q':OA)(m' e':Nat),v=dB #[gF b,yD p n c,yD p' n' c',gF d,yD q m e,yD q' m' e']) {al:zA (Rat×Rat)}(h:aZ 6 R V p n al)(hi:i<al.length):p.isSome=true/\∃(b1:md)(u:OA)(y c1:Nat)(D:OA)(E F:Nat)(M:md)(N:OA)(O Z:Nat)(p4:OA)(n4 c4:Nat)(a:Addr),ae p (i*6)=some a/\V.at (a.add 0) (gF b1)/\V.at (a.add 1) (yD u y c1)/\V.at (a.add 2) (yD D E F)/\V.at (a.add 3) (gF M)/\V.at (a.add 4) (yD N O Z)/\V.at (a.add 5) (yD p4 n4 c4)/\R V (dB #[gF b1,yD u y c1,yD D E F,gF M,yD N O Z,yD p4 n4 c4]) al[i]:=by have ⟨k,g,xs,l,j,f⟩:=h.at_ i hi;have ⟨_,_,_,_,_,_,_,_,_,_,_,_,_,_,e⟩:=sh j;have e:=Æ Array.toList (Value.agg.inj e);subst e;refine ⟨?_,_,_,_,_,_,_,_,_,_,_,_,_,_,_,k,g,f 0 _ rfl,f 1 _ rfl,f 2 _ rfl,f 3 _ rfl,f 4 _ rfl,f 5 _ rfl,j⟩;(cases p with|none=>{cases g}|some a=>rfl)
def gS (V:Ó)(v:Value)(c:Rat×Rat):Prop:=Qs V v c.1 c.2
theorem gS.le {V V':ut}{c:Rat×Rat}(h:gS V v c)(l:V.Le V'):gS V' v c:=Qs.le h l
theorem PO {u:OA}{y D:Nat}{d:md}{m e:Nat}{E:OA}{F M:Nat}:∀v∈([gF b,yD p n c,yD u y D,gF d,yD q m e,yD E F M]:zA un),v.oneCell'=true:=by intro v hm;simp only [í,Ğ,Ì] at hm;rcases hm with rfl|rfl|rfl|rfl|rfl|rfl<;>rfl
theorem gS.shape {c:Rat×Rat}(h:gS V v c):∃(b:md)(p:OA)(n c:Nat)(u:OA)(y D:Nat)(d:md)(q:OA)(m e:Nat)(E:OA)(F M:Nat),v=dB #[gF b,yD p n c,yD u y D,gF d,yD q m e,yD E F M]:=by obtain ⟨_,_,_,_,_,_,_,_,_,_,_,_,_,_,h,-⟩:=h;exact qxW h
theorem Og {R:ut->un->Rat×Rat->Prop}(sh:∀{V v c},R V v c->∃(b:md)(p:OA)(n c:Nat)(p':OA)(n' c':Nat)(d:md)(q:OA)(m e:Nat)(q':OA)(m' e':Nat),v=dB #[gF b,yD p n c,yD p' n' c',gF d,yD q m e,yD q' m' e']) {al:zA (Rat×Rat)}(h:é 6 R V vs al)(hi:i<al.length):∃(b1:md)(u:OA)(y c1:Nat)(D:OA)(E F:Nat)(M:md)(N:OA)(O Z:Nat)(p4:OA)(n4 c4:Nat),i*6+6<=vs.length/\(vs.drop (i*6)).take 6=[gF b1,yD u y c1,yD D E F,gF M,yD N O Z,yD p4 n4 c4]/\R V (dB #[gF b1,yD u y c1,yD D E F,gF M,yD N O Z,yD p4 n4 c4]) al[i]:=by have ⟨xs,f,a,g⟩:=h.at_ i hi;have k:=h.eX φ;have ⟨_,_,_,_,_,_,_,_,_,_,_,_,_,_,e⟩:=sh a;have e:=Æ Array.toList (Value.agg.inj e);subst e;refine qxW ⟨ω,?_,a⟩;apply Qg8;intro j;rw [ķ];split;{grind};grind
theorem Tf {q:Rat}(h:RA V v q)(u:Sz k q)(y:k<=2^38):À 250 #[v] V λr W=>RQ W r q:=by obtain ⟨b,xs,d,a,-,e,c⟩:=RE.raw (no:=false) ⟨π,λ_=>h⟩ (λh=>nomatch h);have ⟨f,g⟩:=c k u;rw [<-e];exact QN a ω
def jt (x:L3):List L3->List L3
 | []=>[x]
 | y::r=>if iQ y x<0 then y::jt x r else if y=x then y::r else x::y::r
theorem Ps:∀(o:zA L3)(k:Nat),k<=o.length->(∀j (h:j<o.length),j<k->iQ o[j] x<0)->(∀h:k<o.length,¬iQ o[k] x<0) ->jt x o=if (∃h:k<o.length,o[k]=x) then o else o.take k++x::o.drop k:=by
 intro o
 induction o with
 | nil=>
  intro k d _ _;simp [jt]
 | cons y r u=>
  intro k d a b
  cases k with
  | zero=>
   have c:¬iQ y x<0:=b ψ;unfold jt;rw [Ã c];by_cases e:y=x
   ·rw [Ä e,Ä ⟨ψ,e⟩]
   grind
  | succ k=>
   have c:iQ y x<0:=a 0 ψ ω;unfold jt;rw [Ä c,u k (by simpa using d) (λj h i=>a (j+1) (by simpa using h) ω) (λh=>b (by simpa using h))];by_cases e:∃h:k<r.length,r[k]=x
   ·obtain ⟨f,g⟩:=e;rw [Ä ⟨f,g⟩,Ä ⟨by simpa using f,g⟩]
   grind
def aK (l:List L3):List L3:=l.foldl (λo x=>jt (bM x) o) []
theorem Nm {l:zA L3}(h:i<l.length):aK (l.take (i+1))=jt (bM l[i]) (aK (l.take i)):=by grind [aK,List.take_add_one]
theorem Cy (x:L3):∀o:zA L3,(jt x o).length<=o.length+1
 | []=>by simp [jt]
 | y::r=>by
  have:=Cy x r;grind [jt]
theorem yv (l:zA L3):(aK l).length<=l.length:=by
 have:∀(l o:zA L3),(l.foldl (λo x=>jt (bM x) o) o).length<=o.length+l.length:=by
  intro l
  induction l with
  | nil=>intro o;simp
  | cons x r u=>
   intro o;have a:=u (jt (bM x) o);have b:=Cy (bM x) o;grind
 grind [aK]
def rK (a b:L3):Prop:=iQ a b<0
theorem Uj {b c:L3}(h:rK a b)(u:rK b c):rK a c:=by unfold rK at *;rw [wb] at *;omega
theorem Zy {b:L3}(h:rK a b)(u:rK b a):False:=by unfold rK at *;rw [wb] at *;omega
theorem wL (h:rK a a):False:=Zy h h
theorem PD {b:L3}(h:¬rK a b)(hne:a≠b):rK b a:=by grind [rK,wb]
theorem Ht:∀{l m:zA L3},l.Pairwise rK->m.Pairwise rK->(∀x,x∈l↔x∈m)->l=m
 | [],[],_,_,_=>rfl
 | [],b::m,_,_,h=>by have:=(h b).2 ψ;cases this
 | a::l,[],_,_,h=>by have:=(h a).1 ψ;cases this
 | a::l,b::m,u,y,h=>by
  have ⟨g,c⟩:=ģ.1 u;have ⟨i,d⟩:=ģ.1 y;have e:a=b:=by rcases í.1 ((h a).1 ψ) with e|e<;>grind [Zy]
  subst e;rw [Ht c d λx=>⟨λf=>?_,λf=>?_⟩]
  ·grind [wL]
  grind [wL]
theorem wG {y:L3}:∀{o:zA L3},y∈jt x o↔y=x\/y∈o
 | []=>by simp [jt]
 | z::r=>by
  unfold jt;split
  ·simp only [í,wG (o:=r)];grind
  grind
theorem Cx:∀{o:zA L3},o.Pairwise rK->(jt x o).Pairwise rK
 | [],_=>Qd0 _ _
 | z::r,h=>by
  have ⟨u,D⟩:=ģ.1 h;unfold jt;split
  ·rename_i b;refine ģ.2 ⟨λy a=>?_,Cx D⟩;rcases wG.1 a with rfl|a
   ·exact b
   ·exact u y a
  grind [rK,PD,List.pairwise_cons.2,Uj]
theorem jq (l:zA L3):(aK l).Pairwise rK/\∀x,x∈aK l↔x∈l.map bM:=by
 have:∀(l o:zA L3),o.Pairwise rK->(l.foldl (λo x=>jt (bM x) o) o).Pairwise rK/\∀x,x∈l.foldl (λo x=>jt (bM x) o) o↔x∈o\/x∈l.map bM:=by
  intro l
  induction l with
  | nil=>intro o h;exact ⟨h,λx=>ψ⟩
  | cons y r u=>
   intro o h;have ⟨a,b⟩:=u (jt (bM y) o) (Cx h);refine ⟨a,λx=>?_⟩;rw [ř,b x,wG,Ł,í];grind
 grind [List.Pairwise.nil,aK]
theorem Kf:∀{r:zA L3} {p:L3},(p::r).Pairwise (λx y=>¬Wf y x<0)->(pj eL p r).Pairwise rK/\(∀x∈pj eL p r,rK p x)/\∀x,x∈p::pj eL p r↔x∈p::r
 | [],p,_=>⟨List.Pairwise.nil,(λx h=>by cases h),λx=>Wv3⟩
 | a::r,p,h=>by
  have ⟨u,D⟩:=ģ.1 h;have ⟨i1,i2,i3⟩:=Kf D;unfold pj;by_cases e:a=p
  ·subst e;have:eL a a=true:=by simp [eL]
   grind
  ·have:eL a p=false:=by simp [eL,e]
   rw [this];have b:=PD (u a ψ) e;grind [List.pairwise_cons.2,Uj]
theorem Tq {m:zA L3}(h:m.Pairwise (λx y=>¬Wf y x<0)):(gI eL m).Pairwise rK/\∀x,x∈gI eL m↔x∈m:=by (cases m with|nil=>exact ⟨List.Pairwise.nil,λx=>Wv3⟩|cons p r=>{have ⟨a,b,c⟩:=Kf h;exact ⟨ģ.2 ⟨b,a⟩,c⟩})
theorem Uf {l m:zA L3}(h:ZO (l.map bM) m):gI eL m=aK l:=by
 have ⟨a,b⟩:=Tq h.2;have ⟨c,d⟩:=jq l;exact Ht a c λx=>by rw [b x,d x];exact h.1.mem_iff
theorem vd (h:é 6 bW V vs ls)(hi:i<ls.length):∃b1 u y c1 D E F M N O Z c3,i*6+6<=vs.length/\(vs.drop (i*6)).take 6=[Value.bool b1,yD u y c1,gF D,yD E F M,gF N,yD O Z c3]/\bW V (dB #[gF b1,yD u y c1,gF D,yD E F M,gF N,yD O Z c3]) ls[i]:=by have ⟨xs,b,a,c⟩:=h.at_ i hi;have d:=h.eX φ;have ⟨_,_,_,_,_,_,_,_,_,_,_,_,e⟩:=br a;have e:=Æ Array.toList (Value.agg.inj e);subst e;refine qxJ ⟨ω,?_,a⟩;apply Qg8;intro j;rw [ķ];split;{grind};grind
theorem EC (h:bW V v l):À 139 #[v] V λr W=>∃w b,r=ê #[w,gF b]/\bW W w (bM l):=by have n:=h;obtain ⟨o,p,q,s,t,u,x,y,z,rfl,F,G,H⟩:=h;have rev:∀(i:ut),V.Le i->(l.1<0\/l.1=0/\l.2.1<0)->À 25 #[dB #[gF (decide (l.1<0)),yD o p q,gF (decide (l.2.1<0)),yD s t u,gF (decide (l.2.2<0)),yD x y z]] i λr W=>bW W r (bM l):=λi m f=>by{refine (iC (a:=l.1) (b:=l.2.1) (c:=l.2.2) (n.le m)).s ?_;rintro r A B g;unfold bM;rw [Ä f];exact g};refine D6 V _ λI J=>(oY l.1 ra).s ?_;rintro r V2 K rfl;refine ⟨_,rfl,λf i m=>(rev i au (.inl (Ww1.1 (Á f)))).s ?_,λf=>⟨λk L M=>(oY l.2.1 ra).s ?_,λd N O=>?_⟩⟩;{rintro r A B g;have P:=g;obtain ⟨_,_,_,_,_,_,_,_,_,_,_,_,rfl⟩:=br g;exact qxJ ⟨rfl,λQ R=>⟨_,_,rfl,ra⟩⟩};{have C:=Qc0.1 (by simpa using k);rintro r S T rfl;refine ⟨_,rfl,λj D U=>(rev D au (.inr ⟨C,Ww1.1 (Á j)⟩)).s ?_,λj W X=>⟨_,_,rfl,?_⟩⟩;{rintro r Y Z g;obtain ⟨_,_,_,_,_,_,_,_,_,_,_,_,rfl⟩:=br g;exact qxJ ⟨rfl,λeV E=>⟨_,_,rfl,ra⟩⟩};have j:=Â j;unfold bM;rw [Ã λh=>j (Ww1.2 (h.elim (λh=>ω) (·.2)))];exact ra};have f:=Â f;have d:¬l.1=0:=λe=>by{rw [e] at d;simp at d};refine ⟨_,_,rfl,?_⟩;unfold bM;rw [Ã λh=>h.elim (λh=>f (Ww1.2 h)) (λh=>d h.1)];exact ra
set_option maxHeartbeats 1000000 in
theorem mM (h:aZ 6 bW V p n ls)(hn:ls.length<100000000)(hs:∀l∈ls,Bd l):À 73 #[yD p n c] V λr W=>∃q m e,r=yD q m e/\aZ 6 bW W q m (aK ls)/\m<=e:=by
 obtain rfl:=h.len
 refine xF V _ ⟨λz V'=>∃i:Nat,z.2.2.2=(i:Int)/\i<=ls.length/\GR 6 bW V' z.1 z.2.1 z.2.2.1 (aK (ls.take i)),λz=>ls.length-z.2.2.2.toNat,
  ⟨(0,0,[],0),σ,0,rfl,å _,GR.nil⟩,?_⟩
 rintro ⟨B,w2,us,z4⟩ V1 l1 ⟨i,Z,NF,k⟩;dsimp only at Z k;subst Z;have g1:=k.len;have C:=k.le;have fv:=k.cap;have s:=k.row;refine ⟨rfl,λa=>?_,λa iI dS bk hb=>?_⟩;rotate_left
 ·grind [aZ.bo,s.le,bW.le]
 have a:(i:Int)<ls.length:=Á a;have t:i<ls.length:=ω
 have w:i64.wrap ((i:Int)+1)=((i+1:Nat):Int):=by rw [aq ω];rfl
 dsimp only;rw [ß,w];refine ldL br (h.le l1) t λ_ _ _ _ _ _ _ _ _ _ _ _ hf=>?_;have Ss:=Nm t;have u:=(hs _ (ò t)).can
 have a0:(aK (ls.take i)).length<100000000:=by have:=yv (ls.take i);rw [ì] at this;omega
 have Rf:∀q∈aK (ls.take i),Bd q:=λq D=>by obtain ⟨y,hy,rfl⟩:=ÿ.1 ((jq _).2 q |>.1 D);exact (hs y (ţ hy)).can
 clear k;generalize aK (ls.take i)=O at *;refine λV2 l2=>(EC ra).s ?_;generalize bM ls[i]=x at *;rintro r V3 l3 ⟨wv,bc,rfl,D⟩;have v:=D;obtain ⟨eb,ep,en,ec,fb,fp,fn,fe,gb,gp,gn,gc,rfl⟩:=br D;refine ⟨_,_,_,_,_,_,_,_,_,_,_,_,_,rfl,λz _=>∃j:Nat,z=(j:Int)/\j<=O.length/\∀(o:Nat)(h:o<O.length),o<j->iQ O[o] x<0,λz=>O.length-z.toNat,⟨0,σ,0,rfl,å _,λo _ h=>Å h (Œ o)⟩,?_⟩;rintro z V4 l4 ⟨j,rfl,pH,jl⟩;have wj:i64.wrap ((j:Int)+1)=((j+1:Nat):Int):=by rw [aq ω];rfl
 rw [ß,wj];refine ⟨rfl,λz _=>z=true↔∃h:j<O.length,iQ O[j] x<0,⟨λa=>?_,λa=>⟨false,σ,?_⟩⟩,?_⟩
 ·have a:=Á a;have d:j<O.length:=ω;obtain ⟨E,F,G,H,I,K,L,M,N,P,Q,R,S,T,U⟩:=vd s d;refine ⟨Ź,C,E,F,G,H,I,K,L,M,N,P,Q,R,⟨S,T⟩,λV5 l5=>(fS (U.le au) (v.le au) (Rf _ (ò d)).eO u.eO).s λr V6 l6 rfl=>⟨_,rfl,_,σ,by dsimp only;rw [Ñ];exact ⟨λh=>⟨d,h⟩,λ⟨_,h⟩=>h⟩⟩⟩
 ·have a:=Â a;exact ⟨π,λ⟨h,_⟩=>Å h ω⟩
 rintro z V7 l7 Ky;refine ⟨rfl,λf=>?_,λf=>?_⟩
 ·have ⟨d,a1⟩:=Ky.1 f;refine ⟨((j+1:Nat):Int),ω,σ,j+1,rfl,d,λo h a2=>?_⟩<;>grind
 have W:∀h:j<O.length,¬iQ O[j] x<0:=λh A=>by have:=Ky.2 ⟨h,A⟩;rw [f] at this;cases this
 have b:=Ps O j pH jl W;refine ⟨λz _=>z=true↔¬∃h:j<O.length,O[j]=x,⟨λhe=>⟨true,σ,?_⟩,λhe=>?_⟩,?_⟩
 ·have he:(j:Int)=(B:Int):=by{simpa using he};exact ⟨λ_ ⟨h,_⟩=>Å h ω,λ_=>rfl⟩
 ·have he:¬(j:Int)=(B:Int):=by{simpa using he};have d:j<O.length:=ω;obtain ⟨E,F,G,H,I,K,L,M,N,P,Q,R,S,T,U⟩:=vd s d;refine ⟨Ź,C,E,F,G,H,I,K,L,M,N,P,Q,R,⟨S,T⟩,λV8 l8=>(fS (U.le au) (v.le au) (Rf _ (ò d)).eO u.eO).s λr V9 l9 rfl=>⟨_,rfl,_,σ,by dsimp only;rw [bne_iff_ne,ne_eq,te];exact ⟨λh ⟨_,A⟩=>h A,λh A=>h ⟨d,A⟩⟩⟩⟩
 rintro z eV a3 rE;refine ⟨rfl,λf eW cU bk hb J=>?_,λf=>?_⟩
 ·have X:=rE.1 f;rw [Ã X] at b;obtain ⟨xs,ys,x1,x2,x3,y1,y2,y3,r1,r2,r3,r4,r5⟩:=tz (V:=eW) (GR.s ⟨g1,C,fv,s⟩ λ_ _ g=>bW.le g au) φ (λ_ _=>tK) hb (es:=[_,_,_,_,_,_]) rfl ra (j:=j);refine ⟨Ź,Ź,Ź,xs,x1,x2,ω,Ú _,Ú 6,x2,x3,λa4 J2 sp c' h1 h2=>?_⟩;show ∃_,_;rw [r1,r2];refine ⟨ys,y1,y2,Ú _,y3,ω,ω,r3,r4,λa5 Y h3 h4=>⟨(j+(1+(B-j)),Y,_,((i+1:Nat):Int)),ω,Ÿ,i+1,rfl,t,?_⟩⟩;show GR 6 bW _ _ _ _ (aK (ls.take (i+1)));grind
 ·have hex:=Qj5 λh=>by{have:=rE.2 h;rw [f] at this;cases this};rw [Ä hex] at b;refine ⟨(B,w2,us,((i+1:Nat):Int)),ω,σ,i+1,rfl,t,?_⟩;show GR 6 bW _ _ _ _ (aK (ls.take (i+1)));rw [Ss,b];exact ⟨g1,C,fv,s.le λ_ _ g=>bW.le g au⟩
theorem B9 {t:Tr}(h:RW V p t)(y:t.dU kh)(D:t.size<=1000000):À 24 #[Õ p] V λr W=>∃q n c,r=yD q n c/\aZ 6 bW W q n (aK t.cJ)/\n<=c:=by refine Ej V _ λk a=>(nk t (h.le a) D).s ?_;rintro r V2 o ⟨q,n,c,rfl,g⟩;refine ⟨_,_,_,rfl,λs b=>(mM (g.le b) (by rw [jP];omega) λl d=>(jO y l d).2).s ?_⟩;rintro r u v ⟨w,m,e,rfl,f,i⟩;exact ⟨_,_,_,rfl,λx j=>⟨_,_,_,rfl,f.le j,i⟩⟩
theorem nj {t:Tr}(h:RW V p t)(u:t.dU kh)(y:t.size<=1000000:=by omega):À 24 #[Õ p] V λr W=>∃q n c,r=yD q n c/\aZ 6 bW W q n (aK t.cJ):=
 (B9 h u y).s λ_ _ _ ⟨q,n,c,e,g,_⟩=>⟨q,n,c,e,g⟩
theorem pf {A:zA (Rat×Rat)}(h:aZ 6 ct V p n A)(hn:A.length<=1000000){k:Nat}(hs:∀x∈A,Sz k x.1/\Sz k x.2)(hk:k<=2^40:=by omega):À 16 #[yD p n c] V λr W=>∃q m e,r=yD q m e/\aZ 6 gS W q m A:=by obtain rfl:=h.len;refine FB V _ (pE (λj z V'=>GR 6 gS V' z.1 z.2.1 z.2.2.1 (A.take j)) (0,0,[],0) σ rfl GR.nil ?_);rintro j ⟨o,F,G,H⟩ I s f J a;dsimp only at f a;subst f;have t:=a.len;rw [ì] at t;refine ⟨λb=>?_,λb K u L v=>?_⟩;{have d:=b;have w:i64.wrap ((j:Int)+1)=((j+1:Nat):Int):=by{rw [aq ω];rfl};dsimp only;rw [ß,w];refine ldP ct.shape (h.le s) d λM N O P Q R S T U W X Y Z c4 g=>?_;have ⟨s1,s2⟩:=hs _ (ò d);refine λV2 y=>(zC (g.le y) s1 s2 hk).s ?_;rintro r i l3 B;have l:gS i r A[j]:=B;obtain ⟨_,_,_,_,_,_,_,_,_,_,_,_,_,_,rfl⟩:=l.shape;refine qxW ⟨rfl,ω,a.le,a.cap,rfl,PO,λsp C D E=>⟨(o+1,C,_,((j+1:Nat):Int)),ω,σ,j+1,rfl,d,?_⟩⟩;dsimp only;rw [ĳ,ô d];exact (a.up (V':=i) au).snoc rfl l φ D E};subst b;rw [Ė] at a;obtain rfl:=a.len;exact ⟨_,_,_,rfl,aZ.bo v (a.row.le λ_ _ g=>gS.le g u) φ a.le⟩
theorem qX {m:Nat}{A:zA (Rat×Rat)}(hA:aZ 6 gS V p n A)(hB:aZ 6 gS V q m A)(hn:A.length<=1000000)(hs:∀x∈A,Sz k x.1/\Sz k x.2)(hk:k<=2^40:=by omega):À 15 #[yD p n c,yD q m d] V λr W=>r=gF true:=by obtain rfl:=hA.len;obtain rfl:=hB.len;refine AM V _ ⟨λh=>by simp at h,λ_=>⟨λz V'=>∃j:Nat,z=(j:Int)/\j<=A.length,λz=>A.length-z.toNat,⟨0,σ,0,rfl,å _⟩,?_⟩⟩;rintro z V2 e ⟨j,rfl,D⟩;refine ⟨rfl,λa=>?_,λa E F=>rfl⟩;have a:(j:Int)<A.length:=Á a;have b:j<A.length:=ω;have w:i64.wrap ((j:Int)+1)=((j+1:Nat):Int):=by{rw [aq ω];rfl};rw [ß,w];refine ldP gS.shape (hA.le e) b λG H I J K L M N O P Q R S T g=>?_;refine ldP gS.shape (hB.le e) b λi U l o W X s t Y Z u v y B C=>?_;have ⟨s1,s2⟩:=hs _ (ò b);refine λV3 f=>(EH (gS.le g f) (gS.le C f) s1 s2 hk).s ?_;rintro r V4 l4 rfl;rw [Ç ⟨rfl,rfl⟩];exact ⟨_,rfl,π,λ_=>⟨((j+1:Nat):Int),ω,σ,j+1,rfl,b⟩⟩
theorem lL {q:Rat}(h:RQ V v q):À 86 #[v] V λr W=>r=Ô .i64 q.num.sign:=by obtain ⟨_,_,_,_,_,_,rfl,a,-⟩:=h;exact sZ q a
theorem pg {p:Rat×Rat}(h:RP V v p.1 p.2):À 118 #[v] V λr W=>r=Ô .i64 (ax.half p):=by obtain ⟨_,_,_,_,_,_,_,_,_,_,_,_,rfl,o,q⟩:=h;refine FC V _ λs t=>(lL ra).s ?_;rintro r V2 u rfl;refine ⟨_,rfl,λw x=>(lL ra).s ?_⟩;rintro r y A rfl;have key:∀z:Int,(z=if p.2.num.sign>0\/p.2.num.sign=0/\p.1.num.sign>0 then 1 else if p.2.num.sign<0\/p.1.num.sign<0 then 2 else 0)->Value.int .i64 z=Ô .i64 (ax.half p):=λz e=>by{rw [e];rfl};refine ⟨_,rfl,λa=>?_,λa=>?_⟩;{have a:p.1.num.sign=0:=by{simpa using a};refine ⟨λb B C=>key _ ?_,λb=>⟨λc f g=>key _ ?_,λc=>⟨λd=>⟨λe i j=>key _ ?_,λe k l=>key _ ?_⟩,λd m n=>key _ ?_⟩⟩⟩;{have b:p.2.num.sign=0:=by{simpa using b};rw [Ã ω,Ã ω]};{have c:=Á c;rw [Ä (.inl c)]};{have b:¬p.2.num.sign=0:=by{simpa using b};have d:p.2.num.sign=0:=by{simpa using d};exact Å d b};{have b:¬p.2.num.sign=0:=by{simpa using b};have d:p.2.num.sign=0:=by{simpa using d};exact Å d b};have b:¬p.2.num.sign=0:=by{simpa using b};have c:=Â c;rw [Ã ω,Ä ω]};have a:¬p.1.num.sign=0:=by{simpa using a};refine ⟨λc f g=>key _ ?_,λc=>⟨λd=>⟨λe i j=>key _ ?_,λe k l=>key _ ?_⟩,λd m n=>key _ ?_⟩⟩;{have c:=Á c;rw [Ä (.inl c)]};{have d:p.2.num.sign=0:=by{simpa using d};have e:=Á e;rw [Ä (.inr ⟨d,e⟩)]};{have d:p.2.num.sign=0:=by{simpa using d};have e:=Â e;rw [Ã ω,Ä ω]};have d:¬p.2.num.sign=0:=by{simpa using d};have c:=Â c;rw [Ã ω,Ä ω]
theorem sign_b (q:Rat):-1<=q.num.sign/\q.num.sign<=1:=by rcases Qr1 q.num 0 with h|h|h;{rw [Qd2 h];omega};{rw [h];decide};rw [Qf7 h];omega
theorem t_ {a b:Rat×Rat}(h:RP V v a.1 a.2)(M:RP V w b.1 b.2)(s1:Sz k a.1)(s2:Sz k a.2)(s3:Sz k b.1)(s4:Sz k b.2)(N:4*k+4<2^38:=by omega):À 123 #[v,w] V λr W=>r=Ô .i64 (ax.fg a b):=by have f:=h;have d:=M;obtain ⟨_,_,_,_,_,_,_,_,_,_,_,_,rfl,-⟩:=h;obtain ⟨_,_,_,_,_,_,_,_,_,_,_,_,rfl,-⟩:=M;refine D5 V _ λi j=>(pg ra).s ?_;rintro r V2 l rfl;refine ⟨_,rfl,λm n=>(pg ra).s ?_⟩;rintro r o p rfl;refine ⟨_,rfl,λg=>⟨λc q s=>?_,λc t u=>?_⟩,λg x y=>(hU ra ra s1 s2 s3 s4 N).s ?_⟩;{unfold ax.fg;rw [Ä (Á c)]};{have g:ax.half a≠ax.half b:=by{simpa using g};have c:=Â c;unfold ax.fg;rw [Ã c,Ä ω]};have g:ax.half a=ax.half b:=by{simpa using g};rintro r z A gc;obtain ⟨_,_,_,_,_,_,rfl⟩:=gc.shape;refine qxQ ⟨rfl,λB C=>(lL ra).s λr D e rfl=>⟨_,rfl,λE F=>?_⟩⟩;have G:=sign_b (a.1*b.2-a.2*b.1);rw [aq ω];unfold ax.fg;rw [Ã ω,Ã ω];show _=Value.int .i64 (-(a.1*b.2-a.2*b.1).num.sign);congr 1;omega
theorem qW {p:Rat×Rat}(h:RP V v p.1 p.2)(s1:Sz k p.1)(s2:Sz k p.2)(u:k<=2^40:=by omega):À 54 #[v] V λr W=>RP W r (-p.1) (-p.2):=by obtain ⟨_,_,_,_,_,_,_,_,_,_,_,_,rfl,f,i⟩:=h;refine Jg V _ λn b=>(lK (f.le b) s1 u).s ?_;rintro r V2 j g;have l:=g;obtain ⟨_,_,_,_,_,_,rfl⟩:=g.shape;refine qxQ ⟨rfl,λo c=>(lK (i.le (b.m (j.m c))) s2 u).s ?_⟩;rintro r q m d;have a:=d;obtain ⟨_,_,_,_,_,_,rfl⟩:=d.shape;exact qxQ ⟨rfl,λs e=>⟨_,_,_,_,_,_,_,_,_,_,_,_,rfl,l.le (c.m (m.m e)),a.le e⟩⟩
theorem BX {y:Int}(u:RI V v z)(D:RI V w y)(hm:(ah z.natAbs).length+(ah y.natAbs).length<=2^40):À 119 #[v,w] V λr W=>RI W r (z*y):=by obtain ⟨_,_,_,rfl,a⟩:=u;obtain ⟨_,_,_,rfl,b⟩:=D;exact lg z y a b hm
theorem B_ {pv vv:un}{p v:Rat×Rat}{k:Nat}(hk1:1000<=k)(hk:16*k+16<2^38)(s1:Sz k p.1)(s2:Sz k p.2)(s3:Sz k v.1)(s4:Sz k v.2){t:Tr}(h:RW V q t)(ha:t.dU Bd)(hp:RP V pv p.1 p.2)(hv:RP V vv v.1 v.2):À 79 #[Õ q,pv,vv] V λr W=>r=ê #[gF (ax.pV t p v).1,gF (ax.pV t p v).2]:=by
 have w:=hp;have x:=hv;obtain ⟨_,_,_,_,_,_,_,_,_,_,_,_,rfl,-⟩:=hp;obtain ⟨_,_,_,_,_,_,_,_,_,_,_,_,rfl,-⟩:=hv;refine AV V _ ⟨λz k V'=>∃n,RW V' z n/\n.dU Bd/\k=n.size/\ax.pV n p v=ax.pV t p v,⟨q,t.size,σ,t,h,ha,rfl,rfl⟩,?_⟩;rintro z m X Y ⟨n,Z,y,rfl,e⟩;rw [<-e];clear e h ha t
 cases n with
 | leaf i=>
  have ⟨is,g0,g1⟩:=kV Z;exact ⟨rfl,is,is,_,g0,ű,λ_=>⟨is,is,_,g1,λV5 l5=>rfl⟩⟩
 | node ln a b=>
  obtain ⟨A,i,B,C,D,E,F,G,H,I,J,K,L,M,pl,pr,rfl,s,hl,N,O⟩:=Z;obtain ⟨P,Q,R⟩:=y;have sl:=P.eO
  have c:∀{W:ut},X.Le W->∀j v,([gF B,yD C D E,gF F,yD G H I,gF J,yD K L M]:zA un)[j]?=some v->W.at (((⟨A,0,none⟩:Addr).add 2).add j) v:=by
   intro W hW j v hv;rw [BE,add_zero'];refine dK (xs:=[_,_,_,_,_,_,_,_,_,_]) (hW _ _ s) ?_;have hj:j<6:=(Ī.1 hv).1
   match j,hj,hv with
   | 0,_,h=>exact h
   | 1,_,h=>exact h
   | 2,_,h=>exact h
   | 3,_,h=>exact h
   | 4,_,h=>exact h
   | 5,_,h=>exact h
  have o:=Ó.Le.refl X;refine ⟨rfl,rfl,rfl,false,Ao s 0 rfl,λ_=>⟨rfl,rfl,B,C,D,E,F,G,H,I,J,K,L,M,(⟨A,0,none⟩:Addr).add 2,rfl,c o 0 _ rfl,c o 1 _ rfl,c o 2 _ rfl,c o 3 _ rfl,c o 4 _ rfl,c o 5 _ rfl,λV2 S=>(yO (hl.le S) (w.le (Y.m S)) (k:=k) ⟨sl.1.s hk1,sl.2.1.s hk1,sl.2.2.s hk1⟩ s1 s2 hk).s ?_⟩,ű⟩;rintro r V3 l3 rfl;have d:=S.m l3;refine ⟨_,rfl,λz _=>z=ax.Lu ln p v,⟨λg=>?_,λg=>?_⟩,?_⟩
  ·have g:(aG ln p.1 p.2).num.sign=0:=by{simpa using g};refine ⟨rfl,rfl,B,C,D,E,F,G,H,I,J,K,L,M,(⟨A,0,none⟩:Addr).add 2,rfl,c d 0 _ rfl,c d 1 _ rfl,c d 2 _ rfl,c d 3 _ rfl,c d 4 _ rfl,c d 5 _ rfl,λV4 l4=>(dZ (hl.le (d.m l4)) sl.1 sl.2.1 sl.2.2 ω).s ?_⟩;rintro r V5 l5 gd;have Xk:RP V5 r (ax.bj ln).1 (ax.bj ln).2:=gd;obtain ⟨_,_,_,_,_,_,_,_,_,_,_,_,rfl,-⟩:=gd;refine qxW ⟨rfl,λV6 l6=>(hU (Xk.le l6) (x.le (Y.m (d.m (l4.m (l5.m l6))))) (k:=k) (sl.2.1.s hk1) (sl.1.neg.s hk1) s3 s4).s ?_⟩;rintro r V7 l7 gc;have T:=gc;obtain ⟨_,_,_,_,_,_,rfl⟩:=gc.shape;refine qxQ ⟨rfl,λV8 l8=>(lL (T.le l8)).s ?_⟩;rintro r V9 l9 rfl;refine ⟨_,rfl,_,σ,?_⟩;unfold ax.Lu;rw [Ä g,ax.UD];rfl
  ·have g:¬(aG ln p.1 p.2).num.sign=0:=λh=>by{rw [h] at g;cases g};refine ⟨_,σ,?_⟩;unfold ax.Lu;rw [Ã g]
  ·rintro z eV U rfl;have u:=d.m U;refine ⟨rfl,λf=>⟨rfl,rfl,pl,Ao (u _ _ s) 8 rfl,pl,a.size,by simp only [Tr.size];omega,σ,a,N.le u,Q,rfl,?_⟩,λf=>⟨λl=>⟨rfl,rfl,pr,Ao (u _ _ s) 9 rfl,pr,b.size,by simp only [Tr.size];omega,σ,b,O.le u,R,rfl,?_⟩,λl iI d=>?_⟩⟩;{have f:ax.Lu ln p v=1:=by{simpa using f};simp only [ax.pV];rw [Ä f]};{have f:¬ax.Lu ln p v=1:=by{simpa using f};have l:ax.Lu ln p v=-1:=by{simpa using l};simp only [ax.pV];rw [Ã f,Ä l]};have f:¬ax.Lu ln p v=1:=by{simpa using f};have l:¬ax.Lu ln p v=-1:=by{simpa using l};simp only [ax.pV];rw [Ã f,Ã l]
theorem Bm {al:zA L3}(h:aZ 6 bW V p n al)(hi:i<al.length):p.isSome=true/\∃(b1:md)(u:OA)(y c1:Nat)(D:md)(E:OA)(F M:Nat)(N:md)(O:OA)(Z c3:Nat)(a:Addr),ae p (i*6)=some a/\V.at (a.add 0) (gF b1)/\V.at (a.add 1) (yD u y c1)/\V.at (a.add 2) (gF D)/\V.at (a.add 3) (yD E F M)/\V.at (a.add 4) (gF N)/\V.at (a.add 5) (yD O Z c3)/\bW V (dB #[gF b1,yD u y c1,gF D,yD E F M,gF N,yD O Z c3]) al[i]:=by have ⟨f,c,xs,g,d,b⟩:=h.at_ i hi;have ⟨_,_,_,_,_,_,_,_,_,_,_,_,e⟩:=br d;have e:=Æ Array.toList (Value.agg.inj e);subst e;refine ⟨?_,_,_,_,_,_,_,_,_,_,_,_,_,f,c,b 0 _ rfl,b 1 _ rfl,b 2 _ rfl,b 3 _ rfl,b 4 _ rfl,b 5 _ rfl,d⟩;(cases p with|none=>{cases c}|some a=>rfl)
theorem Bt {m:L3}(sl:iL k l)(sm:iL k m):Sz (20*k+20) (PE l m)/\Sz (20*k+20) (PF l m):=by obtain ⟨a,b,e⟩:=sl;obtain ⟨c,d,f⟩:=sm;exact ⟨(Sz.mul ((b.mul f).sub (e.mul d)) (iA ((a.mul d).sub (b.mul c)))).s ω,(Sz.mul ((e.mul c).sub (a.mul f)) (iA ((a.mul d).sub (b.mul c)))).s ω⟩
theorem wo {q:L3->Prop}(u:∀l,q l->q (bM l))(h:∀l∈ls,q l):∀l∈aK ls,q l:=λl a=>by grind [jq]
theorem nz_can (h:Nz l):Nz (bM l):=by unfold bM;split;{unfold Nz Ö at *;intro ⟨a,b⟩;exact h ⟨by simpa using a,by simpa using b⟩};exact h
theorem HF {V:ut}{tb:Nat}{lp:OA}{at_:Int}(hr:Jr V lp n)(hn:n<=400)(hw:gY V tb lp n c at_)(hx:V.X tb)(h0:0<=at_){t:Tr}(h:RW V q t)(ha:t.dU kh)(hs:t.size<=1000:=by omega):À 7 #[Õ (some ⟨tb,0,none⟩),Õ q] V λr W=>∃(p:Rat×Rat)(at':Int),RP W r p.1 p.2/\Sz 60000 p.1/\Sz 60000 p.2/\0<=at'/\gY W tb lp n c at':=by
 have hb:∀l∈aK t.cJ,Bd l:=wo (λ_ h=>h.can) λl Z=>(jO ha l Z).2;have hz:∀l∈aK t.cJ,Nz l:=wo (λ_ h=>nz_can h) λl Z=>eI (jO ha l Z).1;have hlen:(aK t.cJ).length<=1000:=by have:=yv t.cJ;rw [jP] at this;omega
 refine Fq tb lp n c at_ q V _ hw hx λV1 l1=>(nj (h.le l1) ha).s ?_;rintro r V2 l2 ⟨ps,m,e,rfl,hL⟩;generalize aK t.cJ=L at *;have hm:=hL.len;subst hm;have D:=l1.m l2
 have any:∀{W W':ut} {w:Nat} {a:Int},V.Le W->0<=a->gY W w lp n c a->W.H w->À 28 #[Õ (some ⟨w,0,none⟩)] (W.ao [w]) λr W=>∃(x y:Rat)(at':Int),RP W r x y/\Sz 10 x/\Sz 10 y/\0<=at'/\gY W w lp n c at':=λ{W _ w a} lw a0 hw hh=>
  WR (V:=W.ao [w]) (hr.le λb o h=>lw b o h) hn hw ⟨ψ,hh⟩ a0
 refine ⟨_,_,_,rfl,λg V3 l3 w e1 e2=>(any (W':=V) (D.m l3) h0 e1 e2).s ?_,λg V6 l6 w e1 e2=>?_⟩
 ·rintro r V4 l4 ⟨x,y,at',f,I,J,t0,k⟩;have d:=f;obtain ⟨_,_,_,_,_,_,_,_,_,_,_,_,rfl,-⟩:=f;exact qxW ⟨rfl,_,_,_,_,k,λV5 K s=>⟨(x,y),at',d.le λb o h=>K b o h,I.s ω,J.s ω,t0,s⟩⟩
 have g:0<L.length:=by have g:¬((L.length:Nat):Int)=0:=by{simpa using g};omega
 refine (dL (V:=V6.ao [w]) (L.length:Int) (hr.le λb o h=>l6 b o (D b o h)) hn e1 ⟨ψ,e2⟩ h0 ω).s ?_;rintro r V7 l7 ⟨x,F3,rfl,x0,x1,t1,a6⟩;obtain ⟨i,rfl⟩:∃i:Nat,x=i:=⟨x.toNat,ω⟩;have hi:i<L.length:=ω
 have yF:V2.Le V7.shut:=λb o h=>l7 b o (l6 b o h);have ⟨is,b1,p1,n1,c1,b2,p2,n2,c2,b3,p3,n3,c3,a,a7,a0,a1,a2,a3,a4,a5,M⟩:=Bm (hL.le yF) hi;have v:=(hb _ (ò hi)).eO;have a8:=hz _ (ò hi);generalize L[i]=A at *;refine ⟨_,rfl,_,_,_,_,a6,is,Ź,b1,p1,n1,c1,b2,p2,n2,c2,b3,p3,n3,c3,a,a7,a0,a1,a2,a3,a4,a5,λV8 l8 a9 e3 e4=>(dL (V:=V8.ao [a9]) 3 (hr.le λb o h=>l8 b o (yF b o (D b o h))) hn e3 ⟨ψ,e4⟩ t1 ω).s ?_⟩;rintro r V9 l9 ⟨y,d2,rfl,y0,y1,t2,b0⟩;have T:∀{W:ut},V9.shut.Le W->V2.Le W:=λl b o h=>l b o (l9 b o (l8 b o (yF b o h)));have N:∀{W:ut},V9.shut.Le W->V7.shut.Le W:=λl b o h=>l b o (l9 b o (l8 b o h));refine ⟨_,rfl,_,_,_,_,b0,λg1 eV E U s O=>(dL (V:=eV.ao [U]) (L.length:Int) (hr.le λb o h=>T E b o (D b o h)) hn s ⟨ψ,O⟩ t2 ω).s ?_,λg1=>⟨λg2 mD gj U s O=>(c_Q (V:=mD.ao [U]) (hr.le λb o h=>T gj b o (D b o h)) hn s ⟨ψ,O⟩ t2).s ?_,λg2 qD l_ U s O=>(any (W':=V) (D.m (T l_)) t2 s O).s ?_⟩⟩
 ·rintro r eW cU ⟨z,F,rfl,z0,z1,t3,G⟩;obtain ⟨j,rfl⟩:∃j:Nat,z=j:=⟨z.toNat,ω⟩;have hj:j<L.length:=ω;have C:V2.Le eW.shut:=λb o h=>cU b o (T E b o h);have ⟨is,b4,Sy,b5,b6,b7,Wp,Rz,b8,b9,Wq,Wo,c0,a',P,c4,c5,c6,c7,c8,c9,d0⟩:=Bm (hL.le C) hj;have Q:=(hb _ (ò hj)).eO;generalize L[j]=B at *;have R:V7.shut.Le eW.shut:=λb o h=>cU b o (N E b o h);refine ⟨_,rfl,_,_,_,_,G,is,Ź,b4,Sy,b5,b6,b7,Wp,Rz,b8,b9,Wq,Wo,c0,a',P,c4,c5,c6,c7,c8,c9,λgC dI=>(IA (M.le (R.m dI)) (d0.le dI) v Q).s ?_⟩;rintro r iI dS ⟨u,rfl,q0,q1⟩;have ⟨s1,s2⟩:=Bt v Q;by_cases Y:Ý A B=0;{have:=q0 Y;unfold JD at this;subst this;refine wwQ ⟨rfl,λh=>by simp [Y] at h,λ_ ke fB Sn S e8=>(any (W':=V) (D.m (C.m (dI.m (dS.m fB)))) t3 S e8).s ?_⟩;rintro r kf e_ ⟨x,y,at',f,I,J,t0,k⟩;have d:=f;obtain ⟨_,_,_,_,_,_,_,_,_,_,_,_,rfl,-⟩:=f;exact qxW ⟨rfl,_,_,_,_,k,λV5 K s=>⟨(x,y),at',d.le λb o h=>K b o h,I.s ω,J.s ω,t0,s⟩⟩};have f:=q1 Y;have d:=f;obtain ⟨_,_,_,_,_,_,_,_,_,_,_,_,rfl,-⟩:=f;refine wwQ ⟨rfl,λ_ kK fH S=>⟨(PE A B,PF A B),F,d.le fH,s1.s ω,s2.s ω,t3,S⟩,λh=>by simp [Y] at h⟩
 ·rintro r nf je ⟨qq,F,hq,sq,t3,G⟩;have d1:=hq;obtain ⟨_,_,_,_,_,_,rfl⟩:=hq.shape;refine qxQ ⟨rfl,_,_,_,_,G,λkg il=>(N8 (M.le λb o h=>il b o (je b o (N gj b o h))) (d1.le λb o h=>il b o h) a8 v (sq.s ω)).s ?_⟩;rintro r qC nQ f;have d:=f;obtain ⟨_,_,_,_,_,_,_,_,_,_,_,_,rfl,-⟩:=f;exact qxW ⟨rfl,λqN lZ S=>⟨(cu A qq,cw A qq),F,d.le lZ,(nI v (sq.s ω)).s ω,(nJ v (sq.s ω)).s ω,t3,S⟩⟩
 ·rintro r Aa nt ⟨x,y,at',f,I,J,t0,k⟩;have d:=f;obtain ⟨_,_,_,_,_,_,_,_,_,_,_,_,rfl,-⟩:=f;exact qxW ⟨rfl,_,_,_,_,k,λV5 K s=>⟨(x,y),at',d.le λb o h=>K b o h,I.s ω,J.s ω,t0,s⟩⟩
def NQ (p:Rat×Rat):Rat×Rat:=(-p.1,-p.2)
theorem DE {p:Rat×Rat}(s1:Sz k p.1)(s2:Sz k p.2):Sz (3*k+3) (eN p).1/\Sz (3*k+3) (eN p).2:=
 ⟨(Sz.mul s1 (iA (ig s1 s2))).s ω,(Sz.mul s2 (iA (ig s1 s2))).s ω⟩
structure SF (V:Ó) (n:Nat) (vs:List Value) (l:List (Rat×Rat)):Prop where
 row:é 6 qf V vs l
 len:n=l.length
 kS:l.length<20000
theorem SF.le {V V':ut}{l:zA (Rat×Rat)}(h:SF V n vs l)(e:V.Le V'):SF V' n vs l:=⟨h.row.le λ_ _ g=>qf.le g e,h.len,h.kS⟩
theorem SF.get {l:zA (Rat×Rat)}(h:SF V n vs l){k:Nat}(F:k<l.length):∃(x y:Int)(p:OA)(u D:Int)(E:OA),((0+k*6)+6<=vs.length/\(vs.drop (0+k*6)).take 6=[Ô .i64 x,Ô .i64 y,Õ p,Ô .i64 u,Ô .i64 D,Õ E])/\qf V (dB #[Ô .i64 x,Ô .i64 y,Õ p,Ô .i64 u,Ô .i64 D,Õ E]) (l.getD k EP):=by obtain ⟨xs,-,a,b,c⟩:=h.row.get (d:=EP) F φ;obtain ⟨x,y,p,u,D,E,e⟩:=a.shape;have e:=Æ Array.toList (Value.agg.inj e);dsimp only at e;subst e;rw [č];exact ⟨x,y,p,u,D,E,⟨b,c⟩,a⟩
theorem qf.cells {c:Rat×Rat}(h:qf V v c):∃xs:zA un,v=.agg xs.toArray/\xs.length=6/\∀x∈xs,x.oneCell'=true:=by obtain ⟨_,_,_,_,_,_,rfl⟩:=h.shape;exact ⟨_,rfl,rfl,Į.1 rfl⟩
theorem JR {lb:Nat}{l:zA (Rat×Rat)}(hw:V.w.heap[lb]?=some (.cells vs.toArray 99 (0,0)))(D:V.X lb)(h:SF V n vs l):À 108 #[yD (some ⟨lb,0,none⟩) n c,.func (.func 109) #[] #[]] V λr W=>r=ê #[]/\∃u l',W.w.heap[lb]?=some (.cells u.toArray 99 (0,0))/\SF W n u l'/\l'.Perm l/\l'.Pairwise λx y=>¬WL y x<0:=by have kS:=h.kS;refine (Du (R:=qf) (cf:=WL) G7 aggP sizP qf.le qf.cells ordCP BR φ hw D h.row h.len).s λr V' b ⟨rfl,u,l',e,row,pm,a⟩=>⟨rfl,u,l',e,⟨row,h.len.m pm.length_eq.symm,by rw [pm.length_eq];exact kS⟩,pm,a⟩
theorem Ac:À 108 #[yD none 0 0,.func (.func 109) #[] #[]] V λr W=>r=ê #[]:=
 (tM G7).s λ_ _ _ h=>h.1
set_option maxHeartbeats 1000000 in
theorem BN {V:ut}{lb n c:Nat}{vs:zA un}{l:zA (Rat×Rat)}(hw:V.w.heap[lb]?=some (.cells vs.toArray 99 (0,0)))(hx:V.X lb)(h:SF V n vs l)(hc:n<=c):À 110 #[yD (some ⟨lb,0,none⟩) n c,.func (.func 111) #[] #[]] V λr W=>∃vs',r=yD (some ⟨lb,0,none⟩) (gI eP l).length c/\W.w.heap[lb]?=some (.cells vs'.toArray 99 (0,0))/\é 6 qf W vs' (gI eP l)/\vs'.length=vs.length:=by
 have kS:=h.kS;have len:=h.len;have a0:=h.row.eX φ;refine oM lb n c vs V _ hw hx ⟨λx V1 l1 J=>?_,λx=>⟨λz V'=>∃k:Nat,z=((k+1:Nat):Int)/\k+1<=n/\gI eP (l.take (k+1))=l.take (k+1),λz=>n-z.toNat,⟨1,σ,0,rfl,by have:=Â x;omega,wc (by rw [ì];omega)⟩,?_⟩⟩
 ·have x:(n:Int)<2:=Á x;have e:=wc (e:=eP) (l:=l);rw [e,<-len];exact ⟨vs,rfl,J,h.row.le λ_ _ g=>qf.le g l1,rfl⟩
 have x:¬(n:Int)<2:=Â x;rintro z V2 l2 ⟨k,rfl,hk,j⟩;have H:=h.le l2;refine ⟨rfl,λb=>?_,λb V9 l9 K=>?_⟩;rotate_left
 ·have b:¬((k+1:Nat):Int)<n:=Â b;have e:l.take (k+1)=l:=ō ω;rw [e] at j;rw [j,<-len];exact ⟨vs,rfl,K,h.row.le λ_ _ g=>qf.le g au,rfl⟩
 have b:((k+1:Nat):Int)<n:=Á b;have w1:i64.wrap (((k+1:Nat):Int)-1)=(k:Int):=by rw [aq ω];omega
 have w2:i64.wrap (((k+1:Nat):Int)+1)=((k+1+1:Nat):Int):=by rw [aq ω];rfl
 rw [w1,w2,ß,ß];obtain ⟨y,A,B,C,D,E,I,W⟩:=H.get (k:=k+1) ω;obtain ⟨L,M,N,O,P,Q,R,Y⟩:=H.get (k:=k) ω;refine ⟨⟨ω,b⟩,y,A,B,C,D,E,I,Ź,L,M,N,O,P,Q,R,λV3 l3=>(Tl ra ra).s ?_⟩;rintro r V4 l4 rfl;have step:=lj (e:=eP) (d:=EP) (l:=l) (k:=k);refine ⟨_,rfl,λhe=>⟨Ź,?_⟩,λhe=>⟨((k+1+1:Nat):Int),ω,σ,k+1,rfl,ω,?_⟩⟩;rotate_left
 ·have p:eP (l.getD (k+1) EP) (l.getD k EP)=false:=he;rw [step,j,p];show l.take (k+1)++[_]=_;have F:k+1<l.length:=ω;rw [show l.getD (k+1) EP=l[k+1] by rw [ě,ô F];rfl,Ŏ F]
 have p:eP (l.getD (k+1) EP) (l.getD k EP)=true:=he;have nt:=l3.m l4;have Z:∀{m:Nat},m<c->qL 0 c m 6=m*6:=λhm=>by unfold qL;rw [Ã ω,č]
 refine ⟨λz V'=>∃(q t:Nat)(m:zA (Rat×Rat)),z.1=(q:Int)/\z.2.1=((t+1:Nat):Int)/\q<=k+1+t/\k+1+t+1<=n/\SF V' n z.2.2 m/\z.2.2.length=vs.length/\(∀i,k+1+t<=i->m.getD i EP=l.getD i EP)/\m.take q=gI eP (l.take (k+1+t+1)),λz=>n-z.2.1.toNat,
  ⟨(((k+1:Nat):Int),1,vs),σ,k+1,0,l,rfl,rfl,ω,ω,ra,rfl,λi _=>rfl,?_⟩,?_⟩
 ·rw [ğ,step,p,Ä rfl,ý,j]
 rintro ⟨zq,zt,us⟩ V5 l5 ⟨q,t,m,e1,e2,hq,ht,s,S,hm,G⟩;dsimp only at e1 e2 s S;subst e1 e2;dsimp only;have ml:=s.len;have a3:=s.row.eX φ;refine ⟨rfl,λa=>?_,λa=>?_⟩
 ·have a:((t+1:Nat):Int)<((n-(k+1):Nat):Int):=Á a;have w3:i64.wrap (((t+1:Nat):Int)-1)=(t:Int):=by{rw [aq ω];omega};have w4:i64.wrap (((t+1:Nat):Int)+1)=((t+1+1:Nat):Int):=by{rw [aq ω];rfl};have w5:i64.wrap ((q:Int)+1)=((q+1:Nat):Int):=by{rw [aq ω];rfl};rw [w3,w4,w5,ß,ß,ß,Z ω];obtain ⟨y,A,B,C,D,E,I,W⟩:=s.get (k:=k+1+(t+1)) ω;obtain ⟨L,M,N,O,P,Q,R,Y⟩:=s.get (k:=k+1+t) ω;have a1:(k+1)*6+(t+1)*6=0+(k+1+(t+1))*6:=ω;have a2:(k+1)*6+t*6=0+(k+1+t)*6:=ω;rw [a1,a2];rw [hm _ ω] at W;rw [hm _ ω] at Y;refine ⟨⟨ω,a⟩,y,A,B,C,D,E,I,Ź,L,M,N,O,P,Q,R,λV6 l6=>(Tl ra ra).s ?_⟩;rintro r V7 l7 rfl;have Zw:=l6.m l7;have f:=lj (e:=eP) (d:=EP) (l:=l) (k:=k+1+t);refine ⟨_,rfl,λT=>⟨⟨ω,a⟩,y,A,B,C,D,E,I,Ź,ω,(((q+1:Nat):Int),((t+1+1:Nat):Int),_),ω,σ,q+1,t+1,m.set q (l.getD (k+1+(t+1)) EP),rfl,rfl,ω,ω,?_,?_,λi F=>?_,?_⟩,λT=>⟨(((q:Nat):Int),((t+1+1:Nat):Int),us),ω,σ,q,t+1,m,rfl,rfl,ω,ω,ra,S,λi F=>hm i ω,?_⟩⟩;{refine ⟨?_,by rw [Qf6];exact ml,by rw [Qf6];exact s.kS⟩;have:=(s.le Zw).row.put (i:=q) ω φ (xs:=[Ô .i64 y,Ô .i64 A,Õ B,Ô .i64 C,Ô .i64 D,Õ E]) rfl ra;dsimp only;rw [č];exact this};{exact (rY (vs:=us) (xs:=[Ô .i64 y,Ô .i64 A,Õ B,Ô .i64 C,Ô .i64 D,Õ E]) (o:=0+q*6) (by show 0+q*6+6<=_;omega)).m S};{rw [ě,Qm2 ω,<-ě];exact hm i ω};{have u:eP (l.getD (k+1+(t+1)) EP) (l.getD (k+1+t) EP)=false:=by{simpa using T};have v:eP (l.getD (k+1+t+1) EP) (l.getD (k+1+t) EP)=false:=u;have F:q<m.length:=ω;rw [show k+1+(t+1)+1=k+1+t+2 from rfl,f,v,<-G,Ã φ];rw [Qp8,ĳ,ô F,show (some m[q]).toList=[m[q]] from rfl];rw [List.set_append_right _ _ (by rw [ì];omega),ì,Ħ ω,Nat.sub_self];rfl};have u:eP (l.getD (k+1+(t+1)) EP) (l.getD (k+1+t) EP)=true:=by{simpa using T};have v:eP (l.getD (k+1+t+1) EP) (l.getD (k+1+t) EP)=true:=u;rw [show k+1+(t+1)+1=k+1+t+2 from rfl,f,v,Ä rfl,ý,G]
 ·have a:¬((t+1:Nat):Int)<((n-(k+1):Nat):Int):=Â a;have hl:l.take (k+1+t+1)=l:=ō ω;rw [hl] at G;have a4:q<n:=by{have:=Pk (e:=eP) (d:=EP) (l:=l) (k:=k) ω p;rw [<-G,ì] at this;omega};rw [ß,Z ω];have hz:q*6+(n-q)*6=n*6:=by{rw [<-ĕ];congr 1;omega};rw [hz];refine ⟨Ź,ω,Ź,λV8 l8 U=>⟨_,?_,U,?_,?_⟩⟩;{rw [<-G,ì,Ħ ω]};{rw [<-G,Ě];exact (s.row.le λ_ _ g=>qf.le g l8).Ph ω φ};simp only [ï,ì,į,pZ,Wx0,Wy3,List.sum_replicate_nat,Ĉ,ĺ];omega
theorem uI:À 110 #[yD none 0 0,.func (.func 111) #[] #[]] V λr W=>r=yD none 0 0:=
 k_ V _ ⟨λ_ a b=>rfl,λh=>Å (Â h) φ⟩
def SG (n c:Nat)(l:List (Rat×Rat)):Prop:=∀(V:Ó)(lb:Nat)(vs:List Value),V.w.heap[lb]?=some (.cells vs.toArray 99 (0,0))->V.X lb->SF V n vs l ->
 À 108 #[.slice (some ⟨lb,0,none⟩) n c,.func (.func 109) #[] #[]] V λr W=>r=.tuple #[]/\∃u l',W.w.heap[lb]?=some (.cells u.toArray 99 (0,0))/\SF W n u l'/\l'.Perm l/\l'.Pairwise λx y=>¬WL y x<0
theorem Vt (n c:Nat)(l:zA (Rat×Rat)):SG n c l:=λ_ _ _ hw a h=>JR hw a h
theorem vN {V:ut}{lb n c:Nat}{o:zA (Rat×Rat)}(hw:vs≠[]->V.w.heap[lb]?=some (.cells vs.toArray 99 (0,0)))(hx:vs≠[]->V.X lb)(hg:GR 6 qf V n c vs o)(hpos:vs≠[]->0<n)(hs:o.length<20000)(hso:SG n c o):À 45 #[yD (mA lb c) n c] V λr V'=>∃(bm:Nat)(vm:zA un)(n' c':Nat)(m:zA (Rat×Rat)),(vm≠[]->V'.w.heap[bm]?=some (.cells vm.toArray 99 (0,0)))/\(vm≠[]->V.w.heap.size<=bm\/(vs≠[]/\bm=lb))/\r=yD (mA bm c') n' c'/\é 6 qf (V'.bq (vm≠[]) bm) vm (gI eP m)/\n'=(gI eP m).length/\n'<=c'/\m.Perm o/\m.Pairwise λx y=>¬WL y x<0:=by have F:∀{A B:Prop},A\/B\/False->A\/B:=λh=>h.imp id λh=>h.elim id False.elim;have i:=hg.cap;have hle:=hg.le;have hlen:=hg.len;refine xB lb n c vs V _ hw hx ⟨λd=>?_,λd u G j f1 f2=>?_⟩;{subst d;have H:c=0:=by{simp at i;omega};subst H;have I:n=0:=ω;subst I;have k:o=[]:=Ĥ.1 hlen.symm;refine ⟨rfl,λS T=>Ac.s ?_⟩;rintro r V2 U rfl;refine ⟨rfl,λW Y Z e1 e2=>uI.s ?_⟩;rintro r V4 l4 rfl;refine ⟨0,[],λh=>Å rfl h,λh=>Å rfl h,none,0,0,rfl,λV5 J v z C=>⟨J,[],0,0,[],λh=>Å rfl h,λh=>Å rfl h,rfl,é.nil,rfl,Ú _,?_,List.Pairwise.nil⟩⟩;rw [k]};have K:=hpos d;have s:c≠0:=ω;have t:∀b,mA b c=some ⟨b,0,none⟩:=λb=>by{unfold mA;rw [Ã s]};show À _ _ _ _;rw [t];refine (hso (u.ao [vb vs u.w.heap.size j]) j vs (f1 d) ⟨by simp [mY d],f2 d⟩ ⟨hg.row.le λ_ _ g=>qf.le g λb o h=>G b o h,hlen,hs⟩).s ?_;rintro r V7 l7 ⟨rfl,a,m,z,sr,pm,L⟩;have M:=pm.length_eq;have f:a≠[]:=λe=>by{have:=sr.row.eX φ;rw [e,M,<-hlen] at this;simp at this;omega};refine ⟨rfl,d,a,f,z,λD N p O E=>?_⟩;show À _ _ _ _;rw [t];refine aa.ZA (BN (V:=D.ao [vb a D.w.heap.size p]) (lb:=p) (vs:=a) (l:=m) (O f) ⟨by simp [mY f],E f⟩ (sr.le λb o h=>N b o h) hle) ?_;rintro r V9 l9 P ⟨ws,rfl,C,row,wl⟩;have hk:=ru (e:=eP) (l:=m);refine ⟨p,ws,λ_=>C,λ_=>.inr ⟨f,rfl⟩,some ⟨p,0,none⟩,(gI eP m).length,c,by rw [t],λeV q v Q R=>⟨q,ws,_,c,m,Q,λh=>F (R h),rfl,?_,rfl,ω,pm,L⟩⟩;exact row.le λ_ _ g=>qf.le g ((KJ λ_=>P p (E f)).m v)
theorem NM (n:Int)(h:d≠0):mkRat n d*((d:Nat):Rat)=(n:Rat):=by have a:((d:Nat):Rat)≠0:=by{exact_mod_cast h};rw [Rat.mkRat_eq_div,Rat.div_def];exact ax.inv_mul a _
theorem TS {p:Rat×Rat}(h:ax.nz p):eG p.1 p.2>0:=by have a:p.1.den*p.2.den≠0:=Ņ p.1.den_nz p.2.den_nz;have e:=NM (Nat.gcd (p.1.num.natAbs*p.2.den) (p.2.num.natAbs*p.1.den):Nat) a;have b:0<Nat.gcd (p.1.num.natAbs*p.2.den) (p.2.num.natAbs*p.1.den):=by{apply Qg2;intro z;rw [Qh5] at z;have c:p.1=0:=by{rcases Qp3.1 z.1 with e|e;{exact ş.1 ω};exact Å e p.2.den_nz};have d:p.2=0:=by{rcases Qp3.1 z.2 with e|e;{exact ş.1 ω};exact Å e p.1.den_nz};unfold ax.nz at h;rcases h with h|h;{exact h c};exact h d};have d0:((p.1.den*p.2.den:Nat):Rat)>0:=by{exact_mod_cast Qg2 a};have g:(((Nat.gcd (p.1.num.natAbs*p.2.den) (p.2.num.natAbs*p.1.den):Nat):Int):Rat)>0:=by{exact_mod_cast b};show mkRat _ _>0;generalize mkRat ((Nat.gcd (p.1.num.natAbs*p.2.den) (p.2.num.natAbs*p.1.den):Nat):Int) (p.1.den*p.2.den)=q at *;by_cases f:q>0;{exact f};{have:=ax.mn (show -q≥0 by grind) (show ((p.1.den*p.2.den:Nat):Rat)≥0 by grind);grind}
theorem La {p:Rat×Rat}(h:ax.nz p):∃c:Rat,c>0/\eN p=(c*p.1,c*p.2):=
 ⟨(eG p.1 p.2)⁻¹,Qt9.2 (TS h),Prod.ext (Wq4 ..) (Wq4 ..)⟩
theorem WC {v:Rat×Rat}(h:ax.nz v):¬ax.fg v (-v.1,-v.2)=0:=by rw [ax.iN];rintro ⟨e,-⟩;unfold ax.nz at h;(rcases ax.fu v with ⟨b,a⟩|⟨b,a⟩|⟨b,a⟩<;>rcases ax.fu (-v.1,-v.2) with ⟨g1,g2⟩|⟨g1,g2⟩|⟨g1,g2⟩<;>first|omega|skip);{unfold ax.up at a g2;dsimp only at g2;grind};{unfold ax.dn at a g2;dsimp only at g2;grind};grind
theorem vJ {u v:Rat×Rat}(h:ax.fg u v=0):ax.fg v u=0:=by rw [ax.iN] at *;have:=ax.tj u v;exact ⟨h.1.symm,χ⟩
theorem Xq {p:Rat×Rat}(h:ax.nz p):ax.half p≠0:=by rcases ax.fu p with ⟨e,-⟩|⟨e,-⟩|⟨-,a,b⟩;{omega};{omega};unfold ax.nz at h;rcases h with h|h;{exact Å a h};exact Å b h
theorem inv_mk {g d:Rat}(h:g≠0)(u:d≠0):d*g⁻¹=(g/d)⁻¹:=by have e:(g/d)*(d*g⁻¹)=1:=χ;have n:g/d≠0:=λn=>by{rw [n,Rat.zero_mul] at e;grind};grind
theorem Is {q:Rat}{G:Nat}(u:q*(((d:Nat):Int):Rat)=(z:Rat))(y:G∣z.natAbs)(D:0<G):(((z/(G:Int):Int)):Rat)=((((d:Nat):Int):Rat)*((((G:Nat):Int):Rat))⁻¹)*q:=by have a:(((G:Nat):Int):Rat)≠0:=by{exact_mod_cast (by omega:(G:Int)≠0)};have b:(z/(G:Int))*(G:Int)=z:=Int.ediv_mul_cancel (Wy6.2 y);have c:(((z/(G:Int):Int)):Rat)*(((G:Nat):Int):Rat)=(z:Rat):=by{exact_mod_cast b};have f:=ax.inv_mul a (((z/(G:Int):Int)):Rat);have e:(((z/(G:Int):Int)):Rat)*(((G:Nat):Int):Rat)*((((G:Nat):Int):Rat))⁻¹=(((z/(G:Int):Int)):Rat):=χ;rw [<-e,c,<-u];grind
theorem vT {p:Rat×Rat}(h:RP V v p.1 p.2)(hn:ax.nz p)(s1:Sz k p.1)(s2:Sz k p.2)(hk0:0<k)(hk:4*k+4<2^38:=by omega):À 50 #[v] V λr W=>∃c:Rat,c=(eG p.1 p.2)⁻¹/\c>0/\RP W r (c*p.1) (c*p.2)/\Sz (k+k) (c*p.1)/\Sz (k+k) (c*p.2):=by have h0:=h;obtain ⟨_,_,_,_,_,_,_,_,_,_,_,_,rfl,K,L⟩:=h;refine vA V _ λV1 M=>(pg (h0.le M)).s ?_;rintro r V2 l2 rfl;have N:=M.m l2;refine ⟨_,rfl,λe=>Å (by simpa using e) (Xq hn),λ_ V4 O=>(cZ p.2 _ (RQ.den (L.le (N.m O)))).s ?_⟩;rintro r V5 l5 ⟨d1,d2,d3,rfl,gd⟩;refine ⟨_,_,_,rfl,λV6 P=>(di false (gd.le P)).s ?_⟩;rintro r V7 l7 u;rw [Ã φ] at u;have w:=u;obtain ⟨_,_,_,rfl,-⟩:=u;have i:=N.m (O.m (l5.m (P.m l7)));have n1:=af s1.1;have n2:=af s2.1;have m1:=af s1.2;have m2:=af s2.2;refine qyK ⟨rfl,λV8 x=>(BX (RQ.int (K.le (i.m x))) (w.le x) (by rw [ē];omega)).s ?_⟩;rintro r V9 l9 Q;have y:=Q;obtain ⟨_,_,_,rfl,-⟩:=Q;have j:=i.m (x.m l9);refine qyK ⟨rfl,λeV l=>(cZ p.1 _ (RQ.den (K.le (j.m l)))).s ?_⟩;rintro r eW cU ⟨f1,f2,f3,rfl,gf⟩;refine ⟨_,_,_,rfl,λgC R=>(di false (gf.le R)).s ?_⟩;rintro r iI dS A;rw [Ã φ] at A;have Xm:=A;obtain ⟨_,_,_,rfl,-⟩:=A;have b:=l.m (cU.m (R.m dS));refine qyK ⟨rfl,λkK B=>(BX (RQ.int (L.le (j.m (b.m B)))) (Xm.le B) (by rw [ē];omega)).s ?_⟩;rintro r ke fB S;have C:=S;obtain ⟨_,_,_,rfl,-⟩:=S;have f:=b.m (B.m fB);have ex:=j8 p.1 p.2.den;have E:=j8 p.2 p.1.den;have F:(p.1.num*(p.2.den:Int)).natAbs<2^(k+k):=by{rw [Ĭ,ē];exact bX s1.1 s2.2};have g:(p.2.num*(p.1.den:Int)).natAbs<2^(k+k):=by{rw [Ĭ,ē];exact bX s2.1 s1.2};have m:(p.1.num*(p.2.den:Int)).natAbs≠0\/(p.2.num*(p.1.den:Int)).natAbs≠0:=by{unfold ax.nz at hn;rcases hn with hn|hn;{left;rw [Ĭ,ē];exact Ņ (λe=>hn (ş.1 ω)) p.2.den_nz};right;rw [Ĭ,ē];exact Ņ (λe=>hn (ş.1 ω)) p.1.den_nz};rw [Ľ p.2.den p.1.den] at E;have eg:eG p.1 p.2=mkRat ((Nat.gcd (p.1.num*(p.2.den:Int)).natAbs (p.2.num*(p.1.den:Int)).natAbs:Nat):Int) (p.1.den*p.2.den):=by{unfold eG;rw [Ĭ,Ĭ,ē,ē]};generalize p.1.num*(p.2.den:Int)=X at *;generalize p.2.num*(p.1.den:Int)=Y at *;have hD:0<p.1.den*p.2.den:=Qg2 (Ņ p.1.den_nz p.2.den_nz);generalize p.1.den*p.2.den=D at *;obtain ⟨ix,rx⟩:=y.inv;obtain ⟨iy,T⟩:=C.inv;have nx:=af F;have ny:=af g;refine qyK ⟨rfl,λkf o=>(kM (rx.le (f.m o)) (T.le o) ω).s ?_⟩;rintro r lu U ⟨g1,g2,g3,rfl,W⟩;have q:Nat.gcd X.natAbs Y.natAbs∣X.natAbs:=Ŋ _ _;have s:Nat.gcd X.natAbs Y.natAbs∣Y.natAbs:=ŧ _ _;have a:0<Nat.gcd X.natAbs Y.natAbs:=Qg2 λe=>by{rw [Qh5] at e;rcases m with h|h;{exact h e.1};exact h e.2};have Gl:(ah (Nat.gcd X.natAbs Y.natAbs)).length<=k+k:=by{apply af;rcases m with h|h;{exact ň (Qr0 ω q) F};exact ň (Qr0 ω s) g};have sx:=rB a q;have sy:=rB a s;generalize Nat.gcd X.natAbs Y.natAbs=G at *;have n:=f.m (o.m U);refine ⟨_,_,_,rfl,λmD t=>(dY (rx.le (n.m t)) (W.le t) ω ω a).s ?_⟩;rintro r nf Z ⟨_,_,_,_,_,_,rfl,H,-⟩;refine qyJ ⟨rfl,λkg I=>(dY (T.le (o.m (U.m (t.m (Z.m I))))) (W.le (t.m (Z.m I))) ω ω a).s ?_⟩;rintro r qC nQ ⟨_,_,_,_,_,_,rfl,J,-⟩;refine qyJ ⟨rfl,λqN lZ=>(di _ (H.le (I.m (nQ.m lZ)))).s ?_⟩;rw [ix,sx];rintro r qD l_ gA;have a0:=gA;obtain ⟨_,_,_,rfl,ra⟩:=gA;refine qyK ⟨rfl,λAa nt=>(di _ (J.le (lZ.m (l_.m nt)))).s ?_⟩;rw [iy,sy];rintro r A8 uV gB;obtain ⟨_,_,_,rfl,rb⟩:=gB;refine qyK ⟨rfl,λMD Bj=>⟨(((D:Nat):Int):Rat)*((((G:Nat):Int):Rat))⁻¹,?_,?_,?_,?_,?_⟩⟩;{have d0:(((D:Nat):Int):Rat)≠0:=by{exact_mod_cast (by omega:D≠0)};have g0:(((G:Nat):Int):Rat)≠0:=by{exact_mod_cast (by omega:G≠0)};rw [eg,Rat.mkRat_eq_div];exact inv_mk g0 d0};{refine ax.mp (by exact_mod_cast hD) (Qt9.2 (by exact_mod_cast a))};{rw [<-Is ex q a,<-Is E s a];exact qxJ ⟨rfl,qo (z:=X/(G:Int)) (d:=1) rfl rfl (ra.le (nt.m (uV.m Bj))) RD.nil rfl,qo (z:=Y/(G:Int)) (d:=1) rfl rfl (rb.le Bj) RD.nil rfl⟩};{rw [<-Is ex q a];exact yS (ň (Wz3 ..) F)};rw [<-Is E s a];exact yS (ň (Wz3 ..) g)
def LL:L3:=(0,1,0)
theorem LL_ok:cq LL=true:=φ
theorem Dt (k:Nat)(u:k≠0)(h:z.natAbs<=1):z.natAbs<2^k:=ň h (Qf1 u)
theorem ZZ (k:Nat)(u:k≠0):LL.1.natAbs<2^k/\LL.2.1.natAbs<2^k/\LL.2.2.natAbs<2^k:=⟨Dt k u φ,Dt k u φ,Dt k u φ⟩
theorem SB:Bd LL:=ZZ 1000 φ
theorem JE {a b c:Int}(h:RL V v a b c):∃(b1:md)(u:OA)(y c1:Nat)(D:md)(E:OA)(F M:Nat)(N:md)(O:OA)(Z c3:Nat),v=dB #[gF b1,yD u y c1,gF D,yD E F M,gF N,yD O Z c3]:=by obtain ⟨p,n,s,d,f,g,q,m,e,rfl,-⟩:=h;grind
theorem HL {u:un}(y:RP V u ((0:Int):Rat) ((0:Int):Rat))(D:RP V w ((1:Int):Rat) ((0:Int):Rat)):À 55 #[u,w] V λr W=>∃l,r=ê #[l,gF true]/\RL W l LL.1 LL.2.1 LL.2.2:=by have a:Sz 1 ((0:Int):Rat):=by{unfold Sz;decide};refine (kj y D a a Oo a ω).s ?_;have b:(qt ((0:Int):Rat) ((0:Int):Rat) ((1:Int):Rat) ((0:Int):Rat)).1.num=0:=κ;have c:(qt ((0:Int):Rat) ((0:Int):Rat) ((1:Int):Rat) ((0:Int):Rat)).2.1.num=1:=κ;have d:(qt ((0:Int):Rat) ((0:Int):Rat) ((1:Int):Rat) ((0:Int):Rat)).2.2.num=0:=κ;rw [b,c,d];rintro r V' _ ⟨-,h⟩;exact h ω
theorem wJ {p:L3->Prop}:∀{t:Tr} {k:Nat},t.dU p->∀x∈wr k t,p x.ln
 | .leaf _,_,_,x,h=>by simp [wr] at h
 | .node l a b,k,⟨u,y,D⟩,x,h=>by
  simp only [wr,í,ü] at h;rcases h with rfl|h|h
  ·exact u
  ·exact wJ y x h
  ·exact wJ D x h
theorem Vk {t:Tr}(h:RW V p t):p.isSome=true:=by (cases t with|leaf i=>{obtain ⟨b,a,c,d,e,f,g,j,k,rfl,m⟩:=h;rfl}|node l x y=>{obtain ⟨b,i,n,o,q,r,s,u,v,a,w,z,A,c,pl,B,rfl,-⟩:=h;rfl})
theorem WV:∀(t:Tr) {V:ut} {p:OA} {lb:Nat} {n c:Nat} {vs:zA un} {l:zA Nd},RW V p t->t.dU kh->n=l.length ->(vs≠[]->V.w.heap[lb]?=some (.cells vs.toArray 194 (0,0)))->(vs≠[]->V.X lb)->n<=c->c*8<=vs.length->NR V vs l->n+t.size<=1000000 ->À 46 #[Õ p,yD (mA lb c) n c] V λr V'=>∃(bm:Nat)(vm:zA un)(c':Nat),(vm≠[]->V'.w.heap[bm]?=some (.cells vm.toArray 194 (0,0)))/\(vm≠[]->V.w.heap.size<=bm\/(vs≠[]/\bm=lb))/\r=ê #[yD (mA bm c') (n+t.size) c',Ô .i64 (rt n t)]/\n+t.size<=c'/\c'*8<=vm.length/\NR (V'.bq (vm≠[]) bm) vm (l++wr n t)/\(t.size=0->c'=c):=by
 intro t
 induction t with
 | leaf i=>
  intro V p lb n c vs l F _ G a q s z H I;have f:=Vk F;obtain ⟨b,U,W,c4,c5,c6,c7,c8,c9,rfl,A⟩:=F
  have fin:∀(D:ut)(k:Nat)(x:Int),V.Le (D.bq (vs≠[]) k)->(vs≠[]->D.w.heap[k]?=some (.cells vs.toArray 194 (0,0))) ->
    (vs≠[]->V.w.heap.size<=k\/(vs≠[]/\k=lb)\/False)->x=rt n (.leaf i)->∃(bm:Nat)(vm:zA un)(c':Nat),(vm≠[]->D.w.heap[bm]?=some (.cells vm.toArray 194 (0,0)))/\(vm≠[]->V.w.heap.size<=bm\/(vs≠[]/\bm=lb)) /\
   Value.tuple #[yD (mA k c) n c,Ô .i64 x]=ê #[yD (mA bm c') (n+(Tr.leaf i).size) c',Ô .i64 (rt n (.leaf i))]/\n+(Tr.leaf i).size<=c'/\c'*8<=vm.length/\NR (D.bq (vm≠[]) bm) vm (l++wr n (.leaf i))/\((Tr.leaf i).size=0->c'=c):=by
   intro D k x hle e3 e4 Y;refine ⟨k,vs,c,e3,λh=>?_,by rw [Y];rfl,s,z,?_,λ_=>rfl⟩
   ·rcases e4 h with h|h|h;{exact .inl h};{exact .inr h};exact h.elim
   ·simp only [wr,ý];exact H.le hle
  refine sS _ lb n c vs V _ a q ⟨f,f,true,Ao A 0 rfl,λ_=>⟨f,f,i,Ao A 1 rfl,λZ V1 k J E a3=>fin V1 k _ J E a3 (by subst Z;rfl),λZ V2 k J E a3=>fin V2 k _ J E a3 (by subst Z;rfl)⟩,λh=>by cases h⟩
 | node ln x y Zl ihy=>
  intro V p lb n c vs l F K G a q s z H I;have f:=Vk F;simp only [Tr.size] at I;obtain ⟨⟨-,a0⟩,a4,a8⟩:=K;obtain ⟨b,i,b1,p1,n1,c1,b2,p2,n2,U,b3,p3,n3,W,pl,pr,rfl,A,hl,Y,hy⟩:=F
  have g:∀j v,([gF b1,yD p1 n1 c1,gF b2,yD p2 n2 U,gF b3,yD p3 n3 W]:zA un)[j]?=some v->V.at (((⟨b,2,none⟩:Addr)).add j) v:=by
   intro j v a
   have L:j<6:=by rcases ę j 6 with L|L;{exact L};rw [Ū (by simpa using L)] at a;cases a
   have h2:(⟨b,2,none⟩:Addr)=(⟨b,0,none⟩:Addr).add 2:=by rw [add_zero']
   rw [h2,BE,add_zero'];refine dK (xs:=[_,_,_,_,_,_,_,_,_,_]) A ?_
   match j,L,a with
   | 0,_,a=>exact a
   | 1,_,a=>exact a
   | 2,_,a=>exact a
   | 3,_,a=>exact a
   | 4,_,a=>exact a
   | 5,_,a=>exact a
  obtain ⟨t1,t2,t3⟩:=a0.ah;refine sS _ lb n c vs V _ a q ⟨f,f,false,Ao A 0 rfl,ű,λ_=>⟨f,f,b1,p1,n1,c1,b2,p2,n2,U,b3,p3,n3,W,⟨b,2,none⟩,by simp [ae,add_zero'],g 0 _ rfl,g 1 _ rfl,g 2 _ rfl,g 3 _ rfl,g 4 _ rfl,g 5 _ rfl,λD l3=>(zz ra ω ω).s ?_⟩⟩;rintro r V4 l4 M;obtain ⟨d1,q1,m1,e1,d2,q2,m2,e2,d3,q3,m3,e3,rfl⟩:=xQ M;have Wl:=l3.m l4;refine qxJ ⟨rfl,ω,s,z,rfl,by intro v a;simp at a;rcases a with rfl|rfl|rfl|rfl|rfl|rfl|rfl|rfl<;>rfl,λsp c' g1 g2=>?_⟩;refine ⟨f,f,pl,Ao (Wl _ _ A) 8 rfl,λB l5 N f1 f2=>?_⟩;have d:=NR.push (sp:=sp) (x:=0) (y:=0) ra ω (ln:=ln) M;rw [<-G] at d;generalize hrow:vs.take (n*8)++([_,_,_,_,_,_,_,_]:zA un)++sp=row at f1 f2 d ⊢
  have O:row.length=n*8+8+sp.length:=by rw [<-hrow];simp only [ï,ì,Ĉ,ĺ];omega
  have P:row≠[]:=λe=>by rw [e] at O;simp only [ĺ] at O;omega
  have C:=Wl.m l5;refine (Zl (V:=B.ao [vb row B.w.heap.size N]) (p:=pl) (lb:=N) (n:=n+1) (c:=c') (vs:=row) (l:=l++[⟨ln,0,0⟩]) (RW.le (V:=V) (V':=B.ao _) (λb o h=>C b o h) Y) a4 (by simp [G]) f1 (λh=>⟨by simp [mY h],f2 h⟩) g1 ω (NR.le (V:=V4) (V':=B.ao _) d λb o h=>l5 b o h) ω).s ?_;rintro r V6 l6 ⟨bm,vm,a9,J,E,rfl,a5,a6,a7,-⟩;have Sv:B.Le V6:=λb o h=>l6 b o h;have Q:=rJ (V':=B) Sv (Ó.Le.refl B) λh=>(E h).imp id λh'=>by rw [h'.2];exact f2 P
  refine ⟨bm,vm,J,E,none,_,_,_,rfl,f,f,pr,Ao ((C.m Q) _ _ A) 9 rfl,λS l7 R d1 d2=>?_⟩;have b0:vm≠[]:=λe=>by rw [e] at a6;simp at a6;omega
  refine (ihy (V:=S.ao [vb vm S.w.heap.size R]) (p:=pr) (lb:=R) (n:=n+1+x.size) (c:=a9) (vs:=vm) (l:=l++[⟨ln,0,0⟩]++wr (n+1) x) (RW.le (V:=V) (V':=S.ao _) (λb o h=>((C.m Q).m l7) b o h) hy) a8 (by simp [G,jH];omega) d1 (λh=>⟨by simp [mY h],d2 h⟩) a5 a6 (NR.le (V:=V6.bq (vm≠[]) bm) (V':=S.ao _) a7 λb o h=>l7 b o h) ω).s ?_;rintro r V8 l8 ⟨bn,T,b4,b8,b9,rfl,b5,b6,b7,-⟩;have hlen:n*8+8<=T.length:=ω
  simp only [ß];refine ⟨bn,T,b8,b9,none,_,_,_,rfl,Ź,b5,ω,Ź,b5,by rw [Qf6];omega,λV9 O5 u1 u4 u5=>?_⟩;have m:=NR.kids (V:=V8.bq (T≠[]) bn) (l:=l) (r:=wr (n+1) x++wr (n+1+x.size) y) (ln:=ln) (u:=0) (v:=0) (x:=rt (n+1) x) (y:=rt (n+1+x.size) y) (by simpa using b7);rw [<-G] at m;refine ⟨O5,_,b4,u4,λh=>?_,by rw [show n+(Tr.node ln x y).size=n+1+x.size+y.size from by simp only [Tr.size];omega];rfl,by simp only [Tr.size];omega,by simp only [Qf6];omega,?_,λh=>by simp only [Tr.size] at h;omega⟩
  ·rcases u5 h with h|h|h;{exact .inl h};{exact .inr h};exact h.elim
  ·simp only [wr];exact NR.le (V:=V8.bq (T≠[]) bn) m λb o h=>u1 b o h
theorem Cb {t:Tr}(h:RW V p t)(E:t.dU kh)(F:t.size<=1000000):À 11 #[Õ p] V λr W=>AT W r (rt 0 t) (wr 0 t)/\(t.size=0->r=dB #[Ô .i64 (rt 0 t),yD none 0 0]):=by refine Ek V _ λg j=>?_;refine aa.monoH (WV t (V:=g) (lb:=0) (vs:=[]) (l:=[]) (n:=0) (c:=0) (h.le j) E rfl (λh=>Å rfl h) (λh=>Å rfl h) (Ú _) (Ú _) (λi d k=>by simp at k) ω) ?_;rintro r V2 B C ⟨m,vm,q,s,u,rfl,a,D,e,v⟩;refine ⟨m,vm,s,λh=>(u h).imp id λw=>Å rfl w.1,none,_,_,_,rfl,λx y z A=>?_⟩;simp only [Ŝ,č] at e a ⊢;have:=NS.ofRow (V:=x) (b:=z) (c:=q) (vm:=vm) (l:=wr 0 t) (ty:=194) A (by rw [jH];exact a) (e.le λb o h=>y b o h);rw [jH] at this;refine ⟨⟨_,_,_,rfl,this⟩,λf=>?_⟩;rw [v f,f];rfl
theorem ui {V:ut}{p:OA}{t:Tr}(h:RW V p t)(u:t.dU kh)(y:t.size<=1000000:=by omega):À 11 #[Õ p] V λr W=>AT W r (rt 0 t) (wr 0 t):=(Cb h u y).s λ_ _ _ h=>h.1
end Go.Proofs.Tryz
