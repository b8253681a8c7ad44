import Derived.Test.YtapnijmlbakblaaGreatDoorT15
import Derived.Test.YtapnijmlbakblaaGreatDoorT9
import Derived.Test.YtapnijmlbakblaaGreatDoorT11
import Derived.Test.YtapnijmlbakblaaGreatDoorT6
set_option linter.unusedVariables false
open Go.IntKind (i64 u64 u32)
namespace Go.Proofs.Tryz
open Go.Eng Go.Big
theorem Gu.ex {V:View}{v:Value}{l:L3}{s:Sp}(h:lT V v l s):∃(x1 x2:Int)(p:OA)(y1 y2:Int)(q:OA)(z1 z2:Int)(r:OA)(u1 u2:Int)(t:OA)(w1 w2:Int)(o:OA),
 v=.agg #[.int .i64 x1,.int .i64 x2,.pointer p,.int .i64 y1,.int .i64 y2,.pointer q,.int .i64 z1,.int .i64 z2,.pointer r,.int .i64 u1,.int .i64 u2,.pointer t,.int .i64 w1,.int .i64 w2,.pointer o,.bool s.a,.bool s.b]:=by
 obtain ⟨_,_,_,_,_,_,_,_,_,_,_,_,_,_,_,e,-⟩:=h;exact ⟨_,_,_,_,_,_,_,_,_,_,_,_,_,_,_,e⟩
theorem dz {V:View}{v:Value}{l:L3}{s:Sp}(h:xi V v l s):∃b1 p1 n1 c1 b2 p2 n2 c2 b3 p3 n3 c3 b p n c p' n' c' d q m e q' m' e',
 v=.agg #[.bool b1,.slice p1 n1 c1,.bool b2,.slice p2 n2 c2,.bool b3,.slice p3 n3 c3,.bool b,.slice p n c,.slice p' n' c',.bool d,.slice q m e,.slice q' m' e',.bool s.a,.bool s.b]:=by
 obtain ⟨_,_,_,_,_,_,_,_,_,_,_,_,_,_,_,_,_,_,_,_,_,_,_,_,_,_,e,-⟩:=h;exact ⟨_,_,_,_,_,_,_,_,_,_,_,_,_,_,_,_,_,_,_,_,_,_,_,_,_,_,e⟩
theorem dp {V:View}{v:Value}{x y:Rat}(h:zM V v x y):∃b p n c p' n' c' d q m e q' m' e',v=.agg #[.bool b,.slice p n c,.slice p' n' c',.bool d,.slice q m e,.slice q' m' e']:=by
 obtain ⟨_,_,_,_,_,_,_,_,_,_,_,_,_,_,e,-⟩:=h;exact ⟨_,_,_,_,_,_,_,_,_,_,_,_,_,_,e⟩
theorem mq {V:View}{v:Value}{x y:Rat}(h:jS V v x y):∃(x1 x2:Int)(p:OA)(y1 y2:Int)(q:OA),v=.agg #[.int .i64 x1,.int .i64 x2,.pointer p,.int .i64 y1,.int .i64 y2,.pointer q]:=by
 obtain ⟨_,_,_,_,_,_,e,-⟩:=h;exact ⟨_,_,_,_,_,_,e⟩
def Px (v:Value):Prop:=v=.agg #[.bool false,.slice none 0 0,.bool false,.slice none 0 0,.bool false,.slice none 0 0,.bool false,.slice none 0 0,.slice none 0 0,.bool false,.slice none 0 0,.slice none 0 0,.bool false,.bool false]
def H2 (v:Value):Prop:=v=.agg #[.bool false,.slice none 0 0,.slice none 0 0,.bool false,.slice none 0 0,.slice none 0 0]
theorem DZ {V:View}{v:Value}{l:L3}{s:Sp}(h:xi V v l s)(ho:HS l s){k:Nat}(sl:eh k l)(hs:s.sz k)(hk:4*k+4<274877906944) :
  ae prog 56 #[v] V fun r V'=>r=.bool true:=by
 have a:=h;obtain ⟨_,_,_,_,_,_,_,_,_,_,_,_,_,_,_,_,_,_,_,_,_,_,_,_,_,_,rfl⟩:=dz h;refine qz _ _ _ _ _ _ _ _ _ _ _ _ _ _ _ _ _ _ _ _ _ _ _ _ _ _ _ _ V _ fun c b=>(j8 (a.le b) ho sl hs (by omega)).mono ?_;rintro r V2 d ⟨w,rfl,g⟩;obtain ⟨_,_,_,_,_,_,_,_,_,_,_,_,_,_,_,rfl⟩:=Gu.ex g;exact ⟨_,_,_,_,_,_,_,_,_,_,_,_,_,_,_,_,_,_,rfl,fun e f=>rfl⟩
theorem AY {px py qx qy:Rat}{k:Nat}(s1:Sz k px)(s2:Sz k py)(s3:Sz k qx)(s4:Sz k qy)(h:¬(px=qx/\py=qy)):(xG px py qx qy).sz (400*k+400):=by
 have sl:=nj s1 s2 s3 s4 h;exact ⟨Sz.mono (qm sl (Sz.mono s1 (by omega)) (Sz.mono s2 (by omega))) (by omega),Sz.mono (qm sl (Sz.mono s3 (by omega)) (Sz.mono s4 (by omega))) (by omega)⟩
theorem zY {V:View}{u v:Value}{px py qx qy:Rat}(hp:zM V u px py)(hq:zM V v qx qy){k:Nat}(s1:Sz k px)(s2:Sz k py)(s3:Sz k qx)(s4:Sz k qy)(hk:2000*k+2000<274877906944) :
  ae prog 53 #[u,v] V fun r V'=>(px=qx/\py=qy->∃l,r=.tuple #[l,.bool false]/\Px l)/\(¬(px=qx/\py=qy)->∃l,r=.tuple #[l,.bool true]/\xi V' l (gK px py qx qy) (xG px py qx qy)):=by
 have a:=hp;have b:=hq;obtain ⟨_,_,_,_,_,_,_,_,_,_,_,_,_,_,rfl⟩:=dp hp;obtain ⟨_,_,_,_,_,_,_,_,_,_,_,_,_,_,rfl⟩:=dp hq;refine lu _ _ _ _ _ _ _ _ _ _ _ _ _ _ _ _ _ _ _ _ _ _ _ _ _ _ _ _ V _ fun y i=>(fP (a.le i) s1 s2 (by omega)).mono ?_;rintro r V2 p j;have c:=j;obtain ⟨_,_,_,_,_,_,rfl⟩:=mq j;refine ⟨_,_,_,_,_,_,rfl,fun z m=>(fP (b.le (i.trans (p.trans m))) s3 s4 (by omega)).mono ?_⟩;rintro r A q n;have d:=n;obtain ⟨_,_,_,_,_,_,rfl⟩:=mq n;refine ⟨_,_,_,_,_,_,rfl,fun B o=>(xn (c.le (m.trans (q.trans o))) (d.le o) s1 s2 s3 s4 (by omega)).mono ?_⟩;rintro r C D ⟨s,t⟩;by_cases h:px=qx/\py=qy
 ·obtain ⟨l,rfl,g⟩:=s h;obtain ⟨_,_,_,_,_,_,_,_,_,_,_,_,_,_,_,rfl⟩:=Gu.ex g;exact ⟨_,_,_,_,_,_,_,_,_,_,_,_,_,_,_,_,_,_,rfl,fun _ E F=>⟨fun _=>⟨_,rfl,rfl⟩,fun h'=>absurd h h'⟩,(fun h=>nomatch h)⟩
 ·obtain ⟨l,rfl,g⟩:=t h;have w:=g;have sl:=nj s1 s2 s3 s4 h;have ss:=AY s1 s2 s3 s4 h;obtain ⟨_,_,_,_,_,_,_,_,_,_,_,_,_,_,_,rfl⟩:=Gu.ex g;refine ⟨_,_,_,_,_,_,_,_,_,_,_,_,_,_,_,_,_,_,rfl,(fun h=>nomatch h),fun _ G x=>(BJ (w.le x) (k:=400*k+400) ⟨Sz.mono sl.1 (by omega),Sz.mono sl.2.1 (by omega),Sz.mono sl.2.2 (by omega)⟩ ss (by omega)).mono ?_⟩;rintro r H I f;have f0:=f;obtain ⟨_,_,_,_,_,_,_,_,_,_,_,_,_,_,_,_,_,_,_,_,_,_,_,_,_,_,rfl⟩:=dz f;exact ⟨_,_,_,_,_,_,_,_,_,_,_,_,_,_,_,_,_,_,_,_,_,_,_,_,_,_,_,_,rfl,fun J e=>⟨fun h'=>absurd h' h,fun _=>⟨_,rfl,f0.le e⟩⟩⟩
theorem GP {V:View}{v:Value}{l:L3}{s:Sp}(h:xi V v l s)(ho:HS l s){k:Nat}(sl:eh k l)(hs:s.sz k)(hk:20*k+20<274877906944) :
  ae prog 115 #[v,.func (.func 116) #[] #[]] V fun r V'=>∃w,r=.tuple #[w,.bool (!s.b)]/\(s.b=false->zM V' w (BB l s.hi) (BC l s.hi))/\(s.b=true->H2 w):=by
 have d:=h;obtain ⟨_,_,_,_,_,_,_,_,_,_,_,_,_,_,_,_,_,_,_,_,_,_,_,_,_,_,rfl⟩:=dz h;refine nF _ _ _ _ _ _ _ _ _ _ _ _ _ _ _ _ _ _ _ _ _ _ _ _ _ _ _ _ V _ fun q i=>(j8 (d.le i) ho sl hs (by omega)).mono ?_;rintro r V2 t ⟨w,rfl,g⟩;have j:=g;obtain ⟨_,_,_,_,_,_,_,_,_,_,_,_,_,_,_,rfl⟩:=Gu.ex g;refine ⟨_,_,_,_,_,_,_,_,_,_,_,_,_,_,_,_,_,_,rfl,(fun h=>nomatch h),fun _ u m=>(It (j.le m) sl hs (by omega)).mono ?_⟩;rintro r x y ⟨w,rfl,f⟩;have f0:=f;obtain ⟨_,_,_,_,_,_,rfl⟩:=mq f;refine ⟨_,_,_,_,_,_,_,rfl,fun c z A=>?_,fun c B n=>?_⟩
 ·have a:s.b=true:=by simpa using c
  rw [a];exact ⟨_,rfl,(fun h=>nomatch h),fun _=>rfl⟩
 ·have a:s.b=false:=by simpa using c
  rw [a] at f0;refine (pD (f0.le n) (k:=20*k+19) (O6 sl hs.2) (O7 sl hs.2) (by omega)).mono ?_;rintro r C D e;have o:=e;obtain ⟨_,_,_,_,_,_,_,_,_,_,_,_,_,_,rfl⟩:=dp e;exact ⟨_,_,_,_,_,_,_,_,_,_,_,_,_,_,rfl,fun E p=>⟨_,by rw [a];rfl,fun _=>o.le p,fun h=>by rw [a] at h;cases h⟩⟩
theorem G3 {V:View}{w:Value}{x y:Rat}{c:Bool}(h1:c=false->zM V w x y)(h2:c=true->H2 w):∃b p n c p' n' c' d q m e q' m' e',w=.agg #[.bool b,.slice p n c,.slice p' n' c',.bool d,.slice q m e,.slice q' m' e']:=by
 cases c with
 | false=>exact dp (h1 rfl)
 | true=>exact ⟨_,_,_,_,_,_,_,_,_,_,_,_,_,_,h2 rfl⟩
theorem P4 {V:View}{v:Value}{l:L3}{s:Sp}(h:xi V v l s)(ho:HS l s){k:Nat}(sl:eh k l)(hs:s.sz k)(hk:20*k+20<274877906944) :
  ae prog 55 #[v] V fun r V'=>∃w,r=.tuple #[w,.bool (!s.b)]/\(s.b=false->zM V' w (BB l s.hi) (BC l s.hi))/\(s.b=true->H2 w):=by
 have g:=h;obtain ⟨_,_,_,_,_,_,_,_,_,_,_,_,_,_,_,_,_,_,_,_,_,_,_,_,_,_,rfl⟩:=dz h;refine tB _ _ _ _ _ _ _ _ _ _ _ _ _ _ _ _ _ _ _ _ _ _ _ _ _ _ _ _ V _ fun m i=>(GP (g.le i) ho sl hs hk).mono ?_;rintro r V2 n ⟨w,rfl,d,f⟩;have a:=d;have c:=f;obtain ⟨_,_,_,_,_,_,_,_,_,_,_,_,_,_,rfl⟩:=G3 d f;exact ⟨_,_,_,_,_,_,_,_,_,_,_,_,_,_,_,rfl,fun o j=>⟨_,rfl,fun e=>(a e).le j,c⟩⟩
theorem ou {V:View}(x y:Int)(h0:-1000<=x)(h1:x<=1000)(h2:-1000<=y)(h3:y<=1000) :
  ae prog 54 #[.int .i64 x,.int .i64 y] V fun r V'=>zM V' r (x:Rat) (y:Rat):=by
 have g:Sz 10 (x:Rat):=oM (by omega) (by omega);have h:Sz 10 (y:Rat):=oM (by omega) (by omega);refine qD x y V _ fun m n=>(iF x (by omega) (by omega)).mono ?_;rintro r V2 o c;have a:=c;obtain ⟨_,_,_,rfl⟩:=c.shape;refine ⟨_,_,_,rfl,fun p i=>(iF y (by omega) (by omega)).mono ?_⟩;rintro r q j d;have b:=d;obtain ⟨_,_,_,rfl⟩:=d.shape;refine ⟨_,_,_,rfl,fun s f=>(pD ⟨_,_,_,_,_,_,rfl,a.le (i.trans (j.trans f)),b.le f⟩ g h (by omega)).mono ?_⟩;rintro r t u e;have k:=e;obtain ⟨_,_,_,_,_,_,_,_,_,_,_,_,_,_,rfl⟩:=dp e;exact ⟨_,_,_,_,_,_,_,_,_,_,_,_,_,_,rfl,fun v l=>k.le l⟩
theorem Ad {V:View}{v w:Value}{x y x' y':Rat}(hp:zM V v x y)(hq:zM V w x' y'){k:Nat}(s1:Sz k x)(s2:Sz k y)(s3:Sz k x')(s4:Sz k y')(hk:2*k<1099511627776) :
  ae prog 57 #[v,w] V fun r V'=>r=.bool (decide (x=x'/\y=y')):=by
 have a:=hp;have b:=hq;obtain ⟨_,_,_,_,_,_,_,_,_,_,_,_,_,_,rfl⟩:=dp hp;obtain ⟨_,_,_,_,_,_,_,_,_,_,_,_,_,_,rfl⟩:=dp hq;refine yk _ _ _ _ _ _ _ _ _ _ _ _ _ _ _ _ _ _ _ _ _ _ _ _ _ _ _ _ V _ fun m e=>(fP (a.le e) s1 s2 (by omega)).mono ?_;rintro r V2 j f;have c:=f;obtain ⟨_,_,_,_,_,_,rfl⟩:=mq f;refine ⟨_,_,_,_,_,_,rfl,fun n g=>(fP (b.le (e.trans (j.trans g))) s3 s4 (by omega)).mono ?_⟩;rintro r o l h;have d:=h;obtain ⟨_,_,_,_,_,_,rfl⟩:=mq h;refine ⟨_,_,_,_,_,_,rfl,fun p i=>(uI (c.le (g.trans (l.trans i))) (d.le i) s1 s2 s3 s4 hk).mono ?_⟩;rintro r q s rfl;exact ⟨_,rfl,fun t u=>rfl⟩
theorem sY (x y:Rat):0<=(cJ x y).num:=by
 unfold cJ;rw [Rat.num_mkRat];split
 ·omega
 ·exact Int.ediv_nonneg (Int.natCast_nonneg _) (Int.natCast_nonneg _)
theorem Kb {px py qx qy:Rat}(h:¬(px=qx/\py=qy)):iT (gK px py qx qy) qx qy-iT (gK px py qx qy) px py=cJ (cJ (-(qy-py)) (qx-px)) (-(-(qy-py)*px+(qx-px)*py)):=by
 obtain ⟨f,d,e,-⟩:=kn (a:=-(qy-py)) (b:=qx-px) (c:=-(-(qy-py)*px+(qx-px)*py)) (nk h);have j:=(Gn h).norm;change _=((gK px py qx qy).1:Rat) at d;change _=((gK px py qx qy).2.1:Rat) at e;generalize cJ (cJ (-(qy-py)) (qx-px)) (-(-(qy-py)*px+(qx-px)*py))=g at *;have m:=Rat.mul_inv_cancel g f;have k:=Rat.mul_inv_cancel _ j;unfold iT
 have l:fD (gK px py qx qy)=((qy-py)*(qy-py)+(qx-px)*(qx-px))*(g⁻¹*g⁻¹):=by
  unfold fD;rw [←d,←e];grind
 rw [←d,←e];generalize (fD (gK px py qx qy))⁻¹=N at *;generalize g⁻¹=i at *;rw [l] at k;grind
theorem Mr {px py qx qy:Rat}(h:¬(px=qx/\py=qy)):(xG px py qx qy).emp=false:=by
 obtain ⟨d,-⟩:=kn (a:=-(qy-py)) (b:=qx-px) (c:=-(-(qy-py)*px+(qx-px)*py)) (nk h);have f:=Kb h;have i:=sY (cJ (-(qy-py)) (qx-px)) (-(-(qy-py)*px+(qx-px)*py));unfold xG Sp.emp;dsimp only;generalize cJ (cJ (-(qy-py)) (qx-px)) (-(-(qy-py)*px+(qx-px)*py))=g at *
 have e:cmpQ (iT (gK px py qx qy) px py) (iT (gK px py qx qy) qx qy)=- g.num.sign:=by
  rw [cmpQ_swap,←f];rfl
 rw [e];have j:g.num≠0:=CC d;have:g.num.sign=1:=Int.sign_eq_one_of_pos (by omega);rw [this];rfl
theorem Kc {px py qx qy:Rat}(h:¬(px=qx/\py=qy)):HS (gK px py qx qy) (xG px py qx qy):=⟨JC h,⟨(fun h=>nomatch h),(fun h=>nomatch h)⟩,Mr h⟩
theorem O1:∀i:Fin 6,(mkRat ((i.1:Int)+1) 2).num.sign=1/\Sz 10 (mkRat ((i.1:Int)+1) 2):=by unfold Sz;decide +kernel
theorem SE (V:View):RQ V (.agg #[.bool false,.slice none 0 0,.slice none 0 0]) 0:=by have:=RQ.zero (V:=V);simpa using this
theorem O5 (k:Nat)(hk:0<k):Sz k (0:Rat):=⟨by show (0:Int).natAbs<_;exact Nat.lt_of_lt_of_le (by decide) (Nat.one_le_two_pow),Nat.one_lt_two_pow (by omega)⟩
theorem Af {V:View}:ae prog 75 #[] V fun r V'=>KI V' r ⟨0,0,true,true⟩:=
 ym V _ fun a b=>⟨_,_,_,_,_,_,_,_,_,_,_,_,_,_,rfl,SE _,SE _⟩
theorem C1 {V:View}{v:Value}{s:Sp}(h:KI V v s):∃b p n c p' n' c' d q m e q' m' e',v=.agg #[.bool b,.slice p n c,.slice p' n' c',.bool d,.slice q m e,.slice q' m' e',.bool s.a,.bool s.b]:=by
 obtain ⟨_,_,_,_,_,_,_,_,_,_,_,_,_,_,e,-⟩:=h;exact ⟨_,_,_,_,_,_,_,_,_,_,_,_,_,_,e⟩
theorem CZ {V:View}{v:Value}{l:L3}{s:Sp}(h:RF V v l s):∃b1 p1 n1 c1 b2 p2 n2 c2 b3 p3 n3 c3 b p n c p' n' c' d q m e q' m' e',
 v=.agg #[.bool b1,.slice p1 n1 c1,.bool b2,.slice p2 n2 c2,.bool b3,.slice p3 n3 c3,.bool b,.slice p n c,.slice p' n' c',.bool d,.slice q m e,.slice q' m' e',.bool s.a,.bool s.b]:=by
 obtain ⟨_,_,_,_,_,_,_,_,_,_,_,_,_,_,_,_,_,_,_,_,_,_,_,_,_,_,e,-⟩:=h;exact ⟨_,_,_,_,_,_,_,_,_,_,_,_,_,_,_,_,_,_,_,_,_,_,_,_,_,_,e⟩
theorem Yv {V:View}{tb:Nat}{p:OA}{n c:Nat}{at_:Int}(hr:Gz V p n)(hn:n<=400)(hw:lK V tb p n c at_)(hx:V.X tb)(h0:0<=at_) :
  ae prog 32 #[.pointer (some ⟨tb,0,none⟩)] V fun r V'=>∃(s:Sp)(at':Int),KI V' r s/\s.can/\s.emp=false/\s.sz 40/\0<=at'/\lK V' tb p n c at':=by
 refine tT tb p n c at_ V _ hw hx fun V1 w A e1 h1=>(Yu (V:=V1.ax [A]) (hr.le fun b o h=>w b o h) hn e1 ⟨by simp,h1⟩ h0).mono ?_;rintro r V2 Q ⟨d,M0,R,u,t1,B⟩;have j:=R;obtain ⟨qa,qb,qc,qd,qe,qf,rfl⟩:=R.shape;refine ⟨_,_,_,_,_,_,_,rfl,_,_,_,_,B,fun V3 C Yq e3 h3=>(lX (V:=V3.ax [Yq]) 6 (hr.le fun b o h=>C b o (Q b o (w b o h))) hn e3 ⟨by simp,h3⟩ t1 (by omega) (by omega)).mono ?_⟩;rintro r V4 S ⟨x,a0,rfl,x0,x1,t2,D⟩;obtain ⟨i,rfl⟩:∃i:Nat,x=i:=⟨x.toNat,by omega⟩;obtain ⟨T,E⟩:=O1 ⟨i,by omega⟩;dsimp only at T E;have w1:i64.wrap (1+(i:Int))=(i:Int)+1:=by rw [aw (by omega)];omega
 refine ⟨_,rfl,_,_,_,_,D,fun V5 U=>?_⟩;rw [w1];refine (oz ((i:Int)+1) 2 (by omega) (by omega) (by omega) (by omega)).mono ?_;generalize mkRat ((i:Int)+1) 2=q at *;rintro r V6 Y Z;have KO:=Z;obtain ⟨_,_,_,_,_,_,rfl⟩:=Z.shape;have Au:∀{F:View},V6.Le F->V2.Le F:=fun l b o h=>l b o (Y b o (U b o (S b o (C b o h))));refine ⟨_,_,_,_,_,_,_,rfl,fun F l=>(fS (j.le (Au l)) (KO.le l) u E (by omega)).mono ?_⟩;rintro r V8 l8 gh;have Wz:=gh;obtain ⟨ga,gb,gc,gd,ge,YM,rfl⟩:=gh.shape;have sh:Sz 21 (d+q):=u.add E;have I4:∀{v:View},V8.Le v->V.Le v:=fun m b o h=>m b o (l8 b o (l b o (Y b o (U b o (S b o (C b o (Q b o (w b o h))))))));refine ⟨_,_,_,_,_,_,_,rfl,fun v m S8 e9 h9=>(lX (V:=v.ax [S8]) 8 (hr.le fun b o h=>I4 m b o h) hn e9 ⟨by simp,h9⟩ t2 (by omega) (by omega)).mono ?_⟩;rintro r G t ⟨y,k,rfl,y0,y1,t3,H⟩;have I:∀{f:View},G.shut.Le f->V8.Le f:=fun g b o h=>g b o (t b o (m b o h));have Nm:∀{f:View},G.shut.Le f->V2.Le f:=fun g=>(Au l).trans (l8.trans (I g))
 have full:∀(f W:View),G.shut.Le f->f.Le W->∀a,0<=a->lK W tb p n c a->∃(s:Sp)(at':Int),KI W (.agg #[.bool (decide (d.num<0)),.slice qa qb qc,.slice qd qe qf,.bool (decide ((d+q).num<0)),.slice ga gb gc,.slice gd ge YM,.bool false,.bool false]) s/\s.can/\s.emp=false/\s.sz 40/\0<=at'/\lK W tb p n c at':=fun f W g lw a t4 e4=>
  ⟨⟨d,d+q,false,false⟩,a,⟨_,_,_,_,_,_,_,_,_,_,_,_,_,_,rfl,j.le ((Nm g).trans lw),Wz.le ((I g).trans lw)⟩,⟨(fun h=>nomatch h),(fun h=>nomatch h)⟩,by
   have e:cmpQ d (d+q)=- q.num.sign:=by
    rw [cmpQ_swap];unfold cmpQ;rw [show d+q-d=q from by grind]
   unfold Sp.emp;dsimp only;rw [e,T];rfl,⟨Sz.mono u (by omega),Sz.mono sh (by omega)⟩,t4,e4⟩
 refine ⟨_,rfl,_,_,_,_,H,fun _ f g J=>?_,fun _=>⟨fun _ jg cY K=>?_,fun _=>⟨fun _ ph cN S9 L Od=>(lX (V:=ph.ax [S9]) 4 (hr.le fun b o h=>cN b o (t b o (I4 m b o h))) hn L ⟨by simp,Od⟩ t3 (by omega) (by omega)).mono ?_,fun _ zO gT M=>full _ _ gT (View.Le.refl _) k t3 M⟩⟩⟩
 ·exact ⟨⟨0,d+q,true,false⟩,k,⟨_,_,_,_,_,_,_,_,_,_,_,_,_,_,rfl,SE _,Wz.le (I g)⟩,⟨fun _=>rfl,(fun h=>nomatch h)⟩,rfl,⟨O5 _ (by omega),Sz.mono sh (by omega)⟩,t3,J⟩
 ·exact ⟨⟨d,0,false,true⟩,k,⟨_,_,_,_,_,_,_,_,_,_,_,_,_,_,rfl,j.le (Nm cY),SE _⟩,⟨(fun h=>nomatch h),fun _=>rfl⟩,rfl,⟨Sz.mono u (by omega),O5 _ (by omega)⟩,t3,K⟩
 ·rintro r lC fo ⟨z,a,rfl,-,-,t4,N⟩;refine ⟨_,rfl,_,_,_,_,N,fun _ lD dY=>Af.mono ?_,fun _ wY fL O=>full _ _ cN (fun b o h=>fL b o (fo b o h)) a t4 O⟩;rintro r nG eU gf;have LA:=gf;obtain ⟨_,_,_,_,_,_,_,_,_,_,_,_,_,_,rfl⟩:=C1 gf;exact ⟨_,_,_,_,_,_,_,_,_,_,_,_,_,_,_,_,rfl,fun qH ew P=>⟨⟨0,0,true,true⟩,a,LA.le ew,⟨fun _=>rfl,fun _=>rfl⟩,rfl,⟨O5 _ (by omega),O5 _ (by omega)⟩,t4,P⟩⟩
theorem Th {V:View}{tb:Nat}{p:OA}{n c:Nat}{at_:Int}(hr:Gz V p n)(hn:n<=400)(hw:lK V tb p n c at_)(hx:V.X tb)(h0:0<=at_) :
  ae prog 8 #[.pointer (some ⟨tb,0,none⟩)] V fun r V'=>∃(l:L3)(s:Sp)(at':Int),RF V' r l s/\HS l s/\eh 1000 l/\s.sz 5000/\0<=at'/\lK V' tb p n c at':=by
 refine tP tb p n c at_ V _ hw hx fun V1 i z t h1=>(lX (V:=V1.ax [z]) 3 (hr.le fun b o h=>i b o h) hn t ⟨by simp,h1⟩ h0 (by omega) (by omega)).mono ?_;rintro r V2 v ⟨x,M0,rfl,-,-,t1,A⟩;refine ⟨_,rfl,_,_,_,_,A,fun _ V3 N PN e3 h3=>(Wh (V:=V3.ax [PN]) (hr.le fun b o h=>N b o (v b o (i b o h))) hn e3 ⟨by simp,h3⟩ t1).mono ?_,fun _ V8 O S_ e8 h8=>(Pk (V:=V8.ax [S_]) (hr.le fun b o h=>O b o (v b o (i b o h))) hn e8 ⟨by simp,h8⟩ t1).mono ?_⟩
 ·rintro r V4 l4 ⟨l,B,P,ho,hb,t2,a⟩;have Sw:=P;obtain ⟨_,_,_,_,_,_,_,_,_,_,_,_,rfl⟩:=gI P;refine ⟨_,_,_,_,_,_,_,_,_,_,_,_,rfl,_,_,_,_,a,fun V5 Q S7 e5 h5=>(Yv (V:=V5.ax [S7]) (hr.le fun b o h=>Q b o (l4 b o (N b o (v b o (i b o h))))) hn e5 ⟨by simp,h5⟩ t2).mono ?_⟩;rintro r V6 l6 ⟨s,d,gs,hc,e,ss,t3,g⟩;have C:=gs;obtain ⟨_,_,_,_,_,_,_,_,_,_,_,_,_,_,rfl⟩:=C1 gs;obtain ⟨z1,z2,z3⟩:=hb.sz;exact ⟨_,_,_,_,_,_,_,_,_,_,_,_,_,_,_,_,rfl,_,_,_,_,g,fun V7 R e7=>⟨l,s,d,⟨_,_,_,_,_,_,_,_,_,_,_,_,_,_,_,_,_,_,_,_,_,_,_,_,_,_,rfl,Sw.le fun b o h=>R b o (l6 b o (Q b o h)),C.le fun b o h=>R b o h⟩,⟨ho,hc,e⟩,⟨Sz.mono z1 (by omega),Sz.mono z2 (by omega),Sz.mono z3 (by omega)⟩,⟨Sz.mono ss.1 (by omega),Sz.mono ss.2 (by omega)⟩,t3,e7⟩⟩
 ·rintro r V9 l9 ⟨x,y,B,S,a0,a1,t2,a⟩;have j:=S;obtain ⟨_,_,_,_,_,_,_,_,_,_,_,_,_,_,rfl⟩:=gJ S;refine ⟨_,_,_,_,_,_,_,_,_,_,_,_,_,_,rfl,_,_,_,_,a,fun hZ q=>(ka 1 (by omega) (by omega)).mono ?_⟩;rintro r gN T U;have D:=U;obtain ⟨_,_,_,_,_,_,rfl⟩:=U.shape;refine ⟨_,_,_,_,_,_,_,rfl,fun jg E Tb F G=>(Wi (V:=jg.ax [Tb]) (hr.le fun b o h=>E b o (T b o (q b o (l9 b o (O b o (v b o (i b o h))))))) hn F ⟨by simp,G⟩ t2).mono ?_⟩;rintro r ph W ⟨u,w,d,Y,a2,Qz,e,t3,g⟩;have H:=Y;obtain ⟨_,_,_,_,_,_,_,_,_,_,_,_,_,_,rfl⟩:=gJ Y;refine ⟨_,_,_,_,_,_,_,_,_,_,_,_,_,_,rfl,_,_,_,_,g,fun I J=>?_⟩;have Z:V9.Le I:=fun b o h=>J b o (W b o (E b o (T b o (q b o h))));have OC:gN.Le I:=fun b o h=>J b o (W b o (E b o h));have OE:ph.Le I:=fun b o h=>J b o h;refine (ma (j.le Z) (D.le OC) (H.le OE) (k:=10) (m:=10) (tu (by omega)) (tu (by omega)) (tu (by omega)) (tu (by omega)) (tu (by omega)) (by omega)).mono ?_;rintro r lD dY K;have f1:(x:Rat)+((1:Int):Rat)*(u:Rat)=((x+u:Int):Rat):=by rw [←Rat.intCast_mul,←Rat.intCast_add,Int.one_mul]
  have f2:(y:Rat)+((1:Int):Rat)*(w:Rat)=((y+w:Int):Rat):=by rw [←Rat.intCast_mul,←Rat.intCast_add,Int.one_mul]
  rw [f1,f2] at K;have L:=K;obtain ⟨_,_,_,_,_,_,_,_,_,_,_,_,_,_,rfl⟩:=gJ K
  have ne:¬((x:Rat)=((x+u:Int):Rat)/\(y:Rat)=((y+w:Int):Rat)):=by
   rintro ⟨t,e2⟩;have t:x=x+u:=by exact_mod_cast t
   have e2:y=y+w:=by exact_mod_cast e2
   exact e ⟨by omega,by omega⟩
  have s1:Sz 10 (x:Rat):=tu (by omega);have s2:Sz 10 (y:Rat):=tu (by omega);have s3:Sz 10 ((x+u:Int):Rat):=tu (by omega);have s4:Sz 10 ((y+w:Int):Rat):=tu (by omega);refine ⟨_,_,_,_,_,_,_,_,_,_,_,_,_,_,rfl,fun nG eU=>(sU (j.le (Z.trans (dY.trans eU))) (L.le eU) s1 s2 s3 s4 (by omega) (by omega)).mono ?_⟩;rintro r qH ew ⟨-,m2⟩;obtain ⟨f,rfl,gf⟩:=m2 ne;have LA:=gf;have sl:=nj s1 s2 s3 s4 ne;have ss:=AY s1 s2 s3 s4 ne;obtain ⟨_,_,_,_,_,_,_,_,_,_,_,_,_,_,_,_,_,_,_,_,_,_,_,_,_,_,rfl⟩:=CZ gf;exact ⟨_,_,_,_,_,_,_,_,_,_,_,_,_,_,_,_,_,_,_,_,_,_,_,_,_,_,_,_,_,rfl,fun wY fL M=>⟨_,_,d,LA.le fL,Kc ne,⟨Sz.mono sl.1 (by omega),Sz.mono sl.2.1 (by omega),Sz.mono sl.2.2 (by omega)⟩,⟨Sz.mono ss.1 (by omega),Sz.mono ss.2 (by omega)⟩,t3,M⟩⟩
theorem Yt {V:View}{tb:Nat}{p:OA}{n c:Nat}{at_:Int}(hr:Gz V p n)(hn:n<=400)(hw:lK V tb p n c at_)(hx:V.X tb)(h0:0<=at_) :
  ae prog 8 #[.pointer (some ⟨tb,0,none⟩)] V fun r V'=>∃(l:L3)(s:Sp)(at':Int),RF V' r l s/\HS l s/\eh 5000 l/\s.sz 5000/\0<=at'/\lK V' tb p n c at':=
 (Th hr hn hw hx h0).mono fun r V' _ ⟨l,s,a,d,e,b,f,g⟩=>⟨l,s,a,d,e,⟨b.1.mono (by omega),b.2.1.mono (by omega),b.2.2.mono (by omega)⟩,f,g⟩
def FQ (V:View):View:=⟨V.w,fun b=>b<V.w.heap.size,fun _=>False,fun _ h=>h,fun _ h=>h.elim⟩
theorem DR {f:FuncId}{args:Array Value}{V:View}{o:Obj}(h:ae prog f args (FQ V) fun r V'=>∃bk,r=.pointer (some ⟨bk,0,none⟩)/\V'.bC bk o) :
  ae prog f args V fun r V'=>∃bk,r=.pointer (some ⟨bk,0,none⟩)/\V.w.heap.size<=bk/\V'.bC bk o:=
 ⟨h.1,h.2.mono fun _ _ ⟨_,he,a,bk,d,c⟩=>⟨_,he,⟨a.size,fun b c _=>a.bC b c (fun h=>h),a.os,a.tape,a.out⟩,bk,d,Nat.le_of_not_lt c.1,fun e=>c.1 (V.hH bk e),c.2⟩⟩
theorem BT {V:View}{lp:OA}{ln lc:Nat}(hc:ln<=lc) :
  ae prog 7 #[.slice lp ln lc] V fun r V'=>∃bk,r=.pointer (some ⟨bk,0,none⟩)/\V.w.heap.size<=bk/\V'.bC bk (.cells #[.slice lp (min ln 400) lc,.int .i64 0] 88 (0,0)):=by
 refine DR (Bi lp ln lc (FQ V) _ ?_)
 have e:bP (ln:Int) 400=((min ln 400:Nat):Int):=by
  unfold bP;simp only [Nat.min_def];split<;>split<;>omega
 rw [e,Int.toNat_natCast];have:=Nat.min_le_left ln 400;exact ⟨⟨by omega,by omega⟩,fun b c bk a=>⟨bk,rfl,a⟩⟩
theorem Je {V1 V2 V3:View}{bk:Nat}(l2:V1.Le V2)(hfr:V1.w.heap.size<=bk)(l3:(V2.IX bk).Le V3):V1.Le V3:=fun b o h=>l3 b o ⟨fun a=>a.elim (l2 b o h).1 fun e=>by
  have c:b<V1.w.heap.size:=by
   rcases Nat.lt_or_ge b V1.w.heap.size with h'|h'
   ·exact h'
   ·have:=h.2;rw [Array.getElem?_eq_none h'] at this;cases this
  have:=e.1;omega,(l2 b o h).2⟩
theorem BD:BB (gK ((0:Int):Rat) ((0:Int):Rat) ((2:Int):Rat) ((0:Int):Rat)) (xG ((0:Int):Rat) ((0:Int):Rat) ((2:Int):Rat) ((0:Int):Rat)).hi=((2:Int):Rat) /\
  BC (gK ((0:Int):Rat) ((0:Int):Rat) ((2:Int):Rat) ((0:Int):Rat)) (xG ((0:Int):Rat) ((0:Int):Rat) ((2:Int):Rat) ((0:Int):Rat)).hi=((0:Int):Rat):=by decide +kernel
theorem BN {V:View}:ae prog 21 #[] V fun r V'=>r=.bool true:=by
 have a:Sz 10 ((0:Int):Rat):=tu (by omega);have s2:Sz 10 ((2:Int):Rat):=tu (by omega);have ne:¬(((0:Int):Rat)=((2:Int):Rat)/\((0:Int):Rat)=((0:Int):Rat)):=by decide
 have sl:=nj a a s2 a ne;have ss:=AY a a s2 a ne;have b:eh 5000 (gK ((0:Int):Rat) ((0:Int):Rat) ((2:Int):Rat) ((0:Int):Rat)):=⟨Sz.mono sl.1 (by omega),Sz.mono sl.2.1 (by omega),Sz.mono sl.2.2 (by omega)⟩;have c:(xG ((0:Int):Rat) ((0:Int):Rat) ((2:Int):Rat) ((0:Int):Rat)).sz 5000:=⟨Sz.mono ss.1 (by omega),Sz.mono ss.2 (by omega)⟩;have ok:=Kc ne;refine wK V _ fun C D=>(ou 0 0 (by omega) (by omega) (by omega) (by omega)).mono ?_;rintro r V2 E k;have e:=k;obtain ⟨_,_,_,_,_,_,_,_,_,_,_,_,_,_,rfl⟩:=dp k;refine ⟨_,_,_,_,_,_,_,_,_,_,_,_,_,_,rfl,fun F u=>(ou 2 0 (by omega) (by omega) (by omega) (by omega)).mono ?_⟩;rintro r G v l;have g:=l;obtain ⟨_,_,_,_,_,_,_,_,_,_,_,_,_,_,rfl⟩:=dp l;refine ⟨_,_,_,_,_,_,_,_,_,_,_,_,_,_,rfl,fun H m=>(zY (e.le (u.trans (v.trans m))) (g.le m) a a s2 a (by omega)).mono ?_⟩;rintro r I J ⟨-,x⟩;obtain ⟨f,rfl,n⟩:=x ne;have o:=n;obtain ⟨_,_,_,_,_,_,_,_,_,_,_,_,_,_,_,_,_,_,_,_,_,_,_,_,_,_,rfl⟩:=dz n;refine ⟨_,_,_,_,_,_,_,_,_,_,_,_,_,_,_,_,_,_,_,_,_,_,_,_,_,_,_,_,_,rfl,fun K p=>(P4 (o.le p) ok b c (by omega)).mono ?_⟩;rintro r L y ⟨w,rfl,d,-⟩;have d:=d rfl;rw [BD.1,BD.2] at d;have i:=d;obtain ⟨_,_,_,_,_,_,_,_,_,_,_,_,_,_,rfl⟩:=dp d;refine ⟨_,_,_,_,_,_,_,_,_,_,_,_,_,_,_,rfl,fun _=>⟨fun _ M q=>(DZ (o.le (p.trans (y.trans q))) ok b c (by omega)).mono ?_,(fun h=>nomatch h)⟩,(fun h=>nomatch h)⟩;rintro r N j rfl;refine ⟨_,rfl,fun _ O z=>(ou 2 0 (by omega) (by omega) (by omega) (by omega)).mono ?_,(fun h=>nomatch h)⟩;rintro r P A s;have B:=s;obtain ⟨_,_,_,_,_,_,_,_,_,_,_,_,_,_,rfl⟩:=dp s;refine ⟨_,_,_,_,_,_,_,_,_,_,_,_,_,_,rfl,fun Q t=>(Ad (i.le (q.trans (j.trans (z.trans (A.trans t))))) (B.le t) s2 a s2 a (by omega)).mono ?_⟩;rintro r R S rfl;exact ⟨_,rfl,fun T U=>by simp⟩
theorem mV:IsIface .nilIface:=.inl rfl
def EK (x y:Rat):Rat:=if 0<cmpQ y x then y else x
def EN (x y:Rat):Rat:=if cmpQ y x<0 then y else x
theorem dO (x y:Rat):(x<y/\cmpQ x y=-1)\/(x=y/\cmpQ x y=0)\/(y<x/\cmpQ x y=1):=by
 by_cases a:x<y
 ·exact .inl ⟨a,FM.1 a⟩
 ·by_cases b:x=y
  ·exact .inr (.inl ⟨b,kQ.1 b⟩)
  ·have c:y<x:=by grind
   exact .inr (.inr ⟨c,FL.1 c⟩)
theorem Sp.ic {s:Sp}:s.emp=false↔(s.a=true\/s.b=true\/s.lo<s.hi):=by
 unfold Sp.emp;rcases dO s.lo s.hi with ⟨h,e⟩|⟨h,e⟩|⟨h,e⟩<;>rw [e]<;>cases s.a<;>cases s.b<;>simp<;>grind
def Sp.meet (v w:Sp):Sp:=⟨if v.a then w.lo else if w.a then v.lo else EK v.lo w.lo,if v.b then w.hi else if w.b then v.hi else EN v.hi w.hi,if v.a then w.a else false,if v.b then w.b else false⟩
theorem Sp.Jl {v w:Sp}(h1:v.can)(h2:w.can):(v.meet w).can:=by
 unfold Sp.meet;constructor<;>dsimp only
 ·cases hv:v.a with
  | false=>intro h;cases h
  | true=>exact fun h=>h2.1 h
 ·cases hv:v.b with
  | false=>intro h;cases h
  | true=>exact fun h=>h2.2 h
def Sp.C2 (s:Sp):Rat:=if s.a then (if s.b then 0 else s.hi-((1:Int):Rat)) else if s.b then s.lo+((1:Int):Rat) else (s.lo+s.hi)*((2:Int):Rat)⁻¹
theorem Sp.Mp {s:Sp}(h:s.emp=false):(s.a=false->s.lo<s.C2)/\(s.b=false->s.C2<s.hi):=by
 rw [Sp.ic] at h;unfold Sp.C2;cases ha:s.a<;>cases hb:s.b<;>simp [ha,hb] at h⊢<;> grind
def dotL (m l:L3):Rat:=((m.1:Rat)*(l.2.1:Rat))+((m.2.1:Rat)*(-(l.1:Rat)))
def uz (m l:L3):Rat:=bg m (BB l 0) (BC l 0)
def cutP (m l:L3):Rat:=-(uz m l*(dotL m l)⁻¹)
def iJ (l:L3)(s:Sp)(m:L3):Sp:=
 if (dotL m l).num.sign==0 then s else if (dotL m l).num.sign==1 then s.meet ⟨cutP m l,0,false,true⟩ else s.meet ⟨0,cutP m l,true,false⟩
def lN (l:L3)(s:Sp)(m:L3):Bool:=
 if (dotL m l).num.sign==0 then decide ((uz m l).num.sign>0) else !(iJ l s m).emp
theorem Gg (q:Rat):(q=0/\q.num.sign=0)\/(0<q/\q.num.sign=1)\/(q<0/\q.num.sign=-1):=by
 have a:=@CA q;have b:=@CB q;have c:=@Rat.num_eq_zero q;rcases Int.lt_trichotomy q.num 0 with h|h|h
 ·exact .inr (.inr ⟨a.1 h,Int.sign_eq_neg_one_of_neg h⟩)
 ·exact .inl ⟨c.1 h,by rw [h];rfl⟩
 ·exact .inr (.inl ⟨b.1 h,Int.sign_eq_one_of_pos h⟩)
theorem val_rev (m:L3)(x y:Rat):bg (revL m) x y=-bg m x y:=by
 unfold bg revL;simp only [Rat.intCast_neg];grind
def crossL (l m:L3):Rat:=((l.1:Rat)*(m.2.1:Rat))-((l.2.1:Rat)*(m.1:Rat))
def Sp.inn (s:Sp)(t:Rat):Prop:=(s.a=true\/s.lo<t)/\(s.b=true\/t<s.hi)
def rm (ss:List Sp)(t:Rat):Prop:=∃s∈ss,s.inn t
def Sp.good (s:Sp):Prop:=s.can/\s.emp=false
def Sp.Ie (s t:Sp):Prop:=s.b=false/\t.a=false/\s.hi<t.lo
def w_ (ss:List Sp):Prop:=(∀s∈ss,s.good)/\ss.Pairwise Sp.Ie
theorem pick (E:List Rat):∀l u:Rat,l<u->∃t,l<t/\t<u/\t∉E:=by
 induction E with
 | nil=>exact fun l u h=>⟨(l+u) / 2,by grind,by grind,by simp⟩
 | cons e r ih=>
  intro l u h;by_cases c:l<e/\e<u
  ·obtain ⟨t,a,b,d⟩:=ih l e c.1;refine ⟨t,a,by grind,fun hm=>?_⟩;rcases List.mem_cons.1 hm with rfl|hm
   ·grind
   ·exact d hm
  ·obtain ⟨t,a,b,d⟩:=ih l u h;refine ⟨t,a,b,fun hm=>?_⟩;rcases List.mem_cons.1 hm with rfl|hm
   ·exact c ⟨a,b⟩
   ·exact d hm
theorem Uf:∀l:List Rat,l=[]\/∃m∈l,∀x∈l,x<=m:=by
 intro l
 induction l with
 | nil=>exact .inl rfl
 | cons y r ih=>
  rcases ih with rfl|⟨m,hm,h⟩
  ·exact .inr ⟨y,by simp,by intro x a;simp at a;grind⟩
  ·by_cases c:m<y
   ·exact .inr ⟨y,by simp,fun x a=>(List.mem_cons.1 a).elim (fun e=>by grind) fun e=>by have:=h x e;grind⟩
   ·exact .inr ⟨m,by simp [hm],fun x a=>(List.mem_cons.1 a).elim (fun e=>by grind) fun e=>h x e⟩
theorem QR:∀l:List Rat,l=[]\/∃m∈l,∀x∈l,m<=x:=by
 intro l
 induction l with
 | nil=>exact .inl rfl
 | cons y r ih=>
  rcases ih with rfl|⟨m,hm,h⟩
  ·exact .inr ⟨y,by simp,by intro x a;simp at a;grind⟩
  ·by_cases c:y<m
   ·exact .inr ⟨y,by simp,fun x a=>(List.mem_cons.1 a).elim (fun e=>by grind) fun e=>by have:=h x e;grind⟩
   ·exact .inr ⟨m,by simp [hm],fun x a=>(List.mem_cons.1 a).elim (fun e=>by grind) fun e=>h x e⟩
theorem CJ (E Ls Us:List Rat)(h:∀l∈Ls,∀u∈Us,l<u):∃t,(∀l∈Ls,l<t)/\(∀u∈Us,t<u)/\t∉E:=by
 have key:∃a b:Rat,a<b/\(∀l∈Ls,l<=a)/\∀u∈Us,b<=u:=by
  rcases Uf Ls with rfl|⟨m,hm,d⟩
  ·rcases QR Us with rfl|⟨n,e,c⟩
   ·exact ⟨0,1,by decide,(fun _ h=>by cases h),(fun _ h=>by cases h)⟩
   ·exact ⟨n-1,n,by grind,(fun _ h=>by cases h),c⟩
  ·rcases QR Us with rfl|⟨n,e,c⟩
   ·exact ⟨m,m+1,by grind,d,(fun _ h=>by cases h)⟩
   ·exact ⟨m,n,h m hm n e,d,c⟩
 obtain ⟨a,b,f,d,c⟩:=key;obtain ⟨t,t1,t2,t3⟩:=pick E a b f;exact ⟨t,fun l g=>by have:=d l g;grind,fun u hu=>by have:=c u hu;grind,t3⟩
def Sp.FY (s:Sp):List Rat:=if s.a then [] else [s.lo]
def Sp.Er (s:Sp):List Rat:=if s.b then [] else [s.hi]
theorem uc {s:Sp}{t:Rat}:s.inn t↔(∀l∈s.FY,l<t)/\∀u∈s.Er,t<u:=by
 unfold Sp.inn Sp.FY Sp.Er;cases s.a<;>cases s.b<;>simp
theorem Aw {s:Sp}{l:Rat}(h:l∈s.FY):s.a=false/\l=s.lo:=by
 unfold Sp.FY at h;cases ha:s.a<;>simp [ha] at h;exact ⟨rfl,h⟩
theorem FR {s:Sp}{l:Rat}(h:l∈s.Er):s.b=false/\l=s.hi:=by
 unfold Sp.Er at h;cases ha:s.b<;>simp [ha] at h;exact ⟨rfl,h⟩
theorem nP {s:Sp}(h:s.emp=false)(ha:s.a=false)(hb:s.b=false):s.lo<s.hi:=by
 rcases Sp.ic.1 h with h|h|h
 ·rw [ha] at h;cases h
 ·rw [hb] at h;cases h
 ·exact h
theorem F8 {s:Sp}(h:s.emp=false)(E:List Rat):∃t,s.inn t/\t∉E:=by
 obtain ⟨t,a,b,c⟩:=CJ E s.FY s.Er (fun l d u hu=>by
  obtain ⟨e,rfl⟩:=Aw d;obtain ⟨hb,rfl⟩:=FR hu;exact nP h e hb)
 exact ⟨t,uc.2 ⟨a,b⟩,c⟩
theorem w_.tail {s:Sp}{r:List Sp}(h:w_ (s::r)):w_ r:=⟨fun x a=>h.1 x (by simp [a]),(List.pairwise_cons.1 h.2).2⟩
theorem w_.Ie {s:Sp}{r:List Sp}(h:w_ (s::r)){x:Sp}(hx:x∈r):s.Ie x:=(List.pairwise_cons.1 h.2).1 x hx
theorem Az {s:Sp}{r:List Sp}(h:w_ (s::r))(ha:s.a=false){t:Rat}(ht:t<=s.lo):¬rm (s::r) t:=by
 rintro ⟨x,c,b,d⟩;rcases List.mem_cons.1 c with rfl|c
 ·rcases b with b|b
  ·rw [ha] at b;cases b
  ·grind
 ·obtain ⟨b1,b2,b3⟩:=h.Ie c;have:=nP (h.1 s (by simp)).2 ha b1;rcases b with b|b
  ·rw [b2] at b;cases b
  ·grind
def nl:List Sp->List Rat
 | []=>[]
 | x::_=>[x.lo]
theorem F3 {s:Sp}{r:List Sp}(h:w_ (s::r))(hb:s.b=false){t:Rat}(h1:s.hi<=t)(h2:∀x∈nl r,t<=x):¬rm (s::r) t:=by
 rintro ⟨x,c,d,a⟩;rcases List.mem_cons.1 c with rfl|c
 ·rcases a with a|a
  ·rw [hb] at a;cases a
  ·grind
 ·cases r with
  | nil=>cases c
  | cons y r=>exact Az h.tail (h.Ie (by simp)).2.1 (h2 y.lo (by simp [nl])) ⟨x,c,d,a⟩
set_option linter.unusedSectionVars false
section
variable {s s':Sp} {r r':List Sp} {E:List Rat} (h:w_ (s :: r)) (h':w_ (s' :: r')) (e:∀t,t ∉ E->rm (s :: r) t->rm (s' :: r') t)
include h h' e
theorem RK (ha:s.a=true):s'.a=true:=by
 cases ha':s'.a with
 | true=>rfl
 | false=>
  obtain ⟨t,-,c,d⟩:=CJ E [] (s'.lo::s.Er) (fun l b=>by cases b);have:=e t d ⟨s,by simp,.inl ha,(uc.2 ⟨(fun l b=>by unfold Sp.FY at b;rw [if_pos ha] at b;cases b),fun u hu=>c u (by simp [hu])⟩).2⟩;exact absurd this (Az h' ha' (by have:=c s'.lo (by simp);grind))
theorem NI (ha:s.a=false)(ha':s'.a=false):¬s.lo<s'.lo:=by
 intro b
 obtain ⟨t,f,d,g⟩:=CJ E [s.lo] (s'.lo::s.Er) (fun l c u hu=>by
  obtain rfl:l=s.lo:=by simpa using c
  rcases List.mem_cons.1 hu with rfl|hu
  ·exact b
  ·obtain ⟨i,rfl⟩:=FR hu;exact nP (h.1 s (by simp)).2 ha i)
 have:=e t g ⟨s,by simp,uc.2 ⟨(fun l c=>by obtain ⟨-,rfl⟩:=Aw c;exact f _ (by simp)),fun u hu=>d u (by simp [hu])⟩⟩;exact absurd this (Az h' ha' (by have:=d s'.lo (by simp);grind))
theorem RM (h0 : s.a = false → s'.a = false ∧ s.lo = s'.lo)(hb : s.b = true) : s'.b = true := by
  cases hb' : s'.b with
  | true => rfl
  | false =>
    have d : ∀ u∈nl r', s'.hi<u := fun u hu => by
      cases r' with
      | nil => cases hu
      | cons y r' => obtain rfl : u = y.lo := by simpa [nl] using hu
                     exact (h'.Ie (by simp)).2.2
    obtain ⟨t, f, h, i⟩ := CJ E (s'.hi::s.FY) (nl r') (fun l c u hu => by
      rcases List.mem_cons.1 c with rfl|c
      · exact d u hu
      · obtain ⟨g, rfl⟩ := Aw c;have := nP (h'.1 s' (by simp)).2 (h0 g).1 hb';have := d u hu;rw [(h0 g).2];grind)
    have := e t i ⟨s, by simp, (uc.2 ⟨(fun l c => f l (by simp [c])), (fun u hu => by unfold Sp.Er at hu;rw [if_pos hb] at hu;cases hu)⟩ : s.inn t)⟩;exact absurd this (F3 h' hb' (by have := f s'.hi (by simp);grind) (fun x j => by have := h x j;grind))
theorem NH (h0 : s.a = false → s'.a = false ∧ s.lo = s'.lo)(hb : s.b = false)(hb' : s'.b = false) : ¬s'.hi<s.hi := by
  intro c
  have g : ∀ u∈nl r', s'.hi<u := fun u hu => by
    cases r' with
    | nil => cases hu
    | cons y r' => obtain rfl : u = y.lo := by simpa [nl] using hu
                   exact (h'.Ie (by simp)).2.2
  obtain ⟨t, h, f, i⟩ := CJ E [s'.hi] (s.hi::nl r') (fun l j u hu => by
    obtain rfl : l = s'.hi := by simpa using j
    rcases List.mem_cons.1 hu with rfl|hu
    · exact c
    · exact g u hu)
  have m := h s'.hi (by simp)
  have d : s.inn t := by
    refine ⟨?_, .inr (f s.hi (by simp))⟩
    cases ha : s.a with
    | true => exact .inl rfl
    | false =>
      have := nP (h'.1 s' (by simp)).2 (h0 ha).1 hb';rw [(h0 ha).2];exact .inr (by grind)
  exact absurd (e t i ⟨s, by simp, d⟩) (F3 h' hb' (by grind) (fun x k => by have := f x (by simp [k]);grind))
end
theorem Sp.ext' {s t:Sp}(h1:s.a=t.a)(h2:s.b=t.b)(h3:s.lo=t.lo)(h4:s.hi=t.hi):s=t:=by
 cases s;cases t;simp at *;exact ⟨h3,h4,h1,h2⟩
theorem E3 {E:List Rat}:∀{xs ys:List Sp},w_ xs->w_ ys->(∀t,t∉E->(rm xs t↔rm ys t))->xs=ys:=by
 intro xs
 induction xs with
 | nil=>
  intro ys _ f e
  cases ys with
  | nil=>rfl
  | cons s r=>
   obtain ⟨t,c,i⟩:=F8 (f.1 s (by simp)).2 E;obtain ⟨x,d,-⟩:=(e t i).2 ⟨s,by simp,c⟩;cases d
 | cons s r ih=>
  intro ys d f e
  cases ys with
  | nil=>
   obtain ⟨t,c,i⟩:=F8 (d.1 s (by simp)).2 E;obtain ⟨x,d,-⟩:=(e t i).1 ⟨s,by simp,c⟩;cases d
  | cons s' r'=>
   have l:=fun t j=>(e t j).1;have n:=fun t j=>(e t j).2
   have beq:∀{a b:Bool},(a=true->b=true)->(b=true->a=true)->a=b:=fun {a b} c i=>by
    cases a<;>cases b<;>simp at c i ⊢
   have g:s.a=s'.a:=beq (RK d f l) (RK f d n)
   have w:s.a=false->s.lo=s'.lo:=fun c=>by
    have A:=NI d f l c (g▸c);have B:=NI f d n (g▸c) c;grind
   have y:s.a=false->s'.a=false/\s.lo=s'.lo:=fun h=>⟨g▸h,w h⟩;have o:s'.a=false->s.a=false/\s'.lo=s.lo:=fun h=>⟨g.symm▸h,(w (g.symm▸h)).symm⟩;have u:s.b=s'.b:=beq (RM d f l y) (RM f d n o)
   have C:s.b=false->s.hi=s'.hi:=fun c=>by
    have A:=NH d f l y c (u▸c);have B:=NH f d n o (u▸c) c;grind
   have gs:=(d.1 s (by simp)).1;have p:=(f.1 s' (by simp)).1
   have es:s=s':=by
    refine Sp.ext' g u ?_ ?_
    ·cases c:s.a with
     | false=>exact w c
     | true=>rw [gs.1 c,p.1 (g▸c)]
    ·cases c:s.b with
     | false=>exact C c
     | true=>rw [gs.2 c,p.2 (u▸c)]
   subst es
   have z:∀{q:List Sp} {t:Rat},w_ (s::q)->rm q t->¬s.inn t:=by
    rintro q t D ⟨x,d,c,i⟩ ⟨v,k⟩;obtain ⟨b1,b2,b3⟩:=D.Ie d;rw [b1] at k;rw [b2] at c;simp at k c;grind
   rw [ih d.tail f.tail (fun t j=>⟨fun m=>?_,fun m=>?_⟩)]
   ·obtain ⟨x,hm,hi⟩:=l t j (by obtain ⟨x,v,k⟩:=m;exact ⟨x,by simp [v],k⟩);rcases List.mem_cons.1 hm with rfl|hm
    ·exact absurd hi (z d m)
    ·exact ⟨x,hm,hi⟩
   ·obtain ⟨x,hm,hi⟩:=n t j (by obtain ⟨x,v,k⟩:=m;exact ⟨x,by simp [v],k⟩);rcases List.mem_cons.1 hm with rfl|hm
    ·exact absurd hi (z f m)
    ·exact ⟨x,hm,hi⟩
end Go.Proofs.Tryz
namespace Go.Eng
theorem Bu (a:Addr)(m n:Nat):(a.add m).add n=a.add (m+n):=by
 unfold Addr.add;by_cases b:m=0
 ·subst b;simp
 ·by_cases c:n=0
  ·subst c;simp [b]
  ·rw [if_neg b,if_neg c,if_neg (by omega)];simp only [Nat.add_assoc]
variable {α:Type} {sz:Nat} {R:View->Value->α->Prop} {V V':View}
structure Row (sz:Nat) (R:View->Value->α->Prop) (V:View) (vs:List Value) (al:List α):Prop where
 at_:∀(i:Nat)(h:i<al.length),∃xs:List Value,xs.length=sz/\R V (.agg xs.toArray) al[i]/\∀j x,xs[j]?=some x->vs[i*sz+j]?=some x
structure jW (sz:Nat) (R:View->Value->α->Prop) (V:View) (p:OA) (n:Nat) (al:List α):Prop where
 len:n=al.length
 at_:∀(i:Nat)(h:i<al.length),∃ad,ah p (i*sz)=some ad/\∃xs:List Value,xs.length=sz/\R V (.agg xs.toArray) al[i]/\∀j x,xs[j]?=some x->V.at (ad.add j) x
theorem Row.nil {vs:List Value}:Row sz R V vs []:=⟨fun i h=>absurd h (Nat.not_lt_zero i)⟩
theorem jW.nil {p:OA}:jW sz R V p 0 []:=⟨rfl,fun i h=>absurd h (Nat.not_lt_zero i)⟩
theorem Row.le {vs:List Value}{al:List α}(h:Row sz R V vs al)(m:∀v a,R V v a->R V' v a):Row sz R V' vs al:=
 ⟨fun i b=>by obtain ⟨xs,c,d,e⟩:=h.at_ i b;exact ⟨xs,c,m _ _ d,e⟩⟩
theorem jW.le {p:OA}{n:Nat}{al:List α}(h:jW sz R V p n al)(l:V.Le V')(m:∀v a,R V v a->R V' v a):jW sz R V' p n al:=
 ⟨h.len,fun i b=>by obtain ⟨c,d,xs,e,f,g⟩:=h.at_ i b;exact ⟨c,d,xs,e,m _ _ f,fun j x k=>l.at (g j x k)⟩⟩
theorem Row.fT {vs:List Value}{al:List α}(h:Row sz R V vs al)(hs:0<sz):al.length*sz<=vs.length:=by
 by_cases a:al.length=0
 ·rw [a];omega
 ·obtain ⟨xs,d,-,b⟩:=h.at_ (al.length-1) (by omega);have c:sz-1<xs.length:=by omega
  have:=(List.getElem?_eq_some_iff.1 (b (sz-1) _ (List.getElem?_eq_getElem c))).1
  have e:al.length*sz=(al.length-1)*sz+sz:=by
   obtain ⟨m,hm⟩:∃m,al.length=m+1:=⟨al.length-1,by omega⟩;rw [hm,Nat.add_sub_cancel,Nat.succ_mul]
  omega
theorem Row.snoc {vs:List Value}{al:List α}(h:Row sz R V vs al){xs sp:List Value}{a:α}(hx:xs.length=sz)(ha:R V (.agg xs.toArray) a)(hs:0<sz) :
  Row sz R V (vs.take (al.length*sz)++xs++sp) (al++[a]):=by
 have p:=h.fT hs;have g:(vs.take (al.length*sz)).length=al.length*sz:=by rw [List.length_take];omega
 refine ⟨fun i k=>?_⟩;rw [List.length_append,List.length_singleton] at k;by_cases e:i=al.length
 ·subst e;refine ⟨xs,hx,by rw [List.getElem_append_right (Nat.le_refl _)];simpa using ha,fun j x c=>?_⟩;have d:=(List.getElem?_eq_some_iff.1 c).1;rw [List.append_assoc,List.getElem?_append_right (by rw [g];omega),g,Nat.add_sub_cancel_left,List.getElem?_append_left d];exact c
 ·have b:i<al.length:=by omega
  obtain ⟨l,m,n,o⟩:=h.at_ i b;refine ⟨l,m,by rw [List.getElem_append_left b];exact n,fun j x c=>?_⟩;have d:=(List.getElem?_eq_some_iff.1 c).1
  have f:i*sz+j<al.length*sz:=by
   have:(i+1)*sz<=al.length*sz:=Nat.mul_le_mul_right _ b;rw [Nat.succ_mul] at this;omega
  rw [List.append_assoc,List.getElem?_append_left (by rw [g];exact f),List.getElem?_take,if_pos f];exact o j x c
theorem jW.ES {bk:Nat}{ty:TypeId}{m:Nat×Nat}{vs:List Value}{al:List α}(hb:V.bC bk (.cells vs.toArray ty m))(h:Row sz R V vs al):jW sz R V (some ⟨bk,0,none⟩) al.length al:=by
 refine ⟨rfl,fun i a=>?_⟩;obtain ⟨xs,b,c,d⟩:=h.at_ i a;refine ⟨⟨bk,i*sz,none⟩,by simp [ah,add_zero'],xs,b,c,fun j x f=>?_⟩;have e:(⟨bk,i*sz,none⟩:Addr).add j=⟨bk,i*sz+j,none⟩:=by rw [←add_zero',Bu,add_zero']
 rw [e];exact eO hb (d j x f)
theorem jW.mX {bk c:Nat}{ty:TypeId}{m:Nat×Nat}{vs:List Value}{al:List α}(hb:vs≠[]->V.bC bk (.cells vs.toArray ty m))(h:Row sz R V vs al)(hs:0<sz)(hc:al.length<=c):jW sz R V (mA bk c) al.length al:=by
 cases al with
 | nil=>exact jW.nil
 | cons a r=>
  have b:vs≠[]:=fun e=>by
   have:=h.fT hs;rw [e,List.length_cons,Nat.succ_mul] at this;simp at this;omega
  have:mA bk c=some ⟨bk,0,none⟩:=by unfold mA;rw [if_neg];rw [List.length_cons] at hc;omega
  rw [this];exact jW.ES (hb b) h
end Go.Eng
namespace Go.Proofs.Tryz
open Go.Eng Go.Big
structure GR {α:Type} (sz:Nat) (R:View->Value->α->Prop) (V:View) (n c:Nat) (vs:List Value) (l:List α):Prop where
 len:n=l.length
 le:n<=c
 cap:c*sz<=vs.length
 row:Row sz R V vs l
theorem GR.nil {α:Type}{sz:Nat}{R:View->Value->α->Prop}{V:View}:GR sz R V 0 0 [] []:=⟨rfl,Nat.le_refl _,by simp,Row.nil⟩
theorem GR.mono {α:Type}{sz:Nat}{R:View->Value->α->Prop}{V V':View}{n c:Nat}{vs:List Value}{l:List α}(h:GR sz R V n c vs l)(m:∀v a,R V v a->R V' v a):GR sz R V' n c vs l:=⟨h.len,h.le,h.cap,h.row.le m⟩
theorem GR.snoc {α:Type}{sz:Nat}{R:View->Value->α->Prop}{V:View}{n c:Nat}{vs:List Value}{l:List α}(h:GR sz R V n c vs l){xs:List Value}{a:α}(hx:xs.length=sz)(ha:R V (.agg xs.toArray) a)(h0:0<sz){sp:List Value}{c':Nat}(h1:n+1<=c')(h2:c'*sz<=(n+1)*sz+sp.length) :
  GR sz R V (n+1) c' (vs.take (n*sz)++xs++sp) (l++[a]):=by
 have b:=h.len;have e:=h.cap;have f:n*sz<=c*sz:=Nat.mul_le_mul_right _ h.le;refine ⟨by rw [List.length_append,b];rfl,h1,?_,?_⟩
 ·have d:(vs.take (n*sz)).length=n*sz:=by rw [List.length_take];omega
  rw [List.length_append,List.length_append,d,hx];rw [Nat.succ_mul] at h2;exact h2
 ·have:=h.row.snoc (sp:=sp) hx ha h0;rw [←b] at this;exact this
theorem rk {α:Type}{sz:Nat}{R:View->Value->α->Prop}{V:View}{p:OA}{n:Nat}{ls:List α}(h:jW sz R V p n ls)(hs:0<sz):∃xs:List Value,V.sl p xs/\xs.length=ls.length*sz/\Row sz R V xs ls:=by
 have step:∀k,k<=ls.length->∃xs:List Value,V.sl p xs/\xs.length=k*sz/\Row sz R V xs (ls.take k):=by
  intro k
  induction k with
  | zero=>exact fun _=>⟨[],fun i v b=>by simp at b,by simp,by rw [List.take_zero];exact Row.nil⟩
  | succ k ih=>
   intro s;obtain ⟨xs,f,d,e⟩:=ih (by omega);obtain ⟨l,g,m,j,o,q⟩:=h.at_ k (by omega);have r:(ls.take k).length=k:=by rw [List.length_take];omega
   refine ⟨xs++m,fun i v b=>?_,by rw [List.length_append,d,j,Nat.succ_mul],?_⟩
   ·by_cases c:i<xs.length
    ·rw [List.getElem?_append_left c] at b;exact f i v b
    ·rw [List.getElem?_append_right (by omega)] at b
     cases p with
     | none=>cases g
     | some a=>
      obtain rfl:=Option.some.inj (show some (a.add (k*sz))=some l from g);have:=q _ v b;rw [Bu,d] at this;rw [show k*sz+(i-k*sz)=i by omega] at this;exact ⟨a,rfl,this⟩
   ·have:=e.snoc (sp:=[]) j o hs;rw [r,List.append_nil,List.take_of_length_le (by omega)] at this;rw [List.take_add_one,List.getElem?_eq_getElem (by omega)];exact this
 obtain ⟨xs,f,d,e⟩:=step ls.length (Nat.le_refl _);rw [List.take_length] at e;exact ⟨xs,f,d,e⟩
theorem oI {α:Type}{sz:Nat}{R:View->Value->α->Prop}{V:View}{vs xs sp:List Value}{ls ms:List α}(h:Row sz R V vs ls)(h':Row sz R V xs ms)(hs:0<sz):Row sz R V (vs.take (ls.length*sz)++xs++sp) (ls++ms):=by
 have q:=h.fT hs;have o:=h'.fT hs;have n:(vs.take (ls.length*sz)).length=ls.length*sz:=by rw [List.length_take];omega
 refine ⟨fun i p=>?_⟩;by_cases c:i<ls.length
 ·obtain ⟨d,f,g,k⟩:=h.at_ i c;refine ⟨d,f,by rw [List.getElem_append_left c];exact g,fun j x a=>?_⟩;have l:=(List.getElem?_eq_some_iff.1 a).1
  have b:i*sz+j<ls.length*sz:=by
   have:(i+1)*sz<=ls.length*sz:=Nat.mul_le_mul_right _ c;rw [Nat.succ_mul] at this;omega
  rw [List.append_assoc,List.getElem?_append_left (by omega),List.getElem?_take,if_pos b];exact k j x a
 ·rw [List.length_append] at p;obtain ⟨m,rfl⟩:∃m,i=ls.length+m:=⟨i-ls.length,by omega⟩;have hm:m<ms.length:=by omega
  obtain ⟨d,f,g,k⟩:=h'.at_ m hm;refine ⟨d,f,?_,fun j x a=>?_⟩
  ·have e:(ls++ms)[ls.length+m]=ms[m]:=by rw [List.getElem_append_right (by omega)];simp
   rw [e];exact g
  ·have l:=(List.getElem?_eq_some_iff.1 a).1
   have b:m*sz+j<xs.length:=by
    have:(m+1)*sz<=ms.length*sz:=Nat.mul_le_mul_right _ hm;rw [Nat.succ_mul] at this;omega
   rw [List.append_assoc,List.getElem?_append_right (by rw [n,Nat.add_mul];omega),n,Nat.add_mul,List.getElem?_append_left (by omega)];rw [show ls.length*sz+m*sz+j-ls.length*sz=m*sz+j by omega];exact k j x a
theorem p_ {α:Type}{sz:Nat}{R:View->Value->α->Prop}{V:View}{vs:List Value}{al:List α}(h:Row sz R V vs al)(hs:0<sz)(hc:∀xs a,R V (.agg (List.toArray xs)) a->∀v∈xs,v.oneCell'=true){m:Nat}(hm:m<al.length*sz){v:Value}(hv:vs[m]?=some v):v.oneCell'=true:=by
 have d:m / sz<al.length:=Nat.div_lt_of_lt_mul (by rw [Nat.mul_comm];exact hm);obtain ⟨xs,e,f,c⟩:=h.at_ (m / sz) d;have b:m%sz<xs.length:=by rw [e];exact Nat.mod_lt _ hs
 have g:m=m / sz*sz+m%sz:=by rw [Nat.mul_comm];exact (Nat.div_add_mod m sz).symm
 have:=c (m%sz) _ (List.getElem?_eq_getElem b);rw [←g,hv] at this;obtain rfl:=Option.some.inj this;exact hc xs _ f _ (List.getElem_mem b)
end Go.Proofs.Tryz
namespace Go.Proofs.Tryz
open Go.Eng
set_option maxRecDepth 100000
end Go.Proofs.Tryz
namespace Go.Proofs.Tryz
open Go.Eng Go.Big
def Sb (V:View)(v:Value)(b1:Bool)(xs:List Nat)(b2:Bool)(ys:List Nat)(b3:Bool)(zs:List Nat):Prop:=∃p n c q m e s i j,v=.agg #[.bool b1,.slice p n c,.bool b2,.slice q m e,.bool b3,.slice s i j]/\RD V p n c xs/\RD V q m e ys/\RD V s i j zs
theorem Sb.le {V V':View}{v:Value}{b1:Bool}{xs:List Nat}{b2:Bool}{ys:List Nat}{b3:Bool}{zs:List Nat}(h:Sb V v b1 xs b2 ys b3 zs)(l:V.Le V'):Sb V' v b1 xs b2 ys b3 zs:=by
 obtain ⟨p,n,c,q,m,e,s,i,j,rfl,a,b,d⟩:=h;exact ⟨_,_,_,_,_,_,_,_,_,rfl,a.le l,b.le l,d.le l⟩
def W9 (b1:Bool)(xs:List Nat)(b2:Bool)(ys:List Nat)(b3:Bool)(zs:List Nat):L3:=(aW b1 xs,aW b2 ys,aW b3 zs)
structure FW where
 b1:Bool
 xs:List Nat
 b2:Bool
 ys:List Nat
 b3:Bool
 zs:List Nat
 c1:Bool
 us:List Nat
 vs:List Nat
 c2:Bool
 ws:List Nat
 ts:List Nat
 na:Bool
 nb:Bool
def FW.ln (f:FW):L3:=W9 f.b1 f.xs f.b2 f.ys f.b3 f.zs
def FW.sp (f:FW):Sp:=KT f.c1 f.us f.vs f.c2 f.ws f.ts f.na f.nb
def FW.ok (f:FW):Bool:=vJ f.b1 f.xs f.b2 f.ys f.b3 f.zs&&okW f.c1 f.us f.vs f.c2 f.ws f.ts f.na f.nb
structure FW.short (f:FW):Prop where
 x:f.xs.length<=1000000
 y:f.ys.length<=1000000
 z:f.zs.length<=1000000
 u:f.us.length<=1000000
 v:f.vs.length<=1000000
 w:f.ws.length<=1000000
 t:f.ts.length<=1000000
def R_ (V:View)(v:Value)(f:FW):Prop:=∃p1 n1 d1 p2 n2 d2 p3 n3 d3 p n c p' n' c' q m e q' m' e',
 v=.agg #[.bool f.b1,.slice p1 n1 d1,.bool f.b2,.slice p2 n2 d2,.bool f.b3,.slice p3 n3 d3,.bool f.c1,.slice p n c,.slice p' n' c',.bool f.c2,.slice q m e,.slice q' m' e',.bool f.na,.bool f.nb] /\
 Sb V (.agg #[.bool f.b1,.slice p1 n1 d1,.bool f.b2,.slice p2 n2 d2,.bool f.b3,.slice p3 n3 d3]) f.b1 f.xs f.b2 f.ys f.b3 f.zs /\
 PA V (.agg #[.bool f.c1,.slice p n c,.slice p' n' c',.bool f.c2,.slice q m e,.slice q' m' e',.bool f.na,.bool f.nb]) f.c1 f.us f.vs f.c2 f.ws f.ts f.na f.nb
theorem R_.le {V V':View}{v:Value}{f:FW}(h:R_ V v f)(l:V.Le V'):R_ V' v f:=by
 obtain ⟨d,g,d1,i,j,d2,k,o,d3,p,n,c,r,s,t,q,m,e,u,w,x,rfl,a,b⟩:=h;exact ⟨_,_,_,_,_,_,_,_,_,_,_,_,_,_,_,_,_,_,_,_,_,rfl,a.le l,b.le l⟩
theorem xi.raw {V:View}{v:Value}{l:L3}{s:Sp}(h:xi V v l s)(ho:HS l s){k:Nat}(sl:eh k l)(ss:s.sz k)(hk:k<=1000000):∃f:FW,R_ V v f/\f.ok=true/\f.ln=l/\f.sp=s/\f.short:=by
 obtain ⟨b1,I,J,K,b2,L,M,N,b3,O,P,Q,b,p,n,c,R,S,T,d,q,m,e,U,W,X,rfl,u,w⟩:=h;obtain ⟨_,_,_,_,_,_,_,_,_,el,x,y,A⟩:=u;have el:=congrArg Array.toList (Value.agg.inj el);simp only [List.cons.injEq,Value.bool.injEq,Value.slice.injEq,and_true] at el;obtain ⟨rfl,⟨rfl,rfl,rfl⟩,rfl,⟨rfl,rfl,rfl⟩,rfl,rfl,rfl,rfl⟩:=el;obtain ⟨_,_,_,_,_,_,_,_,_,_,_,_,_,_,es,B,C⟩:=w;have es:=congrArg Array.toList (Value.agg.inj es);simp only [List.cons.injEq,Value.bool.injEq,Value.slice.injEq,and_true] at es;obtain ⟨rfl,⟨rfl,rfl,rfl⟩,⟨rfl,rfl,rfl⟩,rfl,⟨rfl,rfl,rfl⟩,⟨rfl,rfl,rfl⟩⟩:=es;obtain ⟨ok,can,emp⟩:=ho;obtain ⟨Y,us,g,i,D,j,E⟩:=B.raw can.1;obtain ⟨Z,ws,o,r,F,t,G⟩:=C.raw can.2;have i1:=i;have i2:=r;obtain ⟨_,_,_,_,_,_,f1,-,-⟩:=i1;obtain ⟨_,_,_,_,_,_,f2,-,-⟩:=i2;have f1:=congrArg Array.toList (Value.agg.inj f1);have f2:=congrArg Array.toList (Value.agg.inj f2);simp only [List.cons.injEq,Value.bool.injEq,Value.slice.injEq,and_true] at f1 f2;obtain ⟨rfl,-⟩:=f1;obtain ⟨rfl,-⟩:=f2;have len:∀{z:Int},Sz k (z:Rat)->(ai z.natAbs).length<=1000000:=fun h=>Nat.le_trans (ag h.1) hk;have d1:=E k ss.1;have d2:=G k ss.2;refine ⟨⟨decide (l.1<0),ai l.1.natAbs,decide (l.2.1<0),ai l.2.1.natAbs,decide (l.2.2<0),ai l.2.2.natAbs,b,us,g,d,ws,o,s.a,s.b⟩,⟨_,_,_,_,_,_,_,_,_,_,_,_,_,_,_,_,_,_,_,_,_,rfl,⟨_,_,_,_,_,_,_,_,_,rfl,x,y,A⟩,⟨_,_,_,_,_,_,_,_,_,_,_,_,rfl,i,r⟩⟩,?_,?_,?_,⟨len sl.1,len sl.2.1,len sl.2.2,Nat.le_trans d1.1 hk,Nat.le_trans d1.2 hk,Nat.le_trans d2.1 hk,Nat.le_trans d2.2 hk⟩⟩
 ·have H:KT b us g d ws o s.a s.b=s:=by unfold KT;rw [j,t]
  unfold FW.ok okW;dsimp only;rw [CD,D,F,H,emp];show lR l&&true=true;rw [ok];rfl
 ·unfold FW.ln W9;dsimp only;rw [aH,aH,aH]
 ·unfold FW.sp KT;dsimp only;rw [j,t]
end Go.Proofs.Tryz
namespace Go.Proofs.Tryz
open Go.Eng
set_option maxRecDepth 100000
end Go.Proofs.Tryz
namespace Go.Proofs.Tryz
open Go.Eng Go.Big
def L9 (c:List Rat)(i:Nat):List Rat:=(c.getD 0 0-((1:Int):Rat))::(List.range (i-1)).map fun k=>(c.getD k 0+c.getD (k+1) 0)*((2:Int):Rat)⁻¹
def jx (c:List Rat):List Rat:=if c.length=0 then [0] else L9 c c.length++[c.getD (c.length-1) 0+((1:Int):Rat)]
theorem CH (c:List Rat){i:Nat}(h:1<=i):(L9 c i).length=i:=by unfold L9;simp;omega
theorem kV {c:List Rat}{i:Nat}(h:i<c.length):c.getD i 0=c[i]:=by rw [List.getD_eq_getElem?_getD,List.getElem?_eq_getElem h];rfl
def dj (x:Rat):List Rat->List Rat
 | []=>[x]
 | y::r=>if y<x then y::dj x r else if y=x then y::r else x::y::r
def nS (s:Sp)(o:List Rat):Nat->List Rat
 | 0=>o
 | 1=>if s.a then o else dj s.lo o
 | _=>if s.b then (if s.a then o else dj s.lo o) else dj s.hi (if s.a then o else dj s.lo o)
def endsL (ss:List Sp):List Rat:=ss.foldl (fun o s=>nS s o 2) []
theorem Cm {x q:Rat}:∀{o:List Rat},q∈dj x o->q=x\/q∈o:=by
 intro o
 induction o with
 | nil=>intro h;simp [dj] at h;exact .inl h
 | cons y r ih=>
  unfold dj;split
  ·intro h;rcases List.mem_cons.1 h with h|h
   ·exact .inr (by simp [h])
   ·rcases ih h with h|h
    ·exact .inl h
    ·exact .inr (by simp [h])
  ·split
   ·exact .inr
   ·intro h;rcases List.mem_cons.1 h with h|h
    ·exact .inl h
    ·exact .inr h
theorem pP {x:Rat}:∀{o:List Rat},(dj x o).length<=o.length+1:=by
 intro o
 induction o with
 | nil=>simp [dj]
 | cons y r ih=>
  unfold dj;split
  ·simp;omega
  ·split<;>simp
theorem HG {s:Sp}{o:List Rat}{y:Nat}(hy:y<=2){q:Rat}(h:q∈nS s o y):q=s.lo\/q=s.hi\/q∈o:=by
 have c:q∈(if s.a then o else dj s.lo o)->q=s.lo\/q=s.hi\/q∈o:=by
  split
  ·exact fun h=>.inr (.inr h)
  ·intro h;rcases Cm h with h|h
   ·exact .inl h
   ·exact .inr (.inr h)
 have:y=0\/y=1\/y=2:=by omega
 rcases this with rfl|rfl|rfl
 ·exact .inr (.inr h)
 ·exact c h
 ·replace h:q∈(if s.b=true then (if s.a=true then o else dj s.lo o) else dj s.hi (if s.a=true then o else dj s.lo o)):=h
  by_cases d:s.b=true
  ·rw [if_pos d] at h;exact c h
  ·rw [if_neg d] at h;rcases Cm h with h|h
   ·exact .inr (.inl h)
   ·exact c h
theorem G4 {ss:List Sp}{q:Rat}(h:q∈endsL ss):∃s∈ss,q=s.lo\/q=s.hi:=by
 have:∀(ss:List Sp)(o:List Rat),q∈(ss.foldl (fun o s=>nS s o 2) o)->q∈o\/∃s∈ss,q=s.lo\/q=s.hi:=by
  intro ss
  induction ss with
  | nil=>exact fun o h=>.inl h
  | cons s r ih=>
   intro o h;rcases ih _ h with h|⟨t,a,h⟩
   ·rcases HG (Nat.le_refl 2) h with h|h|h
    ·exact .inr ⟨s,by simp,.inl h⟩
    ·exact .inr ⟨s,by simp,.inr h⟩
    ·exact .inl h
   ·exact .inr ⟨t,by simp [a],h⟩
 rcases this ss [] h with h|h
 ·simp at h
 ·exact h
theorem cmpQ_neg {a b:Rat}:cmpQ a b<0↔a<b:=by
 rcases dO a b with ⟨h,e⟩|⟨h,e⟩|⟨h,e⟩<;>rw [e]<;>constructor<;>intro h'<;>first|exact h|omega|(exfalso;grind)
def cQ (cuts:List Rat)(i:Nat):Sp:=⟨if 0<i then cuts.getD (i-1) 0 else 0,if i<cuts.length then cuts.getD i 0 else 0,decide (i=0),decide (i=cuts.length)⟩
def vr (out:List Sp)(s:Sp):List Sp:=out.dropLast++[⟨(out.getLastD Sp.zero).lo,s.hi,(out.getLastD Sp.zero).a,s.b⟩]
def cI (cuts:List Rat)(marks:List Bool):Nat->List Sp
 | 0=>[]
 | i+1=>if marks.getD i false=true then (if 0<i/\marks.getD (i-1) false=true/\0<(cI cuts marks i).length then vr (cI cuts marks i) (cQ cuts i) else cI cuts marks i++[cQ cuts i]) else cI cuts marks i
def Cb (cuts:List Rat)(marks:List Bool):List Sp:=cI cuts marks marks.length
theorem EJ {out:List Sp}{s:Sp}(h:0<out.length):(vr out s).length=out.length:=by
 unfold vr;rw [List.length_append,List.length_dropLast];simp;omega
theorem Ha (cuts:List Rat)(marks:List Bool)(i:Nat):(cI cuts marks i).length<=i:=by
 induction i with
 | zero=>simp [cI]
 | succ i ih=>
  unfold cI;split
  ·split
   ·rename_i h;rw [EJ h.2.2];omega
   ·rw [List.length_append];simp;omega
  ·omega
end Go.Proofs.Tryz
namespace Go.Proofs.Tryz
open Go.Eng Go.Big
set_option linter.unusedSectionVars false
theorem Oc {a b:List Rat}{i:Nat}(h:a.length<=i):(a++b).getD i 0=b.getD (i-a.length) 0:=by
 rw [List.getD_eq_getElem?_getD,List.getElem?_append_right h,List.getD_eq_getElem?_getD]
theorem Ob {a b:List Rat}{i:Nat}(h:i<a.length):(a++b).getD i 0=a.getD i 0:=by
 rw [List.getD_eq_getElem?_getD,List.getElem?_append_left h,List.getD_eq_getElem?_getD]
def asc (c:List Rat):Prop:=c.Pairwise (·< ·)
theorem vk {x q:Rat}:∀{o:List Rat},q∈dj x o↔q=x\/q∈o:=by
 intro o
 induction o with
 | nil=>simp [dj]
 | cons y r ih=>
  unfold dj;split
  ·rw [List.mem_cons,ih,List.mem_cons];constructor
   ·rintro (h|h|h)
    ·exact .inr (.inl h)
    ·exact .inl h
    ·exact .inr (.inr h)
   ·rintro (h|h|h)
    ·exact .inr (.inl h)
    ·exact .inl h
    ·exact .inr (.inr h)
  ·split
   ·rename_i e;subst e;exact ⟨.inr,fun h=>h.elim (fun e=>by subst e;simp) id⟩
   ·rw [List.mem_cons]
theorem Cl {x:Rat}:∀{o:List Rat},asc o->asc (dj x o):=by
 intro o
 induction o with
 | nil=>intro _;simp [dj,asc]
 | cons y r ih=>
  intro h;obtain ⟨b,d⟩:=List.pairwise_cons.1 h;unfold dj;split
  ·rename_i c;refine List.pairwise_cons.2 ⟨fun q a=>?_,ih d⟩;rcases vk.1 a with rfl|a
   ·exact c
   ·exact b q a
  ·split
   ·exact h
   ·rename_i e f;refine List.pairwise_cons.2 ⟨fun q a=>?_,h⟩;rcases List.mem_cons.1 a with rfl|a
    ·grind
    ·have:=b q a;grind
def Sp.eu (s:Sp)(q:Rat):Prop:=(s.a=false/\q=s.lo)\/(s.b=false/\q=s.hi)
theorem Kj {s:Sp}{o:List Rat}{q:Rat}:q∈nS s o 2↔s.eu q\/q∈o:=by
 show q∈(if s.b=true then (if s.a=true then o else dj s.lo o) else dj s.hi (if s.a=true then o else dj s.lo o))↔_;unfold Sp.eu;cases s.a<;>cases s.b<;>simp [vk]
 ·constructor
  ·rintro (h|h|h)
   ·exact .inl (.inr h)
   ·exact .inl (.inl h)
   ·exact .inr h
  ·rintro ((h|h)|h)
   ·exact .inr (.inl h)
   ·exact .inl h
   ·exact .inr (.inr h)
theorem Ki {s:Sp}{o:List Rat}(h:asc o):asc (nS s o 2):=by
 show asc (if s.b=true then (if s.a=true then o else dj s.lo o) else dj s.hi (if s.a=true then o else dj s.lo o));cases s.a<;>cases s.b<;>simp [Cl,h]
theorem yW:∀(ss:List Sp)(o:List Rat),(asc o->asc (ss.foldl (fun o s=>nS s o 2) o))/\∀q,q∈(ss.foldl (fun o s=>nS s o 2) o)↔q∈o\/∃s∈ss,s.eu q:=by
 intro ss
 induction ss with
 | nil=>exact fun o=>⟨id,fun q=>by simp⟩
 | cons s r ih=>
  intro o;refine ⟨fun h=>(ih _).1 (Ki h),fun q=>?_⟩;rw [List.foldl_cons,(ih _).2,Kj];constructor
  ·rintro ((h|h)|⟨t,a,b⟩)
   ·exact .inr ⟨s,by simp,h⟩
   ·exact .inl h
   ·exact .inr ⟨t,by simp [a],b⟩
  ·rintro (h|⟨t,a,b⟩)
   ·exact .inl (.inr h)
   ·rcases List.mem_cons.1 a with rfl|a
    ·exact .inl (.inl b)
    ·exact .inr ⟨t,a,b⟩
theorem B8 (ss:List Sp):asc (endsL ss):=(yW ss []).1 List.Pairwise.nil
theorem B9 {ss:List Sp}{q:Rat}:q∈endsL ss↔∃s∈ss,s.eu q:=by
 have:=(yW ss []).2 q;simpa [endsL] using this
section
variable {c:List Rat} (h:asc c)
include h
theorem qM {i j:Nat}(DO:i<j)(hj:j<c.length):c.getD i 0<c.getD j 0:=by
 rw [kV (by omega),kV hj];exact List.pairwise_iff_getElem.1 h i j (by omega) hj DO
theorem H_ {i j:Nat}(DO:i<=j)(hj:j<c.length):c.getD i 0<=c.getD j 0:=by
 rcases Nat.lt_or_ge i j with a|a
 ·have:=qM h a hj;grind
 ·obtain rfl:i=j:=by omega
  grind
omit h
theorem Ly {i:Nat}{t:Rat}:(cQ c i).inn t↔(0<i->c.getD (i-1) 0<t)/\(i≠c.length->i<c.length->t<c.getD i 0)/\(i≠c.length->c.length<i->t<0):=by
 unfold cQ Sp.inn;simp only [decide_eq_true_eq];constructor
 ·rintro ⟨d,a⟩;refine ⟨fun b=>?_,fun f e=>?_,fun f e=>?_⟩
  ·rcases d with d|d
   ·omega
   ·rwa [if_pos b] at d
  ·rcases a with a|a
   ·exact absurd a f
   ·rwa [if_pos e] at a
  ·rcases a with a|a
   ·exact absurd a f
   ·rwa [if_neg (by omega)] at a
 ·rintro ⟨d,a,f⟩;refine ⟨?_,?_⟩
  ·by_cases b:i=0
   ·exact .inl b
   ·rw [if_pos (by omega)];exact .inr (d (by omega))
  ·by_cases b:i=c.length
   ·exact .inl b
   ·refine .inr ?_;by_cases e:i<c.length
    ·rw [if_pos e];exact a b e
    ·rw [if_neg e];exact f b (by omega)
theorem mg {i:Nat}(hi:i<=c.length){t:Rat}:(cQ c i).inn t↔(0<i->c.getD (i-1) 0<t)/\(i<c.length->t<c.getD i 0):=by
 rw [Ly];exact ⟨fun ⟨a,b,_⟩=>⟨a,fun h=>b (by omega) h⟩,fun ⟨a,b⟩=>⟨a,fun _ h=>b h,fun _ h=>by omega⟩⟩
include h
theorem IL {i:Nat}(hi:i<=c.length):(cQ c i).good:=by
 refine ⟨⟨fun e=>?_,fun e=>?_⟩,Sp.ic.2 ?_⟩
 ·have e:i=0:=of_decide_eq_true e;subst e;rfl
 ·have e:i=c.length:=of_decide_eq_true e;subst e;exact if_neg (Nat.lt_irrefl _)
 ·by_cases a:i=0
  ·exact .inl (decide_eq_true a)
  ·by_cases b:i=c.length
   ·exact .inr (.inl (decide_eq_true b))
   ·refine .inr (.inr ?_);show (if 0<i then c.getD (i-1) 0 else 0)<(if i<c.length then c.getD i 0 else 0);rw [if_pos (by omega),if_pos (by omega)];exact qM h (by omega) (by omega)
theorem Oa {t:Rat}(ht:t∉c):∃i,i<=c.length/\(cQ c i).inn t:=by
 have key:∀k,k<=c.length->(∀j,j<k->c.getD j 0<t)\/∃i,i<=c.length/\(cQ c i).inn t:=by
  intro k
  induction k with
  | zero=>exact fun _=>.inl fun j b=>absurd b (Nat.not_lt_zero j)
  | succ k ih=>
   intro h;rcases ih (by omega) with g|g
   ·by_cases a:c.getD k 0<t
    ·refine .inl fun j b=>?_;rcases Nat.lt_or_ge j k with d|d
     ·exact g j d
     ·obtain rfl:j=k:=by omega
      exact a
    ·refine .inr ⟨k,by omega,(mg (by omega)).2 ⟨fun e=>g _ (by omega),fun _=>?_⟩⟩
     have f:c.getD k 0≠t:=by
      rintro rfl;rw [kV (by omega)] at ht;exact ht (List.getElem_mem _)
     grind
   ·exact .inr g
 rcases key c.length (Nat.le_refl _) with g|g
 ·exact ⟨c.length,Nat.le_refl _,(mg (Nat.le_refl _)).2 ⟨fun e=>g _ (by omega),fun e=>by omega⟩⟩
 ·exact g
theorem mh {i:Nat}(hi:i<=c.length){t u x:Rat}(ht:(cQ c i).inn t)(hu:(cQ c i).inn u)(hx:x∈c):(x<t↔x<u)/\(t<x↔u<x)/\x≠t:=by
 obtain ⟨t1,t2⟩:=(mg hi).1 ht;obtain ⟨d,e⟩:=(mg hi).1 hu;obtain ⟨j,b,rfl⟩:=List.getElem_of_mem hx;rw [←kV b];rcases Nat.lt_or_ge j i with a|a
 ·have:=H_ h (show j<=i-1 by omega) (by omega);have:=t1 (by omega);have:=d (by omega);grind
 ·have:=H_ h a b;have:=t2 (by omega);have:=e (by omega);grind
theorem JT {i:Nat}(hi:i<=c.length):(cQ c i).inn ((jx c).getD i 0):=by
 rw [mg hi];unfold jx;by_cases a:c.length=0
 ·exact ⟨fun _=>by omega,fun _=>by omega⟩
 ·rw [if_neg a];have b:=CH c (show 1<=c.length by omega);by_cases d:i=c.length
  ·subst d;rw [Oc (by omega),b,Nat.sub_self];refine ⟨fun _=>?_,fun _=>by omega⟩;show _<c.getD (c.length-1) 0+((1:Int):Rat);grind
  ·rw [Ob (by omega)];unfold L9;by_cases e:i=0
   ·subst e;refine ⟨fun _=>by omega,fun _=>?_⟩;show c.getD 0 0-((1:Int):Rat)<_;grind
   ·obtain ⟨m,rfl⟩:∃m,i=m+1:=⟨i-1,by omega⟩;have:=qM h (show m<m+1 by omega) (by omega)
    have f:((List.range (c.length-1)).map fun k=>(c.getD k 0+c.getD (k+1) 0)*((2:Int):Rat)⁻¹).getD m 0=(c.getD m 0+c.getD (m+1) 0)*((2:Int):Rat)⁻¹:=by
     rw [List.getD_eq_getElem?_getD,List.getElem?_map,List.getElem?_range (by omega)];rfl
    rw [List.getD_cons_succ,f,Nat.add_sub_cancel];generalize c.getD m 0=x at *;generalize c.getD (m+1) 0=y at *;exact ⟨fun _=>by grind,fun _=>by grind⟩
omit h
theorem kZ:(jx c).length=c.length+1:=by
 unfold jx;by_cases a:c.length=0
 ·rw [if_pos a,a];rfl
 ·rw [if_neg a,List.length_append,CH c (by omega)];rfl
end
section
variable {c:List Rat} {ms:List Bool}
structure FI (c:List Rat) (ms:List Bool) (i:Nat):Prop where
 r:w_ (cI c ms i)
 mem:∀t,t∉c->(rm (cI c ms i) t↔∃j,j<i/\ms.getD j false=true/\(cQ c j).inn t)
 top:0<i->i<=c.length->∀s∈cI c ms i,s.b=false/\s.hi<=c.getD (i-1) 0
 str:0<i->i<=c.length->ms.getD (i-1) false=false->∀s∈cI c ms i,s.hi<c.getD (i-1) 0
 last:0<i->i<=c.length->ms.getD (i-1) false=true->∃l0 l,cI c ms i=l0++[l]/\l.hi=c.getD (i-1) 0
theorem rq {ss:List Sp}{s:Sp}{t:Rat}:rm (ss++[s]) t↔rm ss t\/s.inn t:=by
 unfold rm;constructor
 ·rintro ⟨x,a,b⟩;rcases List.mem_append.1 a with a|a
  ·exact .inl ⟨x,a,b⟩
  ·obtain rfl:x=s:=by simpa using a
   exact .inr b
 ·rintro (⟨x,a,b⟩|b)
  ·exact ⟨x,by simp [a],b⟩
  ·exact ⟨s,by simp,b⟩
theorem pW {ss:List Sp}{s:Sp}(h:w_ ss)(hs:s.good)(hb:∀x∈ss,x.Ie s):w_ (ss++[s]):=by
 refine ⟨fun x a=>?_,List.pairwise_append.2 ⟨h.2,by simp,fun x a y b=>?_⟩⟩
 ·rcases List.mem_append.1 a with a|a
  ·exact h.1 x a
  ·obtain rfl:x=s:=by simpa using a
   exact hs
 ·obtain rfl:y=s:=by simpa using b
  exact hb x a
theorem CW {ss:List Sp}{s:Sp}(h:w_ (ss++[s])):w_ ss/\s.good/\∀x∈ss,x.Ie s:=by
 obtain ⟨b,-,c⟩:=List.pairwise_append.1 h.2;exact ⟨⟨fun x a=>h.1 x (by simp [a]),b⟩,h.1 s (by simp),fun x a=>c x a s (by simp)⟩
theorem An {P:Nat->Prop}{i:Nat}:(∃j,j<i+1/\P j)↔(∃j,j<i/\P j)\/P i:=by
 constructor
 ·rintro ⟨j,b,a⟩;rcases Nat.lt_or_ge j i with h|h
  ·exact .inl ⟨j,h,a⟩
  ·obtain rfl:j=i:=by omega
   exact .inr a
 ·rintro (⟨j,b,a⟩|a)
  ·exact ⟨j,by omega,a⟩
  ·exact ⟨i,by omega,a⟩
theorem Lu (h:asc c){i:Nat}(hi:i<=c.length)(F:FI c ms i):FI c ms (i+1):=by
 have A:=IL h hi;have B:i<c.length->(cQ c i).hi=c.getD i 0:=fun j=>if_pos j;have C:0<i->(cQ c i).lo=c.getD (i-1) 0:=fun j=>if_pos j;have D:0<i->(cQ c i).a=false:=fun j=>decide_eq_false (by omega);have H:i<c.length->(cQ c i).b=false:=fun j=>decide_eq_false (by omega);by_cases hm:ms.getD i false=true
 ·have y:¬ms.getD i false=false:=by rw [hm];decide
  by_cases j:0<i/\ms.getD (i-1) false=true
  ·obtain ⟨I,l,el,G⟩:=F.last j.1 hi j.2
   have e:cI c ms (i+1)=I++[⟨l.lo,(cQ c i).hi,l.a,(cQ c i).b⟩]:=by
    rw [cI,if_pos hm,if_pos ⟨j.1,j.2,by rw [el];simp⟩,el];simp [vr]
   have J:=F.r;rw [el] at J;obtain ⟨f1,f2,f3⟩:=CW J;have m:l.b=false:=(F.top j.1 hi l (by rw [el];simp)).1
   have u:(⟨l.lo,(cQ c i).hi,l.a,(cQ c i).b⟩:Sp).good:=by
    refine ⟨⟨f2.1.1,A.1.2⟩,Sp.ic.2 ?_⟩;dsimp only
    cases ha:l.a with
    | true=>exact .inl rfl
    | false=>
     cases w:(cQ c i).b with
     | true=>exact .inr (.inl rfl)
     | false=>
      have n:=nP f2.2 ha m;have q:=nP A.2 (D j.1) w;rw [C j.1] at q;exact .inr (.inr (by grind))
   refine ⟨?_,fun t v=>?_,fun _ d s f=>?_,fun _ d k=>?_,fun _ d _=>?_⟩
   ·rw [e];exact pW f1 u fun x k=>⟨(f3 x k).1,(f3 x k).2.1,(f3 x k).2.2⟩
   ·rw [e,An,←F.mem t v,rq,el,rq,or_assoc];refine or_congr Iff.rfl ?_
    have L:(cQ c i).inn t↔c.getD (i-1) 0<t/\((cQ c i).b=true\/t<(cQ c i).hi):=by
     unfold Sp.inn;rw [D j.1,C j.1];simp
    have K:t≠c.getD (i-1) 0:=by
     rintro rfl;rw [kV (by omega)] at v;exact v (List.getElem_mem _)
    rw [L];show (l.a=true\/l.lo<t)/\((cQ c i).b=true\/t<(cQ c i).hi)↔((l.a=true\/l.lo<t)/\(l.b=true\/t<l.hi))\/_;rw [G,m]
    have n:l.a=true\/l.lo<c.getD (i-1) 0:=by
     cases ha:l.a with
     | true=>exact .inl rfl
     | false=>have:=nP f2.2 ha m;rw [G] at this;exact .inr this
    have q:(cQ c i).b=true\/c.getD (i-1) 0<(cQ c i).hi:=by
     cases w:(cQ c i).b with
     | true=>exact .inl rfl
     | false=>have:=nP A.2 (D j.1) w;rw [C j.1] at this;exact .inr this
    constructor
    ·rintro ⟨E,o⟩;by_cases g:t<c.getD (i-1) 0
     ·exact .inl ⟨E,.inr g⟩
     ·exact .inr ⟨hm,by grind,o⟩
    ·rintro (⟨E,o⟩|⟨-,E,o⟩)
     ·have N:t<c.getD (i-1) 0:=by
       rcases o with o|o
       ·cases o
       ·exact o
      exact ⟨E,q.imp_right fun q=>by grind⟩
     ·exact ⟨n.imp_right fun n=>by grind,o⟩
   ·rw [e] at f;rw [Nat.add_sub_cancel];rcases List.mem_append.1 f with f|f
    ·have b:=f3 s f;refine ⟨b.1,?_⟩;have n:l.lo<c.getD (i-1) 0:=by have:=nP f2.2 b.2.1 m;rwa [G] at this
     have q:=qM h (show i-1<i by omega) d;have:=b.2.2;grind
    ·obtain rfl:s=_:=by simpa using f
     refine ⟨H d,?_⟩;show (cQ c i).hi<=_;rw [B d];grind
   ·rw [Nat.add_sub_cancel] at k;exact absurd k y
   ·rw [Nat.add_sub_cancel];exact ⟨I,_,e,B d⟩
  ·have e:cI c ms (i+1)=cI c ms i++[cQ c i]:=by
    rw [cI,if_pos hm,if_neg (fun g=>j ⟨g.1,g.2.1⟩)]
   have w:∀x∈cI c ms i,x.Ie (cQ c i):=fun x k=>by
    by_cases p:0<i
    ·have M:ms.getD (i-1) false=false:=by
      cases hq:ms.getD (i-1) false with
      | false=>rfl
      | true=>exact absurd ⟨p,hq⟩ j
     exact ⟨(F.top p hi x k).1,D p,by rw [C p];exact F.str p hi M x k⟩
    ·obtain rfl:i=0:=by omega
     cases k
   refine ⟨?_,fun t v=>?_,fun _ d s f=>?_,fun _ d k=>?_,fun _ d _=>?_⟩
   ·rw [e];exact pW F.r A w
   ·rw [e,An,←F.mem t v,rq];exact or_congr Iff.rfl ⟨fun g=>⟨hm,g⟩,fun g=>g.2⟩
   ·rw [e] at f;rw [Nat.add_sub_cancel];rcases List.mem_append.1 f with f|f
    ·refine ⟨(w s f).1,?_⟩;by_cases p:0<i
     ·have n:=(F.top p hi s f).2;have q:=qM h (show i-1<i by omega) d;grind
     ·obtain rfl:i=0:=by omega
      cases f
    ·obtain rfl:s=_:=by simpa using f
     refine ⟨H d,?_⟩;rw [B d];grind
   ·rw [Nat.add_sub_cancel] at k;exact absurd k y
   ·rw [Nat.add_sub_cancel];exact ⟨_,_,e,B d⟩
 ·have e:cI c ms (i+1)=cI c ms i:=by rw [cI,if_neg hm]
  have z:i<c.length->∀s∈cI c ms i,s.b=false/\s.hi<c.getD i 0:=fun d s f=>by
   by_cases p:0<i
   ·obtain ⟨n,q⟩:=F.top p hi s f;have O:=qM h (show i-1<i by omega) d;exact ⟨n,by grind⟩
   ·obtain rfl:i=0:=by omega
    cases f
  refine ⟨by rw [e];exact F.r,fun t v=>?_,fun _ d s f=>?_,fun _ d k s f=>?_,fun _ d k=>?_⟩
  ·rw [e,An,F.mem t v];exact ⟨.inl,fun g=>g.elim id fun g=>absurd g.1 hm⟩
  ·rw [e] at f;rw [Nat.add_sub_cancel];obtain ⟨n,q⟩:=z d s f;exact ⟨n,by grind⟩
  ·rw [e] at f;rw [Nat.add_sub_cancel];exact (z d s f).2
  ·rw [Nat.add_sub_cancel] at k;exact absurd k hm
theorem fi (h:asc c):∀{i:Nat},i<=c.length+1->FI c ms i:=by
 intro i
 induction i with
 | zero=>exact fun _=>⟨⟨(fun _ h=>by cases h),List.Pairwise.nil⟩,(fun t _=>⟨(fun ⟨_,h,_⟩=>by cases h),(fun ⟨_,h,_⟩=>absurd h (Nat.not_lt_zero _))⟩),(fun h=>absurd h (Nat.lt_irrefl _)),(fun h=>absurd h (Nat.lt_irrefl _)),(fun h=>absurd h (Nat.lt_irrefl _))⟩
 | succ i ih=>exact fun a=>Lu h (by omega) (ih (by omega))
end
def Sp.innB (s:Sp)(t:Rat):Bool:=(s.a||decide (s.lo<t))&&(s.b||decide (t<s.hi))
def inB (ss:List Sp)(t:Rat):Bool:=ss.any fun s=>s.innB t
theorem innB_iff {s:Sp}{t:Rat}:s.innB t=true↔s.inn t:=by unfold Sp.innB Sp.inn;simp
theorem jt {ss:List Sp}{t:Rat}:inB ss t=true↔rm ss t:=by
 unfold inB rm;rw [List.any_eq_true];exact ⟨fun ⟨s,a,b⟩=>⟨s,a,innB_iff.1 b⟩,fun ⟨s,a,b⟩=>⟨s,a,innB_iff.2 b⟩⟩
theorem zV {a b:Bool}(h:a=true↔b=true):a=b:=by cases a<;>cases b<;>simp at h<;>rfl
theorem FK {ss:List Sp}{t:Rat}(h:∀s∈ss,¬s.eu t):(G0 ss t==2)=inB ss t:=by
 induction ss with
 | nil=>rfl
 | cons s r d=>
  have d:=d fun x k=>h x (by simp [k]);have g:=h s (by simp)
  have c:s.innB t=decide (Ef (s.la t) (s.lb t)=2)/\(Ef (s.la t) (s.lb t)≠0->Ef (s.la t) (s.lb t)=2):=by
   unfold Sp.eu at g;unfold Sp.innB Sp.la Sp.lb Ef;rcases dO t s.lo with ⟨i,f⟩|⟨i,f⟩|⟨i,f⟩<;>rcases dO t s.hi with ⟨h2,e2⟩|⟨h2,e2⟩|⟨h2,e2⟩<;>rw [f,e2]<;>cases ha:s.a<;>cases c:s.b<;>simp [ha,c] at g⊢<;> grind
  have e:inB (s::r) t=(s.innB t||inB r t):=rfl;rw [e,←d,c.1];by_cases j:Ef (s.la t) (s.lb t)=0
  ·simp [G0,j]
  ·have:=c.2 j;simp [G0,this]
def opB (op:Int)(x y:Bool):Bool:=if op=2 then x&&y else if op=3 then x&&!y else if op=4 then x != y else x||y
def oE (op:Int)(a b:List Sp)(c:List Rat):List Bool:=(jx c).map fun t=>opB op (G0 a t==2) (G0 b t==2)
def combL (op:Int)(a b:List Sp):List Sp:=Cb (endsL (a++b)) (oE op a b (endsL (a++b)))
theorem kj (op:Int)(a b:List Sp)(c:List Rat):(oE op a b c).length=c.length+1:=by unfold oE;rw [List.length_map,kZ]
theorem comb_reg (op:Int)(a b:List Sp):w_ (combL op a b):=by
 unfold combL Cb;rw [kj];exact (fi (B8 _) (Nat.le_refl _)).r
theorem FP {ss:List Sp}{c:List Rat}(h:asc c)(hc:∀s∈ss,∀q,s.eu q->q∈c){i:Nat}(hi:i<=c.length){t u:Rat}(ht:(cQ c i).inn t)(hu:(cQ c i).inn u):inB ss t=inB ss u:=by
 induction ss with
 | nil=>rfl
 | cons s r f=>
  have f:=f fun x g=>hc x (by simp [g]);have e:∀t,inB (s::r) t=(s.innB t||inB r t):=fun _=>rfl;rw [e,e,f];congr 1;have d:=hc s (by simp);unfold Sp.innB;cases ha:s.a<;>cases hb:s.b<;>simp
  ·have j:=mh h hi ht hu (d s.lo (.inl ⟨ha,rfl⟩));have k:=mh h hi ht hu (d s.hi (.inr ⟨hb,rfl⟩));rw [decide_eq_decide.2 j.1,decide_eq_decide.2 k.2.1]
  ·exact (mh h hi ht hu (d s.lo (.inl ⟨ha,rfl⟩))).1
  ·exact (mh h hi ht hu (d s.hi (.inr ⟨hb,rfl⟩))).2.1
theorem comb_inB (op:Int)(a b:List Sp){t:Rat}(ht:t∉endsL (a++b)):inB (combL op a b) t=opB op (inB a t) (inB b t):=by
 have g:=B8 (a++b);have m:∀s∈a++b,∀q,s.eu q->q∈endsL (a++b):=fun s d q r=>B9.2 ⟨s,d,r⟩;unfold combL Cb;generalize endsL (a++b)=c at ht g m;rw [kj];have o:∀s∈a,∀q,s.eu q->q∈c:=fun s d=>m s (by simp [d]);have p:∀s∈b,∀q,s.eu q->q∈c:=fun s d=>m s (by simp [d])
 have mk:∀j,j<=c.length->(cQ c j).inn t->(oE op a b c).getD j false=opB op (inB a t) (inB b t):=fun j h k=>by
  have l:=JT g h;have f:(jx c).getD j 0∉c:=fun hm=>(mh g h l l hm).2.2 rfl;unfold oE;rw [List.getD_eq_getElem?_getD,List.getElem?_map,List.getElem?_eq_getElem (by rw [kZ];omega)];have e:(jx c)[j]'(by rw [kZ];omega)=(jx c).getD j 0:=by rw [List.getD_eq_getElem?_getD,List.getElem?_eq_getElem (by rw [kZ];omega)];rfl
  simp only [Option.map_some,Option.getD_some,e];rw [FK (fun s d he=>f (o s d _ he)),FK (fun s d he=>f (p s d _ he)),FP g o h l k,FP g p h l k]
 refine zV ?_;rw [jt,(fi g (Nat.le_refl _)).mem t ht];constructor
 ·rintro ⟨j,h,n,u⟩;rw [←mk j (by omega) u];exact n
 ·intro n;obtain ⟨i,v,k⟩:=Oa g ht;exact ⟨i,by omega,by rw [mk i v k];exact n,k⟩
theorem reg_eq {xs ys:List Sp}(E:List Rat)(hx:w_ xs)(hy:w_ ys)(h:∀t,t∉E->inB xs t=inB ys t):xs=ys:=
 E3 (E:=E) hx hy fun t a=>by rw [←jt,←jt,h t a]
end Go.Proofs.Tryz
namespace Go.Proofs.Tryz
open Go.Eng Go.Big
def Sp.ins (s:Sp)(t:Rat):Bool:=(s.a||decide (cmpQ s.lo t<0))&&(s.b||decide (cmpQ s.hi t>0))
theorem BK {V:View}{v w:Value}{s:Sp}{t:Rat}(h:lU V v s)(ht:RR V w t){k:Nat}(hs:s.sz k)(st:Sz k t)(hk:2*k<1099511627776) :
  ae prog 109 #[v,w] V fun r V'=>r=.bool (s.ins t):=by
 have c:=ht;obtain ⟨n,o,p,u,x,q,rfl,y,i⟩:=h;obtain ⟨t0,t1,t2,rfl⟩:=ht.shape;refine rG n o p u x q s.a s.b t0 t1 t2 V _ ⟨fun e=>⟨fun d A B=>by simp [Sp.ins,e,d],fun d V2 j=>(eI (i.le j) (c.le j) hs.2 st (by omega)).mono ?_⟩,fun e C f=>(eI (y.le f) (c.le f) hs.1 st (by omega)).mono ?_⟩
 ·rintro r D E rfl;exact ⟨_,rfl,fun F G=>by simp [Sp.ins,e,d]⟩
 ·rintro r H l rfl;refine ⟨_,rfl,fun g=>⟨fun d I J=>by simp [Sp.ins,e,d,of_decide_eq_true g],fun d K m=>(eI (i.le (f.trans (l.trans m))) (c.le (f.trans (l.trans m))) hs.2 st (by omega)).mono ?_⟩,fun g L M=>by simp [Sp.ins,e,of_decide_eq_false g]⟩;rintro r N O rfl;exact ⟨_,rfl,fun P z=>by simp [Sp.ins,e,d,of_decide_eq_true g]⟩
end Go.Proofs.Tryz
namespace Go.Proofs.Tryz
open Go.Big
section
variable {α:Type}
structure Ord (c:α->α->Int):Prop where
 N0:∀a b,c a b<0->¬c b a<0
 tr:∀a b d,¬c a b<0->¬c b d<0->¬c a d<0
variable {c:α->α->Int}
theorem Ord.le (h:Ord c){a b:α}(l:c a b<0):¬c b a<0:=h.N0 a b l
theorem Ord.refl (h:Ord c)(a:α):¬c a a<0:=fun l=>h.N0 a a l l
def nT (d:α)(l:List α)(i j:Nat):List α:=(l.set i (l.getD j d)).set j (l.getD i d)
variable {d:α}
theorem fF {l:List α}{i j:Nat}:(nT d l i j).length=l.length:=by simp [nT]
theorem pJ {l:List α}{i k:Nat}{x:α}(hi:i<l.length):(l.set i x).getD k d=if k=i then x else l.getD k d:=by
 simp only [List.getD_eq_getElem?_getD,List.getElem?_set];by_cases h:k=i
 ·subst h;simp [hi]
 ·have:¬i=k:=fun e=>h e.symm;simp [h,this]
theorem oL {l:List α}{i j k:Nat}(hi:i<l.length)(hj:j<l.length):(nT d l i j).getD k d=if k=j then l.getD i d else if k=i then l.getD j d else l.getD k d:=by
 unfold nT;rw [pJ (by simpa using hj),pJ hi]
theorem Kp {l:List α}{i j:Nat}(hi:i<l.length)(hj:j<l.length):(nT d l i j).Perm l:=by
 have h:=Array.swap_perm (xs:=l.toArray) (i:=i) (j:=j) (by simpa using hi) (by simpa using hj)
 have e:(l.toArray.swap i j (by simpa using hi) (by simpa using hj)).toList=nT d l i j:=by
  simp [Array.swap,nT,List.getD_eq_getElem?_getD,hi,hj]
 have:=h.toList;rw [e] at this;simpa using this
structure lB (d:α) (l m:List α) (a b:Nat):Prop where
 len:m.length=l.length
 out:∀k,¬(a<=k/\k<b)->m.getD k d=l.getD k d
 mem:∀k,a<=k->k<b->∃k',a<=k'/\k'<b/\m.getD k d=l.getD k' d
 perm:m.Perm l
theorem lB.refl (l:List α)(a b:Nat):lB d l l a b:=⟨rfl,fun _ _=>rfl,fun k h h'=>⟨k,h,h',rfl⟩,.refl _⟩
theorem lB.trans {l m n:List α}{a b:Nat}(h:lB d l m a b)(g:lB d m n a b):lB d l n a b:=
 ⟨g.len.trans h.len,fun k f=>(g.out k f).trans (h.out k f),fun k i j=>by
  obtain ⟨o,p,q,e⟩:=g.mem k i j;obtain ⟨c,r,s,t⟩:=h.mem o p q;exact ⟨c,r,s,e.trans t⟩,g.perm.trans h.perm⟩
theorem lB.wide {l m:List α}{a b a' b':Nat}(h:lB d l m a b)(ha:a'<=a)(hb:b<=b'):lB d l m a' b':=
 ⟨h.len,fun k c=>h.out k (by omega),fun k f g=>by
  by_cases c:a<=k/\k<b
  ·obtain ⟨i,j,n,e⟩:=h.mem k c.1 c.2;exact ⟨i,by omega,by omega,e⟩
  ·exact ⟨k,f,g,h.out k c⟩,h.perm⟩
theorem lB.nT {l:List α}{a b i j:Nat}(hi:a<=i)(hi':i<b)(hj:a<=j)(hj':j<b)(hb:b<=l.length):lB d l (nT d l i j) a b:=by
 refine ⟨fF,fun k f=>?_,fun k c e=>?_,Kp (by omega) (by omega)⟩
 ·rw [oL (by omega) (by omega),if_neg (by omega),if_neg (by omega)]
 ·rw [oL (by omega) (by omega)];split
  ·exact ⟨i,hi,hi',rfl⟩
  ·split
   ·exact ⟨j,hj,hj',rfl⟩
   ·exact ⟨k,c,e,rfl⟩
def pf (c:α->α->Int)(d:α)(l:List α)(a b:Nat):Prop:=∀p q,a<=p->p<q->q<b->¬c (l.getD q d) (l.getD p d)<0
theorem pf.short {l:List α}{a b:Nat}(h:b<=a+1):pf c d l a b:=fun p q e f g=>by omega
theorem pf.step (ho:Ord c){l:List α}{a b:Nat}(h:pf c d l a b)(h0:a<b)(hb:¬c (l.getD b d) (l.getD (b-1) d)<0):pf c d l a (b+1):=by
 intro p q f g j;by_cases e:q=b
 ·subst e;by_cases i:p=q-1
  ·subst i;exact hb
  ·exact ho.tr _ _ _ hb (h p (q-1) f (by omega) (by omega))
 ·exact h p q f g (by omega)
def KF (c:α->α->Int)(d:α)(l:List α)(a i j:Nat):Prop:=∀p q,a<=p->p<q->q<=i->q≠j->¬c (l.getD q d) (l.getD p d)<0
theorem KF.start {l:List α}{a i:Nat}(h:pf c d l a i):KF c d l a i i:=fun p q b e f g=>h p q b e (by omega)
theorem KF.done (ho:Ord c){l:List α}{a i j:Nat}(h:KF c d l a i j)(hji:j<=i)(hs:j<=a\/¬c (l.getD j d) (l.getD (j-1) d)<0):pf c d l a (i+1):=by
 intro p q b f k;by_cases e:q=j
 ·subst e;rcases hs with hs|hs
  ·omega
  ·by_cases g:p=q-1
   ·subst g;exact hs
   ·exact ho.tr _ _ _ hs (h p (q-1) b (by omega) (by omega) (by omega))
 ·exact h p q b f (by omega) e
theorem KF.move (ho:Ord c){l:List α}{a i j:Nat}(h:KF c d l a i j)(hj:a<j)(hji:j<=i)(hi:i<l.length)(hl:c (l.getD j d) (l.getD (j-1) d)<0):KF c d (nT d l j (j-1)) a i (j-1):=by
 intro p q f n e o;have g:=fun k=>oL (d:=d) (l:=l) (i:=j) (j:=j-1) (k:=k) (by omega) (by omega);rw [g,g];by_cases eq:q=j
 ·subst eq;rw [if_neg (by omega),if_pos rfl];by_cases b:p=q-1
  ·rw [if_pos b];exact ho.N0 _ _ hl
  ·rw [if_neg b,if_neg (by omega)];exact h p (q-1) f (by omega) (by omega) (by omega)
 ·rw [if_neg o,if_neg eq];by_cases b:p=j-1
  ·rw [if_pos b];exact h j q (by omega) (by omega) e eq
  ·rw [if_neg b];by_cases m:p=j
   ·rw [if_pos m];exact h (j-1) q (by omega) (by omega) e eq
   ·rw [if_neg m];exact h p q f n e eq
def Hp (c:α->α->Int)(d:α)(l:List α)(f lo hi:Nat)(r:Option Nat):Prop:=
 (∀i k,lo<=i->(k=2*i+1\/k=2*i+2)->k<hi->r≠some i->¬c (l.getD (f+i) d) (l.getD (f+k) d)<0) /\
 (∀i j k,r=some j->lo<=i->(j=2*i+1\/j=2*i+2)->(k=2*j+1\/k=2*j+2)->k<hi->¬c (l.getD (f+i) d) (l.getD (f+k) d)<0)
theorem Hp.top (ho:Ord c){l:List α}{f hi:Nat}(h:Hp c d l f 0 hi none):∀k,k<hi->¬c (l.getD f d) (l.getD (f+k) d)<0:=by
 intro k
 induction k using Nat.strongRecOn with
 | ind k ih=>
  intro a;by_cases b:k=0
  ·subst b;exact ho.refl _
  ·exact ho.tr _ _ _ (ih ((k-1) / 2) (by omega) (by omega)) (h.1 ((k-1) / 2) k (by omega) (by omega) a (by simp))
theorem Hp.leaf {l:List α}{f lo hi r:Nat}(h:Hp c d l f lo hi (some r))(hr:hi<=2*r+1):Hp c d l f lo hi none:=
 ⟨fun i k a b g _=>by
  by_cases e:r=i
  ·omega
  ·exact h.1 i k a b g (by simpa using e),fun i j k e=>by cases e⟩
theorem Hp.stop (ho:Ord c){l:List α}{f lo hi r k:Nat}(h:Hp c d l f lo hi (some r))(hk:k=2*r+1\/k=2*r+2)(hm:∀k',(k'=2*r+1\/k'=2*r+2)->k'<hi->¬c (l.getD (f+k) d) (l.getD (f+k') d)<0)
  (hs:¬c (l.getD (f+r) d) (l.getD (f+k) d)<0):Hp c d l f lo hi none:=
 ⟨fun i k' g a b _=>by
  by_cases e:r=i
  ·subst e;exact ho.tr _ _ _ hs (hm k' a b)
  ·exact h.1 i k' g a b (by simpa using e),fun i j k e=>by cases e⟩
theorem Hp.down (ho:Ord c){l:List α}{f lo hi r k:Nat}(h:Hp c d l f lo hi (some r))(hlo:lo<=r)(hl:f+hi<=l.length)(hk:k=2*r+1\/k=2*r+2)(hkh:k<hi)(hm:∀k',(k'=2*r+1\/k'=2*r+2)->k'<hi->¬c (l.getD (f+k) d) (l.getD (f+k') d)<0)
  (hs:c (l.getD (f+r) d) (l.getD (f+k) d)<0):Hp c d (nT d l (f+r) (f+k)) f lo hi (some k):=by
 have a:=fun x=>oL (d:=d) (l:=l) (i:=f+r) (j:=f+k) (k:=x) (by omega) (by omega);refine ⟨fun i k' n b g m=>?_,fun i j k' e n b g m=>?_⟩
 ·have m:¬i=k:=fun e=>m (by rw [e]);rw [a,a,if_neg (show ¬f+i=f+k by omega)];by_cases p:i=r
  ·subst p;rw [if_pos rfl];by_cases o:k'=k
   ·rw [if_pos (by omega)];exact ho.N0 _ _ hs
   ·rw [if_neg (by omega),if_neg (by omega)];exact hm k' b g
  ·rw [if_neg (by omega)];by_cases o:k'=r
   ·subst o;rw [if_neg (by omega),if_pos rfl];exact h.2 i k' k rfl n b hk hkh
   ·rw [if_neg (by omega),if_neg (by omega)];exact h.1 i k' n b g (by simp;omega)
 ·cases e;rw [a,a];have:i=r:=by omega
  subst this;rw [if_neg (by omega),if_pos rfl,if_neg (by omega),if_neg (by omega)];exact h.1 k k' (by omega) g m (by simp;omega)
theorem Hp.more {l:List α}{f lo hi:Nat}(h:Hp c d l f (lo+1) hi none):Hp c d l f lo hi (some lo):=
 ⟨fun i k m a b g=>h.1 i k (by have:¬lo=i:=fun e=>g (by rw [e]);omega) a b (by simp),fun i j k e m a b g=>by cases e;omega⟩
def Sep (c:α->α->Int)(d:α)(l:List α)(a m b:Nat):Prop:=∀p q,a<=p->p<m->m<=q->q<b->¬c (l.getD q d) (l.getD p d)<0
theorem lB.sep {l m:List α}{a b x y z:Nat}(h:lB d l m a b)(hs:Sep c d l x y z)(hc:(x<=a/\b<=y)\/(y<=a/\b<=z)\/b<=x\/z<=a):Sep c d m x y z:=by
 intro p q r s t u
 have key:∀k,∃f,m.getD k d=l.getD f d/\(k=f\/a<=k/\k<b/\a<=f/\f<b):=fun k=>by
  by_cases g:a<=k/\k<b
  ·obtain ⟨f,i,j,e⟩:=h.mem k g.1 g.2;exact ⟨f,e,.inr ⟨g.1,g.2,i,j⟩⟩
  ·exact ⟨k,h.out k g,.inl rfl⟩
 obtain ⟨n,i,j⟩:=key p;obtain ⟨o,f1,f2⟩:=key q;rw [i,f1];exact hs n o (by omega) (by omega) (by omega) (by omega)
theorem lB.asc {l m:List α}{a b x y:Nat}(h:lB d l m a b)(hs:pf c d l x y)(hc:y<=a\/b<=x):pf c d m x y:=by
 intro p q e f g;rw [h.out p (by omega),h.out q (by omega)];exact hs p q e f g
theorem pf.join {l:List α}{a m b:Nat}(h1:pf c d l a m)(h2:pf c d l m b)(h3:Sep c d l a m b):pf c d l a b:=by
 intro p q e f g;by_cases h:q<m
 ·exact h1 p q e f h
 ·by_cases i:m<=p
  ·exact h2 p q i f g
  ·exact h3 p q e (by omega) (by omega) g
end
end Go.Proofs.Tryz
namespace Go.Eng
open Go.Proofs.Tryz
variable {α:Type} {sz:Nat} {R:View->Value->α->Prop} {V V':View} {d:α}
theorem Row.get {vs:List Value}{al:List α}(h:Row sz R V vs al){i:Nat}(hi:i<al.length)(hs:0<sz) :
  ∃xs:List Value,xs.length=sz/\R V (.agg xs.toArray) (al.getD i d)/\i*sz+sz<=vs.length/\(vs.drop (i*sz)).take sz=xs:=by
 obtain ⟨xs,b,c,e⟩:=h.at_ i hi;have g:=h.fT hs;have:(i+1)*sz<=al.length*sz:=Nat.mul_le_mul_right _ hi;rw [Nat.succ_mul] at this;refine ⟨xs,b,by simpa [List.getD_eq_getElem?_getD,hi] using c,by omega,?_⟩;apply List.ext_getElem?;intro j;rw [List.getElem?_take];split
 ·rename_i f;rw [List.getElem?_drop];have a:j<xs.length:=by omega
  rw [e j _ (List.getElem?_eq_getElem a),List.getElem?_eq_getElem a]
 ·rename_i f;rw [List.getElem?_eq_none (by omega)]
theorem Row.put {vs:List Value}{al:List α}(h:Row sz R V vs al){i:Nat}(hi:i<al.length)(hs:0<sz){xs:List Value}{a:α}(hx:xs.length=sz)(ha:R V (.agg xs.toArray) a) :
  Row sz R V (aS vs (i*sz) xs) (al.set i a):=by
 have r:=h.fT hs
 have l:∀k,k<al.length->k*sz+sz<=vs.length:=fun k d=>by
  have:(k+1)*sz<=al.length*sz:=Nat.mul_le_mul_right _ d;rw [Nat.succ_mul] at this;omega
 have m:=l i hi;rw [lq (by omega)];have f:(vs.take (i*sz)).length=i*sz:=by rw [List.length_take];omega
 refine ⟨fun k d=>?_⟩;rw [List.length_set] at d;by_cases e:k=i
 ·subst e;refine ⟨xs,hx,by simpa using ha,fun j x b=>?_⟩;have c:=(List.getElem?_eq_some_iff.1 b).1;rw [List.append_assoc,List.getElem?_append_right (by omega),f,Nat.add_sub_cancel_left,List.getElem?_append_left c];exact b
 ·obtain ⟨n,o,p,g⟩:=h.at_ k d;refine ⟨n,o,by rw [List.getElem_set_ne (fun q=>e q.symm)];exact p,fun j x b=>?_⟩;have c:=(List.getElem?_eq_some_iff.1 b).1;by_cases lt:k<i
  ·have:(k+1)*sz<=i*sz:=Nat.mul_le_mul_right _ lt;rw [Nat.succ_mul] at this;rw [List.append_assoc,List.getElem?_append_left (by omega),List.getElem?_take,if_pos (by omega)];exact g j x b
  ·have:(i+1)*sz<=k*sz:=Nat.mul_le_mul_right _ (by omega);rw [Nat.succ_mul] at this;rw [List.getElem?_append_right (by rw [List.length_append];omega),List.length_append,f,hx,List.getElem?_drop];rw [show i*sz+sz+(k*sz+j-(i*sz+sz))=k*sz+j by omega];exact g j x b
theorem fl {vs xs:List Value}{o:Nat}(h:o+xs.length<=vs.length):(aS vs o xs).length=vs.length:=by
 rw [lq h];simp only [List.length_append,List.length_take,List.length_drop];omega
theorem Row.swap {vs:List Value}{al:List α}(h:Row sz R V vs al){i j:Nat}(hi:i<al.length)(hj:j<al.length)(hs:0<sz){xs ys:List Value}(hx:xs.length=sz)(hy:ys.length=sz)(h1:R V (.agg xs.toArray) (al.getD i d))(h2:R V (.agg ys.toArray) (al.getD j d)) :
  Row sz R V (aS (aS vs (i*sz) ys) (j*sz) xs) (nT d al i j):=by
 have:=h.put hi hs hy h2;exact this.put (by simpa using hj) hs hx h1
end Go.Eng
namespace Go.Proofs.Tryz
open Go.Eng Go.Big
theorem Cq {V:View}{P:Prop}{b:Nat}(h:P->V.H b):V.Le (V.shut.cA P b):=fun x o g=>⟨fun a=>by
 rcases a with a|a
 ·exact g.1 a
 ·rw [a.2.1] at g;exact g.1 (h a.1),g.2⟩
theorem ae.QT {f:FuncId}{args:Array Value}{V:View}{R R':Value->View->Prop}(h:ae prog f args V R)(hR:∀r V',V.Le V'->(∀b,V.H b->V'.H b)->R r V'->R' r V'):ae prog f args V R':=
 ⟨h.1,h.2.mono fun _ c ⟨r,he,a,d⟩=>⟨r,he,a,hR r _ (V.Np c a) (fun _ e=>e) d⟩⟩
theorem Ep {V V':View}{b:Nat}{P:Prop}(h:V.Le (V'.cA True b)):V.Le (V'.cA P b):=fun x o a=>
 ⟨fun c=>(h x o a).1 (c.imp id fun e=>⟨trivial,e.2⟩),(h x o a).2⟩
theorem Hi {V V':View}{P:Prop}{b:Nat}(h:V.Le V')(n:¬P):V.Le (V'.cA P b):=fun x o a=>
 ⟨fun c=>(h x o a).1 (c.elim id fun e=>absurd e.1 n),(h x o a).2⟩
end Go.Proofs.Tryz
