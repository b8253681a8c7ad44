import Derived.Test.YtapnijmlbakblaaGreatDoorZJ15
import Derived.Test.YtapnijmlbakblaaGreatDoorZJ9
import Derived.Test.YtapnijmlbakblaaGreatDoorZJ11
import Derived.Test.YtapnijmlbakblaaGreatDoorZJ6
import Derived.WalkKit
import Derived.LaidEql
import Derived.Stop.Asserts
import Derived.RowKitTokens
import Derived.Test.YtapnijmlbakblaaGreatDoorZJ12
import Derived.Test.YtapnijmlbakblaaGreatDoorZJ14
set_option linter.unusedVariables false
open Go.IntKind (i64 u64 u32)
namespace Go.Proofs.Tryz
open Go.Eng Go.Big
theorem Hc.ex {V:View}{v:Value}{l:L3}{s:Sp}(h:pU V v l s):∃(x1 x2:Int)(p:OA)(y1 y2:Int)(q:OA)(z1 z2:Int)(r:OA)(u1 u2:Int)(t:OA)(w1 w2:Int)(o:OA),
 v=.agg #[.int .i64 x1,.int .i64 x2,.pointer p,.int .i64 y1,.int .i64 y2,.pointer q,.int .i64 z1,.int .i64 z2,.pointer r,.int .i64 u1,.int .i64 u2,.pointer t,.int .i64 w1,.int .i64 w2,.pointer o,.bool s.a,.bool s.b]:=by
 obtain ⟨_,_,_,_,_,_,_,_,_,_,_,_,_,_,_,e,-⟩:=h;exact ⟨_,_,_,_,_,_,_,_,_,_,_,_,_,_,_,e⟩
theorem iF {V:View}{v:Value}{l:L3}{s:Sp}(h:zB V v l s):∃b1 p1 n1 c1 b2 p2 n2 c2 b3 p3 n3 c3 b p n c p' n' c' d q m e q' m' e',
 v=.agg #[.bool b1,.slice p1 n1 c1,.bool b2,.slice p2 n2 c2,.bool b3,.slice p3 n3 c3,.bool b,.slice p n c,.slice p' n' c',.bool d,.slice q m e,.slice q' m' e',.bool s.a,.bool s.b]:=by
 obtain ⟨_,_,_,_,_,_,_,_,_,_,_,_,_,_,_,_,_,_,_,_,_,_,_,_,_,_,e,-⟩:=h;exact ⟨_,_,_,_,_,_,_,_,_,_,_,_,_,_,_,_,_,_,_,_,_,_,_,_,_,_,e⟩
theorem dh {V:View}{v:Value}{x y:Rat}(h:Dr V v x y):∃b p n c p' n' c' d q m e q' m' e',v=.agg #[.bool b,.slice p n c,.slice p' n' c',.bool d,.slice q m e,.slice q' m' e']:=by
 obtain ⟨_,_,_,_,_,_,_,_,_,_,_,_,_,_,e,-⟩:=h;exact ⟨_,_,_,_,_,_,_,_,_,_,_,_,_,_,e⟩
theorem lT {V:View}{v:Value}{x y:Rat}(h:mU V v x y):∃(x1 x2:Int)(p:OA)(y1 y2:Int)(q:OA),v=.agg #[.int .i64 x1,.int .i64 x2,.pointer p,.int .i64 y1,.int .i64 y2,.pointer q]:=by
 obtain ⟨_,_,_,_,_,_,e,-⟩:=h;exact ⟨_,_,_,_,_,_,e⟩
def NU (v:Value):Prop:=v=.agg #[.bool false,.slice none 0 0,.bool false,.slice none 0 0,.bool false,.slice none 0 0,.bool false,.slice none 0 0,.slice none 0 0,.bool false,.slice none 0 0,.slice none 0 0,.bool false,.bool false]
def Hd (v:Value):Prop:=v=.agg #[.bool false,.slice none 0 0,.slice none 0 0,.bool false,.slice none 0 0,.slice none 0 0]
theorem DA {V:View}{v:Value}{l:L3}{s:Sp}(h:zB V v l s)(ho:Dp l s){k:Nat}(sl:gN k l)(hs:s.sz k)(hk:4*k+4<274877906944:=by omega) :
  aa prog 56 #[v] V fun r V'=>r=.bool true:=by
 have a:=h;obtain ⟨_,_,_,_,_,_,_,_,_,_,_,_,_,_,_,_,_,_,_,_,_,_,_,_,_,_,rfl⟩:=iF h;refine pK _ _ _ _ _ _ _ _ _ _ _ _ _ _ _ _ _ _ _ _ _ _ _ _ _ _ _ _ V _ fun c b=>(mu (a.le b) ho sl hs).mono ?_;rintro r d e ⟨w,rfl,g⟩;obtain ⟨_,_,_,_,_,_,_,_,_,_,_,_,_,_,_,rfl⟩:=Hc.ex g;exact ⟨_,_,_,_,_,_,_,_,_,_,_,_,_,_,_,_,_,_,rfl,fun f i=>rfl⟩
theorem AH {px py qx qy:Rat}{k:Nat}(s1:Sz k px)(s2:Sz k py)(s3:Sz k qx)(s4:Sz k qy)(h:¬(px=qx/\py=qy)):(xu px py qx qy).sz (400*k+400):=by
 have sl:=mL s1 s2 s3 s4 h;exact ⟨Sz.mono (FD sl (Sz.mono s1) (Sz.mono s2)),Sz.mono (FD sl (Sz.mono s3) (Sz.mono s4))⟩
theorem zK {V:View}{u v:Value}{px py qx qy:Rat}(hp:Dr V u px py)(hq:Dr V v qx qy){k:Nat}(s1:Sz k px)(s2:Sz k py)(s3:Sz k qx)(s4:Sz k qy)(hk:2000*k+2000<274877906944:=by omega) :
  aa prog 53 #[u,v] V fun r V'=>(px=qx/\py=qy->∃l,r=.tuple #[l,.bool false]/\NU l)/\(¬(px=qx/\py=qy)->∃l,r=.tuple #[l,.bool true]/\zB V' l (gx px py qx qy) (xu px py qx qy)):=by
 have a:=hp;have b:=hq;obtain ⟨_,_,_,_,_,_,_,_,_,_,_,_,_,_,rfl⟩:=dh hp;obtain ⟨_,_,_,_,_,_,_,_,_,_,_,_,_,_,rfl⟩:=dh hq;refine kY _ _ _ _ _ _ _ _ _ _ _ _ _ _ _ _ _ _ _ _ _ _ _ _ _ _ _ _ V _ fun z i=>(iA (a.le i) s1 s2).mono ?_;rintro r A p j;have c:=j;obtain ⟨_,_,_,_,_,_,rfl⟩:=lT j;refine ⟨_,_,_,_,_,_,rfl,fun B m=>(iA (b.le (i.trans (p.trans m))) s3 s4).mono ?_⟩;rintro r C q n;have d:=n;obtain ⟨_,_,_,_,_,_,rfl⟩:=lT n;refine ⟨_,_,_,_,_,_,rfl,fun D o=>(wY (c.le (m.trans (q.trans o))) (d.le o) s1 s2 s3 s4).mono ?_⟩;rintro r E F ⟨s,t⟩;by_cases h:px=qx/\py=qy
 ·obtain ⟨l,rfl,g⟩:=s h;obtain ⟨_,_,_,_,_,_,_,_,_,_,_,_,_,_,_,rfl⟩:=Hc.ex g;exact ⟨_,_,_,_,_,_,_,_,_,_,_,_,_,_,_,_,_,_,rfl,fun _ G H=>⟨fun _=>⟨_,rfl,rfl⟩,fun h'=>absurd h h'⟩,(fun h=>nomatch h)⟩
 ·obtain ⟨l,rfl,g⟩:=t h;have w:=g;have sl:=mL s1 s2 s3 s4 h;have x:=AH s1 s2 s3 s4 h;obtain ⟨_,_,_,_,_,_,_,_,_,_,_,_,_,_,_,rfl⟩:=Hc.ex g;refine ⟨_,_,_,_,_,_,_,_,_,_,_,_,_,_,_,_,_,_,rfl,(fun h=>nomatch h),fun _ I y=>(Bt (w.le y) (k:=400*k+400) ⟨Sz.mono sl.1,Sz.mono sl.2.1,Sz.mono sl.2.2⟩ x).mono ?_⟩;rintro r J K f;have f0:=f;obtain ⟨_,_,_,_,_,_,_,_,_,_,_,_,_,_,_,_,_,_,_,_,_,_,_,_,_,_,rfl⟩:=iF f;exact ⟨_,_,_,_,_,_,_,_,_,_,_,_,_,_,_,_,_,_,_,_,_,_,_,_,_,_,_,_,rfl,fun L e=>⟨fun h'=>absurd h' h,fun _=>⟨_,rfl,f0.le e⟩⟩⟩
theorem F2 {V:View}{v:Value}{l:L3}{s:Sp}(h:zB V v l s)(ho:Dp l s){k:Nat}(sl:gN k l)(hs:s.sz k)(hk:20*k+20<274877906944) :
  aa prog 115 #[v,.func (.func 116) #[] #[]] V fun r V'=>∃w,r=.tuple #[w,.bool (!s.b)]/\(s.b=false->Dr V' w (Jz l s.hi) (JA l s.hi))/\(s.b=true->Hd w):=by
 have d:=h;obtain ⟨_,_,_,_,_,_,_,_,_,_,_,_,_,_,_,_,_,_,_,_,_,_,_,_,_,_,rfl⟩:=iF h;refine mT _ _ _ _ _ _ _ _ _ _ _ _ _ _ _ _ _ _ _ _ _ _ _ _ _ _ _ _ V _ fun q i=>(mu (d.le i) ho sl hs).mono ?_;rintro r t u ⟨w,rfl,g⟩;have j:=g;obtain ⟨_,_,_,_,_,_,_,_,_,_,_,_,_,_,_,rfl⟩:=Hc.ex g;refine ⟨_,_,_,_,_,_,_,_,_,_,_,_,_,_,_,_,_,_,rfl,(fun h=>nomatch h),fun _ x m=>(Hz (j.le m) sl hs).mono ?_⟩;rintro r y z ⟨w,rfl,f⟩;have f0:=f;obtain ⟨_,_,_,_,_,_,rfl⟩:=lT f;refine ⟨_,_,_,_,_,_,_,rfl,fun c A B=>?_,fun c C n=>?_⟩
 ·have a:s.b=true:=by simpa using c
  rw [a];exact ⟨_,rfl,(fun h=>nomatch h),fun _=>rfl⟩
 ·have a:s.b=false:=by simpa using c
  rw [a] at f0;refine (oM (f0.le n) (k:=20*k+19) (Nf sl hs.2) (Ng sl hs.2)).mono ?_;rintro r D E e;have o:=e;obtain ⟨_,_,_,_,_,_,_,_,_,_,_,_,_,_,rfl⟩:=dh e;exact ⟨_,_,_,_,_,_,_,_,_,_,_,_,_,_,rfl,fun F p=>⟨_,by rw [a];rfl,fun _=>o.le p,fun h=>by rw [a] at h;cases h⟩⟩
theorem Gd {V:View}{w:Value}{x y:Rat}{c:Bool}(h1:c=false->Dr V w x y)(h2:c=true->Hd w):∃b p n c p' n' c' d q m e q' m' e',w=.agg #[.bool b,.slice p n c,.slice p' n' c',.bool d,.slice q m e,.slice q' m' e']:=by
 cases c with
 | false=>exact dh (h1 rfl)
 | true=>exact ⟨_,_,_,_,_,_,_,_,_,_,_,_,_,_,h2 rfl⟩
theorem On {V:View}{v:Value}{l:L3}{s:Sp}(h:zB V v l s)(ho:Dp l s){k:Nat}(sl:gN k l)(hs:s.sz k)(hk:20*k+20<274877906944:=by omega) :
  aa prog 55 #[v] V fun r V'=>∃w,r=.tuple #[w,.bool (!s.b)]/\(s.b=false->Dr V' w (Jz l s.hi) (JA l s.hi))/\(s.b=true->Hd w):=by
 have g:=h;obtain ⟨_,_,_,_,_,_,_,_,_,_,_,_,_,_,_,_,_,_,_,_,_,_,_,_,_,_,rfl⟩:=iF h;refine sQ _ _ _ _ _ _ _ _ _ _ _ _ _ _ _ _ _ _ _ _ _ _ _ _ _ _ _ _ V _ fun m i=>(F2 (g.le i) ho sl hs hk).mono ?_;rintro r n o ⟨w,rfl,d,f⟩;have a:=d;have c:=f;obtain ⟨_,_,_,_,_,_,_,_,_,_,_,_,_,_,rfl⟩:=Gd d f;exact ⟨_,_,_,_,_,_,_,_,_,_,_,_,_,_,_,rfl,fun p j=>⟨_,rfl,fun e=>(a e).le j,c⟩⟩
theorem ny {V:View}(x y:Int)(h0:-1000<=x)(h1:x<=1000)(h2:-1000<=y)(h3:y<=1000:=by omega) :
  aa prog 54 #[.int .i64 x,.int .i64 y] V fun r V'=>Dr V' r (x:Rat) (y:Rat):=by
 have g:Sz 10 (x:Rat):=qP (by omega);have h:Sz 10 (y:Rat):=qP (by omega);refine pN x y V _ fun m n=>(iu x (by omega)).mono ?_;rintro r o p c;have a:=c;obtain ⟨_,_,_,rfl⟩:=c.shape;refine ⟨_,_,_,rfl,fun q i=>(iu y (by omega)).mono ?_⟩;rintro r s j d;have b:=d;obtain ⟨_,_,_,rfl⟩:=d.shape;refine ⟨_,_,_,rfl,fun t f=>(oM ⟨_,_,_,_,_,_,rfl,a.le (i.trans (j.trans f)),b.le f⟩ g h).mono ?_⟩;rintro r u v e;have k:=e;obtain ⟨_,_,_,_,_,_,_,_,_,_,_,_,_,_,rfl⟩:=dh e;exact ⟨_,_,_,_,_,_,_,_,_,_,_,_,_,_,rfl,fun w l=>k.le l⟩
theorem zQ {V:View}{v w:Value}{x y x' y':Rat}(hp:Dr V v x y)(hq:Dr V w x' y'){k:Nat}(s1:Sz k x)(s2:Sz k y)(s3:Sz k x')(s4:Sz k y')(hk:2*k<1099511627776:=by omega) :
  aa prog 57 #[v,w] V fun r V'=>r=.bool (decide (x=x'/\y=y')):=by
 have a:=hp;have b:=hq;obtain ⟨_,_,_,_,_,_,_,_,_,_,_,_,_,_,rfl⟩:=dh hp;obtain ⟨_,_,_,_,_,_,_,_,_,_,_,_,_,_,rfl⟩:=dh hq;refine xW _ _ _ _ _ _ _ _ _ _ _ _ _ _ _ _ _ _ _ _ _ _ _ _ _ _ _ _ V _ fun m e=>(iA (a.le e) s1 s2).mono ?_;rintro r n j f;have c:=f;obtain ⟨_,_,_,_,_,_,rfl⟩:=lT f;refine ⟨_,_,_,_,_,_,rfl,fun o g=>(iA (b.le (e.trans (j.trans g))) s3 s4).mono ?_⟩;rintro r p l h;have d:=h;obtain ⟨_,_,_,_,_,_,rfl⟩:=lT h;refine ⟨_,_,_,_,_,_,rfl,fun q i=>(uf (c.le (g.trans (l.trans i))) (d.le i) s1 s2 s3 s4 hk).mono ?_⟩;rintro r s t rfl;exact ⟨_,rfl,fun u z=>rfl⟩
theorem sI (x y:Rat):0<=(cT x y).num:=by
 unfold cT;rw [Qr4];split
 ·omega
 ·exact Int.ediv_nonneg (Wq8 _) (Wq8 _)
theorem Jc {px py qx qy:Rat}(h:¬(px=qx/\py=qy)):mQ (gx px py qx qy) qx qy-mQ (gx px py qx qy) px py=cT (cT (-(qy-py)) (qx-px)) (-(-(qy-py)*px+(qx-px)*py)):=by
 obtain ⟨f,d,e,-⟩:=ke (a:=-(qy-py)) (b:=qx-px) (c:=-(-(qy-py)*px+(qx-px)*py)) (mM h);have j:=(FH h).norm;change _=((gx px py qx qy).1:Rat) at d;change _=((gx px py qx qy).2.1:Rat) at e;generalize cT (cT (-(qy-py)) (qx-px)) (-(-(qy-py)*px+(qx-px)*py))=g at *;have m:=Qr7 g f;have k:=Qr7 _ j;unfold mQ
 have l:fJ (gx px py qx qy)=((qy-py)*(qy-py)+(qx-px)*(qx-px))*(g⁻¹*g⁻¹):=by
  unfold fJ;rw [←d,←e];grind
 rw [←d,←e];generalize (fJ (gx px py qx qy))⁻¹=N at *;generalize g⁻¹=i at *;rw [l] at k;grind
theorem KT {px py qx qy:Rat}(h:¬(px=qx/\py=qy)):(xu px py qx qy).emp=false:=by
 obtain ⟨d,-⟩:=ke (a:=-(qy-py)) (b:=qx-px) (c:=-(-(qy-py)*px+(qx-px)*py)) (mM h);have f:=Jc h;have i:=sI (cT (-(qy-py)) (qx-px)) (-(-(qy-py)*px+(qx-px)*py));unfold xu Sp.emp;dsimp only;generalize cT (cT (-(qy-py)) (qx-px)) (-(-(qy-py)*px+(qx-px)*py))=g at *
 have e:cmpQ (mQ (gx px py qx qy) px py) (mQ (gx px py qx qy) qx qy)=- g.num.sign:=by
  rw [cmpQ_swap,←f];rfl
 rw [e];have j:g.num≠0:=Ch d;have:g.num.sign=1:=Qd9 (by omega);rw [this];rfl
theorem Jd {px py qx qy:Rat}(h:¬(px=qx/\py=qy)):Dp (gx px py qx qy) (xu px py qx qy):=⟨ID h,⟨(fun h=>nomatch h),(fun h=>nomatch h)⟩,KT h⟩
theorem Nc:∀i:Fin 6,(mkRat ((i.1:Int)+1) 2).num.sign=1/\Sz 10 (mkRat ((i.1:Int)+1) 2):=by unfold Sz;decide +kernel
theorem QI (V:View):RQ V (.agg #[.bool false,.slice none 0 0,.slice none 0 0]) 0:=by have:=RQ.zero (V:=V);simpa using this
theorem QM (k:Nat)(hk:0<k:=by omega):Sz k (0:Rat):=⟨by show (0:Int).natAbs<_;exact Qx7 (by decide) (Wq9),Qf6 (by omega)⟩
theorem zT {V:View}:aa prog 75 #[] V fun r V'=>oB V' r ⟨0,0,true,true⟩:=
 xZ V _ fun a b=>⟨_,_,_,_,_,_,_,_,_,_,_,_,_,_,rfl,QI _,QI _⟩
theorem po {V:View}{v:Value}{s:Sp}(h:oB V v s):∃b p n c p' n' c' d q m e q' m' e',v=.agg #[.bool b,.slice p n c,.slice p' n' c',.bool d,.slice q m e,.slice q' m' e',.bool s.a,.bool s.b]:=by
 obtain ⟨_,_,_,_,_,_,_,_,_,_,_,_,_,_,e,-⟩:=h;exact ⟨_,_,_,_,_,_,_,_,_,_,_,_,_,_,e⟩
theorem pj {V:View}{v:Value}{l:L3}{s:Sp}(h:RF V v l s):∃b1 p1 n1 c1 b2 p2 n2 c2 b3 p3 n3 c3 b p n c p' n' c' d q m e q' m' e',
 v=.agg #[.bool b1,.slice p1 n1 c1,.bool b2,.slice p2 n2 c2,.bool b3,.slice p3 n3 c3,.bool b,.slice p n c,.slice p' n' c',.bool d,.slice q m e,.slice q' m' e',.bool s.a,.bool s.b]:=by
 obtain ⟨_,_,_,_,_,_,_,_,_,_,_,_,_,_,_,_,_,_,_,_,_,_,_,_,_,_,e,-⟩:=h;exact ⟨_,_,_,_,_,_,_,_,_,_,_,_,_,_,_,_,_,_,_,_,_,_,_,_,_,_,e⟩
theorem Up {V:View}{tb:Nat}{p:OA}{n c:Nat}{at_:Int}(hr:ES V p n)(hn:n<=400)(hw:jR V tb p n c at_)(hx:V.X tb)(h0:0<=at_) :
  aa prog 32 #[.pointer (some ⟨tb,0,none⟩)] V fun r V'=>∃(s:Sp)(at':Int),oB V' r s/\s.can/\s.emp=false/\s.sz 40/\0<=at'/\jR V' tb p n c at':=by
 refine tz tb p n c at_ V _ hw hx fun V1 w A e1 h1=>(Wy (V:=V1.ay [A]) (hr.le fun b o h=>w b o h) hn e1 ⟨by simp,h1⟩ h0).mono ?_;rintro r Q R ⟨d,G4,S,u,t1,B⟩;have j:=S;obtain ⟨qa,qb,qc,qd,qe,qf,rfl⟩:=S.shape;refine ⟨_,_,_,_,_,_,_,rfl,_,_,_,_,B,fun V3 C Wu e3 h3=>(jy (V:=V3.ay [Wu]) 6 (hr.le fun b o h=>C b o (R b o (w b o h))) hn e3 ⟨by simp,h3⟩ t1 (by omega)).mono ?_⟩;rintro r V4 T ⟨x,a1,rfl,x0,x1,t2,D⟩;obtain ⟨i,rfl⟩:∃i:Nat,x=i:=⟨x.toNat,by omega⟩;obtain ⟨U,E⟩:=Nc ⟨i,by omega⟩;dsimp only at U E;have w1:i64.wrap (1+(i:Int))=(i:Int)+1:=by rw [ar (by omega)];omega
 refine ⟨_,rfl,_,_,_,_,D,fun V5 Y=>?_⟩;rw [w1];refine (nG ((i:Int)+1) 2 (by omega) (by omega) (by omega)).mono ?_;generalize mkRat ((i:Int)+1) 2=q at *;rintro r V6 Z gp;have WS:=gp;obtain ⟨_,_,_,_,_,_,rfl⟩:=gp.shape;have zd:∀{F:View},V6.Le F->Q.Le F:=fun l b o h=>l b o (Z b o (Y b o (T b o (C b o h))));refine ⟨_,_,_,_,_,_,_,rfl,fun F l=>(dk (j.le (zd l)) (WS.le l) u E).mono ?_⟩;rintro r V8 l8 gh;have UD:=gh;obtain ⟨ga,gb,gc,gd,ge,WQ,rfl⟩:=gh.shape;have sh:Sz 21 (d+q):=u.add E;have Gq:∀{v:View},V8.Le v->V.Le v:=fun m b o h=>m b o (l8 b o (l b o (Z b o (Y b o (T b o (C b o (R b o (w b o h))))))));refine ⟨_,_,_,_,_,_,_,rfl,fun v m Q7 e9 h9=>(jy (V:=v.ay [Q7]) 8 (hr.le fun b o h=>Gq m b o h) hn e9 ⟨by simp,h9⟩ t2 (by omega)).mono ?_⟩;rintro r G t ⟨y,k,rfl,y0,y1,t3,H⟩;have I:∀{f:View},G.shut.Le f->V8.Le f:=fun g b o h=>g b o (t b o (m b o h));have Lu:∀{f:View},G.shut.Le f->Q.Le f:=fun g=>(zd l).trans (l8.trans (I g))
 have full:∀(f W:View),G.shut.Le f->f.Le W->∀a,0<=a->jR W tb p n c a->∃(s:Sp)(at':Int),oB W (.agg #[.bool (decide (d.num<0)),.slice qa qb qc,.slice qd qe qf,.bool (decide ((d+q).num<0)),.slice ga gb gc,.slice gd ge WQ,.bool false,.bool false]) s/\s.can/\s.emp=false/\s.sz 40/\0<=at'/\jR W tb p n c at':=fun f W g lw a t4 e4=>
  ⟨⟨d,d+q,false,false⟩,a,⟨_,_,_,_,_,_,_,_,_,_,_,_,_,_,rfl,j.le ((Lu g).trans lw),UD.le ((I g).trans lw)⟩,⟨(fun h=>nomatch h),(fun h=>nomatch h)⟩,by
   have e:cmpQ d (d+q)=- q.num.sign:=by
    rw [cmpQ_swap];unfold cmpQ;rw [show d+q-d=q from by grind]
   unfold Sp.emp;dsimp only;rw [e,U];rfl,⟨Sz.mono u,Sz.mono sh⟩,t4,e4⟩
 refine ⟨_,rfl,_,_,_,_,H,fun _ f g J=>?_,fun _=>⟨fun _ gW cu K=>?_,fun _=>⟨fun _ lx cD Q8 L NG=>(jy (V:=lx.ay [Q8]) 4 (hr.le fun b o h=>cD b o (t b o (Gq m b o h))) hn L ⟨by simp,NG⟩ t3 (by omega)).mono ?_,fun _ Dk iW M=>full _ _ iW (View.Le.refl _) k t3 M⟩⟩⟩
 ·exact ⟨⟨0,d+q,true,false⟩,k,⟨_,_,_,_,_,_,_,_,_,_,_,_,_,_,rfl,QI _,UD.le (I g)⟩,⟨fun _=>rfl,(fun h=>nomatch h)⟩,rfl,⟨QM _,Sz.mono sh⟩,t3,J⟩
 ·exact ⟨⟨d,0,false,true⟩,k,⟨_,_,_,_,_,_,_,_,_,_,_,_,_,_,rfl,j.le (Lu cu),QI _⟩,⟨(fun h=>nomatch h),fun _=>rfl⟩,rfl,⟨Sz.mono u,QM _⟩,t3,K⟩
 ·rintro r mr eB ⟨z,a,rfl,-,-,t4,N⟩;refine ⟨_,rfl,_,_,_,_,N,fun _ mV dw=>zT.mono ?_,fun _ wS hJ O=>full _ _ cD (fun b o h=>hJ b o (eB b o h)) a t4 O⟩;rintro r rz dY gf;have J8:=gf;obtain ⟨_,_,_,_,_,_,_,_,_,_,_,_,_,_,rfl⟩:=po gf;exact ⟨_,_,_,_,_,_,_,_,_,_,_,_,_,_,_,_,rfl,fun pR dR P=>⟨⟨0,0,true,true⟩,a,J8.le dR,⟨fun _=>rfl,fun _=>rfl⟩,rfl,⟨QM _,QM _⟩,t4,P⟩⟩
theorem Rb {V:View}{tb:Nat}{p:OA}{n c:Nat}{at_:Int}(hr:ES V p n)(hn:n<=400)(hw:jR V tb p n c at_)(hx:V.X tb)(h0:0<=at_) :
  aa prog 8 #[.pointer (some ⟨tb,0,none⟩)] V fun r V'=>∃(l:L3)(s:Sp)(at':Int),RF V' r l s/\Dp l s/\gN 1000 l/\s.sz 5000/\0<=at'/\jR V' tb p n c at':=by
 refine tm tb p n c at_ V _ hw hx fun V1 i A v h1=>(jy (V:=V1.ay [A]) 3 (hr.le fun b o h=>i b o h) hn v ⟨by simp,h1⟩ h0 (by omega)).mono ?_;rintro r V2 z ⟨x,G4,rfl,-,-,t1,B⟩;refine ⟨_,rfl,_,_,_,_,B,fun _ V3 O Oa e3 h3=>(Wx (V:=V3.ay [Oa]) (hr.le fun b o h=>O b o (z b o (i b o h))) hn e3 ⟨by simp,h3⟩ t1).mono ?_,fun _ V8 P Q9 e8 h8=>(Re (V:=V8.ay [Q9]) (hr.le fun b o h=>P b o (z b o (i b o h))) hn e8 ⟨by simp,h8⟩ t1).mono ?_⟩
 ·rintro r V4 l4 ⟨l,C,Q,ho,hb,t2,a⟩;have WR:=Q;obtain ⟨_,_,_,_,_,_,_,_,_,_,_,_,rfl⟩:=fA Q;refine ⟨_,_,_,_,_,_,_,_,_,_,_,_,rfl,_,_,_,_,a,fun V5 R Q6 e5 h5=>(Up (V:=V5.ay [Q6]) (hr.le fun b o h=>R b o (l4 b o (O b o (z b o (i b o h))))) hn e5 ⟨by simp,h5⟩ t2).mono ?_⟩;rintro r V6 l6 ⟨s,d,gs,hc,e,j,t3,g⟩;have D:=gs;obtain ⟨_,_,_,_,_,_,_,_,_,_,_,_,_,_,rfl⟩:=po gs;obtain ⟨z1,z2,z3⟩:=hb.sz;exact ⟨_,_,_,_,_,_,_,_,_,_,_,_,_,_,_,_,rfl,_,_,_,_,g,fun V7 S e7=>⟨l,s,d,⟨_,_,_,_,_,_,_,_,_,_,_,_,_,_,_,_,_,_,_,_,_,_,_,_,_,_,rfl,WR.le fun b o h=>S b o (l6 b o (R b o h)),D.le fun b o h=>S b o h⟩,⟨ho,hc,e⟩,⟨Sz.mono z1,Sz.mono z2,Sz.mono z3⟩,⟨Sz.mono j.1,Sz.mono j.2⟩,t3,e7⟩⟩
 ·rintro r V9 l9 ⟨x,y,C,T,a1,a2,t2,a⟩;have q:=T;obtain ⟨_,_,_,_,_,_,_,_,_,_,_,_,_,_,rfl⟩:=mc T;refine ⟨_,_,_,_,_,_,_,_,_,_,_,_,_,_,rfl,_,_,_,_,a,fun fK t=>(fl 1 (by omega)).mono ?_⟩;rintro r eO U W;have E:=W;obtain ⟨_,_,_,_,_,_,rfl⟩:=W.shape;refine ⟨_,_,_,_,_,_,_,rfl,fun gW F Q_ G H=>(Uq (V:=gW.ay [Q_]) (hr.le fun b o h=>F b o (U b o (t b o (l9 b o (P b o (z b o (i b o h))))))) hn G ⟨by simp,H⟩ t2).mono ?_⟩;rintro r lx Y ⟨u,w,d,Z,a3,O1,e,t3,g⟩;have I:=Z;obtain ⟨_,_,_,_,_,_,_,_,_,_,_,_,_,_,rfl⟩:=mc Z;refine ⟨_,_,_,_,_,_,_,_,_,_,_,_,_,_,rfl,_,_,_,_,g,fun J K=>?_⟩;have Ly:V9.Le J:=fun b o h=>K b o (Y b o (F b o (U b o (t b o h))));have MQ:eO.Le J:=fun b o h=>K b o (Y b o (F b o h));have MR:lx.Le J:=fun b o h=>K b o h;refine (lE (q.le Ly) (E.le MQ) (I.le MR) (k:=10) (m:=10) (sM) (sM) (sM) (sM) (sM)).mono ?_;rintro r mV dw L;have f1:(x:Rat)+((1:Int):Rat)*(u:Rat)=((x+u:Int):Rat):=by rw [←Qm2,←Qg9,Qs7]
  have f2:(y:Rat)+((1:Int):Rat)*(w:Rat)=((y+w:Int):Rat):=by rw [←Qm2,←Qg9,Qs7]
  rw [f1,f2] at L;have M:=L;obtain ⟨_,_,_,_,_,_,_,_,_,_,_,_,_,_,rfl⟩:=mc L
  have ne:¬((x:Rat)=((x+u:Int):Rat)/\(y:Rat)=((y+w:Int):Rat)):=by
   rintro ⟨v,e2⟩;have v:x=x+u:=by exact_mod_cast v
   have e2:y=y+w:=by exact_mod_cast e2
   exact e ⟨by omega,by omega⟩
  have s1:Sz 10 (x:Rat):=sM;have s2:Sz 10 (y:Rat):=sM;have s3:Sz 10 ((x+u:Int):Rat):=sM;have s4:Sz 10 ((y+w:Int):Rat):=sM;refine ⟨_,_,_,_,_,_,_,_,_,_,_,_,_,_,rfl,fun rz dY=>(sF (q.le (Ly.trans (dw.trans dY))) (M.le dY) s1 s2 s3 s4 (by omega)).mono ?_⟩;rintro r pR dR ⟨-,m2⟩;obtain ⟨f,rfl,gf⟩:=m2 ne;have J8:=gf;have sl:=mL s1 s2 s3 s4 ne;have j:=AH s1 s2 s3 s4 ne;obtain ⟨_,_,_,_,_,_,_,_,_,_,_,_,_,_,_,_,_,_,_,_,_,_,_,_,_,_,rfl⟩:=pj gf;exact ⟨_,_,_,_,_,_,_,_,_,_,_,_,_,_,_,_,_,_,_,_,_,_,_,_,_,_,_,_,_,rfl,fun wS hJ N=>⟨_,_,d,J8.le hJ,Jd ne,⟨Sz.mono sl.1,Sz.mono sl.2.1,Sz.mono sl.2.2⟩,⟨Sz.mono j.1,Sz.mono j.2⟩,t3,N⟩⟩
def E8 (V:View):View:=⟨V.w,fun b=>b<V.w.heap.size,fun _=>False,fun _ h=>h,fun _ h=>h.elim⟩
theorem Dt {f:FuncId}{args:Array Value}{V:View}{o:Obj}(h:aa prog f args (E8 V) fun r V'=>∃bk,r=.pointer (some ⟨bk,0,none⟩)/\V'.bB bk o) :
  aa prog f args V fun r V'=>∃bk,r=.pointer (some ⟨bk,0,none⟩)/\V.w.heap.size<=bk/\V'.bB bk o:=
 ⟨h.1,h.2.mono fun _ _ ⟨_,he,a,bk,d,c⟩=>⟨_,he,⟨a.size,fun b c _=>a.bB b c (fun h=>h),a.os,a.tape,a.out⟩,bk,d,Nat.le_of_not_lt c.1,fun e=>c.1 (V.hH bk e),c.2⟩⟩
theorem BF {V:View}{lp:OA}{ln lc:Nat}(hc:ln<=lc) :
  aa prog 7 #[.slice lp ln lc] V fun r V'=>∃bk,r=.pointer (some ⟨bk,0,none⟩)/\V.w.heap.size<=bk/\V'.bB bk (.cells #[.slice lp (min ln 400) lc,.int .i64 0] 88 (0,0)):=by
 refine Dt (A7 lp ln lc (E8 V) _ ?_)
 have e:bN (ln:Int) 400=((min ln 400:Nat):Int):=by
  unfold bN;simp only [Nat.min_def];split<;>split<;>omega
 rw [e,Qq0];have:=Nat.min_le_left ln 400;exact ⟨⟨by omega,by omega⟩,fun b c bk a=>⟨bk,rfl,a⟩⟩
theorem Ic {V1 V2 V3:View}{bk:Nat}(l2:V1.Le V2)(hfr:V1.w.heap.size<=bk)(l3:(V2.HY bk).Le V3):V1.Le V3:=fun b o h=>l3 b o ⟨fun a=>a.elim (l2 b o h).1 fun e=>by
  have c:b<V1.w.heap.size:=by
   rcases Qy9 b V1.w.heap.size with h'|h'
   ·exact h'
   ·have:=h.2;rw [Qn8 h'] at this;cases this
  have:=e.1;omega,(l2 b o h).2⟩
theorem Bn:Jz (gx ((0:Int):Rat) ((0:Int):Rat) ((2:Int):Rat) ((0:Int):Rat)) (xu ((0:Int):Rat) ((0:Int):Rat) ((2:Int):Rat) ((0:Int):Rat)).hi=((2:Int):Rat) /\
  JA (gx ((0:Int):Rat) ((0:Int):Rat) ((2:Int):Rat) ((0:Int):Rat)) (xu ((0:Int):Rat) ((0:Int):Rat) ((2:Int):Rat) ((0:Int):Rat)).hi=((0:Int):Rat):=by decide +kernel
theorem HD {V:View}:aa prog 21 #[] V fun r V'=>r=.bool true:=by
 have a:Sz 10 ((0:Int):Rat):=sM;have s2:Sz 10 ((2:Int):Rat):=sM;have ne:¬(((0:Int):Rat)=((2:Int):Rat)/\((0:Int):Rat)=((0:Int):Rat)):=by decide
 have sl:=mL a a s2 a ne;have k:=AH a a s2 a ne;have b:gN 5000 (gx ((0:Int):Rat) ((0:Int):Rat) ((2:Int):Rat) ((0:Int):Rat)):=⟨Sz.mono sl.1,Sz.mono sl.2.1,Sz.mono sl.2.2⟩;have c:(xu ((0:Int):Rat) ((0:Int):Rat) ((2:Int):Rat) ((0:Int):Rat)).sz 5000:=⟨Sz.mono k.1,Sz.mono k.2⟩;have ok:=Jd ne;refine wg V _ fun D E=>(ny 0 0 (by omega) (by omega) (by omega)).mono ?_;rintro r F G l;have e:=l;obtain ⟨_,_,_,_,_,_,_,_,_,_,_,_,_,_,rfl⟩:=dh l;refine ⟨_,_,_,_,_,_,_,_,_,_,_,_,_,_,rfl,fun H v=>(ny 2 0 (by omega) (by omega) (by omega)).mono ?_⟩;rintro r I x m;have g:=m;obtain ⟨_,_,_,_,_,_,_,_,_,_,_,_,_,_,rfl⟩:=dh m;refine ⟨_,_,_,_,_,_,_,_,_,_,_,_,_,_,rfl,fun J n=>(zK (e.le (v.trans (x.trans n))) (g.le n) a a s2 a).mono ?_⟩;rintro r K L ⟨-,y⟩;obtain ⟨f,rfl,o⟩:=y ne;have p:=o;obtain ⟨_,_,_,_,_,_,_,_,_,_,_,_,_,_,_,_,_,_,_,_,_,_,_,_,_,_,rfl⟩:=iF o;refine ⟨_,_,_,_,_,_,_,_,_,_,_,_,_,_,_,_,_,_,_,_,_,_,_,_,_,_,_,_,_,rfl,fun M q=>(On (p.le q) ok b c).mono ?_⟩;rintro r N z ⟨w,rfl,d,-⟩;have d:=d rfl;rw [Bn.1,Bn.2] at d;have i:=d;obtain ⟨_,_,_,_,_,_,_,_,_,_,_,_,_,_,rfl⟩:=dh d;refine ⟨_,_,_,_,_,_,_,_,_,_,_,_,_,_,_,rfl,fun _=>⟨fun _ O s=>(DA (p.le (q.trans (z.trans s))) ok b c).mono ?_,(fun h=>nomatch h)⟩,(fun h=>nomatch h)⟩;rintro r P j rfl;refine ⟨_,rfl,fun _ Q A=>(ny 2 0 (by omega) (by omega) (by omega)).mono ?_,(fun h=>nomatch h)⟩;rintro r R B t;have C:=t;obtain ⟨_,_,_,_,_,_,_,_,_,_,_,_,_,_,rfl⟩:=dh t;refine ⟨_,_,_,_,_,_,_,_,_,_,_,_,_,_,rfl,fun S u=>(zQ (i.le (s.trans (j.trans (A.trans (B.trans u))))) (C.le u) s2 a s2 a).mono ?_⟩;rintro r T U rfl;exact ⟨_,rfl,fun W X=>by simp⟩
theorem yZ:IsIface .nilIface:=.inl rfl
end Go.Proofs.Tryz
namespace Go.Eng
theorem tR (a:Addr)(m n:Nat):(a.add m).add n=a.add (m+n):=by
 unfold Addr.add;by_cases b:m=0
 ·subst b;simp
 ·by_cases c:n=0
  ·subst c;simp [b]
  ·rw [if_neg b,if_neg c,if_neg (by omega)];simp only [Qv1]
variable {α:Type} {sz:Nat} {R:View->Value->α->Prop} {V V':View}
structure Row (sz:Nat) (R:View->Value->α->Prop) (V:View) (vs:List Value) (al:List α):Prop where
 at_:∀(i:Nat)(h:i<al.length),∃xs:List Value,xs.length=sz/\R V (.agg xs.toArray) al[i]/\∀j x,xs[j]?=some x->vs[i*sz+j]?=some x
structure e_ (sz:Nat) (R:View->Value->α->Prop) (V:View) (p:OA) (n:Nat) (al:List α):Prop where
 len:n=al.length
 at_:∀(i:Nat)(h:i<al.length),∃ad,ah p (i*sz)=some ad/\∃xs:List Value,xs.length=sz/\R V (.agg xs.toArray) al[i]/\∀j x,xs[j]?=some x->V.at (ad.add j) x
theorem Row.nil {vs:List Value}:Row sz R V vs []:=⟨fun i h=>absurd h (Qd8 i)⟩
theorem e_.nil {p:OA}:e_ sz R V p 0 []:=⟨rfl,fun i h=>absurd h (Qd8 i)⟩
theorem Row.le {vs:List Value}{al:List α}(h:Row sz R V vs al)(m:∀v a,R V v a->R V' v a):Row sz R V' vs al:=
 ⟨fun i b=>by obtain ⟨xs,c,d,e⟩:=h.at_ i b;exact ⟨xs,c,m _ _ d,e⟩⟩
theorem e_.le {p:OA}{n:Nat}{al:List α}(h:e_ sz R V p n al)(l:V.Le V')(m:∀v a,R V v a->R V' v a):e_ sz R V' p n al:=
 ⟨h.len,fun i b=>by obtain ⟨c,d,xs,e,f,g⟩:=h.at_ i b;exact ⟨c,d,xs,e,m _ _ f,fun j x k=>l.at (g j x k)⟩⟩
theorem Row.iI {vs:List Value}{al:List α}(h:Row sz R V vs al)(hs:0<sz):al.length*sz<=vs.length:=by
 by_cases a:al.length=0
 ·rw [a];omega
 ·obtain ⟨xs,d,-,b⟩:=h.at_ (al.length-1) (by omega);have c:sz-1<xs.length:=by omega
  have:=(Qw9.1 (b (sz-1) _ (Qq1 c))).1
  have e:al.length*sz=(al.length-1)*sz+sz:=by
   obtain ⟨m,hm⟩:∃m,al.length=m+1:=⟨al.length-1,by omega⟩;rw [hm,Qj7,Qm4]
  omega
theorem Row.snoc {vs:List Value}{al:List α}(h:Row sz R V vs al){xs sp:List Value}{a:α}(hx:xs.length=sz)(ha:R V (.agg xs.toArray) a)(hs:0<sz) :
  Row sz R V (vs.take (al.length*sz)++xs++sp) (al++[a]):=by
 have p:=h.iI hs;have g:(vs.take (al.length*sz)).length=al.length*sz:=by rw [Qq5];omega
 refine ⟨fun i k=>?_⟩;rw [Qq2,Qm5] at k;by_cases e:i=al.length
 ·subst e;refine ⟨xs,hx,by rw [Qc8 (Qq3 _)];simpa using ha,fun j x c=>?_⟩;have d:=(Qw9.1 c).1;rw [Qy4,Qy0 (by rw [g];omega),g,Qc3,Qw8 d];exact c
 ·have b:i<al.length:=by omega
  obtain ⟨l,m,n,o⟩:=h.at_ i b;refine ⟨l,m,by rw [Qh0 b];exact n,fun j x c=>?_⟩;have d:=(Qw9.1 c).1
  have f:i*sz+j<al.length*sz:=by
   have:(i+1)*sz<=al.length*sz:=Qq7 _ b;rw [Qm4] at this;omega
  rw [Qy4,Qw8 (by rw [g];exact f),Qy3,if_pos f];exact o j x c
theorem e_.D_ {bk:Nat}{ty:TypeId}{m:Nat×Nat}{vs:List Value}{al:List α}(hb:V.bB bk (.cells vs.toArray ty m))(h:Row sz R V vs al):e_ sz R V (some ⟨bk,0,none⟩) al.length al:=by
 refine ⟨rfl,fun i a=>?_⟩;obtain ⟨xs,b,c,d⟩:=h.at_ i a;refine ⟨⟨bk,i*sz,none⟩,by simp [ah,add_zero'],xs,b,c,fun j x f=>?_⟩;have e:(⟨bk,i*sz,none⟩:Addr).add j=⟨bk,i*sz+j,none⟩:=by rw [←add_zero',tR,add_zero']
 rw [e];exact fj hb (d j x f)
theorem e_.dJ {bk c:Nat}{ty:TypeId}{m:Nat×Nat}{vs:List Value}{al:List α}(hb:vs≠[]->V.bB bk (.cells vs.toArray ty m))(h:Row sz R V vs al)(hs:0<sz)(hc:al.length<=c:=by omega):e_ sz R V (mA bk c) al.length al:=by
 cases al with
 | nil=>exact e_.nil
 | cons a r=>
  have b:vs≠[]:=fun e=>by
   have:=h.iI hs;rw [e,Qx2,Qm4] at this;simp at this;omega
  have:mA bk c=some ⟨bk,0,none⟩:=by unfold mA;rw [if_neg];rw [Qx2] at hc;omega
  rw [this];exact e_.D_ (hb b) h
end Go.Eng
namespace Go.Proofs.Tryz
open Go.Eng Go.Big
theorem row_one {α:Type}{sz:Nat}{R:View->Value->α->Prop}{V:View}{xs:List Value}{a:α}(hx:xs.length=sz)(ha:R V (.agg xs.toArray) a):Row sz R V xs [a]:=by
 refine ⟨fun i b=>?_⟩;obtain rfl:i=0:=by simpa using b
 exact ⟨xs,hx,ha,fun j x c=>by rw [Qd0,Qy2];exact c⟩
theorem Eo {α:Type}{sz:Nat}{R:View->Value->α->Prop}{V:View}{vs:List Value}{ls:List α}(h:Row sz R V vs ls){k:Nat}(hk:k<=ls.length){xs sp:List Value}{a:α}(hx:xs.length=sz)(ha:R V (.agg xs.toArray) a)(hs:0<sz) :
  Row sz R V (vs.take (k*sz)++(xs++(vs.take (ls.length*sz)).drop (k*sz))++sp) (ls.take k++a::ls.drop k):=by
 have v:=h.iI hs;have q:k*sz<=ls.length*sz:=Qq7 _ hk;have t1:(vs.take (k*sz)).length=k*sz:=by rw [Qq5];omega
 have t2:((vs.take (ls.length*sz)).drop (k*sz)).length=ls.length*sz-k*sz:=by rw [Qz0,Qq5];omega
 have g:(ls.take k).length=k:=by rw [Qq5];omega
 refine ⟨fun i r=>?_⟩;rw [Qy4];by_cases s:i<k
 ·have c:i<ls.length:=by omega
  obtain ⟨l,n,o,p⟩:=h.at_ i c;have e:(ls.take k++a::ls.drop k)[i]=ls[i]:=by rw [Qh0 (by omega),List.getElem_take]
  refine ⟨l,n,by rw [e];exact o,fun j x b=>?_⟩;have d:=(Qw9.1 b).1
  have f:i*sz+j<k*sz:=by
   have:(i+1)*sz<=k*sz:=Qq7 _ s;rw [Qm4] at this;omega
  rw [Qw8 (by omega),Qy3,if_pos f];exact p j x b
 ·by_cases t:i=k
  ·subst t
   have e:(ls.take i++a::ls.drop i)[i]=a:=by
    rw [Qc8 (by omega)];simp [g]
   refine ⟨xs,hx,by rw [e];exact ha,fun j x b=>?_⟩;have d:=(Qw9.1 b).1;rw [Qy0 (by omega),t1,Qc3,Qy4,Qw8 d];exact b
  ·have c:i-1<ls.length:=by
    rw [Qq2,g,Qx2,Qz0] at r;omega
   obtain ⟨l,n,o,p⟩:=h.at_ (i-1) c
   have e:(ls.take k++a::ls.drop k)[i]=ls[i-1]:=by
    rw [Qc8 (by omega)];obtain ⟨m,hm⟩:∃m,i=k+(m+1):=⟨i-k-1,by omega⟩;subst hm;simp only [g,Qc3,List.getElem_cons_succ,Qg7];congr 1
   refine ⟨l,n,by rw [e];exact o,fun j x b=>?_⟩;have d:=(Qw9.1 b).1;obtain ⟨m,hm⟩:∃m,i=k+1+m:=⟨i-k-1,by omega⟩;subst hm;have w:(k+1+m)*sz=k*sz+sz+m*sz:=by rw [Qz6,Qz6,Qm3]
   have u:(k+1+m-1)*sz=k*sz+m*sz:=by rw [show k+1+m-1=k+m by omega,Qz6]
   have:=p j x b;rw [u] at this
   have f:k*sz+m*sz+j<ls.length*sz:=by
    have:(k+m+1)*sz<=ls.length*sz:=Qq7 _ (by omega);rw [Qz6,Qz6,Qm3] at this;omega
   rw [Qy0 (by omega),t1,Qy4,Qy0 (by omega),hx,Qw8 (by omega),Qj5,Qy3,if_pos (by omega)];rw [show k*sz+((k+1+m)*sz+j-k*sz-sz)=k*sz+m*sz+j by omega];exact this
theorem qH {α:Type}{sz:Nat}{R:View->Value->α->Prop}{V:View}{p:OA}{n:Nat}{ls:List α}(h:e_ sz R V p n ls)(hs:0<sz):∃xs:List Value,V.sl p xs/\xs.length=ls.length*sz/\Row sz R V xs ls:=by
 have step:∀k,k<=ls.length->∃xs:List Value,V.sl p xs/\xs.length=k*sz/\Row sz R V xs (ls.take k):=by
  intro k
  induction k with
  | zero=>exact fun _=>⟨[],fun i v b=>by simp at b,by simp,by rw [Qc7];exact Row.nil⟩
  | succ k ih=>
   intro s;obtain ⟨xs,f,d,e⟩:=ih (by omega);obtain ⟨l,g,m,j,o,q⟩:=h.at_ k (by omega);have r:(ls.take k).length=k:=by rw [Qq5];omega
   refine ⟨xs++m,fun i v b=>?_,by rw [Qq2,d,j,Qm4],?_⟩
   ·by_cases c:i<xs.length
    ·rw [Qw8 c] at b;exact f i v b
    ·rw [Qy0 (by omega)] at b
     cases p with
     | none=>cases g
     | some a=>
      obtain rfl:=Qm0 (show some (a.add (k*sz))=some l from g);have:=q _ v b;rw [tR,d] at this;rw [show k*sz+(i-k*sz)=i by omega] at this;exact ⟨a,rfl,this⟩
   ·have:=e.snoc (sp:=[]) j o hs;rw [r,Qz5,Qb8 (by omega)] at this;rw [Qh1,Qq1 (by omega)];exact this
 obtain ⟨xs,f,d,e⟩:=step ls.length (Qq3 _);rw [Qk2] at e;exact ⟨xs,f,d,e⟩
theorem vA {α:Type}{sz:Nat}{R:View->Value->α->Prop}{V:View}{vs xs sp:List Value}{ls ms:List α}(h:Row sz R V vs ls)(h':Row sz R V xs ms)(hs:0<sz):Row sz R V (vs.take (ls.length*sz)++xs++sp) (ls++ms):=by
 have q:=h.iI hs;have o:=h'.iI hs;have n:(vs.take (ls.length*sz)).length=ls.length*sz:=by rw [Qq5];omega
 refine ⟨fun i p=>?_⟩;by_cases c:i<ls.length
 ·obtain ⟨d,f,g,k⟩:=h.at_ i c;refine ⟨d,f,by rw [Qh0 c];exact g,fun j x a=>?_⟩;have l:=(Qw9.1 a).1
  have b:i*sz+j<ls.length*sz:=by
   have:(i+1)*sz<=ls.length*sz:=Qq7 _ c;rw [Qm4] at this;omega
  rw [Qy4,Qw8 (by omega),Qy3,if_pos b];exact k j x a
 ·rw [Qq2] at p;obtain ⟨m,rfl⟩:∃m,i=ls.length+m:=⟨i-ls.length,by omega⟩;have hm:m<ms.length:=by omega
  obtain ⟨d,f,g,k⟩:=h'.at_ m hm;refine ⟨d,f,?_,fun j x a=>?_⟩
  ·have e:(ls++ms)[ls.length+m]=ms[m]:=by rw [Qc8 (by omega)];simp
   rw [e];exact g
  ·have l:=(Qw9.1 a).1
   have b:m*sz+j<xs.length:=by
    have:(m+1)*sz<=ms.length*sz:=Qq7 _ hm;rw [Qm4] at this;omega
   rw [Qy4,Qy0 (by rw [n,Qz6];omega),n,Qz6,Qw8 (by omega)];rw [show ls.length*sz+m*sz+j-ls.length*sz=m*sz+j by omega];exact k j x a
theorem pk {α:Type}{sz:Nat}{R:View->Value->α->Prop}{V:View}{vs:List Value}{al:List α}(h:Row sz R V vs al)(hs:0<sz)(hc:∀xs a,R V (.agg (List.toArray xs)) a->∀v∈xs,v.oneCell'=true){m:Nat}(hm:m<al.length*sz){v:Value}(hv:vs[m]?=some v):v.oneCell'=true:=by
 have d:m / sz<al.length:=Nat.div_lt_of_lt_mul (by rw [Qn7];exact hm);obtain ⟨xs,e,f,c⟩:=h.at_ (m / sz) d;have b:m%sz<xs.length:=by rw [e];exact Qb2 _ hs
 have g:m=m / sz*sz+m%sz:=by rw [Qn7];exact (Qd2 m sz).symm
 have:=c (m%sz) _ (Qq1 b);rw [←g,hv] at this;obtain rfl:=Qm0 this;exact hc xs _ f _ (Qw7 b)
structure GR {α:Type} (sz:Nat) (R:View->Value->α->Prop) (V:View) (n c:Nat) (vs:List Value) (l:List α):Prop where
 len:n=l.length
 le:n<=c
 cap:c*sz<=vs.length
 row:Row sz R V vs l
theorem GR.nil {α:Type}{sz:Nat}{R:View->Value->α->Prop}{V:View}:GR sz R V 0 0 [] []:=⟨rfl,Qq3 _,by simp,Row.nil⟩
theorem GR.mono {α:Type}{sz:Nat}{R:View->Value->α->Prop}{V V':View}{n c:Nat}{vs:List Value}{l:List α}(h:GR sz R V n c vs l)(m:∀v a,R V v a->R V' v a):GR sz R V' n c vs l:=⟨h.len,h.le,h.cap,h.row.le m⟩
theorem GR.snoc {α:Type}{sz:Nat}{R:View->Value->α->Prop}{V:View}{n c:Nat}{vs:List Value}{l:List α}(h:GR sz R V n c vs l){xs:List Value}{a:α}(hx:xs.length=sz)(ha:R V (.agg xs.toArray) a)(h0:0<sz){sp:List Value}{c':Nat}(h1:n+1<=c')(h2:c'*sz<=(n+1)*sz+sp.length) :
  GR sz R V (n+1) c' (vs.take (n*sz)++xs++sp) (l++[a]):=by
 have b:=h.len;have e:=h.cap;have f:n*sz<=c*sz:=Qq7 _ h.le;refine ⟨by rw [Qq2,b];rfl,h1,?_,?_⟩
 ·have d:(vs.take (n*sz)).length=n*sz:=by rw [Qq5];omega
  rw [Qq2,Qq2,d,hx];rw [Qm4] at h2;exact h2
 ·have:=h.row.snoc (sp:=sp) hx ha h0;rw [←b] at this;exact this
end Go.Proofs.Tryz
namespace Go.Proofs.Tryz
open Go.Eng Go.Big
theorem FJ {vs:List Value}{n b:Nat}(h:vs≠[]):vb vs n b=b:=by cases vs with|nil=>exact absurd rfl h|cons v r=>rfl
end Go.Proofs.Tryz
namespace Go.Proofs.Tryz
open Go.Big
section
variable {α:Type}
structure Ord (c:α->α->Int):Prop where
 JL:∀a b,c a b<0->¬c b a<0
 tr:∀a b d,¬c a b<0->¬c b d<0->¬c a d<0
variable {c:α->α->Int}
theorem Ord.refl (h:Ord c)(a:α):¬c a a<0:=fun l=>h.JL a a l l
def jG (d:α)(l:List α)(i j:Nat):List α:=(l.set i (l.getD j d)).set j (l.getD i d)
variable {d:α}
theorem mK {l:List α}{i j:Nat}:(jG d l i j).length=l.length:=by simp [jG]
theorem oS {l:List α}{i k:Nat}{x:α}(hi:i<l.length):(l.set i x).getD k d=if k=i then x else l.getD k d:=by
 simp only [Qw3,List.getElem?_set];by_cases h:k=i
 ·subst h;simp [hi]
 ·have:¬i=k:=fun e=>h e.symm;simp [h,this]
theorem kX {l:List α}{i j k:Nat}(hi:i<l.length)(hj:j<l.length:=by omega):(jG d l i j).getD k d=if k=j then l.getD i d else if k=i then l.getD j d else l.getD k d:=by
 unfold jG;rw [oS (by simpa using hj),oS hi]
theorem Jn {l:List α}{i j:Nat}(hi:i<l.length)(hj:j<l.length:=by omega):(jG d l i j).Perm l:=by
 have h:=Array.swap_perm (xs:=l.toArray) (i:=i) (j:=j) (by simpa using hi) (by simpa using hj)
 have e:(l.toArray.swap i j (by simpa using hi) (by simpa using hj)).toList=jG d l i j:=by
  simp [Array.swap,jG,Qw3,hi,hj]
 have:=h.toList;rw [e] at this;simpa using this
structure gC (d:α) (l m:List α) (a b:Nat):Prop where
 len:m.length=l.length
 out:∀k,¬(a<=k/\k<b)->m.getD k d=l.getD k d
 mem:∀k,a<=k->k<b->∃k',a<=k'/\k'<b/\m.getD k d=l.getD k' d
 perm:m.Perm l
theorem gC.refl (l:List α)(a b:Nat):gC d l l a b:=⟨rfl,fun _ _=>rfl,fun k h h'=>⟨k,h,h',rfl⟩,.refl _⟩
theorem gC.trans {l m n:List α}{a b:Nat}(h:gC d l m a b)(g:gC d m n a b):gC d l n a b:=
 ⟨g.len.trans h.len,fun k f=>(g.out k f).trans (h.out k f),fun k i j=>by
  obtain ⟨o,p,q,e⟩:=g.mem k i j;obtain ⟨c,r,s,t⟩:=h.mem o p q;exact ⟨c,r,s,e.trans t⟩,g.perm.trans h.perm⟩
theorem gC.wide {l m:List α}{a b a' b':Nat}(h:gC d l m a b)(ha:a'<=a)(hb:b<=b'):gC d l m a' b':=
 ⟨h.len,fun k c=>h.out k (by omega),fun k f g=>by
  by_cases c:a<=k/\k<b
  ·obtain ⟨i,j,n,e⟩:=h.mem k c.1 c.2;exact ⟨i,by omega,by omega,e⟩
  ·exact ⟨k,f,g,h.out k c⟩,h.perm⟩
theorem gC.jG {l:List α}{a b i j:Nat}(hi:a<=i)(hi':i<b)(hj:a<=j)(hj':j<b)(hb:b<=l.length:=by omega):gC d l (jG d l i j) a b:=by
 refine ⟨mK,fun k f=>?_,fun k c e=>?_,Jn (by omega)⟩
 ·rw [kX (by omega),if_neg (by omega),if_neg (by omega)]
 ·rw [kX (by omega)];split
  ·exact ⟨i,hi,hi',rfl⟩
  ·split
   ·exact ⟨j,hj,hj',rfl⟩
   ·exact ⟨k,c,e,rfl⟩
def oA (c:α->α->Int)(d:α)(l:List α)(a b:Nat):Prop:=∀p q,a<=p->p<q->q<b->¬c (l.getD q d) (l.getD p d)<0
theorem oA.short {l:List α}{a b:Nat}(h:b<=a+1):oA c d l a b:=fun p q e f g=>by omega
theorem oA.step (ho:Ord c){l:List α}{a b:Nat}(h:oA c d l a b)(h0:a<b)(hb:¬c (l.getD b d) (l.getD (b-1) d)<0):oA c d l a (b+1):=by
 intro p q f g j;by_cases e:q=b
 ·subst e;by_cases i:p=q-1
  ·subst i;exact hb
  ·exact ho.tr _ _ _ hb (h p (q-1) f (by omega) (by omega))
 ·exact h p q f g (by omega)
def JH (c:α->α->Int)(d:α)(l:List α)(a i j:Nat):Prop:=∀p q,a<=p->p<q->q<=i->q≠j->¬c (l.getD q d) (l.getD p d)<0
theorem JH.start {l:List α}{a i:Nat}(h:oA c d l a i):JH c d l a i i:=fun p q b e f g=>h p q b e (by omega)
theorem JH.done (ho:Ord c){l:List α}{a i j:Nat}(h:JH c d l a i j)(hji:j<=i)(hs:j<=a\/¬c (l.getD j d) (l.getD (j-1) d)<0):oA c d l a (i+1):=by
 intro p q b f k;by_cases e:q=j
 ·subst e;rcases hs with hs|hs
  ·omega
  ·by_cases g:p=q-1
   ·subst g;exact hs
   ·exact ho.tr _ _ _ hs (h p (q-1) b (by omega) (by omega) (by omega))
 ·exact h p q b f (by omega) e
theorem JH.move (ho:Ord c){l:List α}{a i j:Nat}(h:JH c d l a i j)(hj:a<j)(hji:j<=i)(hi:i<l.length)(hl:c (l.getD j d) (l.getD (j-1) d)<0):JH c d (jG d l j (j-1)) a i (j-1):=by
 intro p q f n e o;have g:=fun k=>kX (d:=d) (l:=l) (i:=j) (j:=j-1) (k:=k) (by omega);rw [g,g];by_cases eq:q=j
 ·subst eq;rw [if_neg (by omega),if_pos rfl];by_cases b:p=q-1
  ·rw [if_pos b];exact ho.JL _ _ hl
  ·rw [if_neg b,if_neg (by omega)];exact h p (q-1) f (by omega) (by omega) (by omega)
 ·rw [if_neg o,if_neg eq];by_cases b:p=j-1
  ·rw [if_pos b];exact h j q (by omega) (by omega) e eq
  ·rw [if_neg b];by_cases m:p=j
   ·rw [if_pos m];exact h (j-1) q (by omega) (by omega) e eq
   ·rw [if_neg m];exact h p q f n e eq
def Hp (c:α->α->Int)(d:α)(l:List α)(f lo hi:Nat)(r:Option Nat):Prop:=
 (∀i k,lo<=i->(k=2*i+1\/k=2*i+2)->k<hi->r≠some i->¬c (l.getD (f+i) d) (l.getD (f+k) d)<0) /\
 (∀i j k,r=some j->lo<=i->(j=2*i+1\/j=2*i+2)->(k=2*j+1\/k=2*j+2)->k<hi->¬c (l.getD (f+i) d) (l.getD (f+k) d)<0)
theorem Hp.top (ho:Ord c){l:List α}{f hi:Nat}(h:Hp c d l f 0 hi none):∀k,k<hi->¬c (l.getD f d) (l.getD (f+k) d)<0:=by
 intro k
 induction k using Nat.strongRecOn with
 | ind k ih=>
  intro a;by_cases b:k=0
  ·subst b;exact ho.refl _
  ·exact ho.tr _ _ _ (ih ((k-1) / 2) (by omega) (by omega)) (h.1 ((k-1) / 2) k (by omega) (by omega) a (by simp))
theorem Hp.leaf {l:List α}{f lo hi r:Nat}(h:Hp c d l f lo hi (some r))(hr:hi<=2*r+1):Hp c d l f lo hi none:=
 ⟨fun i k a b g _=>by
  by_cases e:r=i
  ·omega
  ·exact h.1 i k a b g (by simpa using e),fun i j k e=>by cases e⟩
theorem Hp.stop (ho:Ord c){l:List α}{f lo hi r k:Nat}(h:Hp c d l f lo hi (some r))(hk:k=2*r+1\/k=2*r+2)(hm:∀k',(k'=2*r+1\/k'=2*r+2)->k'<hi->¬c (l.getD (f+k) d) (l.getD (f+k') d)<0)
  (hs:¬c (l.getD (f+r) d) (l.getD (f+k) d)<0):Hp c d l f lo hi none:=
 ⟨fun i k' g a b _=>by
  by_cases e:r=i
  ·subst e;exact ho.tr _ _ _ hs (hm k' a b)
  ·exact h.1 i k' g a b (by simpa using e),fun i j k e=>by cases e⟩
theorem Hp.down (ho:Ord c){l:List α}{f lo hi r k:Nat}(h:Hp c d l f lo hi (some r))(hlo:lo<=r)(hl:f+hi<=l.length)(hk:k=2*r+1\/k=2*r+2)(hkh:k<hi)(hm:∀k',(k'=2*r+1\/k'=2*r+2)->k'<hi->¬c (l.getD (f+k) d) (l.getD (f+k') d)<0)
  (hs:c (l.getD (f+r) d) (l.getD (f+k) d)<0):Hp c d (jG d l (f+r) (f+k)) f lo hi (some k):=by
 have a:=fun x=>kX (d:=d) (l:=l) (i:=f+r) (j:=f+k) (k:=x) (by omega);refine ⟨fun i k' n b g m=>?_,fun i j k' e n b g m=>?_⟩
 ·have m:¬i=k:=fun e=>m (by rw [e]);rw [a,a,if_neg (show ¬f+i=f+k by omega)];by_cases p:i=r
  ·subst p;rw [if_pos rfl];by_cases o:k'=k
   ·rw [if_pos (by omega)];exact ho.JL _ _ hs
   ·rw [if_neg (by omega),if_neg (by omega)];exact hm k' b g
  ·rw [if_neg (by omega)];by_cases o:k'=r
   ·subst o;rw [if_neg (by omega),if_pos rfl];exact h.2 i k' k rfl n b hk hkh
   ·rw [if_neg (by omega),if_neg (by omega)];exact h.1 i k' n b g (by simp;omega)
 ·cases e;rw [a,a];have:i=r:=by omega
  subst this;rw [if_neg (by omega),if_pos rfl,if_neg (by omega),if_neg (by omega)];exact h.1 k k' (by omega) g m (by simp;omega)
theorem Hp.more {l:List α}{f lo hi:Nat}(h:Hp c d l f (lo+1) hi none):Hp c d l f lo hi (some lo):=
 ⟨fun i k m a b g=>h.1 i k (by have:¬lo=i:=fun e=>g (by rw [e]);omega) a b (by simp),fun i j k e m a b g=>by cases e;omega⟩
theorem Hp.pop {l:List α}{f hi:Nat}(h:Hp c d l f 0 (hi+1) none)(hl:f+hi<l.length):Hp c d (jG d l f (f+hi)) f 0 hi (some 0):=by
 have b:=fun x=>kX (d:=d) (l:=l) (i:=f) (j:=f+hi) (k:=x) (by omega);refine ⟨fun i k g m n a=>?_,fun i j k e g m n a=>by cases e;omega⟩;have a:¬i=0:=fun e=>a (by rw [e]);rw [b,b,if_neg (by omega),if_neg (by omega),if_neg (by omega),if_neg (by omega)];exact h.1 i k g m (by omega) (by simp)
def Sep (c:α->α->Int)(d:α)(l:List α)(a m b:Nat):Prop:=∀p q,a<=p->p<m->m<=q->q<b->¬c (l.getD q d) (l.getD p d)<0
theorem gC.sep {l m:List α}{a b x y z:Nat}(h:gC d l m a b)(hs:Sep c d l x y z)(hc:(x<=a/\b<=y)\/(y<=a/\b<=z)\/b<=x\/z<=a):Sep c d m x y z:=by
 intro p q r s t u
 have key:∀k,∃f,m.getD k d=l.getD f d/\(k=f\/a<=k/\k<b/\a<=f/\f<b):=fun k=>by
  by_cases g:a<=k/\k<b
  ·obtain ⟨f,i,j,e⟩:=h.mem k g.1 g.2;exact ⟨f,e,.inr ⟨g.1,g.2,i,j⟩⟩
  ·exact ⟨k,h.out k g,.inl rfl⟩
 obtain ⟨n,i,j⟩:=key p;obtain ⟨o,f1,f2⟩:=key q;rw [i,f1];exact hs n o (by omega) (by omega) (by omega) (by omega)
theorem gC.asc {l m:List α}{a b x y:Nat}(h:gC d l m a b)(hs:oA c d l x y)(hc:y<=a\/b<=x):oA c d m x y:=by
 intro p q e f g;rw [h.out p (by omega),h.out q (by omega)];exact hs p q e f g
theorem oA.join {l:List α}{a m b:Nat}(h1:oA c d l a m)(h2:oA c d l m b)(h3:Sep c d l a m b):oA c d l a b:=by
 intro p q e f g;by_cases h:q<m
 ·exact h1 p q e f h
 ·by_cases i:m<=p
  ·exact h2 p q i f g
  ·exact h3 p q e (by omega) (by omega) g
end
end Go.Proofs.Tryz
namespace Go.Eng
open Go.Proofs.Tryz
variable {α:Type} {sz:Nat} {R:View->Value->α->Prop} {V V':View} {d:α}
theorem Row.get {vs:List Value}{al:List α}(h:Row sz R V vs al){i:Nat}(hi:i<al.length)(hs:0<sz) :
  ∃xs:List Value,xs.length=sz/\R V (.agg xs.toArray) (al.getD i d)/\i*sz+sz<=vs.length/\(vs.drop (i*sz)).take sz=xs:=by
 obtain ⟨xs,b,c,e⟩:=h.at_ i hi;have g:=h.iI hs;have:(i+1)*sz<=al.length*sz:=Qq7 _ hi;rw [Qm4] at this;refine ⟨xs,b,by simpa [Qw3,hi] using c,by omega,?_⟩;apply Qs5;intro j;rw [Qy3];split
 ·rename_i f;rw [Qj5];have a:j<xs.length:=by omega
  rw [e j _ (Qq1 a),Qq1 a]
 ·rename_i f;rw [Qk6 (by omega)]
theorem Row.put {vs:List Value}{al:List α}(h:Row sz R V vs al){i:Nat}(hi:i<al.length)(hs:0<sz){xs:List Value}{a:α}(hx:xs.length=sz)(ha:R V (.agg xs.toArray) a) :
  Row sz R V (ae vs (i*sz) xs) (al.set i a):=by
 have r:=h.iI hs
 have l:∀k,k<al.length->k*sz+sz<=vs.length:=fun k d=>by
  have:(k+1)*sz<=al.length*sz:=Qq7 _ d;rw [Qm4] at this;omega
 have m:=l i hi;rw [iR];have f:(vs.take (i*sz)).length=i*sz:=by rw [Qq5];omega
 refine ⟨fun k d=>?_⟩;rw [List.length_set] at d;by_cases e:k=i
 ·subst e;refine ⟨xs,hx,by simpa using ha,fun j x b=>?_⟩;have c:=(Qw9.1 b).1;rw [Qy4,Qy0 (by omega),f,Qc3,Qw8 c];exact b
 ·obtain ⟨n,o,p,g⟩:=h.at_ k d;refine ⟨n,o,by rw [List.getElem_set_ne (fun q=>e q.symm)];exact p,fun j x b=>?_⟩;have c:=(Qw9.1 b).1;by_cases lt:k<i
  ·have:(k+1)*sz<=i*sz:=Qq7 _ lt;rw [Qm4] at this;rw [Qy4,Qw8 (by omega),Qy3,if_pos (by omega)];exact g j x b
  ·have:(i+1)*sz<=k*sz:=Qq7 _ (by omega);rw [Qm4] at this;rw [Qy0 (by rw [Qq2];omega),Qq2,f,hx,Qj5];rw [show i*sz+sz+(k*sz+j-(i*sz+sz))=k*sz+j by omega];exact g j x b
theorem rV {vs xs:List Value}{o:Nat}(h:o+xs.length<=vs.length):(ae vs o xs).length=vs.length:=by
 rw [iR h];simp only [Qq2,Qq5,Qz0];omega
theorem Row.swap {vs:List Value}{al:List α}(h:Row sz R V vs al){i j:Nat}(hi:i<al.length)(hj:j<al.length)(hs:0<sz){xs ys:List Value}(hx:xs.length=sz)(hy:ys.length=sz)(h1:R V (.agg xs.toArray) (al.getD i d))(h2:R V (.agg ys.toArray) (al.getD j d)) :
  Row sz R V (ae (ae vs (i*sz) ys) (j*sz) xs) (jG d al i j):=by
 have:=h.put hi hs hy h2;exact this.put (by simpa using hj) hs hx h1
end Go.Eng
namespace Go.Proofs.Tryz
open Go.Eng Go.Big
theorem f_ (x y:Rat):(x<y/\cmpQ x y=-1)\/(x=y/\cmpQ x y=0)\/(y<x/\cmpQ x y=1):=by
 by_cases a:x<y
 ·exact .inl ⟨a,E4.1 a⟩
 ·by_cases b:x=y
  ·exact .inr (.inl ⟨b,jj.1 b⟩)
  ·have c:y<x:=by grind
   exact .inr (.inr ⟨c,E3.1 c⟩)
theorem Sp.kJ {s:Sp}:s.emp=false↔(s.a=true\/s.b=true\/s.lo<s.hi):=by
 unfold Sp.emp;rcases f_ s.lo s.hi with ⟨h,e⟩|⟨h,e⟩|⟨h,e⟩<;>rw [e]<;>cases s.a<;>cases s.b<;>simp<;>grind
theorem Vf (k:Nat)(hk:0<k):Sz k (0:Rat):=⟨by show (0:Int).natAbs<_;exact Qx7 (by decide) (Wq9),Qf6 (by omega)⟩
structure He (V:View) (p:OA) (n:Nat) (fs:List (L3×Sp)):Prop where
 len:n=fs.length
 at_:∀(i:Nat)(h:i<fs.length),∃ad,ah p (i*17)=some ad/\∃xs:List Value,pU V (.agg xs.toArray) fs[i].1 fs[i].2/\∀j x,xs[j]?=some x->V.at (ad.add j) x
theorem He.le {V V':View}{p:OA}{n:Nat}{fs:List (L3×Sp)}(h:He V p n fs)(e:V.Le V'):He V' p n fs:=⟨h.len,fun i a=>by obtain ⟨b,c,xs,d,f⟩:=h.at_ i a;exact ⟨b,c,xs,d.le e,fun j x g=>e.at (f j x g)⟩⟩
theorem tZ {V:View}{p:OA}{n c:Nat}{fs:List (L3×Sp)}(h:He V p n fs)(hn:fs.length<=1000){k:Nat}(hs:∀f∈fs,gN k f.1/\f.2.sz k)(hk:k<=1099511627776:=by omega) :
  aa prog 42 #[.slice p n c] V fun r V'=>∃q m e,r=.slice q m e/\oD V' q m fs:=by
 obtain rfl:=h.len
 refine sX p _ c V _ ⟨fun z V'=>∃j:Nat,z.2.2.2=(j:Int)/\j<=fs.length/\z.1=j/\j<=z.2.1/\z.2.1*14<=z.2.2.1.length/\∀(i:Nat)(_:i<j)(l:i<fs.length),∃xs:List Value,xs.length=14/\zB V' (.agg xs.toArray) fs[i].1 fs[i].2/\∀q x,xs[q]?=some x->z.2.2.1[i*14+q]?=some x,
  fun z=>fs.length-z.2.2.2.toNat,⟨(0,0,[],0),by and_intros<;>rfl,0,rfl,Qq9 _,rfl,Qq3 _,Qq3 _,fun i l=>absurd l (Qd8 i)⟩,?_⟩
 rintro ⟨b,P,y,z4⟩ V1 Q ⟨j,I,G_,J,K,u,A⟩;dsimp only at I J K u A;subst I J;refine ⟨rfl,fun d=>?_,fun d V4 R B S=>?_⟩
 ·have d:(b:Int)<fs.length:=of_decide_eq_true d;have l:b<fs.length:=by omega
  obtain ⟨T,L,xs,M,a⟩:=(h.le Q).at_ b l;have w:i64.wrap ((b:Int)+1)=(b:Int)+1:=ar (by omega);dsimp only;rw [Qq0,w];have C:=M;obtain ⟨_,_,_,_,_,_,_,_,_,_,_,_,_,_,_,ex,-,-⟩:=M;have ex:=congrArg Array.toList (Value.agg.inj ex);dsimp only at ex;subst ex;obtain ⟨s1,s2⟩:=hs _ (Qw7 l);refine ⟨aQ L,⟨by omega,by omega⟩,_,_,_,_,_,_,_,_,_,_,_,_,_,_,_,_,_,T,L,a 0 _ rfl,a 1 _ rfl,a 2 _ rfl,a 3 _ rfl,a 4 _ rfl,a 5 _ rfl,a 6 _ rfl,a 7 _ rfl,a 8 _ rfl,a 9 _ rfl,a 10 _ rfl,a 11 _ rfl,a 12 _ rfl,a 13 _ rfl,a 14 _ rfl,a 15 _ rfl,a 16 _ rfl,fun V2 N=>(Bt (C.le N) s1 s2 hk).mono ?_⟩;rintro r V3 U g;have W:=g;obtain ⟨_,_,_,_,_,_,_,_,_,_,_,_,_,_,_,_,_,_,_,_,_,_,_,_,_,_,rfl⟩:=iF g;refine ⟨_,_,_,_,_,_,_,_,_,_,_,_,_,_,_,_,_,_,_,_,_,_,_,_,_,_,_,_,rfl,by omega,K,u,rfl,?_,?_⟩
  ·intro v hm;simp only [Qq6,Qk1,or_false] at hm;rcases hm with rfl|rfl|rfl|rfl|rfl|rfl|rfl|rfl|rfl|rfl|rfl|rfl|rfl|rfl<;>rfl
  ·intro sp X Y h2;refine ⟨(b+1,X,_,(b:Int)+1),by dsimp only;omega,by and_intros<;>rfl,b+1,rfl,l,rfl,Y,?_,?_⟩
   ·dsimp only;have t:(y.take (b*14)).length=b*14:=by rw [Qq5];omega
    rw [Qq2,Qq2,t];simp only [Qx2,Qj9];omega
   ·intro i Z D;dsimp only;have t:(y.take (b*14)).length=b*14:=by rw [Qq5];omega
    by_cases o:i=b
    ·subst o;refine ⟨_,rfl,W,fun q x s=>?_⟩;rw [Qy4,Qy0 (by rw [t];omega),t,Qc3];have:q<14:=(Qw9.1 s).1;rw [Qw8 (by exact this)];exact s
    ·obtain ⟨E,O,F,G⟩:=A i (by omega) D;refine ⟨E,O,F.le (N.trans U),fun q x s=>?_⟩;have:q<14:=by have:=(Qw9.1 s).1;omega
     rw [Qy4,Qw8 (by rw [t];omega),Qy3,if_pos (by omega)];exact G q x s
 ·have d:¬(b:Int)<fs.length:=of_decide_eq_false d;obtain rfl:b=fs.length:=by omega
  refine ⟨_,_,_,rfl,rfl,fun i l=>?_⟩;have hz:P≠0:=by omega
  have H:y≠[]:=fun e=>by rw [e] at u;simp at u;omega
  obtain ⟨E,O,F,G⟩:=A i l l;refine ⟨⟨B,i*14,none⟩,by simp [mA,hz,ah,add_zero'],E,F.le R,fun q x s=>?_⟩;have hj:(⟨B,i*14,none⟩:Addr).add q=⟨B,i*14+q,none⟩:=by rw [←add_zero',gU,add_zero']
  rw [hj];exact fj (S H) (G q x s)
theorem J0 {L M:L3}:((L.1:Rat)=(M.1:Rat)/\(L.2.1:Rat)=(M.2.1:Rat)/\(L.2.2:Rat)=(M.2.2:Rat))↔L=M:=by
 constructor
 ·rintro ⟨a,b,c⟩;exact Wz5 (Wq2.1 a) (Wz5 (Wq2.1 b) (Wq2.1 c))
 ·rintro rfl;exact ⟨rfl,rfl,rfl⟩
theorem Kl {V:View}{v w:Value}{L M:L3}(hl:wR V v L)(hm:wR V w M){k:Nat}(sl:gN k L)(sm:gN k M)(hk:k+k<1099511627776:=by omega) :
  aa prog 126 #[v,w] V fun r V'=>r=.bool (decide (L=M)):=by
 refine (Bv hl hm sl.1 sl.2.1 sl.2.2 sm.1 sm.2.1 sm.2.2 hk).mono ?_;rintro r V' l rfl;rw [decide_eq_decide.2 J0]
end Go.Proofs.Tryz
namespace Go.Proofs.Tryz
open Go.Eng Go.Big
theorem jz {V:View}(z w:Int){p q:OA}{n c m e:Nat}(ha:RD V p n c (ai z.natAbs))(hb:RD V q m e (ai w.natAbs))(hm:(ai z.natAbs).length<=1099511627776)(hn:(ai w.natAbs).length<=1099511627776) :
  aa prog 128 #[.agg #[.bool (decide (z<0)),.slice p n c],.agg #[.bool (decide (w<0)),.slice q m e]] V fun r V'=>r=.int .i64 (z-w).sign:=by
 refine wh _ p n c _ q m e V _ fun i a=>(gi w (hb.le a)).mono ?_;rintro r j d ⟨k,l,o,rfl,f⟩;refine ⟨_,_,_,_,rfl,fun s b=>(qk z (-w) (ha.le (a.trans (d.trans b))) (f.le b) hm (by rw [Qd6];exact hn)).mono ?_⟩;rintro r t u ⟨v,x,y,rfl,g⟩;refine ⟨_,_,_,_,rfl,fun A h=>(uh _ (g.le h)).mono ?_⟩;rintro r B C rfl;exact ⟨_,rfl,fun D E=>by rw [Int.sub_eq_add_neg]⟩
def iD (l m:L3):Int:=if (l.1-m.1).sign≠0 then (l.1-m.1).sign else if (l.2.1-m.2.1).sign≠0 then (l.2.1-m.2.1).sign else (l.2.2-m.2.2).sign
theorem zY {l m:L3}:iD l m=0↔l=m:=by
 have e:∀{a b:Int},(a-b).sign=0↔a=b:=fun {a b}=>by rw [Qp4];omega
 unfold iD;constructor
 ·intro h;by_cases c:(l.1-m.1).sign=0
  ·rw [if_neg (by simpa using c)] at h;by_cases d:(l.2.1-m.2.1).sign=0
   ·rw [if_neg (by simpa using d)] at h;exact Wz5 (e.1 c) (Wz5 (e.1 d) (e.1 h))
   ·rw [if_pos d] at h;exact absurd h d
  ·rw [if_pos c] at h;exact absurd h c
 ·rintro rfl;simp
theorem lF {V:View}{v w:Value}{l m:L3}(hl:RL V v l.1 l.2.1 l.2.2)(hm:RL V w m.1 m.2.1 m.2.2){k:Nat}(sl:gN k l)(sm:gN k m)(hk:k<=1099511627776:=by omega) :
  aa prog 67 #[v,w] V fun r V'=>r=.int .i64 (iD l m):=by
 obtain ⟨d1,d2,d3⟩:=sl.ai hk;obtain ⟨f,g,i⟩:=sm.ai hk;obtain ⟨_,_,_,_,_,_,_,_,_,rfl,j,n,o⟩:=hl;obtain ⟨_,_,_,_,_,_,_,_,_,rfl,p,q,s⟩:=hm;refine A0 _ _ _ _ _ _ _ _ _ _ _ _ _ _ _ _ _ _ _ _ _ _ _ _ V _ fun t a=>(jz _ _ (j.le a) (p.le a) d1 f).mono ?_;rintro r u b rfl;unfold iD;refine ⟨_,rfl,fun h x y=>?_,fun h z c=>(jz _ _ (n.le (a.trans (b.trans c))) (q.le (a.trans (b.trans c))) d2 g).mono ?_⟩
 ·rw [bne_iff_ne] at h;rw [if_pos h]
 ·rw [bne_eq_false_iff_eq] at h;rw [if_neg (by rw [h];decide)];rintro r A d rfl;refine ⟨_,rfl,fun h B C=>?_,fun h D e=>(jz _ _ (o.le (a.trans (b.trans (c.trans (d.trans e))))) (s.le (a.trans (b.trans (c.trans (d.trans e))))) d3 i).mono ?_⟩
  ·rw [bne_iff_ne] at h;rw [if_pos h]
  ·rw [bne_eq_false_iff_eq] at h;rw [if_neg (by rw [h];decide)];rintro r E F rfl;exact ⟨_,rfl,fun G H=>rfl⟩
def Ra (a b:L3):Int:=iD a b
theorem oO {a b:L3}:iD a b<0↔(a.1<b.1\/a.1=b.1/\(a.2.1<b.2.1\/a.2.1=b.2.1/\a.2.2<b.2.2)):=by
 have s:∀{x y:Int},(x<y/\(x-y).sign=-1)\/(x=y/\(x-y).sign=0)\/(y<x/\(x-y).sign=1):=by
  intro x y;rcases Ww7 x y with h|h|h
  ·exact .inl ⟨h,Qf0 (by omega)⟩
  ·exact .inr (.inl ⟨h,by rw [h,Int.sub_self];rfl⟩)
  ·exact .inr (.inr ⟨h,Qd9 (by omega)⟩)
 unfold iD;rcases @s a.1 b.1 with ⟨d,c⟩|⟨d,c⟩|⟨d,c⟩<;>rcases @s a.2.1 b.2.1 with ⟨h2,e2⟩|⟨h2,e2⟩|⟨h2,e2⟩<;>rcases @s a.2.2 b.2.2 with ⟨h3,e3⟩|⟨h3,e3⟩|⟨h3,e3⟩<;>rw [c,e2,e3]<;>simp<;>omega
theorem LH:Ord Ra:=⟨fun a b h=>by unfold Ra at *;rw [oO] at *;omega,fun a b d h h'=>by unfold Ra at *;rw [oO] at *;omega⟩
theorem IJ {a b:L3}:II [cmpQ (a.1:Rat) (b.1:Rat),cmpQ (a.2.1:Rat) (b.2.1:Rat),cmpQ (a.2.2:Rat) (b.2.2:Rat)]=iD a b:=by
 have e:∀x y:Int,cmpQ (x:Rat) (y:Rat)=(x-y).sign:=fun x y=>by
  unfold cmpQ;rw [←Wy6,Qr8]
 rw [e,e,e];unfold iD;generalize (a.1-b.1).sign=x;generalize (a.2.1-b.2.1).sign=y;generalize (a.2.2-b.2.2).sign=z;simp only [II];by_cases c:x=0<;>by_cases d:y=0<;>by_cases f:z=0<;>simp [c,d,f]
end Go.Proofs.Tryz
namespace Go.Proofs.Tryz
open Go.Big
section
variable {α:Type} {c:α->α->Int} {d:α}
structure PQ (c:α->α->Int) (d:α) (l0 l:List α) (a0 b0 a b:Nat):Prop where
 KS:gC d l0 l a0 b0
 ha:a0<=a
 ng:a<=b
 hb:b<=b0
 lo:oA c d l a0 a
 hi:oA c d l b b0
 s1:Sep c d l a0 a b0
 s2:Sep c d l a0 b b0
 pre:0<a->∀k,a<=k->k<b->¬c (l.getD k d) (l.getD (a-1) d)<0
variable {l0 l m:List α} {a0 b0 a b mid:Nat}
theorem PQ.start {l:List α}(h:a<=b)(hp:0<a->∀k,a<=k->k<b->¬c (l.getD k d) (l.getD (a-1) d)<0):PQ c d l l a b a b:=
 ⟨.refl _ _ _,Qq3 _,h,Qq3 _,.short (by omega),.short (by omega),fun p q e f=>by omega,fun p q e f g i=>by omega,hp⟩
theorem PQ.change (h:PQ c d l0 l a0 b0 a b)(hs:gC d l m a b):PQ c d l0 m a0 b0 a b:=
 ⟨h.KS.trans (hs.wide h.ha h.hb),h.ha,h.ng,h.hb,hs.asc h.lo (.inl (Qq3 _)),hs.asc h.hi (.inr (Qq3 _)),hs.sep h.s1 (.inr (.inl ⟨Qq3 _,h.hb⟩)),hs.sep h.s2 (.inl ⟨h.ha,Qq3 _⟩),fun f k g i=>by
  obtain ⟨j,n,o,e⟩:=hs.mem k g i;rw [e,hs.out (a-1) (by omega)];exact h.pre f j n o⟩
theorem PQ.fin (h:PQ c d l0 l a0 b0 a b)(hs:gC d l m a b)(ha:oA c d m a b):gC d l0 m a0 b0/\oA c d m a0 b0:=by
 have h':=h.change hs;refine ⟨h'.KS,h'.lo.join (ha.join h'.hi fun p q i e f g=>h'.s2 p q (by have:=h.ha;omega) e f g) h'.s1⟩
theorem PQ.left (ho:Ord c)(h:PQ c d l0 l a0 b0 a b)(hm:a<=mid)(hm':mid<b)(h1:∀k,a<=k->k<mid->c (l.getD k d) (l.getD mid d)<0)(h2:∀k,mid<k->k<b->¬c (l.getD k d) (l.getD mid d)<0)
  (hs:gC d l m a mid)(ha:oA c d m a mid):PQ c d l0 m a0 b0 (mid+1) b:=by
 have n:=h.ha;have o:=h.hb;have em:m.getD mid d=l.getD mid d:=hs.out mid (by omega)
 have below:∀k,a<=k->k<mid->¬c (m.getD mid d) (m.getD k d)<0:=fun k f g=>by
  obtain ⟨r,i,j,e⟩:=hs.mem k f g;rw [em,e];exact ho.JL _ _ (h1 r i j)
 have t1:=hs.sep h.s1 (.inr (.inl ⟨Qq3 _,by omega⟩));have t2:=hs.sep h.s2 (.inl ⟨n,by omega⟩);have up:∀q,mid<q->q<b->¬c (m.getD q d) (m.getD mid d)<0:=fun q f g=>by rw [em,hs.out q (by omega)];exact h2 q f g
 refine ⟨h.KS.trans (hs.wide n (by omega)),by omega,by omega,o,(hs.asc h.lo (.inl (Qq3 _))).join (m:=a) (fun p q f g i=>?_) fun p q f g i j=>t1 p q f g i (by omega),hs.asc h.hi (.inr (by omega)),fun p q f g i j=>?_,t2,fun _ k f g=>up k (by omega) g⟩
 ·by_cases e:q=mid
  ·subst e;exact below p f g
  ·exact ha p q f g (by omega)
 ·by_cases s:b<=q
  ·exact t2 p q f (by omega) s j
  ·by_cases t:p<a
   ·exact t1 p q f t (by omega) j
   ·have u:=up q (by omega) (by omega);by_cases e:p=mid
    ·subst e;exact u
    ·exact ho.tr _ _ _ u (below p (by omega) (by omega))
theorem PQ.right (ho:Ord c)(h:PQ c d l0 l a0 b0 a b)(hm:a<=mid)(hm':mid<b)(h1:∀k,a<=k->k<mid->c (l.getD k d) (l.getD mid d)<0)(h2:∀k,mid<k->k<b->¬c (l.getD k d) (l.getD mid d)<0)
  (hs:gC d l m (mid+1) b)(ha:oA c d m (mid+1) b):PQ c d l0 m a0 b0 a mid:=by
 have s:=h.ha;have r:=h.hb;have em:m.getD mid d=l.getD mid d:=hs.out mid (by omega)
 have up:∀q,mid<q->q<b->¬c (m.getD q d) (m.getD mid d)<0:=fun q g f=>by
  obtain ⟨t,i,j,e⟩:=hs.mem q (by omega) f;rw [em,e];exact h2 t (by omega) j
 have below:∀k,a<=k->k<mid->¬c (m.getD mid d) (m.getD k d)<0:=fun k g f=>by
  rw [em,hs.out k (by omega)];exact ho.JL _ _ (h1 k g f)
 have t1:=hs.sep h.s1 (.inr (.inl ⟨by omega,r⟩));have t2:=hs.sep h.s2 (.inl ⟨by omega,Qq3 _⟩);have t3:=hs.asc h.hi (.inr (Qq3 _));refine ⟨h.KS.trans (hs.wide (by omega) r),s,hm,by omega,hs.asc h.lo (.inl (by omega)),fun p q g f i=>?_,t1,fun p q g f i j=>?_,fun v k g f=>?_⟩
 ·by_cases n:q<b
  ·by_cases e:p=mid
   ·subst e;exact up q f n
   ·exact ha p q (by omega) f n
  ·by_cases o:p<b
   ·exact t2 p q (by omega) o (by omega) i
   ·exact t3 p q (by omega) f i
 ·by_cases n:b<=q
  ·exact t2 p q g (by omega) n j
  ·by_cases o:p<a
   ·exact t1 p q g o (by omega) j
   ·have u:=below p (by omega) f;by_cases e:q=mid
    ·subst e;exact u
    ·exact ho.tr _ _ _ (up q (by omega) (by omega)) u
 ·rw [hs.out k (by omega),hs.out (a-1) (by omega)];exact h.pre v k g (by omega)
theorem PQ.WJ (ho:Ord c)(h:PQ c d l0 l a0 b0 a b)(h0:0<a)(hm:a<mid)(hm':mid<=b){x:α}(hx:¬c (l.getD (a-1) d) x<0)(hs:gC d l m a b)
  (h1:∀k,a<=k->k<mid->¬c x (m.getD k d)<0)(h2:∀k,mid<=k->k<b->c x (m.getD k d)<0):PQ c d l0 m a0 b0 mid b:=by
 have h':=h.change hs;have s:=h.ha;have j:=h.hb;have ex:¬c (m.getD (a-1) d) x<0:=by rw [hs.out (a-1) (by omega)];exact hx
 have n:=h'.pre h0;refine ⟨h'.KS,by omega,hm',j,h'.lo.join (m:=a) (fun p q e f g=>?_) fun p q e f g i=>h'.s1 p q e f g (by omega),h'.hi,fun p q e f g i=>?_,h'.s2,fun _ k e f=>?_⟩
 ·exact ho.tr _ _ _ (n q (by omega) (by omega)) (ho.tr _ _ _ ex (h1 p e (by omega)))
 ·by_cases o:b<=q
  ·exact h'.s2 p q e (by omega) o i
  ·by_cases r:p<a
   ·exact h'.s1 p q e r (by omega) i
   ·exact ho.tr _ _ _ (ho.JL _ _ (h2 q g (by omega))) (h1 p (by omega) f)
 ·exact ho.tr _ _ _ (ho.JL _ _ (h2 k e f)) (h1 (mid-1) (by omega) (by omega))
structure HQ (c:α->α->Int) (d:α) (l:List α) (f i n:Nat):Prop where
 hp:Hp c d l f 0 i none
 asc:oA c d l (f+i) (f+n)
 sep:Sep c d l f (f+i) (f+n)
theorem HQ.start {f n:Nat}(h:Hp c d l f 0 n none):HQ c d l f n n:=⟨h,.short (by omega),fun p q a b e g=>by omega⟩
theorem HQ.step (ho:Ord c){f k n:Nat}(h:HQ c d l f (k+1) n)(hk:k+1<=n)(hl:f+n<=l.length)(hs:gC d (jG d l f (f+k)) m f (f+k))(hm:Hp c d m f 0 k none):HQ c d m f k n:=by
 have a:=fun x=>kX (d:=d) (l:=l) (i:=f) (j:=f+k) (k:=x) (by omega);have out:∀q,f+k<q->m.getD q d=l.getD q d:=fun q u=>by rw [hs.out q (by omega),a,if_neg (by omega),if_neg (by omega)]
 have top:m.getD (f+k) d=l.getD f d:=by rw [hs.out (f+k) (by omega),a,if_pos rfl]
 refine ⟨hm,fun p q r b g=>?_,fun p q r b g s=>?_⟩
 ·rw [out q (by omega)];by_cases e:p=f+k
  ·rw [e,top];exact h.sep f q (Qq3 _) (by omega) (by omega) g
  ·rw [out p (by omega)];exact h.asc p q (by omega) b g
 ·have hp:∃j,j<k+1/\m.getD p d=l.getD (f+j) d:=by
   obtain ⟨o,v,w,e⟩:=hs.mem p r b;rw [e,a,if_neg (by omega)];split
   ·exact ⟨k,by omega,rfl⟩
   ·exact ⟨o-f,by omega,by rw [show f+(o-f)=o by omega]⟩
  obtain ⟨j,t,e⟩:=hp;rw [e];by_cases eq:q=f+k
  ·rw [eq,top];exact h.hp.top ho j t
  ·rw [out q (by omega)];exact h.sep (f+j) q (by omega) (by omega) (by omega) s
theorem HQ.fin {f n:Nat}(h:HQ c d l f 0 n):oA c d l f (f+n):=by have:=h.asc;simpa using this
structure PT (P:α->Prop) (d:α) (l:List α) (a b i j:Nat):Prop where
 hi:a<i
 yW:i<=j+1
 hj:j<b
 lo:∀k,a<k->k<i->P (l.getD k d)
 up:∀k,j<k->k<b->¬P (l.getD k d)
variable {P:α->Prop} {i j:Nat}
theorem PT.start (h:a+1<b):PT P d l a b (a+1) (b-1):=⟨by omega,by omega,by omega,fun k c e=>by omega,fun k c e=>by omega⟩
theorem PT.MK (h:PT P d l a b i j)(yW:i<=j)(hp:P (l.getD i d)):PT P d l a b (i+1) j:=⟨by have:=h.hi;omega,by omega,h.hj,fun k c f=>by
 by_cases e:k=i
 ·subst e;exact hp
 ·exact h.lo k c (by omega),h.up⟩
theorem PT.Mi (h:PT P d l a b i j)(yW:i<=j)(hp:¬P (l.getD j d)):PT P d l a b i (j-1):=⟨h.hi,by omega,by have:=h.hj;omega,h.lo,fun k f c=>by
 by_cases e:k=j
 ·subst e;exact hp
 ·exact h.up k (by have:=h.hi;omega) c⟩
theorem PT.swap (h:PT P d l a b i j)(yW:i<=j)(hl:b<=l.length)(h1:¬P (l.getD i d))(h2:P (l.getD j d)):PT P d (jG d l i j) a b (i+1) (j-1)/\(jG d l i j).getD a d=l.getD a d/\gC d l (jG d l i j) a b:=by
 have n:=h.hi;have m:=h.hj;have ne:i≠j:=fun e=>h1 (e▸h2);have c:=fun x=>kX (d:=d) (l:=l) (i:=i) (j:=j) (k:=x) (by omega);refine ⟨⟨by omega,by omega,by omega,fun k f g=>?_,fun k f g=>?_⟩,by rw [c,if_neg (by omega),if_neg (by omega)],gC.jG (by omega) (by omega) (by omega) m hl⟩
 ·rw [c,if_neg (by omega)];by_cases e:k=i
  ·rw [if_pos e];exact h2
  ·rw [if_neg e];exact h.lo k f (by omega)
 ·rw [c];by_cases e:k=j
  ·rw [if_pos e];exact h1
  ·rw [if_neg e,if_neg (by omega)];exact h.up k (by omega) g
theorem PT.fin (ho:Ord c)(h:PT (fun x=>c x (l.getD a d)<0) d l a b i j)(yW:¬i<=j)(hl:b<=l.length):gC d l (jG d l j a) a b/\a<=j/\j<b /\
  (∀k,a<=k->k<j->c ((jG d l j a).getD k d) ((jG d l j a).getD j d)<0)/\(∀k,j<k->k<b->¬c ((jG d l j a).getD k d) ((jG d l j a).getD j d)<0):=by
 have p:=h.hi;have q:=h.yW;have g:=h.hj;have f:=fun x=>kX (d:=d) (l:=l) (i:=j) (j:=a) (k:=x) (by omega)
 have m:(jG d l j a).getD j d=l.getD a d:=by
  rw [f];by_cases e:j=a
  ·rw [if_pos e,e]
  ·rw [if_neg e,if_pos rfl]
 refine ⟨gC.jG (by omega) g (Qq3 _) (by omega) hl,by omega,g,fun k n o=>?_,fun k n o=>?_⟩
 ·rw [m,f];by_cases e:k=a
  ·rw [if_pos e];exact h.lo j (by omega) (by omega)
  ·rw [if_neg e,if_neg (by omega)];exact h.lo k (by omega) (by omega)
 ·rw [m,f,if_neg (by omega),if_neg (by omega)];exact h.up k n o
end
end Go.Proofs.Tryz
namespace Go.Proofs.Tryz
open Go.Eng Go.Big
theorem fu (V:View):V.Le V.shut:=fun _ _ h=>h
set_option maxRecDepth 10000 in
theorem JS {V:View}(x:Nat)(hx:x<256):aa prog 215 #[.int .u64 (x:Int)] V fun r V'=>r=.int .i64 (bf x:Int):=by
 refine oo _ V _ ⟨fun z _=>z=((x:Int),0),⟨fun a=>absurd (of_decide_eq_true a) (by omega),fun _=>⟨_,⟨rfl,rfl⟩,rfl⟩⟩,?_⟩;rintro _ d e rfl;refine ⟨rfl,fun z _=>z=((x:Int),0),⟨fun a=>absurd (of_decide_eq_true a) (by dsimp only;omega),fun _=>⟨_,⟨rfl,rfl⟩,rfl⟩⟩,?_⟩;rintro _ f g rfl;refine ⟨rfl,fun z _=>z=((x:Int),0),⟨fun a=>absurd (of_decide_eq_true a) (by dsimp only;omega),fun _=>⟨_,⟨rfl,rfl⟩,rfl⟩⟩,?_⟩;rintro _ h i rfl;have hw:IntKind.u8.wrap (x:Int)=x:=IntWalk.u8_in _ (by omega);have b:(B7.size:Int)=256:=rfl;dsimp only;rw [hw];refine ⟨rfl,⟨by omega,by show (x:Int)<(B7.size:Int);rw [b];omega⟩,fun j k=>?_⟩;show Value.int .i64 (i64.wrap (0+i64.wrap ((B7.data.toList.getD (x:Int).toNat 0).toNat:Int)))=_;congr 1;have key:∀y:Nat,y<256->(B7.data.toList.getD y 0).toNat=bf y:=by decide +kernel
 have c:bf x<=8:=eh.2 (by omega);have:=key x hx;rw [Qq0,this];simp (disch:=omega) only [ar];omega
theorem nD {V:View}(x:Nat)(hx:x<256:=by omega):aa prog 168 #[.int .u64 (x:Int)] V fun r V'=>r=.int .i64 (bf x:Int):=by
 refine qX _ V _ fun a b=>(JS x hx).mono ?_;rintro r c d rfl;exact ⟨_,rfl,fun e f=>rfl⟩
theorem qj {V:View}(x:Nat)(h0:1<=x)(hx:x<50:=by omega):aa prog 239 #[.int .i64 (x:Int)] V fun r V'=>∃m:Nat,r=.int .u64 m/\1<=m/\m<=2*x:=by
 have w:u64.wrap (x:Int)=x:=aM (by omega);refine jL _ V _ fun c d=>?_;rw [w];refine (nD x).mono ?_;rintro r f g rfl;have key:∀y:Nat,y<50->1<=y->2^bf y<=2*y/\bf y<=6:=by decide +kernel
 obtain ⟨a,h⟩:=key x hx h0
 have e:min ((bf x:Nat):Int).toNat IntKind.u64.bits=bf x:=by
  show min ((bf x:Nat):Int).toNat 64=_;rw [Qq0];omega
 have b:((1:Int)*2^bf x)=((2^bf x:Nat):Int):=by rw [Qs7];simp
 refine ⟨_,rfl,by omega,fun i j=>⟨2^bf x,?_,Wq9,a⟩⟩;rw [e,b];generalize 2^bf x=P at *;rw [aM (by omega)]
theorem Md {x m:Int}(h0:0<=m)(h1:m<1000:=by omega):0<=aV .and .u64 x m/\aV .and .u64 x m<=m:=by
 have a:(BitVec.ofInt 64 m).toNat=m.toNat:=by rw [BitVec.toNat_ofInt];omega
 have h:((BitVec.ofInt 64 x &&& BitVec.ofInt 64 m).toNat)<=m.toNat:=by rw [Wx4,a];exact Nat.and_le_right
 show 0<=u64.wrap ((BitVec.ofInt 64 x &&& BitVec.ofInt 64 m).toNat:Int)/\u64.wrap ((BitVec.ofInt 64 x &&& BitVec.ofInt 64 m).toNat:Int)<=m;rw [aM (by omega)];omega
theorem DO {V:View}{rb:Nat}{x:Int}(hw:V.w.heap[rb]?=some (.cells #[.int .u64 x] 302 (0,0)))(hx:V.X rb) :
  aa prog 240 #[.pointer (some ⟨rb,0,none⟩)] V fun r V'=>∃y:Int,r=.int .u64 y/\V'.w.heap[rb]?=some (.cells #[.int .u64 y] 302 (0,0)):=
 ko rb x V _ hw hx ⟨by decide,by decide,by decide,fun a b h=>⟨_,rfl,h⟩⟩
theorem DV {V V':View}{b:Nat}{P:Prop}(h:V.Le (V'.cp True b)):V.Le (V'.cp P b):=fun x o a=>
 ⟨fun c=>(h x o a).1 (c.imp id fun e=>⟨trivial,e.2⟩),(h x o a).2⟩
theorem Gp {V V':View}{P:Prop}{b:Nat}(h:V.Le V')(n:¬P):V.Le (V'.cp P b):=fun x o a=>
 ⟨fun c=>(h x o a).1 (c.elim id fun e=>absurd e.1 n),(h x o a).2⟩
def wJ (V:View)(v:Value)(l:L3):Prop:=RL V v l.1 l.2.1 l.2.2
theorem wJ.le {V V':View}{v:Value}{l:L3}(h:wJ V v l)(e:V.Le V'):wJ V' v l:=RL.le h e
theorem zq {V:View}{v:Value}{l:L3}(h:wJ V v l):∃(b1:Bool)(p1:OA)(n1 c1:Nat)(b2:Bool)(p2:OA)(n2 c2:Nat)(b3:Bool)(p3:OA)(n3 c3:Nat),v=.agg #[.bool b1,.slice p1 n1 c1,.bool b2,.slice p2 n2 c2,.bool b3,.slice p3 n3 c3]:=by
 obtain ⟨_,_,_,_,_,_,_,_,_,e,-⟩:=h;exact ⟨_,_,_,_,_,_,_,_,_,_,_,_,e⟩
theorem KO {V:View}{xs:List Value}{l:L3}(h:wJ V (.agg (List.toArray xs)) l):∀v∈xs,v.oneCell'=true:=by
 obtain ⟨_,_,_,_,_,_,_,_,_,_,_,_,e⟩:=zq h;have e:=congrArg Array.toList (Value.agg.inj e);dsimp only at e;subst e;intro v hm;simp only [Qq6,Qk1,or_false] at hm;rcases hm with rfl|rfl|rfl|rfl|rfl|rfl<;>rfl
theorem Ep {V:View}{vs:List Value}{ls:List L3}(h:Row 6 wJ V vs ls){i:Nat}(hi:i<ls.length):∃b1 p1 n1 c1 b2 p2 n2 c2 b3 p3 n3 c3,i*6+6<=vs.length/\(vs.drop (i*6)).take 6=[Value.bool b1,.slice p1 n1 c1,.bool b2,.slice p2 n2 c2,.bool b3,.slice p3 n3 c3] /\
  wJ V (.agg #[.bool b1,.slice p1 n1 c1,.bool b2,.slice p2 n2 c2,.bool b3,.slice p3 n3 c3]) ls[i]:=by
 obtain ⟨xs,f,b,c⟩:=h.at_ i hi;have g:=h.iI (by decide);have a:=b;obtain ⟨_,_,_,_,_,_,_,_,_,_,_,_,e⟩:=zq b;have e:=congrArg Array.toList (Value.agg.inj e);dsimp only at e;subst e;refine ⟨_,_,_,_,_,_,_,_,_,_,_,_,by omega,?_,a⟩;apply Qs5;intro j;rw [Qy3];split
 ·rename_i d;rw [Qj5];exact c j _ (Qq1 (by show j<6;omega))▸(Qq1 (by show j<6;omega)).symm
 ·rename_i d;rw [Qk6 (by show 6<=j;omega)]
theorem E_ {α:Type}{sz:Nat}{R:View->Value->α->Prop}{V:View}{w1 w2:Nat}{us:List Value}{O:List α}(hg:GR sz R V w1 w2 us O)(hs:0<sz)(one:∀xs a,R V (.agg (List.toArray xs)) a->∀v∈xs,v.oneCell'=true){bk:Nat}{ty:TypeId}{m:Nat×Nat}(hb:us≠[]->V.bB bk (.cells us.toArray ty m))
  {es:List Value}{x:α}(he:es.length=sz)(hx:R V (.agg es.toArray) x){j:Nat}(G_:j<=w1:=by omega) :
  ∃xs ys:List Value,V.sl (pC (mA bk w2) w2 j sz) xs/\xs.length=(w1-j)*sz/\(∀v∈xs,v.oneCell'=true)/\V.sl (mA bk w2) ys/\ys.length=j*sz/\((mA bk w2).isNone=true->j=0) /\
   (∀sp:List Value,bq (es.take (1*sz)++xs++sp) 0 ((1+(w1-j))*sz)=es++xs)/\(es++xs).length / sz=1+(w1-j)/\(es++xs).length=(1+(w1-j))*sz/\(∀v∈es++xs,v.oneCell'=true) /\
   ∀(sp:List Value)(c':Nat),j+(1+(w1-j))<=c'->c'*sz<=(j+(1+(w1-j)))*sz+sp.length->GR sz R V (j+(1+(w1-j))) c' (ys++(es++xs)++sp) (O.take j++x::O.drop j):=by
 have n:=hg.len;have s:=hg.le;have o:=hg.cap;have p:=hg.row;have A:w1*sz<=w2*sz:=Qq7 _ s;have B:j*sz<=w1*sz:=Qq7 _ G_;have C:(w1-j)*sz=w1*sz-j*sz:=Nat.sub_mul ..
 have t:(1+(w1-j))*sz=sz+(w1-j)*sz:=by rw [Qz6,Qm3]
 have t1:(us.take (j*sz)).length=j*sz:=by rw [Qq5];omega
 have t2:((us.take (w1*sz)).drop (j*sz)).length=(w1-j)*sz:=by rw [Qz0,Qq5];omega
 have q:∀v∈(us.take (w1*sz)).drop (j*sz),v.oneCell'=true:=by
  intro v g;obtain ⟨k,hm,e⟩:=Qg1.1 (Qd5 g);have d:k<w1*sz:=by rw [Qq5] at hm;omega
  have:=Qq1 hm;rw [e,Qy3,if_pos d] at this;exact pk p hs one (by rw [←n];exact d) this
 have f:0<w2->us≠[]:=fun hw e=>by
  have:0<w2*sz:=Wx1 hw hs;rw [e] at o;simp at o;omega
 have i:0<w2->mA bk w2=some ⟨bk,0,none⟩:=fun hw=>by unfold mA;rw [if_neg (by omega)]
 have at_:∀k v,0<w2->us[k]?=some v->V.at ⟨bk,k,none⟩ v:=fun k v hm g=>fj (hb (f hm)) g;have u:∀v∈es,v.oneCell'=true:=one _ _ hx;have b:(es++(us.take (w1*sz)).drop (j*sz)).length=(1+(w1-j))*sz:=by rw [Qq2,t2,he,t]
 refine ⟨(us.take (w1*sz)).drop (j*sz),us.take (j*sz),?_,t2,q,?_,t1,?_,fun sp=>?_,by rw [b];exact Qf3 _ hs,b,fun v w=>(Qw2.1 w).elim (u v) (q v),fun sp c' y D=>?_⟩
 ·intro k v hm;have c:=(Qw9.1 hm).1;rw [t2] at c;rw [Qj5,Qy3,if_pos (by omega)] at hm
  have E:j<w2:=by
   rcases Qy9 j w2 with h|h
   ·exact h
   ·have:w1-j=0:=by omega
    rw [this,Qd0] at c;omega
  have:=at_ (j*sz+k) v (by omega) hm;refine ⟨⟨bk,j*sz,none⟩,?_,?_⟩
  ·unfold pC;rw [if_neg (by omega),i (by omega)];simp [ah,add_zero']
  ·rw [←add_zero',tR,add_zero'];exact this
 ·intro k v hm;have c:=(Qw9.1 hm).1;rw [t1] at c;rw [Qy3,if_pos c] at hm
  have hw:0<w2:=by
   rcases Qx8 w2 with h|h
   ·have:j=0:=by omega
    rw [this,Qd0] at c;omega
   ·exact h
  exact ⟨⟨bk,0,none⟩,i hw,by rw [add_zero'];exact at_ k v hw hm⟩
 ·intro r;by_cases hw:0<w2
  ·rw [i hw] at r;cases r
  ·omega
 ·have z:es.take (1*sz)=es:=by rw [Qm3,←he,Qk2]
  rw [z];unfold bq;rw [Nat.ble_eq_true_of_le (by rw [Qq2,b];omega),cond_true,List.drop_zero,Qt1 (by rw [b];exact Qq3 _),Qb8 (by rw [b];exact Qq3 _)]
 ·have l:j<=O.length:=by omega
  refine ⟨by rw [Qq2,Qq5,Qx2,Qz0];omega,y,?_,?_⟩
  ·have F:(j+(1+(w1-j)))*sz=j*sz+(1+(w1-j))*sz:=Qz6 ..
   rw [Qq2,Qq2,t1,b];omega
  ·rw [n];exact Eo p l he hx hs
def Sp.inn (s:Sp)(t:Rat):Prop:=(s.a=true\/s.lo<t)/\(s.b=true\/t<s.hi)
def qJ (ss:List Sp)(t:Rat):Prop:=∃s∈ss,s.inn t
def Sp.good (s:Sp):Prop:=s.can/\s.emp=false
def Sp.Dv (s t:Sp):Prop:=s.b=false/\t.a=false/\s.hi<t.lo
def rS (ss:List Sp):Prop:=(∀s∈ss,s.good)/\ss.Pairwise Sp.Dv
theorem pick (E:List Rat):∀l u:Rat,l<u->∃t,l<t/\t<u/\t∉E:=by
 induction E with
 | nil=>exact fun l u h=>⟨(l+u) / 2,by grind,by grind,by simp⟩
 | cons e r ih=>
  intro l u h;by_cases c:l<e/\e<u
  ·obtain ⟨t,a,b,d⟩:=ih l e c.1;refine ⟨t,a,by grind,fun hm=>?_⟩;rcases Qq6.1 hm with rfl|hm
   ·grind
   ·exact d hm
  ·obtain ⟨t,a,b,d⟩:=ih l u h;refine ⟨t,a,b,fun hm=>?_⟩;rcases Qq6.1 hm with rfl|hm
   ·exact c ⟨a,b⟩
   ·exact d hm
theorem Sr:∀l:List Rat,l=[]\/∃m∈l,∀x∈l,x<=m:=by
 intro l
 induction l with
 | nil=>exact .inl rfl
 | cons y r ih=>
  rcases ih with rfl|⟨m,hm,h⟩
  ·exact .inr ⟨y,by simp,by intro x a;simp at a;grind⟩
  ·by_cases c:m<y
   ·exact .inr ⟨y,by simp,fun x a=>(Qq6.1 a).elim (fun e=>by grind) fun e=>by have:=h x e;grind⟩
   ·exact .inr ⟨m,by simp [hm],fun x a=>(Qq6.1 a).elim (fun e=>by grind) fun e=>h x e⟩
theorem Pk:∀l:List Rat,l=[]\/∃m∈l,∀x∈l,m<=x:=by
 intro l
 induction l with
 | nil=>exact .inl rfl
 | cons y r ih=>
  rcases ih with rfl|⟨m,hm,h⟩
  ·exact .inr ⟨y,by simp,by intro x a;simp at a;grind⟩
  ·by_cases c:y<m
   ·exact .inr ⟨y,by simp,fun x a=>(Qq6.1 a).elim (fun e=>by grind) fun e=>by have:=h x e;grind⟩
   ·exact .inr ⟨m,by simp [hm],fun x a=>(Qq6.1 a).elim (fun e=>by grind) fun e=>h x e⟩
theorem Co (E Ls Us:List Rat)(h:∀l∈Ls,∀u∈Us,l<u):∃t,(∀l∈Ls,l<t)/\(∀u∈Us,t<u)/\t∉E:=by
 have key:∃a b:Rat,a<b/\(∀l∈Ls,l<=a)/\∀u∈Us,b<=u:=by
  rcases Sr Ls with rfl|⟨m,hm,d⟩
  ·rcases Pk Us with rfl|⟨n,e,c⟩
   ·exact ⟨0,1,by decide,(fun _ h=>by cases h),(fun _ h=>by cases h)⟩
   ·exact ⟨n-1,n,by grind,(fun _ h=>by cases h),c⟩
  ·rcases Pk Us with rfl|⟨n,e,c⟩
   ·exact ⟨m,m+1,by grind,d,(fun _ h=>by cases h)⟩
   ·exact ⟨m,n,h m hm n e,d,c⟩
 obtain ⟨a,b,f,d,c⟩:=key;obtain ⟨t,t1,t2,t3⟩:=pick E a b f;exact ⟨t,fun l g=>by have:=d l g;grind,fun u hu=>by have:=c u hu;grind,t3⟩
def Sp.Cb (s:Sp):List Rat:=if s.a then [] else [s.lo]
def Sp.Ba (s:Sp):List Rat:=if s.b then [] else [s.hi]
theorem tF {s:Sp}{t:Rat}:s.inn t↔(∀l∈s.Cb,l<t)/\∀u∈s.Ba,t<u:=by
 unfold Sp.inn Sp.Cb Sp.Ba;cases s.a<;>cases s.b<;>simp
theorem kO {s:Sp}{l:Rat}(h:l∈s.Cb):s.a=false/\l=s.lo:=by
 unfold Sp.Cb at h;cases ha:s.a<;>simp [ha] at h;exact ⟨rfl,h⟩
theorem mE {s:Sp}{l:Rat}(h:l∈s.Ba):s.b=false/\l=s.hi:=by
 unfold Sp.Ba at h;cases ha:s.b<;>simp [ha] at h;exact ⟨rfl,h⟩
theorem kb {s:Sp}(h:s.emp=false)(ha:s.a=false)(hb:s.b=false):s.lo<s.hi:=by
 rcases Sp.kJ.1 h with h|h|h
 ·rw [ha] at h;cases h
 ·rw [hb] at h;cases h
 ·exact h
theorem Fm {s:Sp}(h:s.emp=false)(E:List Rat):∃t,s.inn t/\t∉E:=by
 obtain ⟨t,a,b,c⟩:=Co E s.Cb s.Ba (fun l d u hu=>by
  obtain ⟨e,rfl⟩:=kO d;obtain ⟨hb,rfl⟩:=mE hu;exact kb h e hb)
 exact ⟨t,tF.2 ⟨a,b⟩,c⟩
theorem rS.tail {s:Sp}{r:List Sp}(h:rS (s::r)):rS r:=⟨fun x a=>h.1 x (by simp [a]),(Qk9.1 h.2).2⟩
theorem rS.Dv {s:Sp}{r:List Sp}(h:rS (s::r)){x:Sp}(hx:x∈r):s.Dv x:=(Qk9.1 h.2).1 x hx
theorem Am {s:Sp}{r:List Sp}(h:rS (s::r))(ha:s.a=false){t:Rat}(ht:t<=s.lo):¬qJ (s::r) t:=by
 rintro ⟨x,c,b,f⟩;rcases Qq6.1 c with rfl|c
 ·rcases b with b|b
  ·rw [ha] at b;cases b
  ·grind
 ·obtain ⟨d,e,g⟩:=h.Dv c;have:=kb (h.1 s (by simp)).2 ha d;rcases b with b|b
  ·rw [e] at b;cases b
  ·grind
def nl:List Sp->List Rat
 | []=>[]
 | x::_=>[x.lo]
theorem Fi {s:Sp}{r:List Sp}(h:rS (s::r))(hb:s.b=false){t:Rat}(h1:s.hi<=t)(h2:∀x∈nl r,t<=x):¬qJ (s::r) t:=by
 rintro ⟨x,c,d,a⟩;rcases Qq6.1 c with rfl|c
 ·rcases a with a|a
  ·rw [hb] at a;cases a
  ·grind
 ·cases r with
  | nil=>cases c
  | cons y r=>exact Am h.tail (h.Dv (by simp)).2.1 (h2 y.lo (by simp [nl])) ⟨x,c,d,a⟩
set_option linter.unusedSectionVars false
section
variable {s s':Sp} {r r':List Sp} {E:List Rat} (h:rS (s :: r)) (h':rS (s' :: r')) (e:∀t,t ∉ E->qJ (s :: r) t->qJ (s' :: r') t)
include h h' e
theorem P1 (ha:s.a=true):s'.a=true:=by
 cases ha':s'.a with
 | true=>rfl
 | false=>
  obtain ⟨t,-,c,d⟩:=Co E [] (s'.lo::s.Ba) (fun l b=>by cases b);have:=e t d ⟨s,by simp,.inl ha,(tF.2 ⟨(fun l b=>by unfold Sp.Cb at b;rw [if_pos ha] at b;cases b),fun u hu=>c u (by simp [hu])⟩).2⟩;exact absurd this (Am h' ha' (by have:=c s'.lo (by simp);grind))
theorem LR (ha:s.a=false)(ha':s'.a=false):¬s.lo<s'.lo:=by
 intro b
 obtain ⟨t,f,d,g⟩:=Co E [s.lo] (s'.lo::s.Ba) (fun l c u hu=>by
  obtain rfl:l=s.lo:=by simpa using c
  rcases Qq6.1 hu with rfl|hu
  ·exact b
  ·obtain ⟨i,rfl⟩:=mE hu;exact kb (h.1 s (by simp)).2 ha i)
 have:=e t g ⟨s,by simp,tF.2 ⟨(fun l c=>by obtain ⟨-,rfl⟩:=kO c;exact f _ (by simp)),fun u hu=>d u (by simp [hu])⟩⟩;exact absurd this (Am h' ha' (by have:=d s'.lo (by simp);grind))
theorem P2 (h0 : s.a = false → s'.a = false ∧ s.lo = s'.lo)(hb : s.b = true) : s'.b = true := by
  cases hb' : s'.b with
  | true => rfl
  | false =>
    have d : ∀ u∈nl r', s'.hi<u := fun u hu => by
      cases r' with
      | nil => cases hu
      | cons y r' => obtain rfl : u = y.lo := by simpa [nl] using hu
                     exact (h'.Dv (by simp)).2.2
    obtain ⟨t, f, h, i⟩ := Co E (s'.hi::s.Cb) (nl r') (fun l c u hu => by
      rcases Qq6.1 c with rfl|c
      · exact d u hu
      · obtain ⟨g, rfl⟩ := kO c;have := kb (h'.1 s' (by simp)).2 (h0 g).1 hb';have := d u hu;rw [(h0 g).2];grind)
    have := e t i ⟨s, by simp, (tF.2 ⟨(fun l c => f l (by simp [c])), (fun u hu => by unfold Sp.Ba at hu;rw [if_pos hb] at hu;cases hu)⟩ : s.inn t)⟩;exact absurd this (Fi h' hb' (by have := f s'.hi (by simp);grind) (fun x j => by have := h x j;grind))
theorem LQ (h0 : s.a = false → s'.a = false ∧ s.lo = s'.lo)(hb : s.b = false)(hb' : s'.b = false) : ¬s'.hi<s.hi := by
  intro c
  have g : ∀ u∈nl r', s'.hi<u := fun u hu => by
    cases r' with
    | nil => cases hu
    | cons y r' => obtain rfl : u = y.lo := by simpa [nl] using hu
                   exact (h'.Dv (by simp)).2.2
  obtain ⟨t, h, f, i⟩ := Co E [s'.hi] (s.hi::nl r') (fun l j u hu => by
    obtain rfl : l = s'.hi := by simpa using j
    rcases Qq6.1 hu with rfl|hu
    · exact c
    · exact g u hu)
  have m := h s'.hi (by simp)
  have d : s.inn t := by
    refine ⟨?_, .inr (f s.hi (by simp))⟩
    cases ha : s.a with
    | true => exact .inl rfl
    | false =>
      have := kb (h'.1 s' (by simp)).2 (h0 ha).1 hb';rw [(h0 ha).2];exact .inr (by grind)
  exact absurd (e t i ⟨s, by simp, d⟩) (Fi h' hb' (by grind) (fun x k => by have := f x (by simp [k]);grind))
end
theorem Sp.ext' {s t:Sp}(h1:s.a=t.a)(h2:s.b=t.b)(h3:s.lo=t.lo)(h4:s.hi=t.hi):s=t:=by
 cases s;cases t;simp at *;exact ⟨h3,h4,h1,h2⟩
theorem Ek {E:List Rat}:∀{xs ys:List Sp},rS xs->rS ys->(∀t,t∉E->(qJ xs t↔qJ ys t))->xs=ys:=by
 intro xs
 induction xs with
 | nil=>
  intro ys _ f e
  cases ys with
  | nil=>rfl
  | cons s r=>
   obtain ⟨t,c,i⟩:=Fm (f.1 s (by simp)).2 E;obtain ⟨x,d,-⟩:=(e t i).2 ⟨s,by simp,c⟩;cases d
 | cons s r ih=>
  intro ys d f e
  cases ys with
  | nil=>
   obtain ⟨t,c,i⟩:=Fm (d.1 s (by simp)).2 E;obtain ⟨x,d,-⟩:=(e t i).1 ⟨s,by simp,c⟩;cases d
  | cons s' r'=>
   have l:=fun t j=>(e t j).1;have n:=fun t j=>(e t j).2
   have beq:∀{a b:Bool},(a=true->b=true)->(b=true->a=true)->a=b:=fun {a b} c i=>by
    cases a<;>cases b<;>simp at c i ⊢
   have g:s.a=s'.a:=beq (P1 d f l) (P1 f d n)
   have w:s.a=false->s.lo=s'.lo:=fun c=>by
    have A:=LR d f l c (g▸c);have B:=LR f d n (g▸c) c;grind
   have y:s.a=false->s'.a=false/\s.lo=s'.lo:=fun h=>⟨g▸h,w h⟩;have o:s'.a=false->s.a=false/\s'.lo=s.lo:=fun h=>⟨g.symm▸h,(w (g.symm▸h)).symm⟩;have u:s.b=s'.b:=beq (P2 d f l y) (P2 f d n o)
   have C:s.b=false->s.hi=s'.hi:=fun c=>by
    have A:=LQ d f l y c (u▸c);have B:=LQ f d n o (u▸c) c;grind
   have gs:=(d.1 s (by simp)).1;have p:=(f.1 s' (by simp)).1
   have es:s=s':=by
    refine Sp.ext' g u ?_ ?_
    ·cases c:s.a with
     | false=>exact w c
     | true=>rw [gs.1 c,p.1 (g▸c)]
    ·cases c:s.b with
     | false=>exact C c
     | true=>rw [gs.2 c,p.2 (u▸c)]
   subst es
   have z:∀{q:List Sp} {t:Rat},rS (s::q)->qJ q t->¬s.inn t:=by
    rintro q t D ⟨x,d,c,i⟩ ⟨v,k⟩;obtain ⟨F,G,H⟩:=D.Dv d;rw [F] at k;rw [G] at c;simp at k c;grind
   rw [ih d.tail f.tail (fun t j=>⟨fun m=>?_,fun m=>?_⟩)]
   ·obtain ⟨x,hm,hi⟩:=l t j (by obtain ⟨x,v,k⟩:=m;exact ⟨x,by simp [v],k⟩);rcases Qq6.1 hm with rfl|hm
    ·exact absurd hi (z d m)
    ·exact ⟨x,hm,hi⟩
   ·obtain ⟨x,hm,hi⟩:=n t j (by obtain ⟨x,v,k⟩:=m;exact ⟨x,by simp [v],k⟩);rcases Qq6.1 hm with rfl|hm
    ·exact absurd hi (z f m)
    ·exact ⟨x,hm,hi⟩
end Go.Proofs.Tryz
namespace Go.Proofs.Tryz
open Go.Eng Go.Big
theorem K1:Sz 2 (((2:Int):Rat)):=⟨by show (2:Int).natAbs<_;decide,by show (1:Nat)<_;decide⟩
theorem tL:Sz 2 (((1:Int):Rat)):=⟨by show (1:Int).natAbs<_;decide,by show (1:Nat)<_;decide⟩
theorem DJ {V:View}{v:Value}{x:Rat}(h:RQ V v x){k:Nat}(sx:Sz k x)(hk:k+2<274877906944:=by omega) :
  aa prog 205 #[v] V fun r V'=>RQ V' r (x*((2:Int):Rat)⁻¹):=by
 have b:=h;obtain ⟨_,_,_,_,_,_,rfl⟩:=h.shape;refine C5 _ _ _ _ _ _ _ V _ fun j c=>(fl 2 (by decide) (by decide)).mono ?_;rintro r l d g;have e:=g;obtain ⟨_,_,_,_,_,_,rfl⟩:=g.shape;refine ⟨_,_,_,_,_,_,_,rfl,fun m a=>(ug (b.le (c.trans (d.trans a))) (e.le a) (by show (2:Int)≠0;decide) sx K1 hk).mono ?_⟩;rintro r n o q;have f:=q;obtain ⟨_,_,_,_,_,_,rfl⟩:=q.shape;exact ⟨_,_,_,_,_,_,_,rfl,fun p i=>f.le i⟩
theorem F6 {V:View}{v w:Value}{x y:Rat}(h:RQ V v x)(h':RQ V w y){k:Nat}(sx:Sz k x)(sy:Sz k y)(hk:4*k+4<274877906944:=by omega) :
  aa prog 166 #[v,w] V fun r V'=>RQ V' r ((x+y)*((2:Int):Rat)⁻¹):=by
 have c:=h;have a:=h';obtain ⟨_,_,_,_,_,_,rfl⟩:=h.shape;obtain ⟨_,_,_,_,_,_,rfl⟩:=h'.shape;refine EJ _ _ _ _ _ _ _ _ _ _ _ _ _ _ V _ fun j b=>(dk (c.le b) (a.le b) sx sy).mono ?_;rintro r l m g;have d:=g;obtain ⟨_,_,_,_,_,_,rfl⟩:=g.shape;refine ⟨_,_,_,_,_,_,_,rfl,fun n e=>(DJ (d.le e) (sx.add sy)).mono ?_⟩;rintro r o p q;have f:=q;obtain ⟨_,_,_,_,_,_,rfl⟩:=q.shape;exact ⟨_,_,_,_,_,_,_,rfl,fun s i=>f.le i⟩
end Go.Proofs.Tryz
