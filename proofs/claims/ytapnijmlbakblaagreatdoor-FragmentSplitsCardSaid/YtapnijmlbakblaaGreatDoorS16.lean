import Derived.Test.YtapnijmlbakblaaGreatDoorS15
import Derived.Test.YtapnijmlbakblaaGreatDoorS8
import Derived.Test.YtapnijmlbakblaaGreatDoorS9
import Derived.Test.YtapnijmlbakblaaGreatDoorS11
import Derived.Test.YtapnijmlbakblaaGreatDoorS6
set_option linter.unusedVariables false
open Go.IntKind (i64 u64 u32)
namespace Go.Proofs.Tryz
open Go.Eng Go.Big
def PJ (b:Bool)(xs ys:List Nat):Rat:=mkRat (aZ b xs) (val ys)
def C6 (b:Bool)(xs ys:List Nat):Bool:=lO b xs&&decide (ai (val ys)=ys)&&!decide (ys=[])&&decide (Nat.gcd (val xs) (val ys)=1)
def Nb (b:Bool)(xs ys:List Nat):Bool:=!b&&decide (xs=[])&&decide (ys=[])
def Jc (b:Bool)(xs ys:List Nat)(no:Bool):Rat:=if no then 0 else PJ b xs ys
def vm (b:Bool)(xs ys:List Nat)(no:Bool):Bool:=if no then Nb b xs ys else C6 b xs ys
theorem GH {q:Rat}:C6 (decide (q.num<0)) (ai q.num.natAbs) (ai q.den)=true/\PJ (decide (q.num<0)) (ai q.num.natAbs) (ai q.den)=q:=by
 constructor
 ·unfold C6
  have a:lO (decide (q.num<0)) (ai q.num.natAbs)=true:=by
   unfold lO;rw [af];by_cases h:q.num<0
   ·have:ai q.num.natAbs≠[]:=fun e=>by have:=bH.1 e;omega
    simp [h,this]
   ·simp [h]
  have b:ai q.den≠[]:=fun e=>q.den_nz (bH.1 e);rw [a,af,af];simp [b,q.reduced]
 ·unfold PJ;rw [aE,af,Rat.mkRat_self]
theorem xI {V:View}(b:Bool){p q:OA}{n c m e:Nat}{xs ys:List Nat}(hx:RD V p n c xs)(hy:RD V q m e ys)(hm:xs.length<=1099511627776)(hn:ys.length<=1099511627776) :
  ae prog 188 #[.agg #[.bool b,.slice p n c,.slice q m e]] V fun r V'=>r=.bool (C6 b xs ys):=by
 refine wJ b p n c q m e V _ fun z a=>(dV b (hx.le a) hm).mono ?_;rintro r V2 l rfl;refine ⟨_,rfl,fun h A B=>by rw [Bool.not_eq_true'] at h;simp [C6,h],fun d C o=>(pH (hy.le (a.trans (l.trans o))) hn).mono ?_⟩;rw [Bool.not_eq_false'] at d;rintro r D t rfl;refine ⟨_,rfl,fun h E F=>by rw [Bool.not_eq_true'] at h;simp [C6,h],fun f=>⟨fun h G H=>?_,fun u I v=>?_⟩⟩
 ·have i:=hy.len
  have:ys=[]:=by
   have h:((m:Nat):Int)=0:=by simpa using h
   exact List.length_eq_zero_iff.1 (by omega)
  simp [C6,this]
 ·rw [Bool.not_eq_false'] at f;have i:=hy.len
  have j:ys≠[]:=fun e=>by
   have h:¬((m:Nat):Int)=0:=by simpa using u
   rw [e] at i;exact h (by simp at i;omega)
  have s:=a.trans (l.trans (o.trans (t.trans v)));refine (qY (hx.le s) (hy.le s) hm hn).mono ?_;rintro r J K ⟨L,M,N,rfl,g⟩
  have w:(ai (Nat.gcd (val xs) (val ys))).length<=1099511627776:=by
   have d:=bo hx.fk;have f:=bo hy.fk;by_cases x:val xs=0
   ·rw [x,Nat.gcd_zero_left];omega
   ·have:Nat.gcd (val xs) (val ys)<=val xs:=Nat.gcd_le_left _ (by omega);have:=aC this;omega
  refine ⟨_,_,_,rfl,fun O k=>(gD (g.le k) w).mono ?_⟩;rintro r P Q rfl;refine ⟨_,rfl,fun R S=>?_⟩
  have y:(((bG (val (ai (Nat.gcd (val xs) (val ys)))):Nat):Int)==1)=decide (Nat.gcd (val xs) (val ys)=1):=by
   rw [af,Bool.eq_iff_iff,beq_iff_eq,decide_eq_true_eq]
   have gen:∀g:Nat,((bG g:Nat):Int)=1↔g=1:=fun g=>by
    have T:bG g<=1↔g<2:=@fR g 1;have U:bG g<=0↔g<1:=@fR g 0;omega
   exact gen _
  rw [y];simp [C6,d,f,j]
theorem zw {V:View}{v:Value}{b:Bool}{xs ys:List Nat}(no:Bool)(h:Hb V v b xs ys)(hm:xs.length<=1099511627776)(hn:ys.length<=1099511627776) :
  ae prog 144 #[v,.bool no] V fun r V'=>∃w,r=.tuple #[w,.bool (vm b xs ys no)]/\RR V' w (Jc b xs ys no):=by
 obtain ⟨p,n,c,q,m,e,rfl,d,f⟩:=h;have l:=d.len;have s:=f.len;refine FM b p n c q m e no V _ ⟨?_,?_⟩
 ·rintro rfl;have z:∀V':View,RR V' (.agg #[.int .i64 0,.int .i64 0,.pointer none]) (Jc b xs ys true):=fun V'=>RR.zero V';refine ⟨fun h=>⟨fun i A B=>⟨_,?_,z _⟩,fun i V2 C=>⟨_,?_,z _⟩⟩,fun h D E=>⟨_,?_,z _⟩⟩
  ·have j:xs=[]:=by
    have h:((n:Nat):Int)=0:=by simpa using i
    exact List.length_eq_zero_iff.1 (by omega)
   have t:(((m:Nat):Int)==0)=decide (ys=[]):=by
    rw [Bool.eq_iff_iff,beq_iff_eq,decide_eq_true_eq,←List.length_eq_zero_iff];omega
   rw [Bool.not_eq_true'] at h;simp [vm,Nb,h,j,←t]
  ·have j:xs≠[]:=fun e=>by
    have h:¬((n:Nat):Int)=0:=by simpa using i
    rw [e] at l;exact h (by simp at l;omega)
   simp [vm,Nb,j]
  ·rw [Bool.not_eq_false'] at h;simp [vm,Nb,h]
 ·rintro rfl F a;refine (kO b (d.le a) (f.le a) hm hn).mono ?_;rintro r G o g;have u:=g;obtain ⟨_,_,_,rfl⟩:=g.shape;refine ⟨_,_,_,rfl,fun H k=>(xI b (d.le (a.trans (o.trans k))) (f.le (a.trans (o.trans k))) hm hn).mono ?_⟩;rintro r I x rfl;exact ⟨_,rfl,fun J y=>⟨_,rfl,u.le (k.trans (x.trans y))⟩⟩
theorem uQ {V:View}{v:Value}{s:Sp}(h:At V v s){k:Nat}(hs:s.sz k)(hk:2*k<1099511627776) :
  ae prog 145 #[v] V fun r V'=>r=.bool s.emp:=by
 obtain ⟨f,g,p,i,j,q,rfl,l,m⟩:=h;refine tO f g p i j q s.a s.b V _ ⟨fun c=>⟨fun d n e=>(jr (l.le e) (m.le e) hs.1 hs.2 (by omega)).mono ?_,fun d o t=>?_⟩,fun c u w=>?_⟩
 ·rintro r V2 x rfl;exact ⟨_,rfl,fun y z=>by rw [Bool.not_eq_true'] at c d;simp [Sp.emp,c,d]⟩
 ·rw [Bool.not_eq_false'] at d;simp [Sp.emp,d]
 ·rw [Bool.not_eq_false'] at c;simp [Sp.emp,c]
def Qr (V:View)(v:Value)(b1:Bool)(xs1 ys1:List Nat)(b2:Bool)(xs2 ys2:List Nat)(na nb:Bool):Prop:=∃p n c p' n' c' q m e q' m' e',v=.agg #[.bool b1,.slice p n c,.slice p' n' c',.bool b2,.slice q m e,.slice q' m' e',.bool na,.bool nb] /\
 Hb V (.agg #[.bool b1,.slice p n c,.slice p' n' c']) b1 xs1 ys1/\Hb V (.agg #[.bool b2,.slice q m e,.slice q' m' e']) b2 xs2 ys2
theorem Qr.le {V V':View}{v:Value}{b1:Bool}{xs1 ys1:List Nat}{b2:Bool}{xs2 ys2:List Nat}{na nb:Bool}(h:Qr V v b1 xs1 ys1 b2 xs2 ys2 na nb)(l:V.Le V'):Qr V' v b1 xs1 ys1 b2 xs2 ys2 na nb:=by
 obtain ⟨p,n,c,d,f,g,q,m,e,i,j,k,rfl,a,b⟩:=h;exact ⟨_,_,_,_,_,_,_,_,_,_,_,_,rfl,a.le l,b.le l⟩
def Ln (b1:Bool)(xs1 ys1:List Nat)(b2:Bool)(xs2 ys2:List Nat)(na nb:Bool):Sp:=⟨Jc b1 xs1 ys1 na,Jc b2 xs2 ys2 nb,na,nb⟩
def okW (b1:Bool)(xs1 ys1:List Nat)(b2:Bool)(xs2 ys2:List Nat)(na nb:Bool):Bool:=vm b1 xs1 ys1 na&&vm b2 xs2 ys2 nb&&!(Ln b1 xs1 ys1 b2 xs2 ys2 na nb).emp
theorem EC {V:View}{v:Value}{b1:Bool}{xs1 ys1:List Nat}{b2:Bool}{xs2 ys2:List Nat}{na nb:Bool}(h:Qr V v b1 xs1 ys1 b2 xs2 ys2 na nb)(m1:xs1.length<=1099511627776)(m2:ys1.length<=1099511627776)(m3:xs2.length<=1099511627776)(m4:ys2.length<=1099511627776)
  {k:Nat}(hs:(Ln b1 xs1 ys1 b2 xs2 ys2 na nb).sz k)(hk:2*k<1099511627776) :
  ae prog 85 #[v] V fun r V'=>∃w,r=.tuple #[w,.bool (okW b1 xs1 ys1 b2 xs2 ys2 na nb)]/\At V' w (Ln b1 xs1 ys1 b2 xs2 ys2 na nb):=by
 obtain ⟨p,n,c,u,x,y,q,m,e,z,A,B,rfl,C,D⟩:=h;refine DS b1 p n c u x y b2 q m e z A B na nb V _ fun U l=>(zw na (C.le l) m1 m2).mono ?_;rintro r V2 E ⟨w,rfl,o⟩;have f:=o;obtain ⟨F,G,H,rfl⟩:=o.shape;refine ⟨_,_,_,_,rfl,fun W s=>(zw nb (D.le (l.trans (E.trans s))) m3 m4).mono ?_⟩;rintro r I J ⟨w,rfl,t⟩;have g:=t;obtain ⟨K,L,M,rfl⟩:=t.shape;have d:∀a:View,I.Le a->At a (.agg #[.int .i64 F,.int .i64 G,.pointer H,.int .i64 K,.int .i64 L,.pointer M,.bool na,.bool nb]) (Ln b1 xs1 ys1 b2 xs2 ys2 na nb):=fun a b=>⟨_,_,_,_,_,_,rfl,f.le (s.trans (J.trans b)),g.le b⟩;refine ⟨_,_,_,_,rfl,fun i=>⟨fun j a b=>(uQ (d a b) hs hk).mono ?_,fun j N O=>⟨_,?_,d N O⟩⟩,fun i P Q=>⟨_,?_,d P Q⟩⟩
 ·rintro r X R rfl;exact ⟨_,rfl,fun S T=>⟨_,by simp [okW,i,j],d S (b.trans (R.trans T))⟩⟩
 ·simp [okW,j]
 ·simp [okW,i]
def Lp (l:L3)(s:Sp):Prop:=jO l=true/\s.can/\s.emp=false
theorem RE.raw {V:View}{v:Value}{q:Rat}{no:Bool}(h:RE V v q no)(hc:no=true->q=0):∃b xs ys,Hb V v b xs ys/\vm b xs ys no=true/\Jc b xs ys no=q/\(∀k,Sz k q->xs.length<=k/\ys.length<=k):=by
 cases no with
 | true=>
  exact ⟨false,[],[],h.1 rfl,rfl,by rw [hc rfl];rfl,fun k _=>⟨Nat.zero_le _,Nat.zero_le _⟩⟩
 | false=>
  obtain ⟨p,n,c,f,g,i,rfl,d,e⟩:=h.2 rfl;exact ⟨_,_,_,⟨_,_,_,_,_,_,rfl,d,e⟩,GH.1,GH.2,fun k a=>⟨ag a.1,ag a.2⟩⟩
theorem Hi {V:View}{v:Value}{s:Sp}(h:Lu V v s)(hc:s.can)(hne:s.emp=false){k:Nat}(hs:s.sz k)(hk:2*k<1099511627776) :
  ae prog 85 #[v] V fun r V'=>∃w,r=.tuple #[w,.bool true]/\At V' w s:=by
 obtain ⟨b,p,n,c,C,D,E,d,q,m,e,F,G,H,rfl,o,t⟩:=h;obtain ⟨b1,xs1,ys1,f,u,x,i⟩:=o.raw hc.1;obtain ⟨b2,xs2,ys2,j,y,z,l⟩:=t.raw hc.2;have A:b=b1:=by obtain ⟨_,_,_,_,_,_,e,-⟩:=f;injection e with e;simp at e;exact e.1
 have B:d=b2:=by obtain ⟨_,_,_,_,_,_,e,-⟩:=j;injection e with e;simp at e;exact e.1
 subst A B;have i:=i k hs.1;have l:=l k hs.2;have es:Ln b xs1 ys1 d xs2 ys2 s.a s.b=s:=by unfold Ln;rw [x,z]
 refine (EC (V:=V) (b1:=b) (xs1:=xs1) (ys1:=ys1) (b2:=d) (xs2:=xs2) (ys2:=ys2) (na:=s.a) (nb:=s.b) ⟨_,_,_,_,_,_,_,_,_,_,_,_,rfl,f,j⟩ (by omega) (by omega) (by omega) (by omega) (k:=k) (by rw [es];exact hs) hk).mono ?_;rintro r V2 I ⟨w,rfl,g⟩;rw [es] at g;exact ⟨w,by unfold okW;rw [es,u,y,hne];rfl,g⟩
theorem I4 {V:View}{v:Value}{s:Sp}(h:At V v s){k:Nat}(hs:s.sz k)(hk:k<=1099511627776):ae prog 165 #[v] V fun r V'=>Lu V' r s:=by
 obtain ⟨w,y,p,z,A,q,rfl,B,l⟩:=h
 have t:∀{V:View} {v:Value} {x:Rat} {no:Bool},RA V v x->(!no)=true->RE V v x no:=fun h e=>by
  rw [Bool.not_eq_true'] at e;subst e;exact ⟨(fun h=>nomatch h),fun _=>h⟩
 have f:∀{V:View} {x:Rat} {no:Bool},(!no)=false->RE V (.agg #[.bool false,.slice none 0 0,.slice none 0 0]) x no:=fun e=>by
  rw [Bool.not_eq_false'] at e;subst e;exact ⟨fun _=>Hb.nil,(fun h=>nomatch h)⟩
 refine yw w y p z A q s.a s.b V _ ⟨fun g I m=>(pC (B.le m) hs.1 hk).mono ?_,fun g=>⟨fun c J C=>(pC (l.le C) hs.2 hk).mono ?_,fun c K D=>?_⟩⟩
 ·rintro r V2 E n;have i:=n;obtain ⟨_,_,_,_,_,_,_,rfl⟩:=n.shape;refine ⟨_,_,_,_,_,_,_,rfl,fun c L o=>(pC (l.le (m.trans (E.trans o))) hs.2 hk).mono ?_,fun c M F=>?_⟩
  ·rintro r N G j;have d:=j;obtain ⟨_,_,_,_,_,_,_,rfl⟩:=j.shape;exact ⟨_,_,_,_,_,_,_,rfl,fun O u=>⟨_,_,_,_,_,_,_,_,_,_,_,_,_,_,rfl,t (i.le (o.trans (G.trans u))) g,t (d.le u) c⟩⟩
  ·exact ⟨_,_,_,_,_,_,_,_,_,_,_,_,_,_,rfl,t (i.le F) g,f c⟩
 ·rintro r P Q j;have d:=j;obtain ⟨_,_,_,_,_,_,_,rfl⟩:=j.shape;exact ⟨_,_,_,_,_,_,_,rfl,fun R H=>⟨_,_,_,_,_,_,_,_,_,_,_,_,_,_,rfl,f g,t (d.le H) c⟩⟩
 ·exact ⟨_,_,_,_,_,_,_,_,_,_,_,_,_,_,rfl,f g,f c⟩
theorem uk.ZV {V:View}{r:Value}{l:L3}(h:RL V r ((l.1:Rat)).num ((l.2.1:Rat)).num ((l.2.2:Rat)).num):RL V r l.1 l.2.1 l.2.2:=by
 simpa [Rat.num_intCast] using h
theorem Cj {V:View}{v:Value}{l:L3}{s:Sp}(h:xE V v l s){k:Nat}(sl:eG k l)(hs:s.sz k)(hk:k<=1099511627776):ae prog 94 #[v] V fun r V'=>xD V' r l s:=by
 obtain ⟨u,w,p,x,y,q,z,A,r,B,C,t,D,E,o,rfl,i,j⟩:=h;refine yr _ _ _ _ _ _ _ _ _ _ _ _ _ _ _ _ _ V _ fun F c=>(Hk (i.le c) sl.1 sl.2.1 sl.2.2 hk).mono ?_;rintro r V2 m d;have a:=uk.ZV d;obtain ⟨_,_,_,_,_,_,_,_,_,_,_,_,rfl⟩:=fY d;refine ⟨_,_,_,_,_,_,_,_,_,_,_,_,rfl,fun G e=>(I4 (j.le (c.trans (m.trans e))) hs hk).mono ?_⟩;rintro r H n f;have b:=f;obtain ⟨_,_,_,_,_,_,_,_,_,_,_,_,_,_,rfl,-,-⟩:=f;exact ⟨_,_,_,_,_,_,_,_,_,_,_,_,_,_,_,_,rfl,fun I g=>⟨_,_,_,_,_,_,_,_,_,_,_,_,_,_,_,_,_,_,_,_,_,_,_,_,_,_,rfl,a.le (e.trans (n.trans g)),b.le g⟩⟩
theorem PD {l:L3}(h:jO l=true):Nz l:=by
 unfold jO at h;intro e;simp [e.1,e.2] at h
theorem J3 {a b c:Int}(h:¬(a=0/\b=0)):jO (vM a b c)=true:=by
 have p:0<bM a b c:=by
  apply Nat.pos_of_ne_zero;intro e;have d:=Nat.gcd_eq_zero_iff.1 e;have j:=Nat.gcd_eq_zero_iff.1 d.1;exact h ⟨by omega,by omega⟩
 have f:bM a b c∣a.natAbs:=Nat.dvd_trans (Nat.gcd_dvd_left _ _) (Nat.gcd_dvd_left _ _);have g:bM a b c∣b.natAbs:=Nat.dvd_trans (Nat.gcd_dvd_left _ _) (Nat.gcd_dvd_right _ _);have l:bM a b c∣c.natAbs:=Nat.gcd_dvd_right _ _;have m:∀{x:Int},bM a b c∣x.natAbs->((bM a b c:Nat):Int)∣x:=fun h=>Int.natAbs_dvd_natAbs.1 (by rw [Int.natAbs_natCast];exact h);have i:∀{x:Int},bM a b c∣x.natAbs->(x / (bM a b c:Int)).natAbs=x.natAbs / bM a b c:=fun h=>by rw [Int.natAbs_ediv_of_dvd (m h),Int.natAbs_natCast]
 have nz:∀{x:Int},bM a b c∣x.natAbs->x / (bM a b c:Int)=0->x=0:=fun q e=>by
  obtain ⟨k,o⟩:=m q;rw [o,Int.mul_ediv_cancel_left _ (by omega)] at e;rw [o,e,Int.mul_zero]
 have e:bM (a / (bM a b c:Int)) (b / (bM a b c:Int)) (c / (bM a b c:Int))=1:=by
  show Nat.gcd (Nat.gcd (a / (bM a b c:Int)).natAbs (b / (bM a b c:Int)).natAbs) (c / (bM a b c:Int)).natAbs=1;rw [i f,i g,i l,Nat.gcd_div f g,Nat.gcd_div (show bM a b c∣Nat.gcd a.natAbs b.natAbs from Nat.gcd_dvd_left _ _) l];exact Nat.div_self p
 have n:¬(a / (bM a b c:Int)=0/\b / (bM a b c:Int)=0):=fun ⟨d,j⟩=>h ⟨nz f d,nz g j⟩;show (decide (¬(a / (bM a b c:Int)=0/\b / (bM a b c:Int)=0))&&decide (bM (a / (bM a b c:Int)) (b / (bM a b c:Int)) (c / (bM a b c:Int))=1))=true;rw [decide_eq_true n,decide_eq_true e];rfl
theorem J4 {a b c:Rat}(h:¬(a=0/\b=0)):jO (rJ a b c)=true:=by
 refine J3 ?_;have i:a.den*b.den*c.den≠0:=Nat.mul_ne_zero (Nat.mul_ne_zero a.den_nz b.den_nz) c.den_nz;have d:(((a.den*b.den*c.den:Nat):Int):Rat)≠0:=by exact_mod_cast i
 rintro ⟨f,g⟩;rw [Rat.num_eq_zero] at f g;exact h ⟨(Rat.mul_eq_zero.1 f).elim id fun e=>absurd e d,(Rat.mul_eq_zero.1 g).elim id fun e=>absurd e d⟩
theorem J6 {px py qx qy:Rat}(h:¬(px=qx/\py=qy)):jO (gZ px py qx qy)=true:=J4 (nG h)
theorem zu {V:View}{v:Value}{x:L3}(h:RL V v x.1 x.2.1 x.2.2)(ho:jO x=true){k:Nat}(sl:eG k x)(hk:4*k+4<1099511627776) :
  ae prog 40 #[v] V fun r V'=>∃w,r=.tuple #[w,.bool true]/\uk V' w x:=by
 obtain ⟨p,n,s,i,j,s',q,m,e,rfl,c,d,f⟩:=h;have d1:=ag (show x.1.natAbs<2^k from sl.1.1);have d2:=ag (show x.2.1.natAbs<2^k from sl.2.1.1);have d3:=ag (show x.2.2.natAbs<2^k from sl.2.2.1);have b:=ED (V:=V) (decide (x.1<0)) (decide (x.2.1<0)) (decide (x.2.2<0)) c d f (by omega) (by omega) (by omega) (k:=k) (by rw [aE];exact sl.1) (by rw [aE];exact sl.2.1) (by rw [aE];exact sl.2.2) hk;rw [Da,aE,aE,aE] at b;refine b.mono ?_;rintro r V2 l ⟨w,rfl,-,g⟩;have a:jO (x.1,x.2.1,x.2.2)=true:=ho;exact ⟨w,by rw [a],g a⟩
theorem mT {V:View}{v:Value}{l:L3}{s:Sp}(h:xD V v l s)(ho:Lp l s){k:Nat}(sl:eG k l)(hs:s.sz k)(hk:4*k+4<1099511627776) :
  ae prog 39 #[v] V fun r V'=>∃w,r=.tuple #[w,.bool true]/\xE V' w l s:=by
 obtain ⟨ho,y,f⟩:=ho;obtain ⟨b1,z,A,B,b2,C,D,E,b3,F,G,H,b,p,n,c,I,J,K,d,q,m,e,L,M,N,rfl,O,P⟩:=h;refine DR b1 z A B b2 C D E b3 F G H b p n c I J K d q m e L M N s.a s.b V _ fun S j=>(zu (O.le j) ho sl (by omega)).mono ?_;rintro r V2 Q ⟨w,rfl,o⟩;have g:=o;obtain ⟨_,_,_,_,_,_,_,_,_,rfl,-,-,-⟩:=o;refine ⟨_,_,_,_,_,_,_,_,_,_,rfl,fun T t=>(Hi (P.le (j.trans (Q.trans t))) y f hs (by omega)).mono ?_⟩;rintro r U R ⟨w,rfl,u⟩;have i:=u;obtain ⟨_,_,_,_,_,_,rfl,-,-⟩:=u;refine ⟨_,_,_,_,_,_,_,_,_,rfl,fun _ W x=>⟨_,rfl,_,_,_,_,_,_,_,_,_,_,_,_,_,_,_,rfl,g.le (t.trans (R.trans x)),i.le x⟩,(fun h=>nomatch h)⟩
theorem I3 {V:View}{v:Value}{l:L3}{s:Sp}(h:xE V v l s){k:Nat}(sl:eG k l)(hs:s.sz k)(hk:20*k+19<274877906944) :
  ae prog 116 #[v] V fun r V'=>∃w,r=.tuple #[w,.bool (!s.b)]/\jY V' w (if s.b then 0 else j_ l s.hi) (if s.b then 0 else kH l s.hi):=by
 obtain ⟨n,u,p,x,y,q,z,A,r,B,C,t,D,E,o,rfl,d,f⟩:=h;obtain ⟨_,_,_,_,_,_,e,F,i⟩:=f;simp only [Value.agg.injEq,Array.mk.injEq,List.cons.injEq,Value.int.injEq,Value.pointer.injEq,true_and,and_true] at e;obtain ⟨rfl,rfl,rfl,rfl,rfl,rfl⟩:=e;refine yv _ _ _ _ _ _ _ _ _ _ _ _ _ _ _ _ _ V _ ⟨fun a G H=>⟨_,by rw [a];rfl,by rw [a];exact ⟨_,_,_,_,_,_,rfl,RR.zero _,RR.zero _⟩⟩,fun a V2 c=>(VF (d.le c) (i.le c) sl hs.2 hk).mono ?_⟩;rintro r I J g;have j:=g;obtain ⟨_,_,_,_,_,_,rfl,-,-⟩:=g;exact ⟨_,_,_,_,_,_,rfl,fun K m=>⟨_,by rw [a];rfl,by rw [a];exact j.le m⟩⟩
theorem jx {V:View}{v:Value}(h:Hb V v false [] []):ae prog 130 #[v] V fun r V'=>r=.bool true:=by
 obtain ⟨p,n,c,q,m,e,rfl,a,b⟩:=h;obtain rfl:=a.len;obtain rfl:=b.len;exact yU false p _ c q _ e V _ ⟨fun _=>⟨fun _ d f=>rfl,(fun h=>nomatch h)⟩,(fun h=>nomatch h)⟩
theorem AR {V:View}{v w:Value}{s:Sp}(h:Lu V v s)(h':Lu V w s){k:Nat}(hs:s.sz k)(hk:k<=1099511627776) :
  ae prog 69 #[v,w] V fun r V'=>r=.bool true:=by
 obtain ⟨lo,hi,a,b⟩:=s;obtain ⟨b1,p,n,c,p',n',c',d,q,m,e,N,O,P,rfl,H,I⟩:=h;obtain ⟨b2,i,j,t,i',j',t',f,o,u,g,Q,R,S,rfl,J,K⟩:=h';dsimp only at H I J K ⊢;refine yR _ _ _ _ _ _ _ _ _ _ _ _ _ _ _ _ _ _ _ _ _ _ _ _ _ _ _ _ _ _ _ _ V _ ⟨fun _=>⟨fun _=>?_,(by intro h;simp at h)⟩,(by intro h;simp at h)⟩;have T:∀x:View,V.Le x->b=true->ae prog 130 #[.agg #[.bool d,.slice q m e,.slice N O P]] x fun r V'=>r=.bool true:=fun x z l=>jx ((I.1 l).le z);have D:∀x:View,V.Le x->b=true->ae prog 130 #[.agg #[.bool f,.slice o u g,.slice Q R S]] x fun r V'=>r=.bool true:=fun x z l=>jx ((K.1 l).le z);have U:∀x:View,V.Le x->b=false->ae prog 131 #[.agg #[.bool d,.slice q m e,.slice N O P],.agg #[.bool f,.slice o u g,.slice Q R S]] x fun r V'=>r=.bool true:=fun x z l=>(nU ((I.2 l).le z) ((K.2 l).le z) hs.2 hk).mono fun r B _ h=>by rw [h];simp
 cases a with
 | true=>
  refine ⟨fun _ Y C=>(jx ((H.1 rfl).le C)).mono ?_,(fun h=>nomatch h)⟩;rintro r V2 W rfl;refine ⟨_,rfl,fun _ V3 X=>(jx ((J.1 rfl).le (C.trans (W.trans X)))).mono ?_,(fun h=>nomatch h)⟩;rintro r x z rfl;have L:=C.trans (W.trans (X.trans z));refine ⟨_,rfl,fun _=>⟨fun l B A=>(T B (L.trans A) l).mono ?_,fun l=>⟨fun _ B A=>(U B (L.trans A) l).mono ?_,fun y=>by rw [l] at y;cases y⟩⟩,(fun h=>nomatch h)⟩
  ·rintro r M E rfl;refine ⟨_,rfl,fun _ F G=>(D F (L.trans (A.trans (E.trans G))) l).mono ?_,(fun h=>nomatch h)⟩;rintro r Z l8 rfl;exact ⟨_,rfl,fun _ V9 l9=>rfl,(fun h=>nomatch h)⟩
  ·rintro r M E rfl;exact ⟨_,rfl,fun F G=>rfl⟩
 | false=>
  refine ⟨(fun h=>nomatch h),fun _=>⟨fun _ Y C=>(nU ((H.2 rfl).le C) ((J.2 rfl).le C) hs.1 hk).mono ?_,(fun h=>nomatch h)⟩⟩;rintro r x z rfl;have L:=C.trans z;refine ⟨_,rfl,fun _=>⟨fun l B A=>(T B (L.trans A) l).mono ?_,fun l=>⟨fun _ B A=>(U B (L.trans A) l).mono ?_,fun y=>by rw [l] at y;cases y⟩⟩,(by intro h;simp at h)⟩
  ·rintro r M E rfl;refine ⟨_,rfl,fun _ F G=>(D F (L.trans (A.trans (E.trans G))) l).mono ?_,(fun h=>nomatch h)⟩;rintro r Z l8 rfl;exact ⟨_,rfl,fun _ V9 l9=>rfl,(fun h=>nomatch h)⟩
  ·rintro r M E rfl;exact ⟨_,rfl,fun F G=>rfl⟩
theorem xU {V:View}{v:Value}{s:Sp}(h:pz V v s){k:Nat}(hs:s.sz k)(hk:k<=1099511627776):ae prog 43 #[v] V fun r V'=>Lu V' r s:=by
 obtain ⟨b1,p,n,c,G,H,I,d,q,m,e,J,K,L,rfl,z,l⟩:=h
 have t:∀{V:View} {v:Value} {x:Rat} {no:Bool},RA V v x->(!no)=true->RE V v x no:=fun h e=>by
  rw [Bool.not_eq_true'] at e;subst e;exact ⟨(fun h=>nomatch h),fun _=>h⟩
 have f:∀{V:View} {x:Rat} {no:Bool},(!no)=false->RE V (.agg #[.bool false,.slice none 0 0,.slice none 0 0]) x no:=fun e=>by
  rw [Bool.not_eq_false'] at e;subst e;exact ⟨fun _=>Hb.nil,(fun h=>nomatch h)⟩
 refine xk _ _ _ _ _ _ _ _ _ _ _ _ _ _ _ _ V _ ⟨fun g M o=>(gS (z.le o) hs.1 hk).mono ?_,fun g=>⟨fun a N A=>(gS (l.le A) hs.2 hk).mono ?_,fun a O B=>?_⟩⟩
 ·rintro r V2 C u;have i:=u;obtain ⟨_,_,_,_,_,_,_,rfl⟩:=u.shape;refine ⟨_,_,_,_,_,_,_,rfl,fun a P w=>(gS (l.le (o.trans (C.trans w))) hs.2 hk).mono ?_,fun a Q D=>?_⟩
  ·rintro r R E j;have b:=j;obtain ⟨_,_,_,_,_,_,_,rfl⟩:=j.shape;exact ⟨_,_,_,_,_,_,_,rfl,fun S y=>⟨_,_,_,_,_,_,_,_,_,_,_,_,_,_,rfl,t (i.le (w.trans (E.trans y))) g,t (b.le y) a⟩⟩
  ·exact ⟨_,_,_,_,_,_,_,_,_,_,_,_,_,_,rfl,t (i.le D) g,f a⟩
 ·rintro r T U j;have b:=j;obtain ⟨_,_,_,_,_,_,_,rfl⟩:=j.shape;exact ⟨_,_,_,_,_,_,_,rfl,fun W F=>⟨_,_,_,_,_,_,_,_,_,_,_,_,_,_,rfl,f g,t (b.le F) a⟩⟩
 ·exact ⟨_,_,_,_,_,_,_,_,_,_,_,_,_,_,rfl,f g,f a⟩
theorem eG.ai {k:Nat}{l:L3}(h:eG k l)(hk:k<=1099511627776):(ai l.1.natAbs).length<=1099511627776/\(ai l.2.1.natAbs).length<=1099511627776/\(ai l.2.2.natAbs).length<=1099511627776:=by
 have d1:=ag (show l.1.natAbs<2^k from h.1.1);have d2:=ag (show l.2.1.natAbs<2^k from h.2.1.1);have d3:=ag (show l.2.2.natAbs<2^k from h.2.2.1);exact ⟨by omega,by omega,by omega⟩
theorem iS {V:View}{v:Value}{l:L3}{s:Sp}(h:RF V v l s){k:Nat}(sl:eG k l)(hs:s.sz k)(hk:k<=1099511627776):ae prog 13 #[v] V fun r V'=>xD V' r l s:=by
 obtain ⟨d1,d2,d3⟩:=sl.ai hk;obtain ⟨b1,z,A,B,b2,C,D,E,b3,F,G,H,b,p,n,c,I,J,K,d,q,m,e,L,M,N,rfl,u,w⟩:=h;refine t_ _ _ _ _ _ _ _ _ _ _ _ _ _ _ _ _ _ _ _ _ _ _ _ _ _ _ _ _ V _ fun O g=>(sE (u.le g) d1 d2 d3).mono ?_;rintro r V2 x i;have a:=i;obtain ⟨_,_,_,_,_,_,_,_,_,_,_,_,rfl⟩:=fY i;refine ⟨_,_,_,_,_,_,_,_,_,_,_,_,rfl,fun P j=>(xU (w.le (g.trans (x.trans j))) hs hk).mono ?_⟩;rintro r Q y o;have f:=o;obtain ⟨_,_,_,_,_,_,_,_,_,_,_,_,_,_,rfl,-,-⟩:=o;exact ⟨_,_,_,_,_,_,_,_,_,_,_,_,_,_,_,_,rfl,fun R t=>⟨_,_,_,_,_,_,_,_,_,_,_,_,_,_,_,_,_,_,_,_,_,_,_,_,_,_,rfl,a.le (j.trans (y.trans t)),f.le t⟩⟩
def Tf (V:View)(ad:Addr)(l:L3)(s:Sp):Prop:=∃xs:List Value,xD V (.agg xs.toArray) l s/\∀i x,xs[i]?=some x->V.at (ad.add i) x
theorem Tf.le {V V':View}{ad:Addr}{l:L3}{s:Sp}(h:Tf V ad l s)(e:V.Le V'):Tf V' ad l s:=by
 obtain ⟨xs,a,b⟩:=h;exact ⟨xs,a.le e,fun i x c=>e.at (b i x c)⟩
structure uA (V:View) (p:OA) (n:Nat) (fs:List (L3×Sp)):Prop where
 len:n=fs.length
 at_:∀(i:Nat)(h:i<fs.length),∃ad,ah p (i*14)=some ad/\Tf V ad fs[i].1 fs[i].2
theorem uA.le {V V':View}{p:OA}{n:Nat}{fs:List (L3×Sp)}(h:uA V p n fs)(e:V.Le V'):uA V' p n fs:=⟨h.len,fun i a=>by obtain ⟨b,c,d⟩:=h.at_ i a;exact ⟨b,c,d.le e⟩⟩
theorem aY {p:OA}{j:Nat}{ad:Addr}(h:ah p j=some ad):p.isSome=true:=by
 cases p with
 | none=>cases h
 | some a=>rfl
theorem xH {V:View}{p q:OA}{n c m e:Nat}{fs:List (L3×Sp)}(hp:uA V p n fs)(hq:uA V q m fs){k:Nat}(sz:∀f∈fs,eG k f.1/\f.2.sz k)(hk:k<=1099511627776)(hn:fs.length<4611686018427387904) :
  ae prog 28 #[.slice p n c,.slice q m e] V fun r V'=>r=.bool true:=by
 obtain rfl:=hp.len;obtain rfl:=hq.len;refine tZ p _ c q _ e V _ ⟨(by intro h;simp at h),fun _=>⟨fun z V'=>0<=z/\z<=fs.length,fun z=>(fs.length-z).toNat,⟨0,by and_intros<;>rfl,by omega,by omega⟩,?_⟩⟩;rintro z V2 D ⟨z0,z1⟩;refine ⟨rfl,fun g=>?_,fun g V9 l9=>rfl⟩;have g:z<fs.length:=of_decide_eq_true g;obtain ⟨i,rfl⟩:∃i:Nat,z=i:=⟨z.toNat,by omega⟩;have u:i<fs.length:=by omega
 rw [Int.toNat_natCast];have w:i64.wrap ((i:Int)+1)=(i:Int)+1:=aw (by omega);rw [w];obtain ⟨s1,s2⟩:=sz _ (List.getElem_mem u);obtain ⟨v,y,xs,⟨b1,p1,n1,c1,b2,p2,n2,c2,b3,p3,n3,c3,bb,pp,nn,cc,M,N,O,dd,qq,mm,ee,P,Q,R,ex,S,T⟩,l⟩:=(hp.le D).at_ i u;obtain ⟨A,o,ys,⟨U,YS,W,X,Y,YU,YN,Z,a0,YX,YO,a1,a2,a3,a4,a5,E,F,Z_,a6,a7,a8,a9,G,H,I,t,h3,h4⟩,s⟩:=(hq.le D).at_ i u;have ex:=congrArg Array.toList (Value.agg.inj ex);have t:=congrArg Array.toList (Value.agg.inj t);dsimp only at ex t;subst ex t;have d:=s1.ai hk;rw [y,o];refine ⟨aY y,⟨by omega,g⟩,rfl,_,_,_,_,_,_,_,_,_,_,_,_,v.add 0,rfl,l 0 _ rfl,l 1 _ rfl,l 2 _ rfl,l 3 _ rfl,l 4 _ rfl,l 5 _ rfl,aY o,⟨by omega,g⟩,rfl,_,_,_,_,_,_,_,_,_,_,_,_,A.add 0,rfl,s 0 _ rfl,s 1 _ rfl,s 2 _ rfl,s 3 _ rfl,s 4 _ rfl,s 5 _ rfl,fun V3 B=>(xR (S.le B) (h3.le B) d.1 d.2.1 d.2.2).mono ?_⟩;rintro r J l4 rfl;have L:=B.trans l4;have a:∀j x,_->J.at ((v.add 6).add j) x:=fun j x C=>by rw [ik];exact L.at (l (6+j) x C)
 have b:∀j x,_->J.at ((A.add 6).add j) x:=fun j x C=>by rw [ik];exact L.at (s (6+j) x C)
 refine ⟨_,rfl,(by intro h;simp at h),fun _=>⟨aY y,⟨by omega,g⟩,rfl,_,_,_,_,_,_,_,_,_,_,_,_,_,_,_,_,v.add 6,rfl,a 0 _ rfl,a 1 _ rfl,a 2 _ rfl,a 3 _ rfl,a 4 _ rfl,a 5 _ rfl,a 6 _ rfl,a 7 _ rfl,aY o,⟨by omega,g⟩,rfl,_,_,_,_,_,_,_,_,_,_,_,_,_,_,_,_,A.add 6,rfl,b 0 _ rfl,b 1 _ rfl,b 2 _ rfl,b 3 _ rfl,b 4 _ rfl,b 5 _ rfl,b 6 _ rfl,b 7 _ rfl,fun V6 K=>(AR (T.le (L.trans K)) (h4.le (L.trans K)) s2 hk).mono ?_⟩⟩;rintro r V7 l7 rfl;exact ⟨_,rfl,(fun h=>nomatch h),fun _=>⟨(i:Int)+1,by dsimp only;omega,by and_intros<;>rfl,by omega,by omega⟩⟩
def Ti (V:View)(ad:Addr)(s:Sp):Prop:=∃xs:List Value,pz V (.agg xs.toArray) s/\∀i x,xs[i]?=some x->V.at (ad.add i) x
theorem Ti.le {V V':View}{ad:Addr}{s:Sp}(h:Ti V ad s)(e:V.Le V'):Ti V' ad s:=by
 obtain ⟨xs,a,b⟩:=h;exact ⟨xs,a.le e,fun i x c=>e.at (b i x c)⟩
structure F_ (V:View) (p:OA) (n:Nat) (ss:List Sp):Prop where
 len:n=ss.length
 at_:∀(i:Nat)(h:i<ss.length),∃ad,ah p (i*8)=some ad/\Ti V ad ss[i]
theorem F_.le {V V':View}{p:OA}{n:Nat}{ss:List Sp}(h:F_ V p n ss)(e:V.Le V'):F_ V' p n ss:=⟨h.len,fun i a=>by obtain ⟨b,c,d⟩:=h.at_ i a;exact ⟨b,c,d.le e⟩⟩
def nJ (a b:Int):Int:=if 0<a/\b<0 then 2 else if (a=0/\b<=0)\/(b=0/\0<=a) then 1 else 0
def Sp.la (s:Sp)(t:Rat):Int:=if s.a then 1 else cmpQ t s.lo
def Sp.lb (s:Sp)(t:Rat):Int:=if s.b then -1 else cmpQ t s.hi
def lQ:List Sp->Rat->Int
 | [],_=>0
 | s::r,t=>if nJ (s.la t) (s.lb t)≠0 then nJ (s.la t) (s.lb t) else lQ r t
theorem nV {V:View}{p:OA}{n c:Nat}{v:Value}{ss:List Sp}{t:Rat}(hl:F_ V p n ss)(ht:RQ V v t){k:Nat}(hs:∀s∈ss,s.sz k)(st:Sz k t)(hk:2*k<274877906944)(hn:ss.length<4611686018427387904) :
  ae prog 60 #[.slice p n c,v] V fun r V'=>r=.int .i64 (lQ ss t):=by
 obtain rfl:=hl.len;have l:=ht;obtain ⟨_,_,_,_,_,_,rfl⟩:=ht.shape;refine xi p _ c _ _ _ _ _ _ _ V _ ⟨fun z V'=>0<=z/\z<=ss.length/\lQ ss t=lQ (ss.drop z.toNat) t,fun z=>(ss.length-z).toNat,⟨0,by and_intros<;>rfl,by omega,by omega,rfl⟩,?_⟩;rintro z M o ⟨N,O,g⟩;refine ⟨rfl,fun j=>?_,fun j P Q=>?_⟩
 ·have j:z<ss.length:=of_decide_eq_true j;obtain ⟨i,rfl⟩:∃i:Nat,z=i:=⟨z.toNat,by omega⟩;have q:i<ss.length:=by omega
  rw [Int.toNat_natCast] at g ⊢;have w:i64.wrap ((i:Int)+1)=(i:Int)+1:=aw (by omega);rw [w];have u:=hs _ (List.getElem_mem q);obtain ⟨B,d,xs,⟨R,pp,S,T,C,D,E,U,W,X,Y,F,G,H,ex,I,J⟩,f⟩:=(hl.le o).at_ i q;have ex:=congrArg Array.toList (Value.agg.inj ex);dsimp only at ex;subst ex;rw [List.drop_eq_getElem_cons q] at g;generalize ss[i]=s at *;simp only [lQ] at g;refine ⟨aY d,⟨by omega,j⟩,_,_,_,_,_,_,_,_,_,_,_,_,_,_,s.a,s.b,B,by rw [d],f 0 _ rfl,f 1 _ rfl,f 2 _ rfl,f 3 _ rfl,f 4 _ rfl,f 5 _ rfl,f 6 _ rfl,f 7 _ rfl,fun z _=>z=s.la t,⟨fun h V2 x=>(im (l.le (o.trans x)) (I.le x) st u.1 (by omega)).mono ?_,fun h=>⟨1,by and_intros<;>rfl,?_⟩⟩,?_⟩
  ·rintro r Z l3 rfl;exact ⟨_,rfl,_,by and_intros<;>rfl,by unfold Sp.la;rw [Bool.not_eq_true'] at h;rw [h];rfl⟩
  ·unfold Sp.la;rw [Bool.not_eq_false'] at h;rw [h];rfl
  rintro za V4 y rfl;refine ⟨rfl,fun z _=>z=s.lb t,⟨fun h V5 A=>(im (l.le (o.trans (y.trans A))) (J.le (y.trans A)) st u.2 (by omega)).mono ?_,fun h=>⟨-1,by and_intros<;>rfl,?_⟩⟩,?_⟩
  ·rintro r V6 l6 rfl;exact ⟨_,rfl,_,by and_intros<;>rfl,by unfold Sp.lb;rw [Bool.not_eq_true'] at h;rw [h];rfl⟩
  ·unfold Sp.lb;rw [Bool.not_eq_false'] at h;rw [h];rfl
  rintro zb V7 l7 rfl;generalize s.la t=a at *;generalize s.lb t=b at *;refine ⟨rfl,fun z _=>z=decide (0<a/\b<0),⟨fun h=>⟨_,by and_intros<;>rfl,?_⟩,fun h=>⟨_,by and_intros<;>rfl,?_⟩⟩,?_⟩
  ·have h:0<a:=of_decide_eq_true h;simp [h]
  ·have h:¬0<a:=of_decide_eq_false h;simp [h]
  rintro z9 V8 l8 rfl;refine ⟨rfl,fun h V9 l9=>?_,fun h=>⟨fun z _=>z=decide ((a=0/\b<=0)\/(b=0/\0<=a)),⟨fun d=>⟨fun m=>⟨_,by and_intros<;>rfl,?_⟩,fun m=>⟨fun e=>⟨_,by and_intros<;>rfl,?_⟩,fun e=>⟨_,by and_intros<;>rfl,?_⟩⟩⟩,fun d=>⟨fun e=>⟨_,by and_intros<;>rfl,?_⟩,fun e=>⟨_,by and_intros<;>rfl,?_⟩⟩⟩,?_⟩⟩
  ·have h:=of_decide_eq_true h;rw [g];simp [nJ,h]
  ·simp at d m;simp [d,m]
  ·simp at d m e;simp [d,e]
  ·simp at d m e;simp [d,e];omega
  ·simp at d e;simp [d,e]
  ·simp at d e;simp [d,e]
  rintro K gu L rfl;have h:=of_decide_eq_false h;refine ⟨rfl,fun h' fg bF=>?_,fun h'=>⟨(i:Int)+1,by dsimp only;omega,by and_intros<;>rfl,by omega,by omega,?_⟩⟩
  ·have h':=of_decide_eq_true h';rw [g];have:nJ a b=1:=by unfold nJ;rw [if_neg h,if_pos h']
   rw [this];rfl
  ·have h':=of_decide_eq_false h';have:nJ a b=0:=by unfold nJ;rw [if_neg h,if_neg h']
   rw [g,this];show _=lQ (ss.drop ((i:Int)+1).toNat) t;rw [show ((i:Int)+1).toNat=i+1 from by omega];rfl
 ·have j:¬z<ss.length:=of_decide_eq_false j;rw [g,show z.toNat=ss.length from by omega,List.drop_length];rfl
theorem cmpQ_swap (x y:Rat):cmpQ y x=- cmpQ x y:=by
 unfold cmpQ;rw [show y-x=-(x-y) from by grind];exact Int.sign_neg _
theorem SF {V:View}{r:Value}{l:L3}(h:RL V r (-l.1) (-l.2.1) (-l.2.2)):RL V r (revL l).1 (revL l).2.1 (revL l).2.2:=h
theorem KU {px py qx qy:Rat}:((mK px py qx qy).1.num / (bM (mK px py qx qy).1.num (mK px py qx qy).2.1.num (mK px py qx qy).2.2.num:Int),(mK px py qx qy).2.1.num / (bM (mK px py qx qy).1.num (mK px py qx qy).2.1.num (mK px py qx qy).2.2.num:Int),(mK px py qx qy).2.2.num / (bM (mK px py qx qy).1.num (mK px py qx qy).2.1.num (mK px py qx qy).2.2.num:Int))=gZ px py qx qy:=by
 unfold mK gZ rJ vM;have e:∀x:Rat,(-x).den=x.den:=fun x=>rfl;rw [e (-(qy-py)*px+(qx-px)*py)];rfl
theorem KV {px py qx qy:Rat}:((mK px py qx qy).1.num=0/\(mK px py qx qy).2.1.num=0)↔(px=qx/\py=qy):=by
 unfold mK;dsimp only;generalize hf:(-(qy-py)).den*(qx-px).den*(-(-(qy-py)*px+(qx-px)*py)).den=f;have b:f≠0:=by rw [←hf];exact Nat.mul_ne_zero (Nat.mul_ne_zero (Rat.den_nz _) (Rat.den_nz _)) (Rat.den_nz _)
 have a:((f:Int):Rat)≠0:=by exact_mod_cast b
 rw [Rat.num_eq_zero,Rat.num_eq_zero,Rat.mul_eq_zero,Rat.mul_eq_zero,or_iff_left a,or_iff_left a];exact G0.symm
theorem HX {V:View}{u w:Value}{px py qx qy:Rat}(hp:RP V u px py)(hq:RP V w qx qy){k:Nat}(s1:Sz k px)(s2:Sz k py)(s3:Sz k qx)(s4:Sz k qy)(hk1:1<=k)(hk:64*k+64<274877906944) :
  ae prog 37 #[u,w] V fun r V'=>(px=qx/\py=qy->∃l,r=.tuple #[l,.bool false]/\RL V' l 0 0 0)/\(¬(px=qx/\py=qy)->∃l,r=.tuple #[l,.bool true]/\RL V' l (gZ px py qx qy).1 (gZ px py qx qy).2.1 (gZ px py qx qy).2.2):=by
 refine (lK hp hq s1 s2 s3 s4 hk1 hk).mono ?_;rintro r V2 d ⟨a,b⟩;have e:=KU (px:=px) (py:=py) (qx:=qx) (qy:=qy);rw [KV] at a b;refine ⟨a,fun h=>?_⟩;obtain ⟨l,c,g⟩:=b h;rw [←e];exact ⟨l,c,g⟩
theorem tz {V:View}{u v:Value}{px py qx qy:Rat}(hp:RP V u px py)(hq:RP V v qx qy){k:Nat}(s1:Sz k px)(s2:Sz k py)(s3:Sz k qx)(s4:Sz k qy)(hk1:1<=k)(hk:400*k+400<274877906944) :
  ae prog 33 #[u,v] V fun r V'=>(px=qx/\py=qy->∃l,r=.tuple #[l,.bool false]/\RF V' l (0,0,0) Sp.zero)/\(¬(px=qx/\py=qy)->∃l,r=.tuple #[l,.bool true]/\RF V' l (gZ px py qx qy) (yi px py qx qy)):=by
 have a:=hp;have b:=hq;obtain ⟨_,_,_,_,_,_,_,_,_,_,_,_,_,_,rfl⟩:=jh hp;obtain ⟨_,_,_,_,_,_,_,_,_,_,_,_,_,_,rfl⟩:=jh hq;refine r_ _ _ _ _ _ _ _ _ _ _ _ _ _ _ _ _ _ _ _ _ _ _ _ _ _ _ _ _ V _ fun x d=>(HX (a.le d) (b.le d) s1 s2 s3 s4 hk1 (by omega)).mono ?_;rintro r V2 o ⟨t,w⟩;by_cases h:px=qx/\py=qy
 ·obtain ⟨l,rfl,e⟩:=t h;obtain ⟨_,_,_,_,_,_,_,_,_,_,_,_,rfl⟩:=fY e;have z:∀V:View,RQ V (.agg #[.bool false,.slice none 0 0,.slice none 0 0]) 0:=fun V=>by have:=RQ.zero (V:=V);simpa using this
  refine ⟨_,_,_,_,_,_,_,_,_,_,_,_,_,rfl,fun _ y A=>⟨fun _=>⟨_,rfl,?_⟩,fun h'=>absurd h h'⟩,fun h=>nomatch h⟩;exact ⟨_,_,_,_,_,_,_,_,_,_,_,_,_,_,_,_,_,_,_,_,_,_,_,_,_,_,rfl,⟨_,_,_,_,_,_,_,_,_,rfl,RD.nil,RD.nil,RD.nil⟩,_,_,_,_,_,_,_,_,_,_,_,_,_,_,rfl,z _,z _⟩
 ·obtain ⟨l,rfl,e⟩:=w h;have g:=e;have sl:=nE s1 s2 s3 s4 h;have nz:=G1 h;obtain ⟨_,_,_,_,_,_,_,_,_,_,_,_,rfl⟩:=fY e;refine ⟨_,_,_,_,_,_,_,_,_,_,_,_,_,rfl,(fun h=>nomatch h),fun _ B c=>(p_ (g.le c) (a.le (d.trans (o.trans c))) nz sl (Sz.mono s1 (by omega)) (Sz.mono s2 (by omega)) (by omega)).mono ?_⟩;rintro r C i p;have j:=p;obtain ⟨_,_,_,_,_,_,rfl⟩:=p.shape;refine ⟨_,_,_,_,_,_,_,rfl,fun D f=>(p_ (g.le (c.trans (i.trans f))) (b.le (d.trans (o.trans (c.trans (i.trans f))))) nz sl (Sz.mono s3 (by omega)) (Sz.mono s4 (by omega)) (by omega)).mono ?_⟩;rintro r E q s;have m:=s;obtain ⟨_,_,_,_,_,_,rfl⟩:=s.shape;refine ⟨_,_,_,_,_,_,_,rfl,fun F n=>⟨fun h'=>absurd h' h,fun _=>⟨_,rfl,?_⟩⟩⟩;exact ⟨_,_,_,_,_,_,_,_,_,_,_,_,_,_,_,_,_,_,_,_,_,_,_,_,_,_,rfl,g.le (c.trans (i.trans (f.trans (q.trans n)))),_,_,_,_,_,_,_,_,_,_,_,_,_,_,rfl,j.le (f.trans (q.trans n)),m.le n⟩
theorem G8.ex {V:View}{v:Value}{l:L3}{s:Sp}(h:xE V v l s):∃(x1 x2:Int)(p:OA)(y1 y2:Int)(q:OA)(z1 z2:Int)(r:OA)(u1 u2:Int)(t:OA)(w1 w2:Int)(o:OA),
 v=.agg #[.int .i64 x1,.int .i64 x2,.pointer p,.int .i64 y1,.int .i64 y2,.pointer q,.int .i64 z1,.int .i64 z2,.pointer r,.int .i64 u1,.int .i64 u2,.pointer t,.int .i64 w1,.int .i64 w2,.pointer o,.bool s.a,.bool s.b]:=by
 obtain ⟨_,_,_,_,_,_,_,_,_,_,_,_,_,_,_,e,-⟩:=h;exact ⟨_,_,_,_,_,_,_,_,_,_,_,_,_,_,_,e⟩
theorem eN {V:View}{v:Value}{l:L3}{s:Sp}(h:xD V v l s):∃b1 p1 n1 c1 b2 p2 n2 c2 b3 p3 n3 c3 b p n c p' n' c' d q m e q' m' e',
 v=.agg #[.bool b1,.slice p1 n1 c1,.bool b2,.slice p2 n2 c2,.bool b3,.slice p3 n3 c3,.bool b,.slice p n c,.slice p' n' c',.bool d,.slice q m e,.slice q' m' e',.bool s.a,.bool s.b]:=by
 obtain ⟨_,_,_,_,_,_,_,_,_,_,_,_,_,_,_,_,_,_,_,_,_,_,_,_,_,_,e,-⟩:=h;exact ⟨_,_,_,_,_,_,_,_,_,_,_,_,_,_,_,_,_,_,_,_,_,_,_,_,_,_,e⟩
theorem dH {V:View}{v:Value}{x y:Rat}(h:As V v x y):∃b p n c p' n' c' d q m e q' m' e',v=.agg #[.bool b,.slice p n c,.slice p' n' c',.bool d,.slice q m e,.slice q' m' e']:=by
 obtain ⟨_,_,_,_,_,_,_,_,_,_,_,_,_,_,e,-⟩:=h;exact ⟨_,_,_,_,_,_,_,_,_,_,_,_,_,_,e⟩
theorem mz {V:View}{v:Value}{x y:Rat}(h:jY V v x y):∃(x1 x2:Int)(p:OA)(y1 y2:Int)(q:OA),v=.agg #[.int .i64 x1,.int .i64 x2,.pointer p,.int .i64 y1,.int .i64 y2,.pointer q]:=by
 obtain ⟨_,_,_,_,_,_,e,-⟩:=h;exact ⟨_,_,_,_,_,_,e⟩
def Qp (v:Value):Prop:=v=.agg #[.bool false,.slice none 0 0,.bool false,.slice none 0 0,.bool false,.slice none 0 0,.bool false,.slice none 0 0,.slice none 0 0,.bool false,.slice none 0 0,.slice none 0 0,.bool false,.bool false]
def IB (v:Value):Prop:=v=.agg #[.bool false,.slice none 0 0,.slice none 0 0,.bool false,.slice none 0 0,.slice none 0 0]
theorem Ex {V:View}{v:Value}{l:L3}{s:Sp}(h:xD V v l s)(ho:Lp l s){k:Nat}(sl:eG k l)(hs:s.sz k)(hk:4*k+4<274877906944) :
  ae prog 56 #[v] V fun r V'=>r=.bool true:=by
 have a:=h;obtain ⟨_,_,_,_,_,_,_,_,_,_,_,_,_,_,_,_,_,_,_,_,_,_,_,_,_,_,rfl⟩:=eN h;refine qG _ _ _ _ _ _ _ _ _ _ _ _ _ _ _ _ _ _ _ _ _ _ _ _ _ _ _ _ V _ fun c b=>(mT (a.le b) ho sl hs (by omega)).mono ?_;rintro r V2 d ⟨w,rfl,g⟩;obtain ⟨_,_,_,_,_,_,_,_,_,_,_,_,_,_,_,rfl⟩:=G8.ex g;exact ⟨_,_,_,_,_,_,_,_,_,_,_,_,_,_,_,_,_,_,rfl,fun e f=>rfl⟩
theorem BE {px py qx qy:Rat}{k:Nat}(s1:Sz k px)(s2:Sz k py)(s3:Sz k qx)(s4:Sz k qy)(h:¬(px=qx/\py=qy)):(yi px py qx qy).sz (400*k+400):=by
 have sl:=nE s1 s2 s3 s4 h;exact ⟨Sz.mono (lD sl (Sz.mono s1 (by omega)) (Sz.mono s2 (by omega))) (by omega),Sz.mono (lD sl (Sz.mono s3 (by omega)) (Sz.mono s4 (by omega))) (by omega)⟩
theorem AD {V:View}{u v:Value}{px py qx qy:Rat}(hp:As V u px py)(hq:As V v qx qy){k:Nat}(s1:Sz k px)(s2:Sz k py)(s3:Sz k qx)(s4:Sz k qy)(hk:2000*k+2000<274877906944) :
  ae prog 53 #[u,v] V fun r V'=>(px=qx/\py=qy->∃l,r=.tuple #[l,.bool false]/\Qp l)/\(¬(px=qx/\py=qy)->∃l,r=.tuple #[l,.bool true]/\xD V' l (gZ px py qx qy) (yi px py qx qy)):=by
 have a:=hp;have b:=hq;obtain ⟨_,_,_,_,_,_,_,_,_,_,_,_,_,_,rfl⟩:=dH hp;obtain ⟨_,_,_,_,_,_,_,_,_,_,_,_,_,_,rfl⟩:=dH hq;refine lE _ _ _ _ _ _ _ _ _ _ _ _ _ _ _ _ _ _ _ _ _ _ _ _ _ _ _ _ V _ fun y i=>(gC (a.le i) s1 s2 (by omega)).mono ?_;rintro r V2 p j;have c:=j;obtain ⟨_,_,_,_,_,_,rfl⟩:=mz j;refine ⟨_,_,_,_,_,_,rfl,fun z m=>(gC (b.le (i.trans (p.trans m))) s3 s4 (by omega)).mono ?_⟩;rintro r A q n;have d:=n;obtain ⟨_,_,_,_,_,_,rfl⟩:=mz n;refine ⟨_,_,_,_,_,_,rfl,fun B o=>(xL (c.le (m.trans (q.trans o))) (d.le o) s1 s2 s3 s4 (by omega)).mono ?_⟩;rintro r C D ⟨s,t⟩;by_cases h:px=qx/\py=qy
 ·obtain ⟨l,rfl,g⟩:=s h;obtain ⟨_,_,_,_,_,_,_,_,_,_,_,_,_,_,_,rfl⟩:=G8.ex g;exact ⟨_,_,_,_,_,_,_,_,_,_,_,_,_,_,_,_,_,_,rfl,fun _ E F=>⟨fun _=>⟨_,rfl,rfl⟩,fun h'=>absurd h h'⟩,(fun h=>nomatch h)⟩
 ·obtain ⟨l,rfl,g⟩:=t h;have w:=g;have sl:=nE s1 s2 s3 s4 h;have ss:=BE s1 s2 s3 s4 h;obtain ⟨_,_,_,_,_,_,_,_,_,_,_,_,_,_,_,rfl⟩:=G8.ex g;refine ⟨_,_,_,_,_,_,_,_,_,_,_,_,_,_,_,_,_,_,rfl,(fun h=>nomatch h),fun _ G x=>(Cj (w.le x) (k:=400*k+400) ⟨Sz.mono sl.1 (by omega),Sz.mono sl.2.1 (by omega),Sz.mono sl.2.2 (by omega)⟩ ss (by omega)).mono ?_⟩;rintro r H I f;have f0:=f;obtain ⟨_,_,_,_,_,_,_,_,_,_,_,_,_,_,_,_,_,_,_,_,_,_,_,_,_,_,rfl⟩:=eN f;exact ⟨_,_,_,_,_,_,_,_,_,_,_,_,_,_,_,_,_,_,_,_,_,_,_,_,_,_,_,_,rfl,fun J e=>⟨fun h'=>absurd h' h,fun _=>⟨_,rfl,f0.le e⟩⟩⟩
theorem Hj {V:View}{v:Value}{l:L3}{s:Sp}(h:xD V v l s)(ho:Lp l s){k:Nat}(sl:eG k l)(hs:s.sz k)(hk:20*k+20<274877906944) :
  ae prog 115 #[v,.func (.func 116) #[] #[]] V fun r V'=>∃w,r=.tuple #[w,.bool (!s.b)]/\(s.b=false->As V' w (j_ l s.hi) (kH l s.hi))/\(s.b=true->IB w):=by
 have d:=h;obtain ⟨_,_,_,_,_,_,_,_,_,_,_,_,_,_,_,_,_,_,_,_,_,_,_,_,_,_,rfl⟩:=eN h;refine nQ _ _ _ _ _ _ _ _ _ _ _ _ _ _ _ _ _ _ _ _ _ _ _ _ _ _ _ _ V _ fun q i=>(mT (d.le i) ho sl hs (by omega)).mono ?_;rintro r V2 t ⟨w,rfl,g⟩;have j:=g;obtain ⟨_,_,_,_,_,_,_,_,_,_,_,_,_,_,_,rfl⟩:=G8.ex g;refine ⟨_,_,_,_,_,_,_,_,_,_,_,_,_,_,_,_,_,_,rfl,(fun h=>nomatch h),fun _ u m=>(I3 (j.le m) sl hs (by omega)).mono ?_⟩;rintro r x y ⟨w,rfl,f⟩;have f0:=f;obtain ⟨_,_,_,_,_,_,rfl⟩:=mz f;refine ⟨_,_,_,_,_,_,_,rfl,fun c z A=>?_,fun c B n=>?_⟩
 ·have a:s.b=true:=by simpa using c
  rw [a];exact ⟨_,rfl,(fun h=>nomatch h),fun _=>rfl⟩
 ·have a:s.b=false:=by simpa using c
  rw [a] at f0;refine (pG (f0.le n) (k:=20*k+19) (BC sl hs.2) (BD sl hs.2) (by omega)).mono ?_;rintro r C D e;have o:=e;obtain ⟨_,_,_,_,_,_,_,_,_,_,_,_,_,_,rfl⟩:=dH e;exact ⟨_,_,_,_,_,_,_,_,_,_,_,_,_,_,rfl,fun E p=>⟨_,by rw [a];rfl,fun _=>o.le p,fun h=>by rw [a] at h;cases h⟩⟩
theorem Ht {V:View}{w:Value}{x y:Rat}{c:Bool}(h1:c=false->As V w x y)(h2:c=true->IB w):∃b p n c p' n' c' d q m e q' m' e',w=.agg #[.bool b,.slice p n c,.slice p' n' c',.bool d,.slice q m e,.slice q' m' e']:=by
 cases c with
 | false=>exact dH (h1 rfl)
 | true=>exact ⟨_,_,_,_,_,_,_,_,_,_,_,_,_,_,h2 rfl⟩
theorem QS {V:View}{v:Value}{l:L3}{s:Sp}(h:xD V v l s)(ho:Lp l s){k:Nat}(sl:eG k l)(hs:s.sz k)(hk:20*k+20<274877906944) :
  ae prog 55 #[v] V fun r V'=>∃w,r=.tuple #[w,.bool (!s.b)]/\(s.b=false->As V' w (j_ l s.hi) (kH l s.hi))/\(s.b=true->IB w):=by
 have g:=h;obtain ⟨_,_,_,_,_,_,_,_,_,_,_,_,_,_,_,_,_,_,_,_,_,_,_,_,_,_,rfl⟩:=eN h;refine tM _ _ _ _ _ _ _ _ _ _ _ _ _ _ _ _ _ _ _ _ _ _ _ _ _ _ _ _ V _ fun m i=>(Hj (g.le i) ho sl hs hk).mono ?_;rintro r V2 n ⟨w,rfl,d,f⟩;have a:=d;have c:=f;obtain ⟨_,_,_,_,_,_,_,_,_,_,_,_,_,_,rfl⟩:=Ht d f;exact ⟨_,_,_,_,_,_,_,_,_,_,_,_,_,_,_,rfl,fun o j=>⟨_,rfl,fun e=>(a e).le j,c⟩⟩
theorem oB {V:View}(x y:Int)(h0:-1000<=x)(h1:x<=1000)(h2:-1000<=y)(h3:y<=1000) :
  ae prog 54 #[.int .i64 x,.int .i64 y] V fun r V'=>As V' r (x:Rat) (y:Rat):=by
 have g:Sz 10 (x:Rat):=oQ (by omega) (by omega);have h:Sz 10 (y:Rat):=oQ (by omega) (by omega);refine qK x y V _ fun m n=>(iN x (by omega) (by omega)).mono ?_;rintro r V2 o c;have a:=c;obtain ⟨_,_,_,rfl⟩:=c.shape;refine ⟨_,_,_,rfl,fun p i=>(iN y (by omega) (by omega)).mono ?_⟩;rintro r q j d;have b:=d;obtain ⟨_,_,_,rfl⟩:=d.shape;refine ⟨_,_,_,rfl,fun s f=>(pG ⟨_,_,_,_,_,_,rfl,a.le (i.trans (j.trans f)),b.le f⟩ g h (by omega)).mono ?_⟩;rintro r t u e;have k:=e;obtain ⟨_,_,_,_,_,_,_,_,_,_,_,_,_,_,rfl⟩:=dH e;exact ⟨_,_,_,_,_,_,_,_,_,_,_,_,_,_,rfl,fun v l=>k.le l⟩
theorem AL {V:View}{v w:Value}{x y x' y':Rat}(hp:As V v x y)(hq:As V w x' y'){k:Nat}(s1:Sz k x)(s2:Sz k y)(s3:Sz k x')(s4:Sz k y')(hk:2*k<1099511627776) :
  ae prog 57 #[v,w] V fun r V'=>r=.bool (decide (x=x'/\y=y')):=by
 have a:=hp;have b:=hq;obtain ⟨_,_,_,_,_,_,_,_,_,_,_,_,_,_,rfl⟩:=dH hp;obtain ⟨_,_,_,_,_,_,_,_,_,_,_,_,_,_,rfl⟩:=dH hq;refine yJ _ _ _ _ _ _ _ _ _ _ _ _ _ _ _ _ _ _ _ _ _ _ _ _ _ _ _ _ V _ fun m e=>(gC (a.le e) s1 s2 (by omega)).mono ?_;rintro r V2 j f;have c:=f;obtain ⟨_,_,_,_,_,_,rfl⟩:=mz f;refine ⟨_,_,_,_,_,_,rfl,fun n g=>(gC (b.le (e.trans (j.trans g))) s3 s4 (by omega)).mono ?_⟩;rintro r o l h;have d:=h;obtain ⟨_,_,_,_,_,_,rfl⟩:=mz h;refine ⟨_,_,_,_,_,_,rfl,fun p i=>(uV (c.le (g.trans (l.trans i))) (d.le i) s1 s2 s3 s4 hk).mono ?_⟩;rintro r q s rfl;exact ⟨_,rfl,fun t u=>rfl⟩
theorem tD (x y:Rat):0<=(cQ x y).num:=by
 unfold cQ;rw [Rat.num_mkRat];split
 ·omega
 ·exact Int.ediv_nonneg (Int.natCast_nonneg _) (Int.natCast_nonneg _)
theorem KF {px py qx qy:Rat}(h:¬(px=qx/\py=qy)):dz (gZ px py qx qy) qx qy-dz (gZ px py qx qy) px py=cQ (cQ (-(qy-py)) (qx-px)) (-(-(qy-py)*px+(qx-px)*py)):=by
 obtain ⟨f,d,e,-⟩:=kr (a:=-(qy-py)) (b:=qx-px) (c:=-(-(qy-py)*px+(qx-px)*py)) (nG h);have j:=(G1 h).norm;change _=((gZ px py qx qy).1:Rat) at d;change _=((gZ px py qx qy).2.1:Rat) at e;generalize cQ (cQ (-(qy-py)) (qx-px)) (-(-(qy-py)*px+(qx-px)*py))=g at *;have m:=Rat.mul_inv_cancel g f;have k:=Rat.mul_inv_cancel _ j;unfold dz
 have l:cF (gZ px py qx qy)=((qy-py)*(qy-py)+(qx-px)*(qx-px))*(g⁻¹*g⁻¹):=by
  unfold cF;rw [←d,←e];grind
 rw [←d,←e];generalize (cF (gZ px py qx qy))⁻¹=N at *;generalize g⁻¹=i at *;rw [l] at k;grind
theorem MO {px py qx qy:Rat}(h:¬(px=qx/\py=qy)):(yi px py qx qy).emp=false:=by
 obtain ⟨d,-⟩:=kr (a:=-(qy-py)) (b:=qx-px) (c:=-(-(qy-py)*px+(qx-px)*py)) (nG h);have f:=KF h;have i:=tD (cQ (-(qy-py)) (qx-px)) (-(-(qy-py)*px+(qx-px)*py));unfold yi Sp.emp;dsimp only;generalize cQ (cQ (-(qy-py)) (qx-px)) (-(-(qy-py)*px+(qx-px)*py))=g at *
 have e:cmpQ (dz (gZ px py qx qy) px py) (dz (gZ px py qx qy) qx qy)=- g.num.sign:=by
  rw [cmpQ_swap,←f];rfl
 rw [e];have j:g.num≠0:=C_ d;have:g.num.sign=1:=Int.sign_eq_one_of_pos (by omega);rw [this];rfl
theorem KG {px py qx qy:Rat}(h:¬(px=qx/\py=qy)):Lp (gZ px py qx qy) (yi px py qx qy):=⟨J6 h,⟨(fun h=>nomatch h),(fun h=>nomatch h)⟩,MO h⟩
theorem PO:∀i:Fin 6,(mkRat ((i.1:Int)+1) 2).num.sign=1/\Sz 10 (mkRat ((i.1:Int)+1) 2):=by unfold Sz;decide +kernel
theorem Qn (V:View):RQ V (.agg #[.bool false,.slice none 0 0,.slice none 0 0]) 0:=by have:=RQ.zero (V:=V);simpa using this
theorem Lo (k:Nat)(hk:0<k):Sz k (0:Rat):=⟨by show (0:Int).natAbs<_;exact Nat.lt_of_lt_of_le (by decide) (Nat.one_le_two_pow),Nat.one_lt_two_pow (by omega)⟩
theorem pJ {V:View}:ae prog 75 #[] V fun r V'=>pz V' r ⟨0,0,true,true⟩:=
 yQ V _ fun a b=>⟨_,_,_,_,_,_,_,_,_,_,_,_,_,_,rfl,Qn _,Qn _⟩
theorem Du {V:View}{v:Value}{s:Sp}(h:pz V v s):∃b p n c p' n' c' d q m e q' m' e',v=.agg #[.bool b,.slice p n c,.slice p' n' c',.bool d,.slice q m e,.slice q' m' e',.bool s.a,.bool s.b]:=by
 obtain ⟨_,_,_,_,_,_,_,_,_,_,_,_,_,_,e,-⟩:=h;exact ⟨_,_,_,_,_,_,_,_,_,_,_,_,_,_,e⟩
theorem wq {V:View}{v:Value}{l:L3}{s:Sp}(h:RF V v l s):∃b1 p1 n1 c1 b2 p2 n2 c2 b3 p3 n3 c3 b p n c p' n' c' d q m e q' m' e',
 v=.agg #[.bool b1,.slice p1 n1 c1,.bool b2,.slice p2 n2 c2,.bool b3,.slice p3 n3 c3,.bool b,.slice p n c,.slice p' n' c',.bool d,.slice q m e,.slice q' m' e',.bool s.a,.bool s.b]:=by
 obtain ⟨_,_,_,_,_,_,_,_,_,_,_,_,_,_,_,_,_,_,_,_,_,_,_,_,_,_,e,-⟩:=h;exact ⟨_,_,_,_,_,_,_,_,_,_,_,_,_,_,_,_,_,_,_,_,_,_,_,_,_,_,e⟩
theorem Z9 {V:View}{tb:Nat}{p:OA}{n c:Nat}{at_:Int}(hr:Im V p n)(hn:n<=400)(hw:nI V tb p n c at_)(hx:V.X tb)(h0:0<=at_) :
  ae prog 32 #[.pointer (some ⟨tb,0,none⟩)] V fun r V'=>∃(s:Sp)(at':Int),pz V' r s/\s.can/\s.emp=false/\s.sz 40/\0<=at'/\nI V' tb p n c at':=by
 refine uf tb p n c at_ V _ hw hx fun V1 w A e1 h1=>(XK (V:=V1.aF [A]) (hr.le fun b o h=>w b o h) hn e1 ⟨by simp,h1⟩ h0).mono ?_;rintro r V2 R ⟨d,Nq,S,u,t1,B⟩;have j:=S;obtain ⟨qa,qb,qc,qd,qe,qf,rfl⟩:=S.shape;refine ⟨_,_,_,_,_,_,_,rfl,_,_,_,_,B,fun V3 C ZZ e3 h3=>(iM (V:=V3.aF [ZZ]) 6 (hr.le fun b o h=>C b o (R b o (w b o h))) hn e3 ⟨by simp,h3⟩ t1 (by omega) (by omega)).mono ?_⟩;rintro r V4 T ⟨x,a0,rfl,x0,x1,t2,D⟩;obtain ⟨i,rfl⟩:∃i:Nat,x=i:=⟨x.toNat,by omega⟩;obtain ⟨U,E⟩:=PO ⟨i,by omega⟩;dsimp only at U E;have w1:i64.wrap (1+(i:Int))=(i:Int)+1:=by rw [aw (by omega)];omega
 refine ⟨_,rfl,_,_,_,_,D,fun V5 Y=>?_⟩;rw [w1];refine (oE ((i:Int)+1) 2 (by omega) (by omega) (by omega) (by omega)).mono ?_;generalize mkRat ((i:Int)+1) 2=q at *;rintro r V6 Z gp;have O1:=gp;obtain ⟨_,_,_,_,_,_,rfl⟩:=gp.shape;have qN:∀{F:View},V6.Le F->V2.Le F:=fun l b o h=>l b o (Z b o (Y b o (T b o (C b o h))));refine ⟨_,_,_,_,_,_,_,rfl,fun F l=>(cC (j.le (qN l)) (O1.le l) u E (by omega)).mono ?_⟩;rintro r V8 l8 gh;have X2:=gh;obtain ⟨ga,gb,gc,gd,ge,G,rfl⟩:=gh.shape;have sh:Sz 21 (d+q):=u.add E;have xw:∀{v:View},V8.Le v->V.Le v:=fun m b o h=>m b o (l8 b o (l b o (Z b o (Y b o (T b o (C b o (R b o (w b o h))))))));refine ⟨_,_,_,_,_,_,_,rfl,fun v m Ul e9 h9=>(iM (V:=v.aF [Ul]) 8 (hr.le fun b o h=>xw m b o h) hn e9 ⟨by simp,h9⟩ t2 (by omega) (by omega)).mono ?_⟩;rintro r H t ⟨y,k,rfl,y0,y1,t3,I⟩;have J:∀{f:View},H.shut.Le f->V8.Le f:=fun g b o h=>g b o (t b o (m b o h));have NK:∀{f:View},H.shut.Le f->V2.Le f:=fun g=>(qN l).trans (l8.trans (J g))
 have full:∀(f W:View),H.shut.Le f->f.Le W->∀a,0<=a->nI W tb p n c a->∃(s:Sp)(at':Int),pz W (.agg #[.bool (decide (d.num<0)),.slice qa qb qc,.slice qd qe qf,.bool (decide ((d+q).num<0)),.slice ga gb gc,.slice gd ge G,.bool false,.bool false]) s/\s.can/\s.emp=false/\s.sz 40/\0<=at'/\nI W tb p n c at':=fun f W g lw a t4 e4=>
  ⟨⟨d,d+q,false,false⟩,a,⟨_,_,_,_,_,_,_,_,_,_,_,_,_,_,rfl,j.le ((NK g).trans lw),X2.le ((J g).trans lw)⟩,⟨(fun h=>nomatch h),(fun h=>nomatch h)⟩,by
   have e:cmpQ d (d+q)=- q.num.sign:=by
    rw [cmpQ_swap];unfold cmpQ;rw [show d+q-d=q from by grind]
   unfold Sp.emp;dsimp only;rw [e,U];rfl,⟨Sz.mono u (by omega),Sz.mono sh (by omega)⟩,t4,e4⟩
 refine ⟨_,rfl,_,_,_,_,I,fun _ f g K=>?_,fun _=>⟨fun _ ib cu L=>?_,fun _=>⟨fun _ lG ck OK M Tu=>(iM (V:=lG.aF [OK]) 4 (hr.le fun b o h=>ck b o (t b o (xw m b o h))) hn M ⟨by simp,Tu⟩ t3 (by omega) (by omega)).mono ?_,fun _ uD fw N=>full _ _ fw (View.Le.refl _) k t3 N⟩⟩⟩
 ·exact ⟨⟨0,d+q,true,false⟩,k,⟨_,_,_,_,_,_,_,_,_,_,_,_,_,_,rfl,Qn _,X2.le (J g)⟩,⟨fun _=>rfl,(fun h=>nomatch h)⟩,rfl,⟨Lo _ (by omega),Sz.mono sh (by omega)⟩,t3,K⟩
 ·exact ⟨⟨d,0,false,true⟩,k,⟨_,_,_,_,_,_,_,_,_,_,_,_,_,_,rfl,j.le (NK cu),Qn _⟩,⟨(fun h=>nomatch h),fun _=>rfl⟩,rfl,⟨Sz.mono u (by omega),Lo _ (by omega)⟩,t3,L⟩
 ·rintro r j8 dF ⟨z,a,rfl,-,-,t4,O⟩;refine ⟨_,rfl,_,_,_,_,O,fun _ kK dw=>pJ.mono ?_,fun _ uC d_ P=>full _ _ ck (fun b o h=>d_ b o (dF b o h)) a t4 P⟩;rintro r mS dh gf;have Gr:=gf;obtain ⟨_,_,_,_,_,_,_,_,_,_,_,_,_,_,rfl⟩:=Du gf;exact ⟨_,_,_,_,_,_,_,_,_,_,_,_,_,_,_,_,rfl,fun pk cZ Q=>⟨⟨0,0,true,true⟩,a,Gr.le cZ,⟨fun _=>rfl,fun _=>rfl⟩,rfl,⟨Lo _ (by omega),Lo _ (by omega)⟩,t4,Q⟩⟩
theorem Uv {V:View}{tb:Nat}{p:OA}{n c:Nat}{at_:Int}(hr:Im V p n)(hn:n<=400)(hw:nI V tb p n c at_)(hx:V.X tb)(h0:0<=at_) :
  ae prog 8 #[.pointer (some ⟨tb,0,none⟩)] V fun r V'=>∃(l:L3)(s:Sp)(at':Int),RF V' r l s/\Lp l s/\eG 1000 l/\s.sz 5000/\0<=at'/\nI V' tb p n c at':=by
 refine ua tb p n c at_ V _ hw hx fun V1 i z t h1=>(iM (V:=V1.aF [z]) 3 (hr.le fun b o h=>i b o h) hn t ⟨by simp,h1⟩ h0 (by omega) (by omega)).mono ?_;rintro r V2 v ⟨x,Nq,rfl,-,-,t1,A⟩;refine ⟨_,rfl,_,_,_,_,A,fun _ V3 N QE e3 h3=>(XJ (V:=V3.aF [QE]) (hr.le fun b o h=>N b o (v b o (i b o h))) hn e3 ⟨by simp,h3⟩ t1).mono ?_,fun _ V8 O Um e8 h8=>(Tp (V:=V8.aF [Um]) (hr.le fun b o h=>O b o (v b o (i b o h))) hn e8 ⟨by simp,h8⟩ t1).mono ?_⟩
 ·rintro r V4 l4 ⟨l,B,P,ho,hb,t2,a⟩;have O0:=P;obtain ⟨_,_,_,_,_,_,_,_,_,_,_,_,rfl⟩:=fY P;refine ⟨_,_,_,_,_,_,_,_,_,_,_,_,rfl,_,_,_,_,a,fun V5 Q Uk e5 h5=>(Z9 (V:=V5.aF [Uk]) (hr.le fun b o h=>Q b o (l4 b o (N b o (v b o (i b o h))))) hn e5 ⟨by simp,h5⟩ t2).mono ?_⟩;rintro r V6 l6 ⟨s,d,gs,hc,e,ss,t3,g⟩;have C:=gs;obtain ⟨_,_,_,_,_,_,_,_,_,_,_,_,_,_,rfl⟩:=Du gs;obtain ⟨z1,z2,z3⟩:=hb.sz;exact ⟨_,_,_,_,_,_,_,_,_,_,_,_,_,_,_,_,rfl,_,_,_,_,g,fun V7 R e7=>⟨l,s,d,⟨_,_,_,_,_,_,_,_,_,_,_,_,_,_,_,_,_,_,_,_,_,_,_,_,_,_,rfl,O0.le fun b o h=>R b o (l6 b o (Q b o h)),C.le fun b o h=>R b o h⟩,⟨ho,hc,e⟩,⟨Sz.mono z1 (by omega),Sz.mono z2 (by omega),Sz.mono z3 (by omega)⟩,⟨Sz.mono ss.1 (by omega),Sz.mono ss.2 (by omega)⟩,t3,e7⟩⟩
 ·rintro r V9 l9 ⟨x,y,B,S,a0,a1,t2,a⟩;have j:=S;obtain ⟨_,_,_,_,_,_,_,_,_,_,_,_,_,_,rfl⟩:=jh S;refine ⟨_,_,_,_,_,_,_,_,_,_,_,_,_,_,rfl,_,_,_,_,a,fun gu q=>(eM 1 (by omega) (by omega)).mono ?_⟩;rintro r fg T U;have D:=U;obtain ⟨_,_,_,_,_,_,rfl⟩:=U.shape;refine ⟨_,_,_,_,_,_,_,rfl,fun ib E Uo F G=>(XL (V:=ib.aF [Uo]) (hr.le fun b o h=>E b o (T b o (q b o (l9 b o (O b o (v b o (i b o h))))))) hn F ⟨by simp,G⟩ t2).mono ?_⟩;rintro r lG W ⟨u,w,d,Y,a2,Ro,e,t3,g⟩;have H:=Y;obtain ⟨_,_,_,_,_,_,_,_,_,_,_,_,_,_,rfl⟩:=jh Y;refine ⟨_,_,_,_,_,_,_,_,_,_,_,_,_,_,rfl,_,_,_,_,g,fun I J=>?_⟩;have Z:V9.Le I:=fun b o h=>J b o (W b o (E b o (T b o (q b o h))));have Pp:fg.Le I:=fun b o h=>J b o (W b o (E b o h));have Pq:lG.Le I:=fun b o h=>J b o h;refine (jw (j.le Z) (D.le Pp) (H.le Pq) (k:=10) (m:=10) (tH (by omega)) (tH (by omega)) (tH (by omega)) (tH (by omega)) (tH (by omega)) (by omega)).mono ?_;rintro r kK dw K;have f1:(x:Rat)+((1:Int):Rat)*(u:Rat)=((x+u:Int):Rat):=by rw [←Rat.intCast_mul,←Rat.intCast_add,Int.one_mul]
  have f2:(y:Rat)+((1:Int):Rat)*(w:Rat)=((y+w:Int):Rat):=by rw [←Rat.intCast_mul,←Rat.intCast_add,Int.one_mul]
  rw [f1,f2] at K;have L:=K;obtain ⟨_,_,_,_,_,_,_,_,_,_,_,_,_,_,rfl⟩:=jh K
  have ne:¬((x:Rat)=((x+u:Int):Rat)/\(y:Rat)=((y+w:Int):Rat)):=by
   rintro ⟨t,e2⟩;have t:x=x+u:=by exact_mod_cast t
   have e2:y=y+w:=by exact_mod_cast e2
   exact e ⟨by omega,by omega⟩
  have s1:Sz 10 (x:Rat):=tH (by omega);have s2:Sz 10 (y:Rat):=tH (by omega);have s3:Sz 10 ((x+u:Int):Rat):=tH (by omega);have s4:Sz 10 ((y+w:Int):Rat):=tH (by omega);refine ⟨_,_,_,_,_,_,_,_,_,_,_,_,_,_,rfl,fun mS dh=>(tz (j.le (Z.trans (dw.trans dh))) (L.le dh) s1 s2 s3 s4 (by omega) (by omega)).mono ?_⟩;rintro r pk cZ ⟨-,m2⟩;obtain ⟨f,rfl,gf⟩:=m2 ne;have Gr:=gf;have sl:=nE s1 s2 s3 s4 ne;have ss:=BE s1 s2 s3 s4 ne;obtain ⟨_,_,_,_,_,_,_,_,_,_,_,_,_,_,_,_,_,_,_,_,_,_,_,_,_,_,rfl⟩:=wq gf;exact ⟨_,_,_,_,_,_,_,_,_,_,_,_,_,_,_,_,_,_,_,_,_,_,_,_,_,_,_,_,_,rfl,fun uC d_ M=>⟨_,_,d,Gr.le d_,KG ne,⟨Sz.mono sl.1 (by omega),Sz.mono sl.2.1 (by omega),Sz.mono sl.2.2 (by omega)⟩,⟨Sz.mono ss.1 (by omega),Sz.mono ss.2 (by omega)⟩,t3,M⟩⟩
theorem MZ {k:Nat}{l:L3}(h:eG k l):l.1.natAbs<2^k/\l.2.1.natAbs<2^k/\l.2.2.natAbs<2^k:=by
 have e:∀{x:Int},Sz k (x:Rat)->x.natAbs<2^k:=fun h=>by have:=h.1;rwa [Rat.num_intCast] at this
 exact ⟨e h.1,e h.2.1,e h.2.2⟩
theorem OH {l:L3}(h:eG 1000 l):Bd l:=MZ (k:=1000) h
def Gs (V:View):View:=⟨V.w,fun b=>b<V.w.heap.size,fun _=>False,fun _ h=>h,fun _ h=>h.elim⟩
theorem Eo {f:FuncId}{args:Array Value}{V:View}{o:Obj}(h:ae prog f args (Gs V) fun r V'=>∃bk,r=.pointer (some ⟨bk,0,none⟩)/\V'.bw bk o) :
  ae prog f args V fun r V'=>∃bk,r=.pointer (some ⟨bk,0,none⟩)/\V.w.heap.size<=bk/\V'.bw bk o:=
 ⟨h.1,h.2.mono fun _ _ ⟨_,he,a,bk,d,c⟩=>⟨_,he,⟨a.size,fun b c _=>a.bw b c (fun h=>h),a.os,a.tape,a.out⟩,bk,d,Nat.le_of_not_lt c.1,fun e=>c.1 (V.hH bk e),c.2⟩⟩
theorem Cs {V:View}{lp:OA}{ln lc:Nat}(hc:ln<=lc) :
  ae prog 7 #[.slice lp ln lc] V fun r V'=>∃bk,r=.pointer (some ⟨bk,0,none⟩)/\V.w.heap.size<=bk/\V'.bw bk (.cells #[.slice lp (min ln 400) lc,.int .i64 0] 88 (0,0)):=by
 refine Eo (BZ lp ln lc (Gs V) _ ?_)
 have e:bS (ln:Int) 400=((min ln 400:Nat):Int):=by
  unfold bS;simp only [Nat.min_def];split<;>split<;>omega
 rw [e,Int.toNat_natCast];have:=Nat.min_le_left ln 400;exact ⟨⟨by omega,by omega⟩,fun b c bk a=>⟨bk,rfl,a⟩⟩
theorem JH {V1 V2 V3:View}{bk:Nat}(l2:V1.Le V2)(hfr:V1.w.heap.size<=bk)(l3:(V2.Jq bk).Le V3):V1.Le V3:=fun b o h=>l3 b o ⟨fun a=>a.elim (l2 b o h).1 fun e=>by
  have c:b<V1.w.heap.size:=by
   rcases Nat.lt_or_ge b V1.w.heap.size with h'|h'
   ·exact h'
   ·have:=h.2;rw [Array.getElem?_eq_none h'] at this;cases this
  have:=e.1;omega,(l2 b o h).2⟩
theorem Ce:j_ (gZ ((0:Int):Rat) ((0:Int):Rat) ((2:Int):Rat) ((0:Int):Rat)) (yi ((0:Int):Rat) ((0:Int):Rat) ((2:Int):Rat) ((0:Int):Rat)).hi=((2:Int):Rat) /\
  kH (gZ ((0:Int):Rat) ((0:Int):Rat) ((2:Int):Rat) ((0:Int):Rat)) (yi ((0:Int):Rat) ((0:Int):Rat) ((2:Int):Rat) ((0:Int):Rat)).hi=((0:Int):Rat):=by decide +kernel
theorem I6 {V:View}:ae prog 21 #[] V fun r V'=>r=.bool true:=by
 have a:Sz 10 ((0:Int):Rat):=tH (by omega);have s2:Sz 10 ((2:Int):Rat):=tH (by omega);have ne:¬(((0:Int):Rat)=((2:Int):Rat)/\((0:Int):Rat)=((0:Int):Rat)):=by decide
 have sl:=nE a a s2 a ne;have ss:=BE a a s2 a ne;have b:eG 5000 (gZ ((0:Int):Rat) ((0:Int):Rat) ((2:Int):Rat) ((0:Int):Rat)):=⟨Sz.mono sl.1 (by omega),Sz.mono sl.2.1 (by omega),Sz.mono sl.2.2 (by omega)⟩;have c:(yi ((0:Int):Rat) ((0:Int):Rat) ((2:Int):Rat) ((0:Int):Rat)).sz 5000:=⟨Sz.mono ss.1 (by omega),Sz.mono ss.2 (by omega)⟩;have ok:=KG ne;refine wV V _ fun C D=>(oB 0 0 (by omega) (by omega) (by omega) (by omega)).mono ?_;rintro r V2 E k;have e:=k;obtain ⟨_,_,_,_,_,_,_,_,_,_,_,_,_,_,rfl⟩:=dH k;refine ⟨_,_,_,_,_,_,_,_,_,_,_,_,_,_,rfl,fun F u=>(oB 2 0 (by omega) (by omega) (by omega) (by omega)).mono ?_⟩;rintro r G v l;have g:=l;obtain ⟨_,_,_,_,_,_,_,_,_,_,_,_,_,_,rfl⟩:=dH l;refine ⟨_,_,_,_,_,_,_,_,_,_,_,_,_,_,rfl,fun H m=>(AD (e.le (u.trans (v.trans m))) (g.le m) a a s2 a (by omega)).mono ?_⟩;rintro r I J ⟨-,x⟩;obtain ⟨f,rfl,n⟩:=x ne;have o:=n;obtain ⟨_,_,_,_,_,_,_,_,_,_,_,_,_,_,_,_,_,_,_,_,_,_,_,_,_,_,rfl⟩:=eN n;refine ⟨_,_,_,_,_,_,_,_,_,_,_,_,_,_,_,_,_,_,_,_,_,_,_,_,_,_,_,_,_,rfl,fun K p=>(QS (o.le p) ok b c (by omega)).mono ?_⟩;rintro r L y ⟨w,rfl,d,-⟩;have d:=d rfl;rw [Ce.1,Ce.2] at d;have i:=d;obtain ⟨_,_,_,_,_,_,_,_,_,_,_,_,_,_,rfl⟩:=dH d;refine ⟨_,_,_,_,_,_,_,_,_,_,_,_,_,_,_,rfl,fun _=>⟨fun _ M q=>(Ex (o.le (p.trans (y.trans q))) ok b c (by omega)).mono ?_,(fun h=>nomatch h)⟩,(fun h=>nomatch h)⟩;rintro r N j rfl;refine ⟨_,rfl,fun _ O z=>(oB 2 0 (by omega) (by omega) (by omega) (by omega)).mono ?_,(fun h=>nomatch h)⟩;rintro r P A s;have B:=s;obtain ⟨_,_,_,_,_,_,_,_,_,_,_,_,_,_,rfl⟩:=dH s;refine ⟨_,_,_,_,_,_,_,_,_,_,_,_,_,_,rfl,fun Q t=>(AL (i.le (q.trans (j.trans (z.trans (A.trans t))))) (B.le t) s2 a s2 a (by omega)).mono ?_⟩;rintro r R S rfl;exact ⟨_,rfl,fun T U=>by simp⟩
theorem zV:IsIface .nilIface:=.inl rfl
def Fc (x y:Rat):Rat:=if 0<cmpQ y x then y else x
def Fg (x y:Rat):Rat:=if cmpQ y x<0 then y else x
theorem iq (x y:Rat):(x<y/\cmpQ x y=-1)\/(x=y/\cmpQ x y=0)\/(y<x/\cmpQ x y=1):=by
 by_cases a:x<y
 ·exact .inl ⟨a,Gl.1 a⟩
 ·by_cases b:x=y
  ·exact .inr (.inl ⟨b,dX.1 b⟩)
  ·have c:y<x:=by grind
   exact .inr (.inr ⟨c,Gk.1 c⟩)
theorem Sp.kY {s:Sp}:s.emp=false↔(s.a=true\/s.b=true\/s.lo<s.hi):=by
 unfold Sp.emp;rcases iq s.lo s.hi with ⟨h,e⟩|⟨h,e⟩|⟨h,e⟩<;>rw [e]<;>cases s.a<;>cases s.b<;>simp<;>grind
def Sp.meet (v w:Sp):Sp:=⟨if v.a then w.lo else if w.a then v.lo else Fc v.lo w.lo,if v.b then w.hi else if w.b then v.hi else Fg v.hi w.hi,if v.a then w.a else false,if v.b then w.b else false⟩
theorem Sp.JN {v w:Sp}(h1:v.can)(h2:w.can):(v.meet w).can:=by
 unfold Sp.meet;constructor<;>dsimp only
 ·cases hv:v.a with
  | false=>intro h;cases h
  | true=>exact fun h=>h2.1 h
 ·cases hv:v.b with
  | false=>intro h;cases h
  | true=>exact fun h=>h2.2 h
def Sp.Dv (s:Sp):Rat:=if s.a then (if s.b then 0 else s.hi-((1:Int):Rat)) else if s.b then s.lo+((1:Int):Rat) else (s.lo+s.hi)*((2:Int):Rat)⁻¹
theorem Sp.MM {s:Sp}(h:s.emp=false):(s.a=false->s.lo<s.Dv)/\(s.b=false->s.Dv<s.hi):=by
 rw [Sp.kY] at h;unfold Sp.Dv;cases ha:s.a<;>cases hb:s.b<;>simp [ha,hb] at h⊢<;> grind
def dotL (m l:L3):Rat:=((m.1:Rat)*(l.2.1:Rat))+((m.2.1:Rat)*(-(l.1:Rat)))
def qS (m l:L3):Rat:=aI m (j_ l 0) (kH l 0)
theorem KW (m l:L3)(t:Rat):aI m (j_ l t) (kH l t)=qS m l+dotL m l*t:=by
 unfold qS aI dotL j_ kH;grind
def cutP (m l:L3):Rat:=-(qS m l*(dotL m l)⁻¹)
def iT (l:L3)(s:Sp)(m:L3):Sp:=
 if (dotL m l).num.sign==0 then s else if (dotL m l).num.sign==1 then s.meet ⟨cutP m l,0,false,true⟩ else s.meet ⟨0,cutP m l,true,false⟩
def lR (l:L3)(s:Sp)(m:L3):Bool:=
 if (dotL m l).num.sign==0 then decide ((qS m l).num.sign>0) else !(iT l s m).emp
theorem uy (q:Rat):(q=0/\q.num.sign=0)\/(0<q/\q.num.sign=1)\/(q<0/\q.num.sign=-1):=by
 have a:=@C8 q;have b:=@C9 q;have c:=@Rat.num_eq_zero q;rcases Int.lt_trichotomy q.num 0 with h|h|h
 ·exact .inr (.inr ⟨a.1 h,Int.sign_eq_neg_one_of_neg h⟩)
 ·exact .inl ⟨c.1 h,by rw [h];rfl⟩
 ·exact .inr (.inl ⟨b.1 h,Int.sign_eq_one_of_pos h⟩)
theorem val_rev (m:L3)(x y:Rat):aI (revL m) x y=-aI m x y:=by
 unfold aI revL;simp only [Rat.intCast_neg];grind
def crossL (l m:L3):Rat:=((l.1:Rat)*(m.2.1:Rat))-((l.2.1:Rat)*(m.1:Rat))
def Px (l m:L3):Rat:=(((l.2.1:Rat)*(m.2.2:Rat))-((l.2.2:Rat)*(m.2.1:Rat)))*(crossL l m)⁻¹
def Py (l m:L3):Rat:=(((l.2.2:Rat)*(m.1:Rat))-((l.1:Rat)*(m.2.2:Rat)))*(crossL l m)⁻¹
def Sp.inn (s:Sp)(t:Rat):Prop:=(s.a=true\/s.lo<t)/\(s.b=true\/t<s.hi)
def rH (ss:List Sp)(t:Rat):Prop:=∃s∈ss,s.inn t
def Sp.good (s:Sp):Prop:=s.can/\s.emp=false
def Sp.IM (s t:Sp):Prop:=s.b=false/\t.a=false/\s.hi<t.lo
def xz (ss:List Sp):Prop:=(∀s∈ss,s.good)/\ss.Pairwise Sp.IM
theorem pick (E:List Rat):∀l u:Rat,l<u->∃t,l<t/\t<u/\t∉E:=by
 induction E with
 | nil=>exact fun l u h=>⟨(l+u) / 2,by grind,by grind,by simp⟩
 | cons e r ih=>
  intro l u h;by_cases c:l<e/\e<u
  ·obtain ⟨t,a,b,d⟩:=ih l e c.1;refine ⟨t,a,by grind,fun hm=>?_⟩;rcases List.mem_cons.1 hm with rfl|hm
   ·grind
   ·exact d hm
  ·obtain ⟨t,a,b,d⟩:=ih l u h;refine ⟨t,a,b,fun hm=>?_⟩;rcases List.mem_cons.1 hm with rfl|hm
   ·exact c ⟨a,b⟩
   ·exact d hm
theorem VQ:∀l:List Rat,l=[]\/∃m∈l,∀x∈l,x<=m:=by
 intro l
 induction l with
 | nil=>exact .inl rfl
 | cons y r ih=>
  rcases ih with rfl|⟨m,hm,h⟩
  ·exact .inr ⟨y,by simp,by intro x a;simp at a;grind⟩
  ·by_cases c:m<y
   ·exact .inr ⟨y,by simp,fun x a=>(List.mem_cons.1 a).elim (fun e=>by grind) fun e=>by have:=h x e;grind⟩
   ·exact .inr ⟨m,by simp [hm],fun x a=>(List.mem_cons.1 a).elim (fun e=>by grind) fun e=>h x e⟩
theorem R0:∀l:List Rat,l=[]\/∃m∈l,∀x∈l,m<=x:=by
 intro l
 induction l with
 | nil=>exact .inl rfl
 | cons y r ih=>
  rcases ih with rfl|⟨m,hm,h⟩
  ·exact .inr ⟨y,by simp,by intro x a;simp at a;grind⟩
  ·by_cases c:y<m
   ·exact .inr ⟨y,by simp,fun x a=>(List.mem_cons.1 a).elim (fun e=>by grind) fun e=>by have:=h x e;grind⟩
   ·exact .inr ⟨m,by simp [hm],fun x a=>(List.mem_cons.1 a).elim (fun e=>by grind) fun e=>h x e⟩
theorem De (E Ls Us:List Rat)(h:∀l∈Ls,∀u∈Us,l<u):∃t,(∀l∈Ls,l<t)/\(∀u∈Us,t<u)/\t∉E:=by
 have key:∃a b:Rat,a<b/\(∀l∈Ls,l<=a)/\∀u∈Us,b<=u:=by
  rcases VQ Ls with rfl|⟨m,hm,d⟩
  ·rcases R0 Us with rfl|⟨n,e,c⟩
   ·exact ⟨0,1,by decide,(fun _ h=>by cases h),(fun _ h=>by cases h)⟩
   ·exact ⟨n-1,n,by grind,(fun _ h=>by cases h),c⟩
  ·rcases R0 Us with rfl|⟨n,e,c⟩
   ·exact ⟨m,m+1,by grind,d,(fun _ h=>by cases h)⟩
   ·exact ⟨m,n,h m hm n e,d,c⟩
 obtain ⟨a,b,f,d,c⟩:=key;obtain ⟨t,t1,t2,t3⟩:=pick E a b f;exact ⟨t,fun l g=>by have:=d l g;grind,fun u hu=>by have:=c u hu;grind,t3⟩
def Sp.Pu (s:Sp):List Rat:=if s.a then [] else [s.lo]
def Sp.Ny (s:Sp):List Rat:=if s.b then [] else [s.hi]
theorem uu {s:Sp}{t:Rat}:s.inn t↔(∀l∈s.Pu,l<t)/\∀u∈s.Ny,t<u:=by
 unfold Sp.inn Sp.Pu Sp.Ny;cases s.a<;>cases s.b<;>simp
theorem A_ {s:Sp}{l:Rat}(h:l∈s.Pu):s.a=false/\l=s.lo:=by
 unfold Sp.Pu at h;cases ha:s.a<;>simp [ha] at h;exact ⟨rfl,h⟩
theorem Gt {s:Sp}{l:Rat}(h:l∈s.Ny):s.b=false/\l=s.hi:=by
 unfold Sp.Ny at h;cases ha:s.b<;>simp [ha] at h;exact ⟨rfl,h⟩
theorem nX {s:Sp}(h:s.emp=false)(ha:s.a=false)(hb:s.b=false):s.lo<s.hi:=by
 rcases Sp.kY.1 h with h|h|h
 ·rw [ha] at h;cases h
 ·rw [hb] at h;cases h
 ·exact h
theorem GN {s:Sp}(h:s.emp=false)(E:List Rat):∃t,s.inn t/\t∉E:=by
 obtain ⟨t,a,b,c⟩:=De E s.Pu s.Ny (fun l d u hu=>by
  obtain ⟨e,rfl⟩:=A_ d;obtain ⟨hb,rfl⟩:=Gt hu;exact nX h e hb)
 exact ⟨t,uu.2 ⟨a,b⟩,c⟩
theorem xz.tail {s:Sp}{r:List Sp}(h:xz (s::r)):xz r:=⟨fun x a=>h.1 x (by simp [a]),(List.pairwise_cons.1 h.2).2⟩
theorem xz.IM {s:Sp}{r:List Sp}(h:xz (s::r)){x:Sp}(hx:x∈r):s.IM x:=(List.pairwise_cons.1 h.2).1 x hx
theorem Be {s:Sp}{r:List Sp}(h:xz (s::r))(ha:s.a=false){t:Rat}(ht:t<=s.lo):¬rH (s::r) t:=by
 rintro ⟨x,c,b,d⟩;rcases List.mem_cons.1 c with rfl|c
 ·rcases b with b|b
  ·rw [ha] at b;cases b
  ·grind
 ·obtain ⟨b1,b2,b3⟩:=h.IM c;have:=nX (h.1 s (by simp)).2 ha b1;rcases b with b|b
  ·rw [b2] at b;cases b
  ·grind
def nl:List Sp->List Rat
 | []=>[]
 | x::_=>[x.lo]
theorem GG {s:Sp}{r:List Sp}(h:xz (s::r))(hb:s.b=false){t:Rat}(h1:s.hi<=t)(h2:∀x∈nl r,t<=x):¬rH (s::r) t:=by
 rintro ⟨x,c,d,a⟩;rcases List.mem_cons.1 c with rfl|c
 ·rcases a with a|a
  ·rw [hb] at a;cases a
  ·grind
 ·cases r with
  | nil=>cases c
  | cons y r=>exact Be h.tail (h.IM (by simp)).2.1 (h2 y.lo (by simp [nl])) ⟨x,c,d,a⟩
set_option linter.unusedSectionVars false
section
variable {s s':Sp} {r r':List Sp} {E:List Rat} (h:xz (s :: r)) (h':xz (s' :: r')) (e:∀t,t ∉ E->rH (s :: r) t->rH (s' :: r') t)
include h h' e
theorem SU (ha:s.a=true):s'.a=true:=by
 cases ha':s'.a with
 | true=>rfl
 | false=>
  obtain ⟨t,-,c,d⟩:=De E [] (s'.lo::s.Ny) (fun l b=>by cases b);have:=e t d ⟨s,by simp,.inl ha,(uu.2 ⟨(fun l b=>by unfold Sp.Pu at b;rw [if_pos ha] at b;cases b),fun u hu=>c u (by simp [hu])⟩).2⟩;exact absurd this (Be h' ha' (by have:=c s'.lo (by simp);grind))
theorem N9 (ha:s.a=false)(ha':s'.a=false):¬s.lo<s'.lo:=by
 intro b
 obtain ⟨t,f,d,g⟩:=De E [s.lo] (s'.lo::s.Ny) (fun l c u hu=>by
  obtain rfl:l=s.lo:=by simpa using c
  rcases List.mem_cons.1 hu with rfl|hu
  ·exact b
  ·obtain ⟨i,rfl⟩:=Gt hu;exact nX (h.1 s (by simp)).2 ha i)
 have:=e t g ⟨s,by simp,uu.2 ⟨(fun l c=>by obtain ⟨-,rfl⟩:=A_ c;exact f _ (by simp)),fun u hu=>d u (by simp [hu])⟩⟩;exact absurd this (Be h' ha' (by have:=d s'.lo (by simp);grind))
theorem SW (h0 : s.a = false → s'.a = false ∧ s.lo = s'.lo)(hb : s.b = true) : s'.b = true := by
  cases hb' : s'.b with
  | true => rfl
  | false =>
    have d : ∀ u∈nl r', s'.hi<u := fun u hu => by
      cases r' with
      | nil => cases hu
      | cons y r' => obtain rfl : u = y.lo := by simpa [nl] using hu
                     exact (h'.IM (by simp)).2.2
    obtain ⟨t, f, h, i⟩ := De E (s'.hi::s.Pu) (nl r') (fun l c u hu => by
      rcases List.mem_cons.1 c with rfl|c
      · exact d u hu
      · obtain ⟨g, rfl⟩ := A_ c;have := nX (h'.1 s' (by simp)).2 (h0 g).1 hb';have := d u hu;rw [(h0 g).2];grind)
    have := e t i ⟨s, by simp, (uu.2 ⟨(fun l c => f l (by simp [c])), (fun u hu => by unfold Sp.Ny at hu;rw [if_pos hb] at hu;cases hu)⟩ : s.inn t)⟩;exact absurd this (GG h' hb' (by have := f s'.hi (by simp);grind) (fun x j => by have := h x j;grind))
theorem N8 (h0 : s.a = false → s'.a = false ∧ s.lo = s'.lo)(hb : s.b = false)(hb' : s'.b = false) : ¬s'.hi<s.hi := by
  intro c
  have g : ∀ u∈nl r', s'.hi<u := fun u hu => by
    cases r' with
    | nil => cases hu
    | cons y r' => obtain rfl : u = y.lo := by simpa [nl] using hu
                   exact (h'.IM (by simp)).2.2
  obtain ⟨t, h, f, i⟩ := De E [s'.hi] (s.hi::nl r') (fun l j u hu => by
    obtain rfl : l = s'.hi := by simpa using j
    rcases List.mem_cons.1 hu with rfl|hu
    · exact c
    · exact g u hu)
  have m := h s'.hi (by simp)
  have d : s.inn t := by
    refine ⟨?_, .inr (f s.hi (by simp))⟩
    cases ha : s.a with
    | true => exact .inl rfl
    | false =>
      have := nX (h'.1 s' (by simp)).2 (h0 ha).1 hb';rw [(h0 ha).2];exact .inr (by grind)
  exact absurd (e t i ⟨s, by simp, d⟩) (GG h' hb' (by grind) (fun x k => by have := f x (by simp [k]);grind))
end
theorem Sp.ext' {s t:Sp}(h1:s.a=t.a)(h2:s.b=t.b)(h3:s.lo=t.lo)(h4:s.hi=t.hi):s=t:=by
 cases s;cases t;simp at *;exact ⟨h3,h4,h1,h2⟩
theorem Fy {E:List Rat}:∀{xs ys:List Sp},xz xs->xz ys->(∀t,t∉E->(rH xs t↔rH ys t))->xs=ys:=by
 intro xs
 induction xs with
 | nil=>
  intro ys _ f e
  cases ys with
  | nil=>rfl
  | cons s r=>
   obtain ⟨t,c,i⟩:=GN (f.1 s (by simp)).2 E;obtain ⟨x,d,-⟩:=(e t i).2 ⟨s,by simp,c⟩;cases d
 | cons s r ih=>
  intro ys d f e
  cases ys with
  | nil=>
   obtain ⟨t,c,i⟩:=GN (d.1 s (by simp)).2 E;obtain ⟨x,d,-⟩:=(e t i).1 ⟨s,by simp,c⟩;cases d
  | cons s' r'=>
   have l:=fun t j=>(e t j).1;have n:=fun t j=>(e t j).2
   have beq:∀{a b:Bool},(a=true->b=true)->(b=true->a=true)->a=b:=fun {a b} c i=>by
    cases a<;>cases b<;>simp at c i ⊢
   have g:s.a=s'.a:=beq (SU d f l) (SU f d n)
   have w:s.a=false->s.lo=s'.lo:=fun c=>by
    have A:=N9 d f l c (g▸c);have B:=N9 f d n (g▸c) c;grind
   have y:s.a=false->s'.a=false/\s.lo=s'.lo:=fun h=>⟨g▸h,w h⟩;have o:s'.a=false->s.a=false/\s'.lo=s.lo:=fun h=>⟨g.symm▸h,(w (g.symm▸h)).symm⟩;have u:s.b=s'.b:=beq (SW d f l y) (SW f d n o)
   have C:s.b=false->s.hi=s'.hi:=fun c=>by
    have A:=N8 d f l y c (u▸c);have B:=N8 f d n o (u▸c) c;grind
   have gs:=(d.1 s (by simp)).1;have p:=(f.1 s' (by simp)).1
   have es:s=s':=by
    refine Sp.ext' g u ?_ ?_
    ·cases c:s.a with
     | false=>exact w c
     | true=>rw [gs.1 c,p.1 (g▸c)]
    ·cases c:s.b with
     | false=>exact C c
     | true=>rw [gs.2 c,p.2 (u▸c)]
   subst es
   have z:∀{q:List Sp} {t:Rat},xz (s::q)->rH q t->¬s.inn t:=by
    rintro q t D ⟨x,d,c,i⟩ ⟨v,k⟩;obtain ⟨b1,b2,b3⟩:=D.IM d;rw [b1] at k;rw [b2] at c;simp at k c;grind
   rw [ih d.tail f.tail (fun t j=>⟨fun m=>?_,fun m=>?_⟩)]
   ·obtain ⟨x,hm,hi⟩:=l t j (by obtain ⟨x,v,k⟩:=m;exact ⟨x,by simp [v],k⟩);rcases List.mem_cons.1 hm with rfl|hm
    ·exact absurd hi (z d m)
    ·exact ⟨x,hm,hi⟩
   ·obtain ⟨x,hm,hi⟩:=n t j (by obtain ⟨x,v,k⟩:=m;exact ⟨x,by simp [v],k⟩);rcases List.mem_cons.1 hm with rfl|hm
    ·exact absurd hi (z f m)
    ·exact ⟨x,hm,hi⟩
end Go.Proofs.Tryz
namespace Go.Eng
theorem uG (a:Addr)(m n:Nat):(a.add m).add n=a.add (m+n):=by
 unfold Addr.add;by_cases b:m=0
 ·subst b;simp
 ·by_cases c:n=0
  ·subst c;simp [b]
  ·rw [if_neg b,if_neg c,if_neg (by omega)];simp only [Nat.add_assoc]
variable {α:Type} {sz:Nat} {R:View->Value->α->Prop} {V V':View}
structure Row (sz:Nat) (R:View->Value->α->Prop) (V:View) (vs:List Value) (al:List α):Prop where
 at_:∀(i:Nat)(h:i<al.length),∃xs:List Value,xs.length=sz/\R V (.agg xs.toArray) al[i]/\∀j x,xs[j]?=some x->vs[i*sz+j]?=some x
structure dR (sz:Nat) (R:View->Value->α->Prop) (V:View) (p:OA) (n:Nat) (al:List α):Prop where
 len:n=al.length
 at_:∀(i:Nat)(h:i<al.length),∃ad,ah p (i*sz)=some ad/\∃xs:List Value,xs.length=sz/\R V (.agg xs.toArray) al[i]/\∀j x,xs[j]?=some x->V.at (ad.add j) x
theorem Row.nil {vs:List Value}:Row sz R V vs []:=⟨fun i h=>absurd h (Nat.not_lt_zero i)⟩
theorem dR.nil {p:OA}:dR sz R V p 0 []:=⟨rfl,fun i h=>absurd h (Nat.not_lt_zero i)⟩
theorem Row.le {vs:List Value}{al:List α}(h:Row sz R V vs al)(m:∀v a,R V v a->R V' v a):Row sz R V' vs al:=
 ⟨fun i b=>by obtain ⟨xs,c,d,e⟩:=h.at_ i b;exact ⟨xs,c,m _ _ d,e⟩⟩
theorem dR.le {p:OA}{n:Nat}{al:List α}(h:dR sz R V p n al)(l:V.Le V')(m:∀v a,R V v a->R V' v a):dR sz R V' p n al:=
 ⟨h.len,fun i b=>by obtain ⟨c,d,xs,e,f,g⟩:=h.at_ i b;exact ⟨c,d,xs,e,m _ _ f,fun j x k=>l.at (g j x k)⟩⟩
theorem Row.gF {vs:List Value}{al:List α}(h:Row sz R V vs al)(hs:0<sz):al.length*sz<=vs.length:=by
 by_cases a:al.length=0
 ·rw [a];omega
 ·obtain ⟨xs,d,-,b⟩:=h.at_ (al.length-1) (by omega);have c:sz-1<xs.length:=by omega
  have:=(List.getElem?_eq_some_iff.1 (b (sz-1) _ (List.getElem?_eq_getElem c))).1
  have e:al.length*sz=(al.length-1)*sz+sz:=by
   obtain ⟨m,hm⟩:∃m,al.length=m+1:=⟨al.length-1,by omega⟩;rw [hm,Nat.add_sub_cancel,Nat.succ_mul]
  omega
theorem Row.snoc {vs:List Value}{al:List α}(h:Row sz R V vs al){xs sp:List Value}{a:α}(hx:xs.length=sz)(ha:R V (.agg xs.toArray) a)(hs:0<sz) :
  Row sz R V (vs.take (al.length*sz)++xs++sp) (al++[a]):=by
 have p:=h.gF hs;have g:(vs.take (al.length*sz)).length=al.length*sz:=by rw [List.length_take];omega
 refine ⟨fun i k=>?_⟩;rw [List.length_append,List.length_singleton] at k;by_cases e:i=al.length
 ·subst e;refine ⟨xs,hx,by rw [List.getElem_append_right (Nat.le_refl _)];simpa using ha,fun j x c=>?_⟩;have d:=(List.getElem?_eq_some_iff.1 c).1;rw [List.append_assoc,List.getElem?_append_right (by rw [g];omega),g,Nat.add_sub_cancel_left,List.getElem?_append_left d];exact c
 ·have b:i<al.length:=by omega
  obtain ⟨l,m,n,o⟩:=h.at_ i b;refine ⟨l,m,by rw [List.getElem_append_left b];exact n,fun j x c=>?_⟩;have d:=(List.getElem?_eq_some_iff.1 c).1
  have f:i*sz+j<al.length*sz:=by
   have:(i+1)*sz<=al.length*sz:=Nat.mul_le_mul_right _ b;rw [Nat.succ_mul] at this;omega
  rw [List.append_assoc,List.getElem?_append_left (by rw [g];exact f),List.getElem?_take,if_pos f];exact o j x c
theorem dR.oM {bk:Nat}{ty:TypeId}{m:Nat×Nat}{vs:List Value}{al:List α}(hb:V.bw bk (.cells vs.toArray ty m))(h:Row sz R V vs al):dR sz R V (some ⟨bk,0,none⟩) al.length al:=by
 refine ⟨rfl,fun i a=>?_⟩;obtain ⟨xs,b,c,d⟩:=h.at_ i a;refine ⟨⟨bk,i*sz,none⟩,by simp [ah,add_zero'],xs,b,c,fun j x f=>?_⟩;have e:(⟨bk,i*sz,none⟩:Addr).add j=⟨bk,i*sz+j,none⟩:=by rw [←add_zero',uG,add_zero']
 rw [e];exact fS hb (d j x f)
theorem dR.eh {bk c:Nat}{ty:TypeId}{m:Nat×Nat}{vs:List Value}{al:List α}(hb:vs≠[]->V.bw bk (.cells vs.toArray ty m))(h:Row sz R V vs al)(hs:0<sz)(hc:al.length<=c):dR sz R V (mA bk c) al.length al:=by
 cases al with
 | nil=>exact dR.nil
 | cons a r=>
  have b:vs≠[]:=fun e=>by
   have:=h.gF hs;rw [e,List.length_cons,Nat.succ_mul] at this;simp at this;omega
  have:mA bk c=some ⟨bk,0,none⟩:=by unfold mA;rw [if_neg];rw [List.length_cons] at hc;omega
  rw [this];exact dR.oM (hb b) h
end Go.Eng
namespace Go.Proofs.Tryz
open Go.Eng Go.Big
structure GR {α:Type} (sz:Nat) (R:View->Value->α->Prop) (V:View) (n c:Nat) (vs:List Value) (l:List α):Prop where
 len:n=l.length
 le:n<=c
 cap:c*sz<=vs.length
 row:Row sz R V vs l
theorem GR.nil {α:Type}{sz:Nat}{R:View->Value->α->Prop}{V:View}:GR sz R V 0 0 [] []:=⟨rfl,Nat.le_refl _,by simp,Row.nil⟩
theorem GR.mono {α:Type}{sz:Nat}{R:View->Value->α->Prop}{V V':View}{n c:Nat}{vs:List Value}{l:List α}(h:GR sz R V n c vs l)(m:∀v a,R V v a->R V' v a):GR sz R V' n c vs l:=⟨h.len,h.le,h.cap,h.row.le m⟩
theorem GR.snoc {α:Type}{sz:Nat}{R:View->Value->α->Prop}{V:View}{n c:Nat}{vs:List Value}{l:List α}(h:GR sz R V n c vs l){xs:List Value}{a:α}(hx:xs.length=sz)(ha:R V (.agg xs.toArray) a)(h0:0<sz){sp:List Value}{c':Nat}(h1:n+1<=c')(h2:c'*sz<=(n+1)*sz+sp.length) :
  GR sz R V (n+1) c' (vs.take (n*sz)++xs++sp) (l++[a]):=by
 have b:=h.len;have e:=h.cap;have f:n*sz<=c*sz:=Nat.mul_le_mul_right _ h.le;refine ⟨by rw [List.length_append,b];rfl,h1,?_,?_⟩
 ·have d:(vs.take (n*sz)).length=n*sz:=by rw [List.length_take];omega
  rw [List.length_append,List.length_append,d,hx];rw [Nat.succ_mul] at h2;exact h2
 ·have:=h.row.snoc (sp:=sp) hx ha h0;rw [←b] at this;exact this
theorem row_one {α:Type}{sz:Nat}{R:View->Value->α->Prop}{V:View}{xs:List Value}{a:α}(hx:xs.length=sz)(ha:R V (.agg xs.toArray) a):Row sz R V xs [a]:=by
 refine ⟨fun i b=>?_⟩;obtain rfl:i=0:=by simpa using b
 exact ⟨xs,hx,ha,fun j x c=>by rw [Nat.zero_mul,Nat.zero_add];exact c⟩
theorem FC {α:Type}{sz:Nat}{R:View->Value->α->Prop}{V:View}{vs:List Value}{ls:List α}(h:Row sz R V vs ls){k:Nat}(hk:k<=ls.length){xs sp:List Value}{a:α}(hx:xs.length=sz)(ha:R V (.agg xs.toArray) a)(hs:0<sz) :
  Row sz R V (vs.take (k*sz)++(xs++(vs.take (ls.length*sz)).drop (k*sz))++sp) (ls.take k++a::ls.drop k):=by
 have v:=h.gF hs;have q:k*sz<=ls.length*sz:=Nat.mul_le_mul_right _ hk;have t1:(vs.take (k*sz)).length=k*sz:=by rw [List.length_take];omega
 have t2:((vs.take (ls.length*sz)).drop (k*sz)).length=ls.length*sz-k*sz:=by rw [List.length_drop,List.length_take];omega
 have g:(ls.take k).length=k:=by rw [List.length_take];omega
 refine ⟨fun i r=>?_⟩;rw [List.append_assoc];by_cases s:i<k
 ·have c:i<ls.length:=by omega
  obtain ⟨l,n,o,p⟩:=h.at_ i c;have e:(ls.take k++a::ls.drop k)[i]=ls[i]:=by rw [List.getElem_append_left (by omega),List.getElem_take]
  refine ⟨l,n,by rw [e];exact o,fun j x b=>?_⟩;have d:=(List.getElem?_eq_some_iff.1 b).1
  have f:i*sz+j<k*sz:=by
   have:(i+1)*sz<=k*sz:=Nat.mul_le_mul_right _ s;rw [Nat.succ_mul] at this;omega
  rw [List.getElem?_append_left (by omega),List.getElem?_take,if_pos f];exact p j x b
 ·by_cases t:i=k
  ·subst t
   have e:(ls.take i++a::ls.drop i)[i]=a:=by
    rw [List.getElem_append_right (by omega)];simp [g]
   refine ⟨xs,hx,by rw [e];exact ha,fun j x b=>?_⟩;have d:=(List.getElem?_eq_some_iff.1 b).1;rw [List.getElem?_append_right (by omega),t1,Nat.add_sub_cancel_left,List.append_assoc,List.getElem?_append_left d];exact b
  ·have c:i-1<ls.length:=by
    rw [List.length_append,g,List.length_cons,List.length_drop] at r;omega
   obtain ⟨l,n,o,p⟩:=h.at_ (i-1) c
   have e:(ls.take k++a::ls.drop k)[i]=ls[i-1]:=by
    rw [List.getElem_append_right (by omega)];obtain ⟨m,hm⟩:∃m,i=k+(m+1):=⟨i-k-1,by omega⟩;subst hm;simp only [g,Nat.add_sub_cancel_left,List.getElem_cons_succ,List.getElem_drop];congr 1
   refine ⟨l,n,by rw [e];exact o,fun j x b=>?_⟩;have d:=(List.getElem?_eq_some_iff.1 b).1;obtain ⟨m,hm⟩:∃m,i=k+1+m:=⟨i-k-1,by omega⟩;subst hm;have w:(k+1+m)*sz=k*sz+sz+m*sz:=by rw [Nat.add_mul,Nat.add_mul,Nat.one_mul]
   have u:(k+1+m-1)*sz=k*sz+m*sz:=by rw [show k+1+m-1=k+m by omega,Nat.add_mul]
   have:=p j x b;rw [u] at this
   have f:k*sz+m*sz+j<ls.length*sz:=by
    have:(k+m+1)*sz<=ls.length*sz:=Nat.mul_le_mul_right _ (by omega);rw [Nat.add_mul,Nat.add_mul,Nat.one_mul] at this;omega
   rw [List.getElem?_append_right (by omega),t1,List.append_assoc,List.getElem?_append_right (by omega),hx,List.getElem?_append_left (by omega),List.getElem?_drop,List.getElem?_take,if_pos (by omega)];rw [show k*sz+((k+1+m)*sz+j-k*sz-sz)=k*sz+m*sz+j by omega];exact this
theorem z_ {α:Type}{sz:Nat}{R:View->Value->α->Prop}{V:View}{p:OA}{n:Nat}{ls:List α}(h:dR sz R V p n ls)(hs:0<sz):∃xs:List Value,V.sl p xs/\xs.length=ls.length*sz/\Row sz R V xs ls:=by
 have step:∀k,k<=ls.length->∃xs:List Value,V.sl p xs/\xs.length=k*sz/\Row sz R V xs (ls.take k):=by
  intro k
  induction k with
  | zero=>exact fun _=>⟨[],fun i v b=>by simp at b,by simp,by rw [List.take_zero];exact Row.nil⟩
  | succ k ih=>
   intro s;obtain ⟨xs,f,d,e⟩:=ih (by omega);obtain ⟨l,g,m,j,o,q⟩:=h.at_ k (by omega);have r:(ls.take k).length=k:=by rw [List.length_take];omega
   refine ⟨xs++m,fun i v b=>?_,by rw [List.length_append,d,j,Nat.succ_mul],?_⟩
   ·by_cases c:i<xs.length
    ·rw [List.getElem?_append_left c] at b;exact f i v b
    ·rw [List.getElem?_append_right (by omega)] at b
     cases p with
     | none=>cases g
     | some a=>
      obtain rfl:=Option.some.inj (show some (a.add (k*sz))=some l from g);have:=q _ v b;rw [uG,d] at this;rw [show k*sz+(i-k*sz)=i by omega] at this;exact ⟨a,rfl,this⟩
   ·have:=e.snoc (sp:=[]) j o hs;rw [r,List.append_nil,List.take_of_length_le (by omega)] at this;rw [List.take_add_one,List.getElem?_eq_getElem (by omega)];exact this
 obtain ⟨xs,f,d,e⟩:=step ls.length (Nat.le_refl _);rw [List.take_length] at e;exact ⟨xs,f,d,e⟩
theorem FB {α:Type}{sz:Nat}{R:View->Value->α->Prop}{V:View}{vs xs sp:List Value}{ls ms:List α}(h:Row sz R V vs ls)(h':Row sz R V xs ms)(hs:0<sz):Row sz R V (vs.take (ls.length*sz)++xs++sp) (ls++ms):=by
 have q:=h.gF hs;have o:=h'.gF hs;have n:(vs.take (ls.length*sz)).length=ls.length*sz:=by rw [List.length_take];omega
 refine ⟨fun i p=>?_⟩;by_cases c:i<ls.length
 ·obtain ⟨d,f,g,k⟩:=h.at_ i c;refine ⟨d,f,by rw [List.getElem_append_left c];exact g,fun j x a=>?_⟩;have l:=(List.getElem?_eq_some_iff.1 a).1
  have b:i*sz+j<ls.length*sz:=by
   have:(i+1)*sz<=ls.length*sz:=Nat.mul_le_mul_right _ c;rw [Nat.succ_mul] at this;omega
  rw [List.append_assoc,List.getElem?_append_left (by omega),List.getElem?_take,if_pos b];exact k j x a
 ·rw [List.length_append] at p;obtain ⟨m,rfl⟩:∃m,i=ls.length+m:=⟨i-ls.length,by omega⟩;have hm:m<ms.length:=by omega
  obtain ⟨d,f,g,k⟩:=h'.at_ m hm;refine ⟨d,f,?_,fun j x a=>?_⟩
  ·have e:(ls++ms)[ls.length+m]=ms[m]:=by rw [List.getElem_append_right (by omega)];simp
   rw [e];exact g
  ·have l:=(List.getElem?_eq_some_iff.1 a).1
   have b:m*sz+j<xs.length:=by
    have:(m+1)*sz<=ms.length*sz:=Nat.mul_le_mul_right _ hm;rw [Nat.succ_mul] at this;omega
   rw [List.append_assoc,List.getElem?_append_right (by rw [n,Nat.add_mul];omega),n,Nat.add_mul,List.getElem?_append_left (by omega)];rw [show ls.length*sz+m*sz+j-ls.length*sz=m*sz+j by omega];exact k j x a
theorem Br {α:Type}{sz:Nat}{R:View->Value->α->Prop}{V:View}{vs:List Value}{al:List α}(h:Row sz R V vs al)(hs:0<sz)(hc:∀xs a,R V (.agg (List.toArray xs)) a->∀v∈xs,v.oneCell'=true){m:Nat}(hm:m<al.length*sz){v:Value}(hv:vs[m]?=some v):v.oneCell'=true:=by
 have d:m / sz<al.length:=Nat.div_lt_of_lt_mul (by rw [Nat.mul_comm];exact hm);obtain ⟨xs,e,f,c⟩:=h.at_ (m / sz) d;have b:m%sz<xs.length:=by rw [e];exact Nat.mod_lt _ hs
 have g:m=m / sz*sz+m%sz:=by rw [Nat.mul_comm];exact (Nat.div_add_mod m sz).symm
 have:=c (m%sz) _ (List.getElem?_eq_getElem b);rw [←g,hv] at this;obtain rfl:=Option.some.inj this;exact hc xs _ f _ (List.getElem_mem b)
theorem A4 {α:Type}{sz:Nat}{R:View->Value->α->Prop}{V:View}{w1 w2:Nat}{us:List Value}{O:List α}(hg:GR sz R V w1 w2 us O)(hs:0<sz)(one:∀xs a,R V (.agg (List.toArray xs)) a->∀v∈xs,v.oneCell'=true){bk:Nat}{ty:TypeId}{m:Nat×Nat}(hb:us≠[]->V.bw bk (.cells us.toArray ty m))
  {es:List Value}{x:α}(he:es.length=sz)(hx:R V (.agg es.toArray) x){j:Nat}(B2:j<=w1) :
  ∃xs ys:List Value,V.sl (kx (mA bk w2) w2 j sz) xs/\xs.length=(w1-j)*sz/\(∀v∈xs,v.oneCell'=true)/\V.sl (mA bk w2) ys/\ys.length=j*sz/\((mA bk w2).isNone=true->j=0) /\
   (∀sp:List Value,aM (es.take (1*sz)++xs++sp) 0 ((1+(w1-j))*sz)=es++xs)/\(es++xs).length / sz=1+(w1-j)/\(es++xs).length=(1+(w1-j))*sz/\(∀v∈es++xs,v.oneCell'=true) /\
   ∀(sp:List Value)(c':Nat),j+(1+(w1-j))<=c'->c'*sz<=(j+(1+(w1-j)))*sz+sp.length->GR sz R V (j+(1+(w1-j))) c' (ys++(es++xs)++sp) (O.take j++x::O.drop j):=by
 have n:=hg.len;have s:=hg.le;have o:=hg.cap;have p:=hg.row;have A:w1*sz<=w2*sz:=Nat.mul_le_mul_right _ s;have B:j*sz<=w1*sz:=Nat.mul_le_mul_right _ B2;have C:(w1-j)*sz=w1*sz-j*sz:=Nat.sub_mul ..
 have t:(1+(w1-j))*sz=sz+(w1-j)*sz:=by rw [Nat.add_mul,Nat.one_mul]
 have t1:(us.take (j*sz)).length=j*sz:=by rw [List.length_take];omega
 have t2:((us.take (w1*sz)).drop (j*sz)).length=(w1-j)*sz:=by rw [List.length_drop,List.length_take];omega
 have q:∀v∈(us.take (w1*sz)).drop (j*sz),v.oneCell'=true:=by
  intro v g;obtain ⟨k,hm,e⟩:=List.mem_iff_getElem.1 (List.mem_of_mem_drop g);have d:k<w1*sz:=by rw [List.length_take] at hm;omega
  have:=List.getElem?_eq_getElem hm;rw [e,List.getElem?_take,if_pos d] at this;exact Br p hs one (by rw [←n];exact d) this
 have f:0<w2->us≠[]:=fun hw e=>by
  have:0<w2*sz:=Nat.mul_pos hw hs;rw [e] at o;simp at o;omega
 have i:0<w2->mA bk w2=some ⟨bk,0,none⟩:=fun hw=>by unfold mA;rw [if_neg (by omega)]
 have at_:∀k v,0<w2->us[k]?=some v->V.at ⟨bk,k,none⟩ v:=fun k v hm g=>fS (hb (f hm)) g;have u:∀v∈es,v.oneCell'=true:=one _ _ hx;have b:(es++(us.take (w1*sz)).drop (j*sz)).length=(1+(w1-j))*sz:=by rw [List.length_append,t2,he,t]
 refine ⟨(us.take (w1*sz)).drop (j*sz),us.take (j*sz),?_,t2,q,?_,t1,?_,fun sp=>?_,by rw [b];exact Nat.mul_div_cancel _ hs,b,fun v w=>(List.mem_append.1 w).elim (u v) (q v),fun sp c' y D=>?_⟩
 ·intro k v hm;have c:=(List.getElem?_eq_some_iff.1 hm).1;rw [t2] at c;rw [List.getElem?_drop,List.getElem?_take,if_pos (by omega)] at hm
  have E:j<w2:=by
   rcases Nat.lt_or_ge j w2 with h|h
   ·exact h
   ·have:w1-j=0:=by omega
    rw [this,Nat.zero_mul] at c;omega
  have:=at_ (j*sz+k) v (by omega) hm;refine ⟨⟨bk,j*sz,none⟩,?_,?_⟩
  ·unfold kx;rw [if_neg (by omega),i (by omega)];simp [ah,add_zero']
  ·rw [←add_zero',uG,add_zero'];exact this
 ·intro k v hm;have c:=(List.getElem?_eq_some_iff.1 hm).1;rw [t1] at c;rw [List.getElem?_take,if_pos c] at hm
  have hw:0<w2:=by
   rcases Nat.eq_zero_or_pos w2 with h|h
   ·have:j=0:=by omega
    rw [this,Nat.zero_mul] at c;omega
   ·exact h
  exact ⟨⟨bk,0,none⟩,i hw,by rw [add_zero'];exact at_ k v hw hm⟩
 ·intro r;by_cases hw:0<w2
  ·rw [i hw] at r;cases r
  ·omega
 ·have z:es.take (1*sz)=es:=by rw [Nat.one_mul,←he,List.take_length]
  rw [z];unfold aM;rw [Nat.ble_eq_true_of_le (by rw [List.length_append,b];omega),cond_true,List.drop_zero,List.take_append_of_le_length (by rw [b];exact Nat.le_refl _),List.take_of_length_le (by rw [b];exact Nat.le_refl _)]
 ·have l:j<=O.length:=by omega
  refine ⟨by rw [List.length_append,List.length_take,List.length_cons,List.length_drop];omega,y,?_,?_⟩
  ·have F:(j+(1+(w1-j)))*sz=j*sz+(1+(w1-j))*sz:=Nat.add_mul ..
   rw [List.length_append,List.length_append,t1,b];omega
  ·rw [n];exact FC p l he hx hs
end Go.Proofs.Tryz
namespace Go.Proofs.Tryz
open Go.Eng
set_option maxRecDepth 100000
end Go.Proofs.Tryz
namespace Go.Proofs.Tryz
open Go.Eng Go.Big
def Th (V:View)(v:Value)(b1:Bool)(xs:List Nat)(b2:Bool)(ys:List Nat)(b3:Bool)(zs:List Nat):Prop:=∃p n c q m e s i j,v=.agg #[.bool b1,.slice p n c,.bool b2,.slice q m e,.bool b3,.slice s i j]/\RD V p n c xs/\RD V q m e ys/\RD V s i j zs
theorem Th.le {V V':View}{v:Value}{b1:Bool}{xs:List Nat}{b2:Bool}{ys:List Nat}{b3:Bool}{zs:List Nat}(h:Th V v b1 xs b2 ys b3 zs)(l:V.Le V'):Th V' v b1 xs b2 ys b3 zs:=by
 obtain ⟨p,n,c,q,m,e,s,i,j,rfl,a,b,d⟩:=h;exact ⟨_,_,_,_,_,_,_,_,_,rfl,a.le l,b.le l,d.le l⟩
def YL (b1:Bool)(xs:List Nat)(b2:Bool)(ys:List Nat)(b3:Bool)(zs:List Nat):L3:=(aZ b1 xs,aZ b2 ys,aZ b3 zs)
structure FW where
 b1:Bool
 xs:List Nat
 b2:Bool
 ys:List Nat
 b3:Bool
 zs:List Nat
 c1:Bool
 us:List Nat
 vs:List Nat
 c2:Bool
 ws:List Nat
 ts:List Nat
 na:Bool
 nb:Bool
def FW.ln (f:FW):L3:=YL f.b1 f.xs f.b2 f.ys f.b3 f.zs
def FW.sp (f:FW):Sp:=Ln f.c1 f.us f.vs f.c2 f.ws f.ts f.na f.nb
def FW.ok (f:FW):Bool:=vW f.b1 f.xs f.b2 f.ys f.b3 f.zs&&okW f.c1 f.us f.vs f.c2 f.ws f.ts f.na f.nb
structure FW.short (f:FW):Prop where
 x:f.xs.length<=1000000
 y:f.ys.length<=1000000
 z:f.zs.length<=1000000
 u:f.us.length<=1000000
 v:f.vs.length<=1000000
 w:f.ws.length<=1000000
 t:f.ts.length<=1000000
def Tg (V:View)(v:Value)(f:FW):Prop:=∃p1 n1 d1 p2 n2 d2 p3 n3 d3 p n c p' n' c' q m e q' m' e',
 v=.agg #[.bool f.b1,.slice p1 n1 d1,.bool f.b2,.slice p2 n2 d2,.bool f.b3,.slice p3 n3 d3,.bool f.c1,.slice p n c,.slice p' n' c',.bool f.c2,.slice q m e,.slice q' m' e',.bool f.na,.bool f.nb] /\
 Th V (.agg #[.bool f.b1,.slice p1 n1 d1,.bool f.b2,.slice p2 n2 d2,.bool f.b3,.slice p3 n3 d3]) f.b1 f.xs f.b2 f.ys f.b3 f.zs /\
 Qr V (.agg #[.bool f.c1,.slice p n c,.slice p' n' c',.bool f.c2,.slice q m e,.slice q' m' e',.bool f.na,.bool f.nb]) f.c1 f.us f.vs f.c2 f.ws f.ts f.na f.nb
theorem Tg.le {V V':View}{v:Value}{f:FW}(h:Tg V v f)(l:V.Le V'):Tg V' v f:=by
 obtain ⟨d,g,d1,i,j,d2,k,o,d3,p,n,c,r,s,t,q,m,e,u,w,x,rfl,a,b⟩:=h;exact ⟨_,_,_,_,_,_,_,_,_,_,_,_,_,_,_,_,_,_,_,_,_,rfl,a.le l,b.le l⟩
end Go.Proofs.Tryz
