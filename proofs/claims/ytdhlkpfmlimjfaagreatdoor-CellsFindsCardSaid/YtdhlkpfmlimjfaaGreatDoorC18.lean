import Derived.Test.YtdhlkpfmlimjfaaGreatDoorC17
import Derived.Test.YtdhlkpfmlimjfaaGreatDoorC15
import Derived.Test.YtdhlkpfmlimjfaaGreatDoorC9
import Derived.Test.YtdhlkpfmlimjfaaGreatDoorC10
import Derived.Test.YtdhlkpfmlimjfaaGreatDoorC13
import Derived.Test.YtdhlkpfmlimjfaaGreatDoorC6
import Derived.Test.YtdhlkpfmlimjfaaGreatDoorC14
import Derived.Test.YtdhlkpfmlimjfaaGreatDoorC8
import Derived.Test.YtdhlkpfmlimjfaaGreatDoorC16
set_option linter.unusedVariables false
open Go.IntKind (i64 u64 u32)
namespace Go.Proofs.Tryz
open Go.Eng Go.Big
theorem kD {V:View}{p:OA}{n:Nat}{al:List L3}(h:Lst 6 RLv V p n al){i:Nat}(hi:i<al.length) :
  p.isSome=true/\∃(b1:Bool)(p1:OA)(n1 c1:Nat)(b2:Bool)(p2:OA)(n2 c2:Nat)(b3:Bool)(p3:OA)(n3 c3:Nat)(a:Addr),addrAdd p (i*6)=some a/\V.at (a.add 0) (.bool b1)/\V.at (a.add 1) (.slice p1 n1 c1)/\V.at (a.add 2) (.bool b2)/\V.at (a.add 3) (.slice p2 n2 c2)/\V.at (a.add 4) (.bool b3)/\V.at (a.add 5) (.slice p3 n3 c3) /\
   RLv V (.agg #[.bool b1,.slice p1 n1 c1,.bool b2,.slice p2 n2 c2,.bool b3,.slice p3 n3 c3]) al[i]:=by
 obtain ⟨g,d,xs,j,f,b⟩:=h.at_ i hi;have c:=f;obtain ⟨_,_,_,_,_,_,_,_,_,_,_,_,e⟩:=rlv_shape f;have e:=congrArg Array.toList (Value.agg.inj e);dsimp only at e;subst e;refine ⟨?_,_,_,_,_,_,_,_,_,_,_,_,_,g,d,b 0 _ rfl,b 1 _ rfl,b 2 _ rfl,b 3 _ rfl,b 4 _ rfl,b 5 _ rfl,c⟩
 cases p with
 | none=>cases d
 | some a=>rfl
theorem F5 {l m:L3}{k:Nat}(sl:kX k l)(sm:kX k m):Sz (20*k+20) (Mr l m)/\Sz (20*k+20) (Ms l m):=by
 unfold Mr Ms br;obtain ⟨a,b,c⟩:=sl;obtain ⟨b1,b2,b3⟩:=sm;exact ⟨(Sz.mul ((b.mul b3).sub (c.mul b2)) (dJ ((a.mul b2).sub (b.mul b1)))).mono (by omega),(Sz.mul ((c.mul b1).sub (a.mul b3)) (dJ ((a.mul b2).sub (b.mul b1)))).mono (by omega)⟩
theorem BT {q:L3->Prop}(hq:∀l,q l->q (cV l)){ls:List L3}(h:∀l∈ls,q l):∀l∈dZ ls,q l:=fun l a=>by
 obtain ⟨m,hm,rfl⟩:=List.mem_map.1 ((um ls).2 l |>.1 a);exact hq m (h m hm)
theorem NL {l:L3}(h:Nz l):Nz (cV l):=by
 unfold cV;split
 ·unfold Nz revL at *;intro ⟨a,b⟩;exact h ⟨by simpa using a,by simpa using b⟩
 ·exact h
theorem zL {V:View}{tb:Nat}{lp:OA}{n c:Nat}{at_:Int}(hr:Gd V lp n)(hn:n<=400)(hw:kY V tb lp n c at_)(hx:V.X tb)(h0:0<=at_){q:OA}{t:Tr}(h:RW V q t)(ha:t.All Okb)(hs:t.size<=1000) :
  Acts prog 20 #[.pointer (some ⟨tb,0,none⟩),.pointer q] V fun r V'=>∃(p:Rat×Rat)(at':Int),RP V' r p.1 p.2/\Sz 60000 p.1/\Sz 60000 p.2/\0<=at'/\kY V' tb lp n c at':=by
 have hb:∀l∈dZ t.wZ,Bd l:=BT (fun _ h=>h.can) fun l Z=>(mB ha l Z).2;have hz:∀l∈dZ t.wZ,Nz l:=BT (fun _ h=>NL h) fun l Z=>uX (mB ha l Z).1;have hlen:(dZ t.wZ).length<=1000:=by have:=yA t.wZ;rw [mC] at this;omega
 refine xC tb lp n c at_ q V _ hw hx fun V1 l1=>(wT (h.le l1) ha (by omega)).mono ?_;rintro r V2 l2 ⟨ps,m,e,rfl,hL⟩;generalize dZ t.wZ=L at *;have hm:=hL.len;subst hm;have f:=l1.trans l2
 have any:∀{W W':View} {C:Nat} {a:Int},V.Le W->0<=a->kY W C lp n c a->W.H C->Acts prog 47 #[.pointer (some ⟨C,0,none⟩)] (W.lend [C]) fun r V'=>∃(x y:Rat)(at':Int),RP V' r x y/\Sz 10 x/\Sz 10 y/\0<=at'/\kY V' C lp n c at':=fun {W _ C a} lw a0 hw hh=>
  Kt (V:=W.lend [C]) (hr.le fun b o h=>lw b o h) hn hw ⟨by simp,hh⟩ a0
 refine ⟨_,_,_,rfl,fun g V3 l3 C e1 e2=>(any (W':=V) (f.trans l3) h0 e1 e2).mono ?_,fun g V6 l6 C e1 e2=>?_⟩
 ·rintro r V4 l4 ⟨x,y,at',k,J,K,t0,s⟩;have d:=k;obtain ⟨_,_,_,_,_,_,_,_,_,_,_,_,rfl,-⟩:=k;exact ⟨_,_,_,_,_,_,_,_,_,_,_,_,_,_,rfl,_,_,_,_,s,fun V5 M v=>⟨(x,y),at',d.le fun b o h=>M b o h,J.mono (by omega),K.mono (by omega),t0,v⟩⟩
 have g:0<L.length:=by
  have g:¬((L.length:Nat):Int)=0:=by simpa using g
  omega
 refine (ji (V:=V6.lend [C]) (L.length:Int) (hr.le fun b o h=>l6 b o (f b o h)) hn e1 ⟨by simp,e2⟩ h0 (by omega) (by omega)).mono ?_;rintro r V7 l7 ⟨x,HF,rfl,x0,x1,t1,a6⟩;obtain ⟨i,rfl⟩:∃i:Nat,x=i:=⟨x.toNat,by omega⟩;have hi:i<L.length:=by omega
 have D:V2.Le V7.shut:=fun b o h=>l7 b o (l6 b o h);obtain ⟨is,b1,p1,n1,c1,b2,p2,n2,c2,b3,p3,n3,c3,a,a7,a0,a1,a2,a3,a4,a5,N⟩:=kD (hL.le D fun _ _ g=>RLv.le g D) hi;have w:=(hb _ (List.getElem_mem hi)).szl;have Zo:=hz _ (List.getElem_mem hi);generalize L[i]=A at *;refine ⟨_,rfl,_,_,_,_,a6,is,⟨by omega,by omega⟩,b1,p1,n1,c1,b2,p2,n2,c2,b3,p3,n3,c3,a,a7,a0,a1,a2,a3,a4,a5,fun V8 l8 a8 e3 e4=>(ji (V:=V8.lend [a8]) 3 (hr.le fun b o h=>l8 b o (D b o (f b o h))) hn e3 ⟨by simp,e4⟩ t1 (by omega) (by omega)).mono ?_⟩;rintro r V9 l9 ⟨y,d2,rfl,y0,y1,t2,a9⟩;have T:∀{W:View},V9.shut.Le W->V2.Le W:=fun l b o h=>l b o (l9 b o (l8 b o (D b o h)));have WS:∀{W:View},V9.shut.Le W->V7.shut.Le W:=fun l b o h=>l b o (l9 b o (l8 b o h));refine ⟨_,rfl,_,_,_,_,a9,fun g1 b0 E U v O=>(ji (V:=b0.lend [U]) (L.length:Int) (hr.le fun b o h=>T E b o (f b o h)) hn v ⟨by simp,O⟩ t2 (by omega) (by omega)).mono ?_,fun g1=>⟨fun g2 oo dk U v O=>(Sn (V:=oo.lend [U]) (hr.le fun b o h=>T dk b o (f b o h)) hn v ⟨by simp,O⟩ t2).mono ?_,fun g2 tE fV U v O=>(any (W':=V) (f.trans (T fV)) t2 v O).mono ?_⟩⟩
 ·rintro r P Q ⟨z,F,rfl,z0,z1,t3,G⟩;obtain ⟨j,rfl⟩:∃j:Nat,z=j:=⟨z.toNat,by omega⟩;have hj:j<L.length:=by omega
  have NC:V2.Le P.shut:=fun b o h=>Q b o (T E b o h);obtain ⟨is,b5,T5,b6,b7,b8,T6,TY,b9,c0,T7,TZ,c4,a',S6,c5,c6,X_,c7,c8,Ya,c9⟩:=kD (hL.le NC fun _ _ g=>RLv.le g NC) hj;have R:=(hb _ (List.getElem_mem hj)).szl;generalize L[j]=B at *;have TR:V7.shut.Le P.shut:=fun b o h=>Q b o (WS E b o h);refine ⟨_,rfl,_,_,_,_,G,is,⟨by omega,by omega⟩,b5,T5,b6,b7,b8,T6,TY,b9,c0,T7,TZ,c4,a',S6,c5,c6,X_,c7,c8,Ya,fun d3 I=>(Jr (N.le (TR.trans I)) (c9.le I) w R (by omega)).mono ?_⟩;rintro r d4 d0 ⟨u,rfl,q0,q1⟩;obtain ⟨s1,s2⟩:=F5 w R;by_cases Y:br A B=0
  ·have:=q0 Y;unfold Hz at this;subst this;refine ⟨_,_,_,_,_,_,_,_,_,_,_,_,_,_,_,rfl,fun h=>by simp [Y] at h,fun _ d5 dh d6 S e8=>(any (W':=V) (f.trans (NC.trans (I.trans (d0.trans dh)))) t3 S e8).mono ?_⟩;rintro r j9 cQ ⟨x,y,at',k,J,K,t0,s⟩;have d:=k;obtain ⟨_,_,_,_,_,_,_,_,_,_,_,_,rfl,-⟩:=k;exact ⟨_,_,_,_,_,_,_,_,_,_,_,_,_,_,rfl,_,_,_,_,s,fun V5 M v=>⟨(x,y),at',d.le fun b o h=>M b o h,J.mono (by omega),K.mono (by omega),t0,v⟩⟩
  ·have k:=q1 Y;have d:=k;obtain ⟨_,_,_,_,_,_,_,_,_,_,_,_,rfl,-⟩:=k;refine ⟨_,_,_,_,_,_,_,_,_,_,_,_,_,_,_,rfl,fun _ d7 cO S=>⟨(Mr A B,Ms A B),F,d.le cO,s1.mono (by omega),s2.mono (by omega),t3,S⟩,fun h=>by simp [Y] at h⟩
 ·rintro r se d_ ⟨qq,F,hq,sq,t3,G⟩;have d1:=hq;obtain ⟨_,_,_,_,_,_,rfl⟩:=hq.shape;refine ⟨_,_,_,_,_,_,_,rfl,_,_,_,_,G,fun DB gY=>(QM (N.le fun b o h=>gY b o (d_ b o (WS dk b o h))) (d1.le fun b o h=>gY b o h) Zo w (sq.mono (by omega)) (by omega)).mono ?_⟩;rintro r pZ fN k;have d:=k;obtain ⟨_,_,_,_,_,_,_,_,_,_,_,_,rfl,-⟩:=k;exact ⟨_,_,_,_,_,_,_,_,_,_,_,_,_,_,rfl,fun rf iN S=>⟨(f_ A qq,gy A qq),F,d.le iN,(AG w (sq.mono (by omega))).mono (by omega),(AH w (sq.mono (by omega))).mono (by omega),t3,S⟩⟩
 ·rintro r Ge my ⟨x,y,at',k,J,K,t0,s⟩;have d:=k;obtain ⟨_,_,_,_,_,_,_,_,_,_,_,_,rfl,-⟩:=k;exact ⟨_,_,_,_,_,_,_,_,_,_,_,_,_,_,rfl,_,_,_,_,s,fun V5 M v=>⟨(x,y),at',d.le fun b o h=>M b o h,J.mono (by omega),K.mono (by omega),t0,v⟩⟩
def Ex (p:Rat×Rat):Rat×Rat:=(-p.1,-p.2)
def QN (l:L3):List (Rat×Rat):=[oY (Sec.dirL l),Ex (oY (Sec.dirL l))]
def Jt (M:List L3):List (Rat×Rat):=M.flatMap QN
structure LR (V:View) (n:Nat) (vs:List Value) (l:List (Rat×Rat)):Prop where
 row:Row 6 J7 V vs l
 len:n=l.length
 Pa:l.length<50
theorem LR.le {V V':View}{n:Nat}{vs:List Value}{l:List (Rat×Rat)}(h:LR V n vs l)(e:V.Le V'):LR V' n vs l:=⟨h.row.le fun _ _ g=>J7.le g e,h.len,h.Pa⟩
theorem LR.get {V:View}{n:Nat}{vs:List Value}{l:List (Rat×Rat)}(h:LR V n vs l){k:Nat}(hk:k<l.length):∃(x y:Int)(p:OA)(xb yb:Int)(pb:OA),
  ((0+k*6)+6<=vs.length/\(vs.drop (0+k*6)).take 6=[.int .i64 x,.int .i64 y,.pointer p,.int .i64 xb,.int .i64 yb,.pointer pb])/\J7 V (.agg #[.int .i64 x,.int .i64 y,.pointer p,.int .i64 xb,.int .i64 yb,.pointer pb]) (l.getD k M3):=by
 obtain ⟨xs,-,b,c,f⟩:=h.row.get (d:=M3) hk (by decide);have a:=b;obtain ⟨x,y,p,xb,yb,pb,e⟩:=b.shape;have e:=congrArg Array.toList (Value.agg.inj e);dsimp only at e;subst e;rw [Nat.zero_add];exact ⟨x,y,p,xb,yb,pb,⟨c,f⟩,a⟩
theorem LR.swap {V:View}{n:Nat}{vs:List Value}{l:List (Rat×Rat)}(h:LR V n vs l){i j:Nat}(hi:i<l.length)(hj:j<l.length){x y:Int}{p:OA}{xb yb:Int}{pb:OA}{x' y':Int}{p':OA}{Ob Oc:Int}{pb':OA}
  (h1:J7 V (.agg #[.int .i64 x,.int .i64 y,.pointer p,.int .i64 xb,.int .i64 yb,.pointer pb]) (l.getD i M3))(h2:J7 V (.agg #[.int .i64 x',.int .i64 y',.pointer p',.int .i64 Ob,.int .i64 Oc,.pointer pb']) (l.getD j M3)) :
  (0+i*6)+6<=vs.length/\(0+j*6)+6<=(cI vs (0+i*6) [.int .i64 x',.int .i64 y',.pointer p',.int .i64 Ob,.int .i64 Oc,.pointer pb']).length /\
  LR V n (cI (cI vs (0+i*6) [.int .i64 x',.int .i64 y',.pointer p',.int .i64 Ob,.int .i64 Oc,.pointer pb']) (0+j*6) [.int .i64 x,.int .i64 y,.pointer p,.int .i64 xb,.int .i64 yb,.pointer pb]) (rR M3 l i j):=by
 obtain ⟨-,-,-,a,-⟩:=h.row.get (d:=M3) hi (by decide);obtain ⟨-,-,-,b,-⟩:=h.row.get (d:=M3) hj (by decide);rw [Nat.zero_add,Nat.zero_add];refine ⟨a,by rw [rQ (by exact a)];exact b,h.row.swap hi hj (by decide) rfl rfl h1 h2,by rw [pJ];exact h.len,by rw [pJ];exact h.Pa⟩
def N7 (u w:Rat×Rat):Rat×Rat:=if Sec.cr u w>0 then (u.1+w.1,u.2+w.2) else (-u.2,u.1)
def JB (D:List (Rat×Rat)):List (Rat×Rat):=if D=[] then [(1,0)] else Sec.QS N7 D
theorem Ev (n:Int){d:Nat}(h:d≠0):mkRat n d*((d:Nat):Rat)=(n:Rat):=by
 have a:((d:Nat):Rat)≠0:=by exact_mod_cast h
 rw [Rat.mkRat_eq_div,Rat.div_def];exact Sec.inv_mul a _
theorem Im {p:Rat×Rat}(h:Sec.nz p):gN p.1 p.2>0:=by
 have a:p.1.den*p.2.den≠0:=Nat.mul_ne_zero p.1.den_nz p.2.den_nz;have e:=Ev (Nat.gcd (p.1.num.natAbs*p.2.den) (p.2.num.natAbs*p.1.den):Nat) a
 have b:0<Nat.gcd (p.1.num.natAbs*p.2.den) (p.2.num.natAbs*p.1.den):=by
  apply Nat.pos_of_ne_zero;intro z;rw [Nat.gcd_eq_zero_iff] at z
  have c:p.1=0:=by
   rcases Nat.mul_eq_zero.1 z.1 with e|e
   ·exact Rat.num_eq_zero.1 (by omega)
   ·exact absurd e p.2.den_nz
  have d:p.2=0:=by
   rcases Nat.mul_eq_zero.1 z.2 with e|e
   ·exact Rat.num_eq_zero.1 (by omega)
   ·exact absurd e p.1.den_nz
  unfold Sec.nz at h;rcases h with h|h
  ·exact h c
  ·exact h d
 have d0:((p.1.den*p.2.den:Nat):Rat)>0:=by exact_mod_cast Nat.pos_of_ne_zero a
 have g:(((Nat.gcd (p.1.num.natAbs*p.2.den) (p.2.num.natAbs*p.1.den):Nat):Int):Rat)>0:=by exact_mod_cast b
 show mkRat _ _>0;generalize mkRat ((Nat.gcd (p.1.num.natAbs*p.2.den) (p.2.num.natAbs*p.1.den):Nat):Int) (p.1.den*p.2.den)=q at *;by_cases f:q>0
 ·exact f
 ·have:=Sec.mn (show -q≥0 by grind) (show ((p.1.den*p.2.den:Nat):Rat)≥0 by grind);grind
theorem CF {p:Rat×Rat}(h:Sec.nz p):∃c:Rat,c>0/\oY p=(c*p.1,c*p.2):=
 ⟨(gN p.1 p.2)⁻¹,Rat.inv_pos.2 (Im h),Prod.ext (Rat.mul_comm ..) (Rat.mul_comm ..)⟩
theorem FO {l:L3}(h:¬(l.1=0/\l.2.1=0)):Sec.nz (Sec.dirL l):=by
 unfold Sec.nz Sec.dirL;by_cases e:l.2.1=0
 ·right;intro a;have:(l.1:Rat)=0:=by grind
  exact h ⟨by exact_mod_cast this,e⟩
 ·left;show (l.2.1:Rat)≠0
  exact_mod_cast e
def So (s a:Bool):Int:=if a then 2 else if s then 1 else 0
def Fg (t:Tr)(p:Rat×Rat)(c:Int):Prop:=∀D S,Sec.LP D->Sec.Ri D S->Sec.Oe D (Sec.jR t p)->c=So (Sec.anyS t p S) (Sec.Km t p S)
theorem K6 {q:L3->Prop}{t:Tr}(h:t.All q){p:Rat×Rat}:∀l∈Sec.jR t p,q l:=fun l a=>mB h l (Sec.uP a).2
theorem Lv {u w:Rat×Rat}(h:Sec.cr u w≥0):Sec.Gb u w (N7 u w):=by
 unfold N7;by_cases g:Sec.cr u w>0
 ·rw [if_pos g];exact .inl ⟨g,1,1,by decide,by decide,Prod.ext (by unfold Sec.Kg;grind) (by unfold Sec.Kg;grind)⟩
 ·rw [if_neg g];exact .inr ⟨by grind,1,by decide,Prod.ext (by unfold Sec.Kg Sec.QY;grind) (by unfold Sec.Kg Sec.QY;grind)⟩
theorem He {D:List (Rat×Rat)}(h:Sec.LP D):Sec.Ri D (JB D):=by
 unfold JB;by_cases e:D=[]
 ·rw [if_pos e];exact .inl ⟨e,rfl⟩
 ·rw [if_neg e];exact Sec.Lt h (fun u _ w _ a=>Lv a) e
theorem Lj {M:List L3}(ho:∀l∈M,¬(l.1=0/\l.2.1=0)){m:List (Rat×Rat)}(pm:m.Perm (Jt M))(pw:m.Pairwise fun x y=>¬O6 y x<0):Sec.LP (wW eP m)/\Sec.Oe (wW eP m) M:=by
 have mem:∀r,r∈m↔∃l∈M,r=oY (Sec.dirL l)\/r=Ex (oY (Sec.dirL l)):=fun r=>by
  rw [pm.mem_iff];unfold Jt QN;simp only [List.mem_flatMap,List.mem_cons,List.not_mem_nil,or_false]
 have key:=Sec.NX (m:=m) pw ?_ ?_
 ·obtain ⟨j,k⟩:=key;refine ⟨j,fun l a=>?_⟩;obtain ⟨y,n,c,o,e⟩:=k (oY (Sec.dirL l)) ((mem _).2 ⟨l,a,.inl rfl⟩);obtain ⟨d,d0,g⟩:=CF (FO (ho l a));refine ⟨y,n,c*d,Sec.mp o d0,?_⟩;rw [e,g];exact Prod.ext (by show c*(d*_)=_;grind) (by show c*(d*_)=_;grind)
 ·intro r i;obtain ⟨l,a,h⟩:=(mem r).1 i;have b:=FO (ho l a);obtain ⟨d,d0,g⟩:=CF b
  have f:Sec.nz (oY (Sec.dirL l)):=by
   rw [g];unfold Sec.nz at b ⊢;rcases b with b|b
   ·exact .inl fun h=>by rcases Rat.mul_eq_zero.1 h with h|h;grind;exact b h
   ·exact .inr fun h=>by rcases Rat.mul_eq_zero.1 h with h|h;grind;exact b h
  rcases h with rfl|rfl
  ·exact f
  ·unfold Sec.nz Ex at *;rcases f with f|f
   ·exact .inl (by show -(oY (Sec.dirL l)).1≠0;grind)
   ·exact .inr (by show -(oY (Sec.dirL l)).2≠0;grind)
 ·intro r i;obtain ⟨l,a,h⟩:=(mem r).1 i;rcases h with rfl|rfl
  ·exact ⟨_,(mem _).2 ⟨l,a,.inr rfl⟩,1,by decide,by unfold Ex;grind,by unfold Ex;grind⟩
  ·exact ⟨_,(mem _).2 ⟨l,a,.inl rfl⟩,1,by decide,by unfold Ex;grind,by unfold Ex;grind⟩
def ApS (V:View)(w:Value)(p:Rat×Rat):Prop:=(∃b q n c q' n' c' d r m e r' m' e',w=.agg #[.bool b,.slice q n c,.slice q' n' c',.bool d,.slice r m e,.slice r' m' e']) /\
 ∀V1,V.Le V1->Acts prog 51 #[w] V1 fun r V'=>RPt V' r p.1 p.2
theorem ApS.le {V V':View}{w:Value}{p:Rat×Rat}(h:ApS V w p)(l:V.Le V'):ApS V' w p:=⟨h.1,fun a b=>h.2 a (l.trans b)⟩
theorem ApS.of {V:View}{w:Value}{p:Rat×Rat}(h:LO V w p.1 p.2){k:Nat}(s1:Sz k p.1)(s2:Sz k p.2)(hk:k<=1099511627776):ApS V w p:=by
 refine ⟨?_,fun f a=>DS (h.le a) s1 s2 hk⟩;obtain ⟨b,q,n,c,g,i,j,d,r,m,e,l,o,s,rfl,-⟩:=h;exact ⟨_,_,_,_,_,_,_,_,_,_,_,_,_,_,rfl⟩
theorem ApS.raw {V:View}{b d:Bool}{q q' r r':OA}{n c n' c' m e m' e':Nat}{xs ys us vs:List Nat}(h1:RD V q n c xs)(h2:RD V q' n' c' ys)(h3:RD V r m e us)(h4:RD V r' m' e' vs)(k1:xs.length<=1000000)(k2:ys.length<=1000000)(k3:us.length<=1000000)(k4:vs.length<=1000000) :
  ApS V (.agg #[.bool b,.slice q n c,.slice q' n' c',.bool d,.slice r m e,.slice r' m' e']) (mkRat (aQ b xs) (val ys),mkRat (aQ d us) (val vs)):=by
 refine ⟨⟨_,_,_,_,_,_,_,_,_,_,_,_,_,_,rfl⟩,fun o a=>?_⟩;refine rY b q n c q' n' c' d r m e r' m' e' o _ fun t f=>(nj b (h1.le (a.trans f)) (h2.le (a.trans f)) (by omega) (by omega)).mono ?_;rintro r V2 j g;have p:=g;obtain ⟨u,v,w,rfl⟩:=g.shape;refine ⟨_,_,_,rfl,fun x h=>(nj d (h3.le (a.trans (f.trans (j.trans h)))) (h4.le (a.trans (f.trans (j.trans h)))) (by omega) (by omega)).mono ?_⟩;rintro r y s k;have i:=k;obtain ⟨z,A,B,rfl⟩:=k.shape;exact ⟨_,_,_,rfl,fun C l=>⟨_,_,_,_,_,_,rfl,p.le (h.trans (s.trans l)),i.le l⟩⟩
theorem ApS.zero {V:View}:ApS V (.agg #[.bool false,.slice none 0 0,.slice none 0 0,.bool false,.slice none 0 0,.slice none 0 0]) (0,0):=by
 have e:mkRat (aQ false []) (val [])=0:=by decide
 have:=@ApS.raw V false false none none none none 0 0 0 0 0 0 0 0 [] [] [] [] RD.nil RD.nil RD.nil RD.nil (by decide) (by decide) (by decide) (by decide);rw [e] at this;exact this
theorem Aq (l:List Nd):∀(f:Nat)(n:Int)(s:RS),s.bad=true->(du l f n s).2.bad=true
 | 0,_,_,h=>h
 | f+1,n,s,h=>by
  simp only [du];split
  ·exact h
  ·split
   ·exact h
   ·split
    ·rfl
    ·split
     ·split
      ·exact Aq l f _ _ (Aq l f _ _ h)
      ·rfl
     ·rfl
theorem I7 {l:List Nd}{root:Int}(hl:l.length<=65536):ofT l root=if (du l (l.length+1) root ⟨List.replicate l.length false,0,false⟩).2.bad=false/\((du l (l.length+1) root ⟨List.replicate l.length false,0,false⟩).2.seen.all id)=true then some (du l (l.length+1) root ⟨List.replicate l.length false,0,false⟩).1 else none:=by
 have d:=tv l (l.length+1) root ⟨List.replicate l.length false,0,false⟩;have c:(List.replicate l.length false).count false=l.length:=by simp
 dsimp only at d;rw [c] at d;unfold ofT;rw [if_neg (by omega)];generalize du l (l.length+1) root ⟨List.replicate l.length false,0,false⟩=r at *
 have e:(r.2.seen.all id)=true↔r.2.jy=l.length:=by
  have f:(r.2.seen.all id)=true↔r.2.seen.count false=0:=by
   rw [List.count_eq_zero,List.all_eq_true];constructor
   ·intro h hm;have:=h false hm;cases this
   ·intro h x g;cases x
    ·exact absurd g h
    ·rfl
  rw [f];omega
 dsimp only;by_cases a:r.2.bad=true
 ·rw [if_pos (.inl a),if_neg (fun h=>by rw [a] at h;cases h.1)]
 ·have a:r.2.bad=false:=by simpa using a
  by_cases b:r.2.jy=l.length
  ·rw [if_neg (by rintro (h|h);rw [a] at h;cases h;exact h b),if_pos ⟨a,e.2 b⟩]
  ·rw [if_pos (.inr b),if_neg (fun h=>b (e.1 h.2))]
def Og (k:Nat)(V:View)(v:Value)(c:Rat×Rat):Prop:=RP V v c.1 c.2/\Sz k c.1/\Sz k c.2
theorem Og.le {k:Nat}{V V':View}{v:Value}{c:Rat×Rat}(h:Og k V v c)(l:V.Le V'):Og k V' v c:=⟨h.1.le l,h.2⟩
theorem Og.mono {k m:Nat}{V:View}{v:Value}{c:Rat×Rat}(h:Og k V v c)(l:k<=m):Og m V v c:=⟨h.1,h.2.1.mono l,h.2.2.mono l⟩
structure R4 (V:View) (y z:Value):Prop where
 inv:Sent V 0 y
 Zj:Sent V 1 z
 yE:SErr y
 zE:SErr z
theorem R4.le {V V':View}{y z:Value}(h:R4 V y z)(l:V.Le V'):R4 V' y z:=⟨h.inv.le l,h.Zj.le l,h.yE,h.zE⟩
theorem AT.leaf {V:View}(i:Bool):AT V (.agg #[.int .i64 (rt 0 (.leaf i)),.slice none 0 0]) (rt 0 (.leaf i)) (wr 0 (.leaf i)):=⟨_,_,_,rfl,NS.nil⟩
theorem uK {p:L3->Prop}:∀{t:Tr} {k:Nat},t.All p->∀x∈wr k t,p x.ln
 | .leaf _,_,_,x,h=>by simp [wr] at h
 | .node l a b,k,⟨h1,h2,h3⟩,x,h=>by
  simp only [wr,List.mem_cons,List.mem_append] at h;rcases h with rfl|h|h
  ·exact h1
  ·exact uK h2 x h
  ·exact uK h3 x h
theorem Jz {V:View}{t:Tr}{p:OA}(h:RW V p t):p.isSome=true:=by
 cases t with
 | leaf i=>obtain ⟨b,a,c,d,e,f,g,j,k,rfl,m⟩:=h;rfl
 | node l x y=>obtain ⟨b,i,b1,n,o,q,b2,r,s,a,b3,u,v,c,pl,w,rfl,-⟩:=h;rfl
theorem Kw:∀(t:Tr) {V:View} {p:OA} {lb:Nat} {n c:Nat} {vs:List Value} {l:List Nd},RW V p t->t.All Okb->n=l.length ->
  (vs≠[]->V.w.heap[lb]?=some (.cells vs.toArray 78 (0,0)))->(vs≠[]->V.X lb)->n<=c->c*8<=vs.length->NR V vs l->n+t.size<=1000000 ->
  Acts prog 42 #[.pointer p,.slice (mA lb c) n c] V fun r V'=>∃(bm:Nat)(vm:List Value)(c':Nat),(vm≠[]->V'.w.heap[bm]?=some (.cells vm.toArray 78 (0,0)))/\(vm≠[]->V.w.heap.size<=bm\/(vs≠[]/\bm=lb)) /\
   r=.tuple #[.slice (mA bm c') (n+t.size) c',.int .i64 (rt n t)]/\n+t.size<=c'/\c'*8<=vm.length/\NR (V'.hideG (vm≠[]) bm) vm (l++wr n t)/\(t.size=0->c'=c):=by
 intro t
 induction t with
 | leaf i=>
  intro V p lb n c vs l H _ I a s z A B J;have f:=Jz H;obtain ⟨b,S,T,c4,c5,c6,c7,c8,c9,rfl,C⟩:=H
  have fin:∀(F:View)(k:Nat)(x:Int),V.Le (F.hideG (vs≠[]) k)->(vs≠[]->F.w.heap[k]?=some (.cells vs.toArray 78 (0,0))) ->
    (vs≠[]->V.w.heap.size<=k\/(vs≠[]/\k=lb)\/False)->x=rt n (.leaf i)->∃(bm:Nat)(vm:List Value)(c':Nat),(vm≠[]->F.w.heap[bm]?=some (.cells vm.toArray 78 (0,0)))/\(vm≠[]->V.w.heap.size<=bm\/(vs≠[]/\bm=lb)) /\
   Value.tuple #[.slice (mA k c) n c,.int .i64 x]=.tuple #[.slice (mA bm c') (n+(Tr.leaf i).size) c',.int .i64 (rt n (.leaf i))]/\n+(Tr.leaf i).size<=c'/\c'*8<=vm.length/\NR (F.hideG (vm≠[]) bm) vm (l++wr n (.leaf i))/\((Tr.leaf i).size=0->c'=c):=by
   intro F k x hle e3 e4 U;refine ⟨k,vs,c,e3,fun h=>?_,by rw [U];rfl,z,A,?_,fun _=>rfl⟩
   ·rcases e4 h with h|h|h
    ·exact .inl h
    ·exact .inr h
    ·exact h.elim
   ·simp only [wr,List.append_nil];exact B.le hle
  refine mg _ lb n c vs V _ a s ⟨f,f,true,rdc C 0 rfl,fun _=>⟨f,f,i,rdc C 1 rfl,fun W V1 k K G Y=>fin V1 k _ K G Y (by subst W;rfl),fun W V2 k K G Y=>fin V2 k _ K G Y (by subst W;rfl)⟩,fun h=>by cases h⟩
 | node ln x y Mk ihy=>
  intro V p lb n c vs l H L I a s z A B J;have f:=Jz H;simp only [Tr.size] at J;obtain ⟨⟨-,Z⟩,a0,YN⟩:=L;obtain ⟨b,i,b1,p1,n1,c1,b2,p2,n2,S,b3,p3,n3,T,pl,pr,rfl,C,hl,U,hy⟩:=H
  have g:∀j v,([.bool b1,.slice p1 n1 c1,.bool b2,.slice p2 n2 S,.bool b3,.slice p3 n3 T]:List Value)[j]?=some v->V.at (((⟨b,2,none⟩:Addr)).add j) v:=by
   intro j v a
   have M:j<6:=by
    rcases Nat.lt_or_ge j 6 with M|M
    ·exact M
    ·rw [List.getElem?_eq_none (by simpa using M)] at a;cases a
   have h2:(⟨b,2,none⟩:Addr)=(⟨b,0,none⟩:Addr).add 2:=by rw [add_zero']
   rw [h2,addadd,add_zero'];refine blk_at (xs:=[_,_,_,_,_,_,_,_,_,_]) C ?_
   match j,M,a with
   | 0,_,a=>exact a
   | 1,_,a=>exact a
   | 2,_,a=>exact a
   | 3,_,a=>exact a
   | 4,_,a=>exact a
   | 5,_,a=>exact a
  obtain ⟨t1,t2,t3⟩:=Z.af;refine mg _ lb n c vs V _ a s ⟨f,f,false,rdc C 0 rfl,(fun h=>by cases h),fun _=>⟨f,f,b1,p1,n1,c1,b2,p2,n2,S,b3,p3,n3,T,⟨b,2,none⟩,by simp [addrAdd,add_zero'],g 0 _ rfl,g 1 _ rfl,g 2 _ rfl,g 3 _ rfl,g 4 _ rfl,g 5 _ rfl,fun F l3=>(BF (hl.le l3) (by omega) (by omega) (by omega)).mono ?_⟩⟩;rintro r V4 l4 Pn;have S3:=Pn;obtain ⟨d1,q1,m1,e1,d2,q2,m2,e2,d3,q3,m3,e3,rfl⟩:=pY Pn;have D:=l3.trans l4;refine ⟨_,_,_,_,_,_,_,_,_,_,_,_,rfl,by omega,z,A,rfl,by intro v a;simp at a;rcases a with rfl|rfl|rfl|rfl|rfl|rfl|rfl|rfl<;>rfl,fun sp c' g1 g2=>?_⟩;have a4:=D _ _ C;refine ⟨f,f,pl,rdc a4 8 rfl,fun m l5 N f1 f2=>?_⟩;have d:=NR.push (sp:=sp) (x:=0) (y:=0) (B.le D) (by omega) (ln:=ln) S3;rw [←I] at d;generalize hrow:vs.take (n*8)++([_,_,_,_,_,_,_,_]:List Value)++sp=row at f1 f2 d ⊢
  have O:row.length=n*8+8+sp.length:=by
   rw [←hrow];simp only [List.length_append,List.length_take,List.length_cons,List.length_nil];omega
  have Tp:row≠[]:=fun e=>by rw [e] at O;simp only [List.length_nil] at O;omega
  have E:=D.trans l5;have i1:=Mk (V:=m.lend [vb row m.w.heap.size N]) (p:=pl) (lb:=N) (n:=n+1) (c:=c') (vs:=row) (l:=l++[⟨ln,0,0⟩]) (RW.le (V:=V) (V':=m.lend _) (fun b o h=>E b o h) U) a0 (by simp [I]) f1 (fun h=>⟨by simp [vb_ne h],f2 h⟩) g1 (by omega) (NR.le (V:=V4) (V':=m.lend _) d fun b o h=>l5 b o h) (by omega);refine i1.mono ?_;rintro r V6 l6 ⟨bm,vm,a8,K,G,rfl,a5,a6,a7,-⟩;have a9:m.Le V6:=fun b o h=>l6 b o h;have WR:m.Le (V6.shut.hideG (vm≠[]) bm):=Ck (V':=m) a9 (View.Le.refl m) fun h=>(G h).imp id fun h'=>by rw [h'.2];exact f2 Tp
  refine ⟨bm,vm,K,G,none,_,_,_,rfl,f,f,pr,rdc ((E.trans WR) _ _ C) 9 rfl,fun P l7 Q d1 d2=>?_⟩;have WH:vm≠[]:=fun e=>by rw [e] at a6;simp at a6;omega
  have KV:V.Le P:=(E.trans WR).trans l7;have i2:=ihy (V:=P.lend [vb vm P.w.heap.size Q]) (p:=pr) (lb:=Q) (n:=n+1+x.size) (c:=a8) (vs:=vm) (l:=l++[⟨ln,0,0⟩]++wr (n+1) x) (RW.le (V:=V) (V':=P.lend _) (fun b o h=>KV b o h) hy) YN (by simp [I,dS];omega) d1 (fun h=>⟨by simp [vb_ne h],d2 h⟩) a5 a6 (NR.le (V:=V6.hideG (vm≠[]) bm) (V':=P.lend _) a7 fun b o h=>l7 b o h) (by omega);refine i2.mono ?_;rintro r V8 l8 ⟨bn,R,b0,b8,b9,rfl,b5,b6,b7,-⟩;have hlen:n*8+8<=R.length:=by omega
  simp only [Int.toNat_natCast];refine ⟨bn,R,b8,b9,none,_,_,_,rfl,⟨by omega,by omega⟩,b5,by omega,⟨by omega,by omega⟩,b5,by rw [List.length_set];omega,fun V9 HJ u1 u4 u5=>?_⟩;have q:=NR.kids (V:=V8.hideG (R≠[]) bn) (l:=l) (r:=wr (n+1) x++wr (n+1+x.size) y) (ln:=ln) (u:=0) (v:=0) (x:=rt (n+1) x) (y:=rt (n+1+x.size) y) (by simpa using b7);rw [←I] at q;refine ⟨HJ,_,b0,u4,fun h=>?_,by rw [show n+(Tr.node ln x y).size=n+1+x.size+y.size from by simp only [Tr.size];omega];rfl,by simp only [Tr.size];omega,by simp only [List.length_set];omega,?_,fun h=>by simp only [Tr.size] at h;omega⟩
  ·rcases u5 h with h|h|h
   ·exact .inl h
   ·exact .inr h
   ·exact h.elim
  ·simp only [wr];exact NR.le (V:=V8.hideG (R≠[]) bn) q fun b o h=>u1 b o h
theorem tY {V:View}{p:OA}{t:Tr}(h:RW V p t)(ha:t.All Okb)(hs:t.size<=1000000) :
  Acts prog 12 #[.pointer p] V fun r V'=>AT V' r (rt 0 t) (wr 0 t)/\(t.size=0->r=.agg #[.int .i64 (rt 0 t),.slice none 0 0]):=by
 refine wh p V _ fun g j=>?_;refine Acts.Qk (Kw t (V:=g) (lb:=0) (vs:=[]) (l:=[]) (n:=0) (c:=0) (h.le j) ha rfl (fun h=>absurd rfl h) (fun h=>absurd rfl h) (Nat.le_refl _) (Nat.le_refl _) (fun i d k=>by simp at k) (by omega)) ?_;rintro r V2 B C ⟨m,vm,q,s,u,rfl,a,D,e,v⟩;refine ⟨m,vm,s,fun h=>(u h).imp id fun w=>absurd rfl w.1,none,_,_,_,rfl,fun x y z A=>?_⟩;simp only [List.nil_append,Nat.zero_add] at e a ⊢;have:=NS.ofRow (V:=x) (b:=z) (c:=q) (vm:=vm) (l:=wr 0 t) (ty:=78) A (by rw [dS];exact a) (e.le fun b o h=>y b o h);rw [dS] at this;refine ⟨⟨_,_,_,rfl,this⟩,fun f=>?_⟩;rw [v f,f];rfl
theorem mT {V:View}{p:OA}{t:Tr}(h:RW V p t)(ha:t.All Okb)(hs:t.size<=1000000) :
  Acts prog 12 #[.pointer p] V fun r V'=>AT V' r (rt 0 t) (wr 0 t):=(tY h ha hs).mono fun _ _ _ h=>h.1
def Gc (V:View)(vs:List Value)(i:Nat)(d:Nd):Prop:=∃(b1:Bool)(p1:OA)(n1 c1:Nat)(b2:Bool)(p2:OA)(n2 c2:Nat)(b3:Bool)(p3:OA)(n3 c3:Nat),
 (∀j v,([.bool b1,.slice p1 n1 c1,.bool b2,.slice p2 n2 c2,.bool b3,.slice p3 n3 c3,.int .i64 d.left,.int .i64 d.right]:List Value)[j]?=some v->vs[i*8+j]?=some v) /\
 J8 V (.agg #[.bool b1,.slice p1 n1 c1,.bool b2,.slice p2 n2 c2,.bool b3,.slice p3 n3 c3]) d.ln
theorem Gc.le {V V':View}{vs:List Value}{i:Nat}{d:Nd}(h:Gc V vs i d)(hl:V.Le V'):Gc V' vs i d:=by
 obtain ⟨b1,a,b,c,b2,e,f,g,b3,j,k,l,m,n⟩:=h;exact ⟨b1,a,b,c,b2,e,f,g,b3,j,k,l,m,n.le hl⟩
theorem Jj {vs xs:List Value}{k i:Nat}(hx:xs.length=8)(h:k*8+8<=vs.length)(hi:i<k*8\/k*8+8<=i):(vs.take (k*8)++xs++vs.drop (k*8+8))[i]?=vs[i]?:=by
 have a:(vs.take (k*8)).length=k*8:=by rw [List.length_take];omega
 rcases hi with hi|hi
 ·rw [List.append_assoc,List.getElem?_append_left (by omega),List.getElem?_take,if_pos hi]
 ·rw [List.getElem?_append_right (by rw [List.length_append];omega),List.length_append,a,hx,List.getElem?_drop];congr 1;omega
theorem Zk {a b c d e f g h v:Value}{j:Nat}(hv:([a,b,c,d,e,f,g,h]:List Value)[j]?=some v):j<8:=by
 rcases Nat.lt_or_ge j 8 with i|i
 ·exact i
 ·rw [List.getElem?_eq_none (by simpa using i)] at hv;cases hv
theorem Gc.out {V:View}{vs xs:List Value}{k i:Nat}{d:Nd}(h:Gc V vs i d)(hx:xs.length=8)(hk:k*8+8<=vs.length)(hi:i≠k):Gc V (vs.take (k*8)++xs++vs.drop (k*8+8)) i d:=by
 obtain ⟨b1,b,c,e,b2,f,g,l,b3,m,n,o,p,q⟩:=h;refine ⟨b1,b,c,e,b2,f,g,l,b3,m,n,o,fun j v a=>?_,q⟩;have:=Zk a;rw [Jj hx hk (by omega)];exact p j v a
def vm (n b m:Nat):Nat:=(n-1-m+(n-b))%n
def Fz (V:View):View:=⟨V.w,fun b=>b<V.w.heap.size,fun _=>False,fun _ h=>h,fun _ h=>h.elim⟩
theorem DJ {f:FuncId}{args:Array Value}{V:View}{o:Obj}(h:Acts prog f args (Fz V) fun r V'=>∃bk,r=.pointer (some ⟨bk,0,none⟩)/\V'.bg bk o) :
  Acts prog f args V fun r V'=>∃bk,r=.pointer (some ⟨bk,0,none⟩)/\V.w.heap.size<=bk/\V'.bg bk o:=
 ⟨h.1,h.2.mono fun _ _ ⟨_,he,a,bk,d,c⟩=>⟨_,he,⟨a.size,fun b c _=>a.bg b c (fun h=>h),a.os,a.tape,a.out⟩,bk,d,Nat.le_of_not_lt c.1,fun e=>c.1 (V.hH bk e),c.2⟩⟩
theorem BG {V:View}{lp:OA}{ln lc:Nat}(hc:ln<=lc) :
  Acts prog 9 #[.slice lp ln lc] V fun r V'=>∃bk,r=.pointer (some ⟨bk,0,none⟩)/\V.w.heap.size<=bk/\V'.bg bk (.cells #[.slice lp (min ln 400) lc,.int .i64 0] 102 (0,0)):=by
 refine DJ (Bg lp ln lc (Fz V) _ ?_)
 have e:bJ (ln:Int) 400=((min ln 400:Nat):Int):=by
  unfold bJ;simp only [Nat.min_def];split<;>split<;>omega
 rw [e,Int.toNat_natCast];have:=Nat.min_le_left ln 400;exact ⟨⟨by omega,by omega⟩,fun b c bk a=>⟨bk,rfl,a⟩⟩
theorem oV {t:Tr}(h:t.All Okb):t.All fun x=>okL x=true:=Tr.All.imp (fun _ h=>h.1) h
theorem NN {t:Tr}(h:t.All Okb):t.All Bd:=Tr.All.imp (fun _ h=>h.2) h
theorem Hg (l:List (Rat×Rat)):∃m:List (Rat×Rat),m.Perm l/\m.Pairwise fun x y=>¬O6 y x<0:=by
 refine ⟨l.mergeSort (fun x y=>decide (¬O6 y x<0)),List.mergeSort_perm ..,?_⟩;refine (List.pairwise_mergeSort (le:=fun x y=>decide (¬O6 y x<0)) (fun a b c d e=>?_) (fun a b=>?_) l).imp fun h=>of_decide_eq_true h
 ·exact decide_eq_true (Sec.tK c b a (of_decide_eq_true e) (of_decide_eq_true d))
 ·by_cases h:O6 b a<0
  ·have:=Sec.s_ b a h;rw [Bool.or_eq_true];exact .inr (decide_eq_true this)
  ·rw [Bool.or_eq_true];exact .inl (decide_eq_true h)
theorem indep {t:Tr}{l:L3}(ho:(Tr.node l t t).All fun l=>¬(l.1=0/\l.2.1=0)){p:Rat×Rat}{a b:Int}(h1:Fg t p a)(h2:Fg (.node l t t) p b):a=b:=by
 obtain ⟨m,pm,g⟩:=Hg (Jt (Sec.jR (.node l t t) p));obtain ⟨d,f⟩:=Lj (K6 ho) pm g;have sm:=He d
 have sub:∀x∈Sec.jR t p,x∈Sec.jR (.node l t t) p:=fun x c=>by
  rw [Sec.jR];by_cases e:ai l p.1 p.2≥0
  ·rw [if_pos e];exact List.mem_append_right _ (List.mem_append_left _ c)
  ·rw [if_pos (show ai l p.1 p.2<=0 by grind)];exact List.mem_append_right _ (List.mem_append_right _ c)
 have i:=h1 _ _ d sm fun l j=>f l (sub l j);have k:=h2 _ _ d sm f;generalize JB (wW eP m)=S at *
 have key:∀v∈S,Sec.CZ (.node l t t) p v=Sec.CZ t p v:=fun v o=>by
  have n:=f.gen (Sec.Lw d sm v o);have:=(Sec.vG n fun l _=>⟨id,id⟩).2;rw [Sec.CZ] at this ⊢;split
  ·rfl
  ·rename_i q;rw [if_neg q] at this;split
   ·rfl
   ·rename_i r;rw [if_neg r] at this;cases this
 have s:Sec.anyS (.node l t t) p S=Sec.anyS t p S:=by
  unfold Sec.anyS;rw [Bool.eq_iff_iff,List.any_eq_true,List.any_eq_true];constructor
  ·rintro ⟨x,c,h⟩;exact ⟨x,c,by rw [←key x c];exact h⟩
  ·rintro ⟨x,c,h⟩;exact ⟨x,c,by rw [key x c];exact h⟩
 have u:Sec.Km (.node l t t) p S=Sec.Km t p S:=by
  unfold Sec.Km;rw [Bool.eq_iff_iff,List.all_eq_true,List.all_eq_true];constructor
  ·intro h x c;rw [←key x c];exact h x c
  ·intro h x c;rw [key x c];exact h x c
 rw [i,k,s,u]
end Go.Proofs.Tryz
namespace Go.Eng
def View.bare (V:View)(b:Nat):View:=⟨V.w,fun x=>V.H x/\x≠b,fun x=>V.X x/\x≠b,fun x h=>V.hH x h.1,fun x h=>⟨V.hX x h.1,h.2⟩⟩
theorem Acts.bare {P:Program}{f:FuncId}{args:Array Value}{V:View}{b:Nat}{R:Value->View->Prop}(hs:b<V.w.heap.size)(h:Acts P f args (V.bare b) R) :
  Acts P f args V fun r V'=>V'.w.heap[b]?=V.w.heap[b]?/\R r (V'.bare b):=by
 refine ⟨h.1,h.2.mono fun _ g ⟨r,he,a,c⟩=>⟨r,he,⟨a.size,fun x d e=>a.bg x d fun h=>e h.1,a.os,a.tape,a.out⟩,a.bg b hs (fun h=>h.2 rfl),c⟩⟩
def LN (V:View)(b:Nat):Prop:=∃(cs:Array Value)(ty:TypeId)(m:Nat×Nat),V.w.heap[b]?=some (.cells cs ty m)/\∀v∈cs,∀k z,v≠.int k z
theorem LN.ne {V:View}{b:Nat}(h:LN V b){a:Addr}{k:IntKind}{z:Int}(ha:(V.bare b).at a (.int k z)):a.block≠b:=by
 obtain ⟨cs,ty,m,f,g⟩:=h;intro e;have c:=ha.2;unfold World.cell? at c;rw [e] at c;have d:(V.bare b).w.heap[b]?=some (.cells cs ty m):=f;rw [d] at c;dsimp only at c;split at c
 ·cases c
 ·obtain ⟨i,j⟩:=Array.getElem?_eq_some_iff.1 c;exact g _ (j▸Array.getElem_mem i) k z rfl
end Go.Eng
namespace Go.Proofs.Tryz
open Go.Eng Go.Big
theorem mo {a b:Rat}:eY a b<0↔a<b:=by
 constructor
 ·intro h;by_cases c:a<b
  ·exact c
  ·by_cases e:a=b
   ·have:=iV.1 e;omega
   ·have:=tg.1 (show b<a by grind);omega
 ·intro h;have:=zS.1 h;omega
theorem tA:Sz 10 ((1:Int):Rat):=DD (z:=1) (by omega)
theorem QV {l:L3}(h:Bd l){k:Nat}{p:Rat×Rat}(s1:Sz k p.1)(s2:Sz k p.2):Sz (2*k+3010) (ai l p.1 p.2):=by
 have:=h.szl;exact (((this.1.mul s1).add (this.2.1.mul s2)).add this.2.2).mono (by omega)
theorem I4 {p v:Rat×Rat}{ls:List L3}{i:Nat}(h:i<ls.length)(s:Rat):(ls.take (i+1)).foldl (Sec.Aj p v) s=Sec.Aj p v ((ls.take i).foldl (Sec.Aj p v) s) ls[i]:=by
 rw [←List.take_append_getElem h,List.foldl_append];rfl
theorem Fs {a b:Rat}:eY a b>0↔b<a:=by
 constructor
 ·intro h;rcases mq a b with ⟨g,e⟩|⟨g,e⟩|⟨g,e⟩<;>first|omega|exact g
 ·intro h;have:=tg.1 h;omega
abbrev Xt:=Bool×OA×Nat×Nat×OA×Nat×Nat×Bool×OA×Nat×Nat×OA×Nat×Nat×Bool×Bool
def Rl (z:Xt):Value:=.agg #[.bool z.1,.slice z.2.1 z.2.2.1 z.2.2.2.1,.slice z.2.2.2.2.1 z.2.2.2.2.2.1 z.2.2.2.2.2.2.1,.bool z.2.2.2.2.2.2.2.1,.slice z.2.2.2.2.2.2.2.2.1 z.2.2.2.2.2.2.2.2.2.1 z.2.2.2.2.2.2.2.2.2.2.1,.slice z.2.2.2.2.2.2.2.2.2.2.2.1 z.2.2.2.2.2.2.2.2.2.2.2.2.1 z.2.2.2.2.2.2.2.2.2.2.2.2.2.1,.bool z.2.2.2.2.2.2.2.2.2.2.2.2.2.2.1,.bool z.2.2.2.2.2.2.2.2.2.2.2.2.2.2.2]
theorem W8 {V:View}{xb:Bool}{xp:OA}{xn xc:Nat}{xq:OA}{xm xe:Nat}{yb:Bool}{yp:OA}{yn yc:Nat}{yq:OA}{ym ye:Nat}{xa ya:Bool}{s:Sp}(h:DG V (.agg #[.bool xb,.slice xp xn xc,.slice xq xm xe,.bool yb,.slice yp yn yc,.slice yq ym ye,.bool xa,.bool ya]) s):xa=s.a/\ya=s.b/\RQ V (.agg #[.bool xb,.slice xp xn xc,.slice xq xm xe]) s.lo/\RQ V (.agg #[.bool yb,.slice yp yn yc,.slice yq ym ye]) s.hi:=by
 obtain ⟨_,_,_,_,_,_,_,_,_,_,_,_,_,_,e,c,d⟩:=h;have e:=congrArg Array.toList (Value.agg.inj e);simp only [List.cons.injEq,Value.bool.injEq,Value.slice.injEq,and_true] at e;obtain ⟨rfl,⟨rfl,rfl,rfl⟩,⟨rfl,rfl,rfl⟩,rfl,⟨rfl,rfl,rfl⟩,⟨rfl,rfl,rfl⟩,rfl,rfl⟩:=e;exact ⟨rfl,rfl,c,d⟩
theorem QQ {V:View}{xb:Bool}{xp:OA}{xn xc:Nat}{xq:OA}{xm xe:Nat}{yb:Bool}{yp:OA}{yn yc:Nat}{yq:OA}{ym ye:Nat}{xa ya:Bool}{s:Sp}(ea:xa=s.a)(eb:ya=s.b)(h1:RQ V (.agg #[.bool xb,.slice xp xn xc,.slice xq xm xe]) s.lo)(h2:RQ V (.agg #[.bool yb,.slice yp yn yc,.slice yq ym ye]) s.hi):DG V (.agg #[.bool xb,.slice xp xn xc,.slice xq xm xe,.bool yb,.slice yp yn yc,.slice yq ym ye,.bool xa,.bool ya]) s:=by
 subst ea eb;exact ⟨_,_,_,_,_,_,_,_,_,_,_,_,_,_,rfl,h1,h2⟩
def lI (l m:L3)(s:Sp):Sp:=if 0<(dC m l).num.sign then (if s.a=true\/s.lo<kG l m then ⟨kG l m,s.hi,false,s.b⟩ else s) else (if s.b=true\/kG l m<s.hi then ⟨s.lo,kG l m,s.a,false⟩ else s)
theorem yB {l m:L3}{s:Sp}(hc:br l m≠0):oI l m s=if (lI l m s).a=false/\(lI l m s).b=false/\(lI l m s).hi<=(lI l m s).lo then none else some (lI l m s):=by
 unfold oI;rw [if_neg hc];rfl
theorem Gz {l m:L3}{s:Sp}(hc:br l m=0):oI l m s=if (ai m (f_ l 0) (gy l 0)).num.sign<=0 then none else some s:=by
 unfold oI;rw [if_pos hc]
theorem F6 {l m:L3}(hl:Nz l)(bl:Bd l)(bm:Bd m)(hc:br l m≠0):Sz 100000 (kG l m):=by
 rw [CB hl hc];exact (tz bl.szl bm.szl).mono (by omega)
theorem NF {l m:L3}{s:Sp}(hl:Nz l)(bl:Bd l)(bm:Bd m)(hc:br l m≠0)(hs:s.sz 100000):(lI l m s).sz 100000:=by
 have:=F6 hl bl bm hc;unfold lI;split<;>split<;>first|exact hs|exact ⟨this,hs.2⟩|exact ⟨hs.1,this⟩
theorem H_ {l m:L3}{s w:Sp}(hl:Nz l)(bl:Bd l)(bm:Bd m)(sg:s.iM)(hs:s.sz 100000)(e:oI l m s=some w):w.iM/\w.sz 100000:=by
 rw [uq hl sg] at e;split at e
 ·rename_i g;cases e;exact ⟨jK sg g,AJ bl.szl bm.szl hs (by omega)⟩
 ·cases e
theorem Lh {V:View}{v:Value}{L:L3}(h:RL V v L.1 L.2.1 L.2.2)(hz:Nz L)(hb:Bd L):Acts prog 80 #[v] V fun r V'=>RP V' r (f_ L 0) (gy L 0):=by
 have sl:=hb.szl;refine (oB h (EJ hz) sl.1 sl.2.1 sl.2.2 (by omega)).mono fun r V' _ g=>?_;have b:f_ L 0=_:=rfl;unfold f_ gy;unfold fm;have a:∀x y:Rat,x=y->∀z w:Rat,z=w->RP V' r x z->RP V' r y w:=by rintro x _ rfl z _ rfl h;exact h
 refine a _ _ ?_ _ _ ?_ g<;>grind
theorem JL {L:L3}(hb:Bd L):Sz 30000 (f_ L 0)/\Sz 30000 (gy L 0):=by
 have sl:=hb.szl;exact ⟨Sz.mono (AG sl (MB 1000 (by omega))) (by omega),Sz.mono (AH sl (MB 1000 (by omega))) (by omega)⟩
theorem oE {V:View}{cp:OA}{cn cc:Nat}{ls:List L3}{i:Nat}(h:Lst 6 RLv V cp cn ls)(hb:∀l∈ls,Bd l)(hk:∀l∈ls,okL l=true)(hl:ls.length<=1000)(hi:i<ls.length) :
  Acts prog 97 #[.slice cp cn cc,.int .i64 i] V fun r V'=>∃u s,r=.tuple #[u,.bool (edgeG ls[i] ls fullSp).isSome]/\DG V' u s/\s.sz 100000/\∀w,edgeG ls[i] ls fullSp=some w->s=w:=by
 have hn:=h.len;subst hn;obtain ⟨is,b1,p1,n1,c1,b2,p2,n2,c2,b3,p3,n3,c3,a,a6,a0,a1,a2,a3,a4,a5,o⟩:=kD h hi;have x:=hb _ (List.getElem_mem hi);have ok:=hk _ (List.getElem_mem hi);generalize el:ls[i]=L at *;have sl:=x.szl;have nz:=uX ok;have hd:=kR x;refine xO cp ls.length cc (i:Int) V _ ⟨is,⟨by omega,by omega⟩,b1,p1,n1,c1,b2,p2,n2,c2,b3,p3,n3,c3,a,(by rw [Int.toNat_natCast];exact a6),a0,a1,a2,a3,a4,a5,fun V1 l1=>zP.mono ?_⟩;rintro r V2 l2 gf;have Yu:=gf;obtain ⟨_,_,_,_,_,_,_,_,_,_,_,_,_,_,rfl⟩:=vk gf;have a7:=l1.trans l2;refine ⟨_,_,_,_,_,_,_,_,_,_,_,_,_,_,_,_,rfl,fun z V'=>∃(j:Nat)(s:Sp),z.1=(j:Int)/\j<=ls.length/\DG V' (Rl z.2) s/\s.iM/\s.sz 100000/\edgeG L ls fullSp=edgeG L (ls.drop j) s,fun z=>(ls.length-z.1).toNat,⟨(0,_,_,_,_,_,_,_,_,_,_,_,_,_,_,_,_),by and_intros<;>first|rfl|trivial,0,fullSp,rfl,Nat.zero_le _,Yu,fU,Fx (by omega),by rw [List.drop_zero]⟩,?_⟩;rintro ⟨z,I,J,N,O,P,Q,R,S,T,U,X,Y,Z,ye,xa,ya⟩ V3 l3 ⟨j,s,ez,hj,gs,sg,ss,d⟩;dsimp only [Rl] at ez gs ⊢;subst ez;obtain ⟨rfl,rfl,D,E⟩:=W8 gs;have y:=a7.trans l3;refine ⟨by trivial,fun f=>?_,fun f Xu Hu=>?_⟩;rotate_left
 ·have e:j=ls.length:=by have:=of_decide_eq_false f;omega
  subst e;rw [List.drop_length] at d;exact ⟨_,s,by rw [d];rfl,gs.le Hu,ss,fun w e=>by rw [d] at e;exact Option.some.inj e⟩
 have f:j<ls.length:=by have:=of_decide_eq_true f;omega
 have w1:i64.wrap ((j:Int)+1)=((j+1:Nat):Int):=by rw [i64w (by omega)];rfl
 rw [w1,Int.toNat_natCast];obtain ⟨Zf,B1,P1,N1,C1,B2,P2,N2,C2,B3,P3,N3,C3,A,YE,A0,A1,A2,A3,A4,A5,p⟩:=kD (h.le y fun _ _ g=>RLv.le g y) f;have F:=hb _ (List.getElem_mem f);have sm:=F.szl;have Ed:=kR F;have ej:j=i->ls[j]=L:=fun e=>by subst e;exact el
 have ed:ls.drop j=ls[j]::ls.drop (j+1):=List.drop_eq_getElem_cons f;rw [ed] at d;generalize ls[j]=M at *;have Yk:edgeG L (M::ls.drop (j+1)) s=if M=L then edgeG L (ls.drop (j+1)) s else match oI L M s with|some s'=>edgeG L (ls.drop (j+1)) s'|none=>none:=rfl
 rw [Yk] at d;have next:∀{W:View} {I:Bool} {J:OA} {N O:Nat} {P:OA} {Q R:Nat} {S:Bool} {T:OA} {U X:Nat} {Y:OA} {Z ye:Nat} {xa ya:Bool} {s':Sp},DG W (.agg #[.bool I,.slice J N O,.slice P Q R,.bool S,.slice T U X,.slice Y Z ye,.bool xa,.bool ya]) s'->s'.iM->s'.sz 100000->edgeG L ls fullSp=edgeG L (ls.drop (j+1)) s'->∃(j':Nat)(s:Sp),((j+1:Nat):Int)=(j':Int)/\j'<=ls.length/\DG W (.agg #[.bool I,.slice J N O,.slice P Q R,.bool S,.slice T U X,.slice Y Z ye,.bool xa,.bool ya]) s/\s.iM/\s.sz 100000/\edgeG L ls fullSp=edgeG L (ls.drop j') s:=fun g1 g2 g3 e=>⟨j+1,_,rfl,f,g1,g2,g3,e⟩;refine ⟨Zf,⟨by omega,by omega⟩,B1,P1,N1,C1,B2,P2,N2,C2,B3,P3,N3,C3,A,YE,A0,A1,A2,A3,A4,A5,fun z _=>z=decide (M=L),⟨fun c=>⟨true,by and_intros<;>rfl,?_⟩,fun c V4 l4=>(iT (o.le (y.trans l4)) (p.le l4) sl sm (by omega)).mono ?_⟩,?_⟩
 ·exact (decide_eq_true (ej (by have:=of_decide_eq_true c;omega))).symm
 ·rintro r V5 l5 rfl;exact ⟨_,rfl,(kZ L M==(0:Int)),by and_intros<;>rfl,by rw [BK];exact decide_eq_decide.2 eq_comm⟩
 rintro z V6 l6 rfl;refine ⟨by trivial,fun c=>?_,fun c V7 l7=>(Jr (o.le (y.trans (l6.trans l7))) (p.le (l6.trans l7)) sl sm (by omega)).mono ?_⟩
 ·rw [if_pos (of_decide_eq_true c)] at d;exact ⟨(((j+1:Nat):Int),_,_,_,_,_,_,_,_,_,_,_,_,_,_,_,_),by dsimp only;omega,by and_intros<;>rfl,next (gs.le l6) sg ss d⟩
 rw [if_neg (of_decide_eq_false c)] at d;rintro r V8 l8 ⟨u,rfl,q0,q1⟩;obtain ⟨s1,s2⟩:=F5 sl sm;have KW:=l6.trans (l7.trans l8);by_cases q:br L M=0
 ·have qz:=q0 q;unfold Hz at qz;subst qz;rw [Gz q] at d;refine ⟨_,_,_,_,_,_,_,_,_,_,_,_,_,_,_,rfl,fun _ V9 l9=>(Lh (o.le (y.trans (KW.trans l9))) nz x).mono ?_,fun h=>by simp [q] at h⟩;rintro r b7 a8 gB;have SA:=gB;obtain ⟨_,_,_,_,_,_,_,_,_,_,_,_,rfl,-⟩:=gB;have PY:=KW.trans (l9.trans a8);refine ⟨_,_,_,_,_,_,_,_,_,_,_,_,_,_,rfl,fun b8 B=>(EI (p.le (PY.trans B)) (SA.le B) (sm.up (K:=30000) (by omega)) (JL x).1 (JL x).2 (by omega)).mono ?_⟩;rintro r b9 a9 rfl;have PZ:=PY.trans (B.trans a9);refine ⟨_,rfl,fun c c0 b0=>?_,fun c=>?_⟩
  ·rw [if_pos (of_decide_eq_true c)] at d;exact ⟨_,s,by rw [d];rfl,gs.le (PZ.trans b0),ss,fun w e=>by rw [d] at e;cases e⟩
  ·rw [if_neg (of_decide_eq_false c)] at d;exact ⟨(((j+1:Nat):Int),_,_,_,_,_,_,_,_,_,_,_,_,_,_,_,_),by dsimp only;omega,by and_intros<;>rfl,next (gs.le PZ) sg ss d⟩
 have hp:=q1 q;have b5:=hp;obtain ⟨_,_,_,_,_,_,_,_,_,_,_,_,rfl,-⟩:=hp;refine ⟨_,_,_,_,_,_,_,_,_,_,_,_,_,_,_,rfl,fun h=>by simp [q] at h,fun _ c4 cO=>(Li (o.le (y.trans (KW.trans cO))) (b5.le cO) nz (sl.up (K:=30000) (by omega)) (s1.mono (by omega)) (s2.mono (by omega)) (by omega)).mono ?_⟩;rintro r G dh gt;have t:RQ G r (kG L M):=gt;obtain ⟨_,_,_,_,_,_,rfl⟩:=gt.shape;have st:=F6 nz x F q;have Eo:=KW.trans (cO.trans dh);refine ⟨_,_,_,_,_,_,_,rfl,fun j9 cQ=>(cP (p.le (Eo.trans cQ)) sm.1 sm.2.1 sm.2.2 (by omega)).mono ?_⟩;rintro r ng ck gm;have Yz:=gm;obtain ⟨_,_,_,_,_,_,_,_,_,_,_,_,rfl,-⟩:=gm;have Ep:=Eo.trans (cQ.trans ck);refine ⟨_,_,_,_,_,_,_,_,_,_,_,_,_,_,rfl,fun oo dk=>(cP (o.le (y.trans (Ep.trans dk))) sl.1 sl.2.1 sl.2.2 (by omega)).mono ?_⟩;rintro r se d_ gl;have Yx:=gl;obtain ⟨_,_,_,_,_,_,_,_,_,_,_,_,rfl,-⟩:=gl;have TM:=Ep.trans (dk.trans d_);refine ⟨_,_,_,_,_,_,_,_,_,_,_,_,_,_,rfl,fun DB gY=>(mS (k:=1000) (Yz.le (dk.trans (d_.trans gY))) (Yx.le gY) Ed.1 Ed.2 hd.1 hd.2 (by omega)).mono ?_⟩;rintro r pZ fN gc
 have L9:RQ pZ r (dC M L):=by
  have e:dC M L=_:=(MX M L).symm;rw [e];exact gc
 obtain ⟨_,_,_,_,_,_,rfl⟩:=gc.shape;have TN:=TM.trans (gY.trans fN);refine ⟨_,_,_,_,_,_,_,rfl,fun rf iN=>(jH (L9.le iN)).mono ?_⟩;rintro r tE fV rfl;have C:=TN.trans (iN.trans fV);have FE:G.Le tE:=(cQ.trans ck).trans ((dk.trans d_).trans ((gY.trans fN).trans (iN.trans fV)));refine ⟨_,rfl,fun z W=>DG W (Rl z) (lI L M s),⟨fun v=>?_,fun v=>?_⟩,?_⟩
 ·have v:0<(dC M L).num.sign:=of_decide_eq_true v;refine ⟨fun z _=>z=decide (s.a=true\/s.lo<kG L M),⟨fun n=>⟨true,by and_intros<;>rfl,?_⟩,fun n Ge H=>(mj (t.le (FE.trans H)) (D.le (C.trans H)) st ss.1 (by omega)).mono ?_⟩,?_⟩
  ·exact (decide_eq_true (.inl n)).symm
  ·rintro r DH b6 rfl;refine ⟨_,rfl,decide (eY (kG L M) s.lo>(0:Int)),by and_intros<;>rfl,?_⟩;rw [n];exact decide_eq_decide.2 ⟨fun h=>.inr (Fs.1 h),fun h=>h.elim (fun h=>nomatch h) Fs.2⟩
  rintro z LS m rfl;refine ⟨by trivial,fun c=>⟨(_,_,_,_,_,_,_,_,_,_,_,_,_,_,_,_),by and_intros<;>rfl,?_⟩,fun c=>⟨(_,_,_,_,_,_,_,_,_,_,_,_,_,_,_,_),by and_intros<;>rfl,?_⟩⟩
  ·have e:lI L M s=⟨kG L M,s.hi,false,s.b⟩:=by unfold lI;rw [if_pos v,if_pos (of_decide_eq_true c)]
   rw [e];exact QQ rfl rfl (t.le (FE.trans m)) (E.le (C.trans m))
  ·have e:lI L M s=s:=by unfold lI;rw [if_pos v,if_neg (of_decide_eq_false c)]
   rw [e];exact gs.le (C.trans m)
 ·have v:¬0<(dC M L).num.sign:=of_decide_eq_false v;refine ⟨fun z _=>z=decide (s.b=true\/kG L M<s.hi),⟨fun n=>⟨true,by and_intros<;>rfl,?_⟩,fun n Ge H=>(mj (t.le (FE.trans H)) (E.le (C.trans H)) st ss.2 (by omega)).mono ?_⟩,?_⟩
  ·exact (decide_eq_true (.inl n)).symm
  ·rintro r DH b6 rfl;refine ⟨_,rfl,decide (eY (kG L M) s.hi<(0:Int)),by and_intros<;>rfl,?_⟩;rw [n];exact decide_eq_decide.2 ⟨fun h=>.inr (mo.1 h),fun h=>h.elim (fun h=>nomatch h) mo.2⟩
  rintro z LS m rfl;refine ⟨by trivial,fun c=>⟨(_,_,_,_,_,_,_,_,_,_,_,_,_,_,_,_),by and_intros<;>rfl,?_⟩,fun c=>⟨(_,_,_,_,_,_,_,_,_,_,_,_,_,_,_,_),by and_intros<;>rfl,?_⟩⟩
  ·have e:lI L M s=⟨s.lo,kG L M,s.a,false⟩:=by unfold lI;rw [if_neg v,if_pos (of_decide_eq_true c)]
   rw [e];exact QQ rfl rfl (D.le (C.trans m)) (t.le (FE.trans m))
  ·have e:lI L M s=s:=by unfold lI;rw [if_neg v,if_neg (of_decide_eq_false c)]
   rw [e];exact gs.le (C.trans m)
 rw [yB q] at d;have kk:=fun w=>H_ (w:=w) nz x F sg ss;rw [yB q] at kk;have sz:=NF nz x F q ss;generalize lI L M s=s' at *;clear gs D E;rintro ⟨I,J,N,O,P,Q,R,S,T,U,X,Y,Z,ye,xa,ya⟩ Kl wD gs;dsimp only [Rl] at gs ⊢;obtain ⟨rfl,rfl,D,E⟩:=W8 gs;refine ⟨by trivial,fun z _=>z=decide (s'.a=false/\s'.b=false/\s'.hi<=s'.lo),⟨fun n=>⟨fun hb R6 FF=>(mj (D.le FF) (E.le FF) sz.1 sz.2 (by omega)).mono ?_,fun hb=>⟨false,by and_intros<;>rfl,?_⟩⟩,fun n=>⟨false,by and_intros<;>rfl,?_⟩⟩,?_⟩
 ·rintro r Rk FG rfl;rw [Bool.not_eq_true'] at n hb;refine ⟨_,rfl,decide (eY s'.lo s'.hi≥(0:Int)),by and_intros<;>rfl,decide_eq_decide.2 ⟨fun h=>⟨n,hb,?_⟩,fun h=>?_⟩⟩
  ·refine Rat.not_lt.1 fun g=>?_;have:=mo.2 g;omega
  ·refine Int.not_lt.1 fun g=>?_;have:=mo.1 g;have:=h.2.2;grind
 ·rw [Bool.not_eq_false'] at hb;exact (decide_eq_false fun h=>by rw [hb] at h;cases h.2.1).symm
 ·rw [Bool.not_eq_false'] at n;exact (decide_eq_false fun h=>by rw [n] at h;cases h.1).symm
 rintro z OK Ag rfl;refine ⟨by trivial,fun c R7 Kf=>?_,fun c=>?_⟩
 ·rw [if_pos (of_decide_eq_true c)] at d;exact ⟨_,s',by rw [d];rfl,gs.le (Ag.trans Kf),sz,fun w e=>by rw [d] at e;cases e⟩
 ·rw [if_neg (of_decide_eq_false c)] at d kk;obtain ⟨k1,k2⟩:=kk _ rfl;exact ⟨(((j+1:Nat):Int),_,_,_,_,_,_,_,_,_,_,_,_,_,_,_,_),by dsimp only;omega,by and_intros<;>rfl,next (gs.le Ag) k1 k2 d⟩
theorem FB (x:L3):∀(O:List L3)(j:Nat),j<=O.length->(∀(i':Nat)(h:i'<O.length),i'<j->Sec.ang (Sec.dirL O[i']) (Sec.dirL x)<0)->(∀h:j<O.length,¬Sec.ang (Sec.dirL O[j]) (Sec.dirL x)<0) ->
  insD x O=if ∃h:j<O.length,O[j]=x then O else O.take j++x::O.drop j
 | [],j,hj,_,_=>by
  rw [if_neg (fun ⟨h,_⟩=>absurd h (Nat.not_lt_zero _))];simp [insD]
 | u::r,0,_,_,hge=>by
  have h0:¬Sec.ang (Sec.dirL u) (Sec.dirL x)<0:=hge (Nat.zero_lt_succ _);unfold insD;rw [if_neg h0];by_cases e:u=x
  ·rw [if_pos e,if_pos ⟨Nat.zero_lt_succ _,e⟩]
  ·rw [if_neg e,if_neg (fun ⟨_,h⟩=>e h)];rfl
 | u::r,j+1,hj,hlt,hge=>by
  have h0:Sec.ang (Sec.dirL u) (Sec.dirL x)<0:=hlt 0 (Nat.zero_lt_succ _) (Nat.zero_lt_succ _);unfold insD;rw [if_pos h0,FB x r j (by simpa using hj) (fun i' h a=>hlt (i'+1) (by simpa using h) (by omega)) (fun h=>hge (by simpa using h))];by_cases c:∃h:j<r.length,r[j]=x
  ·obtain ⟨h,e⟩:=c;rw [if_pos ⟨h,e⟩,if_pos ⟨by simpa using h,e⟩]
  ·rw [if_neg c,if_neg (fun ⟨h,e⟩=>c ⟨by simpa using h,e⟩)];rfl
theorem c_ref08_Canon {V:View}{p:OA}{n c:Nat}{ls:List L3}(h:Lst 6 RLv V p n ls)(hb:∀l∈ls,Bd l)(hk:∀l∈ls,okL l=true)(hl:ls.length<=1000) :
  Acts prog 43 #[.slice p n c] V fun r V'=>∃q m e,r=.tuple #[.slice q m e,.bool (decide (ls=[]\/refC ls ls []≠[]))]/\Lst 6 RLv V' q m (refC ls ls []):=by
 obtain rfl:=h.len
 refine wb p _ c V _ ⟨fun z V'=>∃(i:Nat)(O:List L3),z.2.2.2=(i:Int)/\i<=ls.length/\O.length<=i/\(∀q∈O,q∈ls)/\refC ls ls []=refC ls (ls.drop i) O/\GR 6 RLv V' z.1 z.2.1 z.2.2.1 O,fun z=>ls.length-z.2.2.2.toNat,
  ⟨(0,0,[],0),by and_intros<;>rfl,0,[],rfl,Nat.zero_le _,Nat.zero_le _,(fun q I=>by cases I),by rw [List.drop_zero],GR.nil⟩,?_⟩
 rintro ⟨B,P,us,z4⟩ V1 Q ⟨i,O,e4,a8,a9,R,t,H⟩;dsimp only at e4 H;subst e4;have S:=H.len;have C:=H.le;have X:=H.cap;have D:=H.row;refine ⟨rfl,fun d=>?_,fun d=>?_⟩;rotate_left
 ·have d:¬(i:Int)<ls.length:=of_decide_eq_false d;obtain rfl:i=ls.length:=by omega
  rw [List.drop_length] at t;have t:refC ls ls []=O:=t;rw [t];subst S;refine ⟨fun E j9 Y bk hb=>?_,fun E j9 Y bk hb=>?_⟩
  ·have E:((ls.length:Nat):Int)=0:=by simpa using E
   refine ⟨_,_,P,?_,Lst.of_mrow hb (D.le fun _ _ g=>RLv.le g Y) (by decide) C⟩;rw [decide_eq_true (.inl (List.length_eq_zero_iff.1 (by omega)))]
  ·have E:¬((ls.length:Nat):Int)=0:=by simpa using E
   refine ⟨_,_,P,?_,Lst.of_mrow hb (D.le fun _ _ g=>RLv.le g Y) (by decide) C⟩;congr 5;refine decide_eq_decide.2 ⟨fun h=>.inr fun e=>by rw [e] at h;simp at h,fun h=>?_⟩;rcases h with h|h
   ·rw [h] at E;exact absurd rfl E
   ·have:=List.length_pos_iff.2 h;omega
 have d:(i:Int)<ls.length:=of_decide_eq_true d;have y:i<ls.length:=by omega
 have w:i64.wrap ((i:Int)+1)=((i+1:Nat):Int):=by rw [i64w (by omega)];rfl
 dsimp only;rw [Int.toNat_natCast,w];obtain ⟨ad,ha,xs,-,hf,k⟩:=(h.le Q fun _ _ g=>RLv.le g Q).at_ i y;have Z:=hf;obtain ⟨eb,ep,en,ec,fb,fp,fn,fe,gb,gp,gn,gc,ex⟩:=rlv_shape hf;have ex:=congrArg Array.toList (Value.agg.inj ex);dsimp only at ex;subst ex;have ed:ls.drop i=ls[i]::ls.drop (i+1):=List.drop_eq_getElem_cons y;have Yh:refC ls (ls[i]::ls.drop (i+1)) O=refC ls (ls.drop (i+1)) (if (edgeG ls[i] ls fullSp).isSome=true then insD ls[i] O else O):=rfl;rw [ed,Yh] at t;have F:Bd ls[i]:=hb _ (List.getElem_mem y);have a0:ls[i]∈ls:=List.getElem_mem y;have Pl:∀q∈O,Bd q:=fun q I=>hb q (R q I);clear H;refine ⟨rJ ha,⟨by omega,by omega⟩,eb,ep,en,ec,fb,fp,fn,fe,gb,gp,gn,gc,ad,ha,k 0 _ rfl,k 1 _ rfl,k 2 _ rfl,k 3 _ rfl,k 4 _ rfl,k 5 _ rfl,fun V2 T=>(oE (h.le (Q.trans T) fun _ _ g=>RLv.le g (Q.trans T)) hb hk hl y).mono ?_⟩;generalize ls[i]=x at *;rintro r V3 l3 ⟨u,s,rfl,gs,-,-⟩;obtain ⟨_,_,_,_,_,_,_,_,_,_,_,_,_,_,rfl⟩:=vk gs;refine ⟨_,_,_,_,_,_,_,_,_,_,_,_,_,_,_,_,_,rfl,fun o=>?_,fun o=>?_⟩
 ·rw [Bool.not_eq_true'] at o;rw [o,if_neg (by decide)] at t;exact ⟨(B,P,us,((i+1:Nat):Int)),by dsimp only;omega,by and_intros<;>rfl,i+1,O,rfl,y,by omega,R,t,S,C,X,D.le fun _ _ g=>RLv.le g (T.trans l3)⟩
 rw [Bool.not_eq_false'] at o;rw [o,if_pos rfl] at t;have G:RLv V1 _ x:=Z;refine ⟨fun z _=>∃j:Nat,z=(j:Int)/\j<=O.length/\∀(A:Nat)(h:A<O.length),A<j->Sec.ang (Sec.dirL O[A]) (Sec.dirL x)<0,fun z=>O.length-z.toNat,⟨0,by and_intros<;>rfl,0,rfl,Nat.zero_le _,fun A _ h=>absurd h (Nat.not_lt_zero A)⟩,?_⟩;rintro z V4 l4 ⟨j,rfl,a1,jl⟩;have wj:i64.wrap ((j:Int)+1)=((j+1:Nat):Int):=by rw [i64w (by omega)];rfl
 rw [Int.toNat_natCast,wj];have cO:=T.trans (l3.trans l4);have sx:=F.szl;have dx:=kR F;refine ⟨rfl,fun z _=>z=true↔∃h:j<O.length,Sec.ang (Sec.dirL O[j]) (Sec.dirL x)<0,⟨fun d=>?_,fun d=>⟨false,by and_intros<;>rfl,?_⟩⟩,?_⟩
 ·have d:(j:Int)<(B:Int):=of_decide_eq_true d;have v:j<O.length:=by omega
  have K:=Pl _ (List.getElem_mem v);have sj:=K.szl;have dj:=kR K;obtain ⟨b1,p1,n1,c1,b2,p2,n2,c2,b3,p3,n3,c3,eF,Ig,hr⟩:=AB D v;refine ⟨⟨by omega,by omega⟩,C,b1,p1,n1,c1,b2,p2,n2,c2,b3,p3,n3,c3,⟨eF,Ig⟩,fun V5 l5=>(cP (hr.le (cO.trans l5)) sj.1 sj.2.1 sj.2.2 (by omega)).mono ?_⟩;rintro r V6 l6 gd;have VT:=gd;obtain ⟨_,_,_,_,_,_,_,_,_,_,_,_,rfl,-⟩:=gd;refine ⟨_,_,_,_,_,_,_,_,_,_,_,_,_,_,rfl,fun V7 U=>(cP (RL.le G (cO.trans (l5.trans (l6.trans U)))) sx.1 sx.2.1 sx.2.2 (by omega)).mono ?_⟩;rintro r V8 W ge;have Yr:=ge;obtain ⟨_,_,_,_,_,_,_,_,_,_,_,_,rfl,-⟩:=ge;refine ⟨_,_,_,_,_,_,_,_,_,_,_,_,_,_,rfl,fun V9 l9=>(wM (a:=Sec.dirL O[j]) (b:=Sec.dirL x) (VT.le (U.trans (W.trans l9))) (Yr.le l9) dj.1 dj.2 dx.1 dx.2 (by omega)).mono ?_⟩;rintro r a2 L rfl;exact ⟨_,rfl,decide (Sec.ang (Sec.dirL O[j]) (Sec.dirL x)<0),by and_intros<;>rfl,by dsimp only;rw [decide_eq_true_eq];exact ⟨fun h=>⟨v,h⟩,fun ⟨_,h⟩=>h⟩⟩
 ·have d:¬(j:Int)<(B:Int):=of_decide_eq_false d;exact ⟨(fun h=>nomatch h),fun ⟨h,_⟩=>absurd h (by omega)⟩
 rintro z V7 U PM;refine ⟨rfl,fun o=>?_,fun o=>?_⟩
 ·obtain ⟨v,a3⟩:=PM.1 o;refine ⟨((j+1:Nat):Int),by dsimp only;omega,by and_intros<;>rfl,j+1,rfl,v,fun A h b0=>?_⟩;by_cases e:A=j
  ·subst e;exact a3
  ·exact jl A h (by omega)
 have a4:∀h:j<O.length,¬Sec.ang (Sec.dirL O[j]) (Sec.dirL x)<0:=fun h h'=>by
  have:=PM.2 ⟨h,h'⟩;rw [o] at this;cases this
 have f:=FB x O j a1 jl a4;have Ps:∀q∈insD x O,q∈ls:=fun q I=>(insD_mem.1 I).elim (fun e=>e▸a0) (R q);have ck:=cO.trans U;refine ⟨fun z _=>z=true↔∃h:j<O.length,O[j]=x,⟨fun d=>?_,fun d=>⟨false,by and_intros<;>rfl,?_⟩⟩,?_⟩
 ·have d:(j:Int)<(B:Int):=of_decide_eq_true d;have v:j<O.length:=by omega
  obtain ⟨b1,p1,n1,c1,b2,p2,n2,c2,b3,p3,n3,c3,eF,Ig,hr⟩:=AB D v;refine ⟨⟨by omega,by omega⟩,C,b1,p1,n1,c1,b2,p2,n2,c2,b3,p3,n3,c3,⟨eF,Ig⟩,fun V8 W=>(iT (hr.le (ck.trans W)) (RL.le G (ck.trans W)) (Pl _ (List.getElem_mem v)).szl F.szl (by omega)).mono ?_⟩;rintro r V9 l9 rfl;exact ⟨_,rfl,(kZ O[j] x==(0:Int)),by and_intros<;>rfl,by dsimp only;rw [BK,decide_eq_true_eq];exact ⟨fun h=>⟨v,h⟩,fun ⟨_,h⟩=>h⟩⟩
 ·have d:¬(j:Int)<(B:Int):=of_decide_eq_false d;exact ⟨(fun h=>nomatch h),fun ⟨h,_⟩=>absurd h (by omega)⟩
 rintro z a2 L Ix;have GV:=ck.trans L;refine ⟨rfl,fun o=>?_,fun o a5 M bk hb J=>?_⟩
 ·have hex:=Ix.1 o;rw [if_pos hex] at f;rw [f] at t;exact ⟨(B,P,us,((i+1:Nat):Int)),by dsimp only;omega,by and_intros<;>rfl,i+1,O,rfl,y,by omega,R,t,S,C,X,D.le fun _ _ g=>RLv.le g GV⟩
 ·have a6:¬∃h:j<O.length,O[j]=x:=fun h=>by have:=Ix.2 h;rw [o] at this;cases this
  rw [if_neg a6] at f;obtain ⟨xs,ys,x1,x2,x3,y1,y2,y3,r1,r2,r3,r4,r5⟩:=FC (V:=a5) (GR.mono ⟨S,C,X,D⟩ fun _ _ g=>RLv.le g (GV.trans M)) (by decide) (fun _ _=>pt) hb (es:=[_,_,_,_,_,_]) rfl (RLv.le G (GV.trans M)) (j:=j) (by omega);refine ⟨⟨by omega,by omega⟩,⟨by omega,by omega⟩,⟨by omega,by omega⟩,xs,x1,x2,by omega,Nat.le_refl _,Nat.le_refl 6,x2,x3,fun b5 J2 sp c' h1 h2=>?_⟩;rw [r1,r2];refine ⟨ys,y1,y2,Nat.le_refl _,y3,by omega,by omega,r3,r4,fun a7 N h3 h4=>⟨(j+(1+(B-j)),N,_,((i+1:Nat):Int)),by dsimp only;omega,by and_intros<;>first|rfl|omega,i+1,insD x O,rfl,y,?_,Ps,t,?_⟩⟩
  ·rw [f,List.length_append,List.length_take,List.length_cons,List.length_drop];omega
  ·show GR 6 RLv _ _ _ _ (insD x O);rw [f];exact r5 a7 N h3 h4
theorem wP {V:View}{lp:OA}{ln lc:Nat}{ls:List L3}{pv vv:Value}{p v:Rat×Rat}(h:Lst 6 RLv V lp ln ls)(hb:∀l∈ls,Bd l)(hl:ls.length<=1000)(hp:RP V pv p.1 p.2)(hv:RP V vv v.1 v.2)(s1:Sz 60000000 p.1)(s2:Sz 60000000 p.2)(s3:Sz 6000 v.1)(s4:Sz 6000 v.2) :
  Acts prog 108 #[.slice lp ln lc,pv,vv] V fun r V'=>RP V' r (p.1+ls.foldl (Sec.Aj p v) 1*v.1) (p.2+ls.foldl (Sec.Aj p v) 1*v.2)/\Sz 500000000 (p.1+ls.foldl (Sec.Aj p v) 1*v.1)/\Sz 500000000 (p.2+ls.foldl (Sec.Aj p v) 1*v.2):=by
 have hn:=h.len;subst hn;have d:=hp;have C:=hv;obtain ⟨_,_,_,_,_,_,_,_,_,_,_,_,rfl,-⟩:=hp;obtain ⟨_,_,_,_,_,_,_,_,_,_,_,_,rfl,-⟩:=hv;refine xJ lp ls.length lc _ _ _ _ _ _ _ _ _ _ _ _ _ _ _ _ _ _ _ _ _ _ _ _ _ _ _ _ V _ fun V1 l1=>(eE 1 (by omega) (by omega)).mono ?_;rintro r V2 l2 g;have P:=g;obtain ⟨_,_,_,_,_,_,rfl⟩:=g.shape;have Q:=l1.trans l2;refine ⟨_,_,_,_,_,_,_,rfl,fun z V'=>∃i:Nat,z.1=(i:Int)/\i<=ls.length/\RQ V' (.agg #[.bool z.2.1,.slice z.2.2.1 z.2.2.2.1 z.2.2.2.2.1,.slice z.2.2.2.2.2.1 z.2.2.2.2.2.2.1 z.2.2.2.2.2.2.2]) ((ls.take i).foldl (Sec.Aj p v) 1)/\Sz 400000000 ((ls.take i).foldl (Sec.Aj p v) 1),fun z=>(ls.length-z.1).toNat,⟨(0,_,_,_,_,_,_,_),by and_intros<;>first|rfl|trivial,0,rfl,Nat.zero_le _,P,tA.mono (by omega)⟩,?_⟩;rintro ⟨z,zb,zp,zn,D,zq,zm,ze⟩ V3 l3 ⟨i,e,hi,gs,ss⟩;dsimp only at e gs ⊢;subst e;have j:=Q.trans l3;refine ⟨by trivial,fun c=>?_,fun c Rk R=>?_⟩
 ·have c:i<ls.length:=by have:=of_decide_eq_true c;omega
  have w1:i64.wrap ((i:Int)+1)=((i+1:Nat):Int):=by rw [i64w (by omega)];rfl
  rw [w1,Int.toNat_natCast];obtain ⟨is,b1,p1,n1,c1,b2,p2,n2,c2,b3,p3,n3,c3,a,S,a0,a1,a2,a3,a4,a5,m⟩:=kD (h.le j fun _ _ g=>RLv.le g j) c;have T:=hb _ (List.getElem_mem c);have sl:=T.szl;have et:=I4 (p:=p) (v:=v) c 1;generalize ls[i]=A at *;generalize (ls.take i).foldl (Sec.Aj p v) 1=s at *;have next:∀{W:View} {b:Bool} {q1 q2:OA} {m1 d1 m2 d2:Nat} {s':Rat},RQ W (.agg #[.bool b,.slice q1 m1 d1,.slice q2 m2 d2]) s'->Sz 400000000 s'->Sec.Aj p v s A=s'->∃i':Nat,((i+1:Nat):Int)=(i':Int)/\i'<=ls.length/\RQ W (.agg #[.bool b,.slice q1 m1 d1,.slice q2 m2 d2]) ((ls.take i').foldl (Sec.Aj p v) 1)/\Sz 400000000 ((ls.take i').foldl (Sec.Aj p v) 1):=fun n f e=>⟨i+1,rfl,c,by rw [et,e];exact n,by rw [et,e];exact f⟩;have t1:Sz 70000000 (p.1+((1:Int):Rat)*v.1):=(s1.add (tA.mul s3)).mono (by omega);have t2:Sz 70000000 (p.2+((1:Int):Rat)*v.2):=(s2.add (tA.mul s4)).mono (by omega);refine ⟨is,⟨by omega,by omega⟩,b1,p1,n1,c1,b2,p2,n2,c2,b3,p3,n3,c3,a,S,a0,a1,a2,a3,a4,a5,fun V4 l4=>(eE 1 (by omega) (by omega)).mono ?_⟩;rintro r V5 l5 g;have P:=g;obtain ⟨_,_,_,_,_,_,rfl⟩:=g.shape;have U:=l4.trans l5;refine ⟨_,_,_,_,_,_,_,rfl,fun V6 H=>(gE (d.le (j.trans (U.trans H))) (P.le H) (C.le (j.trans (U.trans H))) s1 s2 (tA.mono (by omega)) s3 s4 (by omega)).mono ?_⟩;rintro r V7 l7 E;have X:=E;obtain ⟨_,_,_,_,_,_,_,_,_,_,_,_,rfl,-⟩:=E;have Mo:=U.trans (H.trans l7);refine ⟨_,_,_,_,_,_,_,_,_,_,_,_,_,_,rfl,fun V8 Y=>(gi (k:=70000000) (m.le (Mo.trans Y)) (X.le Y) (sl.1.mono (by omega)) (sl.2.1.mono (by omega)) (sl.2.2.mono (by omega)) t1 t2 (by omega)).mono ?_⟩;rintro r V9 l9 gA;have Yn:RQ V9 r (ai A (p.1+((1:Int):Rat)*v.1) (p.2+((1:Int):Rat)*v.2)):=gA;obtain ⟨_,_,_,_,_,_,rfl⟩:=gA.shape;have Z:=Mo.trans (Y.trans l9);refine ⟨_,_,_,_,_,_,_,rfl,fun a9 o=>(gi (k:=70000000) (m.le (Z.trans o)) (d.le (j.trans (Z.trans o))) (sl.1.mono (by omega)) (sl.2.1.mono (by omega)) (sl.2.2.mono (by omega)) (s1.mono (by omega)) (s2.mono (by omega)) (by omega)).mono ?_⟩;rintro r a6 F gB;have SA:RQ a6 r (ai A p.1 p.2):=gB;obtain ⟨_,_,_,_,_,_,rfl⟩:=gB.shape;have zA:=QV T (p:=((p.1+((1:Int):Rat)*v.1),(p.2+((1:Int):Rat)*v.2))) t1 t2;have I:=QV T s1 s2;have TJ:=Z.trans (o.trans F);refine ⟨_,_,_,_,_,_,_,rfl,fun b0 q=>(fT (Yn.le (o.trans (F.trans q))) (SA.le q) zA I (by omega)).mono ?_⟩;rintro r b5 a7 gc
  have ec:ai A (p.1+((1:Int):Rat)*v.1) (p.2+((1:Int):Rat)*v.2)-ai A p.1 p.2=Sec.nv A v:=by
   have:=Sec.eU A p v 1;have e1:((1:Int):Rat)=1:=rfl;rw [e1,this];grind
  have D:=zA.sub I;dsimp only at D;rw [ec] at gc D;have L9:=gc;obtain ⟨_,_,_,_,_,_,rfl⟩:=gc.shape;have TL:=TJ.trans (q.trans a7);refine ⟨_,_,_,_,_,_,_,rfl,fun b6 cO=>(jH (L9.le cO)).mono ?_⟩;rintro r b7 dh rfl;have J:=TL.trans (cO.trans dh);refine ⟨_,rfl,fun t=>⟨(((i+1:Nat):Int),_,_,_,_,_,_,_),by dsimp only;omega,by and_intros<;>first|rfl|trivial,next (gs.le J) ss ?_⟩,fun t j9 K=>(EI (x:=p.1) (y:=p.2) (m.le (J.trans K)) (d.le (j.trans (J.trans K))) ⟨sl.1.mono (Nat.le_trans (by omega) (Nat.le_refl 60000000)),sl.2.1.mono (by omega),sl.2.2.mono (by omega)⟩ s1 s2 (by omega)).mono ?_⟩
  ·unfold Sec.Aj;rw [if_pos (.inl (Sec.eT.1 (beq_iff_eq.1 t)))]
  have t:Sec.nv A v≠0:=fun e=>by rw [Sec.eT.2 e] at t;cases t
  rintro r ng ck rfl;have L:=J.trans (K.trans ck);refine ⟨_,rfl,fun v0=>⟨(((i+1:Nat):Int),_,_,_,_,_,_,_),by dsimp only;omega,by and_intros<;>first|rfl|trivial,next (gs.le L) ss ?_⟩,fun v0 oo M=>(gi (k:=70000000) (m.le (L.trans M)) (d.le (j.trans (L.trans M))) (sl.1.mono (by omega)) (sl.2.1.mono (by omega)) (sl.2.2.mono (by omega)) (s1.mono (by omega)) (s2.mono (by omega)) (by omega)).mono ?_⟩
  ·unfold Sec.Aj;rw [if_pos (.inr (Sec.eT.1 (beq_iff_eq.1 v0)))]
  have v0:ai A p.1 p.2≠0:=fun e=>by rw [Sec.eT.2 e] at v0;cases v0
  have ns:¬(Sec.nv A v=0\/ai A p.1 p.2=0):=fun h=>h.elim t v0;rintro r se d_ gD;have Yp:RQ se r (ai A p.1 p.2):=gD;obtain ⟨_,_,_,_,_,_,rfl⟩:=gD.shape;refine ⟨_,_,_,_,_,_,_,rfl,fun DB gY=>(fS (Yp.le gY) (L9.le (cO.trans (dh.trans (K.trans (ck.trans (M.trans (d_.trans gY))))))) (fun e=>t (Rat.num_eq_zero.1 e)) I D (by omega)).mono ?_⟩;rintro r pZ fN gt;have a8:=gt;obtain ⟨_,_,_,_,_,_,rfl⟩:=gt.shape;have zt:=(I.mul (dJ D)).neg;refine ⟨_,_,_,_,_,_,_,rfl,fun rf iN=>(DV (a8.le iN)).mono ?_⟩;rintro r tE fV go;have u:=go;obtain ⟨_,_,_,_,_,_,rfl⟩:=go.shape;have Cj:=L.trans (M.trans (d_.trans (gY.trans (fN.trans (iN.trans fV)))));refine ⟨_,_,_,_,_,_,_,rfl,fun Ge N=>(jH (u.le N)).mono ?_⟩;rintro r DH w rfl;have P0:=Cj.trans (N.trans w);have eh:-(ai A p.1 p.2*(Sec.nv A v)⁻¹)*((2:Int):Rat)⁻¹=-(ai A p.1 p.2*(Sec.nv A v)⁻¹)*(1 / 2):=by rw [show (((2:Int):Rat))⁻¹=1 / 2 by decide +kernel]
  have zh:Sz 400000000 (-(ai A p.1 p.2*(Sec.nv A v)⁻¹)*((2:Int):Rat)⁻¹):=(zt.mul (dJ (DD (z:=2) (by omega)))).mono (by omega);refine ⟨_,rfl,fun n LS B=>(nq (u.le (N.trans (w.trans B))) zt (by omega)).mono ?_,fun n=>⟨(((i+1:Nat):Int),_,_,_,_,_,_,_),by dsimp only;omega,by and_intros<;>first|rfl|trivial,next (gs.le P0) ss ?_⟩⟩
  ·have n:-(ai A p.1 p.2*(Sec.nv A v)⁻¹)>0:=Sec.pE.1 (of_decide_eq_true n);rintro r Oh G gh;have Yv:=gh;obtain ⟨_,_,_,_,_,_,rfl⟩:=gh.shape;have P4:=P0.trans (B.trans G);refine ⟨_,_,_,_,_,_,_,rfl,fun Oi O=>(mj (Yv.le O) (gs.le (P4.trans O)) zh ss (by omega)).mono ?_⟩;rintro r Rj Af rfl;refine ⟨_,rfl,fun f Kl wD=>(nq (u.le (N.trans (w.trans (B.trans (G.trans (O.trans (Af.trans wD))))))) zt (by omega)).mono ?_,fun f=>⟨(((i+1:Nat):Int),_,_,_,_,_,_,_),by dsimp only;omega,by and_intros<;>first|rfl|trivial,next (gs.le (P4.trans (O.trans Af))) ss ?_⟩⟩
   ·have f:=mo.1 (of_decide_eq_true f);rintro r R6 FF gk;have Yw:=gk;obtain ⟨_,_,_,_,_,_,rfl⟩:=gk.shape;refine ⟨_,_,_,_,_,_,_,rfl,(((i+1:Nat):Int),_,_,_,_,_,_,_),by dsimp only;omega,by and_intros<;>first|rfl|trivial,next Yw zh ?_⟩;rw [eh] at f ⊢;unfold Sec.Aj;rw [if_neg ns,if_pos ⟨n,f⟩]
   ·have f:¬_:=fun h=>of_decide_eq_false f (mo.2 h);rw [eh] at f;unfold Sec.Aj;rw [if_neg ns,if_neg fun h=>f h.2]
  ·have n:¬_:=fun h=>of_decide_eq_false n (Sec.pE.2 h);unfold Sec.Aj;rw [if_neg ns,if_neg fun h=>n h.1]
 ·have c:i=ls.length:=by have:=of_decide_eq_false c;omega
  subst c;rw [List.take_length] at gs ss;generalize ls.foldl (Sec.Aj p v) 1=s at *;refine (gE (d.le (j.trans R)) (gs.le R) (C.le (j.trans R)) s1 s2 ss (s3.mono (by omega)) (s4.mono (by omega)) (by omega)).mono ?_;rintro r OK Ag E;have X:=E;obtain ⟨_,_,_,_,_,_,_,_,_,_,_,_,rfl,-⟩:=E;exact ⟨_,_,_,_,_,_,_,_,_,_,_,_,_,_,rfl,fun R7 Kf=>⟨X.le Kf,(s1.add (ss.mul s3)).mono (by omega),(s2.add (ss.mul s4)).mono (by omega)⟩⟩
def hasC (c:List Sd)(p:Rat×Rat):Bool:=c.all fun s=>decide (0<=ai s.1 p.1 p.2)
def inC (c:List Sd)(p:Rat×Rat):Bool:=c.all fun s=>decide (0<ai s.1 p.1 p.2)
theorem JD (q:Rat):q.num.sign<0↔¬0<=q:=by
 have:=@Sec.CS q;constructor
 ·intro h;have:=this.1 h;grind
 ·intro h;exact this.2 (by grind)
theorem JC (q:Rat):q.num.sign<=0↔¬0<q:=by
 have:=@Sec.pE q;constructor
 ·intro h a;have:=this.2 a;omega
 ·intro h;by_cases c:q.num.sign>0
  ·exact absurd (this.1 c) h
  ·omega
theorem c_Cell_Has {V:View}{p:OA}{n c:Nat}{cs:List Sd}{pv:Value}{x:Rat×Rat}(h:Lst 17 RSd V p n cs)(hp:RPt V pv x.1 x.2)(s1:Sz 1000000000 x.1)(s2:Sz 1000000000 x.2)(hn:cs.length<=100000) :
  Acts prog 56 #[.slice p n c,pv] V fun r V'=>r=.bool (hasC cs x):=by
 have k:=hp;obtain rfl:=h.len;obtain ⟨_,_,_,_,_,_,rfl,-,-⟩:=hp;refine sH p _ c _ _ _ _ _ _ V _ ⟨fun z V'=>∃j:Nat,z=(j:Int)/\j<=cs.length/\hasC (cs.take j) x=true,fun z=>cs.length-z.toNat,⟨0,by and_intros<;>rfl,0,rfl,Nat.zero_le _,rfl⟩,?_⟩;rintro R S l ⟨j,rfl,B,b⟩;refine ⟨rfl,fun d=>?_,fun d C D=>?_⟩
 ·have d:(j:Int)<cs.length:=of_decide_eq_true d;have i:j<cs.length:=by omega
  have w:i64.wrap ((j:Int)+1)=((j+1:Nat):Int):=by rw [i64w (by omega)];rfl
  rw [Int.toNat_natCast,w];obtain ⟨E,T,U,W,X,Y,Z,a7,a8,a9,b1,b2,b3,b4,b5,b6,a,F,G,H,I,J,K,L,M,N,O,P,m,o,q,s,t,u,v,y⟩:=lst_rsd (h.le l fun _ _ g=>RSd.le g l) i;obtain ⟨Q,-,-,-⟩:=y.both;refine ⟨E,⟨by omega,by omega⟩,_,_,_,_,_,_,_,_,_,_,_,_,_,_,_,_,_,a,F,G,H,I,J,K,L,M,N,O,P,m,o,q,s,t,u,v,fun V2 A=>(En (Q.le A) (k.le (l.trans A)) (y.2.1.szl.up (by omega)) s1 s2 (by omega)).mono ?_⟩;rintro r V3 l3 rfl;refine ⟨_,rfl,fun f C D=>?_,fun f=>⟨((j+1:Nat):Int),by dsimp only;omega,by and_intros<;>rfl,j+1,rfl,i,?_⟩⟩
  ·have f:=(JD _).1 (of_decide_eq_true f)
   have e:hasC cs x=false:=by
    unfold hasC;rw [List.all_eq_false];exact ⟨_,List.getElem_mem i,by simpa using f⟩
   rw [e]
  ·have f:¬_:=fun h=>of_decide_eq_false f ((JD _).2 h);have f:=Classical.not_not.1 f;unfold hasC at b ⊢;rw [List.take_add_one,List.getElem?_eq_getElem i,List.all_append,b];simpa using f
 ·have d:¬(j:Int)<cs.length:=of_decide_eq_false d;obtain rfl:j=cs.length:=by omega
  rw [List.take_length] at b;rw [b]
theorem c_Cell_Inside {V:View}{p:OA}{n c:Nat}{cs:List Sd}{pv:Value}{x:Rat×Rat}(h:Lst 17 RSd V p n cs)(hp:RPt V pv x.1 x.2)(s1:Sz 1000000000 x.1)(s2:Sz 1000000000 x.2)(hn:cs.length<=100000) :
  Acts prog 54 #[.slice p n c,pv] V fun r V'=>r=.bool (inC cs x):=by
 have k:=hp;obtain rfl:=h.len;obtain ⟨_,_,_,_,_,_,rfl,-,-⟩:=hp;refine nV p _ c _ _ _ _ _ _ V _ ⟨fun z V'=>∃j:Nat,z=(j:Int)/\j<=cs.length/\inC (cs.take j) x=true,fun z=>cs.length-z.toNat,⟨0,by and_intros<;>rfl,0,rfl,Nat.zero_le _,rfl⟩,?_⟩;rintro R S l ⟨j,rfl,B,b⟩;refine ⟨rfl,fun d=>?_,fun d C D=>?_⟩
 ·have d:(j:Int)<cs.length:=of_decide_eq_true d;have i:j<cs.length:=by omega
  have w:i64.wrap ((j:Int)+1)=((j+1:Nat):Int):=by rw [i64w (by omega)];rfl
  rw [Int.toNat_natCast,w];obtain ⟨E,T,U,W,X,Y,Z,a7,a8,a9,b1,b2,b3,b4,b5,b6,a,F,G,H,I,J,K,L,M,N,O,P,m,o,q,s,t,u,v,y⟩:=lst_rsd (h.le l fun _ _ g=>RSd.le g l) i;obtain ⟨Q,-,-,-⟩:=y.both;refine ⟨E,⟨by omega,by omega⟩,_,_,_,_,_,_,_,_,_,_,_,_,_,_,_,_,_,a,F,G,H,I,J,K,L,M,N,O,P,m,o,q,s,t,u,v,fun V2 A=>(En (Q.le A) (k.le (l.trans A)) (y.2.1.szl.up (by omega)) s1 s2 (by omega)).mono ?_⟩;rintro r V3 l3 rfl;refine ⟨_,rfl,fun f C D=>?_,fun f=>⟨((j+1:Nat):Int),by dsimp only;omega,by and_intros<;>rfl,j+1,rfl,i,?_⟩⟩
  ·have f:=(JC _).1 (of_decide_eq_true f)
   have e:inC cs x=false:=by
    unfold inC;rw [List.all_eq_false];exact ⟨_,List.getElem_mem i,by simpa using f⟩
   rw [e]
  ·have f:¬_:=fun h=>of_decide_eq_false f ((JC _).2 h);have f:=Classical.not_not.1 f;unfold inC at b ⊢;rw [List.take_add_one,List.getElem?_eq_getElem i,List.all_append,b];simpa using f
 ·have d:¬(j:Int)<cs.length:=of_decide_eq_false d;obtain rfl:j=cs.length:=by omega
  rw [List.take_length] at b;rw [b]
end Go.Proofs.Tryz
namespace Go.Proofs.Tryz
open Go.Eng
set_option maxRecDepth 100000
end Go.Proofs.Tryz
namespace Go.Proofs.Tryz
open Go.Eng Go.Big
def ku (cs:List Sd)(x:Rat×Rat):Int:=if hasC cs x=true then (if inC cs x=true then 2 else 1) else 0
theorem row_ones {V:View}{vs:List Value}{ls:List L3}(h:Row 6 RLv V vs ls)(hl:vs.length=ls.length*6):∀v∈vs,v.oneCell'=true:=by
 intro v a;obtain ⟨m,hm,e⟩:=List.mem_iff_getElem.1 a;exact row_one_cell h (by decide) (fun _ _=>pt) (m:=m) (by omega) (by rw [←e];exact List.getElem?_eq_getElem hm)
def Cb (ls:List L3):Bool:=decide (ls=[]\/∃l∈ls,(edgeG l ls fullSp).isSome=true)
theorem Iz {ls:List L3}(hk:∀m∈ls,okL m=true):Cb ls=true↔∃q,Sec.pos ls q:=by
 unfold Cb;rw [decide_eq_true_eq,←GQ hk];refine or_congr Iff.rfl ⟨fun ⟨l,a,b⟩=>⟨l,a,(tj (uX (hk l a))).1 b⟩,fun ⟨l,a,b⟩=>⟨l,a,(tj (uX (hk l a))).2 b⟩⟩
theorem FV (V:View):RP V (.agg #[.bool false,.slice none 0 0,.slice none 0 0,.bool false,.slice none 0 0,.slice none 0 0]) 0 0:=⟨_,_,_,_,_,_,_,_,_,_,_,_,rfl,Rv _,Rv _⟩
theorem wS {V:View}{cp:OA}{cn cc:Nat}{ls:List L3}(h:Lst 6 RLv V cp cn ls)(hb:∀l∈ls,Bd l)(hk:∀l∈ls,okL l=true)(hl:ls.length<=1000) :
  Acts prog 57 #[.slice cp cn cc] V fun r V'=>∃u p,r=.tuple #[u,.bool (Cb ls)]/\RP V' u (Prod.fst p) (Prod.snd p):=by
 have Z:=h.len;subst Z;refine we cp ls.length cc V _ ⟨fun f V1 l1=>?_,fun f=>⟨fun z _=>∃i:Nat,z=(i:Int)/\i<=ls.length/\∀(k:Nat)(g:k<ls.length),k<i->(edgeG ls[k] ls fullSp).isSome=false,fun z=>(ls.length-z).toNat,⟨0,by and_intros<;>rfl,0,rfl,Nat.zero_le _,fun k _ g=>absurd g (Nat.not_lt_zero k)⟩,?_⟩⟩
 ·have e:ls=[]:=List.length_eq_zero_iff.1 (by have:=of_decide_eq_true f;omega);refine ⟨_,(0,0),?_,FV V1⟩;rw [show Cb ls=true from decide_eq_true (.inl e)]
 have f:ls.length≠0:=fun e=>by rw [e] at f;cases f
 rintro z V2 t ⟨i,rfl,hi,J⟩;refine ⟨by trivial,fun b=>?_,fun b j9 cQ=>?_⟩;rotate_left
 ·have e:i=ls.length:=by have:=of_decide_eq_false b;omega
  subst e;refine ⟨_,(0,0),?_,FV j9⟩;rw [show Cb ls=false from decide_eq_false ?_];rintro (g|⟨l,g1,M⟩)
  ·rw [g] at f;exact f rfl
  ·obtain ⟨k,N,rfl⟩:=List.mem_iff_getElem.1 g1;rw [J k N N] at M;cases M
 have b:i<ls.length:=by have:=of_decide_eq_true b;omega
 have w1:i64.wrap ((i:Int)+1)=((i+1:Nat):Int):=by rw [i64w (by omega)];rfl
 rw [w1,Int.toNat_natCast];have w:∀{W:View},V.Le W->Lst 6 RLv W cp ls.length ls:=fun g=>h.le g fun _ _ k=>RLv.le k g;obtain ⟨is,b1,p1,n1,c1,b2,p2,n2,c2,b3,p3,n3,c3,a,x,a0,a1,a2,a3,a4,a5,n⟩:=kD (w t) b;have O:=hb _ (List.getElem_mem b);have ok:=hk _ (List.getElem_mem b);have hm:=List.getElem_mem b;have sl:=O.szl;have nz:=uX ok;have y:=kR O
 have YS:(edgeG ls[i] ls fullSp).isSome=false->∀(k:Nat)(g:k<ls.length),k<i+1->(edgeG ls[k] ls fullSp).isSome=false:=fun e k g a6=>by
  by_cases e':k=i
  ·subst e';exact e
  ·exact J k g (by omega)
 refine ⟨is,⟨by omega,by omega⟩,b1,p1,n1,c1,b2,p2,n2,c2,b3,p3,n3,c3,a,x,a0,a1,a2,a3,a4,a5,fun V3 P=>(oE (w (t.trans P)) hb hk hl b).mono ?_⟩;generalize ls[i]=L at *;rintro r V4 l4 ⟨u,s,rfl,gs,ss,-⟩;have A:=gs;obtain ⟨_,_,_,_,_,_,_,_,_,_,_,_,_,_,rfl⟩:=vk gs;have Q:=P.trans l4;refine ⟨_,_,_,_,_,_,_,_,_,_,_,_,_,_,_,_,_,rfl,fun B V5 C=>(cP (n.le (Q.trans C)) sl.1 sl.2.1 sl.2.2 (by omega)).mono ?_,fun B=>⟨((i+1:Nat):Int),by dsimp only;omega,by and_intros<;>rfl,i+1,rfl,b,YS B⟩⟩;rintro r V6 R S;have VT:=S;obtain ⟨_,_,_,_,_,_,_,_,_,_,_,_,rfl,wC,D⟩:=S;have E:=Q.trans (C.trans R);refine ⟨_,_,_,_,_,_,_,_,_,_,_,_,_,_,rfl,fun V7 q=>(tW (A.le (C.trans (R.trans q))) ss (by omega)).mono ?_⟩;rintro r V8 F T;have Pj:=T;obtain ⟨_,_,_,_,_,_,rfl⟩:=T.shape;have G:=F7 ss;have U:=E.trans (q.trans F);refine ⟨_,_,_,_,_,_,_,rfl,fun V9 o=>(QM (n.le (U.trans o)) (Pj.le o) nz (sl.up (K:=200010) (by omega)) G (by omega)).mono ?_⟩;rintro r a7 j X;have Yq:=X;obtain ⟨_,_,_,_,_,_,_,_,_,_,_,_,rfl,-⟩:=X;have TF:=U.trans (o.trans j);refine ⟨_,_,_,_,_,_,_,_,_,_,_,_,_,_,rfl,fun a8 c=>(ny (D.le ((q.trans F).trans ((o.trans j).trans c))) y.2 (by omega)).mono ?_⟩;rintro r a9 m go;have H:=go;obtain ⟨_,_,_,_,_,_,rfl⟩:=go.shape;have TG:=TF.trans (c.trans m);have sx:=(AG (sl.up (K:=200010) (by omega)) G).mono (show _<=60000000 by omega);have sy:=(AH (sl.up (K:=200010) (by omega)) G).mono (show _<=60000000 by omega);refine ⟨_,_,_,_,_,_,_,rfl,fun b0 d=>(wP (p:=(f_ L s.bX,gy L s.bX)) (v:=(-(-((L.1:Int):Rat)),((L.2.1:Int):Rat))) (w (t.trans (TG.trans d))) hb hl (Yq.le (c.trans (m.trans d))) ⟨_,_,_,_,_,_,_,_,_,_,_,_,rfl,H.le d,wC.le ((q.trans F).trans ((o.trans j).trans ((c.trans m).trans d)))⟩ sx sy (Sz.mono y.2.neg (by omega)) (Sz.mono y.1 (by omega))).mono ?_⟩;rintro r b5 cO ⟨Y,-,-⟩;have I:=Y;obtain ⟨_,_,_,_,_,_,_,_,_,_,_,_,rfl,-⟩:=Y;refine ⟨_,_,_,_,_,_,_,_,_,_,_,_,_,_,rfl,fun b6 dh=>⟨_,(_,_),?_,I.le dh⟩⟩;rw [show Cb ls=true from decide_eq_true (.inr ⟨L,hm,B⟩)]
def D2 (ls:List L3)(x:Rat×Rat):Int:=if Cb ls=true then (if ∀l∈ls,0<=ai l x.1 x.2 then (if ∃l∈ls,ai l x.1 x.2=0 then 1 else 2) else 0) else 0
theorem Ld {ls:List L3}(q:Sec.V2):Sec.pos ls q↔Sec.pos ls.reverse q:=⟨fun h m hm=>h m (List.mem_reverse.1 hm),fun h m hm=>h m (List.mem_reverse.2 hm)⟩
theorem IA {ls:List L3}(hk:∀m∈ls,okL m=true){c:List Sd}(e:dA ls [] []=some c):Cb ls=true:=by
 obtain ⟨q,a⟩:=((oG hk).1 c e).2.1.pos;exact (Iz hk).2 ⟨q,(Ld q).2 a⟩
theorem Kx {ls:List L3}(hk:∀m∈ls,okL m=true){c:List Sd}(e:dA ls [] []=some c)(x:Rat×Rat):D2 ls x=ku c x:=by
 have i:=((oG hk).1 c e).2.1;have j:∀m∈ls.reverse,okL m=true:=fun m hm=>hk m (List.mem_reverse.1 hm);obtain ⟨k,n⟩:=BJ i j x
 have f:hasC c x=true↔∀m∈ls,0<=ai m x.1 x.2:=by
  unfold hasC;rw [List.all_eq_true];refine Iff.trans ⟨fun h s a=>of_decide_eq_true (h s a),fun h s a=>decide_eq_true (h s a)⟩ (k.trans ⟨fun h m hm=>h m (List.mem_reverse.2 hm),fun h m hm=>h m (List.mem_reverse.1 hm)⟩)
 have g:inC c x=true↔∀m∈ls,0<ai m x.1 x.2:=by
  unfold inC;rw [List.all_eq_true];refine Iff.trans ⟨fun h s a=>of_decide_eq_true (h s a),fun h s a=>decide_eq_true (h s a)⟩ (n.trans ⟨fun h m hm=>h m (List.mem_reverse.2 hm),fun h m hm=>h m (List.mem_reverse.1 hm)⟩)
 unfold D2 ku;rw [if_pos (IA hk e)];by_cases b:hasC c x=true
 ·rw [if_pos b,if_pos (f.1 b)];by_cases d:inC c x=true
  ·rw [if_pos d,if_neg];rintro ⟨l,o,q⟩;have:=g.1 d l o;grind
  ·rw [if_neg d,if_pos];refine Classical.byContradiction fun p=>d (g.2 fun m hm=>?_);have r:=f.1 b m hm;have t:ai m x.1 x.2≠0:=fun h=>p ⟨m,hm,h⟩;grind
 ·rw [if_neg b,if_neg (fun h=>b (f.2 h))]
theorem wR {V:View}{cp:OA}{cn cc:Nat}{ls:List L3}(h:Lst 6 RLv V cp cn ls)(hb:∀l∈ls,Bd l)(hk:∀l∈ls,okL l=true)(hl:ls.length<=1000){pv:Value}{x:Rat×Rat}(hp:RP V pv x.1 x.2)(s1:Sz 1000000000 x.1)(s2:Sz 1000000000 x.2) :
  Acts prog 24 #[.slice cp cn cc,pv] V fun r V'=>r=.int .i64 (D2 ls x):=by
 have J:=h.len;subst J;have A:=hp;obtain ⟨_,_,_,_,_,_,_,_,_,_,_,_,rfl,-⟩:=hp;have F:∀{W:View},V.Le W->Lst 6 RLv W cp ls.length ls:=fun g=>h.le g fun _ _ k=>RLv.le k g;refine wc cp ls.length cc _ _ _ _ _ _ _ _ _ _ _ _ _ _ V _ fun V1 G=>(wS (F G) hb hk hl).mono ?_;rintro r V2 M ⟨u,p,rfl,N⟩;obtain ⟨_,_,_,_,_,_,_,_,_,_,_,_,rfl,-⟩:=N;have B:=G.trans M;refine ⟨_,_,_,_,_,_,_,_,_,_,_,_,_,_,_,rfl,fun j V3 l3=>?_,fun j=>⟨fun z _=>∃i:Nat,z.2=(i:Int)/\i<=ls.length/\(∀l∈ls.take i,0<=ai l x.1 x.2)/\z.1=if ∃l∈ls.take i,ai l x.1 x.2=0 then 1 else 2,fun z=>(ls.length-z.2).toNat,⟨(2,0),by and_intros<;>rfl,0,rfl,Nat.zero_le _,(fun l hl=>by rw [List.take_zero] at hl;cases hl),by rw [List.take_zero];rfl⟩,?_⟩⟩
 ·rw [Bool.not_eq_true'] at j;unfold D2;rw [j];rfl
 rw [Bool.not_eq_false'] at j;rintro ⟨o,z⟩ V4 O ⟨i,e,hi,d,t⟩;dsimp only at e t ⊢;subst e;have n:=B.trans O;refine ⟨by trivial,fun c=>?_,fun c V8 l8=>?_⟩;rotate_left
 ·have e:i=ls.length:=by have:=of_decide_eq_false c;omega
  subst e;rw [List.take_length] at d t;unfold D2;rw [if_pos j,if_pos d,t]
 have c:i<ls.length:=by have:=of_decide_eq_true c;omega
 have P:i64.wrap ((i:Int)+1)=((i+1:Nat):Int):=by rw [i64w (by omega)];rfl
 rw [P,Int.toNat_natCast];obtain ⟨is,b1,Q,R,q,b2,S,T,U,b3,X,Y,Z,a,C,a0,a1,a2,a3,a4,a5,D⟩:=kD (F n) c;have bd:=hb _ (List.getElem_mem c);have hm:=List.getElem_mem c;have sl:=bd.szl;have H:ls.take (i+1)=ls.take i++[ls[i]]:=(List.take_append_getElem c).symm;generalize ls[i]=L at *;refine ⟨is,⟨by omega,by omega⟩,b1,Q,R,q,b2,S,T,U,b3,X,Y,Z,a,C,a0,a1,a2,a3,a4,a5,fun V5 I=>(EI (D.le I) (A.le (n.trans I)) (sl.up (K:=1000000000) (by omega)) s1 s2 (by omega)).mono ?_⟩;rintro r V6 l6 rfl
 have next:∀{E:Int},0<=ai L x.1 x.2->(E=if ai L x.1 x.2=0 then 1 else o)->∃i':Nat,((i+1:Nat):Int)=(i':Int)/\i'<=ls.length/\(∀l∈ls.take i',0<=ai l x.1 x.2)/\E=if ∃l∈ls.take i',ai l x.1 x.2=0 then 1 else 2:=fun {E} g1 g2=>by
  refine ⟨i+1,rfl,c,fun l hl=>?_,?_⟩
  ·rw [H] at hl;rcases List.mem_append.1 hl with h|h
   ·exact d l h
   ·rw [List.mem_singleton.1 h];exact g1
  ·rw [g2,t,H];by_cases v:ai L x.1 x.2=0
   ·rw [if_pos v,if_pos ⟨L,List.mem_append_right _ (List.mem_singleton.2 rfl),v⟩]
   ·rw [if_neg v];by_cases q:∃l∈ls.take i,ai l x.1 x.2=0
    ·obtain ⟨l,w,m⟩:=q;rw [if_pos ⟨l,w,m⟩,if_pos ⟨l,List.mem_append_left _ w,m⟩]
    ·rw [if_neg q,if_neg];rintro ⟨l,w,m⟩;rcases List.mem_append.1 w with h|h
     ·exact q ⟨l,h,m⟩
     ·rw [List.mem_singleton.1 h] at m;exact v m
 have y:=kN (ai L x.1 x.2);refine ⟨_,rfl,fun f V7 l7=>?_,fun f=>⟨fun b=>⟨(1,((i+1:Nat):Int)),by dsimp only;omega,by and_intros<;>rfl,next ?_ ?_⟩,fun b=>⟨(o,((i+1:Nat):Int)),by dsimp only;omega,by and_intros<;>rfl,next ?_ ?_⟩⟩⟩
 ·have f:(ai L x.1 x.2).num.sign=-1:=by simpa using f
  have s:¬0<=ai L x.1 x.2:=by
   rcases y with ⟨g,e⟩|⟨g,e⟩|⟨g,e⟩<;>first|(rw [e] at f;omega)|grind
  unfold D2;rw [if_pos j,if_neg (fun h=>s (h L hm))]
 ·have b:(ai L x.1 x.2).num.sign=0:=by simpa using b
  rcases y with ⟨g,e⟩|⟨g,e⟩|⟨g,e⟩<;>first|(rw [e] at b;omega)|grind
 ·have b:(ai L x.1 x.2).num.sign=0:=by simpa using b
  rw [if_pos];rcases y with ⟨g,e⟩|⟨g,e⟩|⟨g,e⟩<;>first|(rw [e] at b;omega)|grind
 ·have f:¬(ai L x.1 x.2).num.sign=-1:=by simpa using f
  rcases y with ⟨g,e⟩|⟨g,e⟩|⟨g,e⟩<;>first|(rw [e] at f;omega)|grind
 ·have b:¬(ai L x.1 x.2).num.sign=0:=by simpa using b
  rw [if_neg];intro h0;rw [h0] at b;exact b rfl
theorem rowE_app {V:View}{xs ys sp sp':List Value}{ls:List L3}{m:L3}{n:Nat}(hn:n=ls.length)(h:Row 6 RLv V xs ls)(hx:xs.length=n*6)(hy:ys.length=6)(hm:RLv V (.agg ys.toArray) m):Row 6 RLv V ((([]:List Value).take (0*6)++xs++sp).take ((0+n)*6)++ys++sp') (ls++[m]):=by
 subst hn;have e:([]:List Value).take (0*6)++xs++sp=xs++sp:=by simp
 rw [e,Nat.zero_add]
 have a:Row 6 RLv V (xs++sp) ls:=by
  have:=row_append (V:=V) (vs:=[]) (ls:=[]) (sp:=sp) (Row.nil) h (by decide);simpa using this
 exact row_append a (row_one hy hm) (by decide)
def partsC:Tr->List Sd->List (List Sd×Bool)
 | .leaf b,c=>[(c,b)]
 | .node l x y,c=>(match clipC c l with|some d=>partsC x d|none=>[])++(match clipC c (revL l) with|some d=>partsC y d|none=>[])
def cellsR:Tr->List L3->List (List L3×Bool)
 | .leaf b,ls=>if ls=[]\/refC ls ls []≠[] then [(refC ls ls [],b)] else []
 | .node l x y,ls=>if ls=[]\/refC ls ls []≠[] then cellsR x (refC ls ls []++[l])++cellsR y (refC ls ls []++[revL l]) else []
theorem HY {c d:List Sd}{l:L3}(e:clipC c l=some d):∀s∈d,s.1=l\/s.1∈c.map Prod.fst:=fun s a=>by
 unfold clipC at e;split at e
 ·cases e;rcases jM.1 a with rfl|a
  ·exact .inl rfl
  ·obtain ⟨u,hu,-,rfl⟩:=ug.1 a;exact .inr (List.mem_map.2 ⟨u,hu,rfl⟩)
 ·split at e
  ·cases e;exact .inr (List.mem_map.2 ⟨s,a,rfl⟩)
  ·cases e
theorem O8 {S M:List L3}(hsub:∀m∈S,m∈M)(hk:∀m∈M,okL m=true)(KI:∀p:Sec.V2,(∀m∈S,0<=ai m p.1 p.2)->∀m∈M,0<=ai m p.1 p.2){q:Sec.V2}(hq:Sec.pos M q){x:L3}(hx:x∈S){p:Sec.V2}(p0:ai x p.1 p.2=0)(p1:∀m∈S,m≠x->0<ai m p.1 p.2):∀m∈M,m≠x->0<ai m p.1 p.2:=by
 have h:∀s∈S,0<=ai s p.1 p.2:=fun s a=>by
  by_cases es:s=x
  ·rw [es,p0];decide
  ·exact Rat.le_of_lt (p1 s a es)
 intro m hm c;have u:=KI p h m hm;by_cases e:ai m p.1 p.2=0
 ·exfalso;have i:=hk x (hsub x hx);by_cases f:Sec.cr (Sec.dirL m) (Sec.dirL x)=0
  ·rcases JA (hk m hm) i e p0 f with g|g
   ·exact c g
   ·have j:=hq m hm;have w:=hq x (hsub x hx);rw [g,val_rev] at j;grind
  ·have k:Sec.nv m (Sec.dirL x)≠0:=fun g=>f (by unfold Sec.nv Sec.dirL at g;unfold Sec.cr Sec.dirL;dsimp only at g ⊢;grind);have b:Sec.nv x (Sec.dirL x)=0:=by unfold Sec.nv Sec.dirL;dsimp only;grind
   obtain ⟨v,z,d⟩:∃v:Sec.V2,Sec.nv m v<0/\Sec.nv x v=0:=by
    by_cases g:Sec.nv m (Sec.dirL x)<0
    ·exact ⟨_,g,b⟩
    ·refine ⟨(-(Sec.dirL x).1,-(Sec.dirL x).2),?_,?_⟩
     ·have:Sec.nv m (-(Sec.dirL x).1,-(Sec.dirL x).2)=-Sec.nv m (Sec.dirL x):=by unfold Sec.nv;dsimp only;grind
      rw [this];grind
     ·have:Sec.nv x (-(Sec.dirL x).1,-(Sec.dirL x).2)=-Sec.nv x (Sec.dirL x):=by unfold Sec.nv;dsimp only;grind
      rw [this,b];decide
   obtain ⟨t,t0,l⟩:=Sec.vy ((S.filter fun s=>decide (s≠x)).map fun s=>(ai s p.1 p.2,Sec.nv s v)) (fun y n=>by
    obtain ⟨s,a,rfl⟩:=List.mem_map.1 n;obtain ⟨o,r⟩:=List.mem_filter.1 a;exact p1 s o (of_decide_eq_true r))
   have key:∀s∈S,0<=ai s (p.1+t*v.1) (p.2+t*v.2):=fun s a=>by
    rw [Sec.eU];by_cases es:s=x
    ·rw [es,p0,d];have:(0:Rat)+t*0=0:=by grind
     rw [this];decide
    ·exact Rat.le_of_lt (l _ (List.mem_map.2 ⟨s,List.mem_filter.2 ⟨a,decide_eq_true es⟩,rfl⟩))
   have:=KI (p.1+t*v.1,p.2+t*v.2) key m hm;dsimp only at this;rw [Sec.eU,e] at this;have:=Sec.mp t0 (show -Sec.nv m v>0 by grind);grind
 ·grind
theorem O9 {S M:List L3}(hsub:∀m∈S,m∈M)(hk:∀m∈M,okL m=true)(KI:∀p:Sec.V2,(∀m∈S,0<=ai m p.1 p.2)->∀m∈M,0<=ai m p.1 p.2){q:Sec.V2}(hq:Sec.pos M q){x:L3}(hx:x∈S)(e:Sec.Es S x):Sec.Es M x:=by
 obtain ⟨p,a,b⟩:=e;exact ⟨p,a,O8 hsub hk KI hq hx a b⟩
theorem HX {M:List L3}{c:List Sd}(h:CanC M c)(hk:∀m∈M,okL m=true){l:L3}(hl:okL l=true) :
  (∀d,clipC c l=some d->refC (c.map Prod.fst++[l]) (c.map Prod.fst++[l]) []=d.map Prod.fst/\d.map Prod.fst≠[])/\(clipC c l=none->refC (c.map Prod.fst++[l]) (c.map Prod.fst++[l]) []=[]):=by
 have ok:=pF h hk;have j:∀m∈c.map Prod.fst++[l],okL m=true:=fun m hm=>(List.mem_append.1 hm).elim (ok m) fun g=>by rw [List.mem_singleton.1 g];exact hl
 have y:∀m∈l::M,okL m=true:=fun m hm=>(List.mem_cons.1 hm).elim (fun g=>g▸hl) (hk m)
 have a:∀m∈c.map Prod.fst++[l],m∈l::M:=fun m hm=>(List.mem_append.1 hm).elim (fun g=>by
  obtain ⟨s,b,rfl⟩:=List.mem_map.1 g;exact List.mem_cons_of_mem _ (h.mem s b).1) fun g=>by rw [List.mem_singleton.1 g];exact List.mem_cons_self ..
 have E:∀q,Sec.pos (c.map Prod.fst++[l]) q->Sec.pos (l::M) q:=fun q f m hm=>by
  rcases List.mem_cons.1 hm with rfl|hm
  ·exact f m (List.mem_append_right _ (List.mem_singleton.2 rfl))
  ·exact (zi h hk q).1 (fun m hm=>f m (List.mem_append_left _ hm)) m hm
 have F:∀p:Sec.V2,(∀m∈c.map Prod.fst++[l],0<=ai m p.1 p.2)->∀m∈l::M,0<=ai m p.1 p.2:=fun p z m hm=>by
  rcases List.mem_cons.1 hm with rfl|hm
  ·exact z m (List.mem_append_right _ (List.mem_singleton.2 rfl))
  ·exact zQ h hk (fun s b=>z _ (List.mem_append_left _ (List.mem_map.2 ⟨s,b,rfl⟩))) m hm
 obtain ⟨G,H⟩:=clip_ok h hk hl;obtain ⟨A,B⟩:=oG j;constructor
 ·intro d e;have k:=G d e;obtain ⟨q,f⟩:=k.pos
  cases e3:dA (c.map Prod.fst++[l]) [] [] with
  | none=>exact absurd ⟨q,fun m hm=>f m (a m hm)⟩ (B e3).2.2
  | some c3=>
   obtain ⟨C,n,i⟩:=A c3 e3
   have D:c3.map Prod.fst=d.map Prod.fst:=by
    refine oz (List.pairwise_map.2 n.asc) (List.pairwise_map.2 k.asc) fun x=>⟨fun r=>?_,fun r=>?_⟩
    ·obtain ⟨s,b,rfl⟩:=List.mem_map.1 r;have o:=List.mem_reverse.1 (n.mem s b).1
     have es:Sec.Es (c.map Prod.fst++[l]) s.1:=by
      obtain ⟨p,t,u⟩:=F0 n (fun m hm=>j m (List.mem_reverse.1 hm)) b;exact ⟨p,t,fun m hm=>u m (List.mem_reverse.2 hm)⟩
     obtain ⟨v,w⟩:=k.all s.1 (a _ o) (O9 a y F f o es);exact List.mem_map.2 ⟨_,w,rfl⟩
    ·obtain ⟨s,b,rfl⟩:=List.mem_map.1 r
     have o:s.1∈c.map Prod.fst++[l]:=by
      rcases HY e s b with g|g
      ·rw [g];exact List.mem_append_right _ (List.mem_singleton.2 rfl)
      ·exact List.mem_append_left _ g
     obtain ⟨p,t,u⟩:=F0 k y b;obtain ⟨v,w⟩:=n.all s.1 (List.mem_reverse.2 o) ⟨p,t,fun m hm=>u m (a m (List.mem_reverse.1 hm))⟩;exact List.mem_map.2 ⟨_,w,rfl⟩
   rw [C,D];refine ⟨rfl,fun g=>?_⟩;rcases i with i|i
   ·have:=congrArg List.length i;simp at this
   ·rw [C,D,g] at i;exact i rfl
 ·intro e
  cases e3:dA (c.map Prod.fst++[l]) [] [] with
  | none=>exact (B e3).1
  | some c3=>
   obtain ⟨q,f⟩:=(A c3 e3).2.1.pos;exact absurd ⟨q,E q fun m hm=>f m (List.mem_reverse.2 hm)⟩ (H e)
theorem ua:∀{t:Tr} {M:List L3} {c:List Sd} {ls:List L3},CanC M c->(∀m∈M,okL m=true)->t.All (fun l=>okL l=true)->(ls=[]\/refC ls ls []≠[])->refC ls ls []=c.map Prod.fst->cellsR t ls=(partsC t c).map fun p=>(p.1.map Prod.fst,p.2)
 | .leaf b,M,c,ls,_,_,_,h0,e=>by
  unfold cellsR partsC;rw [if_pos h0,e];rfl
 | .node l x y,M,c,ls,h,hk,ht,h0,e=>by
  obtain ⟨hl,hx,hy⟩:=ht;unfold cellsR partsC;rw [if_pos h0,e,List.map_append]
  have half:∀{m:L3} {z:Tr},okL m=true->(∀{M:List L3} {c:List Sd} {ls:List L3},CanC M c->(∀m∈M,okL m=true)->(ls=[]\/refC ls ls []≠[])->refC ls ls []=c.map Prod.fst->cellsR z ls=(partsC z c).map fun p=>(p.1.map Prod.fst,p.2))->cellsR z (c.map Prod.fst++[m])=(match clipC c m with|some d=>partsC z d|none=>[]).map (fun p:List Sd×Bool=>(p.1.map Prod.fst,p.2)):=fun {m z} hm j=>by
   obtain ⟨o,q⟩:=HX h hk hm
   cases ec:clipC c m with
   | some d=>
    obtain ⟨i,r⟩:=o d ec;exact j ((clip_ok h hk hm).1 d ec) (fun n f=>(List.mem_cons.1 f).elim (fun g=>g▸hm) (hk n)) (.inr (by rw [i];exact r)) i
   | none=>
    have k:=q ec;have f:¬(c.map Prod.fst++[m]=[]\/refC (c.map Prod.fst++[m]) (c.map Prod.fst++[m]) []≠[]):=fun g=>g.elim (fun g=>by have:=congrArg List.length g;simp at this) fun g=>g k
    cases z with
    | leaf b=>unfold cellsR;rw [if_neg f];rfl
    | node a b d=>unfold cellsR;rw [if_neg f];rfl
  rw [half hl fun h hk h0 e=>ua h hk hx h0 e,half (ok_rev hl) fun h hk h0 e=>ua h hk hy h0 e]
theorem mE {P:L3->Prop}(hr:∀l,P l->P (revL l))(hP:∀l,P l->okL l=true):∀{t:Tr} {M:List L3} {c:List Sd},CanC M c->(∀m∈M,P m)->t.All P->∀p∈partsC t c,∃M',CanC M' p.1/\∀m∈M',P m
 | .leaf b,M,c,h,hk,_,p,hp=>by
  unfold partsC at hp;rw [List.mem_singleton.1 hp];exact ⟨M,h,hk⟩
 | .node l x y,M,c,h,hk,ht,p,hp=>by
  obtain ⟨hl,hx,hy⟩:=ht;unfold partsC at hp
  have half:∀{m:L3} {z:Tr},P m->(∀{M:List L3} {c:List Sd},CanC M c->(∀m∈M,P m)->∀p∈partsC z c,∃M',CanC M' p.1/\∀m∈M',P m)->p∈(match clipC c m with|some d=>partsC z d|none=>[])->∃M',CanC M' p.1/\∀m∈M',P m:=fun {m z} hm a hp=>by
   cases ec:clipC c m with
   | some d=>
    rw [ec] at hp;exact a ((clip_ok h (fun m hm=>hP m (hk m hm)) (hP m hm)).1 d ec) (fun n e=>(List.mem_cons.1 e).elim (fun g=>g▸hm) (hk n)) p hp
   | none=>rw [ec] at hp;cases hp
  rcases List.mem_append.1 hp with hp|hp
  ·exact half hl (fun h hk=>mE hr hP h hk hx) hp
  ·exact half (hr l hl) (fun h hk=>mE hr hP h hk hy) hp
end Go.Proofs.Tryz
