import Derived.Test.YtdhlkpfmlimjfaaGreatDoorV10
import Derived.Test.YtdhlkpfmlimjfaaGreatDoorV17
import Derived.Test.YtdhlkpfmlimjfaaGreatDoorV14
import Derived.Test.YtdhlkpfmlimjfaaGreatDoorV6
import Derived.Test.YtdhlkpfmlimjfaaGreatDoorV15
import Derived.Test.YtdhlkpfmlimjfaaGreatDoorV16
import Derived.Test.YtdhlkpfmlimjfaaGreatDoorV12
import Derived.Test.YtdhlkpfmlimjfaaGreatDoorV8
import Derived.Test.YtdhlkpfmlimjfaaGreatDoorV9
set_option linter.unusedVariables false
open Go.IntKind (i64 u64 u32)
namespace Go.Proofs.Tryz
open Go.Eng Go.Big
theorem vZ {V:View}{v:Value}{l:L3}(h:RLv V v l):Acts prog 131 #[v] V fun r V'=>∃w b,r=.tuple #[w,.bool b]/\RLv V' w (cP l):=by
 have m:=h
 obtain ⟨z,A,B,C,D,E,F,G,H,rfl,I,J,W⟩:=h
 have rev:∀(i:View),V.Le i->(l.1<0\/l.1=0/\l.2.1<0)->Acts prog 44 #[.agg #[.bool (decide (l.1<0)),.slice z A B,.bool (decide (l.2.1<0)),.slice C D E,.bool (decide (l.2.2<0)),.slice F G H]] i fun r V'=>RLv V' r (cP l):=fun i n f=>by
  refine (c_ref04_Rev (a:=l.1) (b:=l.2.1) (c:=l.2.2) (m.le n)).mono ?_
  rintro r K L g
  unfold cP
  rw [if_pos f]
  exact g
 refine vD _ _ _ _ _ _ _ _ _ _ _ _ V _ fun X u=>(fD l.1 (I.le u)).mono ?_
 rintro r V2 M rfl
 have k:=u.trans M
 refine ⟨_,rfl,fun f i n=>(rev i (k.trans n) (.inl (Int.sign_neg_iff.1 (of_decide_eq_true f)))).mono ?_,fun f=>⟨fun o Y x=>(fD l.2.1 (J.le (k.trans x))).mono ?_,fun d N p=>?_⟩⟩
 ·rintro r K L g
  have q:=g
  obtain ⟨_,_,_,_,_,_,_,_,_,_,_,_,rfl⟩:=rlv_shape g
  exact ⟨_,_,_,_,_,_,_,_,_,_,_,_,rfl,fun Z O=>⟨_,_,rfl,q.le O⟩⟩
 ·have P:l.1=0:=Int.sign_eq_zero_iff_zero.1 (by simpa using o)
  rintro r V7 Q rfl
  have y:=k.trans (x.trans Q)
  refine ⟨_,rfl,fun j R S=>(rev R (y.trans S) (.inr ⟨P,Int.sign_neg_iff.1 (of_decide_eq_true j)⟩)).mono ?_,fun j T s=>⟨_,_,rfl,?_⟩⟩
  ·rintro r V9 l9 g
   have q:=g
   obtain ⟨_,_,_,_,_,_,_,_,_,_,_,_,rfl⟩:=rlv_shape g
   exact ⟨_,_,_,_,_,_,_,_,_,_,_,_,rfl,fun U t=>⟨_,_,rfl,q.le t⟩⟩
  ·have j:=of_decide_eq_false j
   unfold cP
   rw [if_neg fun h=>j (Int.sign_neg_iff.2 (h.elim (fun h=>by omega) (·.2)))]
   exact m.le (y.trans s)
 ·have f:=of_decide_eq_false f
  have d:¬l.1=0:=fun e=>by rw [e] at d;simp at d
  refine ⟨_,_,rfl,?_⟩
  unfold cP
  rw [if_neg fun h=>h.elim (fun h=>f (Int.sign_neg_iff.2 h)) (fun h=>d h.1)]
  exact m.le (k.trans p)
theorem IH {V:View}{vs:List Value}{ls:List L3}(h:Row 6 RLv V vs ls){i:Nat}(hi:i<ls.length):∃b1 p1 n1 c1 b2 p2 n2 c2 b3 p3 n3 c3,i*6+6<=vs.length/\(vs.drop (i*6)).take 6=[Value.bool b1,.slice p1 n1 c1,.bool b2,.slice p2 n2 c2,.bool b3,.slice p3 n3 c3] /\
  RLv V (.agg #[.bool b1,.slice p1 n1 c1,.bool b2,.slice p2 n2 c2,.bool b3,.slice p3 n3 c3]) ls[i]:=by
 obtain ⟨xs,f,b,c⟩:=h.at_ i hi
 have g:=h.kl (by decide)
 have a:=b
 obtain ⟨_,_,_,_,_,_,_,_,_,_,_,_,e⟩:=rlv_shape b
 have e:=congrArg Array.toList (Value.agg.inj e)
 dsimp only at e
 subst e
 refine ⟨_,_,_,_,_,_,_,_,_,_,_,_,by omega,?_,a⟩
 apply List.ext_getElem?
 intro j
 rw [List.getElem?_take]
 split
 ·rename_i d
  rw [List.getElem?_drop]
  exact c j _ (List.getElem?_eq_getElem (by show j<6;omega))▸(List.getElem?_eq_getElem (by show j<6;omega)).symm
 ·rename_i d
  rw [List.getElem?_eq_none (by show 6<=j;omega)]
set_option maxHeartbeats 1000000 in
theorem nY {V:View}{p:OA}{n c:Nat}{ls:List L3}(h:Lst 6 RLv V p n ls)(hn:ls.length<100000000)(hs:∀l∈ls,Bd l) :
  Acts prog 85 #[.slice p n c] V fun r V'=>∃q m e,r=.slice q m e/\Lst 6 RLv V' q m (dS ls)/\m<=e:=by
 obtain rfl:=h.len
 refine pt p _ c V _ ⟨fun z V'=>∃i:Nat,z.2.2.2=(i:Int)/\i<=ls.length/\GR 6 RLv V' z.1 z.2.1 z.2.2.1 (dS (ls.take i)),fun z=>ls.length-z.2.2.2.toNat,
  ⟨(0,0,[],0),by and_intros<;>rfl,0,rfl,Nat.zero_le _,GR.nil⟩,?_⟩
 rintro ⟨t,w2,us,z4⟩ V1 l1 ⟨i,e4,a5,u⟩
 dsimp only at e4 u
 subst e4
 have H:=u.len
 have v:=u.le
 have fv:=u.cap
 have A:=u.row
 refine ⟨rfl,fun a=>?_,fun a a6 L bk M=>?_⟩
 rotate_left
 ·have a:¬(i:Int)<ls.length:=of_decide_eq_false a
  obtain rfl:i=ls.length:=by omega
  rw [List.take_length] at H A
  subst H
  exact ⟨_,_,_,rfl,Lst.of_mrow M (A.le fun _ _ g=>RLv.le g L) (by decide) v,v⟩
 have a:(i:Int)<ls.length:=of_decide_eq_true a
 have B:i<ls.length:=by omega
 have w:i64.wrap ((i:Int)+1)=((i+1:Nat):Int):=by rw [i64w (by omega)];rfl
 dsimp only
 rw [Int.toNat_natCast,w]
 obtain ⟨ad,ha,xs,-,hf,d⟩:=(h.le l1 fun _ _ g=>RLv.le g l1).at_ i B
 have N:=hf
 obtain ⟨_,_,_,_,_,_,_,_,_,_,_,_,ex⟩:=rlv_shape hf
 have ex:=congrArg Array.toList (Value.agg.inj ex)
 dsimp only at ex
 subst ex
 have U0:=Dp B
 have C:Bd (cP ls[i]):=(hs _ (List.getElem_mem B)).can
 have Zh:(dS (ls.take i)).length<100000000:=by
  have:=xM (ls.take i)
  rw [List.length_take] at this
  omega
 have U1:∀q∈dS (ls.take i),Bd q:=fun q I=>by
  obtain ⟨y,hy,rfl⟩:=List.mem_map.1 ((mX _).2 q |>.1 I)
  exact (hs y (List.mem_of_mem_take hy)).can
 clear u
 generalize dS (ls.take i)=O at *
 refine ⟨cI ha,⟨by omega,by omega⟩,_,_,_,_,_,_,_,_,_,_,_,_,ad,ha,d 0 _ rfl,d 1 _ rfl,d 2 _ rfl,d 3 _ rfl,d 4 _ rfl,d 5 _ rfl,fun V2 l2=>(vZ (N.le l2)).mono ?_⟩
 generalize cP ls[i]=x at *
 rintro r V3 l3 ⟨wv,bc,rfl,I⟩
 have o:=I
 obtain ⟨eb,ep,en,ec,fb,fp,fn,fe,gb,gp,gn,gc,rfl⟩:=rlv_shape I
 refine ⟨_,_,_,_,_,_,_,_,_,_,_,_,_,rfl,fun z _=>∃j:Nat,z=(j:Int)/\j<=O.length/\∀(k:Nat)(h:k<O.length),k<j->mW O[k] x<0,fun z=>O.length-z.toNat,⟨0,by and_intros<;>rfl,0,rfl,Nat.zero_le _,fun k _ h=>absurd h (Nat.not_lt_zero k)⟩,?_⟩
 rintro z V4 K ⟨j,rfl,P,jl⟩
 have wj:i64.wrap ((j:Int)+1)=((j+1:Nat):Int):=by rw [i64w (by omega)];rfl
 rw [Int.toNat_natCast,wj]
 have dL:=l2.trans (l3.trans K)
 refine ⟨rfl,fun z _=>z=true↔∃h:j<O.length,mW O[j] x<0,⟨fun a=>?_,fun a=>⟨false,by and_intros<;>rfl,?_⟩⟩,?_⟩
 ·have a:(j:Int)<(t:Int):=of_decide_eq_true a
  have f:j<O.length:=by omega
  obtain ⟨b1,Q,R,S,b2,T,U,W,b3,X,Y,Z,dV,Hq,hr⟩:=IH A f
  refine ⟨⟨by omega,by omega⟩,v,b1,Q,R,S,b2,T,U,W,b3,X,Y,Z,⟨dV,Hq⟩,fun V5 l5=>(qN (hr.le (dL.trans l5)) (o.le (K.trans l5)) (U1 _ (List.getElem_mem f)).szl C.szl (by omega)).mono ?_⟩
  rintro r V6 l6 rfl
  exact ⟨_,rfl,_,by and_intros<;>rfl,by dsimp only;rw [decide_eq_true_eq];exact ⟨fun h=>⟨f,h⟩,fun ⟨_,h⟩=>h⟩⟩
 ·have a:¬(j:Int)<(t:Int):=of_decide_eq_false a
  exact ⟨(fun h=>nomatch h),fun ⟨h,_⟩=>absurd h (by omega)⟩
 rintro z V7 l7 O0
 refine ⟨rfl,fun s=>?_,fun s=>?_⟩
 ·obtain ⟨f,a0⟩:=O0.1 s
  refine ⟨((j+1:Nat):Int),by dsimp only;omega,by and_intros<;>rfl,j+1,rfl,f,fun k h a7=>?_⟩
  by_cases e:k=j
  ·subst e;exact a0
  ·exact jl k h (by omega)
 have a1:∀h:j<O.length,¬mW O[j] x<0:=fun h D=>by
  have:=O0.2 ⟨h,D⟩
  rw [s] at this;cases this
 have b:=JR O j P jl a1
 have cN:=dL.trans l7
 refine ⟨fun z _=>z=true↔¬∃h:j<O.length,O[j]=x,⟨fun he=>⟨true,by and_intros<;>rfl,?_⟩,fun he=>?_⟩,?_⟩
 ·have he:(j:Int)=(t:Int):=by simpa using he
  exact ⟨fun _ ⟨h,_⟩=>absurd h (by omega),fun _=>rfl⟩
 ·have he:¬(j:Int)=(t:Int):=by simpa using he
  have f:j<O.length:=by omega
  obtain ⟨b1,Q,R,S,b2,T,U,W,b3,X,Y,Z,dV,Hq,hr⟩:=IH A f
  refine ⟨⟨by omega,by omega⟩,v,b1,Q,R,S,b2,T,U,W,b3,X,Y,Z,⟨dV,Hq⟩,fun V8 l8=>(qN (hr.le (cN.trans l8)) (o.le (K.trans (l7.trans l8))) (U1 _ (List.getElem_mem f)).szl C.szl (by omega)).mono ?_⟩
  rintro r V9 l9 rfl
  exact ⟨_,rfl,_,by and_intros<;>rfl,by dsimp only;rw [bne_iff_ne,ne_eq,Jx];exact ⟨fun h ⟨_,D⟩=>h D,fun h D=>h ⟨f,D⟩⟩⟩
 rintro z a8 E HF
 have O5:=cN.trans E
 refine ⟨rfl,fun s a2 F bk M J=>?_,fun s=>?_⟩
 ·have a3:=HF.1 s
  rw [if_neg a3] at b
  obtain ⟨xs,ys,x1,x2,x3,y1,y2,y3,r1,r2,r3,r4,r5⟩:=ER (V:=a2) (GR.mono ⟨H,v,fv,A⟩ fun _ _ g=>RLv.le g (O5.trans F)) (by decide) (fun _ _=>zJ) M (es:=[_,_,_,_,_,_]) rfl (o.le (K.trans (l7.trans (E.trans F)))) (j:=j) (by omega)
  refine ⟨⟨by omega,by omega⟩,⟨by omega,by omega⟩,⟨by omega,by omega⟩,xs,x1,x2,by omega,Nat.le_refl _,Nat.le_refl 6,x2,x3,fun a9 J2 sp c' h1 h2=>?_⟩
  rw [r1,r2]
  refine ⟨ys,y1,y2,Nat.le_refl _,y3,by omega,by omega,r3,r4,fun a4 G h3 h4=>⟨(j+(1+(t-j)),G,_,((i+1:Nat):Int)),by dsimp only;omega,by and_intros<;>first|rfl|omega,i+1,rfl,B,?_⟩⟩
  show GR 6 RLv _ _ _ _ (dS (ls.take (i+1)))
  rw [U0,b]
  exact r5 a4 G h3 h4
 ·have hex:∃h:j<O.length,O[j]=x:=Classical.byContradiction fun h=>by have:=HF.2 h;rw [s] at this;cases this
  rw [if_pos hex] at b
  refine ⟨(t,w2,us,((i+1:Nat):Int)),by dsimp only;omega,by and_intros<;>rfl,i+1,rfl,B,?_⟩
  show GR 6 RLv _ _ _ _ (dS (ls.take (i+1)))
  rw [U0,b]
  exact ⟨H,v,fv,A.le fun _ _ g=>RLv.le g O5⟩
theorem tG {V:View}{p:OA}{t:Tr}(h:RW V p t)(ha:t.All Okb)(hs:t.size<=1000000):Acts prog 34 #[.pointer p] V fun r V'=>∃q n c,r=.slice q n c/\Lst 6 RLv V' q n (dS t.vM)/\n<=c:=by
 refine vG p V _ fun k d=>(jf t (h.le d) hs).mono ?_
 rintro r V2 o ⟨q,n,c,rfl,g⟩
 refine ⟨_,_,_,rfl,fun s a=>(nY (g.le a fun _ _ g=>RLv.le g a) (by rw [mg];omega) fun l f=>(mf ha l f).2).mono ?_⟩
 rintro r u v ⟨w,m,e,rfl,i,j⟩
 exact ⟨_,_,_,rfl,fun x b=>⟨_,_,_,rfl,i.le b fun _ _ g=>RLv.le g b,j⟩⟩
end Go.Proofs.Tryz
namespace Go.Proofs.Tryz
open Go.Eng
set_option maxRecDepth 100000
end Go.Proofs.Tryz
namespace Go.Proofs.Tryz
open Go.Eng Go.Big
def Fh (V:View)(v:Value)(c:Rat×Rat):Prop:=RP V v c.1 c.2
theorem Fh.le {V V':View}{v:Value}{c:Rat×Rat}(h:Fh V v c)(l:V.Le V'):Fh V' v c:=RP.le h l
theorem Fh.shape {V:View}{v:Value}{c:Rat×Rat}(h:Fh V v c):∃(b:Bool)(p:OA)(n c:Nat)(p':OA)(n' c':Nat)(d:Bool)(q:OA)(m e:Nat)(q':OA)(m' e':Nat),v=.agg #[.bool b,.slice p n c,.slice p' n' c',.bool d,.slice q m e,.slice q' m' e']:=by
 obtain ⟨p,n,c,p',n',c',q,m,e,q',m',e',h,-⟩:=h
 exact ⟨_,p,n,c,p',n',c',_,q,m,e,q',m',e',h⟩
theorem GJ.shape {V:View}{v:Value}{c:Rat×Rat}(h:GJ V v c):∃(b:Bool)(p:OA)(n c:Nat)(p':OA)(n' c':Nat)(d:Bool)(q:OA)(m e:Nat)(q':OA)(m' e':Nat),v=.agg #[.bool b,.slice p n c,.slice p' n' c',.bool d,.slice q m e,.slice q' m' e']:=by
 obtain ⟨_,_,_,_,_,_,_,_,_,_,_,_,_,_,h,-⟩:=h
 exact ⟨_,_,_,_,_,_,_,_,_,_,_,_,_,_,h⟩
theorem Lst.q {V:View}{p:OA}{n:Nat}{ls:List L3}(h:Lst 6 RLv V p n ls):Lst 6 At V p n ls:=⟨h.len,fun i a=>by
 obtain ⟨b,c,xs,d,e,f⟩:=h.at_ i a
 exact ⟨b,c,xs,d,.inl e,f⟩⟩
end Go.Proofs.Tryz
namespace Go.Proofs.Tryz
open Go.Eng
set_option maxRecDepth 100000
end Go.Proofs.Tryz
namespace Go.Proofs.Tryz
open Go.Eng Go.Big
end Go.Proofs.Tryz
namespace Go.Proofs.Tryz
open Go.Eng
set_option maxRecDepth 100000
end Go.Proofs.Tryz
namespace Go.Proofs.Tryz
open Go.Eng Go.Big
theorem zf {V:View}{p:OA}{n:Nat}{al:List L3}(h:Lst 6 RLv V p n al){i:Nat}(hi:i<al.length) :
  p.isSome=true/\∃(b1:Bool)(p1:OA)(n1 c1:Nat)(b2:Bool)(p2:OA)(n2 c2:Nat)(b3:Bool)(p3:OA)(n3 c3:Nat)(a:Addr),addrAdd p (i*6)=some a/\V.at (a.add 0) (.bool b1)/\V.at (a.add 1) (.slice p1 n1 c1)/\V.at (a.add 2) (.bool b2)/\V.at (a.add 3) (.slice p2 n2 c2)/\V.at (a.add 4) (.bool b3)/\V.at (a.add 5) (.slice p3 n3 c3) /\
   RLv V (.agg #[.bool b1,.slice p1 n1 c1,.bool b2,.slice p2 n2 c2,.bool b3,.slice p3 n3 c3]) al[i]:=by
 obtain ⟨g,d,xs,j,f,b⟩:=h.at_ i hi
 have c:=f
 obtain ⟨_,_,_,_,_,_,_,_,_,_,_,_,e⟩:=rlv_shape f
 have e:=congrArg Array.toList (Value.agg.inj e)
 dsimp only at e
 subst e
 refine ⟨?_,_,_,_,_,_,_,_,_,_,_,_,_,g,d,b 0 _ rfl,b 1 _ rfl,b 2 _ rfl,b 3 _ rfl,b 4 _ rfl,b 5 _ rfl,c⟩
 cases p with
 | none=>cases d
 | some a=>rfl
theorem KC {l m:L3}{k:Nat}(sl:lU k l)(sm:lU k m):Sz (20*k+20) (Ka l m)/\Sz (20*k+20) (MJ l m):=by
 unfold Ka MJ bw
 obtain ⟨a,b,c⟩:=sl
 obtain ⟨b1,b2,b3⟩:=sm
 exact ⟨(Sz.mul ((b.mul b3).sub (c.mul b2)) (fl ((a.mul b2).sub (b.mul b1)))).mono (by omega),(Sz.mul ((c.mul b1).sub (a.mul b3)) (fl ((a.mul b2).sub (b.mul b1)))).mono (by omega)⟩
theorem Bf {q:L3->Prop}(hq:∀l,q l->q (cP l)){ls:List L3}(h:∀l∈ls,q l):∀l∈dS ls,q l:=fun l a=>by
 obtain ⟨m,hm,rfl⟩:=List.mem_map.1 ((mX ls).2 l |>.1 a)
 exact hq m (h m hm)
def DM (p:Rat×Rat):Rat×Rat:=(-p.1,-p.2)
def PU (l:L3):List (Rat×Rat):=[oF (Sec.dirL l),DM (oF (Sec.dirL l))]
def IB (M:List L3):List (Rat×Rat):=M.flatMap PU
structure KV (V:View) (n:Nat) (vs:List Value) (l:List (Rat×Rat)):Prop where
 row:Row 6 I_ V vs l
 len:n=l.length
 Oo:l.length<50
theorem KV.le {V V':View}{n:Nat}{vs:List Value}{l:List (Rat×Rat)}(h:KV V n vs l)(e:V.Le V'):KV V' n vs l:=⟨h.row.le fun _ _ g=>I_.le g e,h.len,h.Oo⟩
theorem KV.get {V:View}{n:Nat}{vs:List Value}{l:List (Rat×Rat)}(h:KV V n vs l){k:Nat}(hk:k<l.length):∃(x y:Int)(p:OA)(xb yb:Int)(pb:OA),
  ((0+k*6)+6<=vs.length/\(vs.drop (0+k*6)).take 6=[.int .i64 x,.int .i64 y,.pointer p,.int .i64 xb,.int .i64 yb,.pointer pb])/\I_ V (.agg #[.int .i64 x,.int .i64 y,.pointer p,.int .i64 xb,.int .i64 yb,.pointer pb]) (l.getD k L8):=by
 obtain ⟨xs,-,b,c,f⟩:=h.row.get (d:=L8) hk (by decide)
 have a:=b
 obtain ⟨x,y,p,xb,yb,pb,e⟩:=b.shape
 have e:=congrArg Array.toList (Value.agg.inj e)
 dsimp only at e
 subst e
 rw [Nat.zero_add]
 exact ⟨x,y,p,xb,yb,pb,⟨c,f⟩,a⟩
theorem KV.swap {V:View}{n:Nat}{vs:List Value}{l:List (Rat×Rat)}(h:KV V n vs l){i j:Nat}(hi:i<l.length)(hj:j<l.length){x y:Int}{p:OA}{xb yb:Int}{pb:OA}{x' y':Int}{p':OA}{Nv Nw:Int}{pb':OA}
  (h1:I_ V (.agg #[.int .i64 x,.int .i64 y,.pointer p,.int .i64 xb,.int .i64 yb,.pointer pb]) (l.getD i L8))(h2:I_ V (.agg #[.int .i64 x',.int .i64 y',.pointer p',.int .i64 Nv,.int .i64 Nw,.pointer pb']) (l.getD j L8)) :
  (0+i*6)+6<=vs.length/\(0+j*6)+6<=(cD vs (0+i*6) [.int .i64 x',.int .i64 y',.pointer p',.int .i64 Nv,.int .i64 Nw,.pointer pb']).length /\
  KV V n (cD (cD vs (0+i*6) [.int .i64 x',.int .i64 y',.pointer p',.int .i64 Nv,.int .i64 Nw,.pointer pb']) (0+j*6) [.int .i64 x,.int .i64 y,.pointer p,.int .i64 xb,.int .i64 yb,.pointer pb]) (rC L8 l i j):=by
 obtain ⟨-,-,-,a,-⟩:=h.row.get (d:=L8) hi (by decide)
 obtain ⟨-,-,-,b,-⟩:=h.row.get (d:=L8) hj (by decide)
 rw [Nat.zero_add,Nat.zero_add]
 refine ⟨a,by rw [rA (by exact a)];exact b,h.row.swap hi hj (by decide) rfl rfl h1 h2,by rw [oV];exact h.len,by rw [oV];exact h.Oo⟩
def M_ (u w:Rat×Rat):Rat×Rat:=if Sec.cr u w>0 then (u.1+w.1,u.2+w.2) else (-u.2,u.1)
def IK (D:List (Rat×Rat)):List (Rat×Rat):=if D=[] then [(1,0)] else Sec.PY M_ D
theorem I2:Sz 1 (0:Rat):=by unfold Sz;decide
theorem Cq:Sz 300000 (0:Rat):=I2.mono (by omega)
theorem yN {pv vv:Value}{p v:Rat×Rat}(s1:Sz 1000000 p.1)(s2:Sz 1000000 p.2)(s3:Sz 300000 v.1)(s4:Sz 300000 v.2){t:Tr}{V:View}{q:OA}(h:RT V q t)(ha:t.All Bd)(hp:RPt V pv p.1 p.2)(hv:RPt V vv v.1 v.2) :
  Acts prog 134 #[.pointer q,pv,vv] V fun r V'=>r=.tuple #[.bool (Sec.kL t p v).1,.bool (Sec.kL t p v).2]:=by
 have x:=hp
 have y:=hv
 obtain ⟨Y,Z,x3,y1,y2,y3,rfl,-⟩:=hp
 obtain ⟨u1,u2,u3,w1,w2,w3,rfl,-⟩:=hv
 refine rZ q Y Z x3 y1 y2 y3 u1 u2 u3 w1 w2 w3 V _ ⟨fun z k V'=>∃o,RT V' z o/\o.All Bd/\k=o.size/\Sec.kL o p v=Sec.kL t p v,⟨q,t.size,by and_intros<;>rfl,t,h,ha,rfl,rfl⟩,?_⟩
 rintro z k V1 l1 ⟨o,A,B,rfl,e⟩
 rw [←e]
 clear e h ha t
 refine ⟨rfl,fun V2 N=>(c_bsp_IsLeaf (A.le N)).mono ?_⟩
 rintro r O l3 rfl
 have g:=N.trans l3
 refine ⟨_,rfl,fun C=>?_,fun C=>?_⟩
 ·cases o with
  | leaf i=>cases C
  | node ln a b=>
   obtain ⟨D,a1,a2,a3,b1,b2,b3,P,Q,R,pl,E,i,rfl,s,u,Av,F⟩:=A.le g
   obtain ⟨G,H,I⟩:=B
   have c:∀{W:View},O.Le W->∀j v,([.int .i64 a1,.int .i64 a2,.pointer a3,.int .i64 b1,.int .i64 b2,.pointer b3,.int .i64 P,.int .i64 Q,.pointer R,.pointer pl,.pointer E,.bool i]:List Value)[j]?=some v->W.at ((⟨D,0,none⟩:Addr).add j) v:=by
    intro W hW j v hv;rw [add_zero'];exact blk_at (xs:=[_,_,_,_,_,_,_,_,_,_,_,_]) (hW _ _ s) hv
   have l:=View.Le.refl O
   have sl:=G.szl
   have L3:=l1.trans g
   refine ⟨rfl,rfl,_,_,_,_,_,_,_,_,_,⟨D,0,none⟩,rfl,c l 0 _ rfl,c l 1 _ rfl,c l 2 _ rfl,c l 3 _ rfl,c l 4 _ rfl,c l 5 _ rfl,c l 6 _ rfl,c l 7 _ rfl,c l 8 _ rfl,fun V4 J=>(ze (L:=ln) (u.le J) (x.le (L3.trans J)) (k:=1000000) ⟨sl.1.mono (by omega),sl.2.1.mono (by omega),sl.2.2.mono (by omega)⟩ s1 s2 (by omega)).mono ?_⟩
   rintro r V5 l5 rfl
   have d:=J.trans l5
   refine ⟨_,rfl,fun z _=>z=Sec.zL ln p v,⟨fun m=>?_,fun m=>?_⟩,?_⟩
   ·have m:(aj ln p.1 p.2).num.sign=0:=by simpa using m
    refine ⟨rfl,rfl,_,_,_,_,_,_,_,_,_,⟨D,0,none⟩,rfl,c d 0 _ rfl,c d 1 _ rfl,c d 2 _ rfl,c d 3 _ rfl,c d 4 _ rfl,c d 5 _ rfl,c d 6 _ rfl,c d 7 _ rfl,c d 8 _ rfl,fun V6 S=>(eh (u.le (d.trans S)) sl.1 sl.2.1 sl.2.2 (by omega)).mono ?_⟩
    rintro r V7 l7 T
    have W_:=T
    obtain ⟨d1,d2,d3,d4,d5,d6,rfl,-⟩:=T
    refine ⟨_,_,_,_,_,_,rfl,fun V8 U=>(gw (W_.le U) (y.le (L3.trans (d.trans (S.trans (l7.trans U))))) (k:=300000) (sl.1.mono (by omega)) (sl.2.1.mono (by omega)) s3 s4 (by omega)).mono ?_⟩
    rintro r V9 l9 X
    have Rf:=X
    obtain ⟨f,n,e3,rfl⟩:=X.shape
    refine ⟨_,_,_,rfl,fun a0 K=>(dR (Rf.le K) (cd (k:=300000) (sl.1.mono (by omega)) (sl.2.1.mono (by omega)) s3 s4) (by omega)).mono ?_⟩
    rintro r a4 a5 rfl
    refine ⟨_,rfl,_,by and_intros<;>rfl,?_⟩
    unfold Sec.zL
    rw [if_pos m];rfl
   ·have m:¬(aj ln p.1 p.2).num.sign=0:=fun h=>by rw [h] at m;cases m
    refine ⟨_,by and_intros<;>rfl,?_⟩
    unfold Sec.zL
    rw [if_neg m]
   ·rintro z a6 M rfl
    have w:=d.trans M
    refine ⟨rfl,fun f=>⟨rfl,rfl,pl,rdc (w _ _ s) 9 rfl,pl,a.size,by simp only [Tr.size];omega,by and_intros<;>rfl,a,Av.le w,H,rfl,?_⟩,fun f=>⟨fun n=>⟨rfl,rfl,E,rdc (w _ _ s) 10 rfl,E,b.size,by simp only [Tr.size];omega,by and_intros<;>rfl,b,F.le w,I,rfl,?_⟩,fun n a7 g=>?_⟩⟩
    ·have f:Sec.zL ln p v=1:=by simpa using f
     simp only [Sec.kL];rw [if_pos f]
    ·have f:¬Sec.zL ln p v=1:=by simpa using f
     have n:Sec.zL ln p v=-1:=by simpa using n
     simp only [Sec.kL];rw [if_neg f,if_pos n]
    ·have f:¬Sec.zL ln p v=1:=by simpa using f
     have n:¬Sec.zL ln p v=-1:=by simpa using n
     simp only [Sec.kL];rw [if_neg f,if_neg n]
 ·cases o with
  | node ln a b=>cases C
  | leaf i=>
   obtain ⟨b,c0,P,Q,R,c4,c5,c6,c7,c8,r,rfl,s⟩:=A.le g
   exact ⟨rfl,rfl,i,rdc s 11 rfl,fun a8 dL=>rfl⟩
theorem DJ (n:Int){d:Nat}(h:d≠0):mkRat n d*((d:Nat):Rat)=(n:Rat):=by
 have a:((d:Nat):Rat)≠0:=by exact_mod_cast h
 rw [Rat.mkRat_eq_div,Rat.div_def]
 exact Sec.inv_mul a _
theorem Hv {p:Rat×Rat}(h:Sec.nz p):fX p.1 p.2>0:=by
 have a:p.1.den*p.2.den≠0:=Nat.mul_ne_zero p.1.den_nz p.2.den_nz
 have e:=DJ (Nat.gcd (p.1.num.natAbs*p.2.den) (p.2.num.natAbs*p.1.den):Nat) a
 have b:0<Nat.gcd (p.1.num.natAbs*p.2.den) (p.2.num.natAbs*p.1.den):=by
  apply Nat.pos_of_ne_zero
  intro z
  rw [Nat.gcd_eq_zero_iff] at z
  have c:p.1=0:=by
   rcases Nat.mul_eq_zero.1 z.1 with e|e
   ·exact Rat.num_eq_zero.1 (by omega)
   ·exact absurd e p.2.den_nz
  have d:p.2=0:=by
   rcases Nat.mul_eq_zero.1 z.2 with e|e
   ·exact Rat.num_eq_zero.1 (by omega)
   ·exact absurd e p.1.den_nz
  unfold Sec.nz at h
  rcases h with h|h
  ·exact h c
  ·exact h d
 have d0:((p.1.den*p.2.den:Nat):Rat)>0:=by exact_mod_cast Nat.pos_of_ne_zero a
 have g:(((Nat.gcd (p.1.num.natAbs*p.2.den) (p.2.num.natAbs*p.1.den):Nat):Int):Rat)>0:=by exact_mod_cast b
 show mkRat _ _>0
 generalize mkRat ((Nat.gcd (p.1.num.natAbs*p.2.den) (p.2.num.natAbs*p.1.den):Nat):Int) (p.1.den*p.2.den)=q at *
 by_cases f:q>0
 ·exact f
 ·have:=Sec.mn (show -q≥0 by grind) (show ((p.1.den*p.2.den:Nat):Rat)≥0 by grind)
  grind
theorem B6 {p:Rat×Rat}(h:Sec.nz p):∃c:Rat,c>0/\oF p=(c*p.1,c*p.2):=
 ⟨(fX p.1 p.2)⁻¹,Rat.inv_pos.2 (Hv h),Prod.ext (Rat.mul_comm ..) (Rat.mul_comm ..)⟩
theorem EZ {l:L3}(h:¬(l.1=0/\l.2.1=0)):Sec.nz (Sec.dirL l):=by
 unfold Sec.nz Sec.dirL
 by_cases e:l.2.1=0
 ·right
  intro a
  have:(l.1:Rat)=0:=by grind
  exact h ⟨by exact_mod_cast this,e⟩
 ·left
  show (l.2.1:Rat)≠0
  exact_mod_cast e
def Q7 (s a:Bool):Int:=if a then 2 else if s then 1 else 0
def Ew (t:Tr)(p:Rat×Rat)(c:Int):Prop:=∀D S,Sec.KT D->Sec.Qk D S->Sec.Nx D (Sec.jK t p)->c=Q7 (Sec.anyS t p S) (Sec.Jm t p S)
theorem Kc {q:L3->Prop}{t:Tr}(h:t.All q){p:Rat×Rat}:∀l∈Sec.jK t p,q l:=fun l a=>mf h l (Sec.ux a).2
theorem Kz {u w:Rat×Rat}(h:Sec.cr u w≥0):Sec.Ff u w (M_ u w):=by
 unfold M_
 by_cases g:Sec.cr u w>0
 ·rw [if_pos g]
  exact .inl ⟨g,1,1,by decide,by decide,Prod.ext (by unfold Sec.Jh;grind) (by unfold Sec.Jh;grind)⟩
 ·rw [if_neg g]
  exact .inr ⟨by grind,1,by decide,Prod.ext (by unfold Sec.Jh Sec.P5;grind) (by unfold Sec.Jh Sec.P5;grind)⟩
theorem Gi {D:List (Rat×Rat)}(h:Sec.KT D):Sec.Qk D (IK D):=by
 unfold IK
 by_cases e:D=[]
 ·rw [if_pos e];exact .inl ⟨e,rfl⟩
 ·rw [if_neg e];exact Sec.Kx h (fun u _ w _ a=>Kz a) e
theorem Kn {M:List L3}(ho:∀l∈M,¬(l.1=0/\l.2.1=0)){m:List (Rat×Rat)}(pm:m.Perm (IB M))(pw:m.Pairwise fun x y=>¬Ok y x<0):Sec.KT (wg eP m)/\Sec.Nx (wg eP m) M:=by
 have mem:∀r,r∈m↔∃l∈M,r=oF (Sec.dirL l)\/r=DM (oF (Sec.dirL l)):=fun r=>by
  rw [pm.mem_iff]
  unfold IB PU
  simp only [List.mem_flatMap,List.mem_cons,List.not_mem_nil,or_false]
 have key:=Sec.M3 (m:=m) pw ?_ ?_
 ·obtain ⟨j,k⟩:=key
  refine ⟨j,fun l a=>?_⟩
  obtain ⟨y,n,c,o,e⟩:=k (oF (Sec.dirL l)) ((mem _).2 ⟨l,a,.inl rfl⟩)
  obtain ⟨d,d0,g⟩:=B6 (EZ (ho l a))
  refine ⟨y,n,c*d,Sec.mp o d0,?_⟩
  rw [e,g]
  exact Prod.ext (by show c*(d*_)=_;grind) (by show c*(d*_)=_;grind)
 ·intro r i
  obtain ⟨l,a,h⟩:=(mem r).1 i
  have b:=EZ (ho l a)
  obtain ⟨d,d0,g⟩:=B6 b
  have f:Sec.nz (oF (Sec.dirL l)):=by
   rw [g]
   unfold Sec.nz at b ⊢
   rcases b with b|b
   ·exact .inl fun h=>by rcases Rat.mul_eq_zero.1 h with h|h;grind;exact b h
   ·exact .inr fun h=>by rcases Rat.mul_eq_zero.1 h with h|h;grind;exact b h
  rcases h with rfl|rfl
  ·exact f
  ·unfold Sec.nz DM at *
   rcases f with f|f
   ·exact .inl (by show -(oF (Sec.dirL l)).1≠0;grind)
   ·exact .inr (by show -(oF (Sec.dirL l)).2≠0;grind)
 ·intro r i
  obtain ⟨l,a,h⟩:=(mem r).1 i
  rcases h with rfl|rfl
  ·exact ⟨_,(mem _).2 ⟨l,a,.inr rfl⟩,1,by decide,by unfold DM;grind,by unfold DM;grind⟩
  ·exact ⟨_,(mem _).2 ⟨l,a,.inl rfl⟩,1,by decide,by unfold DM;grind,by unfold DM;grind⟩
def ApS (V:View)(w:Value)(p:Rat×Rat):Prop:=(∃b q n c q' n' c' d r m e r' m' e',w=.agg #[.bool b,.slice q n c,.slice q' n' c',.bool d,.slice r m e,.slice r' m' e']) /\
 ∀V1,V.Le V1->Acts prog 51 #[w] V1 fun r V'=>RPt V' r p.1 p.2
theorem ApS.le {V V':View}{w:Value}{p:Rat×Rat}(h:ApS V w p)(l:V.Le V'):ApS V' w p:=⟨h.1,fun a b=>h.2 a (l.trans b)⟩
theorem ApS.of {V:View}{w:Value}{p:Rat×Rat}(h:KS V w p.1 p.2){k:Nat}(s1:Sz k p.1)(s2:Sz k p.2)(hk:k<=1099511627776):ApS V w p:=by
 refine ⟨?_,fun f a=>Db (h.le a) s1 s2 hk⟩
 obtain ⟨b,q,n,c,g,i,j,d,r,m,e,l,o,s,rfl,-⟩:=h
 exact ⟨_,_,_,_,_,_,_,_,_,_,_,_,_,_,rfl⟩
theorem ApS.raw {V:View}{b d:Bool}{q q' r r':OA}{n c n' c' m e m' e':Nat}{xs ys us vs:List Nat}(h1:RD V q n c xs)(h2:RD V q' n' c' ys)(h3:RD V r m e us)(h4:RD V r' m' e' vs)(k1:xs.length<=1000000)(k2:ys.length<=1000000)(k3:us.length<=1000000)(k4:vs.length<=1000000) :
  ApS V (.agg #[.bool b,.slice q n c,.slice q' n' c',.bool d,.slice r m e,.slice r' m' e']) (mkRat (aO b xs) (val ys),mkRat (aO d us) (val vs)):=by
 refine ⟨⟨_,_,_,_,_,_,_,_,_,_,_,_,_,_,rfl⟩,fun o a=>?_⟩
 refine rJ b q n c q' n' c' d r m e r' m' e' o _ fun t f=>(mQ b (h1.le (a.trans f)) (h2.le (a.trans f)) (by omega) (by omega)).mono ?_
 rintro r V2 j g
 have p:=g
 obtain ⟨u,v,w,rfl⟩:=g.shape
 refine ⟨_,_,_,rfl,fun x h=>(mQ d (h3.le (a.trans (f.trans (j.trans h)))) (h4.le (a.trans (f.trans (j.trans h)))) (by omega) (by omega)).mono ?_⟩
 rintro r y s k
 have i:=k
 obtain ⟨z,A,B,rfl⟩:=k.shape
 exact ⟨_,_,_,rfl,fun C l=>⟨_,_,_,_,_,_,rfl,p.le (h.trans (s.trans l)),i.le l⟩⟩
theorem ApS.zero {V:View}:ApS V (.agg #[.bool false,.slice none 0 0,.slice none 0 0,.bool false,.slice none 0 0,.slice none 0 0]) (0,0):=by
 have e:mkRat (aO false []) (val [])=0:=by decide
 have:=@ApS.raw V false false none none none none 0 0 0 0 0 0 0 0 [] [] [] [] RD.nil RD.nil RD.nil RD.nil (by decide) (by decide) (by decide) (by decide)
 rw [e] at this
 exact this
theorem zx (l:List Nd):∀(f:Nat)(n:Int)(s:RS),s.bad=true->(df l f n s).2.bad=true
 | 0,_,_,h=>h
 | f+1,n,s,h=>by
  simp only [df]
  split
  ·exact h
  ·split
   ·exact h
   ·split
    ·rfl
    ·split
     ·split
      ·exact zx l f _ _ (zx l f _ _ h)
      ·rfl
     ·rfl
theorem Ib {l:List Nd}{root:Int}(hl:l.length<=65536):ofT l root=if (df l (l.length+1) root ⟨List.replicate l.length false,0,false⟩).2.bad=false/\((df l (l.length+1) root ⟨List.replicate l.length false,0,false⟩).2.seen.all id)=true then some (df l (l.length+1) root ⟨List.replicate l.length false,0,false⟩).1 else none:=by
 have d:=sQ l (l.length+1) root ⟨List.replicate l.length false,0,false⟩
 have c:(List.replicate l.length false).count false=l.length:=by simp
 dsimp only at d
 rw [c] at d
 unfold ofT
 rw [if_neg (by omega)]
 generalize df l (l.length+1) root ⟨List.replicate l.length false,0,false⟩=r at *
 have e:(r.2.seen.all id)=true↔r.2.jt=l.length:=by
  have f:(r.2.seen.all id)=true↔r.2.seen.count false=0:=by
   rw [List.count_eq_zero,List.all_eq_true]
   constructor
   ·intro h hm;have:=h false hm;cases this
   ·intro h x g;cases x
    ·exact absurd g h
    ·rfl
  rw [f];omega
 dsimp only
 by_cases a:r.2.bad=true
 ·rw [if_pos (.inl a),if_neg (fun h=>by rw [a] at h;cases h.1)]
 ·have a:r.2.bad=false:=by simpa using a
  by_cases b:r.2.jt=l.length
  ·rw [if_neg (by rintro (h|h);rw [a] at h;cases h;exact h b),if_pos ⟨a,e.2 b⟩]
  ·rw [if_pos (.inr b),if_neg (fun h=>b (e.1 h.2))]
def xK (x:Bool×Bool):Int:=if x.2 then (if x.1 then -2 else -1) else 0
theorem rP {V:View}{v w u:Value}{root:Int}{l:List Nd}(hb:∀x∈l,Bd x.ln)(h:AT V v root l){p d:Rat×Rat}(hp:ApS V w p)(hd:ApS V u d)(s1:Sz 1000000 p.1)(s2:Sz 1000000 p.2)(s3:Sz 300000 d.1)(s4:Sz 300000 d.2)
  {y:Value}(hy:Sent V 0 y) :
  Acts prog 89 #[v,w,u] V fun r V'=>(ofT l root=none->r=.tuple #[.int .i64 0,.bool false,y])/\∀t,ofT l root=some t->r=.tuple #[.int .i64 (xK (Sec.kL t p d)),.bool (Sec.kL t p d).2,.nilIface]:=by
 have J:=h
 obtain ⟨q,n,c,rfl,-⟩:=h
 obtain ⟨⟨b,K,L,M,N,O,P,d1,r,m,e,Q,R,S,rfl⟩,o⟩:=hp
 obtain ⟨⟨T,U,W,X,Y,Z,c4,d2,q5,n5,c5,q6,n6,c6,rfl⟩,s⟩:=hd
 refine qA root q n c b K L M N O P d1 r m e Q R S T U W X Y Z c4 d2 q5 n5 c5 q6 n6 c6 V _ fun V1 E=>(c_bsp_Of' hb (J.le E)).mono ?_
 rintro r V2 l2 ⟨a,rfl,ha⟩
 have f:=E.trans l2
 refine ⟨_,_,rfl,fun g=>⟨y,⟨_,rfl,hy.le f⟩,fun V3 l3=>?_⟩,fun g V4 A=>(o V4 (f.trans A)).mono ?_⟩
 ·have g:ofT l root=none:=by cases e:ofT l root with
   | none=>rfl
   | some t=>rw [e] at g;cases g
  exact ⟨fun _=>rfl,fun t i=>by rw [g] at i;cases i⟩
 ·cases e:ofT l root with
  | none=>rw [e] at g;cases g
  | some t=>
   rintro r V5 F G
   have B:=G
   obtain ⟨_,_,_,_,_,_,rfl,-⟩:=G
   refine ⟨_,_,_,_,_,_,rfl,fun V6 C=>(s V6 (f.trans (A.trans (F.trans C)))).mono ?_⟩
   rintro r V7 H I
   have Rf:=I
   obtain ⟨_,_,_,_,_,_,rfl,-⟩:=I
   refine ⟨_,_,_,_,_,_,rfl,fun V8 D=>(yN s1 s2 s3 s4 ((ha t e).le (A.trans (F.trans (C.trans (H.trans D))))) (ofT_all hb e) (B.le (C.trans (H.trans D))) (Rf.le D)).mono ?_⟩
   rintro r V9 l9 rfl
   have key:∀z:Int,xK (Sec.kL t p d)=z->∀b,(Sec.kL t p d).2=b->(some t=none->Value.tuple #[.int .i64 z,.bool b,.nilIface]=.tuple #[.int .i64 0,.bool false,y])/\∀j,some t=some j->Value.tuple #[.int .i64 z,.bool b,.nilIface]=.tuple #[.int .i64 (xK (Sec.kL j p d)),.bool (Sec.kL j p d).2,.nilIface]:=by
    rintro z rfl b rfl
    exact ⟨(fun h=>by cases h),fun j i=>by cases i;rfl⟩
   refine ⟨_,_,rfl,fun k a0 a1=>key _ ?_ _ ?_,fun k=>⟨fun k' a2 a3=>key _ ?_ _ ?_,fun k' a4 a5=>key _ ?_ _ ?_⟩⟩<;>simp_all [xK]
theorem vY {V:View}{v w:Value}{root:Int}{l:List Nd}(hb:∀x∈l,Bd x.ln)(h:AT V v root l){p:Rat×Rat}(hp:ApS V w p)(s1:Sz 1000000 p.1)(s2:Sz 1000000 p.2){y:Value}(hy:Sent V 0 y) :
  Acts prog 36 #[v,w] V fun r V'=>(ofT l root=none->r=.tuple #[.int .i64 0,.bool false,y])/\∀t,ofT l root=some t->r=.tuple #[.int .i64 (xK (Sec.kL t p (0,0))),.bool (Sec.kL t p (0,0)).2,.nilIface]:=by
 have i:=h
 obtain ⟨q,n,c,rfl,-⟩:=h
 have a:=hp
 obtain ⟨⟨b,j,k,o,s,u,z,d1,r,m,e,A,B,C,rfl⟩,D⟩:=hp
 refine vA root q n c b j k o s u z d1 r m e A B C V _ fun I f=>(rP (d:=(0,0)) hb (i.le f) (a.le f) ApS.zero s1 s2 Cq Cq (hy.le f)).mono ?_
 rintro r V2 J ⟨E,F⟩
 cases e:ofT l root with
 | none=>
  rw [E e]
  exact ⟨_,_,_,rfl,fun G H=>⟨fun _=>rfl,fun t g=>by cases g⟩⟩
 | some t=>
  rw [F t e]
  exact ⟨_,_,_,rfl,fun G H=>⟨(fun h=>by cases h),fun K g=>by cases g;rfl⟩⟩
def NA (k:Nat)(V:View)(v:Value)(c:Rat×Rat):Prop:=RP V v c.1 c.2/\Sz k c.1/\Sz k c.2
theorem NA.le {k:Nat}{V V':View}{v:Value}{c:Rat×Rat}(h:NA k V v c)(l:V.Le V'):NA k V' v c:=⟨h.1.le l,h.2⟩
theorem NA.mono {k m:Nat}{V:View}{v:Value}{c:Rat×Rat}(h:NA k V v c)(l:k<=m):NA m V v c:=⟨h.1,h.2.1.mono l,h.2.2.mono l⟩
structure QP (V:View) (y z:Value):Prop where
 inv:Sent V 0 y
 X0:Sent V 1 z
 yE:SErr y
 zE:SErr z
theorem QP.le {V V':View}{y z:Value}(h:QP V y z)(l:V.Le V'):QP V' y z:=⟨h.inv.le l,h.X0.le l,h.yE,h.zE⟩
theorem AT.leaf {V:View}(i:Bool):AT V (.agg #[.int .i64 (rt 0 (.leaf i)),.slice none 0 0]) (rt 0 (.leaf i)) (wr 0 (.leaf i)):=⟨_,_,_,rfl,NS.nil⟩
theorem uq {p:L3->Prop}:∀{t:Tr} {k:Nat},t.All p->∀x∈wr k t,p x.ln
 | .leaf _,_,_,x,h=>by simp [wr] at h
 | .node l a b,k,⟨h1,h2,h3⟩,x,h=>by
  simp only [wr,List.mem_cons,List.mem_append] at h
  rcases h with rfl|h|h
  ·exact h1
  ·exact uq h2 x h
  ·exact uq h3 x h
theorem IJ {V:View}{t:Tr}{p:OA}(h:RW V p t):p.isSome=true:=by
 cases t with
 | leaf i=>obtain ⟨b,a,c,d,e,f,g,j,k,rfl,m⟩:=h;rfl
 | node l x y=>obtain ⟨b,i,b1,n,o,q,b2,r,s,a,b3,u,v,c,pl,w,rfl,-⟩:=h;rfl
theorem Jv:∀(t:Tr) {V:View} {p:OA} {lb:Nat} {n c:Nat} {vs:List Value} {l:List Nd},RW V p t->t.All Okb->n=l.length ->
  (vs≠[]->V.w.heap[lb]?=some (.cells vs.toArray 78 (0,0)))->(vs≠[]->V.X lb)->n<=c->c*8<=vs.length->NR V vs l->n+t.size<=1000000 ->
  Acts prog 42 #[.pointer p,.slice (mA lb c) n c] V fun r V'=>∃(bm:Nat)(vm:List Value)(c':Nat),(vm≠[]->V'.w.heap[bm]?=some (.cells vm.toArray 78 (0,0)))/\(vm≠[]->V.w.heap.size<=bm\/(vs≠[]/\bm=lb)) /\
   r=.tuple #[.slice (mA bm c') (n+t.size) c',.int .i64 (rt n t)]/\n+t.size<=c'/\c'*8<=vm.length/\NR (V'.hideG (vm≠[]) bm) vm (l++wr n t)/\(t.size=0->c'=c):=by
 intro t
 induction t with
 | leaf i=>
  intro V p lb n c vs l H _ I a s z A B J
  have f:=IJ H
  obtain ⟨b,S,T,c4,c5,c6,c7,c8,c9,rfl,C⟩:=H
  have fin:∀(F:View)(k:Nat)(x:Int),V.Le (F.hideG (vs≠[]) k)->(vs≠[]->F.w.heap[k]?=some (.cells vs.toArray 78 (0,0))) ->
    (vs≠[]->V.w.heap.size<=k\/(vs≠[]/\k=lb)\/False)->x=rt n (.leaf i)->∃(bm:Nat)(vm:List Value)(c':Nat),(vm≠[]->F.w.heap[bm]?=some (.cells vm.toArray 78 (0,0)))/\(vm≠[]->V.w.heap.size<=bm\/(vs≠[]/\bm=lb)) /\
   Value.tuple #[.slice (mA k c) n c,.int .i64 x]=.tuple #[.slice (mA bm c') (n+(Tr.leaf i).size) c',.int .i64 (rt n (.leaf i))]/\n+(Tr.leaf i).size<=c'/\c'*8<=vm.length/\NR (F.hideG (vm≠[]) bm) vm (l++wr n (.leaf i))/\((Tr.leaf i).size=0->c'=c):=by
   intro F k x hle e3 e4 U
   refine ⟨k,vs,c,e3,fun h=>?_,by rw [U];rfl,z,A,?_,fun _=>rfl⟩
   ·rcases e4 h with h|h|h
    ·exact .inl h
    ·exact .inr h
    ·exact h.elim
   ·simp only [wr,List.append_nil]
    exact B.le hle
  refine lT _ lb n c vs V _ a s ⟨f,f,true,rdc C 0 rfl,fun _=>⟨f,f,i,rdc C 1 rfl,fun W V1 k K G Y=>fin V1 k _ K G Y (by subst W;rfl),fun W V2 k K G Y=>fin V2 k _ K G Y (by subst W;rfl)⟩,fun h=>by cases h⟩
 | node ln x y Lg ihy=>
  intro V p lb n c vs l H L I a s z A B J
  have f:=IJ H
  simp only [Tr.size] at J
  obtain ⟨⟨-,Z⟩,a0,Xr⟩:=L
  obtain ⟨b,i,b1,p1,n1,c1,b2,p2,n2,S,b3,p3,n3,T,pl,pr,rfl,C,hl,U,hy⟩:=H
  have g:∀j v,([.bool b1,.slice p1 n1 c1,.bool b2,.slice p2 n2 S,.bool b3,.slice p3 n3 T]:List Value)[j]?=some v->V.at (((⟨b,2,none⟩:Addr)).add j) v:=by
   intro j v a
   have M:j<6:=by
    rcases Nat.lt_or_ge j 6 with M|M
    ·exact M
    ·rw [List.getElem?_eq_none (by simpa using M)] at a;cases a
   have h2:(⟨b,2,none⟩:Addr)=(⟨b,0,none⟩:Addr).add 2:=by rw [add_zero']
   rw [h2,addadd,add_zero']
   refine blk_at (xs:=[_,_,_,_,_,_,_,_,_,_]) C ?_
   match j,M,a with
   | 0,_,a=>exact a
   | 1,_,a=>exact a
   | 2,_,a=>exact a
   | 3,_,a=>exact a
   | 4,_,a=>exact a
   | 5,_,a=>exact a
  obtain ⟨t1,t2,t3⟩:=Z.af
  refine lT _ lb n c vs V _ a s ⟨f,f,false,rdc C 0 rfl,(fun h=>by cases h),fun _=>⟨f,f,b1,p1,n1,c1,b2,p2,n2,S,b3,p3,n3,T,⟨b,2,none⟩,by simp [addrAdd,add_zero'],g 0 _ rfl,g 1 _ rfl,g 2 _ rfl,g 3 _ rfl,g 4 _ rfl,g 5 _ rfl,fun F l3=>(A1 (hl.le l3) (by omega) (by omega) (by omega)).mono ?_⟩⟩
  rintro r V4 l4 Oy
  have RM:=Oy
  obtain ⟨d1,q1,m1,e1,d2,q2,m2,e2,d3,q3,m3,e3,rfl⟩:=pC Oy
  have D:=l3.trans l4
  refine ⟨_,_,_,_,_,_,_,_,_,_,_,_,rfl,by omega,z,A,rfl,by intro v a;simp at a;rcases a with rfl|rfl|rfl|rfl|rfl|rfl|rfl|rfl<;>rfl,fun sp c' g1 g2=>?_⟩
  have a4:=D _ _ C
  refine ⟨f,f,pl,rdc a4 8 rfl,fun m l5 N f1 f2=>?_⟩
  have d:=NR.push (sp:=sp) (x:=0) (y:=0) (B.le D) (by omega) (ln:=ln) RM
  rw [←I] at d
  generalize hrow:vs.take (n*8)++([_,_,_,_,_,_,_,_]:List Value)++sp=row at f1 f2 d ⊢
  have O:row.length=n*8+8+sp.length:=by
   rw [←hrow];simp only [List.length_append,List.length_take,List.length_cons,List.length_nil];omega
  have Sj:row≠[]:=fun e=>by rw [e] at O;simp only [List.length_nil] at O;omega
  have E:=D.trans l5
  have i1:=Lg (V:=m.lend [vb row m.w.heap.size N]) (p:=pl) (lb:=N) (n:=n+1) (c:=c') (vs:=row) (l:=l++[⟨ln,0,0⟩]) (RW.le (V:=V) (V':=m.lend _) (fun b o h=>E b o h) U) a0 (by simp [I]) f1 (fun h=>⟨by simp [vb_ne h],f2 h⟩) g1 (by omega) (NR.le (V:=V4) (V':=m.lend _) d fun b o h=>l5 b o h) (by omega)
  refine i1.mono ?_
  rintro r V6 l6 ⟨bm,vm,a8,K,G,rfl,a5,a6,a7,-⟩
  have a9:m.Le V6:=fun b o h=>l6 b o h
  have Vo:m.Le (V6.shut.hideG (vm≠[]) bm):=BH (V':=m) a9 (View.Le.refl m) fun h=>(G h).imp id fun h'=>by rw [h'.2];exact f2 Sj
  refine ⟨bm,vm,K,G,none,_,_,_,rfl,f,f,pr,rdc ((E.trans Vo) _ _ C) 9 rfl,fun P l7 Q d1 d2=>?_⟩
  have Ve:vm≠[]:=fun e=>by rw [e] at a6;simp at a6;omega
  have JY:V.Le P:=(E.trans Vo).trans l7
  have i2:=ihy (V:=P.lend [vb vm P.w.heap.size Q]) (p:=pr) (lb:=Q) (n:=n+1+x.size) (c:=a8) (vs:=vm) (l:=l++[⟨ln,0,0⟩]++wr (n+1) x) (RW.le (V:=V) (V':=P.lend _) (fun b o h=>JY b o h) hy) Xr (by simp [I,dH];omega) d1 (fun h=>⟨by simp [vb_ne h],d2 h⟩) a5 a6 (NR.le (V:=V6.hideG (vm≠[]) bm) (V':=P.lend _) a7 fun b o h=>l7 b o h) (by omega)
  refine i2.mono ?_
  rintro r V8 l8 ⟨bn,R,b0,b8,b9,rfl,b5,b6,b7,-⟩
  have hlen:n*8+8<=R.length:=by omega
  simp only [Int.toNat_natCast]
  refine ⟨bn,R,b8,b9,none,_,_,_,rfl,⟨by omega,by omega⟩,b5,by omega,⟨by omega,by omega⟩,b5,by rw [List.length_set];omega,fun V9 NJ u1 u4 u5=>?_⟩
  have q:=NR.kids (V:=V8.hideG (R≠[]) bn) (l:=l) (r:=wr (n+1) x++wr (n+1+x.size) y) (ln:=ln) (u:=0) (v:=0) (x:=rt (n+1) x) (y:=rt (n+1+x.size) y) (by simpa using b7)
  rw [←I] at q
  refine ⟨NJ,_,b0,u4,fun h=>?_,by rw [show n+(Tr.node ln x y).size=n+1+x.size+y.size from by simp only [Tr.size];omega];rfl,by simp only [Tr.size];omega,by simp only [List.length_set];omega,?_,fun h=>by simp only [Tr.size] at h;omega⟩
  ·rcases u5 h with h|h|h
   ·exact .inl h
   ·exact .inr h
   ·exact h.elim
  ·simp only [wr]
   exact NR.le (V:=V8.hideG (R≠[]) bn) q fun b o h=>u1 b o h
theorem tH {V:View}{p:OA}{t:Tr}(h:RW V p t)(ha:t.All Okb)(hs:t.size<=1000000) :
  Acts prog 12 #[.pointer p] V fun r V'=>AT V' r (rt 0 t) (wr 0 t)/\(t.size=0->r=.agg #[.int .i64 (rt 0 t),.slice none 0 0]):=by
 refine vH p V _ fun g j=>?_
 refine Acts.Pn (Jv t (V:=g) (lb:=0) (vs:=[]) (l:=[]) (n:=0) (c:=0) (h.le j) ha rfl (fun h=>absurd rfl h) (fun h=>absurd rfl h) (Nat.le_refl _) (Nat.le_refl _) (fun i d k=>by simp at k) (by omega)) ?_
 rintro r V2 B C ⟨m,vm,q,s,u,rfl,a,D,e,v⟩
 refine ⟨m,vm,s,fun h=>(u h).imp id fun w=>absurd rfl w.1,none,_,_,_,rfl,fun x y z A=>?_⟩
 simp only [List.nil_append,Nat.zero_add] at e a ⊢
 have:=NS.ofRow (V:=x) (b:=z) (c:=q) (vm:=vm) (l:=wr 0 t) (ty:=78) A (by rw [dH];exact a) (e.le fun b o h=>y b o h)
 rw [dH] at this
 refine ⟨⟨_,_,_,rfl,this⟩,fun f=>?_⟩
 rw [v f,f]
 rfl
theorem wb {V:View}{p:OA}{t:Tr}(h:RW V p t)(ha:t.All Okb)(hs:t.size<=1000000) :
  Acts prog 12 #[.pointer p] V fun r V'=>AT V' r (rt 0 t) (wr 0 t):=(tH h ha hs).mono fun _ _ _ h=>h.1
def Fg (V:View)(vs:List Value)(i:Nat)(d:Nd):Prop:=∃(b1:Bool)(p1:OA)(n1 c1:Nat)(b2:Bool)(p2:OA)(n2 c2:Nat)(b3:Bool)(p3:OA)(n3 c3:Nat),
 (∀j v,([.bool b1,.slice p1 n1 c1,.bool b2,.slice p2 n2 c2,.bool b3,.slice p3 n3 c3,.int .i64 d.left,.int .i64 d.right]:List Value)[j]?=some v->vs[i*8+j]?=some v) /\
 At V (.agg #[.bool b1,.slice p1 n1 c1,.bool b2,.slice p2 n2 c2,.bool b3,.slice p3 n3 c3]) d.ln
theorem Fg.le {V V':View}{vs:List Value}{i:Nat}{d:Nd}(h:Fg V vs i d)(hl:V.Le V'):Fg V' vs i d:=by
 obtain ⟨b1,a,b,c,b2,e,f,g,b3,j,k,l,m,n⟩:=h
 exact ⟨b1,a,b,c,b2,e,f,g,b3,j,k,l,m,n.le hl⟩
theorem Is {vs xs:List Value}{k i:Nat}(hx:xs.length=8)(h:k*8+8<=vs.length)(hi:i<k*8\/k*8+8<=i):(vs.take (k*8)++xs++vs.drop (k*8+8))[i]?=vs[i]?:=by
 have a:(vs.take (k*8)).length=k*8:=by rw [List.length_take];omega
 rcases hi with hi|hi
 ·rw [List.append_assoc,List.getElem?_append_left (by omega),List.getElem?_take,if_pos hi]
 ·rw [List.getElem?_append_right (by rw [List.length_append];omega),List.length_append,a,hx,List.getElem?_drop]
  congr 1
  omega
theorem X1 {a b c d e f g h v:Value}{j:Nat}(hv:([a,b,c,d,e,f,g,h]:List Value)[j]?=some v):j<8:=by
 rcases Nat.lt_or_ge j 8 with i|i
 ·exact i
 ·rw [List.getElem?_eq_none (by simpa using i)] at hv;cases hv
theorem Fg.out {V:View}{vs xs:List Value}{k i:Nat}{d:Nd}(h:Fg V vs i d)(hx:xs.length=8)(hk:k*8+8<=vs.length)(hi:i≠k):Fg V (vs.take (k*8)++xs++vs.drop (k*8+8)) i d:=by
 obtain ⟨b1,b,c,e,b2,f,g,l,b3,m,n,o,p,q⟩:=h
 refine ⟨b1,b,c,e,b2,f,g,l,b3,m,n,o,fun j v a=>?_,q⟩
 have:=X1 a
 rw [Is hx hk (by omega)]
 exact p j v a
def vm (n b m:Nat):Nat:=(n-1-m+(n-b))%n
def EO (V:View):View:=⟨V.w,fun b=>b<V.w.heap.size,fun _=>False,fun _ h=>h,fun _ h=>h.elim⟩
theorem C4 {f:FuncId}{args:Array Value}{V:View}{o:Obj}(h:Acts prog f args (EO V) fun r V'=>∃bk,r=.pointer (some ⟨bk,0,none⟩)/\V'.aW bk o) :
  Acts prog f args V fun r V'=>∃bk,r=.pointer (some ⟨bk,0,none⟩)/\V.w.heap.size<=bk/\V'.aW bk o:=
 ⟨h.1,h.2.mono fun _ _ ⟨_,he,a,bk,d,c⟩=>⟨_,he,⟨a.size,fun b c _=>a.aW b c (fun h=>h),a.os,a.tape,a.out⟩,bk,d,Nat.le_of_not_lt c.1,fun e=>c.1 (V.hH bk e),c.2⟩⟩
theorem A2 {V:View}{lp:OA}{ln lc:Nat}(hc:ln<=lc) :
  Acts prog 9 #[.slice lp ln lc] V fun r V'=>∃bk,r=.pointer (some ⟨bk,0,none⟩)/\V.w.heap.size<=bk/\V'.aW bk (.cells #[.slice lp (min ln 400) lc,.int .i64 0] 102 (0,0)):=by
 refine C4 (Aq lp ln lc (EO V) _ ?_)
 have e:bD (ln:Int) 400=((min ln 400:Nat):Int):=by
  unfold bD
  simp only [Nat.min_def]
  split<;>split<;>omega
 rw [e,Int.toNat_natCast]
 have:=Nat.min_le_left ln 400
 exact ⟨⟨by omega,by omega⟩,fun b c bk a=>⟨bk,rfl,a⟩⟩
theorem mh {t:Tr}(h:t.All Okb):t.All fun x=>okL x=true:=Tr.All.imp (fun _ h=>h.1) h
theorem MR {t:Tr}(h:t.All Okb):t.All Bd:=Tr.All.imp (fun _ h=>h.2) h
theorem Gl (l:List (Rat×Rat)):∃m:List (Rat×Rat),m.Perm l/\m.Pairwise fun x y=>¬Ok y x<0:=by
 refine ⟨l.mergeSort (fun x y=>decide (¬Ok y x<0)),List.mergeSort_perm ..,?_⟩
 refine (List.pairwise_mergeSort (le:=fun x y=>decide (¬Ok y x<0)) (fun a b c d e=>?_) (fun a b=>?_) l).imp fun h=>of_decide_eq_true h
 ·exact decide_eq_true (Sec.tj c b a (of_decide_eq_true e) (of_decide_eq_true d))
 ·by_cases h:Ok b a<0
  ·have:=Sec.sI b a h
   rw [Bool.or_eq_true]
   exact .inr (decide_eq_true this)
  ·rw [Bool.or_eq_true]
   exact .inl (decide_eq_true h)
theorem indep {t:Tr}{l:L3}(ho:(Tr.node l t t).All fun l=>¬(l.1=0/\l.2.1=0)){p:Rat×Rat}{a b:Int}(h1:Ew t p a)(h2:Ew (.node l t t) p b):a=b:=by
 obtain ⟨m,pm,g⟩:=Gl (IB (Sec.jK (.node l t t) p))
 obtain ⟨d,f⟩:=Kn (Kc ho) pm g
 have sm:=Gi d
 have sub:∀x∈Sec.jK t p,x∈Sec.jK (.node l t t) p:=fun x c=>by
  rw [Sec.jK]
  by_cases e:aj l p.1 p.2≥0
  ·rw [if_pos e];exact List.mem_append_right _ (List.mem_append_left _ c)
  ·rw [if_pos (show aj l p.1 p.2<=0 by grind)];exact List.mem_append_right _ (List.mem_append_right _ c)
 have i:=h1 _ _ d sm fun l j=>f l (sub l j)
 have k:=h2 _ _ d sm f
 generalize IK (wg eP m)=S at *
 have key:∀v∈S,Sec.kL (.node l t t) p v=Sec.kL t p v:=fun v o=>by
  have n:=f.gen (Sec.KA d sm v o)
  have:=(Sec.ve n fun l _=>⟨id,id⟩).2
  rw [Sec.kL] at this ⊢
  split
  ·rfl
  ·rename_i q
   rw [if_neg q] at this
   split
   ·rfl
   ·rename_i r
    rw [if_neg r] at this
    cases this
 have s:Sec.anyS (.node l t t) p S=Sec.anyS t p S:=by
  unfold Sec.anyS
  rw [Bool.eq_iff_iff,List.any_eq_true,List.any_eq_true]
  constructor
  ·rintro ⟨x,c,h⟩;exact ⟨x,c,by rw [←key x c];exact h⟩
  ·rintro ⟨x,c,h⟩;exact ⟨x,c,by rw [key x c];exact h⟩
 have u:Sec.Jm (.node l t t) p S=Sec.Jm t p S:=by
  unfold Sec.Jm
  rw [Bool.eq_iff_iff,List.all_eq_true,List.all_eq_true]
  constructor
  ·intro h x c;rw [←key x c];exact h x c
  ·intro h x c;rw [key x c];exact h x c
 rw [i,k,s,u]
end Go.Proofs.Tryz
namespace Go.Eng
def View.bare (V:View)(b:Nat):View:=⟨V.w,fun x=>V.H x/\x≠b,fun x=>V.X x/\x≠b,fun x h=>V.hH x h.1,fun x h=>⟨V.hX x h.1,h.2⟩⟩
theorem Acts.bare {P:Program}{f:FuncId}{args:Array Value}{V:View}{b:Nat}{R:Value->View->Prop}(hs:b<V.w.heap.size)(h:Acts P f args (V.bare b) R) :
  Acts P f args V fun r V'=>V'.w.heap[b]?=V.w.heap[b]?/\R r (V'.bare b):=by
 refine ⟨h.1,h.2.mono fun _ g ⟨r,he,a,c⟩=>⟨r,he,⟨a.size,fun x d e=>a.aW x d fun h=>e h.1,a.os,a.tape,a.out⟩,a.aW b hs (fun h=>h.2 rfl),c⟩⟩
def KQ (V:View)(b:Nat):Prop:=∃(cs:Array Value)(ty:TypeId)(m:Nat×Nat),V.w.heap[b]?=some (.cells cs ty m)/\∀v∈cs,∀k z,v≠.int k z
theorem KQ.ne {V:View}{b:Nat}(h:KQ V b){a:Addr}{k:IntKind}{z:Int}(ha:(V.bare b).at a (.int k z)):a.block≠b:=by
 obtain ⟨cs,ty,m,f,g⟩:=h
 intro e
 have c:=ha.2
 unfold World.cell? at c
 rw [e] at c
 have d:(V.bare b).w.heap[b]?=some (.cells cs ty m):=f
 rw [d] at c
 dsimp only at c
 split at c
 ·cases c
 ·obtain ⟨i,j⟩:=Array.getElem?_eq_some_iff.1 c
  exact g _ (j▸Array.getElem_mem i) k z rfl
end Go.Eng
namespace Go.Proofs.Tryz
open Go.Eng Go.Big
end Go.Proofs.Tryz
namespace Go.Proofs.Tryz
open Go.Eng
set_option maxRecDepth 100000
end Go.Proofs.Tryz
namespace Go.Proofs.Tryz
open Go.Eng Go.Big
theorem Km {V:View}{v:Value}{L:L3}(h:RL V v L.1 L.2.1 L.2.2)(hz:Nz L)(hb:Bd L):Acts prog 80 #[v] V fun r V'=>RP V' r (fu L 0) (iF L 0):=by
 have sl:=hb.szl
 refine (yR h (MY hz) sl.1 sl.2.1 sl.2.2 (by omega)).mono fun r V' _ g=>?_
 have b:fu L 0=_:=rfl
 unfold fu iF
 unfold eN
 have a:∀x y:Rat,x=y->∀z w:Rat,z=w->RP V' r x z->RP V' r y w:=by rintro x _ rfl z _ rfl h;exact h
 refine a _ _ ?_ _ _ ?_ g<;>grind
theorem Na {L:L3}(hb:Bd L):Sz 30000 (fu L 0)/\Sz 30000 (iF L 0):=by
 have sl:=hb.szl
 exact ⟨Sz.mono (IZ sl (LC 1000 (by omega))) (by omega),Sz.mono (I0 sl (LC 1000 (by omega))) (by omega)⟩
theorem Nb {x:Rat}{k:Nat}(h:Sz k x):Sz (k+3) (x*((2:Int):Rat)⁻¹):=by
 have a:Sz 2 (((2:Int):Rat))⁻¹:=by unfold Sz;decide +kernel
 exact (h.mul a).mono (by omega)
theorem F7 {c:List Rat}{k:Nat}(h:∀q∈c,Sz k q){q:Rat}(hq:q∈fN c):Sz (2*k+4) q:=by
 have g:∀i,i<c.length->Sz k (c.getD i 0):=fun i a=>by rw [iS a];exact h _ (List.getElem_mem a)
 have z:Sz (2*k+4) 0:=by
  have b:(1:Nat)<2^(2*k+4):=Nat.one_lt_two_pow (by omega)
  exact ⟨Nat.lt_of_le_of_lt (Nat.zero_le _) b,b⟩
 unfold fN at hq
 by_cases d:c.length=0
 ·rw [if_pos d] at hq
  obtain rfl:q=0:=by simpa using hq
  exact z
 ·rw [if_neg d] at hq
  rcases List.mem_append.1 hq with hq|hq
  ·unfold uF at hq
   rcases List.mem_cons.1 hq with rfl|hq
   ·exact ((g 0 (by omega)).sub i_).mono (by omega)
   ·obtain ⟨i,a,rfl⟩:=List.mem_map.1 hq
    rw [List.mem_range] at a
    exact (Nb ((g i (by omega)).add (g (i+1) (by omega)))).mono (by omega)
  ·obtain rfl:q=_:=by simpa using hq
   exact ((g _ (by omega)).add i_).mono (by omega)
def hasC (c:List Sd)(p:Rat×Rat):Bool:=c.all fun s=>decide (0<=aj s.1 p.1 p.2)
def inC (c:List Sd)(p:Rat×Rat):Bool:=c.all fun s=>decide (0<aj s.1 p.1 p.2)
theorem IM (q:Rat):q.num.sign<0↔¬0<=q:=by
 have:=@Sec.Cj q
 constructor
 ·intro h;have:=this.1 h;grind
 ·intro h;exact this.2 (by grind)
theorem IL (q:Rat):q.num.sign<=0↔¬0<q:=by
 have:=@Sec.uR q
 constructor
 ·intro h a;have:=this.2 a;omega
 ·intro h;by_cases c:q.num.sign>0
  ·exact absurd (this.1 c) h
  ·omega
theorem c_Cell_Has {V:View}{p:OA}{n c:Nat}{cs:List Sd}{pv:Value}{x:Rat×Rat}(h:Lst 17 RSd V p n cs)(hp:RPt V pv x.1 x.2)(s1:Sz 1000000000 x.1)(s2:Sz 1000000000 x.2)(hn:cs.length<=100000) :
  Acts prog 56 #[.slice p n c,pv] V fun r V'=>r=.bool (hasC cs x):=by
 have k:=hp
 obtain rfl:=h.len
 obtain ⟨_,_,_,_,_,_,rfl,-,-⟩:=hp
 refine sg p _ c _ _ _ _ _ _ V _ ⟨fun z V'=>∃j:Nat,z=(j:Int)/\j<=cs.length/\hasC (cs.take j) x=true,fun z=>cs.length-z.toNat,⟨0,by and_intros<;>rfl,0,rfl,Nat.zero_le _,rfl⟩,?_⟩
 rintro R S l ⟨j,rfl,B,b⟩
 refine ⟨rfl,fun d=>?_,fun d C D=>?_⟩
 ·have d:(j:Int)<cs.length:=of_decide_eq_true d
  have i:j<cs.length:=by omega
  have w:i64.wrap ((j:Int)+1)=((j+1:Nat):Int):=by rw [i64w (by omega)];rfl
  rw [Int.toNat_natCast,w]
  obtain ⟨E,T,U,W,X,Y,Z,a7,a8,a9,b1,b2,b3,b4,b5,b6,a,F,G,H,I,J,K,L,M,N,O,P,m,o,q,s,t,u,v,y⟩:=lst_rsd (h.le l fun _ _ g=>RSd.le g l) i
  obtain ⟨Q,-,-,-⟩:=y.both
  refine ⟨E,⟨by omega,by omega⟩,_,_,_,_,_,_,_,_,_,_,_,_,_,_,_,_,_,a,F,G,H,I,J,K,L,M,N,O,P,m,o,q,s,t,u,v,fun V2 A=>(ze (Q.le A) (k.le (l.trans A)) (y.2.1.szl.up (by omega)) s1 s2 (by omega)).mono ?_⟩
  rintro r V3 l3 rfl
  refine ⟨_,rfl,fun f C D=>?_,fun f=>⟨((j+1:Nat):Int),by dsimp only;omega,by and_intros<;>rfl,j+1,rfl,i,?_⟩⟩
  ·have f:=(IM _).1 (of_decide_eq_true f)
   have e:hasC cs x=false:=by
    unfold hasC
    rw [List.all_eq_false]
    exact ⟨_,List.getElem_mem i,by simpa using f⟩
   rw [e]
  ·have f:¬_:=fun h=>of_decide_eq_false f ((IM _).2 h)
   have f:=Classical.not_not.1 f
   unfold hasC at b ⊢
   rw [List.take_add_one,List.getElem?_eq_getElem i,List.all_append,b]
   simpa using f
 ·have d:¬(j:Int)<cs.length:=of_decide_eq_false d
  obtain rfl:j=cs.length:=by omega
  rw [List.take_length] at b
  rw [b]
theorem c_Cell_Inside {V:View}{p:OA}{n c:Nat}{cs:List Sd}{pv:Value}{x:Rat×Rat}(h:Lst 17 RSd V p n cs)(hp:RPt V pv x.1 x.2)(s1:Sz 1000000000 x.1)(s2:Sz 1000000000 x.2)(hn:cs.length<=100000) :
  Acts prog 54 #[.slice p n c,pv] V fun r V'=>r=.bool (inC cs x):=by
 have k:=hp
 obtain rfl:=h.len
 obtain ⟨_,_,_,_,_,_,rfl,-,-⟩:=hp
 refine nH p _ c _ _ _ _ _ _ V _ ⟨fun z V'=>∃j:Nat,z=(j:Int)/\j<=cs.length/\inC (cs.take j) x=true,fun z=>cs.length-z.toNat,⟨0,by and_intros<;>rfl,0,rfl,Nat.zero_le _,rfl⟩,?_⟩
 rintro R S l ⟨j,rfl,B,b⟩
 refine ⟨rfl,fun d=>?_,fun d C D=>?_⟩
 ·have d:(j:Int)<cs.length:=of_decide_eq_true d
  have i:j<cs.length:=by omega
  have w:i64.wrap ((j:Int)+1)=((j+1:Nat):Int):=by rw [i64w (by omega)];rfl
  rw [Int.toNat_natCast,w]
  obtain ⟨E,T,U,W,X,Y,Z,a7,a8,a9,b1,b2,b3,b4,b5,b6,a,F,G,H,I,J,K,L,M,N,O,P,m,o,q,s,t,u,v,y⟩:=lst_rsd (h.le l fun _ _ g=>RSd.le g l) i
  obtain ⟨Q,-,-,-⟩:=y.both
  refine ⟨E,⟨by omega,by omega⟩,_,_,_,_,_,_,_,_,_,_,_,_,_,_,_,_,_,a,F,G,H,I,J,K,L,M,N,O,P,m,o,q,s,t,u,v,fun V2 A=>(ze (Q.le A) (k.le (l.trans A)) (y.2.1.szl.up (by omega)) s1 s2 (by omega)).mono ?_⟩
  rintro r V3 l3 rfl
  refine ⟨_,rfl,fun f C D=>?_,fun f=>⟨((j+1:Nat):Int),by dsimp only;omega,by and_intros<;>rfl,j+1,rfl,i,?_⟩⟩
  ·have f:=(IL _).1 (of_decide_eq_true f)
   have e:inC cs x=false:=by
    unfold inC
    rw [List.all_eq_false]
    exact ⟨_,List.getElem_mem i,by simpa using f⟩
   rw [e]
  ·have f:¬_:=fun h=>of_decide_eq_false f ((IL _).2 h)
   have f:=Classical.not_not.1 f
   unfold inC at b ⊢
   rw [List.take_add_one,List.getElem?_eq_getElem i,List.all_append,b]
   simpa using f
 ·have d:¬(j:Int)<cs.length:=of_decide_eq_false d
  obtain rfl:j=cs.length:=by omega
  rw [List.take_length] at b
  rw [b]
theorem AD (p:OA)(m n:Nat):addrAdd (addrAdd p m) n=addrAdd p (m+n):=by
 cases p with
 | none=>rfl
 | some a=>exact congrArg some (nU a m n)
theorem HT {α:Type}{sz:Nat}{R:View->Value->α->Prop}{V:View}{p:OA}{n c:Nat}{l:List α}(h:Lst sz R V p n l){k:Nat}(hk:k<c):Lst sz R V (jR p c k sz) (n-k) (l.drop k):=by
 have a:=h.len
 refine ⟨by rw [List.length_drop,a],fun i b=>?_⟩
 rw [List.length_drop] at b
 obtain ⟨d,e,xs,f,g,j⟩:=h.at_ (k+i) (by omega)
 refine ⟨d,?_,xs,f,by rw [List.getElem_drop];exact g,j⟩
 unfold jR
 rw [if_neg (by omega),AD,←e,Nat.add_mul]
theorem Bk {l:List Rat}{k:Nat}(h:∀q∈l,Sz k q):∀q∈mF (iu l),Sz (2*k+4) q:=fun q a=>by
 rw [sL] at a
 exact F7 (c:=iu l) (fun q a=>h q (lg.1 a)) a
theorem Bi (l:List Rat):(mF (iu l)).length<=l.length+1:=by
 rw [sL,DS]
 have:=uC l
 omega
theorem MS {b:Bool}{p1:OA}{n1 c1:Nat}{p2:OA}{n2 c2:Nat}:∀v∈([.bool b,.slice p1 n1 c1,.slice p2 n2 c2]:List Value),v.oneCell'=true:=by
 intro v a
 simp only [List.mem_cons,List.not_mem_nil,or_false] at a
 rcases a with rfl|rfl|rfl<;>rfl
theorem SU {b:Bool}{p1:OA}{n1 c1:Nat}{p2:OA}{n2 c2:Nat}{d:Bool}{p3:OA}{n3 c3:Nat}{p4:OA}{n4 c4:Nat}:∀v∈([.bool b,.slice p1 n1 c1,.slice p2 n2 c2,.bool d,.slice p3 n3 c3,.slice p4 n4 c4]:List Value),v.oneCell'=true:=by
 intro v a
 simp only [List.mem_cons,List.not_mem_nil,or_false] at a
 rcases a with rfl|rfl|rfl|rfl|rfl|rfl<;>rfl
theorem Ci {V:View}{b1:Bool}{p1:OA}{n1 c1:Nat}{b2:Bool}{p2:OA}{n2 c2:Nat}{b3:Bool}{p3:OA}{n3 c3:Nat}{l:L3}(h:RLv V (.agg #[.bool b1,.slice p1 n1 c1,.bool b2,.slice p2 n2 c2,.bool b3,.slice p3 n3 c3]) l) :
  b1=decide (l.1<0)/\b2=decide (l.2.1<0)/\b3=decide (l.2.2<0)/\RD V p1 n1 c1 (af l.1.natAbs)/\RD V p2 n2 c2 (af l.2.1.natAbs)/\RD V p3 n3 c3 (af l.2.2.natAbs):=by
 obtain ⟨e,f,g,i,j,k,m,n,o,a,b,c,d⟩:=h
 have a:=congrArg Array.toList (Value.agg.inj a)
 dsimp only at a
 simp only [List.cons.injEq,Value.bool.injEq,Value.slice.injEq,and_true] at a
 obtain ⟨rfl,⟨rfl,rfl,rfl⟩,rfl,⟨rfl,rfl,rfl⟩,rfl,⟨rfl,rfl,rfl⟩⟩:=a
 exact ⟨rfl,rfl,rfl,b,c,d⟩
theorem M7 {V:View}{b:Bool}{p1:OA}{n1 c1:Nat}{p2:OA}{n2 c2:Nat}{d:Bool}{p3:OA}{n3 c3:Nat}{p4:OA}{n4 c4:Nat}{x y:Rat}(h:RQ V (.agg #[.bool b,.slice p1 n1 c1,.slice p2 n2 c2]) x)(h':RQ V (.agg #[.bool d,.slice p3 n3 c3,.slice p4 n4 c4]) y) :
  Fh V (.agg #[.bool b,.slice p1 n1 c1,.slice p2 n2 c2,.bool d,.slice p3 n3 c3,.slice p4 n4 c4]) (x,y):=by
 have a:=h
 have c:=h'
 obtain ⟨_,_,_,_,_,_,a,-⟩:=a
 obtain ⟨_,_,_,_,_,_,c,-⟩:=c
 have a:=congrArg Array.toList (Value.agg.inj a)
 have c:=congrArg Array.toList (Value.agg.inj c)
 dsimp only at a c
 simp only [List.cons.injEq,Value.bool.injEq,Value.slice.injEq,and_true] at a c
 obtain ⟨rfl,⟨rfl,rfl,rfl⟩,⟨rfl,rfl,rfl⟩⟩:=a
 obtain ⟨rfl,⟨rfl,rfl,rfl⟩,⟨rfl,rfl,rfl⟩⟩:=c
 exact ⟨_,_,_,_,_,_,_,_,_,_,_,_,rfl,h,h'⟩
theorem v_ {V:View}{p:OA}{n c:Nat}{ls:List L3}(h:Lst 6 RLv V p n ls)(hc:n<=c)(hb:∀l∈ls,Bd l)(hk:∀l∈ls,okL l=true)(hl:ls.length<=1000) :
  Acts prog 33 #[.slice p n c] V fun r V'=>∃q m e ps,r=.slice q m e/\Lst 6 Fh V' q m ps/\ps.length<=10000000000/\∀x∈ps,Sz 200000 x.1/\Sz 200000 x.2/\∀l∈ls,aj l x.1 x.2≠0:=by
 obtain rfl:=h.len
 refine vE p _ c V _ ⟨fun z V'=>∃(i:Nat)(X:List Rat),z.2.2.2=(i:Int)/\i<=ls.length/\X.length<=i*1001/\(∀q∈X,Sz 30000 q)/\(∀(k:Nat)(h:k<ls.length),k<i->ls[k].2.1=0->fu ls[k] 0∈X)/\GR 3 RQ V' z.1 z.2.1 z.2.2.1 X,fun z=>ls.length-z.2.2.2.toNat,
  ⟨(0,0,[],0),by and_intros<;>rfl,0,[],rfl,Nat.zero_le _,Nat.zero_le _,(fun q f=>by cases f),(fun k _ h=>absurd h (Nat.not_lt_zero k)),GR.nil⟩,?_⟩
 rintro ⟨w1,w2,us,z4⟩ V1 l1 ⟨i,X,e4,e7,xl,hX,hv,B⟩
 dsimp only at e4 B
 subst e4
 refine ⟨rfl,fun d=>?_,fun d b7 a9 bk b8=>?_⟩
 ·
  have d:(i:Int)<ls.length:=of_decide_eq_true d
  have C:i<ls.length:=by omega
  have w:i64.wrap ((i:Int)+1)=((i+1:Nat):Int):=by rw [i64w (by omega)];rfl
  dsimp only
  rw [Int.toNat_natCast,w,Int.toNat_natCast]
  obtain ⟨is,b1,p1,n1,c1,b2,p2,n2,c2,b3,p3,n3,c3,ad,a0,k0,k1,k2,k3,k4,k5,gl⟩:=zf (h.le l1 fun _ _ g=>RLv.le g l1) C
  have bl:=hb _ (List.getElem_mem C)
  have nz:=Ie (hk _ (List.getElem_mem C))
  have t:∀Y:List Rat,(∀q∈X,q∈Y)->(ls[i].2.1=0->fu ls[i] 0∈Y)->∀(k:Nat)(h:k<ls.length),k<i+1->ls[k].2.1=0->fu ls[k] 0∈Y:=fun Y O R k o d s=>by
   by_cases e:k=i
   ·subst e;exact R s
   ·exact O _ (hv k o (by omega) s)
  clear hv
  generalize ls[i]=l at *
  have UF:=gl
  obtain ⟨-,rfl,-,-,gB,-⟩:=Ci gl
  refine ⟨is,⟨by omega,by omega⟩,b1,p1,n1,c1,_,p2,n2,c2,b3,p3,n3,c3,ad,a0,k0,k1,k2,k3,k4,k5,fun V2 l2=>(fD l.2.1 (gB.le l2)).mono ?_⟩
  rintro r V3 l3 rfl
  have v:=l2.trans l3
  refine ⟨_,rfl,fun z V'=>∃Y:List Rat,Y.length<=X.length+1/\(∀q∈Y,Sz 30000 q)/\(∀q∈X,q∈Y)/\(l.2.1=0->fu l 0∈Y)/\GR 3 RQ V' z.1 z.2.1 z.2.2 Y,⟨fun s V4 l4=>(Km (RLv.le UF (v.trans l4)) nz bl).mono ?_,fun s=>⟨(w1,w2,us),by and_intros<;>rfl,X,by omega,hX,fun q h=>h,fun h=>?_,B.mono fun _ _ g=>g.le v⟩⟩,?_⟩
  ·rintro r V5 l5 L
   have Zd:=L
   obtain ⟨_,_,_,_,_,_,_,_,_,_,_,_,rfl,gx,-⟩:=L
   have lx:=B.len
   refine ⟨_,_,_,_,_,_,_,_,_,_,_,_,_,_,rfl,by omega,B.le,B.cap,rfl,MS,fun sp S M N=>⟨(w1+1,S,_),by and_intros<;>rfl,X++[fu l 0],by rw [List.length_append];exact Nat.le_refl _,fun q f=>?_,fun q h=>List.mem_append_left _ h,fun _=>List.mem_append_right _ (List.mem_singleton_self _),(B.mono fun _ _ g=>g.le (v.trans (l4.trans l5))).snoc (a:=fu l 0) rfl gx (by decide) M N⟩⟩
   rcases List.mem_append.1 f with f|f
   ·exact hX q f
   ·rw [List.mem_singleton.1 f];exact (Na bl).1
  ·have s:¬l.2.1.sign=0:=by simpa using s
   exact absurd (by rw [h];rfl) s
  rintro ⟨u1,u2,TE⟩ V6 l6 ⟨Y,yl,T,Xo,hv,ga⟩
  dsimp only at ga ⊢
  have cY:=v.trans l6
  have hD:Lst 6 RLv V6 (jR p c (i+1) 6) (ls.length-(i+1)) (ls.drop (i+1)):=by
   by_cases e:i+1<c
   ·exact HT (h.le (l1.trans cY) fun _ _ g=>RLv.le g (l1.trans cY)) e
   ·have e0:ls.drop (i+1)=[]:=List.drop_eq_nil_of_le (by omega)
    have E:ls.length-(i+1)=0:=by omega
    rw [e0,E];exact Lst.nil
  have Xf:∀m∈ls.drop (i+1),Bd m:=fun m hm=>hb m (List.mem_of_mem_drop hm)
  have b9:=hD.len
  have Xg:(ls.drop (i+1)).length<=1000:=by rw [List.length_drop];omega
  generalize ls.drop (i+1)=D at *
  rw [b9] at hD ⊢
  generalize jR p c (i+1) 6=dp at *
  refine ⟨rfl,⟨by omega,by omega⟩,fun z V'=>∃(j:Nat)(Z:List Rat),z.2.2.2=(j:Int)/\j<=D.length/\Z.length<=Y.length+j/\(∀q∈Z,Sz 30000 q)/\(∀q∈Y,q∈Z)/\GR 3 RQ V' z.1 z.2.1 z.2.2.1 Z,fun z=>D.length-z.2.2.2.toNat,⟨(u1,u2,TE,0),by and_intros<;>rfl,0,Y,rfl,Nat.zero_le _,Nat.le_refl _,T,fun q h=>h,ga⟩,?_⟩
  rintro ⟨v1,v2,vs,z4⟩ V7 l7 ⟨j,Z,ej,c0,zl,hZ,Qu,U⟩
  dsimp only at ej U ⊢
  subst ej
  refine ⟨rfl,fun d=>?_,fun d=>⟨(v1,v2,vs,((i+1:Nat):Int)),by dsimp only;omega,by and_intros<;>rfl,i+1,Z,rfl,C,?_,hZ,t Z (fun q h=>Qu q (Xo q h)) (fun h=>Qu _ (hv h)),U⟩⟩
  ·have d:(j:Int)<D.length:=of_decide_eq_true d
   have F:j<D.length:=by omega
   have wj:i64.wrap ((j:Int)+1)=((j+1:Nat):Int):=by rw [i64w (by omega)];rfl
   rw [wj,Int.toNat_natCast]
   obtain ⟨Sx,d1,W,m1,E,d2,q2,m2,e2,d3,q3,m3,e3,LN,a3,x0,x1,x2,x3,x4,x5,gm⟩:=zf (hD.le l7 fun _ _ g=>RLv.le g l7) F
   have bm:=Xf _ (List.getElem_mem F)
   generalize D[j]=m at *
   refine ⟨Sx,⟨by omega,by omega⟩,d1,W,m1,E,d2,q2,m2,e2,d3,q3,m3,e3,LN,a3,x0,x1,x2,x3,x4,x5,fun V8 l8=>(MX (RLv.le UF (cY.trans (l7.trans l8))) (RLv.le gm l8) bl.szl bm.szl (by omega)).mono ?_⟩
   rintro r V9 l9 ⟨u,rfl,q0,W⟩
   have Vp:=l8.trans l9
   have lz:=U.len
   by_cases I:bw l m=0
   ·have qz:=q0 I
    unfold KR at qz
    subst qz
    refine ⟨_,_,_,_,_,_,_,_,_,_,_,_,_,_,_,rfl,fun h=>by simp [I] at h,fun _=>⟨(v1,v2,vs,((j+1:Nat):Int)),by dsimp only;omega,by and_intros<;>rfl,j+1,Z,rfl,F,by omega,hZ,Qu,U.mono fun _ _ g=>g.le Vp⟩⟩
   have hp:=W I
   obtain ⟨_,_,_,_,_,_,_,_,_,_,_,_,rfl,gx,-⟩:=hp
   obtain ⟨s1,-⟩:=KC bl.szl bm.szl
   refine ⟨_,_,_,_,_,_,_,_,_,_,_,_,_,_,_,rfl,fun _=>⟨by omega,U.le,U.cap,rfl,MS,fun sp S M N=>⟨(v1+1,S,_,((j+1:Nat):Int)),by dsimp only;omega,by and_intros<;>rfl,j+1,Z++[Ka l m],rfl,F,by rw [List.length_append,List.length_singleton];omega,fun q f=>?_,fun q h=>List.mem_append_left _ (Qu q h),(U.mono fun _ _ g=>g.le Vp).snoc (a:=Ka l m) rfl gx (by decide) M N⟩⟩,fun h=>by simp [I] at h⟩
   rcases List.mem_append.1 f with f|f
   ·exact hZ q f
   ·rw [List.mem_singleton.1 f];exact s1.mono (by omega)
  ·have d:¬(j:Int)<D.length:=of_decide_eq_false d
   omega
 have d:¬(i:Int)<ls.length:=of_decide_eq_false d
 obtain rfl:i=ls.length:=by omega
 have E:=B.len
 have f1:=B.le
 have hL:Lst 3 RQ b7 (mA bk w2) X.length X:=Lst.of_mrow b8 (B.row.le fun _ _ g=>g.le a9) (by decide) (by omega)
 rw [←E] at hL
 have SC:=l1.trans a9
 refine (kD hL (by omega) hX (by omega)).mono ?_
 rintro r e8 c4 ⟨W,m1,d1,rfl,hN⟩
 have e9:=uC X
 refine ⟨_,_,_,rfl,fun J f0 a4=>(nZ (hN.le a4 fun _ _ g=>g.le a4) (by omega) (k:=30000) (fun q f=>hX q (lg.1 f)) (by omega)).mono ?_⟩
 rintro r f2 v ⟨q2,m2,d2,rfl,hG⟩
 rw [←sL] at hG
 have MC:=SC.trans (c4.trans (a4.trans v))
 have Xa:=Bk hX
 have Ze:=Bi X
 have Rp:=Bj (BX X)
 have XQ:∀l∈ls,∀x∈mF (iu X),x∉iu X/\(l.2.1=0->fu l 0∈iu X):=fun l hl x hx=>by
  refine ⟨Rp x hx,fun s=>lg.2 ?_⟩
  obtain ⟨k,o,rfl⟩:=List.mem_iff_getElem.1 hl
  exact hv k o o s
 generalize iu X=NX at *
 generalize mF NX=G at *
 have a5:=hG.len
 subst a5
 refine ⟨_,_,_,rfl,fun z V'=>∃(i:Nat)(P:List (Rat×Rat)),z.2.2.2=(i:Int)/\i<=G.length/\P.length<=i*1001/\(∀x∈P,Sz 200000 x.1/\Sz 200000 x.2/\∀l∈ls,aj l x.1 x.2≠0)/\GR 6 Fh V' z.1 z.2.1 z.2.2.1 P,fun z=>G.length-z.2.2.2.toNat,⟨(0,0,[],0),by and_intros<;>rfl,0,[],rfl,Nat.zero_le _,Nat.zero_le _,(fun q f=>by cases f),GR.nil⟩,?_⟩
 rintro ⟨c5,c6,TE,z4⟩ f3 dL ⟨i,P,ei,XW,pl,hP,L⟩
 dsimp only at ei L ⊢
 subst ei
 have uj:=MC.trans dL
 refine ⟨rfl,fun d=>?_,fun d Wa MG Ul A=>?_⟩
 rotate_left
 ·have E:=L.len
  have f1:=L.le
  have d:¬(i:Int)<G.length:=of_decide_eq_false d
  subst E
  exact ⟨_,_,_,P,rfl,Lst.of_mrow A (L.row.le fun _ _ g=>Fh.le g MG) (by decide) f1,by omega,hP⟩
 have d:(i:Int)<G.length:=of_decide_eq_true d
 have C:i<G.length:=by omega
 have wi:i64.wrap ((i:Int)+1)=((i+1:Nat):Int):=by rw [i64w (by omega)];rfl
 rw [wi,Int.toNat_natCast]
 obtain ⟨ad,b,p1,n1,c1,p2,n2,c2,ha,f,a0,a1,a2⟩:=yq (hG.le dL fun _ _ g=>g.le dL) C
 have sx:=Xa _ (List.getElem_mem C)
 have Mv:=fun l hl=>XQ l hl _ (List.getElem_mem C)
 generalize G[i]=x at *
 refine ⟨cI ha,⟨by omega,by omega⟩,b,p1,n1,c1,p2,n2,c2,ad,ha,a0,a1,a2,fun z V'=>∃(j:Nat)(Y:List Rat),z.2.2.2=(j:Int)/\j<=ls.length/\Y.length<=j/\(∀q∈Y,Sz 70000 q)/\(∀(k:Nat)(h:k<ls.length),k<j->ls[k].2.1≠0->-(((ls[k].1:Rat)*x+(ls[k].2.2:Rat))*((ls[k].2.1:Rat))⁻¹)∈Y)/\GR 3 RQ V' z.1 z.2.1 z.2.2.1 Y,fun z=>ls.length-z.2.2.2.toNat,⟨(0,0,[],0),by and_intros<;>rfl,0,[],rfl,Nat.zero_le _,Nat.le_refl _,(fun q f=>by cases f),(fun k _ h=>absurd h (Nat.not_lt_zero k)),GR.nil⟩,?_⟩
 rintro ⟨y1,y2,ys,z4⟩ f4 cX ⟨j,Y,ej,c0,yl,T,Sn,K⟩
 dsimp only at ej K ⊢
 subst ej
 have O3:=uj.trans cX
 refine ⟨rfl,fun d=>?_,fun d Qm Jg Ul A=>?_⟩
 ·have d:(j:Int)<ls.length:=of_decide_eq_true d
  have F:j<ls.length:=by omega
  have wj:i64.wrap ((j:Int)+1)=((j+1:Nat):Int):=by rw [i64w (by omega)];rfl
  rw [wj,Int.toNat_natCast]
  obtain ⟨is,b1,W,a6,a7,b2,q2,Po,a8,b3,q3,SP,c7,LN,a3,k0,k1,k2,k3,k4,k5,gl⟩:=zf (h.le O3 fun _ _ g=>RLv.le g O3) F
  have sl:=(hb _ (List.getElem_mem F)).szl
  have t:∀Y':List Rat,(∀q∈Y,q∈Y')->(ls[j].2.1≠0->-(((ls[j].1:Rat)*x+(ls[j].2.2:Rat))*((ls[j].2.1:Rat))⁻¹)∈Y')->∀(k:Nat)(h:k<ls.length),k<j+1->ls[k].2.1≠0->-(((ls[k].1:Rat)*x+(ls[k].2.2:Rat))*((ls[k].2.1:Rat))⁻¹)∈Y':=fun Y' O R k o d s=>by
   by_cases e:k=j
   ·subst e;exact R s
   ·exact O _ (Sn k o (by omega) s)
  clear Sn
  generalize ls[j]=l at *
  obtain ⟨rfl,rfl,rfl,gA,gB,gC⟩:=Ci gl
  refine ⟨is,⟨by omega,by omega⟩,_,W,a6,a7,_,q2,Po,a8,_,q3,SP,c7,LN,a3,k0,k1,k2,k3,k4,k5,fun lW cY=>(fD l.2.1 (gB.le cY)).mono ?_⟩
  rintro r nQ cN rfl
  have HL:=cY.trans cN
  refine ⟨_,rfl,fun s qG dU=>(aQ (gA.le (HL.trans dU)) sl.1 (by omega)).mono ?_,fun s=>⟨(y1,y2,ys,((j+1:Nat):Int)),by dsimp only;omega,by and_intros<;>rfl,j+1,Y,rfl,F,by omega,T,t Y (fun q h=>h) (fun h=>?_),K.mono fun _ _ g=>g.le HL⟩⟩
  rotate_left
  ·have s:l.2.1.sign=0:=by simpa using s
   exact absurd (Int.sign_eq_zero_iff_zero.1 s) h
  have s:¬l.2.1.sign=0:=by simpa using s
  have c8:l.2.1≠0:=fun e=>s (by rw [e];rfl)
  have Xe:((l.2.1:Int):Rat).num≠0:=by rw [Rat.num_intCast];exact c8
  rintro r sZ dO M
  have c9:=M
  obtain ⟨_,_,_,_,_,_,rfl⟩:=M.shape
  have Lk:=HL.trans (dU.trans dO)
  refine ⟨_,_,_,_,_,_,_,rfl,fun C3 jg=>(aN (c9.le jg) (f.le (cX.trans (Lk.trans jg))) sl.1 sx (by omega)).mono ?_⟩
  rintro r vS gj N
  have d0:=N
  obtain ⟨_,_,_,_,_,_,rfl⟩:=N.shape
  have Ll:=Lk.trans (jg.trans gj)
  have s2:=sl.1.mul sx
  refine ⟨_,_,_,_,_,_,_,rfl,fun yA kJ=>(aQ (gC.le (Ll.trans kJ)) sl.2.2 (by omega)).mono ?_⟩
  rintro r xj gS g3
  have qS:=g3
  obtain ⟨_,_,_,_,_,_,rfl⟩:=g3.shape
  have Lo:=kJ.trans gS
  refine ⟨_,_,_,_,_,_,_,rfl,fun Jc xY=>(dj (d0.le (Lo.trans xY)) (qS.le xY) s2 sl.2.2 (by omega)).mono ?_⟩
  rintro r GL d4 g4
  have K4:=g4
  obtain ⟨_,_,_,_,_,_,rfl⟩:=g4.shape
  have Lm:=Ll.trans (Lo.trans (xY.trans d4))
  have s4:=s2.add sl.2.2
  refine ⟨_,_,_,_,_,_,_,rfl,fun LL b0=>(aQ (gB.le (Lm.trans b0)) sl.2.1 (by omega)).mono ?_⟩
  rintro r NB d5 g5
  have JF:=g5
  obtain ⟨_,_,_,_,_,_,rfl⟩:=g5.shape
  have Lp:=b0.trans d5
  refine ⟨_,_,_,_,_,_,_,rfl,fun NC Aw=>(ia (K4.le (Lp.trans Aw)) (JF.le Aw) Xe s4 sl.2.1 (by omega)).mono ?_⟩
  rintro r Ql C0 g6
  have Me:=g6
  obtain ⟨_,_,_,_,_,_,rfl⟩:=g6.shape
  have s6:=s4.mul (fl sl.2.1)
  refine ⟨_,_,_,_,_,_,_,rfl,fun LM Ax=>(mU (Me.le Ax) s6 (by omega)).mono ?_⟩
  rintro r QR DF g7
  have Mf:=g7
  obtain ⟨_,_,_,_,_,_,rfl⟩:=g7.shape
  have O6:=Lm.trans (Lp.trans (Aw.trans (C0.trans (Ax.trans DF))))
  have ly:=K.len
  refine ⟨_,_,_,_,_,_,_,rfl,by omega,K.le,K.cap,rfl,MS,fun sp S O R=>⟨(y1+1,S,_,((j+1:Nat):Int)),by dsimp only;omega,by and_intros<;>rfl,j+1,Y++[_],rfl,F,by rw [List.length_append,List.length_singleton];omega,fun q f=>?_,t _ (fun q h=>List.mem_append_left _ h) (fun _=>List.mem_append_right _ (List.mem_singleton_self _)),(K.mono fun _ _ g=>g.le O6).snoc rfl Mf (by decide) O R⟩⟩
  rcases List.mem_append.1 f with f|f
  ·exact T q f
  ·rw [List.mem_singleton.1 f];exact s6.neg.mono (by omega)
 have d:¬(j:Int)<ls.length:=of_decide_eq_false d
 obtain rfl:j=ls.length:=by omega
 have E:=K.len
 have f1:=K.le
 have hL:Lst 3 RQ Qm (mA Ul y2) Y.length Y:=Lst.of_mrow A (K.row.le fun _ _ g=>g.le Jg) (by decide) (by omega)
 rw [←E] at hL
 refine (kD hL (by omega) T (by omega)).mono ?_
 rintro r Qn BG ⟨W,m1,f5,rfl,d6⟩
 have XF:=uC Y
 refine ⟨_,_,_,rfl,fun J VY J0=>(nZ (d6.le J0 fun _ _ g=>g.le J0) (by omega) (k:=70000) (fun q f=>T q (lg.1 f)) (by omega)).mono ?_⟩
 rintro r VZ wA ⟨q2,m2,Zb,rfl,hH⟩
 rw [←sL] at hH
 have Lj:=cX.trans (Jg.trans (BG.trans (J0.trans wA)))
 have d7:=Bk T
 have f6:=Bi Y
 have b5:∀y∈mF (iu Y),∀l∈ls,aj l x y≠0:=fun y hy l hl=>by
  obtain ⟨M,N⟩:=Mv l hl
  refine Hr (Ie (hk l hl)) M (Bj (BX Y) y hy) N fun s=>lg.2 ?_
  obtain ⟨k,o,rfl⟩:=List.mem_iff_getElem.1 hl
  exact Sn k o o s
 generalize mF (iu Y)=H at *
 have a5:=hH.len
 subst a5
 refine ⟨_,_,_,rfl,fun z V'=>∃(k:Nat)(Q:List (Rat×Rat)),z.2.2.2=(k:Int)/\k<=H.length/\Q.length<=P.length+k/\(∀x∈Q,Sz 200000 x.1/\Sz 200000 x.2/\∀l∈ls,aj l x.1 x.2≠0)/\GR 6 Fh V' z.1 z.2.1 z.2.2.1 Q,fun z=>H.length-z.2.2.2.toNat,⟨(c5,c6,TE,0),by and_intros<;>rfl,0,P,rfl,Nat.zero_le _,Nat.le_refl _,hP,L.mono fun _ _ g=>Fh.le g Lj⟩,?_⟩
 rintro ⟨v1,v2,vs,z4⟩ V_ Lq ⟨k,Q,ek,f7,ql,hQ,gQ⟩
 dsimp only at ek gQ ⊢
 subst ek
 refine ⟨rfl,fun d=>?_,fun d=>⟨(v1,v2,vs,((i+1:Nat):Int)),by dsimp only;omega,by and_intros<;>rfl,i+1,Q,rfl,C,?_,hQ,gQ⟩⟩
 ·have d:(k:Int)<H.length:=of_decide_eq_true d
  have o:k<H.length:=by omega
  have wk:i64.wrap ((k:Int)+1)=((k+1:Nat):Int):=by rw [i64w (by omega)];rfl
  rw [wk,Int.toNat_natCast]
  obtain ⟨QW,b',SY,a6,a7,S0,Po,a8,b6,d8,d9,e5,WQ⟩:=yq (hH.le Lq fun _ _ g=>g.le Lq) o
  have sy:=d7 _ (List.getElem_mem o)
  have e6:=b5 _ (List.getElem_mem o)
  generalize H[k]=y at *
  have lq:=gQ.len
  have gx:=f.le (Lj.trans Lq)
  refine ⟨cI b6,⟨by omega,by omega⟩,b',SY,a6,a7,S0,Po,a8,QW,b6,d9,e5,WQ,by omega,gQ.le,gQ.cap,rfl,SU,fun sp S O R=>⟨(v1+1,S,_,((k+1:Nat):Int)),by dsimp only;omega,by and_intros<;>rfl,k+1,Q++[(x,y)],rfl,o,by rw [List.length_append,List.length_singleton];omega,fun q f=>?_,gQ.snoc (a:=(x,y)) rfl (M7 gx d8) (by decide) O R⟩⟩
  rcases List.mem_append.1 f with f|f
  ·exact hQ q f
  ·rw [List.mem_singleton.1 f];exact ⟨sx.mono (by omega),sy.mono (by omega),e6⟩
 ·have d:¬(k:Int)<H.length:=of_decide_eq_false d
  omega
def mw (cs:List Sd)(x:Rat×Rat):Int:=if hasC cs x=true then (if inC cs x=true then 2 else 1) else 0
theorem rN {V:View}{p:OA}{n c:Nat}{ls:List L3}(h:Lst 6 At V p n ls)(hb:∀l∈ls,Bd l){pv:Value}{x:Rat×Rat}(hp:ApS V pv x)(s1:Sz 1000000000 x.1)(s2:Sz 1000000000 x.2){yi:Value}(hy:Sent V 0 yi) :
  Acts prog 35 #[.agg #[.slice p n c],pv] V fun r V'=>Jb ls (r=.tuple #[.int .i64 0,yi]) (r=.tuple #[.int .i64 0,.nilIface]) fun cs=>r=.tuple #[.int .i64 (mw cs x),.nilIface]:=by
 have s:=hp
 obtain ⟨⟨_,_,_,_,_,_,_,_,_,_,_,_,_,_,rfl⟩,-⟩:=hp
 refine r_ p n c _ _ _ _ _ _ _ _ _ _ _ _ _ _ V _ fun R t=>(Fq (h.le t fun _ _ g=>At.le g t) hb).mono ?_
 rintro r V2 D ⟨q,m,e,rfl,g⟩
 have y:=t.trans D
 refine ⟨_,_,_,_,rfl,fun a=>⟨yi,⟨_,rfl,hy.le y⟩,fun S T=>.inl ⟨by simpa using a,rfl⟩⟩,fun a U u=>?_⟩
 have a:zm ls=true:=by simpa using a
 have E:=g a
 refine (yO (E.le u fun _ _ g=>yy.le g u) (zo a).2 (by have:=(zo a).1;omega)).mono ?_
 rintro r W F ⟨X,Y,Z,rfl,hn,G⟩
 refine ⟨_,_,_,_,rfl,fun H z=>(s.2 H (y.trans (u.trans (F.trans z)))).mono ?_⟩
 rintro r V7 I A
 have j:=A
 obtain ⟨_,_,_,_,_,_,rfl,-,-⟩:=A
 refine ⟨_,_,_,_,_,_,rfl,fun d V8 l8=>?_,fun d V9 v=>?_⟩
 ·have d:bj ls [] []=none:=by simpa using d
  exact .inr (.inl ⟨a,d,rfl⟩)
 ·have d:(bj ls [] []).isSome=true:=by simpa using d
  obtain ⟨cs,k⟩:=Option.isSome_iff_exists.1 d
  obtain ⟨B,-⟩:=G cs k
  have C:=Di k a
  have o:=z.trans (I.trans v)
  refine (c_Cell_Has (B.le o fun _ _ g=>RSd.le g o) (j.le v) s1 s2 C).mono ?_
  rintro r J f rfl
  refine ⟨_,rfl,fun b K L=>?_,fun b M i=>(c_Cell_Inside (B.le (o.trans (f.trans i)) fun _ _ g=>RSd.le g (o.trans (f.trans i))) (j.le (v.trans (f.trans i))) s1 s2 C).mono ?_⟩
  ·have b:hasC cs x=false:=by simpa using b
   refine .inr (.inr ⟨a,cs,k,?_⟩)
   unfold mw
   dsimp only
   rw [if_neg (by rw [b];exact Bool.false_ne_true)]
  ·have b:hasC cs x=true:=by simpa using b
   rintro r N O rfl
   refine ⟨_,rfl,fun w P dL=>.inr (.inr ⟨a,cs,k,?_⟩),fun w Q cX=>.inr (.inr ⟨a,cs,k,?_⟩)⟩
   ·unfold mw
    dsimp only
    rw [if_pos b,if_pos w]
   ·unfold mw
    dsimp only
    rw [if_pos b,if_neg (by rw [w];exact Bool.false_ne_true)]
def partsC:Tr->List Sd->List (List Sd×Bool)
 | .leaf b,c=>[(c,b)]
 | .node l x y,c=>(match clipC c l with|some d=>partsC x d|none=>[])++(match clipC c (revL l) with|some d=>partsC y d|none=>[])
theorem mj {P:L3->Prop}(hr:∀l,P l->P (revL l))(hP:∀l,P l->okL l=true):∀{t:Tr} {M:List L3} {c:List Sd},CanC M c->(∀m∈M,P m)->t.All P->∀p∈partsC t c,∃M',CanC M' p.1/\∀m∈M',P m
 | .leaf b,M,c,h,hk,_,p,hp=>by
  unfold partsC at hp
  rw [List.mem_singleton.1 hp]
  exact ⟨M,h,hk⟩
 | .node l x y,M,c,h,hk,ht,p,hp=>by
  obtain ⟨hl,hx,hy⟩:=ht
  unfold partsC at hp
  have half:∀{m:L3} {z:Tr},P m->(∀{M:List L3} {c:List Sd},CanC M c->(∀m∈M,P m)->∀p∈partsC z c,∃M',CanC M' p.1/\∀m∈M',P m)->p∈(match clipC c m with|some d=>partsC z d|none=>[])->∃M',CanC M' p.1/\∀m∈M',P m:=fun {m z} hm a hp=>by
   cases ec:clipC c m with
   | some d=>
    rw [ec] at hp
    exact a ((clip_ok h (fun m hm=>hP m (hk m hm)) (hP m hm)).1 d ec) (fun n e=>(List.mem_cons.1 e).elim (fun g=>g▸hm) (hk n)) p hp
   | none=>rw [ec] at hp;cases hp
  rcases List.mem_append.1 hp with hp|hp
  ·exact half hl (fun h hk=>mj hr hP h hk hx) hp
  ·exact half (hr l hl) (fun h hk=>mj hr hP h hk hy) hp
end Go.Proofs.Tryz
namespace Go.Proofs.Tryz
open Go.Eng
set_option maxRecDepth 100000
end Go.Proofs.Tryz
namespace Go.Proofs.Tryz
open Go.Eng Go.Big
def RCe (V:View)(v:Value)(p:List L3×Bool):Prop:=∃q n c,v=.agg #[.slice q n c,.bool p.2]/\Lst 6 RLv V q n p.1/\n<=1000
theorem RCe.le {V V':View}{v:Value}{p:List L3×Bool}(h:RCe V v p)(l:V.Le V'):RCe V' v p:=by
 obtain ⟨q,n,c,rfl,a,b⟩:=h
 exact ⟨q,n,c,rfl,a.le l fun _ _ g=>RLv.le g l,b⟩
def CellsR (V V':View)(r:Value)(o:List (List L3×Bool)):Prop:=∃(bm:Nat)(vm:List Value)(n c:Nat),(vm≠[]->V'.w.heap[bm]?=some (.cells vm.toArray 45 (0,0)))/\(vm≠[]->V.w.heap.size<=bm)/\r=.slice (mA bm c) n c/\GR 2 RCe (V'.hideG (vm≠[]) bm) n c vm o
theorem CellsR.nil {V V':View}:CellsR V V' (.slice none 0 0) []:=⟨0,[],0,0,fun h=>absurd rfl h,fun h=>absurd rfl h,rfl,GR.nil⟩
theorem tL {M:List L3}{c:List Sd}(h:CanC M c)(hk:∀m∈M,okL m=true){l:L3}(hl:okL l=true)(e:clipC c l=none):clipC c (revL l)=some c:=by
 have a:(bu c l fullSp).isSome=false:=by
  unfold clipC at e
  cases ep:bu c l fullSp with
  | some v=>rw [ep] at e;cases e
  | none=>rfl
 have f:¬0<cF c l:=by
  unfold clipC at e
  cases ep:bu c l fullSp with
  | some v=>rw [ep] at e;cases e
  | none=>
   rw [ep] at e
   dsimp only at e
   split at e
   ·cases e
   ·assumption
 have b:(bu c (revL l) fullSp).isSome=false:=by
  cases g:(bu c (revL l) fullSp).isSome
  ·rfl
  ·obtain ⟨x,i,j⟩:=(lh h hk (ok_rev hl)).1 g
   rw [val_rev] at i
   rw [(lh h hk hl).2 ⟨x,by grind,j⟩] at a;cases a
 obtain ⟨q,d⟩:=h.pos
 have p:aj l q.1 q.2≠0:=fun z=>by rw [(lh h hk hl).2 ⟨q,z,d⟩] at a;cases a
 have n:¬∃q,Sec.pos M q/\0<aj l q.1 q.2:=by
  rcases (B5 h hk hl).2 a with ⟨g,-⟩|⟨-,g⟩
  ·rw [g] at f;exact absurd (by decide) f
  ·exact g
 have o:cF c (revL l)=1:=by
  rcases (B5 h hk (ok_rev hl)).2 b with ⟨g,-⟩|⟨-,g⟩
  ·exact g
  ·exfalso
   refine g ⟨q,d,?_⟩
   rw [val_rev]
   have:¬0<aj l q.1 q.2:=fun k=>n ⟨q,d,k⟩
   grind
 unfold clipC
 cases ep:bu c (revL l) fullSp with
 | some v=>rw [ep] at b;cases b
 | none=>
  dsimp only
  rw [if_pos (by rw [o];decide)]
theorem jN {P:L3->Prop}(hr:∀l,P l->P (revL l))(hP:∀l,P l->okL l=true):∀{t:Tr} {M:List L3} {c:List Sd},CanC M c->(∀m∈M,P m)->t.All P->∀p∈partsC t c,∃M',CanC M' p.1/\(∀m∈M',P m)/\∀m∈M,m∈M'
 | .leaf b,M,c,h,hk,_,p,hp=>by
  unfold partsC at hp
  rw [List.mem_singleton.1 hp]
  exact ⟨M,h,hk,fun m hm=>hm⟩
 | .node l x y,M,c,h,hk,ht,p,hp=>by
  obtain ⟨hl,hx,hy⟩:=ht
  unfold partsC at hp
  have half:∀{m:L3} {z:Tr},P m->(∀{M:List L3} {c:List Sd},CanC M c->(∀m∈M,P m)->∀p∈partsC z c,∃M',CanC M' p.1/\(∀m∈M',P m)/\∀m∈M,m∈M')->p∈(match clipC c m with|some d=>partsC z d|none=>[])->∃M',CanC M' p.1/\(∀m∈M',P m)/\∀m∈M,m∈M':=fun {m z} hm f hp=>by
   cases ec:clipC c m with
   | some d=>
    rw [ec] at hp
    obtain ⟨M',a,b,i⟩:=f ((clip_ok h (fun m hm=>hP m (hk m hm)) (hP m hm)).1 d ec) (fun n e=>(List.mem_cons.1 e).elim (fun g=>g▸hm) (hk n)) p hp
    exact ⟨M',a,b,fun n e=>i n (List.mem_cons_of_mem _ e)⟩
   | none=>rw [ec] at hp;cases hp
  rcases List.mem_append.1 hp with hp|hp
  ·exact half hl (fun h hk=>jN hr hP h hk hx) hp
  ·exact half (hr l hl) (fun h hk=>jN hr hP h hk hy) hp
def jF (c:List Sd)(q:Sec.V2):Prop:=∀s∈c,0<aj s.1 q.1 q.2
theorem nj:∀{t:Tr} {M:List L3} {c:List Sd},CanC M c->(∀m∈M,okL m=true)->t.All (fun l=>okL l=true)->(partsC t c).Pairwise fun p p'=>¬∃q,jF p.1 q/\jF p'.1 q
 | .leaf b,M,c,_,_,_=>by unfold partsC;exact List.pairwise_singleton ..
 | .node l x y,M,c,h,hk,ht=>by
  obtain ⟨hl,hx,hy⟩:=ht
  unfold partsC
  refine List.pairwise_append.2 ⟨?_,?_,?_⟩
  ·cases ec:clipC c l with
   | some d=>exact nj ((clip_ok h hk hl).1 d ec) (fun n f=>(List.mem_cons.1 f).elim (fun g=>g▸hl) (hk n)) hx
   | none=>exact List.Pairwise.nil
  ·cases ec:clipC c (revL l) with
   | some d=>exact nj ((clip_ok h hk (ok_rev hl)).1 d ec) (fun n f=>(List.mem_cons.1 f).elim (fun g=>g▸ok_rev hl) (hk n)) hy
   | none=>exact List.Pairwise.nil
  ·have side:∀{m:L3} {z:Tr},okL m=true->z.All (fun l=>okL l=true)->∀p∈(match clipC c m with|some d=>partsC z d|none=>[]),∀q,jF p.1 q->0<aj m q.1 q.2:=fun {m z} hm j p e q k=>by
    cases ec:clipC c m with
    | some d=>
     rw [ec] at e
     obtain ⟨u,a,b,w⟩:=jN (P:=fun l=>okL l=true) (fun l=>ok_rev) (fun l h=>h) ((clip_ok h hk hm).1 d ec) (fun n f=>(List.mem_cons.1 f).elim (fun g=>g▸hm) (hk n)) j p e
     exact a.int b k m (w m (List.mem_cons_self ..))
    | none=>rw [ec] at e;cases e
   rintro p e p' i ⟨q,o,r⟩
   have v:=side hl hx p e q o
   have s:=side (ok_rev hl) hy p' i q r
   rw [val_rev] at s
   grind
theorem lj:∀{t:Tr} {M:List L3} {c:List Sd},CanC M c->(∀m∈M,okL m=true)->t.All (fun l=>okL l=true)->∀{x:Sec.V2},(∀s∈c,0<=aj s.1 x.1 x.2)->∃p∈partsC t c,∀s∈p.1,0<=aj s.1 x.1 x.2
 | .leaf b,M,c,_,_,_,x,hx=>⟨(c,b),by unfold partsC;exact List.mem_singleton.2 rfl,hx⟩
 | .node l a b,M,c,h,hk,ht,x,hx=>by
  obtain ⟨hl,ha,hb⟩:=ht
  have half:∀{m:L3} {z:Tr},okL m=true->(∀{M:List L3} {c:List Sd},CanC M c->(∀m∈M,okL m=true)->∀{x:Sec.V2},(∀s∈c,0<=aj s.1 x.1 x.2)->∃p∈partsC z c,∀s∈p.1,0<=aj s.1 x.1 x.2)->∀{d:List Sd},clipC c m=some d->(∀s∈d,0<=aj s.1 x.1 x.2)->∃p∈(match clipC c m with|some d=>partsC z d|none=>[]),∀s∈p.1,0<=aj s.1 x.1 x.2:=fun {m z} hm q {d} e f=>by
   rw [e]
   exact q ((clip_ok h hk hm).1 d e) (fun n r=>(List.mem_cons.1 r).elim (fun g=>g▸hm) (hk n)) f
  have o:∀{m:L3},okL m=true->0<=aj m x.1 x.2->∀{d:List Sd},clipC c m=some d->∀s∈d,0<=aj s.1 x.1 x.2:=fun {m} hm i {d} e s u=>by
   rcases List.mem_cons.1 (((clip_ok h hk hm).1 d e).mem s u).1 with g|g
   ·rw [g];exact i
   ·exact Jw h hk hx s.1 g
  have left:∀{d:List Sd},clipC c l=some d->(∀s∈d,0<=aj s.1 x.1 x.2)->∃p∈partsC (.node l a b) c,∀s∈p.1,0<=aj s.1 x.1 x.2:=fun e f=>by
   obtain ⟨p,j,k⟩:=half hl (fun h hk=>lj h hk ha) e f
   exact ⟨p,by unfold partsC;exact List.mem_append_left _ j,k⟩
  have right:∀{d:List Sd},clipC c (revL l)=some d->(∀s∈d,0<=aj s.1 x.1 x.2)->∃p∈partsC (.node l a b) c,∀s∈p.1,0<=aj s.1 x.1 x.2:=fun e f=>by
   obtain ⟨p,j,k⟩:=half (ok_rev hl) (fun h hk=>lj h hk hb) e f
   exact ⟨p,by unfold partsC;exact List.mem_append_right _ j,k⟩
  by_cases i:0<=aj l x.1 x.2
  ·cases e:clipC c l with
   | some d=>exact left e (o hl i e)
   | none=>exact right (tL h hk hl e) hx
  ·have v:0<=aj (revL l) x.1 x.2:=by rw [val_rev];grind
   cases e:clipC c (revL l) with
   | some d=>exact right e (o (ok_rev hl) v e)
   | none=>
    have:=tL h hk (ok_rev hl) e
    rw [rev_rev] at this
    exact left this hx
theorem Tr.pF {P:L3->Prop}:∀{t:Tr},(∀l∈t.vM,P l)->t.All P
 | .leaf _,_=>trivial
 | .node l x y,h=>⟨h l (List.mem_cons_self ..),pF fun m hm=>h m (List.mem_cons_of_mem _ (List.mem_append_left _ hm)),pF fun m hm=>h m (List.mem_cons_of_mem _ (List.mem_append_right _ hm))⟩
theorem Tr.qg {P:L3->Prop}:∀{t:Tr},t.All P->∀l∈t.vM,P l
 | .leaf _,_,l,hl=>by cases hl
 | .node l x y,h,m,hm=>by
  rcases List.mem_cons.1 hm with rfl|hm
  ·exact h.1
  ·rcases List.mem_append.1 hm with hm|hm
   ·exact qg h.2.1 m hm
   ·exact qg h.2.2 m hm
theorem nk (v:Sec.V2):∀{t:Tr} {M:List L3} {c:List Sd},CanC M c->(∀m∈M,okL m=true)->t.All (fun l=>okL l=true)->∀p∈partsC t c,∀{x:Sec.V2},jF p.1 x->Sec.kL t x v=(p.2,true)
 | .leaf b,M,c,_,_,_,p,hp,x,_=>by
  unfold partsC at hp
  rw [List.mem_singleton.1 hp];rfl
 | .node l a b,M,c,h,hk,ht,p,hp,x,hx=>by
  obtain ⟨hl,ha,hb⟩:=ht
  unfold partsC at hp
  have half:∀{m:L3} {z:Tr},okL m=true->z.All (fun l=>okL l=true)->(∀{M:List L3} {c:List Sd},CanC M c->(∀m∈M,okL m=true)->∀p∈partsC z c,∀{x:Sec.V2},jF p.1 x->Sec.kL z x v=(p.2,true))->p∈(match clipC c m with|some d=>partsC z d|none=>[])->0<aj m x.1 x.2/\Sec.kL z x v=(p.2,true):=fun {m z} hm o q hp=>by
   cases ec:clipC c m with
   | some d=>
    rw [ec] at hp
    have k:=(clip_ok h hk hm).1 d ec
    have i:∀n∈m::M,okL n=true:=fun n r=>(List.mem_cons.1 r).elim (fun g=>g▸hm) (hk n)
    obtain ⟨y,s,u,w⟩:=jN (P:=fun l=>okL l=true) (fun l=>ok_rev) (fun l h=>h) k i o p hp
    exact ⟨s.int u hx m (w m (List.mem_cons_self ..)),q k i p hp hx⟩
   | none=>rw [ec] at hp;cases hp
  rcases List.mem_append.1 hp with hp|hp
  ·obtain ⟨f,j⟩:=half hl ha (fun h hk=>nk v h hk ha) hp
   have s1:Sec.zL l x v=1:=by
    unfold Sec.zL
    rcases iZ (aj l x.1 x.2) with ⟨g,e⟩|⟨g,e⟩|⟨g,e⟩
    ·rw [g] at f;exact absurd f (by decide)
    ·rw [e];rfl
    ·grind
   unfold Sec.kL
   rw [if_pos s1];exact j
  ·obtain ⟨f,j⟩:=half (ok_rev hl) hb (fun h hk=>nk v h hk hb) hp
   rw [val_rev] at f
   have s1:Sec.zL l x v=-1:=by
    unfold Sec.zL
    rcases iZ (aj l x.1 x.2) with ⟨g,e⟩|⟨g,e⟩|⟨g,e⟩
    ·rw [g] at f;exact absurd f (by decide)
    ·grind
    ·rw [e];rfl
   unfold Sec.kL
   rw [if_neg (by rw [s1];decide),if_pos s1];exact j
theorem F6 {t:Tr}{M:List L3}{c:List Sd}(h:CanC M c)(hk:∀m∈M,okL m=true)(ht:t.All fun l=>okL l=true){x:Sec.V2}(hM:∀m∈M,aj m x.1 x.2≠0)(hT:∀m∈t.vM,aj m x.1 x.2≠0) :
  ∀p∈partsC t c,(∀s∈p.1,0<=aj s.1 x.1 x.2)->jF p.1 x:=fun p b d s a=>by
 obtain ⟨g,e,f,-⟩:=jN (P:=fun m=>okL m=true/\aj m x.1 x.2≠0) (fun m hm=>⟨ok_rev hm.1,by rw [val_rev];have:=hm.2;grind⟩) (fun m hm=>hm.1) h (fun m hm=>⟨hk m hm,hM m hm⟩) (Tr.pF fun m hm=>⟨Tr.qg ht m hm,hT m hm⟩) p b
 have i:=(f _ (e.mem s a).1).2
 have j:=d s a
 grind
end Go.Proofs.Tryz
