import Derived.Test.YtapnijmlbakblaaGreatDoorS6
import Derived.WalkKit
import Derived.LaidEql
import Derived.Stop.Asserts
import Derived.RowKitTokens
import Derived.Test.YtapnijmlbakblaaGreatDoorS15
import Derived.Test.YtapnijmlbakblaaGreatDoorS12
import Derived.Test.YtapnijmlbakblaaGreatDoorS16
import Derived.Test.YtapnijmlbakblaaGreatDoorS9
import Derived.Test.YtapnijmlbakblaaGreatDoorS17
import Derived.Test.YtapnijmlbakblaaGreatDoorS14
import Derived.Test.YtapnijmlbakblaaGreatDoorS11
set_option linter.unusedVariables false
open Go.IntKind (i64 u64 u32)
namespace Go.Proofs.Tryz
open Go.Eng
def Om (V:View)(g:Nat)(y:Value):Prop:=V.at ⟨g,0,none⟩ y
theorem Om.le {V V':View}{g:Nat}{y:Value}(h:Om V g y)(l:V.Le V'):Om V' g y:=l.at h
section
open Go.RowKit Go.Extern.Stop Go.Stop Go.Extern
end
end Go.Proofs.Tryz
namespace Go.Proofs.Tryz
open Go.Eng Go.Big
def Lr (V:View)(v:Value)(l:L3):Prop:=RL V v l.1 l.2.1 l.2.2\/jO l=false/\∃b1 p n c xs b2 q m e ys b3 s i j zs,v=.agg #[.bool b1,.slice p n c,.bool b2,.slice q m e,.bool b3,.slice s i j]/\RD V p n c xs/\RD V q m e ys/\RD V s i j zs /\
 vW b1 xs b2 ys b3 zs=false/\(xs.length<=1000000/\ys.length<=1000000/\zs.length<=1000000)/\Sz 1000000 (aZ b1 xs:Rat)/\Sz 1000000 (aZ b2 ys:Rat)/\Sz 1000000 (aZ b3 zs:Rat)
theorem Lr.le {V V':View}{v:Value}{l:L3}(h:Lr V v l)(e:V.Le V'):Lr V' v l:=by
 rcases h with h|⟨a,b1,p,n,c,xs,b2,q,m,b,d,b3,s,i,j,f,g,k,o,r,t⟩
 ·exact .inl (h.le e)
 ·exact .inr ⟨a,b1,p,n,c,xs,b2,q,m,b,d,b3,s,i,j,f,g,k.le e,o.le e,r.le e,t⟩
theorem Lr.ok {V:View}{v:Value}{l:L3}(h:Lr V v l)(ho:jO l=true):RL V v l.1 l.2.1 l.2.2:=by
 rcases h with h|⟨h,-⟩
 ·exact h
 ·rw [ho] at h;cases h
def NR (V:View)(vs:List Value)(l:List Nd):Prop:=∀(i:Nat)(d:Nd),l[i]?=some d->∃(b1:Bool)(p1:OA)(n1 c1:Nat)(b2:Bool)(p2:OA)(n2 c2:Nat)(b3:Bool)(p3:OA)(n3 c3:Nat),
 (∀j v,([.bool b1,.slice p1 n1 c1,.bool b2,.slice p2 n2 c2,.bool b3,.slice p3 n3 c3,.int .i64 d.left,.int .i64 d.right]:List Value)[j]?=some v->vs[i*8+j]?=some v) /\
 Lr V (.agg #[.bool b1,.slice p1 n1 c1,.bool b2,.slice p2 n2 c2,.bool b3,.slice p3 n3 c3]) d.ln
theorem NR.le {V V':View}{vs:List Value}{l:List Nd}(h:NR V vs l)(hl:V.Le V'):NR V' vs l:=fun i d a=>by
 obtain ⟨b1,b,c,e,b2,f,g,j,b3,k,m,n,o,p⟩:=h i d a;exact ⟨b1,b,c,e,b2,f,g,j,b3,k,m,n,o,p.le hl⟩
structure NS (V:View) (p:OA) (n c:Nat) (l:List Nd):Prop where
 len:n=l.length
 cap:n<=c
 row:∃vs,V.sl p vs/\NR V vs l
 JZ:p.isNone=true->c=0
theorem NS.le {V V':View}{p:OA}{n c:Nat}{l:List Nd}(h:NS V p n c l)(hl:V.Le V'):NS V' p n c l:=by
 obtain ⟨a,b,⟨d,e,f⟩,g⟩:=h;exact ⟨a,b,⟨d,hl.sl e,f.le hl⟩,g⟩
theorem NS.nil {V:View}:NS V none 0 0 []:=⟨rfl,Nat.le_refl _,⟨[],fun i v h=>by simp at h,fun i d h=>by simp at h⟩,fun _=>rfl⟩
theorem NS.rd {V:View}{p:OA}{n c:Nat}{l:List Nd}(h:NS V p n c l){k:Nat}{d:Nd}(hd:l[k]?=some d) :
  ∃(b1:Bool)(p1:OA)(n1 c1:Nat)(b2:Bool)(p2:OA)(n2 c2:Nat)(b3:Bool)(p3:OA)(n3 c3:Nat)(a:Addr),ah p (k*8)=some a /\
   V.at (a.add 0) (.bool b1)/\V.at (a.add 1) (.slice p1 n1 c1)/\V.at (a.add 2) (.bool b2)/\V.at (a.add 3) (.slice p2 n2 c2)/\V.at (a.add 4) (.bool b3)/\V.at (a.add 5) (.slice p3 n3 c3)/\V.at (a.add 6) (.int .i64 d.left)/\V.at (a.add 7) (.int .i64 d.right) /\
   Lr V (.agg #[.bool b1,.slice p1 n1 c1,.bool b2,.slice p2 n2 c2,.bool b3,.slice p3 n3 c3]) d.ln:=by
 obtain ⟨r,b,g⟩:=h.row;obtain ⟨b1,p1,n1,c1,b2,p2,n2,c2,b3,p3,n3,c3,f,i⟩:=g k d hd;obtain ⟨m,rfl,-⟩:=b _ _ (f 0 _ rfl)
 have key:∀j v,([.bool b1,.slice p1 n1 c1,.bool b2,.slice p2 n2 c2,.bool b3,.slice p3 n3 c3,.int .i64 d.left,.int .i64 d.right]:List Value)[j]?=some v->V.at ((m.add (k*8)).add j) v:=by
  intro j v o;obtain ⟨s,e,q⟩:=b _ _ (f j v o);cases e;rw [Oy];exact q
 exact ⟨b1,p1,n1,c1,b2,p2,n2,c2,b3,p3,n3,c3,_,rfl,key 0 _ rfl,key 1 _ rfl,key 2 _ rfl,key 3 _ rfl,key 4 _ rfl,key 5 _ rfl,key 6 _ rfl,key 7 _ rfl,i⟩
theorem N_ {vs:List Value}{n b:Nat}(h:vs≠[]):vb vs n b=b:=by cases vs with|nil=>exact absurd rfl h|cons v r=>rfl
theorem NR.push {V:View}{vs sp:List Value}{l:List Nd}(h:NR V vs l)(hl:l.length*8<=vs.length){ln:L3}{x y:Int}{b1:Bool}{p1:OA}{n1 c1:Nat}{b2:Bool}{p2:OA}{n2 c2:Nat}{b3:Bool}{p3:OA}{n3 c3:Nat}
  (hL:RL V (.agg #[.bool b1,.slice p1 n1 c1,.bool b2,.slice p2 n2 c2,.bool b3,.slice p3 n3 c3]) ln.1 ln.2.1 ln.2.2) :
  NR V (vs.take (l.length*8)++[.bool b1,.slice p1 n1 c1,.bool b2,.slice p2 n2 c2,.bool b3,.slice p3 n3 c3,.int .i64 x,.int .i64 y]++sp) (l++[⟨ln,x,y⟩]):=by
 intro i d b;rcases Nat.lt_or_ge i l.length with e|e
 ·rw [List.getElem?_append_left e] at b;obtain ⟨f,s,g,k,m,t,u,n,o,w,z,p,A,B⟩:=h i d b;refine ⟨f,s,g,k,m,t,u,n,o,w,z,p,fun j v c=>?_,B⟩
  have a:j<8:=by
   rcases Nat.lt_or_ge j 8 with a|a
   ·exact a
   ·rw [List.getElem?_eq_none (by simpa using a)] at c;cases c
  have:=A j v c;rw [List.append_assoc,List.getElem?_append_left (by rw [List.length_take];omega),List.getElem?_take,if_pos (by omega)];exact this
 ·rw [List.getElem?_append_right e] at b
  have q:i=l.length:=by
   rcases Nat.lt_or_ge (i-l.length) 1 with r|r
   ·omega
   ·rw [List.getElem?_eq_none (by simpa using r)] at b;cases b
  subst q;simp only [Nat.sub_self,List.getElem?_cons_zero,Option.some.injEq] at b;subst b;refine ⟨b1,p1,n1,c1,b2,p2,n2,c2,b3,p3,n3,c3,fun j v c=>?_,.inl hL⟩
  have a:j<8:=by
   rcases Nat.lt_or_ge j 8 with a|a
   ·exact a
   ·rw [List.getElem?_eq_none (by simpa using a)] at c;cases c
  rw [List.append_assoc,List.getElem?_append_right (by rw [List.length_take];omega),List.length_take,Nat.min_eq_left hl,Nat.add_sub_cancel_left,List.getElem?_append_left (by simpa using a)];exact c
theorem NR.take {V:View}{vs:List Value}{l:List Nd}(h:NR V vs l):NR V (vs.take (l.length*8)) l:=by
 intro i d b;obtain ⟨b1,e,f,g,b2,k,m,n,b3,o,p,q,r,s⟩:=h i d b;refine ⟨b1,e,f,g,b2,k,m,n,b3,o,p,q,fun j v c=>?_,s⟩
 have a:j<8:=by
  rcases Nat.lt_or_ge j 8 with a|a
  ·exact a
  ·rw [List.getElem?_eq_none (by simpa using a)] at c;cases c
 have t:i<l.length:=by
  rcases Nat.lt_or_ge i l.length with h|h
  ·exact h
  ·rw [List.getElem?_eq_none h] at b;cases b
 rw [List.getElem?_take,if_pos (by omega)];exact r j v c
def AT (V:View)(v:Value)(root:Int)(l:List Nd):Prop:=∃q n c,v=.agg #[.int .i64 root,.slice q n c]/\NS V q n c l
theorem AT.le {V V':View}{v:Value}{root:Int}{l:List Nd}(h:AT V v root l)(hl:V.Le V'):AT V' v root l:=by
 obtain ⟨q,n,c,e,h⟩:=h;exact ⟨q,n,c,e,h.le hl⟩
theorem AT.zero {V:View}:AT V (.agg #[.int .i64 0,.slice none 0 0]) 0 []:=⟨_,_,_,rfl,NS.nil⟩
def Tr.depth:Tr->Nat
 | .leaf _=>0
 | .node _ a b=>1+max a.depth b.depth
def Tr.ins:Tr->Nat
 | .leaf i=>if i then 1 else 0
 | .node _ a b=>a.ins+b.ins
def VM:Tr->Int
 | .leaf i=>if i then 0 else 1
 | .node ..=>0
theorem SN (k:Nat)(hk:0<k):Sz k (0:Rat):=⟨by show (0:Int).natAbs<_;exact Nat.lt_of_lt_of_le (by decide) (Nat.one_le_two_pow),Nat.one_lt_two_pow (by omega)⟩
theorem Ez {V:View}{v w:Value}{x y:Rat}(hx:RR V v x)(hy:RR V w y){k:Nat}(sx:Sz k x)(sy:Sz k y)(hk:2*k<1099511627776) :
  ae prog 201 #[v,w] V fun r V'=>RR V' r (Fc x y):=by
 have g:=hx;have i:=hy;obtain ⟨a,b,c,rfl⟩:=hx.shape;obtain ⟨d,e,f,rfl⟩:=hy.shape;refine DN a b c d e f V _ fun o j=>(jr (i.le j) (g.le j) sy sx (by omega)).mono ?_;rintro r V2 l rfl;unfold Fc;exact ⟨_,rfl,fun h p m=>by rw [if_pos (of_decide_eq_true h)];exact i.le (j.trans (l.trans m)),fun h q n=>by rw [if_neg (of_decide_eq_false h)];exact g.le (j.trans (l.trans n))⟩
theorem EA {V:View}{v w:Value}{x y:Rat}(hx:RR V v x)(hy:RR V w y){k:Nat}(sx:Sz k x)(sy:Sz k y)(hk:2*k<1099511627776) :
  ae prog 202 #[v,w] V fun r V'=>RR V' r (Fg x y):=by
 have g:=hx;have i:=hy;obtain ⟨a,b,c,rfl⟩:=hx.shape;obtain ⟨d,e,f,rfl⟩:=hy.shape;refine DO a b c d e f V _ fun o j=>(jr (i.le j) (g.le j) sy sx (by omega)).mono ?_;rintro r V2 l rfl;unfold Fg;exact ⟨_,rfl,fun h p m=>by rw [if_pos (of_decide_eq_true h)];exact i.le (j.trans (l.trans m)),fun h q n=>by rw [if_neg (of_decide_eq_false h)];exact g.le (j.trans (l.trans n))⟩
theorem Sp.Bb {v w:Sp}{k:Nat}(h1:v.sz k)(h2:w.sz k):(v.meet w).sz k:=by
 unfold Sp.meet Sp.sz Fc Fg;constructor<;>dsimp only
 ·split
  ·exact h2.1
  ·split
   ·exact h1.1
   ·split
    ·exact h2.1
    ·exact h1.1
 ·split
  ·exact h2.2
  ·split
   ·exact h1.2
   ·split
    ·exact h2.2
    ·exact h1.2
theorem zp {V:View}{v w:Value}{s t:Sp}(h:At V v s)(h':At V w t){k:Nat}(hs:s.sz k)(ht:t.sz k)(hk:2*k<1099511627776) :
  ae prog 161 #[v,w] V fun r V'=>∃u,r=.tuple #[u,.bool (!(s.meet t).emp)]/\At V' u (s.meet t):=by
 obtain ⟨R,S,p,i,l,q,rfl,T,x⟩:=h;obtain ⟨U,W,o,X,Y,j,rfl,Z,g2⟩:=h';have VM:s.a=true->(s.meet t).lo=t.lo/\(s.meet t).a=t.a:=fun e=>by simp [Sp.meet,e]
 have B:s.a=false->t.a=false->(s.meet t).lo=Fc s.lo t.lo:=fun e d=>by simp [Sp.meet,e,d]
 have C:s.a=false->t.a=true->(s.meet t).lo=s.lo:=fun e d=>by simp [Sp.meet,e,d]
 have YM:s.a=false->(s.meet t).a=s.a:=fun e=>by simp [Sp.meet,e]
 have m:s.b=true->(s.meet t).hi=t.hi/\(s.meet t).b=t.b:=fun e=>by simp [Sp.meet,e]
 have D:s.b=false->t.b=false->(s.meet t).hi=Fg s.hi t.hi:=fun e d=>by simp [Sp.meet,e,d]
 have E:s.b=false->t.b=true->(s.meet t).hi=s.hi:=fun e d=>by simp [Sp.meet,e,d]
 have n:s.b=false->(s.meet t).b=s.b:=fun e=>by simp [Sp.meet,e]
 refine wM R S p i l q s.a s.b U W o X Y j t.a t.b V _ ⟨fun z f=>RR f (.agg #[.int .i64 z.1,.int .i64 z.2.1,.pointer z.2.2.1]) (s.meet t).lo/\RR f (.agg #[.int .i64 z.2.2.2.1,.int .i64 z.2.2.2.2.1,.pointer z.2.2.2.2.2.1]) s.hi/\z.2.2.2.2.2.2.1=(s.meet t).a/\z.2.2.2.2.2.2.2=s.b,⟨fun c=>?_,fun c=>⟨fun hb f F=>(Ez (T.le F) (Z.le F) hs.1 ht.1 hk).mono ?_,fun hb=>?_⟩⟩,?_⟩
 ·refine ⟨(U,W,o,i,l,q,t.a,s.b),by and_intros<;>rfl,?_,x,(VM c).2.symm,rfl⟩;rw [(VM c).1];exact Z
 ·rintro r V2 l2 g;rw [Bool.not_eq_true'] at hb;have G:=g;obtain ⟨H,I,J,rfl⟩:=g.shape;refine ⟨_,_,_,rfl,(H,I,J,i,l,q,s.a,s.b),by and_intros<;>rfl,?_,x.le (F.trans l2),(YM c).symm,rfl⟩;rw [B c hb];exact G
 ·rw [Bool.not_eq_false'] at hb;refine ⟨(R,S,p,i,l,q,s.a,s.b),by and_intros<;>rfl,?_,x,(YM c).symm,rfl⟩;rw [C c hb];exact T
 ·rintro ⟨K,L,M,z4,z5,z6,z7,z8⟩ V3 N ⟨y,k2,k3,k4⟩;dsimp only at y k2 k3 k4;subst k3 k4;refine ⟨rfl,fun z f=>RR f (.agg #[.int .i64 z.1,.int .i64 z.2.1,.pointer z.2.2.1]) (s.meet t).lo/\RR f (.agg #[.int .i64 z.2.2.2.1,.int .i64 z.2.2.2.2.1,.pointer z.2.2.2.2.2.1]) (s.meet t).hi/\z.2.2.2.2.2.2.1=(s.meet t).a/\z.2.2.2.2.2.2.2=(s.meet t).b,⟨fun c=>?_,fun c=>⟨fun hb V4 O=>(EA (x.le (N.trans O)) (g2.le (N.trans O)) hs.2 ht.2 hk).mono ?_,fun hb=>?_⟩⟩,?_⟩
  ·refine ⟨(K,L,M,X,Y,j,(s.meet t).a,t.b),by and_intros<;>rfl,y,?_,rfl,(m c).2.symm⟩;rw [(m c).1];exact g2.le N
  ·rintro r V5 l5 g;rw [Bool.not_eq_true'] at hb;have G:=g;obtain ⟨H,I,J,rfl⟩:=g.shape;refine ⟨_,_,_,rfl,(K,L,M,H,I,J,(s.meet t).a,s.b),by and_intros<;>rfl,y.le (O.trans l5),?_,rfl,(n c).symm⟩;rw [D c hb];exact G
  ·rw [Bool.not_eq_false'] at hb;refine ⟨(K,L,M,z4,z5,z6,(s.meet t).a,s.b),by and_intros<;>rfl,y,?_,rfl,(n c).symm⟩;rw [E c hb];exact k2
  ·rintro ⟨i,l,y3,y4,y5,y6,y7,y8⟩ V6 l6 ⟨P,Q,j3,j4⟩;dsimp only at P Q j3 j4;subst j3 j4;refine ⟨rfl,fun V7 A=>(uQ ⟨_,_,_,_,_,_,rfl,P.le A,Q.le A⟩ (Sp.Bb hs ht) hk).mono ?_⟩;rintro r V8 l8 rfl;exact ⟨_,rfl,fun V9 l9=>⟨_,rfl,_,_,_,_,_,_,rfl,P.le (A.trans (l8.trans l9)),Q.le (A.trans (l8.trans l9))⟩⟩
theorem nD {L M:L3}{k:Nat}(sl:eG k L)(sm:eG k M):Sz (4*k+3) (dotL M L):=bK sm.1 sm.2.1 sl.2.1 sl.1.neg
theorem IL {L M:L3}:(((M.1:Rat)*((L.1:Rat)*(((-(L.2.2:Rat))*(((L.1:Rat)*(L.1:Rat))+((L.2.1:Rat)*(L.2.1:Rat)))⁻¹))))+((M.2.1:Rat)*((L.2.1:Rat)*(((-(L.2.2:Rat))*(((L.1:Rat)*(L.1:Rat))+((L.2.1:Rat)*(L.2.1:Rat)))⁻¹)))))+(M.2.2:Rat)=qS M L:=by
 unfold qS aI j_ kH cF;grind
theorem nq {L M:L3}{k:Nat}(sl:eG k L)(sm:eG k M):Sz (50*k+49) (qS M L):=by
 rw [←IL];exact Sz.mono (kG (k:=10*k+9) (sm.1.mono (by omega)) (sm.2.1.mono (by omega)) (sm.2.2.mono (by omega)) (dm sl.1 sl.2.1 sl.2.2) (dp sl.1 sl.2.1 sl.2.2)) (by omega)
theorem nt {L M:L3}{k:Nat}(sl:eG k L)(sm:eG k M):Sz (60*k+60) (cutP M L):=Sz.mono ((nq sl sm).mul (fE (nD sl sm))).neg (by omega)
theorem MT {L M:L3}{s:Sp}{k:Nat}(sl:eG k L)(hs:s.sz k)(sm:eG k M):(iT L s M).sz (60*k+60):=by
 have a:s.sz (60*k+60):=⟨hs.1.mono (by omega),hs.2.mono (by omega)⟩;have z:=SN (60*k+60) (by omega);unfold iT;split
 ·exact a
 ·split
  ·exact Sp.Bb a ⟨nt sl sm,z⟩
  ·exact Sp.Bb a ⟨z,nt sl sm⟩
theorem uR {V:View}{l v m:Value}{L:L3}{s:Sp}{M:L3}(hl:uk V l L)(hv:At V v s)(hm:uk V m M){k:Nat}(sl:eG k L)(hs:s.sz k)(sm:eG k M)(hk:200*k+200<274877906944) :
  ae prog 92 #[l,v,m] V fun r V'=>∃w,r=.tuple #[w,.bool (lR L s M)]/\At V' w (iT L s M):=by
 have f:=hl;have b:=hv;have g:=hm;obtain ⟨_,_,_,_,_,_,_,_,_,rfl,-,-,-⟩:=hl;obtain ⟨_,_,_,_,_,_,rfl,-,-⟩:=hv;obtain ⟨_,_,_,_,_,_,_,_,_,rfl,-,-,-⟩:=hm;have h:s.sz (60*k+60):=⟨hs.1.mono (by omega),hs.2.mono (by omega)⟩;have z:=SN (60*k+60) (by omega);refine yy _ _ _ _ _ _ _ _ _ _ _ _ _ _ _ _ _ _ _ _ _ _ _ _ _ _ V _ fun V1 x=>(hJ (g.le x) sm.1 sm.2.1 sm.2.2 (by omega)).mono ?_;rintro r V2 X Y;have y:=Y;obtain ⟨_,_,_,_,_,_,rfl,-,-⟩:=Y;refine ⟨_,_,_,_,_,_,rfl,fun V3 A=>(kQ (f.le (x.trans (X.trans A))) sl.1 sl.2.1 sl.2.2 (by omega)).mono ?_⟩;rintro r V4 Z g2;have B:=g2;obtain ⟨_,_,_,_,_,_,rfl,-,-⟩:=g2;refine ⟨_,_,_,_,_,_,rfl,fun V5 C=>(dU (y.le (A.trans (Z.trans C))) (B.le C) sm.1 sm.2.1 sl.2.1 sl.1.neg (by omega)).mono ?_⟩;rintro r D l6 g3;have E:RR D r (dotL M L):=g3;obtain ⟨_,_,_,rfl⟩:=g3.shape;have i:V.Le D:=x.trans (X.trans (A.trans (Z.trans (C.trans l6))));refine ⟨_,_,_,rfl,fun V7 F=>(nS (f.le (i.trans F)) sl.1 sl.2.1 sl.2.2 (by omega)).mono ?_⟩;rintro r V8 l8 g4;have Gp:=g4;obtain ⟨_,_,_,_,_,_,rfl,-,-⟩:=g4;refine ⟨_,_,_,_,_,_,rfl,fun V9 G=>(lV (k:=10*k+9) (g.le (i.trans (F.trans (l8.trans G)))) (Gp.le G) (sm.1.mono (by omega)) (sm.2.1.mono (by omega)) (sm.2.2.mono (by omega)) (dm sl.1 sl.2.1 sl.2.2) (dp sl.1 sl.2.1 sl.2.2) (by omega)).mono ?_⟩;rintro r gu H I;rw [IL] at I;have J:=I;obtain ⟨_,_,_,rfl⟩:=I.shape;have e:D.Le gu:=F.trans (l8.trans (G.trans H));refine ⟨_,_,_,rfl,fun fg bF=>(pE (E.le (e.trans bF)) (nD sl sm) (by omega)).mono ?_⟩;rintro r ib cu rfl;have a:gu.Le ib:=bF.trans cu;refine ⟨_,rfl,fun c lG ck=>(pE (J.le (a.trans ck)) (nq sl sm) (by omega)).mono ?_,fun c=>⟨fun K mS N=>(um (J.le (a.trans N)) (E.le (e.trans (a.trans N))) (nq sl sm) (nD sl sm) (by omega)).mono ?_,fun K En O=>(um (J.le (a.trans O)) (E.le (e.trans (a.trans O))) (nq sl sm) (nD sl sm) (by omega)).mono ?_⟩⟩
 ·rintro r j8 dF rfl;have j:lR L s M=decide ((qS M L).num.sign>0):=by unfold lR;rw [if_pos c]
  have d:iT L s M=s:=by unfold iT;rw [if_pos c]
  rw [j,d];exact ⟨_,rfl,fun kK dw=>⟨_,rfl,b.le (i.trans (e.trans (a.trans (ck.trans (dF.trans dw)))))⟩⟩
 ·have d:iT L s M=s.meet ⟨cutP M L,0,false,true⟩:=by unfold iT;rw [if_neg (by rw [c];exact Bool.false_ne_true),if_pos K]
  have j:lR L s M=!(s.meet ⟨cutP M L,0,false,true⟩).emp:=by rw [←d];unfold lR;rw [if_neg (by rw [c];exact Bool.false_ne_true)]
  rw [j,d];rintro r pk P n;have Q:=n;obtain ⟨_,_,_,rfl⟩:=n.shape;refine ⟨_,_,_,rfl,fun uC o=>(gL (Q.le o) ((nq sl sm).mul (fE (nD sl sm))) (by omega)).mono ?_⟩;rintro r R S p;have T:RR R r (cutP M L):=p;obtain ⟨_,_,_,rfl⟩:=p.shape;refine ⟨_,_,_,rfl,fun Ei q=>(zp (t:=⟨cutP M L,0,false,true⟩) (b.le (i.trans (e.trans (a.trans (N.trans (P.trans (o.trans (S.trans q)))))))) ⟨_,_,_,_,_,_,rfl,T.le q,RR.zero _⟩ h ⟨nt sl sm,z⟩ (by omega)).mono ?_⟩;rintro r y_ iy ⟨w,rfl,u⟩;have U:=u;obtain ⟨_,_,_,_,_,_,rfl,-,-⟩:=u;exact ⟨_,_,_,_,_,_,_,_,_,rfl,fun xF W=>⟨_,rfl,U.le W⟩⟩
 ·have d:iT L s M=s.meet ⟨0,cutP M L,true,false⟩:=by unfold iT;rw [if_neg (by rw [c];exact Bool.false_ne_true),if_neg (by rw [K];exact Bool.false_ne_true)]
  have j:lR L s M=!(s.meet ⟨0,cutP M L,true,false⟩).emp:=by rw [←d];unfold lR;rw [if_neg (by rw [c];exact Bool.false_ne_true)]
  rw [j,d];rintro r pk P n;have Q:=n;obtain ⟨_,_,_,rfl⟩:=n.shape;refine ⟨_,_,_,rfl,fun uC o=>(gL (Q.le o) ((nq sl sm).mul (fE (nD sl sm))) (by omega)).mono ?_⟩;rintro r R S p;have T:RR R r (cutP M L):=p;obtain ⟨_,_,_,rfl⟩:=p.shape;refine ⟨_,_,_,rfl,fun Ei q=>(zp (t:=⟨0,cutP M L,true,false⟩) (b.le (i.trans (e.trans (a.trans (O.trans (P.trans (o.trans (S.trans q)))))))) ⟨_,_,_,_,_,_,rfl,RR.zero _,T.le q⟩ h ⟨z,nt sl sm⟩ (by omega)).mono ?_⟩;rintro r y_ iy ⟨w,rfl,u⟩;have U:=u;obtain ⟨_,_,_,_,_,_,rfl,-,-⟩:=u;exact ⟨_,_,_,_,_,_,_,_,_,rfl,fun xF W=>⟨_,rfl,U.le W⟩⟩
structure kJ (V:View) (p:OA) (n:Nat) (fs:List (L3×Sp)):Prop where
 len:n=fs.length
 at_:∀(i:Nat)(h:i<fs.length),∃ad,ah p (i*17)=some ad/\∃xs:List Value,xE V (.agg xs.toArray) fs[i].1 fs[i].2/\∀j x,xs[j]?=some x->V.at (ad.add j) x
theorem kJ.le {V V':View}{p:OA}{n:Nat}{fs:List (L3×Sp)}(h:kJ V p n fs)(e:V.Le V'):kJ V' p n fs:=⟨h.len,fun i a=>by obtain ⟨b,c,xs,d,f⟩:=h.at_ i a;exact ⟨b,c,xs,d.le e,fun j x g=>e.at (f j x g)⟩⟩
theorem kJ.nil {V:View}:kJ V none 0 []:=⟨rfl,fun i a=>by simp at a⟩
theorem kJ.one {V:View}{bk:Nat}{xs:List Value}{ty:TypeId}{l:L3}{s:Sp}(hb:V.bw bk (.cells xs.toArray ty (0,0)))(hf:xE V (.agg xs.toArray) l s):kJ V (some ⟨bk,0,none⟩) 1 [(l,s)]:=by
 refine ⟨rfl,fun i a=>?_⟩;obtain rfl:i=0:=by simpa using a
 refine ⟨⟨bk,0,none⟩,by simp [ah,add_zero'],_,hf,fun j x b=>?_⟩;rw [add_zero'];exact fS hb b
def sideF (l:L3)(s:Sp)(m:L3):List (L3×Sp):=if lR l s m=true then [(l,iT l s m)] else []
theorem rP {l:L3}{s:Sp}{m:L3}(h:lR l s m=true):sideF l s m=[(l,iT l s m)]:=if_pos h
theorem rO {l:L3}{s:Sp}{m:L3}(h:lR l s m=false):sideF l s m=[]:=if_neg (by rw [h];exact Bool.false_ne_true)
theorem Ew {V:View}{v w:Value}{L:L3}{s:Sp}{M:L3}(h:xE V v L s)(hm:uk V w M){k:Nat}(sl:eG k L)(hs:s.sz k)(sm:eG k M)(hk:200*k+200<274877906944) :
  ae prog 41 #[v,w] V fun r V'=>∃p n c q m e,r=.tuple #[.slice p n c,.slice q m e]/\kJ V' p n (sideF L s M)/\kJ V' q m (sideF L s (revL M)):=by
 have j:=hm;obtain ⟨_,_,_,_,_,_,_,_,_,_,_,_,_,_,_,rfl,E,J⟩:=h;obtain ⟨_,_,_,_,_,_,_,_,_,rfl,-,-,-⟩:=hm;refine tN _ _ _ _ _ _ _ _ _ _ _ _ _ _ _ _ _ _ _ _ _ _ _ _ _ _ V _ fun Y F=>(uR (E.le F) (J.le F) (j.le F) sl hs sm hk).mono ?_;rintro r V2 S ⟨u,rfl,R⟩;have B:=R;obtain ⟨_,_,_,_,_,_,rfl,-,-⟩:=R;have f:=F.trans S;have G:∀{V':View} {t:Sp} {x1 x2 p y1 y2 q},V.Le V'->At V' (.agg #[.int .i64 x1,.int .i64 x2,.pointer p,.int .i64 y1,.int .i64 y2,.pointer q,.bool t.a,.bool t.b]) t->xE V' (.agg #[_,_,_,_,_,_,_,_,_,.int .i64 x1,.int .i64 x2,.pointer p,.int .i64 y1,.int .i64 y2,.pointer q,.bool t.a,.bool t.b]) L t:=fun l g=>⟨_,_,_,_,_,_,_,_,_,_,_,_,_,_,_,rfl,E.le l,g⟩;refine ⟨_,_,_,_,_,_,_,_,_,rfl,fun hb Z H=>(zW (j.le (f.trans H)) sm (by omega)).mono ?_,fun hb V9 I=>(zW (j.le (f.trans I)) sm (by omega)).mono ?_⟩
 ·rw [rP hb];rintro r T o C;have x:=C;obtain ⟨_,_,_,_,_,_,_,_,_,rfl,-,-,-⟩:=C;refine ⟨_,_,_,_,_,_,_,_,_,rfl,fun U i=>(uR (E.le (f.trans (H.trans (o.trans i)))) (J.le (f.trans (H.trans (o.trans i)))) (x.le i) sl hs sm.rev hk).mono ?_⟩;rintro r K N ⟨u,rfl,D⟩;have O:=D;obtain ⟨_,_,_,_,_,_,rfl,-,-⟩:=D;have y:V2.Le K:=H.trans (o.trans (i.trans N));refine ⟨_,_,_,_,_,_,_,_,_,rfl,fun z W A b1 b2 d P=>?_,fun z X Q b1 d=>?_⟩
  ·rw [rP z];exact ⟨_,_,_,_,_,_,rfl,kJ.one d (G (f.trans (y.trans A)) (B.le (y.trans A))),kJ.one P (G (f.trans (y.trans A)) (O.le A))⟩
  ·rw [rO z];exact ⟨_,_,_,_,_,_,rfl,kJ.one d (G (f.trans (y.trans Q)) (B.le (y.trans Q))),kJ.nil⟩
 ·rw [rO hb];rintro r T o C;have x:=C;obtain ⟨_,_,_,_,_,_,_,_,_,rfl,-,-,-⟩:=C;refine ⟨_,_,_,_,_,_,_,_,_,rfl,fun U i=>(uR (E.le (f.trans (I.trans (o.trans i)))) (J.le (f.trans (I.trans (o.trans i)))) (x.le i) sl hs sm.rev hk).mono ?_⟩;rintro r K N ⟨u,rfl,D⟩;have O:=D;obtain ⟨_,_,_,_,_,_,rfl,-,-⟩:=D;have y:V2.Le K:=I.trans (o.trans (i.trans N));refine ⟨_,_,_,_,_,_,_,_,_,rfl,fun z W A b1 d=>?_,fun z X Q=>?_⟩
  ·rw [rP z];exact ⟨_,_,_,_,_,_,rfl,kJ.nil,kJ.one d (G (f.trans (y.trans A)) (O.le A))⟩
  ·rw [rO z];exact ⟨_,_,_,_,_,_,rfl,kJ.nil,kJ.nil⟩
theorem oC {V:View}{p:OA}{n c:Nat}{fs:List (L3×Sp)}(h:kJ V p n fs)(hn:fs.length<=1000){k:Nat}(hs:∀f∈fs,eG k f.1/\f.2.sz k)(hk:k<=1099511627776) :
  ae prog 42 #[.slice p n c] V fun r V'=>∃q m e,r=.slice q m e/\uA V' q m fs:=by
 obtain rfl:=h.len
 refine tT p _ c V _ ⟨fun z V'=>∃j:Nat,z.2.2.2=(j:Int)/\j<=fs.length/\z.1=j/\j<=z.2.1/\z.2.1*14<=z.2.2.1.length/\∀(i:Nat)(_:i<j)(l:i<fs.length),∃xs:List Value,xs.length=14/\xD V' (.agg xs.toArray) fs[i].1 fs[i].2/\∀q x,xs[q]?=some x->z.2.2.1[i*14+q]?=some x,
  fun z=>fs.length-z.2.2.2.toNat,⟨(0,0,[],0),by and_intros<;>rfl,0,rfl,Nat.zero_le _,rfl,Nat.le_refl _,Nat.le_refl _,fun i l=>absurd l (Nat.not_lt_zero i)⟩,?_⟩
 rintro ⟨b,P,y,z4⟩ V1 Q ⟨j,I,B2,J,K,u,A⟩;dsimp only at I J K u A;subst I J;refine ⟨rfl,fun d=>?_,fun d V4 R B hb=>?_⟩
 ·have d:(b:Int)<fs.length:=of_decide_eq_true d;have l:b<fs.length:=by omega
  obtain ⟨S,L,xs,M,a⟩:=(h.le Q).at_ b l;have w:i64.wrap ((b:Int)+1)=(b:Int)+1:=aw (by omega);dsimp only;rw [Int.toNat_natCast,w];have C:=M;obtain ⟨_,_,_,_,_,_,_,_,_,_,_,_,_,_,_,ex,-,-⟩:=M;have ex:=congrArg Array.toList (Value.agg.inj ex);dsimp only at ex;subst ex;obtain ⟨s1,s2⟩:=hs _ (List.getElem_mem l);refine ⟨aY L,⟨by omega,by omega⟩,_,_,_,_,_,_,_,_,_,_,_,_,_,_,_,_,_,S,L,a 0 _ rfl,a 1 _ rfl,a 2 _ rfl,a 3 _ rfl,a 4 _ rfl,a 5 _ rfl,a 6 _ rfl,a 7 _ rfl,a 8 _ rfl,a 9 _ rfl,a 10 _ rfl,a 11 _ rfl,a 12 _ rfl,a 13 _ rfl,a 14 _ rfl,a 15 _ rfl,a 16 _ rfl,fun V2 N=>(Cj (C.le N) s1 s2 hk).mono ?_⟩;rintro r V3 T g;have U:=g;obtain ⟨_,_,_,_,_,_,_,_,_,_,_,_,_,_,_,_,_,_,_,_,_,_,_,_,_,_,rfl⟩:=eN g;refine ⟨_,_,_,_,_,_,_,_,_,_,_,_,_,_,_,_,_,_,_,_,_,_,_,_,_,_,_,_,rfl,by omega,K,u,rfl,?_,?_⟩
  ·intro v hm;simp only [List.mem_cons,List.not_mem_nil,or_false] at hm;rcases hm with rfl|rfl|rfl|rfl|rfl|rfl|rfl|rfl|rfl|rfl|rfl|rfl|rfl|rfl<;>rfl
  ·intro sp W X h2;refine ⟨(b+1,W,_,(b:Int)+1),by dsimp only;omega,by and_intros<;>rfl,b+1,rfl,l,rfl,X,?_,?_⟩
   ·dsimp only;have t:(y.take (b*14)).length=b*14:=by rw [List.length_take];omega
    rw [List.length_append,List.length_append,t];simp only [List.length_cons,List.length_nil];omega
   ·intro i Y D;dsimp only;have t:(y.take (b*14)).length=b*14:=by rw [List.length_take];omega
    by_cases o:i=b
    ·subst o;refine ⟨_,rfl,U,fun q x s=>?_⟩;rw [List.append_assoc,List.getElem?_append_right (by rw [t];omega),t,Nat.add_sub_cancel_left];have:q<14:=(List.getElem?_eq_some_iff.1 s).1;rw [List.getElem?_append_left (by exact this)];exact s
    ·obtain ⟨E,O,F,G⟩:=A i (by omega) D;refine ⟨E,O,F.le (N.trans T),fun q x s=>?_⟩;have:q<14:=by have:=(List.getElem?_eq_some_iff.1 s).1;omega
     rw [List.append_assoc,List.getElem?_append_left (by rw [t];omega),List.getElem?_take,if_pos (by omega)];exact G q x s
 ·have d:¬(b:Int)<fs.length:=of_decide_eq_false d;obtain rfl:b=fs.length:=by omega
  refine ⟨_,_,_,rfl,rfl,fun i l=>?_⟩;have Z:P≠0:=by omega
  have H:y≠[]:=fun e=>by rw [e] at u;simp at u;omega
  obtain ⟨E,O,F,G⟩:=A i l l;refine ⟨⟨B,i*14,none⟩,by simp [mA,Z,ah,add_zero'],E,F.le R,fun q x s=>?_⟩;have hj:(⟨B,i*14,none⟩:Addr).add q=⟨B,i*14+q,none⟩:=by rw [←add_zero',ik,add_zero']
  rw [hj];exact fS (hb H) (G q x s)
theorem Al (l:L3)(s:Sp)(m:L3):(sideF l s m).length<=1000:=by unfold sideF;split<;>simp
theorem qu {l:L3}{s:Sp}{m:L3}{k:Nat}(sl:eG k l)(hs:s.sz k)(sm:eG k m):∀f∈sideF l s m,eG (60*k+60) f.1/\f.2.sz (60*k+60):=by
 intro f a;unfold sideF at a;split at a
 ·rw [List.mem_singleton] at a;subst a;exact ⟨⟨sl.1.mono (by omega),sl.2.1.mono (by omega),sl.2.2.mono (by omega)⟩,MT sl hs sm⟩
 ·simp at a
theorem LL {V:View}{v w:Value}{l:L3}{s:Sp}{m:L3}(h:xD V v l s)(hm:RL V w m.1 m.2.1 m.2.2)(ho:Lp l s)(Vq:jO m=true){k:Nat}(sl:eG k l)(hs:s.sz k)(sm:eG k m)(hk:400*k+400<274877906944) :
  ae prog 12 #[v,w] V fun r V'=>∃p n c q i e,r=.tuple #[.slice p n c,.slice q i e,.nilIface]/\uA V' p n (sideF l s m)/\uA V' q i (sideF l s (revL m)):=by
 have B:=h;have a:=hm;obtain ⟨_,_,_,_,_,_,_,_,_,_,_,_,_,_,_,_,_,_,_,_,_,_,_,_,_,_,rfl⟩:=eN h;obtain ⟨_,_,_,_,_,_,_,_,_,_,_,_,rfl⟩:=fY hm;refine qF _ _ _ _ _ _ _ _ _ _ _ _ _ _ _ _ _ _ _ _ _ _ _ _ _ _ _ _ _ _ _ _ _ _ _ _ _ _ _ _ V _ fun H g=>(mT (B.le g) ho sl hs (by omega)).mono ?_;rintro r V2 C ⟨u,rfl,j⟩;have b:=j;obtain ⟨_,_,_,_,_,_,_,_,_,_,_,_,_,_,_,rfl⟩:=G8.ex j;refine ⟨_,_,_,_,_,_,_,_,_,_,_,_,_,_,_,_,_,_,rfl,fun I o=>(zu (a.le (g.trans (C.trans o))) Vq sm (by omega)).mono ?_⟩;rintro r J D ⟨u,rfl,t⟩;have d:=t;obtain ⟨_,_,_,_,_,_,_,_,_,rfl,-,-,-⟩:=t;refine ⟨_,_,_,_,_,_,_,_,_,_,rfl,(fun h=>nomatch h),fun _=>⟨(fun h=>nomatch h),fun _ K x=>(Ew (b.le (o.trans (D.trans x))) (d.le x) sl hs sm (by omega)).mono ?_⟩⟩;rintro r L M ⟨p,n,c,q,i,e,rfl,f1,f2⟩;refine ⟨_,_,_,_,_,_,rfl,fun N y=>(oC (f1.le y) (Al _ _ _) (qu sl hs sm) (by omega)).mono ?_⟩;rintro r O f ⟨P,Q,R,rfl,E⟩;refine ⟨_,_,_,rfl,fun S z=>(oC (f2.le (y.trans (f.trans z))) (Al _ _ _) (qu sl hs sm.rev) (by omega)).mono ?_⟩;rintro r T F ⟨U,W,X,rfl,G⟩;exact ⟨_,_,_,rfl,fun Y A=>⟨_,_,_,_,_,_,rfl,E.le (z.trans (F.trans A)),G.le A⟩⟩
theorem Kz {V:View}{b1 p1 n1 c1 b2 p2 n2 c2 b3 p3 n3 c3 b p n c p' n' c' d q m e q' m' e'}{x y:Bool}{l:L3}{s:Sp}(h:RF V (.agg #[.bool b1,.slice p1 n1 c1,.bool b2,.slice p2 n2 c2,.bool b3,.slice p3 n3 c3,.bool b,.slice p n c,.slice p' n' c',.bool d,.slice q m e,.slice q' m' e',.bool x,.bool y]) l s) :
  RL V (.agg #[.bool b1,.slice p1 n1 c1,.bool b2,.slice p2 n2 c2,.bool b3,.slice p3 n3 c3]) l.1 l.2.1 l.2.2/\pz V (.agg #[.bool b,.slice p n c,.slice p' n' c',.bool d,.slice q m e,.slice q' m' e',.bool x,.bool y]) s:=by
 obtain ⟨_,_,_,_,_,_,_,_,_,_,_,_,_,_,_,_,_,_,_,_,_,_,_,_,_,_,f,g,i⟩:=h;have a:=congrArg Array.toList (Value.agg.inj f);simp only [List.cons.injEq,Value.bool.injEq,Value.slice.injEq,and_true] at a;obtain ⟨rfl,⟨rfl,rfl,rfl⟩,rfl,⟨rfl,rfl,rfl⟩,rfl,⟨rfl,rfl,rfl⟩,rfl,⟨rfl,rfl,rfl⟩,⟨rfl,rfl,rfl⟩,rfl,⟨rfl,rfl,rfl⟩,⟨rfl,rfl,rfl⟩,rfl,rfl⟩:=a;exact ⟨g,i⟩
def Nh (u:Value):Prop:=u=.agg #[.bool false,.slice none 0 0,.slice none 0 0,.bool false,.slice none 0 0,.slice none 0 0]
theorem PI {V:View}{v w:Value}{l m:L3}(hl:RL V v l.1 l.2.1 l.2.2)(hm:RL V w m.1 m.2.1 m.2.2){k:Nat}(sl:eG k l)(sm:eG k m)(hk:20*k+20<274877906944) :
  ae prog 96 #[v,w] V fun r V'=>∃u,r=.tuple #[u,.bool (decide (crossL l m≠0))]/\(crossL l m=0->Nh u)/\(crossL l m≠0->RP V' u (Px l m) (Py l m)):=by
 have e0:((l.1:Int):Rat)*((m.2.1:Int):Rat)-((m.1:Int):Rat)*((l.2.1:Int):Rat)=crossL l m:=by unfold crossL;grind
 have e1:((l.2.1:Int):Rat)*((m.2.2:Int):Rat)-((m.2.1:Int):Rat)*((l.2.2:Int):Rat)=((l.2.1:Rat)*(m.2.2:Rat))-((l.2.2:Rat)*(m.2.1:Rat)):=by grind
 have e2:((m.1:Int):Rat)*((l.2.2:Int):Rat)-((l.1:Int):Rat)*((m.2.2:Int):Rat)=((l.2.2:Rat)*(m.1:Rat))-((l.1:Rat)*(m.2.2:Rat)):=by grind
 obtain ⟨a,b,c⟩:=sl;obtain ⟨d,e,f⟩:=sm;obtain ⟨_,_,_,_,_,_,_,_,_,rfl,a1,a2,a3⟩:=hl;obtain ⟨_,_,_,_,_,_,_,_,_,rfl,b1,b2,b3⟩:=hm;refine yL _ _ _ _ _ _ _ _ _ _ _ _ _ _ _ _ _ _ _ _ _ _ _ _ V _ fun V1 t=>(bf (a1.le t) a (by omega)).mono ?_;rintro r V2 M XW;have UL:=XW;obtain ⟨_,_,_,_,_,_,rfl⟩:=XW.shape;refine ⟨_,_,_,_,_,_,_,rfl,fun V3 x=>(bf (b2.le (t.trans (M.trans (x)))) e (by omega)).mono ?_⟩;rintro r V4 N XX;have UM:=XX;obtain ⟨_,_,_,_,_,_,rfl⟩:=XX.shape;refine ⟨_,_,_,_,_,_,_,rfl,fun V5 y=>(aV (UL.le (x.trans (N.trans (y)))) (UM.le y) a e (by omega)).mono ?_⟩;rintro r V6 l6 XY;have UN:=XY;obtain ⟨_,_,_,_,_,_,rfl⟩:=XY.shape;refine ⟨_,_,_,_,_,_,_,rfl,fun V7 O=>(bf (b1.le (t.trans (M.trans (x.trans (N.trans (y.trans (l6.trans (O)))))))) d (by omega)).mono ?_⟩;rintro r V8 l8 XZ;have UO:=XZ;obtain ⟨_,_,_,_,_,_,rfl⟩:=XZ.shape;refine ⟨_,_,_,_,_,_,_,rfl,fun V9 P=>(bf (a2.le (t.trans (M.trans (x.trans (N.trans (y.trans (l6.trans (O.trans (l8.trans (P)))))))))) b (by omega)).mono ?_⟩;rintro r gu i X0;have UP:=X0;obtain ⟨_,_,_,_,_,_,rfl⟩:=X0.shape;refine ⟨_,_,_,_,_,_,_,rfl,fun fg Q=>(aV (UO.le (P.trans (i.trans (Q)))) (UP.le Q) d b (by omega)).mono ?_⟩;rintro r ib cu X1;have UQ:=X1;obtain ⟨_,_,_,_,_,_,rfl⟩:=X1.shape;refine ⟨_,_,_,_,_,_,_,rfl,fun lG ck=>(kf (UN.le (O.trans (l8.trans (P.trans (i.trans (Q.trans (cu.trans (ck)))))))) (UQ.le ck) (a.mul e) (d.mul b) (by omega)).mono ?_⟩;rintro r j8 dF UR;rw [e0] at UR;have g:=UR;obtain ⟨_,_,_,_,_,_,rfl,US,-⟩:=UR;have sD:Sz (4*k+3) (((l.1:Int):Rat)*((m.2.1:Int):Rat)-((m.1:Int):Rat)*((l.2.1:Int):Rat)):=Sz.mono ((a.mul e).sub (d.mul b)) (by omega);rw [e0] at sD;refine ⟨_,_,_,_,_,_,_,rfl,fun kK dw=>(AK _ (US.le dw)).mono ?_⟩;rintro r mS dh rfl;refine ⟨_,rfl,fun j pk cZ=>?_,fun j=>?_⟩
 ·rw [beq_iff_eq,iz] at j;rw [j];exact ⟨_,rfl,fun _=>rfl,fun h=>absurd rfl h⟩
 ·rw [beq_eq_false_iff_ne,ne_eq,iz] at j;rw [decide_eq_true j];have z:¬(crossL l m).num=0:=fun h=>j (Rat.num_eq_zero.1 h);intro pk cZ;have A:V.Le pk:=(t.trans (M.trans (x.trans (N.trans (y.trans (l6.trans (O.trans (l8.trans (P.trans (i.trans (Q.trans (cu.trans (ck.trans (dF.trans (dw.trans (dh.trans (cZ)))))))))))))))))
  replace g:=g.le (dw.trans (dh.trans (cZ)))
  refine (bf (a2.le A) b (by omega)).mono ?_;rintro r uC B X_;have UU:=X_;obtain ⟨_,_,_,_,_,_,rfl⟩:=X_.shape;refine ⟨_,_,_,_,_,_,_,rfl,fun uD n=>(bf (b3.le (A.trans (B.trans (n)))) f (by omega)).mono ?_⟩;rintro r Ei C Ya;have UW:=Ya;obtain ⟨_,_,_,_,_,_,rfl⟩:=Ya.shape;refine ⟨_,_,_,_,_,_,_,rfl,fun y_ o=>(aV (UU.le (n.trans (C.trans (o)))) (UW.le o) b f (by omega)).mono ?_⟩;rintro r xF R Yb;have UX:=Yb;obtain ⟨_,_,_,_,_,_,rfl⟩:=Yb.shape;refine ⟨_,_,_,_,_,_,_,rfl,fun En D=>(bf (b2.le (A.trans (B.trans (n.trans (C.trans (o.trans (R.trans (D)))))))) e (by omega)).mono ?_⟩;rintro r On S Yc;have UY:=Yc;obtain ⟨_,_,_,_,_,_,rfl⟩:=Yc.shape;refine ⟨_,_,_,_,_,_,_,rfl,fun Nm E=>(bf (a3.le (A.trans (B.trans (n.trans (C.trans (o.trans (R.trans (D.trans (S.trans (E)))))))))) c (by omega)).mono ?_⟩;rintro r Oo T Yd;have UZ:=Yd;obtain ⟨_,_,_,_,_,_,rfl⟩:=Yd.shape;refine ⟨_,_,_,_,_,_,_,rfl,fun Qt F=>(aV (UY.le (E.trans (T.trans (F)))) (UZ.le F) e c (by omega)).mono ?_⟩;rintro r Oq El Ye;have U0:=Ye;obtain ⟨_,_,_,_,_,_,rfl⟩:=Ye.shape;refine ⟨_,_,_,_,_,_,_,rfl,fun Tk U=>(kf (UX.le (D.trans (S.trans (E.trans (T.trans (F.trans (El.trans (U)))))))) (U0.le U) (b.mul f) (e.mul c) (by omega)).mono ?_⟩;rintro r Lw CX U1;rw [e1] at U1;have O2:=U1;obtain ⟨_,_,_,_,_,_,rfl⟩:=U1.shape;have sX:Sz (4*k+3) (((l.2.1:Rat)*(m.2.2:Rat))-((l.2.2:Rat)*(m.2.1:Rat))):=by rw [←e1];exact Sz.mono ((b.mul f).sub (e.mul c)) (by omega)
  have W:V.Le Lw:=(A.trans (B.trans (n.trans (C.trans (o.trans (R.trans (D.trans (S.trans (E.trans (T.trans (F.trans (El.trans (U.trans (CX))))))))))))))
  replace g:=g.le (B.trans (n.trans (C.trans (o.trans (R.trans (D.trans (S.trans (E.trans (T.trans (F.trans (El.trans (U.trans (CX)))))))))))))
  refine ⟨_,_,_,_,_,_,_,rfl,fun Xd p=>(bf (b1.le (W.trans p)) d (by omega)).mono ?_⟩;rintro r T0 G Yf;have U2:=Yf;obtain ⟨_,_,_,_,_,_,rfl⟩:=Yf.shape;refine ⟨_,_,_,_,_,_,_,rfl,fun Ot q=>(bf (a3.le (W.trans (p.trans (G.trans (q))))) c (by omega)).mono ?_⟩;rintro r Zk H Yg;have U3:=Yg;obtain ⟨_,_,_,_,_,_,rfl⟩:=Yg.shape;refine ⟨_,_,_,_,_,_,_,rfl,fun Zl s=>(aV (U2.le (q.trans (H.trans (s)))) (U3.le s) d c (by omega)).mono ?_⟩;rintro r Zm X Yh;have U4:=Yh;obtain ⟨_,_,_,_,_,_,rfl⟩:=Yh.shape;refine ⟨_,_,_,_,_,_,_,rfl,fun Zn I=>(bf (a1.le (W.trans (p.trans (G.trans (q.trans (H.trans (s.trans (X.trans (I))))))))) a (by omega)).mono ?_⟩;rintro r Zo Y Yi;have U5:=Yi;obtain ⟨_,_,_,_,_,_,rfl⟩:=Yi.shape;refine ⟨_,_,_,_,_,_,_,rfl,fun Zp J=>(bf (b3.le (W.trans (p.trans (G.trans (q.trans (H.trans (s.trans (X.trans (I.trans (Y.trans (J))))))))))) f (by omega)).mono ?_⟩;rintro r Zq Z Yj;have U6:=Yj;obtain ⟨_,_,_,_,_,_,rfl⟩:=Yj.shape;refine ⟨_,_,_,_,_,_,_,rfl,fun Zr K=>(aV (U5.le (J.trans (Z.trans (K)))) (U6.le K) a f (by omega)).mono ?_⟩;rintro r Zs RM Yk;have U7:=Yk;obtain ⟨_,_,_,_,_,_,rfl⟩:=Yk.shape;refine ⟨_,_,_,_,_,_,_,rfl,fun Zt Mj=>(kf (U4.le (I.trans (Y.trans (J.trans (Z.trans (K.trans (RM.trans (Mj)))))))) (U7.le Mj) (d.mul c) (a.mul f) (by omega)).mono ?_⟩;rintro r Zu Tw U8;rw [e2] at U8;have U9:=U8;obtain ⟨_,_,_,_,_,_,rfl⟩:=U8.shape;have sY:Sz (4*k+3) (((l.2.2:Rat)*(m.1:Rat))-((l.1:Rat)*(m.2.2:Rat))):=by rw [←e2];exact Sz.mono ((d.mul c).sub (a.mul f)) (by omega)
  replace g:=g.le (p.trans (G.trans (q.trans (H.trans (s.trans (X.trans (I.trans (Y.trans (J.trans (Z.trans (K.trans (RM.trans (Mj.trans (Tw))))))))))))))
  replace O2:=O2.le (p.trans (G.trans (q.trans (H.trans (s.trans (X.trans (I.trans (Y.trans (J.trans (Z.trans (K.trans (RM.trans (Mj.trans (Tw))))))))))))))
  refine ⟨_,_,_,_,_,_,_,rfl,fun Zv NO=>(iR (O2.le NO) (g.le NO) z sX sD (by omega)).mono ?_⟩;rintro r Tl L gr;have a4:=gr;obtain ⟨_,_,_,_,_,_,rfl⟩:=gr.shape;refine ⟨_,_,_,_,_,_,_,rfl,fun T1 Qk=>(iR (U9.le (NO.trans (L.trans (Qk)))) (g.le (NO.trans (L.trans (Qk)))) z sY sD (by omega)).mono ?_⟩;rintro r T2 a5 gs;have a6:=gs;obtain ⟨_,_,_,_,_,_,rfl⟩:=gs.shape;exact ⟨_,_,_,_,_,_,_,rfl,fun Xe YJ=>⟨_,rfl,fun h=>absurd h j,fun _=>⟨_,_,_,_,_,_,_,_,_,_,_,_,rfl,a4.le (Qk.trans (a5.trans (YJ))),a6.le YJ⟩⟩⟩
def OO:L3:=(0,0,0)
def Lb (V:View)(v:Value)(c:L3):Prop:=B0 V v c.1 c.2.1 c.2.2/\Bd c
theorem Lb.le {V V':View}{v:Value}{c:L3}(h:Lb V v c)(l:V.Le V'):Lb V' v c:=⟨h.1.le l,h.2⟩
theorem Lb.shape {V:View}{v:Value}{c:L3}(h:Lb V v c):∃(x y:Int)(p:OA)(xb yb:Int)(pb:OA)(xc yc:Int)(pc:OA),v=.agg #[.int .i64 x,.int .i64 y,.pointer p,.int .i64 xb,.int .i64 yb,.pointer pb,.int .i64 xc,.int .i64 yc,.pointer pc]:=by
 obtain ⟨⟨a,b,p,d,f,q,g,i,r,e,-⟩,-⟩:=h;exact ⟨_,_,_,_,_,_,_,_,_,e⟩
end Go.Proofs.Tryz
namespace Go.Proofs.Tryz
open Go.Big
section
variable {α:Type} {c:α->α->Int} {d:α}
structure PQ (c:α->α->Int) (d:α) (l0 l:List α) (a0 b0 a b:Nat):Prop where
 TC:pj d l0 l a0 b0
 ha:a0<=a
 zR:a<=b
 hb:b<=b0
 lo:ui c d l a0 a
 hi:ui c d l b b0
 s1:Sep c d l a0 a b0
 s2:Sep c d l a0 b b0
 pre:0<a->∀k,a<=k->k<b->¬c (l.getD k d) (l.getD (a-1) d)<0
variable {l0 l m:List α} {a0 b0 a b mid:Nat}
theorem PQ.start {l:List α}(h:a<=b)(hp:0<a->∀k,a<=k->k<b->¬c (l.getD k d) (l.getD (a-1) d)<0):PQ c d l l a b a b:=
 ⟨.refl _ _ _,Nat.le_refl _,h,Nat.le_refl _,.short (by omega),.short (by omega),fun p q e f=>by omega,fun p q e f g i=>by omega,hp⟩
theorem PQ.change (h:PQ c d l0 l a0 b0 a b)(hs:pj d l m a b):PQ c d l0 m a0 b0 a b:=
 ⟨h.TC.trans (hs.wide h.ha h.hb),h.ha,h.zR,h.hb,hs.asc h.lo (.inl (Nat.le_refl _)),hs.asc h.hi (.inr (Nat.le_refl _)),hs.sep h.s1 (.inr (.inl ⟨Nat.le_refl _,h.hb⟩)),hs.sep h.s2 (.inl ⟨h.ha,Nat.le_refl _⟩),fun f k g i=>by
  obtain ⟨j,n,o,e⟩:=hs.mem k g i;rw [e,hs.out (a-1) (by omega)];exact h.pre f j n o⟩
theorem PQ.fin (h:PQ c d l0 l a0 b0 a b)(hs:pj d l m a b)(ha:ui c d m a b):pj d l0 m a0 b0/\ui c d m a0 b0:=by
 have e:=h.change hs;refine ⟨e.TC,e.lo.join (ha.join e.hi fun p q j f g i=>e.s2 p q (by have:=h.ha;omega) f g i) e.s1⟩
theorem PQ.left (ho:Ord c)(h:PQ c d l0 l a0 b0 a b)(hm:a<=mid)(hm':mid<b)(h1:∀k,a<=k->k<mid->c (l.getD k d) (l.getD mid d)<0)(h2:∀k,mid<k->k<b->¬c (l.getD k d) (l.getD mid d)<0)
  (hs:pj d l m a mid)(ha:ui c d m a mid):PQ c d l0 m a0 b0 (mid+1) b:=by
 have n:=h.ha;have o:=h.hb;have em:m.getD mid d=l.getD mid d:=hs.out mid (by omega)
 have below:∀k,a<=k->k<mid->¬c (m.getD mid d) (m.getD k d)<0:=fun k f g=>by
  obtain ⟨r,i,j,e⟩:=hs.mem k f g;rw [em,e];exact ho.P_ _ _ (h1 r i j)
 have t1:=hs.sep h.s1 (.inr (.inl ⟨Nat.le_refl _,by omega⟩));have t2:=hs.sep h.s2 (.inl ⟨n,by omega⟩);have up:∀q,mid<q->q<b->¬c (m.getD q d) (m.getD mid d)<0:=fun q f g=>by rw [em,hs.out q (by omega)];exact h2 q f g
 refine ⟨h.TC.trans (hs.wide n (by omega)),by omega,by omega,o,(hs.asc h.lo (.inl (Nat.le_refl _))).join (m:=a) (fun p q f g i=>?_) fun p q f g i j=>t1 p q f g i (by omega),hs.asc h.hi (.inr (by omega)),fun p q f g i j=>?_,t2,fun _ k f g=>up k (by omega) g⟩
 ·by_cases e:q=mid
  ·subst e;exact below p f g
  ·exact ha p q f g (by omega)
 ·by_cases s:b<=q
  ·exact t2 p q f (by omega) s j
  ·by_cases t:p<a
   ·exact t1 p q f t (by omega) j
   ·have u:=up q (by omega) (by omega);by_cases e:p=mid
    ·subst e;exact u
    ·exact ho.tr _ _ _ u (below p (by omega) (by omega))
theorem PQ.right (ho:Ord c)(h:PQ c d l0 l a0 b0 a b)(hm:a<=mid)(hm':mid<b)(h1:∀k,a<=k->k<mid->c (l.getD k d) (l.getD mid d)<0)(h2:∀k,mid<k->k<b->¬c (l.getD k d) (l.getD mid d)<0)
  (hs:pj d l m (mid+1) b)(ha:ui c d m (mid+1) b):PQ c d l0 m a0 b0 a mid:=by
 have s:=h.ha;have r:=h.hb;have em:m.getD mid d=l.getD mid d:=hs.out mid (by omega)
 have up:∀q,mid<q->q<b->¬c (m.getD q d) (m.getD mid d)<0:=fun q g f=>by
  obtain ⟨t,i,j,e⟩:=hs.mem q (by omega) f;rw [em,e];exact h2 t (by omega) j
 have below:∀k,a<=k->k<mid->¬c (m.getD mid d) (m.getD k d)<0:=fun k g f=>by
  rw [em,hs.out k (by omega)];exact ho.P_ _ _ (h1 k g f)
 have t1:=hs.sep h.s1 (.inr (.inl ⟨by omega,r⟩));have t2:=hs.sep h.s2 (.inl ⟨by omega,Nat.le_refl _⟩);have t3:=hs.asc h.hi (.inr (Nat.le_refl _));refine ⟨h.TC.trans (hs.wide (by omega) r),s,hm,by omega,hs.asc h.lo (.inl (by omega)),fun p q g f i=>?_,t1,fun p q g f i j=>?_,fun v k g f=>?_⟩
 ·by_cases n:q<b
  ·by_cases e:p=mid
   ·subst e;exact up q f n
   ·exact ha p q (by omega) f n
  ·by_cases o:p<b
   ·exact t2 p q (by omega) o (by omega) i
   ·exact t3 p q (by omega) f i
 ·by_cases n:b<=q
  ·exact t2 p q g (by omega) n j
  ·by_cases o:p<a
   ·exact t1 p q g o (by omega) j
   ·have u:=below p (by omega) f;by_cases e:q=mid
    ·subst e;exact u
    ·exact ho.tr _ _ _ (up q (by omega) (by omega)) u
 ·rw [hs.out k (by omega),hs.out (a-1) (by omega)];exact h.pre v k g (by omega)
structure HQ (c:α->α->Int) (d:α) (l:List α) (f i n:Nat):Prop where
 hp:Hp c d l f 0 i none
 asc:ui c d l (f+i) (f+n)
 sep:Sep c d l f (f+i) (f+n)
theorem HQ.start {f n:Nat}(h:Hp c d l f 0 n none):HQ c d l f n n:=⟨h,.short (by omega),fun p q a b e g=>by omega⟩
theorem HQ.step (ho:Ord c){f k n:Nat}(h:HQ c d l f (k+1) n)(hk:k+1<=n)(hl:f+n<=l.length)(hs:pj d (pr d l f (f+k)) m f (f+k))(hm:Hp c d m f 0 k none):HQ c d m f k n:=by
 have a:=fun x=>oP (d:=d) (l:=l) (i:=f) (j:=f+k) (k:=x) (by omega) (by omega);have out:∀q,f+k<q->m.getD q d=l.getD q d:=fun q u=>by rw [hs.out q (by omega),a,if_neg (by omega),if_neg (by omega)]
 have top:m.getD (f+k) d=l.getD f d:=by rw [hs.out (f+k) (by omega),a,if_pos rfl]
 refine ⟨hm,fun p q r b g=>?_,fun p q r b g s=>?_⟩
 ·rw [out q (by omega)];by_cases e:p=f+k
  ·rw [e,top];exact h.sep f q (Nat.le_refl _) (by omega) (by omega) g
  ·rw [out p (by omega)];exact h.asc p q (by omega) b g
 ·have hp:∃j,j<k+1/\m.getD p d=l.getD (f+j) d:=by
   obtain ⟨o,v,w,e⟩:=hs.mem p r b;rw [e,a,if_neg (by omega)];split
   ·exact ⟨k,by omega,rfl⟩
   ·exact ⟨o-f,by omega,by rw [show f+(o-f)=o by omega]⟩
  obtain ⟨j,t,e⟩:=hp;rw [e];by_cases eq:q=f+k
  ·rw [eq,top];exact h.hp.top ho j t
  ·rw [out q (by omega)];exact h.sep (f+j) q (by omega) (by omega) (by omega) s
theorem HQ.fin {f n:Nat}(h:HQ c d l f 0 n):ui c d l f (f+n):=by have:=h.asc;simpa using this
structure PT (P:α->Prop) (d:α) (l:List α) (a b i j:Nat):Prop where
 hi:a<i
 Is:i<=j+1
 hj:j<b
 lo:∀k,a<k->k<i->P (l.getD k d)
 up:∀k,j<k->k<b->¬P (l.getD k d)
variable {P:α->Prop} {i j:Nat}
theorem PT.start (h:a+1<b):PT P d l a b (a+1) (b-1):=⟨by omega,by omega,by omega,fun k c e=>by omega,fun k c e=>by omega⟩
theorem PT.swap (h:PT P d l a b i j)(Is:i<=j)(hl:b<=l.length)(h1:¬P (l.getD i d))(h2:P (l.getD j d)):PT P d (pr d l i j) a b (i+1) (j-1)/\(pr d l i j).getD a d=l.getD a d/\pj d l (pr d l i j) a b:=by
 have n:=h.hi;have m:=h.hj;have ne:i≠j:=fun e=>h1 (e▸h2);have c:=fun x=>oP (d:=d) (l:=l) (i:=i) (j:=j) (k:=x) (by omega) (by omega);refine ⟨⟨by omega,by omega,by omega,fun k f g=>?_,fun k f g=>?_⟩,by rw [c,if_neg (by omega),if_neg (by omega)],pj.pr (by omega) (by omega) (by omega) m hl⟩
 ·rw [c,if_neg (by omega)];by_cases e:k=i
  ·rw [if_pos e];exact h2
  ·rw [if_neg e];exact h.lo k f (by omega)
 ·rw [c];by_cases e:k=j
  ·rw [if_pos e];exact h1
  ·rw [if_neg e,if_neg (by omega)];exact h.up k (by omega) g
theorem PT.fin (ho:Ord c)(h:PT (fun x=>c x (l.getD a d)<0) d l a b i j)(Is:¬i<=j)(hl:b<=l.length):pj d l (pr d l j a) a b/\a<=j/\j<b /\
  (∀k,a<=k->k<j->c ((pr d l j a).getD k d) ((pr d l j a).getD j d)<0)/\(∀k,j<k->k<b->¬c ((pr d l j a).getD k d) ((pr d l j a).getD j d)<0):=by
 have p:=h.hi;have q:=h.Is;have g:=h.hj;have f:=fun x=>oP (d:=d) (l:=l) (i:=j) (j:=a) (k:=x) (by omega) (by omega)
 have m:(pr d l j a).getD j d=l.getD a d:=by
  rw [f];by_cases e:j=a
  ·rw [if_pos e,e]
  ·rw [if_neg e,if_pos rfl]
 refine ⟨pj.pr (by omega) g (Nat.le_refl _) (by omega) hl,by omega,g,fun k n o=>?_,fun k n o=>?_⟩
 ·rw [m,f];by_cases e:k=a
  ·rw [if_pos e];exact h.lo j (by omega) (by omega)
  ·rw [if_neg e,if_neg (by omega)];exact h.lo k (by omega) (by omega)
 ·rw [m,f,if_neg (by omega),if_neg (by omega)];exact h.up k n o
end
end Go.Proofs.Tryz
namespace Go.Proofs.Tryz
open Go.Eng Go.Big
set_option maxRecDepth 10000 in
theorem LJ {V:View}(x:Nat)(hx:x<256):ae prog 215 #[.int .u64 (x:Int)] V fun r V'=>r=.int .i64 (bG x:Int):=by
 refine o_ _ V _ ⟨fun z _=>z=((x:Int),0),⟨fun a=>absurd (of_decide_eq_true a) (by omega),fun _=>⟨_,⟨rfl,rfl⟩,rfl⟩⟩,?_⟩;rintro _ d e rfl;refine ⟨rfl,fun z _=>z=((x:Int),0),⟨fun a=>absurd (of_decide_eq_true a) (by dsimp only;omega),fun _=>⟨_,⟨rfl,rfl⟩,rfl⟩⟩,?_⟩;rintro _ V2 f rfl;refine ⟨rfl,fun z _=>z=((x:Int),0),⟨fun a=>absurd (of_decide_eq_true a) (by dsimp only;omega),fun _=>⟨_,⟨rfl,rfl⟩,rfl⟩⟩,?_⟩;rintro _ g h rfl;have hw:IntKind.u8.wrap (x:Int)=x:=IntWalk.u8_in _ (by omega);have b:(CZ.size:Int)=256:=rfl;dsimp only;rw [hw];refine ⟨rfl,⟨by omega,by show (x:Int)<(CZ.size:Int);rw [b];omega⟩,fun i j=>?_⟩;show Value.int .i64 (i64.wrap (0+i64.wrap ((CZ.data.toList.getD (x:Int).toNat 0).toNat:Int)))=_;congr 1;have key:∀y:Nat,y<256->(CZ.data.toList.getD y 0).toNat=bG y:=by decide +kernel
 have c:bG x<=8:=fR.2 (by omega);have:=key x hx;rw [Int.toNat_natCast,this];simp (disch:=omega) only [aw];omega
theorem uS {V:View}(x:Nat)(hx:x<256):ae prog 168 #[.int .u64 (x:Int)] V fun r V'=>r=.int .i64 (bG x:Int):=by
 refine rW _ V _ fun a b=>(LJ x hx).mono ?_;rintro r V2 c rfl;exact ⟨_,rfl,fun d e=>rfl⟩
structure Nk (V:View) (n:Nat) (vs:List Value) (l:List L3):Prop where
 row:Row 9 Lb V vs l
 len:n=l.length
 x_:l.length<50
theorem Nk.le {V V':View}{n:Nat}{vs:List Value}{l:List L3}(h:Nk V n vs l)(e:V.Le V'):Nk V' n vs l:=⟨h.row.le fun _ _ g=>Lb.le g e,h.len,h.x_⟩
theorem Nk.get {V:View}{n:Nat}{vs:List Value}{l:List L3}(h:Nk V n vs l){k:Nat}(hk:k<l.length):∃(x y:Int)(p:OA)(xb yb:Int)(pb:OA)(xc yc:Int)(pc:OA),
  ((0+k*9)+9<=vs.length/\(vs.drop (0+k*9)).take 9=[.int .i64 x,.int .i64 y,.pointer p,.int .i64 xb,.int .i64 yb,.pointer pb,.int .i64 xc,.int .i64 yc,.pointer pc])/\Lb V (.agg #[.int .i64 x,.int .i64 y,.pointer p,.int .i64 xb,.int .i64 yb,.pointer pb,.int .i64 xc,.int .i64 yc,.pointer pc]) (l.getD k OO):=by
 obtain ⟨xs,-,b,c,f⟩:=h.row.get (d:=OO) hk (by decide);have a:=b;obtain ⟨x,y,p,xb,yb,pb,xc,yc,pc,e⟩:=b.shape;have e:=congrArg Array.toList (Value.agg.inj e);dsimp only at e;subst e;rw [Nat.zero_add];exact ⟨x,y,p,xb,yb,pb,xc,yc,pc,⟨c,f⟩,a⟩
theorem Nk.swap {V:View}{n:Nat}{vs:List Value}{l:List L3}(h:Nk V n vs l){i j:Nat}(hi:i<l.length)(hj:j<l.length){x y:Int}{p:OA}{xb yb:Int}{pb:OA}{xc yc:Int}{pc:OA}{x' y':Int}{p':OA}{K4 K6:Int}{pb':OA}{Il P0:Int}{pc':OA}
  (h1:Lb V (.agg #[.int .i64 x,.int .i64 y,.pointer p,.int .i64 xb,.int .i64 yb,.pointer pb,.int .i64 xc,.int .i64 yc,.pointer pc]) (l.getD i OO))(h2:Lb V (.agg #[.int .i64 x',.int .i64 y',.pointer p',.int .i64 K4,.int .i64 K6,.pointer pb',.int .i64 Il,.int .i64 P0,.pointer pc']) (l.getD j OO)) :
  (0+i*9)+9<=vs.length/\(0+j*9)+9<=(aU vs (0+i*9) [.int .i64 x',.int .i64 y',.pointer p',.int .i64 K4,.int .i64 K6,.pointer pb',.int .i64 Il,.int .i64 P0,.pointer pc']).length /\
  Nk V n (aU (aU vs (0+i*9) [.int .i64 x',.int .i64 y',.pointer p',.int .i64 K4,.int .i64 K6,.pointer pb',.int .i64 Il,.int .i64 P0,.pointer pc']) (0+j*9) [.int .i64 x,.int .i64 y,.pointer p,.int .i64 xb,.int .i64 yb,.pointer pb,.int .i64 xc,.int .i64 yc,.pointer pc]) (pr OO l i j):=by
 obtain ⟨-,-,-,a,-⟩:=h.row.get (d:=OO) hi (by decide);obtain ⟨-,-,-,b,-⟩:=h.row.get (d:=OO) hj (by decide);rw [Nat.zero_add,Nat.zero_add];refine ⟨a,by rw [fN (by exact a)];exact b,h.row.swap hi hj (by decide) rfl rfl h1 h2,by rw [f_];exact h.len,by rw [f_];exact h.x_⟩
def lP (l:L3):L3:=if l.1<0\/l.1=0/\l.2.1<0 then revL l else l
def Tr.Ty:Tr->List L3
 | .leaf _=>[]
 | .node l a b=>l::(a.Ty++b.Ty)
theorem A9 {p:L3->Prop}:∀{t:Tr},t.K9 p->∀x∈t.Ty,p x
 | .leaf _,_,x,h=>by cases h
 | .node l a b,⟨h1,h2,h3⟩,x,h=>by
  rcases List.mem_cons.1 h with rfl|h
  ·exact h1
  ·rcases List.mem_append.1 h with h|h
   ·exact A9 h2 x h
   ·exact A9 h3 x h
theorem Bd.rev {l:L3}(h:Bd l):Bd (revL l):=by
 obtain ⟨a,b,c⟩:=h;unfold Bd revL;simp only [Int.natAbs_neg];exact ⟨a,b,c⟩
theorem Bd.can {l:L3}(h:Bd l):Bd (lP l):=by
 unfold lP;split
 ·exact h.rev
 ·exact h
theorem Bd.Qo {l:L3}(h:Bd l):eG 1000 l:=⟨h.sz.1,h.sz.2.1,h.sz.2.2⟩
end Go.Proofs.Tryz
namespace Go.Proofs.Tryz.bE
open Go.Eng Go.Big
def nv (l:L3)(v:V2):Rat:=(l.1:Rat)*v.1+(l.2.1:Rat)*v.2
def bJ (l:L3):V2:=((l.2.1:Rat),-(l.1:Rat))
theorem NW (l:L3)(v:V2):nv l v=cr (bJ l) v:=by unfold nv cr bJ;grind
def PR (l:L3)(p v:V2):Int:=if (aI l p.1 p.2).num.sign=0 then (nv l v).num.sign else (aI l p.1 p.2).num.sign
def DG:Tr->V2->V2->Bool×Bool
 | .leaf i,_,_=>(i,true)
 | .node l a b,p,v=>if PR l p v=1 then DG a p v else if PR l p v=-1 then DG b p v else (false,false)
def kq:Tr->V2->List L3
 | .leaf _,_=>[]
 | .node l a b,p=>(if aI l p.1 p.2=0 then [l] else [])++((if aI l p.1 p.2≥0 then kq a p else [])++(if aI l p.1 p.2<=0 then kq b p else []))
theorem vR:∀{t:Tr} {p:V2} {l:L3},l∈kq t p->aI l p.1 p.2=0/\l∈t.Ty
 | .leaf _,_,_,h=>by cases h
 | .node m a b,p,l,h=>by
  unfold kq at h;simp only [List.mem_append] at h;rcases h with h|h|h
  ·split at h
   ·rename_i e;rcases List.mem_singleton.1 h with rfl;exact ⟨e,List.mem_cons_self ..⟩
   ·cases h
  ·split at h
   ·have:=vR h;exact ⟨this.1,List.mem_cons_of_mem _ (List.mem_append_left _ this.2)⟩
   ·cases h
  ·split at h
   ·have:=vR h;exact ⟨this.1,List.mem_cons_of_mem _ (List.mem_append_right _ this.2)⟩
   ·cases h
theorem Bx {q:Rat}:q.num.sign=-1↔q<0:=by
 rw [Int.sign_eq_neg_one_iff_neg,←Int.not_le,←Rat.not_le,Rat.num_nonneg]
theorem FD {q:Rat}:q.num.sign=1↔q>0:=by
 have h:=@Bx (-q);rw [Rat.neg_num,Int.sign_neg] at h;constructor
 ·intro e;have:=h.1 (by rw [e]);grind
 ·intro e;have:=h.2 (by grind);omega
theorem nj {q:Rat}:q.num.sign=0↔q=0:=by rw [Int.sign_eq_zero_iff_zero,Rat.num_eq_zero]
theorem wI:∀{t:Tr} {p v x:V2},(∀l∈kq t p,nv l v≠0)->(∀l∈kq t p,(nv l v>0->nv l x>0)/\(nv l v<0->nv l x<0)) ->
  DG t p x=DG t p v/\(DG t p v).2=true
 | .leaf _,_,_,_,_,_=>⟨rfl,rfl⟩
 | .node l a b,p,v,x,h0,h1=>by
  have ha:aI l p.1 p.2≥0->DG a p x=DG a p v/\(DG a p v).2=true:=fun e=>by
   have sub:∀m∈kq a p,m∈kq (.node l a b) p:=fun m hm=>by
    unfold kq;rw [if_pos e];exact List.mem_append_right _ (List.mem_append_left _ hm)
   exact wI (fun m hm=>h0 m (sub m hm)) (fun m hm=>h1 m (sub m hm))
  have hb:aI l p.1 p.2<=0->DG b p x=DG b p v/\(DG b p v).2=true:=fun e=>by
   have sub:∀m∈kq b p,m∈kq (.node l a b) p:=fun m hm=>by
    unfold kq;rw [if_pos e];exact List.mem_append_right _ (List.mem_append_right _ hm)
   exact wI (fun m hm=>h0 m (sub m hm)) (fun m hm=>h1 m (sub m hm))
  have f:aI l p.1 p.2=0->l∈kq (.node l a b) p:=fun e=>by
   unfold kq;rw [if_pos e];exact List.mem_append_left _ (List.mem_singleton.2 rfl)
  have key:PR l p x=PR l p v/\(PR l p v=1/\aI l p.1 p.2≥0\/PR l p v=-1/\aI l p.1 p.2<=0):=by
   unfold PR;by_cases e:aI l p.1 p.2=0
   ·have hm:=f e;rw [if_pos (nj.2 e),if_pos (nj.2 e)];obtain ⟨i,j⟩:=h1 l hm;have o:=h0 l hm;by_cases q:nv l v>0
    ·rw [FD.2 q,FD.2 (i q)];exact ⟨rfl,.inl ⟨rfl,by grind⟩⟩
    ·have c:nv l v<0:=by grind
     rw [Bx.2 c,Bx.2 (j c)];exact ⟨rfl,.inr ⟨rfl,by grind⟩⟩
   ·have d:¬(aI l p.1 p.2).num.sign=0:=fun h=>e (nj.1 h);rw [if_neg d,if_neg d];refine ⟨rfl,?_⟩;by_cases q:aI l p.1 p.2>0
    ·exact .inl ⟨FD.2 q,by grind⟩
    ·exact .inr ⟨Bx.2 (by grind),by grind⟩
  obtain ⟨k,n⟩:=key;simp only [DG,k];rcases n with ⟨e,g⟩|⟨e,g⟩
  ·rw [e,if_pos rfl,if_pos rfl];exact ha g
  ·rw [e,if_neg (by decide),if_pos rfl,if_neg (by decide),if_pos rfl];exact hb g
def P2 (D:List V2)(M:List L3):Prop:=∀l∈M,∃r∈D,∃c:Rat,c>0/\r=(c*(bJ l).1,c*(bJ l).2)
theorem EN {l:L3}{r:V2}{c:Rat}(c0:c>0)(e:r=(c*(bJ l).1,c*(bJ l).2))(v:V2):cr r v=c*nv l v:=by
 rw [NW,e];unfold cr;grind
theorem GC {c x:Rat}(c0:c>0):(c*x>0↔x>0)/\(c*x<0↔x<0)/\(c*x=0↔x=0):=by
 have p:x>0->c*x>0:=fun h=>mp c0 h;have n:x<0->c*x<0:=fun h=>by have:=mp c0 (show -x>0 by grind);grind
 have z:x=0->c*x=0:=fun h=>by rw [h];grind
 refine ⟨⟨fun h=>?_,p⟩,⟨fun h=>?_,n⟩,⟨fun h=>?_,z⟩⟩
 ·by_cases q:x>0
  ·exact q
  ·by_cases a:x<0
   ·have:=n a;grind
   ·have:=z (by grind);grind
 ·by_cases q:x<0
  ·exact q
  ·by_cases a:x>0
   ·have:=p a;grind
   ·have:=z (by grind);grind
 ·rcases Rat.mul_eq_zero.1 h with h|h
  ·grind
  ·exact h
theorem P2.gen {D:List V2}{M:List L3}(h:P2 D M){v:V2}(hv:∀r∈D,cr r v≠0):∀l∈M,nv l v≠0:=by
 intro l a e;obtain ⟨r,b,c,d,f⟩:=h l a;exact hv r b (by rw [EN d f,e];grind)
theorem P2.same {D:List V2}{M:List L3}(h:P2 D M){v x:V2}(hv:∀r∈D,(cr r v>0->cr r x>0)/\(cr r v<0->cr r x<0)) :
  ∀l∈M,(nv l v>0->nv l x>0)/\(nv l v<0->nv l x<0):=by
 intro l d;obtain ⟨r,e,c,a,b⟩:=h l d;have:=hv r e;rw [EN a b,EN a b] at this;obtain ⟨f,g,_⟩:=@GC c (nv l v) a;obtain ⟨b1,b2,_⟩:=@GC c (nv l x) a;exact ⟨fun h=>b1.1 (this.1 (f.2 h)),fun h=>b2.1 (this.2 (g.2 h))⟩
def anyS (t:Tr)(p:V2)(S:List V2):Bool:=S.any fun v=>(DG t p v).1
def Ly (t:Tr)(p:V2)(S:List V2):Bool:=S.all fun v=>(DG t p v).1
theorem G2 (l:L3)(p v:V2)(s:Rat):aI l (p.1+s*v.1) (p.2+s*v.2)=aI l p.1 p.2+s*nv l v:=by unfold aI nv;grind
theorem inv_mul {c:Rat}(h:c≠0)(a:Rat):a*c⁻¹*c=a:=by rw [Rat.mul_assoc,Rat.inv_mul_cancel _ h,Rat.mul_one]
def half (u:V2):Int:=if u.2.num.sign>0\/u.2.num.sign=0/\u.1.num.sign>0 then 1 else if u.2.num.sign<0\/u.1.num.sign<0 then 2 else 0
def gw (u v:V2):Int:=if half u<half v then -1 else if half u>half v then 1 else -(cr u v).num.sign
theorem sT {q:Rat}:q.num.sign>0↔q>0:=by
 have:=Rat.num_nonneg (q:=-q);rw [Rat.neg_num] at this;rw [gt_iff_lt,Int.sign_pos_iff];have a:(0<=-q)↔¬q>0:=by constructor<;>intro h<;>grind
 rw [a] at this;by_cases h:q>0
 ·exact ⟨fun _=>h,fun _=>by
   have:¬0<=-q.num:=fun g=>this.1 g h;omega⟩
 ·exact ⟨fun g=>by have:=this.2 h;omega,fun g=>absurd g h⟩
theorem GS {q:Rat}:q.num.sign<0↔q<0:=by
 have:=@sT (-q);rw [Rat.neg_num,Int.sign_neg] at this;constructor
 ·intro h;have:=this.1 (by omega);grind
 ·intro h;have:=this.2 (by grind);omega
theorem cj (u:V2):half u=1/\up u\/half u=2/\dn u\/half u=0/\u.1=0/\u.2=0:=by
 unfold half up dn;split
 ·rename_i h;rw [sT,sT,nj] at h;exact .inl ⟨rfl,h⟩
 ·rename_i h;rw [sT,sT,nj] at h;split
  ·rename_i a;rw [GS,GS] at a;exact .inr (.inl ⟨rfl,by grind⟩)
  ·rename_i a;rw [GS,GS] at a;exact .inr (.inr ⟨rfl,by grind,by grind⟩)
theorem ow {u v:V2}:gw u v<0↔half u<half v\/half u=half v/\cr u v>0:=by
 have:=@sT (cr u v);unfold gw;by_cases a:half u<half v
 ·simp [a]
 ·by_cases b:half u>half v
  ·rw [if_neg a,if_pos b];omega
  ·rw [if_neg a,if_neg b];constructor
   ·intro h;exact .inr ⟨by omega,this.1 (by omega)⟩
   ·rintro (h|⟨h,c⟩)
    ·omega
    ·have:=this.2 c;omega
theorem j9 {u v:V2}:gw u v=0↔half u=half v/\cr u v=0:=by
 have:=@nj (cr u v);unfold gw;by_cases a:half u<half v
 ·rw [if_pos a];constructor
  ·intro h;omega
  ·rintro ⟨h,_⟩;omega
 ·by_cases b:half u>half v
  ·rw [if_neg a,if_pos b];constructor
   ·intro h;omega
   ·rintro ⟨h,_⟩;omega
  ·rw [if_neg a,if_neg b];constructor
   ·intro h;exact ⟨by omega,this.1 (by omega)⟩
   ·rintro ⟨_,h⟩;have:=this.2 h;omega
theorem Er (u v:V2):gw u v<0\/gw u v=0\/gw v u<0:=by
 rw [ow,j9,ow];have:=gP u v;rcases Int.lt_trichotomy (half u) (half v) with h|h|h
 ·exact .inl (.inl h)
 ·by_cases p:cr u v>0
  ·exact .inl (.inr ⟨h,p⟩)
  ·by_cases q:cr u v=0
   ·exact .inr (.inl ⟨h,q⟩)
   ·exact .inr (.inr (.inr ⟨h.symm,by grind⟩))
 ·exact .inr (.inr (.inl h))
theorem Gb (u v:V2)(h:gw u v<0):¬gw v u<0:=by
 rw [ow] at *;have:=gP u v;rintro (a|⟨a,b⟩)<;>rcases h with h|⟨h,g⟩
 ·omega
 ·omega
 ·omega
 ·grind
theorem LR {a b d:V2}(zR:half a=half b)(hbd:half b=half d)(h1:cr a b<=0)(h2:cr b d<=0):cr a d<=0:=by
 by_cases h:cr a d<=0
 ·exact h
 exfalso;have c:cr a d>0:=by grind
 have n:=Pk a d b;have o:=E6 a d b;rcases cj b with ⟨e,hb⟩|⟨e,hb⟩|⟨e,hb⟩
 ·have g:up a:=by rcases cj a with ⟨f,h⟩|⟨f,h⟩|⟨f,h⟩<;>first|exact h|omega
  have i:up d:=by rcases cj d with ⟨f,h⟩|⟨f,h⟩|⟨f,h⟩<;>first|exact h|omega
  unfold up at g hb i;have k:=mn (show -(cr a b)≥0 by grind) (show d.2≥0 by grind);have l:=mn (show -(cr b d)≥0 by grind) (show a.2≥0 by grind);have m:=mn (show cr a d≥0 by grind) (show b.2≥0 by grind);have j:cr a d*b.2=0:=by grind
  have b2:b.2=0:=by rcases Rat.mul_eq_zero.1 j with h|h<;>grind
  have b1:b.1>0:=by grind
  have d2:d.2=0:=by
   by_cases q:d.2>0
   ·have:=mp b1 q;unfold cr at h2;rw [b2] at h2;grind
   ·grind
  have d1:d.1>0:=by grind
  have:=mn (show a.2≥0 by grind) (show d.1≥0 by grind);unfold cr at c;rw [d2] at c;grind
 ·have g:dn a:=by rcases cj a with ⟨f,h⟩|⟨f,h⟩|⟨f,h⟩<;>first|exact h|omega
  have i:dn d:=by rcases cj d with ⟨f,h⟩|⟨f,h⟩|⟨f,h⟩<;>first|exact h|omega
  unfold dn at g hb i;have k:=mn (show -(cr a b)≥0 by grind) (show -d.2≥0 by grind);have l:=mn (show -(cr b d)≥0 by grind) (show -a.2≥0 by grind);have m:=mn (show cr a d≥0 by grind) (show -b.2≥0 by grind);have j:cr a d*b.2=0:=by grind
  have b2:b.2=0:=by rcases Rat.mul_eq_zero.1 j with h|h<;>grind
  have b1:-b.1>0:=by grind
  have d2:d.2=0:=by
   by_cases q:-d.2>0
   ·have:=mp b1 q;unfold cr at h2;rw [b2] at h2;grind
   ·grind
  have d1:d.1<0:=by grind
  have:=mn (show -a.2≥0 by grind) (show -d.1≥0 by grind);unfold cr at c;rw [d2] at c;grind
 ·have g:a.1=0/\a.2=0:=by rcases cj a with ⟨f,h⟩|⟨f,h⟩|⟨f,h⟩<;>first|exact h|omega
  unfold cr at c;rw [g.1,g.2] at c;grind
theorem OC {u v:V2}:¬gw u v<0↔half v<half u\/half u=half v/\cr u v<=0:=by
 rw [ow];constructor
 ·intro h;rcases Int.lt_trichotomy (half u) (half v) with g|g|g
  ·exact absurd (.inl g) h
  ·exact .inr ⟨g,by by_cases p:cr u v>0;exact absurd (.inr ⟨g,p⟩) h;grind⟩
  ·exact .inl g
 ·rintro (h|⟨h,g⟩) (a|⟨a,b⟩)
  ·omega
  ·omega
  ·omega
  ·grind
theorem uI (a b d:V2)(h:¬gw a b<0)(h':¬gw b d<0):¬gw a d<0:=by
 rw [OC] at *;rcases h with h|⟨h,g⟩<;>rcases h' with h'|⟨h',g'⟩
 ·exact .inl (by omega)
 ·exact .inl (by omega)
 ·exact .inl (by omega)
 ·exact .inr ⟨by omega,LR h h' g g'⟩
theorem OD {u v:V2}(hu:nz u)(hv:nz v):gw u v<0↔tu u v:=by
 have c:∀{w:V2},nz w->¬(w.1=0/\w.2=0):=fun h g=>by unfold nz at h;rcases h with h|h;exact h g.1;exact h g.2
 rw [ow];unfold tu;rcases cj u with ⟨e,h⟩|⟨e,h⟩|⟨e,h⟩
 ·rcases cj v with ⟨b,a⟩|⟨b,a⟩|⟨b,a⟩
  ·rw [e,b];constructor
   ·rintro (g|⟨_,g⟩)
    ·omega
    ·exact .inr ⟨.inl ⟨h,a⟩,g⟩
   ·rintro (⟨_,g⟩|⟨_,g⟩)
    ·exact (eV a g).elim
    ·exact .inr ⟨rfl,g⟩
  ·rw [e,b];exact ⟨fun _=>.inl ⟨h,a⟩,fun _=>.inl (by decide)⟩
  ·exact absurd a (c hv)
 ·rcases cj v with ⟨b,a⟩|⟨b,a⟩|⟨b,a⟩
  ·rw [e,b];constructor
   ·rintro (g|⟨g,_⟩)<;>omega
   ·rintro (⟨g,_⟩|⟨⟨g,_⟩|⟨_,g⟩,_⟩)
    ·exact (eV g h).elim
    ·exact (eV g h).elim
    ·exact (eV a g).elim
  ·rw [e,b];constructor
   ·rintro (g|⟨_,g⟩)
    ·omega
    ·exact .inr ⟨.inr ⟨h,a⟩,g⟩
   ·rintro (⟨g,_⟩|⟨_,g⟩)
    ·exact (eV g h).elim
    ·exact .inr ⟨rfl,g⟩
  ·exact absurd a (c hv)
 ·exact absurd h (c hu)
theorem IF {u v:V2}(hu:nz u)(h:gw u v=0):∃c:Rat,c>0/\u=(c*v.1,c*v.2):=by
 rw [j9] at h;obtain ⟨e,c⟩:=h;have fin:∀k:Rat,k>0->u.1=k*v.1->u.2=k*v.2->∃c:Rat,c>0/\u=(c*v.1,c*v.2):=fun k a b g=>⟨k,a,Prod.ext b g⟩
 have pos:∀x y:Rat,y≠0->x*y>0->x*y⁻¹>0:=fun x y l h=>by
  have e:=inv_mul l x;generalize x*y⁻¹=t at *;have o:t*(y*y)=x*y:=by grind
  have:=sq_pos (u:=(y,0)) (.inl l);unfold dt at this;by_cases q:t>0
  ·exact q
  ·have:=mn (show -t≥0 by grind) (show y*y≥0 by grind);grind
 unfold cr at c
 have two:v.2≠0->u.2*v.2>0->∃c:Rat,c>0/\u=(c*v.1,c*v.2):=fun a b=>by
  refine fin (u.2*v.2⁻¹) (pos _ _ a b) ?_ (inv_mul a _).symm;have:=inv_mul a u.1;have:u.1*v.2*v.2⁻¹=u.2*v.1*v.2⁻¹:=by rw [show u.1*v.2=u.2*v.1 by grind]
  grind
 have one:v.1≠0->u.1*v.1>0->v.2=0->u.2=0->∃c:Rat,c>0/\u=(c*v.1,c*v.2):=fun a b g n=>
  fin (u.1*v.1⁻¹) (pos _ _ a b) (inv_mul a _).symm (by rw [g,n];grind)
 rcases cj u with ⟨m,h⟩|⟨m,h⟩|⟨m,h⟩
 ·have i:up v:=by rcases cj v with ⟨d,h⟩|⟨d,h⟩|⟨d,h⟩<;>first|exact h|omega
  unfold up at h i;by_cases q:v.2>0
  ·refine two (by grind) ?_;by_cases f:u.2>0
   ·exact mp f q
   ·have j:u.2=0:=by grind
    have:=mp (show u.1>0 by grind) q;rw [j] at c;grind
  ·have v2:v.2=0:=by grind
   have v1:v.1>0:=by grind
   by_cases f:u.2>0
   ·have:=mp f v1;rw [v2] at c;grind
   ·exact one (by grind) (mp (by grind) v1) v2 (by grind)
 ·have i:dn v:=by rcases cj v with ⟨d,h⟩|⟨d,h⟩|⟨d,h⟩<;>first|exact h|omega
  unfold dn at h i;by_cases q:v.2<0
  ·refine two (by grind) ?_;by_cases f:u.2<0
   ·have:=mp (show -u.2>0 by grind) (show -v.2>0 by grind);grind
   ·have j:u.2=0:=by grind
    have:=mp (show -u.1>0 by grind) (show -v.2>0 by grind);rw [j] at c;grind
  ·have v2:v.2=0:=by grind
   have v1:-v.1>0:=by grind
   by_cases f:u.2<0
   ·have:=mp (show -u.2>0 by grind) v1;rw [v2] at c;grind
   ·refine one (by grind) ?_ v2 (by grind);have:=mp (show -u.1>0 by grind) v1;grind
 ·unfold nz at hu;grind
theorem LA {a b d:V2}(h:gw a b=0)(h':gw b d=0):gw a d=0:=by
 have z:∀{u v:V2},gw u v=0↔¬gw u v<0/\¬gw v u<0:=by
  intro u v;constructor
  ·intro e;refine ⟨by omega,?_⟩;rw [j9] at e;have:=gP u v;rw [ow];rintro (g|⟨_,g⟩)
   ·omega
   ·grind
  ·rintro ⟨g,c⟩;rcases Er u v with e|e|e
   ·exact absurd e g
   ·exact e
   ·exact absurd e c
 rw [z] at *;exact ⟨uI _ _ _ h.1 h'.1,uI _ _ _ h'.2 h.2⟩
theorem uH (a:V2):gw a a=0:=j9.2 ⟨rfl,by unfold cr;grind⟩
theorem Gc {a b d:V2}(h:¬gw b a<0)(h':gw b d<0):gw a d<0:=by
 by_cases q:gw a d<0
 ·exact q
 ·exact absurd h' (uI _ _ _ h q)
def eP (u v:V2):Bool:=decide (gw u v=0)
theorem Cv:∀{r:List V2} {p:V2},(p::r).Pairwise (fun x y=>¬gw y x<0) ->
  (ki eP p r).Pairwise (fun x y=>gw x y<0)/\(∀x∈ki eP p r,gw p x<0)/\∀x∈p::r,∃y∈p::ki eP p r,gw y x=0
 | [],p,_=>⟨List.Pairwise.nil,(fun x h=>by cases h),fun x h=>⟨x,h,uH x⟩⟩
 | a::r,p,h=>by
  obtain ⟨h1,h2⟩:=List.pairwise_cons.1 h;obtain ⟨i1,i2,i3⟩:=Cv h2;have f:¬gw a p<0:=h1 a (List.mem_cons_self ..);unfold ki;by_cases e:gw a p=0
  ·have:eP a p=true:=decide_eq_true e;rw [if_pos this]
   have i:¬gw p a<0:=fun g=>by
    rcases j9.1 e with ⟨j,k⟩;rw [ow] at g;have:=gP a p;rcases g with g|⟨_,g⟩
    ·omega
    ·grind
   refine ⟨i1,fun x c=>Gc f (i2 x c),fun x c=>?_⟩;rcases List.mem_cons.1 c with rfl|c
   ·exact ⟨x,List.mem_cons_self ..,uH x⟩
   ·obtain ⟨y,d,g⟩:=i3 x c;rcases List.mem_cons.1 d with rfl|d
    ·refine ⟨p,List.mem_cons_self ..,LA (b:=y) ?_ g⟩;rcases Er p y with q|q|q
     ·exact absurd q i
     ·exact q
     ·exact absurd q f
    ·exact ⟨y,List.mem_cons_of_mem _ d,g⟩
  ·have:eP a p=false:=decide_eq_false e;rw [this]
   have lt:gw p a<0:=by
    rcases Er p a with q|q|q
    ·exact q
    ·exfalso;apply e;rw [j9] at *;have:=gP a p;exact ⟨q.1.symm,by grind⟩
    ·exact absurd q f
   refine ⟨List.pairwise_cons.2 ⟨i2,i1⟩,fun x c=>?_,fun x c=>?_⟩
   ·rcases List.mem_cons.1 c with rfl|c
    ·exact lt
    ·exact Gc (b:=a) f (i2 x c)
   ·rcases List.mem_cons.1 c with rfl|c
    ·exact ⟨x,List.mem_cons_self ..,uH x⟩
    ·obtain ⟨y,d,g⟩:=i3 x c;exact ⟨y,List.mem_cons_of_mem _ d,g⟩
theorem I7 {m:List V2}(h:m.Pairwise (fun x y=>¬gw y x<0)):(gT eP m).Pairwise (fun x y=>gw x y<0)/\∀x∈m,∃y∈gT eP m,gw y x=0:=by
 cases m with
 | nil=>exact ⟨List.Pairwise.nil,fun x h=>by cases h⟩
 | cons p r=>
  obtain ⟨a,b,c⟩:=Cv h;exact ⟨List.pairwise_cons.2 ⟨b,a⟩,c⟩
theorem PK {m:List V2}(h:m.Pairwise (fun x y=>¬gw y x<0))(hn:∀r∈m,nz r)(ho:∀r∈m,∃s∈m,VY s r):Ni (gT eP m)/\∀x∈m,∃y∈gT eP m,∃c:Rat,c>0/\y=(c*x.1,c*x.2):=by
 obtain ⟨i,j⟩:=I7 h;have sub:∀x∈gT eP m,x∈m:=I8
 have mem:∀x∈m,∃y∈gT eP m,∃c:Rat,c>0/\y=(c*x.1,c*x.2):=fun x l=>by
  obtain ⟨y,d,e⟩:=j x l;exact ⟨y,d,IF (hn y (sub y d)) e⟩
 refine ⟨⟨fun r f=>hn r (sub r f),fun r f=>?_,?_⟩,mem⟩
 ·obtain ⟨s,n,k,o,p,q⟩:=ho r (sub r f);obtain ⟨y,d,c,t,e⟩:=mem s n;refine ⟨y,d,c*k,mp t o,?_,?_⟩
  ·rw [e];show c*s.1=_;rw [p];grind
  ·rw [e];show c*s.2=_;rw [q];grind
 ·refine List.Pairwise.imp_of_mem ?_ i;intro a b u hb g;exact (OD (hn a (sub a u)) (hn b (sub b hb))).1 g
section
variable {D:List V2} (h:Ni D)
include h
theorem PC {i:Nat}{u w:V2}(hi:D[i]?=some u)(hw:D[(i+1)%D.length]?=some w):cr u w≥0:=by
 by_cases q:cr u w≥0
 ·exact q
 exfalso;have b:w∈D:=List.mem_of_getElem? hw;have hu:u∈D:=List.mem_of_getElem? hi;obtain ⟨s,c,d⟩:=h.cl w b;obtain ⟨k,f,_,g⟩:=Bh d u;have p:cr u s>0:=by rw [g];have:=mp f (show -(cr u w)>0 by grind);grind
 obtain ⟨j,a⟩:=List.getElem?_of_mem c;refine Np (h.nz u hu) (h.nz w b) (h.nz s c) (Uy h hi hw a (fun e=>?_) (fun e=>?_)) p (by grind)
 ·rw [e,hi] at a;cases a;unfold cr at p;grind
 ·rw [e,hw] at a;cases a;grind
omit h in
def SL (f:V2->V2->V2)(D:List V2):List V2:=(List.range D.length).map fun i=>f (D.getD i (0,0)) (D.getD ((i+1)%D.length) (0,0))
theorem MN {f:V2->V2->V2}(hf:∀u∈D,∀w∈D,cr u w≥0->G9 u w (f u w))(hD:D≠[]):Tj D (SL f D):=by
 have j:0<D.length:=List.length_pos_iff.2 hD
 have key:∀i u w,D[i]?=some u->D[(i+1)%D.length]?=some w->D.getD i (0,0)=u/\D.getD ((i+1)%D.length) (0,0)=w/\G9 u w (f u w):=fun i u w a hw=>
  ⟨by rw [List.getD_eq_getElem?_getD,a];rfl,by rw [List.getD_eq_getElem?_getD,hw];rfl,hf u (List.mem_of_getElem? a) w (List.mem_of_getElem? hw) (PC h a hw)⟩
 refine .inr ⟨hD,fun x k=>?_,fun i u w a hw=>?_⟩
 ·obtain ⟨i,a,rfl⟩:=List.mem_map.1 k;have a:=List.mem_range.1 a;have e:D[i]?=some D[i]:=List.getElem?_eq_getElem a;have g:D[(i+1)%D.length]?=some (D[(i+1)%D.length]'(Nat.mod_lt _ j)):=List.getElem?_eq_getElem _;obtain ⟨b,c,d⟩:=key i _ _ e g;exact ⟨i,_,_,e,g,by rw [b,c];exact d⟩
 ·obtain ⟨b,c,d⟩:=key i u w a hw;refine ⟨_,List.mem_map.2 ⟨i,List.mem_range.2 (List.getElem?_eq_some_iff.1 a).1,rfl⟩,?_⟩;rw [b,c];exact d
end
theorem uo {a b c x y z:Int}(h1:a*y=b*x)(h2:a*z=c*x)(g:Nat.gcd (Nat.gcd x.natAbs y.natAbs) z.natAbs=1):x.natAbs∣a.natAbs:=by
 have d:a.natAbs*y.natAbs=b.natAbs*x.natAbs:=by rw [←Int.natAbs_mul,←Int.natAbs_mul,h1]
 have e:a.natAbs*z.natAbs=c.natAbs*x.natAbs:=by rw [←Int.natAbs_mul,←Int.natAbs_mul,h2]
 have d1:x.natAbs∣a.natAbs*Nat.gcd (Nat.gcd x.natAbs y.natAbs) z.natAbs:=by
  rw [←Nat.gcd_mul_left,←Nat.gcd_mul_left];exact Nat.dvd_gcd (Nat.dvd_gcd ⟨a.natAbs,by rw [Nat.mul_comm]⟩ ⟨b.natAbs,by rw [d,Nat.mul_comm]⟩) ⟨c.natAbs,by rw [e,Nat.mul_comm]⟩
 rwa [g,Nat.mul_one] at d1
theorem H2 {l m:L3}(ol:jO l=true)(om:jO m=true)(cl:lP l=l)(cm:lP m=m){x y:Rat}(hl:aI l x y=0)(hm:aI m x y=0)
  (hc:cr (bJ l) (bJ m)=0):l=m:=by
 unfold jO at ol om;rw [Bool.and_eq_true,decide_eq_true_iff,decide_eq_true_iff] at ol om
 have d:l.1*m.2.1=l.2.1*m.1:=by
  unfold cr bJ at hc;have:(l.1:Rat)*(m.2.1:Rat)=(l.2.1:Rat)*(m.1:Rat):=by grind
  exact_mod_cast this
 unfold aI at hl hm;have r:(l.1:Rat)*(m.2.1:Rat)=(l.2.1:Rat)*(m.1:Rat):=by exact_mod_cast d
 have e:l.1*m.2.2=l.2.2*m.1:=by
  have:(l.1:Rat)*(m.2.2:Rat)=(l.2.2:Rat)*(m.1:Rat):=by grind
  exact_mod_cast this
 have f:l.2.1*m.2.2=l.2.2*m.2.1:=by
  have:(l.2.1:Rat)*(m.2.2:Rat)=(l.2.2:Rat)*(m.2.1:Rat):=by grind
  exact_mod_cast this
 obtain ⟨j,k⟩:=ol;obtain ⟨s,n⟩:=om;unfold bM at k n;have o:Nat.gcd (Nat.gcd l.2.1.natAbs l.1.natAbs) l.2.2.natAbs=1:=by rw [Nat.gcd_comm l.2.1.natAbs];exact k
 have p:Nat.gcd (Nat.gcd m.2.1.natAbs m.1.natAbs) m.2.2.natAbs=1:=by rw [Nat.gcd_comm m.2.1.natAbs];exact n
 have u:l.1.natAbs=m.1.natAbs:=Nat.dvd_antisymm (uo (a:=m.1) (b:=m.2.1) (c:=m.2.2) (by rw [Int.mul_comm,←d,Int.mul_comm]) (by rw [Int.mul_comm,←e,Int.mul_comm]) k) (uo d e n);have v:l.2.1.natAbs=m.2.1.natAbs:=Nat.dvd_antisymm (uo (a:=m.2.1) (b:=m.1) (c:=m.2.2) (by rw [Int.mul_comm,d,Int.mul_comm]) (by rw [Int.mul_comm,←f,Int.mul_comm]) o) (uo (b:=l.1) (c:=l.2.2) d.symm f p)
 have sl:¬(l.1<0\/l.1=0/\l.2.1<0):=fun h=>by
  unfold lP at cl;rw [if_pos h] at cl;have g:-l.1=l.1:=congrArg (fun x:L3=>x.1) cl;have i:-l.2.1=l.2.1:=congrArg (fun x:L3=>x.2.1) cl;omega
 have sm:¬(m.1<0\/m.1=0/\m.2.1<0):=fun h=>by
  unfold lP at cm;rw [if_pos h] at cm;have g:-m.1=m.1:=congrArg (fun x:L3=>x.1) cm;have i:-m.2.1=m.2.1:=congrArg (fun x:L3=>x.2.1) cm;omega
 have g:l.1=m.1:=by omega
 by_cases z:l.1=0
 ·have i:l.2.1=m.2.1:=by omega
  have t:l.2.1≠0:=fun h=>j ⟨z,h⟩;have q:m.2.2=l.2.2:=Int.eq_of_mul_eq_mul_left t (by rw [f,i,Int.mul_comm]);exact Prod.ext g (Prod.ext i q.symm)
 ·have i:m.2.1=l.2.1:=Int.eq_of_mul_eq_mul_left z (by rw [d,g,Int.mul_comm]);have q:m.2.2=l.2.2:=Int.eq_of_mul_eq_mul_left z (by rw [e,g,Int.mul_comm]);exact Prod.ext g (Prod.ext i.symm q.symm)
end Go.Proofs.Tryz.bE
namespace Go.Proofs.Tryz.bE
def mx (x:Rat×Rat)(t:Rat):Rat:=x.1+t*(x.2-x.1)
theorem JS {x:Rat×Rat}{t:Rat}(h1:x.1>0)(h2:x.2>0)(t0:t>0)(t1:t<=1):mx x t>0:=by
 have a:=mn (show 1-t≥0 by grind) (show x.1≥0 by grind);have b:=mp t0 h2;unfold mx;grind
theorem Pz {x:Rat×Rat}{t s:Rat}(h1:x.1>0)(hs:mx x s≥0)(s0:s>0)(t0:t>0)(ts:t<=s):mx x t≥0:=by
 unfold mx at *;have e:s*(x.1+t*(x.2-x.1))=(s-t)*x.1+t*(x.1+s*(x.2-x.1)):=by grind
 have a:=mn (show s-t≥0 by grind) (show x.1≥0 by grind);have b:=mn (show t≥0 by grind) hs;by_cases h:x.1+t*(x.2-x.1)≥0
 ·exact h
 ·have:=mp s0 (show -(x.1+t*(x.2-x.1))>0 by grind);grind
theorem G6 {y:Rat×Rat}(h1:y.1>0){s:Rat}(s0:s>0)(hs:mx y s<=0):∃t,t>0/\t<=s/\mx y t=0:=by
 have a:y.1-y.2>0:=by
  by_cases c:y.1-y.2>0
  ·exact c
  ·have:=mn (show s≥0 by grind) (show y.2-y.1≥0 by grind);unfold mx at hs;grind
 have e:=inv_mul (show y.1-y.2≠0 by grind) y.1;have p:=mp h1 (Rat.inv_pos.2 a);refine ⟨y.1*(y.1-y.2)⁻¹,p,?_,?_⟩
 ·generalize y.1*(y.1-y.2)⁻¹=t at *;by_cases c:t<=s
  ·exact c
  ·have:=mp (show t-s>0 by grind) a;unfold mx at hs;grind
 ·generalize y.1*(y.1-y.2)⁻¹=t at *;unfold mx;grind
theorem ES:∀(L:List (Rat×Rat)),(∀x∈L,x.1>0)->(∃x∈L,x.2<=0)->∃t,t>0/\t<=1/\(∀x∈L,mx x t≥0)/\∃x∈L,mx x t=0
 | [],_,h=>by obtain ⟨x,hx,_⟩:=h;cases hx
 | y::L,h0,h=>by
  have j:=h0 y (List.mem_cons_self ..);have f:=fun x hx=>h0 x (List.mem_cons_of_mem y hx);by_cases c:∃x∈L,x.2<=0
  ·obtain ⟨t,t0,t1,a,x,hx,e⟩:=ES L f c;by_cases g:mx y t≥0
   ·exact ⟨t,t0,t1,fun z b=>by rcases List.mem_cons.1 b with rfl|b;exact g;exact a z b,x,List.mem_cons_of_mem _ hx,e⟩
   ·obtain ⟨s,d,st,es⟩:=G6 j t0 (by grind);exact ⟨s,d,by grind,fun z b=>by rcases List.mem_cons.1 b with rfl|b;grind;exact Pz (f z b) (a z b) t0 d st,y,List.mem_cons_self ..,es⟩
  ·obtain ⟨x,hx,i⟩:=h
   have:x=y:=by
    rcases List.mem_cons.1 hx with rfl|hx
    ·rfl
    ·exact absurd ⟨x,hx,i⟩ c
   subst this;obtain ⟨s,d,st,es⟩:=G6 j (s:=1) (by decide) (by unfold mx;grind);refine ⟨s,d,st,fun z b=>?_,x,List.mem_cons_self ..,es⟩;rcases List.mem_cons.1 b with rfl|b
   ·grind
   ·have:z.2>0:=by
     by_cases q:z.2>0
     ·exact q
     ·exact absurd ⟨z,b,by grind⟩ c
    have:=JS (f z b) this d st;grind
theorem KK:∀(L:List (Rat×Rat)),(∀x∈L,x.1>0)->∃s,s>0/\∀x∈L,x.1+s*x.2>0
 | [],_=>⟨1,by decide,fun x h=>by cases h⟩
 | y::L,h0=>by
  have hy:=h0 y (List.mem_cons_self ..);obtain ⟨s,d,h⟩:=KK L fun x f=>h0 x (List.mem_cons_of_mem y f);by_cases c:y.1+s*y.2>0
  ·exact ⟨s,d,fun z a=>by rcases List.mem_cons.1 a with rfl|a;exact c;exact h z a⟩
  ·have b:-y.2>0:=by
    by_cases q:y.2<0
    ·grind
    ·have:=mn (show s≥0 by grind) (show y.2≥0 by grind);grind
   have e:=inv_mul (show -y.2≠0 by grind) y.1;have p:=mp hy (Rat.inv_pos.2 b);generalize y.1*(-y.2)⁻¹=r at *
   have j:r<=s:=by
    by_cases q:r<=s
    ·exact q
    ·have:=mp (show r-s>0 by grind) b;grind
   refine ⟨r*(1 / 2),by grind,fun z a=>?_⟩;rcases List.mem_cons.1 a with rfl|a
   ·grind
   ·have g:=h0 z (List.mem_cons_of_mem _ a);have i:=h z a;by_cases q:z.2≥0
    ·have:=mn (show r*(1 / 2)≥0 by grind) q;grind
    ·have:=mn (show s-r*(1 / 2)≥0 by grind) (show -z.2≥0 by grind);grind
def pos (M:List L3)(p:V2):Prop:=∀m∈M,aI m p.1 p.2>0
def Es (M:List L3)(l:L3):Prop:=∃p:V2,aI l p.1 p.2=0/\∀m∈M,m≠l->aI m p.1 p.2>0
def Xb (M:List L3):Prop:=∀l∈M,∀m∈M,l≠m->∀p:V2,aI l p.1 p.2=0->aI m p.1 p.2=0->cr (bJ l) (bJ m)≠0
theorem Mw {l m:L3}{w:V2}(hw:w.1≠0\/w.2≠0)(h1:nv l w=0)(h2:nv m w=0):cr (bJ l) (bJ m)=0:=by
 have a:cr (bJ l) (bJ m)*w.1=0:=by unfold nv at *;unfold cr bJ;grind
 have b:cr (bJ l) (bJ m)*w.2=0:=by unfold nv at *;unfold cr bJ;grind
 rcases hw with h|h
 ·rcases Rat.mul_eq_zero.1 a with g|g;exact g;exact absurd g h
 ·rcases Rat.mul_eq_zero.1 b with g|g;exact g;exact absurd g h
theorem LS (u:V2):cr u u=0:=by unfold cr;grind
theorem M4 (m:L3)(q p:V2)(t:Rat):aI m (q.1+t*(p.1-q.1)) (q.2+t*(p.2-q.2))=aI m q.1 q.2+t*(aI m p.1 p.2-aI m q.1 q.2):=by unfold aI;grind
theorem PA (m:L3)(q p:V2)(t:Rat):nv m (q.1+t*(p.1-q.1),q.2+t*(p.2-q.2))=nv m q+t*(nv m p-nv m q):=by unfold nv;grind
theorem PB (m:L3)(q x:V2):nv m (q.1-x.1,q.2-x.2)=aI m q.1 q.2-aI m x.1 x.2:=by unfold nv aI;grind
theorem ess {M:List L3}(hd:Xb M)(hn:∀m∈M,(bJ m).1≠0\/(bJ m).2≠0){q p:V2}(hq:pos M q)(hp:∀m∈M,Es M m->aI m p.1 p.2>0):pos M p:=by
 intro B C;by_cases c:aI B p.1 p.2>0
 ·exact c
 exfalso;let f:L3->Rat×Rat:=fun m=>(aI m q.1 q.2,aI m p.1 p.2);obtain ⟨t,t0,t1,ge,x,j,ex⟩:=ES (M.map f) (fun x j=>by obtain ⟨m,hm,rfl⟩:=List.mem_map.1 j;exact hq m hm) ⟨f B,List.mem_map_of_mem C,by show aI B p.1 p.2<=0;grind⟩;obtain ⟨i,l,rfl⟩:=List.mem_map.1 j;let X:V2:=(q.1+t*(p.1-q.1),q.2+t*(p.2-q.2));have D:∀m,aI m X.1 X.2=mx (f m) t:=fun m=>M4 m q p t;have E:∀m∈M,aI m X.1 X.2≥0:=fun m hm=>by rw [D];exact ge _ (List.mem_map_of_mem hm)
 have P:aI i X.1 X.2=0:=by rw [D];exact ex
 let u:V2:=(q.1-X.1,q.2-X.2);have Q:∀m,nv m u=aI m q.1 q.2-aI m X.1 X.2:=fun m=>PB m q X;let Z:=M.filter fun m=>decide (aI m X.1 X.2=0);have r:∀m,m∈Z↔m∈M/\aI m X.1 X.2=0:=fun m=>by simp [Z,List.mem_filter]
 have F:i∈Z:=(r i).2 ⟨l,P⟩;let d:=bJ i;have d0:nv i d=0:=by rw [NW];exact LS _
 let g:L3->Rat×Rat:=fun m=>(nv m u,nv m d)
 obtain ⟨k,k0,k1,G,y,S,T⟩:=ES (Z.map g) (fun x j=>by
  obtain ⟨m,hm,rfl⟩:=List.mem_map.1 j;obtain ⟨H,U⟩:=(r m).1 hm;show nv m u>0;rw [Q,U];have:=hq m H;grind) ⟨g i,List.mem_map_of_mem F,by show nv i d<=0;rw [d0];grind⟩
 obtain ⟨n,I,rfl⟩:=List.mem_map.1 S;obtain ⟨J,K⟩:=(r n).1 I;let w:V2:=(u.1+k*(d.1-u.1),u.2+k*(d.2-u.2));have L:∀m,nv m w=mx (g m) k:=fun m=>PA m u d k;have R:nv n w=0:=by rw [L];exact T
 have V:w.1≠0\/w.2≠0:=by
  by_cases e:k=1
  ·have:=hn i l;have v:w.1=d.1:=by dsimp only [w];rw [e];grind
   have A:w.2=d.2:=by dsimp only [w];rw [e];grind
   rw [v,A];exact this
  ·have a:nv i w>0:=by
    rw [L];show nv i u+k*(nv i d-nv i u)>0;rw [d0];have:nv i u>0:=by rw [Q,P];have:=hq i l;grind
    have:=mp (show 1-k>0 by grind) this;grind
   by_cases v:w.1=0
   ·by_cases A:w.2=0
    ·unfold nv at a;rw [v,A] at a;grind
    ·exact .inr A
   ·exact .inl v
 obtain ⟨s,W,Y⟩:=KK ((M.filter fun m=>decide (aI m X.1 X.2>0)).map fun m=>(aI m X.1 X.2,nv m w)) (fun x j=>by
  obtain ⟨m,hm,rfl⟩:=List.mem_map.1 j;simpa using (List.mem_filter.1 hm).2)
 have es:Es M n:=by
  refine ⟨(X.1+s*w.1,X.2+s*w.2),?_,fun m hm N=>?_⟩
  ·rw [G2,K,R];grind
  ·rw [G2];by_cases z:aI m X.1 X.2=0
   ·have O:=(r m).2 ⟨hm,z⟩;have g0:nv m w≥0:=by rw [L];exact G _ (List.mem_map_of_mem O)
    have ne:nv m w≠0:=fun e=>hd n J m hm (fun h=>N h.symm) X K z (Mw V R e);have:=mp W (show nv m w>0 by grind);rw [z];grind
   ·have gz:=E m hm;have o:(aI m X.1 X.2,nv m w)∈((M.filter fun m=>decide (aI m X.1 X.2>0)).map fun m=>(aI m X.1 X.2,nv m w)):=List.mem_map.2 ⟨m,List.mem_filter.2 ⟨hm,by simp;grind⟩,rfl⟩;exact Y _ o
 have a:=hp n J es;have b:=hq n J;have:=JS (x:=f n) b a t0 t1;rw [←D,K] at this;grind
end Go.Proofs.Tryz.bE
namespace Go.Proofs.Tryz
open Go.Eng Go.Big
theorem C3 {s u:Sp}{t:Rat}:(s.meet u).inn t↔s.inn t/\u.inn t:=by
 have c:Fc s.lo u.lo<t↔s.lo<t/\u.lo<t:=by
  unfold Fc;rcases iq u.lo s.lo with ⟨h,e⟩|⟨h,e⟩|⟨h,e⟩<;>rw [e]<;>simp<;>grind
 have d:t<Fg s.hi u.hi↔t<s.hi/\t<u.hi:=by
  unfold Fg;rcases iq u.hi s.hi with ⟨h,e⟩|⟨h,e⟩|⟨h,e⟩<;>rw [e]<;>simp<;>grind
 unfold Sp.inn Sp.meet;cases s.a<;>cases s.b<;>cases u.a<;>cases u.b<;>simp [c,d]<;>grind
theorem reg_one {s:Sp}(h:s.good):xz [s]:=⟨fun x a=>(show x=s by simpa using a)▸h,by simp⟩
theorem pL {s u:Sp}(hs:s.can)(hu:u.can):combL 2 [s] [u]=if (s.meet u).emp=true then [] else [s.meet u]:=by
 have key:∀t,inB (combL 2 [s] [u]) t=true->t∉endsL ([s]++[u])->(s.meet u).inn t:=fun t h c=>by
  rw [comb_inB _ _ _ c] at h;have h:(inB [s] t&&inB [u] t)=true:=h;rw [Bool.and_eq_true] at h;have e:∀x:Sp,inB [x] t=x.innB t:=fun x=>by unfold inB;simp
  rw [e,e,innB_iff,innB_iff] at h;exact C3.2 h
 refine reg_eq (endsL ([s]++[u])) (comb_reg _ _ _) ?_ fun t c=>?_
 ·split
  ·exact ⟨(fun _ h=>by cases h),List.Pairwise.nil⟩
  ·rename_i h;exact reg_one ⟨Sp.JN hs hu,by simpa using h⟩
 ·refine Ge ⟨fun h=>?_,fun h=>?_⟩
  ·have hk:=key t h c;split
   ·rename_i he;obtain ⟨a,b⟩:=hk;generalize s.meet u=m at he a b;unfold Sp.emp at he;rw [Bool.and_eq_true,Bool.and_eq_true,Bool.not_eq_true',Bool.not_eq_true',decide_eq_true_eq] at he;obtain ⟨⟨d,hb⟩,g⟩:=he;rw [d] at a;rw [hb] at b;have a:=a.resolve_left (by decide);have b:=b.resolve_left (by decide);rcases iq m.lo m.hi with ⟨h,e⟩|⟨h,e⟩|⟨h,e⟩
    ·omega
    ·grind
    ·grind
   ·exact jB.2 ⟨_,by simp,hk⟩
  ·rw [comb_inB _ _ _ c];show (inB [s] t&&inB [u] t)=true;split at h
   ·cases h
   ·obtain ⟨x,f,hi⟩:=jB.1 h;obtain rfl:x=s.meet u:=by simpa using f
    obtain ⟨a,b⟩:=C3.1 hi;rw [Bool.and_eq_true];exact ⟨jB.2 ⟨s,by simp,a⟩,jB.2 ⟨u,by simp,b⟩⟩
theorem OE {l:L3}(h:Nz l)(t:Rat):aI l (j_ l t) (kH l t)=0/\dz l (j_ l t) (kH l t)=t:=by
 have a:=h.norm;have b:=Rat.mul_inv_cancel _ a;unfold aI dz j_ kH;unfold cF at *;constructor<;>grind
theorem PY {l m:L3}(h:crossL l m≠0):aI l (Px l m) (Py l m)=0/\aI m (Px l m) (Py l m)=0:=by
 have a:=Rat.mul_inv_cancel _ h;unfold aI Px Py;constructor
 ·have e:(l.1:Rat)*(((l.2.1:Rat)*(m.2.2:Rat)-(l.2.2:Rat)*(m.2.1:Rat))*(crossL l m)⁻¹)+(l.2.1:Rat)*(((l.2.2:Rat)*(m.1:Rat)-(l.1:Rat)*(m.2.2:Rat))*(crossL l m)⁻¹)+(l.2.2:Rat)=(l.2.2:Rat)*(1-crossL l m*(crossL l m)⁻¹):=by
   generalize hc:(crossL l m)⁻¹=c;unfold crossL;grind
  rw [e,a];grind
 ·have e:(m.1:Rat)*(((l.2.1:Rat)*(m.2.2:Rat)-(l.2.2:Rat)*(m.2.1:Rat))*(crossL l m)⁻¹)+(m.2.1:Rat)*(((l.2.2:Rat)*(m.1:Rat)-(l.1:Rat)*(m.2.2:Rat))*(crossL l m)⁻¹)+(m.2.2:Rat)=(m.2.2:Rat)*(1-crossL l m*(crossL l m)⁻¹):=by
   generalize hc:(crossL l m)⁻¹=c;unfold crossL;grind
  rw [e,a];grind
theorem Gi (l:L3):lP (lP l)=lP l:=by
 unfold lP;by_cases h:l.1<0\/l.1=0/\l.2.1<0
 ·rw [if_pos h,if_neg];unfold revL;dsimp only;omega
 ·rw [if_neg h,if_neg h]
theorem J7 {l:L3}(h:jO l=true):jO (lP l)=true:=by
 unfold lP;split
 ·unfold jO revL bM at *;simp only [Int.natAbs_neg];rw [Bool.and_eq_true,decide_eq_true_iff,decide_eq_true_iff] at h ⊢;exact ⟨fun e=>h.1 ⟨by omega,by omega⟩,h.2⟩
 ·exact h
theorem NX {l:L3}(h:jO l=true):¬(l.1=0/\l.2.1=0):=by
 unfold jO at h;rw [Bool.and_eq_true,decide_eq_true_iff] at h;exact h.1
theorem LV {s:Sp}:s.emp=false↔∃t,s.inn t:=by
 constructor
 ·intro h;obtain ⟨c,d⟩:=Sp.MM h;refine ⟨s.Dv,?_,?_⟩
  ·cases ha:s.a
   ·exact .inr (c ha)
   ·exact .inl rfl
  ·cases hb:s.b
   ·exact .inr (d hb)
   ·exact .inl rfl
 ·rintro ⟨t,c,d⟩;rw [Sp.kY];rcases c with c|c
  ·exact .inl c
  ·rcases d with d|d
   ·exact .inr (.inl d)
   ·exact .inr (.inr (by grind))
abbrev Sd:=L3×Sp
def NZ:List Sd->L3->Sp->Option Sp
 | [],_,v=>some v
 | s::c,l,v=>if lR l v s.1 then NZ c l (iT l v s.1) else none
theorem vd (l:L3):lP l=l\/lP l=revL l:=by unfold lP;split;exact .inr rfl;exact .inl rfl
theorem rev_rev (l:L3):revL (revL l)=l:=by unfold revL;simp
theorem Gm (l:L3):bE.bJ (revL l)=(-(bE.bJ l).1,-(bE.bJ l).2):=by unfold bE.bJ revL;simp only [Rat.intCast_neg]
theorem VV {l:L3}(h:jO l=true):(bE.bJ l).1≠0\/(bE.bJ l).2≠0:=by
 have:=NX h;unfold bE.bJ;by_cases e:l.2.1=0
 ·right;intro a;have:(l.1:Rat)=0:=by grind
  exact NX h ⟨by exact_mod_cast this,e⟩
 ·left;show (l.2.1:Rat)≠0;exact_mod_cast e
theorem SK {l m:L3}(ol:jO l=true)(om:jO m=true){p:bE.V2}(h1:aI l p.1 p.2=0)(h2:aI m p.1 p.2=0)(hc:bE.cr (bE.bJ l) (bE.bJ m)=0):l=m\/l=revL m:=by
 have a:∀{x:L3},aI x p.1 p.2=0->aI (lP x) p.1 p.2=0:=fun {x} h=>by
  rcases vd x with e|e<;>rw [e]
  ·exact h
  ·rw [val_rev];grind
 have b:bE.cr (bE.bJ (lP l)) (bE.bJ (lP m))=0:=by
  unfold bE.cr at *;rcases vd l with e|e<;>rcases vd m with e'|e'<;>rw [e,e']<;>(try rw [Gm l])<;>(try rw [Gm m])<;>(try dsimp only)<;>grind
 have:=bE.H2 (J7 ol) (J7 om) (Gi l) (Gi m) (a h1) (a h2) b;rcases vd l with e|e<;>rcases vd m with e'|e'<;>rw [e,e'] at this
 ·exact .inl this
 ·exact .inr this
 ·right;rw [←this,rev_rev]
 ·left;have:=congrArg revL this;rwa [rev_rev,rev_rev] at this
theorem OQ {M:List L3}(hk:∀m∈M,jO m=true){q:bE.V2}(hq:bE.pos M q):bE.Xb M:=by
 intro l d m hm c p f g h;rcases SK (hk l d) (hk m hm) f g h with e|e
 ·exact c e
 ·have a:=hq l d;have b:=hq m hm;rw [e,val_rev] at a;grind
theorem Mr {l:L3}(h:Nz l){x y:Rat}(hp:aI l x y=0):∃t,x=j_ l t/\y=kH l t:=by
 have a:=Rat.mul_inv_cancel _ h.norm;unfold aI at hp;refine ⟨dz l x y,?_,?_⟩
 ·unfold j_ dz cF at *;grind
 ·unfold kH dz cF at *;grind
def fullSp:Sp:=⟨0,0,true,true⟩
theorem kj:fullSp.good:=⟨⟨fun _=>rfl,fun _=>rfl⟩,rfl⟩
structure tj (M:List L3) (c:List Sd):Prop where
 pos:∃q,bE.pos M q
 mem:∀s∈c,s.1∈M/\s.2.good/\∀t,s.2.inn t↔∀m∈M,m≠s.1->0<aI m (j_ s.1 t) (kH s.1 t)
 all:∀l∈M,bE.Es M l->∃v,(l,v)∈c
 asc:c.Pairwise fun s u=>bE.gw (bE.bJ s.1) (bE.bJ u.1)<0
def E4 (x:Sd):List Sd->List Sd
 | []=>[x]
 | s::r=>if bE.gw (bE.bJ s.1) (bE.bJ x.1)<0 then s::E4 x r else x::s::r
def Ux (c:List Sd)(l:L3):List Sd:=c.filterMap fun s=>if lR s.1 s.2 l then some (s.1,iT s.1 s.2 l) else none
def Ki:List Sd->L3->Int
 | [],_=>-1
 | s::c,l=>if (aI l (j_ s.1 s.2.Dv) (kH s.1 s.2.Dv)).num.sign≠0 then (aI l (j_ s.1 s.2.Dv) (kH s.1 s.2.Dv)).num.sign else if s.1=l then 1 else Ki c l
def QT (c:List Sd)(l:L3):Option (List Sd):=
 match NZ c l fullSp with
 | some v=>some (E4 (l,v) (Ux c l))
 | none=>if 0<Ki c l then some c else none
theorem Lz {a b d:bE.V2}(h:bE.gw a b<0)(h':bE.gw b d<0):bE.gw a d<0:=by
 by_cases q:bE.gw a d<0
 ·exact q
 ·exact absurd h (bE.uI _ _ _ q (bE.Gb _ _ h'))
section
variable {M:List L3} {c:List Sd} (h:tj M c) (hk:∀m ∈ M,jO m=true)
include h hk
theorem tj.int {p:bE.V2}(hp:∀s∈c,0<aI s.1 p.1 p.2):bE.pos M p:=by
 obtain ⟨q,a⟩:=h.pos;refine bE.ess (OQ hk a) (fun m hm=>VV (hk m hm)) a fun m hm he=>?_;obtain ⟨v,b⟩:=h.all m hm he;exact hp _ b
end
theorem tj.nil:tj [] []:=⟨⟨(0,0),fun m hm=>by cases hm⟩,(fun s a=>by cases a),(fun l b=>by cases b),List.Pairwise.nil⟩
def rf:List L3->List L3->List Sd->Option (List Sd)
 | [],_,c=>some c
 | l::r,M,c=>match QT c l with
  | some c'=>rf r (l::M) c'
  | none=>none
end Go.Proofs.Tryz
namespace Go.Proofs.Tryz
open Go.Eng Go.Big
theorem cross_dot (l m:L3):crossL l m=-dotL m l:=by unfold crossL dotL;grind
def Mv (l m:L3):Rat:=dz l (Px l m) (Py l m)
theorem Kh {l m:L3}(hl:Nz l)(h:crossL l m≠0):Mv l m=cutP m l:=by
 obtain ⟨v1,v2⟩:=PY h;obtain ⟨t,a,b⟩:=Mr hl v1;have c:Mv l m=t:=by unfold Mv;rw [a,b];exact (OE hl t).2
 rw [a,b,KW] at v2;rw [c];have d:dotL m l≠0:=fun e=>h (by rw [cross_dot,e];grind);have f:=Rat.mul_inv_cancel _ d;unfold cutP;grind
theorem Es.of {M N:List L3}(h:∀x,x∈M->x∈N){l:L3}(e:bE.Es N l):bE.Es M l:=by
 obtain ⟨p,a,b⟩:=e;exact ⟨p,a,fun m hm=>b m (h m hm)⟩
section
variable {M:List L3} {c:List Sd} (h:tj M c) (hk:∀m ∈ M,jO m=true)
include h hk
end
end Go.Proofs.Tryz
namespace Go.Proofs.Tryz
open Go.Eng Go.Big
section
variable {M:List L3} {c:List Sd} (h:tj M c) (hk:∀m ∈ M,jO m=true)
include h hk
end
end Go.Proofs.Tryz
namespace Go.Proofs.Tryz
open Go.Eng Go.Big
namespace bE
end bE
section
variable {M:List L3} {c:List Sd} (h:tj M c) (hk:∀m ∈ M,jO m=true)
include h hk
end
end Go.Proofs.Tryz
namespace Go.Proofs.Tryz
open Go.Eng Go.Big
namespace bE
end bE
section
variable {M:List L3} {c:List Sd} (h:tj M c) (hk:∀m ∈ M,jO m=true)
include h hk
end
end Go.Proofs.Tryz
namespace Go.Proofs.Tryz
open Go.Eng Go.Big
section
variable {M:List L3} {c:List Sd} (h:tj M c) (hk:∀m ∈ M,jO m=true) (hb:∀s ∈ c,s.2.a=false/\s.2.b=false)
include h hk hb
end
end Go.Proofs.Tryz
namespace Go.Proofs.Tryz
open Go.Eng Go.Big
section
variable {M:List L3} {c:List Sd} (h:tj M c) (hk:∀m ∈ M,jO m=true) (hb:∀s ∈ c,s.2.a=false/\s.2.b=false)
include h hk hb
end
end Go.Proofs.Tryz
namespace Go.Proofs.Tryz
open Go.Eng Go.Big
theorem dot_rev (l m:L3):dotL (revL l) m=-dotL l m:=by unfold dotL revL;simp only [Rat.intCast_neg];grind
theorem LC (l m:L3):qS (revL l) m=-qS l m:=by unfold qS;exact val_rev ..
theorem cutP_rev {l m:L3}(h:dotL l m≠0):cutP (revL l) m=cutP l m:=by
 have a:=Rat.mul_inv_cancel _ h;have b:=Rat.mul_inv_cancel _ (show -dotL l m≠0 by grind);unfold cutP;rw [dot_rev,LC];grind
section
variable {M:List L3} {c:List Sd} (h:tj M c) (hk:∀m ∈ M,jO m=true) (hb:∀s ∈ c,s.2.a=false/\s.2.b=false)
include h hk hb
end
end Go.Proofs.Tryz
namespace Go.Proofs.Tryz
open Go.Eng Go.Big
section
variable {M:List L3} {c:List Sd} (h:tj M c) (hk:∀m ∈ M,jO m=true)
include h hk
end
end Go.Proofs.Tryz
namespace Go.Proofs.Tryz
open Go.Eng Go.Big
theorem IJ:∀(L:List Rat) {lo hi:Rat},lo<hi->∃t,lo<t/\t<hi/\∀r∈L,t≠r
 | [],lo,hi,h=>⟨(lo+hi) / 2,by grind,by grind,(fun r hr=>by cases hr)⟩
 | r::L,lo,hi,h=>by
  by_cases c:lo<r/\r<hi
  ·obtain ⟨t,h1,h2,h3⟩:=IJ L c.1;refine ⟨t,h1,by grind,fun x a=>?_⟩;rcases List.mem_cons.1 a with rfl|a
   ·grind
   ·exact h3 x a
  ·obtain ⟨t,h1,h2,h3⟩:=IJ L h;refine ⟨t,h1,h2,fun x a=>?_⟩;rcases List.mem_cons.1 a with rfl|a
   ·intro e;subst e;exact c ⟨h1,h2⟩
   ·exact h3 x a
theorem Jl {s:Sp}(h:s.good):∃lo hi,lo<hi/\∀t,lo<t->t<hi->s.inn t:=by
 obtain ⟨t,e⟩:=LV.1 h.2;obtain ⟨lo,hi,a,b⟩:=s;unfold Sp.inn at *;dsimp only at *;cases a<;>cases b<;>simp at e ⊢
 ·exact ⟨lo,hi,by grind,fun t c d=>⟨c,d⟩⟩
 ·exact ⟨lo,lo+1,by grind,fun t c d=>c⟩
 ·exact ⟨hi-1,hi,by grind,fun t c d=>d⟩
 ·exact ⟨0,1,by decide⟩
end Go.Proofs.Tryz
