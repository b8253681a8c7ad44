import Derived.Test.YtdhlkpfmlimjfaaGreatDoorR15
import Derived.Test.YtdhlkpfmlimjfaaGreatDoorR13
import Derived.Test.YtdhlkpfmlimjfaaGreatDoorR12
import Derived.Test.YtdhlkpfmlimjfaaGreatDoorR8
import Derived.Test.YtdhlkpfmlimjfaaGreatDoorR16
import Derived.Test.YtdhlkpfmlimjfaaGreatDoorR10
import Derived.Test.YtdhlkpfmlimjfaaGreatDoorR6
import Derived.Test.YtdhlkpfmlimjfaaGreatDoorR14
import Derived.Test.YtdhlkpfmlimjfaaGreatDoorR9
set_option linter.unusedVariables false
open Go.IntKind (i64 u64 u32)
namespace Go.Proofs.Tryz
open Go.Eng Go.Big
theorem um {V:View}{v:Value}{p:Rat×Rat}(h:RPt V v p.1 p.2){k:Nat}(s1:Sz k p.1)(s2:Sz k p.2)(hk:k<=1099511627776) :
  Acts prog 215 #[v] V fun r V'=>r=.int .i64 (Sec.half p):=by
 obtain ⟨n,o,q,s,t,u,rfl,f,w⟩:=h
 refine sF n o q s t u V _ fun G j=>(eC (w.le j) s2 hk).mono ?_
 rintro r V2 x rfl
 have d:=j.trans x
 refine ⟨_,rfl,fun b H I=>?_,fun b=>⟨fun c J l=>(eC (f.le (d.trans l)) s1 hk).mono ?_,fun c=>⟨fun a y K=>?_,fun a z g=>(eC (f.le (d.trans g)) s1 hk).mono ?_⟩⟩⟩
 ·have b:p.2.num.sign>0:=of_decide_eq_true b
  unfold Sec.half;rw [if_pos (.inl b)]
 ·have b:¬p.2.num.sign>0:=of_decide_eq_false b
  have c:p.2.num.sign=0:=by simpa using c
  rintro r L A rfl
  refine ⟨_,rfl,fun a M N=>?_,fun a=>⟨fun i O P=>?_,fun i Q B=>(eC (f.le (d.trans (l.trans (A.trans B)))) s1 hk).mono ?_⟩⟩
  ·have a:p.1.num.sign>0:=of_decide_eq_true a
   unfold Sec.half;rw [if_pos (.inr ⟨c,a⟩)]
  ·have i:p.2.num.sign<0:=of_decide_eq_true i
   omega
  ·have a:¬p.1.num.sign>0:=of_decide_eq_false a
   have m:¬(p.2.num.sign>0\/p.2.num.sign=0/\p.1.num.sign>0):=by omega
   rintro r R S rfl
   refine ⟨_,rfl,fun e C D=>?_,fun e E F=>?_⟩
   ·have e:p.1.num.sign<0:=of_decide_eq_true e
    unfold Sec.half;rw [if_neg m,if_pos (.inr e)]
   ·have e:¬p.1.num.sign<0:=of_decide_eq_false e
    unfold Sec.half;rw [if_neg m,if_neg (by omega)]
 ·have b:¬p.2.num.sign>0:=of_decide_eq_false b
  have c:¬p.2.num.sign=0:=by simpa using c
  have a:p.2.num.sign<0:=of_decide_eq_true a
  unfold Sec.half;rw [if_neg (by omega),if_pos (.inl a)]
 ·have b:¬p.2.num.sign>0:=of_decide_eq_false b
  have c:¬p.2.num.sign=0:=by simpa using c
  have a:¬p.2.num.sign<0:=of_decide_eq_false a
  omega
theorem GY (q:Rat):-1<=q.num.sign/\q.num.sign<=1:=by
 rcases Int.lt_trichotomy q.num 0 with h|h|h
 ·rw [Int.sign_eq_neg_one_of_neg h];omega
 ·rw [h];decide
 ·rw [Int.sign_eq_one_of_pos h];omega
theorem xH {V:View}{v w:Value}{a b:Rat×Rat}(h:RPt V v a.1 a.2)(h':RPt V w b.1 b.2){k:Nat}(s1:Sz k a.1)(s2:Sz k a.2)(s3:Sz k b.1)(s4:Sz k b.2)(hk:4*k+3<274877906944) :
  Acts prog 170 #[v,w] V fun r V'=>r=.int .i64 (Sec.ang a b):=by
 have f:=h
 have c:=h'
 obtain ⟨n,o,q,p,s,u,rfl,-⟩:=h
 obtain ⟨x,y,t,z,A,B,rfl,-⟩:=h'
 refine wS n o q p s u x y t z A B V _ fun J d=>(um (f.le d) s1 s2 (by omega)).mono ?_
 rintro r V2 i rfl
 refine ⟨_,rfl,fun K j=>(um (c.le (d.trans (i.trans j))) s3 s4 (by omega)).mono ?_⟩
 rintro r L C rfl
 have l:=d.trans (i.trans (j.trans C))
 refine ⟨_,rfl,fun g M N=>?_,fun g=>⟨fun e O P=>?_,fun e Q m=>(qC (f.le (l.trans m)) (c.le (l.trans m)) s1 s2 s3 s4 hk).mono ?_⟩⟩
 ·unfold Sec.ang;rw [if_pos (of_decide_eq_true g)]
 ·unfold Sec.ang;rw [if_neg (of_decide_eq_false g),if_pos (of_decide_eq_true e)]
 ·rintro r R S gc
  have D:=gc
  obtain ⟨T,U,W,rfl⟩:=gc.shape
  refine ⟨_,_,_,rfl,fun X E=>(eC (D.le E) (ow s1 s2 s3 s4) (by omega)).mono ?_⟩
  rintro r F G rfl
  refine ⟨_,rfl,fun H I=>?_⟩
  have bd:=GY (a.1*b.2-a.2*b.1)
  rw [i64w (by omega)]
  unfold Sec.ang;rw [if_neg (of_decide_eq_false g),if_neg (of_decide_eq_false e)]
  show _=Value.int .i64 (-(a.1*b.2-a.2*b.1).num.sign)
  congr 1;omega
def HY:Rat×Rat:=(0,0)
def JT (a b:Rat×Rat):Int:=Sec.ang a b
def Fz (V:View)(v:Value)(c:Rat×Rat):Prop:=RPt V v c.1 c.2/\Sz 100000 c.1/\Sz 100000 c.2
theorem Fz.le {V V':View}{v:Value}{c:Rat×Rat}(h:Fz V v c)(l:V.Le V'):Fz V' v c:=⟨h.1.le l,h.2⟩
theorem Fz.shape {V:View}{v:Value}{c:Rat×Rat}(h:Fz V v c):∃(x y:Int)(p:OA)(xb yb:Int)(pb:OA),v=.agg #[.int .i64 x,.int .i64 y,.pointer p,.int .i64 xb,.int .i64 yb,.pointer pb]:=by
 obtain ⟨⟨a,b,p,d,f,q,e,-⟩,-⟩:=h;exact ⟨_,_,_,_,_,_,e⟩
def eP (a b:Rat×Rat):Bool:=Sec.eP a b
def my (p:Rat×Rat):Rat×Rat:=(p.1*(fy p.1 p.2)⁻¹,p.2*(fy p.1 p.2)⁻¹)
theorem Hy {V:View}{v:Value}{l:L3}(h:RLi V v l)(hb:Bd l):Acts prog 171 #[v] V fun r V'=>RPt V' r (Sec.dirL l).1 (Sec.dirL l).2:=jf h hb.szl.1 hb.szl.2.1 hb.szl.2.2 (by omega)
theorem wM {l:L3}(hb:Bd l):Sz 1000 (Sec.dirL l).1/\Sz 1000 (Sec.dirL l).2:=⟨hb.szl.2.1,hb.szl.1.neg⟩
theorem BM {V:View}{v lv:Value}{s:Sd}{l:L3}(h:RSd V v s)(hl:RLi V lv l)(hb:Bd l):Acts prog 169 #[v,lv] V fun r V'=>r=.int .i64 (Sec.ang (Sec.dirL s.1) (Sec.dirL l)):=by
 have a:=hl
 obtain ⟨_,_,_,_,_,_,_,_,_,_,_,_,_,_,_,rfl⟩:=h.shape
 obtain ⟨j,o,-,-⟩:=h.both
 have b:=h.2.1
 obtain ⟨_,_,_,_,_,_,_,_,_,rfl,-,-,-⟩:=hl
 refine lN _ _ _ _ _ _ _ _ _ _ _ _ _ _ _ _ _ _ _ _ _ _ _ _ _ _ V _ fun p d=>(Hy (j.le d) b).mono ?_
 rintro r V2 k g
 have m:=g
 obtain ⟨_,_,_,_,_,_,rfl,-,-⟩:=g
 refine ⟨_,_,_,_,_,_,rfl,fun q e=>(Hy (a.le (d.trans (k.trans e))) hb).mono ?_⟩
 rintro r t n f
 have c:=f
 obtain ⟨_,_,_,_,_,_,rfl,-,-⟩:=f
 refine ⟨_,_,_,_,_,_,rfl,fun u i=>(xH (m.le (e.trans (n.trans i))) (c.le i) (wM b).1 (wM b).2 (wM hb).1 (wM hb).2 (by omega)).mono ?_⟩
 rintro r w x rfl
 exact ⟨_,rfl,fun y z=>rfl⟩
theorem CT {i j:Nat}(hi:i<=1000000)(hj:j<=1000000):i64.wrap ((u64.wrap (i64.wrap ((i:Int)+(j:Int)))).fdiv (2^1))=(((i+j) / 2:Nat):Int):=by
 have a:i64.wrap ((i:Int)+(j:Int))=(i:Int)+(j:Int):=i64w (by omega)
 have b:u64.wrap ((i:Int)+(j:Int))=(i:Int)+(j:Int):=aJ (by omega)
 have:((i:Int)+(j:Int)).fdiv (2^1)=(((i+j) / 2:Nat):Int):=by
  rw [Int.fdiv_eq_ediv_of_nonneg _ (by decide)]
  omega
 rw [a,b,this,i64w (by omega)]
theorem Cw {V:View}{lb n c:Nat}{vs:List Value}{r:List Sd}{lv:Value}{l:L3}(hw:V.w.heap[lb]?=some (.cells vs.toArray 193 (0,0)))(hx:V.X lb)(hr:Row 17 RSd V vs r)(hn:n=r.length)(hs:n<=1000000)(hl:RLi V lv l)(hb:Bd l)
  (asc:r.Pairwise fun s u=>Sec.ang (Sec.dirL s.1) (Sec.dirL u.1)<0) :
  Acts prog 168 #[.slice (some ⟨lb,0,none⟩) n c,lv,.func (.func 169) #[] #[]] V fun q V'=>∃(i:Nat)(b:Bool),q=.tuple #[.int .i64 i,.bool b]/\i<=n/\(∀v:Sp,j9 (l,v) r=r.take i++(l,v)::r.drop i) /\
   V'.w.heap[lb]?=some (.cells vs.toArray 193 (0,0)):=by
 have k:=hl
 subst hn
 obtain ⟨_,_,_,_,_,_,_,_,_,rfl,-,-,-⟩:=hl
 refine gK lb _ c vs _ _ _ _ _ _ _ _ _ V _ hw hx ⟨fun z V'=>∃i j:Nat,z.1=(i:Int)/\z.2=(j:Int)/\Bs r l i j,fun z=>z.2.toNat-z.1.toNat,⟨(0,(r.length:Int)),by and_intros<;>rfl,0,r.length,rfl,rfl,Bs.start r l⟩,?_⟩
 rintro ⟨W,Y⟩ H o ⟨i,j,D,E,f⟩
 dsimp only at D E
 subst D E
 have ble:=f.le
 have Z:=f.len
 have m:=hr.le (V':=H) fun _ _ g=>RSd.le g o
 refine ⟨rfl,fun a=>?_,fun a=>?_⟩
 ·have a:(i:Int)<(j:Int):=of_decide_eq_true a
  dsimp only
  rw [CT (by omega) (by omega)]
  have p:(i+j) / 2<j:=by omega
  have I:i<=(i+j) / 2:=by omega
  generalize (i+j) / 2=h at *
  have t:h<r.length:=by omega
  have w:i64.wrap ((h:Int)+1)=((h+1:Nat):Int):=by rw [i64w (by omega)];rfl
  rw [Int.toNat_natCast,w,Nat.zero_add]
  obtain ⟨J,K,L,M,N,O,P,Q,R,b1,b2,b3,b4,S,T,x,y,d⟩:=B9 m t
  refine ⟨by omega,⟨by omega,by omega⟩,_,_,_,_,_,_,_,_,_,_,_,_,_,_,_,_,_,⟨x,y⟩,fun V2 F=>(BM (d.le F) (k.le (o.trans F)) hb).mono ?_⟩
  rintro q V3 l3 rfl
  refine ⟨_,rfl,fun A=>⟨(((h+1:Nat):Int),(j:Int)),by dsimp only;omega,by and_intros<;>rfl,h+1,j,rfl,rfl,f.up asc p t (of_decide_eq_true A)⟩,fun A=>⟨((i:Int),(h:Int)),by dsimp only;omega,by and_intros<;>rfl,i,h,rfl,rfl,f.down I t (of_decide_eq_false A)⟩⟩
 ·have a:¬(i:Int)<(j:Int):=of_decide_eq_false a
  obtain rfl:i=j:=by omega
  dsimp only
  refine ⟨fun e=>?_,fun e V7 l7 B=>⟨i,false,rfl,by omega,fun v=>f.done v,B⟩⟩
  have e:(i:Int)<(r.length:Int):=of_decide_eq_true e
  have C:i<r.length:=by omega
  rw [Int.toNat_natCast,Nat.zero_add]
  obtain ⟨J,K,L,M,N,O,P,Q,R,b1,b2,b3,b4,S,T,x,y,d⟩:=B9 m C
  refine ⟨⟨by omega,by omega⟩,_,_,_,_,_,_,_,_,_,_,_,_,_,_,_,_,_,⟨x,y⟩,fun V4 G=>(BM (d.le G) (k.le (o.trans G)) hb).mono ?_⟩
  rintro q V5 l5 rfl
  exact ⟨_,rfl,fun V6 l6 U=>⟨i,_,rfl,by omega,fun v=>f.done v,U⟩⟩
theorem le_moved {V V':View}{P:Prop}{b:Nat}(l:V.Le V')(h:P->V.w.heap.size<=b\/V.H b):V.Le (V'.shut.hideG P b):=fun x o a=>by
 have c:=l x o a
 refine ⟨fun d=>d.elim c.1 ?_,c.2⟩
 rintro ⟨e,rfl,-⟩
 rcases h e with h|h
 ·have:=(Array.getElem?_eq_some_iff.1 a.2).1
  omega
 ·exact a.1 h
theorem CJ {c:List Sd}{l:L3}{i:Nat}(hi:i<c.length):jK (c.take (i+1)) l=jK (c.take i) l++if eH c[i].1 c[i].2 l=true then [(c[i].1,eI c[i].1 c[i].2 l)] else []:=by
 unfold jK
 rw [List.take_add_one,List.getElem?_eq_getElem hi,List.filterMap_append]
 congr 1
 show List.filterMap _ [c[i]]=_
 by_cases h:eH c[i].1 c[i].2 l=true
 ·simp [h]
 ·simp [h]
theorem qM (c:List Sd)(l:L3):(jK c l).length<=c.length:=List.length_filterMap_le ..
theorem Ap {c:List Sd}{l:L3}{v:Sp}(h:cq c l fullSp=some v):clipC c l=some (j9 (l,v) (jK c l)):=by unfold clipC;rw [h]
theorem Ao {c:List Sd}{l:L3}(h:cq c l fullSp=none):clipC c l=if 0<dw c l then some c else none:=by unfold clipC;rw [h]
set_option maxHeartbeats 1000000 in
theorem c_Cell_Clip {V:View}{cp:OA}{cn cc:Nat}{c:List Sd}{lv:Value}{l:L3}(h:Lst 17 RSd V cp cn c)(hl:RLi V lv l)(hb:Bd l)(hn:c.length<=100000)(asc:c.Pairwise fun s u=>Sec.ang (Sec.dirL s.1) (Sec.dirL u.1)<0) :
  Acts prog 133 #[.slice cp cn cc,lv] V fun r V'=>∃q m e,r=.tuple #[.slice q m e,.bool (clipC c l).isSome]/\(∀c',clipC c l=some c'->Lst 17 RSd V' q m c'/\(cn<=cc->m<=e)):=by
 have f:=hl
 have h0:=h
 obtain rfl:=h.len
 obtain ⟨_,_,_,_,_,_,_,_,_,rfl,-,-,-⟩:=hl
 refine oa cp _ cc _ _ _ _ _ _ _ _ _ V _ fun V1 T=>(oF (h.le T fun _ _ g=>RSd.le g T) (f.le T) hb (by omega)).mono ?_
 rintro r V2 l2 ⟨w,rfl,gv,sv⟩
 have O9:=gv
 obtain ⟨_,_,_,_,_,_,rfl,-,-⟩:=gv
 have I:=T.trans l2
 refine ⟨_,_,_,_,_,_,_,_,_,rfl,fun B V3 U=>(vD (h0.le (I.trans U) fun _ _ g=>RSd.le g (I.trans U)) (f.le (I.trans U)) hb (by omega)).mono ?_,fun B=>?_⟩
 ·have B:cq c l fullSp=none:=by simpa using B
  rintro r V4 l4 rfl
  have e1:Jn c l=dw c l:=by unfold Jn;rw [B];rfl
  have J:=Ao B
  refine ⟨_,rfl,fun V5 l5=>⟨cp,c.length,cc,?_,fun c' e=>?_⟩⟩
  ·rw [e1,J]
   by_cases W:0<dw c l
   ·rw [if_pos W,decide_eq_true W];rfl
   ·rw [if_neg W,decide_eq_false W];rfl
  ·rw [J] at e
   split at e
   ·cases e
    have L5:=I.trans (U.trans (l4.trans l5))
    exact ⟨h0.le L5 fun _ _ g=>RSd.le g L5,id⟩
   ·cases e
 have B:(cq c l fullSp).isSome=true:=by simpa using B
 obtain ⟨v,ev⟩:=Option.isSome_iff_exists.1 B
 rw [ev] at O9 sv ⊢
 have J:=Ap ev
 have w1:i64.wrap ((c.length:Int)+1)=((c.length+1:Nat):Int):=by rw [i64w (by omega)];rfl
 rw [w1,Int.toNat_natCast]
 refine ⟨by omega,by omega,by omega,fun z V'=>∃i:Nat,z.2.2.2=(i:Int)/\i<=c.length/\GR 17 RSd V' z.1 z.2.1 z.2.2.1 (jK (c.take i) l)/\z.2.1≠0,fun z=>c.length-z.2.2.2.toNat,
  ⟨(0,c.length+1,lU (c.length+1) [.int .i64 0,.int .i64 0,.pointer none,.int .i64 0,.int .i64 0,.pointer none,.int .i64 0,.int .i64 0,.pointer none,.int .i64 0,.int .i64 0,.pointer none,.int .i64 0,.int .i64 0,.pointer none,.bool false,.bool false],0),by and_intros<;>first|rfl|omega,0,rfl,Nat.zero_le _,⟨rfl,Nat.zero_le _,?_,Row.nil⟩,by dsimp only;omega⟩,?_⟩
 ·show _<=(List.replicate (c.length+1) _).flatten.length
  rw [List.length_flatten,List.map_replicate,List.sum_replicate_nat]
  exact Nat.le_refl _
 rintro ⟨D,z2,vs,z4⟩ V6 l6 ⟨i,e4,c4,t,E⟩
 dsimp only at e4 t E
 subst e4
 have X:=I.trans l6
 have H:=t.len
 have F:=t.le
 have K:=t.cap
 try dsimp only at H F K
 have O8:=qM (c.take i) l
 rw [List.length_take] at O8
 refine ⟨rfl,fun j=>?_,fun j=>⟨fun d=>?_,fun d x Y bk g1 g2=>?_⟩⟩
 ·have j:(i:Int)<c.length:=of_decide_eq_true j
  have y:i<c.length:=by omega
  have w:i64.wrap ((i:Int)+1)=((i+1:Nat):Int):=by rw [i64w (by omega)];rfl
  dsimp only
  rw [Int.toNat_natCast,w]
  obtain ⟨ps,a1,a2,a3,a4,a5,a6,a7,a8,a9,b1,b2,b3,b4,b5,b6,a,ha,k0,Z,k2,k3,k4,k5,k6,k7,k8,k9,a0,b0,b7,b8,b9,c0,c1,hr⟩:=lst_rsd (h0.le X fun _ _ g=>RSd.le g X) y
  obtain ⟨rl,ri,-,-⟩:=hr.both
  have L:=hr.2
  have ct:=CJ (l:=l) y
  generalize c[i]=S at *
  refine ⟨ps,⟨by omega,by omega⟩,_,_,_,_,_,_,_,_,_,_,_,_,_,_,_,_,_,a,ha,k0,Z,k2,k3,k4,k5,k6,k7,k8,k9,a0,b0,b7,b8,b9,c0,c1,fun V7 M=>(xF (rl.le M) (ri.le M) (f.le (X.trans M)) (k:=100000) (L.1.szl.up (by omega)) L.2 (hb.szl.up (by omega)) (by omega)).mono ?_⟩
  rintro r V8 l8 ⟨w8,rfl,g⟩
  have g0:=g
  obtain ⟨_,_,_,_,_,_,rfl,-,-⟩:=g
  have Pp:=t.mono (V':=V8) fun _ _ g=>RSd.le g (M.trans l8)
  refine ⟨_,_,_,_,_,_,_,_,_,rfl,fun G=>⟨by omega,F,K,rfl,ER,fun sp c' h1 h2=>⟨(D+1,c',_,((i+1:Nat):Int)),by dsimp only;omega,by and_intros<;>rfl,i+1,rfl,y,?_,by dsimp only;omega⟩⟩,fun G=>⟨(D,z2,vs,((i+1:Nat):Int)),by dsimp only;omega,by and_intros<;>rfl,i+1,rfl,y,?_,E⟩⟩
  ·have G:eH S.1 S.2 l=true:=G
   dsimp only
   rw [ct,if_pos G]
   exact Pp.snoc (a:=(S.1,eI S.1 S.2 l)) rfl ⟨⟨_,_,_,_,_,_,_,_,_,_,_,_,_,_,_,rfl,rl.le (M.trans l8),g0⟩,L.1,Ch L.1.szl hb.szl L.2 (by omega)⟩ (by decide) h1 h2
  ·have G:¬eH S.1 S.2 l=true:=by rw [show eH S.1 S.2 l=false from G];exact Bool.false_ne_true
   dsimp only
   rw [ct,if_neg G,List.append_nil]
   exact Pp
 ·have d:vs=[]:=d
  rw [d] at K
  simp at K
  omega
 have j:¬(i:Int)<c.length:=of_decide_eq_false j
 obtain rfl:i=c.length:=by omega
 rw [List.take_length] at t H
 have O8:=qM c l
 have d:vs≠[]:=d
 have L8:∀b,mA b z2=some ⟨b,0,none⟩:=fun b=>by unfold mA;rw [if_neg E]
 dsimp only
 rw [L8]
 have DC:=X.trans Y
 refine (Cw (V:=x.lend [vb vs x.w.heap.size bk]) (r:=jK c l) (l:=l) (g1 d) ⟨by simp [vb_ne d],g2 d⟩ (t.row.le fun _ _ g=>RSd.le g fun b o h=>Y b o h) H (by omega) (RLi.le (V:=V) (V':=x.lend _) f fun b o h=>DC b o h) hb (xW asc)).mono ?_
 rintro r c5 en ⟨at_,fb,rfl,c2,N,e5⟩
 refine ⟨_,_,rfl,d,vs,d,e5,fun C dB A O Z k2 k3 k4 k5=>?_⟩
 rw [L8]
 have p:x.Le C:=fun b o h=>dB b o (en b o h)
 have c6:C.w.heap.size>A:=(Array.getElem?_eq_some_iff.1 (Z d)).1
 have Ij:Row 17 RSd C vs (jK c l):=t.row.le fun _ _ g=>RSd.le g (Y.trans p)
 have Q:∀u∈(vs.take (D*17)).drop (at_*17),u.oneCell'=true:=fun u hu=>by
  obtain ⟨m,hm,e⟩:=List.mem_iff_getElem.1 (List.mem_of_mem_drop hu)
  have R:m<(jK c l).length*17:=by rw [List.length_take,H] at hm;omega
  have:=List.getElem?_eq_getElem hm
  rw [e,List.getElem?_take,if_pos (by rw [H];exact R)] at this
  exact row_one_cell t.row (by decide) (fun xs _=>GW xs) R this
 refine (DU (V:=C.lend [vb vs C.w.heap.size A,O]) (ob:=A) (vb:=O) (n:=D) (c:=z2) (i:=at_) (vs:=vs) (xs:=[_,_,_,_,_,_,_,_,_,_,_,_,_,_,_,_,_]) (Z d) ⟨by simp [vb_ne d],k2 d⟩ k3 (k5 d) c2 F (by omega) K rfl Q ER).mono ?_
 rintro r oB df ⟨q,c',sp,rfl,f1,f2,f3,f4,f5⟩
 have c3:C.w.heap.size<=q\/(vs≠[]/\q=A):=f2.imp id fun e=>⟨d,e⟩
 refine ⟨q,_,fun _=>f1,fun _=>c3,some ⟨q,0,none⟩,D+1,c',?_,_,_,_,_,_,_,_,_,_,_,_,_,_,_,_,_,_,f5,fun qj eQ MB m1=>⟨mA MB c',D+1,c',?_,fun c7 e=>?_⟩⟩
 ·unfold mA;rw [if_neg (by omega)]
 ·rw [J];rfl
 ·rw [J] at e
  obtain rfl:=Option.some.inj e
  have Ew:C.Le qj:=fun b o hx=>eQ b o (le_moved (V:=C.lend _) (V':=oB) (P:=_) (b:=q) df (fun _=>f2.elim .inl fun e=>.inr (by rw [e];exact k2 d)) b o hx)
  have hR:=A9 (sp:=sp) (Ij.le fun _ _ g=>RSd.le g Ew) (k:=at_) (by omega) (xs:=[_,_,_,_,_,_,_,_,_,_,_,_,_,_,_,_,_]) (a:=(l,v)) rfl ⟨⟨_,_,_,_,_,_,_,_,_,_,_,_,_,_,_,rfl,f.le (DC.trans (p.trans Ew)),O9.le (l6.trans (Y.trans (p.trans Ew)))⟩,hb,sv⟩ (by decide)
  rw [N v]
  have hlen:D+1=((jK c l).take at_++(l,v)::(jK c l).drop at_).length:=by
   rw [List.length_append,List.length_cons,List.length_take,List.length_drop];omega
  rw [hlen]
  rw [←H] at hR
  exact ⟨Lst.of_mrow m1 hR (by decide) (by rw [←hlen];exact f3),fun _=>by rw [←hlen];exact f3⟩
def Mp (k:Nat)(V:View)(v:Value)(c:Rat×Rat):Prop:=RPt V v c.1 c.2/\Sz k c.1/\Sz k c.2
theorem Mp.le {k:Nat}{V V':View}{v:Value}{c:Rat×Rat}(h:Mp k V v c)(l:V.Le V'):Mp k V' v c:=⟨h.1.le l,h.2⟩
end Go.Proofs.Tryz
namespace Go.Proofs.Tryz
open Go.Eng
set_option maxRecDepth 100000
end Go.Proofs.Tryz
namespace Go.Proofs.Tryz
open Go.Eng Go.Big
def RLv (V:View)(v:Value)(l:L3):Prop:=RL V v l.1 l.2.1 l.2.2
theorem RLv.le {V V':View}{v:Value}{l:L3}(h:RLv V v l)(e:V.Le V'):RLv V' v l:=RL.le h e
theorem rlv_shape {V:View}{v:Value}{l:L3}(h:RLv V v l):∃(b1:Bool)(p1:OA)(n1 c1:Nat)(b2:Bool)(p2:OA)(n2 c2:Nat)(b3:Bool)(p3:OA)(n3 c3:Nat),v=.agg #[.bool b1,.slice p1 n1 c1,.bool b2,.slice p2 n2 c2,.bool b3,.slice p3 n3 c3]:=by
 obtain ⟨_,_,_,_,_,_,_,_,_,e,-⟩:=h;exact ⟨_,_,_,_,_,_,_,_,_,_,_,_,e⟩
theorem one6 {b:Bool}{p:OA}{n c:Nat}{b':Bool}{p':OA}{n' c':Nat}{b'':Bool}{p'':OA}{n'' c'':Nat}:∀v∈([.bool b,.slice p n c,.bool b',.slice p' n' c',.bool b'',.slice p'' n'' c'']:List Value),v.oneCell'=true:=by
 intro v hm
 simp only [List.mem_cons,List.not_mem_nil,or_false] at hm
 rcases hm with rfl|rfl|rfl|rfl|rfl|rfl<;>rfl
theorem yy (x:Sd):∀r:List Sd,(j9 x r).length=r.length+1
 | []=>rfl
 | s::r=>by
  unfold j9
  split
  ·rw [List.length_cons,yy x r,List.length_cons]
  ·rfl
theorem clipC_len {c c':List Sd}{l:L3}(e:clipC c l=some c'):c'.length<=c.length+1:=by
 unfold clipC at e
 split at e
 ·cases e
  rw [yy]
  have:=qM c l
  omega
 ·split at e
  ·cases e;omega
  ·cases e
theorem c_Cell_API {V:View}{p:OA}{n c:Nat}{cs:List Sd}(h:Lst 17 RSd V p n cs)(hn:cs.length<=100000) :
  Acts prog 41 #[.slice p n c] V fun r V'=>∃q m e,r=.agg #[.slice q m e]/\Lst 6 RLv V' q m (cs.map Prod.fst)/\m<=e:=by
 obtain rfl:=h.len
 refine pL p _ c V _ ⟨fun z V'=>∃j:Nat,z.1=(j:Int)/\j<=cs.length/\GR 6 RLv V' z.2.1 z.2.2.1 z.2.2.2 ((cs.map Prod.fst).take j),fun z=>cs.length-z.1.toNat,⟨(0,0,0,[]),by and_intros<;>rfl,0,rfl,Nat.zero_le _,GR.nil⟩,?_⟩
 rintro ⟨z1,D,z3,vs⟩ V1 v ⟨j,x,E,d⟩
 dsimp only at x d
 subst x
 have F:=d.len
 rw [List.length_take,List.length_map] at F
 refine ⟨rfl,fun b=>?_,fun b V4 G bk H=>?_⟩
 ·have b:(j:Int)<cs.length:=of_decide_eq_true b
  have f:j<cs.length:=by omega
  have w:i64.wrap ((j:Int)+1)=((j+1:Nat):Int):=by rw [i64w (by omega)];rfl
  dsimp only
  rw [Int.toNat_natCast,w]
  obtain ⟨I,a1,a2,a3,a4,a5,a6,a7,a8,a9,b1,b2,b3,b4,b5,b6,a,J,K,L,M,N,O,P,Q,R,S,T,i,k,l,o,s,t,u,y⟩:=lst_rsd (h.le v fun _ _ g=>RSd.le g v) f
  obtain ⟨U,ri,-,-⟩:=y.both
  obtain ⟨s1,s2,s3⟩:=y.2.1.sz
  refine ⟨I,⟨by omega,by omega⟩,_,_,_,_,_,_,_,_,_,_,_,_,_,_,_,_,_,a,J,K,L,M,N,O,P,Q,R,S,T,i,k,l,o,s,t,u,fun V2 A=>(Cy (U.le A) s1 s2 s3 (by omega)).mono ?_⟩
  rintro r B W X
  have C:RLv B r cs[j].1:=RLi.api X
  obtain ⟨_,_,_,_,_,_,_,_,_,_,_,_,rfl⟩:=rlv_shape C
  refine ⟨_,_,_,_,_,_,_,_,_,_,_,_,rfl,by omega,d.le,d.cap,rfl,one6,fun sp Y Z h2=>⟨(((j+1:Nat):Int),D+1,Y,_),by dsimp only;omega,by and_intros<;>rfl,j+1,rfl,f,?_⟩⟩
  dsimp only
  rw [List.take_add_one,List.getElem?_map,List.getElem?_eq_getElem f]
  exact (d.mono (V':=B) fun _ _ g=>RLv.le g (A.trans W)).snoc rfl C (by decide) Z h2
 ·have b:¬(j:Int)<cs.length:=of_decide_eq_false b
  obtain rfl:j=cs.length:=by omega
  rw [List.take_of_length_le (by rw [List.length_map];exact Nat.le_refl _)] at d
  obtain rfl:=d.len
  exact ⟨_,_,_,rfl,Lst.of_mrow H (d.row.le fun _ _ g=>RLv.le g G) (by decide) d.le,d.le⟩
end Go.Proofs.Tryz
namespace Go.Proofs.Tryz
open Go.Eng
set_option maxRecDepth 100000
end Go.Proofs.Tryz
namespace Go.Proofs.Tryz
open Go.Eng Go.Big
def partsC:Tr->List Sd->List (List Sd×Bool)
 | .leaf b,c=>[(c,b)]
 | .node l x y,c=>(match clipC c l with|some d=>partsC x d|none=>[])++(match clipC c (revL l) with|some d=>partsC y d|none=>[])
theorem c_Cell_Divide {V:View}{cp:OA}{cn cc:Nat}{c:List Sd}{lv:Value}{l:L3}(h:Lst 17 RSd V cp cn c)(hc:cn<=cc)(hl:RLi V lv l)(hb:Bd l)(hn:c.length<=100000)(asc:c.Pairwise fun s u=>Sec.ang (Sec.dirL s.1) (Sec.dirL u.1)<0) :
  Acts prog 177 #[.slice cp cn cc,lv] V fun r V'=>∃p n m q k e,r=.tuple #[.slice p n m,.slice q k e,.bool (clipC c l).isSome,.bool (clipC c (revL l)).isSome]/\(∀d,clipC c l=some d->Lst 17 RSd V' p n d/\n<=m)/\(∀d,clipC c (revL l)=some d->Lst 17 RSd V' q k d/\k<=e):=by
 have a:=hl
 obtain ⟨_,_,_,_,_,_,_,_,_,rfl,-,-,-⟩:=hl
 refine vc_geo_Cell_Divide cp cn cc _ _ _ _ _ _ _ _ _ V _ fun H j=>(c_Cell_Clip (h.le j fun _ _ g=>RSd.le g j) (a.le j) hb hn asc).mono ?_
 rintro r V2 C ⟨p,n,m,rfl,D⟩
 have b:=j.trans C
 refine ⟨_,_,_,_,rfl,fun I t=>(k_Reverse (a.le (b.trans t)) hb.szl (by omega)).mono ?_⟩
 rintro r E A B
 have v:RLi E r (revL l):=B
 obtain ⟨_,_,_,_,_,_,_,_,_,rfl,-,-,-⟩:=B
 have f:=b.trans (t.trans A)
 refine ⟨_,_,_,_,_,_,_,_,_,rfl,fun J o=>(c_Cell_Clip (h.le (f.trans o) fun _ _ g=>RSd.le g (f.trans o)) (v.le o) hb.rev hn asc).mono ?_⟩
 rintro r K F ⟨q,k,e,rfl,G⟩
 refine ⟨_,_,_,_,rfl,fun L w=>⟨_,_,_,_,_,_,rfl,fun d x=>?_,fun d x=>?_⟩⟩
 ·obtain ⟨y,z⟩:=D d x
  have i:=t.trans (A.trans (o.trans (F.trans w)))
  exact ⟨y.le i fun _ _ g=>RSd.le g i,z hc⟩
 ·obtain ⟨y,z⟩:=G d x
  exact ⟨y.le w fun _ _ g=>RSd.le g w,z hc⟩
def RPrt (V:View)(v:Value)(p:List Sd×Bool):Prop:=∃q n e b,v=.agg #[.slice q n e,.pointer b]/\Lst 17 RSd V q n p.1/\n<=e/\RT V b (.leaf p.2)
theorem RPrt.le {V V':View}{v:Value}{p:List Sd×Bool}(h:RPrt V v p)(l:V.Le V'):RPrt V' v p:=by
 obtain ⟨q,n,e,b,rfl,a,c,d⟩:=h
 exact ⟨q,n,e,b,rfl,a.le l fun _ _ g=>RSd.le g l,c,RT.le l d⟩
theorem one2p {q:OA}{n e:Nat}{b:OA}:∀v∈([.slice q n e,.pointer b]:List Value),v.oneCell'=true:=fun v a=>by
 simp only [List.mem_cons,List.not_mem_nil,or_false] at a
 rcases a with rfl|rfl<;>rfl
theorem c_bsp_parts:∀(t:Tr) {V:View} {q cp:OA} {cn cc lb n m:Nat} {c:List Sd} {M:List L3} {vs:List Value} {o:List (List Sd×Bool)},RT V q t->t.All Okb->CanC M c->(∀x∈M,okL x=true)->Lst 17 RSd V cp cn c->cn<=cc->c.length+t.size<=90000 ->
  (vs≠[]->V.w.heap[lb]?=some (.cells vs.toArray 115 (0,0)))->(vs≠[]->V.X lb)->GR 2 RPrt V n m vs o->(vs≠[]->0<n)->n+t.size+1<=1000000 ->
  Acts prog 138 #[.pointer q,.slice cp cn cc,.slice (mA lb m) n m] V fun r V'=>∃(bm:Nat)(vm:List Value)(n' c':Nat),(vm≠[]->V'.w.heap[bm]?=some (.cells vm.toArray 115 (0,0)))/\(vm≠[]->V.w.heap.size<=bm\/(vs≠[]/\bm=lb)) /\
   r=.slice (mA bm c') n' c'/\GR 2 RPrt (V'.hideG (vm≠[]) bm) n' c' vm (o++partsC t c)/\(vm≠[]->0<n')/\n'<=n+t.size+1:=by
 intro t
 have u:∀{A B:Prop},A\/B\/False->A\/B:=fun h=>h.imp id fun h=>h.elim id False.elim
 induction t with
 | leaf i=>
  intro V q cp cn cc lb n m c M vs o h ha hC Z hL N hlen hw O hg s hn
  refine vc_bsp_T_parts q cp cn cc lb n m vs V _ hw O fun V1 l1=>(c_bsp_IsLeaf (h.le l1)).mono ?_
  rintro r V2 l2 rfl
  have f:=l1.trans l2
  refine ⟨_,rfl,fun hl=>⟨by omega,hg.le,hg.cap,rfl,one2p,fun sp c3 k1 k2 V3 bk hle D E=>⟨bk,_,n+1,c3,D,fun h=>u (E h),rfl,?_,fun _=>by omega,by omega⟩⟩,(fun hl=>by cases hl)⟩
  exact (hg.mono fun _ _ g=>RPrt.le g (f.trans hle)).snoc (a:=(c,i)) rfl ⟨_,_,_,_,rfl,hL.le (f.trans hle) fun _ _ g=>RSd.le g (f.trans hle),N,RT.le (f.trans hle) h⟩ (by decide) k1 k2
 | node ln a b iha ihb=>
  intro V q cp cn cc lb n m c M vs o h ha hC Z hL N hlen hw O hg s hn
  refine vc_bsp_T_parts q cp cn cc lb n m vs V _ hw O fun V1 l1=>(c_bsp_IsLeaf (h.le l1)).mono ?_
  rintro r V2 l2 rfl
  have f:=l1.trans l2
  refine ⟨_,rfl,(fun hl=>by cases hl),fun _=>?_⟩
  obtain ⟨bb,u1,u2,u3,v1,v2,v3,w1,w2,w3,pl,pr,i,rfl,hb,c0,c5,a0⟩:=h.le f
  obtain ⟨⟨F,c6⟩,c7,a6⟩:=ha
  simp only [Tr.size] at hn hlen
  have k:∀{W:View},V2.Le W->∀j v,([.int .i64 u1,.int .i64 u2,.pointer u3,.int .i64 v1,.int .i64 v2,.pointer v3,.int .i64 w1,.int .i64 w2,.pointer w3,.pointer pl,.pointer pr,.bool i]:List Value)[j]?=some v->W.at ((⟨bb,0,none⟩:Addr).add j) v:=by
   intro W hW j v hv;rw [add_zero'];exact blk_at (xs:=[_,_,_,_,_,_,_,_,_,_,_,_]) (hW _ _ hb) hv
  have G:=View.Le.refl V2
  have a7:∀d,clipC c ln=some d->d.length+a.size<=90000:=fun d C=>by have:=clipC_len C;omega
  have I:∀d,clipC c (revL ln)=some d->d.length+b.size<=90000:=fun d C=>by have:=clipC_len C;omega
  have a8:∀d,clipC c ln=some d->CanC (ln::M) d:=(clip_ok hC Z F).1
  have J:∀d,clipC c (revL ln)=some d->CanC (revL ln::M) d:=(clip_ok hC Z (ok_rev F)).1
  have c8:∀x∈ln::M,okL x=true:=fun x O=>(List.mem_cons.1 O).elim (fun g=>g▸F) (Z x)
  have okB:∀x∈revL ln::M,okL x=true:=fun x O=>(List.mem_cons.1 O).elim (fun g=>g▸ok_rev F) (Z x)
  refine ⟨rfl,rfl,_,_,_,_,_,_,_,_,_,⟨bb,0,none⟩,rfl,k G 0 _ rfl,k G 1 _ rfl,k G 2 _ rfl,k G 3 _ rfl,k G 4 _ rfl,k G 5 _ rfl,k G 6 _ rfl,k G 7 _ rfl,k G 8 _ rfl,fun V4 l4=>(c_Cell_Divide (hL.le (f.trans l4) fun _ _ g=>RSd.le g (f.trans l4)) N (l:=ln) (c0.le l4) c6 (by omega) hC.asc).mono ?_⟩
  rintro r V5 l5 ⟨p1,n1,c1,p2,n2,c2,rfl,c9,a9⟩
  have p:=l4.trans l5
  have d0:=f.trans p
  have P:GR 2 RPrt V5 n m vs o:=hg.mono fun _ _ g=>RPrt.le g d0
  have eP:partsC (.node ln a b) c=(match clipC c ln with|some d=>partsC a d|none=>[])++(match clipC c (revL ln) with|some d=>partsC b d|none=>[]):=rfl
  rw [eP]
  refine ⟨_,_,_,_,_,_,_,_,rfl,fun b1=>?_,fun b1=>?_⟩
  ·obtain ⟨d,C⟩:=Option.isSome_iff_exists.1 b1
   obtain ⟨gd,gc⟩:=c9 d C
   rw [C]
   refine ⟨rfl,rfl,pl,rdc (p _ _ hb) 9 rfl,fun Q l6 bk f1 f2=>?_⟩
   refine (iha (V:=Q.lend [vb vs Q.w.heap.size bk]) (lb:=bk) (RT.le (V:=V2) (V':=Q.lend _) (fun b o h=>(p.trans l6) b o h) c5) c7 (a8 d C) c8 (gd.le (V:=V5) (V':=Q.lend _) (fun b o h=>l6 b o h) fun _ _ g=>RSd.le g fun b o h=>l6 b o h) gc (a7 d C) f1 (fun h=>⟨by simp [vb_ne h],f2 h⟩) (P.mono (V':=Q.lend _) fun _ _ g=>RPrt.le g fun b o h=>l6 b o h) s (by omega)).mono ?_
   rintro r V7 l7 ⟨bm,vm,n3,c3,a1,a2,rfl,a3,a4,a5⟩
   have d1:Q.Le (V7.shut.hideG (vm≠[]) bm):=le_moved (V:=Q) (V':=V7) (fun b o h=>l7 b o h) fun h=>(a2 h).imp id fun (g:vs≠[]/\bm=bk)=>by rw [g.2];exact f2 g.1
   have b0:=l6.trans d1
   have b5:GR 2 RPrt (V7.shut.hideG (vm≠[]) bm) n3 c3 vm (o++partsC a d):=a3.mono fun _ _ g=>RPrt.le g fun b o h=>h
   refine ⟨bm,vm,a1,a2,none,n3,c3,rfl,fun b2=>?_,fun b2 d2 b6 hle D E=>⟨b6,vm,n3,c3,D,fun h=>u (E h),rfl,?_,a4,by simp only [Tr.size];omega⟩⟩
   ·obtain ⟨R,e⟩:=Option.isSome_iff_exists.1 b2
    obtain ⟨S,T⟩:=a9 R e
    rw [e]
    refine ⟨rfl,rfl,pr,rdc ((p.trans b0) _ _ hb) 10 rfl,fun V8 l8 K f3 f4=>?_⟩
    have U:=b0.trans l8
    refine (ihb (V:=V8.lend [vb vm V8.w.heap.size K]) (lb:=K) (RT.le (V:=V2) (V':=V8.lend _) (fun b o h=>(p.trans U) b o h) a0) a6 (J R e) okB (S.le (V:=V5) (V':=V8.lend _) (fun b o h=>U b o h) fun _ _ g=>RSd.le g fun b o h=>U b o h) T (I R e) f3 (fun h=>⟨by simp [vb_ne h],f4 h⟩) (b5.mono (V':=V8.lend _) fun _ _ g=>RPrt.le g fun b o h=>l8 b o h) a4 (by omega)).mono ?_
    rintro r V9 l9 ⟨Y,y,n4,c4,x1,x2,rfl,x3,x4,x5⟩
    refine ⟨Y,y,x1,x2,none,n4,c4,rfl,fun d3 b7 hle D E=>⟨b7,y,n4,c4,D,fun h=>u (E h),rfl,?_,x4,by simp only [Tr.size];omega⟩⟩
    rw [←List.append_assoc]
    exact x3.mono fun _ _ g=>RPrt.le g fun b o h=>hle b o h
   ·have e:clipC c (revL ln)=none:=Option.isNone_iff_eq_none.1 (by rw [←Option.not_isSome,b2];rfl)
    rw [e]
    dsimp only
    rw [List.append_nil]
    exact b5.mono fun _ _ g=>RPrt.le g hle
  ·have C:clipC c ln=none:=Option.isNone_iff_eq_none.1 (by rw [←Option.not_isSome,b1];rfl)
   rw [C]
   refine ⟨fun b2=>?_,fun b2 d4 b8 hle D E=>⟨b8,vs,n,m,D,fun h=>u (E h),rfl,?_,s,by simp only [Tr.size];omega⟩⟩
   ·obtain ⟨R,e⟩:=Option.isSome_iff_exists.1 b2
    obtain ⟨S,T⟩:=a9 R e
    rw [e]
    refine ⟨rfl,rfl,pr,rdc (p _ _ hb) 10 rfl,fun z H L f3 f4=>?_⟩
    refine (ihb (V:=z.lend [vb vs z.w.heap.size L]) (lb:=L) (RT.le (V:=V2) (V':=z.lend _) (fun b o h=>(p.trans H) b o h) a0) a6 (J R e) okB (S.le (V:=V5) (V':=z.lend _) (fun b o h=>H b o h) fun _ _ g=>RSd.le g fun b o h=>H b o h) T (I R e) f3 (fun h=>⟨by simp [vb_ne h],f4 h⟩) (P.mono (V':=z.lend _) fun _ _ g=>RPrt.le g fun b o h=>H b o h) s (by omega)).mono ?_
    rintro r d5 d6 ⟨Y,y,n4,c4,x1,x2,rfl,x3,x4,x5⟩
    refine ⟨Y,y,x1,x2,none,n4,c4,rfl,fun d7 b9 hle D E=>⟨b9,y,n4,c4,D,fun h=>u (E h),rfl,?_,x4,by simp only [Tr.size];omega⟩⟩
    exact x3.mono fun _ _ g=>RPrt.le g fun b o h=>hle b o h
   ·have e:clipC c (revL ln)=none:=Option.isNone_iff_eq_none.1 (by rw [←Option.not_isSome,b2];rfl)
    rw [e]
    show GR 2 RPrt _ n m vs (o++([]++[]))
    rw [List.append_nil,List.append_nil]
    exact P.mono fun _ _ g=>RPrt.le g hle
theorem c_bsp_Parts {V:View}{q:OA}{t:Tr}(h:RT V q t)(ha:t.All Okb)(hs:t.size<=80000) :
  Acts prog 95 #[.pointer q] V fun r V'=>∃p n c,r=.slice p n c/\Lst 2 RPrt V' p n (partsC t []):=by
 refine vc_bsp_T_Parts q V _ fun e f=>(c_bsp_parts t (V:=e) (lb:=0) (vs:=[]) (o:=[]) (m:=0) (n:=0) (cp:=none) (cn:=0) (cc:=0) (c:=[]) (M:=[]) (h.le f) ha CanC.nil (fun x i=>by cases i) Lst.nil (Nat.le_refl _) (by simp;omega) (fun h=>absurd rfl h) (fun h=>absurd rfl h) GR.nil (fun h=>absurd rfl h) (by omega)).mono ?_
 rintro r V2 v ⟨j,vm,n,c,k,l,rfl,a,w,y⟩
 refine ⟨j,vm,k,fun h=>(l h).imp id fun g=>absurd rfl g.1,none,n,c,rfl,fun z s A u=>?_⟩
 have d:=a.len
 rw [List.nil_append] at a d
 rw [d]
 exact ⟨_,_,_,rfl,Lst.of_mrow u (a.row.le fun _ _ g=>RPrt.le g fun b o h=>s b o h) (by decide) (by rw [←d];exact a.le)⟩
theorem c_cells_parts {V:View}{v:Value}{root:Int}{l:List Nd}(hb:∀x∈l,Bd x.ln)(h:AT V v root l){y z:Value}(hy:Sent V 0 y)(hz:Sent V 1 z) :
  Acts prog 40 #[v] V fun r V'=>(ofT l root=none->r=.tuple #[.slice none 0 0,y])/\∀t,ofT l root=some t->(1024<t.depth->r=.tuple #[.slice none 0 0,z])/\(t.depth<=1024->∃p n c,r=.tuple #[.slice p n c,.nilIface]/\Lst 2 RPrt V' p n (partsC t [])):=by
 have A:=h
 obtain ⟨q,n,c,rfl,-⟩:=h
 refine vc_cells_parts root q n c V _ fun G m=>(c_bsp_Of' hb (A.le m)).mono ?_
 rintro r V2 B ⟨a,rfl,o⟩
 have d:=m.trans B
 refine ⟨_,_,rfl,fun g=>⟨y,⟨_,rfl,hy.le d⟩,fun H I=>?_⟩,fun g J s=>?_⟩
 ·have g:ofT l root=none:=by cases e:ofT l root with
   | none=>rfl
   | some t=>rw [e] at g;cases g
  exact ⟨fun _=>rfl,fun t b=>by rw [g] at b;cases b⟩
 ·cases e:ofT l root with
  | none=>rw [e] at g;cases g
  | some t=>
   have K:=ofT_size e
   have j:t.All Okb:=ofT_all (p:=Okb) (fun x u=>⟨ofT_okl e x u,hb x u⟩) e
   refine (c_bsp_Depth t ((o t e).le s) (by omega)).mono ?_
   rintro r L C rfl
   have f:=s.trans C
   refine ⟨_,rfl,fun i=>⟨z,⟨_,rfl,hz.le (d.trans f)⟩,fun M N=>⟨(fun k=>by cases k),fun D b=>?_⟩⟩,fun i O E=>(c_bsp_Parts ((o t e).le (f.trans E)) j (by omega)).mono ?_⟩
   ·cases b
    have i:=of_decide_eq_true i
    exact ⟨fun _=>rfl,fun k=>by omega⟩
   ·rintro r P Q ⟨p,n,c,rfl,F⟩
    refine ⟨_,_,_,rfl,fun R w=>⟨(fun k=>by cases k),fun D b=>?_⟩⟩
    cases b
    have i:=of_decide_eq_false i
    exact ⟨fun k=>by omega,fun _=>⟨_,_,_,rfl,F.le w fun _ _ g=>RPrt.le g w⟩⟩
theorem parts_len:∀{t:Tr} {c:List Sd},∀p∈partsC t c,p.1.length<=c.length+t.size
 | .leaf b,c,p,hp=>by
  unfold partsC at hp
  rw [List.mem_singleton.1 hp];simp
 | .node l a b,c,p,hp=>by
  unfold partsC at hp
  simp only [Tr.size]
  rcases List.mem_append.1 hp with hp|hp
  ·cases e:clipC c l with
   | some d=>rw [e] at hp;have:=parts_len p hp;have:=clipC_len e;omega
   | none=>rw [e] at hp;cases hp
  ·cases e:clipC c (revL l) with
   | some d=>rw [e] at hp;have:=parts_len p hp;have:=clipC_len e;omega
   | none=>rw [e] at hp;cases hp
theorem parts_count:∀{t:Tr} {c:List Sd},(partsC t c).length<=t.size+1
 | .leaf b,c=>by unfold partsC;simp
 | .node l a b,c=>by
  unfold partsC
  simp only [Tr.size]
  rw [List.length_append]
  have h1:(match clipC c l with|some d=>partsC a d|none=>[]).length<=a.size+1:=by
   cases clipC c l with
   | some d=>exact parts_count
   | none=>exact Nat.zero_le _
  have e:(match clipC c (revL l) with|some d=>partsC b d|none=>[]).length<=b.size+1:=by
   cases clipC c (revL l) with
   | some d=>exact parts_count
   | none=>exact Nat.zero_le _
  exact Nat.le_trans (Nat.add_le_add h1 e) (by omega)
theorem lst_prt {V:View}{p:OA}{n:Nat}{al:List (List Sd×Bool)}(h:Lst 2 RPrt V p n al){i:Nat}(hi:i<al.length) :
  p.isSome=true/\∃(q:OA)(m e:Nat)(b:OA)(a:Addr),addrAdd p (i*2)=some a/\V.at (a.add 0) (.slice q m e)/\V.at (a.add 1) (.pointer b)/\Lst 17 RSd V q m al[i].1/\m<=e/\RT V b (.leaf al[i].2):=by
 obtain ⟨f,c,xs,o,g,d⟩:=h.at_ i hi
 obtain ⟨q,m,e,b,ex,j,k,l⟩:=g
 have ex:=congrArg Array.toList (Value.agg.inj ex)
 dsimp only at ex
 subst ex
 refine ⟨?_,q,m,e,b,f,c,d 0 _ rfl,d 1 _ rfl,j,k,l⟩
 cases p with
 | none=>cases c
 | some a=>rfl
def RCl1 (V:View)(v:Value)(S:List L3):Prop:=∃p n c,v=.agg #[.slice p n c]/\Lst 6 RLv V p n S
theorem RCl1.le {V V':View}{v:Value}{S:List L3}(h:RCl1 V v S)(l:V.Le V'):RCl1 V' v S:=by
 obtain ⟨p,n,c,rfl,g⟩:=h;exact ⟨p,n,c,rfl,g.le l fun _ _ k=>RLv.le k l⟩
def RCode (_V:View)(v:Value)(b:Bool):Prop:=v=.agg #[.int .i64 (if b then -2 else -1)]
theorem c_cells_All {V:View}{v:Value}{root:Int}{l:List Nd}(hb:∀x∈l,Bd x.ln)(h:AT V v root l){y z:Value}(hy:Sent V 0 y)(hz:Sent V 1 z)(sy:SErr y)(sz:SErr z) :
  Acts prog 11 #[v] V fun r V'=>(ofT l root=none->r=.tuple #[.slice none 0 0,.slice none 0 0,y])/\∀t,ofT l root=some t->(1024<t.depth->r=.tuple #[.slice none 0 0,.slice none 0 0,z])/\(t.depth<=1024->∃p n c q m e,r=.tuple #[.slice p n c,.slice q m e,.nilIface]/\Lst 1 RCl1 V' p n ((partsC t []).map fun p=>p.1.map Prod.fst)/\Lst 1 RCode V' q m ((partsC t []).map Prod.snd)):=by
 have h0:=h
 obtain ⟨q,n,c,rfl,-⟩:=h
 have O:∀{y:Value},SErr y->IsIface y/\isNilI y=false:=fun h=>by obtain ⟨a,rfl⟩:=h;exact ⟨.inr ⟨_,_,rfl⟩,rfl⟩
 refine vc_cells_All root q n c V _ fun V1 Q=>(c_cells_parts hb (h0.le Q) (hy.le Q) (hz.le Q)).mono ?_
 rintro r V2 l2 ⟨h1,h2⟩
 have a5:=Q.trans l2
 cases e:ofT l root with
 | none=>
  obtain rfl:=h1 e
  exact ⟨_,_,_,_,rfl,(O sy).1,fun _ V3 l3=>⟨fun _=>rfl,fun t C=>by cases C⟩,fun B=>by rw [(O sy).2] at B;cases B⟩
 | some t=>
  obtain ⟨g1,g2⟩:=h2 t e
  by_cases hd:1024<t.depth
  ·obtain rfl:=g1 hd
   exact ⟨_,_,_,_,rfl,(O sz).1,fun _ V3 l3=>⟨(fun k=>by cases k),fun t' C=>by cases C;exact ⟨fun _=>rfl,fun k=>by omega⟩⟩,fun B=>by rw [(O sz).2] at B;cases B⟩
  ·obtain ⟨p,n',c',rfl,hL⟩:=g2 (by omega)
   have a6:=ofT_size e
   have a0:=parts_count (t:=t) (c:=[])
   have R:=parts_len (t:=t) (c:=[])
   obtain rfl:=hL.len
   refine ⟨_,_,_,_,rfl,.inl rfl,(fun B=>by cases B),fun _=>?_⟩
   generalize eA:partsC t []=A at *
   refine ⟨fun z V'=>∃j:Nat,z.2.2.2.2.2.2=(j:Int)/\j<=A.length/\GR 1 RCl1 V' z.1 z.2.1 z.2.2.1 ((A.take j).map fun p=>p.1.map Prod.fst)/\GR 1 RCode V' z.2.2.2.1 z.2.2.2.2.1 z.2.2.2.2.2.1 ((A.take j).map Prod.snd),fun z=>A.length-z.2.2.2.2.2.2.toNat,⟨(0,0,[],0,0,[],0),by and_intros<;>first|rfl|trivial,0,rfl,Nat.zero_le _,GR.nil,GR.nil⟩,?_⟩
   rintro ⟨D,w2,ws,E,x2,xs,w⟩ V4 l4 ⟨j,ej,a7,b,d⟩
   dsimp only at ej b d ⊢
   subst ej
   refine ⟨by trivial,fun f=>?_,fun f V9 l9 b1 b2 S k2=>⟨(fun k=>by cases k),fun t' C=>⟨fun k=>by cases C;omega,fun _=>?_⟩⟩⟩
   ·have f:(j:Int)<A.length:=of_decide_eq_true f
    have G:j<A.length:=by omega
    have wr:i64.wrap ((j:Int)+1)=((j+1:Nat):Int):=by rw [i64w (by omega)];rfl
    rw [wr,Int.toNat_natCast]
    obtain ⟨ps,pq,pm,pe,pb,ad,ha,k0,S,gl,a8,T⟩:=lst_prt (hL.le l4 fun _ _ g=>RPrt.le g l4) G
    have H:=R _ (List.getElem_mem G)
    have et:A.take (j+1)=A.take j++[A[j]]:=(List.take_append_getElem G).symm
    have la:=b.len
    have lb:=d.len
    rw [List.length_map,List.length_take] at la lb
    generalize A[j]=P at *
    obtain ⟨bb,c0,s,u,c3,c4,c5,c6,c7,c8,rr,rfl,U⟩:=T
    simp only [List.length_nil,Nat.zero_add] at H
    have call:∀{x:Int},x=(if P.2 then -2 else -1)->∀I,V4.Le I->Acts prog 41 #[.slice pq pm pe] I fun r F=>∃(q:OA)(m e:Nat),r=.agg #[.slice q m e]/\∀{i o:List Value} {s u:Nat},D+1<=s->s*1<=(D+1)*1+i.length->E+1<=u->u*1<=(E+1)*1+o.length->GR 1 RCl1 F (D+1) s (ws.take (D*1)++[.slice q m e]++i) ((A.take (j+1)).map fun p=>p.1.map Prod.fst)/\GR 1 RCode F (E+1) u (xs.take (E*1)++[.int .i64 x]++o) ((A.take (j+1)).map Prod.snd):=fun {x} hx I J=>by
     refine (c_Cell_API (gl.le J fun _ _ g=>RSd.le g J) (by omega)).mono ?_
     rintro r F l6 ⟨q,m,e,rfl,hq,-⟩
     have W:=J.trans l6
     refine ⟨q,m,e,rfl,fun {i o s u} K L M N=>?_⟩
     rw [et,List.map_append,List.map_append]
     exact ⟨(b.mono (V':=F) fun _ _ g=>RCl1.le g W).snoc (a:=P.1.map Prod.fst) rfl ⟨_,_,_,rfl,hq⟩ (by decide) K L,(d.mono (V':=F) fun _ _ g=>g).snoc (a:=P.2) rfl (by rw [hx];rfl) (by decide) M N⟩
    have o1:∀{q:OA} {m e:Nat},∀v∈([.slice q m e]:List Value),v.oneCell'=true:=fun v X=>by rw [List.mem_singleton.1 X];rfl
    have o2:∀{x:Int},∀v∈([.int .i64 x]:List Value),v.oneCell'=true:=fun v X=>by rw [List.mem_singleton.1 X];rfl
    refine ⟨ps,⟨by omega,by omega⟩,pq,pm,pe,_,ad,ha,k0,S,rfl,rfl,P.2,rdc U 11 rfl,fun Y I J=>(call (x:=-2) (by rw [Y];rfl) I J).mono ?_,fun Y V7 l7=>(call (x:=-1) (by rw [Y];rfl) V7 l7).mono ?_⟩
    ·rintro r F l6 ⟨q,m,e,rfl,Z⟩
     refine ⟨q,m,e,rfl,by omega,b.le,b.cap,rfl,o1,fun i s K L=>⟨by omega,d.le,d.cap,rfl,o2,fun o u M N=>⟨(D+1,s,_,E+1,u,_,((j+1:Nat):Int)),by dsimp only;omega,by and_intros<;>first|rfl|trivial,j+1,rfl,G,Z K L M N⟩⟩⟩
    ·rintro r V8 l8 ⟨q,m,e,rfl,Z⟩
     refine ⟨q,m,e,rfl,by omega,b.le,b.cap,rfl,o1,fun i s K L=>⟨by omega,d.le,d.cap,rfl,o2,fun o u M N=>⟨(D+1,s,_,E+1,u,_,((j+1:Nat):Int)),by dsimp only;omega,by and_intros<;>first|rfl|trivial,j+1,rfl,G,Z K L M N⟩⟩⟩
   ·have f:¬(j:Int)<A.length:=of_decide_eq_false f
    obtain rfl:j=A.length:=by omega
    rw [List.take_length] at b d
    cases C
    rw [eA]
    have e1:=b.len
    have e2:=d.len
    have f1:=b.le
    have f2:=d.le
    subst e1 e2
    exact ⟨_,_,_,_,_,_,rfl,Lst.of_mrow S (b.row.le fun _ _ g=>RCl1.le g l9) (by decide) f1,Lst.of_mrow k2 (d.row.le fun _ _ g=>g) (by decide) f2⟩
theorem ie {V:View}{y z:Value}(hy:Sent V 0 y)(hz:Sent V 1 z)(sy:SErr y)(sz:SErr z):Acts prog 19 #[] V fun r V'=>r=.bool true:=by
 refine sJ V _ fun D B=>?_
 have h:AT D (.agg #[.int .i64 (-2),.slice none 0 0]) (-2) []:=⟨none,0,0,rfl,rfl,Nat.le_refl _,⟨[],(fun i v h=>by simp at h),fun i d h=>by simp at h⟩,fun _=>rfl⟩
 refine (c_cells_All (l:=[]) (fun x E=>by cases E) h (hy.le B) (hz.le B) sy sz).mono ?_
 rintro r V2 P ⟨-,F⟩
 have e:ofT [] (-2)=some (.leaf true):=by decide
 obtain ⟨p,n,c,q,m,k,rfl,s,t⟩:=(F _ e).2 (by decide)
 have G:partsC (.leaf true) []=[([],true)]:=rfl
 rw [G] at s t
 have u:=s.len
 have w:=t.len
 obtain ⟨C,j,xs,Q,⟨H,I,J,ex,K⟩,L⟩:=s.at_ 0 (by simp)
 obtain ⟨b,g,R,S,o,M⟩:=t.at_ 0 (by simp)
 have ex:=congrArg Array.toList (Value.agg.inj ex)
 have o:=congrArg Array.toList (Value.agg.inj o)
 dsimp only at ex o
 subst ex o
 have A:=K.len
 have u:n=1:=u
 have w:m=1:=w
 have A:I=0:=A
 subst u w A
 have j:addrAdd p 0=some C:=j
 have g:addrAdd q 0=some b:=g
 have sp:p.isSome=true:=by
  cases p with
  | none=>cases j
  | some a=>rfl
 have N:q.isSome=true:=by
  cases q with
  | none=>cases g
  | some a=>rfl
 have O:b.add 0=b:=by
  cases q with
  | none=>cases g
  | some a=>
   have b1:a.add 0=b:=Option.some.inj g
   rw [←b1,lY]
 refine ⟨_,_,_,_,_,_,_,rfl,.inl rfl,fun _=>⟨fun _=>⟨sp,⟨by decide,by decide⟩,by rw [j];rfl,H,0,J,⟨C.add 0,by rw [j];rfl,L 0 _ rfl⟩,fun _=>⟨fun _=>⟨N,⟨by decide,by decide⟩,-2,⟨b,g,by have:=M 0 _ rfl;rw [O] at this;exact this⟩,fun T U=>rfl⟩,fun f=>by simp at f⟩,fun f=>by simp at f⟩,fun f=>by simp at f⟩,fun f=>by simp [isNilI] at f⟩
def inP (A:List (List Sd×Bool)):List (List L3):=(A.filter fun p=>p.2).map fun p=>p.1.map Prod.fst
theorem inP_succ {A:List (List Sd×Bool)}{j:Nat}(h:j<A.length):inP (A.take (j+1))=inP (A.take j)++(if A[j].2=true then [A[j].1.map Prod.fst] else []):=by
 unfold inP
 rw [←List.take_append_getElem h,List.filter_append,List.map_append]
 congr 1
 by_cases c:A[j].2=true
 ·rw [if_pos c,List.filter_cons_of_pos c];rfl
 ·rw [if_neg c,List.filter_cons_of_neg c];rfl
theorem inP_len (A:List (List Sd×Bool))(j:Nat):(inP (A.take j)).length<=j:=by
 unfold inP
 rw [List.length_map]
 have a:=List.length_filter_le (fun p:List Sd×Bool=>p.2) (A.take j)
 rw [List.length_take] at a
 omega
theorem c_cells_In {V:View}{v:Value}{root:Int}{l:List Nd}(hb:∀x∈l,Bd x.ln)(h:AT V v root l){y z:Value}(hy:Sent V 0 y)(hz:Sent V 1 z)(sy:SErr y)(sz:SErr z) :
  Acts prog 13 #[v] V fun r V'=>(ofT l root=none->r=.tuple #[.slice none 0 0,y])/\∀t,ofT l root=some t->(1024<t.depth->r=.tuple #[.slice none 0 0,z])/\(t.depth<=1024->∃p n c,r=.tuple #[.slice p n c,.nilIface]/\Lst 1 RCl1 V' p n (inP (partsC t []))):=by
 have R:=h
 obtain ⟨q,n,c,rfl,-⟩:=h
 have u:∀{y:Value},SErr y->IsIface y/\isNilI y=false:=fun h=>by obtain ⟨a,rfl⟩:=h;exact ⟨.inr ⟨_,_,rfl⟩,rfl⟩
 refine vc_cells_In root q n c V _ fun V1 B=>(c_cells_parts hb (R.le B) (hy.le B) (hz.le B)).mono ?_
 rintro r V2 S ⟨T,U⟩
 have W:=B.trans S
 cases e:ofT l root with
 | none=>
  obtain rfl:=T e
  exact ⟨_,_,_,_,rfl,(u sy).1,fun _ X Y=>⟨fun _=>rfl,fun t i=>by cases i⟩,fun f=>by rw [(u sy).2] at f;cases f⟩
 | some t=>
  obtain ⟨Z,g2⟩:=U t e
  by_cases hd:1024<t.depth
  ·obtain rfl:=Z hd
   exact ⟨_,_,_,_,rfl,(u sz).1,fun _ X Y=>⟨(fun k=>by cases k),fun t' i=>by cases i;exact ⟨fun _=>rfl,fun k=>by omega⟩⟩,fun f=>by rw [(u sz).2] at f;cases f⟩
  ·obtain ⟨p,n',c',rfl,J⟩:=g2 (by omega)
   have a0:=ofT_size e
   have K:=parts_count (t:=t) (c:=[])
   have C:=parts_len (t:=t) (c:=[])
   obtain rfl:=J.len
   refine ⟨_,_,_,_,rfl,.inl rfl,(fun f=>by cases f),fun _=>?_⟩
   generalize eA:partsC t []=A at *
   refine ⟨fun z V'=>∃j:Nat,z.2.2.2=(j:Int)/\j<=A.length/\GR 1 RCl1 V' z.1 z.2.1 z.2.2.1 (inP (A.take j)),fun z=>A.length-z.2.2.2.toNat,⟨(0,0,[],0),by and_intros<;>first|rfl|trivial,0,rfl,Nat.zero_le _,GR.nil⟩,?_⟩
   rintro ⟨L,w2,ws,w⟩ V4 M ⟨j,N,a3,d⟩
   dsimp only at N d ⊢
   subst N
   refine ⟨by trivial,fun b=>?_,fun b V9 l9 b1 D=>⟨(fun k=>by cases k),fun t' i=>⟨fun k=>by cases i;omega,fun _=>?_⟩⟩⟩
   ·have b:(j:Int)<A.length:=of_decide_eq_true b
    have o:j<A.length:=by omega
    have wr:i64.wrap ((j:Int)+1)=((j+1:Nat):Int):=by rw [i64w (by omega)];rfl
    rw [wr,Int.toNat_natCast]
    obtain ⟨ps,pq,pm,pe,pb,ad,ha,k0,D,gl,a4,E⟩:=lst_prt (J.le M fun _ _ g=>RPrt.le g M) o
    have s:=C _ (List.getElem_mem o)
    have O:=inP_succ o
    have la:=d.len
    have lb:=inP_len A j
    generalize A[j]=P at *
    obtain ⟨bb,c0,Q,c2,c3,c4,c5,c6,c7,c8,rr,rfl,F⟩:=E
    simp only [List.length_nil,Nat.zero_add] at s
    have o1:∀{q:OA} {m e:Nat},∀v∈([.slice q m e]:List Value),v.oneCell'=true:=fun v hv=>by rw [List.mem_singleton.1 hv];rfl
    refine ⟨ps,⟨by omega,by omega⟩,pq,pm,pe,_,ad,ha,k0,D,rfl,rfl,P.2,rdc F 11 rfl,fun G V5 H=>(c_Cell_API (gl.le H fun _ _ g=>RSd.le g H) (by omega)).mono ?_,fun G=>⟨(L,w2,ws,((j+1:Nat):Int)),by dsimp only;omega,by and_intros<;>first|rfl|trivial,j+1,rfl,o,?_⟩⟩
    ·rintro r V6 l6 ⟨q,m,e,rfl,hq,-⟩
     have I:=H.trans l6
     refine ⟨q,m,e,rfl,by omega,d.le,d.cap,rfl,o1,fun a5 Q a1 a2=>⟨(L+1,Q,_,((j+1:Nat):Int)),by dsimp only;omega,by and_intros<;>first|rfl|trivial,j+1,rfl,o,?_⟩⟩
     dsimp only
     rw [O,if_pos G]
     exact (d.mono (V':=V6) fun _ _ g=>RCl1.le g I).snoc (a:=P.1.map Prod.fst) rfl ⟨_,_,_,rfl,hq⟩ (by decide) a1 a2
    ·dsimp only
     rw [O,if_neg (by rw [G];exact Bool.false_ne_true),List.append_nil]
     exact d
   ·have b:¬(j:Int)<A.length:=of_decide_eq_false b
    obtain rfl:j=A.length:=by omega
    rw [List.take_length] at d
    cases i
    rw [eA]
    have e1:=d.len
    have f1:=d.le
    subst e1
    exact ⟨_,_,_,rfl,Lst.of_mrow D (d.row.le fun _ _ g=>RCl1.le g l9) (by decide) f1⟩
def AU (p:Rat×Rat):Rat×Rat:=(-p.1,-p.2)
def K8 (l:L3):List (Rat×Rat):=[my (Sec.dirL l),AU (my (Sec.dirL l))]
def Fa (M:List L3):List (Rat×Rat):=M.flatMap K8
structure Hg (V:View) (n:Nat) (vs:List Value) (l:List (Rat×Rat)):Prop where
 row:Row 6 Fz V vs l
 len:n=l.length
 JW:l.length<50
theorem Hg.le {V V':View}{n:Nat}{vs:List Value}{l:List (Rat×Rat)}(h:Hg V n vs l)(e:V.Le V'):Hg V' n vs l:=⟨h.row.le fun _ _ g=>Fz.le g e,h.len,h.JW⟩
theorem Hg.get {V:View}{n:Nat}{vs:List Value}{l:List (Rat×Rat)}(h:Hg V n vs l){k:Nat}(hk:k<l.length):∃(x y:Int)(p:OA)(xb yb:Int)(pb:OA),
  ((0+k*6)+6<=vs.length/\(vs.drop (0+k*6)).take 6=[.int .i64 x,.int .i64 y,.pointer p,.int .i64 xb,.int .i64 yb,.pointer pb])/\Fz V (.agg #[.int .i64 x,.int .i64 y,.pointer p,.int .i64 xb,.int .i64 yb,.pointer pb]) (l.getD k HY):=by
 obtain ⟨xs,-,b,c,f⟩:=h.row.get (d:=HY) hk (by decide)
 have a:=b
 obtain ⟨x,y,p,xb,yb,pb,e⟩:=b.shape
 have e:=congrArg Array.toList (Value.agg.inj e)
 dsimp only at e
 subst e
 rw [Nat.zero_add]
 exact ⟨x,y,p,xb,yb,pb,⟨c,f⟩,a⟩
theorem Hg.swap {V:View}{n:Nat}{vs:List Value}{l:List (Rat×Rat)}(h:Hg V n vs l){i j:Nat}(hi:i<l.length)(hj:j<l.length){x y:Int}{p:OA}{xb yb:Int}{pb:OA}{x' y':Int}{p':OA}{I5 I6:Int}{pb':OA}
  (h1:Fz V (.agg #[.int .i64 x,.int .i64 y,.pointer p,.int .i64 xb,.int .i64 yb,.pointer pb]) (l.getD i HY))(h2:Fz V (.agg #[.int .i64 x',.int .i64 y',.pointer p',.int .i64 I5,.int .i64 I6,.pointer pb']) (l.getD j HY)) :
  (0+i*6)+6<=vs.length/\(0+j*6)+6<=(cj vs (0+i*6) [.int .i64 x',.int .i64 y',.pointer p',.int .i64 I5,.int .i64 I6,.pointer pb']).length /\
  Hg V n (cj (cj vs (0+i*6) [.int .i64 x',.int .i64 y',.pointer p',.int .i64 I5,.int .i64 I6,.pointer pb']) (0+j*6) [.int .i64 x,.int .i64 y,.pointer p,.int .i64 xb,.int .i64 yb,.pointer pb]) (oW HY l i j):=by
 obtain ⟨-,-,-,a,-⟩:=h.row.get (d:=HY) hi (by decide)
 obtain ⟨-,-,-,b,-⟩:=h.row.get (d:=HY) hj (by decide)
 rw [Nat.zero_add,Nat.zero_add]
 refine ⟨a,by rw [oV (by exact a)];exact b,h.row.swap hi hj (by decide) rfl rfl h1 h2,by rw [mO];exact h.len,by rw [mO];exact h.JW⟩
def IZ (u w:Rat×Rat):Rat×Rat:=if Sec.cr u w>0 then (u.1+w.1,u.2+w.2) else (-u.2,u.1)
def Fi (D:List (Rat×Rat)):List (Rat×Rat):=if D=[] then [(1,0)] else Sec.Ld IZ D
theorem AQ (n:Int){d:Nat}(h:d≠0):mkRat n d*((d:Nat):Rat)=(n:Rat):=by
 have a:((d:Nat):Rat)≠0:=by exact_mod_cast h
 rw [Rat.mkRat_eq_div,Rat.div_def]
 exact Sec.inv_mul a _
theorem Ec {p:Rat×Rat}(h:Sec.nz p):fy p.1 p.2>0:=by
 have a:p.1.den*p.2.den≠0:=Nat.mul_ne_zero p.1.den_nz p.2.den_nz
 have e:=AQ (Nat.gcd (p.1.num.natAbs*p.2.den) (p.2.num.natAbs*p.1.den):Nat) a
 have b:0<Nat.gcd (p.1.num.natAbs*p.2.den) (p.2.num.natAbs*p.1.den):=by
  apply Nat.pos_of_ne_zero
  intro z
  rw [Nat.gcd_eq_zero_iff] at z
  have c:p.1=0:=by
   rcases Nat.mul_eq_zero.1 z.1 with e|e
   ·exact Rat.num_eq_zero.1 (by omega)
   ·exact absurd e p.2.den_nz
  have d:p.2=0:=by
   rcases Nat.mul_eq_zero.1 z.2 with e|e
   ·exact Rat.num_eq_zero.1 (by omega)
   ·exact absurd e p.1.den_nz
  unfold Sec.nz at h
  rcases h with h|h
  ·exact h c
  ·exact h d
 have d0:((p.1.den*p.2.den:Nat):Rat)>0:=by exact_mod_cast Nat.pos_of_ne_zero a
 have g:(((Nat.gcd (p.1.num.natAbs*p.2.den) (p.2.num.natAbs*p.1.den):Nat):Int):Rat)>0:=by exact_mod_cast b
 show mkRat _ _>0
 generalize mkRat ((Nat.gcd (p.1.num.natAbs*p.2.den) (p.2.num.natAbs*p.1.den):Nat):Int) (p.1.den*p.2.den)=q at *
 by_cases f:q>0
 ·exact f
 ·have:=Sec.mn (show -q≥0 by grind) (show ((p.1.den*p.2.den:Nat):Rat)≥0 by grind)
  grind
theorem yT {p:Rat×Rat}(h:Sec.nz p):∃c:Rat,c>0/\my p=(c*p.1,c*p.2):=
 ⟨(fy p.1 p.2)⁻¹,Rat.inv_pos.2 (Ec h),Prod.ext (Rat.mul_comm ..) (Rat.mul_comm ..)⟩
theorem B4 {l:L3}(h:¬(l.1=0/\l.2.1=0)):Sec.nz (Sec.dirL l):=by
 unfold Sec.nz Sec.dirL
 by_cases e:l.2.1=0
 ·right
  intro a
  have:(l.1:Rat)=0:=by grind
  exact h ⟨by exact_mod_cast this,e⟩
 ·left
  show (l.2.1:Rat)≠0
  exact_mod_cast e
def MD (s a:Bool):Int:=if a then 2 else if s then 1 else 0
def BD (t:Tr)(p:Rat×Rat)(c:Int):Prop:=∀D S,Sec.He D->Sec.LK D S->Sec.I7 D (Sec.iN t p)->c=MD (Sec.anyS t p S) (Sec.FN t p S)
theorem Gu {q:L3->Prop}{t:Tr}(h:t.All q){p:Rat×Rat}:∀l∈Sec.iN t p,q l:=fun l a=>v_ h l (Sec.rI a).2
theorem GZ {u w:Rat×Rat}(h:Sec.cr u w≥0):Sec.Cn u w (IZ u w):=by
 unfold IZ
 by_cases g:Sec.cr u w>0
 ·rw [if_pos g]
  exact .inl ⟨g,1,1,by decide,by decide,Prod.ext (by unfold Sec.FD;grind) (by unfold Sec.FD;grind)⟩
 ·rw [if_neg g]
  exact .inr ⟨by grind,1,by decide,Prod.ext (by unfold Sec.FD Sec.Lk;grind) (by unfold Sec.FD Sec.Lk;grind)⟩
theorem Dh {D:List (Rat×Rat)}(h:Sec.He D):Sec.LK D (Fi D):=by
 unfold Fi
 by_cases e:D=[]
 ·rw [if_pos e];exact .inl ⟨e,rfl⟩
 ·rw [if_neg e];exact Sec.GX h (fun u _ w _ a=>GZ a) e
theorem GM {M:List L3}(ho:∀l∈M,¬(l.1=0/\l.2.1=0)){m:List (Rat×Rat)}(pm:m.Perm (Fa M))(pw:m.Pairwise fun x y=>¬JT y x<0):Sec.He (tq eP m)/\Sec.I7 (tq eP m) M:=by
 have mem:∀r,r∈m↔∃l∈M,r=my (Sec.dirL l)\/r=AU (my (Sec.dirL l)):=fun r=>by
  rw [pm.mem_iff]
  unfold Fa K8
  simp only [List.mem_flatMap,List.mem_cons,List.not_mem_nil,or_false]
 have key:=Sec.IQ (m:=m) pw ?_ ?_
 ·obtain ⟨j,k⟩:=key
  refine ⟨j,fun l a=>?_⟩
  obtain ⟨y,n,c,o,e⟩:=k (my (Sec.dirL l)) ((mem _).2 ⟨l,a,.inl rfl⟩)
  obtain ⟨d,d0,g⟩:=yT (B4 (ho l a))
  refine ⟨y,n,c*d,Sec.mp o d0,?_⟩
  rw [e,g]
  exact Prod.ext (by show c*(d*_)=_;grind) (by show c*(d*_)=_;grind)
 ·intro r i
  obtain ⟨l,a,h⟩:=(mem r).1 i
  have b:=B4 (ho l a)
  obtain ⟨d,d0,g⟩:=yT b
  have f:Sec.nz (my (Sec.dirL l)):=by
   rw [g]
   unfold Sec.nz at b ⊢
   rcases b with b|b
   ·exact .inl fun h=>by rcases Rat.mul_eq_zero.1 h with h|h;grind;exact b h
   ·exact .inr fun h=>by rcases Rat.mul_eq_zero.1 h with h|h;grind;exact b h
  rcases h with rfl|rfl
  ·exact f
  ·unfold Sec.nz AU at *
   rcases f with f|f
   ·exact .inl (by show -(my (Sec.dirL l)).1≠0;grind)
   ·exact .inr (by show -(my (Sec.dirL l)).2≠0;grind)
 ·intro r i
  obtain ⟨l,a,h⟩:=(mem r).1 i
  rcases h with rfl|rfl
  ·exact ⟨_,(mem _).2 ⟨l,a,.inr rfl⟩,1,by decide,by unfold AU;grind,by unfold AU;grind⟩
  ·exact ⟨_,(mem _).2 ⟨l,a,.inl rfl⟩,1,by decide,by unfold AU;grind,by unfold AU;grind⟩
def ApS (V:View)(w:Value)(p:Rat×Rat):Prop:=(∃b q n c q' n' c' d r m e r' m' e',w=.agg #[.bool b,.slice q n c,.slice q' n' c',.bool d,.slice r m e,.slice r' m' e']) /\
 ∀V1,V.Le V1->Acts prog 51 #[w] V1 fun r V'=>RPt V' r p.1 p.2
theorem ApS.le {V V':View}{w:Value}{p:Rat×Rat}(h:ApS V w p)(l:V.Le V'):ApS V' w p:=⟨h.1,fun a b=>h.2 a (l.trans b)⟩
theorem ApS.of {V:View}{w:Value}{p:Rat×Rat}(h:Jv V w p.1 p.2){k:Nat}(s1:Sz k p.1)(s2:Sz k p.2)(hk:k<=1099511627776):ApS V w p:=by
 refine ⟨?_,fun f a=>Ai (h.le a) s1 s2 hk⟩
 obtain ⟨b,q,n,c,g,i,j,d,r,m,e,l,o,s,rfl,-⟩:=h
 exact ⟨_,_,_,_,_,_,_,_,_,_,_,_,_,_,rfl⟩
theorem ApS.raw {V:View}{b d:Bool}{q q' r r':OA}{n c n' c' m e m' e':Nat}{xs ys us vs:List Nat}(h1:RD V q n c xs)(h2:RD V q' n' c' ys)(h3:RD V r m e us)(h4:RD V r' m' e' vs)(k1:xs.length<=1000000)(k2:ys.length<=1000000)(k3:us.length<=1000000)(k4:vs.length<=1000000) :
  ApS V (.agg #[.bool b,.slice q n c,.slice q' n' c',.bool d,.slice r m e,.slice r' m' e']) (mkRat (aq b xs) (val ys),mkRat (aq d us) (val vs)):=by
 refine ⟨⟨_,_,_,_,_,_,_,_,_,_,_,_,_,_,rfl⟩,fun o a=>?_⟩
 refine pk b q n c q' n' c' d r m e r' m' e' o _ fun t f=>(k_ b (h1.le (a.trans f)) (h2.le (a.trans f)) (by omega) (by omega)).mono ?_
 rintro r V2 j g
 have p:=g
 obtain ⟨u,v,w,rfl⟩:=g.shape
 refine ⟨_,_,_,rfl,fun x h=>(k_ d (h3.le (a.trans (f.trans (j.trans h)))) (h4.le (a.trans (f.trans (j.trans h)))) (by omega) (by omega)).mono ?_⟩
 rintro r y s k
 have i:=k
 obtain ⟨z,A,B,rfl⟩:=k.shape
 exact ⟨_,_,_,rfl,fun C l=>⟨_,_,_,_,_,_,rfl,p.le (h.trans (s.trans l)),i.le l⟩⟩
theorem ApS.zero {V:View}:ApS V (.agg #[.bool false,.slice none 0 0,.slice none 0 0,.bool false,.slice none 0 0,.slice none 0 0]) (0,0):=by
 have e:mkRat (aq false []) (val [])=0:=by decide
 have:=@ApS.raw V false false none none none none 0 0 0 0 0 0 0 0 [] [] [] [] RD.nil RD.nil RD.nil RD.nil (by decide) (by decide) (by decide) (by decide)
 rw [e] at this
 exact this
end Go.Proofs.Tryz
namespace Go.Proofs.Tryz
open Go.Eng
set_option maxRecDepth 100000
end Go.Proofs.Tryz
namespace Go.Proofs.Tryz
open Go.Eng Go.Big
end Go.Proofs.Tryz
namespace Go.Proofs.Tryz
open Go.Eng
set_option maxRecDepth 100000
end Go.Proofs.Tryz
namespace Go.Proofs.Tryz
open Go.Eng Go.Big
def I_ (k:Nat)(V:View)(v:Value)(c:Rat×Rat):Prop:=RP V v c.1 c.2/\Sz k c.1/\Sz k c.2
theorem I_.le {k:Nat}{V V':View}{v:Value}{c:Rat×Rat}(h:I_ k V v c)(l:V.Le V'):I_ k V' v c:=⟨h.1.le l,h.2⟩
theorem I_.mono {k m:Nat}{V:View}{v:Value}{c:Rat×Rat}(h:I_ k V v c)(l:k<=m):I_ m V v c:=⟨h.1,h.2.1.mono l,h.2.2.mono l⟩
def LL:L3:=(0,1,0)
theorem Jt:okL LL=true:=by decide
theorem se {z:Int}(k:Nat)(hk:k≠0)(h:z.natAbs<=1):z.natAbs<2^k:=Nat.lt_of_le_of_lt h (Nat.one_lt_two_pow hk)
theorem HJ (k:Nat)(hk:k≠0):LL.1.natAbs<2^k/\LL.2.1.natAbs<2^k/\LL.2.2.natAbs<2^k:=⟨se k hk (by decide),se k hk (by decide),se k hk (by decide)⟩
theorem Hd:Bd LL:=HJ 1000 (by decide)
theorem xm {V:View}{v:Value}{a b c:Int}(h:RL V v a b c):∃(b1:Bool)(p1:OA)(n1 c1:Nat)(b2:Bool)(p2:OA)(n2 c2:Nat)(b3:Bool)(p3:OA)(n3 c3:Nat),v=.agg #[.bool b1,.slice p1 n1 c1,.bool b2,.slice p2 n2 c2,.bool b3,.slice p3 n3 c3]:=by
 obtain ⟨p,n,s,d,f,g,q,m,e,rfl,-⟩:=h
 exact ⟨_,_,_,_,_,_,_,_,_,_,_,_,rfl⟩
theorem vM {V:View}{u w:Value}(hp:RP V u ((0:Int):Rat) ((0:Int):Rat))(hq:RP V w ((1:Int):Rat) ((0:Int):Rat)) :
  Acts prog 28 #[u,w] V fun r V'=>∃l,r=.tuple #[l,.bool true]/\RL V' l LL.1 LL.2.1 LL.2.2:=by
 have a:Sz 1 ((0:Int):Rat):=by unfold Sz;decide
 have s1:Sz 1 ((1:Int):Rat):=Ba
 refine (pC hp hq a a s1 a (by omega) (by omega)).mono ?_
 have b:(vh ((0:Int):Rat) ((0:Int):Rat) ((1:Int):Rat) ((0:Int):Rat)).1.num=0:=by decide +kernel
 have c:(vh ((0:Int):Rat) ((0:Int):Rat) ((1:Int):Rat) ((0:Int):Rat)).2.1.num=1:=by decide +kernel
 have d:(vh ((0:Int):Rat) ((0:Int):Rat) ((1:Int):Rat) ((0:Int):Rat)).2.2.num=0:=by decide +kernel
 rw [b,c,d]
 rintro r V' _ ⟨-,h⟩
 exact h (by omega)
structure Mu (V:View) (y z:Value):Prop where
 inv:Sent V 0 y
 Rz:Sent V 1 z
 yE:SErr y
 zE:SErr z
theorem Mu.le {V V':View}{y z:Value}(h:Mu V y z)(l:V.Le V'):Mu V' y z:=⟨h.inv.le l,h.Rz.le l,h.yE,h.zE⟩
theorem SErr.Py {y:Value}(h:SErr y):IsIface y/\isNilI y=false:=by obtain ⟨a,rfl⟩:=h;exact ⟨.inr ⟨_,_,rfl⟩,rfl⟩
theorem KQ:IsIface .nilIface/\isNilI .nilIface=true:=⟨.inl rfl,rfl⟩
theorem AT.leaf {V:View}(i:Bool):AT V (.agg #[.int .i64 (rt 0 (.leaf i)),.slice none 0 0]) (rt 0 (.leaf i)) (wr 0 (.leaf i)):=⟨_,_,_,rfl,NS.nil⟩
theorem rD {p:L3->Prop}:∀{t:Tr} {k:Nat},t.All p->∀x∈wr k t,p x.ln
 | .leaf _,_,_,x,h=>by simp [wr] at h
 | .node l a b,k,⟨h1,h2,h3⟩,x,h=>by
  simp only [wr,List.mem_cons,List.mem_append] at h
  rcases h with rfl|h|h
  ·exact h1
  ·exact rD h2 x h
  ·exact rD h3 x h
def ch:Nat->Tr
 | 0=>.leaf false
 | m+1=>.node LL (.leaf true) (ch m)
def Co (V:View)(vs:List Value)(i:Nat)(d:Nd):Prop:=∃(b1:Bool)(p1:OA)(n1 c1:Nat)(b2:Bool)(p2:OA)(n2 c2:Nat)(b3:Bool)(p3:OA)(n3 c3:Nat),
 (∀j v,([.bool b1,.slice p1 n1 c1,.bool b2,.slice p2 n2 c2,.bool b3,.slice p3 n3 c3,.int .i64 d.left,.int .i64 d.right]:List Value)[j]?=some v->vs[i*8+j]?=some v) /\
 DD V (.agg #[.bool b1,.slice p1 n1 c1,.bool b2,.slice p2 n2 c2,.bool b3,.slice p3 n3 c3]) d.ln
theorem Co.le {V V':View}{vs:List Value}{i:Nat}{d:Nd}(h:Co V vs i d)(hl:V.Le V'):Co V' vs i d:=by
 obtain ⟨b1,a,b,c,b2,e,f,g,b3,j,k,l,m,n⟩:=h
 exact ⟨b1,a,b,c,b2,e,f,g,b3,j,k,l,m,n.le hl⟩
theorem E2 {vs xs:List Value}{k i:Nat}(hx:xs.length=8)(h:k*8+8<=vs.length)(hi:i<k*8\/k*8+8<=i):(vs.take (k*8)++xs++vs.drop (k*8+8))[i]?=vs[i]?:=by
 have a:(vs.take (k*8)).length=k*8:=by rw [List.length_take];omega
 rcases hi with hi|hi
 ·rw [List.append_assoc,List.getElem?_append_left (by omega),List.getElem?_take,if_pos hi]
 ·rw [List.getElem?_append_right (by rw [List.length_append];omega),List.length_append,a,hx,List.getElem?_drop]
  congr 1
  omega
theorem RB {a b c d e f g h v:Value}{j:Nat}(hv:([a,b,c,d,e,f,g,h]:List Value)[j]?=some v):j<8:=by
 rcases Nat.lt_or_ge j 8 with i|i
 ·exact i
 ·rw [List.getElem?_eq_none (by simpa using i)] at hv;cases hv
theorem Co.out {V:View}{vs xs:List Value}{k i:Nat}{d:Nd}(h:Co V vs i d)(hx:xs.length=8)(hk:k*8+8<=vs.length)(hi:i≠k):Co V (vs.take (k*8)++xs++vs.drop (k*8+8)) i d:=by
 obtain ⟨b1,b,c,e,b2,f,g,l,b3,m,n,o,p,q⟩:=h
 refine ⟨b1,b,c,e,b2,f,g,l,b3,m,n,o,fun j v a=>?_,q⟩
 have:=RB a
 rw [E2 hx hk (by omega)]
 exact p j v a
def vm (n b m:Nat):Nat:=(n-1-m+(n-b))%n
theorem Dj (l:List (Rat×Rat)):∃m:List (Rat×Rat),m.Perm l/\m.Pairwise fun x y=>¬JT y x<0:=by
 refine ⟨l.mergeSort (fun x y=>decide (¬JT y x<0)),List.mergeSort_perm ..,?_⟩
 refine (List.pairwise_mergeSort (le:=fun x y=>decide (¬JT y x<0)) (fun a b c d e=>?_) (fun a b=>?_) l).imp fun h=>of_decide_eq_true h
 ·exact decide_eq_true (Sec.qo c b a (of_decide_eq_true e) (of_decide_eq_true d))
 ·by_cases h:JT b a<0
  ·have:=Sec.BH b a h
   rw [Bool.or_eq_true]
   exact .inr (decide_eq_true this)
  ·rw [Bool.or_eq_true]
   exact .inl (decide_eq_true h)
theorem indep {t:Tr}{l:L3}(ho:(Tr.node l t t).All fun l=>¬(l.1=0/\l.2.1=0)){p:Rat×Rat}{a b:Int}(h1:BD t p a)(h2:BD (.node l t t) p b):a=b:=by
 obtain ⟨m,pm,g⟩:=Dj (Fa (Sec.iN (.node l t t) p))
 obtain ⟨d,f⟩:=GM (Gu ho) pm g
 have sm:=Dh d
 have sub:∀x∈Sec.iN t p,x∈Sec.iN (.node l t t) p:=fun x c=>by
  rw [Sec.iN]
  by_cases e:ar l p.1 p.2≥0
  ·rw [if_pos e];exact List.mem_append_right _ (List.mem_append_left _ c)
  ·rw [if_pos (show ar l p.1 p.2<=0 by grind)];exact List.mem_append_right _ (List.mem_append_right _ c)
 have i:=h1 _ _ d sm fun l j=>f l (sub l j)
 have k:=h2 _ _ d sm f
 generalize Fi (tq eP m)=S at *
 have key:∀v∈S,Sec.zp (.node l t t) p v=Sec.zp t p v:=fun v o=>by
  have n:=f.gen (Sec.G0 d sm v o)
  have:=(Sec.sr n fun l _=>⟨id,id⟩).2
  rw [Sec.zp] at this ⊢
  split
  ·rfl
  ·rename_i q
   rw [if_neg q] at this
   split
   ·rfl
   ·rename_i r
    rw [if_neg r] at this
    cases this
 have s:Sec.anyS (.node l t t) p S=Sec.anyS t p S:=by
  unfold Sec.anyS
  rw [Bool.eq_iff_iff,List.any_eq_true,List.any_eq_true]
  constructor
  ·rintro ⟨x,c,h⟩;exact ⟨x,c,by rw [←key x c];exact h⟩
  ·rintro ⟨x,c,h⟩;exact ⟨x,c,by rw [key x c];exact h⟩
 have u:Sec.FN (.node l t t) p S=Sec.FN t p S:=by
  unfold Sec.FN
  rw [Bool.eq_iff_iff,List.all_eq_true,List.all_eq_true]
  constructor
  ·intro h x c;rw [←key x c];exact h x c
  ·intro h x c;rw [key x c];exact h x c
 rw [i,k,s,u]
def An:Nat->Tr
 | 0=>.leaf true
 | m+1=>.node LL (An m) (.leaf false)
theorem xS (m:Nat):(An m).size=m:=by induction m with|zero=>rfl|succ m ih=>simp [An,Tr.size,ih]
theorem CG (m:Nat):(An m).depth=m:=by induction m with|zero=>rfl|succ m ih=>simp [An,Tr.depth,ih];try omega
theorem BP {p:L3->Prop}(h:p LL)(m:Nat):(An m).All p:=by induction m with|zero=>trivial|succ m ih=>exact ⟨h,ih,trivial⟩
def qJ (i:Nat):List Nd:=(List.range i).map fun j=>⟨LL,((j+1:Nat):Int),-1⟩
theorem xT (i:Nat):(qJ i).length=i:=by simp [qJ]
theorem CH (i:Nat):qJ (i+1)=qJ i++[⟨LL,((i+1:Nat):Int),-1⟩]:=by simp [qJ,List.range_succ]
theorem Fv:∀(m k:Nat),wr k (An (m+1))=((List.range' k (m+1)).map fun j=>(⟨LL,((j+1:Nat):Int),-1⟩:Nd)).set m ⟨LL,-2,-1⟩
 | 0,k=>rfl
 | m+1,k=>by
  have:=Fv m (k+1)
  rw [List.range'_succ,List.map_cons,List.set_cons_succ,←this]
  conv=>lhs;unfold An
  simp only [wr,List.append_nil]
  rfl
theorem G8 {m:Nat}(h:0<m):wr 0 (An m)=(qJ m).set (m-1) ⟨LL,-2,-1⟩:=by
 obtain ⟨k,rfl⟩:∃k,m=k+1:=⟨m-1,by omega⟩
 rw [Fv,qJ,List.range_eq_range']
 rfl
theorem jW {V:View}{y z:Value}(hy:Sent V 0 y)(hz:Sent V 1 z)(sy:SErr y)(sz:SErr z){root more:Int}(h0:0<=more){p:OA}{n c:Nat}{rs:List Rn}(h:Lst 8 Cp V p n rs)(hc:n<=c)(hn:p.isNone=true->c=0) :
  Acts prog 5 #[.agg #[.int .i64 root,.slice p n c],.int .u8 more] V fun r V'=>r=.bool true:=by
 have S:=h.len
 refine jL root p n c more V _ ⟨fun _ V1 l1=>(ie (hy.le l1) (hz.le l1) sy sz).mono ?_,fun h8=>?_⟩
 ·rintro r V2 l2 rfl
  exact ⟨_,rfl,fun V3 l3=>rfl⟩
 have h8:n<=6:=by have:=of_decide_eq_false h8;omega
 refine ⟨fun z _=>∃i:Nat,z=(i:Int)/\i<=n/\∀r∈rs.take i,r.short,fun z=>(n-z).toNat,⟨0,by and_intros<;>first|rfl|trivial,0,rfl,Nat.zero_le _,fun r w=>by simp at w⟩,?_⟩
 rintro _ V9 C ⟨i,rfl,hi,A⟩
 refine ⟨by trivial,fun f=>?_,fun f I J=>?_⟩
 ·have f:i<n:=by have:=of_decide_eq_true f;omega
  have K:i<rs.length:=by omega
  have T:i64.wrap ((i:Int)+1)=((i+1:Nat):Int):=by rw [i64w (by omega)];rfl
  rw [T,Int.toNat_natCast]
  obtain ⟨is,p1,n1,c1,p2,n2,c2,p3,n3,c3,a,U,a0,a1,a2,a3,a4,a5,a6,a7,e1,e2,e3⟩:=Lb (h.le C fun _ _ g=>Cp.le g C) K
  refine ⟨is,⟨by omega,by omega⟩,_,p1,n1,c1,_,p2,n2,c2,_,p3,n3,c3,_,_,a,U,a0,a1,a2,a3,a4,a5,a6,a7,fun X s bk Y=>(DW 3 Y).mono ?_⟩
  rintro r Z u ⟨b,rfl,hb⟩
  refine ⟨_,rfl,fun _=>⟨fun _ a8 B=>(ie (hy.le (C.trans (s.trans (u.trans B)))) (hz.le (C.trans (s.trans (u.trans B)))) sy sz).mono ?_,fun a9=>⟨((i+1:Nat):Int),by dsimp only;omega,by and_intros<;>first|rfl|trivial,i+1,rfl,f,fun r w=>?_⟩⟩⟩
  ·rintro r L D rfl
   exact ⟨_,rfl,fun b0 eh=>rfl⟩
  ·rw [←List.take_append_getElem K,List.mem_append,List.mem_singleton] at w
   rcases w with w|rfl
   ·exact A r w
   ·obtain ⟨g1,g2,g3⟩:=hb (by simpa using a9)
    exact ⟨by omega,by omega,by omega⟩
 have f:i=n:=by have:=of_decide_eq_false f;omega
 subst f
 rw [List.take_of_length_le (by omega)] at A
 have It:=C.trans J
 obtain ⟨j,E⟩:=NS.IH (h.le It fun _ _ g=>Cp.le g It) A hc hn
 have hlen:(rs.map Rn.nd).length<=6:=by rw [List.length_map];omega
 generalize rs.map Rn.nd=l at *
 have hA:∀{W:View},I.Le W->AT W (.agg #[.int .i64 root,.slice p i c]) root l:=fun e=>⟨p,i,c,rfl,j.le e⟩
 refine (vK E root j).mono ?_
 rintro r lV Q ⟨q,rfl,-⟩
 have Et:=It.trans Q
 refine ⟨_,_,rfl,fun oB M=>(c_cells_All E (hA (Q.trans M)) (hy.le (Et.trans M)) (hz.le (Et.trans M)) sy sz).mono ?_⟩
 rintro r qj eQ ⟨k1,R⟩
 have Ks:=Et.trans (M.trans eQ)
 have key:∃(Ma:OA)(F LS:Nat)(PF:OA)(G O:Nat)(e:Value),r=.tuple #[.slice Ma F LS,.slice PF G O,e]/\((ofT l root).isSome=true/\e=.nilIface\/(ofT l root).isSome=false/\e=y/\F=0/\G=0):=by
  cases o:ofT l root with
  | none=>exact ⟨_,_,_,_,_,_,_,k1 o,.inr ⟨rfl,rfl,rfl,rfl⟩⟩
  | some t=>
   have hd:t.depth<=1024:=by have:=j7 t;have:=(IF o).2.1;omega
   obtain ⟨p,n,c,q,m,e,rfl,-⟩:=(R t o).2 hd
   exact ⟨_,_,_,_,_,_,_,rfl,.inl ⟨rfl,rfl⟩⟩
 obtain ⟨Ma,F,LS,PF,G,O,e,rfl,key⟩:=key
 refine ⟨_,_,_,_,_,_,_,rfl,fun b _=>b=false,?_,?_⟩
 ·rcases key with ⟨k,rfl⟩|⟨k,rfl,rfl,rfl⟩
  ·rw [k]
   refine ⟨KQ.1,fun g=>by simp [KQ.2] at g,fun _=>⟨fun g=>by simp at g,fun _=>⟨_,⟨rfl,rfl⟩,rfl⟩⟩⟩
  ·rw [k]
   refine ⟨sy.Py.1,fun g=>by simp [sy.Py.2] at g,fun _=>⟨fun _=>⟨_,⟨_,rfl,hy.le Ks⟩,fun vl fW=>(iG sy).mono ?_⟩,fun g=>by simp at g⟩⟩
   rintro r BF kb rfl
   exact ⟨_,rfl,fun g=>by simp at g,fun _=>⟨_,⟨rfl,rfl⟩,by show decide (_>_)=false;rw [i64w (by omega)];rfl⟩⟩
 clear key k1 R hA j E hlen A
 rintro _ sZ gN rfl
 have Nm:=Ks.trans gN
 refine ⟨rfl,fun g=>by simp at g,fun _ V4 l4=>?_⟩
 obtain ⟨N,hN,c4,SS⟩:∃N:Nat,i64.wrap (1024+i64.wrap (more.tmod 3))=(N:Int)-1/\1025<=N/\N<=1027:=by
  have e:more.tmod 3=more%3:=Int.tmod_eq_emod_of_nonneg h0
  rw [e,i64w (x:=more%3) (by omega),i64w (by omega)]
  exact ⟨(1025+more%3).toNat,by omega,by omega,by omega⟩
 rw [hN]
 refine (qG 0 0 (by omega) (by omega) (by omega) (by omega)).mono ?_
 rintro r V5 l5 hp
 have b5:=hp
 obtain ⟨_,_,_,_,_,_,_,_,_,_,_,_,rfl,-⟩:=hp
 refine ⟨_,_,_,_,_,_,_,_,_,_,_,_,_,_,rfl,fun V6 l6=>(qG 1 0 (by omega) (by omega) (by omega) (by omega)).mono ?_⟩
 rintro r V7 l7 hq
 have b6:=hq
 obtain ⟨_,_,_,_,_,_,_,_,_,_,_,_,rfl,-⟩:=hq
 refine ⟨_,_,_,_,_,_,_,_,_,_,_,_,_,_,rfl,fun V8 l8=>(vM (b5.le (l6.trans (l7.trans l8))) (b6.le l8)).mono ?_⟩
 rintro r V9 l9 ⟨l,rfl,S⟩
 have C:=Nm.trans (l4.trans (l5.trans (l6.trans (l7.trans (l8.trans l9)))))
 obtain ⟨b1,u1,v1,T,b2,u2,v2,w2,b3,u3,v3,w3,rfl⟩:=xm S
 obtain ⟨t1,t2,t3⟩:=Hd.ae
 refine ⟨_,_,_,_,_,_,_,_,_,_,_,_,_,rfl,?_⟩
 refine ⟨fun (z:Int×Int×Nat×Nat×List Value) V'=>∃i:Nat,z.1=i/\i<=N/\z.2.1=0/\z.2.2.1=i/\i<=z.2.2.2.1/\z.2.2.2.1*8<=z.2.2.2.2.length/\NR V' z.2.2.2.2 (qJ i),fun z=>(N-z.1).toNat,⟨(0,0,0,0,[]),by (try dsimp only);and_intros<;>trivial,0,rfl,by omega,rfl,rfl,Nat.le_refl _,by simp,fun i d h=>by simp [qJ] at h⟩,?_⟩
 rintro ⟨zi,z0,zn,e,vs⟩ X s ⟨i,e1,hi,e2,e3,H,hlen,w⟩
 dsimp only at hlen w H e1 e2 e3 ⊢
 subst zi;subst z0;subst zn
 refine ⟨rfl,by omega,fun g Z u=>(xR (S.le (s.trans u)) (by omega) (by omega) (by omega)).mono ?_,fun g=>?_⟩
 ·have g:i<N:=by have:=of_decide_eq_true g;omega
  rintro r a8 B hm
  have b7:=hm
  obtain ⟨b1,u1,v1,T,b2,u2,v2,w2,b3,u3,v3,w3,rfl⟩:=xm hm
  have b8:i64.wrap ((i:Int)+1)=((i+1:Nat):Int):=by rw [i64w (by omega)];omega
  rw [b8]
  refine ⟨_,_,_,_,_,_,_,_,_,_,_,_,rfl,by omega,H,hlen,rfl,fun v hv=>?_,fun sp c h1 h2=>⟨(((i+1:Nat):Int),0,i+1,c,_),by dsimp only;omega,by (try dsimp only);and_intros<;>trivial,i+1,rfl,by omega,rfl,rfl,h1,?_,?_⟩⟩
  ·simp only [List.mem_cons,List.not_mem_nil,or_false] at hv
   rcases hv with rfl|rfl|rfl|rfl|rfl|rfl|rfl|rfl<;>rfl
  ·simp only [List.length_append,List.length_take,List.length_cons,List.length_nil]
   omega
  ·dsimp only
   rw [CH]
   have hc:=(w.le (u.trans B)).push (by rw [xT];omega) (ln:=LL) (x:=((i+1:Nat):Int)) (y:=-1) (sp:=sp) b7
   rw [xT] at hc
   exact hc
 ·have g:i=N:=by have:=of_decide_eq_false g;omega
  subst g
  have QS:i64.wrap ((i:Int)-1)=((i-1:Nat):Int):=by rw [i64w (by omega)];omega
  rw [QS,Int.toNat_natCast]
  have f:0<i:=by omega
  have P:(qJ i)[i-1]?=some ⟨LL,((i:Nat):Int),-1⟩:=by
   unfold qJ
   rw [List.getElem?_map,List.getElem?_range (by omega),Option.map_some,Nat.sub_add_cancel f]
  have h7:=w.N5 P (x:=-2)
  rw [←G8 f] at h7
  have Q7:(wr 0 (An i)).length=i:=by rw [fa,xS]
  refine ⟨⟨by omega,by omega⟩,H,by omega,fun L D bk hb=>?_⟩
  have j:=NS.ofRow (c:=e) hb (by omega) (h7.le D)
  rw [Q7] at j
  have Er:=C.trans (s.trans D)
  have b9:AT L (.agg #[.int .i64 0,.slice (mA bk e) i e]) 0 (wr 0 (An i)):=⟨_,_,_,rfl,j⟩
  have o:ofT (wr 0 (An i)) (rt 0 (An i))=some (An i):=IG (BP Jt i) (by rw [xS];omega)
  have c0:rt 0 (An i)=0:=by obtain ⟨k,rfl⟩:∃k,i=k+1:=⟨i-1,by omega⟩;rfl
  rw [c0] at o
  refine (c_cells_In (rD (BP Hd i)) b9 (hy.le Er) (hz.le Er) sy sz).mono ?_
  rintro r b0 eh ⟨-,R⟩
  obtain rfl:=(R _ o).1 (by rw [CG];omega)
  have CX:=Er.trans eh
  refine ⟨_,_,_,_,rfl,fun _ I J=>(ie (hy.le (CX.trans J)) (hz.le (CX.trans J)) sy sz).mono ?_⟩
  rintro r lV Q rfl
  refine ⟨_,rfl,fun _=>⟨_,⟨_,rfl,hz.le (CX.trans (J.trans Q))⟩,fun oB M=>(iG sz).mono ?_⟩,fun g=>by cases g⟩
  rintro r qj eQ rfl
  exact ⟨_,rfl,fun vl fW=>rfl⟩
end Go.Proofs.Tryz
