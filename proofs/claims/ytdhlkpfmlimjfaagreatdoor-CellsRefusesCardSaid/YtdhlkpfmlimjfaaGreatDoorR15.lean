import Derived.Test.YtdhlkpfmlimjfaaGreatDoorR10
import Derived.Test.YtdhlkpfmlimjfaaGreatDoorR14
import Derived.Deep.Slices
import Derived.WalkKit
import Derived.LaidEql
import Derived.Stop.Asserts
import Derived.RowKitTokens
import Derived.Test.YtdhlkpfmlimjfaaGreatDoorR6
import Derived.Test.YtdhlkpfmlimjfaaGreatDoorR8
import Derived.Test.YtdhlkpfmlimjfaaGreatDoorR13
set_option linter.unusedVariables false
open Go.IntKind (i64 u64 u32)
namespace Go.Proofs.YtdhlkpfmlimjfaaGreatDoor
open Go.ChangeShapes Go.WideShapes Go.ChangeAt Go.RowKit Go.Eng Go.Big Go.Proofs.Tryz
section
variable {H:Type} {enc:TypeId × Value->H} {W:World} {fuel:Nat}
theorem G3 {α:Type}{xs:List α}{i:Nat}{o:Option α}(h:o=xs[i]?)(hi:i<xs.length):∃y,o=some y:=⟨xs[i],by rw [h,List.getElem?_eq_getElem hi]⟩
theorem dD {H:Type}{enc:TypeId×Value->H}{W:World}{fs:Array Field}{cs:List Value}{xs:List (DataW H×List MemPlace)}{m:Nat}(hf:∀(i:Nat)(f:Field),fs[i]?=some f->DataW.trod enc Tryz.prog W 0 (fun _=>true) true m f.type ((cs.drop f.offset).take (Tryz.prog.cellsOf f.type))=xs[i]?)(hl:xs.length=fs.size)(i:Nat){f:Field}(hi:fs[i]?=some f){n:Nat}(hn:Tryz.prog.cellsOf f.type=n) :
  ∃y,DataW.trod enc Tryz.prog W 0 (fun _=>true) true m f.type ((cs.drop f.offset).take n)=some y:=by
 have:=hf i f hi
 rw [hn] at this
 have lt:i<xs.length:=by
  rw [hl]
  exact (Array.getElem?_eq_some_iff.1 hi).1
 exact G3 this lt
set_option maxRecDepth 100000 in
theorem FP {c:Value}{y:DataW H×List MemPlace}(h:DataW.trod enc Tryz.prog W 0 (fun _=>true) true fuel 4 [c]=some y):∃b,c=.bool b:=by
 obtain ⟨b,e,-⟩:=DataW.trod_bool Tryz.underlying4 h
 exact ⟨b,by simpa using e⟩
set_option maxRecDepth 100000 in
theorem Iz {c:Value}{y:DataW H×List MemPlace}(h:DataW.trod enc Tryz.prog W 0 (fun _=>true) true fuel 64 [c]=some y):∃p n k ds,c=.slice p n k/\RD (View.all W) p n k ds:=by
 rcases open_ints Tryz.underlying64 Tryz.underlying225 (show Tryz.prog.cellsOf 225=1 by kernel_rfl) h with ⟨e,-⟩|⟨a,len,cap,j,e,_,o,-,q,-,g,l⟩
 ·exact ⟨none,0,0,[],by simpa using e,RD.nil⟩
 ·simp only [if_true] at q
  have m:∀z∈j,0<=z/\z<4294967296:=fun z hm=>by
   have:=l z hm
   simp only [Lit.wf,Bool.and_eq_true,decide_eq_true_eq] at this
   have r:IntKind.min .u32=0:=by decide
   have s:IntKind.max .u32=4294967295:=by decide
   rw [r,s] at this
   exact ⟨this.1,by omega⟩
  refine ⟨some a,len,cap,(j.take len).map Int.toNat,by simpa using e,?_,o,?_,?_,(fun h=>nomatch h)⟩
  ·simp;omega
  ·intro i v hv
   simp only [aA,List.map_map,List.getElem?_map,Option.map_eq_some_iff] at hv
   obtain ⟨z,b,rfl⟩:=hv
   rw [List.getElem?_take] at b
   split at b
   ·rename_i t
    have f:i<j.length:=by omega
    rw [List.getElem?_eq_getElem f] at b
    have b:=Option.some.inj b
    have:=g i f
    rw [List.getD_eq_getElem?_getD,List.getElem?_eq_getElem f] at this
    simp only [Option.getD_some] at this
    have hm:=m _ (List.getElem_mem f)
    refine ⟨a,rfl,fun h=>h,?_⟩
    show W.cell? (a.add i)=_
    rw [this,b]
    have:((z.toNat:Nat):Int)=z:=Int.toNat_of_nonneg (b▸hm.1)
    simp only [Function.comp]
    rw [this]
   ·cases b
  ·intro d hm
   simp only [List.mem_map] at hm
   obtain ⟨z,b,rfl⟩:=hm
   have:=m z (List.mem_of_mem_take b)
   omega
set_option maxRecDepth 100000 in
theorem AH {c0 c1:Value}{y:DataW H×List MemPlace}(h:DataW.trod enc Tryz.prog W 0 (fun _=>true) true fuel 66 [c0,c1]=some y):∃b p n k ds,c0=.bool b/\c1=.slice p n k/\RD (View.all W) p n k ds:=by
 obtain ⟨xs,m,-,-,-,a,c⟩:=DataW.trod_struct Tryz.underlying66 h
 obtain ⟨g,d⟩:=dD c a 0 rfl (show Tryz.prog.cellsOf 4=1 by kernel_rfl)
 obtain ⟨i,e⟩:=dD c a 1 rfl (show Tryz.prog.cellsOf 64=1 by kernel_rfl)
 obtain ⟨b,rfl⟩:=FP d
 obtain ⟨p,n,k,ds,rfl,f⟩:=Iz e
 exact ⟨b,p,n,k,ds,rfl,rfl,f⟩
set_option maxRecDepth 100000 in
theorem Gr {c0 c1 c2 c3 c4 c5:Value}{y:DataW H×List MemPlace}(h:DataW.trod enc Tryz.prog W 0 (fun _=>true) true fuel 76 [c0,c1,c2,c3,c4,c5]=some y):∃b1 xs b2 ys b3 zs,I9 (View.all W) (.agg #[c0,c1,c2,c3,c4,c5]) b1 xs b2 ys b3 zs/\∃p n k p' n' k' p2 n2 k2,c0=.bool b1/\c1=.slice p n k/\c2=.bool b2/\c3=.slice p' n' k'/\c4=.bool b3/\c5=.slice p2 n2 k2:=by
 obtain ⟨xs,m,-,-,-,a,b⟩:=DataW.trod_struct Tryz.underlying76 h
 obtain ⟨j,c⟩:=dD b a 0 rfl (show Tryz.prog.cellsOf 66=2 by kernel_rfl)
 obtain ⟨l,d⟩:=dD b a 1 rfl (show Tryz.prog.cellsOf 66=2 by kernel_rfl)
 obtain ⟨o,e⟩:=dD b a 2 rfl (show Tryz.prog.cellsOf 66=2 by kernel_rfl)
 obtain ⟨b1,q,r,s,d1,rfl,rfl,f⟩:=AH c
 obtain ⟨b2,p2,n2,k2,d2,rfl,rfl,g⟩:=AH d
 obtain ⟨b3,t,u,v,d3,rfl,rfl,i⟩:=AH e
 exact ⟨b1,d1,b2,d2,b3,d3,⟨_,_,_,_,_,_,_,_,_,rfl,f,g,i⟩,_,_,_,_,_,_,_,_,_,rfl,rfl,rfl,rfl,rfl,rfl⟩
set_option maxRecDepth 100000 in
theorem AF {c:Value}{y:DataW H×List MemPlace}(h:DataW.trod enc Tryz.prog W 0 (fun _=>true) true fuel 3 [c]=some y):∃z,c=.int .i64 z:=by
 obtain ⟨z,e,-⟩:=DataW.trod_int Tryz.underlying3 h
 exact ⟨z,by simpa using e⟩
set_option maxRecDepth 100000 in
theorem Gv {c0 c1 c2 c3 c4 c5 c6 c7:Value}{y:DataW H×List MemPlace}(h:DataW.trod enc Tryz.prog W 0 (fun _=>true) true fuel 78 [c0,c1,c2,c3,c4,c5,c6,c7]=some y):∃r:Rn,Cp (View.all W) (.agg #[c0,c1,c2,c3,c4,c5,c6,c7]) r:=by
 obtain ⟨us,m,-,-,-,a,b⟩:=DataW.trod_struct Tryz.underlying78 h
 obtain ⟨B,c⟩:=dD b a 0 rfl (show Tryz.prog.cellsOf 76=6 by kernel_rfl)
 obtain ⟨C,d⟩:=dD b a 1 rfl (show Tryz.prog.cellsOf 3=1 by kernel_rfl)
 obtain ⟨D,f⟩:=dD b a 2 rfl (show Tryz.prog.cellsOf 3=1 by kernel_rfl)
 obtain ⟨b1,xs,b2,i,b3,j,g,-⟩:=Gr c
 obtain ⟨k,rfl⟩:=AF d
 obtain ⟨l,rfl⟩:=AF f
 obtain ⟨n,o,p,q,s,t,u,v,w,e,x,z,A⟩:=g
 have e:=congrArg Array.toList (Value.agg.inj e)
 simp only [List.cons.injEq,and_true] at e
 obtain ⟨rfl,rfl,rfl,rfl,rfl,rfl⟩:=e
 exact ⟨⟨b1,xs,b2,i,b3,j,k,l⟩,n,o,p,q,s,t,u,v,w,rfl,x,z,A⟩
end
theorem fg {α:Type}{l:List α}{n:Nat}(h:l.length=n+1):∃a r,l=a::r/\r.length=n:=by
 cases l with
 | nil=>simp at h
 | cons a r=>exact ⟨a,r,rfl,by simpa using h⟩
theorem Gs {α:Type}{P:Nat->α->Prop}(n:Nat)(h:∀i,i<n->∃a,P i a):∃l:List α,l.length=n/\∀i (hi:i<l.length),P i l[i]:=by
 induction n with
 | zero=>exact ⟨[],rfl,fun i hi=>absurd hi (Nat.not_lt_zero i)⟩
 | succ n ih=>
  obtain ⟨l,b,c⟩:=ih fun i hi=>h i (by omega)
  obtain ⟨a,d⟩:=h n (by omega)
  refine ⟨l++[a],by simp [b],fun i hi=>?_⟩
  rw [List.length_append,List.length_singleton] at hi
  by_cases e:i<l.length
  ·rw [List.getElem_append_left e];exact c i e
  ·obtain rfl:i=l.length:=by omega
   rw [List.getElem_append_right (Nat.le_refl _)]
   simpa [b] using d
theorem wa {α:Type}{sz:Nat}{R:View->Value->α->Prop}{H:Type}{enc:TypeId×Value->H}{W:World}{t e:TypeId}{fuel:Nat}{c1:Value}{y:DataW H×List MemPlace}(ht:Tryz.prog.underlying t=some (.slice e))(hc:Tryz.prog.cellsOf e=sz)
  (each:∀(fuel:Nat)(cs:List Value)(y:DataW H×List MemPlace),cs.length=sz->DataW.trod enc Tryz.prog W 0 (fun _=>true) true fuel e cs=some y->∃a:α,R (View.all W) (.agg cs.toArray) a)
  (h:DataW.trod enc Tryz.prog W 0 (fun _=>true) true fuel t [c1]=some y):∃p n c,c1=.slice p n c/\n<=c/\(p.isNone=true->c=0)/\∃l:List α,Lst sz R (View.all W) p n l:=by
 rcases Go.Deep.open_slice ht h with ⟨b,-⟩|⟨a,len,cap,m,k,D,C,b,-,u,-,hm,-,w⟩
 ·exact ⟨none,0,0,by simpa using b,Nat.le_refl _,fun _=>rfl,[],Lst.nil⟩
 ·simp only [if_true] at hm
  subst hm
  refine ⟨some a,len,_,by simpa using b,u,(fun h=>by cases h),?_⟩
  have key:∀i,i<len->∃x:α,∃cs:List Value,cs.length=sz/\R (View.all W) (.agg cs.toArray) x/\∀j v,cs[j]?=some v->(View.all W).at ((a.add (i*sz)).add j) v:=by
   intro i r
   obtain ⟨cs,d,z⟩:=w i (by omega)
   rw [hc] at d
   unfold World.cells? at d
   rw [if_pos (Nat.zero_le _)] at d
   have f:cs.length=sz:=by simpa using mapM_some_length d
   obtain ⟨x,g⟩:=each k cs _ f z
   refine ⟨x,cs,f,g,fun j v s=>?_⟩
   have o:j<sz:=by rw [←f];exact (List.getElem?_eq_some_iff.1 s).1
   have:=mapM_some_get d j j (by simp [o])
   exact ⟨fun h=>h,by show W.cell? _=_;rw [this];exact s⟩
  obtain ⟨l,q,A⟩:=Gs len key
  refine ⟨l,q.symm,fun i r=>?_⟩
  obtain ⟨cs,f,g,B⟩:=A i r
  exact ⟨a.add (i*sz),rfl,cs,f,g,B⟩
set_option maxRecDepth 100000 in
theorem C3 {H:Type}{enc:TypeId×Value->H}{W:World}(fuel:Nat)(cs:List Value)(y:DataW H×List MemPlace)(hl:cs.length=8)(h:DataW.trod enc Tryz.prog W 0 (fun _=>true) true fuel 78 cs=some y):∃r:Rn,Cp (View.all W) (.agg cs.toArray) r:=by
 obtain ⟨j,k,rfl,a⟩:=fg hl
 obtain ⟨l,m,rfl,b⟩:=fg a
 obtain ⟨n,o,rfl,c⟩:=fg b
 obtain ⟨p,q,rfl,d⟩:=fg c
 obtain ⟨s,t,rfl,e⟩:=fg d
 obtain ⟨u,v,rfl,f⟩:=fg e
 obtain ⟨w,x,rfl,g⟩:=fg f
 obtain ⟨z,A,rfl,i⟩:=fg g
 obtain rfl:=List.length_eq_zero_iff.1 i
 exact Gv h
set_option maxRecDepth 100000 in
theorem Fq {H:Type}{enc:TypeId×Value->H}{W:World}{r:Reach}{b0:Nat}{v:Value}{d:DataW H}{p:List MemPlace}(hv:Value.okWide Tryz.prog W r b0 34 v)(h:DataW.Trod enc Tryz.prog W 0 (fun _=>true) true 34 v d p) :
  ∃root q n c rs,v=.agg #[.int .i64 root,.slice q n c]/\n<=c/\(q.isNone=true->c=0)/\Lst 8 Cp (View.all W) q n rs:=by
 obtain ⟨⟨cs⟩,rfl,a⟩:=okWide_struct Tryz.underlying34 hv
 have a:cs.length=2:=a.trans (by kernel_rfl)
 obtain ⟨t,u,rfl,f⟩:=fg a
 obtain ⟨w,x,rfl,g⟩:=fg f
 obtain rfl:=List.length_eq_zero_iff.1 g
 obtain ⟨fuel,i⟩:=h
 obtain ⟨us,m,-,-,-,b,e⟩:=DataW.trod_struct Tryz.underlying34 i
 obtain ⟨y,j⟩:=dD e b 0 rfl (show Tryz.prog.cellsOf 3=1 by kernel_rfl)
 obtain ⟨z,k⟩:=dD e b 1 rfl (show Tryz.prog.cellsOf 32=1 by kernel_rfl)
 obtain ⟨root,rfl⟩:=AF j
 obtain ⟨q,n,c,rfl,l,o,rs,s⟩:=wa Tryz.underlying32 (show Tryz.prog.cellsOf 78=8 by kernel_rfl) C3 k
 exact ⟨root,q,n,c,rs,rfl,l,o,s⟩
end Go.Proofs.YtdhlkpfmlimjfaaGreatDoor
namespace Go.Proofs.Tryz
open Go.Big
section
variable {α:Type}
structure Ord (c:α->α->Int):Prop where
 Ja:∀a b,c a b<0->¬c b a<0
 tr:∀a b d,¬c a b<0->¬c b d<0->¬c a d<0
variable {c:α->α->Int}
theorem Ord.le (h:Ord c){a b:α}(l:c a b<0):¬c b a<0:=h.Ja a b l
theorem Ord.refl (h:Ord c)(a:α):¬c a a<0:=fun l=>h.Ja a a l l
def oW (d:α)(l:List α)(i j:Nat):List α:=(l.set i (l.getD j d)).set j (l.getD i d)
variable {d:α}
theorem mO {l:List α}{i j:Nat}:(oW d l i j).length=l.length:=by simp [oW]
theorem mh {l:List α}{i k:Nat}{x:α}(hi:i<l.length):(l.set i x).getD k d=if k=i then x else l.getD k d:=by
 simp only [List.getD_eq_getElem?_getD,List.getElem?_set]
 by_cases h:k=i
 ·subst h;simp [hi]
 ·have:¬i=k:=fun e=>h e.symm
  simp [h,this]
theorem lF {l:List α}{i j k:Nat}(hi:i<l.length)(hj:j<l.length):(oW d l i j).getD k d=if k=j then l.getD i d else if k=i then l.getD j d else l.getD k d:=by
 unfold oW
 rw [mh (by simpa using hj),mh hi]
theorem Fp {l:List α}{i j:Nat}(hi:i<l.length)(hj:j<l.length):(oW d l i j).Perm l:=by
 have h:=Array.swap_perm (xs:=l.toArray) (i:=i) (j:=j) (by simpa using hi) (by simpa using hj)
 have e:(l.toArray.swap i j (by simpa using hi) (by simpa using hj)).toList=oW d l i j:=by
  simp [Array.swap,oW,List.getD_eq_getElem?_getD,hi,hj]
 have:=h.toList
 rw [e] at this
 simpa using this
structure oA (d:α) (l m:List α) (a b:Nat):Prop where
 len:m.length=l.length
 out:∀k,¬(a<=k/\k<b)->m.getD k d=l.getD k d
 mem:∀k,a<=k->k<b->∃k',a<=k'/\k'<b/\m.getD k d=l.getD k' d
 perm:m.Perm l
theorem oA.refl (l:List α)(a b:Nat):oA d l l a b:=⟨rfl,fun _ _=>rfl,fun k h c=>⟨k,h,c,rfl⟩,.refl _⟩
theorem oA.trans {l m n:List α}{a b:Nat}(h:oA d l m a b)(g:oA d m n a b):oA d l n a b:=
 ⟨g.len.trans h.len,fun k f=>(g.out k f).trans (h.out k f),fun k i j=>by
  obtain ⟨o,p,q,e⟩:=g.mem k i j
  obtain ⟨c,r,s,t⟩:=h.mem o p q
  exact ⟨c,r,s,e.trans t⟩,g.perm.trans h.perm⟩
theorem oA.wide {l m:List α}{a b a' b':Nat}(h:oA d l m a b)(ha:a'<=a)(hb:b<=b'):oA d l m a' b':=
 ⟨h.len,fun k c=>h.out k (by omega),fun k f g=>by
  by_cases c:a<=k/\k<b
  ·obtain ⟨i,j,n,e⟩:=h.mem k c.1 c.2
   exact ⟨i,by omega,by omega,e⟩
  ·exact ⟨k,f,g,h.out k c⟩,h.perm⟩
theorem oA.oW {l:List α}{a b i j:Nat}(hi:a<=i)(hi':i<b)(hj:a<=j)(hj':j<b)(hb:b<=l.length):oA d l (oW d l i j) a b:=by
 refine ⟨mO,fun k f=>?_,fun k c e=>?_,Fp (by omega) (by omega)⟩
 ·rw [lF (by omega) (by omega),if_neg (by omega),if_neg (by omega)]
 ·rw [lF (by omega) (by omega)]
  split
  ·exact ⟨i,hi,hi',rfl⟩
  ·split
   ·exact ⟨j,hj,hj',rfl⟩
   ·exact ⟨k,c,e,rfl⟩
def sY (c:α->α->Int)(d:α)(l:List α)(a b:Nat):Prop:=∀p q,a<=p->p<q->q<b->¬c (l.getD q d) (l.getD p d)<0
theorem sY.short {l:List α}{a b:Nat}(h:b<=a+1):sY c d l a b:=fun p q e f g=>by omega
theorem sY.step (ho:Ord c){l:List α}{a b:Nat}(h:sY c d l a b)(h0:a<b)(hb:¬c (l.getD b d) (l.getD (b-1) d)<0):sY c d l a (b+1):=by
 intro p q f g j
 by_cases e:q=b
 ·subst e
  by_cases i:p=q-1
  ·subst i;exact hb
  ·exact ho.tr _ _ _ hb (h p (q-1) f (by omega) (by omega))
 ·exact h p q f g (by omega)
def HI (c:α->α->Int)(d:α)(l:List α)(a i j:Nat):Prop:=∀p q,a<=p->p<q->q<=i->q≠j->¬c (l.getD q d) (l.getD p d)<0
theorem HI.start {l:List α}{a i:Nat}(h:sY c d l a i):HI c d l a i i:=fun p q b e f g=>h p q b e (by omega)
theorem HI.done (ho:Ord c){l:List α}{a i j:Nat}(h:HI c d l a i j)(hji:j<=i)(hs:j<=a\/¬c (l.getD j d) (l.getD (j-1) d)<0):sY c d l a (i+1):=by
 intro p q b f k
 by_cases e:q=j
 ·subst e
  rcases hs with hs|hs
  ·omega
  ·by_cases g:p=q-1
   ·subst g;exact hs
   ·exact ho.tr _ _ _ hs (h p (q-1) b (by omega) (by omega) (by omega))
 ·exact h p q b f (by omega) e
theorem HI.move (ho:Ord c){l:List α}{a i j:Nat}(h:HI c d l a i j)(hj:a<j)(hji:j<=i)(hi:i<l.length)(hl:c (l.getD j d) (l.getD (j-1) d)<0):HI c d (oW d l j (j-1)) a i (j-1):=by
 intro p q f n e o
 have g:=fun k=>lF (d:=d) (l:=l) (i:=j) (j:=j-1) (k:=k) (by omega) (by omega)
 rw [g,g]
 by_cases eq:q=j
 ·subst eq
  rw [if_neg (by omega),if_pos rfl]
  by_cases b:p=q-1
  ·rw [if_pos b];exact ho.Ja _ _ hl
  ·rw [if_neg b,if_neg (by omega)];exact h p (q-1) f (by omega) (by omega) (by omega)
 ·rw [if_neg o,if_neg eq]
  by_cases b:p=j-1
  ·rw [if_pos b];exact h j q (by omega) (by omega) e eq
  ·rw [if_neg b]
   by_cases m:p=j
   ·rw [if_pos m];exact h (j-1) q (by omega) (by omega) e eq
   ·rw [if_neg m];exact h p q f n e eq
def Hp (c:α->α->Int)(d:α)(l:List α)(f lo hi:Nat)(r:Option Nat):Prop:=
 (∀i k,lo<=i->(k=2*i+1\/k=2*i+2)->k<hi->r≠some i->¬c (l.getD (f+i) d) (l.getD (f+k) d)<0) /\
 (∀i j k,r=some j->lo<=i->(j=2*i+1\/j=2*i+2)->(k=2*j+1\/k=2*j+2)->k<hi->¬c (l.getD (f+i) d) (l.getD (f+k) d)<0)
theorem Hp.top (ho:Ord c){l:List α}{f hi:Nat}(h:Hp c d l f 0 hi none):∀k,k<hi->¬c (l.getD f d) (l.getD (f+k) d)<0:=by
 intro k
 induction k using Nat.strongRecOn with
 | ind k ih=>
  intro a
  by_cases b:k=0
  ·subst b;exact ho.refl _
  ·exact ho.tr _ _ _ (ih ((k-1) / 2) (by omega) (by omega)) (h.1 ((k-1) / 2) k (by omega) (by omega) a (by simp))
theorem Hp.leaf {l:List α}{f lo hi r:Nat}(h:Hp c d l f lo hi (some r))(hr:hi<=2*r+1):Hp c d l f lo hi none:=
 ⟨fun i k a b g _=>by
  by_cases e:r=i
  ·omega
  ·exact h.1 i k a b g (by simpa using e),fun i j k e=>by cases e⟩
theorem Hp.stop (ho:Ord c){l:List α}{f lo hi r k:Nat}(h:Hp c d l f lo hi (some r))(hk:k=2*r+1\/k=2*r+2)(hm:∀k',(k'=2*r+1\/k'=2*r+2)->k'<hi->¬c (l.getD (f+k) d) (l.getD (f+k') d)<0)
  (hs:¬c (l.getD (f+r) d) (l.getD (f+k) d)<0):Hp c d l f lo hi none:=
 ⟨fun i k' g a b _=>by
  by_cases e:r=i
  ·subst e;exact ho.tr _ _ _ hs (hm k' a b)
  ·exact h.1 i k' g a b (by simpa using e),fun i j k e=>by cases e⟩
theorem Hp.down (ho:Ord c){l:List α}{f lo hi r k:Nat}(h:Hp c d l f lo hi (some r))(hlo:lo<=r)(hl:f+hi<=l.length)(hk:k=2*r+1\/k=2*r+2)(hkh:k<hi)(hm:∀k',(k'=2*r+1\/k'=2*r+2)->k'<hi->¬c (l.getD (f+k) d) (l.getD (f+k') d)<0)
  (hs:c (l.getD (f+r) d) (l.getD (f+k) d)<0):Hp c d (oW d l (f+r) (f+k)) f lo hi (some k):=by
 have a:=fun x=>lF (d:=d) (l:=l) (i:=f+r) (j:=f+k) (k:=x) (by omega) (by omega)
 refine ⟨fun i k' n b g m=>?_,fun i j k' e n b g m=>?_⟩
 ·have m:¬i=k:=fun e=>m (by rw [e])
  rw [a,a,if_neg (show ¬f+i=f+k by omega)]
  by_cases p:i=r
  ·subst p
   rw [if_pos rfl]
   by_cases o:k'=k
   ·rw [if_pos (by omega)];exact ho.Ja _ _ hs
   ·rw [if_neg (by omega),if_neg (by omega)];exact hm k' b g
  ·rw [if_neg (by omega)]
   by_cases o:k'=r
   ·subst o
    rw [if_neg (by omega),if_pos rfl]
    exact h.2 i k' k rfl n b hk hkh
   ·rw [if_neg (by omega),if_neg (by omega)]
    exact h.1 i k' n b g (by simp;omega)
 ·cases e
  rw [a,a]
  have:i=r:=by omega
  subst this
  rw [if_neg (by omega),if_pos rfl,if_neg (by omega),if_neg (by omega)]
  exact h.1 k k' (by omega) g m (by simp;omega)
theorem Hp.more {l:List α}{f lo hi:Nat}(h:Hp c d l f (lo+1) hi none):Hp c d l f lo hi (some lo):=
 ⟨fun i k m a b g=>h.1 i k (by have:¬lo=i:=fun e=>g (by rw [e]);omega) a b (by simp),fun i j k e m a b g=>by cases e;omega⟩
def Sep (c:α->α->Int)(d:α)(l:List α)(a m b:Nat):Prop:=∀p q,a<=p->p<m->m<=q->q<b->¬c (l.getD q d) (l.getD p d)<0
theorem oA.sep {l m:List α}{a b x y z:Nat}(h:oA d l m a b)(hs:Sep c d l x y z)(hc:(x<=a/\b<=y)\/(y<=a/\b<=z)\/b<=x\/z<=a):Sep c d m x y z:=by
 intro p q r s t u
 have key:∀k,∃f,m.getD k d=l.getD f d/\(k=f\/a<=k/\k<b/\a<=f/\f<b):=fun k=>by
  by_cases g:a<=k/\k<b
  ·obtain ⟨f,i,j,e⟩:=h.mem k g.1 g.2
   exact ⟨f,e,.inr ⟨g.1,g.2,i,j⟩⟩
  ·exact ⟨k,h.out k g,.inl rfl⟩
 obtain ⟨n,i,j⟩:=key p
 obtain ⟨o,f1,f2⟩:=key q
 rw [i,f1]
 exact hs n o (by omega) (by omega) (by omega) (by omega)
theorem oA.asc {l m:List α}{a b x y:Nat}(h:oA d l m a b)(hs:sY c d l x y)(hc:y<=a\/b<=x):sY c d m x y:=by
 intro p q e f g
 rw [h.out p (by omega),h.out q (by omega)]
 exact hs p q e f g
theorem sY.join {l:List α}{a m b:Nat}(h1:sY c d l a m)(h2:sY c d l m b)(h3:Sep c d l a m b):sY c d l a b:=by
 intro p q e f g
 by_cases h:q<m
 ·exact h1 p q e f h
 ·by_cases i:m<=p
  ·exact h2 p q i f g
  ·exact h3 p q e (by omega) (by omega) g
end
end Go.Proofs.Tryz
namespace Go.Proofs.Tryz.Sec
abbrev V2:=Rat×Rat
def cr (u v:V2):Rat:=u.1*v.2-u.2*v.1
def dt (u v:V2):Rat:=u.1*v.1+u.2*v.2
def Lk (u:V2):V2:=(-u.2,u.1)
def up (u:V2):Prop:=u.2>0\/u.2=0/\u.1>0
def dn (u:V2):Prop:=u.2<0\/u.2=0/\u.1<0
def nz (u:V2):Prop:=u.1≠0\/u.2≠0
def pv (u v:V2):Prop:=(up u/\dn v)\/((up u/\up v\/dn u/\dn v)/\cr u v>0)
def FD (a:Rat)(u:V2)(b:Rat)(w:V2):V2:=(a*u.1+b*w.1,a*u.2+b*w.2)
def Ny (s r:V2):Prop:=∃c:Rat,c>0/\s.1=-(c*r.1)/\s.2=-(c*r.2)
theorem ko {u:V2}(h:nz u):up u\/dn u:=by unfold nz at h;unfold up dn;grind
theorem dF {u:V2}(h:up u)(h':dn u):False:=by unfold up at h;unfold dn at h';grind
theorem fh (u v:V2):cr v u=-cr u v:=by unfold cr;grind
theorem Ir (u w r:V2):cr u r*w.1+cr r w*u.1=cr u w*r.1:=by unfold cr;grind
theorem AJ (u w r:V2):cr u r*w.2+cr r w*u.2=cr u w*r.2:=by unfold cr;grind
theorem As (r:V2)(a:Rat)(u:V2)(b:Rat)(w:V2):cr r (FD a u b w)=a*cr r u+b*cr r w:=by unfold cr FD;grind
theorem HW (r u:V2):cr r (Lk u)=dt r u:=by unfold cr Lk dt;grind
theorem wh {s r:V2}(h:Ny s r)(z:V2):∃c:Rat,c>0/\cr s z=-(c*cr r z)/\cr z s=-(c*cr z r):=by
 obtain ⟨c,d,a,b⟩:=h
 exact ⟨c,d,by unfold cr;rw [a,b];grind,by unfold cr;rw [a,b];grind⟩
theorem mp {a b:Rat}(ha:a>0)(hb:b>0):a*b>0:=Rat.mul_pos ha hb
theorem mn {a b:Rat}(ha:a≥0)(hb:b≥0):a*b≥0:=Rat.mul_nonneg ha hb
theorem b1 {u w r:V2}(hu:up u)(hw:dn w)(hr:up r)(a:cr u r>0)(b:cr r w<=0)(c:cr u w≥0):False:=by
 have e:=AJ u w r
 unfold up at hu hr;unfold dn at hw
 have f:cr u r*(-w.2)≥0:=mn (by grind) (by grind)
 have g:(-(cr r w))*u.2≥0:=mn (by grind) (by grind)
 have i:cr u w*r.2≥0:=mn c (by grind)
 have d:cr u r*w.2=0:=by grind
 have j:w.2=0:=by rcases Rat.mul_eq_zero.1 d with h|h<;>grind
 have k:w.1<0:=by grind
 have l:cr r w=-(r.2*w.1):=by unfold cr;grind
 have m:r.2=0:=by
  by_cases h:r.2>0
  ·have:=mp h (show -w.1>0 by grind)
   grind
  ·grind
 have n:r.1>0:=by grind
 have o:cr u r=-(u.2*r.1):=by unfold cr;grind
 have:=mn (show u.2≥0 by grind) (show r.1≥0 by grind)
 grind
theorem b2 {u w r:V2}(hu:up u)(hw:dn w)(hr:dn r)(a:cr u r<=0)(b:cr r w>0)(c:cr u w≥0):False:=by
 have e:=AJ u w r
 unfold up at hu;unfold dn at hw hr
 have g:(-(cr u r))*(-w.2)≥0:=mn (by grind) (by grind)
 have i:cr r w*u.2≥0:=mn (by grind) (by grind)
 have j:cr u w*(-r.2)≥0:=mn c (by grind)
 have d:cr r w*u.2=0:=by grind
 have k:u.2=0:=by rcases Rat.mul_eq_zero.1 d with h|h<;>grind
 have f:u.1>0:=by grind
 have l:cr u w=u.1*w.2:=by unfold cr;grind
 have m:w.2=0:=by
  by_cases h:w.2<0
  ·have:=mp f (show -w.2>0 by grind)
   grind
  ·grind
 have n:w.1<0:=by grind
 have o:cr r w=-(r.2*w.1):=by unfold cr;grind
 have:=mn (show -r.2≥0 by grind) (show -w.1≥0 by grind)
 grind
theorem b3 {u w r:V2}(hu:dn u)(hw:up w)(hr:dn r)(a:cr u r>0)(b:cr r w<=0)(c:cr u w≥0):False:=by
 have e:=AJ u w r
 unfold dn at hu hr;unfold up at hw
 have g:cr u r*w.2≥0:=mn (by grind) (by grind)
 have i:(-(cr r w))*(-u.2)≥0:=mn (by grind) (by grind)
 have j:cr u w*(-r.2)≥0:=mn c (by grind)
 have d:cr u r*w.2=0:=by grind
 have k:w.2=0:=by rcases Rat.mul_eq_zero.1 d with h|h<;>grind
 have f:w.1>0:=by grind
 have l:cr r w=-(r.2*w.1):=by unfold cr;grind
 have m:r.2=0:=by
  by_cases h:r.2<0
  ·have:=mp f (show -r.2>0 by grind)
   grind
  ·grind
 have n:r.1<0:=by grind
 have o:cr u r=-(u.2*r.1):=by unfold cr;grind
 have:=mn (show -u.2≥0 by grind) (show -r.1≥0 by grind)
 grind
theorem b4 {u w r:V2}(hu:dn u)(hw:up w)(hr:up r)(a:cr u r<=0)(b:cr r w>0)(c:cr u w≥0):False:=by
 have e:=AJ u w r
 unfold dn at hu;unfold up at hw hr
 have f:(-(cr u r))*w.2≥0:=mn (by grind) (by grind)
 have g:cr r w*(-u.2)≥0:=mn (by grind) (by grind)
 have i:cr u w*r.2≥0:=mn c (by grind)
 have d:cr r w*u.2=0:=by grind
 have j:u.2=0:=by rcases Rat.mul_eq_zero.1 d with h|h<;>grind
 have k:u.1<0:=by grind
 have l:cr u w=u.1*w.2:=by unfold cr;grind
 have m:w.2=0:=by
  by_cases h:w.2>0
  ·have:=mp h (show -u.1>0 by grind)
   grind
  ·grind
 have n:w.1>0:=by grind
 have o:cr r w=-(r.2*w.1):=by unfold cr;grind
 have:=mn (show r.2≥0 by grind) (show w.1≥0 by grind)
 grind
structure He (D:List V2):Prop where
 nz:∀r∈D,nz r
 cl:∀r∈D,∃s∈D,Ny s r
 asc:D.Pairwise pv
def ss (a b:Rat):Prop:=(b>0->a>0)/\(b<0->a<0)
theorem ib {u v:V2}(hu:up u)(hv:up v):pv u v->cr u v>0:=by
 rintro (⟨_,h⟩|⟨_,h⟩)
 ·exact (dF hv h).elim
 ·exact h
theorem f_ {u v:V2}(hu:dn u)(hv:dn v):pv u v->cr u v>0:=by
 rintro (⟨h,_⟩|⟨_,h⟩)
 ·exact (dF h hu).elim
 ·exact h
theorem dN {u v:V2}(hu:dn u)(hv:up v):¬pv u v:=by
 rintro (⟨h,_⟩|⟨⟨h,_⟩|⟨_,h⟩,_⟩)
 ·exact dF h hu
 ·exact dF h hu
 ·exact dF hv h
section
variable {D:List V2} (h:He D) {v:V2} (hv:∀r ∈ D,cr r v≠0)
include h hv
omit hv in
theorem uO {i j:Nat}{a b:V2}(hi:D[i]?=some a)(hj:D[j]?=some b)(Gf:i<j):pv a b:=by
 obtain ⟨c,d⟩:=List.getElem?_eq_some_iff.1 hi
 obtain ⟨e,f⟩:=List.getElem?_eq_some_iff.1 hj
 have:=List.pairwise_iff_getElem.1 h.asc i j c e Gf
 rwa [d,f] at this
end
theorem KR {r:V2}(h:nz r){c:Rat}(h1:c*r.1=0)(h2:c*r.2=0):c=0:=by
 rcases Rat.mul_eq_zero.1 h1 with e|e
 ·exact e
 ·rcases Rat.mul_eq_zero.1 h2 with a|a
  ·exact a
  ·unfold nz at h;grind
theorem sq_pos {u:V2}(h:nz u):dt u u>0:=by
 have a:∀x:Rat,x*x≥0:=fun x=>by
  by_cases b:x≥0
  ·exact mn b b
  ·have:=mn (show -x≥0 by grind) (show -x≥0 by grind);grind
 have:=a u.1
 have:=a u.2
 unfold dt
 by_cases c:u.1*u.1+u.2*u.2>0
 ·exact c
 ·unfold nz at h
  have d:u.1*u.1=0:=by grind
  have f:u.2*u.2=0:=by grind
  rcases Rat.mul_eq_zero.1 d with e|e<;>rcases Rat.mul_eq_zero.1 f with e'|e'<;>grind
def Cn (u w v':V2):Prop:=cr u w>0/\(∃a b:Rat,a>0/\b>0/\v'=FD a u b w)\/cr u w<=0/\∃a:Rat,a>0/\v'=FD a (Lk u) 0 w
section
variable {D:List V2} (h:He D)
include h
end
theorem JA {u w s:V2}(nu:nz u)(nw:nz w)(ns:nz s)(o:pv s u/\pv u w\/pv u w/\pv w s\/pv w s/\pv s u)
  (a:cr u s>0)(b:cr s w>0)(c:cr u w>0):False:=by
 have l:=AJ u w s
 have m:=Ir u w s
 have s1:=fh u s
 have s2:=fh s w
 rcases ko nu with hu|hu<;>rcases ko nw with hw|hw<;>rcases ko ns with hs|hs
 ·rcases o with ⟨p,q⟩|⟨p,q⟩|⟨p,q⟩
  ·have:=ib hs hu p;grind
  ·have:=ib hw hs q;grind
  ·have:=ib hw hs p;grind
 ·unfold up at hu hw
  unfold dn at hs
  have i:=mn (show cr u s≥0 by grind) (show w.2≥0 by grind)
  have j:=mn (show cr s w≥0 by grind) (show u.2≥0 by grind)
  have k:=mn (show cr u w≥0 by grind) (show -s.2≥0 by grind)
  have d:cr u s*w.2=0:=by grind
  have e:cr s w*u.2=0:=by grind
  have f:w.2=0:=by rcases Rat.mul_eq_zero.1 d with h|h<;>grind
  have g:u.2=0:=by rcases Rat.mul_eq_zero.1 e with h|h<;>grind
  unfold cr at c
  rw [f,g] at c
  grind
 ·rcases o with ⟨p,q⟩|⟨p,q⟩|⟨p,q⟩
  ·have:=ib hs hu p;grind
  ·exact dN hw hs q
  ·exact dN hw hs p
 ·rcases o with ⟨p,q⟩|⟨p,q⟩|⟨p,q⟩
  ·exact dN hs hu p
  ·have:=f_ hw hs q;grind
  ·exact dN hs hu q
 ·rcases o with ⟨p,q⟩|⟨p,q⟩|⟨p,q⟩
  ·exact dN hu hw q
  ·exact dN hu hw p
  ·have:=ib hw hs p;grind
 ·rcases o with ⟨p,q⟩|⟨p,q⟩|⟨p,q⟩
  ·exact dN hu hw q
  ·exact dN hu hw p
  ·have:=f_ hs hu q;grind
 ·unfold dn at hu hw
  unfold up at hs
  have i:=mn (show cr u s≥0 by grind) (show -w.2≥0 by grind)
  have j:=mn (show cr s w≥0 by grind) (show -u.2≥0 by grind)
  have k:=mn (show cr u w≥0 by grind) (show s.2≥0 by grind)
  have d:cr u s*w.2=0:=by grind
  have e:cr s w*u.2=0:=by grind
  have f:w.2=0:=by rcases Rat.mul_eq_zero.1 d with h|h<;>grind
  have g:u.2=0:=by rcases Rat.mul_eq_zero.1 e with h|h<;>grind
  unfold cr at c
  rw [f,g] at c
  grind
 ·rcases o with ⟨p,q⟩|⟨p,q⟩|⟨p,q⟩
  ·have:=f_ hs hu p;grind
  ·have:=f_ hw hs q;grind
  ·have:=f_ hw hs p;grind
theorem Hj {u w s:V2}(nu:nz u)(nw:nz w)(ns:nz s)(o:pv s u/\pv u w\/pv u w/\pv w s\/pv w s/\pv s u)
  (a:cr u s>0)(c:cr u w<=0):False:=by
 have s1:=fh u s
 rcases ko nu with hu|hu<;>rcases ko ns with hs|hs
 ·rcases o with ⟨p,q⟩|⟨p,q⟩|⟨p,q⟩
  ·have:=ib hs hu p;grind
  ·rcases ko nw with hw|hw
   ·have:=ib hu hw p;grind
   ·exact dN hw hs q
  ·have:=ib hs hu q;grind
 ·rcases o with ⟨p,q⟩|⟨p,q⟩|⟨p,q⟩
  ·exact dN hs hu p
  ·rcases ko nw with hw|hw
   ·have:=ib hu hw p;grind
   ·exact b2 hu hs hw c (f_ hw hs q) (by grind)
  ·exact dN hs hu q
 ·rcases o with ⟨p,q⟩|⟨p,q⟩|⟨p,q⟩
  ·rcases ko nw with hw|hw
   ·exact dN hu hw q
   ·have:=f_ hu hw q;grind
  ·rcases ko nw with hw|hw
   ·exact dN hu hw p
   ·have:=f_ hu hw p;grind
  ·rcases ko nw with hw|hw
   ·exact b4 hu hs hw c (ib hw hs p) (by grind)
   ·exact dN hw hs p
 ·rcases o with ⟨p,q⟩|⟨p,q⟩|⟨p,q⟩
  ·have:=f_ hs hu p;grind
  ·rcases ko nw with hw|hw
   ·exact dN hu hw p
   ·have:=f_ hu hw p;grind
  ·have:=f_ hs hu q;grind
section
variable {D:List V2} (h:He D)
include h
theorem ME {i k:Nat}{u w s:V2}(hi:D[i]?=some u)(hw:D[(i+1)%D.length]?=some w)(hk:D[k]?=some s)
  (n1:k≠i)(n2:k≠(i+1)%D.length):pv s u/\pv u w\/pv u w/\pv w s\/pv w s/\pv s u:=by
 have li:i<D.length:=(List.getElem?_eq_some_iff.1 hi).1
 have c:k<D.length:=(List.getElem?_eq_some_iff.1 hk).1
 by_cases b:i+1<D.length
 ·rw [Nat.mod_eq_of_lt b] at hw n2
  by_cases a:k<i
  ·exact .inl ⟨uO h hk hi a,uO h hi hw (by omega)⟩
  ·exact .inr (.inl ⟨uO h hi hw (by omega),uO h hw hk (by omega)⟩)
 ·have:i+1=D.length:=by omega
  rw [this,Nat.mod_self] at hw n2
  exact .inr (.inr ⟨uO h hw hk (by omega),uO h hk hi (by omega)⟩)
theorem IY {i:Nat}{u w v':V2}(hi:D[i]?=some u)(hw:D[(i+1)%D.length]?=some w)(hs:Cn u w v') :
  ∀r∈D,cr r v'≠0:=by
 intro r f z
 have hu:u∈D:=List.mem_of_getElem? hi
 have m:w∈D:=List.mem_of_getElem? hw
 have n:=sq_pos (h.nz u hu)
 have o:=sq_pos (h.nz r f)
 rcases hs with ⟨c,a,b,a0,b0,rfl⟩|⟨c,a,a0,rfl⟩
 ·
  have key:∀s∈D,cr s (FD a u b w)=0->cr u s>0->False:=fun s hs z p=>by
   have s1:=fh u s
   rw [As,s1] at z
   have q:cr s w>0:=by
    by_cases q:cr s w>0
    ·exact q
    ·have:=mp a0 p
     have:=mn (show b≥0 by grind) (show -(cr s w)≥0 by grind)
     grind
   obtain ⟨k,d⟩:=List.getElem?_of_mem hs
   refine JA (h.nz u hu) (h.nz w m) (h.nz s hs) (ME h hi hw d (fun e=>?_) (fun e=>?_)) p q c
   ·rw [e,hi] at d;cases d;unfold cr at p;grind
   ·rw [e,hw] at d;cases d;unfold cr at q;grind
  by_cases p:cr u r>0
  ·exact key r f z p
  ·obtain ⟨s,hs,g⟩:=h.cl r f
   obtain ⟨k,j,t,l⟩:=wh g u
   obtain ⟨y,v,x,_⟩:=wh g (FD a u b w)
   by_cases q:cr u r=0
   ·have s1:=fh u r
    rw [As,s1,q] at z
    have:b*cr r w=0:=by grind
    have A:cr r w=0:=by rcases Rat.mul_eq_zero.1 this with e|e<;>grind
    have B:=Ir u w r
    have C:=AJ u w r
    have:=KR (h.nz r f) (c:=cr u w) (by grind) (by grind)
    grind
   ·refine key s hs (by rw [x,z];grind) ?_
    rw [l]
    have:=mp j (show -(cr u r)>0 by grind)
    grind
 ·have key:∀s∈D,cr u s>0->False:=fun s hs p=>by
   obtain ⟨k,d⟩:=List.getElem?_of_mem hs
   refine Hj (h.nz u hu) (h.nz w m) (h.nz s hs) (ME h hi hw d (fun e=>?_) (fun e=>?_)) p c
   ·rw [e,hi] at d;cases d;unfold cr at p;grind
   ·rw [e,hw] at d;cases d;grind
  rw [As,HW] at z
  have d0:dt r u=0:=by
   have:a*dt r u=0:=by grind
   rcases Rat.mul_eq_zero.1 this with e|e<;>grind
  have E:cr u r≠0:=fun e=>by
   have:cr u r*cr u r+dt r u*dt r u=dt u u*dt r r:=by unfold cr dt;grind
   have:=mp n o
   grind
  by_cases p:cr u r>0
  ·exact key r f p
  ·obtain ⟨s,hs,g⟩:=h.cl r f
   obtain ⟨k,j,t,l⟩:=wh g u
   refine key s hs ?_
   rw [l]
   have:=mp j (show -(cr u r)>0 by grind)
   grind
def LK (D S:List V2):Prop:=(D=[]/\S=[(1,0)])\/D≠[]/\(∀x∈S,∃i u w,D[i]?=some u/\D[(i+1)%D.length]?=some w/\Cn u w x) /\
 ∀i u w,D[i]?=some u->D[(i+1)%D.length]?=some w->∃x∈S,Cn u w x
theorem G0 {S:List V2}(hS:LK D S):∀x∈S,∀r∈D,cr r x≠0:=by
 rcases hS with ⟨rfl,rfl⟩|⟨_,d,_⟩
 ·intro x _ r e;cases e
 ·intro x f
  obtain ⟨i,u,w,a,b,c⟩:=d x f
  exact IY h a b c
end
end Go.Proofs.Tryz.Sec
namespace Go.Proofs.Tryz
open Go.Eng
section
open Go.RowKit Go.Extern.Stop Go.Stop Go.Extern
theorem CN (v:Value)(w:World):(Extern.ReflectliteType.typeOf #[.iface 335 v]).run prog w=.ok (.iface 211 (.agg #[.pointer (some ⟨3,335,none⟩)])) w:=by kernel_rfl
theorem tw (w : World) : ((Extern.ReflectliteType.method fun t => do Extern.Rtype.noPackHeld "Comparable" t; (fun a => Value.bool a.comparable) <$> typeInfo t) #[.agg #[.pointer (some ⟨3, 335, none⟩)]]).run prog w = .ok (.bool true) w := by kernel_rfl
theorem F4:(prog.info? 335).map (·.comparable)=some true:=by kernel_rfl
theorem F6:(prog.info? 360).map (·.size)=some 1:=by kernel_rfl
theorem kL (v : Value)(w : World) : (Go.method 476 211 v "Comparable").run prog w = .ok (271, v) w := by kernel_rfl
theorem F5 (a:Addr)(w:World) :
  Calls prog 27 #[.iface 335 (.pointer (some a)),.iface 335 (.pointer (some a))] w fun e w'=>e=.returned (.bool true)/\w'=w:=by
 obtain ⟨i,hi,hcmp⟩:=Option.map_eq_some_iff.1 F4
 obtain ⟨j,hj,hjs⟩:=Option.map_eq_some_iff.1 F6
 have h8:=@run_callFunc_extern prog 61 _ Extern.ReflectliteType.typeOf func61 (by kernel_rfl) (by kernel_rfl) (by kernel_rfl) (by kernel_rfl)
 have h32 := @run_callFunc_extern prog 271 _ (Extern.ReflectliteType.method fun t => do Extern.Rtype.noPackHeld "Comparable" t; pure (.bool (← typeInfo t).comparable)) func271 (by kernel_rfl) (by kernel_rfl) (by kernel_rfl) (by kernel_rfl)
 have tT:=CN
 have cT:=tw
 have mR:=kL
 have heq:=run_eql_iface_ptr_same (P:=prog) w a underlying29 underlying335 hi hcmp hj
 go_enter func27,ntmps27
 go_wp2
 refine wp_loop_rounds 1 ?_
 rw [rounds_succ]
 go_wp2
 go_ret
 exact ⟨rfl,rfl⟩
end
theorem Aa {f:FuncId}{args:Array Value}{V:View}{v:Value}(hc:fZ prog f)(h:Calls prog f args V.w fun e w'=>e=.returned v/\w'=V.w):Acts prog f args V fun r _=>r=v:=
 ⟨hc,h.mono fun e w' ⟨a,b⟩=>by subst b;exact ⟨v,a,du.refl _ _,rfl⟩⟩
theorem iG {V:View}{y:Value}(h:SErr y):Acts prog 27 #[y,y] V fun r _=>r=.bool true:=by
 obtain ⟨a,rfl⟩:=h
 exact Aa ⟨f27,func27,rfl,by kernel_rfl⟩ (F5 a V.w)
end Go.Proofs.Tryz
namespace Go.Proofs.Tryz
open Go.Eng Go.Big
theorem c_bsp_Of' {V:View}{l:List Nd}(hb:∀x∈l,Bd x.ln){v:Value}{root:Int}(h:AT V v root l) :
  Acts prog 93 #[v] V fun r V'=>∃q,r=.tuple #[.pointer q,.bool (ofT l root).isSome]/\∀t,ofT l root=some t->RT V' q t:=by
 obtain ⟨p,n,c,rfl,h⟩:=h
 refine (DX hb root h).mono ?_
 rintro r V' _ ⟨b,d⟩
 cases e:ofT l root with
 | none=>obtain ⟨q,rfl⟩:=b e;exact ⟨q,rfl,fun t a=>by cases a⟩
 | some t=>obtain ⟨q,rfl,f⟩:=d t e;exact ⟨q,rfl,fun g a=>by cases a;exact f⟩
def Tr.depth:Tr->Nat
 | .leaf _=>0
 | .node _ a b=>1+max a.depth b.depth
theorem j7:∀t:Tr,t.depth<=t.size
 | .leaf _=>Nat.le_refl _
 | .node _ a b=>by have:=j7 a;have:=j7 b;simp only [Tr.depth,Tr.size];omega
theorem ED {a b:Nat}(ha:a<=1000000)(hb:b<=1000000):i64.wrap ((1:Int)+maxI (a:Int) (b:Int))=((1+max a b:Nat):Int):=by
 have:maxI (a:Int) (b:Int)=((max a b:Nat):Int):=by unfold maxI;split<;>omega
 rw [this,i64w (by omega)]
 omega
theorem c_bsp_Depth:∀(t:Tr) {V:View} {p:OA},RT V p t->t.size<=1000000->Acts prog 94 #[.pointer p] V fun r V'=>r=.int .i64 (t.depth:Int)
 | .leaf i,V,p,h,hs=>by
  refine kr p V _ fun V1 l1=>(c_bsp_IsLeaf (h.le l1)).mono ?_
  rintro r V2 l2 rfl
  exact ⟨_,rfl,fun _ V3 l3=>rfl,(fun h=>nomatch h)⟩
 | .node ln a b,V,p,h,hs=>by
  have h0:=h
  refine kr p V _ fun V1 l1=>(c_bsp_IsLeaf (h0.le l1)).mono ?_
  rintro r V2 l2 rfl
  obtain ⟨l,m,n,o,q,s,u,v,w,x,pl,f,i,rfl,d,y,g,c⟩:=h.le (l1.trans l2)
  have s1:=j7 a
  have s2:=j7 b
  simp only [Tr.size] at hs
  refine ⟨_,rfl,(fun h=>nomatch h),fun _=>⟨rfl,rfl,pl,rdc d 9 rfl,rfl,rfl,f,rdc d 10 rfl,fun z e=>(c_bsp_Depth a (g.le e) (by omega)).mono ?_⟩⟩
  rintro r A j rfl
  refine ⟨_,rfl,fun B k=>(c_bsp_Depth b (c.le (e.trans (j.trans k))) (by omega)).mono ?_⟩
  rintro r C D rfl
  exact ⟨_,rfl,fun E F=>by rw [ED (by omega) (by omega)];rfl⟩
def Nr:Tr->Int
 | .leaf i=>if i then 0 else 1
 | .node ..=>0
end Go.Proofs.Tryz
namespace Go.Eng
open Go.Proofs.Tryz
variable {α:Type} {sz:Nat} {R:View->Value->α->Prop} {V V':View} {d:α}
theorem Row.get {vs:List Value}{al:List α}(h:Row sz R V vs al){i:Nat}(hi:i<al.length)(hs:0<sz) :
  ∃xs:List Value,xs.length=sz/\R V (.agg xs.toArray) (al.getD i d)/\i*sz+sz<=vs.length/\(vs.drop (i*sz)).take sz=xs:=by
 obtain ⟨xs,b,c,e⟩:=h.at_ i hi
 have g:=h.nQ hs
 have:(i+1)*sz<=al.length*sz:=Nat.mul_le_mul_right _ hi
 rw [Nat.succ_mul] at this
 refine ⟨xs,b,by simpa [List.getD_eq_getElem?_getD,hi] using c,by omega,?_⟩
 apply List.ext_getElem?
 intro j
 rw [List.getElem?_take]
 split
 ·rename_i f
  rw [List.getElem?_drop]
  have a:j<xs.length:=by omega
  rw [e j _ (List.getElem?_eq_getElem a),List.getElem?_eq_getElem a]
 ·rename_i f
  rw [List.getElem?_eq_none (by omega)]
theorem Row.put {vs:List Value}{al:List α}(h:Row sz R V vs al){i:Nat}(hi:i<al.length)(hs:0<sz){xs:List Value}{a:α}(hx:xs.length=sz)(ha:R V (.agg xs.toArray) a) :
  Row sz R V (cj vs (i*sz) xs) (al.set i a):=by
 have r:=h.nQ hs
 have l:∀k,k<al.length->k*sz+sz<=vs.length:=fun k d=>by
  have:(k+1)*sz<=al.length*sz:=Nat.mul_le_mul_right _ d
  rw [Nat.succ_mul] at this
  omega
 have m:=l i hi
 rw [jA (by omega)]
 have f:(vs.take (i*sz)).length=i*sz:=by rw [List.length_take];omega
 refine ⟨fun k d=>?_⟩
 rw [List.length_set] at d
 by_cases e:k=i
 ·subst e
  refine ⟨xs,hx,by simpa using ha,fun j x b=>?_⟩
  have c:=(List.getElem?_eq_some_iff.1 b).1
  rw [List.append_assoc,List.getElem?_append_right (by omega),f,Nat.add_sub_cancel_left,List.getElem?_append_left c]
  exact b
 ·obtain ⟨n,o,p,g⟩:=h.at_ k d
  refine ⟨n,o,by rw [List.getElem_set_ne (fun q=>e q.symm)];exact p,fun j x b=>?_⟩
  have c:=(List.getElem?_eq_some_iff.1 b).1
  by_cases lt:k<i
  ·have:(k+1)*sz<=i*sz:=Nat.mul_le_mul_right _ lt
   rw [Nat.succ_mul] at this
   rw [List.append_assoc,List.getElem?_append_left (by omega),List.getElem?_take,if_pos (by omega)]
   exact g j x b
  ·have:(i+1)*sz<=k*sz:=Nat.mul_le_mul_right _ (by omega)
   rw [Nat.succ_mul] at this
   rw [List.getElem?_append_right (by rw [List.length_append];omega),List.length_append,f,hx,List.getElem?_drop]
   rw [show i*sz+sz+(k*sz+j-(i*sz+sz))=k*sz+j by omega]
   exact g j x b
theorem oV {vs xs:List Value}{o:Nat}(h:o+xs.length<=vs.length):(cj vs o xs).length=vs.length:=by
 rw [jA h];simp only [List.length_append,List.length_take,List.length_drop];omega
theorem Row.swap {vs:List Value}{al:List α}(h:Row sz R V vs al){i j:Nat}(hi:i<al.length)(hj:j<al.length)(hs:0<sz){xs ys:List Value}(hx:xs.length=sz)(hy:ys.length=sz)(h1:R V (.agg xs.toArray) (al.getD i d))(h2:R V (.agg ys.toArray) (al.getD j d)) :
  Row sz R V (cj (cj vs (i*sz) ys) (j*sz) xs) (oW d al i j):=by
 have:=h.put hi hs hy h2
 exact this.put (by simpa using hj) hs hx h1
end Go.Eng
namespace Go.Proofs.Tryz
open Go.Eng Go.Big
section
variable {α:Type} (e:α->α->Bool)
def vO:α->List α->List α
 | _,[]=>[]
 | p,a::r=>if e a p then vO a r else a::vO a r
def tq:List α->List α
 | []=>[]
 | a::r=>a::vO e a r
variable {e}
theorem qL:∀{r:List α} {p:α},∀x∈vO e p r,x∈r
 | [],p,x,h=>h
 | b::r,p,x,h=>by
  unfold vO at h
  split at h
  ·exact List.mem_cons_of_mem _ (qL x h)
  ·rcases List.mem_cons.1 h with rfl|h
   ·exact List.mem_cons_self ..
   ·exact List.mem_cons_of_mem _ (qL x h)
theorem D0 {l:List α}:∀x∈tq e l,x∈l:=by
 cases l with
 | nil=>exact fun x h=>h
 | cons a r=>
  intro x h
  rcases List.mem_cons.1 h with rfl|h
  ·exact List.mem_cons_self ..
  ·exact List.mem_cons_of_mem _ (qL x h)
end
end Go.Proofs.Tryz
namespace Go.Eng
open Go.Proofs.Tryz
section
variable {α:Type} {sz:Nat} {R:View->Value->α->Prop} {V:View} {d:α}
end
end Go.Eng
namespace Go.Proofs.Tryz
open Go.Eng Go.Big
def AL (x y:Rat):Rat:=if 0<fv y x then y else x
def AP (x y:Rat):Rat:=if fv y x<0 then y else x
theorem vN (x y:Rat):(x<y/\fv x y=-1)\/(x=y/\fv x y=0)\/(y<x/\fv x y=1):=by
 by_cases a:x<y
 ·exact .inl ⟨a,BR.1 a⟩
 ·by_cases b:x=y
  ·exact .inr (.inl ⟨b,pW.1 b⟩)
  ·have c:y<x:=by grind
   exact .inr (.inr ⟨c,BQ.1 c⟩)
theorem Sp.me {s:Sp}:s.emp=false↔(s.a=true\/s.b=true\/s.lo<s.hi):=by
 unfold Sp.emp
 rcases vN s.lo s.hi with ⟨h,e⟩|⟨h,e⟩|⟨h,e⟩<;>rw [e]<;>cases s.a<;>cases s.b<;>simp<;>grind
def Sp.meet (v w:Sp):Sp:=⟨if v.a then w.lo else if w.a then v.lo else AL v.lo w.lo,if v.b then w.hi else if w.b then v.hi else AP v.hi w.hi,if v.a then w.a else false,if v.b then w.b else false⟩
theorem Sp.yI {v w:Sp}(h1:v.can)(h2:w.can):(v.meet w).can:=by
 unfold Sp.meet
 constructor<;>dsimp only
 ·cases hv:v.a with
  | false=>intro h;cases h
  | true=>exact fun h=>h2.1 h
 ·cases hv:v.b with
  | false=>intro h;cases h
  | true=>exact fun h=>h2.2 h
def Sp.cS (s:Sp):Rat:=if s.a then (if s.b then 0 else s.hi-((1:Int):Rat)) else if s.b then s.lo+((1:Int):Rat) else (s.lo+s.hi)*((2:Int):Rat)⁻¹
theorem Sp.B_ {s:Sp}(h:s.emp=false):(s.a=false->s.lo<s.cS)/\(s.b=false->s.cS<s.hi):=by
 rw [Sp.me] at h
 unfold Sp.cS
 cases ha:s.a<;>cases hb:s.b<;>simp [ha,hb] at h⊢<;> grind
def jo (m l:L3):Rat:=((m.1:Rat)*(l.2.1:Rat))+((m.2.1:Rat)*(-(l.1:Rat)))
def jR (m l:L3):Rat:=ar m (jN l 0) (jO l 0)
theorem wN (m l:L3)(t:Rat):ar m (jN l t) (jO l t)=jR m l+jo m l*t:=by
 unfold jR ar jo jN jO;grind
def fw (m l:L3):Rat:=-(jR m l*(jo m l)⁻¹)
def eI (l:L3)(s:Sp)(m:L3):Sp:=
 if (jo m l).num.sign==0 then s else if (jo m l).num.sign==1 then s.meet ⟨fw m l,0,false,true⟩ else s.meet ⟨0,fw m l,true,false⟩
def eH (l:L3)(s:Sp)(m:L3):Bool:=
 if (jo m l).num.sign==0 then decide ((jR m l).num.sign>0) else !(eI l s m).emp
theorem qf (q:Rat):(q=0/\q.num.sign=0)\/(0<q/\q.num.sign=1)\/(q<0/\q.num.sign=-1):=by
 have a:=@yM q
 have b:=@yN q
 have c:=@Rat.num_eq_zero q
 rcases Int.lt_trichotomy q.num 0 with h|h|h
 ·exact .inr (.inr ⟨a.1 h,Int.sign_eq_neg_one_of_neg h⟩)
 ·exact .inl ⟨c.1 h,by rw [h];rfl⟩
 ·exact .inr (.inl ⟨b.1 h,Int.sign_eq_one_of_pos h⟩)
theorem D2 {l:L3}{s:Sp}{m:L3}(he:s.emp=false)(hb:eH l s m=true):(eI l s m).emp=false:=by
 unfold eH at hb
 split at hb
 ·rename_i h
  unfold eI
  rw [if_pos h];exact he
 ·simpa using hb
theorem D3 {l:L3}{s:Sp}{m:L3}(hc:s.can):(eI l s m).can:=by
 unfold eI
 split
 ·exact hc
 ·split
  ·exact Sp.yI hc ⟨(fun h=>nomatch h),fun _=>rfl⟩
  ·exact Sp.yI hc ⟨fun _=>rfl,(fun h=>nomatch h)⟩
theorem val_rev (m:L3)(x y:Rat):ar (revL m) x y=-ar m x y:=by
 unfold ar revL;simp only [Rat.intCast_neg];grind
theorem PV.ex {V:View}{v:Value}{l:L3}{s:Sp}(h:HN V v l s):∃(x1 x2:Int)(p:OA)(y1 y2:Int)(q:OA)(z1 z2:Int)(r:OA)(u1 u2:Int)(t:OA)(w1 w2:Int)(o:OA),
 v=.agg #[.int .i64 x1,.int .i64 x2,.pointer p,.int .i64 y1,.int .i64 y2,.pointer q,.int .i64 z1,.int .i64 z2,.pointer r,.int .i64 u1,.int .i64 u2,.pointer t,.int .i64 w1,.int .i64 w2,.pointer o,.bool s.a,.bool s.b]:=by
 obtain ⟨_,_,_,_,_,_,_,_,_,_,_,_,_,_,_,e,-⟩:=h;exact ⟨_,_,_,_,_,_,_,_,_,_,_,_,_,_,_,e⟩
theorem Ag {V:View}{v w:Value}{x y:Rat}(hx:RR V v x)(hy:RR V w y){k:Nat}(sx:Sz k x)(sy:Sz k y)(hk:2*k<1099511627776) :
  Acts prog 200 #[v,w] V fun r V'=>RR V' r (AL x y):=by
 have g:=hx
 have i:=hy
 obtain ⟨a,b,c,rfl⟩:=hx.shape
 obtain ⟨d,e,f,rfl⟩:=hy.shape
 refine zy a b c d e f V _ fun o j=>(jc (i.le j) (g.le j) sy sx (by omega)).mono ?_
 rintro r V2 l rfl
 unfold AL
 exact ⟨_,rfl,fun h p m=>by rw [if_pos (of_decide_eq_true h)];exact i.le (j.trans (l.trans m)),fun h q n=>by rw [if_neg (of_decide_eq_false h)];exact g.le (j.trans (l.trans n))⟩
theorem Ah {V:View}{v w:Value}{x y:Rat}(hx:RR V v x)(hy:RR V w y){k:Nat}(sx:Sz k x)(sy:Sz k y)(hk:2*k<1099511627776) :
  Acts prog 201 #[v,w] V fun r V'=>RR V' r (AP x y):=by
 have g:=hx
 have i:=hy
 obtain ⟨a,b,c,rfl⟩:=hx.shape
 obtain ⟨d,e,f,rfl⟩:=hy.shape
 refine zz a b c d e f V _ fun o j=>(jc (i.le j) (g.le j) sy sx (by omega)).mono ?_
 rintro r V2 l rfl
 unfold AP
 exact ⟨_,rfl,fun h p m=>by rw [if_pos (of_decide_eq_true h)];exact i.le (j.trans (l.trans m)),fun h q n=>by rw [if_neg (of_decide_eq_false h)];exact g.le (j.trans (l.trans n))⟩
theorem Sp.wb {v w:Sp}{k:Nat}(h1:v.sz k)(h2:w.sz k):(v.meet w).sz k:=by
 unfold Sp.meet Sp.sz AL AP
 constructor<;>dsimp only
 ·split
  ·exact h2.1
  ·split
   ·exact h1.1
   ·split
    ·exact h2.1
    ·exact h1.1
 ·split
  ·exact h2.2
  ·split
   ·exact h1.2
   ·split
    ·exact h2.2
    ·exact h1.2
theorem uk {V:View}{v w:Value}{s t:Sp}(h:BE V v s)(h':BE V w t){k:Nat}(hs:s.sz k)(ht:t.sz k)(hk:2*k<1099511627776) :
  Acts prog 157 #[v,w] V fun r V'=>∃u,r=.tuple #[u,.bool (!(s.meet t).emp)]/\BE V' u (s.meet t):=by
 obtain ⟨S,T,p,l,m,q,rfl,U,y⟩:=h
 obtain ⟨W,X,o,Y,Z,j,rfl,g1,g2⟩:=h'
 have Nr:s.a=true->(s.meet t).lo=t.lo/\(s.meet t).a=t.a:=fun e=>by simp [Sp.meet,e]
 have C:s.a=false->t.a=false->(s.meet t).lo=AL s.lo t.lo:=fun e f=>by simp [Sp.meet,e,f]
 have D:s.a=false->t.a=true->(s.meet t).lo=s.lo:=fun e f=>by simp [Sp.meet,e,f]
 have PB:s.a=false->(s.meet t).a=s.a:=fun e=>by simp [Sp.meet,e]
 have n:s.b=true->(s.meet t).hi=t.hi/\(s.meet t).b=t.b:=fun e=>by simp [Sp.meet,e]
 have E:s.b=false->t.b=false->(s.meet t).hi=AP s.hi t.hi:=fun e f=>by simp [Sp.meet,e,f]
 have F:s.b=false->t.b=true->(s.meet t).hi=s.hi:=fun e f=>by simp [Sp.meet,e,f]
 have x:s.b=false->(s.meet t).b=s.b:=fun e=>by simp [Sp.meet,e]
 refine sC S T p l m q s.a s.b W X o Y Z j t.a t.b V _ ⟨fun z i=>RR i (.agg #[.int .i64 z.1,.int .i64 z.2.1,.pointer z.2.2.1]) (s.meet t).lo/\RR i (.agg #[.int .i64 z.2.2.2.1,.int .i64 z.2.2.2.2.1,.pointer z.2.2.2.2.2.1]) s.hi/\z.2.2.2.2.2.2.1=(s.meet t).a/\z.2.2.2.2.2.2.2=s.b,⟨fun c=>?_,fun c=>⟨fun d i G=>(Ag (U.le G) (g1.le G) hs.1 ht.1 hk).mono ?_,fun d=>?_⟩⟩,?_⟩
 ·refine ⟨(W,X,o,l,m,q,t.a,s.b),by and_intros<;>rfl,?_,y,(Nr c).2.symm,rfl⟩
  rw [(Nr c).1];exact g1
 ·rintro r V2 l2 g
  rw [Bool.not_eq_true'] at d
  have H:=g
  obtain ⟨I,J,K,rfl⟩:=g.shape
  refine ⟨_,_,_,rfl,(I,J,K,l,m,q,s.a,s.b),by and_intros<;>rfl,?_,y.le (G.trans l2),(PB c).symm,rfl⟩
  rw [C c d];exact H
 ·rw [Bool.not_eq_false'] at d
  refine ⟨(S,T,p,l,m,q,s.a,s.b),by and_intros<;>rfl,?_,y,(PB c).symm,rfl⟩
  rw [D c d];exact U
 ·rintro ⟨L,M,N,z4,z5,z6,z7,z8⟩ V3 O ⟨A,k2,k3,k4⟩
  dsimp only at A k2 k3 k4
  subst k3 k4
  refine ⟨rfl,fun z i=>RR i (.agg #[.int .i64 z.1,.int .i64 z.2.1,.pointer z.2.2.1]) (s.meet t).lo/\RR i (.agg #[.int .i64 z.2.2.2.1,.int .i64 z.2.2.2.2.1,.pointer z.2.2.2.2.2.1]) (s.meet t).hi/\z.2.2.2.2.2.2.1=(s.meet t).a/\z.2.2.2.2.2.2.2=(s.meet t).b,⟨fun c=>?_,fun c=>⟨fun d V4 P=>(Ah (y.le (O.trans P)) (g2.le (O.trans P)) hs.2 ht.2 hk).mono ?_,fun d=>?_⟩⟩,?_⟩
  ·refine ⟨(L,M,N,Y,Z,j,(s.meet t).a,t.b),by and_intros<;>rfl,A,?_,rfl,(n c).2.symm⟩
   rw [(n c).1];exact g2.le O
  ·rintro r V5 l5 g
   rw [Bool.not_eq_true'] at d
   have H:=g
   obtain ⟨I,J,K,rfl⟩:=g.shape
   refine ⟨_,_,_,rfl,(L,M,N,I,J,K,(s.meet t).a,s.b),by and_intros<;>rfl,A.le (P.trans l5),?_,rfl,(x c).symm⟩
   rw [E c d];exact H
  ·rw [Bool.not_eq_false'] at d
   refine ⟨(L,M,N,z4,z5,z6,(s.meet t).a,s.b),by and_intros<;>rfl,A,?_,rfl,(x c).symm⟩
   rw [F c d];exact k2
  ·rintro ⟨l,m,y3,y4,y5,y6,y7,y8⟩ V6 l6 ⟨Q,R,j3,j4⟩
   dsimp only at Q R j3 j4
   subst j3 j4
   refine ⟨rfl,fun V7 B=>(Ae ⟨_,_,_,_,_,_,rfl,Q.le B,R.le B⟩ (Sp.wb hs ht) hk).mono ?_⟩
   rintro r V8 l8 rfl
   exact ⟨_,rfl,fun V9 l9=>⟨_,rfl,_,_,_,_,_,_,rfl,Q.le (B.trans (l8.trans l9)),R.le (B.trans (l8.trans l9))⟩⟩
theorem kK {L M:L3}{k:Nat}(sl:ni k L)(sm:ni k M):Sz (4*k+3) (jo M L):=cw sm.1 sm.2.1 sl.2.1 sl.1.neg
theorem DJ {L M:L3}:(((M.1:Rat)*((L.1:Rat)*(((-(L.2.2:Rat))*(((L.1:Rat)*(L.1:Rat))+((L.2.1:Rat)*(L.2.1:Rat)))⁻¹))))+((M.2.1:Rat)*((L.2.1:Rat)*(((-(L.2.2:Rat))*(((L.1:Rat)*(L.1:Rat))+((L.2.1:Rat)*(L.2.1:Rat)))⁻¹)))))+(M.2.2:Rat)=jR M L:=by
 unfold jR ar jN jO g_;grind
theorem kJ {L M:L3}{k:Nat}(sl:ni k L)(sm:ni k M):Sz (50*k+49) (jR M L):=by
 rw [←DJ]
 exact Sz.mono (iX (k:=10*k+9) (sm.1.mono (by omega)) (sm.2.1.mono (by omega)) (sm.2.2.mono (by omega)) (cF sl.1 sl.2.1 sl.2.2) (cG sl.1 sl.2.1 sl.2.2)) (by omega)
theorem wL {L M:L3}{k:Nat}(sl:ni k L)(sm:ni k M):Sz (60*k+60) (fw M L):=Sz.mono ((kJ sl sm).mul (jC (kK sl sm))).neg (by omega)
theorem Jo (k:Nat)(hk:0<k):Sz k (0:Rat):=⟨by show (0:Int).natAbs<_;exact Nat.lt_of_lt_of_le (by decide) (Nat.one_le_two_pow),Nat.one_lt_two_pow (by omega)⟩
theorem xF {V:View}{l v m:Value}{L:L3}{s:Sp}{M:L3}(hl:RLi V l L)(hv:BE V v s)(hm:RLi V m M){k:Nat}(sl:ni k L)(hs:s.sz k)(sm:ni k M)(hk:200*k+200<274877906944) :
  Acts prog 167 #[l,v,m] V fun r V'=>∃w,r=.tuple #[w,.bool (eH L s M)]/\BE V' w (eI L s M):=by
 have f:=hl
 have b:=hv
 have g:=hm
 obtain ⟨_,_,_,_,_,_,_,_,_,rfl,-,-,-⟩:=hl
 obtain ⟨_,_,_,_,_,_,rfl,-,-⟩:=hv
 obtain ⟨_,_,_,_,_,_,_,_,_,rfl,-,-,-⟩:=hm
 have h:s.sz (60*k+60):=⟨hs.1.mono (by omega),hs.2.mono (by omega)⟩
 have z:=Jo (60*k+60) (by omega)
 refine tL _ _ _ _ _ _ _ _ _ _ _ _ _ _ _ _ _ _ _ _ _ _ _ _ _ _ V _ fun V1 B=>(fr (g.le B) sm.1 sm.2.1 sm.2.2 (by omega)).mono ?_
 rintro r V2 l2 g1
 have C:=g1
 obtain ⟨_,_,_,_,_,_,rfl,-,-⟩:=g1
 refine ⟨_,_,_,_,_,_,rfl,fun V3 D=>(jf (f.le (B.trans (l2.trans D))) sl.1 sl.2.1 sl.2.2 (by omega)).mono ?_⟩
 rintro r V4 l4 g2
 have E:=g2
 obtain ⟨_,_,_,_,_,_,rfl,-,-⟩:=g2
 refine ⟨_,_,_,_,_,_,rfl,fun V5 F=>(jg (C.le (D.trans (l4.trans F))) (E.le F) sm.1 sm.2.1 sl.2.1 sl.1.neg (by omega)).mono ?_⟩
 rintro r G l6 g3
 have H:RR G r (jo M L):=g3
 obtain ⟨_,_,_,rfl⟩:=g3.shape
 have i:V.Le G:=B.trans (l2.trans (D.trans (l4.trans (F.trans l6))))
 refine ⟨_,_,_,rfl,fun V7 I=>(kO (f.le (i.trans I)) sl.1 sl.2.1 sl.2.2 (by omega)).mono ?_⟩
 rintro r V8 l8 g4
 have LV:=g4
 obtain ⟨_,_,_,_,_,_,rfl,-,-⟩:=g4
 refine ⟨_,_,_,_,_,_,rfl,fun V9 J=>(jT (k:=10*k+9) (g.le (i.trans (I.trans (l8.trans J)))) (LV.le J) (sm.1.mono (by omega)) (sm.2.1.mono (by omega)) (sm.2.2.mono (by omega)) (cF sl.1 sl.2.1 sl.2.2) (cG sl.1 sl.2.1 sl.2.2) (by omega)).mono ?_⟩
 rintro r j K N
 rw [DJ] at N
 have O:=N
 obtain ⟨_,_,_,rfl⟩:=N.shape
 have e:G.Le j:=I.trans (l8.trans (J.trans K))
 refine ⟨_,_,_,rfl,fun a1 n=>(eC (H.le (e.trans n)) (kK sl sm) (by omega)).mono ?_⟩
 rintro r P Q rfl
 have a:j.Le P:=n.trans Q
 refine ⟨_,rfl,fun c a2 o=>(eC (O.le (a.trans o)) (kJ sl sm) (by omega)).mono ?_,fun c=>⟨fun R lV S=>(vE (O.le (a.trans S)) (H.le (e.trans (a.trans S))) (kJ sl sm) (kK sl sm) (by omega)).mono ?_,fun R xp T=>(vE (O.le (a.trans T)) (H.le (e.trans (a.trans T))) (kJ sl sm) (kK sl sm) (by omega)).mono ?_⟩⟩
 ·rintro r a3 eh rfl
  have p:eH L s M=decide ((jR M L).num.sign>0):=by unfold eH;rw [if_pos c]
  have d:eI L s M=s:=by unfold eI;rw [if_pos c]
  rw [p,d]
  exact ⟨_,rfl,fun a4 en=>⟨_,rfl,b.le (i.trans (e.trans (a.trans (o.trans (eh.trans en)))))⟩⟩
 ·have d:eI L s M=s.meet ⟨fw M L,0,false,true⟩:=by unfold eI;rw [if_neg (by rw [c];exact Bool.false_ne_true),if_pos R]
  have p:eH L s M=!(s.meet ⟨fw M L,0,false,true⟩).emp:=by rw [←d];unfold eH;rw [if_neg (by rw [c];exact Bool.false_ne_true)]
  rw [p,d]
  rintro r oB U q
  have W:=q
  obtain ⟨_,_,_,rfl⟩:=q.shape
  refine ⟨_,_,_,rfl,fun qj u=>(gT (W.le u) ((kJ sl sm).mul (jC (kK sl sm))) (by omega)).mono ?_⟩
  rintro r X Y x
  have Z:RR X r (fw M L):=x
  obtain ⟨_,_,_,rfl⟩:=x.shape
  refine ⟨_,_,_,rfl,fun BF y=>(uk (t:=⟨fw M L,0,false,true⟩) (b.le (i.trans (e.trans (a.trans (S.trans (U.trans (u.trans (Y.trans y)))))))) ⟨_,_,_,_,_,_,rfl,Z.le y,RR.zero _⟩ h ⟨wL sl sm,z⟩ (by omega)).mono ?_⟩
  rintro r sZ gN ⟨w,rfl,A⟩
  have MN:=A
  obtain ⟨_,_,_,_,_,_,rfl,-,-⟩:=A
  exact ⟨_,_,_,_,_,_,_,_,_,rfl,fun xo kQ=>⟨_,rfl,MN.le kQ⟩⟩
 ·have d:eI L s M=s.meet ⟨0,fw M L,true,false⟩:=by unfold eI;rw [if_neg (by rw [c];exact Bool.false_ne_true),if_neg (by rw [R];exact Bool.false_ne_true)]
  have p:eH L s M=!(s.meet ⟨0,fw M L,true,false⟩).emp:=by rw [←d];unfold eH;rw [if_neg (by rw [c];exact Bool.false_ne_true)]
  rw [p,d]
  rintro r oB U q
  have W:=q
  obtain ⟨_,_,_,rfl⟩:=q.shape
  refine ⟨_,_,_,rfl,fun qj u=>(gT (W.le u) ((kJ sl sm).mul (jC (kK sl sm))) (by omega)).mono ?_⟩
  rintro r X Y x
  have Z:RR X r (fw M L):=x
  obtain ⟨_,_,_,rfl⟩:=x.shape
  refine ⟨_,_,_,rfl,fun BF y=>(uk (t:=⟨0,fw M L,true,false⟩) (b.le (i.trans (e.trans (a.trans (T.trans (U.trans (u.trans (Y.trans y)))))))) ⟨_,_,_,_,_,_,rfl,RR.zero _,Z.le y⟩ h ⟨z,wL sl sm⟩ (by omega)).mono ?_⟩
  rintro r sZ gN ⟨w,rfl,A⟩
  have MN:=A
  obtain ⟨_,_,_,_,_,_,rfl,-,-⟩:=A
  exact ⟨_,_,_,_,_,_,_,_,_,rfl,fun xo kQ=>⟨_,rfl,MN.le kQ⟩⟩
structure z_ (V:View) (p:OA) (n:Nat) (fs:List (L3×Sp)):Prop where
 len:n=fs.length
 at_:∀(i:Nat)(h:i<fs.length),∃ad,addrAdd p (i*17)=some ad/\∃xs:List Value,HN V (.agg xs.toArray) fs[i].1 fs[i].2/\∀j x,xs[j]?=some x->V.at (ad.add j) x
theorem z_.le {V V':View}{p:OA}{n:Nat}{fs:List (L3×Sp)}(h:z_ V p n fs)(e:V.Le V'):z_ V' p n fs:=⟨h.len,fun i a=>by obtain ⟨b,c,xs,d,f⟩:=h.at_ i a;exact ⟨b,c,xs,d.le e,fun j x g=>e.at (f j x g)⟩⟩
theorem z_.nil {V:View}:z_ V none 0 []:=⟨rfl,fun i a=>by simp at a⟩
theorem z_.one {V:View}{bk:Nat}{xs:List Value}{ty:TypeId}{l:L3}{s:Sp}(hb:V.aZ bk (.cells xs.toArray ty (0,0)))(hf:HN V (.agg xs.toArray) l s):z_ V (some ⟨bk,0,none⟩) 1 [(l,s)]:=by
 refine ⟨rfl,fun i a=>?_⟩
 obtain rfl:i=0:=by simpa using a
 refine ⟨⟨bk,0,none⟩,by simp [addrAdd,add_zero'],_,hf,fun j x b=>?_⟩
 rw [add_zero']
 exact blk_at hb b
theorem F3 {L M:L3}:((L.1:Rat)=(M.1:Rat)/\(L.2.1:Rat)=(M.2.1:Rat)/\(L.2.2:Rat)=(M.2.2:Rat))↔L=M:=by
 constructor
 ·rintro ⟨a,b,c⟩
  exact Prod.ext (Rat.intCast_inj.1 a) (Prod.ext (Rat.intCast_inj.1 b) (Rat.intCast_inj.1 c))
 ·rintro rfl
  exact ⟨rfl,rfl,rfl⟩
theorem Gl {V:View}{v w:Value}{L M:L3}(hl:RLi V v L)(hm:RLi V w M){k:Nat}(sl:ni k L)(sm:ni k M)(hk:k+k<1099511627776) :
  Acts prog 197 #[v,w] V fun r V'=>r=.bool (decide (L=M)):=by
 refine (xI hl hm sl.1 sl.2.1 sl.2.2 sm.1 sm.2.1 sm.2.2 hk).mono ?_
 rintro r V' l rfl
 rw [decide_eq_decide.2 F3]
end Go.Proofs.Tryz
namespace Go.Proofs.Tryz
open Go.Eng
set_option maxRecDepth 100000
end Go.Proofs.Tryz
namespace Go.Proofs.Tryz
open Go.Eng Go.Big
def HX:L3:=(0,0,0)
def Fy (V:View)(v:Value)(c:L3):Prop:=pt V v c.1 c.2.1 c.2.2/\Bd c
theorem Fy.le {V V':View}{v:Value}{c:L3}(h:Fy V v c)(l:V.Le V'):Fy V' v c:=⟨h.1.le l,h.2⟩
theorem Fy.shape {V:View}{v:Value}{c:L3}(h:Fy V v c):∃(x y:Int)(p:OA)(xb yb:Int)(pb:OA)(xc yc:Int)(pc:OA),v=.agg #[.int .i64 x,.int .i64 y,.pointer p,.int .i64 xb,.int .i64 yb,.pointer pb,.int .i64 xc,.int .i64 yc,.pointer pc]:=by
 obtain ⟨⟨a,b,p,d,f,q,g,i,r,e,-⟩,-⟩:=h;exact ⟨_,_,_,_,_,_,_,_,_,e⟩
end Go.Proofs.Tryz
namespace Go.Proofs.Tryz
open Go.Big
section
variable {α:Type} {c:α->α->Int} {d:α}
structure PQ (c:α->α->Int) (d:α) (l0 l:List α) (a0 b0 a b:Nat):Prop where
 Md:oA d l0 l a0 b0
 ha:a0<=a
 hab:a<=b
 hb:b<=b0
 lo:sY c d l a0 a
 hi:sY c d l b b0
 s1:Sep c d l a0 a b0
 s2:Sep c d l a0 b b0
 pre:0<a->∀k,a<=k->k<b->¬c (l.getD k d) (l.getD (a-1) d)<0
variable {l0 l m:List α} {a0 b0 a b mid:Nat}
theorem PQ.start {l:List α}(h:a<=b)(hp:0<a->∀k,a<=k->k<b->¬c (l.getD k d) (l.getD (a-1) d)<0):PQ c d l l a b a b:=
 ⟨.refl _ _ _,Nat.le_refl _,h,Nat.le_refl _,.short (by omega),.short (by omega),fun p q e f=>by omega,fun p q e f g i=>by omega,hp⟩
theorem PQ.change (h:PQ c d l0 l a0 b0 a b)(hs:oA d l m a b):PQ c d l0 m a0 b0 a b:=
 ⟨h.Md.trans (hs.wide h.ha h.hb),h.ha,h.hab,h.hb,hs.asc h.lo (.inl (Nat.le_refl _)),hs.asc h.hi (.inr (Nat.le_refl _)),hs.sep h.s1 (.inr (.inl ⟨Nat.le_refl _,h.hb⟩)),hs.sep h.s2 (.inl ⟨h.ha,Nat.le_refl _⟩),fun f k g i=>by
  obtain ⟨j,n,o,e⟩:=hs.mem k g i
  rw [e,hs.out (a-1) (by omega)]
  exact h.pre f j n o⟩
theorem PQ.fin (h:PQ c d l0 l a0 b0 a b)(hs:oA d l m a b)(ha:sY c d m a b):oA d l0 m a0 b0/\sY c d m a0 b0:=by
 have e:=h.change hs
 refine ⟨e.Md,e.lo.join (ha.join e.hi fun p q j f g i=>e.s2 p q (by have:=h.ha;omega) f g i) e.s1⟩
theorem PQ.left (ho:Ord c)(h:PQ c d l0 l a0 b0 a b)(hm:a<=mid)(hm':mid<b)(h1:∀k,a<=k->k<mid->c (l.getD k d) (l.getD mid d)<0)(h2:∀k,mid<k->k<b->¬c (l.getD k d) (l.getD mid d)<0)
  (hs:oA d l m a mid)(ha:sY c d m a mid):PQ c d l0 m a0 b0 (mid+1) b:=by
 have n:=h.ha
 have o:=h.hb
 have em:m.getD mid d=l.getD mid d:=hs.out mid (by omega)
 have below:∀k,a<=k->k<mid->¬c (m.getD mid d) (m.getD k d)<0:=fun k f g=>by
  obtain ⟨r,i,j,e⟩:=hs.mem k f g
  rw [em,e];exact ho.Ja _ _ (h1 r i j)
 have t1:=hs.sep h.s1 (.inr (.inl ⟨Nat.le_refl _,by omega⟩))
 have t2:=hs.sep h.s2 (.inl ⟨n,by omega⟩)
 have up:∀q,mid<q->q<b->¬c (m.getD q d) (m.getD mid d)<0:=fun q f g=>by rw [em,hs.out q (by omega)];exact h2 q f g
 refine ⟨h.Md.trans (hs.wide n (by omega)),by omega,by omega,o,(hs.asc h.lo (.inl (Nat.le_refl _))).join (m:=a) (fun p q f g i=>?_) fun p q f g i j=>t1 p q f g i (by omega),hs.asc h.hi (.inr (by omega)),fun p q f g i j=>?_,t2,fun _ k f g=>up k (by omega) g⟩
 ·by_cases e:q=mid
  ·subst e;exact below p f g
  ·exact ha p q f g (by omega)
 ·by_cases s:b<=q
  ·exact t2 p q f (by omega) s j
  ·by_cases t:p<a
   ·exact t1 p q f t (by omega) j
   ·have u:=up q (by omega) (by omega)
    by_cases e:p=mid
    ·subst e;exact u
    ·exact ho.tr _ _ _ u (below p (by omega) (by omega))
theorem PQ.right (ho:Ord c)(h:PQ c d l0 l a0 b0 a b)(hm:a<=mid)(hm':mid<b)(h1:∀k,a<=k->k<mid->c (l.getD k d) (l.getD mid d)<0)(h2:∀k,mid<k->k<b->¬c (l.getD k d) (l.getD mid d)<0)
  (hs:oA d l m (mid+1) b)(ha:sY c d m (mid+1) b):PQ c d l0 m a0 b0 a mid:=by
 have s:=h.ha
 have r:=h.hb
 have em:m.getD mid d=l.getD mid d:=hs.out mid (by omega)
 have up:∀q,mid<q->q<b->¬c (m.getD q d) (m.getD mid d)<0:=fun q g f=>by
  obtain ⟨t,i,j,e⟩:=hs.mem q (by omega) f
  rw [em,e];exact h2 t (by omega) j
 have below:∀k,a<=k->k<mid->¬c (m.getD mid d) (m.getD k d)<0:=fun k g f=>by
  rw [em,hs.out k (by omega)];exact ho.Ja _ _ (h1 k g f)
 have t1:=hs.sep h.s1 (.inr (.inl ⟨by omega,r⟩))
 have t2:=hs.sep h.s2 (.inl ⟨by omega,Nat.le_refl _⟩)
 have t3:=hs.asc h.hi (.inr (Nat.le_refl _))
 refine ⟨h.Md.trans (hs.wide (by omega) r),s,hm,by omega,hs.asc h.lo (.inl (by omega)),fun p q g f i=>?_,t1,fun p q g f i j=>?_,fun v k g f=>?_⟩
 ·by_cases n:q<b
  ·by_cases e:p=mid
   ·subst e;exact up q f n
   ·exact ha p q (by omega) f n
  ·by_cases o:p<b
   ·exact t2 p q (by omega) o (by omega) i
   ·exact t3 p q (by omega) f i
 ·by_cases n:b<=q
  ·exact t2 p q g (by omega) n j
  ·by_cases o:p<a
   ·exact t1 p q g o (by omega) j
   ·have u:=below p (by omega) f
    by_cases e:q=mid
    ·subst e;exact u
    ·exact ho.tr _ _ _ (up q (by omega) (by omega)) u
 ·rw [hs.out k (by omega),hs.out (a-1) (by omega)];exact h.pre v k g (by omega)
structure HQ (c:α->α->Int) (d:α) (l:List α) (f i n:Nat):Prop where
 hp:Hp c d l f 0 i none
 asc:sY c d l (f+i) (f+n)
 sep:Sep c d l f (f+i) (f+n)
theorem HQ.start {f n:Nat}(h:Hp c d l f 0 n none):HQ c d l f n n:=⟨h,.short (by omega),fun p q a b e g=>by omega⟩
theorem HQ.step (ho:Ord c){f k n:Nat}(h:HQ c d l f (k+1) n)(hk:k+1<=n)(hl:f+n<=l.length)(hs:oA d (oW d l f (f+k)) m f (f+k))(hm:Hp c d m f 0 k none):HQ c d m f k n:=by
 have a:=fun x=>lF (d:=d) (l:=l) (i:=f) (j:=f+k) (k:=x) (by omega) (by omega)
 have out:∀q,f+k<q->m.getD q d=l.getD q d:=fun q u=>by rw [hs.out q (by omega),a,if_neg (by omega),if_neg (by omega)]
 have top:m.getD (f+k) d=l.getD f d:=by rw [hs.out (f+k) (by omega),a,if_pos rfl]
 refine ⟨hm,fun p q r b g=>?_,fun p q r b g s=>?_⟩
 ·rw [out q (by omega)]
  by_cases e:p=f+k
  ·rw [e,top];exact h.sep f q (Nat.le_refl _) (by omega) (by omega) g
  ·rw [out p (by omega)];exact h.asc p q (by omega) b g
 ·have hp:∃j,j<k+1/\m.getD p d=l.getD (f+j) d:=by
   obtain ⟨o,v,w,e⟩:=hs.mem p r b
   rw [e,a,if_neg (by omega)]
   split
   ·exact ⟨k,by omega,rfl⟩
   ·exact ⟨o-f,by omega,by rw [show f+(o-f)=o by omega]⟩
  obtain ⟨j,t,e⟩:=hp
  rw [e]
  by_cases eq:q=f+k
  ·rw [eq,top];exact h.hp.top ho j t
  ·rw [out q (by omega)];exact h.sep (f+j) q (by omega) (by omega) (by omega) s
theorem HQ.fin {f n:Nat}(h:HQ c d l f 0 n):sY c d l f (f+n):=by have:=h.asc;simpa using this
structure PT (P:α->Prop) (d:α) (l:List α) (a b i j:Nat):Prop where
 hi:a<i
 Gf:i<=j+1
 hj:j<b
 lo:∀k,a<k->k<i->P (l.getD k d)
 up:∀k,j<k->k<b->¬P (l.getD k d)
variable {P:α->Prop} {i j:Nat}
theorem PT.start (h:a+1<b):PT P d l a b (a+1) (b-1):=⟨by omega,by omega,by omega,fun k c e=>by omega,fun k c e=>by omega⟩
theorem PT.swap (h:PT P d l a b i j)(Gf:i<=j)(hl:b<=l.length)(h1:¬P (l.getD i d))(h2:P (l.getD j d)):PT P d (oW d l i j) a b (i+1) (j-1)/\(oW d l i j).getD a d=l.getD a d/\oA d l (oW d l i j) a b:=by
 have n:=h.hi
 have m:=h.hj
 have ne:i≠j:=fun e=>h1 (e▸h2)
 have c:=fun x=>lF (d:=d) (l:=l) (i:=i) (j:=j) (k:=x) (by omega) (by omega)
 refine ⟨⟨by omega,by omega,by omega,fun k f g=>?_,fun k f g=>?_⟩,by rw [c,if_neg (by omega),if_neg (by omega)],oA.oW (by omega) (by omega) (by omega) m hl⟩
 ·rw [c,if_neg (by omega)]
  by_cases e:k=i
  ·rw [if_pos e];exact h2
  ·rw [if_neg e];exact h.lo k f (by omega)
 ·rw [c]
  by_cases e:k=j
  ·rw [if_pos e];exact h1
  ·rw [if_neg e,if_neg (by omega)];exact h.up k (by omega) g
theorem PT.fin (ho:Ord c)(h:PT (fun x=>c x (l.getD a d)<0) d l a b i j)(Gf:¬i<=j)(hl:b<=l.length):oA d l (oW d l j a) a b/\a<=j/\j<b /\
  (∀k,a<=k->k<j->c ((oW d l j a).getD k d) ((oW d l j a).getD j d)<0)/\(∀k,j<k->k<b->¬c ((oW d l j a).getD k d) ((oW d l j a).getD j d)<0):=by
 have p:=h.hi
 have q:=h.Gf
 have g:=h.hj
 have f:=fun x=>lF (d:=d) (l:=l) (i:=j) (j:=a) (k:=x) (by omega) (by omega)
 have m:(oW d l j a).getD j d=l.getD a d:=by
  rw [f]
  by_cases e:j=a
  ·rw [if_pos e,e]
  ·rw [if_neg e,if_pos rfl]
 refine ⟨oA.oW (by omega) g (Nat.le_refl _) (by omega) hl,by omega,g,fun k n o=>?_,fun k n o=>?_⟩
 ·rw [m,f]
  by_cases e:k=a
  ·rw [if_pos e];exact h.lo j (by omega) (by omega)
  ·rw [if_neg e,if_neg (by omega)];exact h.lo k (by omega) (by omega)
 ·rw [m,f,if_neg (by omega),if_neg (by omega)];exact h.up k n o
end
end Go.Proofs.Tryz
namespace Go.Proofs.Tryz
open Go.Eng Go.Big
structure Hf (V:View) (n:Nat) (vs:List Value) (l:List L3):Prop where
 row:Row 9 Fy V vs l
 len:n=l.length
 JW:l.length<50
theorem Hf.le {V V':View}{n:Nat}{vs:List Value}{l:List L3}(h:Hf V n vs l)(e:V.Le V'):Hf V' n vs l:=⟨h.row.le fun _ _ g=>Fy.le g e,h.len,h.JW⟩
theorem Hf.get {V:View}{n:Nat}{vs:List Value}{l:List L3}(h:Hf V n vs l){k:Nat}(hk:k<l.length):∃(x y:Int)(p:OA)(xb yb:Int)(pb:OA)(xc yc:Int)(pc:OA),
  ((0+k*9)+9<=vs.length/\(vs.drop (0+k*9)).take 9=[.int .i64 x,.int .i64 y,.pointer p,.int .i64 xb,.int .i64 yb,.pointer pb,.int .i64 xc,.int .i64 yc,.pointer pc])/\Fy V (.agg #[.int .i64 x,.int .i64 y,.pointer p,.int .i64 xb,.int .i64 yb,.pointer pb,.int .i64 xc,.int .i64 yc,.pointer pc]) (l.getD k HX):=by
 obtain ⟨xs,-,b,c,f⟩:=h.row.get (d:=HX) hk (by decide)
 have a:=b
 obtain ⟨x,y,p,xb,yb,pb,xc,yc,pc,e⟩:=b.shape
 have e:=congrArg Array.toList (Value.agg.inj e)
 dsimp only at e
 subst e
 rw [Nat.zero_add]
 exact ⟨x,y,p,xb,yb,pb,xc,yc,pc,⟨c,f⟩,a⟩
theorem Hf.swap {V:View}{n:Nat}{vs:List Value}{l:List L3}(h:Hf V n vs l){i j:Nat}(hi:i<l.length)(hj:j<l.length){x y:Int}{p:OA}{xb yb:Int}{pb:OA}{xc yc:Int}{pc:OA}{x' y':Int}{p':OA}{I5 I6:Int}{pb':OA}{G9 Oi:Int}{pc':OA}
  (h1:Fy V (.agg #[.int .i64 x,.int .i64 y,.pointer p,.int .i64 xb,.int .i64 yb,.pointer pb,.int .i64 xc,.int .i64 yc,.pointer pc]) (l.getD i HX))(h2:Fy V (.agg #[.int .i64 x',.int .i64 y',.pointer p',.int .i64 I5,.int .i64 I6,.pointer pb',.int .i64 G9,.int .i64 Oi,.pointer pc']) (l.getD j HX)) :
  (0+i*9)+9<=vs.length/\(0+j*9)+9<=(cj vs (0+i*9) [.int .i64 x',.int .i64 y',.pointer p',.int .i64 I5,.int .i64 I6,.pointer pb',.int .i64 G9,.int .i64 Oi,.pointer pc']).length /\
  Hf V n (cj (cj vs (0+i*9) [.int .i64 x',.int .i64 y',.pointer p',.int .i64 I5,.int .i64 I6,.pointer pb',.int .i64 G9,.int .i64 Oi,.pointer pc']) (0+j*9) [.int .i64 x,.int .i64 y,.pointer p,.int .i64 xb,.int .i64 yb,.pointer pb,.int .i64 xc,.int .i64 yc,.pointer pc]) (oW HX l i j):=by
 obtain ⟨-,-,-,a,-⟩:=h.row.get (d:=HX) hi (by decide)
 obtain ⟨-,-,-,b,-⟩:=h.row.get (d:=HX) hj (by decide)
 rw [Nat.zero_add,Nat.zero_add]
 refine ⟨a,by rw [oV (by exact a)];exact b,h.row.swap hi hj (by decide) rfl rfl h1 h2,by rw [mO];exact h.len,by rw [mO];exact h.JW⟩
structure GR {α:Type} (sz:Nat) (R:View->Value->α->Prop) (V:View) (n c:Nat) (vs:List Value) (l:List α):Prop where
 len:n=l.length
 le:n<=c
 cap:c*sz<=vs.length
 row:Row sz R V vs l
theorem GR.nil {α:Type}{sz:Nat}{R:View->Value->α->Prop}{V:View}:GR sz R V 0 0 [] []:=⟨rfl,Nat.le_refl _,by simp,Row.nil⟩
theorem GR.mono {α:Type}{sz:Nat}{R:View->Value->α->Prop}{V V':View}{n c:Nat}{vs:List Value}{l:List α}(h:GR sz R V n c vs l)(m:∀v a,R V v a->R V' v a):GR sz R V' n c vs l:=⟨h.len,h.le,h.cap,h.row.le m⟩
theorem GR.snoc {α:Type}{sz:Nat}{R:View->Value->α->Prop}{V:View}{n c:Nat}{vs:List Value}{l:List α}(h:GR sz R V n c vs l){xs:List Value}{a:α}(hx:xs.length=sz)(ha:R V (.agg xs.toArray) a)(h0:0<sz){sp:List Value}{c':Nat}(h1:n+1<=c')(h2:c'*sz<=(n+1)*sz+sp.length) :
  GR sz R V (n+1) c' (vs.take (n*sz)++xs++sp) (l++[a]):=by
 have b:=h.len
 have e:=h.cap
 have f:n*sz<=c*sz:=Nat.mul_le_mul_right _ h.le
 refine ⟨by rw [List.length_append,b];rfl,h1,?_,?_⟩
 ·have d:(vs.take (n*sz)).length=n*sz:=by rw [List.length_take];omega
  rw [List.length_append,List.length_append,d,hx]
  rw [Nat.succ_mul] at h2
  exact h2
 ·have:=h.row.snoc (sp:=sp) hx ha h0
  rw [←b] at this
  exact this
def jJ (l:L3):L3:=if l.1<0\/l.1=0/\l.2.1<0 then revL l else l
def Tr.L_:Tr->List L3
 | .leaf _=>[]
 | .node l a b=>l::(a.L_++b.L_)
theorem v_ {p:L3->Prop}:∀{t:Tr},t.All p->∀x∈t.L_,p x
 | .leaf _,_,x,h=>by cases h
 | .node l a b,⟨h1,h2,h3⟩,x,h=>by
  rcases List.mem_cons.1 h with rfl|h
  ·exact h1
  ·rcases List.mem_append.1 h with h|h
   ·exact v_ h2 x h
   ·exact v_ h3 x h
theorem Bd.rev {l:L3}(h:Bd l):Bd (revL l):=by
 obtain ⟨a,b,c⟩:=h
 unfold Bd revL
 simp only [Int.natAbs_neg]
 exact ⟨a,b,c⟩
theorem Bd.can {l:L3}(h:Bd l):Bd (jJ l):=by
 unfold jJ;split
 ·exact h.rev
 ·exact h
theorem Bd.szl {l:L3}(h:Bd l):ni 1000 l:=⟨h.sz.1,h.sz.2.1,h.sz.2.2⟩
end Go.Proofs.Tryz
namespace Go.Proofs.Tryz.Sec
open Go.Eng Go.Big
def nv (l:L3)(v:V2):Rat:=(l.1:Rat)*v.1+(l.2.1:Rat)*v.2
def dirL (l:L3):V2:=((l.2.1:Rat),-(l.1:Rat))
theorem B3 (l:L3)(v:V2):nv l v=cr (dirL l) v:=by unfold nv cr dirL;grind
def IX (l:L3)(p v:V2):Int:=if (ar l p.1 p.2).num.sign=0 then (nv l v).num.sign else (ar l p.1 p.2).num.sign
def zp:Tr->V2->V2->Bool×Bool
 | .leaf i,_,_=>(i,true)
 | .node l a b,p,v=>if IX l p v=1 then zp a p v else if IX l p v=-1 then zp b p v else (false,false)
def iN:Tr->V2->List L3
 | .leaf _,_=>[]
 | .node l a b,p=>(if ar l p.1 p.2=0 then [l] else [])++((if ar l p.1 p.2≥0 then iN a p else [])++(if ar l p.1 p.2<=0 then iN b p else []))
theorem rI:∀{t:Tr} {p:V2} {l:L3},l∈iN t p->ar l p.1 p.2=0/\l∈t.L_
 | .leaf _,_,_,h=>by cases h
 | .node m a b,p,l,h=>by
  unfold iN at h
  simp only [List.mem_append] at h
  rcases h with h|h|h
  ·split at h
   ·rename_i e;rcases List.mem_singleton.1 h with rfl;exact ⟨e,List.mem_cons_self ..⟩
   ·cases h
  ·split at h
   ·have:=rI h;exact ⟨this.1,List.mem_cons_of_mem _ (List.mem_append_left _ this.2)⟩
   ·cases h
  ·split at h
   ·have:=rI h;exact ⟨this.1,List.mem_cons_of_mem _ (List.mem_append_right _ this.2)⟩
   ·cases h
theorem rX {q:Rat}:q.num.sign=-1↔q<0:=by
 rw [Int.sign_eq_neg_one_iff_neg,←Int.not_le,←Rat.not_le,Rat.num_nonneg]
theorem wH {q:Rat}:q.num.sign=1↔q>0:=by
 have h:=@rX (-q)
 rw [Rat.neg_num,Int.sign_neg] at h
 constructor
 ·intro e;have:=h.1 (by rw [e]);grind
 ·intro e;have:=h.2 (by grind);omega
theorem hZ {q:Rat}:q.num.sign=0↔q=0:=by rw [Int.sign_eq_zero_iff_zero,Rat.num_eq_zero]
theorem sr:∀{t:Tr} {p v x:V2},(∀l∈iN t p,nv l v≠0)->(∀l∈iN t p,(nv l v>0->nv l x>0)/\(nv l v<0->nv l x<0)) ->
  zp t p x=zp t p v/\(zp t p v).2=true
 | .leaf _,_,_,_,_,_=>⟨rfl,rfl⟩
 | .node l a b,p,v,x,h0,h1=>by
  have ha:ar l p.1 p.2≥0->zp a p x=zp a p v/\(zp a p v).2=true:=fun e=>by
   have sub:∀m∈iN a p,m∈iN (.node l a b) p:=fun m hm=>by
    unfold iN
    rw [if_pos e]
    exact List.mem_append_right _ (List.mem_append_left _ hm)
   exact sr (fun m hm=>h0 m (sub m hm)) (fun m hm=>h1 m (sub m hm))
  have f:ar l p.1 p.2<=0->zp b p x=zp b p v/\(zp b p v).2=true:=fun e=>by
   have sub:∀m∈iN b p,m∈iN (.node l a b) p:=fun m hm=>by
    unfold iN
    rw [if_pos e]
    exact List.mem_append_right _ (List.mem_append_right _ hm)
   exact sr (fun m hm=>h0 m (sub m hm)) (fun m hm=>h1 m (sub m hm))
  have i:ar l p.1 p.2=0->l∈iN (.node l a b) p:=fun e=>by
   unfold iN
   rw [if_pos e]
   exact List.mem_append_left _ (List.mem_singleton.2 rfl)
  have key:IX l p x=IX l p v/\(IX l p v=1/\ar l p.1 p.2≥0\/IX l p v=-1/\ar l p.1 p.2<=0):=by
   unfold IX
   by_cases e:ar l p.1 p.2=0
   ·have hm:=i e
    rw [if_pos (hZ.2 e),if_pos (hZ.2 e)]
    obtain ⟨j,k⟩:=h1 l hm
    have r:=h0 l hm
    by_cases q:nv l v>0
    ·rw [wH.2 q,wH.2 (j q)];exact ⟨rfl,.inl ⟨rfl,by grind⟩⟩
    ·have c:nv l v<0:=by grind
     rw [rX.2 c,rX.2 (k c)];exact ⟨rfl,.inr ⟨rfl,by grind⟩⟩
   ·have d:¬(ar l p.1 p.2).num.sign=0:=fun h=>e (hZ.1 h)
    rw [if_neg d,if_neg d]
    refine ⟨rfl,?_⟩
    by_cases q:ar l p.1 p.2>0
    ·exact .inl ⟨wH.2 q,by grind⟩
    ·exact .inr ⟨rX.2 (by grind),by grind⟩
  obtain ⟨n,o⟩:=key
  simp only [zp,n]
  rcases o with ⟨e,g⟩|⟨e,g⟩
  ·rw [e,if_pos rfl,if_pos rfl];exact ha g
  ·rw [e,if_neg (by decide),if_pos rfl,if_neg (by decide),if_pos rfl];exact f g
def I7 (D:List V2)(M:List L3):Prop:=∀l∈M,∃r∈D,∃c:Rat,c>0/\r=(c*(dirL l).1,c*(dirL l).2)
theorem Ar {l:L3}{r:V2}{c:Rat}(c0:c>0)(e:r=(c*(dirL l).1,c*(dirL l).2))(v:V2):cr r v=c*nv l v:=by
 rw [B3,e];unfold cr;grind
theorem B0 {c x:Rat}(c0:c>0):(c*x>0↔x>0)/\(c*x<0↔x<0)/\(c*x=0↔x=0):=by
 have p:x>0->c*x>0:=fun h=>mp c0 h
 have n:x<0->c*x<0:=fun h=>by have:=mp c0 (show -x>0 by grind);grind
 have z:x=0->c*x=0:=fun h=>by rw [h];grind
 refine ⟨⟨fun h=>?_,p⟩,⟨fun h=>?_,n⟩,⟨fun h=>?_,z⟩⟩
 ·by_cases q:x>0
  ·exact q
  ·by_cases a:x<0
   ·have:=n a;grind
   ·have:=z (by grind);grind
 ·by_cases q:x<0
  ·exact q
  ·by_cases a:x>0
   ·have:=p a;grind
   ·have:=z (by grind);grind
 ·rcases Rat.mul_eq_zero.1 h with h|h
  ·grind
  ·exact h
theorem I7.gen {D:List V2}{M:List L3}(h:I7 D M){v:V2}(hv:∀r∈D,cr r v≠0):∀l∈M,nv l v≠0:=by
 intro l a e
 obtain ⟨r,b,c,d,f⟩:=h l a
 exact hv r b (by rw [Ar d f,e];grind)
theorem I7.same {D:List V2}{M:List L3}(h:I7 D M){v x:V2}(hv:∀r∈D,(cr r v>0->cr r x>0)/\(cr r v<0->cr r x<0)) :
  ∀l∈M,(nv l v>0->nv l x>0)/\(nv l v<0->nv l x<0):=by
 intro l d
 obtain ⟨r,e,c,a,b⟩:=h l d
 have:=hv r e
 rw [Ar a b,Ar a b] at this
 obtain ⟨f,g,_⟩:=@B0 c (nv l v) a
 obtain ⟨b1,b2,_⟩:=@B0 c (nv l x) a
 exact ⟨fun h=>b1.1 (this.1 (f.2 h)),fun h=>b2.1 (this.2 (g.2 h))⟩
def anyS (t:Tr)(p:V2)(S:List V2):Bool:=S.any fun v=>(zp t p v).1
def FN (t:Tr)(p:V2)(S:List V2):Bool:=S.all fun v=>(zp t p v).1
theorem h_ (l:L3)(p v:V2)(s:Rat):ar l (p.1+s*v.1) (p.2+s*v.2)=ar l p.1 p.2+s*nv l v:=by unfold ar nv;grind
theorem inv_mul {c:Rat}(h:c≠0)(a:Rat):a*c⁻¹*c=a:=by rw [Rat.mul_assoc,Rat.inv_mul_cancel _ h,Rat.mul_one]
def half (u:V2):Int:=if u.2.num.sign>0\/u.2.num.sign=0/\u.1.num.sign>0 then 1 else if u.2.num.sign<0\/u.1.num.sign<0 then 2 else 0
def ang (u v:V2):Int:=if half u<half v then -1 else if half u>half v then 1 else -(cr u v).num.sign
theorem ve {q:Rat}:q.num.sign>0↔q>0:=by
 have:=Rat.num_nonneg (q:=-q)
 rw [Rat.neg_num] at this
 rw [gt_iff_lt,Int.sign_pos_iff]
 have a:(0<=-q)↔¬q>0:=by constructor<;>intro h<;>grind
 rw [a] at this
 by_cases h:q>0
 ·exact ⟨fun _=>h,fun _=>by
   have:¬0<=-q.num:=fun g=>this.1 g h
   omega⟩
 ·exact ⟨fun g=>by have:=this.2 h;omega,fun g=>absurd g h⟩
theorem Cb {q:Rat}:q.num.sign<0↔q<0:=by
 have:=@ve (-q)
 rw [Rat.neg_num,Int.sign_neg] at this
 constructor
 ·intro h;have:=this.1 (by omega);grind
 ·intro h;have:=this.2 (by grind);omega
theorem bE (u:V2):half u=1/\up u\/half u=2/\dn u\/half u=0/\u.1=0/\u.2=0:=by
 unfold half up dn
 split
 ·rename_i h;rw [ve,ve,hZ] at h;exact .inl ⟨rfl,h⟩
 ·rename_i h
  rw [ve,ve,hZ] at h
  split
  ·rename_i a;rw [Cb,Cb] at a;exact .inr (.inl ⟨rfl,by grind⟩)
  ·rename_i a;rw [Cb,Cb] at a;exact .inr (.inr ⟨rfl,by grind,by grind⟩)
theorem kY {u v:V2}:ang u v<0↔half u<half v\/half u=half v/\cr u v>0:=by
 have:=@ve (cr u v)
 unfold ang
 by_cases a:half u<half v
 ·simp [a]
 ·by_cases b:half u>half v
  ·rw [if_neg a,if_pos b];omega
  ·rw [if_neg a,if_neg b];constructor
   ·intro h;exact .inr ⟨by omega,this.1 (by omega)⟩
   ·rintro (h|⟨h,c⟩)
    ·omega
    ·have:=this.2 c;omega
theorem iD {u v:V2}:ang u v=0↔half u=half v/\cr u v=0:=by
 have:=@hZ (cr u v)
 unfold ang
 by_cases a:half u<half v
 ·rw [if_pos a];constructor
  ·intro h;omega
  ·rintro ⟨h,_⟩;omega
 ·by_cases b:half u>half v
  ·rw [if_neg a,if_pos b];constructor
   ·intro h;omega
   ·rintro ⟨h,_⟩;omega
  ·rw [if_neg a,if_neg b];constructor
   ·intro h;exact ⟨by omega,this.1 (by omega)⟩
   ·rintro ⟨_,h⟩;have:=this.2 h;omega
theorem vr (u v:V2):ang u v<0\/ang u v=0\/ang v u<0:=by
 rw [kY,iD,kY]
 have:=fh u v
 rcases Int.lt_trichotomy (half u) (half v) with h|h|h
 ·exact .inl (.inl h)
 ·by_cases p:cr u v>0
  ·exact .inl (.inr ⟨h,p⟩)
  ·by_cases q:cr u v=0
   ·exact .inr (.inl ⟨h,q⟩)
   ·exact .inr (.inr (.inr ⟨h.symm,by grind⟩))
 ·exact .inr (.inr (.inl h))
theorem BH (u v:V2)(h:ang u v<0):¬ang v u<0:=by
 rw [kY] at *
 have:=fh u v
 rintro (a|⟨a,b⟩)<;>rcases h with h|⟨h,g⟩
 ·omega
 ·omega
 ·omega
 ·grind
theorem F0 {a b d:V2}(hab:half a=half b)(hbd:half b=half d)(h1:cr a b<=0)(h2:cr b d<=0):cr a d<=0:=by
 by_cases h:cr a d<=0
 ·exact h
 exfalso
 have c:cr a d>0:=by grind
 have o:=Ir a d b
 have p:=AJ a d b
 rcases bE b with ⟨e,i⟩|⟨e,i⟩|⟨e,i⟩
 ·have g:up a:=by rcases bE a with ⟨f,h⟩|⟨f,h⟩|⟨f,h⟩<;>first|exact h|omega
  have j:up d:=by rcases bE d with ⟨f,h⟩|⟨f,h⟩|⟨f,h⟩<;>first|exact h|omega
  unfold up at g i j
  have l:=mn (show -(cr a b)≥0 by grind) (show d.2≥0 by grind)
  have m:=mn (show -(cr b d)≥0 by grind) (show a.2≥0 by grind)
  have n:=mn (show cr a d≥0 by grind) (show b.2≥0 by grind)
  have k:cr a d*b.2=0:=by grind
  have b2:b.2=0:=by rcases Rat.mul_eq_zero.1 k with h|h<;>grind
  have b1:b.1>0:=by grind
  have d2:d.2=0:=by
   by_cases q:d.2>0
   ·have:=mp b1 q;unfold cr at h2;rw [b2] at h2;grind
   ·grind
  have d1:d.1>0:=by grind
  have:=mn (show a.2≥0 by grind) (show d.1≥0 by grind)
  unfold cr at c
  rw [d2] at c
  grind
 ·have g:dn a:=by rcases bE a with ⟨f,h⟩|⟨f,h⟩|⟨f,h⟩<;>first|exact h|omega
  have j:dn d:=by rcases bE d with ⟨f,h⟩|⟨f,h⟩|⟨f,h⟩<;>first|exact h|omega
  unfold dn at g i j
  have l:=mn (show -(cr a b)≥0 by grind) (show -d.2≥0 by grind)
  have m:=mn (show -(cr b d)≥0 by grind) (show -a.2≥0 by grind)
  have n:=mn (show cr a d≥0 by grind) (show -b.2≥0 by grind)
  have k:cr a d*b.2=0:=by grind
  have b2:b.2=0:=by rcases Rat.mul_eq_zero.1 k with h|h<;>grind
  have b1:-b.1>0:=by grind
  have d2:d.2=0:=by
   by_cases q:-d.2>0
   ·have:=mp b1 q;unfold cr at h2;rw [b2] at h2;grind
   ·grind
  have d1:d.1<0:=by grind
  have:=mn (show -a.2≥0 by grind) (show -d.1≥0 by grind)
  unfold cr at c
  rw [d2] at c
  grind
 ·have g:a.1=0/\a.2=0:=by rcases bE a with ⟨f,h⟩|⟨f,h⟩|⟨f,h⟩<;>first|exact h|omega
  unfold cr at c
  rw [g.1,g.2] at c
  grind
theorem HR {u v:V2}:¬ang u v<0↔half v<half u\/half u=half v/\cr u v<=0:=by
 rw [kY]
 constructor
 ·intro h
  rcases Int.lt_trichotomy (half u) (half v) with g|g|g
  ·exact absurd (.inl g) h
  ·exact .inr ⟨g,by by_cases p:cr u v>0;exact absurd (.inr ⟨g,p⟩) h;grind⟩
  ·exact .inl g
 ·rintro (h|⟨h,g⟩) (a|⟨a,b⟩)
  ·omega
  ·omega
  ·omega
  ·grind
theorem qo (a b d:V2)(h:¬ang a b<0)(h':¬ang b d<0):¬ang a d<0:=by
 rw [HR] at *
 rcases h with h|⟨h,g⟩<;>rcases h' with h'|⟨h',g'⟩
 ·exact .inl (by omega)
 ·exact .inl (by omega)
 ·exact .inl (by omega)
 ·exact .inr ⟨by omega,F0 h h' g g'⟩
theorem HS {u v:V2}(hu:nz u)(hv:nz v):ang u v<0↔pv u v:=by
 have c:∀{w:V2},nz w->¬(w.1=0/\w.2=0):=fun h g=>by unfold nz at h;rcases h with h|h;exact h g.1;exact h g.2
 rw [kY]
 unfold pv
 rcases bE u with ⟨e,h⟩|⟨e,h⟩|⟨e,h⟩
 ·rcases bE v with ⟨b,a⟩|⟨b,a⟩|⟨b,a⟩
  ·rw [e,b];constructor
   ·rintro (g|⟨_,g⟩)
    ·omega
    ·exact .inr ⟨.inl ⟨h,a⟩,g⟩
   ·rintro (⟨_,g⟩|⟨_,g⟩)
    ·exact (dF a g).elim
    ·exact .inr ⟨rfl,g⟩
  ·rw [e,b];exact ⟨fun _=>.inl ⟨h,a⟩,fun _=>.inl (by decide)⟩
  ·exact absurd a (c hv)
 ·rcases bE v with ⟨b,a⟩|⟨b,a⟩|⟨b,a⟩
  ·rw [e,b];constructor
   ·rintro (g|⟨g,_⟩)<;>omega
   ·rintro (⟨g,_⟩|⟨⟨g,_⟩|⟨_,g⟩,_⟩)
    ·exact (dF g h).elim
    ·exact (dF g h).elim
    ·exact (dF a g).elim
  ·rw [e,b];constructor
   ·rintro (g|⟨_,g⟩)
    ·omega
    ·exact .inr ⟨.inr ⟨h,a⟩,g⟩
   ·rintro (⟨g,_⟩|⟨_,g⟩)
    ·exact (dF g h).elim
    ·exact .inr ⟨rfl,g⟩
  ·exact absurd a (c hv)
 ·exact absurd h (c hu)
theorem xu {u v:V2}(hu:nz u)(h:ang u v=0):∃c:Rat,c>0/\u=(c*v.1,c*v.2):=by
 rw [iD] at h
 obtain ⟨e,c⟩:=h
 have fin:∀k:Rat,k>0->u.1=k*v.1->u.2=k*v.2->∃c:Rat,c>0/\u=(c*v.1,c*v.2):=fun k a b g=>⟨k,a,Prod.ext b g⟩
 have pos:∀x y:Rat,y≠0->x*y>0->x*y⁻¹>0:=fun x y l h=>by
  have e:=inv_mul l x
  generalize x*y⁻¹=t at *
  have o:t*(y*y)=x*y:=by grind
  have:=sq_pos (u:=(y,0)) (.inl l)
  unfold dt at this
  by_cases q:t>0
  ·exact q
  ·have:=mn (show -t≥0 by grind) (show y*y≥0 by grind);grind
 unfold cr at c
 have two:v.2≠0->u.2*v.2>0->∃c:Rat,c>0/\u=(c*v.1,c*v.2):=fun a b=>by
  refine fin (u.2*v.2⁻¹) (pos _ _ a b) ?_ (inv_mul a _).symm
  have:=inv_mul a u.1
  have:u.1*v.2*v.2⁻¹=u.2*v.1*v.2⁻¹:=by rw [show u.1*v.2=u.2*v.1 by grind]
  grind
 have one:v.1≠0->u.1*v.1>0->v.2=0->u.2=0->∃c:Rat,c>0/\u=(c*v.1,c*v.2):=fun a b g n=>
  fin (u.1*v.1⁻¹) (pos _ _ a b) (inv_mul a _).symm (by rw [g,n];grind)
 rcases bE u with ⟨m,h⟩|⟨m,h⟩|⟨m,h⟩
 ·have i:up v:=by rcases bE v with ⟨d,h⟩|⟨d,h⟩|⟨d,h⟩<;>first|exact h|omega
  unfold up at h i
  by_cases q:v.2>0
  ·refine two (by grind) ?_
   by_cases f:u.2>0
   ·exact mp f q
   ·have j:u.2=0:=by grind
    have:=mp (show u.1>0 by grind) q
    rw [j] at c;grind
  ·have v2:v.2=0:=by grind
   have v1:v.1>0:=by grind
   by_cases f:u.2>0
   ·have:=mp f v1;rw [v2] at c;grind
   ·exact one (by grind) (mp (by grind) v1) v2 (by grind)
 ·have i:dn v:=by rcases bE v with ⟨d,h⟩|⟨d,h⟩|⟨d,h⟩<;>first|exact h|omega
  unfold dn at h i
  by_cases q:v.2<0
  ·refine two (by grind) ?_
   by_cases f:u.2<0
   ·have:=mp (show -u.2>0 by grind) (show -v.2>0 by grind);grind
   ·have j:u.2=0:=by grind
    have:=mp (show -u.1>0 by grind) (show -v.2>0 by grind)
    rw [j] at c;grind
  ·have v2:v.2=0:=by grind
   have v1:-v.1>0:=by grind
   by_cases f:u.2<0
   ·have:=mp (show -u.2>0 by grind) v1;rw [v2] at c;grind
   ·refine one (by grind) ?_ v2 (by grind)
    have:=mp (show -u.1>0 by grind) v1;grind
 ·unfold nz at hu;grind
theorem FO {a b d:V2}(h:ang a b=0)(h':ang b d=0):ang a d=0:=by
 have z:∀{u v:V2},ang u v=0↔¬ang u v<0/\¬ang v u<0:=by
  intro u v
  constructor
  ·intro e
   refine ⟨by omega,?_⟩
   rw [iD] at e
   have:=fh u v
   rw [kY]
   rintro (g|⟨_,g⟩)
   ·omega
   ·grind
  ·rintro ⟨g,c⟩
   rcases vr u v with e|e|e
   ·exact absurd e g
   ·exact e
   ·exact absurd e c
 rw [z] at *
 exact ⟨qo _ _ _ h.1 h'.1,qo _ _ _ h'.2 h.2⟩
theorem qn (a:V2):ang a a=0:=iD.2 ⟨rfl,by unfold cr;grind⟩
theorem BI {a b d:V2}(h:¬ang b a<0)(h':ang b d<0):ang a d<0:=by
 by_cases q:ang a d<0
 ·exact q
 ·exact absurd h' (qo _ _ _ h q)
def eP (u v:V2):Bool:=decide (ang u v=0)
theorem xV:∀{r:List V2} {p:V2},(p::r).Pairwise (fun x y=>¬ang y x<0) ->
  (vO eP p r).Pairwise (fun x y=>ang x y<0)/\(∀x∈vO eP p r,ang p x<0)/\∀x∈p::r,∃y∈p::vO eP p r,ang y x=0
 | [],p,_=>⟨List.Pairwise.nil,(fun x h=>by cases h),fun x h=>⟨x,h,qn x⟩⟩
 | a::r,p,h=>by
  obtain ⟨h1,h2⟩:=List.pairwise_cons.1 h
  obtain ⟨i1,i2,i3⟩:=xV h2
  have f:¬ang a p<0:=h1 a (List.mem_cons_self ..)
  unfold vO
  by_cases e:ang a p=0
  ·have:eP a p=true:=decide_eq_true e
   rw [if_pos this]
   have i:¬ang p a<0:=fun g=>by
    rcases iD.1 e with ⟨j,k⟩
    rw [kY] at g
    have:=fh a p
    rcases g with g|⟨_,g⟩
    ·omega
    ·grind
   refine ⟨i1,fun x c=>BI f (i2 x c),fun x c=>?_⟩
   rcases List.mem_cons.1 c with rfl|c
   ·exact ⟨x,List.mem_cons_self ..,qn x⟩
   ·obtain ⟨y,d,g⟩:=i3 x c
    rcases List.mem_cons.1 d with rfl|d
    ·refine ⟨p,List.mem_cons_self ..,FO (b:=y) ?_ g⟩
     rcases vr p y with q|q|q
     ·exact absurd q i
     ·exact q
     ·exact absurd q f
    ·exact ⟨y,List.mem_cons_of_mem _ d,g⟩
  ·have:eP a p=false:=decide_eq_false e
   rw [this]
   have lt:ang p a<0:=by
    rcases vr p a with q|q|q
    ·exact q
    ·exfalso;apply e
     rw [iD] at *
     have:=fh a p
     exact ⟨q.1.symm,by grind⟩
    ·exact absurd q f
   refine ⟨List.pairwise_cons.2 ⟨i2,i1⟩,fun x c=>?_,fun x c=>?_⟩
   ·rcases List.mem_cons.1 c with rfl|c
    ·exact lt
    ·exact BI (b:=a) f (i2 x c)
   ·rcases List.mem_cons.1 c with rfl|c
    ·exact ⟨x,List.mem_cons_self ..,qn x⟩
    ·obtain ⟨y,d,g⟩:=i3 x c
     exact ⟨y,List.mem_cons_of_mem _ d,g⟩
theorem DZ {m:List V2}(h:m.Pairwise (fun x y=>¬ang y x<0)):(tq eP m).Pairwise (fun x y=>ang x y<0)/\∀x∈m,∃y∈tq eP m,ang y x=0:=by
 cases m with
 | nil=>exact ⟨List.Pairwise.nil,fun x h=>by cases h⟩
 | cons p r=>
  obtain ⟨a,b,c⟩:=xV h
  exact ⟨List.pairwise_cons.2 ⟨b,a⟩,c⟩
theorem IQ {m:List V2}(h:m.Pairwise (fun x y=>¬ang y x<0))(hn:∀r∈m,nz r)(ho:∀r∈m,∃s∈m,Ny s r):He (tq eP m)/\∀x∈m,∃y∈tq eP m,∃c:Rat,c>0/\y=(c*x.1,c*x.2):=by
 obtain ⟨i,j⟩:=DZ h
 have sub:∀x∈tq eP m,x∈m:=D0
 have mem:∀x∈m,∃y∈tq eP m,∃c:Rat,c>0/\y=(c*x.1,c*x.2):=fun x l=>by
  obtain ⟨y,d,e⟩:=j x l
  exact ⟨y,d,xu (hn y (sub y d)) e⟩
 refine ⟨⟨fun r f=>hn r (sub r f),fun r f=>?_,?_⟩,mem⟩
 ·obtain ⟨s,n,k,o,p,q⟩:=ho r (sub r f)
  obtain ⟨y,d,c,t,e⟩:=mem s n
  refine ⟨y,d,c*k,mp t o,?_,?_⟩
  ·rw [e];show c*s.1=_;rw [p];grind
  ·rw [e];show c*s.2=_;rw [q];grind
 ·refine List.Pairwise.imp_of_mem ?_ i
  intro a b u v g
  exact (HS (hn a (sub a u)) (hn b (sub b v))).1 g
section
variable {D:List V2} (h:He D)
include h
theorem IE {i:Nat}{u w:V2}(hi:D[i]?=some u)(hw:D[(i+1)%D.length]?=some w):cr u w≥0:=by
 by_cases q:cr u w≥0
 ·exact q
 exfalso
 have b:w∈D:=List.mem_of_getElem? hw
 have hu:u∈D:=List.mem_of_getElem? hi
 obtain ⟨s,c,d⟩:=h.cl w b
 obtain ⟨k,f,_,g⟩:=wh d u
 have p:cr u s>0:=by rw [g];have:=mp f (show -(cr u w)>0 by grind);grind
 obtain ⟨j,a⟩:=List.getElem?_of_mem c
 refine Hj (h.nz u hu) (h.nz w b) (h.nz s c) (ME h hi hw a (fun e=>?_) (fun e=>?_)) p (by grind)
 ·rw [e,hi] at a;cases a;unfold cr at p;grind
 ·rw [e,hw] at a;cases a;grind
omit h in
def Ld (f:V2->V2->V2)(D:List V2):List V2:=(List.range D.length).map fun i=>f (D.getD i (0,0)) (D.getD ((i+1)%D.length) (0,0))
theorem GX {f:V2->V2->V2}(hf:∀u∈D,∀w∈D,cr u w≥0->Cn u w (f u w))(hD:D≠[]):LK D (Ld f D):=by
 have j:0<D.length:=List.length_pos_iff.2 hD
 have key:∀i u w,D[i]?=some u->D[(i+1)%D.length]?=some w->D.getD i (0,0)=u/\D.getD ((i+1)%D.length) (0,0)=w/\Cn u w (f u w):=fun i u w a hw=>
  ⟨by rw [List.getD_eq_getElem?_getD,a];rfl,by rw [List.getD_eq_getElem?_getD,hw];rfl,hf u (List.mem_of_getElem? a) w (List.mem_of_getElem? hw) (IE h a hw)⟩
 refine .inr ⟨hD,fun x k=>?_,fun i u w a hw=>?_⟩
 ·obtain ⟨i,a,rfl⟩:=List.mem_map.1 k
  have a:=List.mem_range.1 a
  have e:D[i]?=some D[i]:=List.getElem?_eq_getElem a
  have g:D[(i+1)%D.length]?=some (D[(i+1)%D.length]'(Nat.mod_lt _ j)):=List.getElem?_eq_getElem _
  obtain ⟨b,c,d⟩:=key i _ _ e g
  exact ⟨i,_,_,e,g,by rw [b,c];exact d⟩
 ·obtain ⟨b,c,d⟩:=key i u w a hw
  refine ⟨_,List.mem_map.2 ⟨i,List.mem_range.2 (List.getElem?_eq_some_iff.1 a).1,rfl⟩,?_⟩
  rw [b,c];exact d
end
theorem pX {a b c x y z:Int}(h1:a*y=b*x)(h2:a*z=c*x)(g:Nat.gcd (Nat.gcd x.natAbs y.natAbs) z.natAbs=1):x.natAbs∣a.natAbs:=by
 have d:a.natAbs*y.natAbs=b.natAbs*x.natAbs:=by rw [←Int.natAbs_mul,←Int.natAbs_mul,h1]
 have e:a.natAbs*z.natAbs=c.natAbs*x.natAbs:=by rw [←Int.natAbs_mul,←Int.natAbs_mul,h2]
 have d1:x.natAbs∣a.natAbs*Nat.gcd (Nat.gcd x.natAbs y.natAbs) z.natAbs:=by
  rw [←Nat.gcd_mul_left,←Nat.gcd_mul_left]
  exact Nat.dvd_gcd (Nat.dvd_gcd ⟨a.natAbs,by rw [Nat.mul_comm]⟩ ⟨b.natAbs,by rw [d,Nat.mul_comm]⟩) ⟨c.natAbs,by rw [e,Nat.mul_comm]⟩
 rwa [g,Nat.mul_one] at d1
theorem Df {l m:L3}(ol:okL l=true)(om:okL m=true)(cl:jJ l=l)(cm:jJ m=m){x y:Rat}(hl:ar l x y=0)(hm:ar m x y=0)
  (hc:cr (dirL l) (dirL m)=0):l=m:=by
 unfold okL at ol om
 rw [Bool.and_eq_true,decide_eq_true_iff,decide_eq_true_iff] at ol om
 have d:l.1*m.2.1=l.2.1*m.1:=by
  unfold cr dirL at hc
  have:(l.1:Rat)*(m.2.1:Rat)=(l.2.1:Rat)*(m.1:Rat):=by grind
  exact_mod_cast this
 unfold ar at hl hm
 have s:(l.1:Rat)*(m.2.1:Rat)=(l.2.1:Rat)*(m.1:Rat):=by exact_mod_cast d
 have e:l.1*m.2.2=l.2.2*m.1:=by
  have:(l.1:Rat)*(m.2.2:Rat)=(l.2.2:Rat)*(m.1:Rat):=by grind
  exact_mod_cast this
 have f:l.2.1*m.2.2=l.2.2*m.2.1:=by
  have:(l.2.1:Rat)*(m.2.2:Rat)=(l.2.2:Rat)*(m.2.1:Rat):=by grind
  exact_mod_cast this
 obtain ⟨o,j⟩:=ol
 obtain ⟨t,k⟩:=om
 unfold ij at j k
 have p:Nat.gcd (Nat.gcd l.2.1.natAbs l.1.natAbs) l.2.2.natAbs=1:=by rw [Nat.gcd_comm l.2.1.natAbs];exact j
 have q:Nat.gcd (Nat.gcd m.2.1.natAbs m.1.natAbs) m.2.2.natAbs=1:=by rw [Nat.gcd_comm m.2.1.natAbs];exact k
 have u:l.1.natAbs=m.1.natAbs:=Nat.dvd_antisymm (pX (a:=m.1) (b:=m.2.1) (c:=m.2.2) (by rw [Int.mul_comm,←d,Int.mul_comm]) (by rw [Int.mul_comm,←e,Int.mul_comm]) j) (pX d e k)
 have v:l.2.1.natAbs=m.2.1.natAbs:=Nat.dvd_antisymm (pX (a:=m.2.1) (b:=m.1) (c:=m.2.2) (by rw [Int.mul_comm,d,Int.mul_comm]) (by rw [Int.mul_comm,←f,Int.mul_comm]) p) (pX (b:=l.1) (c:=l.2.2) d.symm f q)
 have sl:¬(l.1<0\/l.1=0/\l.2.1<0):=fun h=>by
  unfold jJ at cl
  rw [if_pos h] at cl
  have g:-l.1=l.1:=congrArg (fun x:L3=>x.1) cl
  have i:-l.2.1=l.2.1:=congrArg (fun x:L3=>x.2.1) cl
  omega
 have sm:¬(m.1<0\/m.1=0/\m.2.1<0):=fun h=>by
  unfold jJ at cm
  rw [if_pos h] at cm
  have g:-m.1=m.1:=congrArg (fun x:L3=>x.1) cm
  have i:-m.2.1=m.2.1:=congrArg (fun x:L3=>x.2.1) cm
  omega
 have g:l.1=m.1:=by omega
 by_cases z:l.1=0
 ·have i:l.2.1=m.2.1:=by omega
  have r:l.2.1≠0:=fun h=>o ⟨z,h⟩
  have n:m.2.2=l.2.2:=Int.eq_of_mul_eq_mul_left r (by rw [f,i,Int.mul_comm])
  exact Prod.ext g (Prod.ext i n.symm)
 ·have i:m.2.1=l.2.1:=Int.eq_of_mul_eq_mul_left z (by rw [d,g,Int.mul_comm])
  have n:m.2.2=l.2.2:=Int.eq_of_mul_eq_mul_left z (by rw [e,g,Int.mul_comm])
  exact Prod.ext g (Prod.ext i.symm n.symm)
end Go.Proofs.Tryz.Sec
