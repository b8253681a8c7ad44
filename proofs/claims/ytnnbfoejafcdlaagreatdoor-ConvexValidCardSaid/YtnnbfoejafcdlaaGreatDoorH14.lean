import Derived.Test.YtnnbfoejafcdlaaGreatDoorH13
import Derived.Test.YtnnbfoejafcdlaaGreatDoorH9
import Derived.Deep.Slices
import Derived.WalkKit
import Derived.LaidEql
import Derived.Stop.Asserts
import Derived.RowKitTokens
import Derived.Test.YtnnbfoejafcdlaaGreatDoorH5
import Derived.Test.YtnnbfoejafcdlaaGreatDoorH7
import Derived.Test.YtnnbfoejafcdlaaGreatDoorH8
import Derived.Test.YtnnbfoejafcdlaaGreatDoorH12
set_option linter.unusedVariables false
open Go.IntKind (i64 u64 u32)
namespace Go.Proofs.Tryz
open Go.bE Go.dP
structure Rn where
 b1:Bool
 xs:List Nat
 b2:Bool
 ys:List Nat
 b3:Bool
 zs:List Nat
 left:Int
 right:Int
def PS (V:View)(v:Value)(r:Rn):Prop:=∃p1 n1 c1 p2 n2 c2 p3 n3 c3,v=.agg #[.bool r.b1,.slice p1 n1 c1,.bool r.b2,.slice p2 n2 c2,.bool r.b3,.slice p3 n3 c3,.int .i64 r.left,.int .i64 r.right] /\
 RD V p1 n1 c1 r.xs/\RD V p2 n2 c2 r.ys/\RD V p3 n3 c3 r.zs
theorem PS.le {V V':View}{v:Value}{r:Rn}(h:PS V v r)(l:V.Le V'):PS V' v r:=by
 obtain ⟨_,_,_,_,_,_,_,_,_,e,h1,h2,h3⟩:=h
 exact ⟨_,_,_,_,_,_,_,_,_,e,h1.le l,h2.le l,h3.le l⟩
def Rn.short (r:Rn):Prop:=r.xs.length<=3/\r.ys.length<=3/\r.zs.length<=3
def Rn.nd (r:Rn):Nd:=⟨if iA r.b1 r.xs r.b2 r.ys r.b3 r.zs then Dc r.b1 r.xs r.b2 r.ys r.b3 r.zs else (0,0,0),r.left,r.right⟩
theorem fg {b:Bool}{xs:List Nat}(hd:bN xs)(h:xs.length<=3):(ay b xs).natAbs<2^96:=by
 have h1:=eL hd
 have h2:4294967296^xs.length<=4294967296^3:=Nat.pow_le_pow_right (by omega) (by omega)
 have h4:4294967296^3=2^96:=by decide
 have h3:(ay b xs).natAbs=val xs:=by unfold ay;split<;>simp
 omega
theorem G6 {a b:Nat}(h:a<=b):2^a<=2^b:=Nat.pow_le_pow_right (by omega) h
theorem Rn.bd {V:View}{v:Value}{r:Rn}(h:PS V v r)(hs:r.short):Bd r.nd.ln:=by
 obtain ⟨_,_,_,_,_,_,_,_,_,e,h1,h2,h3⟩:=h
 have le:=G6 (a:=96) (b:=1000) (by omega)
 have a1:=fg (b:=r.b1) h1.cZ hs.1
 have a2:=fg (b:=r.b2) h2.cZ hs.2.1
 have a3:=fg (b:=r.b3) h3.cZ hs.2.2
 have z:=Nat.two_pow_pos 1000
 unfold Rn.nd Bd
 dsimp only
 split
 ·unfold Dc;dsimp only;exact ⟨Nat.lt_of_lt_of_le a1 le,Nat.lt_of_lt_of_le a2 le,Nat.lt_of_lt_of_le a3 le⟩
 ·exact ⟨z,z,z⟩
theorem NH {V:View}{b1:Bool}{p1:OA}{n1 c1:Nat}{xs:List Nat}{b2:Bool}{p2:OA}{n2 c2:Nat}{ys:List Nat}{b3:Bool}{p3:OA}{n3 c3:Nat}{zs:List Nat}(ho:iA b1 xs b2 ys b3 zs=true)(h1:RD V p1 n1 c1 xs)(h2:RD V p2 n2 c2 ys)(h3:RD V p3 n3 c3 zs) :
  RL V (.agg #[.bool b1,.slice p1 n1 c1,.bool b2,.slice p2 n2 c2,.bool b3,.slice p3 n3 c3]) (Dc b1 xs b2 ys b3 zs).1 (Dc b1 xs b2 ys b3 zs).2.1 (Dc b1 xs b2 ys b3 zs).2.2:=by
 rw [ml] at ho
 simp only [Bool.and_eq_true] at ho
 obtain ⟨⟨⟨o1,o2⟩,o3⟩,-⟩:=ho
 obtain ⟨e1,f1⟩:=Bj o1
 obtain ⟨e2,f2⟩:=Bj o2
 obtain ⟨e3,f3⟩:=Bj o3
 unfold Dc
 dsimp only
 refine ⟨p1,n1,c1,p2,n2,c2,p3,n3,c3,?_,by rw [←f1];exact h1,by rw [←f2];exact h2,by rw [←f3];exact h3⟩
 rw [←e1,←e2,←e3]
theorem Rn.X2 {V:View}{v:Value}{r:Rn}(h:PS V v r)(hs:r.short){c:Fin 8->Value}(hv:v=.agg #[c 0,c 1,c 2,c 3,c 4,c 5,c 6,c 7]):lG V (.agg #[c 0,c 1,c 2,c 3,c 4,c 5]) r.nd.ln/\c 6=.int .i64 r.left/\c 7=.int .i64 r.right:=by
 obtain ⟨p1,n1,c1,p2,n2,c2,p3,n3,c3,e,h1,h2,h3⟩:=h
 have a1:=fg (b:=r.b1) h1.cZ hs.1
 have a2:=fg (b:=r.b2) h2.cZ hs.2.1
 have a3:=fg (b:=r.b3) h3.cZ hs.2.2
 rw [hv] at e
 have e:=congrArg Array.toList (Value.agg.inj e)
 simp only [List.cons.injEq,and_true] at e
 obtain ⟨e0,e1,e2,e3,e4,e5,e6,e7⟩:=e
 refine ⟨?_,e6,e7⟩
 rw [e0,e1,e2,e3,e4,e5]
 unfold Rn.nd
 dsimp only
 cases ho:iA r.b1 r.xs r.b2 r.ys r.b3 r.zs
 ·rw [if_neg (by decide)]
  refine .inr ⟨by decide,_,_,_,_,_,_,_,_,_,_,_,_,_,_,_,rfl,h1,h2,h3,ho,⟨by have:=hs.1;omega,by have:=hs.2.1;omega,by have:=hs.2.2;omega⟩,(jS a1 (by omega)).mono (by omega),(jS a2 (by omega)).mono (by omega),(jS a3 (by omega)).mono (by omega)⟩
 ·rw [if_pos rfl]
  exact .inl (NH ho h1 h2 h3)
end Go.Proofs.Tryz
namespace Go.Proofs.YtnnbfoejafcdlaaGreatDoor
open Go.ChangeShapes Go.WideShapes Go.ChangeAt Go.RowKit Go.bE Go.dP Go.Proofs.Tryz
section
variable {H:Type} {enc:TypeId × Value->H} {W:World} {fuel:Nat}
theorem MU {α:Type}{xs:List α}{i:Nat}{o:Option α}(h:o=xs[i]?)(hi:i<xs.length):∃y,o=some y:=⟨xs[i],by rw [h,List.getElem?_eq_getElem hi]⟩
theorem eT {H:Type}{enc:TypeId×Value->H}{W:World}{fs:Array Field}{cs:List Value}{xs:List (DataW H×List MemPlace)}{m:Nat}(hf:∀(i:Nat)(f:Field),fs[i]?=some f->DataW.trod enc Tryz.prog W 0 (fun _=>true) true m f.type ((cs.drop f.offset).take (Tryz.prog.cellsOf f.type))=xs[i]?)(hl:xs.length=fs.size)(i:Nat){f:Field}(hi:fs[i]?=some f){n:Nat}(hn:Tryz.prog.cellsOf f.type=n) :
  ∃y,DataW.trod enc Tryz.prog W 0 (fun _=>true) true m f.type ((cs.drop f.offset).take n)=some y:=by
 have:=hf i f hi
 rw [hn] at this
 have lt:i<xs.length:=by
  rw [hl]
  exact (Array.getElem?_eq_some_iff.1 hi).1
 exact MU this lt
set_option maxRecDepth 100000 in
theorem Lw {c:Value}{y:DataW H×List MemPlace}(h:DataW.trod enc Tryz.prog W 0 (fun _=>true) true fuel 4 [c]=some y):∃b,c=.bool b:=by
 obtain ⟨b,e,-⟩:=DataW.trod_bool Tryz.underlying4 h
 exact ⟨b,by simpa using e⟩
set_option maxRecDepth 100000 in
theorem J8 {c:Value}{y:DataW H×List MemPlace}(h:DataW.trod enc Tryz.prog W 0 (fun _=>true) true fuel 38 [c]=some y):∃p n k ds,c=.slice p n k/\RD (View.all W) p n k ds:=by
 rcases open_ints Tryz.underlying38 Tryz.underlying188 (show Tryz.prog.cellsOf 188=1 by kernel_rfl) h with ⟨e,-⟩|⟨a,len,cap,zs,e,_,hl,-,hz,-,hcell,hwf⟩
 ·exact ⟨none,0,0,[],by simpa using e,RD.nil⟩
 ·simp only [if_true] at hz
  have hd:∀z∈zs,0<=z/\z<4294967296:=fun z hm=>by
   have:=hwf z hm
   simp only [Lit.wf,Bool.and_eq_true,decide_eq_true_eq] at this
   have h1:IntKind.min .u32=0:=by decide
   have h2:IntKind.max .u32=4294967295:=by decide
   rw [h1,h2] at this
   exact ⟨this.1,by omega⟩
  refine ⟨some a,len,cap,(zs.take len).map Int.toNat,by simpa using e,?_,hl,?_,?_,(fun h=>nomatch h)⟩
  ·simp;omega
  ·intro i v hv
   simp only [aG,List.map_map,List.getElem?_map,Option.map_eq_some_iff] at hv
   obtain ⟨z,hz1,rfl⟩:=hv
   rw [List.getElem?_take] at hz1
   split at hz1
   ·rename_i hi
    have hi':i<zs.length:=by omega
    rw [List.getElem?_eq_getElem hi'] at hz1
    have hz1:=Option.some.inj hz1
    have:=hcell i hi'
    rw [List.getD_eq_getElem?_getD,List.getElem?_eq_getElem hi'] at this
    simp only [Option.getD_some] at this
    have hm:=hd _ (List.getElem_mem hi')
    refine ⟨a,rfl,fun h=>h,?_⟩
    show W.cell? (a.add i)=_
    rw [this,hz1]
    have:((z.toNat:Nat):Int)=z:=Int.toNat_of_nonneg (hz1▸hm.1)
    simp only [Function.comp]
    rw [this]
   ·cases hz1
  ·intro d hm
   simp only [List.mem_map] at hm
   obtain ⟨z,hz1,rfl⟩:=hm
   have:=hd z (List.mem_of_mem_take hz1)
   omega
set_option maxRecDepth 100000 in
theorem Ba {c0 c1:Value}{y:DataW H×List MemPlace}(h:DataW.trod enc Tryz.prog W 0 (fun _=>true) true fuel 40 [c0,c1]=some y):∃b p n k ds,c0=.bool b/\c1=.slice p n k/\RD (View.all W) p n k ds:=by
 obtain ⟨xs,m,-,-,-,hl,hf⟩:=DataW.trod_struct Tryz.underlying40 h
 obtain ⟨y0,h0⟩:=eT hf hl 0 rfl (show Tryz.prog.cellsOf 4=1 by kernel_rfl)
 obtain ⟨y1,h1⟩:=eT hf hl 1 rfl (show Tryz.prog.cellsOf 38=1 by kernel_rfl)
 obtain ⟨b,rfl⟩:=Lw h0
 obtain ⟨p,n,k,ds,rfl,hd⟩:=J8 h1
 exact ⟨b,p,n,k,ds,rfl,rfl,hd⟩
set_option maxRecDepth 100000 in
theorem KA {c0 c1 c2:Value}{y:DataW H×List MemPlace}(h:DataW.trod enc Tryz.prog W 0 (fun _=>true) true fuel 67 [c0,c1,c2]=some y):∃b xs ys,EB (View.all W) (.agg #[c0,c1,c2]) b xs ys/\∃p n k p' n' k',c0=.bool b/\c1=.slice p n k/\c2=.slice p' n' k':=by
 obtain ⟨xs,m,-,-,-,hl,hf⟩:=DataW.trod_struct Tryz.underlying67 h
 obtain ⟨y0,h0⟩:=eT hf hl 0 rfl (show Tryz.prog.cellsOf 40=2 by kernel_rfl)
 obtain ⟨y1,h1⟩:=eT hf hl 1 rfl (show Tryz.prog.cellsOf 38=1 by kernel_rfl)
 obtain ⟨b,p,n,k,ds,rfl,rfl,hd⟩:=Ba h0
 obtain ⟨p',n',k',ds',rfl,hd'⟩:=J8 h1
 exact ⟨b,ds,ds',⟨_,_,_,_,_,_,rfl,hd,hd'⟩,_,_,_,_,_,_,rfl,rfl,rfl⟩
set_option maxRecDepth 100000 in
theorem Mm {c0 c1 c2 c3 c4 c5:Value}{y:DataW H×List MemPlace}(h:DataW.trod enc Tryz.prog W 0 (fun _=>true) true fuel 42 [c0,c1,c2,c3,c4,c5]=some y):∃b1 xs b2 ys b3 zs,Na (View.all W) (.agg #[c0,c1,c2,c3,c4,c5]) b1 xs b2 ys b3 zs/\∃p n k p' n' k' p2 n2 k2,c0=.bool b1/\c1=.slice p n k/\c2=.bool b2/\c3=.slice p' n' k'/\c4=.bool b3/\c5=.slice p2 n2 k2:=by
 obtain ⟨xs,m,-,-,-,hl,hf⟩:=DataW.trod_struct Tryz.underlying42 h
 obtain ⟨y0,h0⟩:=eT hf hl 0 rfl (show Tryz.prog.cellsOf 40=2 by kernel_rfl)
 obtain ⟨y1,h1⟩:=eT hf hl 1 rfl (show Tryz.prog.cellsOf 40=2 by kernel_rfl)
 obtain ⟨y2,h2⟩:=eT hf hl 2 rfl (show Tryz.prog.cellsOf 40=2 by kernel_rfl)
 obtain ⟨b1,p1,n1,k1,d1,rfl,rfl,g1⟩:=Ba h0
 obtain ⟨b2,p2,n2,k2,d2,rfl,rfl,g2⟩:=Ba h1
 obtain ⟨b3,p3,n3,k3,d3,rfl,rfl,g3⟩:=Ba h2
 exact ⟨b1,d1,b2,d2,b3,d3,⟨_,_,_,_,_,_,_,_,_,rfl,g1,g2,g3⟩,_,_,_,_,_,_,_,_,_,rfl,rfl,rfl,rfl,rfl,rfl⟩
end
theorem ew {α:Type}{l:List α}{n:Nat}(h:l.length=n+1):∃a r,l=a::r/\r.length=n:=by
 cases l with
 | nil=>simp at h
 | cons a r=>exact ⟨a,r,rfl,by simpa using h⟩
theorem Mn {α:Type}{P:Nat->α->Prop}(n:Nat)(h:∀i,i<n->∃a,P i a):∃l:List α,l.length=n/\∀i (hi:i<l.length),P i l[i]:=by
 induction n with
 | zero=>exact ⟨[],rfl,fun i hi=>absurd hi (Nat.not_lt_zero i)⟩
 | succ n ih=>
  obtain ⟨l,hl,hp⟩:=ih fun i hi=>h i (by omega)
  obtain ⟨a,ha⟩:=h n (by omega)
  refine ⟨l++[a],by simp [hl],fun i hi=>?_⟩
  rw [List.length_append,List.length_singleton] at hi
  by_cases e:i<l.length
  ·rw [List.getElem_append_left e];exact hp i e
  ·obtain rfl:i=l.length:=by omega
   rw [List.getElem_append_right (Nat.le_refl _)]
   simpa [hl] using ha
theorem Bf {α:Type}{sz:Nat}{R:View->Value->α->Prop}{H:Type}{enc:TypeId×Value->H}{W:World}{t e:TypeId}{fuel:Nat}{c1:Value}{y:DataW H×List MemPlace}(ht:Tryz.prog.underlying t=some (.slice e))(hc:Tryz.prog.cellsOf e=sz)
  (each:∀(fuel:Nat)(cs:List Value)(y:DataW H×List MemPlace),cs.length=sz->DataW.trod enc Tryz.prog W 0 (fun _=>true) true fuel e cs=some y->∃a:α,R (View.all W) (.agg cs.toArray) a)
  (h:DataW.trod enc Tryz.prog W 0 (fun _=>true) true fuel t [c1]=some y):∃p n c,c1=.slice p n c/\n<=c/\(p.isNone=true->c=0)/\∃l:List α,cB sz R (View.all W) p n l:=by
 rcases Go.Deep.open_slice ht h with ⟨hcs,-⟩|⟨a,len,cap,m,k,D,Pl,hcs,-,hl,-,hm,-,hx⟩
 ·exact ⟨none,0,0,by simpa using hcs,Nat.le_refl _,fun _=>rfl,[],cB.nil⟩
 ·simp only [if_true] at hm
  subst hm
  refine ⟨some a,len,_,by simpa using hcs,hl,(fun h=>by cases h),?_⟩
  have key:∀i,i<len->∃x:α,∃cs:List Value,cs.length=sz/\R (View.all W) (.agg cs.toArray) x/\∀j v,cs[j]?=some v->(View.all W).at ((a.add (i*sz)).add j) v:=by
   intro i hi
   obtain ⟨cs,h1,h2⟩:=hx i (by omega)
   rw [hc] at h1
   unfold World.cells? at h1
   rw [if_pos (Nat.zero_le _)] at h1
   have h3:cs.length=sz:=by simpa using mapM_some_length h1
   obtain ⟨x,h4⟩:=each k cs _ h3 h2
   refine ⟨x,cs,h3,h4,fun j v hj=>?_⟩
   have hj':j<sz:=by rw [←h3];exact (List.getElem?_eq_some_iff.1 hj).1
   have:=mapM_some_get h1 j j (by simp [hj'])
   exact ⟨fun h=>h,by show W.cell? _=_;rw [this];exact hj⟩
  obtain ⟨l,hl2,hp⟩:=Mn len key
  refine ⟨l,hl2.symm,fun i hi=>?_⟩
  obtain ⟨cs,h3,h4,h5⟩:=hp i hi
  exact ⟨a.add (i*sz),rfl,cs,h3,h4,h5⟩
end Go.Proofs.YtnnbfoejafcdlaaGreatDoor
namespace Go.Proofs.Tryz
open Go.dP
section
variable {α:Type}
structure Ord (c:α->α->Int):Prop where
 Py:∀a b,c a b<0->¬c b a<0
 tr:∀a b d,¬c a b<0->¬c b d<0->¬c a d<0
variable {c:α->α->Int}
theorem Ord.le (h:Ord c){a b:α}(l:c a b<0):¬c b a<0:=h.Py a b l
theorem Ord.refl (h:Ord c)(a:α):¬c a a<0:=fun l=>h.Py a a l l
def sE (d:α)(l:List α)(i j:Nat):List α:=(l.set i (l.getD j d)).set j (l.getD i d)
variable {d:α}
theorem p_ {l:List α}{i j:Nat}:(sE d l i j).length=l.length:=by simp [sE]
theorem pB {l:List α}{i k:Nat}{x:α}(hi:i<l.length):(l.set i x).getD k d=if k=i then x else l.getD k d:=by
 simp only [List.getD_eq_getElem?_getD,List.getElem?_set]
 by_cases h:k=i
 ·subst h;simp [hi]
 ·have:¬i=k:=fun e=>h e.symm
  simp [h,this]
theorem oA {l:List α}{i j k:Nat}(hi:i<l.length)(hj:j<l.length):(sE d l i j).getD k d=if k=j then l.getD i d else if k=i then l.getD j d else l.getD k d:=by
 unfold sE
 rw [pB (by simpa using hj),pB hi]
theorem KT {l:List α}{i j:Nat}(hi:i<l.length)(hj:j<l.length):(sE d l i j).Perm l:=by
 have h:=Array.swap_perm (xs:=l.toArray) (i:=i) (j:=j) (by simpa using hi) (by simpa using hj)
 have e:(l.toArray.swap i j (by simpa using hi) (by simpa using hj)).toList=sE d l i j:=by
  simp [Array.swap,sE,List.getD_eq_getElem?_getD,hi,hj]
 have:=h.toList
 rw [e] at this
 simpa using this
structure rJ (d:α) (l m:List α) (a b:Nat):Prop where
 len:m.length=l.length
 out:∀k,¬(a<=k/\k<b)->m.getD k d=l.getD k d
 mem:∀k,a<=k->k<b->∃k',a<=k'/\k'<b/\m.getD k d=l.getD k' d
 perm:m.Perm l
theorem rJ.refl (l:List α)(a b:Nat):rJ d l l a b:=⟨rfl,fun _ _=>rfl,fun k h h'=>⟨k,h,h',rfl⟩,.refl _⟩
theorem rJ.trans {l m n:List α}{a b:Nat}(h:rJ d l m a b)(g:rJ d m n a b):rJ d l n a b:=
 ⟨g.len.trans h.len,fun k hk=>(g.out k hk).trans (h.out k hk),fun k h1 h2=>by
  obtain ⟨k',h3,h4,e⟩:=g.mem k h1 h2
  obtain ⟨k'',h5,h6,e'⟩:=h.mem k' h3 h4
  exact ⟨k'',h5,h6,e.trans e'⟩,g.perm.trans h.perm⟩
theorem rJ.wide {l m:List α}{a b a' b':Nat}(h:rJ d l m a b)(ha:a'<=a)(hb:b<=b'):rJ d l m a' b':=
 ⟨h.len,fun k hk=>h.out k (by omega),fun k h1 h2=>by
  by_cases hk:a<=k/\k<b
  ·obtain ⟨k',h3,h4,e⟩:=h.mem k hk.1 hk.2
   exact ⟨k',by omega,by omega,e⟩
  ·exact ⟨k,h1,h2,h.out k hk⟩,h.perm⟩
theorem rJ.sE {l:List α}{a b i j:Nat}(hi:a<=i)(hi':i<b)(hj:a<=j)(hj':j<b)(hb:b<=l.length):rJ d l (sE d l i j) a b:=by
 refine ⟨p_,fun k hk=>?_,fun k h1 h2=>?_,KT (by omega) (by omega)⟩
 ·rw [oA (by omega) (by omega),if_neg (by omega),if_neg (by omega)]
 ·rw [oA (by omega) (by omega)]
  split
  ·exact ⟨i,hi,hi',rfl⟩
  ·split
   ·exact ⟨j,hj,hj',rfl⟩
   ·exact ⟨k,h1,h2,rfl⟩
def xl (c:α->α->Int)(d:α)(l:List α)(a b:Nat):Prop:=∀p q,a<=p->p<q->q<b->¬c (l.getD q d) (l.getD p d)<0
theorem xl.short {l:List α}{a b:Nat}(h:b<=a+1):xl c d l a b:=fun p q h1 h2 h3=>by omega
theorem xl.step (ho:Ord c){l:List α}{a b:Nat}(h:xl c d l a b)(h0:a<b)(hb:¬c (l.getD b d) (l.getD (b-1) d)<0):xl c d l a (b+1):=by
 intro p q h1 h2 h3
 by_cases e:q=b
 ·subst e
  by_cases e':p=q-1
  ·subst e';exact hb
  ·exact ho.tr _ _ _ hb (h p (q-1) h1 (by omega) (by omega))
 ·exact h p q h1 h2 (by omega)
def NZ (c:α->α->Int)(d:α)(l:List α)(a i j:Nat):Prop:=∀p q,a<=p->p<q->q<=i->q≠j->¬c (l.getD q d) (l.getD p d)<0
theorem NZ.start {l:List α}{a i:Nat}(h:xl c d l a i):NZ c d l a i i:=fun p q h1 h2 h3 h4=>h p q h1 h2 (by omega)
theorem NZ.done (ho:Ord c){l:List α}{a i j:Nat}(h:NZ c d l a i j)(hji:j<=i)(hs:j<=a\/¬c (l.getD j d) (l.getD (j-1) d)<0):xl c d l a (i+1):=by
 intro p q h1 h2 h3
 by_cases e:q=j
 ·subst e
  rcases hs with hs|hs
  ·omega
  ·by_cases e':p=q-1
   ·subst e';exact hs
   ·exact ho.tr _ _ _ hs (h p (q-1) h1 (by omega) (by omega) (by omega))
 ·exact h p q h1 h2 (by omega) e
theorem NZ.move (ho:Ord c){l:List α}{a i j:Nat}(h:NZ c d l a i j)(hj:a<j)(hji:j<=i)(hi:i<l.length)(hl:c (l.getD j d) (l.getD (j-1) d)<0):NZ c d (sE d l j (j-1)) a i (j-1):=by
 intro p q h1 h2 h3 h4
 have ha:=fun k=>oA (d:=d) (l:=l) (i:=j) (j:=j-1) (k:=k) (by omega) (by omega)
 rw [ha,ha]
 by_cases eq:q=j
 ·subst eq
  rw [if_neg (by omega),if_pos rfl]
  by_cases ep:p=q-1
  ·rw [if_pos ep];exact ho.Py _ _ hl
  ·rw [if_neg ep,if_neg (by omega)];exact h p (q-1) h1 (by omega) (by omega) (by omega)
 ·rw [if_neg h4,if_neg eq]
  by_cases ep:p=j-1
  ·rw [if_pos ep];exact h j q (by omega) (by omega) h3 eq
  ·rw [if_neg ep]
   by_cases SI:p=j
   ·rw [if_pos SI];exact h (j-1) q (by omega) (by omega) h3 eq
   ·rw [if_neg SI];exact h p q h1 h2 h3 eq
def Hp (c:α->α->Int)(d:α)(l:List α)(f lo hi:Nat)(r:Option Nat):Prop:=
 (∀i k,lo<=i->(k=2*i+1\/k=2*i+2)->k<hi->r≠some i->¬c (l.getD (f+i) d) (l.getD (f+k) d)<0) /\
 (∀i j k,r=some j->lo<=i->(j=2*i+1\/j=2*i+2)->(k=2*j+1\/k=2*j+2)->k<hi->¬c (l.getD (f+i) d) (l.getD (f+k) d)<0)
theorem Hp.top (ho:Ord c){l:List α}{f hi:Nat}(h:Hp c d l f 0 hi none):∀k,k<hi->¬c (l.getD f d) (l.getD (f+k) d)<0:=by
 intro k
 induction k using Nat.strongRecOn with
 | ind k ih=>
  intro hk
  by_cases h0:k=0
  ·subst h0;exact ho.refl _
  ·exact ho.tr _ _ _ (ih ((k-1) / 2) (by omega) (by omega)) (h.1 ((k-1) / 2) k (by omega) (by omega) hk (by simp))
theorem Hp.leaf {l:List α}{f lo hi r:Nat}(h:Hp c d l f lo hi (some r))(hr:hi<=2*r+1):Hp c d l f lo hi none:=
 ⟨fun i k h1 h2 h3 _=>by
  by_cases e:r=i
  ·omega
  ·exact h.1 i k h1 h2 h3 (by simpa using e),fun i j k e=>by cases e⟩
theorem Hp.stop (ho:Ord c){l:List α}{f lo hi r k:Nat}(h:Hp c d l f lo hi (some r))(hk:k=2*r+1\/k=2*r+2)(hm:∀k',(k'=2*r+1\/k'=2*r+2)->k'<hi->¬c (l.getD (f+k) d) (l.getD (f+k') d)<0)
  (hs:¬c (l.getD (f+r) d) (l.getD (f+k) d)<0):Hp c d l f lo hi none:=
 ⟨fun i k' h1 h2 h3 _=>by
  by_cases e:r=i
  ·subst e;exact ho.tr _ _ _ hs (hm k' h2 h3)
  ·exact h.1 i k' h1 h2 h3 (by simpa using e),fun i j k e=>by cases e⟩
theorem Hp.down (ho:Ord c){l:List α}{f lo hi r k:Nat}(h:Hp c d l f lo hi (some r))(hlo:lo<=r)(hl:f+hi<=l.length)(hk:k=2*r+1\/k=2*r+2)(hkh:k<hi)(hm:∀k',(k'=2*r+1\/k'=2*r+2)->k'<hi->¬c (l.getD (f+k) d) (l.getD (f+k') d)<0)
  (hs:c (l.getD (f+r) d) (l.getD (f+k) d)<0):Hp c d (sE d l (f+r) (f+k)) f lo hi (some k):=by
 have ha:=fun x=>oA (d:=d) (l:=l) (i:=f+r) (j:=f+k) (k:=x) (by omega) (by omega)
 refine ⟨fun i k' h1 h2 h3 h4=>?_,fun i j k' e h1 h2 h3 h4=>?_⟩
 ·have h4:¬i=k:=fun e=>h4 (by rw [e])
  rw [ha,ha,if_neg (show ¬f+i=f+k by omega)]
  by_cases er:i=r
  ·subst er
   rw [if_pos rfl]
   by_cases ek:k'=k
   ·rw [if_pos (by omega)];exact ho.Py _ _ hs
   ·rw [if_neg (by omega),if_neg (by omega)];exact hm k' h2 h3
  ·rw [if_neg (by omega)]
   by_cases ek:k'=r
   ·subst ek
    rw [if_neg (by omega),if_pos rfl]
    exact h.2 i k' k rfl h1 h2 hk hkh
   ·rw [if_neg (by omega),if_neg (by omega)]
    exact h.1 i k' h1 h2 h3 (by simp;omega)
 ·cases e
  rw [ha,ha]
  have:i=r:=by omega
  subst this
  rw [if_neg (by omega),if_pos rfl,if_neg (by omega),if_neg (by omega)]
  exact h.1 k k' (by omega) h3 h4 (by simp;omega)
theorem Hp.more {l:List α}{f lo hi:Nat}(h:Hp c d l f (lo+1) hi none):Hp c d l f lo hi (some lo):=
 ⟨fun i k h1 h2 h3 h4=>h.1 i k (by have:¬lo=i:=fun e=>h4 (by rw [e]);omega) h2 h3 (by simp),fun i j k e h1 h2 h3 h4=>by cases e;omega⟩
def Sep (c:α->α->Int)(d:α)(l:List α)(a m b:Nat):Prop:=∀p q,a<=p->p<m->m<=q->q<b->¬c (l.getD q d) (l.getD p d)<0
theorem rJ.sep {l m:List α}{a b x y z:Nat}(h:rJ d l m a b)(hs:Sep c d l x y z)(hc:(x<=a/\b<=y)\/(y<=a/\b<=z)\/b<=x\/z<=a):Sep c d m x y z:=by
 intro p q h1 h2 h3 h4
 have key:∀k,∃k',m.getD k d=l.getD k' d/\(k=k'\/a<=k/\k<b/\a<=k'/\k'<b):=fun k=>by
  by_cases hk:a<=k/\k<b
  ·obtain ⟨k',e1,e2,e⟩:=h.mem k hk.1 hk.2
   exact ⟨k',e,.inr ⟨hk.1,hk.2,e1,e2⟩⟩
  ·exact ⟨k,h.out k hk,.inl rfl⟩
 obtain ⟨p',e1,e2⟩:=key p
 obtain ⟨q',f1,f2⟩:=key q
 rw [e1,f1]
 exact hs p' q' (by omega) (by omega) (by omega) (by omega)
theorem rJ.rM {l m:List α}{a b x y:Nat}(h:rJ d l m a b)(hs:xl c d l x y)(hc:y<=a\/b<=x):xl c d m x y:=by
 intro p q h1 h2 h3
 rw [h.out p (by omega),h.out q (by omega)]
 exact hs p q h1 h2 h3
theorem xl.join {l:List α}{a m b:Nat}(h1:xl c d l a m)(h2:xl c d l m b)(h3:Sep c d l a m b):xl c d l a b:=by
 intro p q g1 g2 g3
 by_cases hq:q<m
 ·exact h1 p q g1 g2 hq
 ·by_cases hp:m<=p
  ·exact h2 p q hp g2 g3
  ·exact h3 p q g1 (by omega) (by omega) g3
end
end Go.Proofs.Tryz
namespace Go.Proofs.Tryz.aq
abbrev V2:=Rat×Rat
def cr (u v:V2):Rat:=u.1*v.2-u.2*v.1
def dt (u v:V2):Rat:=u.1*v.1+u.2*v.2
def Sc (u:V2):V2:=(-u.2,u.1)
def up (u:V2):Prop:=u.2>0\/u.2=0/\u.1>0
def dn (u:V2):Prop:=u.2<0\/u.2=0/\u.1<0
def nz (u:V2):Prop:=u.1≠0\/u.2≠0
def sM (u v:V2):Prop:=(up u/\dn v)\/((up u/\up v\/dn u/\dn v)/\cr u v>0)
def Lm (a:Rat)(u:V2)(b:Rat)(w:V2):V2:=(a*u.1+b*w.1,a*u.2+b*w.2)
def U_ (s r:V2):Prop:=∃c:Rat,c>0/\s.1=-(c*r.1)/\s.2=-(c*r.2)
theorem mG {u:V2}(h:nz u):up u\/dn u:=by unfold nz at h;unfold up dn;grind
theorem eV {u:V2}(h:up u)(h':dn u):False:=by unfold up at h;unfold dn at h';grind
theorem gO (u v:V2):cr v u=-cr u v:=by unfold cr;grind
theorem OP (u w r:V2):cr u r*w.1+cr r w*u.1=cr u w*r.1:=by unfold cr;grind
theorem Fj (u w r:V2):cr u r*w.2+cr r w*u.2=cr u w*r.2:=by unfold cr;grind
theorem E1 (r:V2)(a:Rat)(u:V2)(b:Rat)(w:V2):cr r (Lm a u b w)=a*cr r u+b*cr r w:=by unfold cr Lm;grind
theorem Of (r u:V2):cr r (Sc u)=dt r u:=by unfold cr Sc dt;grind
theorem Bn {s r:V2}(h:U_ s r)(z:V2):∃c:Rat,c>0/\cr s z=-(c*cr r z)/\cr z s=-(c*cr z r):=by
 obtain ⟨c,h0,h1,h2⟩:=h
 exact ⟨c,h0,by unfold cr;rw [h1,h2];grind,by unfold cr;rw [h1,h2];grind⟩
theorem mp {a b:Rat}(ha:a>0)(hb:b>0):a*b>0:=Rat.mul_pos ha hb
theorem mn {a b:Rat}(ha:a≥0)(hb:b≥0):a*b≥0:=Rat.mul_nonneg ha hb
theorem b1 {u w r:V2}(hu:up u)(hw:dn w)(hr:up r)(a:cr u r>0)(b:cr r w<=0)(c:cr u w≥0):False:=by
 have e:=Fj u w r
 unfold up at hu hr;unfold dn at hw
 have h1:cr u r*(-w.2)≥0:=mn (by grind) (by grind)
 have h2:(-(cr r w))*u.2≥0:=mn (by grind) (by grind)
 have h3:cr u w*r.2≥0:=mn c (by grind)
 have z1:cr u r*w.2=0:=by grind
 have w2:w.2=0:=by rcases Rat.mul_eq_zero.1 z1 with h|h<;>grind
 have w1:w.1<0:=by grind
 have bb:cr r w=-(r.2*w.1):=by unfold cr;grind
 have r2:r.2=0:=by
  by_cases h:r.2>0
  ·have:=mp h (show -w.1>0 by grind)
   grind
  ·grind
 have r1:r.1>0:=by grind
 have aa:cr u r=-(u.2*r.1):=by unfold cr;grind
 have:=mn (show u.2≥0 by grind) (show r.1≥0 by grind)
 grind
theorem b2 {u w r:V2}(hu:up u)(hw:dn w)(hr:dn r)(a:cr u r<=0)(b:cr r w>0)(c:cr u w≥0):False:=by
 have e:=Fj u w r
 unfold up at hu;unfold dn at hw hr
 have h1:(-(cr u r))*(-w.2)≥0:=mn (by grind) (by grind)
 have h2:cr r w*u.2≥0:=mn (by grind) (by grind)
 have h3:cr u w*(-r.2)≥0:=mn c (by grind)
 have z1:cr r w*u.2=0:=by grind
 have u2:u.2=0:=by rcases Rat.mul_eq_zero.1 z1 with h|h<;>grind
 have u1:u.1>0:=by grind
 have cc:cr u w=u.1*w.2:=by unfold cr;grind
 have w2:w.2=0:=by
  by_cases h:w.2<0
  ·have:=mp u1 (show -w.2>0 by grind)
   grind
  ·grind
 have w1:w.1<0:=by grind
 have bb:cr r w=-(r.2*w.1):=by unfold cr;grind
 have:=mn (show -r.2≥0 by grind) (show -w.1≥0 by grind)
 grind
theorem b3 {u w r:V2}(hu:dn u)(hw:up w)(hr:dn r)(a:cr u r>0)(b:cr r w<=0)(c:cr u w≥0):False:=by
 have e:=Fj u w r
 unfold dn at hu hr;unfold up at hw
 have h1:cr u r*w.2≥0:=mn (by grind) (by grind)
 have h2:(-(cr r w))*(-u.2)≥0:=mn (by grind) (by grind)
 have h3:cr u w*(-r.2)≥0:=mn c (by grind)
 have z1:cr u r*w.2=0:=by grind
 have w2:w.2=0:=by rcases Rat.mul_eq_zero.1 z1 with h|h<;>grind
 have w1:w.1>0:=by grind
 have bb:cr r w=-(r.2*w.1):=by unfold cr;grind
 have r2:r.2=0:=by
  by_cases h:r.2<0
  ·have:=mp w1 (show -r.2>0 by grind)
   grind
  ·grind
 have r1:r.1<0:=by grind
 have aa:cr u r=-(u.2*r.1):=by unfold cr;grind
 have:=mn (show -u.2≥0 by grind) (show -r.1≥0 by grind)
 grind
theorem b4 {u w r:V2}(hu:dn u)(hw:up w)(hr:up r)(a:cr u r<=0)(b:cr r w>0)(c:cr u w≥0):False:=by
 have e:=Fj u w r
 unfold dn at hu;unfold up at hw hr
 have h1:(-(cr u r))*w.2≥0:=mn (by grind) (by grind)
 have h2:cr r w*(-u.2)≥0:=mn (by grind) (by grind)
 have h3:cr u w*r.2≥0:=mn c (by grind)
 have z1:cr r w*u.2=0:=by grind
 have u2:u.2=0:=by rcases Rat.mul_eq_zero.1 z1 with h|h<;>grind
 have u1:u.1<0:=by grind
 have cc:cr u w=u.1*w.2:=by unfold cr;grind
 have w2:w.2=0:=by
  by_cases h:w.2>0
  ·have:=mp h (show -u.1>0 by grind)
   grind
  ·grind
 have w1:w.1>0:=by grind
 have bb:cr r w=-(r.2*w.1):=by unfold cr;grind
 have:=mn (show r.2≥0 by grind) (show w.1≥0 by grind)
 grind
structure Nb (D:List V2):Prop where
 nz:∀r∈D,nz r
 cl:∀r∈D,∃s∈D,U_ s r
 rM:D.Pairwise sM
def ss (a b:Rat):Prop:=(b>0->a>0)/\(b<0->a<0)
theorem jH {u v:V2}(hu:up u)(hv:up v):sM u v->cr u v>0:=by
 rintro (⟨_,h⟩|⟨_,h⟩)
 ·exact (eV hv h).elim
 ·exact h
theorem iK {u v:V2}(hu:dn u)(hv:dn v):sM u v->cr u v>0:=by
 rintro (⟨h,_⟩|⟨_,h⟩)
 ·exact (eV h hu).elim
 ·exact h
theorem fk {u v:V2}(hu:dn u)(hv:up v):¬sM u v:=by
 rintro (⟨h,_⟩|⟨⟨h,_⟩|⟨_,h⟩,_⟩)
 ·exact eV h hu
 ·exact eV h hu
 ·exact eV hv h
section
variable {D:List V2} (h:Nb D) {v:V2} (hv:∀r ∈ D,cr r v≠0)
include h hv
omit hv in
theorem zY {i j:Nat}{a b:V2}(hi:D[i]?=some a)(hj:D[j]?=some b)(L1:i<j):sM a b:=by
 obtain ⟨h1,e1⟩:=List.getElem?_eq_some_iff.1 hi
 obtain ⟨h2,e2⟩:=List.getElem?_eq_some_iff.1 hj
 have:=List.pairwise_iff_getElem.1 h.rM i j h1 h2 L1
 rwa [e1,e2] at this
end
theorem Rw {r:V2}(h:nz r){c:Rat}(h1:c*r.1=0)(h2:c*r.2=0):c=0:=by
 rcases Rat.mul_eq_zero.1 h1 with e|e
 ·exact e
 ·rcases Rat.mul_eq_zero.1 h2 with e'|e'
  ·exact e'
  ·unfold nz at h;grind
theorem sq_pos {u:V2}(h:nz u):dt u u>0:=by
 have sq:∀x:Rat,x*x≥0:=fun x=>by
  by_cases hx:x≥0
  ·exact mn hx hx
  ·have:=mn (show -x≥0 by grind) (show -x≥0 by grind);grind
 have:=sq u.1
 have:=sq u.2
 unfold dt
 by_cases hh:u.1*u.1+u.2*u.2>0
 ·exact hh
 ·unfold nz at h
  have e1:u.1*u.1=0:=by grind
  have e2:u.2*u.2=0:=by grind
  rcases Rat.mul_eq_zero.1 e1 with e|e<;>rcases Rat.mul_eq_zero.1 e2 with e'|e'<;>grind
def Hn (u w v':V2):Prop:=cr u w>0/\(∃a b:Rat,a>0/\b>0/\v'=Lm a u b w)\/cr u w<=0/\∃a:Rat,a>0/\v'=Lm a (Sc u) 0 w
section
variable {D:List V2} (h:Nb D)
include h
end
theorem PY {u w s:V2}(nu:nz u)(nw:nz w)(ns:nz s)(o:sM s u/\sM u w\/sM u w/\sM w s\/sM w s/\sM s u)
  (a:cr u s>0)(b:cr s w>0)(c:cr u w>0):False:=by
 have e2:=Fj u w s
 have e1:=OP u w s
 have s1:=gO u s
 have s2:=gO s w
 rcases mG nu with hu|hu<;>rcases mG nw with hw|hw<;>rcases mG ns with hs|hs
 ·rcases o with ⟨p,q⟩|⟨p,q⟩|⟨p,q⟩
  ·have:=jH hs hu p;grind
  ·have:=jH hw hs q;grind
  ·have:=jH hw hs p;grind
 ·unfold up at hu hw
  unfold dn at hs
  have m1:=mn (show cr u s≥0 by grind) (show w.2≥0 by grind)
  have m2:=mn (show cr s w≥0 by grind) (show u.2≥0 by grind)
  have m3:=mn (show cr u w≥0 by grind) (show -s.2≥0 by grind)
  have z1:cr u s*w.2=0:=by grind
  have z2:cr s w*u.2=0:=by grind
  have w2:w.2=0:=by rcases Rat.mul_eq_zero.1 z1 with h|h<;>grind
  have u2:u.2=0:=by rcases Rat.mul_eq_zero.1 z2 with h|h<;>grind
  unfold cr at c
  rw [w2,u2] at c
  grind
 ·rcases o with ⟨p,q⟩|⟨p,q⟩|⟨p,q⟩
  ·have:=jH hs hu p;grind
  ·exact fk hw hs q
  ·exact fk hw hs p
 ·rcases o with ⟨p,q⟩|⟨p,q⟩|⟨p,q⟩
  ·exact fk hs hu p
  ·have:=iK hw hs q;grind
  ·exact fk hs hu q
 ·rcases o with ⟨p,q⟩|⟨p,q⟩|⟨p,q⟩
  ·exact fk hu hw q
  ·exact fk hu hw p
  ·have:=jH hw hs p;grind
 ·rcases o with ⟨p,q⟩|⟨p,q⟩|⟨p,q⟩
  ·exact fk hu hw q
  ·exact fk hu hw p
  ·have:=iK hs hu q;grind
 ·unfold dn at hu hw
  unfold up at hs
  have m1:=mn (show cr u s≥0 by grind) (show -w.2≥0 by grind)
  have m2:=mn (show cr s w≥0 by grind) (show -u.2≥0 by grind)
  have m3:=mn (show cr u w≥0 by grind) (show s.2≥0 by grind)
  have z1:cr u s*w.2=0:=by grind
  have z2:cr s w*u.2=0:=by grind
  have w2:w.2=0:=by rcases Rat.mul_eq_zero.1 z1 with h|h<;>grind
  have u2:u.2=0:=by rcases Rat.mul_eq_zero.1 z2 with h|h<;>grind
  unfold cr at c
  rw [w2,u2] at c
  grind
 ·rcases o with ⟨p,q⟩|⟨p,q⟩|⟨p,q⟩
  ·have:=iK hs hu p;grind
  ·have:=iK hw hs q;grind
  ·have:=iK hw hs p;grind
theorem Nj {u w s:V2}(nu:nz u)(nw:nz w)(ns:nz s)(o:sM s u/\sM u w\/sM u w/\sM w s\/sM w s/\sM s u)
  (a:cr u s>0)(c:cr u w<=0):False:=by
 have s1:=gO u s
 rcases mG nu with hu|hu<;>rcases mG ns with hs|hs
 ·rcases o with ⟨p,q⟩|⟨p,q⟩|⟨p,q⟩
  ·have:=jH hs hu p;grind
  ·rcases mG nw with hw|hw
   ·have:=jH hu hw p;grind
   ·exact fk hw hs q
  ·have:=jH hs hu q;grind
 ·rcases o with ⟨p,q⟩|⟨p,q⟩|⟨p,q⟩
  ·exact fk hs hu p
  ·rcases mG nw with hw|hw
   ·have:=jH hu hw p;grind
   ·exact b2 hu hs hw c (iK hw hs q) (by grind)
  ·exact fk hs hu q
 ·rcases o with ⟨p,q⟩|⟨p,q⟩|⟨p,q⟩
  ·rcases mG nw with hw|hw
   ·exact fk hu hw q
   ·have:=iK hu hw q;grind
  ·rcases mG nw with hw|hw
   ·exact fk hu hw p
   ·have:=iK hu hw p;grind
  ·rcases mG nw with hw|hw
   ·exact b4 hu hs hw c (jH hw hs p) (by grind)
   ·exact fk hw hs p
 ·rcases o with ⟨p,q⟩|⟨p,q⟩|⟨p,q⟩
  ·have:=iK hs hu p;grind
  ·rcases mG nw with hw|hw
   ·exact fk hu hw p
   ·have:=iK hu hw p;grind
  ·have:=iK hs hu q;grind
section
variable {D:List V2} (h:Nb D)
include h
theorem TB {i k:Nat}{u w s:V2}(hi:D[i]?=some u)(hw:D[(i+1)%D.length]?=some w)(hk:D[k]?=some s)
  (n1:k≠i)(n2:k≠(i+1)%D.length):sM s u/\sM u w\/sM u w/\sM w s\/sM w s/\sM s u:=by
 have li:i<D.length:=(List.getElem?_eq_some_iff.1 hi).1
 have lk:k<D.length:=(List.getElem?_eq_some_iff.1 hk).1
 by_cases hl:i+1<D.length
 ·rw [Nat.mod_eq_of_lt hl] at hw n2
  by_cases hlt:k<i
  ·exact .inl ⟨zY h hk hi hlt,zY h hi hw (by omega)⟩
  ·exact .inr (.inl ⟨zY h hi hw (by omega),zY h hw hk (by omega)⟩)
 ·have:i+1=D.length:=by omega
  rw [this,Nat.mod_self] at hw n2
  exact .inr (.inr ⟨zY h hw hk (by omega),zY h hk hi (by omega)⟩)
theorem O9 {i:Nat}{u w v':V2}(hi:D[i]?=some u)(hw:D[(i+1)%D.length]?=some w)(hs:Hn u w v') :
  ∀r∈D,cr r v'≠0:=by
 intro r hr z
 have hu:u∈D:=List.mem_of_getElem? hi
 have QQ:w∈D:=List.mem_of_getElem? hw
 have nu:=sq_pos (h.nz u hu)
 have nr:=sq_pos (h.nz r hr)
 rcases hs with ⟨c,a,b,a0,b0,rfl⟩|⟨c,a,a0,rfl⟩
 ·
  have key:∀s∈D,cr s (Lm a u b w)=0->cr u s>0->False:=fun s hs z p=>by
   have s1:=gO u s
   rw [E1,s1] at z
   have q:cr s w>0:=by
    by_cases q:cr s w>0
    ·exact q
    ·have:=mp a0 p
     have:=mn (show b≥0 by grind) (show -(cr s w)≥0 by grind)
     grind
   obtain ⟨k,hk⟩:=List.getElem?_of_mem hs
   refine PY (h.nz u hu) (h.nz w QQ) (h.nz s hs) (TB h hi hw hk (fun e=>?_) (fun e=>?_)) p q c
   ·rw [e,hi] at hk;cases hk;unfold cr at p;grind
   ·rw [e,hw] at hk;cases hk;unfold cr at q;grind
  by_cases p:cr u r>0
  ·exact key r hr z p
  ·obtain ⟨s,hs,ho⟩:=h.cl r hr
   obtain ⟨k,k0,e1,e2⟩:=Bn ho u
   obtain ⟨k',k0',e3,_⟩:=Bn ho (Lm a u b w)
   by_cases q:cr u r=0
   ·have s1:=gO u r
    rw [E1,s1,q] at z
    have:b*cr r w=0:=by grind
    have rw0:cr r w=0:=by rcases Rat.mul_eq_zero.1 this with e|e<;>grind
    have j1:=OP u w r
    have j2:=Fj u w r
    have:=Rw (h.nz r hr) (c:=cr u w) (by grind) (by grind)
    grind
   ·refine key s hs (by rw [e3,z];grind) ?_
    rw [e2]
    have:=mp k0 (show -(cr u r)>0 by grind)
    grind
 ·have key:∀s∈D,cr u s>0->False:=fun s hs p=>by
   obtain ⟨k,hk⟩:=List.getElem?_of_mem hs
   refine Nj (h.nz u hu) (h.nz w QQ) (h.nz s hs) (TB h hi hw hk (fun e=>?_) (fun e=>?_)) p c
   ·rw [e,hi] at hk;cases hk;unfold cr at p;grind
   ·rw [e,hw] at hk;cases hk;grind
  rw [E1,Of] at z
  have d0:dt r u=0:=by
   have:a*dt r u=0:=by grind
   rcases Rat.mul_eq_zero.1 this with e|e<;>grind
  have c0:cr u r≠0:=fun e=>by
   have:cr u r*cr u r+dt r u*dt r u=dt u u*dt r r:=by unfold cr dt;grind
   have:=mp nu nr
   grind
  by_cases p:cr u r>0
  ·exact key r hr p
  ·obtain ⟨s,hs,ho⟩:=h.cl r hr
   obtain ⟨k,k0,e1,e2⟩:=Bn ho u
   refine key s hs ?_
   rw [e2]
   have:=mp k0 (show -(cr u r)>0 by grind)
   grind
def SC (D S:List V2):Prop:=(D=[]/\S=[(1,0)])\/D≠[]/\(∀x∈S,∃i u w,D[i]?=some u/\D[(i+1)%D.length]?=some w/\Hn u w x) /\
 ∀i u w,D[i]?=some u->D[(i+1)%D.length]?=some w->∃x∈S,Hn u w x
theorem MT {S:List V2}(hS:SC D S):∀x∈S,∀r∈D,cr r x≠0:=by
 rcases hS with ⟨rfl,rfl⟩|⟨_,h1,_⟩
 ·intro x _ r hr;cases hr
 ·intro x hx
  obtain ⟨i,u,w,a,b,c⟩:=h1 x hx
  exact O9 h a b c
end
end Go.Proofs.Tryz.aq
namespace Go.Proofs.Tryz
open Go.bE
section
open Go.RowKit Go.Extern.Stop Go.Stop Go.Extern
theorem HS (v:Value)(w:World):(Extern.ReflectliteType.typeOf #[.iface 294 v]).run prog w=.ok (.iface 198 (.agg #[.pointer (some ⟨5,294,none⟩)])) w:=by kernel_rfl
theorem xQ (w : World) : ((Extern.ReflectliteType.method fun t => do Extern.Rtype.noPackHeld "Comparable" t; (fun a => Value.bool a.comparable) <$> typeInfo t) #[.agg #[.pointer (some ⟨5, 294, none⟩)]]).run prog w = .ok (.bool true) w := by kernel_rfl
theorem LN:(prog.info? 294).map (·.comparable)=some true:=by kernel_rfl
theorem LP:(prog.info? 319).map (·.size)=some 1:=by kernel_rfl
theorem nB (v : Value)(w : World) : (Go.method 435 198 v "Comparable").run prog w = .ok (257, v) w := by kernel_rfl
theorem LO (a:Addr)(w:World) :
  Calls prog 17 #[.iface 294 (.pointer (some a)),.iface 294 (.pointer (some a))] w fun e w'=>e=.returned (.bool true)/\w'=w:=by
 obtain ⟨i,hi,hcmp⟩:=Option.map_eq_some_iff.1 LN
 obtain ⟨j,hj,hjs⟩:=Option.map_eq_some_iff.1 LP
 have h8:=@run_callFunc_extern prog 67 _ Extern.ReflectliteType.typeOf func67 (by kernel_rfl) (by kernel_rfl) (by kernel_rfl) (by kernel_rfl)
 have h32 := @run_callFunc_extern prog 257 _ (Extern.ReflectliteType.method fun t => do Extern.Rtype.noPackHeld "Comparable" t; pure (.bool (← typeInfo t).comparable)) func257 (by kernel_rfl) (by kernel_rfl) (by kernel_rfl) (by kernel_rfl)
 have tT:=HS
 have cT:=xQ
 have mR:=nB
 have heq:=run_eql_iface_ptr_same (P:=prog) w a underlying47 underlying294 hi hcmp hj
 go_enter func17,ntmps17
 go_wp2
 refine wp_loop_rounds 1 ?_
 rw [rounds_succ]
 go_wp2
 go_ret
 exact ⟨rfl,rfl⟩
end
theorem EE {f:FuncId}{args:Array Value}{V:View}{v:Value}(hc:iJ prog f)(h:Calls prog f args V.w fun e w'=>e=.returned v/\w'=V.w):ab prog f args V fun r _=>r=v:=
 ⟨hc,h.mono fun e w' ⟨h1,h2⟩=>by subst h2;exact ⟨v,h1,eM.refl _ _,rfl⟩⟩
theorem eo {V:View}{y:Value}(h:ED y):ab prog 17 #[y,y] V fun r _=>r=.bool true:=by
 obtain ⟨a,rfl⟩:=h
 exact EE ⟨f17,func17,rfl,by kernel_rfl⟩ (LO a V.w)
end Go.Proofs.Tryz
namespace Go.Proofs.Tryz
open Go.bE Go.dP
def Tr.depth:Tr->Nat
 | .leaf _=>0
 | .node _ a b=>1+max a.depth b.depth
def U1:Tr->Int
 | .leaf i=>if i then 0 else 1
 | .node ..=>0
end Go.Proofs.Tryz
namespace Go.bE
open Go.Proofs.Tryz
variable {α:Type} {sz:Nat} {R:View->Value->α->Prop} {V V':View} {d:α}
theorem Row.get {vs:List Value}{al:List α}(h:Row sz R V vs al){i:Nat}(hi:i<al.length)(hs:0<sz) :
  ∃xs:List Value,xs.length=sz/\R V (.agg xs.toArray) (al.getD i d)/\i*sz+sz<=vs.length/\(vs.drop (i*sz)).take sz=xs:=by
 obtain ⟨xs,h1,h2,h3⟩:=h.at_ i hi
 have hl:=h.kW hs
 have:(i+1)*sz<=al.length*sz:=Nat.mul_le_mul_right _ hi
 rw [Nat.succ_mul] at this
 refine ⟨xs,h1,by simpa [List.getD_eq_getElem?_getD,hi] using h2,by omega,?_⟩
 apply List.ext_getElem?
 intro j
 rw [List.getElem?_take]
 split
 ·rename_i hj
  rw [List.getElem?_drop]
  have hx:j<xs.length:=by omega
  rw [h3 j _ (List.getElem?_eq_getElem hx),List.getElem?_eq_getElem hx]
 ·rename_i hj
  rw [List.getElem?_eq_none (by omega)]
theorem Row.put {vs:List Value}{al:List α}(h:Row sz R V vs al){i:Nat}(hi:i<al.length)(hs:0<sz){xs:List Value}{a:α}(hx:xs.length=sz)(ha:R V (.agg xs.toArray) a) :
  Row sz R V (dg vs (i*sz) xs) (al.set i a):=by
 have hl:=h.kW hs
 have h9:∀k,k<al.length->k*sz+sz<=vs.length:=fun k hk=>by
  have:(k+1)*sz<=al.length*sz:=Nat.mul_le_mul_right _ hk
  rw [Nat.succ_mul] at this
  omega
 have hi9:=h9 i hi
 rw [lr (by omega)]
 have ht:(vs.take (i*sz)).length=i*sz:=by rw [List.length_take];omega
 refine ⟨fun k hk=>?_⟩
 rw [List.length_set] at hk
 by_cases e:k=i
 ·subst e
  refine ⟨xs,hx,by simpa using ha,fun j x hj=>?_⟩
  have hj':=(List.getElem?_eq_some_iff.1 hj).1
  rw [List.append_assoc,List.getElem?_append_right (by omega),ht,Nat.add_sub_cancel_left,List.getElem?_append_left hj']
  exact hj
 ·obtain ⟨ys,y1,y2,y3⟩:=h.at_ k hk
  refine ⟨ys,y1,by rw [List.getElem_set_ne (fun e'=>e e'.symm)];exact y2,fun j x hj=>?_⟩
  have hj':=(List.getElem?_eq_some_iff.1 hj).1
  by_cases lt:k<i
  ·have:(k+1)*sz<=i*sz:=Nat.mul_le_mul_right _ lt
   rw [Nat.succ_mul] at this
   rw [List.append_assoc,List.getElem?_append_left (by omega),List.getElem?_take,if_pos (by omega)]
   exact y3 j x hj
  ·have:(i+1)*sz<=k*sz:=Nat.mul_le_mul_right _ (by omega)
   rw [Nat.succ_mul] at this
   rw [List.getElem?_append_right (by rw [List.length_append];omega),List.length_append,ht,hx,List.getElem?_drop]
   rw [show i*sz+sz+(k*sz+j-(i*sz+sz))=k*sz+j by omega]
   exact y3 j x hj
theorem sC {vs xs:List Value}{o:Nat}(h:o+xs.length<=vs.length):(dg vs o xs).length=vs.length:=by
 rw [lr h];simp only [List.length_append,List.length_take,List.length_drop];omega
theorem Row.swap {vs:List Value}{al:List α}(h:Row sz R V vs al){i j:Nat}(hi:i<al.length)(hj:j<al.length)(hs:0<sz){xs ys:List Value}(hx:xs.length=sz)(hy:ys.length=sz)(h1:R V (.agg xs.toArray) (al.getD i d))(h2:R V (.agg ys.toArray) (al.getD j d)) :
  Row sz R V (dg (dg vs (i*sz) ys) (j*sz) xs) (sE d al i j):=by
 have:=h.put hi hs hy h2
 exact this.put (by simpa using hj) hs hx h1
end Go.bE
namespace Go.Proofs.Tryz
open Go.bE Go.dP
section
variable {α:Type} (e:α->α->Bool)
def AR:α->List α->List α
 | _,[]=>[]
 | p,a::r=>if e a p then AR a r else a::AR a r
def xN:List α->List α
 | []=>[]
 | a::r=>a::AR e a r
variable {e}
theorem uX:∀{r:List α} {p:α},∀x∈AR e p r,x∈r
 | [],p,x,h=>h
 | b::r,p,x,h=>by
  unfold AR at h
  split at h
  ·exact List.mem_cons_of_mem _ (uX x h)
  ·rcases List.mem_cons.1 h with rfl|h
   ·exact List.mem_cons_self ..
   ·exact List.mem_cons_of_mem _ (uX x h)
theorem Jm {l:List α}:∀x∈xN e l,x∈l:=by
 cases l with
 | nil=>exact fun x h=>h
 | cons a r=>
  intro x h
  rcases List.mem_cons.1 h with rfl|h
  ·exact List.mem_cons_self ..
  ·exact List.mem_cons_of_mem _ (uX x h)
end
end Go.Proofs.Tryz
namespace Go.bE
open Go.Proofs.Tryz
section
variable {α:Type} {sz:Nat} {R:View->Value->α->Prop} {V:View} {d:α}
end
end Go.bE
namespace Go.Proofs.Tryz
open Go.bE Go.dP
def Dg (x y:Rat):Rat:=if 0<eR y x then y else x
def Dj (x y:Rat):Rat:=if eR y x<0 then y else x
theorem mY (x y:Rat):(x<y/\eR x y=-1)\/(x=y/\eR x y=0)\/(y<x/\eR x y=1):=by
 by_cases h1:x<y
 ·exact .inl ⟨h1,AQ.1 h1⟩
 ·by_cases h2:x=y
  ·exact .inr (.inl ⟨h2,mW.1 h2⟩)
  ·have h3:y<x:=by grind
   exact .inr (.inr ⟨h3,tR.1 h3⟩)
theorem Sp.kS {s:Sp}:s.emp=false↔(s.a=true\/s.b=true\/s.lo<s.hi):=by
 unfold Sp.emp
 rcases mY s.lo s.hi with ⟨h,e⟩|⟨h,e⟩|⟨h,e⟩<;>rw [e]<;>cases s.a<;>cases s.b<;>simp<;>grind
def Sp.meet (v w:Sp):Sp:=⟨if v.a then w.lo else if w.a then v.lo else Dg v.lo w.lo,if v.b then w.hi else if w.b then v.hi else Dj v.hi w.hi,if v.a then w.a else false,if v.b then w.b else false⟩
theorem Sp.Dh {v w:Sp}(h1:v.can)(h2:w.can):(v.meet w).can:=by
 unfold Sp.meet
 constructor<;>dsimp only
 ·cases hv:v.a with
  | false=>intro h;cases h
  | true=>exact fun h=>h2.1 h
 ·cases hv:v.b with
  | false=>intro h;cases h
  | true=>exact fun h=>h2.2 h
def Sp.cD (s:Sp):Rat:=if s.a then (if s.b then 0 else s.hi-((1:Int):Rat)) else if s.b then s.lo+((1:Int):Rat) else (s.lo+s.hi)*((2:Int):Rat)⁻¹
theorem Sp.Ha {s:Sp}(h:s.emp=false):(s.a=false->s.lo<s.cD)/\(s.b=false->s.cD<s.hi):=by
 rw [Sp.kS] at h
 unfold Sp.cD
 cases ha:s.a<;>cases hb:s.b<;>simp [ha,hb] at h⊢<;> grind
def dW (m l:L3):Rat:=((m.1:Rat)*(l.2.1:Rat))+((m.2.1:Rat)*(-(l.1:Rat)))
def j_ (m l:L3):Rat:=ar m (ij l 0) (il l 0)
theorem wo (m l:L3)(t:Rat):ar m (ij l t) (il l t)=j_ m l+dW m l*t:=by
 unfold j_ ar dW ij il;grind
def dV (m l:L3):Rat:=-(j_ m l*(dW m l)⁻¹)
def dq (l:L3)(s:Sp)(m:L3):Sp:=
 if (dW m l).num.sign==0 then s else if (dW m l).num.sign==1 then s.meet ⟨dV m l,0,false,true⟩ else s.meet ⟨0,dV m l,true,false⟩
def dN (l:L3)(s:Sp)(m:L3):Bool:=
 if (dW m l).num.sign==0 then decide ((j_ m l).num.sign>0) else !(dq l s m).emp
theorem lu (q:Rat):(q=0/\q.num.sign=0)\/(0<q/\q.num.sign=1)\/(q<0/\q.num.sign=-1):=by
 have h1:=@Dm q
 have h2:=@Dn q
 have h3:=@Rat.num_eq_zero q
 rcases Int.lt_trichotomy q.num 0 with h|h|h
 ·exact .inr (.inr ⟨h1.1 h,Int.sign_eq_neg_one_of_neg h⟩)
 ·exact .inl ⟨h3.1 h,by rw [h];rfl⟩
 ·exact .inr (.inl ⟨h2.1 h,Int.sign_eq_one_of_pos h⟩)
theorem Jo {l:L3}{s:Sp}{m:L3}(he:s.emp=false)(hb:dN l s m=true):(dq l s m).emp=false:=by
 unfold dN at hb
 split at hb
 ·rename_i h
  unfold dq
  rw [if_pos h];exact he
 ·simpa using hb
theorem Jp {l:L3}{s:Sp}{m:L3}(hc:s.can):(dq l s m).can:=by
 unfold dq
 split
 ·exact hc
 ·split
  ·exact Sp.Dh hc ⟨(fun h=>nomatch h),fun _=>rfl⟩
  ·exact Sp.Dh hc ⟨fun _=>rfl,(fun h=>nomatch h)⟩
theorem val_rev (m:L3)(x y:Rat):ar (ll m) x y=-ar m x y:=by
 unfold ar ll;simp only [Rat.intCast_neg];grind
def aU (l m:L3):Rat:=((l.1:Rat)*(m.2.1:Rat))-((l.2.1:Rat)*(m.1:Rat))
def GW (l m:L3):Rat:=(((l.2.1:Rat)*(m.2.2:Rat))-((l.2.2:Rat)*(m.2.1:Rat)))*(aU l m)⁻¹
def GX (l m:L3):Rat:=(((l.2.2:Rat)*(m.1:Rat))-((l.1:Rat)*(m.2.2:Rat)))*(aU l m)⁻¹
theorem Yt.ex {V:View}{v:Value}{l:L3}{s:Sp}(h:N5 V v l s):∃(x1 x2:Int)(p:OA)(y1 y2:Int)(q:OA)(z1 z2:Int)(r:OA)(u1 u2:Int)(t:OA)(w1 w2:Int)(o:OA),
 v=.agg #[.int .i64 x1,.int .i64 x2,.pointer p,.int .i64 y1,.int .i64 y2,.pointer q,.int .i64 z1,.int .i64 z2,.pointer r,.int .i64 u1,.int .i64 u2,.pointer t,.int .i64 w1,.int .i64 w2,.pointer o,.bool s.a,.bool s.b]:=by
 obtain ⟨_,_,_,_,_,_,_,_,_,_,_,_,_,_,_,e,-⟩:=h;exact ⟨_,_,_,_,_,_,_,_,_,_,_,_,_,_,_,e⟩
theorem EL {V:View}{v w:Value}{x y:Rat}(hx:RR V v x)(hy:RR V w y){k:Nat}(sx:Sz k x)(sy:Sz k y)(hk:2*k<1099511627776) :
  ab prog 222 #[v,w] V fun r V'=>RR V' r (Dg x y):=by
 have hx0:=hx
 have hy0:=hy
 obtain ⟨a,b,c,rfl⟩:=hx.shape
 obtain ⟨d,e,f,rfl⟩:=hy.shape
 refine DY a b c d e f V _ fun V1 l1=>(kG (hy0.le l1) (hx0.le l1) sy sx (by omega)).mono ?_
 rintro r V2 l2 rfl
 unfold Dg
 exact ⟨_,rfl,fun h V3 l3=>by rw [if_pos (of_decide_eq_true h)];exact hy0.le (l1.trans (l2.trans l3)),fun h V4 l4=>by rw [if_neg (of_decide_eq_false h)];exact hx0.le (l1.trans (l2.trans l4))⟩
theorem EM {V:View}{v w:Value}{x y:Rat}(hx:RR V v x)(hy:RR V w y){k:Nat}(sx:Sz k x)(sy:Sz k y)(hk:2*k<1099511627776) :
  ab prog 145 #[v,w] V fun r V'=>RR V' r (Dj x y):=by
 have hx0:=hx
 have hy0:=hy
 obtain ⟨a,b,c,rfl⟩:=hx.shape
 obtain ⟨d,e,f,rfl⟩:=hy.shape
 refine DZ a b c d e f V _ fun V1 l1=>(kG (hy0.le l1) (hx0.le l1) sy sx (by omega)).mono ?_
 rintro r V2 l2 rfl
 unfold Dj
 exact ⟨_,rfl,fun h V3 l3=>by rw [if_pos (of_decide_eq_true h)];exact hy0.le (l1.trans (l2.trans l3)),fun h V4 l4=>by rw [if_neg (of_decide_eq_false h)];exact hx0.le (l1.trans (l2.trans l4))⟩
theorem Sp.Bg {v w:Sp}{k:Nat}(h1:v.sz k)(h2:w.sz k):(v.meet w).sz k:=by
 unfold Sp.meet Sp.sz Dg Dj
 constructor<;>dsimp only
 ·split
  ·exact h2.1
  ·split
   ·exact h1.1
   ·split
    ·exact h2.1
    ·exact h1.1
 ·split
  ·exact h2.2
  ·split
   ·exact h1.2
   ·split
    ·exact h2.2
    ·exact h1.2
theorem zo {V:View}{v w:Value}{s t:Sp}(h:Gn V v s)(h':Gn V w t){k:Nat}(hs:s.sz k)(ht:t.sz k)(hk:2*k<1099511627776) :
  ab prog 195 #[v,w] V fun r V'=>∃u,r=.tuple #[u,.bool (!(s.meet t).emp)]/\Gn V' u (s.meet t):=by
 obtain ⟨x1,x2,p,y1,y2,q,rfl,h1,h2⟩:=h
 obtain ⟨u1,u2,o,w1,w2,j,rfl,g1,g2⟩:=h'
 have U1:s.a=true->(s.meet t).lo=t.lo/\(s.meet t).a=t.a:=fun e=>by simp [Sp.meet,e]
 have lo2:s.a=false->t.a=false->(s.meet t).lo=Dg s.lo t.lo:=fun e e'=>by simp [Sp.meet,e,e']
 have lo3:s.a=false->t.a=true->(s.meet t).lo=s.lo:=fun e e'=>by simp [Sp.meet,e,e']
 have XV:s.a=false->(s.meet t).a=s.a:=fun e=>by simp [Sp.meet,e]
 have hi1:s.b=true->(s.meet t).hi=t.hi/\(s.meet t).b=t.b:=fun e=>by simp [Sp.meet,e]
 have hi2:s.b=false->t.b=false->(s.meet t).hi=Dj s.hi t.hi:=fun e e'=>by simp [Sp.meet,e,e']
 have hi3:s.b=false->t.b=true->(s.meet t).hi=s.hi:=fun e e'=>by simp [Sp.meet,e,e']
 have hi4:s.b=false->(s.meet t).b=s.b:=fun e=>by simp [Sp.meet,e]
 refine wC x1 x2 p y1 y2 q s.a s.b u1 u2 o w1 w2 j t.a t.b V _ ⟨fun z V1=>RR V1 (.agg #[.int .i64 z.1,.int .i64 z.2.1,.pointer z.2.2.1]) (s.meet t).lo/\RR V1 (.agg #[.int .i64 z.2.2.2.1,.int .i64 z.2.2.2.2.1,.pointer z.2.2.2.2.2.1]) s.hi/\z.2.2.2.2.2.2.1=(s.meet t).a/\z.2.2.2.2.2.2.2=s.b,⟨fun ha=>?_,fun ha=>⟨fun hb V1 l1=>(EL (h1.le l1) (g1.le l1) hs.1 ht.1 hk).mono ?_,fun hb=>?_⟩⟩,?_⟩
 ·refine ⟨(u1,u2,o,y1,y2,q,t.a,s.b),by and_intros<;>rfl,?_,h2,(U1 ha).2.symm,rfl⟩
  rw [(U1 ha).1];exact g1
 ·rintro r V2 l2 g
  rw [Bool.not_eq_true'] at hb
  have g0:=g
  obtain ⟨a1,a2,a3,rfl⟩:=g.shape
  refine ⟨_,_,_,rfl,(a1,a2,a3,y1,y2,q,s.a,s.b),by and_intros<;>rfl,?_,h2.le (l1.trans l2),(XV ha).symm,rfl⟩
  rw [lo2 ha hb];exact g0
 ·rw [Bool.not_eq_false'] at hb
  refine ⟨(x1,x2,p,y1,y2,q,s.a,s.b),by and_intros<;>rfl,?_,h2,(XV ha).symm,rfl⟩
  rw [lo3 ha hb];exact h1
 ·rintro ⟨z1,z2,z3,z4,z5,z6,z7,z8⟩ V3 l3 ⟨k1,k2,k3,k4⟩
  dsimp only at k1 k2 k3 k4
  subst k3 k4
  refine ⟨rfl,fun z V1=>RR V1 (.agg #[.int .i64 z.1,.int .i64 z.2.1,.pointer z.2.2.1]) (s.meet t).lo/\RR V1 (.agg #[.int .i64 z.2.2.2.1,.int .i64 z.2.2.2.2.1,.pointer z.2.2.2.2.2.1]) (s.meet t).hi/\z.2.2.2.2.2.2.1=(s.meet t).a/\z.2.2.2.2.2.2.2=(s.meet t).b,⟨fun ha=>?_,fun ha=>⟨fun hb V4 l4=>(EM (h2.le (l3.trans l4)) (g2.le (l3.trans l4)) hs.2 ht.2 hk).mono ?_,fun hb=>?_⟩⟩,?_⟩
  ·refine ⟨(z1,z2,z3,w1,w2,j,(s.meet t).a,t.b),by and_intros<;>rfl,k1,?_,rfl,(hi1 ha).2.symm⟩
   rw [(hi1 ha).1];exact g2.le l3
  ·rintro r V5 l5 g
   rw [Bool.not_eq_true'] at hb
   have g0:=g
   obtain ⟨a1,a2,a3,rfl⟩:=g.shape
   refine ⟨_,_,_,rfl,(z1,z2,z3,a1,a2,a3,(s.meet t).a,s.b),by and_intros<;>rfl,k1.le (l4.trans l5),?_,rfl,(hi4 ha).symm⟩
   rw [hi2 ha hb];exact g0
  ·rw [Bool.not_eq_false'] at hb
   refine ⟨(z1,z2,z3,z4,z5,z6,(s.meet t).a,s.b),by and_intros<;>rfl,k1,?_,rfl,(hi4 ha).symm⟩
   rw [hi3 ha hb];exact k2
  ·rintro ⟨y1,y2,y3,y4,y5,y6,y7,y8⟩ V6 l6 ⟨j1,j2,j3,j4⟩
   dsimp only at j1 j2 j3 j4
   subst j3 j4
   refine ⟨rfl,fun V7 l7=>(EK ⟨_,_,_,_,_,_,rfl,j1.le l7,j2.le l7⟩ (Sp.Bg hs ht) hk).mono ?_⟩
   rintro r V8 l8 rfl
   exact ⟨_,rfl,fun V9 l9=>⟨_,rfl,_,_,_,_,_,_,rfl,j1.le (l7.trans (l8.trans l9)),j2.le (l7.trans (l8.trans l9))⟩⟩
theorem ny {L M:L3}{k:Nat}(sl:jX k L)(sm:jX k M):Sz (4*k+3) (dW M L):=dm sm.1 sm.2.1 sl.2.1 sl.1.neg
theorem I6 {L M:L3}:(((M.1:Rat)*((L.1:Rat)*(((-(L.2.2:Rat))*(((L.1:Rat)*(L.1:Rat))+((L.2.1:Rat)*(L.2.1:Rat)))⁻¹))))+((M.2.1:Rat)*((L.2.1:Rat)*(((-(L.2.2:Rat))*(((L.1:Rat)*(L.1:Rat))+((L.2.1:Rat)*(L.2.1:Rat)))⁻¹)))))+(M.2.2:Rat)=j_ M L:=by
 unfold j_ ar ij il fx;grind
theorem nt {L M:L3}{k:Nat}(sl:jX k L)(sm:jX k M):Sz (50*k+49) (j_ M L):=by
 rw [←I6]
 exact Sz.mono (kB (k:=10*k+9) (sm.1.mono (by omega)) (sm.2.1.mono (by omega)) (sm.2.2.mono (by omega)) (dI sl.1 sl.2.1 sl.2.2) (dJ sl.1 sl.2.1 sl.2.2)) (by omega)
theorem ub {L M:L3}{k:Nat}(sl:jX k L)(sm:jX k M):Sz (60*k+60) (dV M L):=Sz.mono ((nt sl sm).mul (cY (ny sl sm))).neg (by omega)
theorem MZ (k:Nat)(hk:0<k):Sz k (0:Rat):=⟨by show (0:Int).natAbs<_;exact Nat.lt_of_lt_of_le (by decide) (Nat.one_le_two_pow),Nat.one_lt_two_pow (by omega)⟩
theorem Co {V:View}{l v m:Value}{L:L3}{s:Sp}{M:L3}(hl:xh V l L)(hv:Gn V v s)(hm:xh V m M){k:Nat}(sl:jX k L)(hs:s.sz k)(sm:jX k M)(hk:200*k+200<274877906944) :
  ab prog 160 #[l,v,m] V fun r V'=>∃w,r=.tuple #[w,.bool (dN L s M)]/\Gn V' w (dq L s M):=by
 have hl0:=hl
 have hv0:=hv
 have hm0:=hm
 obtain ⟨_,_,_,_,_,_,_,_,_,rfl,-,-,-⟩:=hl
 obtain ⟨_,_,_,_,_,_,rfl,-,-⟩:=hv
 obtain ⟨_,_,_,_,_,_,_,_,_,rfl,-,-,-⟩:=hm
 have hs':s.sz (60*k+60):=⟨hs.1.mono (by omega),hs.2.mono (by omega)⟩
 have z:=MZ (60*k+60) (by omega)
 refine yo _ _ _ _ _ _ _ _ _ _ _ _ _ _ _ _ _ _ _ _ _ _ _ _ _ _ V _ fun V1 l1=>(dF (hm0.le l1) sm.1 sm.2.1 sm.2.2 (by omega)).mono ?_
 rintro r V2 l2 g1
 have g10:=g1
 obtain ⟨_,_,_,_,_,_,rfl,-,-⟩:=g1
 refine ⟨_,_,_,_,_,_,rfl,fun V3 l3=>(kK (hl0.le (l1.trans (l2.trans l3))) sl.1 sl.2.1 sl.2.2 (by omega)).mono ?_⟩
 rintro r V4 l4 g2
 have g20:=g2
 obtain ⟨_,_,_,_,_,_,rfl,-,-⟩:=g2
 refine ⟨_,_,_,_,_,_,rfl,fun V5 l5=>(kL (g10.le (l3.trans (l4.trans l5))) (g20.le l5) sm.1 sm.2.1 sl.2.1 sl.1.neg (by omega)).mono ?_⟩
 rintro r V6 l6 g3
 have kD:RR V6 r (dW M L):=g3
 obtain ⟨_,_,_,rfl⟩:=g3.shape
 have L6:V.Le V6:=l1.trans (l2.trans (l3.trans (l4.trans (l5.trans l6))))
 refine ⟨_,_,_,rfl,fun V7 l7=>(nJ (hl0.le (L6.trans l7)) sl.1 sl.2.1 sl.2.2 (by omega)).mono ?_⟩
 rintro r V8 l8 g4
 have E6:=g4
 obtain ⟨_,_,_,_,_,_,rfl,-,-⟩:=g4
 refine ⟨_,_,_,_,_,_,rfl,fun V9 l9=>(lX (k:=10*k+9) (hm0.le (L6.trans (l7.trans (l8.trans l9)))) (E6.le l9) (sm.1.mono (by omega)) (sm.2.1.mono (by omega)) (sm.2.2.mono (by omega)) (dI sl.1 sl.2.1 sl.2.2) (dJ sl.1 sl.2.1 sl.2.2) (by omega)).mono ?_⟩
 rintro r jG l10 g5
 rw [I6] at g5
 have JA:=g5
 obtain ⟨_,_,_,rfl⟩:=g5.shape
 have yT:V6.Le jG:=l7.trans (l8.trans (l9.trans l10))
 refine ⟨_,_,_,rfl,fun jZ bI=>(eO (kD.le (yT.trans bI)) (ny sl sm) (by omega)).mono ?_⟩
 rintro r mQ bV rfl
 have IW:jG.Le mQ:=bI.trans bV
 refine ⟨_,rfl,fun hz qv cC=>(eO (JA.le (IW.trans cC)) (nt sl sm) (by omega)).mono ?_,fun hz=>⟨fun h1 lP cX=>(oW (JA.le (IW.trans cX)) (kD.le (yT.trans (IW.trans cX))) (nt sl sm) (ny sl sm) (by omega)).mono ?_,fun h1 xu gY=>(oW (JA.le (IW.trans gY)) (kD.le (yT.trans (IW.trans gY))) (nt sl sm) (ny sl sm) (by omega)).mono ?_⟩⟩
 ·rintro r mS du rfl
  have eB:dN L s M=decide ((j_ M L).num.sign>0):=by unfold dN;rw [if_pos hz]
  have eS:dq L s M=s:=by unfold dq;rw [if_pos hz]
  rw [eB,eS]
  exact ⟨_,rfl,fun lH dv=>⟨_,rfl,hv0.le (L6.trans (yT.trans (IW.trans (cC.trans (du.trans dv)))))⟩⟩
 ·have eS:dq L s M=s.meet ⟨dV M L,0,false,true⟩:=by unfold dq;rw [if_neg (by rw [hz];exact Bool.false_ne_true),if_pos h1]
  have eB:dN L s M=!(s.meet ⟨dV M L,0,false,true⟩).emp:=by rw [←eS];unfold dN;rw [if_neg (by rw [hz];exact Bool.false_ne_true)]
  rw [eB,eS]
  rintro r mT c_ g6
  have Om:=g6
  obtain ⟨_,_,_,rfl⟩:=g6.shape
  refine ⟨_,_,_,rfl,fun qt cR=>(oV (Om.le cR) ((nt sl sm).mul (cY (ny sl sm))) (by omega)).mono ?_⟩
  rintro r rK dA g7
  have LS:RR rK r (dV M L):=g7
  obtain ⟨_,_,_,rfl⟩:=g7.shape
  refine ⟨_,_,_,rfl,fun yV fG=>(zo (t:=⟨dV M L,0,false,true⟩) (hv0.le (L6.trans (yT.trans (IW.trans (cX.trans (c_.trans (cR.trans (dA.trans fG)))))))) ⟨_,_,_,_,_,_,rfl,LS.le fG,RR.zero _⟩ hs' ⟨ub sl sm,z⟩ (by omega)).mono ?_⟩
  rintro r ui fv ⟨w,rfl,g8⟩
  have Qr:=g8
  obtain ⟨_,_,_,_,_,_,rfl,-,-⟩:=g8
  exact ⟨_,_,_,_,_,_,_,_,_,rfl,fun uj gF=>⟨_,rfl,Qr.le gF⟩⟩
 ·have eS:dq L s M=s.meet ⟨0,dV M L,true,false⟩:=by unfold dq;rw [if_neg (by rw [hz];exact Bool.false_ne_true),if_neg (by rw [h1];exact Bool.false_ne_true)]
  have eB:dN L s M=!(s.meet ⟨0,dV M L,true,false⟩).emp:=by rw [←eS];unfold dN;rw [if_neg (by rw [hz];exact Bool.false_ne_true)]
  rw [eB,eS]
  rintro r mT c_ g6
  have Om:=g6
  obtain ⟨_,_,_,rfl⟩:=g6.shape
  refine ⟨_,_,_,rfl,fun qt cR=>(oV (Om.le cR) ((nt sl sm).mul (cY (ny sl sm))) (by omega)).mono ?_⟩
  rintro r rK dA g7
  have LS:RR rK r (dV M L):=g7
  obtain ⟨_,_,_,rfl⟩:=g7.shape
  refine ⟨_,_,_,rfl,fun yV fG=>(zo (t:=⟨0,dV M L,true,false⟩) (hv0.le (L6.trans (yT.trans (IW.trans (gY.trans (c_.trans (cR.trans (dA.trans fG)))))))) ⟨_,_,_,_,_,_,rfl,RR.zero _,LS.le fG⟩ hs' ⟨z,ub sl sm⟩ (by omega)).mono ?_⟩
  rintro r ui fv ⟨w,rfl,g8⟩
  have Qr:=g8
  obtain ⟨_,_,_,_,_,_,rfl,-,-⟩:=g8
  exact ⟨_,_,_,_,_,_,_,_,_,rfl,fun uj gF=>⟨_,rfl,Qr.le gF⟩⟩
structure Ez (V:View) (p:OA) (n:Nat) (fs:List (L3×Sp)):Prop where
 len:n=fs.length
 at_:∀(i:Nat)(h:i<fs.length),∃ad,ah p (i*17)=some ad/\∃xs:List Value,N5 V (.agg xs.toArray) fs[i].1 fs[i].2/\∀j x,xs[j]?=some x->V.at (ad.add j) x
theorem Ez.le {V V':View}{p:OA}{n:Nat}{fs:List (L3×Sp)}(h:Ez V p n fs)(e:V.Le V'):Ez V' p n fs:=⟨h.len,fun i hi=>by obtain ⟨ad,h1,xs,h2,h3⟩:=h.at_ i hi;exact ⟨ad,h1,xs,h2.le e,fun j x hx=>e.at (h3 j x hx)⟩⟩
theorem Ez.nil {V:View}:Ez V none 0 []:=⟨rfl,fun i hi=>by simp at hi⟩
theorem Ez.one {V:View}{bk:Nat}{xs:List Value}{ty:TypeId}{l:L3}{s:Sp}(hb:V.bG bk (.cells xs.toArray ty (0,0)))(hf:N5 V (.agg xs.toArray) l s):Ez V (some ⟨bk,0,none⟩) 1 [(l,s)]:=by
 refine ⟨rfl,fun i hi=>?_⟩
 obtain rfl:i=0:=by simpa using hi
 refine ⟨⟨bk,0,none⟩,by simp [ah,add_zero'],_,hf,fun j x hx=>?_⟩
 rw [add_zero']
 exact eH hb hx
theorem LM {L M:L3}:((L.1:Rat)=(M.1:Rat)/\(L.2.1:Rat)=(M.2.1:Rat)/\(L.2.2:Rat)=(M.2.2:Rat))↔L=M:=by
 constructor
 ·rintro ⟨h1,h2,h3⟩
  exact Prod.ext (Rat.intCast_inj.1 h1) (Prod.ext (Rat.intCast_inj.1 h2) (Rat.intCast_inj.1 h3))
 ·rintro rfl
  exact ⟨rfl,rfl,rfl⟩
theorem Mf {V:View}{v w:Value}{L M:L3}(hl:xh V v L)(hm:xh V w M){k:Nat}(sl:jX k L)(sm:jX k M)(hk:k+k<1099511627776) :
  ab prog 134 #[v,w] V fun r V'=>r=.bool (decide (L=M)):=by
 refine (Cr hl hm sl.1 sl.2.1 sl.2.2 sm.1 sm.2.1 sm.2.2 hk).mono ?_
 rintro r V' l rfl
 rw [decide_eq_decide.2 LM]
def Tf (u:Value):Prop:=∃(x1 x2:Int)(p:OA)(y1 y2:Int)(q:OA),u=.agg #[.int .i64 x1,.int .i64 x2,.pointer p,.int .i64 y1,.int .i64 y2,.pointer q]
theorem qa {L M:L3}{k:Nat}(sl:jX k L)(sm:jX k M):Sz (4*k+3) (aU L M):=kC sl.1 sl.2.1 sm.1 sm.2.1
theorem R9 {L M:L3}{k:Nat}(sl:jX k L)(sm:jX k M):Sz (10*k+10) (GW L M)/\Sz (10*k+10) (GX L M):=
 ⟨Sz.mono (((sl.2.1.mul sm.2.2).sub (sl.2.2.mul sm.2.1)).mul (cY (qa sl sm))) (by omega),Sz.mono (((sl.2.2.mul sm.1).sub (sl.1.mul sm.2.2)).mul (cY (qa sl sm))) (by omega)⟩
theorem Hy {V:View}{l m:Value}{L M:L3}(hl:xh V l L)(hm:xh V m M){k:Nat}(sl:jX k L)(sm:jX k M)(hk:20*k+20<274877906944) :
  ab prog 138 #[l,m] V fun r V'=>∃w,r=.tuple #[w,.bool (decide (aU L M≠0))]/\Tf w/\(aU L M≠0->nG V' w (GW L M) (GX L M)):=by
 have hl0:=hl
 have hm0:=hm
 obtain ⟨_,_,_,_,_,_,_,_,_,rfl,a1,a2,a3⟩:=hl
 obtain ⟨_,_,_,_,_,_,_,_,_,rfl,b1,b2,b3⟩:=hm
 have sd:=qa sl sm
 refine wF _ _ _ _ _ _ _ _ _ _ _ _ _ _ _ _ _ _ V _ fun V1 l1=>(dF (hl0.le l1) sl.1 sl.2.1 sl.2.2 (by omega)).mono ?_
 rintro r V2 l2 g1
 have g10:=g1
 obtain ⟨_,_,_,_,_,_,rfl,-,-⟩:=g1
 refine ⟨_,_,_,_,_,_,rfl,fun V3 l3=>(dF (hm0.le (l1.trans (l2.trans l3))) sm.1 sm.2.1 sm.2.2 (by omega)).mono ?_⟩
 rintro r V4 l4 g2
 have g20:=g2
 obtain ⟨_,_,_,_,_,_,rfl,-,-⟩:=g2
 refine ⟨_,_,_,_,_,_,rfl,fun V5 l5=>(fL (g10.le (l3.trans (l4.trans l5))) (g20.le l5) sl.1 sl.2.1 sm.1 sm.2.1 (by omega)).mono ?_⟩
 rintro r V6 l6 g3
 have kD:RR V6 r (aU L M):=g3
 obtain ⟨_,_,_,rfl⟩:=g3.shape
 have L6:V.Le V6:=l1.trans (l2.trans (l3.trans (l4.trans (l5.trans l6))))
 refine ⟨_,_,_,rfl,fun V7 l7=>(uC (kD.le l7)).mono ?_⟩
 rintro r V8 l8 rfl
 have L8:=l7.trans l8
 refine ⟨_,rfl,fun h V9 l9=>?_,fun h jG l10=>(fa (a2.le (L6.trans (L8.trans l10))) (b3.le (L6.trans (L8.trans l10))) sl.2.1 sm.2.2 (by omega)).mono ?_⟩
 ·have h:=of_decide_eq_true h
  have e:decide (aU L M≠0)=false:=by simp [h]
  rw [e]
  exact ⟨_,rfl,⟨_,_,_,_,_,_,rfl⟩,fun h'=>absurd h h'⟩
 ·have h:=of_decide_eq_false h
  have e:decide (aU L M≠0)=true:=by simp [h]
  rw [e]
  have Lc:=L6.trans (L8.trans l10)
  rintro r jZ bI q1
  have MC:=q1
  obtain ⟨_,_,_,rfl⟩:=q1.shape
  refine ⟨_,_,_,rfl,fun mQ bV=>(fa (a3.le (Lc.trans (bI.trans bV))) (b2.le (Lc.trans (bI.trans bV))) sl.2.2 sm.2.1 (by omega)).mono ?_⟩
  rintro r qv cC q2
  have q20:=q2
  obtain ⟨_,_,_,rfl⟩:=q2.shape
  refine ⟨_,_,_,rfl,fun mS du=>(oX (MC.le (bV.trans (cC.trans du))) (q20.le du) (sl.2.1.mul sm.2.2) (sl.2.2.mul sm.2.1) (by omega)).mono ?_⟩
  rintro r lH dv q3
  have q30:=q3
  obtain ⟨_,_,_,rfl⟩:=q3.shape
  have M8:jG.Le lH:=bI.trans (bV.trans (cC.trans (du.trans dv)))
  refine ⟨_,_,_,rfl,fun lP cX=>(oW (q30.le cX) (kD.le (L8.trans (l10.trans (M8.trans cX)))) ((sl.2.1.mul sm.2.2).sub (sl.2.2.mul sm.2.1)) sd (by omega)).mono ?_⟩
  rintro r mT c_ q4
  have q40:RR mT r (GW L M):=q4
  obtain ⟨_,_,_,rfl⟩:=q4.shape
  have IK:V.Le mT:=Lc.trans (M8.trans (cX.trans c_))
  refine ⟨_,_,_,rfl,fun qt cR=>(fa (a3.le (IK.trans cR)) (b1.le (IK.trans cR)) sl.2.2 sm.1 (by omega)).mono ?_⟩
  rintro r rK dA p1
  have G5:=p1
  obtain ⟨_,_,_,rfl⟩:=p1.shape
  refine ⟨_,_,_,rfl,fun yV fG=>(fa (a1.le (IK.trans (cR.trans (dA.trans fG)))) (b3.le (IK.trans (cR.trans (dA.trans fG)))) sl.1 sm.2.2 (by omega)).mono ?_⟩
  rintro r ui fv p2
  have p20:=p2
  obtain ⟨_,_,_,rfl⟩:=p2.shape
  refine ⟨_,_,_,rfl,fun uj gF=>(oX (G5.le (fG.trans (fv.trans gF))) (p20.le gF) (sl.2.2.mul sm.1) (sl.1.mul sm.2.2) (by omega)).mono ?_⟩
  rintro r xu gY p3
  have p30:=p3
  obtain ⟨_,_,_,rfl⟩:=p3.shape
  have PO:mT.Le xu:=cR.trans (dA.trans (fG.trans (fv.trans (gF.trans gY))))
  refine ⟨_,_,_,rfl,fun Gp lN=>(oW (p30.le lN) (kD.le (L8.trans (l10.trans (M8.trans (cX.trans (c_.trans (PO.trans lN))))))) ((sl.2.2.mul sm.1).sub (sl.1.mul sm.2.2)) sd (by omega)).mono ?_⟩
  rintro r Gq lQ p4
  have p40:RR Gq r (GX L M):=p4
  obtain ⟨_,_,_,rfl⟩:=p4.shape
  exact ⟨_,_,_,rfl,fun IZ lE=>⟨_,rfl,⟨_,_,_,_,_,_,rfl⟩,fun _=>⟨_,_,_,_,_,_,rfl,q40.le (PO.trans (lN.trans (lQ.trans lE))),p40.le lE⟩⟩⟩
theorem SX (V:View):RQ V (.agg #[.bool false,.slice none 0 0,.slice none 0 0]) 0:=by have:=RQ.zero (V:=V);simpa using this
theorem AK {V:View}:ab prog 152 #[] V fun r V'=>EC V' r ⟨0,0,true,true⟩:=
 yK V _ fun V1 l1=>⟨_,_,_,_,_,_,_,_,_,_,_,_,_,_,rfl,SX _,SX _⟩
theorem DJ {V:View}{v:Value}{s:Sp}(h:EC V v s):∃b p n c p' n' c' d q m e q' m' e',v=.agg #[.bool b,.slice p n c,.slice p' n' c',.bool d,.slice q m e,.slice q' m' e',.bool s.a,.bool s.b]:=by
 obtain ⟨_,_,_,_,_,_,_,_,_,_,_,_,_,_,e,-⟩:=h;exact ⟨_,_,_,_,_,_,_,_,_,_,_,_,_,_,e⟩
theorem jJ {V:View}(z w:Int){p q:OA}{n c m e:Nat}(ha:RD V p n c (ag z.natAbs))(hb:RD V q m e (ag w.natAbs))(hm:(ag z.natAbs).length<=1099511627776)(hn:(ag w.natAbs).length<=1099511627776) :
  ab prog 157 #[.agg #[.bool (decide (z<0)),.slice p n c],.agg #[.bool (decide (w<0)),.slice q m e]] V fun r V'=>r=.int .i64 (z-w).sign:=by
 refine wM _ p n c _ q m e V _ fun V1 l1=>(rQ w (hb.le l1)).mono ?_
 rintro r V2 l2 ⟨p1,n1,c1,rfl,g1⟩
 refine ⟨_,_,_,_,rfl,fun V3 l3=>(qE z (-w) (ha.le (l1.trans (l2.trans l3))) (g1.le l3) hm (by rw [Int.natAbs_neg];exact hn)).mono ?_⟩
 rintro r V4 l4 ⟨p2,n2,c2,rfl,g2⟩
 refine ⟨_,_,_,_,rfl,fun V5 l5=>(uH _ (g2.le l5)).mono ?_⟩
 rintro r V6 l6 rfl
 exact ⟨_,rfl,fun V7 l7=>by rw [Int.sub_eq_add_neg]⟩
def HM (l m:L3):Int:=if (l.1-m.1).sign≠0 then (l.1-m.1).sign else if (l.2.1-m.2.1).sign≠0 then (l.2.1-m.2.1).sign else (l.2.2-m.2.2).sign
theorem Gz {l m:L3}:HM l m=0↔l=m:=by
 have e:∀{a b:Int},(a-b).sign=0↔a=b:=fun {a b}=>by rw [Int.sign_eq_zero_iff_zero];omega
 unfold HM
 constructor
 ·intro h
  by_cases h1:(l.1-m.1).sign=0
  ·rw [if_neg (by simpa using h1)] at h
   by_cases h2:(l.2.1-m.2.1).sign=0
   ·rw [if_neg (by simpa using h2)] at h
    exact Prod.ext (e.1 h1) (Prod.ext (e.1 h2) (e.1 h))
   ·rw [if_pos h2] at h;exact absurd h h2
  ·rw [if_pos h1] at h;exact absurd h h1
 ·rintro rfl
  simp
theorem Cw {V:View}{v w:Value}{l m:L3}(hl:RL V v l.1 l.2.1 l.2.2)(hm:RL V w m.1 m.2.1 m.2.2){k:Nat}(sl:jX k l)(sm:jX k m)(hk:k<=1099511627776) :
  ab prog 88 #[v,w] V fun r V'=>r=.int .i64 (HM l m):=by
 obtain ⟨d1,d2,d3⟩:=sl.ag hk
 obtain ⟨e1,e2,e3⟩:=sm.ag hk
 obtain ⟨_,_,_,_,_,_,_,_,_,rfl,a1,a2,a3⟩:=hl
 obtain ⟨_,_,_,_,_,_,_,_,_,rfl,b1,b2,b3⟩:=hm
 refine BV _ _ _ _ _ _ _ _ _ _ _ _ _ _ _ _ _ _ _ _ _ _ _ _ V _ fun V1 l1=>(jJ _ _ (a1.le l1) (b1.le l1) d1 e1).mono ?_
 rintro r V2 l2 rfl
 unfold HM
 refine ⟨_,rfl,fun h V3 l3=>?_,fun h V4 l4=>(jJ _ _ (a2.le (l1.trans (l2.trans l4))) (b2.le (l1.trans (l2.trans l4))) d2 e2).mono ?_⟩
 ·rw [bne_iff_ne] at h
  rw [if_pos h]
 ·rw [bne_eq_false_iff_eq] at h
  rw [if_neg (by rw [h];decide)]
  rintro r V5 l5 rfl
  refine ⟨_,rfl,fun h V6 l6=>?_,fun h V7 l7=>(jJ _ _ (a3.le (l1.trans (l2.trans (l4.trans (l5.trans l7))))) (b3.le (l1.trans (l2.trans (l4.trans (l5.trans l7))))) d3 e3).mono ?_⟩
  ·rw [bne_iff_ne] at h
   rw [if_pos h]
  ·rw [bne_eq_false_iff_eq] at h
   rw [if_neg (by rw [h];decide)]
   rintro r V8 l8 rfl
   exact ⟨_,rfl,fun V9 l9=>rfl⟩
theorem Jk {l m:L3}:(HM l m==(0:Int))=decide (l=m):=by
 by_cases h:l=m
 ·rw [decide_eq_true h,beq_iff_eq];exact Gz.2 h
 ·rw [decide_eq_false h,beq_eq_false_iff_ne];exact fun e=>h (Gz.1 e)
def M_ (u:Value):Prop:=u=.agg #[.bool false,.slice none 0 0,.slice none 0 0,.bool false,.slice none 0 0,.slice none 0 0]
theorem O3 {V:View}{v w:Value}{l m:L3}(hl:RL V v l.1 l.2.1 l.2.2)(hm:RL V w m.1 m.2.1 m.2.2){k:Nat}(sl:jX k l)(sm:jX k m)(hk:20*k+20<274877906944) :
  ab prog 91 #[v,w] V fun r V'=>∃u,r=.tuple #[u,.bool (decide (aU l m≠0))]/\(aU l m=0->M_ u)/\(aU l m≠0->RP V' u (GW l m) (GX l m)):=by
 have e0:((l.1:Int):Rat)*((m.2.1:Int):Rat)-((m.1:Int):Rat)*((l.2.1:Int):Rat)=aU l m:=by unfold aU;grind
 have e1:((l.2.1:Int):Rat)*((m.2.2:Int):Rat)-((m.2.1:Int):Rat)*((l.2.2:Int):Rat)=((l.2.1:Rat)*(m.2.2:Rat))-((l.2.2:Rat)*(m.2.1:Rat)):=by grind
 have e2:((m.1:Int):Rat)*((l.2.2:Int):Rat)-((l.1:Int):Rat)*((m.2.2:Int):Rat)=((l.2.2:Rat)*(m.1:Rat))-((l.1:Rat)*(m.2.2:Rat)):=by grind
 obtain ⟨sl1,sl2,NJ⟩:=sl
 obtain ⟨NK,NL,NM⟩:=sm
 obtain ⟨_,_,_,_,_,_,_,_,_,rfl,a1,a2,a3⟩:=hl
 obtain ⟨_,_,_,_,_,_,_,_,_,rfl,b1,b2,b3⟩:=hm
 refine yF _ _ _ _ _ _ _ _ _ _ _ _ _ _ _ _ _ _ _ _ _ _ _ _ V _ fun V1 l1=>(aZ (a1.le l1) sl1 (by omega)).mono ?_
 rintro r V2 l2 Xa
 have TT:=Xa
 obtain ⟨_,_,_,_,_,_,rfl⟩:=Xa.shape
 refine ⟨_,_,_,_,_,_,_,rfl,fun V3 l3=>(aZ (b2.le (l1.trans (l2.trans (l3)))) NL (by omega)).mono ?_⟩
 rintro r V4 l4 Xb
 have TU:=Xb
 obtain ⟨_,_,_,_,_,_,rfl⟩:=Xb.shape
 refine ⟨_,_,_,_,_,_,_,rfl,fun V5 l5=>(aM (TT.le (l3.trans (l4.trans (l5)))) (TU.le l5) sl1 NL (by omega)).mono ?_⟩
 rintro r V6 l6 Xc
 have TV:=Xc
 obtain ⟨_,_,_,_,_,_,rfl⟩:=Xc.shape
 refine ⟨_,_,_,_,_,_,_,rfl,fun V7 l7=>(aZ (b1.le (l1.trans (l2.trans (l3.trans (l4.trans (l5.trans (l6.trans (l7)))))))) NK (by omega)).mono ?_⟩
 rintro r V8 l8 Xd
 have TW:=Xd
 obtain ⟨_,_,_,_,_,_,rfl⟩:=Xd.shape
 refine ⟨_,_,_,_,_,_,_,rfl,fun V9 l9=>(aZ (a2.le (l1.trans (l2.trans (l3.trans (l4.trans (l5.trans (l6.trans (l7.trans (l8.trans (l9)))))))))) sl2 (by omega)).mono ?_⟩
 rintro r jG l10 Xe
 have TX:=Xe
 obtain ⟨_,_,_,_,_,_,rfl⟩:=Xe.shape
 refine ⟨_,_,_,_,_,_,_,rfl,fun jZ bI=>(aM (TW.le (l9.trans (l10.trans (bI)))) (TX.le bI) NK sl2 (by omega)).mono ?_⟩
 rintro r mQ bV Xf
 have TY:=Xf
 obtain ⟨_,_,_,_,_,_,rfl⟩:=Xf.shape
 refine ⟨_,_,_,_,_,_,_,rfl,fun qv cC=>(gE (TV.le (l7.trans (l8.trans (l9.trans (l10.trans (bI.trans (bV.trans (cC)))))))) (TY.le cC) (sl1.mul NL) (NK.mul sl2) (by omega)).mono ?_⟩
 rintro r mS du TZ
 rw [e0] at TZ
 have CQ:=TZ
 obtain ⟨_,_,_,_,_,_,rfl,T0,-⟩:=TZ
 have sD:Sz (4*k+3) (((l.1:Int):Rat)*((m.2.1:Int):Rat)-((m.1:Int):Rat)*((l.2.1:Int):Rat)):=Sz.mono ((sl1.mul NL).sub (NK.mul sl2)) (by omega)
 rw [e0] at sD
 refine ⟨_,_,_,_,_,_,_,rfl,fun lH dv=>(tQ _ (T0.le dv)).mono ?_⟩
 rintro r lP cX rfl
 refine ⟨_,rfl,fun hz mT c_=>?_,fun hz=>?_⟩
 ·rw [beq_iff_eq,pY] at hz
  rw [hz]
  exact ⟨_,rfl,fun _=>rfl,fun h=>absurd rfl h⟩
 ·rw [beq_eq_false_iff_ne,ne_eq,pY] at hz
  rw [decide_eq_true hz]
  have hz':¬(aU l m).num=0:=fun h=>hz (Rat.num_eq_zero.1 h)
  intro mT c_
  have M0:V.Le mT:=(l1.trans (l2.trans (l3.trans (l4.trans (l5.trans (l6.trans (l7.trans (l8.trans (l9.trans (l10.trans (bI.trans (bV.trans (cC.trans (du.trans (dv.trans (cX.trans (c_)))))))))))))))))
  replace CQ:=CQ.le (dv.trans (cX.trans (c_)))
  refine (aZ (a2.le M0) sl2 (by omega)).mono ?_
  rintro r qt cR Xj
  have T2:=Xj
  obtain ⟨_,_,_,_,_,_,rfl⟩:=Xj.shape
  refine ⟨_,_,_,_,_,_,_,rfl,fun rK dA=>(aZ (b3.le (M0.trans (cR.trans (dA)))) NM (by omega)).mono ?_⟩
  rintro r yV fG Xk
  have T3:=Xk
  obtain ⟨_,_,_,_,_,_,rfl⟩:=Xk.shape
  refine ⟨_,_,_,_,_,_,_,rfl,fun ui fv=>(aM (T2.le (dA.trans (fG.trans (fv)))) (T3.le fv) sl2 NM (by omega)).mono ?_⟩
  rintro r uj gF Xl
  have T4:=Xl
  obtain ⟨_,_,_,_,_,_,rfl⟩:=Xl.shape
  refine ⟨_,_,_,_,_,_,_,rfl,fun xu gY=>(aZ (b2.le (M0.trans (cR.trans (dA.trans (fG.trans (fv.trans (gF.trans (gY)))))))) NL (by omega)).mono ?_⟩
  rintro r Gp lN Xm
  have T5:=Xm
  obtain ⟨_,_,_,_,_,_,rfl⟩:=Xm.shape
  refine ⟨_,_,_,_,_,_,_,rfl,fun Gq lQ=>(aZ (a3.le (M0.trans (cR.trans (dA.trans (fG.trans (fv.trans (gF.trans (gY.trans (lN.trans (lQ)))))))))) NJ (by omega)).mono ?_⟩
  rintro r IZ lE Xn
  have T6:=Xn
  obtain ⟨_,_,_,_,_,_,rfl⟩:=Xn.shape
  refine ⟨_,_,_,_,_,_,_,rfl,fun Ng lO=>(aM (T5.le (lQ.trans (lE.trans (lO)))) (T6.le lO) NL NJ (by omega)).mono ?_⟩
  rintro r Nh tX Xo
  have T7:=Xo
  obtain ⟨_,_,_,_,_,_,rfl⟩:=Xo.shape
  refine ⟨_,_,_,_,_,_,_,rfl,fun Px xS=>(gE (T4.le (gY.trans (lN.trans (lQ.trans (lE.trans (lO.trans (tX.trans (xS)))))))) (T7.le xS) (sl2.mul NM) (NL.mul NJ) (by omega)).mono ?_⟩
  rintro r Lf xT T8
  rw [e1] at T8
  have Oo:=T8
  obtain ⟨_,_,_,_,_,_,rfl⟩:=T8.shape
  have sX:Sz (4*k+3) (((l.2.1:Rat)*(m.2.2:Rat))-((l.2.2:Rat)*(m.2.1:Rat))):=by rw [←e1];exact Sz.mono ((sl2.mul NM).sub (NL.mul NJ)) (by omega)
  have M1:V.Le Lf:=(M0.trans (cR.trans (dA.trans (fG.trans (fv.trans (gF.trans (gY.trans (lN.trans (lQ.trans (lE.trans (lO.trans (tX.trans (xS.trans (xT))))))))))))))
  replace CQ:=CQ.le (cR.trans (dA.trans (fG.trans (fv.trans (gF.trans (gY.trans (lN.trans (lQ.trans (lE.trans (lO.trans (tX.trans (xS.trans (xT)))))))))))))
  refine ⟨_,_,_,_,_,_,_,rfl,fun PV C_=>(aZ (b1.le (M1.trans C_)) NK (by omega)).mono ?_⟩
  rintro r SD H5 Xp
  have T9:=Xp
  obtain ⟨_,_,_,_,_,_,rfl⟩:=Xp.shape
  refine ⟨_,_,_,_,_,_,_,rfl,fun PX zV=>(aZ (a3.le (M1.trans (C_.trans (H5.trans (zV))))) NJ (by omega)).mono ?_⟩
  rintro r Tl Ll Xq
  have T_:=Xq
  obtain ⟨_,_,_,_,_,_,rfl⟩:=Xq.shape
  refine ⟨_,_,_,_,_,_,_,rfl,fun Wv H6=>(aM (T9.le (zV.trans (Ll.trans (H6)))) (T_.le H6) NK NJ (by omega)).mono ?_⟩
  rintro r Yy Q1 Xr
  have Ua:=Xr
  obtain ⟨_,_,_,_,_,_,rfl⟩:=Xr.shape
  refine ⟨_,_,_,_,_,_,_,rfl,fun V37 NA=>(aZ (a1.le (M1.trans (C_.trans (H5.trans (zV.trans (Ll.trans (H6.trans (Q1.trans (NA))))))))) sl1 (by omega)).mono ?_⟩
  rintro r V38 Mh Xs
  have Ub:=Xs
  obtain ⟨_,_,_,_,_,_,rfl⟩:=Xs.shape
  refine ⟨_,_,_,_,_,_,_,rfl,fun V39 Mi=>(aZ (b3.le (M1.trans (C_.trans (H5.trans (zV.trans (Ll.trans (H6.trans (Q1.trans (NA.trans (Mh.trans (Mi))))))))))) NM (by omega)).mono ?_⟩
  rintro r V40 SP Xt
  have Uc:=Xt
  obtain ⟨_,_,_,_,_,_,rfl⟩:=Xt.shape
  refine ⟨_,_,_,_,_,_,_,rfl,fun V41 Q2=>(aM (Ub.le (Mi.trans (SP.trans (Q2)))) (Uc.le Q2) sl1 NM (by omega)).mono ?_⟩
  rintro r V42 UY Xu
  have Ud:=Xu
  obtain ⟨_,_,_,_,_,_,rfl⟩:=Xu.shape
  refine ⟨_,_,_,_,_,_,_,rfl,fun V43 SQ=>(gE (Ua.le (NA.trans (Mh.trans (Mi.trans (SP.trans (Q2.trans (UY.trans (SQ)))))))) (Ud.le SQ) (NK.mul NJ) (sl1.mul NM) (by omega)).mono ?_⟩
  rintro r Yz OR Ue
  rw [e2] at Ue
  have Uf:=Ue
  obtain ⟨_,_,_,_,_,_,rfl⟩:=Ue.shape
  have sY:Sz (4*k+3) (((l.2.2:Rat)*(m.1:Rat))-((l.1:Rat)*(m.2.2:Rat))):=by rw [←e2];exact Sz.mono ((NK.mul NJ).sub (sl1.mul NM)) (by omega)
  replace CQ:=CQ.le (C_.trans (H5.trans (zV.trans (Ll.trans (H6.trans (Q1.trans (NA.trans (Mh.trans (Mi.trans (SP.trans (Q2.trans (UY.trans (SQ.trans (OR))))))))))))))
  replace Oo:=Oo.le (C_.trans (H5.trans (zV.trans (Ll.trans (H6.trans (Q1.trans (NA.trans (Mh.trans (Mi.trans (SP.trans (Q2.trans (UY.trans (SQ.trans (OR))))))))))))))
  refine ⟨_,_,_,_,_,_,_,rfl,fun YA OS=>(gC (Oo.le OS) (CQ.le OS) hz' sX sD (by omega)).mono ?_⟩
  rintro r SE l46 gr
  have Zr:=gr
  obtain ⟨_,_,_,_,_,_,rfl⟩:=gr.shape
  refine ⟨_,_,_,_,_,_,_,rfl,fun Tn PJ=>(gC (Uf.le (OS.trans (l46.trans (PJ)))) (CQ.le (OS.trans (l46.trans (PJ)))) hz' sY sD (by omega)).mono ?_⟩
  rintro r SF H7 gs
  have gs0:=gs
  obtain ⟨_,_,_,_,_,_,rfl⟩:=gs.shape
  exact ⟨_,_,_,_,_,_,_,rfl,fun To Q4=>⟨_,rfl,fun h=>absurd h hz,fun _=>⟨_,_,_,_,_,_,_,_,_,_,_,_,rfl,Zr.le (PJ.trans (H7.trans (Q4))),gs0.le Q4⟩⟩⟩
def Og:L3:=(0,0,0)
def xo (V:View)(v:Value)(c:L3):Prop:=xr V v c.1 c.2.1 c.2.2/\Bd c
theorem xo.le {V V':View}{v:Value}{c:L3}(h:xo V v c)(l:V.Le V'):xo V' v c:=⟨h.1.le l,h.2⟩
theorem xo.shape {V:View}{v:Value}{c:L3}(h:xo V v c):∃(x y:Int)(p:OA)(xb yb:Int)(pb:OA)(xc yc:Int)(pc:OA),v=.agg #[.int .i64 x,.int .i64 y,.pointer p,.int .i64 xb,.int .i64 yb,.pointer pb,.int .i64 xc,.int .i64 yc,.pointer pc]:=by
 obtain ⟨⟨x1,x2,p,y1,y2,q,z1,z2,r,e,-⟩,-⟩:=h;exact ⟨_,_,_,_,_,_,_,_,_,e⟩
end Go.Proofs.Tryz
namespace Go.Proofs.Tryz
open Go.dP
section
variable {α:Type} {c:α->α->Int} {d:α}
structure PQ (c:α->α->Int) (d:α) (l0 l:List α) (a0 b0 a b:Nat):Prop where
 SZ:rJ d l0 l a0 b0
 ha:a0<=a
 xR:a<=b
 hb:b<=b0
 lo:xl c d l a0 a
 hi:xl c d l b b0
 s1:Sep c d l a0 a b0
 s2:Sep c d l a0 b b0
 pre:0<a->∀k,a<=k->k<b->¬c (l.getD k d) (l.getD (a-1) d)<0
variable {l0 l m:List α} {a0 b0 a b mid:Nat}
theorem PQ.start {l:List α}(h:a<=b)(hp:0<a->∀k,a<=k->k<b->¬c (l.getD k d) (l.getD (a-1) d)<0):PQ c d l l a b a b:=
 ⟨.refl _ _ _,Nat.le_refl _,h,Nat.le_refl _,.short (by omega),.short (by omega),fun p q h1 h2=>by omega,fun p q h1 h2 h3 h4=>by omega,hp⟩
theorem PQ.change (h:PQ c d l0 l a0 b0 a b)(hs:rJ d l m a b):PQ c d l0 m a0 b0 a b:=
 ⟨h.SZ.trans (hs.wide h.ha h.hb),h.ha,h.xR,h.hb,hs.rM h.lo (.inl (Nat.le_refl _)),hs.rM h.hi (.inr (Nat.le_refl _)),hs.sep h.s1 (.inr (.inl ⟨Nat.le_refl _,h.hb⟩)),hs.sep h.s2 (.inl ⟨h.ha,Nat.le_refl _⟩),fun h0 k h1 h2=>by
  obtain ⟨k',h3,h4,e⟩:=hs.mem k h1 h2
  rw [e,hs.out (a-1) (by omega)]
  exact h.pre h0 k' h3 h4⟩
theorem PQ.fin (h:PQ c d l0 l a0 b0 a b)(hs:rJ d l m a b)(ha:xl c d m a b):rJ d l0 m a0 b0/\xl c d m a0 b0:=by
 have h':=h.change hs
 refine ⟨h'.SZ,h'.lo.join (ha.join h'.hi fun p q h1 h2 h3 h4=>h'.s2 p q (by have:=h.ha;omega) h2 h3 h4) h'.s1⟩
theorem PQ.left (ho:Ord c)(h:PQ c d l0 l a0 b0 a b)(hm:a<=mid)(hm':mid<b)(h1:∀k,a<=k->k<mid->c (l.getD k d) (l.getD mid d)<0)(h2:∀k,mid<k->k<b->¬c (l.getD k d) (l.getD mid d)<0)
  (hs:rJ d l m a mid)(ha:xl c d m a mid):PQ c d l0 m a0 b0 (mid+1) b:=by
 have e0:=h.ha
 have e1:=h.hb
 have em:m.getD mid d=l.getD mid d:=hs.out mid (by omega)
 have below:∀k,a<=k->k<mid->¬c (m.getD mid d) (m.getD k d)<0:=fun k g1 g2=>by
  obtain ⟨k',g3,g4,e⟩:=hs.mem k g1 g2
  rw [em,e];exact ho.Py _ _ (h1 k' g3 g4)
 have t1:=hs.sep h.s1 (.inr (.inl ⟨Nat.le_refl _,by omega⟩))
 have t2:=hs.sep h.s2 (.inl ⟨e0,by omega⟩)
 have up:∀q,mid<q->q<b->¬c (m.getD q d) (m.getD mid d)<0:=fun q g1 g2=>by rw [em,hs.out q (by omega)];exact h2 q g1 g2
 refine ⟨h.SZ.trans (hs.wide e0 (by omega)),by omega,by omega,e1,(hs.rM h.lo (.inl (Nat.le_refl _))).join (m:=a) (fun p q g1 g2 g3=>?_) fun p q g1 g2 g3 g4=>t1 p q g1 g2 g3 (by omega),hs.rM h.hi (.inr (by omega)),fun p q g1 g2 g3 g4=>?_,t2,fun _ k g1 g2=>up k (by omega) g2⟩
 ·by_cases e:q=mid
  ·subst e;exact below p g1 g2
  ·exact ha p q g1 g2 (by omega)
 ·by_cases hq:b<=q
  ·exact t2 p q g1 (by omega) hq g4
  ·by_cases hp:p<a
   ·exact t1 p q g1 hp (by omega) g4
   ·have u:=up q (by omega) (by omega)
    by_cases e:p=mid
    ·subst e;exact u
    ·exact ho.tr _ _ _ u (below p (by omega) (by omega))
theorem PQ.right (ho:Ord c)(h:PQ c d l0 l a0 b0 a b)(hm:a<=mid)(hm':mid<b)(h1:∀k,a<=k->k<mid->c (l.getD k d) (l.getD mid d)<0)(h2:∀k,mid<k->k<b->¬c (l.getD k d) (l.getD mid d)<0)
  (hs:rJ d l m (mid+1) b)(ha:xl c d m (mid+1) b):PQ c d l0 m a0 b0 a mid:=by
 have e0:=h.ha
 have e1:=h.hb
 have em:m.getD mid d=l.getD mid d:=hs.out mid (by omega)
 have up:∀q,mid<q->q<b->¬c (m.getD q d) (m.getD mid d)<0:=fun q g1 g2=>by
  obtain ⟨k',g3,g4,e⟩:=hs.mem q (by omega) g2
  rw [em,e];exact h2 k' (by omega) g4
 have below:∀k,a<=k->k<mid->¬c (m.getD mid d) (m.getD k d)<0:=fun k g1 g2=>by
  rw [em,hs.out k (by omega)];exact ho.Py _ _ (h1 k g1 g2)
 have t1:=hs.sep h.s1 (.inr (.inl ⟨by omega,e1⟩))
 have t2:=hs.sep h.s2 (.inl ⟨by omega,Nat.le_refl _⟩)
 have t3:=hs.rM h.hi (.inr (Nat.le_refl _))
 refine ⟨h.SZ.trans (hs.wide (by omega) e1),e0,hm,by omega,hs.rM h.lo (.inl (by omega)),fun p q g1 g2 g3=>?_,t1,fun p q g1 g2 g3 g4=>?_,fun h0 k g1 g2=>?_⟩
 ·by_cases hq:q<b
  ·by_cases e:p=mid
   ·subst e;exact up q g2 hq
   ·exact ha p q (by omega) g2 hq
  ·by_cases hp:p<b
   ·exact t2 p q (by omega) hp (by omega) g3
   ·exact t3 p q (by omega) g2 g3
 ·by_cases hq:b<=q
  ·exact t2 p q g1 (by omega) hq g4
  ·by_cases hp:p<a
   ·exact t1 p q g1 hp (by omega) g4
   ·have u:=below p (by omega) g2
    by_cases e:q=mid
    ·subst e;exact u
    ·exact ho.tr _ _ _ (up q (by omega) (by omega)) u
 ·rw [hs.out k (by omega),hs.out (a-1) (by omega)];exact h.pre h0 k g1 (by omega)
structure HQ (c:α->α->Int) (d:α) (l:List α) (f i n:Nat):Prop where
 hp:Hp c d l f 0 i none
 rM:xl c d l (f+i) (f+n)
 sep:Sep c d l f (f+i) (f+n)
theorem HQ.start {f n:Nat}(h:Hp c d l f 0 n none):HQ c d l f n n:=⟨h,.short (by omega),fun p q h1 h2 h3 h4=>by omega⟩
theorem HQ.step (ho:Ord c){f k n:Nat}(h:HQ c d l f (k+1) n)(hk:k+1<=n)(hl:f+n<=l.length)(hs:rJ d (sE d l f (f+k)) m f (f+k))(hm:Hp c d m f 0 k none):HQ c d m f k n:=by
 have ha:=fun x=>oA (d:=d) (l:=l) (i:=f) (j:=f+k) (k:=x) (by omega) (by omega)
 have out:∀q,f+k<q->m.getD q d=l.getD q d:=fun q hq=>by rw [hs.out q (by omega),ha,if_neg (by omega),if_neg (by omega)]
 have top:m.getD (f+k) d=l.getD f d:=by rw [hs.out (f+k) (by omega),ha,if_pos rfl]
 refine ⟨hm,fun p q g1 g2 g3=>?_,fun p q g1 g2 g3 g4=>?_⟩
 ·rw [out q (by omega)]
  by_cases e:p=f+k
  ·rw [e,top];exact h.sep f q (Nat.le_refl _) (by omega) (by omega) g3
  ·rw [out p (by omega)];exact h.rM p q (by omega) g2 g3
 ·have hp:∃j,j<k+1/\m.getD p d=l.getD (f+j) d:=by
   obtain ⟨p',e1,e2,e⟩:=hs.mem p g1 g2
   rw [e,ha,if_neg (by omega)]
   split
   ·exact ⟨k,by omega,rfl⟩
   ·exact ⟨p'-f,by omega,by rw [show f+(p'-f)=p' by omega]⟩
  obtain ⟨j,hj,e⟩:=hp
  rw [e]
  by_cases eq:q=f+k
  ·rw [eq,top];exact h.hp.top ho j hj
  ·rw [out q (by omega)];exact h.sep (f+j) q (by omega) (by omega) (by omega) g4
theorem HQ.fin {f n:Nat}(h:HQ c d l f 0 n):xl c d l f (f+n):=by have:=h.rM;simpa using this
structure PT (P:α->Prop) (d:α) (l:List α) (a b i j:Nat):Prop where
 hi:a<i
 L1:i<=j+1
 hj:j<b
 lo:∀k,a<k->k<i->P (l.getD k d)
 up:∀k,j<k->k<b->¬P (l.getD k d)
variable {P:α->Prop} {i j:Nat}
theorem PT.start (h:a+1<b):PT P d l a b (a+1) (b-1):=⟨by omega,by omega,by omega,fun k h1 h2=>by omega,fun k h1 h2=>by omega⟩
theorem PT.swap (h:PT P d l a b i j)(L1:i<=j)(hl:b<=l.length)(h1:¬P (l.getD i d))(h2:P (l.getD j d)):PT P d (sE d l i j) a b (i+1) (j-1)/\(sE d l i j).getD a d=l.getD a d/\rJ d l (sE d l i j) a b:=by
 have e0:=h.hi
 have e1:=h.hj
 have ne:i≠j:=fun e=>h1 (e▸h2)
 have ha:=fun x=>oA (d:=d) (l:=l) (i:=i) (j:=j) (k:=x) (by omega) (by omega)
 refine ⟨⟨by omega,by omega,by omega,fun k g1 g2=>?_,fun k g1 g2=>?_⟩,by rw [ha,if_neg (by omega),if_neg (by omega)],rJ.sE (by omega) (by omega) (by omega) e1 hl⟩
 ·rw [ha,if_neg (by omega)]
  by_cases e:k=i
  ·rw [if_pos e];exact h2
  ·rw [if_neg e];exact h.lo k g1 (by omega)
 ·rw [ha]
  by_cases e:k=j
  ·rw [if_pos e];exact h1
  ·rw [if_neg e,if_neg (by omega)];exact h.up k (by omega) g2
theorem PT.fin (ho:Ord c)(h:PT (fun x=>c x (l.getD a d)<0) d l a b i j)(L1:¬i<=j)(hl:b<=l.length):rJ d l (sE d l j a) a b/\a<=j/\j<b /\
  (∀k,a<=k->k<j->c ((sE d l j a).getD k d) ((sE d l j a).getD j d)<0)/\(∀k,j<k->k<b->¬c ((sE d l j a).getD k d) ((sE d l j a).getD j d)<0):=by
 have e0:=h.hi
 have e1:=h.L1
 have e2:=h.hj
 have ha:=fun x=>oA (d:=d) (l:=l) (i:=j) (j:=a) (k:=x) (by omega) (by omega)
 have ej:(sE d l j a).getD j d=l.getD a d:=by
  rw [ha]
  by_cases e:j=a
  ·rw [if_pos e,e]
  ·rw [if_neg e,if_pos rfl]
 refine ⟨rJ.sE (by omega) e2 (Nat.le_refl _) (by omega) hl,by omega,e2,fun k g1 g2=>?_,fun k g1 g2=>?_⟩
 ·rw [ej,ha]
  by_cases e:k=a
  ·rw [if_pos e];exact h.lo j (by omega) (by omega)
  ·rw [if_neg e,if_neg (by omega)];exact h.lo k (by omega) (by omega)
 ·rw [ej,ha,if_neg (by omega),if_neg (by omega)];exact h.up k g1 g2
end
end Go.Proofs.Tryz
namespace Go.Proofs.Tryz
open Go.bE Go.dP
structure Nc (V:View) (n:Nat) (vs:List Value) (l:List L3):Prop where
 row:Row 9 xo V vs l
 len:n=l.length
 Qm:l.length<50
theorem Nc.le {V V':View}{n:Nat}{vs:List Value}{l:List L3}(h:Nc V n vs l)(e:V.Le V'):Nc V' n vs l:=⟨h.row.le fun _ _ g=>xo.le g e,h.len,h.Qm⟩
theorem Nc.get {V:View}{n:Nat}{vs:List Value}{l:List L3}(h:Nc V n vs l){k:Nat}(hk:k<l.length):∃(x y:Int)(p:OA)(xb yb:Int)(pb:OA)(xc yc:Int)(pc:OA),
  ((0+k*9)+9<=vs.length/\(vs.drop (0+k*9)).take 9=[.int .i64 x,.int .i64 y,.pointer p,.int .i64 xb,.int .i64 yb,.pointer pb,.int .i64 xc,.int .i64 yc,.pointer pc])/\xo V (.agg #[.int .i64 x,.int .i64 y,.pointer p,.int .i64 xb,.int .i64 yb,.pointer pb,.int .i64 xc,.int .i64 yc,.pointer pc]) (l.getD k Og):=by
 obtain ⟨xs,-,h2,h3,h4⟩:=h.row.get (d:=Og) hk (by decide)
 have h20:=h2
 obtain ⟨x,y,p,xb,yb,pb,xc,yc,pc,e⟩:=h2.shape
 have e:=congrArg Array.toList (Value.agg.inj e)
 dsimp only at e
 subst e
 rw [Nat.zero_add]
 exact ⟨x,y,p,xb,yb,pb,xc,yc,pc,⟨h3,h4⟩,h20⟩
theorem Nc.swap {V:View}{n:Nat}{vs:List Value}{l:List L3}(h:Nc V n vs l){i j:Nat}(hi:i<l.length)(hj:j<l.length){x y:Int}{p:OA}{xb yb:Int}{pb:OA}{xc yc:Int}{pc:OA}{x' y':Int}{p':OA}{Pp Pq:Int}{pb':OA}{Sv Wl:Int}{pc':OA}
  (h1:xo V (.agg #[.int .i64 x,.int .i64 y,.pointer p,.int .i64 xb,.int .i64 yb,.pointer pb,.int .i64 xc,.int .i64 yc,.pointer pc]) (l.getD i Og))(h2:xo V (.agg #[.int .i64 x',.int .i64 y',.pointer p',.int .i64 Pp,.int .i64 Pq,.pointer pb',.int .i64 Sv,.int .i64 Wl,.pointer pc']) (l.getD j Og)) :
  (0+i*9)+9<=vs.length/\(0+j*9)+9<=(dg vs (0+i*9) [.int .i64 x',.int .i64 y',.pointer p',.int .i64 Pp,.int .i64 Pq,.pointer pb',.int .i64 Sv,.int .i64 Wl,.pointer pc']).length /\
  Nc V n (dg (dg vs (0+i*9) [.int .i64 x',.int .i64 y',.pointer p',.int .i64 Pp,.int .i64 Pq,.pointer pb',.int .i64 Sv,.int .i64 Wl,.pointer pc']) (0+j*9) [.int .i64 x,.int .i64 y,.pointer p,.int .i64 xb,.int .i64 yb,.pointer pb,.int .i64 xc,.int .i64 yc,.pointer pc]) (sE Og l i j):=by
 obtain ⟨-,-,-,g1,-⟩:=h.row.get (d:=Og) hi (by decide)
 obtain ⟨-,-,-,g2,-⟩:=h.row.get (d:=Og) hj (by decide)
 rw [Nat.zero_add,Nat.zero_add]
 refine ⟨g1,by rw [sC (by exact g1)];exact g2,h.row.swap hi hj (by decide) rfl rfl h1 h2,by rw [p_];exact h.len,by rw [p_];exact h.Qm⟩
structure GR {α:Type} (sz:Nat) (R:View->Value->α->Prop) (V:View) (n c:Nat) (vs:List Value) (l:List α):Prop where
 len:n=l.length
 le:n<=c
 cap:c*sz<=vs.length
 row:Row sz R V vs l
theorem GR.nil {α:Type}{sz:Nat}{R:View->Value->α->Prop}{V:View}:GR sz R V 0 0 [] []:=⟨rfl,Nat.le_refl _,by simp,Row.nil⟩
theorem GR.mono {α:Type}{sz:Nat}{R:View->Value->α->Prop}{V V':View}{n c:Nat}{vs:List Value}{l:List α}(h:GR sz R V n c vs l)(m:∀v a,R V v a->R V' v a):GR sz R V' n c vs l:=⟨h.len,h.le,h.cap,h.row.le m⟩
theorem GR.snoc {α:Type}{sz:Nat}{R:View->Value->α->Prop}{V:View}{n c:Nat}{vs:List Value}{l:List α}(h:GR sz R V n c vs l){xs:List Value}{a:α}(hx:xs.length=sz)(ha:R V (.agg xs.toArray) a)(h0:0<sz){sp:List Value}{c':Nat}(h1:n+1<=c')(h2:c'*sz<=(n+1)*sz+sp.length) :
  GR sz R V (n+1) c' (vs.take (n*sz)++xs++sp) (l++[a]):=by
 have hn:=h.len
 have hc:=h.cap
 have hl:n*sz<=c*sz:=Nat.mul_le_mul_right _ h.le
 refine ⟨by rw [List.length_append,hn];rfl,h1,?_,?_⟩
 ·have ht:(vs.take (n*sz)).length=n*sz:=by rw [List.length_take];omega
  rw [List.length_append,List.length_append,ht,hx]
  rw [Nat.succ_mul] at h2
  exact h2
 ·have:=h.row.snoc (sp:=sp) hx ha h0
  rw [←hn] at this
  exact this
def lK (l:L3):L3:=if l.1<0\/l.1=0/\l.2.1<0 then ll l else l
def Tr.SS:Tr->List L3
 | .leaf _=>[]
 | .node l a b=>l::(a.SS++b.SS)
theorem Be {p:L3->Prop}:∀{t:Tr},t.Lb p->∀x∈t.SS,p x
 | .leaf _,_,x,h=>by cases h
 | .node l a b,⟨h1,h2,h3⟩,x,h=>by
  rcases List.mem_cons.1 h with rfl|h
  ·exact h1
  ·rcases List.mem_append.1 h with h|h
   ·exact Be h2 x h
   ·exact Be h3 x h
theorem Bd.rev {l:L3}(h:Bd l):Bd (ll l):=by
 obtain ⟨h1,h2,h3⟩:=h
 unfold Bd ll
 simp only [Int.natAbs_neg]
 exact ⟨h1,h2,h3⟩
theorem Bd.can {l:L3}(h:Bd l):Bd (lK l):=by
 unfold lK;split
 ·exact h.rev
 ·exact h
theorem Bd.lA {l:L3}(h:Bd l):jX 1000 l:=⟨h.sz.1,h.sz.2.1,h.sz.2.2⟩
end Go.Proofs.Tryz
namespace Go.Proofs.Tryz.aq
open Go.bE Go.dP
def nv (l:L3)(v:V2):Rat:=(l.1:Rat)*v.1+(l.2.1:Rat)*v.2
def ax (l:L3):V2:=((l.2.1:Rat),-(l.1:Rat))
theorem G2 (l:L3)(v:V2):nv l v=cr (ax l) v:=by unfold nv cr ax;grind
def O8 (l:L3)(p v:V2):Int:=if (ar l p.1 p.2).num.sign=0 then (nv l v).num.sign else (ar l p.1 p.2).num.sign
def DR:Tr->V2->V2->Bool×Bool
 | .leaf i,_,_=>(i,true)
 | .node l a b,p,v=>if O8 l p v=1 then DR a p v else if O8 l p v=-1 then DR b p v else (false,false)
def ko:Tr->V2->List L3
 | .leaf _,_=>[]
 | .node l a b,p=>(if ar l p.1 p.2=0 then [l] else [])++((if ar l p.1 p.2≥0 then ko a p else [])++(if ar l p.1 p.2<=0 then ko b p else []))
theorem vK:∀{t:Tr} {p:V2} {l:L3},l∈ko t p->ar l p.1 p.2=0/\l∈t.SS
 | .leaf _,_,_,h=>by cases h
 | .node m a b,p,l,h=>by
  unfold ko at h
  simp only [List.mem_append] at h
  rcases h with h|h|h
  ·split at h
   ·rename_i e;rcases List.mem_singleton.1 h with rfl;exact ⟨e,List.mem_cons_self ..⟩
   ·cases h
  ·split at h
   ·have:=vK h;exact ⟨this.1,List.mem_cons_of_mem _ (List.mem_append_left _ this.2)⟩
   ·cases h
  ·split at h
   ·have:=vK h;exact ⟨this.1,List.mem_cons_of_mem _ (List.mem_append_right _ this.2)⟩
   ·cases h
theorem v_ {q:Rat}:q.num.sign=-1↔q<0:=by
 rw [Int.sign_eq_neg_one_iff_neg,←Int.not_le,←Rat.not_le,Rat.num_nonneg]
theorem BD {q:Rat}:q.num.sign=1↔q>0:=by
 have h:=@v_ (-q)
 rw [Rat.neg_num,Int.sign_neg] at h
 constructor
 ·intro e;have:=h.1 (by rw [e]);grind
 ·intro e;have:=h.2 (by grind);omega
theorem fh {q:Rat}:q.num.sign=0↔q=0:=by rw [Int.sign_eq_zero_iff_zero,Rat.num_eq_zero]
theorem wm:∀{t:Tr} {p v x:V2},(∀l∈ko t p,nv l v≠0)->(∀l∈ko t p,(nv l v>0->nv l x>0)/\(nv l v<0->nv l x<0)) ->
  DR t p x=DR t p v/\(DR t p v).2=true
 | .leaf _,_,_,_,_,_=>⟨rfl,rfl⟩
 | .node l a b,p,v,x,h0,h1=>by
  have ha:ar l p.1 p.2≥0->DR a p x=DR a p v/\(DR a p v).2=true:=fun e=>by
   have sub:∀m∈ko a p,m∈ko (.node l a b) p:=fun m hm=>by
    unfold ko
    rw [if_pos e]
    exact List.mem_append_right _ (List.mem_append_left _ hm)
   exact wm (fun m hm=>h0 m (sub m hm)) (fun m hm=>h1 m (sub m hm))
  have hb:ar l p.1 p.2<=0->DR b p x=DR b p v/\(DR b p v).2=true:=fun e=>by
   have sub:∀m∈ko b p,m∈ko (.node l a b) p:=fun m hm=>by
    unfold ko
    rw [if_pos e]
    exact List.mem_append_right _ (List.mem_append_right _ hm)
   exact wm (fun m hm=>h0 m (sub m hm)) (fun m hm=>h1 m (sub m hm))
  have hl:ar l p.1 p.2=0->l∈ko (.node l a b) p:=fun e=>by
   unfold ko
   rw [if_pos e]
   exact List.mem_append_left _ (List.mem_singleton.2 rfl)
  have key:O8 l p x=O8 l p v/\(O8 l p v=1/\ar l p.1 p.2≥0\/O8 l p v=-1/\ar l p.1 p.2<=0):=by
   unfold O8
   by_cases e:ar l p.1 p.2=0
   ·have hm:=hl e
    rw [if_pos (fh.2 e),if_pos (fh.2 e)]
    obtain ⟨q1,q2⟩:=h1 l hm
    have q0:=h0 l hm
    by_cases q:nv l v>0
    ·rw [BD.2 q,BD.2 (q1 q)];exact ⟨rfl,.inl ⟨rfl,by grind⟩⟩
    ·have q':nv l v<0:=by grind
     rw [v_.2 q',v_.2 (q2 q')];exact ⟨rfl,.inr ⟨rfl,by grind⟩⟩
   ·have e':¬(ar l p.1 p.2).num.sign=0:=fun h=>e (fh.1 h)
    rw [if_neg e',if_neg e']
    refine ⟨rfl,?_⟩
    by_cases q:ar l p.1 p.2>0
    ·exact .inl ⟨BD.2 q,by grind⟩
    ·exact .inr ⟨v_.2 (by grind),by grind⟩
  obtain ⟨k1,k2⟩:=key
  simp only [DR,k1]
  rcases k2 with ⟨e,g⟩|⟨e,g⟩
  ·rw [e,if_pos rfl,if_pos rfl];exact ha g
  ·rw [e,if_neg (by decide),if_pos rfl,if_neg (by decide),if_pos rfl];exact hb g
def Pu (D:List V2)(M:List L3):Prop:=∀l∈M,∃r∈D,∃c:Rat,c>0/\r=(c*(ax l).1,c*(ax l).2)
theorem E0 {l:L3}{r:V2}{c:Rat}(c0:c>0)(e:r=(c*(ax l).1,c*(ax l).2))(v:V2):cr r v=c*nv l v:=by
 rw [G2,e];unfold cr;grind
theorem GY {c x:Rat}(c0:c>0):(c*x>0↔x>0)/\(c*x<0↔x<0)/\(c*x=0↔x=0):=by
 have p:x>0->c*x>0:=fun h=>mp c0 h
 have n:x<0->c*x<0:=fun h=>by have:=mp c0 (show -x>0 by grind);grind
 have z:x=0->c*x=0:=fun h=>by rw [h];grind
 refine ⟨⟨fun h=>?_,p⟩,⟨fun h=>?_,n⟩,⟨fun h=>?_,z⟩⟩
 ·by_cases q:x>0
  ·exact q
  ·by_cases q':x<0
   ·have:=n q';grind
   ·have:=z (by grind);grind
 ·by_cases q:x<0
  ·exact q
  ·by_cases q':x>0
   ·have:=p q';grind
   ·have:=z (by grind);grind
 ·rcases Rat.mul_eq_zero.1 h with h|h
  ·grind
  ·exact h
theorem Pu.gen {D:List V2}{M:List L3}(h:Pu D M){v:V2}(hv:∀r∈D,cr r v≠0):∀l∈M,nv l v≠0:=by
 intro l hl e
 obtain ⟨r,hr,c,c0,e'⟩:=h l hl
 exact hv r hr (by rw [E0 c0 e',e];grind)
theorem Pu.same {D:List V2}{M:List L3}(h:Pu D M){v x:V2}(hv:∀r∈D,(cr r v>0->cr r x>0)/\(cr r v<0->cr r x<0)) :
  ∀l∈M,(nv l v>0->nv l x>0)/\(nv l v<0->nv l x<0):=by
 intro l hl
 obtain ⟨r,hr,c,c0,e'⟩:=h l hl
 have:=hv r hr
 rw [E0 c0 e',E0 c0 e'] at this
 obtain ⟨a1,a2,_⟩:=@GY c (nv l v) c0
 obtain ⟨b1,b2,_⟩:=@GY c (nv l x) c0
 exact ⟨fun h=>b1.1 (this.1 (a1.2 h)),fun h=>b2.1 (this.2 (a2.2 h))⟩
def anyS (t:Tr)(p:V2)(S:List V2):Bool:=S.any fun v=>(DR t p v).1
def Lu (t:Tr)(p:V2)(S:List V2):Bool:=S.all fun v=>(DR t p v).1
theorem gR (l:L3)(p v:V2)(s:Rat):ar l (p.1+s*v.1) (p.2+s*v.2)=ar l p.1 p.2+s*nv l v:=by unfold ar nv;grind
def Bi (p v:V2)(s:Rat)(l:L3):Rat:=
 if nv l v=0\/ar l p.1 p.2=0 then s
 else if -(ar l p.1 p.2*(nv l v)⁻¹)>0/\-(ar l p.1 p.2*(nv l v)⁻¹)*(1 / 2)<s then -(ar l p.1 p.2*(nv l v)⁻¹)*(1 / 2) else s
theorem inv_mul {c:Rat}(h:c≠0)(a:Rat):a*c⁻¹*c=a:=by rw [Rat.mul_assoc,Rat.inv_mul_cancel _ h,Rat.mul_one]
end Go.Proofs.Tryz.aq
