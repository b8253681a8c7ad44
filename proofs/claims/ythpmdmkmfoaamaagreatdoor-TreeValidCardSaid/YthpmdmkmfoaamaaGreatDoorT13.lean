import Derived.Test.YthpmdmkmfoaamaaGreatDoorT12
import Derived.Test.YthpmdmkmfoaamaaGreatDoorT7
import Derived.Test.YthpmdmkmfoaamaaGreatDoorT5
import Derived.Test.YthpmdmkmfoaamaaGreatDoorT9
import Derived.Deep.Slices
import Derived.WalkKit
import Derived.LaidEql
import Derived.Stop.Asserts
import Derived.RowKitTokens
set_option linter.unusedVariables false
open Go.IntKind (i64 u64 u32)
namespace Go.Proofs.Tryz
open Go.bh Go.dN
theorem ky (l:List Nd):∀(f:Nat)(n:Int)(s:RS),s.bad=true->(bO l f n s).2.bad=true
 | 0,_,_,h=>h
 | f+1,n,s,h=>by
  simp only [bO]
  split
  ·exact h
  ·split
   ·exact h
   ·split
    ·rfl
    ·split
     ·split
      ·exact ky l f _ _ (ky l f _ _ h)
      ·rfl
     ·rfl
def Rp (l:List Nd):Int->Tr->Prop
 | n,.leaf i=>n=(if i then -2 else -1)
 | n,.node ln a b=>∃(k:Nat)(x:Nd),n=(k:Int)/\l[k]?=some x/\x.ln=ln/\fV ln=true/\Rp l x.left a/\Rp l x.right b
theorem wG (l:List Nd):∀(f:Nat)(n:Int)(s:RS),s.seen.count false<f->(bO l f n s).2.bad=false->Rp l n (bO l f n s).1/\(bO l f n s).2.eO=s.eO+(bO l f n s).1.size
 | 0,_,_,h,_=>by omega
 | f+1,n,s,hf,h=>by
  simp only [bO] at h ⊢
  by_cases n2:n=-2
  ·rw [if_pos n2];exact ⟨n2,rfl⟩
  rw [if_neg n2] at h ⊢
  by_cases n1:n=-1
  ·rw [if_pos n1];exact ⟨n1,rfl⟩
  rw [if_neg n1] at h ⊢
  by_cases n0:n<0
  ·rw [if_pos n0] at h;cases h
  rw [if_neg n0] at h ⊢
  split at h
  ·rename_i x hx hs
   by_cases ho:fV x.ln=true
   ·rw [if_pos ho] at h ⊢
    dsimp only at h ⊢
    have hb:(bO l f x.left ⟨s.seen.set n.toNat true,s.eO+1,s.bad⟩).2.bad=false:=by
     cases e:(bO l f x.left ⟨s.seen.set n.toNat true,s.eO+1,s.bad⟩).2.bad
     ·rfl
     ·have:=ky l f x.right _ e
      rw [h] at this;cases this
    have hc:=count_set hs
    obtain ⟨i1,i2⟩:=wG l f x.left _ (by dsimp only;omega) hb
    have hm:=(gE l f x.left ⟨s.seen.set n.toNat true,s.eO+1,s.bad⟩).1
    dsimp only at i2 hm
    obtain ⟨j1,j2⟩:=wG l f x.right _ (by omega) h
    exact ⟨⟨n.toNat,x,by omega,hx,rfl,ho,i1,j1⟩,by simp only [Tr.size];omega⟩
   ·rw [if_neg ho] at h;cases h
  ·cases h
def Lay (l:List Nd):Int->Nat->Tr->Prop
 | n,_,.leaf i=>n=(if i then -2 else -1)
 | n,k,.node ln a b=>n=(k:Int)/\∃x,l[k]?=some x/\x.ln=ln/\Lay l x.left (k+1) a/\Lay l x.right (k+1+a.size) b
theorem wB {l:List Nd}:∀{t:Tr} {n:Int} {k:Nat},Lay l n k t->n=rt k t/\∀i d,(wr k t)[i]?=some d->l[k+i]?=some d
 | .leaf i,n,k,h=>⟨h,fun i d hd=>by simp [wr] at hd⟩
 | .node ln a b,n,k,⟨h,x,hx,hl,ha,hb⟩=>by
  obtain ⟨a1,a2⟩:=wB ha
  obtain ⟨b1,b2⟩:=wB hb
  refine ⟨h,fun i d hd=>?_⟩
  simp only [wr] at hd
  cases i with
  | zero=>
   simp only [List.getElem?_cons_zero,Option.some.injEq] at hd
   subst hd
   rw [Nat.add_zero,hx,←a1,←b1,←hl]
  | succ i=>
   rw [List.getElem?_cons_succ] at hd
   rcases Nat.lt_or_ge i a.size with hi|hi
   ·rw [List.getElem?_append_left (by rw [a_];exact hi)] at hd
    rw [show k+(i+1)=k+1+i by omega]
    exact a2 i d hd
   ·rw [List.getElem?_append_right (by rw [a_];exact hi),a_] at hd
    rw [show k+(i+1)=k+1+a.size+(i-a.size) by omega]
    exact b2 _ d hd
theorem lA:∀(t:Tr)(l pre post:List Nd)(k:Nat),l=pre++(wr k t++post)->pre.length=k->Lay l (rt k t) k t
 | .leaf i,l,pre,post,k,_,_=>rfl
 | .node ln a b,l,pre,post,k,hl,hp=>by
  refine ⟨rfl,⟨ln,rt (k+1) a,rt (k+1+a.size) b⟩,?_,rfl,?_,?_⟩
  ·subst hl
   rw [List.getElem?_append_right (by omega)]
   simp [hp,wr]
  ·refine lA a l (pre++[⟨ln,rt (k+1) a,rt (k+1+a.size) b⟩]) (wr (k+1+a.size) b++post) (k+1) ?_ (by simp [hp])
   rw [hl];simp [wr]
  ·refine lA b l (pre++(⟨ln,rt (k+1) a,rt (k+1+a.size) b⟩::wr (k+1) a)) post (k+1+a.size) ?_ (by simp [hp,a_];omega)
   rw [hl];simp [wr]
theorem B7 {l:List Nd}{root:Int}{t:Tr}(hs:l.length=t.size):Lay l root 0 t↔root=rt 0 t/\l=wr 0 t:=by
 constructor
 ·intro h
  obtain ⟨h1,h2⟩:=wB h
  refine ⟨h1,List.ext_getElem? fun i=>?_⟩
  rcases Nat.lt_or_ge i t.size with hi|hi
  ·have e:(wr 0 t)[i]?=some ((wr 0 t)[i]'(by rw [a_];exact hi)):=List.getElem?_eq_getElem _
   have:=h2 i _ e
   rw [Nat.zero_add] at this
   rw [this,e]
  ·rw [List.getElem?_eq_none (by omega),List.getElem?_eq_none (by rw [a_];exact hi)]
 ·rintro ⟨rfl,rfl⟩
  exact lA t (wr 0 t) [] [] 0 (by simp) rfl
def vK (l:List Nd):List Int->List Tr->Nat->Prop
 | n::ns,t::ts,k=>Lay l n k t/\vK l ns ts (k+t.size)
 | _,_,_=>True
def I1 (l:List Nd):List Int->List Tr->Prop
 | n::ns,t::ts=>Rp l n t/\I1 l ns ts
 | [],[]=>True
 | _,_=>False
theorem AF {l:List Nd}{root:Int}{t:Tr}(h:dv l root=some t):Rp l root t/\l.length=t.size/\t.kc fun x=>fV x=true:=by
 unfold dv at h
 split at h
 ·cases h
 ·dsimp only at h
  split at h
  ·cases h
  ·rename_i hb
   cases h
   have hb':(bO l (l.length+1) root ⟨List.replicate l.length false,0,false⟩).2.bad=false/\(bO l (l.length+1) root ⟨List.replicate l.length false,0,false⟩).2.eO=l.length:=by
    constructor
    ·cases e:(bO l (l.length+1) root ⟨List.replicate l.length false,0,false⟩).2.bad
     ·rfl
     ·exact absurd (.inl e) hb
    ·by_cases e:(bO l (l.length+1) root ⟨List.replicate l.length false,0,false⟩).2.eO=l.length
     ·exact e
     ·exact absurd (.inr e) hb
   obtain ⟨h1,h2⟩:=wG l (l.length+1) root ⟨List.replicate l.length false,0,false⟩ (by simp) hb'.1
   have ok:∀{t:Tr} {n:Int},Rp l n t->t.kc fun x=>fV x=true:=by
    intro t
    induction t with
    | leaf i=>intro n _;trivial
    | node ln a b iha ihb=>rintro n ⟨k,x,_,_,_,ho,ha,hb⟩;exact ⟨ho,iha ha,ihb hb⟩
   refine ⟨h1,?_,ok h1⟩
   have:=hb'.2
   rw [h2] at this
   dsimp only at this
   omega
theorem uH {l:List Nd}{root:Int}(hl:l.length<=65536):dv l root=if (bO l (l.length+1) root ⟨List.replicate l.length false,0,false⟩).2.bad=false/\((bO l (l.length+1) root ⟨List.replicate l.length false,0,false⟩).2.seen.all id)=true then some (bO l (l.length+1) root ⟨List.replicate l.length false,0,false⟩).1 else none:=by
 have hc:=nj l (l.length+1) root ⟨List.replicate l.length false,0,false⟩
 have hc0:(List.replicate l.length false).count false=l.length:=by simp
 dsimp only at hc
 rw [hc0] at hc
 unfold dv
 rw [if_neg (by omega)]
 generalize bO l (l.length+1) root ⟨List.replicate l.length false,0,false⟩=r at *
 have e:(r.2.seen.all id)=true↔r.2.eO=l.length:=by
  have e1:(r.2.seen.all id)=true↔r.2.seen.count false=0:=by
   rw [List.count_eq_zero,List.all_eq_true]
   constructor
   ·intro h hm;have:=h false hm;cases this
   ·intro h x hx;cases x
    ·exact absurd hx h
    ·rfl
  rw [e1];omega
 dsimp only
 by_cases h1:r.2.bad=true
 ·rw [if_pos (.inl h1),if_neg (fun h=>by rw [h1] at h;cases h.1)]
 ·have h1:r.2.bad=false:=by simpa using h1
  by_cases h2:r.2.eO=l.length
  ·rw [if_neg (by rintro (h|h);rw [h1] at h;cases h;exact h h2),if_pos ⟨h1,e.2 h2⟩]
  ·rw [if_pos (.inr h2),if_neg (fun h=>h2 (e.1 h.2))]
theorem yC {l:List Nd}{n:Int}{i:Bool}{ns:List Int}{ts:List Tr}{k:Nat}(h:Rp l n (.leaf i)):vK l (n::ns) (.leaf i::ts) k↔vK l ns ts k:=
 ⟨fun g=>g.2,fun g=>⟨h,g⟩⟩
theorem yD {l:List Nd}{x:Nd}{ln:L3}{a b:Tr}{ns:List Int}{ts:List Tr}{k:Nat}(hx:l[k]?=some x)(hl:x.ln=ln) :
  vK l ((k:Int)::ns) (.node ln a b::ts) k↔vK l (x.left::x.right::ns) (a::b::ts) (k+1):=by
 constructor
 ·rintro ⟨⟨_,y,hy,_,ha,hb⟩,hr⟩
  rw [hx] at hy;cases hy
  simp only [Tr.size] at hr
  exact ⟨ha,hb,by rw [show k+1+a.size+b.size=k+(a.size+b.size+1) by omega];exact hr⟩
 ·rintro ⟨ha,hb,hr⟩
  refine ⟨⟨rfl,x,hx,hl,ha,hb⟩,?_⟩
  simp only [Tr.size]
  rw [show k+(a.size+b.size+1)=k+1+a.size+b.size by omega]
  exact hr
theorem Ao {l:List Nd}{n:Int}{ln:L3}{a b:Tr}{ns:List Int}{ts:List Tr}{k:Nat}(h:n≠(k:Int)):¬vK l (n::ns) (.node ln a b::ts) k:=fun g=>h g.1.1
def iC (l:List Nd):Nat->Int->List Bool->Option Tr×List Bool
 | 0,_,s=>(none,s)
 | f+1,n,s=>
  if n=-2 then (some (.leaf true),s) else if n=-1 then (some (.leaf false),s) else if n<0 then (none,s)
  else match l[n.toNat]?,s[n.toNat]? with
   | some x,some false=>
    if fV x.ln then
     match iC l f x.left (s.set n.toNat true) with
     | (none,s1)=>(none,s1)
     | (some a,s1)=>match iC l f x.right s1 with
      | (none,s2)=>(none,s2)
      | (some b,s2)=>(some (.node x.ln a b),s2)
    else (none,s.set n.toNat true)
   | _,_=>(none,s)
theorem sR (l:List Nd):∀(f:Nat)(n:Int)(s:List Bool)(c:Nat),s.count false<f ->
  ((bO l f n ⟨s,c,false⟩).2.bad=true->(iC l f n s).1=none)/\((bO l f n ⟨s,c,false⟩).2.bad=false->iC l f n s=(some (bO l f n ⟨s,c,false⟩).1,(bO l f n ⟨s,c,false⟩).2.seen))
 | 0,_,_,_,h=>by omega
 | f+1,n,s,c,hf=>by
  simp only [bO,iC]
  by_cases n2:n=-2
  ·rw [if_pos n2,if_pos n2];exact ⟨(fun h=>by cases h),fun _=>rfl⟩
  rw [if_neg n2,if_neg n2]
  by_cases n1:n=-1
  ·rw [if_pos n1,if_pos n1];exact ⟨(fun h=>by cases h),fun _=>rfl⟩
  rw [if_neg n1,if_neg n1]
  by_cases n0:n<0
  ·rw [if_pos n0,if_pos n0];exact ⟨fun _=>rfl,(fun h=>by cases h)⟩
  rw [if_neg n0,if_neg n0]
  cases hx:l[n.toNat]? with
  | none=>dsimp only;exact ⟨fun _=>rfl,(fun h=>by cases h)⟩
  | some x=>
  cases hs:s[n.toNat]? with
  | none=>dsimp only;exact ⟨fun _=>rfl,(fun h=>by cases h)⟩
  | some b=>
  cases b with
  | true=>dsimp only;exact ⟨fun _=>rfl,(fun h=>by cases h)⟩
  | false=>
   dsimp only
   by_cases ho:fV x.ln=true
   ·rw [if_pos ho,if_pos ho]
    dsimp only
    have hc:=count_set hs
    obtain ⟨i1,i2⟩:=sR l f x.left (s.set n.toNat true) (c+1) (by omega)
    have hm:=(gE l f x.left ⟨s.set n.toNat true,c+1,false⟩).1
    dsimp only at hm
    generalize bO l f x.left ⟨s.set n.toNat true,c+1,false⟩=r1 at *
    obtain ⟨t1,s1,c1,b1⟩:=r1
    dsimp only at i1 i2 hm ⊢
    cases b1 with
    | true=>
     have e:=i1 rfl
     have hb:=ky l f x.right ⟨s1,c1,true⟩ rfl
     refine ⟨fun _=>?_,fun h=>by rw [hb] at h;cases h⟩
     generalize iC l f x.left (s.set n.toNat true)=q at *
     obtain ⟨q1,q2⟩:=q
     dsimp only at e
     subst e
     rfl
    | false=>
     have e:=i2 rfl
     rw [e]
     dsimp only
     obtain ⟨j1,j2⟩:=sR l f x.right s1 c1 (by omega)
     refine ⟨fun h=>?_,fun h=>?_⟩
     ·have e2:=j1 h
      generalize iC l f x.right s1=q at *
      obtain ⟨q1,q2⟩:=q
      dsimp only at e2
      subst e2
      rfl
     ·rw [j2 h]
   ·rw [if_neg ho,if_neg ho]
    exact ⟨fun _=>rfl,(fun h=>by cases h)⟩
theorem A2 {l:List Nd}{root:Int}(hl:l.length<=65536):dv l root=if (iC l (l.length+1) root (List.replicate l.length false)).2.all id=true then (iC l (l.length+1) root (List.replicate l.length false)).1 else none:=by
 rw [uH hl]
 obtain ⟨h1,h2⟩:=sR l (l.length+1) root (List.replicate l.length false) 0 (by simp)
 cases hb:(bO l (l.length+1) root ⟨List.replicate l.length false,0,false⟩).2.bad
 ·rw [h2 hb]
  dsimp only
  by_cases c:((bO l (l.length+1) root ⟨List.replicate l.length false,0,false⟩).2.seen.all id)=true
  ·rw [if_pos ⟨rfl,c⟩,if_pos c]
  ·rw [if_neg (fun h=>c h.2),if_neg c]
 ·rw [if_neg (fun h=>by cases h.1),h1 hb]
  split<;>rfl
theorem nk (l:List Nd):∀(f:Nat)(n:Int)(s:List Bool),(iC l f n s).2.length=s.length/\(iC l f n s).2.count false<=s.count false
 | 0,_,_=>⟨rfl,Nat.le_refl _⟩
 | f+1,n,s=>by
  simp only [iC]
  split
  ·exact ⟨rfl,Nat.le_refl _⟩
  split
  ·exact ⟨rfl,Nat.le_refl _⟩
  split
  ·exact ⟨rfl,Nat.le_refl _⟩
  split
  ·rename_i x hx hs
   have hc:=count_set hs
   split
   ·have i1:=nk l f x.left (s.set n.toNat true)
    generalize iC l f x.left (s.set n.toNat true)=q at *
    obtain ⟨q1,q2⟩:=q
    rw [List.length_set] at i1
    dsimp only at i1
    cases q1 with
    | none=>exact ⟨i1.1,by dsimp only;omega⟩
    | some a=>
     dsimp only
     have i2:=nk l f x.right q2
     generalize iC l f x.right q2=r at *
     obtain ⟨r1,r2⟩:=r
     dsimp only at i2
     cases r1 with
     | none=>exact ⟨i2.1.trans i1.1,by dsimp only;omega⟩
     | some b=>exact ⟨i2.1.trans i1.1,by dsimp only;omega⟩
   ·exact ⟨List.length_set ..,by dsimp only;omega⟩
  ·exact ⟨rfl,Nat.le_refl _⟩
theorem sK (l:List Nd):∀(f:Nat)(n:Int)(s:RS),(bO l f n s).2.bad=false->∀i:Nat,(bO l f n s).2.seen[i]?=some true->s.seen[i]?=some true\/∃x:Nd,l[i]?=some x/\fV x.ln=true
 | 0,_,_,_,_,h=>.inl h
 | f+1,n,s,h,i,hi=>by
  simp only [bO] at h hi
  by_cases n2:n=-2
  ·rw [if_pos n2] at hi;exact .inl hi
  rw [if_neg n2] at h hi
  by_cases n1:n=-1
  ·rw [if_pos n1] at hi;exact .inl hi
  rw [if_neg n1] at h hi
  by_cases n0:n<0
  ·rw [if_pos n0] at h;cases h
  rw [if_neg n0] at h hi
  cases hx:l[n.toNat]? with
  | none=>rw [hx] at h;cases h
  | some x=>
  cases hs:s.seen[n.toNat]? with
  | none=>rw [hx,hs] at h;cases h
  | some b=>
  cases b with
  | true=>rw [hx,hs] at h;cases h
  | false=>
   rw [hx,hs] at h hi
   dsimp only at h hi
   by_cases ho:fV x.ln=true
   ·rw [if_pos ho] at h hi
    dsimp only at h hi
    have hb:(bO l f x.left ⟨s.seen.set n.toNat true,s.eO+1,s.bad⟩).2.bad=false:=by
     cases e:(bO l f x.left ⟨s.seen.set n.toNat true,s.eO+1,s.bad⟩).2.bad
     ·rfl
     ·have:=ky l f x.right _ e
      rw [h] at this;cases this
    rcases sK l f x.right _ h i hi with g|g
    ·rcases sK l f x.left _ hb i g with g|g
     ·dsimp only at g
      rw [List.getElem?_set] at g
      split at g
      ·rename_i e;subst e;exact .inr ⟨x,hx,ho⟩
      ·exact .inl g
     ·exact .inr g
    ·exact .inr g
   ·rw [if_neg ho] at h;cases h
theorem Ce {l:List Nd}{root:Int}{t:Tr}(h:dv l root=some t):∀x∈l,fV x.ln=true:=by
 have hl:l.length<=65536:=by
  rcases Nat.lt_or_ge 65536 l.length with h'|h'
  ·unfold dv at h;rw [if_pos h'] at h;cases h
  ·exact h'
 rw [uH hl] at h
 split at h
 ·rename_i hc
  intro x hx
  obtain ⟨i,hi,rfl⟩:=List.mem_iff_getElem.1 hx
  have hm:=(gE l (l.length+1) root ⟨List.replicate l.length false,0,false⟩).2
  have hs:(bO l (l.length+1) root ⟨List.replicate l.length false,0,false⟩).2.seen[i]?=some true:=by
   have hlt:i<(bO l (l.length+1) root ⟨List.replicate l.length false,0,false⟩).2.seen.length:=by rw [hm];simpa using hi
   rw [List.getElem?_eq_getElem hlt]
   have:=List.all_eq_true.1 hc.2 _ (List.getElem_mem hlt)
   exact congrArg some this
  rcases sK l _ root _ hc.1 i hs with g|⟨y,hy,ho⟩
  ·simp [hi] at g
  ·rw [List.getElem?_eq_getElem hi] at hy;cases hy;exact ho
 ·cases h
def RT (V:View):OA->Tr->Prop
 | p,.leaf i=>∃(b:Nat)(c0 c1 c2 c3 c4 c5 c6 c7 c8:Value)(r:OA),p=some ⟨b,0,none⟩/\V.bj b (.cells #[c0,c1,c2,c3,c4,c5,c6,c7,c8,.pointer none,.pointer r,.bool i] 190 (0,0))
 | p,.node l x y=>∃(b:Nat)(x1 x2:Int)(x3:OA)(y1 y2:Int)(y3:OA)(z1 z2:Int)(z3:OA)(pl pr:OA)(i:Bool),p=some ⟨b,0,none⟩ /\
   V.bj b (.cells #[.int .i64 x1,.int .i64 x2,.pointer x3,.int .i64 y1,.int .i64 y2,.pointer y3,.int .i64 z1,.int .i64 z2,.pointer z3,.pointer pl,.pointer pr,.bool i] 190 (0,0)) /\
   tJ V (.agg #[.int .i64 x1,.int .i64 x2,.pointer x3,.int .i64 y1,.int .i64 y2,.pointer y3,.int .i64 z1,.int .i64 z2,.pointer z3]) l.1 l.2.1 l.2.2/\RT V pl x/\RT V pr y
theorem RT.le {V V':View}(h:V.Le V'):∀{t:Tr} {p:OA},RT V p t->RT V' p t
 | .leaf i,p,⟨b,c0,c1,c2,c3,c4,c5,c6,c7,c8,r,e,hb⟩=>⟨b,c0,c1,c2,c3,c4,c5,c6,c7,c8,r,e,h _ _ hb⟩
 | .node l x y,p,⟨b,x1,x2,x3,y1,y2,y3,z1,z2,z3,pl,pr,i,e,hb,hl,hx,hy⟩=>⟨b,x1,x2,x3,y1,y2,y3,z1,z2,z3,pl,pr,i,e,h _ _ hb,hl.le h,RT.le h hx,RT.le h hy⟩
theorem RT.Af {V:View}{t:Tr}{p:OA}(h:RT V p t):p.isSome=true:=by
 cases t with
 | leaf i=>obtain ⟨b,c0,c1,c2,c3,c4,c5,c6,c7,c8,r,rfl,hb⟩:=h;rfl
 | node l x y=>obtain ⟨b,x1,x2,x3,y1,y2,y3,z1,z2,z3,pl,pr,i,rfl,-⟩:=h;rfl
theorem dR {V:View}(i:Bool):ab prog 145 #[.bool i] V fun r V'=>∃p,r=.pointer p/\RT V' p (.leaf i):=
 vg i V _ fun V1 l1 b hb=>⟨_,rfl,b,_,_,_,_,_,_,_,_,_,_,rfl,hb⟩
theorem bB {V:View}{p:OA}{t:Tr}(h:RT V p t):ab prog 124 #[.pointer p] V fun r V'=>r=.bool t.fS:=by
 cases t with
 | leaf i=>
  obtain ⟨b,c0,c1,c2,c3,c4,c5,c6,c7,c8,r,rfl,hb⟩:=h
  exact iq _ V _ ⟨rfl,rfl,_,tE hb 9 rfl,fun V1 l1=>rfl⟩
 | node l x y=>
  obtain ⟨b,x1,x2,x3,y1,y2,y3,z1,z2,z3,pl,pr,i,rfl,hb,hl,hx,hy⟩:=h
  refine iq _ V _ ⟨rfl,rfl,_,tE hb 9 rfl,fun V1 l1=>?_⟩
  have:=hx.Af
  cases pl with
  | none=>cases this
  | some a=>rfl
theorem qU {V:View}{v:Value}{l:L3}{p q:OA}{x y:Tr}(hl:tJ V v l.1 l.2.1 l.2.2)(hx:RT V p x)(hy:RT V q y) :
  ab prog 133 #[v,.pointer p,.pointer q] V fun r V'=>∃p',r=.pointer p'/\RT V' p' (.node l x y):=by
 have hl0:=hl
 obtain ⟨x1,x2,x3,y1,y2,y3,z1,z2,z3,rfl,-⟩:=hl
 exact wY _ _ _ _ _ _ _ _ _ p q V _ fun V1 l1 b hb=>⟨_,rfl,b,_,_,_,_,_,_,_,_,_,_,_,_,rfl,hb,hl0.le l1,hx.le l1,hy.le l1⟩
def zt (V:View)(v:Value)(l:L3):Prop:=RL V v l.1 l.2.1 l.2.2\/fV l=false/\∃b1 p n c xs b2 q m e ys b3 s i j zs,v=.agg #[.bool b1,.slice p n c,.bool b2,.slice q m e,.bool b3,.slice s i j]/\RD V p n c xs/\RD V q m e ys/\RD V s i j zs /\
 fC b1 xs b2 ys b3 zs=false/\(xs.length<=1000000/\ys.length<=1000000/\zs.length<=1000000)/\Sz 1000000 (au b1 xs:Rat)/\Sz 1000000 (au b2 ys:Rat)/\Sz 1000000 (au b3 zs:Rat)
theorem zt.le {V V':View}{v:Value}{l:L3}(h:zt V v l)(e:V.Le V'):zt V' v l:=by
 rcases h with h|⟨ho,b1,p,n,c,xs,b2,q,m,e',ys,b3,s,i,j,zs,hv,h1,h2,h3,h4⟩
 ·exact .inl (h.le e)
 ·exact .inr ⟨ho,b1,p,n,c,xs,b2,q,m,e',ys,b3,s,i,j,zs,hv,h1.le e,h2.le e,h3.le e,h4⟩
theorem zt.ok {V:View}{v:Value}{l:L3}(h:zt V v l)(ho:fV l=true):RL V v l.1 l.2.1 l.2.2:=by
 rcases h with h|⟨h,-⟩
 ·exact h
 ·rw [ho] at h;cases h
theorem sg {V:View}{v:Value}{x:L3}(h:zt V v x)(hb:Bd x) :
  ab prog 132 #[v] V fun r V'=>∃w,r=.tuple #[w,.bool (fV x)]/\Bv w/\(fV x=true->tJ V' w x.1 x.2.1 x.2.2):=by
 rcases h with h|⟨ho,b1,p,n,c,xs,b2,q,m,e',ys,b3,s,i,j,zs,rfl,h1,h2,h3,h4,⟨m1,m2,m3⟩,s1,s2,s3⟩
 ·exact lT h hb
 ·refine (nI b1 b2 b3 h1 h2 h3 (by omega) (by omega) (by omega) s1 s2 s3 (by omega)).mono ?_
  rintro r V2 l2 ⟨w,rfl,g1,g2⟩
  rw [h4] at g2 ⊢
  rw [ho]
  exact ⟨w,rfl,g1,fun h=>by cases h⟩
def NR (V:View)(vs:List Value)(l:List Nd):Prop:=∀(i:Nat)(d:Nd),l[i]?=some d->∃(b1:Bool)(p1:OA)(n1 c1:Nat)(b2:Bool)(p2:OA)(n2 c2:Nat)(b3:Bool)(p3:OA)(n3 c3:Nat),
 (∀j v,([.bool b1,.slice p1 n1 c1,.bool b2,.slice p2 n2 c2,.bool b3,.slice p3 n3 c3,.int .i64 d.left,.int .i64 d.right]:List Value)[j]?=some v->vs[i*8+j]?=some v) /\
 zt V (.agg #[.bool b1,.slice p1 n1 c1,.bool b2,.slice p2 n2 c2,.bool b3,.slice p3 n3 c3]) d.ln
theorem NR.le {V V':View}{vs:List Value}{l:List Nd}(h:NR V vs l)(hl:V.Le V'):NR V' vs l:=fun i d hd=>by
 obtain ⟨b1,p1,n1,c1,b2,p2,n2,c2,b3,p3,n3,c3,h1,h2⟩:=h i d hd
 exact ⟨b1,p1,n1,c1,b2,p2,n2,c2,b3,p3,n3,c3,h1,h2.le hl⟩
structure NS (V:View) (p:OA) (n c:Nat) (l:List Nd):Prop where
 len:n=l.length
 cap:n<=c
 row:∃vs,V.sl p vs/\NR V vs l
 yJ:p.isNone=true->c=0
theorem NS.le {V V':View}{p:OA}{n c:Nat}{l:List Nd}(h:NS V p n c l)(hl:V.Le V'):NS V' p n c l:=by
 obtain ⟨h1,h2,⟨vs,h3,h4⟩,h5⟩:=h
 exact ⟨h1,h2,⟨vs,hl.sl h3,h4.le hl⟩,h5⟩
theorem NS.nil {V:View}:NS V none 0 0 []:=⟨rfl,Nat.le_refl _,⟨[],fun i v h=>by simp at h,fun i d h=>by simp at h⟩,fun _=>rfl⟩
theorem NS.Af {V:View}{p:OA}{n c:Nat}{l:List Nd}(h:NS V p n c l)(hn:n≠0):p.isSome=true:=by
 cases p with
 | none=>have:=h.yJ rfl;have:=h.cap;omega
 | some a=>rfl
def dm (l:List Bool):List Value:=l.map .bool
theorem kX {l:List Bool}{i:Nat}{b:Bool}(h:l[i]?=some b):(dm l)[i]?=some (.bool b):=by simp [dm,h]
theorem NS.rd {V:View}{p:OA}{n c:Nat}{l:List Nd}(h:NS V p n c l){k:Nat}{d:Nd}(hd:l[k]?=some d) :
  ∃(b1:Bool)(p1:OA)(n1 c1:Nat)(b2:Bool)(p2:OA)(n2 c2:Nat)(b3:Bool)(p3:OA)(n3 c3:Nat)(a:Addr),af p (k*8)=some a /\
   V.at (a.add 0) (.bool b1)/\V.at (a.add 1) (.slice p1 n1 c1)/\V.at (a.add 2) (.bool b2)/\V.at (a.add 3) (.slice p2 n2 c2)/\V.at (a.add 4) (.bool b3)/\V.at (a.add 5) (.slice p3 n3 c3)/\V.at (a.add 6) (.int .i64 d.left)/\V.at (a.add 7) (.int .i64 d.right) /\
   zt V (.agg #[.bool b1,.slice p1 n1 c1,.bool b2,.slice p2 n2 c2,.bool b3,.slice p3 n3 c3]) d.ln:=by
 obtain ⟨vs,hs,hr⟩:=h.row
 obtain ⟨b1,p1,n1,c1,b2,p2,n2,c2,b3,p3,n3,c3,h1,h2⟩:=hr k d hd
 obtain ⟨ad,rfl,-⟩:=hs _ _ (h1 0 _ rfl)
 have key:∀j v,([.bool b1,.slice p1 n1 c1,.bool b2,.slice p2 n2 c2,.bool b3,.slice p3 n3 c3,.int .i64 d.left,.int .i64 d.right]:List Value)[j]?=some v->V.at ((ad.add (k*8)).add j) v:=by
  intro j v hv
  obtain ⟨K3,e,ha⟩:=hs _ _ (h1 j v hv)
  cases e
  rw [zv]
  exact ha
 exact ⟨b1,p1,n1,c1,b2,p2,n2,c2,b3,p3,n3,c3,_,rfl,key 0 _ rfl,key 1 _ rfl,key 2 _ rfl,key 3 _ rfl,key 4 _ rfl,key 5 _ rfl,key 6 _ rfl,key 7 _ rfl,h2⟩
theorem vU {l:List Nd}(hb:∀x∈l,Bd x.ln)(hlen:l.length<=65536):∀(f:Nat) (n:Int) (s:RS) {V:View} {rb sb:Nat} {Bt:OA} {nc:Nat},NS V Bt l.length nc l ->
  V.w.heap[rb]?=some (.cells #[.slice Bt l.length nc,.slice (some ⟨sb,0,none⟩) l.length l.length,.int .i64 (s.eO:Int),.bool s.bad] 162 (0,0))->V.X rb ->
  V.w.heap[sb]?=some (.cells (dm s.seen).toArray 4 (0,0))->V.X sb->rb≠sb->s.seen.length=l.length->s.seen.count false<f->s.eO+s.seen.count false<=l.length ->
  ab prog 98 #[.pointer (some ⟨rb,0,none⟩),.int .i64 n] V fun r V'=>∃p,r=.pointer p/\RT V' p (bO l f n s).1 /\
   V'.w.heap[rb]?=some (.cells #[.slice Bt l.length nc,.slice (some ⟨sb,0,none⟩) l.length l.length,.int .i64 ((bO l f n s).2.eO:Int),.bool (bO l f n s).2.bad] 162 (0,0)) /\
   V'.w.heap[sb]?=some (.cells (dm (bO l f n s).2.seen).toArray 4 (0,0)):=by
 intro f
 induction f with
 | zero=>intro n s V rb sb Bt nc _ _ _ _ _ _ _ h;omega
 | succ f ih=>
  intro n s V rb sb Bt nc hns hw1 hx1 hw2 hx2 hne hsl hcf hct
  refine jX rb sb Bt l.length nc l.length l.length s.eO s.bad (dm s.seen) n V _ hw1 hx1 hw2 hx2 hne ⟨fun h0 V1 l1=>(dR _).mono ?_,fun h0=>⟨fun h1 V4 l4=>(dR _).mono ?_,fun h1=>⟨fun h2 V7 l7=>(dR _).mono ?_,fun h2=>⟨fun h3 jq l10=>(dR _).mono ?_,fun h3=>?_⟩⟩⟩⟩
  ·rintro r V2 l2 ⟨p,rfl,hp⟩
   have e0:n=-2:=by simpa using h0
   have e:bO l (f+1) n s=(.leaf true,s):=by simp [bO,e0]
   rw [h0] at hp
   exact ⟨p,rfl,fun V3 l3 g1 g2=>⟨p,rfl,by rw [e];exact hp.le l3,by rw [e];exact g1,by rw [e];exact g2⟩⟩
  ·rintro r V2 l2 ⟨p,rfl,hp⟩
   have e0:n=-1:=by simpa using h1
   have e:bO l (f+1) n s=(.leaf false,s):=by simp [bO,e0]
   rw [h0] at hp
   exact ⟨p,rfl,fun V3 l3 g1 g2=>⟨p,rfl,by rw [e];exact hp.le l3,by rw [e];exact g1,by rw [e];exact g2⟩⟩
  ·rintro r V2 l2 ⟨p,rfl,hp⟩
   have n0:¬n=-2:=by simpa using h0
   have n1:¬n=-1:=by simpa using h1
   have n2:n<0:=by simpa using h2
   have e:bO l (f+1) n s=(.leaf false,{ s with bad:=true }):=by simp [bO,n0,n1,n2]
   exact ⟨p,rfl,fun V3 l3 g1 g2=>⟨p,rfl,by rw [e];exact hp.le l3,by rw [e];exact g1,by rw [e];exact g2⟩⟩
  ·rintro r V2 l2 ⟨p,rfl,hp⟩
   have n0:¬n=-2:=by simpa using h0
   have n1:¬n=-1:=by simpa using h1
   have n2:¬n<0:=by simpa using h2
   have n3:(l.length:Int)<=n:=by simpa using h3
   have e:bO l (f+1) n s=(.leaf false,{ s with bad:=true }):=by
    simp only [bO,n0,n1,n2,if_false]
    rw [List.getElem?_eq_none (by omega)]
   exact ⟨p,rfl,fun V3 l3 g1 g2=>⟨p,rfl,by rw [e];exact hp.le l3,by rw [e];exact g1,by rw [e];exact g2⟩⟩
  ·have n0:¬n=-2:=by simpa using h0
   have n1:¬n=-1:=by simpa using h1
   have n2:¬n<0:=by simpa using h2
   have n3:n<(l.length:Int):=by simpa using h3
   clear h0 h1 h2 h3
   obtain ⟨k,rfl⟩:=Int.eq_ofNat_of_zero_le (Int.not_lt.1 n2)
   have hk:k<l.length:=by omega
   have hks:k<s.seen.length:=by omega
   simp only [Int.toNat_natCast,Nat.mul_one,Nat.zero_add]
   have hsk:s.seen[k]?=some s.seen[k]:=List.getElem?_eq_getElem hks
   have hlk:l[k]?=some l[k]:=List.getElem?_eq_getElem hk
   refine ⟨⟨by omega,n3⟩,s.seen[k],kX hsk,fun h4 qH dJ=>(dR _).mono ?_,fun h4=>⟨⟨by omega,n3⟩,by simp [dm];omega,hns.Af (by omega),⟨by omega,n3⟩,?_⟩⟩
   ·rintro r V2 l2 ⟨p,rfl,hp⟩
    have e:bO l (f+1) (k:Int) s=(.leaf false,{ s with bad:=true }):=by
     simp only [bO,n0,n1,n2,if_false,Int.toNat_natCast]
     rw [hsk,h4,hlk]
    exact ⟨p,rfl,fun V3 l3 g1 g2=>⟨p,rfl,by rw [e];exact hp.le l3,by rw [e];exact g1,by rw [e];exact g2⟩⟩
   ·obtain ⟨b1,p1,m1,c1,b2,p2,m2,c2,b3,p3,m3,c3,a,ha,a0,a1,a2,a3,a4,a5,a6,a7,hL⟩:=hns.rd hlk
    refine ⟨b1,p1,m1,c1,b2,p2,m2,c2,b3,p3,m3,c3,_,_,a,ha,a0,a1,a2,a3,a4,a5,a6,a7,fun rV dX=>(sg (hL.le dX) (hb _ (List.getElem_mem hk))).mono ?_⟩
    rintro r pP ew ⟨w,rfl,⟨x1,x2,x3,y1,y2,y3,z1,z2,z3,rfl⟩,hw⟩
    rw [h4] at hsk
    have hset:(dm s.seen).set k (.bool true)=dm (s.seen.set k true):=by simp [dm,List.map_set]
    have hcount:=count_set hsk
    have w1:i64.wrap ((s.eO:Int)+1)=((s.eO+1:Nat):Int):=by rw [aG (by omega)];omega
    rw [hset,w1]
    refine ⟨_,_,_,_,_,_,_,_,_,_,rfl,fun h5 vH gk=>(dR _).mono ?_,fun h5 tL il bk1 bk2 g1 g2 g3 g4 g5=>?_⟩
    ·rintro r V2 l2 ⟨p,rfl,hp⟩
     have h5:fV l[k].ln=false:=by simpa using h5
     have e:bO l (f+1) (k:Int) s=(.leaf false,⟨s.seen.set k true,s.eO+1,true⟩):=by
      simp only [bO,n0,n1,n2,if_false,Int.toNat_natCast]
      rw [hsk,hlk]
      simp [h5]
     exact ⟨p,rfl,fun V3 l3 g1 g2=>⟨p,rfl,by rw [e];exact hp.le l3,by rw [e];exact g1,by rw [e];exact g2⟩⟩
    ·have h5:fV l[k].ln=true:=by simpa using h5
     have lv:V.Le tL:=dX.trans (ew.trans il)
     have lX:∀(U:View)(u v:Nat),U.H u->U.H v->(U.aR [u,v]).X u/\(U.aR [u,v]).X v:=fun U u v hu hv=>⟨⟨by simp,hu⟩,⟨by simp,hv⟩⟩
     have i1:=ih l[k].left ⟨s.seen.set k true,s.eO+1,s.bad⟩ (V:=tL.aR [bk1,bk2]) (hns.le lv) g1 (lX _ _ _ g2 g4).1 g3 (lX _ _ _ g2 g4).2 g5 (by simp [hsl]) (by dsimp only;omega) (by dsimp only;omega)
     have hm:=gE l f l[k].left ⟨s.seen.set k true,s.eO+1,s.bad⟩
     have hcc:=nj l f l[k].left ⟨s.seen.set k true,s.eO+1,s.bad⟩
     have e:bO l (f+1) (k:Int) s=(.node l[k].ln (bO l f l[k].left ⟨s.seen.set k true,s.eO+1,s.bad⟩).1 (bO l f l[k].right (bO l f l[k].left ⟨s.seen.set k true,s.eO+1,s.bad⟩).2).1,(bO l f l[k].right (bO l f l[k].left ⟨s.seen.set k true,s.eO+1,s.bad⟩).2).2):=by
      simp only [bO,n0,n1,n2,if_false,Int.toNat_natCast]
      rw [hsk,hlk]
      simp [h5]
     rw [e]
     clear e
     dsimp only
     generalize bO l f l[k].left ⟨s.seen.set k true,s.eO+1,s.bad⟩=q1 at *
     obtain ⟨t1,s1⟩:=q1
     dsimp only at i1 hm hcc ⊢
     refine i1.mono ?_
     rintro r xY lu ⟨p,rfl,hp,e1,e2⟩
     refine ⟨p,rfl,_,_,_,_,_,e1,_,e2,fun vM js Eb Gy f1 f2 f3 f4 f5=>?_⟩
     have J9:tL.Le vM:=fun b o h=>js b o (lu b o h)
     have i2:=ih l[k].right s1 (V:=vM.aR [Eb,Gy]) (hns.le (lv.trans J9)) f1 (lX _ _ _ f2 f4).1 f3 (lX _ _ _ f2 f4).2 f5 (by rw [hm.2];simp [hsl]) (by omega) (by omega)
     generalize bO l f l[k].right s1=q2 at *
     obtain ⟨t2,s2⟩:=q2
     dsimp only at i2 ⊢
     refine i2.mono ?_
     rintro r Bn wA ⟨q,rfl,hq,e3,e4⟩
     refine ⟨q,rfl,_,_,_,_,_,e3,_,e4,fun Bo pM=>?_⟩
     have Fp:vM.Le Bn:=fun b o h=>wA b o h
     have DR:Bn.Le Bo:=fun b o h=>pM b o h
     have lw:pP.Le Bo:=il.trans (J9.trans (Fp.trans DR))
     have HT:xY.Le vM:=fun b o h=>js b o h
     refine (qU ((hw h5).le lw) (hp.le (HT.trans (Fp.trans DR))) (hq.le DR)).mono ?_
     rintro r Eo xE ⟨u,rfl,hu⟩
     exact ⟨u,rfl,fun Gu uA g1 g2=>⟨u,rfl,hu.le uA,g1,g2⟩⟩
theorem zN {V:View}{l:List Nd}(hb:∀x∈l,Bd x.ln){p:OA}{n c:Nat}(root:Int)(h:NS V p n c l) :
  ab prog 45 #[.agg #[.int .i64 root,.slice p n c]] V fun r V'=>(dv l root=none->∃q,r=.tuple #[.pointer q,.bool false])/\(∀t,dv l root=some t->∃q,r=.tuple #[.pointer q,.bool true]/\RT V' q t):=by
 have hl:=h.len
 subst hl
 refine zc root p l.length c V _ ⟨fun h0 V1 l1=>?_,fun h0=>⟨by omega,Int.le_refl _,?_,fun V2 l2 bk1 bk2 g1 g2 g3 g4 g5=>?_⟩⟩
 ·have h0:65536<l.length:=by simp at h0;omega
  have e:dv l root=none:=by unfold dv;rw [if_pos h0]
  exact ⟨fun _=>⟨_,rfl⟩,fun t ht=>by rw [e] at ht;cases ht⟩
 ·have h0:¬65536<l.length:=by simp at h0;omega
  omega
 ·have h0:¬65536<l.length:=by simp at h0;omega
  simp only [Int.toNat_natCast] at g1 g3 ⊢
  have hr:List.replicate l.length (Value.bool false)=dm (List.replicate l.length false):=by simp [dm]
  rw [hr] at g3
  have hc0:(List.replicate l.length false).count false=l.length:=by simp
  refine (vU hb (by omega) (l.length+1) root ⟨List.replicate l.length false,0,false⟩ (V:=V2.aR [bk1,bk2]) (h.le l2) g1 ⟨by simp,g2⟩ g3 ⟨by simp,g4⟩ g5 (by simp) (by dsimp only;omega) (by dsimp only;omega)).mono ?_
  rintro r V3 l3 ⟨q,rfl,hq,e1,e2⟩
  have hof:dv l root=if (bO l (l.length+1) root ⟨List.replicate l.length false,0,false⟩).2.bad=true\/(bO l (l.length+1) root ⟨List.replicate l.length false,0,false⟩).2.eO≠l.length then none else some (bO l (l.length+1) root ⟨List.replicate l.length false,0,false⟩).1:=by
   unfold dv;rw [if_neg h0]
  rw [hof]
  clear hof
  generalize bO l (l.length+1) root ⟨List.replicate l.length false,0,false⟩=r0 at *
  obtain ⟨t,s⟩:=r0
  refine ⟨q,rfl,_,_,_,_,_,e1,_,e2,fun h1 V4 l4=>?_,fun h1=>⟨fun h2 V5 l5=>?_,fun h2 V6 l6=>?_⟩⟩
  ·rw [if_pos (.inl h1)]
   exact ⟨fun _=>⟨_,rfl⟩,fun t ht=>by cases ht⟩
  ·have h2:s.eO≠l.length:=by simp at h2;omega
   rw [if_pos (.inr h2)]
   exact ⟨fun _=>⟨_,rfl⟩,fun t ht=>by cases ht⟩
  ·have h2:s.eO=l.length:=by simp at h2;omega
   dsimp only at h1 ⊢
   rw [if_neg (by rw [h1,h2];simp)]
   exact ⟨fun e=>(by cases e),fun t1 ht=>by cases ht;exact ⟨q,rfl,RT.le (V:=V3) (V':=V6) (fun b o h=>l6 b o h) hq⟩⟩
theorem z_ {V:View}{P:Prop}{b:Nat}:(V.bH P b).Le V:=fun x o h=>⟨fun hh=>h.1 (.inl hh),h.2⟩
theorem ab.C9 {f:FuncId}{args:Array Value}{V:View}{R R':Value->View->Prop}(h:ab prog f args V R)(hR:∀r V',V.Le V'->(∀b,V'.H b->V.H b)->R r V'->R' r V'):ab prog f args V R':=
 ⟨h.1,h.2.mono fun _ w' ⟨r,he,hx,hr⟩=>⟨r,he,hx,hR r _ (V.C7 w' hx) (fun _ hb=>hb) hr⟩⟩
theorem xS {vs:List Value}{n b:Nat}(h:vs≠[]):vb vs n b=b:=by cases vs with|nil=>exact absurd rfl h|cons v r=>rfl
theorem NR.push {V:View}{vs sp:List Value}{l:List Nd}(h:NR V vs l)(hl:l.length*8<=vs.length){ln:L3}{x y:Int}{b1:Bool}{p1:OA}{n1 c1:Nat}{b2:Bool}{p2:OA}{n2 c2:Nat}{b3:Bool}{p3:OA}{n3 c3:Nat}
  (hL:RL V (.agg #[.bool b1,.slice p1 n1 c1,.bool b2,.slice p2 n2 c2,.bool b3,.slice p3 n3 c3]) ln.1 ln.2.1 ln.2.2) :
  NR V (vs.take (l.length*8)++[.bool b1,.slice p1 n1 c1,.bool b2,.slice p2 n2 c2,.bool b3,.slice p3 n3 c3,.int .i64 x,.int .i64 y]++sp) (l++[⟨ln,x,y⟩]):=by
 intro i d hd
 rcases Nat.lt_or_ge i l.length with hi|hi
 ·rw [List.getElem?_append_left hi] at hd
  obtain ⟨b1',H3,n1',c1',b2',H5,L1,c2',b3',H6,L2,c3',h1,h2⟩:=h i d hd
  refine ⟨b1',H3,n1',c1',b2',H5,L1,c2',b3',H6,L2,c3',fun j v hv=>?_,h2⟩
  have hj:j<8:=by
   rcases Nat.lt_or_ge j 8 with hj|hj
   ·exact hj
   ·rw [List.getElem?_eq_none (by simpa using hj)] at hv;cases hv
  have:=h1 j v hv
  rw [List.append_assoc,List.getElem?_append_left (by rw [List.length_take];omega),List.getElem?_take,if_pos (by omega)]
  exact this
 ·rw [List.getElem?_append_right hi] at hd
  have hi':i=l.length:=by
   rcases Nat.lt_or_ge (i-l.length) 1 with h'|h'
   ·omega
   ·rw [List.getElem?_eq_none (by simpa using h')] at hd;cases hd
  subst hi'
  simp only [Nat.sub_self,List.getElem?_cons_zero,Option.some.injEq] at hd
  subst hd
  refine ⟨b1,p1,n1,c1,b2,p2,n2,c2,b3,p3,n3,c3,fun j v hv=>?_,.inl hL⟩
  have hj:j<8:=by
   rcases Nat.lt_or_ge j 8 with hj|hj
   ·exact hj
   ·rw [List.getElem?_eq_none (by simpa using hj)] at hv;cases hv
  rw [List.append_assoc,List.getElem?_append_right (by rw [List.length_take];omega),List.length_take,Nat.min_eq_left hl,Nat.add_sub_cancel_left,List.getElem?_append_left (by simpa using hj)]
  exact hv
theorem NR.IA {V:View}{vs:List Value}{l:List Nd}(h:NR V vs l){k:Nat}{d:Nd}(hd:l[k]?=some d){x:Int}:NR V (vs.set (k*8+6) (.int .i64 x)) (l.set k ⟨d.ln,x,d.right⟩):=by
 intro i d' hd'
 rw [List.getElem?_set] at hd'
 split at hd'
 ·rename_i e
  subst e
  split at hd'
  ·cases hd'
   obtain ⟨b1,p1,n1,c1,b2,p2,n2,c2,b3,p3,n3,c3,h1,h2⟩:=h k d hd
   refine ⟨b1,p1,n1,c1,b2,p2,n2,c2,b3,p3,n3,c3,fun j v hv=>?_,h2⟩
   rw [List.getElem?_set]
   by_cases hj:j=6
   ·subst hj
    have:=h1 6 _ rfl
    have hlt:k*8+6<vs.length:=by
     rcases Nat.lt_or_ge (k*8+6) vs.length with h|h
     ·exact h
     ·rw [List.getElem?_eq_none h] at this;cases this
    rw [if_pos rfl,if_pos hlt]
    exact hv
   ·rw [if_neg (by omega)]
    refine h1 j v ?_
    match j,hj,hv with
    | 0,_,hv=>exact hv
    | 1,_,hv=>exact hv
    | 2,_,hv=>exact hv
    | 3,_,hv=>exact hv
    | 4,_,hv=>exact hv
    | 5,_,hv=>exact hv
    | 6,hj,_=>exact absurd rfl hj
    | 7,_,hv=>exact hv
    | n+8,_,hv=>exact hv
  ·cases hd'
 ·rename_i e
  obtain ⟨b1,p1,n1,c1,b2,p2,n2,c2,b3,p3,n3,c3,h1,h2⟩:=h i d' hd'
  refine ⟨b1,p1,n1,c1,b2,p2,n2,c2,b3,p3,n3,c3,fun j v hv=>?_,h2⟩
  have hj:j<8:=by
   rcases Nat.lt_or_ge j 8 with hj|hj
   ·exact hj
   ·rw [List.getElem?_eq_none (by simpa using hj)] at hv;cases hv
  rw [List.getElem?_set_ne (by omega)]
  exact h1 j v hv
theorem NR.IB {V:View}{vs:List Value}{l:List Nd}(h:NR V vs l){k:Nat}{d:Nd}(hd:l[k]?=some d){x:Int}:NR V (vs.set (k*8+7) (.int .i64 x)) (l.set k ⟨d.ln,d.left,x⟩):=by
 intro i d' hd'
 rw [List.getElem?_set] at hd'
 split at hd'
 ·rename_i e
  subst e
  split at hd'
  ·cases hd'
   obtain ⟨b1,p1,n1,c1,b2,p2,n2,c2,b3,p3,n3,c3,h1,h2⟩:=h k d hd
   refine ⟨b1,p1,n1,c1,b2,p2,n2,c2,b3,p3,n3,c3,fun j v hv=>?_,h2⟩
   rw [List.getElem?_set]
   by_cases hj:j=7
   ·subst hj
    have:=h1 7 _ rfl
    have hlt:k*8+7<vs.length:=by
     rcases Nat.lt_or_ge (k*8+7) vs.length with h|h
     ·exact h
     ·rw [List.getElem?_eq_none h] at this;cases this
    rw [if_pos rfl,if_pos hlt]
    exact hv
   ·rw [if_neg (by omega)]
    refine h1 j v ?_
    match j,hj,hv with
    | 0,_,hv=>exact hv
    | 1,_,hv=>exact hv
    | 2,_,hv=>exact hv
    | 3,_,hv=>exact hv
    | 4,_,hv=>exact hv
    | 5,_,hv=>exact hv
    | 6,_,hv=>exact hv
    | 7,hj,_=>exact absurd rfl hj
    | n+8,_,hv=>exact hv
  ·cases hd'
 ·rename_i e
  obtain ⟨b1,p1,n1,c1,b2,p2,n2,c2,b3,p3,n3,c3,h1,h2⟩:=h i d' hd'
  refine ⟨b1,p1,n1,c1,b2,p2,n2,c2,b3,p3,n3,c3,fun j v hv=>?_,h2⟩
  have hj:j<8:=by
   rcases Nat.lt_or_ge j 8 with hj|hj
   ·exact hj
   ·rw [List.getElem?_eq_none (by simpa using hj)] at hv;cases hv
  rw [List.getElem?_set_ne (by omega)]
  exact h1 j v hv
theorem NR.kids {V:View}{vs:List Value}{l r:List Nd}{ln:L3}{u v x y:Int}(h:NR V vs (l++⟨ln,u,v⟩::r)):NR V ((vs.set (l.length*8+6) (.int .i64 x)).set (l.length*8+7) (.int .i64 y)) (l++⟨ln,x,y⟩::r):=by
 have e1:(l++(⟨ln,u,v⟩:Nd)::r)[l.length]?=some ⟨ln,u,v⟩:=by simp
 have h1:=h.IA e1 (x:=x)
 have e2:(l++(⟨ln,u,v⟩:Nd)::r).set l.length ⟨ln,x,v⟩=l++⟨ln,x,v⟩::r:=by simp
 rw [e2] at h1
 have e3:(l++(⟨ln,x,v⟩:Nd)::r)[l.length]?=some ⟨ln,x,v⟩:=by simp
 have h2:=h1.IB e3 (x:=y)
 have e4:(l++(⟨ln,x,v⟩:Nd)::r).set l.length ⟨ln,x,y⟩=l++⟨ln,x,y⟩::r:=by simp
 rw [e4] at h2
 exact h2
theorem NR.take {V:View}{vs:List Value}{l:List Nd}(h:NR V vs l):NR V (vs.take (l.length*8)) l:=by
 intro i d hd
 obtain ⟨b1,p1,n1,c1,b2,p2,n2,c2,b3,p3,n3,c3,h1,h2⟩:=h i d hd
 refine ⟨b1,p1,n1,c1,b2,p2,n2,c2,b3,p3,n3,c3,fun j v hv=>?_,h2⟩
 have hj:j<8:=by
  rcases Nat.lt_or_ge j 8 with hj|hj
  ·exact hj
  ·rw [List.getElem?_eq_none (by simpa using hj)] at hv;cases hv
 have hi:i<l.length:=by
  rcases Nat.lt_or_ge i l.length with h|h
  ·exact h
  ·rw [List.getElem?_eq_none h] at hd;cases hd
 rw [List.getElem?_take,if_pos (by omega)]
 exact h1 j v hv
theorem NS.ofRow {V:View}{b c:Nat}{vm:List Value}{l:List Nd}{ty:TypeId}(hb:vm≠[]->V.bj b (.cells vm.toArray ty (0,0)))(hc:l.length<=c)(hr:NR V vm l):NS V (mA b c) l.length c l:=by
 refine ⟨rfl,hc,⟨_,?_,hr.take⟩,?_⟩
 ·intro i v hv
  rw [List.getElem?_take] at hv
  split at hv
  ·rename_i hi
   have hne:vm≠[]:=fun e=>by rw [e] at hv;simp at hv
   refine ⟨⟨b,0,none⟩,by unfold mA;rw [if_neg (by omega)],?_⟩
   rw [add_zero']
   exact bY (hb hne) hv
  ·cases hv
 ·intro e
  unfold mA at e
  split at e
  ·assumption
  ·cases e
theorem vR:∀(t:Tr) {V:View} {p:OA} {ob nb wb:Nat} {root:Int} {n c:Nat} {vs:List Value} {l:List Nd},RT V p t->t.kc Bd->n=l.length ->
  V.w.heap[ob]?=some (.cells #[.int .i64 root,.slice (mA nb c) n c] 42 (0,0))->V.X ob ->
  V.w.heap[wb]?=some (.cells #[.func (.func 135) #[] #[.pointer (some ⟨ob,0,none⟩),.pointer (some ⟨wb,0,none⟩)]] 214 (0,0))->V.X wb ->
  (vs≠[]->V.w.heap[nb]?=some (.cells vs.toArray 76 (0,0)))->(vs≠[]->V.X nb)->ob≠wb->(vs≠[]->ob≠nb)->(vs≠[]->wb≠nb)->n<=c->c*8<=vs.length->NR V vs l->n+t.size<=1000000 ->
  ab prog 135 #[.pointer p,.pointer (some ⟨ob,0,none⟩),.pointer (some ⟨wb,0,none⟩)] V fun r V'=>∃(bm:Nat)(vm:List Value)(c':Nat),(vm≠[]->V'.w.heap[bm]?=some (.cells vm.toArray 76 (0,0)))/\(vm≠[]->V.w.heap.size<=bm\/(vs≠[]/\bm=nb)) /\
   r=.int .i64 (rt n t)/\V'.w.heap[ob]?=some (.cells #[.int .i64 root,.slice (mA bm c') (n+t.size) c'] 42 (0,0)) /\
   V'.w.heap[wb]?=some (.cells #[.func (.func 135) #[] #[.pointer (some ⟨ob,0,none⟩),.pointer (some ⟨wb,0,none⟩)]] 214 (0,0)) /\
   n+t.size<=c'/\c'*8<=vm.length/\NR (V'.bH (vm≠[]) bm) vm (l++wr n t):=by
 intro t
 induction t with
 | leaf i=>
  intro V p ob nb wb root n c vs l hp _ hn ho hxo hw hxw hv hxv h1 h2 h3 hnc hcv hnr hsz
  refine iY p ob nb wb root n c vs V _ ho hxo hw hxw hv hxv h1 h2 h3 fun V1 l1=>(bB (hp.le l1)).mono ?_
  rintro r V2 l2 rfl
  obtain ⟨b,c0,c1,c2,c3,c4,c5,c6,c7,c8,q,rfl,hb⟩:=hp
  have hb2:=(l1.trans l2) _ _ hb
  have fin:∀(V3:View)(bk:Nat)(x:Int),V2.Le (V3.bH (vs≠[]) bk)->V3.w.heap[ob]?=some (.cells #[.int .i64 root,.slice (mA bk c) n c] 42 (0,0)) ->
    V3.w.heap[wb]?=some (.cells #[.func (.func 135) #[] #[.pointer (some ⟨ob,0,none⟩),.pointer (some ⟨wb,0,none⟩)]] 214 (0,0))->(vs≠[]->V3.w.heap[bk]?=some (.cells vs.toArray 76 (0,0))) ->
    (vs≠[]->V.w.heap.size<=bk\/(vs≠[]/\bk=nb)\/False)->x=rt n (.leaf i)->∃(bm:Nat)(vm:List Value)(c':Nat),(vm≠[]->V3.w.heap[bm]?=some (.cells vm.toArray 76 (0,0)))/\(vm≠[]->V.w.heap.size<=bm\/(vs≠[]/\bm=nb)) /\
   Value.int .i64 x=.int .i64 (rt n (.leaf i))/\V3.w.heap[ob]?=some (.cells #[.int .i64 root,.slice (mA bm c') (n+(Tr.leaf i).size) c'] 42 (0,0)) /\
   V3.w.heap[wb]?=some (.cells #[.func (.func 135) #[] #[.pointer (some ⟨ob,0,none⟩),.pointer (some ⟨wb,0,none⟩)]] 214 (0,0)) /\
   n+(Tr.leaf i).size<=c'/\c'*8<=vm.length/\NR (V3.bH (vm≠[]) bm) vm (l++wr n (.leaf i)):=by
   intro V3 bk x hle e1 e2 e3 e4 hx
   refine ⟨bk,vs,c,e3,fun h=>?_,by rw [hx],e1,e2,hnc,hcv,?_⟩
   ·rcases e4 h with h|h|h
    ·exact .inl h
    ·exact .inr h
    ·exact h.elim
   ·simp only [wr,List.append_nil]
    exact hnr.le ((l1.trans l2).trans hle)
  refine ⟨_,rfl,fun _=>⟨rfl,rfl,i,tE hb2 11 rfl,fun hi V3 bk a1 a2 a3 a4 a5=>fin V3 bk _ a1 a2 a3 a4 a5 (by subst hi;rfl),fun hi V3 bk a1 a2 a3 a4 a5=>fin V3 bk _ a1 a2 a3 a4 a5 (by subst hi;rfl)⟩,fun h=>by cases h⟩
 | node ln x y zo ihy=>
  intro V p ob nb wb root n c vs l hp hall hn ho hxo hw hxw hv hxv h1 h2 h3 hnc hcv hnr hsz
  simp only [Tr.size] at hsz
  obtain ⟨hbd,hax,Hn⟩:=hall
  refine iY p ob nb wb root n c vs V _ ho hxo hw hxw hv hxv h1 h2 h3 fun V1 l1=>(bB (hp.le l1)).mono ?_
  rintro r V2 l2 rfl
  have zp:=l1.trans l2
  obtain ⟨b,x1,x2,x3,y1,y2,y3,z1,z2,z3,pl,pr,i,rfl,hb,hl,hx,hy⟩:=hp
  refine ⟨_,rfl,(fun h=>by cases h),fun _=>⟨rfl,rfl,x1,x2,x3,y1,y2,y3,z1,z2,z3,?_⟩⟩
  have hb2:=zp _ _ hb
  have hat:∀j v,([.int .i64 x1,.int .i64 x2,.pointer x3,.int .i64 y1,.int .i64 y2,.pointer y3,.int .i64 z1,.int .i64 z2,.pointer z3,.pointer pl,.pointer pr,.bool i]:List Value)[j]?=some v->V2.at ((⟨b,0,none⟩:Addr).add j) v:=by
   intro j v hv;rw [add_zero'];exact bY (xs:=[_,_,_,_,_,_,_,_,_,_,_,_]) hb2 hv
  obtain ⟨s1,s2,s3⟩:=hbd.sz
  refine ⟨⟨b,0,none⟩,rfl,hat 0 _ rfl,hat 1 _ rfl,hat 2 _ rfl,hat 3 _ rfl,hat 4 _ rfl,hat 5 _ rfl,hat 6 _ rfl,hat 7 _ rfl,hat 8 _ rfl,fun V5 l5=>(ye (hl.le (zp.trans l5)) s1 s2 s3 (by omega)).mono ?_⟩
  rintro r V6 l6 ER
  have Dv:=ER
  obtain ⟨q1,m1,e1,q2,m2,e2,q3,m3,e3,rfl,-⟩:=ER
  have Bs:=zp.trans (l5.trans l6)
  refine ⟨_,_,_,_,_,_,_,_,_,_,_,_,rfl,by omega,hnc,hcv,rfl,by intro v hv;simp at hv;rcases hv with rfl|rfl|rfl|rfl|rfl|rfl|rfl|rfl<;>rfl,fun sp c' g1 g2=>?_⟩
  have hb6:=Bs _ _ hb
  refine ⟨rfl,rfl,pl,tE hb6 9 rfl,fun V7 l7 bk1 bk2 Eb f1 f2 f3 f4 f5 f6 f7 f8 f9=>?_⟩
  have hpush:=NR.push (sp:=sp) (x:=0) (y:=0) (hnr.le Bs) (by omega) (ln:=ln) Dv
  rw [←hn] at hpush
  generalize hrow:vs.take (n*8)++([_,_,_,_,_,_,_,_]:List Value)++sp=row at f1 f2 f8 f9 hpush ⊢
  have hrl:row.length=n*8+8+sp.length:=by
   rw [←hrow];simp only [List.length_append,List.length_take,List.length_cons,List.length_nil];omega
  have DI:row≠[]:=fun e=>by rw [e] at hrl;simp only [List.length_nil] at hrl;omega
  have iy:=Bs.trans l7
  have i1:=zo (V:=V7.aR [vb row V7.w.heap.size bk1,bk2,Eb]) (p:=pl) (ob:=bk2) (nb:=bk1) (wb:=Eb) (root:=root) (n:=n+1) (c:=c') (vs:=row) (l:=l++[⟨ln,0,0⟩]) (RT.le (V:=V) (V':=V7.aR _) (fun b o h=>iy b o h) hx) hax (by simp [hn]) f3 ⟨by simp,f4⟩ f5 ⟨by simp,f6⟩ f1 (fun h=>⟨by simp [xS h],f2 h⟩) f7 (fun h=>(f8 h).symm) (fun h=>(f9 h).symm) g1 (by omega) (NR.le (V:=V6) (V':=V7.aR _) hpush fun b o h=>l7 b o h) (by omega)
  refine i1.mono ?_
  rintro r V8 l8 ⟨bm,vm,c1,a1,a2,rfl,a3,a4,a5,a6,a7⟩
  have LQ:V7.Le V8:=fun b o h=>l8 b o h
  have J6:V7.Le (V8.shut.bH (vm≠[]) bm):=oh (V':=V7) LQ (View.Le.refl V7) fun h=>(a2 h).imp id fun h'=>by rw [h'.2];exact f2 DI
  refine ⟨bm,vm,a1,a2,_,rfl,_,_,_,a3,a4,rfl,rfl,pr,tE ((iy.trans J6) _ _ hb) 10 rfl,fun V9 l9 Gy Jo Jp d1 d2 d3 d4 d5 d6 d7 d8 d9=>?_⟩
  have Fb:vm≠[]:=fun e=>by rw [e] at a6;simp at a6;omega
  have CW:V.Le V9:=(iy.trans J6).trans l9
  have i2:=ihy (V:=V9.aR [vb vm V9.w.heap.size Gy,Jo,Jp]) (p:=pr) (ob:=Jo) (nb:=Gy) (wb:=Jp) (root:=root) (n:=n+1+x.size) (c:=c1) (vs:=vm) (l:=l++[⟨ln,0,0⟩]++wr (n+1) x) (RT.le (V:=V) (V':=V9.aR _) (fun b o h=>CW b o h) hy) Hn (by simp [hn,a_];omega) d3 ⟨by simp,d4⟩ d5 ⟨by simp,d6⟩ d1 (fun h=>⟨by simp [xS h],d2 h⟩) d7 (fun h=>(d8 h).symm) (fun h=>(d9 h).symm) a5 a6 (NR.le (V:=V8.bH (vm≠[]) bm) (V':=V9.aR _) a7 fun b o h=>l9 b o h) (by omega)
  refine i2.mono ?_
  rintro r jq l10 ⟨bn,vn,c2,b1,b2,rfl,b3,b4,b5,b6,b7⟩
  have hs1:n<n+1+x.size+y.size:=by omega
  have hlen:n*8+8<=vn.length:=by omega
  simp only [Int.toNat_natCast]
  refine ⟨bn,vn,b1,b2,_,rfl,_,_,_,b3,b4,⟨by omega,by omega⟩,b5,by omega,⟨by omega,by omega⟩,b5,by rw [List.length_set];omega,fun pJ K6 u1 u2 u3 u4 u5=>?_⟩
  have hfin:=NR.kids (V:=jq.bH (vn≠[]) bn) (l:=l) (r:=wr (n+1) x++wr (n+1+x.size) y) (ln:=ln) (u:=0) (v:=0) (x:=rt (n+1) x) (y:=rt (n+1+x.size) y) (by simpa using b7)
  rw [←hn] at hfin
  refine ⟨K6,_,c2,u4,fun h=>?_,rfl,by rw [show n+(Tr.node ln x y).size=n+1+x.size+y.size from by simp only [Tr.size];omega];exact u2,u3,by simp only [Tr.size];omega,by simp only [List.length_set];omega,?_⟩
  ·rcases u5 h with h|h|h
   ·exact .inl h
   ·exact .inr h
   ·exact h.elim
  ·simp only [wr]
   exact NR.le (V:=jq.bH (vn≠[]) bn) hfin fun b o h=>u1 b o h
theorem qT {V:View}{p:OA}{t:Tr}(h:RT V p t)(ha:t.kc Bd)(hs:t.size<=1000000) :
  ab prog 90 #[.pointer p] V fun r V'=>∃q n c,r=.agg #[.int .i64 (rt 0 t),.slice q n c]/\NS V' q n c (wr 0 t):=by
 refine s_ p V _ fun V1 l1 bk1 bk2 g1 g2 g3 g4 g5=>?_
 refine ab.C9 (vR t (V:=V1.aR [bk1,bk2]) (nb:=0) (vs:=[]) (l:=[]) (n:=0) (c:=0) (RT.le (V:=V) (V':=V1.aR _) (fun b o h=>l1 b o h) h) ha rfl g1 ⟨by simp,g2⟩ g3 ⟨by simp,g4⟩ (fun h=>absurd rfl h) (fun h=>absurd rfl h) g5 (fun h=>absurd rfl h) (fun h=>absurd rfl h) (Nat.le_refl _) (Nat.le_refl _) (fun i d hd=>by simp at hd) (by omega)) ?_
 rintro r V2 l2 hH ⟨bm,vm,c',a1,a2,rfl,a3,a4,a5,a6,a7⟩
 refine ⟨_,rfl,_,_,_,_,a3,a4,fun V3 l3=>⟨_,_,_,rfl,?_⟩⟩
 simp only [List.nil_append,Nat.zero_add] at a7 a5 ⊢
 have js:V2.Le V3:=fun b o h=>l3 b o h
 have:=NS.ofRow (V:=V3) (b:=bm) (c:=c') (vm:=vm) (l:=wr 0 t) (ty:=76) (fun hne=>js _ _ ⟨fun hh=>?_,a1 hne⟩) (by rw [a_];exact a5) ((a7.le z_).le js)
 ·rw [a_] at this;exact this
 ·have h1:=V1.hH bm (hH bm hh)
  rcases a2 hne with h|h
  ·have h:V1.w.heap.size<=bm:=h
   omega
  ·exact h.1 rfl
end Go.Proofs.Tryz
namespace Go.Proofs.Tryz
open Go.bh
def my (V:View)(g:Nat)(y:Value):Prop:=V.at ⟨g,0,none⟩ y
theorem my.le {V V':View}{g:Nat}{y:Value}(h:my V g y)(l:V.Le V'):my V' g y:=l.at h
def Dj (y:Value):Prop:=∃a:Addr,y=.iface 315 (.pointer (some a))
end Go.Proofs.Tryz
namespace Go.Proofs.Tryz
open Go.bh Go.dN
theorem tV {V:View}{p:OA}{t:Tr}{kb:Nat}{k:Int}(h:RT V p t)(hw:V.w.heap[kb]?=some (.cells #[.int .i64 k] 3 (0,0)))(hx:V.X kb)(h0:0<=k)(h1:k<=1000000) :
  ab prog 210 #[.pointer p,.pointer (some ⟨kb,0,none⟩)] V fun r V'=>r=.tuple #[]/\V'.w.heap[kb]?=some (.cells #[.int .i64 (k+if t.fS then 0 else 1)] 3 (0,0)):=by
 refine mN p kb k V _ hw hx fun V1 l1=>(bB (h.le l1)).mono ?_
 rintro r V2 l2 rfl
 refine ⟨_,rfl,fun h2 V3 l3 e=>⟨rfl,?_⟩,fun h2 V4 l4 e=>⟨rfl,?_⟩⟩
 ·have h2:t.fS=false:=by simpa using h2
  rw [aG (by omega)] at e
  rw [h2];exact e
 ·have h2:t.fS=true:=by simpa using h2
  rw [h2]
  simpa using e
def yW:List Tr->Nat
 | []=>0
 | t::r=>t.size+yW r
def uF:List Tr->Nat
 | []=>0
 | t::r=>2*t.size+1+uF r
theorem oZ (a b:List Tr):yW (a++b)=yW a+yW b:=by
 induction a with
 | nil=>simp [yW]
 | cons t r ih=>simp only [List.cons_append,yW,ih];omega
theorem oD (a b:List Tr):uF (a++b)=uF a+uF b:=by
 induction a with
 | nil=>simp [uF]
 | cons t r ih=>simp only [List.cons_append,uF,ih];omega
def Dk (V:View)(vs:List Value)(ts:List Tr):Prop:=∀(i:Nat)(t:Tr),ts[i]?=some t->∃p,vs[i]?=some (.pointer p)/\RT V p t
theorem Dk.le {V V':View}{vs:List Value}{ts:List Tr}(h:Dk V vs ts)(l:V.Le V'):Dk V' vs ts:=fun i t ht=>by
 obtain ⟨p,h1,h2⟩:=h i t ht
 exact ⟨p,h1,h2.le l⟩
theorem Cc (ts:List Tr):ts.length<=uF ts:=by
 induction ts with
 | nil=>simp [uF]
 | cons t r ih=>simp only [uF,List.length_cons];omega
theorem Dk.Cj {V:View}{vs sp:List Value}{ts:List Tr}{x y:Tr}{p q:OA}{m:Nat}(h:Dk V vs ts)(hm:m<=ts.length)(hl:m<=vs.length)(hx:RT V p x)(hy:RT V q y) :
  Dk V (vs.take m++[.pointer p,.pointer q]++sp) (ts.take m++[x,y]):=by
 intro i t ht
 rcases Nat.lt_or_ge i m with hi|hi
 ·rw [List.getElem?_append_left (by rw [List.length_take];omega),List.getElem?_take,if_pos hi] at ht
  obtain ⟨r,h1,h2⟩:=h i t ht
  refine ⟨r,?_,h2⟩
  rw [List.append_assoc,List.getElem?_append_left (by rw [List.length_take];omega),List.getElem?_take,if_pos hi]
  exact h1
 ·rw [List.getElem?_append_right (by rw [List.length_take];omega),List.length_take,Nat.min_eq_left hm] at ht
  obtain ⟨j,rfl⟩:∃j,i=m+j:=⟨i-m,by omega⟩
  rw [Nat.add_sub_cancel_left] at ht
  have e:∀v,([.pointer p,.pointer q]:List Value)[j]?=some v->(vs.take m++[.pointer p,.pointer q]++sp)[m+j]?=some v:=by
   intro v hv
   have hj:j<2:=by
    rcases Nat.lt_or_ge j 2 with hj|hj
    ·exact hj
    ·rw [List.getElem?_eq_none (by simpa using hj)] at hv;cases hv
   rw [List.append_assoc,List.getElem?_append_right (by rw [List.length_take];omega),List.length_take,Nat.min_eq_left hl,Nat.add_sub_cancel_left,List.getElem?_append_left (by simpa using hj)]
   exact hv
  match j,ht,e with
  | 0,ht,e=>cases ht;exact ⟨p,e _ rfl,hx⟩
  | 1,ht,e=>cases ht;exact ⟨q,e _ rfl,hy⟩
  | n+2,ht,_=>cases ht
theorem mz {V:View}{p:OA}{t:Tr}{kb:Nat}(h:RT V p t)(hs:t.size<=400000)(hw:V.w.heap[kb]?=some (.cells #[.int .i64 0] 3 (0,0)))(hx:V.X kb) :
  ab prog 136 #[.pointer p,.func (.func 210) #[] #[.pointer (some ⟨kb,0,none⟩)]] V fun r V'=>r=.tuple #[]/\V'.w.heap[kb]?=some (.cells #[.int .i64 (t.size:Int)] 3 (0,0)):=by
 refine jW p kb 0 V _ hw hx ⟨fun z k V'=>∃ts:List Tr,z.1=ts.length/\z.1<=z.2.1/\z.2.1<=z.2.2.1.length/\Dk V' z.2.2.1 ts/\z.2.2.2+(yW ts:Int)=(t.size:Int)/\0<=z.2.2.2/\k=uF ts/\k<=2*t.size+1,
  ⟨(1,1,[.pointer p],0),2*t.size+1,⟨by (try dsimp only);and_intros<;>first|rfl|trivial|omega,[t],rfl,Nat.le_refl _,Nat.le_refl _,?_,by simp [yW],Int.le_refl _,by simp [uF],Nat.le_refl _⟩⟩,?_⟩
 ·intro i x hx
  match i,hx with
  | 0,hx=>cases hx;exact ⟨p,rfl,h⟩
  | n+1,hx=>cases hx
 ·rintro ⟨n,c,vs,k⟩ m V1 l1 ⟨ts,h1,h2,h3,hst,h4,h5,h6,h7⟩
  dsimp only at h1 h2 h3 hst h4 h5 ⊢
  have hnl:=Cc ts
  refine ⟨by trivial,fun g1=>?_,fun g1 V6 l6 e=>?_⟩
  ·have g1:0<n:=by simpa using g1
   have w1:i64.wrap ((n:Int)-1)=((n-1:Nat):Int):=by rw [aG (by omega)];omega
   rw [w1]
   simp only [Int.toNat_natCast,Nat.mul_one]
   have hlt:n-1<ts.length:=by omega
   obtain ⟨q,hq1,hq2⟩:=hst (n-1) ts[n-1] (List.getElem?_eq_getElem hlt)
   have hts:ts=ts.take (n-1)++[ts[n-1]]:=by
    rw [List.take_append_getElem hlt,List.take_of_length_le (by omega)]
   generalize ts[n-1]=x at hq2 hts
   have e1:yW ts=yW (ts.take (n-1))+x.size:=by
    conv=>lhs;rw [hts]
    rw [oZ];simp [yW]
   have e2:uF ts=uF (ts.take (n-1))+(2*x.size+1):=by
    conv=>lhs;rw [hts]
    rw [oD];simp [uF]
   refine ⟨⟨by omega,by omega⟩,h2,q,hq1,⟨by omega,by omega⟩,fun V2 l2 bk f1 f2=>(tV (V:=V2.aR [bk]) (RT.le (V:=V1) (V':=V2.aR _) (fun b o h=>l2 b o h) hq2) f1 ⟨by simp,f2⟩ h5 (by omega)).mono ?_⟩
   rintro r V3 l3 ⟨rfl,f3⟩
   refine ⟨rfl,_,f3,fun V4 l4=>?_⟩
   have dO:V1.Le V4:=fun b o h=>l4 b o (l3 b o (l2 b o h))
   refine (bB (hq2.le dO)).mono ?_
   rintro r V5 l5 rfl
   refine ⟨_,rfl,fun g2=>?_,fun g2=>?_⟩
   ·have g2:x.fS=false:=by simpa using g2
    cases x with
    | leaf i=>cases g2
    | node ln a b=>
     obtain ⟨bb,x1,x2,x3,y1,y2,y3,z1,z2,z3,pl,pr,i,rfl,hb,hl,ha,hbb⟩:=hq2
     have hb5:=(dO.trans l5) _ _ hb
     simp only [Tr.size] at e1 e2
     refine ⟨rfl,rfl,pr,tE hb5 10 rfl,rfl,rfl,pl,tE hb5 9 rfl,by omega,by omega,by omega,rfl,by intro v hv;simp at hv;rcases hv with rfl|rfl<;>rfl,fun sp c' k1 k2=>?_⟩
     refine ⟨(n-1+2,c',_,_),uF (ts.take (n-1))+(2*a.size+1)+(2*b.size+1),by omega,⟨by (try dsimp only);and_intros<;>first|rfl|trivial,ts.take (n-1)++[b,a],?_,k1,?_,(hst.le (dO.trans l5)).Cj (by omega) (by omega) (hbb.le (dO.trans l5)) (ha.le (dO.trans l5)),?_,?_,?_,by omega⟩⟩
     ·simp;omega
     ·dsimp only;simp only [List.length_append,List.length_take,List.length_cons,List.length_nil];omega
     ·rw [oZ];simp [yW,Tr.fS];omega
     ·simp [Tr.fS];omega
     ·rw [oD];simp [uF];omega
   ·have g2:x.fS=true:=by simpa using g2
    cases x with
    | node ln a b=>cases g2
    | leaf i=>
     simp only [Tr.size] at e1 e2
     refine ⟨(n-1,c,vs,_),uF (ts.take (n-1)),by omega,⟨by (try dsimp only);and_intros<;>first|rfl|trivial,ts.take (n-1),?_,by dsimp only;omega,h3,fun i t hi=>?_,?_,?_,rfl,by omega⟩⟩
     ·simp;omega
     ·rw [List.getElem?_take] at hi
      split at hi
      ·exact (hst.le (dO.trans l5)) i t hi
      ·cases hi
     ·simp [Tr.fS];omega
     ·simp [Tr.fS];omega
  ·have g1:n=0:=by simpa using g1
   refine ⟨rfl,?_⟩
   have:ts=[]:=List.length_eq_zero_iff.1 (by omega)
   subst this
   simp only [yW] at h4
   have:k=(t.size:Int):=by omega
   rw [←this]
   exact e
theorem vT {V:View}{p:OA}{t:Tr}(h:RT V p t)(hs:t.size<=400000):ab prog 176 #[.pointer p] V fun r V'=>r=.int .i64 (t.size:Int):=by
 refine qi p V _ fun V1 l1 bk g1 g2=>(mz (V:=V1.aR [bk]) (RT.le (V:=V) (V':=V1.aR _) (fun b o h=>l1 b o h) h) hs g1 ⟨by simp,g2⟩).mono ?_
 rintro r V2 l2 ⟨rfl,e⟩
 exact ⟨rfl,_,e,fun V3 l3=>rfl⟩
def AT (V:View)(v:Value)(root:Int)(l:List Nd):Prop:=∃q n c,v=.agg #[.int .i64 root,.slice q n c]/\NS V q n c l
theorem AT.le {V V':View}{v:Value}{root:Int}{l:List Nd}(h:AT V v root l)(hl:V.Le V'):AT V' v root l:=by
 obtain ⟨q,n,c,e,h⟩:=h;exact ⟨q,n,c,e,h.le hl⟩
theorem AT.zero {V:View}:AT V (.agg #[.int .i64 0,.slice none 0 0]) 0 []:=⟨_,_,_,rfl,NS.nil⟩
theorem pQ {V:View}{p:OA}{t:Tr}(h:RT V p t)(ha:t.kc Bd)(hs:t.size<=400000){y:Value}(hy:my V 1 y) :
  ab prog 134 #[.pointer p] V fun r V'=>∃v e,r=.tuple #[v,e]/\(if 65536<t.size then v=.agg #[.int .i64 0,.slice none 0 0]/\e=y else AT V' v (rt 0 t) (wr 0 t)/\e=.nilIface):=by
 refine lJ p V _ fun V1 l1=>(vT (h.le l1) hs).mono ?_
 rintro r V2 l2 rfl
 have zp:=l1.trans l2
 refine ⟨_,rfl,fun g=>⟨y,⟨_,rfl,hy.le zp⟩,fun V3 l3=>⟨_,_,rfl,?_⟩⟩,fun g V4 l4=>(qT (h.le (zp.trans l4)) ha (by omega)).mono ?_⟩
 ·have g:65536<t.size:=by simp at g;omega
  rw [if_pos g];exact ⟨rfl,rfl⟩
 ·have g:¬65536<t.size:=by simp at g;omega
  rintro r V5 l5 ⟨q,n,c,rfl,hns⟩
  refine ⟨_,_,_,_,rfl,fun V6 l6=>⟨_,_,rfl,?_⟩⟩
  rw [if_neg g]
  exact ⟨⟨_,_,_,rfl,hns.le l6⟩,rfl⟩
theorem vS:∀(t u:Tr) {V:View} {p q:OA},RT V p t->RT V q u->t.kc Bd->u.kc Bd->ab prog 93 #[.pointer p,.pointer q] V fun r V'=>r=.bool (decide (t=u)):=by
 intro t
 induction t with
 | leaf i=>
  intro u V p q hp hq _ _
  refine jy p q V _ fun V1 l1=>(bB (hp.le l1)).mono ?_
  rintro r V2 l2 rfl
  refine ⟨_,rfl,fun V3 l3=>(bB (hq.le (l1.trans (l2.trans l3)))).mono ?_⟩
  rintro r V4 l4 rfl
  refine ⟨_,rfl,fun g V5 l5=>?_,fun g V6 l6=>(bB (hp.le (l1.trans (l2.trans (l3.trans (l4.trans l6)))))).mono ?_⟩
  ·cases u with
   | leaf j=>cases g
   | node ln a b=>simp
  ·cases u with
   | node ln a b=>cases g
   | leaf j=>
    rintro r V7 l7 rfl
    have iy:=l1.trans (l2.trans (l3.trans (l4.trans (l6.trans l7))))
    obtain ⟨b,c0,c1,c2,c3,c4,c5,c6,c7,c8,r,rfl,hb⟩:=hp
    obtain ⟨b',d0,d1,d2,d3,d4,d5,d6,d7,d8,r',rfl,hb'⟩:=hq
    refine ⟨_,rfl,fun _=>⟨rfl,rfl,i,tE (iy _ _ hb) 11 rfl,rfl,rfl,j,tE (iy _ _ hb') 11 rfl,fun V8 l8=>?_⟩,(fun h=>by cases h)⟩
    cases i<;>cases j<;>simp
 | node ln x y zo ihy=>
  intro u V p q hp hq ha hu
  refine jy p q V _ fun V1 l1=>(bB (hp.le l1)).mono ?_
  rintro r V2 l2 rfl
  refine ⟨_,rfl,fun V3 l3=>(bB (hq.le (l1.trans (l2.trans l3)))).mono ?_⟩
  rintro r V4 l4 rfl
  refine ⟨_,rfl,fun g V5 l5=>?_,fun g V6 l6=>(bB (hp.le (l1.trans (l2.trans (l3.trans (l4.trans l6)))))).mono ?_⟩
  ·cases u with
   | node ln a b=>cases g
   | leaf j=>simp
  ·cases u with
   | leaf j=>cases g
   | node DT a b=>
    rintro r V7 l7 rfl
    have iy:=l1.trans (l2.trans (l3.trans (l4.trans (l6.trans l7))))
    obtain ⟨bb,x1,x2,x3,y1,y2,y3,z1,z2,z3,pl,pr,i,rfl,hb,hl,hx,hy⟩:=hp
    obtain ⟨bb',Kj,Kk,Kl,y1',y2',Kp,z1',z2',Kq,Kd,pr',i',rfl,hb',hl',hx',hy'⟩:=hq
    have Bx:∀(U:View),V.Le U->∀j v,([.int .i64 x1,.int .i64 x2,.pointer x3,.int .i64 y1,.int .i64 y2,.pointer y3,.int .i64 z1,.int .i64 z2,.pointer z3,.pointer pl,.pointer pr,.bool i]:List Value)[j]?=some v->U.at ((⟨bb,0,none⟩:Addr).add j) v:=by
     intro U hU j v hv;rw [add_zero'];exact bY (xs:=[_,_,_,_,_,_,_,_,_,_,_,_]) (hU _ _ hb) hv
    have at2:∀(U:View),V.Le U->∀j v,([.int .i64 Kj,.int .i64 Kk,.pointer Kl,.int .i64 y1',.int .i64 y2',.pointer Kp,.int .i64 z1',.int .i64 z2',.pointer Kq,.pointer Kd,.pointer pr',.bool i']:List Value)[j]?=some v->U.at ((⟨bb',0,none⟩:Addr).add j) v:=by
     intro U hU j v hv;rw [add_zero'];exact bY (xs:=[_,_,_,_,_,_,_,_,_,_,_,_]) (hU _ _ hb') hv
    obtain ⟨s1,s2,s3⟩:=ha.1.sz
    obtain ⟨t1,t2,t3⟩:=hu.1.sz
    refine ⟨_,rfl,(fun h=>by cases h),fun _=>⟨rfl,rfl,x1,x2,x3,y1,y2,y3,z1,z2,z3,⟨bb,0,none⟩,rfl,Bx V7 iy 0 _ rfl,Bx V7 iy 1 _ rfl,Bx V7 iy 2 _ rfl,Bx V7 iy 3 _ rfl,Bx V7 iy 4 _ rfl,Bx V7 iy 5 _ rfl,Bx V7 iy 6 _ rfl,Bx V7 iy 7 _ rfl,Bx V7 iy 8 _ rfl,
     rfl,rfl,Kj,Kk,Kl,y1',y2',Kp,z1',z2',Kq,⟨bb',0,none⟩,rfl,at2 V7 iy 0 _ rfl,at2 V7 iy 1 _ rfl,at2 V7 iy 2 _ rfl,at2 V7 iy 3 _ rfl,at2 V7 iy 4 _ rfl,at2 V7 iy 5 _ rfl,at2 V7 iy 6 _ rfl,at2 V7 iy 7 _ rfl,at2 V7 iy 8 _ rfl,
     fun V9 l9=>(tW (hl.le (iy.trans l9)) (hl'.le (iy.trans l9)) s1 s2 s3 t1 t2 t3 (by omega)).mono ?_⟩⟩
    rintro r jq l10 rfl
    have lq:=iy.trans (l9.trans l10)
    have hln:(((ln.1:Rat)=(DT.1:Rat))/\((ln.2.1:Rat)=(DT.2.1:Rat))/\((ln.2.2:Rat)=(DT.2.2:Rat)))↔ln=DT:=by
     rw [Rat.intCast_inj,Rat.intCast_inj,Rat.intCast_inj]
     obtain ⟨u1,u2,u3⟩:=ln
     obtain ⟨v1,v2,v3⟩:=DT
     simp
    refine ⟨_,rfl,fun g1=>⟨rfl,rfl,pl,tE (lq _ _ hb) 9 rfl,rfl,rfl,Kd,tE (lq _ _ hb') 9 rfl,fun pJ cA=>(zo a (hx.le (lq.trans cA)) (hx'.le (lq.trans cA)) ha.2.1 hu.2.1).mono ?_⟩,fun g1 pP ew=>?_⟩
    ·have g1:ln=DT:=hln.1 (by simpa using g1)
     rintro r nu dt rfl
     have sB:=lq.trans (cA.trans dt)
     refine ⟨_,rfl,fun g2=>⟨rfl,rfl,pr,tE (sB _ _ hb) 10 rfl,rfl,rfl,pr',tE (sB _ _ hb') 10 rfl,fun qH dJ=>(ihy b (hy.le (sB.trans dJ)) (hy'.le (sB.trans dJ)) ha.2.2 hu.2.2).mono ?_⟩,fun g2 rV dX=>?_⟩
     ·have g2:x=a:=by simpa using g2
      rintro r pK dO rfl
      refine ⟨_,rfl,fun pL fp=>?_⟩
      congr 1
      rw [Bool.eq_iff_iff,decide_eq_true_eq,decide_eq_true_eq,g1,g2]
      simp
     ·have g2:¬x=a:=by simpa using g2
      rw [decide_eq_false]
      intro e
      cases e
      exact g2 rfl
    ·have g1:¬ln=DT:=fun e=>by rw [decide_eq_true (hln.2 e)] at g1;cases g1
     rw [decide_eq_false]
     intro e
     cases e
     exact g1 rfl
def RW (V:View):OA->Tr->Prop
 | p,.leaf i=>∃(b:Nat)(c2 c3 c4 c5 c6 c7 c8 c9:Value),p=some ⟨b,0,none⟩/\V.bj b (.cells #[.bool true,.bool i,c2,c3,c4,c5,c6,c7,c8,c9] 64 (0,0))
 | p,.node l x y=>∃(b:Nat)(i:Bool)(b1:Bool)(p1:OA)(n1 c1:Nat)(b2:Bool)(p2:OA)(n2 c2:Nat)(b3:Bool)(p3:OA)(n3 c3:Nat)(pl pr:OA),p=some ⟨b,0,none⟩ /\
   V.bj b (.cells #[.bool false,.bool i,.bool b1,.slice p1 n1 c1,.bool b2,.slice p2 n2 c2,.bool b3,.slice p3 n3 c3,.pointer pl,.pointer pr] 64 (0,0)) /\
   RL V (.agg #[.bool b1,.slice p1 n1 c1,.bool b2,.slice p2 n2 c2,.bool b3,.slice p3 n3 c3]) l.1 l.2.1 l.2.2/\RW V pl x/\RW V pr y
theorem RW.le {V V':View}(h:V.Le V'):∀{t:Tr} {p:OA},RW V p t->RW V' p t
 | .leaf i,p,⟨b,c2,c3,c4,c5,c6,c7,c8,c9,e,hb⟩=>⟨b,c2,c3,c4,c5,c6,c7,c8,c9,e,h _ _ hb⟩
 | .node l x y,p,⟨b,i,b1,p1,n1,c1,b2,p2,n2,c2,b3,p3,n3,c3,pl,pr,e,hb,hl,hx,hy⟩=>⟨b,i,b1,p1,n1,c1,b2,p2,n2,c2,b3,p3,n3,c3,pl,pr,e,h _ _ hb,hl.le h,RW.le h hx,RW.le h hy⟩
def D7 (x:L3):Prop:=fV x=true/\Bd x
theorem sj {V:View}{v:Value}{x:L3}(h:zt V v x)(hb:Bd x) :
  ab prog 129 #[v] V fun r V'=>∃w,r=.tuple #[w,.bool (fV x)]/\GU w/\(fV x=true->RL V' w x.1 x.2.1 x.2.2):=by
 rcases h with h|⟨ho,b1,p,n,c,xs,b2,q,m,e',ys,b3,s,i,j,zs,rfl,h1,h2,h3,h4,⟨m1,m2,m3⟩,s1,s2,s3⟩
 ·obtain ⟨p,n,s,p',n',s',q,m,e,rfl,h1,h2,h3⟩:=h
  obtain ⟨d1,d2,d3⟩:=hb.ag
  have hc:=nL (V:=V) (b1:=decide (x.1<0)) (b2:=decide (x.2.1<0)) (b3:=decide (x.2.2<0)) ⟨p,n,s,p',n',s',q,m,e,rfl,h1,h2,h3⟩ (by omega) (by omega) (by omega)
  rw [oH,aL,aL,aL] at hc
  exact hc
 ·refine (nL ⟨p,n,c,q,m,e',s,i,j,rfl,h1,h2,h3⟩ m1 m2 m3).mono ?_
  rintro r V2 l2 ⟨w,rfl,g1,g2⟩
  rw [h4] at g2 ⊢
  rw [ho]
  exact ⟨w,rfl,g1,fun h=>by cases h⟩
theorem sn {l:List Nd}(hb:∀x∈l,Bd x.ln)(hlen:l.length<=65536)(t0:Int){Bt:OA}{nc:Nat}:∀(f:Nat) (n:Int) (s:List Bool) {V:View} {lb:Nat},NS V Bt l.length nc l ->
  V.w.heap[lb]?=some (.cells (dm s).toArray 4 (0,0))->V.X lb->s.length=l.length->s.count false<f ->
  ab prog 83 #[.agg #[.int .i64 t0,.slice Bt l.length nc],.int .i64 n,.slice (some ⟨lb,0,none⟩) l.length l.length] V fun r V'=>∃p,r=.tuple #[.pointer p,.bool (iC l f n s).1.isSome]/\(∀t,(iC l f n s).1=some t->RW V' p t) /\
   V'.w.heap[lb]?=some (.cells (dm (iC l f n s).2).toArray 4 (0,0)):=by
 intro f
 induction f with
 | zero=>intro n s V lb _ _ _ _ h;omega
 | succ f ih=>
  intro n s V lb hns hw hx hsl hcf
  refine qA t0 Bt l.length nc n lb l.length l.length (dm s) V _ hw hx ⟨fun h0 V1 l1 bk e1 hbk=>?_,fun h0=>⟨fun h1 V2 l2 bk e1 hbk=>?_,fun h1=>⟨fun h2 V3 l3 e1=>?_,fun h2=>⟨fun h3 V4 l4 e1=>?_,fun h3=>?_⟩⟩⟩⟩
  ·have e0:n=-2:=by simpa using h0
   have e:iC l (f+1) n s=(some (.leaf true),s):=by simp [iC,e0]
   rw [h0] at hbk
   rw [e]
   exact ⟨_,rfl,fun t ht=>by cases ht;exact ⟨bk,_,_,_,_,_,_,_,_,rfl,hbk⟩,e1⟩
  ·have n0:¬n=-2:=by simpa using h0
   have e0:n=-1:=by simpa using h1
   have e:iC l (f+1) n s=(some (.leaf false),s):=by simp [iC,e0]
   rw [h0] at hbk
   rw [e]
   exact ⟨_,rfl,fun t ht=>by cases ht;exact ⟨bk,_,_,_,_,_,_,_,_,rfl,hbk⟩,e1⟩
  ·have n0:¬n=-2:=by simpa using h0
   have n1:¬n=-1:=by simpa using h1
   have n2:n<0:=by simpa using h2
   have e:iC l (f+1) n s=(none,s):=by simp [iC,n0,n1,n2]
   rw [e]
   exact ⟨_,rfl,(fun t ht=>by cases ht),e1⟩
  ·have n0:¬n=-2:=by simpa using h0
   have n1:¬n=-1:=by simpa using h1
   have n2:¬n<0:=by simpa using h2
   have n3:(l.length:Int)<=n:=by simpa using h3
   have e:iC l (f+1) n s=(none,s):=by
    simp only [iC,n0,n1,n2,if_false]
    rw [List.getElem?_eq_none (by omega)]
   rw [e]
   exact ⟨_,rfl,(fun t ht=>by cases ht),e1⟩
  ·have n0:¬n=-2:=by simpa using h0
   have n1:¬n=-1:=by simpa using h1
   have n2:¬n<0:=by simpa using h2
   have n3:n<(l.length:Int):=by simpa using h3
   clear h0 h1 h2 h3
   obtain ⟨k,rfl⟩:=Int.eq_ofNat_of_zero_le (Int.not_lt.1 n2)
   have hk:k<l.length:=by omega
   have hks:k<s.length:=by omega
   simp only [Int.toNat_natCast,Nat.mul_one,Nat.zero_add]
   have hsk:s[k]?=some s[k]:=List.getElem?_eq_getElem hks
   have hlk:l[k]?=some l[k]:=List.getElem?_eq_getElem hk
   refine ⟨⟨by omega,n3⟩,s[k],kX hsk,fun h4 V5 l5 e1=>?_,fun h4=>?_⟩
   ·have e:iC l (f+1) (k:Int) s=(none,s):=by
     simp only [iC,n0,n1,n2,if_false,Int.toNat_natCast]
     rw [hsk,h4,hlk]
    rw [e]
    exact ⟨_,rfl,(fun t ht=>by cases ht),e1⟩
   obtain ⟨b1,p1,m1,c1,b2,p2,m2,c2,b3,p3,m3,c3,a,ha,a0,a1,a2,a3,a4,a5,a6,a7,hL⟩:=hns.rd hlk
   rw [ha]
   rw [h4] at hsk
   have hset:(dm s).set k (.bool true)=dm (s.set k true):=by simp [dm,List.map_set]
   have hcount:=count_set hsk
   rw [hset]
   refine ⟨⟨by omega,n3⟩,by simp [dm];omega,hns.Af (by omega),⟨by omega,n3⟩,rfl,b1,p1,m1,c1,b2,p2,m2,c2,b3,p3,m3,c3,a,rfl,a0,a1,a2,a3,a4,a5,fun V6 l6=>(sj (hL.le l6) (hb _ (List.getElem_mem hk))).mono ?_⟩
   rintro r V7 l7 ⟨w,rfl,⟨y1,y2,y3,y4,y5,y6,y7,y8,y9,MW,MX,MY,rfl⟩,hw'⟩
   have iy:=l6.trans l7
   refine ⟨_,_,_,_,_,_,_,_,_,_,_,_,_,rfl,fun h5 V8 l8 e1=>?_,fun h5=>⟨hns.Af (by omega),⟨by omega,n3⟩,rfl,l[k].left,⟨_,rfl,iy.at a6⟩,fun V9 l9 bk g1 g2=>?_⟩⟩
   ·have h5:fV l[k].ln=false:=by simpa using h5
    have e:iC l (f+1) (k:Int) s=(none,s.set k true):=by
     simp only [iC,n0,n1,n2,if_false,Int.toNat_natCast]
     rw [hsk,hlk]
     simp [h5]
    rw [e]
    exact ⟨_,rfl,(fun t ht=>by cases ht),e1⟩
   have h5:fV l[k].ln=true:=by simpa using h5
   have CW:=iy.trans l9
   have i1:=ih l[k].left (s.set k true) (V:=V9.aR [bk]) (hns.le CW) g1 ⟨by simp,g2⟩ (by simp [hsl]) (by omega)
   have q1:=nk l f l[k].left (s.set k true)
   rw [List.length_set] at q1
   have e:iC l (f+1) (k:Int) s=match iC l f l[k].left (s.set k true) with
     | (none,s1)=>(none,s1)
     | (some a,s1)=>match iC l f l[k].right s1 with
      | (none,s2)=>(none,s2)
      | (some b,s2)=>(some (.node l[k].ln a b),s2):=by
    simp only [iC,n0,n1,n2,if_false,Int.toNat_natCast]
    rw [hsk,hlk]
    simp only [h5,if_true]
    try rfl
   rw [e]
   clear e
   generalize iC l f l[k].left (s.set k true)=u at *
   obtain ⟨u1,u2⟩:=u
   dsimp only at i1 q1
   refine i1.mono ?_
   rintro r jq l10 ⟨pa,rfl,hpa,e2⟩
   refine ⟨_,_,rfl,_,e2,fun h6 pJ cA e3=>?_,fun h6=>⟨hns.Af (by omega),⟨by omega,n3⟩,rfl,l[k].right,⟨_,rfl,?_⟩,fun nu dt K5 g3 g4=>?_⟩⟩
   ·cases u1 with
    | none=>exact ⟨_,rfl,(fun t ht=>by cases ht),e3⟩
    | some t=>cases h6
   ·have B5:V9.Le jq:=fun b o h=>l10 b o h
    exact (CW.trans B5).at a7
   cases u1 with
   | none=>cases h6
   | some ta=>
    have B5:V9.Le jq:=fun b o h=>l10 b o h
    have Ah:jq.Le nu:=fun b o h=>dt b o h
    have i2:=ih l[k].right u2 (V:=nu.aR [K5]) (hns.le (CW.trans (B5.trans Ah))) g3 ⟨by simp,g4⟩ (by omega) (by omega)
    dsimp only
    generalize iC l f l[k].right u2=z at *
    obtain ⟨z1,z2⟩:=z
    dsimp only at i2
    refine i2.mono ?_
    rintro r qH dJ ⟨pb,rfl,hpb,e4⟩
    have CZ:nu.Le qH:=fun b o h=>dJ b o h
    refine ⟨_,_,rfl,_,e4,fun pK dO bk2 e5 hbk=>?_⟩
    have Aj:qH.Le pK:=fun b o h=>dO b o h
    cases z1 with
    | none=>exact ⟨_,rfl,(fun t ht=>by cases ht),e5⟩
    | some tb=>
     refine ⟨_,rfl,fun t ht=>?_,e5⟩
     cases ht
     exact ⟨bk2,_,_,_,_,_,_,_,_,_,_,_,_,_,_,_,rfl,hbk,(hw' h5).le (l9.trans (B5.trans (Ah.trans (CZ.trans Aj)))),RW.le (Ah.trans (CZ.trans Aj)) (hpa _ rfl),RW.le Aj (hpb _ rfl)⟩
theorem sk {V:View}{l:List Nd}(hb:∀x∈l,Bd x.ln)(root:Int){p:OA}{n c:Nat}(h:NS V p n c l) :
  ab prog 30 #[.agg #[.int .i64 root,.slice p n c]] V fun r V'=>∃q,r=.tuple #[.pointer q,.bool (dv l root).isSome]/\∀t,dv l root=some t->RW V' q t:=by
 have hl:=h.len
 subst hl
 refine qw root p l.length c V _ ⟨fun h0 V1 l1=>?_,fun h0=>⟨by omega,Int.le_refl _,?_,fun V2 l2 bk g1 g2=>?_⟩⟩
 ·have h0:65536<l.length:=by simp at h0;omega
  have e:dv l root=none:=by unfold dv;rw [if_pos h0]
  rw [e]
  exact ⟨_,rfl,fun t ht=>by cases ht⟩
 ·have h0:¬65536<l.length:=by simp at h0;omega
  omega
 ·have h0:¬65536<l.length:=by simp at h0;omega
  rw [Int.toNat_natCast] at g1 ⊢
  have hr:List.replicate l.length (Value.bool false)=dm (List.replicate l.length false):=by simp [dm]
  rw [hr] at g1
  have i1:=sn hb (by omega) root (l.length+1) root (List.replicate l.length false) (V:=V2.aR [bk]) (h.le l2) g1 ⟨by simp,g2⟩ (by simp) (by simp)
  have q1:=(nk l (l.length+1) root (List.replicate l.length false)).1
  rw [A2 (by omega)]
  rw [List.length_replicate] at q1
  generalize iC l (l.length+1) root (List.replicate l.length false)=u at *
  obtain ⟨u1,u2⟩:=u
  dsimp only at i1 q1 ⊢
  refine i1.mono ?_
  rintro r V3 l3 ⟨pa,rfl,hpa,e2⟩
  refine ⟨_,_,rfl,_,e2,fun z _=>∃i:Nat,z.2=(i:Int)/\i<=l.length/\z.1=(u1.isSome&&(u2.take i).all id),fun z=>(l.length-z.2).toNat,⟨(_,0),by and_intros<;>first|rfl|trivial,0,rfl,Nat.zero_le _,by cases u1<;>simp⟩,?_⟩
  rintro ⟨zb,z⟩ V4 l4 ⟨i,e,hi,f1⟩
  dsimp only at e f1 ⊢
  subst e f1
  refine ⟨by trivial,fun hlt=>?_,fun hlt V5 l5=>?_⟩
  ·have hlt:i<l.length:=by have:=of_decide_eq_true hlt;omega
   have w1:i64.wrap ((i:Int)+1)=((i+1:Nat):Int):=by rw [aG (by omega)];rfl
   have hu:u2[i]?=some u2[i]:=List.getElem?_eq_getElem (by omega)
   have et:(u2.take (i+1)).all id=((u2.take i).all id&&u2[i]):=by
    rw [←List.take_append_getElem (show i<u2.length by omega),List.all_append];simp
   rw [w1,Int.toNat_natCast,Nat.mul_one,Nat.zero_add]
   refine ⟨⟨by omega,by omega⟩,u2[i],kX hu,fun k=>⟨(_,((i+1:Nat):Int)),by dsimp only;omega,by and_intros<;>first|rfl|trivial,i+1,rfl,hlt,?_⟩,fun k=>⟨(_,((i+1:Nat):Int)),by dsimp only;omega,by and_intros<;>first|rfl|trivial,i+1,rfl,hlt,?_⟩⟩
   ·rw [et,←Bool.and_assoc,k];rfl
   ·rw [et,←Bool.and_assoc,k];rfl
  ·have hlt:i=l.length:=by have:=of_decide_eq_false hlt;omega
   subst hlt
   rw [List.take_of_length_le (by omega)]
   have LK:V3.Le V5:=fun b o h=>l5 b o (l4 b o h)
   by_cases c:u2.all id=true
   ·rw [if_pos c,c,Bool.and_true]
    exact ⟨_,rfl,fun t ht=>RW.le LK (hpa t ht)⟩
   ·rw [if_neg c]
    have c:u2.all id=false:=by simpa using c
    rw [c,Bool.and_false]
    exact ⟨_,rfl,fun t ht=>by cases ht⟩
theorem row_one {α:Type}{sz:Nat}{R:View->Value->α->Prop}{V:View}{xs:List Value}{a:α}(hx:xs.length=sz)(ha:R V (.agg xs.toArray) a):Row sz R V xs [a]:=by
 refine ⟨fun i hi=>?_⟩
 obtain rfl:i=0:=by simpa using hi
 exact ⟨xs,hx,ha,fun j x hj=>by rw [Nat.zero_mul,Nat.zero_add];exact hj⟩
theorem yG {α:Type}{sz:Nat}{R:View->Value->α->Prop}{V:View}{p:OA}{n:Nat}{ls:List α}(h:zh sz R V p n ls)(hs:0<sz):∃xs:List Value,V.sl p xs/\xs.length=ls.length*sz/\Row sz R V xs ls:=by
 have step:∀k,k<=ls.length->∃xs:List Value,V.sl p xs/\xs.length=k*sz/\Row sz R V xs (ls.take k):=by
  intro k
  induction k with
  | zero=>exact fun _=>⟨[],fun i v hv=>by simp at hv,by simp,by rw [List.take_zero];exact Row.nil⟩
  | succ k ih=>
   intro hk
   obtain ⟨xs,x1,x2,x3⟩:=ih (by omega)
   obtain ⟨ad,ha,ys,y1,y2,y3⟩:=h.at_ k (by omega)
   have hl:(ls.take k).length=k:=by rw [List.length_take];omega
   refine ⟨xs++ys,fun i v hv=>?_,by rw [List.length_append,x2,y1,Nat.succ_mul],?_⟩
   ·by_cases c:i<xs.length
    ·rw [List.getElem?_append_left c] at hv;exact x1 i v hv
    ·rw [List.getElem?_append_right (by omega)] at hv
     cases p with
     | none=>cases ha
     | some a=>
      obtain rfl:=Option.some.inj (show some (a.add (k*sz))=some ad from ha)
      have:=y3 _ v hv
      rw [zw,x2] at this
      rw [show k*sz+(i-k*sz)=i by omega] at this
      exact ⟨a,rfl,this⟩
   ·have:=x3.snoc (sp:=[]) y1 y2 hs
    rw [hl,List.append_nil,List.take_of_length_le (by omega)] at this
    rw [List.take_add_one,List.getElem?_eq_getElem (by omega)]
    exact this
 obtain ⟨xs,x1,x2,x3⟩:=step ls.length (Nat.le_refl _)
 rw [List.take_length] at x3
 exact ⟨xs,x1,x2,x3⟩
structure Rn where
 b1:Bool
 xs:List Nat
 b2:Bool
 ys:List Nat
 b3:Bool
 zs:List Nat
 left:Int
 right:Int
def xX (V:View)(v:Value)(r:Rn):Prop:=∃p1 n1 c1 p2 n2 c2 p3 n3 c3,v=.agg #[.bool r.b1,.slice p1 n1 c1,.bool r.b2,.slice p2 n2 c2,.bool r.b3,.slice p3 n3 c3,.int .i64 r.left,.int .i64 r.right] /\
 RD V p1 n1 c1 r.xs/\RD V p2 n2 c2 r.ys/\RD V p3 n3 c3 r.zs
theorem xX.le {V V':View}{v:Value}{r:Rn}(h:xX V v r)(l:V.Le V'):xX V' v r:=by
 obtain ⟨_,_,_,_,_,_,_,_,_,e,h1,h2,h3⟩:=h
 exact ⟨_,_,_,_,_,_,_,_,_,e,h1.le l,h2.le l,h3.le l⟩
def Rn.short (r:Rn):Prop:=r.xs.length<=3/\r.ys.length<=3/\r.zs.length<=3
def Rn.nd (r:Rn):Nd:=⟨if fC r.b1 r.xs r.b2 r.ys r.b3 r.zs then xH r.b1 r.xs r.b2 r.ys r.b3 r.zs else (0,0,0),r.left,r.right⟩
theorem ji {b:Bool}{xs:List Nat}(hd:bz xs)(h:xs.length<=3):(au b xs).natAbs<2^96:=by
 have h1:=dj hd
 have h2:4294967296^xs.length<=4294967296^3:=Nat.pow_le_pow_right (by omega) (by omega)
 have h4:4294967296^3=2^96:=by decide
 have h3:(au b xs).natAbs=val xs:=by unfold au;split<;>simp
 omega
theorem Ck {a b:Nat}(h:a<=b):2^a<=2^b:=Nat.pow_le_pow_right (by omega) h
theorem Rn.bd {V:View}{v:Value}{r:Rn}(h:xX V v r)(hs:r.short):Bd r.nd.ln:=by
 obtain ⟨_,_,_,_,_,_,_,_,_,e,h1,h2,h3⟩:=h
 have le:=Ck (a:=96) (b:=1000) (by omega)
 have a1:=ji (b:=r.b1) h1.cx hs.1
 have a2:=ji (b:=r.b2) h2.cx hs.2.1
 have a3:=ji (b:=r.b3) h3.cx hs.2.2
 have z:=Nat.two_pow_pos 1000
 unfold Rn.nd Bd
 dsimp only
 split
 ·unfold xH;dsimp only;exact ⟨Nat.lt_of_lt_of_le a1 le,Nat.lt_of_lt_of_le a2 le,Nat.lt_of_lt_of_le a3 le⟩
 ·exact ⟨z,z,z⟩
theorem F6 {V:View}{b1:Bool}{p1:OA}{n1 c1:Nat}{xs:List Nat}{b2:Bool}{p2:OA}{n2 c2:Nat}{ys:List Nat}{b3:Bool}{p3:OA}{n3 c3:Nat}{zs:List Nat}(ho:fC b1 xs b2 ys b3 zs=true)(h1:RD V p1 n1 c1 xs)(h2:RD V p2 n2 c2 ys)(h3:RD V p3 n3 c3 zs) :
  RL V (.agg #[.bool b1,.slice p1 n1 c1,.bool b2,.slice p2 n2 c2,.bool b3,.slice p3 n3 c3]) (xH b1 xs b2 ys b3 zs).1 (xH b1 xs b2 ys b3 zs).2.1 (xH b1 xs b2 ys b3 zs).2.2:=by
 rw [iM] at ho
 simp only [Bool.and_eq_true] at ho
 obtain ⟨⟨⟨o1,o2⟩,o3⟩,-⟩:=ho
 obtain ⟨e1,f1⟩:=sF o1
 obtain ⟨e2,f2⟩:=sF o2
 obtain ⟨e3,f3⟩:=sF o3
 unfold xH
 dsimp only
 refine ⟨p1,n1,c1,p2,n2,c2,p3,n3,c3,?_,by rw [←f1];exact h1,by rw [←f2];exact h2,by rw [←f3];exact h3⟩
 rw [←e1,←e2,←e3]
theorem Rn.Me {V:View}{v:Value}{r:Rn}(h:xX V v r)(hs:r.short){c:Fin 8->Value}(hv:v=.agg #[c 0,c 1,c 2,c 3,c 4,c 5,c 6,c 7]):zt V (.agg #[c 0,c 1,c 2,c 3,c 4,c 5]) r.nd.ln/\c 6=.int .i64 r.left/\c 7=.int .i64 r.right:=by
 obtain ⟨p1,n1,c1,p2,n2,c2,p3,n3,c3,e,h1,h2,h3⟩:=h
 have a1:=ji (b:=r.b1) h1.cx hs.1
 have a2:=ji (b:=r.b2) h2.cx hs.2.1
 have a3:=ji (b:=r.b3) h3.cx hs.2.2
 rw [hv] at e
 have e:=congrArg Array.toList (Value.agg.inj e)
 simp only [List.cons.injEq,and_true] at e
 obtain ⟨e0,e1,e2,e3,e4,e5,e6,e7⟩:=e
 refine ⟨?_,e6,e7⟩
 rw [e0,e1,e2,e3,e4,e5]
 unfold Rn.nd
 dsimp only
 cases ho:fC r.b1 r.xs r.b2 r.ys r.b3 r.zs
 ·rw [if_neg (by decide)]
  refine .inr ⟨by decide,_,_,_,_,_,_,_,_,_,_,_,_,_,_,_,rfl,h1,h2,h3,ho,⟨by have:=hs.1;omega,by have:=hs.2.1;omega,by have:=hs.2.2;omega⟩,(lF a1 (by omega)).mono (by omega),(lF a2 (by omega)).mono (by omega),(lF a3 (by omega)).mono (by omega)⟩
 ·rw [if_pos rfl]
  exact .inl (F6 ho h1 h2 h3)
theorem NS.DV {V:View}{p:OA}{n c:Nat}{rs:List Rn}(h:zh 8 xX V p n rs)(hs:∀r∈rs,r.short)(hc:n<=c)(hn:p.isNone=true->c=0):NS V p n c (rs.map Rn.nd)/\∀x∈rs.map Rn.nd,Bd x.ln:=by
 have hl:=h.len
 constructor
 ·obtain ⟨vs,v1,-,v3⟩:=yG h (by decide)
  refine ⟨by rw [List.length_map];exact hl,hc,⟨vs,v1,fun i d hd=>?_⟩,hn⟩
  rw [List.getElem?_map] at hd
  cases hr:rs[i]? with
  | none=>rw [hr] at hd;cases hd
  | some r=>
   rw [hr] at hd
   cases hd
   obtain ⟨hi,e⟩:=List.getElem?_eq_some_iff.1 hr
   obtain ⟨xs,x1,x2,x3⟩:=v3.at_ i hi
   rw [e] at x2
   have x20:=x2
   obtain ⟨p1,n1,c1,p2,n2,c2,p3,n3,c3,ex,-⟩:=x2
   have ex:=congrArg Array.toList (Value.agg.inj ex)
   dsimp only at ex
   subst ex
   have hq:=(Rn.Me x20 (hs r (List.mem_of_getElem? hr)) (c:=fun k=>([.bool r.b1,.slice p1 n1 c1,.bool r.b2,.slice p2 n2 c2,.bool r.b3,.slice p3 n3 c3,.int .i64 r.left,.int .i64 r.right]:List Value).getD k.1 .nilIface) rfl).1
   exact ⟨_,_,_,_,_,_,_,_,_,_,_,_,fun j v hj=>x3 j v hj,hq⟩
 ·intro x hx
  obtain ⟨r,hr,rfl⟩:=List.mem_map.1 hx
  obtain ⟨i,hi,rfl⟩:=List.mem_iff_getElem.1 hr
  obtain ⟨ad,-,xs,-,h2,-⟩:=h.at_ i hi
  exact Rn.bd h2 (hs _ hr)
theorem F7 {V:View}{p:OA}{n:Nat}{rs:List Rn}(h:zh 8 xX V p n rs){i:Nat}(hi:i<rs.length) :
  p.isSome=true/\∃p1 n1 c1 p2 n2 c2 p3 n3 c3 a,af p (i*8)=some a/\V.at (a.add 0) (.bool rs[i].b1)/\V.at (a.add 1) (.slice p1 n1 c1)/\V.at (a.add 2) (.bool rs[i].b2)/\V.at (a.add 3) (.slice p2 n2 c2)/\V.at (a.add 4) (.bool rs[i].b3)/\V.at (a.add 5) (.slice p3 n3 c3)/\V.at (a.add 6) (.int .i64 rs[i].left)/\V.at (a.add 7) (.int .i64 rs[i].right) /\
   n1=rs[i].xs.length/\n2=rs[i].ys.length/\n3=rs[i].zs.length:=by
 obtain ⟨ad,h0,xs,h1,h2,h3⟩:=h.at_ i hi
 obtain ⟨p1,n1,c1,p2,n2,c2,p3,n3,c3,e,d1,d2,d3⟩:=h2
 have e:=congrArg Array.toList (Value.agg.inj e)
 dsimp only at e
 subst e
 refine ⟨?_,p1,n1,c1,p2,n2,c2,p3,n3,c3,ad,h0,h3 0 _ rfl,h3 1 _ rfl,h3 2 _ rfl,h3 3 _ rfl,h3 4 _ rfl,h3 5 _ rfl,h3 6 _ rfl,h3 7 _ rfl,d1.len,d2.len,d3.len⟩
 cases p with
 | none=>cases h0
 | some a=>rfl
end Go.Proofs.Tryz
namespace Go.Proofs.YthpmdmkmfoaamaaGreatDoor
open Go.ChangeShapes Go.WideShapes Go.ChangeAt Go.RowKit Go.bh Go.dN Go.Proofs.Tryz
section
variable {H:Type} {enc:TypeId × Value->H} {W:World} {fuel:Nat}
theorem Cu {α:Type}{xs:List α}{i:Nat}{o:Option α}(h:o=xs[i]?)(hi:i<xs.length):∃y,o=some y:=⟨xs[i],by rw [h,List.getElem?_eq_getElem hi]⟩
theorem cX {H:Type}{enc:TypeId×Value->H}{W:World}{fs:Array Field}{cs:List Value}{xs:List (DataW H×List MemPlace)}{m:Nat}(hf:∀(i:Nat)(f:Field),fs[i]?=some f->DataW.trod enc Tryz.prog W 0 (fun _=>true) true m f.type ((cs.drop f.offset).take (Tryz.prog.cellsOf f.type))=xs[i]?)(hl:xs.length=fs.size)(i:Nat){f:Field}(hi:fs[i]?=some f){n:Nat}(hn:Tryz.prog.cellsOf f.type=n) :
  ∃y,DataW.trod enc Tryz.prog W 0 (fun _=>true) true m f.type ((cs.drop f.offset).take n)=some y:=by
 have:=hf i f hi
 rw [hn] at this
 have lt:i<xs.length:=by
  rw [hl]
  exact (Array.getElem?_eq_some_iff.1 hi).1
 exact Cu this lt
set_option maxRecDepth 100000 in
theorem Bz {c:Value}{y:DataW H×List MemPlace}(h:DataW.trod enc Tryz.prog W 0 (fun _=>true) true fuel 4 [c]=some y):∃b,c=.bool b:=by
 obtain ⟨b,e,-⟩:=DataW.trod_bool Tryz.underlying4 h
 exact ⟨b,by simpa using e⟩
set_option maxRecDepth 100000 in
theorem DU {c:Value}{y:DataW H×List MemPlace}(h:DataW.trod enc Tryz.prog W 0 (fun _=>true) true fuel 44 [c]=some y):∃p n k ds,c=.slice p n k/\RD (View.all W) p n k ds:=by
 rcases open_ints Tryz.underlying44 Tryz.underlying186 (show Tryz.prog.cellsOf 186=1 by kernel_rfl) h with ⟨e,-⟩|⟨a,len,cap,zs,e,_,hl,-,hz,-,hcell,hwf⟩
 ·exact ⟨none,0,0,[],by simpa using e,RD.nil⟩
 ·simp only [if_true] at hz
  have hd:∀z∈zs,0<=z/\z<4294967296:=fun z hm=>by
   have:=hwf z hm
   simp only [Lit.wf,Bool.and_eq_true,decide_eq_true_eq] at this
   have h1:IntKind.min .u32=0:=by decide
   have h2:IntKind.max .u32=4294967295:=by decide
   rw [h1,h2] at this
   exact ⟨this.1,by omega⟩
  refine ⟨some a,len,cap,(zs.take len).map Int.toNat,by simpa using e,?_,hl,?_,?_,(fun h=>nomatch h)⟩
  ·simp;omega
  ·intro i v hv
   simp only [aA,List.map_map,List.getElem?_map,Option.map_eq_some_iff] at hv
   obtain ⟨z,hz1,rfl⟩:=hv
   rw [List.getElem?_take] at hz1
   split at hz1
   ·rename_i hi
    have hi':i<zs.length:=by omega
    rw [List.getElem?_eq_getElem hi'] at hz1
    have hz1:=Option.some.inj hz1
    have:=hcell i hi'
    rw [List.getD_eq_getElem?_getD,List.getElem?_eq_getElem hi'] at this
    simp only [Option.getD_some] at this
    have hm:=hd _ (List.getElem_mem hi')
    refine ⟨a,rfl,fun h=>h,?_⟩
    show W.cell? (a.add i)=_
    rw [this,hz1]
    have:((z.toNat:Nat):Int)=z:=Int.toNat_of_nonneg (hz1▸hm.1)
    simp only [Function.comp]
    rw [this]
   ·cases hz1
  ·intro d hm
   simp only [List.mem_map] at hm
   obtain ⟨z,hz1,rfl⟩:=hm
   have:=hd z (List.mem_of_mem_take hz1)
   omega
set_option maxRecDepth 100000 in
theorem wv {c0 c1:Value}{y:DataW H×List MemPlace}(h:DataW.trod enc Tryz.prog W 0 (fun _=>true) true fuel 46 [c0,c1]=some y):∃b p n k ds,c0=.bool b/\c1=.slice p n k/\RD (View.all W) p n k ds:=by
 obtain ⟨xs,m,-,-,-,hl,hf⟩:=DataW.trod_struct Tryz.underlying46 h
 obtain ⟨y0,h0⟩:=cX hf hl 0 rfl (show Tryz.prog.cellsOf 4=1 by kernel_rfl)
 obtain ⟨y1,h1⟩:=cX hf hl 1 rfl (show Tryz.prog.cellsOf 44=1 by kernel_rfl)
 obtain ⟨b,rfl⟩:=Bz h0
 obtain ⟨p,n,k,ds,rfl,hd⟩:=DU h1
 exact ⟨b,p,n,k,ds,rfl,rfl,hd⟩
set_option maxRecDepth 100000 in
theorem B_ {c0 c1 c2 c3 c4 c5:Value}{y:DataW H×List MemPlace}(h:DataW.trod enc Tryz.prog W 0 (fun _=>true) true fuel 74 [c0,c1,c2,c3,c4,c5]=some y):∃b1 xs b2 ys b3 zs,D9 (View.all W) (.agg #[c0,c1,c2,c3,c4,c5]) b1 xs b2 ys b3 zs/\∃p n k p' n' k' p2 n2 k2,c0=.bool b1/\c1=.slice p n k/\c2=.bool b2/\c3=.slice p' n' k'/\c4=.bool b3/\c5=.slice p2 n2 k2:=by
 obtain ⟨xs,m,-,-,-,hl,hf⟩:=DataW.trod_struct Tryz.underlying74 h
 obtain ⟨y0,h0⟩:=cX hf hl 0 rfl (show Tryz.prog.cellsOf 46=2 by kernel_rfl)
 obtain ⟨y1,h1⟩:=cX hf hl 1 rfl (show Tryz.prog.cellsOf 46=2 by kernel_rfl)
 obtain ⟨y2,h2⟩:=cX hf hl 2 rfl (show Tryz.prog.cellsOf 46=2 by kernel_rfl)
 obtain ⟨b1,p1,n1,k1,d1,rfl,rfl,g1⟩:=wv h0
 obtain ⟨b2,p2,n2,k2,d2,rfl,rfl,g2⟩:=wv h1
 obtain ⟨b3,p3,n3,k3,d3,rfl,rfl,g3⟩:=wv h2
 exact ⟨b1,d1,b2,d2,b3,d3,⟨_,_,_,_,_,_,_,_,_,rfl,g1,g2,g3⟩,_,_,_,_,_,_,_,_,_,rfl,rfl,rfl,rfl,rfl,rfl⟩
set_option maxRecDepth 100000 in
theorem wq {c:Value}{y:DataW H×List MemPlace}(h:DataW.trod enc Tryz.prog W 0 (fun _=>true) true fuel 3 [c]=some y):∃z,c=.int .i64 z:=by
 obtain ⟨z,e,-⟩:=DataW.trod_int Tryz.underlying3 h
 exact ⟨z,by simpa using e⟩
set_option maxRecDepth 100000 in
theorem Cd {c0 c1 c2 c3 c4 c5 c6 c7:Value}{y:DataW H×List MemPlace}(h:DataW.trod enc Tryz.prog W 0 (fun _=>true) true fuel 76 [c0,c1,c2,c3,c4,c5,c6,c7]=some y):∃r:Rn,xX (View.all W) (.agg #[c0,c1,c2,c3,c4,c5,c6,c7]) r:=by
 obtain ⟨us,m,-,-,-,hl,hf⟩:=DataW.trod_struct Tryz.underlying76 h
 obtain ⟨y0,h0⟩:=cX hf hl 0 rfl (show Tryz.prog.cellsOf 74=6 by kernel_rfl)
 obtain ⟨y1,h1⟩:=cX hf hl 1 rfl (show Tryz.prog.cellsOf 3=1 by kernel_rfl)
 obtain ⟨y2,h2⟩:=cX hf hl 2 rfl (show Tryz.prog.cellsOf 3=1 by kernel_rfl)
 obtain ⟨b1,xs,b2,ys,b3,zs,g,-⟩:=B_ h0
 obtain ⟨z1,rfl⟩:=wq h1
 obtain ⟨z2,rfl⟩:=wq h2
 obtain ⟨p1,n1,k1,p2,n2,k2,p3,n3,k3,e,g1,g2,g3⟩:=g
 have e:=congrArg Array.toList (Value.agg.inj e)
 simp only [List.cons.injEq,and_true] at e
 obtain ⟨rfl,rfl,rfl,rfl,rfl,rfl⟩:=e
 exact ⟨⟨b1,xs,b2,ys,b3,zs,z1,z2⟩,p1,n1,k1,p2,n2,k2,p3,n3,k3,rfl,g1,g2,g3⟩
end
theorem eg {α:Type}{l:List α}{n:Nat}(h:l.length=n+1):∃a r,l=a::r/\r.length=n:=by
 cases l with
 | nil=>simp at h
 | cons a r=>exact ⟨a,r,rfl,by simpa using h⟩
theorem Cb {α:Type}{P:Nat->α->Prop}(n:Nat)(h:∀i,i<n->∃a,P i a):∃l:List α,l.length=n/\∀i (hi:i<l.length),P i l[i]:=by
 induction n with
 | zero=>exact ⟨[],rfl,fun i hi=>absurd hi (Nat.not_lt_zero i)⟩
 | succ n ih=>
  obtain ⟨l,hl,hp⟩:=ih fun i hi=>h i (by omega)
  obtain ⟨a,ha⟩:=h n (by omega)
  refine ⟨l++[a],by simp [hl],fun i hi=>?_⟩
  rw [List.length_append,List.length_singleton] at hi
  by_cases e:i<l.length
  ·rw [List.getElem_append_left e];exact hp i e
  ·obtain rfl:i=l.length:=by omega
   rw [List.getElem_append_right (Nat.le_refl _)]
   simpa [hl] using ha
theorem sD {α:Type}{sz:Nat}{R:View->Value->α->Prop}{H:Type}{enc:TypeId×Value->H}{W:World}{t e:TypeId}{fuel:Nat}{c1:Value}{y:DataW H×List MemPlace}(ht:Tryz.prog.underlying t=some (.slice e))(hc:Tryz.prog.cellsOf e=sz)
  (each:∀(fuel:Nat)(cs:List Value)(y:DataW H×List MemPlace),cs.length=sz->DataW.trod enc Tryz.prog W 0 (fun _=>true) true fuel e cs=some y->∃a:α,R (View.all W) (.agg cs.toArray) a)
  (h:DataW.trod enc Tryz.prog W 0 (fun _=>true) true fuel t [c1]=some y):∃p n c,c1=.slice p n c/\n<=c/\(p.isNone=true->c=0)/\∃l:List α,zh sz R (View.all W) p n l:=by
 rcases Go.Deep.open_slice ht h with ⟨hcs,-⟩|⟨a,len,cap,m,k,D,Pl,hcs,-,hl,-,hm,-,hx⟩
 ·exact ⟨none,0,0,by simpa using hcs,Nat.le_refl _,fun _=>rfl,[],zh.nil⟩
 ·simp only [if_true] at hm
  subst hm
  refine ⟨some a,len,_,by simpa using hcs,hl,(fun h=>by cases h),?_⟩
  have key:∀i,i<len->∃x:α,∃cs:List Value,cs.length=sz/\R (View.all W) (.agg cs.toArray) x/\∀j v,cs[j]?=some v->(View.all W).at ((a.add (i*sz)).add j) v:=by
   intro i hi
   obtain ⟨cs,h1,h2⟩:=hx i (by omega)
   rw [hc] at h1
   unfold World.cells? at h1
   rw [if_pos (Nat.zero_le _)] at h1
   have h3:cs.length=sz:=by simpa using mapM_some_length h1
   obtain ⟨x,h4⟩:=each k cs _ h3 h2
   refine ⟨x,cs,h3,h4,fun j v hj=>?_⟩
   have hj':j<sz:=by rw [←h3];exact (List.getElem?_eq_some_iff.1 hj).1
   have:=mapM_some_get h1 j j (by simp [hj'])
   exact ⟨fun h=>h,by show W.cell? _=_;rw [this];exact hj⟩
  obtain ⟨l,hl2,hp⟩:=Cb len key
  refine ⟨l,hl2.symm,fun i hi=>?_⟩
  obtain ⟨cs,h3,h4,h5⟩:=hp i hi
  exact ⟨a.add (i*sz),rfl,cs,h3,h4,h5⟩
set_option maxRecDepth 100000 in
theorem yK {H:Type}{enc:TypeId×Value->H}{W:World}(fuel:Nat)(cs:List Value)(y:DataW H×List MemPlace)(hl:cs.length=8)(h:DataW.trod enc Tryz.prog W 0 (fun _=>true) true fuel 76 cs=some y):∃r:Rn,xX (View.all W) (.agg cs.toArray) r:=by
 obtain ⟨c0,r0,rfl,z0⟩:=eg hl
 obtain ⟨c1,r1,rfl,z1⟩:=eg z0
 obtain ⟨c2,r2,rfl,z2⟩:=eg z1
 obtain ⟨c3,r3,rfl,z3⟩:=eg z2
 obtain ⟨c4,r4,rfl,z4⟩:=eg z3
 obtain ⟨c5,r5,rfl,z5⟩:=eg z4
 obtain ⟨c6,r6,rfl,z6⟩:=eg z5
 obtain ⟨c7,r7,rfl,z7⟩:=eg z6
 obtain rfl:=List.length_eq_zero_iff.1 z7
 exact Cd h
set_option maxRecDepth 100000 in
theorem Be {H:Type}{enc:TypeId×Value->H}{W:World}{r:Reach}{b0:Nat}{v:Value}{d:DataW H}{p:List MemPlace}(hv:Value.okWide Tryz.prog W r b0 42 v)(h:DataW.Trod enc Tryz.prog W 0 (fun _=>true) true 42 v d p) :
  ∃root q n c rs,v=.agg #[.int .i64 root,.slice q n c]/\n<=c/\(q.isNone=true->c=0)/\zh 8 xX (View.all W) q n rs:=by
 obtain ⟨⟨cs⟩,rfl,hsz⟩:=okWide_struct Tryz.underlying42 hv
 have hsz:cs.length=2:=hsz.trans (by kernel_rfl)
 obtain ⟨c0,r0,rfl,z0⟩:=eg hsz
 obtain ⟨c1,r1,rfl,z1⟩:=eg z0
 obtain rfl:=List.length_eq_zero_iff.1 z1
 obtain ⟨fuel,hf⟩:=h
 obtain ⟨us,m,-,-,-,hl,JO⟩:=DataW.trod_struct Tryz.underlying42 hf
 obtain ⟨y0,h0⟩:=cX JO hl 0 rfl (show Tryz.prog.cellsOf 3=1 by kernel_rfl)
 obtain ⟨y1,h1⟩:=cX JO hl 1 rfl (show Tryz.prog.cellsOf 40=1 by kernel_rfl)
 obtain ⟨root,rfl⟩:=wq h0
 obtain ⟨q,n,c,rfl,hc,hn,rs,hr⟩:=sD Tryz.underlying40 (show Tryz.prog.cellsOf 76=8 by kernel_rfl) yK h1
 exact ⟨root,q,n,c,rs,rfl,hc,hn,hr⟩
end Go.Proofs.YthpmdmkmfoaamaaGreatDoor
namespace Go.Proofs.Tryz
open Go.bh
section
open Go.RowKit Go.Extern.Stop Go.Stop Go.Extern
theorem yp (v:Value)(w:World):(Extern.ReflectliteType.typeOf #[.iface 315 v]).run prog w=.ok (.iface 198 (.agg #[.pointer (some ⟨3,315,none⟩)])) w:=by kernel_rfl
theorem qb (w : World) : ((Extern.ReflectliteType.method fun t => do Extern.Rtype.noPackHeld "Comparable" t; (fun a => Value.bool a.comparable) <$> typeInfo t) #[.agg #[.pointer (some ⟨3, 315, none⟩)]]).run prog w = .ok (.bool true) w := by kernel_rfl
theorem BO:(prog.info? 315).map (·.comparable)=some true:=by kernel_rfl
theorem BQ:(prog.info? 339).map (·.size)=some 1:=by kernel_rfl
theorem jr (v : Value)(w : World) : (Go.method 451 198 v "Comparable").run prog w = .ok (274, v) w := by kernel_rfl
theorem BP (a:Addr)(w:World) :
  Calls prog 31 #[.iface 315 (.pointer (some a)),.iface 315 (.pointer (some a))] w fun e w'=>e=.returned (.bool true)/\w'=w:=by
 obtain ⟨i,hi,hcmp⟩:=Option.map_eq_some_iff.1 BO
 obtain ⟨j,hj,hjs⟩:=Option.map_eq_some_iff.1 BQ
 have h8:=@run_callFunc_extern prog 84 _ Extern.ReflectliteType.typeOf func84 (by kernel_rfl) (by kernel_rfl) (by kernel_rfl) (by kernel_rfl)
 have h32 := @run_callFunc_extern prog 274 _ (Extern.ReflectliteType.method fun t => do Extern.Rtype.noPackHeld "Comparable" t; pure (.bool (← typeInfo t).comparable)) func274 (by kernel_rfl) (by kernel_rfl) (by kernel_rfl) (by kernel_rfl)
 have tT:=yp
 have cT:=qb
 have mR:=jr
 have heq:=run_eql_iface_ptr_same (P:=prog) w a underlying37 underlying315 hi hcmp hj
 go_enter func31,ntmps31
 go_wp2
 refine wp_loop_rounds 1 ?_
 rw [rounds_succ]
 go_wp2
 go_ret
 exact ⟨rfl,rfl⟩
end
theorem vN {f:FuncId}{args:Array Value}{V:View}{v:Value}(hc:fa prog f)(h:Calls prog f args V.w fun e w'=>e=.returned v/\w'=V.w):ab prog f args V fun r _=>r=v:=
 ⟨hc,h.mono fun e w' ⟨h1,h2⟩=>by subst h2;exact ⟨v,h1,eN.refl _ _,rfl⟩⟩
theorem dT {V:View}{y:Value}(h:Dj y):ab prog 31 #[y,y] V fun r _=>r=.bool true:=by
 obtain ⟨a,rfl⟩:=h
 exact vN ⟨f31,func31,rfl,by kernel_rfl⟩ (BP a V.w)
end Go.Proofs.Tryz
