import Derived.Test.YthpmdmkmfoaamaaGreatDoorC14
import Derived.Test.YthpmdmkmfoaamaaGreatDoorC5
import Derived.Test.YthpmdmkmfoaamaaGreatDoorC17
import Derived.Test.YthpmdmkmfoaamaaGreatDoorC8
import Derived.Test.YthpmdmkmfoaamaaGreatDoorC15
import Derived.Test.YthpmdmkmfoaamaaGreatDoorC9
set_option linter.unusedVariables false
open Go.IntKind (i64 u64 u32)
namespace Go.Proofs.Tryz
open Go.bK Go.fI
theorem Hb {V:View}{t:Tr}{p:OA}(h:RW V p t):p.isSome=true:=by
 cases t with
 | leaf i=>obtain ⟨b,c2,c3,c4,c5,c6,c7,c8,c9,rfl,hb⟩:=h;rfl
 | node l x y=>obtain ⟨b,i,b1,p1,n1,c1,b2,p2,n2,c2,b3,p3,n3,c3,pl,pr,rfl,-⟩:=h;rfl
theorem H7:∀(t:Tr) {V:View} {p:OA} {lb:Nat} {n c:Nat} {vs:List Value} {l:List Nd},RW V p t->t.jH Ff->n=l.length ->
  (vs≠[]->V.w.heap[lb]?=some (.cells vs.toArray 76 (0,0)))->(vs≠[]->V.X lb)->n<=c->c*8<=vs.length->NR V vs l->n+t.size<=1000000 ->
  ab prog 48 #[.pointer p,.slice (mA lb c) n c] V fun r V'=>∃(bm:Nat)(vm:List Value)(c':Nat),(vm≠[]->V'.w.heap[bm]?=some (.cells vm.toArray 76 (0,0)))/\(vm≠[]->V.w.heap.size<=bm\/(vs≠[]/\bm=lb)) /\
   r=.tuple #[.slice (mA bm c') (n+t.size) c',.int .i64 (rt n t)]/\n+t.size<=c'/\c'*8<=vm.length/\NR (V'.cf (vm≠[]) bm) vm (l++wr n t):=by
 intro t
 induction t with
 | leaf i=>
  intro V p lb n c vs l hp _ hn hv hxv hnc hcv hnr hsz
  have hs:=Hb hp
  obtain ⟨b,c2,c3,c4,c5,c6,c7,c8,c9,rfl,hb⟩:=hp
  have fin:∀(V3:View)(bk:Nat)(x:Int),V.Le (V3.cf (vs≠[]) bk)->(vs≠[]->V3.w.heap[bk]?=some (.cells vs.toArray 76 (0,0))) ->
    (vs≠[]->V.w.heap.size<=bk\/(vs≠[]/\bk=lb)\/False)->x=rt n (.leaf i)->∃(bm:Nat)(vm:List Value)(c':Nat),(vm≠[]->V3.w.heap[bm]?=some (.cells vm.toArray 76 (0,0)))/\(vm≠[]->V.w.heap.size<=bm\/(vs≠[]/\bm=lb)) /\
   Value.tuple #[.slice (mA bk c) n c,.int .i64 x]=.tuple #[.slice (mA bm c') (n+(Tr.leaf i).size) c',.int .i64 (rt n (.leaf i))]/\n+(Tr.leaf i).size<=c'/\c'*8<=vm.length/\NR (V3.cf (vm≠[]) bm) vm (l++wr n (.leaf i)):=by
   intro V3 bk x hle e3 e4 hx
   refine ⟨bk,vs,c,e3,fun h=>?_,by rw [hx];rfl,hnc,hcv,?_⟩
   ·rcases e4 h with h|h|h
    ·exact .inl h
    ·exact .inr h
    ·exact h.elim
   ·simp only [wr,List.append_nil]
    exact hnr.le hle
  refine mO _ lb n c vs V _ hv hxv ⟨hs,hs,true,yk hb 0 rfl,fun _=>⟨hs,hs,i,yk hb 1 rfl,fun hi V1 bk a1 a2 a3=>fin V1 bk _ a1 a2 a3 (by subst hi;rfl),fun hi V2 bk a1 a2 a3=>fin V2 bk _ a1 a2 a3 (by subst hi;rfl)⟩,fun h=>by cases h⟩
 | node ln x y JF ihy=>
  intro V p lb n c vs l hp hall hn hv hxv hnc hcv hnr hsz
  have hs:=Hb hp
  simp only [Tr.size] at hsz
  obtain ⟨⟨-,hbd⟩,hax,Wv⟩:=hall
  obtain ⟨b,i,b1,p1,n1,c1,b2,p2,n2,c2,b3,p3,n3,c3,pl,pr,rfl,hb,hl,hx,hy⟩:=hp
  have hat:∀j v,([.bool b1,.slice p1 n1 c1,.bool b2,.slice p2 n2 c2,.bool b3,.slice p3 n3 c3]:List Value)[j]?=some v->V.at (((⟨b,2,none⟩:Addr)).add j) v:=by
   intro j v hv
   have hj:j<6:=by
    rcases Nat.lt_or_ge j 6 with hj|hj
    ·exact hj
    ·rw [List.getElem?_eq_none (by simpa using hj)] at hv;cases hv
   have h2:(⟨b,2,none⟩:Addr)=(⟨b,0,none⟩:Addr).add 2:=by rw [add_zero']
   rw [h2,yA,add_zero']
   refine cO (xs:=[_,_,_,_,_,_,_,_,_,_]) hb ?_
   match j,hj,hv with
   | 0,_,hv=>exact hv
   | 1,_,hv=>exact hv
   | 2,_,hv=>exact hv
   | 3,_,hv=>exact hv
   | 4,_,hv=>exact hv
   | 5,_,hv=>exact hv
  obtain ⟨t1,t2,t3⟩:=hbd.ai
  refine mO _ lb n c vs V _ hv hxv ⟨hs,hs,false,yk hb 0 rfl,(fun h=>by cases h),fun _=>⟨hs,hs,b1,p1,n1,c1,b2,p2,n2,c2,b3,p3,n3,c3,⟨b,2,none⟩,by simp [ah,add_zero'],hat 0 _ rfl,hat 1 _ rfl,hat 2 _ rfl,hat 3 _ rfl,hat 4 _ rfl,hat 5 _ rfl,fun V3 l3=>(AM (hl.le l3) (by omega) (by omega) (by omega)).mono ?_⟩⟩
  rintro r V4 l4 Uj
  have QT:=Uj
  obtain ⟨d1,q1,m1,e1,d2,q2,m2,e2,d3,q3,m3,e3,rfl⟩:=qw Uj
  have Cl:=l3.trans l4
  refine ⟨_,_,_,_,_,_,_,_,_,_,_,_,rfl,by omega,hnc,hcv,rfl,by intro v hv;simp at hv;rcases hv with rfl|rfl|rfl|rfl|rfl|rfl|rfl|rfl<;>rfl,fun sp c' g1 g2=>?_⟩
  have hb4:=Cl _ _ hb
  refine ⟨hs,hs,pl,yk hb4 8 rfl,fun V5 l5 bk1 f1 f2=>?_⟩
  have hpush:=NR.push (sp:=sp) (x:=0) (y:=0) (hnr.le Cl) (by omega) (ln:=ln) QT
  rw [←hn] at hpush
  generalize hrow:vs.take (n*8)++([_,_,_,_,_,_,_,_]:List Value)++sp=row at f1 f2 hpush ⊢
  have hrl:row.length=n*8+8+sp.length:=by
   rw [←hrow];simp only [List.length_append,List.length_take,List.length_cons,List.length_nil];omega
  have Re:row≠[]:=fun e=>by rw [e] at hrl;simp only [List.length_nil] at hrl;omega
  have HF:=Cl.trans l5
  have i1:=JF (V:=V5.au [vb row V5.w.heap.size bk1]) (p:=pl) (lb:=bk1) (n:=n+1) (c:=c') (vs:=row) (l:=l++[⟨ln,0,0⟩]) (RW.le (V:=V) (V':=V5.au _) (fun b o h=>HF b o h) hx) hax (by simp [hn]) f1 (fun h=>⟨by simp [vq h],f2 h⟩) g1 (by omega) (NR.le (V:=V4) (V':=V5.au _) hpush fun b o h=>l5 b o h) (by omega)
  refine i1.mono ?_
  rintro r V6 l6 ⟨bm,vm,c1',a1,a2,rfl,a5,a6,a7⟩
  have W3:V5.Le V6:=fun b o h=>l6 b o h
  have UD:V5.Le (V6.shut.cf (vm≠[]) bm):=pK (V':=V5) W3 (View.Le.refl V5) fun h=>(a2 h).imp id fun h'=>by rw [h'.2];exact f2 Re
  refine ⟨bm,vm,a1,a2,none,_,_,_,rfl,hs,hs,pr,yk ((HF.trans UD) _ _ hb) 9 rfl,fun V7 l7 bk2 d1 d2=>?_⟩
  have Ut:vm≠[]:=fun e=>by rw [e] at a6;simp at a6;omega
  have Fm:V.Le V7:=(HF.trans UD).trans l7
  have i2:=ihy (V:=V7.au [vb vm V7.w.heap.size bk2]) (p:=pr) (lb:=bk2) (n:=n+1+x.size) (c:=c1') (vs:=vm) (l:=l++[⟨ln,0,0⟩]++wr (n+1) x) (RW.le (V:=V) (V':=V7.au _) (fun b o h=>Fm b o h) hy) Wv (by simp [hn,dR];omega) d1 (fun h=>⟨by simp [vq h],d2 h⟩) a5 a6 (NR.le (V:=V6.cf (vm≠[]) bm) (V':=V7.au _) a7 fun b o h=>l7 b o h) (by omega)
  refine i2.mono ?_
  rintro r V8 l8 ⟨bn,vn,c2',b1',b2',rfl,b5,b6,b7⟩
  have hlen:n*8+8<=vn.length:=by omega
  simp only [Int.toNat_natCast]
  refine ⟨bn,vn,b1',b2',none,_,_,_,rfl,⟨by omega,by omega⟩,b5,by omega,⟨by omega,by omega⟩,b5,by rw [List.length_set];omega,fun V9 HV u1 u4 u5=>?_⟩
  have hfin:=NR.kids (V:=V8.cf (vn≠[]) bn) (l:=l) (r:=wr (n+1) x++wr (n+1+x.size) y) (ln:=ln) (u:=0) (v:=0) (x:=rt (n+1) x) (y:=rt (n+1+x.size) y) (by simpa using b7)
  rw [←hn] at hfin
  refine ⟨HV,_,c2',u4,fun h=>?_,by rw [show n+(Tr.node ln x y).size=n+1+x.size+y.size from by simp only [Tr.size];omega];rfl,by simp only [Tr.size];omega,by simp only [List.length_set];omega,?_⟩
  ·rcases u5 h with h|h|h
   ·exact .inl h
   ·exact .inr h
   ·exact h.elim
  ·simp only [wr]
   exact NR.le (V:=V8.cf (vn≠[]) bn) hfin fun b o h=>u1 b o h
theorem nO {V:View}{p:OA}{t:Tr}(h:RW V p t)(ha:t.jH Ff)(hs:t.size<=1000000) :
  ab prog 14 #[.pointer p] V fun r V'=>AT V' r (rt 0 t) (wr 0 t):=by
 refine vO p V _ fun V1 l1=>?_
 refine ab.NP (H7 t (V:=V1) (lb:=0) (vs:=[]) (l:=[]) (n:=0) (c:=0) (h.le l1) ha rfl (fun h=>absurd rfl h) (fun h=>absurd rfl h) (Nat.le_refl _) (Nat.le_refl _) (fun i d hd=>by simp at hd) (by omega)) ?_
 rintro r V2 l2 hH ⟨bm,vm,c',a1,a2,rfl,a5,a6,a7⟩
 refine ⟨bm,vm,a1,fun h=>(a2 h).imp id fun h'=>absurd rfl h'.1,none,_,_,_,rfl,fun V3 l3 bk hb=>?_⟩
 simp only [List.nil_append,Nat.zero_add] at a7 a5 ⊢
 have:=NS.ofRow (V:=V3) (b:=bk) (c:=c') (vm:=vm) (l:=wr 0 t) (ty:=76) hb (by rw [dR];exact a5) (a7.le fun b o h=>l3 b o h)
 rw [dR] at this
 exact ⟨_,_,_,rfl,this⟩
end Go.Proofs.Tryz
namespace Go.bK
def View.bare (V:View)(b:Nat):View:=⟨V.w,fun x=>V.H x/\x≠b,fun x=>V.X x/\x≠b,fun x h=>V.hH x h.1,fun x h=>⟨V.hX x h.1,h.2⟩⟩
theorem View.HU (V:View)(b:Nat):V.Le (V.bare b):=fun _ _ h=>⟨fun hh=>h.1 hh.1,h.2⟩
theorem ab.bare {P:Program}{f:FuncId}{args:Array Value}{V:View}{b:Nat}{R:Value->View->Prop}(hs:b<V.w.heap.size)(h:ab P f args (V.bare b) R) :
  ab P f args V fun r V'=>V'.w.heap[b]?=V.w.heap[b]?/\R r (V'.bare b):=by
 refine ⟨h.1,h.2.mono fun _ w' ⟨r,he,hx,hr⟩=>⟨r,he,⟨hx.size,fun x h1 h2=>hx.bE x h1 fun h=>h2 h.1,hx.os,hx.tape,hx.out⟩,hx.bE b hs (fun h=>h.2 rfl),hr⟩⟩
theorem View.f_ {V:View}{b:Nat}{a:Addr}{v:Value}(h:(V.bare b).at a v)(hb:a.block≠b):V.at a v:=⟨fun hh=>h.1 ⟨hh,hb⟩,h.2⟩
def Ap (V:View)(b:Nat):Prop:=∃(cs:Array Value)(ty:TypeId)(m:Nat×Nat),V.w.heap[b]?=some (.cells cs ty m)/\∀v∈cs,∀k z,v≠.int k z
theorem Ap.ne {V:View}{b:Nat}(h:Ap V b){a:Addr}{k:IntKind}{z:Int}(ha:(V.bare b).at a (.int k z)):a.block≠b:=by
 obtain ⟨cs,ty,m,hb,hn⟩:=h
 intro e
 have h2:=ha.2
 unfold World.cell? at h2
 rw [e] at h2
 have hb':(V.bare b).w.heap[b]?=some (.cells cs ty m):=hb
 rw [hb'] at h2
 dsimp only at h2
 split at h2
 ·cases h2
 ·obtain ⟨hi,e2⟩:=Array.getElem?_eq_some_iff.1 h2
  exact hn _ (e2▸Array.getElem_mem hi) k z rfl
end Go.bK
namespace Go.Proofs.Tryz
open Go.bK Go.fI
theorem RD.f_ {V:View}{b:Nat}(hn:Ap V b){p:OA}{n c:Nat}{ds:List Nat}(h:RD (V.bare b) p n c ds):RD V p n c ds:=by
 refine ⟨h.len,h.cap,fun i v hv=>?_,h.eG,h.Bo⟩
 obtain ⟨ad,e,ha⟩:=h.sl i v hv
 have:∃d:Int,v=.int .u32 d:=by
  unfold aF at hv
  rw [List.getElem?_map] at hv
  cases hd:ds[i]? with
  | none=>rw [hd] at hv;cases hv
  | some d=>rw [hd] at hv;cases hv;exact ⟨_,rfl⟩
 obtain ⟨d,rfl⟩:=this
 exact ⟨ad,e,View.f_ ha (hn.ne ha)⟩
theorem RL.f_ {V:View}{b:Nat}(hn:Ap V b){v:Value}{x y z:Int}(h:RL (V.bare b) v x y z):RL V v x y z:=by
 obtain ⟨_,_,_,_,_,_,_,_,_,e,h1,h2,h3⟩:=h
 exact ⟨_,_,_,_,_,_,_,_,_,e,RD.f_ hn h1,RD.f_ hn h2,RD.f_ hn h3⟩
theorem xp (a:Addr)(i:Nat):(a.add i).block=a.block:=by
 unfold Addr.add;split<;>rfl
theorem AT.f_ {V:View}{b:Nat}(hn:Ap V b){v:Value}{root:Int}{l:List Nd}(h:AT (V.bare b) v root l)(hk:∀x∈l,ka x.ln=true):AT V v root l:=by
 obtain ⟨q,n,c,rfl,hs⟩:=h
 refine ⟨q,n,c,rfl,hs.len,hs.cap,?_,hs.Bo⟩
 obtain ⟨vs,hsl,hr⟩:=hs.row
 cases l with
 | nil=>exact ⟨[],fun i v h=>by simp at h,fun i d h=>by simp at h⟩
 | cons d l=>
  have hne:∀ad,q=some ad->ad.block≠b:=by
   intro ad e
   obtain ⟨b1,p1,n1,c1,b2,p2,n2,c2,b3,p3,n3,c3,h1,-⟩:=hr 0 d rfl
   obtain ⟨TH,e',ha⟩:=hsl _ _ (h1 6 _ rfl)
   rw [e] at e';cases e'
   have:=hn.ne ha
   rwa [xp] at this
  refine ⟨vs,fun i v hv=>?_,fun i x hx=>?_⟩
  ·obtain ⟨ad,e,ha⟩:=hsl i v hv
   exact ⟨ad,e,View.f_ ha (by rw [xp];exact hne ad e)⟩
  ·obtain ⟨b1,p1,n1,c1,b2,p2,n2,c2,b3,p3,n3,c3,h1,h2⟩:=hr i x hx
   exact ⟨b1,p1,n1,c1,b2,p2,n2,c2,b3,p3,n3,c3,h1,.inl (RL.f_ hn (h2.ok (hk x (List.mem_of_getElem? hx))))⟩
theorem Hx:∀{t:Tr} {k:Nat},t.jH Ff->∀x∈wr k t,ka x.ln=true
 | .leaf _,_,_,x,h=>by cases h
 | .node l a b,k,⟨h1,h2,h3⟩,x,h=>by
  simp only [wr] at h
  rcases List.mem_cons.1 h with rfl|h
  ·exact h1.1
  ·rcases List.mem_append.1 h with h|h
   ·exact Hx h2 x h
   ·exact Hx h3 x h
theorem oo {V:View}{rb:Nat}{i:Bool}{b1:Bool}{p1:OA}{n1 c1:Nat}{b2:Bool}{p2:OA}{n2 c2:Nat}{b3:Bool}{p3:OA}{n3 c3:Nat}{pl pr:OA}{ln:L3}{x y:Tr}
  (hw:V.w.heap[rb]?=some (.cells #[.bool false,.bool i,.bool b1,.slice p1 n1 c1,.bool b2,.slice p2 n2 c2,.bool b3,.slice p3 n3 c3,.pointer pl,.pointer pr] 64 (0,0)))
  (hl:RL V (.agg #[.bool b1,.slice p1 n1 c1,.bool b2,.slice p2 n2 c2,.bool b3,.slice p3 n3 c3]) ln.1 ln.2.1 ln.2.2)(hx:RW V pl x)(hy:RW V pr y)(ha:(Tr.node ln x y).jH Ff)(hs:(Tr.node ln x y).size<=1000000) :
  ab prog 14 #[.pointer (some ⟨rb,0,none⟩)] V fun r V'=>V'.w.heap[rb]?=some (.cells #[.bool false,.bool i,.bool b1,.slice p1 n1 c1,.bool b2,.slice p2 n2 c2,.bool b3,.slice p3 n3 c3,.pointer pl,.pointer pr] 64 (0,0))/\AT V' r (rt 0 (.node ln x y)) (wr 0 (.node ln x y)):=by
 have hsz:rb<V.w.heap.size:=(Array.getElem?_eq_some_iff.1 hw).1
 have l0:=V.HU rb
 refine (ab.bare hsz (nO (V:=V.bare rb) (p:=some ⟨rb,0,none⟩) (t:=.node ln x y) ⟨rb,i,b1,p1,n1,c1,b2,p2,n2,c2,b3,p3,n3,c3,pl,pr,rfl,⟨fun h=>h.2 rfl,hw⟩,hl.le l0,hx.le l0,hy.le l0⟩ ha hs)).mono ?_
 rintro r V' l' ⟨h1,h2⟩
 rw [hw] at h1
 refine ⟨h1,AT.f_ ⟨_,_,_,h1,?_⟩ h2 (Hx ha)⟩
 intro v hv k z e
 subst e
 simp at hv
end Go.Proofs.Tryz
namespace Go.Proofs.Tryz
open Go.bK
set_option maxRecDepth 100000
end Go.Proofs.Tryz
namespace Go.Proofs.Tryz
open Go.bK Go.fI
def LL:L3:=(0,1,0)
theorem Jk:ka LL=true:=by decide
theorem vg {z:Int}(k:Nat)(hk:k≠0)(h:z.natAbs<=1):z.natAbs<2^k:=Nat.lt_of_le_of_lt h (Nat.one_lt_two_pow hk)
theorem J5 (k:Nat)(hk:k≠0):LL.1.natAbs<2^k/\LL.2.1.natAbs<2^k/\LL.2.2.natAbs<2^k:=⟨vg k hk (by decide),vg k hk (by decide),vg k hk (by decide)⟩
theorem Jj:Bd LL:=J5 1000 (by decide)
theorem Fo {V:View}{v:Value}{a b c:Int}(h:RL V v a b c):∃(b1:Bool)(p1:OA)(n1 c1:Nat)(b2:Bool)(p2:OA)(n2 c2:Nat)(b3:Bool)(p3:OA)(n3 c3:Nat),v=.agg #[.bool b1,.slice p1 n1 c1,.bool b2,.slice p2 n2 c2,.bool b3,.slice p3 n3 c3]:=by
 obtain ⟨p,n,s,p',n',s',q,m,e,rfl,-⟩:=h
 exact ⟨_,_,_,_,_,_,_,_,_,_,_,_,rfl⟩
theorem yW {V:View}{u w:Value}(hp:RP V u ((0:Int):Rat) ((0:Int):Rat))(hq:RP V w ((1:Int):Rat) ((0:Int):Rat)) :
  ab prog 50 #[u,w] V fun r V'=>∃l,r=.tuple #[l,.bool true]/\RL V' l LL.1 LL.2.1 LL.2.2:=by
 have s0:Sz 1 ((0:Int):Rat):=by unfold Sz;decide
 have s1:Sz 1 ((1:Int):Rat):=zN
 refine (lG hp hq s0 s0 s1 s0 (by omega) (by omega)).mono ?_
 have e1:(vV ((0:Int):Rat) ((0:Int):Rat) ((1:Int):Rat) ((0:Int):Rat)).1.num=0:=by decide +kernel
 have e2:(vV ((0:Int):Rat) ((0:Int):Rat) ((1:Int):Rat) ((0:Int):Rat)).2.1.num=1:=by decide +kernel
 have e3:(vV ((0:Int):Rat) ((0:Int):Rat) ((1:Int):Rat) ((0:Int):Rat)).2.2.num=0:=by decide +kernel
 rw [e1,e2,e3]
 rintro r V' _ ⟨-,h⟩
 exact h (by omega)
structure PI (V:View) (y z:Value):Prop where
 inv:vX V 0 y
 DW:vX V 1 z
 yE:Me y
 zE:Me z
theorem PI.le {V V':View}{y z:Value}(h:PI V y z)(l:V.Le V'):PI V' y z:=⟨h.inv.le l,h.DW.le l,h.yE,h.zE⟩
theorem Bn:IsIface .nilIface/\fN .nilIface=true:=⟨.inl rfl,rfl⟩
theorem AT.leaf {V:View}(i:Bool):AT V (.agg #[.int .i64 (rt 0 (.leaf i)),.slice none 0 0]) (rt 0 (.leaf i)) (wr 0 (.leaf i)):=⟨_,_,_,rfl,NS.nil⟩
theorem pL {p:L3->Prop}:∀{t:Tr} {k:Nat},t.jH p->∀x∈wr k t,p x.ln
 | .leaf _,_,_,x,h=>by simp [wr] at h
 | .node l a b,k,⟨h1,h2,h3⟩,x,h=>by
  simp only [wr,List.mem_cons,List.mem_append] at h
  rcases h with rfl|h|h
  ·exact h1
  ·exact pL h2 x h
  ·exact pL h3 x h
def Am:Tr:=.node LL (.leaf true) (.leaf false)
theorem Ls:Am.jH Ff:=⟨⟨Jk,Jj⟩,trivial,trivial⟩
theorem po {t:Tr}{p:Rat×Rat}{c:Int}(h:eX t p c)(hm:aA.cS t p=[]):c=if (aA.jE t p (1,0)).1 then 2 else 0:=by
 have:=h [] [(1,0)] ⟨fun r h=>(by cases h),fun r h=>(by cases h),List.Pairwise.nil⟩ (.inl ⟨rfl,rfl⟩) (by rw [hm];intro l h;cases h)
 rw [this]
 unfold aA.anyS aA.jI EA
 simp only [List.any_cons,List.any_nil,Bool.or_false,List.all_cons,List.all_nil,Bool.and_true]
 cases (aA.jE t p (1,0)).1<;>rfl
theorem JP:aA.Aj [(1,0),(-1,0)]:=by
 refine ⟨fun r hr=>?_,fun r hr=>?_,?_⟩
 ·simp only [List.mem_cons,List.not_mem_nil,or_false] at hr
  rcases hr with rfl|rfl
  ·exact .inl (by decide)
  ·exact .inl (by decide)
 ·simp only [List.mem_cons,List.not_mem_nil,or_false] at hr
  rcases hr with rfl|rfl
  ·exact ⟨(-1,0),by simp,1,by decide,by decide +kernel,by decide +kernel⟩
  ·exact ⟨(1,0),by simp,1,by decide,by decide +kernel,by decide +kernel⟩
 ·refine List.pairwise_cons.2 ⟨fun x hx=>?_,List.pairwise_singleton ..⟩
  rcases List.mem_singleton.1 hx with rfl
  exact .inl ⟨.inr ⟨rfl,by decide⟩,.inr ⟨rfl,by decide⟩⟩
theorem uE {V:View}{v w:Value}(h:AT V v (rt 0 Am) (wr 0 Am)){x y:Int}(hw:J6 V w (x:Rat) (y:Rat))(hx:-40<=x/\x<=40)(hy:-40<=y/\y<=40){e:Value}(he:vX V 0 e) :
  ab prog 13 #[v,w] V fun r V'=>∃c,r=.tuple #[.int .i64 c,.nilIface]/\eX Am ((x:Rat),(y:Rat)) c:=by
 have sx:=q_ hx
 have sy:=q_ hy
 have ho:su (wr 0 Am) (rt 0 Am)=some Am:=GG ⟨Jk,trivial,trivial⟩ (by decide)
 refine (me (p:=((x:Rat),(y:Rat))) (pL (p:=Bd) (t:=Am) ⟨Jj,trivial,trivial⟩) h (Ed.of (p:=((x:Rat),(y:Rat))) hw sx sy (by omega)) (sx.mono (by omega)) (sy.mono (by omega)) (fun t ht=>by rw [ho] at ht;cases ht;decide) (fun t ht n c=>by rw [ho] at ht;cases ht;exact Ln n c _ (by have:=pN Am ((x:Rat),(y:Rat));rw [yi];have e:Am.size=1:=rfl;omega)) he).mono ?_
 rintro r V' _ ⟨-,h2⟩
 exact h2 Am ho
theorem Es {V:View}{e:Value}(he:vX V 0 e):ab prog 16 #[] V fun r V'=>r=.bool true:=by
 refine vE V _ fun V1 l1=>(dE 0 0 (by omega) (by omega) (by omega) (by omega)).mono ?_
 rintro r V2 l2 hp
 have hp0:=hp
 obtain ⟨_,_,_,_,_,_,_,_,_,_,_,_,rfl,-⟩:=hp
 refine ⟨_,_,_,_,_,_,_,_,_,_,_,_,_,_,rfl,fun V3 l3=>(dE 1 0 (by omega) (by omega) (by omega) (by omega)).mono ?_⟩
 rintro r V4 l4 hq
 have hq0:=hq
 obtain ⟨_,_,_,_,_,_,_,_,_,_,_,_,rfl,-⟩:=hq
 refine ⟨_,_,_,_,_,_,_,_,_,_,_,_,_,_,rfl,fun V5 l5=>(yW (hp0.le (l3.trans (l4.trans l5))) (hq0.le l5)).mono ?_⟩
 rintro r V6 l6 ⟨l,rfl,hl⟩
 obtain ⟨b1,u1,v1,w1,b2,u2,v2,w2,b3,u3,v3,w3,rfl⟩:=Fo hl
 have KP:=l1.trans (l2.trans (l3.trans (l4.trans (l5.trans l6))))
 refine ⟨_,_,_,_,_,_,_,_,_,_,_,_,_,rfl,fun V7 l7=>(hJ true).mono ?_⟩
 rintro r V8 l8 ⟨pa,rfl,ha⟩
 refine ⟨_,rfl,fun V9 l9=>(hJ false).mono ?_⟩
 rintro r gT l10 ⟨pb,rfl,hb⟩
 have Ge:=l7.trans (l8.trans (l9.trans l10))
 refine ⟨_,rfl,fun gZ bJ bk e1 e2=>(oo (V:=gZ.au [bk]) (ln:=LL) (x:=.leaf true) (y:=.leaf false) e1 (RL.le (V:=V6) (V':=gZ.au _) hl fun b o h=>(Ge.trans bJ) b o h) (RW.le (V:=V8) (V':=gZ.au _) (fun b o h=>(l9.trans (l10.trans bJ)) b o h) ha) (RW.le (V:=gT) (V':=gZ.au _) (fun b o h=>bJ b o h) hb) Ls (by decide)).mono ?_⟩
 rintro r lQ cw ⟨e3,hat⟩
 have MO:AT lQ r (rt 0 Am) (wr 0 Am):=hat
 clear hat
 have Ku:=MO
 obtain ⟨q,n,c,rfl,-⟩:=MO
 have Nm:gZ.Le lQ:=fun b o h=>cw b o h
 have LC:=KP.trans (Ge.trans (bJ.trans Nm))
 refine ⟨_,_,_,_,rfl,_,_,_,_,_,_,_,_,_,_,_,_,_,_,_,_,e3,fun lD bU=>(dE 0 1 (by omega) (by omega) (by omega) (by omega)).mono ?_⟩
 have bU:lQ.Le lD:=fun b o h=>bU b o h
 rintro r o_ dL hp
 have hp0:=hp
 obtain ⟨_,_,_,_,_,_,_,_,_,_,_,_,rfl,-⟩:=hp
 refine ⟨_,_,_,_,_,_,_,_,_,_,_,_,_,_,rfl,fun nD du=>(jo (hp0.le du) (q_ (by omega)) (q_ (by omega)) (by omega)).mono ?_⟩
 rintro r mT dp hw
 have hw0:=hw
 obtain ⟨_,_,_,_,_,_,_,_,_,_,_,_,_,_,rfl,-⟩:=hw
 have Gb:=bU.trans (dL.trans (du.trans dp))
 refine ⟨_,_,_,_,_,_,_,_,_,_,_,_,_,_,rfl,fun nK cR=>(uE (Ku.le (Gb.trans cR)) (hw0.le cR) (by omega) (by omega) (he.le (LC.trans (Gb.trans cR)))).mono ?_⟩
 rintro r qz dW ⟨k1,rfl,hk1⟩
 have Uz:=po hk1 (by decide +kernel)
 rw [show (aA.jE Am (((0:Int):Rat),((1:Int):Rat)) (1,0)).1=true by decide +kernel,if_pos rfl] at Uz
 subst Uz
 have Nn:=Gb.trans (cR.trans dW)
 refine ⟨_,_,rfl,fun tC ea=>(dE 5 0 (by omega) (by omega) (by omega) (by omega)).mono ?_⟩
 rintro r Ar jf hp
 have hp0:=hp
 obtain ⟨_,_,_,_,_,_,_,_,_,_,_,_,rfl,-⟩:=hp
 refine ⟨_,_,_,_,_,_,_,_,_,_,_,_,_,_,rfl,fun tD eW=>(jo (hp0.le eW) (q_ (by omega)) (q_ (by omega)) (by omega)).mono ?_⟩
 rintro r xo kZ hw
 have hw0:=hw
 obtain ⟨_,_,_,_,_,_,_,_,_,_,_,_,_,_,rfl,-⟩:=hw
 have Gc:=Nn.trans (ea.trans (jf.trans (eW.trans kZ)))
 refine ⟨_,_,_,_,_,_,_,_,_,_,_,_,_,_,rfl,fun vT fZ=>(uE (Ku.le (Gc.trans fZ)) (hw0.le fZ) (by omega) (by omega) (he.le (LC.trans (Gc.trans fZ)))).mono ?_⟩
 rintro r DG rL ⟨k2,rfl,hk2⟩
 have Pl:=hk2 [(1,0),(-1,0)] (jC [(1,0),(-1,0)]) JP (nt JP) (by
  intro l hl
  have:aA.cS Am (((5:Int):Rat),((0:Int):Rat))=[LL]:=by decide +kernel
  rw [this] at hl
  rcases List.mem_singleton.1 hl with rfl
  exact ⟨(1,0),by simp,1,by decide,by decide +kernel⟩)
 rw [show aA.anyS Am (((5:Int):Rat),((0:Int):Rat)) (jC [(1,0),(-1,0)])=true by decide +kernel,show aA.jI Am (((5:Int):Rat),((0:Int):Rat)) (jC [(1,0),(-1,0)])=false by decide +kernel] at Pl
 have Pl:k2=1:=Pl
 subst Pl
 have Np:=Gc.trans (fZ.trans rL)
 refine ⟨_,_,rfl,fun Eh gV=>(dE 0 (-1) (by omega) (by omega) (by omega) (by omega)).mono ?_⟩
 rintro r HA qU hp
 have hp0:=hp
 obtain ⟨_,_,_,_,_,_,_,_,_,_,_,_,rfl,-⟩:=hp
 refine ⟨_,_,_,_,_,_,_,_,_,_,_,_,_,_,rfl,fun J9 lY=>(jo (hp0.le lY) (q_ (by omega)) (q_ (by omega)) (by omega)).mono ?_⟩
 rintro r HN Bg hw
 have hw0:=hw
 obtain ⟨_,_,_,_,_,_,_,_,_,_,_,_,_,_,rfl,-⟩:=hw
 have JH:=Np.trans (gV.trans (qU.trans (lY.trans Bg)))
 refine ⟨_,_,_,_,_,_,_,_,_,_,_,_,_,_,rfl,fun LI sZ=>(uE (Ku.le (JH.trans sZ)) (hw0.le sZ) (by omega) (by omega) (he.le (LC.trans (JH.trans sZ)))).mono ?_⟩
 rintro r HB wD ⟨k3,rfl,hk3⟩
 have Pm:=po hk3 (by decide +kernel)
 rw [show (aA.jE Am (((0:Int):Rat),((-1:Int):Rat)) (1,0)).1=false by decide +kernel] at Pm
 have Pm:k3=0:=Pm
 subst Pm
 exact ⟨_,_,rfl,Bn.1,fun _=>⟨Bn.1,fun _=>⟨Bn.1,fun _=>⟨fun _=>⟨fun _ O2 CW=>rfl,(fun h=>by cases h)⟩,(fun h=>by cases h)⟩,(fun h=>by rw [Bn.2] at h;cases h)⟩,(fun h=>by rw [Bn.2] at h;cases h)⟩,(fun h=>by rw [Bn.2] at h;cases h)⟩
def ui (p:Rat×Rat)(l:L3):List (Rat×Rat):=if cC l p.1 p.2=0 then [aA.cA l,((-(aA.cA l).1,-(aA.cA l).2):Rat×Rat)] else []
def eJ (p:Rat×Rat)(ls:List L3):List (Rat×Rat):=ls.flatMap (ui p)
theorem CG {p:Rat×Rat}{ls:List L3}{i:Nat}(h:i<ls.length):eJ p (ls.take (i+1))=eJ p (ls.take i)++ui p ls[i]:=by
 unfold eJ
 rw [←List.take_append_getElem h,List.flatMap_append]
 simp
theorem xO (p:Rat×Rat)(ls:List L3):(eJ p ls).length<=2*ls.length:=by
 induction ls with
 | nil=>exact Nat.le_refl _
 | cons l r ih=>
  have:eJ p (l::r)=ui p l++eJ p r:=rfl
  rw [this,List.length_append,List.length_cons]
  have:(ui p l).length<=2:=by unfold ui;split<;>simp
  omega
theorem nd {p:Rat×Rat}{ls:List L3}{r:Rat×Rat}(h:r∈eJ p ls):∃l∈ls,cC l p.1 p.2=0/\(r=aA.cA l\/r=(-(aA.cA l).1,-(aA.cA l).2)):=by
 obtain ⟨l,hl,hr⟩:=List.mem_flatMap.1 h
 unfold ui at hr
 split at hr
 ·rename_i e
  simp only [List.mem_cons,List.not_mem_nil,or_false] at hr
  exact ⟨l,hl,e,hr⟩
 ·cases hr
theorem yd {p:Rat×Rat}{ls:List L3}{l:L3}(hl:l∈ls)(e:cC l p.1 p.2=0):aA.cA l∈eJ p ls/\((-(aA.cA l).1,-(aA.cA l).2):Rat×Rat)∈eJ p ls:=by
 constructor<;>refine List.mem_flatMap.2 ⟨l,hl,?_⟩<;>unfold ui<;>rw [if_pos e]<;>simp
theorem HR {v:Rat×Rat}(h:aA.nz v):¬aA.fA v (-v.1,-v.2)=0:=by
 rw [aA.e_]
 rintro ⟨e,-⟩
 unfold aA.nz at h
 rcases aA.bG v with ⟨h1,h2⟩|⟨h1,h2⟩|⟨h1,h2⟩<;>rcases aA.bG (-v.1,-v.2) with ⟨g1,g2⟩|⟨g1,g2⟩|⟨g1,g2⟩<;>first|omega|skip
 ·unfold aA.up at h2 g2;dsimp only at g2;grind
 ·unfold aA.dn at h2 g2;dsimp only at g2;grind
 ·grind
theorem yF {u v:Rat×Rat}(h:aA.fA u v=0):aA.fA v u=0:=by
 rw [aA.e_] at *
 have:=aA.cj u v
 exact ⟨h.1.symm,by grind⟩
theorem DJ {u v:Rat×Rat}:aA.fA u v>0↔aA.fA v u<0:=by
 constructor
 ·intro h
  rcases aA.tH u v with g|g|g
  ·omega
  ·omega
  ·exact g
 ·intro h
  have h1:=aA.yC v u h
  have h2:¬aA.fA u v=0:=fun e=>by have:=yF e;omega
  omega
theorem AZ {p:Rat×Rat}:∀{ls:List L3},(∀l∈ls,ka l=true/\cJ l=l)->ls.Nodup->(eJ p ls).Pairwise fun x y=>¬aA.fA x y=0
 | [],_,_=>List.Pairwise.nil
 | l::r,h,hn=>by
  have ih:=AZ (p:=p) (fun m hm=>h m (List.mem_cons_of_mem _ hm)) (List.nodup_cons.1 hn).2
  have:eJ p (l::r)=ui p l++eJ p r:=rfl
  rw [this]
  obtain ⟨ol,cl⟩:=h l (List.mem_cons_self ..)
  have nl:=th (zk ol)
  refine List.pairwise_append.2 ⟨?_,ih,fun x hx y hy e=>?_⟩
  ·unfold ui
   split
   ·exact List.pairwise_cons.2 ⟨fun y hy=>by rcases List.mem_singleton.1 hy with rfl;exact HR nl,List.pairwise_singleton ..⟩
   ·exact List.Pairwise.nil
  ·have hx':x∈eJ p [l]:=by show x∈ui p l++[];rw [List.append_nil];exact hx
   obtain ⟨l',hl',e1,x1⟩:=nd hx'
   rcases List.mem_singleton.1 hl' with rfl
   obtain ⟨m,hm,e2,y1⟩:=nd hy
   obtain ⟨om,cm⟩:=h m (List.mem_cons_of_mem _ hm)
   have c0:aA.cr (aA.cA l') (aA.cA m)=0:=by
    have c:=(aA.e_.1 e).2
    rcases x1 with rfl|rfl<;>rcases y1 with rfl|rfl<;>unfold aA.cr at c⊢<;> grind
   have:=aA.E1 ol om cl cm e1 e2 c0
   exact (List.nodup_cons.1 hn).1 (this▸hm)
theorem FQ {p:Rat×Rat}{ls:List L3}(h:∀l∈ls,ka l=true/\cJ l=l)(hn:ls.Nodup){m:List (Rat×Rat)}(pm:m.Perm (eJ p ls))(pw:m.Pairwise fun x y=>¬dk y x<0):aA.Aj m:=by
 refine aA.IU pw (fun r hr=>?_) (fun r hr=>?_) (pm.symm.pairwise (AZ h hn) fun e e'=>e (yF e'))
 ·obtain ⟨l,hl,-,e⟩:=nd (pm.mem_iff.1 hr)
  have nl:=th (zk (h l hl).1)
  rcases e with rfl|rfl
  ·exact nl
  ·unfold aA.nz at *
   rcases nl with nl|nl
   ·left;dsimp only;grind
   ·right;dsimp only;grind
 ·obtain ⟨l,hl,e0,e⟩:=nd (pm.mem_iff.1 hr)
  obtain ⟨m1,m2⟩:=yd hl e0
  rcases e with rfl|rfl
  ·exact ⟨_,pm.mem_iff.2 m2,1,by decide,by dsimp only;grind,by dsimp only;grind⟩
  ·exact ⟨_,pm.mem_iff.2 m1,1,by decide,by dsimp only;grind,by dsimp only;grind⟩
theorem FP {p:Rat×Rat}{ls:List L3}{m:List (Rat×Rat)}(pm:m.Perm (eJ p ls)){M:List L3}(hM:∀l∈M,cC l p.1 p.2=0/\cJ l∈ls):aA.Ee m M:=by
 intro l hl
 obtain ⟨e,hc⟩:=hM l hl
 have e':cC (cJ l) p.1 p.2=0:=by
  unfold cJ
  split
  ·unfold cC wK at *;simp only [Rat.intCast_neg];grind
  ·exact e
 obtain ⟨m1,m2⟩:=yd hc e'
 have two:aA.cA (cJ l)=aA.cA l\/((-(aA.cA (cJ l)).1,-(aA.cA (cJ l)).2):Rat×Rat)=aA.cA l:=by
  unfold cJ
  split
  ·right;unfold aA.cA wK;simp only [Rat.intCast_neg];exact Prod.ext (by dsimp only;grind) (by dsimp only;grind)
  ·left;rfl
 rcases two with t|t
 ·exact ⟨_,pm.mem_iff.2 m1,1,by decide,by rw [t];exact Prod.ext (by dsimp only;grind) (by dsimp only;grind)⟩
 ·exact ⟨_,pm.mem_iff.2 m2,1,by decide,by rw [t];exact Prod.ext (by dsimp only;grind) (by dsimp only;grind)⟩
theorem G5 {D:List (Rat×Rat)}(h:aA.Aj D){i:Nat}{u w:Rat×Rat}(hi:D[i]?=some u)(hw:D[(i+1)%D.length]?=some w)(hl:D.length>2):¬aA.fA u w=0:=by
 have hi':=(List.getElem?_eq_some_iff.1 hi).1
 by_cases e:i+1<D.length
 ·rw [Nat.mod_eq_of_lt e] at hw
  have a:=aA.jv h hi hw (by omega)
  have:=(aA.yD (h.nz u (List.mem_of_getElem? hi)) (h.nz w (List.mem_of_getElem? hw))).2 a
  omega
 ·have e:i+1=D.length:=by omega
  rw [e,Nat.mod_self] at hw
  have a:=aA.jv h hw hi (by omega)
  have:=(aA.yD (h.nz w (List.mem_of_getElem? hw)) (h.nz u (List.mem_of_getElem? hi))).2 a
  intro e
  have:=yF e
  omega
theorem Ll {D S:List (Rat×Rat)}(hD:D≠[])(hl:S.length=D.length)(h:∀i u w x,D[i]?=some u->D[(i+1)%D.length]?=some w->S[i]?=some x->aA.qv u w x):aA.Fg D S:=by
 have h0:0<D.length:=List.length_pos_iff.2 hD
 refine .inr ⟨hD,fun x hx=>?_,fun i u w hi hw=>?_⟩
 ·obtain ⟨i,hi⟩:=List.getElem?_of_mem hx
  have hi':=(List.getElem?_eq_some_iff.1 hi).1
  exact ⟨i,_,_,List.getElem?_eq_getElem (by omega),List.getElem?_eq_getElem (Nat.mod_lt _ h0),h i _ _ x (List.getElem?_eq_getElem _) (List.getElem?_eq_getElem _) hi⟩
 ·have hi':=(List.getElem?_eq_some_iff.1 hi).1
  exact ⟨S[i],List.getElem_mem _,h i u w _ hi hw (List.getElem?_eq_getElem _)⟩
theorem Lj {u w:Rat×Rat}{a b:Rat}(ha:a>0)(hb:b>0)(h:aA.cr u w>0):aA.qv u w (a*u.1+((1:Int):Rat)*(b*w.1),a*u.2+((1:Int):Rat)*(b*w.2)):=by
 refine .inl ⟨h,a,b,ha,hb,?_⟩
 have:((1:Int):Rat)=1:=rfl
 rw [this]
 exact Prod.ext (by unfold aA.wF;dsimp only;grind) (by unfold aA.wF;dsimp only;grind)
theorem Lk {u w:Rat×Rat}(h:aA.cr u w=0):aA.qv u w (-u.2,u.1):=
 .inr ⟨by grind,1,by decide,Prod.ext (by unfold aA.wF aA.Ea;dsimp only;grind) (by unfold aA.wF aA.Ea;dsimp only;grind)⟩
theorem Io {p:Rat×Rat}(h:aA.nz p):aA.half p≠0:=by
 rcases aA.bG p with ⟨e,-⟩|⟨e,-⟩|⟨-,e1,e2⟩
 ·omega
 ·omega
 ·unfold aA.nz at h
  rcases h with h|h
  ·exact absurd e1 h
  ·exact absurd e2 h
theorem zo {z:Int}{q:Rat}{d G:Nat}(hd:q*(((d:Nat):Int):Rat)=(z:Rat))(hG:G∣z.natAbs)(h0:0<G):(((z / (G:Int):Int)):Rat)=((((d:Nat):Int):Rat)*((((G:Nat):Int):Rat))⁻¹)*q:=by
 have hg:(((G:Nat):Int):Rat)≠0:=by exact_mod_cast (by omega:(G:Int)≠0)
 have e1:(z / (G:Int))*(G:Int)=z:=Int.ediv_mul_cancel (Int.ofNat_dvd_left.2 hG)
 have e2:(((z / (G:Int):Int)):Rat)*(((G:Nat):Int):Rat)=(z:Rat):=by exact_mod_cast e1
 have e3:=aA.inv_mul hg (((z / (G:Int):Int)):Rat)
 have e4:(((z / (G:Int):Int)):Rat)*(((G:Nat):Int):Rat)*((((G:Nat):Int):Rat))⁻¹=(((z / (G:Int):Int)):Rat):=by grind
 rw [←e4,e2,←hd]
 grind
theorem jn {V:View}{v:Value}{p:Rat×Rat}(h:RP V v p.1 p.2)(hn:aA.nz p){k:Nat}(s1:Sz k p.1)(s2:Sz k p.2)(hk0:0<k)(hk:4*k+4<274877906944) :
  ab prog 63 #[v] V fun r V'=>∃c:Rat,c>0/\RP V' r (c*p.1) (c*p.2)/\Sz (k+k) (c*p.1)/\Sz (k+k) (c*p.2):=by
 have h0:=h
 obtain ⟨_,_,_,_,_,_,_,_,_,_,_,_,rfl,hx,hy⟩:=h
 refine oU _ _ _ _ _ _ _ _ _ _ _ _ _ _ V _ fun V1 l1=>(kT (h0.le l1)).mono ?_
 rintro r V2 l2 rfl
 have vU:=l1.trans l2
 refine ⟨_,rfl,fun e=>absurd (by simpa using e) (Io hn),fun _ V4 l4=>(bZ p.2 _ (RQ.den (hy.le (vU.trans l4)))).mono ?_⟩
 rintro r V5 l5 ⟨d1,d2,d3,rfl,gd⟩
 refine ⟨_,_,_,rfl,fun V6 l6=>(cx false (gd.le l6)).mono ?_⟩
 rintro r V7 l7 gm
 rw [if_neg (by decide)] at gm
 have Wc:=gm
 obtain ⟨_,_,_,rfl,-⟩:=gm
 have Fm:=vU.trans (l4.trans (l5.trans (l6.trans l7)))
 have n1:=af s1.1
 have n2:=af s2.1
 have m1:=af s1.2
 have m2:=af s2.2
 refine ⟨_,_,_,_,rfl,fun V8 l8=>(tX (RQ.int (hx.le (Fm.trans l8))) (Wc.le l8) (by rw [Int.natAbs_natCast];omega)).mono ?_⟩
 rintro r V9 l9 gx
 have QB:=gx
 obtain ⟨_,_,_,rfl,-⟩:=gx
 have Nk:=Fm.trans (l8.trans l9)
 refine ⟨_,_,_,_,rfl,fun gT l10=>(bZ p.1 _ (RQ.den (hx.le (Nk.trans l10)))).mono ?_⟩
 rintro r gZ bJ ⟨f1,f2,f3,rfl,gf⟩
 refine ⟨_,_,_,rfl,fun lQ cw=>(cx false (gf.le cw)).mono ?_⟩
 rintro r lD bU gn
 rw [if_neg (by decide)] at gn
 have Qy:=gn
 obtain ⟨_,_,_,rfl,-⟩:=gn
 have Ny:=l10.trans (bJ.trans (cw.trans bU))
 refine ⟨_,_,_,_,rfl,fun o_ dL=>(tX (RQ.int (hy.le (Nk.trans (Ny.trans dL)))) (Qy.le dL) (by rw [Int.natAbs_natCast];omega)).mono ?_⟩
 rintro r nD du gy
 have Wj:=gy
 obtain ⟨_,_,_,rfl,-⟩:=gy
 have NA:=Ny.trans (dL.trans du)
 have ex:=rP p.1 p.2.den
 have ey:=rP p.2 p.1.den
 have bx:(p.1.num*(p.2.den:Int)).natAbs<2^(k+k):=by rw [Int.natAbs_mul,Int.natAbs_natCast];exact bA s1.1 s2.2
 have Ki:(p.2.num*(p.1.den:Int)).natAbs<2^(k+k):=by rw [Int.natAbs_mul,Int.natAbs_natCast];exact bA s2.1 s1.2
 have hne:(p.1.num*(p.2.den:Int)).natAbs≠0\/(p.2.num*(p.1.den:Int)).natAbs≠0:=by
  unfold aA.nz at hn
  rcases hn with hn|hn
  ·left
   rw [Int.natAbs_mul,Int.natAbs_natCast]
   exact Nat.mul_ne_zero (fun e=>hn (Rat.num_eq_zero.1 (by omega))) p.2.den_nz
  ·right
   rw [Int.natAbs_mul,Int.natAbs_natCast]
   exact Nat.mul_ne_zero (fun e=>hn (Rat.num_eq_zero.1 (by omega))) p.1.den_nz
 rw [Nat.mul_comm p.2.den p.1.den] at ey
 generalize p.1.num*(p.2.den:Int)=X at *
 generalize p.2.num*(p.1.den:Int)=Y at *
 have hD:0<p.1.den*p.2.den:=Nat.pos_of_ne_zero (Nat.mul_ne_zero p.1.den_nz p.2.den_nz)
 generalize p.1.den*p.2.den=D at *
 obtain ⟨ix,rx⟩:=QB.inv
 obtain ⟨iy,ry⟩:=Wj.inv
 have nx:=af bx
 have ny:=af Ki
 refine ⟨_,_,_,_,rfl,fun mT dp=>(g_ (rx.le (NA.trans dp)) (ry.le dp) (by omega) (by omega)).mono ?_⟩
 rintro r nK cR ⟨g1,g2,g3,rfl,gg⟩
 have dx:Nat.gcd X.natAbs Y.natAbs∣X.natAbs:=Nat.gcd_dvd_left _ _
 have dy:Nat.gcd X.natAbs Y.natAbs∣Y.natAbs:=Nat.gcd_dvd_right _ _
 have G0:0<Nat.gcd X.natAbs Y.natAbs:=Nat.pos_of_ne_zero fun e=>by
  rw [Nat.gcd_eq_zero_iff] at e
  rcases hne with h|h
  ·exact h e.1
  ·exact h e.2
 have Gl:(ai (Nat.gcd X.natAbs Y.natAbs)).length<=k+k:=by
  apply af
  rcases hne with h|h
  ·exact Nat.lt_of_le_of_lt (Nat.le_of_dvd (by omega) dx) bx
  ·exact Nat.lt_of_le_of_lt (Nat.le_of_dvd (by omega) dy) Ki
 have sx:=mj G0 dx
 have sy:=mj G0 dy
 generalize Nat.gcd X.natAbs Y.natAbs=G at *
 have RK:=NA.trans (dp.trans cR)
 refine ⟨_,_,_,rfl,fun qz dW=>(cF (rx.le (RK.trans dW)) (gg.le dW) (by omega) (by omega) G0).mono ?_⟩
 rintro r tC ea ⟨_,_,_,_,_,_,rfl,We,-⟩
 refine ⟨_,_,_,_,_,_,rfl,fun Ar jf=>(cF (ry.le (dp.trans (cR.trans (dW.trans (ea.trans jf))))) (gg.le (dW.trans (ea.trans jf))) (by omega) (by omega) G0).mono ?_⟩
 rintro r tD eW ⟨_,_,_,_,_,_,rfl,Qx,-⟩
 refine ⟨_,_,_,_,_,_,rfl,fun xo kZ=>(cx _ (We.le (jf.trans (eW.trans kZ)))).mono ?_⟩
 rw [ix,sx]
 rintro r vT fZ gA
 have Yy:=gA
 obtain ⟨_,_,_,rfl,ra⟩:=gA
 refine ⟨_,_,_,_,rfl,fun DG rL=>(cx _ (Qx.le (kZ.trans (fZ.trans rL)))).mono ?_⟩
 rw [iy,sy]
 rintro r Eh gV gB
 obtain ⟨_,_,_,rfl,rb⟩:=gB
 refine ⟨_,_,_,_,rfl,fun HA qU=>⟨(((D:Nat):Int):Rat)*((((G:Nat):Int):Rat))⁻¹,?_,?_,?_,?_⟩⟩
 ·refine aA.mp (by exact_mod_cast hD) (Rat.inv_pos.2 (by exact_mod_cast G0))
 ·rw [←zo ex dx G0,←zo ey dy G0]
  exact ⟨_,_,_,_,_,_,_,_,_,_,_,_,rfl,lI (z:=X / (G:Int)) (d:=1) rfl rfl (ra.le (rL.trans (gV.trans qU))) RD.nil rfl,lI (z:=Y / (G:Int)) (d:=1) rfl rfl (rb.le qU) RD.nil rfl⟩
 ·rw [←zo ex dx G0]
  exact re (Nat.lt_of_le_of_lt (Int.natAbs_ediv_le_natAbs ..) bx) (by omega)
 ·rw [←zo ey dy G0]
  exact re (Nat.lt_of_le_of_lt (Int.natAbs_ediv_le_natAbs ..) Ki) (by omega)
def tz (k:Nat)(V:View)(v:Value)(c:Rat×Rat):Prop:=RP V v c.1 c.2/\Sz k c.1/\Sz k c.2
theorem tz.le {k:Nat}{V V':View}{v:Value}{c:Rat×Rat}(h:tz k V v c)(l:V.Le V'):tz k V' v c:=⟨h.1.le l,h.2⟩
theorem tz.mono {k m:Nat}{V:View}{v:Value}{c:Rat×Rat}(h:tz k V v c)(l:k<=m):tz m V v c:=⟨h.1,h.2.1.mono l,h.2.2.mono l⟩
theorem D1 {a:Bool}{p:OA}{n c:Nat}{p':OA}{n' c':Nat}{b:Bool}{q:OA}{m d:Nat}{q':OA}{m' d':Nat}:∀v∈([.bool a,.slice p n c,.slice p' n' c',.bool b,.slice q m d,.slice q' m' d']:List Value),v.oneCell'=true:=by
 intro v hm
 simp only [List.mem_cons,List.not_mem_nil,or_false] at hm
 rcases hm with rfl|rfl|rfl|rfl|rfl|rfl<;>rfl
theorem K3 {a:Bool}{p:OA}{n c:Nat}{p':OA}{n' c':Nat}{b:Bool}{q:OA}{m d:Nat}{q':OA}{m' d':Nat}{e:Bool}{r:OA}{o f:Nat}{r':OA}{o' f':Nat}{g:Bool}{s:OA}{k h:Nat}{s':OA}{k' h':Nat} :
  ∀v∈([.bool a,.slice p n c,.slice p' n' c',.bool b,.slice q m d,.slice q' m' d',.bool e,.slice r o f,.slice r' o' f',.bool g,.slice s k h,.slice s' k' h']:List Value),v.oneCell'=true:=by
 intro v hm
 have:v∈([.bool a,.slice p n c,.slice p' n' c',.bool b,.slice q m d,.slice q' m' d']:List Value)++[.bool e,.slice r o f,.slice r' o' f',.bool g,.slice s k h,.slice s' k' h']:=hm
 rcases List.mem_append.1 this with h|h
 ·exact D1 v h
 ·exact D1 v h
theorem tq {k:Nat}{V:View}{vs:List Value}{al:List (Rat×Rat)}(h:Row 6 (tz k) V vs al){i:Nat}(hi:i<al.length) :
  ∃(b1:Bool)(p1:OA)(n1 c1:Nat)(p2:OA)(n2 c2:Nat)(b2:Bool)(p3:OA)(n3 c3:Nat)(p4:OA)(n4 c4:Nat),(i*6+6<=vs.length/\(vs.drop (i*6)).take 6=[.bool b1,.slice p1 n1 c1,.slice p2 n2 c2,.bool b2,.slice p3 n3 c3,.slice p4 n4 c4]) /\
   tz k V (.agg #[.bool b1,.slice p1 n1 c1,.slice p2 n2 c2,.bool b2,.slice p3 n3 c3,.slice p4 n4 c4]) (al.getD i bo):=by
 obtain ⟨xs,-,h2,h3,h4⟩:=h.get (d:=bo) hi (by decide)
 have h20:=h2
 obtain ⟨⟨_,_,_,_,_,_,_,_,_,_,_,_,e,-⟩,-⟩:=h2
 have e:=congrArg Array.toList (Value.agg.inj e)
 dsimp only at e
 subst e
 exact ⟨_,_,_,_,_,_,_,_,_,_,_,_,_,_,⟨h3,h4⟩,h20⟩
theorem IF {k:Nat}{V:View}{p:OA}{n:Nat}{al:List (Rat×Rat)}(h:nX 6 (tz k) V p n al){i:Nat}(hi:i<al.length) :
  p.isSome=true/\∃(b1:Bool)(p1:OA)(n1 c1:Nat)(p2:OA)(n2 c2:Nat)(b2:Bool)(p3:OA)(n3 c3:Nat)(p4:OA)(n4 c4:Nat)(a:Addr),ah p (i*6)=some a/\V.at (a.add 0) (.bool b1)/\V.at (a.add 1) (.slice p1 n1 c1)/\V.at (a.add 2) (.slice p2 n2 c2)/\V.at (a.add 3) (.bool b2)/\V.at (a.add 4) (.slice p3 n3 c3)/\V.at (a.add 5) (.slice p4 n4 c4) /\
   tz k V (.agg #[.bool b1,.slice p1 n1 c1,.slice p2 n2 c2,.bool b2,.slice p3 n3 c3,.slice p4 n4 c4]) al[i]:=by
 obtain ⟨ad,h0,xs,h1,h2,h3⟩:=h.at_ i hi
 have h20:=h2
 obtain ⟨⟨_,_,_,_,_,_,_,_,_,_,_,_,e,-⟩,-⟩:=h2
 have e:=congrArg Array.toList (Value.agg.inj e)
 dsimp only at e
 subst e
 refine ⟨?_,_,_,_,_,_,_,_,_,_,_,_,_,_,_,ad,h0,h3 0 _ rfl,h3 1 _ rfl,h3 2 _ rfl,h3 3 _ rfl,h3 4 _ rfl,h3 5 _ rfl,h20⟩
 cases p with
 | none=>cases h0
 | some a=>rfl
theorem Ha {V:View}{b1:Bool}{p1:OA}{n1 c1:Nat}{p2:OA}{n2 c2:Nat}{b2:Bool}{p3:OA}{n3 c3:Nat}{p4:OA}{n4 c4:Nat}{x y:Rat}(h:RP V (.agg #[.bool b1,.slice p1 n1 c1,.slice p2 n2 c2,.bool b2,.slice p3 n3 c3,.slice p4 n4 c4]) x y) :
  RQ V (.agg #[.bool b1,.slice p1 n1 c1,.slice p2 n2 c2]) x/\RQ V (.agg #[.bool b2,.slice p3 n3 c3,.slice p4 n4 c4]) y:=by
 obtain ⟨_,_,_,_,_,_,_,_,_,_,_,_,e,h1,h2⟩:=h
 cases e
 exact ⟨h1,h2⟩
theorem On {V:View}{b1:Bool}{p1:OA}{n1 c1:Nat}{p2:OA}{n2 c2:Nat}{b2:Bool}{p3:OA}{n3 c3:Nat}{p4:OA}{n4 c4:Nat}{x y:Rat}(h1:RQ V (.agg #[.bool b1,.slice p1 n1 c1,.slice p2 n2 c2]) x)(h2:RQ V (.agg #[.bool b2,.slice p3 n3 c3,.slice p4 n4 c4]) y) :
  RP V (.agg #[.bool b1,.slice p1 n1 c1,.slice p2 n2 c2,.bool b2,.slice p3 n3 c3,.slice p4 n4 c4]) x y:=by
 have h10:=h1
 have h20:=h2
 obtain ⟨_,_,_,_,_,_,e,-⟩:=h1
 cases e
 obtain ⟨_,_,_,_,_,_,e,-⟩:=h2
 cases e
 exact ⟨_,_,_,_,_,_,_,_,_,_,_,_,rfl,h10,h20⟩
theorem sf {V:View}{lp:OA}{ln lc:Nat}{ls:List L3}{pv:Value}{p:Rat×Rat}(h:nX 6 mS V lp ln ls)(hb:∀l∈ls,Bd l)(hk:∀l∈ls,ka l=true/\cJ l=l)(hnd:ls.Nodup)(hl:ls.length<=1000)(hp:RP V pv p.1 p.2)(s1:Sz 100000 p.1)(s2:Sz 100000 p.2) :
  ab prog 19 #[.slice lp ln lc,pv,.bool false] V fun r V'=>∃q n c E S,r=.slice q n c/\aA.Aj E/\aA.Fg E S/\E.Perm (eJ p ls)/\S.length<=2001/\nX 6 (tz 6000) V' q n S:=by
 have hn:=h.len
 subst hn
 have hp0:=hp
 obtain ⟨_,_,_,_,_,_,_,_,_,_,_,_,rfl,-⟩:=hp
 have dl:=xO p ls
 refine ru lp ls.length lc _ _ _ _ _ _ _ _ _ _ _ _ _ _ V _ ⟨fun z V'=>∃i:Nat,z.2.2.2=(i:Int)/\i<=ls.length/\GR 6 (tz 1000) V' z.1 z.2.1 z.2.2.1 (eJ p (ls.take i)),fun z=>(ls.length-z.2.2.2).toNat,⟨(0,0,[],0),by and_intros<;>first|rfl|trivial,0,rfl,Nat.zero_le _,GR.nil⟩,?_⟩
 rintro ⟨n1,c1,vs1,z⟩ V1 l1 ⟨i,e,hi,g⟩
 dsimp only at e g ⊢
 subst e
 refine ⟨rfl,fun hlt=>?_,fun hlt=>?_⟩
 ·have hlt:i<ls.length:=by have:=of_decide_eq_true hlt;omega
  have w1:i64.wrap ((i:Int)+1)=((i+1:Nat):Int):=by rw [ar (by omega)];rfl
  rw [w1]
  simp only [Int.toNat_natCast]
  obtain ⟨is,b1,p1,n1',c1',b2,p2,n2,c2,b3,p3,n3,c3,a,had,a0,a1,a2,a3,a4,a5,hl1⟩:=zf (h.le l1 fun _ _ g=>mS.le g l1) hlt
  have sl:=(hb _ (List.getElem_mem hlt)).HI
  have et:=CG (p:=p) hlt
  unfold ui at et
  have gl:=g.len
  have Wb:n1<=2*ls.length:=by rw [gl];have:=xO p (ls.take i);rw [List.length_take] at this;omega
  generalize ls[i]=A at *
  refine ⟨is,⟨by omega,by omega⟩,b1,p1,n1',c1',b2,p2,n2,c2,b3,p3,n3,c3,a,had,a0,a1,a2,a3,a4,a5,fun V2 l2=>(G3 (x:=p.1) (y:=p.2) (hl1.le l2) (hp0.le (l1.trans l2)) ⟨sl.1.mono (Nat.le_trans (by omega) (Nat.le_refl 100000)),sl.2.1.mono (by omega),sl.2.2.mono (by omega)⟩ s1 s2 (by omega)).mono ?_⟩
  rintro r V3 l3 rfl
  refine ⟨_,rfl,fun e0 V4 l4=>(gv (hl1.le (l2.trans (l3.trans l4))) sl.1 sl.2.1 sl.2.2 (by omega)).mono ?_,fun e0=>⟨(n1,c1,vs1,((i+1:Nat):Int)),by dsimp only;omega,by and_intros<;>first|rfl|trivial,i+1,rfl,by omega,?_⟩⟩
  ·have e0:cC A p.1 p.2=0:=aA.eC.1 (by simpa using e0)
   rw [if_pos e0] at et
   rintro r V5 l5 gd
   have Ks:=gd
   obtain ⟨_,_,_,_,_,_,_,_,_,_,_,_,rfl,-⟩:=gd
   refine ⟨_,_,_,_,_,_,_,_,_,_,_,_,_,_,rfl,fun V6 l6=>(gv (hl1.le (l2.trans (l3.trans (l4.trans (l5.trans l6))))) sl.1 sl.2.1 sl.2.2 (by omega)).mono ?_⟩
   rintro r V7 l7 ge
   have Pb:RP V7 r (aA.cA A).1 (aA.cA A).2:=ge
   obtain ⟨_,_,_,_,_,_,_,_,_,_,_,_,rfl,-⟩:=ge
   refine ⟨_,_,_,_,_,_,_,_,_,_,_,_,_,_,rfl,fun V8 l8=>(AJ (p:=aA.cA A) (Pb.le l8) sl.2.1 sl.1.neg (by omega)).mono ?_⟩
   rintro r V9 l9 gf
   have Qw:=gf
   obtain ⟨_,_,_,_,_,_,_,_,_,_,_,_,rfl,-⟩:=gf
   refine ⟨_,_,_,_,_,_,_,_,_,_,_,_,_,_,rfl,by omega,g.le,g.cap,rfl,K3,fun sp c' g1 g2=>⟨(n1+2,c',_,((i+1:Nat):Int)),by dsimp only;omega,by and_intros<;>first|rfl|trivial,i+1,rfl,by omega,?_⟩⟩
   rw [et]
   exact (g.mono fun _ _ g=>tz.le g (l2.trans (l3.trans (l4.trans (l5.trans (l6.trans (l7.trans (l8.trans l9)))))))).JV (xs:=[_,_,_,_,_,_]) (ys:=[_,_,_,_,_,_]) rfl rfl ⟨Ks.le (l6.trans (l7.trans (l8.trans l9))),sl.2.1,sl.1.neg⟩ ⟨Qw,sl.2.1.neg,sl.1.neg.neg⟩ (by decide) g1 g2
  ·have e0:¬cC A p.1 p.2=0:=fun h=>by rw [aA.eC.2 h] at e0;cases e0
   rw [if_neg e0,List.append_nil] at et
   rw [et]
   exact g.mono fun _ _ g=>tz.le g (l2.trans l3)
 have hlt:i=ls.length:=by have:=of_decide_eq_false hlt;omega
 subst hlt
 rw [List.take_length] at g
 have g1:=g.len
 have Ju:=g.le
 have gr:=g.row
 clear g
 generalize eL:eJ p ls=L at *
 subst g1
 refine ⟨fun z V'=>∃(i:Nat)(m:List (Rat×Rat)),z.1=(i:Int)/\i<=L.length/\Row 6 (tz 1000) V' z.2 m/\gS bo L m 0 L.length/\oZ dk bo m 0 i,fun z=>(L.length-z.1).toNat,⟨(0,vs1),by and_intros<;>first|rfl|trivial,0,L,rfl,Nat.zero_le _,gr,.refl _ _ _,.short (by omega)⟩,?_⟩
 rintro ⟨z,us⟩ gT l10 ⟨i,m,e,hi,hm,sg,Ak⟩
 dsimp only at e hm ⊢
 subst e
 have ml:=sg.len
 refine ⟨rfl,fun hlt=>?_,fun hlt=>?_⟩
 ·have hlt:i<L.length:=by have:=of_decide_eq_true hlt;omega
  have w2:i64.wrap ((i:Int)+1)=((i+1:Nat):Int):=by rw [ar (by omega)];rfl
  rw [w2]
  refine ⟨fun z V'=>∃(j:Nat)(k:List (Rat×Rat)),z.1=(j:Int)/\j<=i/\Row 6 (tz 1000) V' z.2 k/\gS bo L k 0 L.length/\HJ dk bo k 0 i j,fun z=>z.1.toNat,⟨((i:Int),us),by and_intros<;>first|rfl|trivial,i,m,rfl,Nat.le_refl _,hm,sg,.start Ak⟩,?_⟩
  rintro ⟨z,ws⟩ gZ bJ ⟨j,k,e,hji,hk1,sg,ins⟩
  dsimp only at e hk1 ⊢
  subst e
  have kl:=sg.len
  refine ⟨rfl,fun hj=>?_,fun hj=>⟨(((i+1:Nat):Int),ws),by dsimp only;omega,by and_intros<;>first|rfl|trivial,i+1,k,rfl,by omega,hk1,sg,ins.done fE hji (.inl (by have:=of_decide_eq_false hj;omega))⟩⟩
  have hj:0<j:=by have:=of_decide_eq_true hj;omega
  have w1:i64.wrap ((j:Int)-1)=((j-1:Nat):Int):=by rw [ar (by omega)];omega
  rw [w1,Int.toNat_natCast,Int.toNat_natCast]
  obtain ⟨x1,x2,x3,x4,x5,x6,x7,x8,x9,x10,Lv,Lw,Lx,Ly,g1,r1⟩:=tq hk1 (i:=j-1) (by omega)
  obtain ⟨y1,y2,y3,y4,y5,y6,y7,y8,y9,L8,L9,L_,y13,Ma,g2,r2⟩:=tq hk1 (i:=j) (by omega)
  refine ⟨⟨by omega,by omega⟩,Ju,x1,x2,x3,x4,x5,x6,x7,x8,x9,x10,Lv,Lw,Lx,Ly,g1,⟨by omega,by omega⟩,Ju,y1,y2,y3,y4,y5,y6,y7,y8,y9,L8,L9,L_,y13,Ma,g2,fun lQ cw=>(nM (r1.1.le cw) (r2.1.le cw) r1.2.1 r1.2.2 r2.2.1 r2.2.2 (by omega)).mono ?_⟩
  rintro r lD bU rfl
  have hk2:=hk1.le fun _ _ g=>tz.le g (cw.trans bU)
  refine ⟨_,rfl,fun gt=>?_,fun gt=>⟨(((i+1:Nat):Int),ws),by dsimp only;omega,by and_intros<;>first|rfl|trivial,i+1,k,rfl,by omega,hk2,sg,ins.done fE hji (.inr fun h=>absurd (DJ.2 h) (of_decide_eq_false gt))⟩⟩
  have hlt2:dk (k.getD j bo) (k.getD (j-1) bo)<0:=DJ.1 (of_decide_eq_true gt)
  have e1:(ae ws ((j-1)*6) [.bool y1,.slice y2 y3 y4,.slice y5 y6 y7,.bool y8,.slice y9 L8 L9,.slice L_ y13 Ma]).length=ws.length:=jD (by simp only [List.length_cons,List.length_nil];omega)
  have sw:=(hk2.swap (i:=j-1) (j:=j) (xs:=[.bool x1,.slice x2 x3 x4,.slice x5 x6 x7,.bool x8,.slice x9 x10 Lv,.slice Lw Lx Ly]) (ys:=[.bool y1,.slice y2 y3 y4,.slice y5 y6 y7,.bool y8,.slice y9 L8 L9,.slice L_ y13 Ma]) (d:=bo) (by omega) (by omega) (by decide) rfl rfl (r1.le (cw.trans bU)) (r2.le (cw.trans bU)))
  have ec:ja bo k (j-1) j=ja bo k j (j-1):=by
   unfold ja
   exact List.set_comm _ _ (by omega)
  rw [ec] at sw
  exact ⟨⟨by omega,by omega⟩,Ju,y1,y2,y3,y4,y5,y6,y7,y8,y9,L8,L9,L_,y13,Ma,g2,⟨by omega,by omega⟩,Ju,x1,x2,x3,x4,x5,x6,x7,x8,x9,x10,Lv,Lw,Lx,Ly,g1,⟨by omega,by omega⟩,Ju,g1.1,⟨by omega,by omega⟩,Ju,by rw [e1];exact g2.1,
   (((j-1:Nat):Int),_),by dsimp only;omega,by and_intros<;>first|rfl|trivial,j-1,_,rfl,by omega,sw,sg.trans (gS.ja (by omega) (by omega) (by omega) (by omega) (by omega)),ins.move fE hj hji (by omega) hlt2⟩
 have hlt:i=L.length:=by have:=of_decide_eq_false hlt;omega
 subst hlt
 have pm:m.Perm (eJ p ls):=by rw [eL];exact sg.perm
 have pw:m.Pairwise fun x y=>¬dk y x<0:=by
  refine List.pairwise_iff_getElem.2 fun i j hi hj wC=>?_
  have:=Ak i j (by omega) wC (by omega)
  rw [List.getD_eq_getElem?_getD,List.getD_eq_getElem?_getD,List.getElem?_eq_getElem hi,List.getElem?_eq_getElem hj] at this
  simp only [Option.getD_some] at this
  exact this
 have ry:=FQ hk hnd pm pw
 refine ⟨fun h0 o_ dL=>(dE 1 0 (by omega) (by omega) (by omega) (by omega)).mono ?_,fun h0=>?_⟩
 ·rintro r nD du gx
  have QB:=gx
  obtain ⟨_,_,_,_,_,_,_,_,_,_,_,_,rfl,-⟩:=gx
  refine ⟨_,_,_,_,_,_,_,_,_,_,_,_,_,_,rfl,fun mT dp bk hbk=>⟨_,1,1,m,[(1,0)],rfl,ry,.inl ⟨List.length_eq_zero_iff.1 (by have:=beq_iff_eq.1 h0;omega),rfl⟩,sg.perm,by simp,nX.zj hbk (row_one rfl ⟨QB.le dp,?_,?_⟩)⟩⟩
  ·exact (q_ (z:=1) (by omega)).mono (by omega)
  ·exact (q_ (z:=0) (by omega)).mono (by omega)
 have hL0:L.length≠0:=fun e=>by rw [e] at h0;cases h0
 have hm0:m≠[]:=fun e=>by rw [e] at ml;exact hL0 ml.symm
 refine ⟨fun z V'=>∃(i:Nat)(S:List (Rat×Rat)),z.2.2.2=(i:Int)/\i<=L.length/\S.length=i/\GR 6 (tz 6000) V' z.1 z.2.1 z.2.2.1 S/\∀j u w x,m[j]?=some u->m[(j+1)%m.length]?=some w->S[j]?=some x->aA.qv u w x,fun z=>(L.length-z.2.2.2).toNat,⟨(0,0,[],0),by and_intros<;>first|rfl|trivial,0,[],rfl,Nat.zero_le _,rfl,GR.nil,fun j u w x _ _ h=>by cases h⟩,?_⟩
 rintro ⟨n2,c2,vs2,z⟩ nK cR ⟨i,S,e,hi,hS,g,sm⟩
 dsimp only at e g ⊢
 subst e
 have gl:=g.len
 refine ⟨rfl,fun hlt=>?_,fun hlt Ve wE bk hbk=>?_⟩
 ·have hlt:i<L.length:=by have:=of_decide_eq_true hlt;omega
  have w1:i64.wrap ((i:Int)+1)=((i+1:Nat):Int):=by rw [ar (by omega)];rfl
  have hmod:(((i+1:Nat):Int)).tmod (L.length:Int)=(((i+1)%L.length:Nat):Int):=by rw [Int.ofNat_tmod]
  have hj:(i+1)%L.length<L.length:=Nat.mod_lt _ (by omega)
  rw [w1,hmod,Int.toNat_natCast,Int.toNat_natCast]
  have hm':=hm.le fun _ _ g=>tz.le g cR
  obtain ⟨x1,x2,x3,x4,x5,x6,x7,x8,x9,x10,Lv,Lw,Lx,Ly,g1,r1⟩:=tq hm' (i:=i) (by omega)
  obtain ⟨y1,y2,y3,y4,y5,y6,y7,y8,y9,L8,L9,L_,y13,Ma,g2,r2⟩:=tq hm' (i:=(i+1)%L.length) (by omega)
  have hu:m[i]?=some (m.getD i bo):=by rw [List.getD_eq_getElem?_getD,List.getElem?_eq_getElem (by omega)];rfl
  have hw:m[(i+1)%m.length]?=some (m.getD ((i+1)%L.length) bo):=by rw [ml,List.getD_eq_getElem?_getD,List.getElem?_eq_getElem (by omega)];rfl
  have ge:=aA.GD ry hu hw
  have nx:=G5 ry hu hw
  have nu:=ry.nz _ (List.mem_of_getElem? hu)
  have nw:=ry.nz _ (List.mem_of_getElem? hw)
  have done:∀{x:Rat×Rat},aA.qv (m.getD i bo) (m.getD ((i+1)%L.length) bo) x->∀j u w y,m[j]?=some u->m[(j+1)%m.length]?=some w->(S++[x])[j]?=some y->aA.qv u w y:=fun {x} hx j u w y h1 h2 h3=>by
   by_cases c:j<S.length
   ·rw [List.getElem?_append_left c] at h3;exact sm j u w y h1 h2 h3
   ·have hj':=(List.getElem?_eq_some_iff.1 h3).1
    rw [List.length_append,List.length_singleton] at hj'
    have e:j=i:=by omega
    rw [e] at h1 h2
    rw [List.getElem?_append_right (by omega),show j-S.length=0 by omega] at h3
    rw [hu] at h1
    rw [hw] at h2
    cases h1;cases h2;cases h3
    exact hx
  generalize m.getD i bo=u at *
  generalize m.getD ((i+1)%L.length) bo=w at *
  refine ⟨⟨by omega,by omega⟩,Ju,x1,x2,x3,x4,x5,x6,x7,x8,x9,x10,Lv,Lw,Lx,Ly,g1,by omega,⟨by omega,by omega⟩,Ju,y1,y2,y3,y4,y5,y6,y7,y8,y9,L8,L9,L_,y13,Ma,g2,fun z V'=>nK.Le V'/\z=false,fun qz dW=>(nM (r1.1.le dW) (r2.1.le dW) r1.2.1 r1.2.2 r2.2.1 r2.2.2 (by omega)).mono ?_,?_⟩
  ·rintro r tC ea rfl
   refine ⟨_,rfl,fun z0=>⟨_,by and_intros<;>first|rfl|trivial,dW.trans ea,?_⟩,fun z0=>⟨_,by and_intros<;>first|rfl|trivial,dW.trans ea,rfl⟩⟩
   refine decide_eq_false fun gt=>nx (by omega) (by simpa using z0)
  rintro z Ar WZ ⟨jf,rfl⟩
  refine ⟨rfl,(fun h=>by cases h),fun _ tD eW=>(jL (r1.1.le (jf.trans eW)) (r2.1.le (jf.trans eW)) r1.2.1 r1.2.2 r2.2.1 r2.2.2 (by omega)).mono ?_⟩
  rintro r xo kZ gc
  have Ii:=gc
  obtain ⟨_,_,_,_,_,_,rfl⟩:=gc.shape
  refine ⟨_,_,_,_,_,_,_,rfl,fun vT fZ=>(mf (Ii.le fZ)).mono ?_⟩
  rintro r DG rL rfl
  have Mb:=jf.trans (eW.trans (kZ.trans (fZ.trans rL)))
  obtain ⟨gx,gy⟩:=Ha r1.1
  refine ⟨_,rfl,fun z0 Eh gV=>(iJ (gy.le (Mb.trans gV)) r1.2.2 (by omega)).mono ?_,fun z0 J9 lY=>(jn (r1.1.le (Mb.trans lY)) nu r1.2.1 r1.2.2 (by omega) (by omega)).mono ?_⟩
  ·have c0:aA.cr u w=0:=aA.eC.1 (beq_iff_eq.1 z0)
   rintro r HA qU go
   have go0:=go
   obtain ⟨_,_,_,_,_,_,rfl⟩:=go.shape
   refine ⟨_,_,_,_,_,_,_,rfl,by omega,g.le,g.cap,rfl,D1,fun sp c' k1 k2=>⟨(n2+1,c',_,((i+1:Nat):Int)),by dsimp only;omega,by and_intros<;>first|rfl|trivial,i+1,S++[(-u.2,u.1)],rfl,by omega,by simp [hS],?_,done (Lk c0)⟩⟩
   exact (g.mono fun _ _ g=>tz.le g (Mb.trans (gV.trans qU))).snoc (xs:=[_,_,_,_,_,_]) rfl ⟨On go0 (gx.le (Mb.trans (gV.trans qU))),r1.2.2.neg.mono (by omega),r1.2.1.mono (by omega)⟩ (by decide) k1 k2
  ·have c0:aA.cr u w>0:=by
    have:¬aA.cr u w=0:=fun e=>by
     have:=aA.eC.2 e
     unfold aA.cr at this
     rw [this] at z0
     cases z0
    grind
   rintro r HN Bg ⟨a,a0,ga,sa1,UQ⟩
   have MJ:=ga
   obtain ⟨_,_,_,_,_,_,_,_,_,_,_,_,rfl,-⟩:=ga
   refine ⟨_,_,_,_,_,_,_,_,_,_,_,_,_,_,rfl,fun LI sZ=>(ki 1 (by omega) (by omega)).mono ?_⟩
   rintro r HB wD go
   have go0:=go
   obtain ⟨_,_,_,_,_,_,rfl⟩:=go.shape
   have S_:=Mb.trans (lY.trans (Bg.trans (sZ.trans wD)))
   refine ⟨_,_,_,_,_,_,_,rfl,fun O2 CW=>(jn (r2.1.le (S_.trans CW)) nw r2.2.1 r2.2.2 (by omega) (by omega)).mono ?_⟩
   rintro r Ta JI ⟨b,b0,gb,sb1,UR⟩
   have Wa:=gb
   obtain ⟨_,_,_,_,_,_,_,_,_,_,_,_,rfl,-⟩:=gb
   have s3:Sz 2000 ((1:Int):Rat):=(q_ (z:=1) (by omega)).mono (by omega)
   have Gd:=CW.trans JI
   refine ⟨_,_,_,_,_,_,_,_,_,_,_,_,_,_,rfl,fun PK ze=>(jm (MJ.le (sZ.trans (wD.trans (Gd.trans ze)))) (go0.le (Gd.trans ze)) (Wa.le ze) sa1 UQ s3 sb1 UR (by omega)).mono ?_⟩
   rintro r Vd KT gs
   have gs0:=gs
   obtain ⟨_,_,_,_,_,_,_,_,_,_,_,_,rfl,-⟩:=gs
   have Vc:=S_.trans (Gd.trans (ze.trans KT))
   refine ⟨_,_,_,_,_,_,_,_,_,_,_,_,_,_,rfl,by omega,g.le,g.cap,rfl,D1,fun sp c' k1 k2=>⟨(n2+1,c',_,((i+1:Nat):Int)),by dsimp only;omega,by and_intros<;>first|rfl|trivial,i+1,S++[_],rfl,by omega,by simp [hS],(g.mono fun _ _ g=>tz.le g Vc).snoc (xs:=[_,_,_,_,_,_]) rfl ⟨gs0,(sa1.add ((q_ (z:=1) (by omega)).mul sb1)).mono (by omega),(UQ.add ((q_ (z:=1) (by omega)).mul UR)).mono (by omega)⟩ (by decide) k1 k2,done (Lj a0 b0 c0)⟩⟩
 ·have hlt:i=L.length:=by have:=of_decide_eq_false hlt;omega
  have gc:=g.cap
  have T2:=g.le
  subst gl
  exact ⟨_,S.length,c2,m,S,rfl,ry,Ll hm0 (by omega) sm,sg.perm,by omega,nX.tj hbk (g.row.le fun _ _ g=>tz.le g wE) (by decide) (by omega)⟩
def Ef (V:View)(vs:List Value)(i:Nat)(d:Nd):Prop:=∃(b1:Bool)(p1:OA)(n1 c1:Nat)(b2:Bool)(p2:OA)(n2 c2:Nat)(b3:Bool)(p3:OA)(n3 c3:Nat),
 (∀j v,([.bool b1,.slice p1 n1 c1,.bool b2,.slice p2 n2 c2,.bool b3,.slice p3 n3 c3,.int .i64 d.left,.int .i64 d.right]:List Value)[j]?=some v->vs[i*8+j]?=some v) /\
 HL V (.agg #[.bool b1,.slice p1 n1 c1,.bool b2,.slice p2 n2 c2,.bool b3,.slice p3 n3 c3]) d.ln
theorem Ef.le {V V':View}{vs:List Value}{i:Nat}{d:Nd}(h:Ef V vs i d)(hl:V.Le V'):Ef V' vs i d:=by
 obtain ⟨b1,p1,n1,c1,b2,p2,n2,c2,b3,p3,n3,c3,h1,h2⟩:=h
 exact ⟨b1,p1,n1,c1,b2,p2,n2,c2,b3,p3,n3,c3,h1,h2.le hl⟩
theorem GU {vs xs:List Value}{k i:Nat}(hx:xs.length=8)(h:k*8+8<=vs.length)(hi:i<k*8\/k*8+8<=i):(vs.take (k*8)++xs++vs.drop (k*8+8))[i]?=vs[i]?:=by
 have ht:(vs.take (k*8)).length=k*8:=by rw [List.length_take];omega
 rcases hi with hi|hi
 ·rw [List.append_assoc,List.getElem?_append_left (by omega),List.getElem?_take,if_pos hi]
 ·rw [List.getElem?_append_right (by rw [List.length_append];omega),List.length_append,ht,hx,List.getElem?_drop]
  congr 1
  omega
theorem W6 {a b c d e f g h v:Value}{j:Nat}(hv:([a,b,c,d,e,f,g,h]:List Value)[j]?=some v):j<8:=by
 rcases Nat.lt_or_ge j 8 with hj|hj
 ·exact hj
 ·rw [List.getElem?_eq_none (by simpa using hj)] at hv;cases hv
theorem Ef.out {V:View}{vs xs:List Value}{k i:Nat}{d:Nd}(h:Ef V vs i d)(hx:xs.length=8)(hk:k*8+8<=vs.length)(hi:i≠k):Ef V (vs.take (k*8)++xs++vs.drop (k*8+8)) i d:=by
 obtain ⟨b1,p1,n1,c1,b2,p2,n2,c2,b3,p3,n3,c3,h1,h2⟩:=h
 refine ⟨b1,p1,n1,c1,b2,p2,n2,c2,b3,p3,n3,c3,fun j v hv=>?_,h2⟩
 have:=W6 hv
 rw [GU hx hk (by omega)]
 exact h1 j v hv
def vm (n b m:Nat):Nat:=(n-1-m+(n-b))%n
def DS (V:View):View:=⟨V.w,fun b=>b<V.w.heap.size,fun _=>False,fun _ h=>h,fun _ h=>h.elim⟩
theorem Cp {f:FuncId}{args:Array Value}{V:View}{o:Obj}(h:ab prog f args (DS V) fun r V'=>∃bk,r=.pointer (some ⟨bk,0,none⟩)/\V'.bE bk o) :
  ab prog f args V fun r V'=>∃bk,r=.pointer (some ⟨bk,0,none⟩)/\V.w.heap.size<=bk/\V'.bE bk o:=
 ⟨h.1,h.2.mono fun _ _ ⟨_,he,hx,bk,hr,hb⟩=>⟨_,he,⟨hx.size,fun b hb _=>hx.bE b hb (fun h=>h),hx.os,hx.tape,hx.out⟩,bk,hr,Nat.le_of_not_lt hb.1,fun hh=>hb.1 (V.hH bk hh),hb.2⟩⟩
theorem AO {V:View}{lp:OA}{ln lc:Nat}(hc:ln<=lc) :
  ab prog 10 #[.slice lp ln lc] V fun r V'=>∃bk,r=.pointer (some ⟨bk,0,none⟩)/\V.w.heap.size<=bk/\V'.bE bk (.cells #[.slice lp (min ln 400) lc,.int .i64 0] 95 (0,0)):=by
 refine Cp (Ah lp ln lc (DS V) _ ?_)
 have e:bR (ln:Int) 400=((min ln 400:Nat):Int):=by
  unfold bR
  simp only [Nat.min_def]
  split<;>split<;>omega
 rw [e,Int.toNat_natCast]
 have:=Nat.min_le_left ln 400
 exact ⟨⟨by omega,by omega⟩,fun V1 l1 bk hb=>⟨bk,rfl,hb⟩⟩
theorem D0 {t:Tr}(h:t.jH Ff):t.jH fun x=>ka x=true:=Tr.jH.imp (fun _ h=>h.1) h
theorem GH {t:Tr}(h:t.jH Ff):t.jH Bd:=Tr.jH.imp (fun _ h=>h.2) h
theorem yq (l:List (Rat×Rat)):∃m:List (Rat×Rat),m.Perm l/\m.Pairwise fun x y=>¬dk y x<0:=by
 refine ⟨l.mergeSort (fun x y=>decide (¬dk y x<0)),List.mergeSort_perm ..,?_⟩
 refine (List.pairwise_mergeSort (le:=fun x y=>decide (¬dk y x<0)) (fun a b c h1 h2=>?_) (fun a b=>?_) l).imp fun h=>of_decide_eq_true h
 ·exact decide_eq_true (aA.tJ c b a (of_decide_eq_true h2) (of_decide_eq_true h1))
 ·by_cases h:dk b a<0
  ·have:=aA.yC b a h
   rw [Bool.or_eq_true]
   exact .inr (decide_eq_true this)
  ·rw [Bool.or_eq_true]
   exact .inl (decide_eq_true h)
theorem indep {t:Tr}{l:L3}(ho:(Tr.node l t t).jH fun l=>¬(l.1=0/\l.2.1=0)){p:Rat×Rat}{a b:Int}(h1:eX t p a)(h2:eX (.node l t t) p b):a=b:=by
 obtain ⟨m,pm,pw⟩:=yq (gX (aA.cS (.node l t t) p))
 obtain ⟨ry,cv⟩:=zD (zh ho) pm pw
 have sm:=nt ry
 have sub:∀x∈aA.cS t p,x∈aA.cS (.node l t t) p:=fun x hx=>by
  rw [aA.cS]
  by_cases e:cC l p.1 p.2≥0
  ·rw [if_pos e];exact List.mem_append_right _ (List.mem_append_left _ hx)
  ·rw [if_pos (show cC l p.1 p.2<=0 by grind)];exact List.mem_append_right _ (List.mem_append_right _ hx)
 have e1:=h1 _ _ ry sm fun l hl=>cv l (sub l hl)
 have e2:=h2 _ _ ry sm cv
 generalize jC (fj eP m)=S at *
 have key:∀v∈S,aA.jE (.node l t t) p v=aA.jE t p v:=fun v hv=>by
  have n:=cv.gen (aA.tv ry sm v hv)
  have:=(aA.mI n fun l _=>⟨id,id⟩).2
  rw [aA.jE] at this ⊢
  split
  ·rfl
  ·rename_i q
   rw [if_neg q] at this
   split
   ·rfl
   ·rename_i q'
    rw [if_neg q'] at this
    cases this
 have k1:aA.anyS (.node l t t) p S=aA.anyS t p S:=by
  unfold aA.anyS
  rw [Bool.eq_iff_iff,List.any_eq_true,List.any_eq_true]
  constructor
  ·rintro ⟨x,hx,h⟩;exact ⟨x,hx,by rw [←key x hx];exact h⟩
  ·rintro ⟨x,hx,h⟩;exact ⟨x,hx,by rw [key x hx];exact h⟩
 have k2:aA.jI (.node l t t) p S=aA.jI t p S:=by
  unfold aA.jI
  rw [Bool.eq_iff_iff,List.all_eq_true,List.all_eq_true]
  constructor
  ·intro h x hx;rw [←key x hx];exact h x hx
  ·intro h x hx;rw [key x hx];exact h x hx
 rw [e1,e2,k1,k2]
theorem FJ (l:L3):cJ (cJ l)=cJ l:=by
 unfold cJ
 by_cases h:l.1<0\/l.1=0/\l.2.1<0
 ·rw [if_pos h,if_neg]
  unfold wK
  dsimp only
  omega
 ·rw [if_neg h,if_neg h]
theorem IJ {l:L3}(h:ka l=true):ka (cJ l)=true:=by
 unfold cJ
 split
 ·unfold ka wK je at *
  simp only [Int.natAbs_neg]
  rw [Bool.and_eq_true,decide_eq_true_iff,decide_eq_true_iff] at h ⊢
  exact ⟨fun e=>h.1 ⟨by omega,by omega⟩,h.2⟩
 ·exact h
theorem Ig {t:Tr}(ha:t.jH Ff):(∀l∈cT t.qt,Bd l)/\(∀l∈cT t.qt,ka l=true/\cJ l=l)/\(cT t.qt).Nodup/\(cT t.qt).length<=t.size:=by
 refine ⟨uk (fun _ h=>h.can) fun l hl=>(ju ha l hl).2,fun l hl=>?_,List.Pairwise.imp (S:=fun a b=>a≠b) (fun {a b} h e=>by subst e;exact NJ h) (iL t.qt).1,by have:=qP t.qt;rwa [k_] at this⟩
 obtain ⟨m,hm,rfl⟩:=List.mem_map.1 ((iL t.qt).2 l |>.1 hl)
 exact ⟨IJ (ju ha m hm).1,FJ m⟩
theorem FR {t:Tr}{p:Rat×Rat}{E:List (Rat×Rat)}(pm:E.Perm (eJ p (cT t.qt))):aA.Ee E (aA.cS t p):=
 FP pm fun l hl=>⟨(aA.mu hl).1,(iL t.qt).2 _ |>.2 (List.mem_map_of_mem (aA.mu hl).2)⟩
theorem wi {V:View}{q:OA}{t:Tr}(h:RW V q t)(ha:t.jH Ff)(hs:t.size<=1000){pv:Value}{p:Rat×Rat}(hp:RP V pv p.1 p.2)(s1:Sz 100000 p.1)(s2:Sz 100000 p.2) :
  ab prog 17 #[.pointer q,pv] V fun r V'=>∃c,r=.int .i64 c/\eX t p c:=by
 have hp0:=hp
 obtain ⟨_,_,_,_,_,_,_,_,_,_,_,_,rfl,-⟩:=hp
 refine vM q _ _ _ _ _ _ _ _ _ _ _ _ _ _ V _ fun V1 l1=>(nN (h.le l1) ha (by omega)).mono ?_
 rintro r V2 l2 ⟨ps,m,cs,rfl,hL⟩
 obtain ⟨d1,d2,d3,d4⟩:=Ig ha
 have vU:=l1.trans l2
 refine ⟨_,_,_,rfl,fun V3 l3=>(sf (hL.le l3 fun _ _ g=>mS.le g l3) d1 d2 d3 (by omega) (hp0.le (vU.trans l3)) s1 s2).mono ?_⟩
 rintro r V4 l4 ⟨q',n,c,E,S,rfl,ry,sm,pm,hS,hl⟩
 have cv:=FR pm
 have hn:=hl.len
 subst hn
 have Cl:=vU.trans (l3.trans l4)
 refine ⟨_,_,_,rfl,fun z _=>∃i:Nat,z.2.2=(i:Int)/\i<=S.length/\z.1=aA.anyS t p (S.take i)/\z.2.1=aA.jI t p (S.take i),fun z=>(S.length-z.2.2).toNat,⟨(false,true,0),by and_intros<;>first|rfl|trivial,0,rfl,Nat.zero_le _,rfl,rfl⟩,?_⟩
 rintro ⟨z1,z2,z3⟩ V5 l5 ⟨i,e,hi,f1,f2⟩
 dsimp only at e f1 f2 ⊢
 subst e f1 f2
 have HF:=Cl.trans l5
 refine ⟨by trivial,fun hlt=>?_,fun hlt=>?_⟩
 ·have hlt:i<S.length:=by have:=of_decide_eq_true hlt;omega
  have w1:i64.wrap ((i:Int)+1)=((i+1:Nat):Int):=by rw [ar (by omega)];rfl
  rw [w1,Int.toNat_natCast]
  obtain ⟨is,x1,x2,x3,x4,x5,x6,x7,x8,x9,x10,Lv,Lw,Lx,Ly,a,had,a0,a1,a2,a3,a4,a5,g1⟩:=IF (hl.le l5 fun _ _ g=>tz.le g l5) hlt
  refine ⟨is,⟨by omega,by omega⟩,x1,x2,x3,x4,x5,x6,x7,x8,x9,x10,Lv,Lw,Lx,Ly,a,had,a0,a1,a2,a3,a4,a5,fun V6 l6=>(tZ (k:=100000) (by omega) (by omega) s1 s2 (g1.2.1.mono (by omega)) (g1.2.2.mono (by omega)) (RW.le (HF.trans l6) h) (GH ha) (hp0.le (HF.trans l6)) (g1.1.le l6)).mono ?_⟩
  rintro r V7 l7 rfl
  refine ⟨_,_,rfl,fun k=>⟨fun k'=>⟨(_,_,((i+1:Nat):Int)),by dsimp only;omega,by and_intros<;>first|rfl|trivial,i+1,rfl,by omega,?_,?_⟩,fun k'=>⟨(_,_,((i+1:Nat):Int)),by dsimp only;omega,by and_intros<;>first|rfl|trivial,i+1,rfl,by omega,?_,?_⟩⟩,
   fun k=>⟨fun k'=>⟨(_,_,((i+1:Nat):Int)),by dsimp only;omega,by and_intros<;>first|rfl|trivial,i+1,rfl,by omega,?_,?_⟩,fun k'=>⟨(_,_,((i+1:Nat):Int)),by dsimp only;omega,by and_intros<;>first|rfl|trivial,i+1,rfl,by omega,?_,?_⟩⟩⟩
  ·rw [iu hlt,k];rfl
  ·rw [ir hlt,k'];rfl
  ·rw [iu hlt,k];rfl
  ·rw [ir hlt,k'];rfl
  ·rw [iu hlt,k];rfl
  ·rw [ir hlt,k'];rfl
  ·rw [iu hlt,k];rfl
  ·rw [ir hlt,k'];rfl
 ·have hlt:i=S.length:=by have:=of_decide_eq_false hlt;omega
  subst hlt
  rw [List.take_length]
  have key:∀c:Int,c=EA (aA.anyS t p S) (aA.jI t p S)->∃c',Value.int .i64 c=.int .i64 c'/\eX t p c':=fun c e=>⟨c,rfl,by rw [e];exact ub ry sm cv⟩
  refine ⟨fun k V8 l8=>key _ ?_,fun k=>⟨fun k' V9 l9=>key _ ?_,fun k' gT l10=>key _ ?_⟩⟩
  ·rw [k];rfl
  ·rw [k,k'];rfl
  ·rw [k,k'];rfl
theorem Ez {t:Tr}{p:Rat×Rat}{a b:Int}(ho:t.jH fun l=>¬(l.1=0/\l.2.1=0))(h:eX t p a)(h':eX t p b):a=b:=by
 obtain ⟨m,pm,pw⟩:=yq (gX (aA.cS t p))
 obtain ⟨ry,cv⟩:=zD (zh ho) pm pw
 have sm:=nt ry
 rw [h _ _ ry sm cv,h' _ _ ry sm cv]
theorem lT {V:View}{e:Value}(he:vX V 0 e){lp:OA}{ln lc:Nat}(hr:Eg V lp ln)(hc:ln<=lc) :
  ab prog 3 #[.slice lp ln lc] V fun r V'=>r=.bool true:=by
 refine lC lp ln lc V _ fun V1 l1=>(AO hc).mono ?_
 rintro r V2 l2 ⟨bk1,rfl,hfr,hb⟩
 refine ⟨bk1,_,_,_,_,rfl,hfr,hb,fun V3 l3 Kh e4 h4=>?_⟩
 have bU:V1.Le V3:=fun b o h=>l3 b o ⟨fun hh=>hh.elim (l2 b o h).1 fun e=>by
  have hlt:b<V1.w.heap.size:=by
   rcases Nat.lt_or_ge b V1.w.heap.size with h'|h'
   ·exact h'
   ·have:=h.2;rw [Array.getElem?_eq_none h'] at this;cases this
  have:=e.1
  omega,(l2 b o h).2⟩
 have hmin:min ln 400<=400:=Nat.min_le_right _ _
 have hr:Eg V lp (min ln 400):=fun i hi=>hr i (Nat.lt_of_lt_of_le hi (Nat.min_le_left _ _))
 generalize min ln 400=n at *
 have UA:V.Le V3:=l1.trans bU
 refine (Kj 4 (V:=V3.au [Kh]) (by omega) (hr.le fun b o h=>UA b o h) hmin e4 ⟨by simp,h4⟩ (Int.le_refl 0)).mono ?_
 rintro r V4 l4 ⟨qa,t,Fv,rfl,MW,Fl,hsa,t1,hw1⟩
 have Cl:V.Le V4:=fun b o h=>l4 b o (UA b o h)
 refine ⟨_,rfl,_,_,_,_,hw1,fun V5 l5 Jq e5 h5=>(yQ (V:=V5.au [Jq]) (hr.le fun b o h=>l5 b o (Cl b o h)) hmin e5 ⟨by simp,h5⟩ t1 (RW.le (V:=V4) (V':=V5.au _) (fun b o h=>l5 b o h) MW) Fl (by omega)).mono ?_⟩
 rintro r V6 l6 ⟨p,at2,hp,sp1,sp2,t2,hw2⟩
 have hp0:=hp
 obtain ⟨_,_,_,_,_,_,_,_,_,_,_,_,rfl,-⟩:=hp
 have l46:V4.Le V6:=fun b o h=>l6 b o (l5 b o h)
 have UL:su (wr 0 t) (rt 0 t)=some t:=GG (D0 Fl) (by omega)
 have VK:∀x∈wr 0 t,Bd x.ln:=pL (GH Fl)
 refine ⟨_,_,_,_,_,_,_,_,_,_,_,_,_,_,rfl,_,_,_,_,hw2,fun V7 l7=>(nO (RW.le (V:=V4) (V':=V7) (fun b o h=>l7 b o (l46 b o h)) MW) Fl (by omega)).mono ?_⟩
 rintro r V8 l8 hA
 have Ph:=hA
 obtain ⟨pa,na,ca,rfl,-⟩:=hA
 have UE:V6.Le V8:=fun b o h=>l8 b o (l7 b o h)
 refine ⟨_,_,_,_,rfl,fun V9 l9=>(jo (hp0.le (UE.trans l9)) sp1 sp2 (by omega)).mono ?_⟩
 rintro r gT l10 hq
 have hq0:=hq
 obtain ⟨_,_,_,_,_,_,_,_,_,_,_,_,_,_,rfl,-⟩:=hq
 have Ge:=UE.trans (l9.trans l10)
 refine ⟨_,_,_,_,_,_,_,_,_,_,_,_,_,_,rfl,fun gZ bJ=>(me (p:=p) VK (Ph.le (l9.trans (l10.trans bJ))) (Ed.of (p:=p) (hq0.le bJ) sp1 sp2 (by omega)) (sp1.mono (by omega)) (sp2.mono (by omega)) (fun t' ht=>by rw [UL] at ht;cases ht;omega) (fun _ _ n c=>Lm n c _) (he.le (Cl.trans (l46.trans (Ge.trans bJ))))).mono ?_⟩
 rintro r lQ cw ⟨-,q1⟩
 obtain ⟨k1,rfl,hk1⟩:=q1 t UL
 have Nw:=Ge.trans (bJ.trans cw)
 refine ⟨_,_,rfl,fun lD bU=>(Es (he.le (Cl.trans (l46.trans (Nw.trans bU))))).mono ?_⟩
 rintro r o_ dL rfl
 have Nx:=Nw.trans (bU.trans dL)
 refine ⟨_,rfl,fun _=>⟨Bn.1,fun _ nD du=>(wi (RW.le (V:=V4) (l46.trans (Nx.trans du)) MW) Fl (by omega) (hp0.le (Nx.trans du)) (sp1.mono (by omega)) (sp2.mono (by omega))).mono ?_,fun h=>by rw [Bn.2] at h;cases h⟩,fun h=>by cases h⟩
 rintro r mT dp ⟨k2,rfl,hk2⟩
 refine ⟨_,rfl,fun nK cR=>?_⟩
 rw [Ez (Tr.jH.imp (fun _ h=>zk h) (D0 Fl)) hk1 hk2]
 simp
end Go.Proofs.Tryz
