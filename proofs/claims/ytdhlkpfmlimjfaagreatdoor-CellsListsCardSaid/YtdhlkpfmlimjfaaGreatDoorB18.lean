import Derived.Test.YtdhlkpfmlimjfaaGreatDoorB14
import Derived.Test.YtdhlkpfmlimjfaaGreatDoorB17
import Derived.Test.YtdhlkpfmlimjfaaGreatDoorB6
import Derived.Test.YtdhlkpfmlimjfaaGreatDoorB16
import Derived.Test.YtdhlkpfmlimjfaaGreatDoorB15
import Derived.Test.YtdhlkpfmlimjfaaGreatDoorB9
import Derived.Test.YtdhlkpfmlimjfaaGreatDoorB10
import Derived.Test.YtdhlkpfmlimjfaaGreatDoorB13
set_option linter.unusedVariables false
open Go.IntKind (i64 u64 u32)
namespace Go.Proofs.Tryz
open Go.Eng Go.Big
theorem HN {V:View}{t:Tr}{p:OA}(h:RW V p t):p.isSome=true:=by
 cases t with
 | leaf i=>obtain ⟨b,c2,c3,c4,c5,c6,c7,c8,c9,rfl,hb⟩:=h;rfl
 | node l x y=>obtain ⟨b,i,b1,p1,n1,c1,b2,p2,n2,c2,b3,p3,n3,c3,pl,pr,rfl,-⟩:=h;rfl
theorem IF:∀(t:Tr) {V:View} {p:OA} {lb:Nat} {n c:Nat} {vs:List Value} {l:List Nd},RW V p t->t.All Okb->n=l.length ->
  (vs≠[]->V.w.heap[lb]?=some (.cells vs.toArray 78 (0,0)))->(vs≠[]->V.X lb)->n<=c->c*8<=vs.length->NR V vs l->n+t.size<=1000000 ->
  Acts prog 42 #[.pointer p,.slice (mA lb c) n c] V fun r V'=>∃(bm:Nat)(vm:List Value)(c':Nat),(vm≠[]->V'.w.heap[bm]?=some (.cells vm.toArray 78 (0,0)))/\(vm≠[]->V.w.heap.size<=bm\/(vs≠[]/\bm=lb)) /\
   r=.tuple #[.slice (mA bm c') (n+t.size) c',.int .i64 (rt n t)]/\n+t.size<=c'/\c'*8<=vm.length/\NR (V'.hideG (vm≠[]) bm) vm (l++wr n t)/\(t.size=0->c'=c):=by
 intro t
 induction t with
 | leaf i=>
  intro V p lb n c vs l hp _ hn hv hxv hnc hcv hnr hsz
  have hs:=HN hp
  obtain ⟨b,c2,c3,c4,c5,c6,c7,c8,c9,rfl,hb⟩:=hp
  have fin:∀(V3:View)(bk:Nat)(x:Int),V.Le (V3.hideG (vs≠[]) bk)->(vs≠[]->V3.w.heap[bk]?=some (.cells vs.toArray 78 (0,0))) ->
    (vs≠[]->V.w.heap.size<=bk\/(vs≠[]/\bk=lb)\/False)->x=rt n (.leaf i)->∃(bm:Nat)(vm:List Value)(c':Nat),(vm≠[]->V3.w.heap[bm]?=some (.cells vm.toArray 78 (0,0)))/\(vm≠[]->V.w.heap.size<=bm\/(vs≠[]/\bm=lb)) /\
   Value.tuple #[.slice (mA bk c) n c,.int .i64 x]=.tuple #[.slice (mA bm c') (n+(Tr.leaf i).size) c',.int .i64 (rt n (.leaf i))]/\n+(Tr.leaf i).size<=c'/\c'*8<=vm.length/\NR (V3.hideG (vm≠[]) bm) vm (l++wr n (.leaf i))/\((Tr.leaf i).size=0->c'=c):=by
   intro V3 bk x hle e3 e4 hx
   refine ⟨bk,vs,c,e3,fun h=>?_,by rw [hx];rfl,hnc,hcv,?_,fun _=>rfl⟩
   ·rcases e4 h with h|h|h
    ·exact .inl h
    ·exact .inr h
    ·exact h.elim
   ·simp only [wr,List.append_nil]
    exact hnr.le hle
  refine lI _ lb n c vs V _ hv hxv ⟨hs,hs,true,rdc hb 0 rfl,fun _=>⟨hs,hs,i,rdc hb 1 rfl,fun hi V1 bk a1 a2 a3=>fin V1 bk _ a1 a2 a3 (by subst hi;rfl),fun hi V2 bk a1 a2 a3=>fin V2 bk _ a1 a2 a3 (by subst hi;rfl)⟩,fun h=>by cases h⟩
 | node ln x y Kt ihy=>
  intro V p lb n c vs l hp hall hn hv hxv hnc hcv hnr hsz
  have hs:=HN hp
  simp only [Tr.size] at hsz
  obtain ⟨⟨-,hbd⟩,hax,Wx⟩:=hall
  obtain ⟨b,i,b1,p1,n1,c1,b2,p2,n2,c2,b3,p3,n3,c3,pl,pr,rfl,hb,hl,hx,hy⟩:=hp
  have hat:∀j v,([.bool b1,.slice p1 n1 c1,.bool b2,.slice p2 n2 c2,.bool b3,.slice p3 n3 c3]:List Value)[j]?=some v->V.at (((⟨b,2,none⟩:Addr)).add j) v:=by
   intro j v hv
   have hj:j<6:=by
    rcases Nat.lt_or_ge j 6 with hj|hj
    ·exact hj
    ·rw [List.getElem?_eq_none (by simpa using hj)] at hv;cases hv
   have h2:(⟨b,2,none⟩:Addr)=(⟨b,0,none⟩:Addr).add 2:=by rw [add_zero']
   rw [h2,addadd,add_zero']
   refine blk_at (xs:=[_,_,_,_,_,_,_,_,_,_]) hb ?_
   match j,hj,hv with
   | 0,_,hv=>exact hv
   | 1,_,hv=>exact hv
   | 2,_,hv=>exact hv
   | 3,_,hv=>exact hv
   | 4,_,hv=>exact hv
   | 5,_,hv=>exact hv
  obtain ⟨t1,t2,t3⟩:=hbd.af
  refine lI _ lb n c vs V _ hv hxv ⟨hs,hs,false,rdc hb 0 rfl,(fun h=>by cases h),fun _=>⟨hs,hs,b1,p1,n1,c1,b2,p2,n2,c2,b3,p3,n3,c3,⟨b,2,none⟩,by simp [addrAdd,add_zero'],hat 0 _ rfl,hat 1 _ rfl,hat 2 _ rfl,hat 3 _ rfl,hat 4 _ rfl,hat 5 _ rfl,fun V3 l3=>(qh (hl.le l3) (by omega) (by omega) (by omega)).mono ?_⟩⟩
  rintro r V4 l4 Ny
  have QX:=Ny
  obtain ⟨d1,q1,m1,e1,d2,q2,m2,e2,d3,q3,m3,e3,rfl⟩:=oR Ny
  have l04:=l3.trans l4
  refine ⟨_,_,_,_,_,_,_,_,_,_,_,_,rfl,by omega,hnc,hcv,rfl,by intro v hv;simp at hv;rcases hv with rfl|rfl|rfl|rfl|rfl|rfl|rfl|rfl<;>rfl,fun sp c' g1 g2=>?_⟩
  have hb4:=l04 _ _ hb
  refine ⟨hs,hs,pl,rdc hb4 8 rfl,fun V5 l5 bk1 f1 f2=>?_⟩
  have hpush:=NR.push (sp:=sp) (x:=0) (y:=0) (hnr.le l04) (by omega) (ln:=ln) QX
  rw [←hn] at hpush
  generalize hrow:vs.take (n*8)++([_,_,_,_,_,_,_,_]:List Value)++sp=row at f1 f2 hpush ⊢
  have hrl:row.length=n*8+8+sp.length:=by
   rw [←hrow];simp only [List.length_append,List.length_take,List.length_cons,List.length_nil];omega
  have Rh:row≠[]:=fun e=>by rw [e] at hrl;simp only [List.length_nil] at hrl;omega
  have l05:=l04.trans l5
  have i1:=Kt (V:=V5.lend [vb row V5.w.heap.size bk1]) (p:=pl) (lb:=bk1) (n:=n+1) (c:=c') (vs:=row) (l:=l++[⟨ln,0,0⟩]) (RW.le (V:=V) (V':=V5.lend _) (fun b o h=>l05 b o h) hx) hax (by simp [hn]) f1 (fun h=>⟨by simp [vb_ne h],f2 h⟩) g1 (by omega) (NR.le (V:=V4) (V':=V5.lend _) hpush fun b o h=>l5 b o h) (by omega)
  refine i1.mono ?_
  rintro r V6 l6 ⟨bm,vm,c1',a1,a2,rfl,a5,a6,a7,-⟩
  have l56:V5.Le V6:=fun b o h=>l6 b o h
  have Ux:V5.Le (V6.shut.hideG (vm≠[]) bm):=AL (V':=V5) l56 (View.Le.refl V5) fun h=>(a2 h).imp id fun h'=>by rw [h'.2];exact f2 Rh
  refine ⟨bm,vm,a1,a2,none,_,_,_,rfl,hs,hs,pr,rdc ((l05.trans Ux) _ _ hb) 9 rfl,fun V7 l7 bk2 d1 d2=>?_⟩
  have Uo:vm≠[]:=fun e=>by rw [e] at a6;simp at a6;omega
  have Jb:V.Le V7:=(l05.trans Ux).trans l7
  have i2:=ihy (V:=V7.lend [vb vm V7.w.heap.size bk2]) (p:=pr) (lb:=bk2) (n:=n+1+x.size) (c:=c1') (vs:=vm) (l:=l++[⟨ln,0,0⟩]++wr (n+1) x) (RW.le (V:=V) (V':=V7.lend _) (fun b o h=>Jb b o h) hy) Wx (by simp [hn,dN];omega) d1 (fun h=>⟨by simp [vb_ne h],d2 h⟩) a5 a6 (NR.le (V:=V6.hideG (vm≠[]) bm) (V':=V7.lend _) a7 fun b o h=>l7 b o h) (by omega)
  refine i2.mono ?_
  rintro r V8 l8 ⟨bn,vn,c2',b1',b2',rfl,b5,b6,b7,-⟩
  have hlen:n*8+8<=vn.length:=by omega
  simp only [Int.toNat_natCast]
  refine ⟨bn,vn,b1',b2',none,_,_,_,rfl,⟨by omega,by omega⟩,b5,by omega,⟨by omega,by omega⟩,b5,by rw [List.length_set];omega,fun V9 M6 u1 u4 u5=>?_⟩
  have hfin:=NR.kids (V:=V8.hideG (vn≠[]) bn) (l:=l) (r:=wr (n+1) x++wr (n+1+x.size) y) (ln:=ln) (u:=0) (v:=0) (x:=rt (n+1) x) (y:=rt (n+1+x.size) y) (by simpa using b7)
  rw [←hn] at hfin
  refine ⟨M6,_,c2',u4,fun h=>?_,by rw [show n+(Tr.node ln x y).size=n+1+x.size+y.size from by simp only [Tr.size];omega];rfl,by simp only [Tr.size];omega,by simp only [List.length_set];omega,?_,fun h=>by simp only [Tr.size] at h;omega⟩
  ·rcases u5 h with h|h|h
   ·exact .inl h
   ·exact .inr h
   ·exact h.elim
  ·simp only [wr]
   exact NR.le (V:=V8.hideG (vn≠[]) bn) hfin fun b o h=>u1 b o h
theorem sN {V:View}{p:OA}{t:Tr}(h:RW V p t)(ha:t.All Okb)(hs:t.size<=1000000) :
  Acts prog 12 #[.pointer p] V fun r V'=>AT V' r (rt 0 t) (wr 0 t)/\(t.size=0->r=.agg #[.int .i64 (rt 0 t),.slice none 0 0]):=by
 refine uZ p V _ fun V1 l1=>?_
 refine Acts.Oy (IF t (V:=V1) (lb:=0) (vs:=[]) (l:=[]) (n:=0) (c:=0) (h.le l1) ha rfl (fun h=>absurd rfl h) (fun h=>absurd rfl h) (Nat.le_refl _) (Nat.le_refl _) (fun i d hd=>by simp at hd) (by omega)) ?_
 rintro r V2 l2 hH ⟨bm,vm,c',a1,a2,rfl,a5,a6,a7,a8⟩
 refine ⟨bm,vm,a1,fun h=>(a2 h).imp id fun h'=>absurd rfl h'.1,none,_,_,_,rfl,fun V3 l3 bk hb=>?_⟩
 simp only [List.nil_append,Nat.zero_add] at a7 a5 ⊢
 have:=NS.ofRow (V:=V3) (b:=bk) (c:=c') (vm:=vm) (l:=wr 0 t) (ty:=78) hb (by rw [dN];exact a5) (a7.le fun b o h=>l3 b o h)
 rw [dN] at this
 refine ⟨⟨_,_,_,rfl,this⟩,fun h0=>?_⟩
 rw [a8 h0,h0]
 rfl
theorem mh {V:View}{p:OA}{t:Tr}(h:RW V p t)(ha:t.All Okb)(hs:t.size<=1000000) :
  Acts prog 12 #[.pointer p] V fun r V'=>AT V' r (rt 0 t) (wr 0 t):=(sN h ha hs).mono fun _ _ _ h=>h.1
def Ey (V:View)(vs:List Value)(i:Nat)(d:Nd):Prop:=∃(b1:Bool)(p1:OA)(n1 c1:Nat)(b2:Bool)(p2:OA)(n2 c2:Nat)(b3:Bool)(p3:OA)(n3 c3:Nat),
 (∀j v,([.bool b1,.slice p1 n1 c1,.bool b2,.slice p2 n2 c2,.bool b3,.slice p3 n3 c3,.int .i64 d.left,.int .i64 d.right]:List Value)[j]?=some v->vs[i*8+j]?=some v) /\
 Ih V (.agg #[.bool b1,.slice p1 n1 c1,.bool b2,.slice p2 n2 c2,.bool b3,.slice p3 n3 c3]) d.ln
theorem Ey.le {V V':View}{vs:List Value}{i:Nat}{d:Nd}(h:Ey V vs i d)(hl:V.Le V'):Ey V' vs i d:=by
 obtain ⟨b1,p1,n1,c1,b2,p2,n2,c2,b3,p3,n3,c3,h1,h2⟩:=h
 exact ⟨b1,p1,n1,c1,b2,p2,n2,c2,b3,p3,n3,c3,h1,h2.le hl⟩
theorem Hw {vs xs:List Value}{k i:Nat}(hx:xs.length=8)(h:k*8+8<=vs.length)(hi:i<k*8\/k*8+8<=i):(vs.take (k*8)++xs++vs.drop (k*8+8))[i]?=vs[i]?:=by
 have ht:(vs.take (k*8)).length=k*8:=by rw [List.length_take];omega
 rcases hi with hi|hi
 ·rw [List.append_assoc,List.getElem?_append_left (by omega),List.getElem?_take,if_pos hi]
 ·rw [List.getElem?_append_right (by rw [List.length_append];omega),List.length_append,ht,hx,List.getElem?_drop]
  congr 1
  omega
theorem W8 {a b c d e f g h v:Value}{j:Nat}(hv:([a,b,c,d,e,f,g,h]:List Value)[j]?=some v):j<8:=by
 rcases Nat.lt_or_ge j 8 with hj|hj
 ·exact hj
 ·rw [List.getElem?_eq_none (by simpa using hj)] at hv;cases hv
theorem Ey.out {V:View}{vs xs:List Value}{k i:Nat}{d:Nd}(h:Ey V vs i d)(hx:xs.length=8)(hk:k*8+8<=vs.length)(hi:i≠k):Ey V (vs.take (k*8)++xs++vs.drop (k*8+8)) i d:=by
 obtain ⟨b1,p1,n1,c1,b2,p2,n2,c2,b3,p3,n3,c3,h1,h2⟩:=h
 refine ⟨b1,p1,n1,c1,b2,p2,n2,c2,b3,p3,n3,c3,fun j v hv=>?_,h2⟩
 have:=W8 hv
 rw [Hw hx hk (by omega)]
 exact h1 j v hv
def vm (n b m:Nat):Nat:=(n-1-m+(n-b))%n
def DY (V:View):View:=⟨V.w,fun b=>b<V.w.heap.size,fun _=>False,fun _ h=>h,fun _ h=>h.elim⟩
theorem Ci {f:FuncId}{args:Array Value}{V:View}{o:Obj}(h:Acts prog f args (DY V) fun r V'=>∃bk,r=.pointer (some ⟨bk,0,none⟩)/\V'.aZ bk o) :
  Acts prog f args V fun r V'=>∃bk,r=.pointer (some ⟨bk,0,none⟩)/\V.w.heap.size<=bk/\V'.aZ bk o:=
 ⟨h.1,h.2.mono fun _ _ ⟨_,he,hx,bk,hr,hb⟩=>⟨_,he,⟨hx.size,fun b hb _=>hx.aZ b hb (fun h=>h),hx.os,hx.tape,hx.out⟩,bk,hr,Nat.le_of_not_lt hb.1,fun hh=>hb.1 (V.hH bk hh),hb.2⟩⟩
theorem Ai {V:View}{lp:OA}{ln lc:Nat}(hc:ln<=lc) :
  Acts prog 9 #[.slice lp ln lc] V fun r V'=>∃bk,r=.pointer (some ⟨bk,0,none⟩)/\V.w.heap.size<=bk/\V'.aZ bk (.cells #[.slice lp (min ln 400) lc,.int .i64 0] 102 (0,0)):=by
 refine Ci (zI lp ln lc (DY V) _ ?_)
 have e:bH (ln:Int) 400=((min ln 400:Nat):Int):=by
  unfold bH
  simp only [Nat.min_def]
  split<;>split<;>omega
 rw [e,Int.toNat_natCast]
 have:=Nat.min_le_left ln 400
 exact ⟨⟨by omega,by omega⟩,fun V1 l1 bk hb=>⟨bk,rfl,hb⟩⟩
theorem Eb {t:Tr}(h:t.All Okb):t.All fun x=>okL x=true:=Tr.All.imp (fun _ h=>h.1) h
theorem L7 {t:Tr}(h:t.All Okb):t.All Bd:=Tr.All.imp (fun _ h=>h.2) h
theorem Fu (l:List (Rat×Rat)):∃m:List (Rat×Rat),m.Perm l/\m.Pairwise fun x y=>¬Nl y x<0:=by
 refine ⟨l.mergeSort (fun x y=>decide (¬Nl y x<0)),List.mergeSort_perm ..,?_⟩
 refine (List.pairwise_mergeSort (le:=fun x y=>decide (¬Nl y x<0)) (fun a b c h1 h2=>?_) (fun a b=>?_) l).imp fun h=>of_decide_eq_true h
 ·exact decide_eq_true (Sec.si c b a (of_decide_eq_true h2) (of_decide_eq_true h1))
 ·by_cases h:Nl b a<0
  ·have:=Sec.rH b a h
   rw [Bool.or_eq_true]
   exact .inr (decide_eq_true this)
  ·rw [Bool.or_eq_true]
   exact .inl (decide_eq_true h)
theorem indep {t:Tr}{l:L3}(ho:(Tr.node l t t).All fun l=>¬(l.1=0/\l.2.1=0)){p:Rat×Rat}{a b:Int}(h1:DG t p a)(h2:DG (.node l t t) p b):a=b:=by
 obtain ⟨m,pm,pw⟩:=Fu (HG (Sec.jE (.node l t t) p))
 obtain ⟨ry,cv⟩:=Ju (Ji ho) pm pw
 have sm:=Fq ry
 have sub:∀x∈Sec.jE t p,x∈Sec.jE (.node l t t) p:=fun x hx=>by
  rw [Sec.jE]
  by_cases e:aj l p.1 p.2≥0
  ·rw [if_pos e];exact List.mem_append_right _ (List.mem_append_left _ hx)
  ·rw [if_pos (show aj l p.1 p.2<=0 by grind)];exact List.mem_append_right _ (List.mem_append_right _ hx)
 have e1:=h1 _ _ ry sm fun l hl=>cv l (sub l hl)
 have e2:=h2 _ _ ry sm cv
 generalize HR (vD eP m)=S at *
 have key:∀v∈S,Sec.BA (.node l t t) p v=Sec.BA t p v:=fun v hv=>by
  have n:=cv.gen (Sec.JH ry sm v hv)
  have:=(Sec.ux n fun l _=>⟨id,id⟩).2
  rw [Sec.BA] at this ⊢
  split
  ·rfl
  ·rename_i q
   rw [if_neg q] at this
   split
   ·rfl
   ·rename_i q'
    rw [if_neg q'] at this
    cases this
 have k1:Sec.anyS (.node l t t) p S=Sec.anyS t p S:=by
  unfold Sec.anyS
  rw [Bool.eq_iff_iff,List.any_eq_true,List.any_eq_true]
  constructor
  ·rintro ⟨x,hx,h⟩;exact ⟨x,hx,by rw [←key x hx];exact h⟩
  ·rintro ⟨x,hx,h⟩;exact ⟨x,hx,by rw [key x hx];exact h⟩
 have k2:Sec.Iw (.node l t t) p S=Sec.Iw t p S:=by
  unfold Sec.Iw
  rw [Bool.eq_iff_iff,List.all_eq_true,List.all_eq_true]
  constructor
  ·intro h x hx;rw [←key x hx];exact h x hx
  ·intro h x hx;rw [key x hx];exact h x hx
 rw [e1,e2,k1,k2]
end Go.Proofs.Tryz
namespace Go.Eng
def View.bare (V:View)(b:Nat):View:=⟨V.w,fun x=>V.H x/\x≠b,fun x=>V.X x/\x≠b,fun x h=>V.hH x h.1,fun x h=>⟨V.hX x h.1,h.2⟩⟩
theorem Acts.bare {P:Program}{f:FuncId}{args:Array Value}{V:View}{b:Nat}{R:Value->View->Prop}(hs:b<V.w.heap.size)(h:Acts P f args (V.bare b) R) :
  Acts P f args V fun r V'=>V'.w.heap[b]?=V.w.heap[b]?/\R r (V'.bare b):=by
 refine ⟨h.1,h.2.mono fun _ w' ⟨r,he,hx,hr⟩=>⟨r,he,⟨hx.size,fun x h1 h2=>hx.aZ x h1 fun h=>h2 h.1,hx.os,hx.tape,hx.out⟩,hx.aZ b hs (fun h=>h.2 rfl),hr⟩⟩
def J4 (V:View)(b:Nat):Prop:=∃(cs:Array Value)(ty:TypeId)(m:Nat×Nat),V.w.heap[b]?=some (.cells cs ty m)/\∀v∈cs,∀k z,v≠.int k z
theorem J4.ne {V:View}{b:Nat}(h:J4 V b){a:Addr}{k:IntKind}{z:Int}(ha:(V.bare b).at a (.int k z)):a.block≠b:=by
 obtain ⟨cs,ty,m,hb,hn⟩:=h
 intro e
 have h2:=ha.2
 unfold World.cell? at h2
 rw [e] at h2
 have hb':(V.bare b).w.heap[b]?=some (.cells cs ty m):=hb
 rw [hb'] at h2
 dsimp only at h2
 split at h2
 ·cases h2
 ·obtain ⟨hi,e2⟩:=Array.getElem?_eq_some_iff.1 h2
  exact hn _ (e2▸Array.getElem_mem hi) k z rfl
end Go.Eng
namespace Go.Proofs.Tryz
open Go.Eng Go.Big
theorem rK {a b:Rat}:eG a b<0↔a<b:=by
 constructor
 ·intro h
  by_cases c:a<b
  ·exact c
  ·by_cases e:a=b
   ·have:=iD.1 e;omega
   ·have:=rJ.1 (show b<a by grind);omega
 ·intro h;have:=yy.1 h;omega
theorem DS {a b:Rat}:eG a b>0↔b<a:=by
 constructor
 ·intro h
  rcases lN a b with ⟨g,e⟩|⟨g,e⟩|⟨g,e⟩<;>first|omega|exact g
 ·intro h;have:=rJ.1 h;omega
abbrev U5:=Bool×OA×Nat×Nat×OA×Nat×Nat×Bool×OA×Nat×Nat×OA×Nat×Nat×Bool×Bool
def PB (z:U5):Value:=.agg #[.bool z.1,.slice z.2.1 z.2.2.1 z.2.2.2.1,.slice z.2.2.2.2.1 z.2.2.2.2.2.1 z.2.2.2.2.2.2.1,.bool z.2.2.2.2.2.2.2.1,.slice z.2.2.2.2.2.2.2.2.1 z.2.2.2.2.2.2.2.2.2.1 z.2.2.2.2.2.2.2.2.2.2.1,.slice z.2.2.2.2.2.2.2.2.2.2.2.1 z.2.2.2.2.2.2.2.2.2.2.2.2.1 z.2.2.2.2.2.2.2.2.2.2.2.2.2.1,.bool z.2.2.2.2.2.2.2.2.2.2.2.2.2.2.1,.bool z.2.2.2.2.2.2.2.2.2.2.2.2.2.2.2]
theorem UN {V:View}{xb:Bool}{xp:OA}{xn xc:Nat}{xq:OA}{xm xe:Nat}{yb:Bool}{yp:OA}{yn yc:Nat}{yq:OA}{ym ye:Nat}{xa ya:Bool}{s:Sp}(h:DI V (.agg #[.bool xb,.slice xp xn xc,.slice xq xm xe,.bool yb,.slice yp yn yc,.slice yq ym ye,.bool xa,.bool ya]) s):xa=s.a/\ya=s.b/\RQ V (.agg #[.bool xb,.slice xp xn xc,.slice xq xm xe]) s.lo/\RQ V (.agg #[.bool yb,.slice yp yn yc,.slice yq ym ye]) s.hi:=by
 obtain ⟨_,_,_,_,_,_,_,_,_,_,_,_,_,_,e,h1,h2⟩:=h
 have e:=congrArg Array.toList (Value.agg.inj e)
 simp only [List.cons.injEq,Value.bool.injEq,Value.slice.injEq,and_true] at e
 obtain ⟨rfl,⟨rfl,rfl,rfl⟩,⟨rfl,rfl,rfl⟩,rfl,⟨rfl,rfl,rfl⟩,⟨rfl,rfl,rfl⟩,rfl,rfl⟩:=e
 exact ⟨rfl,rfl,h1,h2⟩
theorem O6 {V:View}{xb:Bool}{xp:OA}{xn xc:Nat}{xq:OA}{xm xe:Nat}{yb:Bool}{yp:OA}{yn yc:Nat}{yq:OA}{ym ye:Nat}{xa ya:Bool}{s:Sp}(ea:xa=s.a)(eb:ya=s.b)(h1:RQ V (.agg #[.bool xb,.slice xp xn xc,.slice xq xm xe]) s.lo)(h2:RQ V (.agg #[.bool yb,.slice yp yn yc,.slice yq ym ye]) s.hi):DI V (.agg #[.bool xb,.slice xp xn xc,.slice xq xm xe,.bool yb,.slice yp yn yc,.slice yq ym ye,.bool xa,.bool ya]) s:=by
 subst ea eb;exact ⟨_,_,_,_,_,_,_,_,_,_,_,_,_,_,rfl,h1,h2⟩
def kU (l m:L3)(s:Sp):Sp:=if 0<(dw m l).num.sign then (if s.a=true\/s.lo<ki l m then ⟨ki l m,s.hi,false,s.b⟩ else s) else (if s.b=true\/ki l m<s.hi then ⟨s.lo,ki l m,s.a,false⟩ else s)
theorem wZ {l m:L3}{s:Sp}(hc:bq l m≠0):nO l m s=if (kU l m s).a=false/\(kU l m s).b=false/\(kU l m s).hi<=(kU l m s).lo then none else some (kU l m s):=by
 unfold nO;rw [if_neg hc];rfl
theorem ET {l m:L3}{s:Sp}(hc:bq l m=0):nO l m s=if (aj m (gM l 0) (im l 0)).num.sign<=0 then none else some s:=by
 unfold nO;rw [if_pos hc]
theorem Ep {l m:L3}(hl:Nz l)(bl:Bd l)(bm:Bd m)(hc:bq l m≠0):Sz 100000 (ki l m):=by
 rw [Bb hl hc];exact (rS bl.szl bm.szl).mono (by omega)
theorem LQ {l m:L3}{s:Sp}(hl:Nz l)(bl:Bd l)(bm:Bd m)(hc:bq l m≠0)(hs:s.sz 100000):(kU l m s).sz 100000:=by
 have:=Ep hl bl bm hc
 unfold kU
 split<;>split<;>first|exact hs|exact ⟨this,hs.2⟩|exact ⟨hs.1,this⟩
theorem Gp {l m:L3}{s w:Sp}(hl:Nz l)(bl:Bd l)(bm:Bd m)(sg:s.iw)(hs:s.sz 100000)(e:nO l m s=some w):w.iw/\w.sz 100000:=by
 rw [tj hl sg] at e
 split at e
 ·rename_i g
  cases e
  exact ⟨jw sg g,zj bl.szl bm.szl hs (by omega)⟩
 ·cases e
theorem Js {V:View}{v:Value}{L:L3}(h:RL V v L.1 L.2.1 L.2.2)(hz:Nz L)(hb:Bd L):Acts prog 80 #[v] V fun r V'=>RP V' r (gM L 0) (im L 0):=by
 have sl:=hb.szl
 refine (yl h (HE hz) sl.1 sl.2.1 sl.2.2 (by omega)).mono fun r V' _ g=>?_
 have e1:gM L 0=_:=rfl
 unfold gM im
 unfold fB
 have a1:∀x y:Rat,x=y->∀z w:Rat,z=w->RP V' r x z->RP V' r y w:=by rintro x _ rfl z _ rfl h;exact h
 refine a1 _ _ ?_ _ _ ?_ g<;>grind
theorem HZ {L:L3}(hb:Bd L):Sz 30000 (gM L 0)/\Sz 30000 (im L 0):=by
 have sl:=hb.szl
 exact ⟨Sz.mono (H0 sl (KJ 1000 (by omega))) (by omega),Sz.mono (H2 sl (KJ 1000 (by omega))) (by omega)⟩
theorem yw {V:View}{cp:OA}{cn cc:Nat}{ls:List L3}{i:Nat}(h:Lst 6 RLv V cp cn ls)(hb:∀l∈ls,Bd l)(hk:∀l∈ls,okL l=true)(hl:ls.length<=1000)(hi:i<ls.length) :
  Acts prog 97 #[.slice cp cn cc,.int .i64 i] V fun r V'=>∃u s,r=.tuple #[u,.bool (edgeG ls[i] ls fullSp).isSome]/\DI V' u s/\s.sz 100000/\∀w,edgeG ls[i] ls fullSp=some w->s=w:=by
 have hn:=h.len
 subst hn
 obtain ⟨is,b1,p1,n1,c1,b2,p2,n2,c2,b3,p3,n3,c3,a,had,a0,a1,a2,a3,a4,a5,hl1⟩:=D5 h hi
 have bd:=hb _ (List.getElem_mem hi)
 have ok:=hk _ (List.getElem_mem hi)
 generalize el:ls[i]=L at *
 have sl:=bd.szl
 have nz:=LZ ok
 have hd:=lj bd
 refine wu cp ls.length cc (i:Int) V _ ⟨is,⟨by omega,by omega⟩,b1,p1,n1,c1,b2,p2,n2,c2,b3,p3,n3,c3,a,(by rw [Int.toNat_natCast];exact had),a0,a1,a2,a3,a4,a5,fun V1 l1=>yv.mono ?_⟩
 rintro r V2 l2 gf
 have Wf:=gf
 obtain ⟨_,_,_,_,_,_,_,_,_,_,_,_,_,_,rfl⟩:=Br gf
 have l02:=l1.trans l2
 refine ⟨_,_,_,_,_,_,_,_,_,_,_,_,_,_,_,_,rfl,fun z V'=>∃(j:Nat)(s:Sp),z.1=(j:Int)/\j<=ls.length/\DI V' (PB z.2) s/\s.iw/\s.sz 100000/\edgeG L ls fullSp=edgeG L (ls.drop j) s,fun z=>(ls.length-z.1).toNat,⟨(0,_,_,_,_,_,_,_,_,_,_,_,_,_,_,_,_),by and_intros<;>first|rfl|trivial,0,fullSp,rfl,Nat.zero_le _,Wf,jx,DX (by omega),by rw [List.drop_zero]⟩,?_⟩
 rintro ⟨z,xb,xp,xn,xc,xq,xm,xe,yb,yp,yn,yc,yq,ym,ye,xa,ya⟩ V3 l3 ⟨j,s,ez,hj,gs,sg,ss,eg⟩
 dsimp only [PB] at ez gs ⊢
 subst ez
 obtain ⟨rfl,rfl,Io,Im⟩:=UN gs
 have Ip:=l02.trans l3
 refine ⟨by trivial,fun hlt=>?_,fun hlt U6 Ky=>?_⟩
 rotate_left
 ·have e:j=ls.length:=by have:=of_decide_eq_false hlt;omega
  subst e
  rw [List.drop_length] at eg
  exact ⟨_,s,by rw [eg];rfl,gs.le Ky,ss,fun w e=>by rw [eg] at e;exact Option.some.inj e⟩
 have hlt:j<ls.length:=by have:=of_decide_eq_true hlt;omega
 have w1:i64.wrap ((j:Int)+1)=((j+1:Nat):Int):=by rw [i64w (by omega)];rfl
 rw [w1,Int.toNat_natCast]
 obtain ⟨PF,B1,P1,N1,C1,B2,P2,N2,C2,B3,P3,N3,C3,A,Wo,A0,A1,A2,A3,A4,A5,hm1⟩:=D5 (h.le Ip fun _ _ g=>RLv.le g Ip) hlt
 have bm:=hb _ (List.getElem_mem hlt)
 have sm:=bm.szl
 have CI:=lj bm
 have ej:j=i->ls[j]=L:=fun e=>by subst e;exact el
 have ed:ls.drop j=ls[j]::ls.drop (j+1):=List.drop_eq_getElem_cons hlt
 rw [ed] at eg
 generalize ls[j]=M at *
 have VS:edgeG L (M::ls.drop (j+1)) s=if M=L then edgeG L (ls.drop (j+1)) s else match nO L M s with|some s'=>edgeG L (ls.drop (j+1)) s'|none=>none:=rfl
 rw [VS] at eg
 have next:∀{W:View} {xb:Bool} {xp:OA} {xn xc:Nat} {xq:OA} {xm xe:Nat} {yb:Bool} {yp:OA} {yn yc:Nat} {yq:OA} {ym ye:Nat} {xa ya:Bool} {s':Sp},DI W (.agg #[.bool xb,.slice xp xn xc,.slice xq xm xe,.bool yb,.slice yp yn yc,.slice yq ym ye,.bool xa,.bool ya]) s'->s'.iw->s'.sz 100000->edgeG L ls fullSp=edgeG L (ls.drop (j+1)) s'->∃(j':Nat)(s:Sp),((j+1:Nat):Int)=(j':Int)/\j'<=ls.length/\DI W (.agg #[.bool xb,.slice xp xn xc,.slice xq xm xe,.bool yb,.slice yp yn yc,.slice yq ym ye,.bool xa,.bool ya]) s/\s.iw/\s.sz 100000/\edgeG L ls fullSp=edgeG L (ls.drop j') s:=fun g1 g2 g3 e=>⟨j+1,_,rfl,hlt,g1,g2,g3,e⟩
 refine ⟨PF,⟨by omega,by omega⟩,B1,P1,N1,C1,B2,P2,N2,C2,B3,P3,N3,C3,A,Wo,A0,A1,A2,A3,A4,A5,fun z _=>z=decide (M=L),⟨fun hz=>⟨true,by and_intros<;>rfl,?_⟩,fun hz V4 l4=>(qg (hl1.le (Ip.trans l4)) (hm1.le l4) sl sm (by omega)).mono ?_⟩,?_⟩
 ·exact (decide_eq_true (ej (by have:=of_decide_eq_true hz;omega))).symm
 ·rintro r V5 l5 rfl
  exact ⟨_,rfl,(Cx L M==(0:Int)),by and_intros<;>rfl,by rw [Ak];exact decide_eq_decide.2 eq_comm⟩
 rintro z V6 l6 rfl
 refine ⟨by trivial,fun hz=>?_,fun hz V7 l7=>(Md (hl1.le (Ip.trans (l6.trans l7))) (hm1.le (l6.trans l7)) sl sm (by omega)).mono ?_⟩
 ·rw [if_pos (of_decide_eq_true hz)] at eg
  exact ⟨(((j+1:Nat):Int),_,_,_,_,_,_,_,_,_,_,_,_,_,_,_,_),by dsimp only;omega,by and_intros<;>rfl,next (gs.le l6) sg ss eg⟩
 rw [if_neg (of_decide_eq_false hz)] at eg
 rintro r V8 l8 ⟨u,rfl,q0,q1⟩
 obtain ⟨s1,s2⟩:=JJ sl sm
 have Jc:=l6.trans (l7.trans l8)
 by_cases hc:bq L M=0
 ·have qz:=q0 hc
  unfold J6 at qz
  subst qz
  rw [ET hc] at eg
  refine ⟨_,_,_,_,_,_,_,_,_,_,_,_,_,_,_,rfl,fun _ V9 l9=>(Js (hl1.le (Ip.trans (Jc.trans l9))) nz bd).mono ?_,fun h=>by simp [hc] at h⟩
  rintro r V10 l10 gB
  have V_:=gB
  obtain ⟨_,_,_,_,_,_,_,_,_,_,_,_,rfl,-⟩:=gB
  have Ob:=Jc.trans (l9.trans l10)
  refine ⟨_,_,_,_,_,_,_,_,_,_,_,_,_,_,rfl,fun V11 l11=>(Me (hm1.le (Ob.trans l11)) (V_.le l11) (sm.up (K:=30000) (by omega)) (HZ bd).1 (HZ bd).2 (by omega)).mono ?_⟩
  rintro r V12 l12 rfl
  have Oc:=Ob.trans (l11.trans l12)
  refine ⟨_,rfl,fun hz V13 l13=>?_,fun hz=>?_⟩
  ·rw [if_pos (of_decide_eq_true hz)] at eg
   exact ⟨_,s,by rw [eg];rfl,gs.le (Oc.trans l13),ss,fun w e=>by rw [eg] at e;cases e⟩
  ·rw [if_neg (of_decide_eq_false hz)] at eg
   exact ⟨(((j+1:Nat):Int),_,_,_,_,_,_,_,_,_,_,_,_,_,_,_,_),by dsimp only;omega,by and_intros<;>rfl,next (gs.le Oc) sg ss eg⟩
 have hp:=q1 hc
 have hp0:=hp
 obtain ⟨_,_,_,_,_,_,_,_,_,_,_,_,rfl,-⟩:=hp
 refine ⟨_,_,_,_,_,_,_,_,_,_,_,_,_,_,_,rfl,fun h=>by simp [hc] at h,fun _ V14 dA=>(Jt (hl1.le (Ip.trans (Jc.trans dA))) (hp0.le dA) nz (sl.up (K:=30000) (by omega)) (s1.mono (by omega)) (s2.mono (by omega)) (by omega)).mono ?_⟩
 rintro r V15 dS gt
 have gt0:RQ V15 r (ki L M):=gt
 obtain ⟨_,_,_,_,_,_,rfl⟩:=gt.shape
 have st:=Ep nz bd bm hc
 have Od:=Jc.trans (dA.trans dS)
 refine ⟨_,_,_,_,_,_,_,rfl,fun kG dB=>(eK (hm1.le (Od.trans dB)) sm.1 sm.2.1 sm.2.2 (by omega)).mono ?_⟩
 rintro r nD cU gm
 have Wj:=gm
 obtain ⟨_,_,_,_,_,_,_,_,_,_,_,_,rfl,-⟩:=gm
 have Oe:=Od.trans (dB.trans cU)
 refine ⟨_,_,_,_,_,_,_,_,_,_,_,_,_,_,rfl,fun qN dW=>(eK (hl1.le (Ip.trans (Oe.trans dW))) sl.1 sl.2.1 sl.2.2 (by omega)).mono ?_⟩
 rintro r rG dX gl
 have Wg:=gl
 obtain ⟨_,_,_,_,_,_,_,_,_,_,_,_,rfl,-⟩:=gl
 have Ry:=Oe.trans (dW.trans dX)
 refine ⟨_,_,_,_,_,_,_,_,_,_,_,_,_,_,rfl,fun Cg iI=>(mf (k:=1000) (Wj.le (dW.trans (dX.trans iI))) (Wg.le iI) CI.1 CI.2 hd.1 hd.2 (by omega)).mono ?_⟩
 rintro r rX fA gc
 have Nv:RQ rX r (dw M L):=by
  have e:dw M L=_:=(K7 M L).symm
  rw [e];exact gc
 obtain ⟨_,_,_,_,_,_,rfl⟩:=gc.shape
 have Rz:=Ry.trans (iI.trans fA)
 refine ⟨_,_,_,_,_,_,_,rfl,fun wE jA=>(nI (Nv.le jA)).mono ?_⟩
 rintro r wF iq rfl
 have E7:=Rz.trans (jA.trans iq)
 have D3:V15.Le wF:=(dB.trans cU).trans ((dW.trans dX).trans ((iI.trans fA).trans (jA.trans iq)))
 refine ⟨_,rfl,fun z W=>DI W (PB z) (kU L M s),⟨fun hs=>?_,fun hs=>?_⟩,?_⟩
 ·have hs:0<(dw M L).num.sign:=of_decide_eq_true hs
  refine ⟨fun z _=>z=decide (s.a=true\/s.lo<ki L M),⟨fun ha=>⟨true,by and_intros<;>rfl,?_⟩,fun ha FR tH=>(nG (gt0.le (D3.trans tH)) (Io.le (E7.trans tH)) st ss.1 (by omega)).mono ?_⟩,?_⟩
  ·exact (decide_eq_true (.inl ha)).symm
  ·rintro r FE l25 rfl
   refine ⟨_,rfl,decide (eG (ki L M) s.lo>(0:Int)),by and_intros<;>rfl,?_⟩
   rw [ha]
   exact decide_eq_decide.2 ⟨fun h=>.inr (DS.1 h),fun h=>h.elim (fun h=>nomatch h) DS.2⟩
  rintro z Ka l26 rfl
  refine ⟨by trivial,fun hz=>⟨(_,_,_,_,_,_,_,_,_,_,_,_,_,_,_,_),by and_intros<;>rfl,?_⟩,fun hz=>⟨(_,_,_,_,_,_,_,_,_,_,_,_,_,_,_,_),by and_intros<;>rfl,?_⟩⟩
  ·have e:kU L M s=⟨ki L M,s.hi,false,s.b⟩:=by unfold kU;rw [if_pos hs,if_pos (of_decide_eq_true hz)]
   rw [e]
   exact O6 rfl rfl (gt0.le (D3.trans l26)) (Im.le (E7.trans l26))
  ·have e:kU L M s=s:=by unfold kU;rw [if_pos hs,if_neg (of_decide_eq_false hz)]
   rw [e]
   exact gs.le (E7.trans l26)
 ·have hs:¬0<(dw M L).num.sign:=of_decide_eq_false hs
  refine ⟨fun z _=>z=decide (s.b=true\/ki L M<s.hi),⟨fun ha=>⟨true,by and_intros<;>rfl,?_⟩,fun ha FR tH=>(nG (gt0.le (D3.trans tH)) (Im.le (E7.trans tH)) st ss.2 (by omega)).mono ?_⟩,?_⟩
  ·exact (decide_eq_true (.inl ha)).symm
  ·rintro r FE l25 rfl
   refine ⟨_,rfl,decide (eG (ki L M) s.hi<(0:Int)),by and_intros<;>rfl,?_⟩
   rw [ha]
   exact decide_eq_decide.2 ⟨fun h=>.inr (rK.1 h),fun h=>h.elim (fun h=>nomatch h) rK.2⟩
  rintro z Ka l26 rfl
  refine ⟨by trivial,fun hz=>⟨(_,_,_,_,_,_,_,_,_,_,_,_,_,_,_,_),by and_intros<;>rfl,?_⟩,fun hz=>⟨(_,_,_,_,_,_,_,_,_,_,_,_,_,_,_,_),by and_intros<;>rfl,?_⟩⟩
  ·have e:kU L M s=⟨s.lo,ki L M,s.a,false⟩:=by unfold kU;rw [if_neg hs,if_pos (of_decide_eq_true hz)]
   rw [e]
   exact O6 rfl rfl (Io.le (E7.trans l26)) (gt0.le (D3.trans l26))
  ·have e:kU L M s=s:=by unfold kU;rw [if_neg hs,if_neg (of_decide_eq_false hz)]
   rw [e]
   exact gs.le (E7.trans l26)
 rw [wZ hc] at eg
 have kk:=fun w=>Gp (w:=w) nz bd bm sg ss
 rw [wZ hc] at kk
 have sz:=LQ nz bd bm hc ss
 generalize kU L M s=s' at *
 clear gs Io Im
 rintro ⟨xb,xp,xn,xc,xq,xm,xe,yb,yp,yn,yc,yq,ym,ye,xa,ya⟩ KV Cd gs
 dsimp only [PB] at gs ⊢
 obtain ⟨rfl,rfl,Io,Im⟩:=UN gs
 refine ⟨by trivial,fun z _=>z=decide (s'.a=false/\s'.b=false/\s'.hi<=s'.lo),⟨fun ha=>⟨fun hb S3 E6=>(nG (Io.le E6) (Im.le E6) sz.1 sz.2 (by omega)).mono ?_,fun hb=>⟨false,by and_intros<;>rfl,?_⟩⟩,fun ha=>⟨false,by and_intros<;>rfl,?_⟩⟩,?_⟩
 ·rintro r Qc Iq rfl
  rw [Bool.not_eq_true'] at ha hb
  refine ⟨_,rfl,decide (eG s'.lo s'.hi≥(0:Int)),by and_intros<;>rfl,decide_eq_decide.2 ⟨fun h=>⟨ha,hb,?_⟩,fun h=>?_⟩⟩
  ·refine Rat.not_lt.1 fun g=>?_
   have:=rK.2 g;omega
  ·refine Int.not_lt.1 fun g=>?_
   have:=rK.1 g
   have:=h.2.2
   grind
 ·rw [Bool.not_eq_false'] at hb
  exact (decide_eq_false fun h=>by rw [hb] at h;cases h.2.1).symm
 ·rw [Bool.not_eq_false'] at ha
  exact (decide_eq_false fun h=>by rw [ha] at h;cases h.1).symm
 rintro z Pz zM rfl
 refine ⟨by trivial,fun hz S4 Kx=>?_,fun hz=>?_⟩
 ·rw [if_pos (of_decide_eq_true hz)] at eg
  exact ⟨_,s',by rw [eg];rfl,gs.le (zM.trans Kx),sz,fun w e=>by rw [eg] at e;cases e⟩
 ·rw [if_neg (of_decide_eq_false hz)] at eg kk
  obtain ⟨k1,k2⟩:=kk _ rfl
  exact ⟨(((j+1:Nat):Int),_,_,_,_,_,_,_,_,_,_,_,_,_,_,_,_),by dsimp only;omega,by and_intros<;>rfl,next (gs.le zM) k1 k2 eg⟩
theorem D1 (x:L3):∀(O:List L3)(j:Nat),j<=O.length->(∀(i':Nat)(h:i'<O.length),i'<j->Sec.ang (Sec.dirL O[i']) (Sec.dirL x)<0)->(∀h:j<O.length,¬Sec.ang (Sec.dirL O[j]) (Sec.dirL x)<0) ->
  insD x O=if ∃h:j<O.length,O[j]=x then O else O.take j++x::O.drop j
 | [],j,hj,_,_=>by
  rw [if_neg (fun ⟨h,_⟩=>absurd h (Nat.not_lt_zero _))]
  simp [insD]
 | u::r,0,_,_,hge=>by
  have h0:¬Sec.ang (Sec.dirL u) (Sec.dirL x)<0:=hge (Nat.zero_lt_succ _)
  unfold insD
  rw [if_neg h0]
  by_cases e:u=x
  ·rw [if_pos e,if_pos ⟨Nat.zero_lt_succ _,e⟩]
  ·rw [if_neg e,if_neg (fun ⟨_,h⟩=>e h)];rfl
 | u::r,j+1,hj,hlt,hge=>by
  have h0:Sec.ang (Sec.dirL u) (Sec.dirL x)<0:=hlt 0 (Nat.zero_lt_succ _) (Nat.zero_lt_succ _)
  unfold insD
  rw [if_pos h0,D1 x r j (by simpa using hj) (fun i' h hi=>hlt (i'+1) (by simpa using h) (by omega)) (fun h=>hge (by simpa using h))]
  by_cases c:∃h:j<r.length,r[j]=x
  ·obtain ⟨h,e⟩:=c
   rw [if_pos ⟨h,e⟩,if_pos ⟨by simpa using h,e⟩]
  ·rw [if_neg c,if_neg (fun ⟨h,e⟩=>c ⟨by simpa using h,e⟩)];rfl
theorem c_ref08_Canon {V:View}{p:OA}{n c:Nat}{ls:List L3}(h:Lst 6 RLv V p n ls)(hb:∀l∈ls,Bd l)(hk:∀l∈ls,okL l=true)(hl:ls.length<=1000) :
  Acts prog 43 #[.slice p n c] V fun r V'=>∃q m e,r=.tuple #[.slice q m e,.bool (decide (ls=[]\/refC ls ls []≠[]))]/\Lst 6 RLv V' q m (refC ls ls []):=by
 obtain rfl:=h.len
 refine uX p _ c V _ ⟨fun z V'=>∃(i:Nat)(O:List L3),z.2.2.2=(i:Int)/\i<=ls.length/\O.length<=i/\(∀q∈O,q∈ls)/\refC ls ls []=refC ls (ls.drop i) O/\GR 6 RLv V' z.1 z.2.1 z.2.2.1 O,fun z=>ls.length-z.2.2.2.toNat,
  ⟨(0,0,[],0),by and_intros<;>rfl,0,[],rfl,Nat.zero_le _,Nat.zero_le _,(fun q hq=>by cases hq),by rw [List.drop_zero],GR.nil⟩,?_⟩
 rintro ⟨w1,w2,us,z4⟩ V1 l1 ⟨i,O,e4,ile,YL,hO,eR,hg⟩
 dsimp only at e4 hg
 subst e4
 have g1:=hg.len
 have fc:=hg.le
 have fv:=hg.cap
 have fx:=hg.row
 refine ⟨rfl,fun hlt=>?_,fun hlt=>?_⟩
 rotate_left
 ·have hlt:¬(i:Int)<ls.length:=of_decide_eq_false hlt
  obtain rfl:i=ls.length:=by omega
  rw [List.drop_length] at eR
  have eR:refC ls ls []=O:=eR
  rw [eR]
  subst g1
  refine ⟨fun h0 kG dB bk hb=>?_,fun h0 kG dB bk hb=>?_⟩
  ·have h0:((ls.length:Nat):Int)=0:=by simpa using h0
   refine ⟨_,_,w2,?_,Lst.of_mrow hb (fx.le fun _ _ g=>RLv.le g dB) (by decide) fc⟩
   rw [decide_eq_true (.inl (List.length_eq_zero_iff.1 (by omega)))]
  ·have h0:¬((ls.length:Nat):Int)=0:=by simpa using h0
   refine ⟨_,_,w2,?_,Lst.of_mrow hb (fx.le fun _ _ g=>RLv.le g dB) (by decide) fc⟩
   congr 5
   refine decide_eq_decide.2 ⟨fun h=>.inr fun e=>by rw [e] at h;simp at h,fun h=>?_⟩
   rcases h with h|h
   ·rw [h] at h0;exact absurd rfl h0
   ·have:=List.length_pos_iff.2 h;omega
 have hlt:(i:Int)<ls.length:=of_decide_eq_true hlt
 have hi:i<ls.length:=by omega
 have w:i64.wrap ((i:Int)+1)=((i+1:Nat):Int):=by rw [i64w (by omega)];rfl
 dsimp only
 rw [Int.toNat_natCast,w]
 obtain ⟨ad,ha,xs,-,hf,hat⟩:=(h.le l1 fun _ _ g=>RLv.le g l1).at_ i hi
 have hf0:=hf
 obtain ⟨eb,ep,en,ec,fb,fp,fn,fe,gb,gp,gn,gc,ex⟩:=rlv_shape hf
 have ex:=congrArg Array.toList (Value.agg.inj ex)
 dsimp only at ex
 subst ex
 have ed:ls.drop i=ls[i]::ls.drop (i+1):=List.drop_eq_getElem_cons hi
 have VQ:refC ls (ls[i]::ls.drop (i+1)) O=refC ls (ls.drop (i+1)) (if (edgeG ls[i] ls fullSp).isSome=true then insD ls[i] O else O):=rfl
 rw [ed,VQ] at eR
 have hss:Bd ls[i]:=hb _ (List.getElem_mem hi)
 have hmm:ls[i]∈ls:=List.getElem_mem hi
 have Ub:∀q∈O,Bd q:=fun q hq=>hb q (hO q hq)
 clear hg
 refine ⟨iH ha,⟨by omega,by omega⟩,eb,ep,en,ec,fb,fp,fn,fe,gb,gp,gn,gc,ad,ha,hat 0 _ rfl,hat 1 _ rfl,hat 2 _ rfl,hat 3 _ rfl,hat 4 _ rfl,hat 5 _ rfl,fun V2 l2=>(yw (h.le (l1.trans l2) fun _ _ g=>RLv.le g (l1.trans l2)) hb hk hl hi).mono ?_⟩
 generalize ls[i]=x at *
 rintro r V3 l3 ⟨u,s,rfl,gs,-,-⟩
 obtain ⟨_,_,_,_,_,_,_,_,_,_,_,_,_,_,rfl⟩:=Br gs
 refine ⟨_,_,_,_,_,_,_,_,_,_,_,_,_,_,_,_,_,rfl,fun hz=>?_,fun hz=>?_⟩
 ·rw [Bool.not_eq_true'] at hz
  rw [hz,if_neg (by decide)] at eR
  exact ⟨(w1,w2,us,((i+1:Nat):Int)),by dsimp only;omega,by and_intros<;>rfl,i+1,O,rfl,hi,by omega,hO,eR,g1,fc,fv,fx.le fun _ _ g=>RLv.le g (l2.trans l3)⟩
 rw [Bool.not_eq_false'] at hz
 rw [hz,if_pos rfl] at eR
 have hq0:RLv V1 _ x:=hf0
 refine ⟨fun z _=>∃j:Nat,z=(j:Int)/\j<=O.length/\∀(i':Nat)(h:i'<O.length),i'<j->Sec.ang (Sec.dirL O[i']) (Sec.dirL x)<0,fun z=>O.length-z.toNat,⟨0,by and_intros<;>rfl,0,rfl,Nat.zero_le _,fun i' _ h=>absurd h (Nat.not_lt_zero i')⟩,?_⟩
 rintro z V4 l4 ⟨j,rfl,jle,jl⟩
 have wj:i64.wrap ((j:Int)+1)=((j+1:Nat):Int):=by rw [i64w (by omega)];rfl
 rw [Int.toNat_natCast,wj]
 have dA:=l2.trans (l3.trans l4)
 have sx:=hss.szl
 have dx:=lj hss
 refine ⟨rfl,fun z _=>z=true↔∃h:j<O.length,Sec.ang (Sec.dirL O[j]) (Sec.dirL x)<0,⟨fun hlt=>?_,fun hlt=>⟨false,by and_intros<;>rfl,?_⟩⟩,?_⟩
 ·have hlt:(j:Int)<(w1:Int):=of_decide_eq_true hlt
  have hj:j<O.length:=by omega
  have hbj:=Ub _ (List.getElem_mem hj)
  have sj:=hbj.szl
  have dj:=lj hbj
  obtain ⟨b1,p1,n1,c1,b2,p2,n2,c2,b3,p3,n3,c3,eY,Lc,hr⟩:=HM fx hj
  refine ⟨⟨by omega,by omega⟩,fc,b1,p1,n1,c1,b2,p2,n2,c2,b3,p3,n3,c3,⟨eY,Lc⟩,fun V5 l5=>(eK (hr.le (dA.trans l5)) sj.1 sj.2.1 sj.2.2 (by omega)).mono ?_⟩
  rintro r V6 l6 gd
  have Wa:=gd
  obtain ⟨_,_,_,_,_,_,_,_,_,_,_,_,rfl,-⟩:=gd
  refine ⟨_,_,_,_,_,_,_,_,_,_,_,_,_,_,rfl,fun V7 l7=>(eK (RL.le hq0 (dA.trans (l5.trans (l6.trans l7)))) sx.1 sx.2.1 sx.2.2 (by omega)).mono ?_⟩
  rintro r V8 l8 ge
  have Wb:=ge
  obtain ⟨_,_,_,_,_,_,_,_,_,_,_,_,rfl,-⟩:=ge
  refine ⟨_,_,_,_,_,_,_,_,_,_,_,_,_,_,rfl,fun V9 l9=>(vt (a:=Sec.dirL O[j]) (b:=Sec.dirL x) (Wa.le (l7.trans (l8.trans l9))) (Wb.le l9) dj.1 dj.2 dx.1 dx.2 (by omega)).mono ?_⟩
  rintro r V10 l10 rfl
  exact ⟨_,rfl,decide (Sec.ang (Sec.dirL O[j]) (Sec.dirL x)<0),by and_intros<;>rfl,by dsimp only;rw [decide_eq_true_eq];exact ⟨fun h=>⟨hj,h⟩,fun ⟨_,h⟩=>h⟩⟩
 ·have hlt:¬(j:Int)<(w1:Int):=of_decide_eq_false hlt
  exact ⟨(fun h=>nomatch h),fun ⟨h,_⟩=>absurd h (by omega)⟩
 rintro z V7 l7 Us
 refine ⟨rfl,fun hz=>?_,fun hz=>?_⟩
 ·obtain ⟨hj,hx'⟩:=Us.1 hz
  refine ⟨((j+1:Nat):Int),by dsimp only;omega,by and_intros<;>rfl,j+1,rfl,hj,fun i' h hi'=>?_⟩
  by_cases e:i'=j
  ·subst e;exact hx'
  ·exact jl i' h (by omega)
 have hge:∀h:j<O.length,¬Sec.ang (Sec.dirL O[j]) (Sec.dirL x)<0:=fun h h'=>by
  have:=Us.2 ⟨h,h'⟩
  rw [hz] at this;cases this
 have hins:=D1 x O j jle jl hge
 have NF:∀q∈insD x O,q∈ls:=fun q hq=>(insD_mem.1 hq).elim (fun e=>e▸hmm) (hO q)
 have cU:=dA.trans l7
 refine ⟨fun z _=>z=true↔∃h:j<O.length,O[j]=x,⟨fun hlt=>?_,fun hlt=>⟨false,by and_intros<;>rfl,?_⟩⟩,?_⟩
 ·have hlt:(j:Int)<(w1:Int):=of_decide_eq_true hlt
  have hj:j<O.length:=by omega
  obtain ⟨b1,p1,n1,c1,b2,p2,n2,c2,b3,p3,n3,c3,eY,Lc,hr⟩:=HM fx hj
  refine ⟨⟨by omega,by omega⟩,fc,b1,p1,n1,c1,b2,p2,n2,c2,b3,p3,n3,c3,⟨eY,Lc⟩,fun V8 l8=>(qg (hr.le (cU.trans l8)) (RL.le hq0 (cU.trans l8)) (Ub _ (List.getElem_mem hj)).szl hss.szl (by omega)).mono ?_⟩
  rintro r V9 l9 rfl
  exact ⟨_,rfl,(Cx O[j] x==(0:Int)),by and_intros<;>rfl,by dsimp only;rw [Ak,decide_eq_true_eq];exact ⟨fun h=>⟨hj,h⟩,fun ⟨_,h⟩=>h⟩⟩
 ·have hlt:¬(j:Int)<(w1:Int):=of_decide_eq_false hlt
  exact ⟨(fun h=>nomatch h),fun ⟨h,_⟩=>absurd h (by omega)⟩
 rintro z V10 l10 N0
 have LK:=cU.trans l10
 refine ⟨rfl,fun hz=>?_,fun hz V11 l11 bk hb J=>?_⟩
 ·have hex:=N0.1 hz
  rw [if_pos hex] at hins
  rw [hins] at eR
  exact ⟨(w1,w2,us,((i+1:Nat):Int)),by dsimp only;omega,by and_intros<;>rfl,i+1,O,rfl,hi,by omega,hO,eR,g1,fc,fv,fx.le fun _ _ g=>RLv.le g LK⟩
 ·have hne:¬∃h:j<O.length,O[j]=x:=fun h=>by have:=N0.2 h;rw [hz] at this;cases this
  rw [if_neg hne] at hins
  have Yz:=fx.gY (by decide)
  have Qs:=fx.le (V':=V11) fun _ _ g=>RLv.le g (LK.trans l11)
  have hq12:RLv V11 _ x:=RLv.le hq0 (LK.trans l11)
  have t1:(us.take (j*6)).length=j*6:=by rw [List.length_take];omega
  have t2:((us.take (O.length*6)).drop (j*6)).length=(w1-j)*6:=by rw [List.length_drop,List.length_take,g1];omega
  have oc:∀v∈(us.take (O.length*6)).drop (j*6),v.oneCell'=true:=by
   intro v l_
   obtain ⟨m,hm,e⟩:=List.mem_iff_getElem.1 (List.mem_of_mem_drop l_)
   have hm':m<O.length*6:=by rw [List.length_take] at hm;omega
   have:=List.getElem?_eq_getElem hm
   rw [e,List.getElem?_take,if_pos hm'] at this
   exact row_one_cell fx (by decide) (fun _ _=>Ef) hm' this
  have hmem:0<w2->us≠[]:=fun hw e=>by rw [e] at fv;simp at fv;omega
  have Kn:0<w2->mA bk w2=some ⟨bk,0,none⟩:=fun hw=>by unfold mA;rw [if_neg (by omega)]
  have at_:∀m v,m<O.length*6->us[m]?=some v->V11.at ⟨bk,m,none⟩ v:=fun m v hm l_=>blk_at (hb (hmem (by omega))) l_
  refine ⟨⟨by omega,by omega⟩,⟨by omega,by omega⟩,⟨by omega,by omega⟩,(us.take (O.length*6)).drop (j*6),?_,t2,by omega,Nat.le_refl _,Nat.le_refl 6,t2,oc,fun bk2 J2 sp c' h1 h2=>?_⟩
  ·intro m v hm
   have hml:=(List.getElem?_eq_some_iff.1 hm).1
   rw [t2] at hml
   rw [List.getElem?_drop,List.getElem?_take,if_pos (by omega)] at hm
   have:=at_ (j*6+m) v (by omega) hm
   refine ⟨⟨bk,j*6,none⟩,?_,?_⟩
   ·unfold pN
    rw [if_neg (by omega),Kn (by omega)]
    simp [addrAdd,add_zero']
   ·rw [←add_zero',r_,add_zero'];exact this
  ·have hrl:([.bool eb,.slice ep en ec,.bool fb,.slice fp fn fe,.bool gb,.slice gp gn gc]++(us.take (O.length*6)).drop (j*6):List Value).length=(1+(w1-j))*6:=by
    rw [List.length_append,t2];simp only [List.length_cons,List.length_nil];omega
   have hrt:rowTake (([.bool eb,.slice ep en ec,.bool fb,.slice fp fn fe,.bool gb,.slice gp gn gc]:List Value).take (1*6)++(us.take (O.length*6)).drop (j*6)++sp) 0 ((1+(w1-j))*6)=[.bool eb,.slice ep en ec,.bool fb,.slice fp fn fe,.bool gb,.slice gp gn gc]++(us.take (O.length*6)).drop (j*6):=by
    have e3:(([.bool eb,.slice ep en ec,.bool fb,.slice fp fn fe,.bool gb,.slice gp gn gc]:List Value).take (1*6))=[.bool eb,.slice ep en ec,.bool fb,.slice fp fn fe,.bool gb,.slice gp gn gc]:=rfl
    rw [e3]
    unfold rowTake
    rw [Nat.ble_eq_true_of_le (by rw [List.length_append,hrl];omega),cond_true,List.drop_zero,List.take_append_of_le_length (by rw [hrl];exact Nat.le_refl _),List.take_of_length_le (by rw [hrl];exact Nat.le_refl _)]
   have hr3:(1+(w1-j))*6 / 6=1+(w1-j):=Nat.mul_div_cancel _ (by decide)
   rw [hrt,hrl,hr3]
   refine ⟨us.take (j*6),?_,t1,Nat.le_refl _,?_,by omega,by omega,rfl,?_,fun sp2 c2' h3 h4=>⟨(j+(1+(w1-j)),c2',_,((i+1:Nat):Int)),by dsimp only;omega,by and_intros<;>first|rfl|omega,i+1,insD x O,rfl,hi,?_,NF,eR,?_⟩⟩
   ·intro m v hm
    have hml:=(List.getElem?_eq_some_iff.1 hm).1
    rw [t1] at hml
    rw [List.getElem?_take,if_pos hml] at hm
    exact ⟨⟨bk,0,none⟩,Kn (by omega),by rw [add_zero'];exact at_ m v (by omega) hm⟩
   ·intro hN
    by_cases hw:0<w2
    ·rw [Kn hw] at hN;cases hN
    ·omega
   ·intro v l_
    rcases List.mem_append.1 l_ with l_|l_
    ·exact one6 v l_
    ·exact oc v l_
   ·rw [hins,List.length_append,List.length_take,List.length_cons,List.length_drop]
    omega
   ·show GR 6 RLv _ _ _ _ (insD x O)
    rw [hins]
    refine ⟨?_,h3,?_,ug Qs jle rfl hq12 (by decide)⟩
    ·show j+(1+(w1-j))=_
     rw [List.length_append,List.length_take,List.length_cons,List.length_drop]
     omega
    ·dsimp only
     rw [List.length_append,List.length_append,t1,hrl]
     omega
end Go.Proofs.Tryz
namespace Go.Proofs.Tryz
open Go.Eng
set_option maxRecDepth 100000
end Go.Proofs.Tryz
namespace Go.Proofs.Tryz
open Go.Eng Go.Big
end Go.Proofs.Tryz
namespace Go.Proofs.Tryz
open Go.Eng
set_option maxRecDepth 100000
end Go.Proofs.Tryz
namespace Go.Proofs.Tryz
open Go.Eng Go.Big
theorem row_ones {V:View}{vs:List Value}{ls:List L3}(h:Row 6 RLv V vs ls)(hl:vs.length=ls.length*6):∀v∈vs,v.oneCell'=true:=by
 intro v hv
 obtain ⟨m,hm,e⟩:=List.mem_iff_getElem.1 hv
 exact row_one_cell h (by decide) (fun _ _=>Ef) (m:=m) (by omega) (by rw [←e];exact List.getElem?_eq_getElem hm)
theorem rowE_app {V:View}{xs ys sp sp':List Value}{ls:List L3}{m:L3}{n:Nat}(hn:n=ls.length)(h:Row 6 RLv V xs ls)(hx:xs.length=n*6)(hy:ys.length=6)(hm:RLv V (.agg ys.toArray) m):Row 6 RLv V ((([]:List Value).take (0*6)++xs++sp).take ((0+n)*6)++ys++sp') (ls++[m]):=by
 subst hn
 have e:([]:List Value).take (0*6)++xs++sp=xs++sp:=by simp
 rw [e,Nat.zero_add]
 have h1:Row 6 RLv V (xs++sp) ls:=by
  have:=row_append (V:=V) (vs:=[]) (ls:=[]) (sp:=sp) (Row.nil) h (by decide)
  simpa using this
 exact row_append h1 (row_one hy hm) (by decide)
def partsC:Tr->List Sd->List (List Sd×Bool)
 | .leaf b,c=>[(c,b)]
 | .node l x y,c=>(match clipC c l with|some d=>partsC x d|none=>[])++(match clipC c (revL l) with|some d=>partsC y d|none=>[])
def cellsR:Tr->List L3->List (List L3×Bool)
 | .leaf b,ls=>if ls=[]\/refC ls ls []≠[] then [(refC ls ls [],b)] else []
 | .node l x y,ls=>if ls=[]\/refC ls ls []≠[] then cellsR x (refC ls ls []++[l])++cellsR y (refC ls ls []++[revL l]) else []
theorem Gf {c d:List Sd}{l:L3}(e:clipC c l=some d):∀s∈d,s.1=l\/s.1∈c.map Prod.fst:=fun s hs=>by
 unfold clipC at e
 split at e
 ·cases e
  rcases jz.1 hs with rfl|hs
  ·exact .inl rfl
  ·obtain ⟨u,hu,-,rfl⟩:=sZ.1 hs
   exact .inr (List.mem_map.2 ⟨u,hu,rfl⟩)
 ·split at e
  ·cases e
   exact .inr (List.mem_map.2 ⟨s,hs,rfl⟩)
  ·cases e
theorem Nn {S M:List L3}(hsub:∀m∈S,m∈M)(hk:∀m∈M,okL m=true)(IZ:∀p:Sec.V2,(∀m∈S,0<=aj m p.1 p.2)->∀m∈M,0<=aj m p.1 p.2){q:Sec.V2}(hq:Sec.pos M q){x:L3}(hx:x∈S){p:Sec.V2}(p0:aj x p.1 p.2=0)(p1:∀m∈S,m≠x->0<aj m p.1 p.2):∀m∈M,m≠x->0<aj m p.1 p.2:=by
 have hp:∀s∈S,0<=aj s p.1 p.2:=fun s hs=>by
  by_cases es:s=x
  ·rw [es,p0];decide
  ·exact Rat.le_of_lt (p1 s hs es)
 intro m hm hne
 have h0:=IZ p hp m hm
 by_cases hz:aj m p.1 p.2=0
 ·exfalso
  have Xd:=hk x (hsub x hx)
  by_cases hc:Sec.cr (Sec.dirL m) (Sec.dirL x)=0
  ·rcases HO (hk m hm) Xd hz p0 hc with g|g
   ·exact hne g
   ·have a1:=hq m hm
    have a2:=hq x (hsub x hx)
    rw [g,val_rev] at a1
    grind
  ·have hcn:Sec.nv m (Sec.dirL x)≠0:=fun g=>hc (by unfold Sec.nv Sec.dirL at g;unfold Sec.cr Sec.dirL;dsimp only at g ⊢;grind)
   have hx0:Sec.nv x (Sec.dirL x)=0:=by unfold Sec.nv Sec.dirL;dsimp only;grind
   obtain ⟨v,hv,hxv⟩:∃v:Sec.V2,Sec.nv m v<0/\Sec.nv x v=0:=by
    by_cases g:Sec.nv m (Sec.dirL x)<0
    ·exact ⟨_,g,hx0⟩
    ·refine ⟨(-(Sec.dirL x).1,-(Sec.dirL x).2),?_,?_⟩
     ·have:Sec.nv m (-(Sec.dirL x).1,-(Sec.dirL x).2)=-Sec.nv m (Sec.dirL x):=by unfold Sec.nv;dsimp only;grind
      rw [this];grind
     ·have:Sec.nv x (-(Sec.dirL x).1,-(Sec.dirL x).2)=-Sec.nv x (Sec.dirL x):=by unfold Sec.nv;dsimp only;grind
      rw [this,hx0];decide
   obtain ⟨t,t0,ht⟩:=Sec.uo ((S.filter fun s=>decide (s≠x)).map fun s=>(aj s p.1 p.2,Sec.nv s v)) (fun y hy=>by
    obtain ⟨s,hs,rfl⟩:=List.mem_map.1 hy
    obtain ⟨h1,h2⟩:=List.mem_filter.1 hs
    exact p1 s h1 (of_decide_eq_true h2))
   have key:∀s∈S,0<=aj s (p.1+t*v.1) (p.2+t*v.2):=fun s hs=>by
    rw [Sec.fy]
    by_cases es:s=x
    ·rw [es,p0,hxv]
     have:(0:Rat)+t*0=0:=by grind
     rw [this];decide
    ·exact Rat.le_of_lt (ht _ (List.mem_map.2 ⟨s,List.mem_filter.2 ⟨hs,decide_eq_true es⟩,rfl⟩))
   have:=IZ (p.1+t*v.1,p.2+t*v.2) key m hm
   dsimp only at this
   rw [Sec.fy,hz] at this
   have:=Sec.mp t0 (show -Sec.nv m v>0 by grind)
   grind
 ·grind
theorem Np {S M:List L3}(hsub:∀m∈S,m∈M)(hk:∀m∈M,okL m=true)(IZ:∀p:Sec.V2,(∀m∈S,0<=aj m p.1 p.2)->∀m∈M,0<=aj m p.1 p.2){q:Sec.V2}(hq:Sec.pos M q){x:L3}(hx:x∈S)(e:Sec.Es S x):Sec.Es M x:=by
 obtain ⟨p,p0,p1⟩:=e
 exact ⟨p,p0,Nn hsub hk IZ hq hx p0 p1⟩
theorem Ge {M:List L3}{c:List Sd}(h:CanC M c)(hk:∀m∈M,okL m=true){l:L3}(hl:okL l=true) :
  (∀d,clipC c l=some d->refC (c.map Prod.fst++[l]) (c.map Prod.fst++[l]) []=d.map Prod.fst/\d.map Prod.fst≠[])/\(clipC c l=none->refC (c.map Prod.fst++[l]) (c.map Prod.fst++[l]) []=[]):=by
 have ok:=HT h hk
 have okA:∀m∈c.map Prod.fst++[l],okL m=true:=fun m hm=>(List.mem_append.1 hm).elim (ok m) fun g=>by rw [List.mem_singleton.1 g];exact hl
 have UH:∀m∈l::M,okL m=true:=fun m hm=>(List.mem_cons.1 hm).elim (fun g=>g▸hl) (hk m)
 have hsub:∀m∈c.map Prod.fst++[l],m∈l::M:=fun m hm=>(List.mem_append.1 hm).elim (fun g=>by
  obtain ⟨s,hs,rfl⟩:=List.mem_map.1 g
  exact List.mem_cons_of_mem _ (h.mem s hs).1) fun g=>by rw [List.mem_singleton.1 g];exact List.mem_cons_self ..
 have Ma:∀q,Sec.pos (c.map Prod.fst++[l]) q->Sec.pos (l::M) q:=fun q hq m hm=>by
  rcases List.mem_cons.1 hm with rfl|hm
  ·exact hq m (List.mem_append_right _ (List.mem_singleton.2 rfl))
  ·exact (Ft h hk q).1 (fun m hm=>hq m (List.mem_append_left _ hm)) m hm
 have yx:∀p:Sec.V2,(∀m∈c.map Prod.fst++[l],0<=aj m p.1 p.2)->∀m∈l::M,0<=aj m p.1 p.2:=fun p hp m hm=>by
  rcases List.mem_cons.1 hm with rfl|hm
  ·exact hp m (List.mem_append_right _ (List.mem_singleton.2 rfl))
  ·exact IG h hk (fun s hs=>hp _ (List.mem_append_left _ (List.mem_map.2 ⟨s,hs,rfl⟩))) m hm
 obtain ⟨h1,h2⟩:=clip_ok h hk hl
 obtain ⟨g1,g2⟩:=Gd okA
 constructor
 ·intro d e
  have hd:=h1 d e
  obtain ⟨q,hq⟩:=hd.pos
  cases e3:fG (c.map Prod.fst++[l]) [] [] with
  | none=>exact absurd ⟨q,fun m hm=>hq m (hsub m hm)⟩ (g2 e3).2.2
  | some c3=>
   obtain ⟨a1,a2,a3⟩:=g1 c3 e3
   have e4:c3.map Prod.fst=d.map Prod.fst:=by
    refine sB (List.pairwise_map.2 a2.asc) (List.pairwise_map.2 hd.asc) fun x=>⟨fun hx=>?_,fun hx=>?_⟩
    ·obtain ⟨s,hs,rfl⟩:=List.mem_map.1 hx
     have m1:=List.mem_reverse.1 (a2.mem s hs).1
     have es:Sec.Es (c.map Prod.fst++[l]) s.1:=by
      obtain ⟨p,p0,p1⟩:=El a2 (fun m hm=>okA m (List.mem_reverse.1 hm)) hs
      exact ⟨p,p0,fun m hm=>p1 m (List.mem_reverse.2 hm)⟩
     obtain ⟨v,hv⟩:=hd.all s.1 (hsub _ m1) (Np hsub UH yx hq m1 es)
     exact List.mem_map.2 ⟨_,hv,rfl⟩
    ·obtain ⟨s,hs,rfl⟩:=List.mem_map.1 hx
     have m1:s.1∈c.map Prod.fst++[l]:=by
      rcases Gf e s hs with g|g
      ·rw [g];exact List.mem_append_right _ (List.mem_singleton.2 rfl)
      ·exact List.mem_append_left _ g
     obtain ⟨p,p0,p1⟩:=El hd UH hs
     obtain ⟨v,hv⟩:=a2.all s.1 (List.mem_reverse.2 m1) ⟨p,p0,fun m hm=>p1 m (hsub m (List.mem_reverse.1 hm))⟩
     exact List.mem_map.2 ⟨_,hv,rfl⟩
   rw [a1,e4]
   refine ⟨rfl,fun g=>?_⟩
   rcases a3 with a3|a3
   ·have:=congrArg List.length a3
    simp at this
   ·rw [a1,e4,g] at a3;exact a3 rfl
 ·intro e
  cases e3:fG (c.map Prod.fst++[l]) [] [] with
  | none=>exact (g2 e3).1
  | some c3=>
   obtain ⟨q,hq⟩:=(g1 c3 e3).2.1.pos
   exact absurd ⟨q,Ma q fun m hm=>hq m (List.mem_reverse.2 hm)⟩ (h2 e)
theorem sR:∀{t:Tr} {M:List L3} {c:List Sd} {ls:List L3},CanC M c->(∀m∈M,okL m=true)->t.All (fun l=>okL l=true)->(ls=[]\/refC ls ls []≠[])->refC ls ls []=c.map Prod.fst->cellsR t ls=(partsC t c).map fun p=>(p.1.map Prod.fst,p.2)
 | .leaf b,M,c,ls,_,_,_,h0,e=>by
  unfold cellsR partsC
  rw [if_pos h0,e];rfl
 | .node l x y,M,c,ls,h,hk,ht,h0,e=>by
  obtain ⟨hl,hx,hy⟩:=ht
  unfold cellsR partsC
  rw [if_pos h0,e,List.map_append]
  have half:∀{m:L3} {z:Tr},okL m=true->(∀{M:List L3} {c:List Sd} {ls:List L3},CanC M c->(∀m∈M,okL m=true)->(ls=[]\/refC ls ls []≠[])->refC ls ls []=c.map Prod.fst->cellsR z ls=(partsC z c).map fun p=>(p.1.map Prod.fst,p.2))->cellsR z (c.map Prod.fst++[m])=(match clipC c m with|some d=>partsC z d|none=>[]).map (fun p:List Sd×Bool=>(p.1.map Prod.fst,p.2)):=fun {m z} hm ih=>by
   obtain ⟨g1,g2⟩:=Ge h hk hm
   cases ec:clipC c m with
   | some d=>
    obtain ⟨k1,k2⟩:=g1 d ec
    exact ih ((clip_ok h hk hm).1 d ec) (fun n hn=>(List.mem_cons.1 hn).elim (fun g=>g▸hm) (hk n)) (.inr (by rw [k1];exact k2)) k1
   | none=>
    have k:=g2 ec
    have hn:¬(c.map Prod.fst++[m]=[]\/refC (c.map Prod.fst++[m]) (c.map Prod.fst++[m]) []≠[]):=fun g=>g.elim (fun g=>by have:=congrArg List.length g;simp at this) fun g=>g k
    cases z with
    | leaf b=>unfold cellsR;rw [if_neg hn];rfl
    | node a b d=>unfold cellsR;rw [if_neg hn];rfl
  rw [half hl fun h hk h0 e=>sR h hk hx h0 e,half (ok_rev hl) fun h hk h0 e=>sR h hk hy h0 e]
theorem pK {P:L3->Prop}(hr:∀l,P l->P (revL l))(hP:∀l,P l->okL l=true):∀{t:Tr} {M:List L3} {c:List Sd},CanC M c->(∀m∈M,P m)->t.All P->∀p∈partsC t c,∃M',CanC M' p.1/\∀m∈M',P m
 | .leaf b,M,c,h,hk,_,p,hp=>by
  unfold partsC at hp
  rw [List.mem_singleton.1 hp]
  exact ⟨M,h,hk⟩
 | .node l x y,M,c,h,hk,ht,p,hp=>by
  obtain ⟨hl,hx,hy⟩:=ht
  unfold partsC at hp
  have half:∀{m:L3} {z:Tr},P m->(∀{M:List L3} {c:List Sd},CanC M c->(∀m∈M,P m)->∀p∈partsC z c,∃M',CanC M' p.1/\∀m∈M',P m)->p∈(match clipC c m with|some d=>partsC z d|none=>[])->∃M',CanC M' p.1/\∀m∈M',P m:=fun {m z} hm ih hp=>by
   cases ec:clipC c m with
   | some d=>
    rw [ec] at hp
    exact ih ((clip_ok h (fun m hm=>hP m (hk m hm)) (hP m hm)).1 d ec) (fun n hn=>(List.mem_cons.1 hn).elim (fun g=>g▸hm) (hk n)) p hp
   | none=>rw [ec] at hp;cases hp
  rcases List.mem_append.1 hp with hp|hp
  ·exact half hl (fun h hk=>pK hr hP h hk hx) hp
  ·exact half (hr l hl) (fun h hk=>pK hr hP h hk hy) hp
def RCe (V:View)(v:Value)(p:List L3×Bool):Prop:=∃q n c,v=.agg #[.slice q n c,.bool p.2]/\Lst 6 RLv V q n p.1/\n<=1000
theorem RCe.le {V V':View}{v:Value}{p:List L3×Bool}(h:RCe V v p)(l:V.Le V'):RCe V' v p:=by
 obtain ⟨q,n,c,rfl,h1,h2⟩:=h
 exact ⟨q,n,c,rfl,h1.le l fun _ _ g=>RLv.le g l,h2⟩
theorem rce_one {V:View}{xs:List Value}{p:List L3×Bool}(h:RCe V (.agg xs.toArray) p):∀v∈xs,v.oneCell'=true:=by
 obtain ⟨q,n,c,ex,-⟩:=h
 have ex:=congrArg Array.toList (Value.agg.inj ex)
 dsimp only at ex
 subst ex
 intro v hv
 simp only [List.mem_cons,List.not_mem_nil,or_false] at hv
 rcases hv with rfl|rfl<;>rfl
theorem insD_len (l:L3):∀o:List L3,(insD l o).length<=o.length+1
 | []=>Nat.le_refl _
 | u::r=>by
  have:=insD_len l r
  unfold insD
  split
  ·simp only [List.length_cons];omega
  ·split<;>simp only [List.length_cons]<;>omega
theorem refC_len (c:List L3):∀(r o:List L3),(refC c r o).length<=r.length+o.length
 | [],o=>by unfold refC;simp
 | l::r,o=>by
  unfold refC
  have h:=refC_len c r (if (edgeG l c fullSp).isSome=true then insD l o else o)
  have h2:(if (edgeG l c fullSp).isSome=true then insD l o else o).length<=o.length+1:=by
   split
   ·exact insD_len l o
   ·omega
  rw [List.length_cons];omega
theorem refC_mem (c:List L3):∀(r o:List L3),∀x∈refC c r o,x∈r\/x∈o
 | [],o,x,h=>.inr h
 | l::r,o,x,h=>by
  unfold refC at h
  rcases refC_mem c r _ x h with h|h
  ·exact .inl (List.mem_cons_of_mem _ h)
  ·split at h
   ·rcases insD_mem.1 h with rfl|h
    ·exact .inl (List.mem_cons_self ..)
    ·exact .inr h
   ·exact .inr h
theorem cells_len:∀(t:Tr)(ls:List L3),(cellsR t ls).length<=t.size+1
 | .leaf b,ls=>by unfold cellsR;split<;>simp
 | .node l x y,ls=>by
  unfold cellsR
  simp only [Tr.size]
  split
  ·rw [List.length_append]
   have:=cells_len x (refC ls ls []++[l])
   have:=cells_len y (refC ls ls []++[revL l])
   omega
  ·simp
theorem row_takeF {α:Type}{sz:Nat}{R:View->Value->α->Prop}{V:View}{vs:List Value}{l:List α}(h:Row sz R V vs l):Row sz R V (vs.take (l.length*sz)) l:=by
 refine ⟨fun i hi=>?_⟩
 obtain ⟨xs,h1,h2,h3⟩:=h.at_ i hi
 refine ⟨xs,h1,h2,fun j x hj=>?_⟩
 have hlt:j<sz:=by rw [←h1];exact (List.getElem?_eq_some_iff.1 hj).1
 have hm:i*sz+sz<=l.length*sz:=by
  have:=Nat.mul_le_mul_right sz (Nat.succ_le_of_lt hi)
  rw [Nat.succ_mul] at this
  exact this
 rw [List.getElem?_take,if_pos (by omega)]
 exact h3 j x hj
theorem gr_take {α:Type}{sz:Nat}{R:View->Value->α->Prop}{V:View}{n c:Nat}{vs:List Value}{l:List α}(h:GR sz R V n c vs l):rowTakeM vs n c sz=vs.take (n*sz)/\(rowTakeM vs n c sz).length=n*sz:=by
 have h1:=h.le
 have h2:=h.cap
 have h3:n*sz<=c*sz:=Nat.mul_le_mul_right _ h1
 have e1:Nat.ble n c=true:=Nat.ble_eq_true_of_le h1
 have e2:Nat.ble (0+n*sz) vs.length=true:=Nat.ble_eq_true_of_le (by omega)
 have e:rowTakeM vs n c sz=vs.take (n*sz):=by
  unfold rowTakeM rowTake
  rw [e1,cond_true,e2,cond_true,List.drop_zero]
 exact ⟨e,by rw [e,List.length_take];omega⟩
def CellsR (V V':View)(r:Value)(o:List (List L3×Bool)):Prop:=∃(bm:Nat)(vm:List Value)(n c:Nat),(vm≠[]->V'.w.heap[bm]?=some (.cells vm.toArray 45 (0,0)))/\(vm≠[]->V.w.heap.size<=bm)/\r=.slice (mA bm c) n c/\GR 2 RCe (V'.hideG (vm≠[]) bm) n c vm o
theorem CellsR.nil {V V':View}:CellsR V V' (.slice none 0 0) []:=⟨0,[],0,0,fun h=>absurd rfl h,fun h=>absurd rfl h,rfl,GR.nil⟩
theorem c_ref14_Cells:∀(t:Tr) {V:View} {q cp:OA} {cn cc:Nat} {ls:List L3},RW V q t->t.All Okb->Lst 6 RLv V cp cn ls->(∀l∈ls,Bd l)->(∀l∈ls,okL l=true)->ls.length+t.size<=900 ->
  Acts prog 14 #[.pointer q,.slice cp cn cc] V fun r V'=>CellsR V V' r (cellsR t ls):=by
 intro t
 induction t with
 | leaf i=>
  intro V q cp cn cc ls h ha hL hb hk hs
  have hc:=refC_len ls ls []
  obtain ⟨bb,c2,c3,c4,c5,c6,c7,c8,c9,rfl,hbb⟩:=h
  refine vc_ref14_Cells _ cp cn cc V _ fun V1 l1=>(c_ref08_Canon (hL.le l1 fun _ _ g=>RLv.le g l1) hb hk (by omega)).mono ?_
  rintro r V2 l2 ⟨p1,n1,c1,rfl,hC⟩
  have l02:=l1.trans l2
  have hn:=hC.len
  refine ⟨_,_,_,_,rfl,fun hf V3 l3=>?_,fun hT=>⟨rfl,rfl,true,rdc (l02 _ _ hbb) 0 rfl,fun _=>⟨rfl,rfl,i,rdc (l02 _ _ hbb) 1 rfl,fun V4 bk le4 hw hnew=>?_⟩,(fun h=>by cases h)⟩⟩
  ·have hf:¬(ls=[]\/refC ls ls []≠[]):=by simpa using hf
   unfold cellsR
   rw [if_neg hf]
   exact CellsR.nil
  ·have hT:ls=[]\/refC ls ls []≠[]:=by
    have:decide (ls=[]\/refC ls ls []≠[])=true:=by rw [Bool.not_eq_eq_eq_not,Bool.not_false] at hT;exact hT
    exact of_decide_eq_true this
   unfold cellsR
   rw [if_pos hT]
   refine ⟨bk,[.slice p1 n1 c1,.bool i],1,1,fun _=>hw,fun _=>hnew.elim id False.elim,rfl,rfl,Nat.le_refl _,Nat.le_refl _,row_one rfl ⟨p1,n1,c1,rfl,?_,by simp at hc;omega⟩⟩
   have le4':V2.Le (V4.hideG ([.slice p1 n1 c1,.bool i]≠([]:List Value)) bk):=fun b o h=>by
    obtain ⟨k1,k2⟩:=le4 b o h
    exact ⟨fun g=>k1 (g.imp id fun g=>⟨trivial,g.2⟩),k2⟩
   exact hC.le le4' fun _ _ g=>RLv.le g le4'
 | node ln a b iha ihb=>
  intro V q cp cn cc ls h ha hL hb hk hs
  have hc:=refC_len ls ls []
  have hcm:=refC_mem ls ls []
  obtain ⟨bb,i,b1,p1,n1,c1,b2,p2,n2,c2,b3,p3,n3,c3,pl,pr,rfl,hbb,hl,hA,hB⟩:=h
  obtain ⟨⟨hok,hbd⟩,haa,hab⟩:=ha
  simp only [Tr.size] at hs
  refine vc_ref14_Cells _ cp cn cc V _ fun V1 l1=>(c_ref08_Canon (hL.le l1 fun _ _ g=>RLv.le g l1) hb hk (by omega)).mono ?_
  rintro r V2 l2 ⟨q1,m1,d1,rfl,hC⟩
  have l02:=l1.trans l2
  have hn:=hC.len
  have b2':=l02 _ _ hbb
  have hat:∀j v,([.bool false,.bool i,.bool b1,.slice p1 n1 c1,.bool b2,.slice p2 n2 c2,.bool b3,.slice p3 n3 c3,.pointer pl,.pointer pr]:List Value)[j]?=some v->V2.at ((⟨bb,0,none⟩:Addr).add j) v:=by
   intro j v hv;rw [add_zero'];exact blk_at (xs:=[_,_,_,_,_,_,_,_,_,_]) b2' hv
  have ha2:∀j v,([.bool b1,.slice p1 n1 c1,.bool b2,.slice p2 n2 c2,.bool b3,.slice p3 n3 c3]:List Value)[j]?=some v->V2.at (((⟨bb,0,none⟩:Addr).add 2).add j) v:=by
   intro j v hv
   rw [addadd]
   refine hat (2+j) v ?_
   have hj:j<6:=(List.getElem?_eq_some_iff.1 hv).1
   match j,hj,hv with
   | 0,_,h=>exact h
   | 1,_,h=>exact h
   | 2,_,h=>exact h
   | 3,_,h=>exact h
   | 4,_,h=>exact h
   | 5,_,h=>exact h
  refine ⟨_,_,_,_,rfl,fun hf V3 l3=>?_,fun hT=>?_⟩
  ·have hf:¬(ls=[]\/refC ls ls []≠[]):=by simpa using hf
   unfold cellsR
   rw [if_neg hf]
   exact CellsR.nil
  have hT:ls=[]\/refC ls ls []≠[]:=by
   have:decide (ls=[]\/refC ls ls []≠[])=true:=by rw [Bool.not_eq_eq_eq_not,Bool.not_false] at hT;exact hT
   exact of_decide_eq_true this
  have eP:cellsR (.node ln a b) ls=cellsR a (refC ls ls []++[ln])++cellsR b (refC ls ls []++[revL ln]):=by
   show (if ls=[]\/refC ls ls []≠[] then _ else _)=_
   rw [if_pos hT]
  rw [eP]
  generalize refC ls ls []=S at *
  have hSb:∀l∈S,Bd l:=fun l h=>(hcm l h).elim (hb l) fun g=>by cases g
  have hSk:∀l∈S,okL l=true:=fun l h=>(hcm l h).elim (hk l) fun g=>by cases g
  have bA:∀l∈S++[ln],Bd l:=fun l h=>(List.mem_append.1 h).elim (hSb l) fun h=>by rw [List.mem_singleton.1 h];exact hbd
  have kA:∀l∈S++[ln],okL l=true:=fun l h=>(List.mem_append.1 h).elim (hSk l) fun h=>by rw [List.mem_singleton.1 h];exact hok
  have bB:∀l∈S++[revL ln],Bd l:=fun l h=>(List.mem_append.1 h).elim (hSb l) fun h=>by rw [List.mem_singleton.1 h];exact hbd.rev
  have kB:∀l∈S++[revL ln],okL l=true:=fun l h=>(List.mem_append.1 h).elim (hSk l) fun h=>by rw [List.mem_singleton.1 h];exact ok_rev hok
  have hSl:S.length<=ls.length:=by simpa using hc
  have lnS:∀x:L3,(S++[x]).length=(0+S.length)+1:=fun x=>by rw [List.length_append];simp
  subst hn
  obtain ⟨xs,x1,x2,x3⟩:=lst_cells hC (by decide)
  refine ⟨rfl,rfl,false,rdc b2' 0 rfl,(fun h=>by cases h),fun _=>⟨rfl,rfl,pl,rdc b2' 8 rfl,rfl,rfl,_,_,_,_,_,_,_,_,_,_,_,_,(⟨bb,0,none⟩:Addr).add 2,rfl,ha2 0 _ rfl,ha2 1 _ rfl,ha2 2 _ rfl,ha2 3 _ rfl,ha2 4 _ rfl,ha2 5 _ rfl,rfl,rfl,pr,rdc b2' 9 rfl,rfl,rfl,_,_,_,_,_,_,_,_,_,_,_,_,(⟨bb,0,none⟩:Addr).add 2,rfl,ha2 0 _ rfl,ha2 1 _ rfl,ha2 2 _ rfl,ha2 3 _ rfl,ha2 4 _ rfl,ha2 5 _ rfl,
   xs,x1,x2,by omega,Nat.le_refl _,by simp,x2,row_ones x3 x2,fun bk4 J5 sp2 e3 g1 g2=>⟨by omega,g1,by simp;omega,rfl,one6,fun bk8 J9 sp6 e7 g3 g4 V5 l5 bk35 hw5=>?_⟩⟩⟩
  have l05:=l02.trans l5
  have r1:=rowE_app (V:=V5) (ys:=[_,_,_,_,_,_]) (sp:=sp2) (sp':=sp6) rfl (x3.le fun _ _ g=>RLv.le g l5) x2 rfl (RLv.le hl l05)
  have L1:Lst 6 RLv V5 (mA bk35 e7) (S++[ln]).length (S++[ln]):=Lst.of_mrow (fun _=>hw5) r1 (by decide) (by rw [lnS];exact g3)
  have eA:mA bk35 e7=some ⟨bk35,0,none⟩:=by unfold mA;rw [if_neg (by omega)]
  rw [eA,lnS] at L1
  refine (iha (V:=V5) (hA.le l05) haa L1 bA kA (by rw [lnS];omega)).mono ?_
  rintro r V6 l6 ⟨bm,vm,n',c',w1,w2,rfl,G1⟩
  have hlenA:=cells_len a (S++[ln])
  have hlenB:=cells_len b (S++[revL ln])
  have l56:V5.Le (V6.shut.hideG (vm≠[]) bm):=le_moved (V:=V5) (V':=V6) l6 fun h=>.inl (w2 h)
  have l26:=l5.trans l56
  have hC6:=hC.le l26 fun _ _ g=>RLv.le g l26
  obtain ⟨ys,y1,y2,y3⟩:=lst_cells hC6 (by decide)
  refine ⟨bm,vm,w1,fun h=>.inl (w2 h),none,n',c',rfl,ys,y1,y2,by omega,Nat.le_refl _,by simp,y2,row_ones y3 y2,fun bk22 J23 sp20 c21 g5 g6 V7 l7=>(c_ref04_Rev (RLv.le hl (l02.trans (l26.trans l7)))).mono ?_⟩
  rintro r V8 l8 gr
  have gr0:RLv V8 r (revL ln):=gr
  obtain ⟨_,_,_,_,_,_,_,_,_,_,_,_,rfl⟩:=rlv_shape gr0
  refine ⟨_,_,_,_,_,_,_,_,_,_,_,_,rfl,by omega,g5,by simp;omega,rfl,one6,fun bk32 J33 sp30 c31 g7 g8 V9 l9 bk54 hw9=>?_⟩
  have l69:=l7.trans (l8.trans l9)
  have r2:=rowE_app (V:=V9) (ys:=[_,_,_,_,_,_]) (sp:=sp20) (sp':=sp30) rfl (y3.le fun _ _ g=>RLv.le g l69) y2 rfl (RLv.le gr0 l9)
  have L2:Lst 6 RLv V9 (mA bk54 c31) (S++[revL ln]).length (S++[revL ln]):=Lst.of_mrow (fun _=>hw9) r2 (by decide) (by rw [lnS];exact g7)
  have eB:mA bk54 c31=some ⟨bk54,0,none⟩:=by unfold mA;rw [if_neg (by omega)]
  rw [eB,lnS] at L2
  refine (ihb (V:=V9) (hB.le (l02.trans (l26.trans l69))) hab L2 bB kB (by rw [lnS];omega)).mono ?_
  rintro r V10 l10 ⟨bm',vm',n'',c'',w3,w4,rfl,G2⟩
  have l910:V9.Le (V10.shut.hideG (vm'≠[]) bm'):=le_moved (V:=V9) (V':=V10) l10 fun h=>.inl (w4 h)
  obtain ⟨t1,t2⟩:=gr_take G2
  have f1:=G1.len
  have f2:=G2.len
  have hd:(rowTakeM vm' n'' c'' 2).length / 2=n'':=by rw [t2];omega
  have rB:Row 2 RCe (V10.hideG (vm'≠[]) bm') (rowTakeM vm' n'' c'' 2) (cellsR b (S++[revL ln])):=by
   rw [t1,f2]
   exact row_takeF G2.row
  refine ⟨bm',vm',w3,fun h=>.inl (w4 h),none,n'',c'',rfl,by rw [hd];omega,G1.le,G1.cap,by rw [hd];exact t2,?_,fun sp58 c59 k1 k2 V11 bk60 l11 hw hnew=>?_⟩
  ·intro v hv
   obtain ⟨m,hm,rfl⟩:=List.mem_iff_getElem.1 hv
   exact row_one_cell rB (by decide) (fun _ _=>rce_one) (m:=m) (by rw [←f2,←t2];exact hm) (List.getElem?_eq_getElem hm)
  rw [hd] at k1 k2 ⊢
  refine ⟨bk60,_,n'+n'',c59,hw,fun h=>(hnew h).elim id False.elim,rfl,?_⟩
  have lA:(V6.hideG (vm≠[]) bm).Le (V11.hideG (vm.take (n'*2)++rowTakeM vm' n'' c'' 2++sp58≠[]) bk60):=fun b o h=>l11 b o (l910 b o (l69 b o h))
  have lB:(V10.hideG (vm'≠[]) bm').Le (V11.hideG (vm.take (n'*2)++rowTakeM vm' n'' c'' 2++sp58≠[]) bk60):=fun b o h=>l11 b o h
  refine ⟨by rw [List.length_append,f1,f2],k1,?_,?_⟩
  ·have h1:=G1.cap
   have h2:=Nat.mul_le_mul_right 2 G1.le
   rw [List.length_append,List.length_append,List.length_take,t2]
   omega
  ·have:=row_append (sp:=sp58) (G1.row.le fun _ _ g=>RCe.le g lA) (rB.le fun _ _ g=>RCe.le g lB) (by decide)
   rw [←f1] at this
   exact this
theorem c_Cell_Divide {V:View}{cp:OA}{cn cc:Nat}{c:List Sd}{lv:Value}{l:L3}(h:Lst 17 RSd V cp cn c)(hc:cn<=cc)(hl:RLi V lv l)(hb:Bd l)(hn:c.length<=100000)(asc:c.Pairwise fun s u=>Sec.ang (Sec.dirL s.1) (Sec.dirL u.1)<0) :
  Acts prog 177 #[.slice cp cn cc,lv] V fun r V'=>∃p n m q k e,r=.tuple #[.slice p n m,.slice q k e,.bool (clipC c l).isSome,.bool (clipC c (revL l)).isSome]/\(∀d,clipC c l=some d->Lst 17 RSd V' p n d/\n<=m)/\(∀d,clipC c (revL l)=some d->Lst 17 RSd V' q k d/\k<=e):=by
 have hl0:=hl
 obtain ⟨_,_,_,_,_,_,_,_,_,rfl,-,-,-⟩:=hl
 refine vc_geo_Cell_Divide cp cn cc _ _ _ _ _ _ _ _ _ V _ fun V1 l1=>(c_Cell_Clip (h.le l1 fun _ _ g=>RSd.le g l1) (hl0.le l1) hb hn asc).mono ?_
 rintro r V2 l2 ⟨p,n,m,rfl,h1⟩
 have l02:=l1.trans l2
 refine ⟨_,_,_,_,rfl,fun V3 l3=>(k_Reverse (hl0.le (l02.trans l3)) hb.szl (by omega)).mono ?_⟩
 rintro r V4 l4 gr
 have gr0:RLi V4 r (revL l):=gr
 obtain ⟨_,_,_,_,_,_,_,_,_,rfl,-,-,-⟩:=gr
 have l04:=l02.trans (l3.trans l4)
 refine ⟨_,_,_,_,_,_,_,_,_,rfl,fun V5 l5=>(c_Cell_Clip (h.le (l04.trans l5) fun _ _ g=>RSd.le g (l04.trans l5)) (gr0.le l5) hb.rev hn asc).mono ?_⟩
 rintro r V6 l6 ⟨q,k,e,rfl,h2⟩
 refine ⟨_,_,_,_,rfl,fun V7 l7=>⟨_,_,_,_,_,_,rfl,fun d ed=>?_,fun d ed=>?_⟩⟩
 ·obtain ⟨g1,g2⟩:=h1 d ed
  have l27:=l3.trans (l4.trans (l5.trans (l6.trans l7)))
  exact ⟨g1.le l27 fun _ _ g=>RSd.le g l27,g2 hc⟩
 ·obtain ⟨g1,g2⟩:=h2 d ed
  exact ⟨g1.le l7 fun _ _ g=>RSd.le g l7,g2 hc⟩
def RPrt (V:View)(v:Value)(p:List Sd×Bool):Prop:=∃q n e b,v=.agg #[.slice q n e,.pointer b]/\Lst 17 RSd V q n p.1/\n<=e/\RT V b (.leaf p.2)
theorem RPrt.le {V V':View}{v:Value}{p:List Sd×Bool}(h:RPrt V v p)(l:V.Le V'):RPrt V' v p:=by
 obtain ⟨q,n,e,b,rfl,h1,h2,h3⟩:=h
 exact ⟨q,n,e,b,rfl,h1.le l fun _ _ g=>RSd.le g l,h2,RT.le l h3⟩
theorem one2p {q:OA}{n e:Nat}{b:OA}:∀v∈([.slice q n e,.pointer b]:List Value),v.oneCell'=true:=fun v hv=>by
 simp only [List.mem_cons,List.not_mem_nil,or_false] at hv
 rcases hv with rfl|rfl<;>rfl
theorem c_bsp_parts:∀(t:Tr) {V:View} {q cp:OA} {cn cc lb n m:Nat} {c:List Sd} {M:List L3} {vs:List Value} {o:List (List Sd×Bool)},RT V q t->t.All Okb->CanC M c->(∀x∈M,okL x=true)->Lst 17 RSd V cp cn c->cn<=cc->c.length+t.size<=90000 ->
  (vs≠[]->V.w.heap[lb]?=some (.cells vs.toArray 115 (0,0)))->(vs≠[]->V.X lb)->GR 2 RPrt V n m vs o->(vs≠[]->0<n)->n+t.size+1<=1000000 ->
  Acts prog 138 #[.pointer q,.slice cp cn cc,.slice (mA lb m) n m] V fun r V'=>∃(bm:Nat)(vm:List Value)(n' c':Nat),(vm≠[]->V'.w.heap[bm]?=some (.cells vm.toArray 115 (0,0)))/\(vm≠[]->V.w.heap.size<=bm\/(vs≠[]/\bm=lb)) /\
   r=.slice (mA bm c') n' c'/\GR 2 RPrt (V'.hideG (vm≠[]) bm) n' c' vm (o++partsC t c)/\(vm≠[]->0<n')/\n'<=n+t.size+1:=by
 intro t
 have or3:∀{A B:Prop},A\/B\/False->A\/B:=fun h=>h.imp id fun h=>h.elim id False.elim
 induction t with
 | leaf i=>
  intro V q cp cn cc lb n m c M vs o h ha hC hk hL hcc hlen hw hx hg hpos hn
  refine vc_bsp_T_parts q cp cn cc lb n m vs V _ hw hx fun V1 l1=>(c_bsp_IsLeaf (h.le l1)).mono ?_
  rintro r V2 l2 rfl
  have l02:=l1.trans l2
  refine ⟨_,rfl,fun hl=>⟨by omega,hg.le,hg.cap,rfl,one2p,fun sp c3 k1 k2 V3 bk hle e2 e3=>⟨bk,_,n+1,c3,e2,fun h=>or3 (e3 h),rfl,?_,fun _=>by omega,by omega⟩⟩,(fun hl=>by cases hl)⟩
  exact (hg.mono fun _ _ g=>RPrt.le g (l02.trans hle)).snoc (a:=(c,i)) rfl ⟨_,_,_,_,rfl,hL.le (l02.trans hle) fun _ _ g=>RSd.le g (l02.trans hle),hcc,RT.le (l02.trans hle) h⟩ (by decide) k1 k2
 | node ln a b iha ihb=>
  intro V q cp cn cc lb n m c M vs o h ha hC hk hL hcc hlen hw hx hg hpos hn
  refine vc_bsp_T_parts q cp cn cc lb n m vs V _ hw hx fun V1 l1=>(c_bsp_IsLeaf (h.le l1)).mono ?_
  rintro r V2 l2 rfl
  have l02:=l1.trans l2
  refine ⟨_,rfl,(fun hl=>by cases hl),fun _=>?_⟩
  obtain ⟨bb,u1,u2,u3,v1,v2,v3,w1,w2,w3,pl,pr,i,rfl,hb,hln,ha',hbb⟩:=h.le l02
  obtain ⟨⟨hok,hbd⟩,haa,hab⟩:=ha
  simp only [Tr.size] at hn hlen
  have hat:∀{W:View},V2.Le W->∀j v,([.int .i64 u1,.int .i64 u2,.pointer u3,.int .i64 v1,.int .i64 v2,.pointer v3,.int .i64 w1,.int .i64 w2,.pointer w3,.pointer pl,.pointer pr,.bool i]:List Value)[j]?=some v->W.at ((⟨bb,0,none⟩:Addr).add j) v:=by
   intro W hW j v hv;rw [add_zero'];exact blk_at (xs:=[_,_,_,_,_,_,_,_,_,_,_,_]) (hW _ _ hb) hv
  have h0:=View.Le.refl V2
  have lenA:∀d,clipC c ln=some d->d.length+a.size<=90000:=fun d ed=>by have:=clipC_len ed;omega
  have lenB:∀d,clipC c (revL ln)=some d->d.length+b.size<=90000:=fun d ed=>by have:=clipC_len ed;omega
  have canA:∀d,clipC c ln=some d->CanC (ln::M) d:=(clip_ok hC hk hok).1
  have canB:∀d,clipC c (revL ln)=some d->CanC (revL ln::M) d:=(clip_ok hC hk (ok_rev hok)).1
  have okA:∀x∈ln::M,okL x=true:=fun x hx=>(List.mem_cons.1 hx).elim (fun g=>g▸hok) (hk x)
  have okB:∀x∈revL ln::M,okL x=true:=fun x hx=>(List.mem_cons.1 hx).elim (fun g=>g▸ok_rev hok) (hk x)
  refine ⟨rfl,rfl,_,_,_,_,_,_,_,_,_,⟨bb,0,none⟩,rfl,hat h0 0 _ rfl,hat h0 1 _ rfl,hat h0 2 _ rfl,hat h0 3 _ rfl,hat h0 4 _ rfl,hat h0 5 _ rfl,hat h0 6 _ rfl,hat h0 7 _ rfl,hat h0 8 _ rfl,fun V4 l4=>(c_Cell_Divide (hL.le (l02.trans l4) fun _ _ g=>RSd.le g (l02.trans l4)) hcc (l:=ln) (hln.le l4) hbd (by omega) hC.asc).mono ?_⟩
  rintro r V5 l5 ⟨p1,n1,c1,p2,n2,c2,rfl,hd1,hd2⟩
  have l25:=l4.trans l5
  have l05:=l02.trans l25
  have hg5:GR 2 RPrt V5 n m vs o:=hg.mono fun _ _ g=>RPrt.le g l05
  have eP:partsC (.node ln a b) c=(match clipC c ln with|some d=>partsC a d|none=>[])++(match clipC c (revL ln) with|some d=>partsC b d|none=>[]):=rfl
  rw [eP]
  refine ⟨_,_,_,_,_,_,_,_,rfl,fun b1=>?_,fun b1=>?_⟩
  ·obtain ⟨d,ed⟩:=Option.isSome_iff_exists.1 b1
   obtain ⟨gd,gc⟩:=hd1 d ed
   rw [ed]
   refine ⟨rfl,rfl,pl,rdc (l25 _ _ hb) 9 rfl,fun V6 l6 bk f1 f2=>?_⟩
   refine (iha (V:=V6.lend [vb vs V6.w.heap.size bk]) (lb:=bk) (RT.le (V:=V2) (V':=V6.lend _) (fun b o h=>(l25.trans l6) b o h) ha') haa (canA d ed) okA (gd.le (V:=V5) (V':=V6.lend _) (fun b o h=>l6 b o h) fun _ _ g=>RSd.le g fun b o h=>l6 b o h) gc (lenA d ed) f1 (fun h=>⟨by simp [vb_ne h],f2 h⟩) (hg5.mono (V':=V6.lend _) fun _ _ g=>RPrt.le g fun b o h=>l6 b o h) hpos (by omega)).mono ?_
   rintro r V7 l7 ⟨bm,vm,n3,c3,a1,a2,rfl,a3,a4,a5⟩
   have l67:V6.Le (V7.shut.hideG (vm≠[]) bm):=le_moved (V:=V6) (V':=V7) (fun b o h=>l7 b o h) fun h=>(a2 h).imp id fun (g:vs≠[]/\bm=bk)=>by rw [g.2];exact f2 g.1
   have l57:=l6.trans l67
   have a3':GR 2 RPrt (V7.shut.hideG (vm≠[]) bm) n3 c3 vm (o++partsC a d):=a3.mono fun _ _ g=>RPrt.le g fun b o h=>h
   refine ⟨bm,vm,a1,a2,none,n3,c3,rfl,fun b2=>?_,fun b2 V11 bk32 hle e2 e3=>⟨bk32,vm,n3,c3,e2,fun h=>or3 (e3 h),rfl,?_,a4,by simp only [Tr.size];omega⟩⟩
   ·obtain ⟨d',ed'⟩:=Option.isSome_iff_exists.1 b2
    obtain ⟨gd',gc'⟩:=hd2 d' ed'
    rw [ed']
    refine ⟨rfl,rfl,pr,rdc ((l25.trans l57) _ _ hb) 10 rfl,fun V8 l8 bk27 f3 f4=>?_⟩
    have l58:=l57.trans l8
    refine (ihb (V:=V8.lend [vb vm V8.w.heap.size bk27]) (lb:=bk27) (RT.le (V:=V2) (V':=V8.lend _) (fun b o h=>(l25.trans l58) b o h) hbb) hab (canB d' ed') okB (gd'.le (V:=V5) (V':=V8.lend _) (fun b o h=>l58 b o h) fun _ _ g=>RSd.le g fun b o h=>l58 b o h) gc' (lenB d' ed') f3 (fun h=>⟨by simp [vb_ne h],f4 h⟩) (a3'.mono (V':=V8.lend _) fun _ _ g=>RPrt.le g fun b o h=>l8 b o h) a4 (by omega)).mono ?_
    rintro r V9 l9 ⟨bm',vm',n4,c4,x1,x2,rfl,x3,x4,x5⟩
    refine ⟨bm',vm',x1,x2,none,n4,c4,rfl,fun V10 bk31 hle e2 e3=>⟨bk31,vm',n4,c4,e2,fun h=>or3 (e3 h),rfl,?_,x4,by simp only [Tr.size];omega⟩⟩
    rw [←List.append_assoc]
    exact x3.mono fun _ _ g=>RPrt.le g fun b o h=>hle b o h
   ·have ed':clipC c (revL ln)=none:=Option.isNone_iff_eq_none.1 (by rw [←Option.not_isSome,b2];rfl)
    rw [ed']
    dsimp only
    rw [List.append_nil]
    exact a3'.mono fun _ _ g=>RPrt.le g hle
  ·have ed:clipC c ln=none:=Option.isNone_iff_eq_none.1 (by rw [←Option.not_isSome,b1];rfl)
   rw [ed]
   refine ⟨fun b2=>?_,fun b2 V15 bk40 hle e2 e3=>⟨bk40,vs,n,m,e2,fun h=>or3 (e3 h),rfl,?_,hpos,by simp only [Tr.size];omega⟩⟩
   ·obtain ⟨d',ed'⟩:=Option.isSome_iff_exists.1 b2
    obtain ⟨gd',gc'⟩:=hd2 d' ed'
    rw [ed']
    refine ⟨rfl,rfl,pr,rdc (l25 _ _ hb) 10 rfl,fun V12 l12 bk35 f3 f4=>?_⟩
    refine (ihb (V:=V12.lend [vb vs V12.w.heap.size bk35]) (lb:=bk35) (RT.le (V:=V2) (V':=V12.lend _) (fun b o h=>(l25.trans l12) b o h) hbb) hab (canB d' ed') okB (gd'.le (V:=V5) (V':=V12.lend _) (fun b o h=>l12 b o h) fun _ _ g=>RSd.le g fun b o h=>l12 b o h) gc' (lenB d' ed') f3 (fun h=>⟨by simp [vb_ne h],f4 h⟩) (hg5.mono (V':=V12.lend _) fun _ _ g=>RPrt.le g fun b o h=>l12 b o h) hpos (by omega)).mono ?_
    rintro r V13 l13 ⟨bm',vm',n4,c4,x1,x2,rfl,x3,x4,x5⟩
    refine ⟨bm',vm',x1,x2,none,n4,c4,rfl,fun V14 bk39 hle e2 e3=>⟨bk39,vm',n4,c4,e2,fun h=>or3 (e3 h),rfl,?_,x4,by simp only [Tr.size];omega⟩⟩
    exact x3.mono fun _ _ g=>RPrt.le g fun b o h=>hle b o h
   ·have ed':clipC c (revL ln)=none:=Option.isNone_iff_eq_none.1 (by rw [←Option.not_isSome,b2];rfl)
    rw [ed']
    show GR 2 RPrt _ n m vs (o++([]++[]))
    rw [List.append_nil,List.append_nil]
    exact hg5.mono fun _ _ g=>RPrt.le g hle
theorem c_bsp_Parts {V:View}{q:OA}{t:Tr}(h:RT V q t)(ha:t.All Okb)(hs:t.size<=80000) :
  Acts prog 95 #[.pointer q] V fun r V'=>∃p n c,r=.slice p n c/\Lst 2 RPrt V' p n (partsC t []):=by
 refine vc_bsp_T_Parts q V _ fun V1 l1=>(c_bsp_parts t (V:=V1) (lb:=0) (vs:=[]) (o:=[]) (m:=0) (n:=0) (cp:=none) (cn:=0) (cc:=0) (c:=[]) (M:=[]) (h.le l1) ha CanC.nil (fun x hx=>by cases hx) Lst.nil (Nat.le_refl _) (by simp;omega) (fun h=>absurd rfl h) (fun h=>absurd rfl h) GR.nil (fun h=>absurd rfl h) (by omega)).mono ?_
 rintro r V2 l2 ⟨bm,vm,n,c,a1,a2,rfl,a3,a4,a5⟩
 refine ⟨bm,vm,a1,fun h=>(a2 h).imp id fun g=>absurd rfl g.1,none,n,c,rfl,fun V3 l3 bk hb=>?_⟩
 have gl:=a3.len
 rw [List.nil_append] at a3 gl
 rw [gl]
 exact ⟨_,_,_,rfl,Lst.of_mrow hb (a3.row.le fun _ _ g=>RPrt.le g fun b o h=>l3 b o h) (by decide) (by rw [←gl];exact a3.le)⟩
theorem yV (l:List Nd):∀(f:Nat)(n:Int)(s:RS),(di l f n s).2.bad=false->∀i:Nat,(di l f n s).2.seen[i]?=some true->s.seen[i]?=some true\/∃x:Nd,l[i]?=some x/\okL x.ln=true
 | 0,_,_,_,_,h=>.inl h
 | f+1,n,s,h,i,hi=>by
  simp only [di] at h hi
  by_cases n2:n=-2
  ·rw [if_pos n2] at hi;exact .inl hi
  rw [if_neg n2] at h hi
  by_cases n1:n=-1
  ·rw [if_pos n1] at hi;exact .inl hi
  rw [if_neg n1] at h hi
  by_cases n0:n<0
  ·rw [if_pos n0] at h;cases h
  rw [if_neg n0] at h hi
  cases hx:l[n.toNat]? with
  | none=>rw [hx] at h;cases h
  | some x=>
  cases hs:s.seen[n.toNat]? with
  | none=>rw [hx,hs] at h;cases h
  | some b=>
  cases b with
  | true=>rw [hx,hs] at h;cases h
  | false=>
   rw [hx,hs] at h hi
   dsimp only at h hi
   by_cases ho:okL x.ln=true
   ·rw [if_pos ho] at h hi
    dsimp only at h hi
    have hb:(di l f x.left ⟨s.seen.set n.toNat true,s.ji+1,s.bad⟩).2.bad=false:=by
     cases e:(di l f x.left ⟨s.seen.set n.toNat true,s.ji+1,s.bad⟩).2.bad
     ·rfl
     ·have:=yU l f x.right _ e
      rw [h] at this;cases this
    rcases yV l f x.right _ h i hi with g|g
    ·rcases yV l f x.left _ hb i g with g|g
     ·dsimp only at g
      rw [List.getElem?_set] at g
      split at g
      ·rename_i e;subst e;exact .inr ⟨x,hx,ho⟩
      ·exact .inl g
     ·exact .inr g
    ·exact .inr g
   ·rw [if_neg ho] at h;cases h
theorem ofT_okl {l:List Nd}{root:Int}{t:Tr}(h:ofT l root=some t):∀x∈l,okL x.ln=true:=by
 have hl:l.length<=65536:=by
  rcases Nat.lt_or_ge 65536 l.length with h'|h'
  ·unfold ofT at h;rw [if_pos h'] at h;cases h
  ·exact h'
 rw [Hj hl] at h
 split at h
 ·rename_i hc
  intro x hx
  obtain ⟨i,hi,rfl⟩:=List.mem_iff_getElem.1 hx
  have hm:=(oa l (l.length+1) root ⟨List.replicate l.length false,0,false⟩).2
  have hs:(di l (l.length+1) root ⟨List.replicate l.length false,0,false⟩).2.seen[i]?=some true:=by
   have hlt:i<(di l (l.length+1) root ⟨List.replicate l.length false,0,false⟩).2.seen.length:=by rw [hm];simpa using hi
   rw [List.getElem?_eq_getElem hlt]
   have:=List.all_eq_true.1 hc.2 _ (List.getElem_mem hlt)
   exact congrArg some this
  rcases yV l _ root _ hc.1 i hs with g|⟨y,hy,ho⟩
  ·simp [hi] at g
  ·rw [List.getElem?_eq_getElem hi] at hy;cases hy;exact ho
 ·cases h
theorem c_cells_parts {V:View}{v:Value}{root:Int}{l:List Nd}(hb:∀x∈l,Bd x.ln)(h:AT V v root l){y z:Value}(hy:Sent V 0 y)(hz:Sent V 1 z) :
  Acts prog 40 #[v] V fun r V'=>(ofT l root=none->r=.tuple #[.slice none 0 0,y])/\∀t,ofT l root=some t->(1024<t.depth->r=.tuple #[.slice none 0 0,z])/\(t.depth<=1024->∃p n c,r=.tuple #[.slice p n c,.nilIface]/\Lst 2 RPrt V' p n (partsC t [])):=by
 have h0:=h
 obtain ⟨q,n,c,rfl,-⟩:=h
 refine vc_cells_parts root q n c V _ fun V1 l1=>(c_bsp_Of' hb (h0.le l1)).mono ?_
 rintro r V2 l2 ⟨a,rfl,ha⟩
 have l02:=l1.trans l2
 refine ⟨_,_,rfl,fun g=>⟨y,⟨_,rfl,hy.le l02⟩,fun V3 l3=>?_⟩,fun g V4 l4=>?_⟩
 ·have g:ofT l root=none:=by cases e:ofT l root with
   | none=>rfl
   | some t=>rw [e] at g;cases g
  exact ⟨fun _=>rfl,fun t ht=>by rw [g] at ht;cases ht⟩
 ·cases e:ofT l root with
  | none=>rw [e] at g;cases g
  | some t=>
   have hs:=ofT_size e
   have hok:t.All Okb:=ofT_all (p:=Okb) (fun x hx=>⟨ofT_okl e x hx,hb x hx⟩) e
   refine (c_bsp_Depth t ((ha t e).le l4) (by omega)).mono ?_
   rintro r V5 l5 rfl
   have l45:=l4.trans l5
   refine ⟨_,rfl,fun hd=>⟨z,⟨_,rfl,hz.le (l02.trans l45)⟩,fun V6 l6=>⟨(fun k=>by cases k),fun t' ht=>?_⟩⟩,fun hd V7 l7=>(c_bsp_Parts ((ha t e).le (l45.trans l7)) hok (by omega)).mono ?_⟩
   ·cases ht
    have hd:=of_decide_eq_true hd
    exact ⟨fun _=>rfl,fun k=>by omega⟩
   ·rintro r V8 l8 ⟨p,n,c,rfl,hL⟩
    refine ⟨_,_,_,rfl,fun V9 l9=>⟨(fun k=>by cases k),fun t' ht=>?_⟩⟩
    cases ht
    have hd:=of_decide_eq_false hd
    exact ⟨fun k=>by omega,fun _=>⟨_,_,_,rfl,hL.le l9 fun _ _ g=>RPrt.le g l9⟩⟩
theorem parts_len:∀{t:Tr} {c:List Sd},∀p∈partsC t c,p.1.length<=c.length+t.size
 | .leaf b,c,p,hp=>by
  unfold partsC at hp
  rw [List.mem_singleton.1 hp];simp
 | .node l a b,c,p,hp=>by
  unfold partsC at hp
  simp only [Tr.size]
  rcases List.mem_append.1 hp with hp|hp
  ·cases e:clipC c l with
   | some d=>rw [e] at hp;have:=parts_len p hp;have:=clipC_len e;omega
   | none=>rw [e] at hp;cases hp
  ·cases e:clipC c (revL l) with
   | some d=>rw [e] at hp;have:=parts_len p hp;have:=clipC_len e;omega
   | none=>rw [e] at hp;cases hp
theorem parts_count:∀{t:Tr} {c:List Sd},(partsC t c).length<=t.size+1
 | .leaf b,c=>by unfold partsC;simp
 | .node l a b,c=>by
  unfold partsC
  simp only [Tr.size]
  rw [List.length_append]
  have h1:(match clipC c l with|some d=>partsC a d|none=>[]).length<=a.size+1:=by
   cases clipC c l with
   | some d=>exact parts_count
   | none=>exact Nat.zero_le _
  have h2:(match clipC c (revL l) with|some d=>partsC b d|none=>[]).length<=b.size+1:=by
   cases clipC c (revL l) with
   | some d=>exact parts_count
   | none=>exact Nat.zero_le _
  exact Nat.le_trans (Nat.add_le_add h1 h2) (by omega)
theorem lst_prt {V:View}{p:OA}{n:Nat}{al:List (List Sd×Bool)}(h:Lst 2 RPrt V p n al){i:Nat}(hi:i<al.length) :
  p.isSome=true/\∃(q:OA)(m e:Nat)(b:OA)(a:Addr),addrAdd p (i*2)=some a/\V.at (a.add 0) (.slice q m e)/\V.at (a.add 1) (.pointer b)/\Lst 17 RSd V q m al[i].1/\m<=e/\RT V b (.leaf al[i].2):=by
 obtain ⟨ad,h0,xs,h1,h2,h3⟩:=h.at_ i hi
 obtain ⟨q,m,e,b,ex,g1,g2,g3⟩:=h2
 have ex:=congrArg Array.toList (Value.agg.inj ex)
 dsimp only at ex
 subst ex
 refine ⟨?_,q,m,e,b,ad,h0,h3 0 _ rfl,h3 1 _ rfl,g1,g2,g3⟩
 cases p with
 | none=>cases h0
 | some a=>rfl
def RCl1 (V:View)(v:Value)(S:List L3):Prop:=∃p n c,v=.agg #[.slice p n c]/\Lst 6 RLv V p n S
theorem RCl1.le {V V':View}{v:Value}{S:List L3}(h:RCl1 V v S)(l:V.Le V'):RCl1 V' v S:=by
 obtain ⟨p,n,c,rfl,g⟩:=h;exact ⟨p,n,c,rfl,g.le l fun _ _ k=>RLv.le k l⟩
def RCode (_V:View)(v:Value)(b:Bool):Prop:=v=.agg #[.int .i64 (if b then -2 else -1)]
theorem c_cells_All {V:View}{v:Value}{root:Int}{l:List Nd}(hb:∀x∈l,Bd x.ln)(h:AT V v root l){y z:Value}(hy:Sent V 0 y)(hz:Sent V 1 z)(sy:SErr y)(sz:SErr z) :
  Acts prog 11 #[v] V fun r V'=>(ofT l root=none->r=.tuple #[.slice none 0 0,.slice none 0 0,y])/\∀t,ofT l root=some t->(1024<t.depth->r=.tuple #[.slice none 0 0,.slice none 0 0,z])/\(t.depth<=1024->∃p n c q m e,r=.tuple #[.slice p n c,.slice q m e,.nilIface]/\Lst 1 RCl1 V' p n ((partsC t []).map fun p=>p.1.map Prod.fst)/\Lst 1 RCode V' q m ((partsC t []).map Prod.snd)):=by
 have h0:=h
 obtain ⟨q,n,c,rfl,-⟩:=h
 have er:∀{y:Value},SErr y->IsIface y/\isNilI y=false:=fun h=>by obtain ⟨a,rfl⟩:=h;exact ⟨.inr ⟨_,_,rfl⟩,rfl⟩
 refine vc_cells_All root q n c V _ fun V1 l1=>(c_cells_parts hb (h0.le l1) (hy.le l1) (hz.le l1)).mono ?_
 rintro r V2 l2 ⟨h1,h2⟩
 have l02:=l1.trans l2
 cases e:ofT l root with
 | none=>
  obtain rfl:=h1 e
  exact ⟨_,_,_,_,rfl,(er sy).1,fun _ V3 l3=>⟨fun _=>rfl,fun t ht=>by cases ht⟩,fun hf=>by rw [(er sy).2] at hf;cases hf⟩
 | some t=>
  obtain ⟨g1,g2⟩:=h2 t e
  by_cases hd:1024<t.depth
  ·obtain rfl:=g1 hd
   exact ⟨_,_,_,_,rfl,(er sz).1,fun _ V3 l3=>⟨(fun k=>by cases k),fun t' ht=>by cases ht;exact ⟨fun _=>rfl,fun k=>by omega⟩⟩,fun hf=>by rw [(er sz).2] at hf;cases hf⟩
  ·obtain ⟨p,n',c',rfl,hL⟩:=g2 (by omega)
   have hsz:=ofT_size e
   have hcnt:=parts_count (t:=t) (c:=[])
   have hpl:=parts_len (t:=t) (c:=[])
   obtain rfl:=hL.len
   refine ⟨_,_,_,_,rfl,.inl rfl,(fun hf=>by cases hf),fun _=>?_⟩
   generalize eA:partsC t []=A at *
   refine ⟨fun z V'=>∃j:Nat,z.2.2.2.2.2.2=(j:Int)/\j<=A.length/\GR 1 RCl1 V' z.1 z.2.1 z.2.2.1 ((A.take j).map fun p=>p.1.map Prod.fst)/\GR 1 RCode V' z.2.2.2.1 z.2.2.2.2.1 z.2.2.2.2.2.1 ((A.take j).map Prod.snd),fun z=>A.length-z.2.2.2.2.2.2.toNat,⟨(0,0,[],0,0,[],0),by and_intros<;>first|rfl|trivial,0,rfl,Nat.zero_le _,GR.nil,GR.nil⟩,?_⟩
   rintro ⟨w1,w2,ws,x1,x2,xs,w⟩ V4 l4 ⟨j,ej,jle,ga,gb⟩
   dsimp only at ej ga gb ⊢
   subst ej
   refine ⟨by trivial,fun hlt=>?_,fun hlt V9 l9 b1 b2 k1 k2=>⟨(fun k=>by cases k),fun t' ht=>⟨fun k=>by cases ht;omega,fun _=>?_⟩⟩⟩
   ·have hlt:(j:Int)<A.length:=of_decide_eq_true hlt
    have hj:j<A.length:=by omega
    have wr:i64.wrap ((j:Int)+1)=((j+1:Nat):Int):=by rw [i64w (by omega)];rfl
    rw [wr,Int.toNat_natCast]
    obtain ⟨ps,pq,pm,pe,pb,ad,ha,k0,k1,gl,gle,grt⟩:=lst_prt (hL.le l4 fun _ _ g=>RPrt.le g l4) hj
    have plen:=hpl _ (List.getElem_mem hj)
    have et:A.take (j+1)=A.take j++[A[j]]:=(List.take_append_getElem hj).symm
    have la:=ga.len
    have lb:=gb.len
    rw [List.length_map,List.length_take] at la lb
    generalize A[j]=P at *
    obtain ⟨bb,c0,c1,c2,c3,c4,c5,c6,c7,c8,rr,rfl,hbb⟩:=grt
    simp only [List.length_nil,Nat.zero_add] at plen
    have call:∀{x:Int},x=(if P.2 then -2 else -1)->∀V5,V4.Le V5->Acts prog 41 #[.slice pq pm pe] V5 fun r V6=>∃(q:OA)(m e:Nat),r=.agg #[.slice q m e]/\∀{sp1 sp2:List Value} {c1 c2:Nat},w1+1<=c1->c1*1<=(w1+1)*1+sp1.length->x1+1<=c2->c2*1<=(x1+1)*1+sp2.length->GR 1 RCl1 V6 (w1+1) c1 (ws.take (w1*1)++[.slice q m e]++sp1) ((A.take (j+1)).map fun p=>p.1.map Prod.fst)/\GR 1 RCode V6 (x1+1) c2 (xs.take (x1*1)++[.int .i64 x]++sp2) ((A.take (j+1)).map Prod.snd):=fun {x} hx V5 l5=>by
     refine (c_Cell_API (gl.le l5 fun _ _ g=>RSd.le g l5) (by omega)).mono ?_
     rintro r V6 l6 ⟨q,m,e,rfl,hq,-⟩
     have l46:=l5.trans l6
     refine ⟨q,m,e,rfl,fun {sp1 sp2 c1 c2} a1 a2 a3 a4=>?_⟩
     rw [et,List.map_append,List.map_append]
     exact ⟨(ga.mono (V':=V6) fun _ _ g=>RCl1.le g l46).snoc (a:=P.1.map Prod.fst) rfl ⟨_,_,_,rfl,hq⟩ (by decide) a1 a2,(gb.mono (V':=V6) fun _ _ g=>g).snoc (a:=P.2) rfl (by rw [hx];rfl) (by decide) a3 a4⟩
    have o1:∀{q:OA} {m e:Nat},∀v∈([.slice q m e]:List Value),v.oneCell'=true:=fun v hv=>by rw [List.mem_singleton.1 hv];rfl
    have o2:∀{x:Int},∀v∈([.int .i64 x]:List Value),v.oneCell'=true:=fun v hv=>by rw [List.mem_singleton.1 hv];rfl
    refine ⟨ps,⟨by omega,by omega⟩,pq,pm,pe,_,ad,ha,k0,k1,rfl,rfl,P.2,rdc hbb 11 rfl,fun hP V5 l5=>(call (x:=-2) (by rw [hP];rfl) V5 l5).mono ?_,fun hP V7 l7=>(call (x:=-1) (by rw [hP];rfl) V7 l7).mono ?_⟩
    ·rintro r V6 l6 ⟨q,m,e,rfl,hg⟩
     refine ⟨q,m,e,rfl,by omega,ga.le,ga.cap,rfl,o1,fun sp1 c1 a1 a2=>⟨by omega,gb.le,gb.cap,rfl,o2,fun sp2 c2 a3 a4=>⟨(w1+1,c1,_,x1+1,c2,_,((j+1:Nat):Int)),by dsimp only;omega,by and_intros<;>first|rfl|trivial,j+1,rfl,hj,hg a1 a2 a3 a4⟩⟩⟩
    ·rintro r V8 l8 ⟨q,m,e,rfl,hg⟩
     refine ⟨q,m,e,rfl,by omega,ga.le,ga.cap,rfl,o1,fun sp1 c1 a1 a2=>⟨by omega,gb.le,gb.cap,rfl,o2,fun sp2 c2 a3 a4=>⟨(w1+1,c1,_,x1+1,c2,_,((j+1:Nat):Int)),by dsimp only;omega,by and_intros<;>first|rfl|trivial,j+1,rfl,hj,hg a1 a2 a3 a4⟩⟩⟩
   ·have hlt:¬(j:Int)<A.length:=of_decide_eq_false hlt
    obtain rfl:j=A.length:=by omega
    rw [List.take_length] at ga gb
    cases ht
    rw [eA]
    have e1:=ga.len
    have e2:=gb.len
    have f1:=ga.le
    have f2:=gb.le
    subst e1 e2
    exact ⟨_,_,_,_,_,_,rfl,Lst.of_mrow k1 (ga.row.le fun _ _ g=>RCl1.le g l9) (by decide) f1,Lst.of_mrow k2 (gb.row.le fun _ _ g=>g) (by decide) f2⟩
def inP (A:List (List Sd×Bool)):List (List L3):=(A.filter fun p=>p.2).map fun p=>p.1.map Prod.fst
theorem inP_succ {A:List (List Sd×Bool)}{j:Nat}(h:j<A.length):inP (A.take (j+1))=inP (A.take j)++(if A[j].2=true then [A[j].1.map Prod.fst] else []):=by
 unfold inP
 rw [←List.take_append_getElem h,List.filter_append,List.map_append]
 congr 1
 by_cases c:A[j].2=true
 ·rw [if_pos c,List.filter_cons_of_pos c];rfl
 ·rw [if_neg c,List.filter_cons_of_neg c];rfl
theorem inP_len (A:List (List Sd×Bool))(j:Nat):(inP (A.take j)).length<=j:=by
 unfold inP
 rw [List.length_map]
 have h1:=List.length_filter_le (fun p:List Sd×Bool=>p.2) (A.take j)
 rw [List.length_take] at h1
 omega
theorem c_cells_In {V:View}{v:Value}{root:Int}{l:List Nd}(hb:∀x∈l,Bd x.ln)(h:AT V v root l){y z:Value}(hy:Sent V 0 y)(hz:Sent V 1 z)(sy:SErr y)(sz:SErr z) :
  Acts prog 13 #[v] V fun r V'=>(ofT l root=none->r=.tuple #[.slice none 0 0,y])/\∀t,ofT l root=some t->(1024<t.depth->r=.tuple #[.slice none 0 0,z])/\(t.depth<=1024->∃p n c,r=.tuple #[.slice p n c,.nilIface]/\Lst 1 RCl1 V' p n (inP (partsC t []))):=by
 have h0:=h
 obtain ⟨q,n,c,rfl,-⟩:=h
 have er:∀{y:Value},SErr y->IsIface y/\isNilI y=false:=fun h=>by obtain ⟨a,rfl⟩:=h;exact ⟨.inr ⟨_,_,rfl⟩,rfl⟩
 refine vc_cells_In root q n c V _ fun V1 l1=>(c_cells_parts hb (h0.le l1) (hy.le l1) (hz.le l1)).mono ?_
 rintro r V2 l2 ⟨h1,h2⟩
 have l02:=l1.trans l2
 cases e:ofT l root with
 | none=>
  obtain rfl:=h1 e
  exact ⟨_,_,_,_,rfl,(er sy).1,fun _ V3 l3=>⟨fun _=>rfl,fun t ht=>by cases ht⟩,fun hf=>by rw [(er sy).2] at hf;cases hf⟩
 | some t=>
  obtain ⟨g1,g2⟩:=h2 t e
  by_cases hd:1024<t.depth
  ·obtain rfl:=g1 hd
   exact ⟨_,_,_,_,rfl,(er sz).1,fun _ V3 l3=>⟨(fun k=>by cases k),fun t' ht=>by cases ht;exact ⟨fun _=>rfl,fun k=>by omega⟩⟩,fun hf=>by rw [(er sz).2] at hf;cases hf⟩
  ·obtain ⟨p,n',c',rfl,hL⟩:=g2 (by omega)
   have hsz:=ofT_size e
   have hcnt:=parts_count (t:=t) (c:=[])
   have hpl:=parts_len (t:=t) (c:=[])
   obtain rfl:=hL.len
   refine ⟨_,_,_,_,rfl,.inl rfl,(fun hf=>by cases hf),fun _=>?_⟩
   generalize eA:partsC t []=A at *
   refine ⟨fun z V'=>∃j:Nat,z.2.2.2=(j:Int)/\j<=A.length/\GR 1 RCl1 V' z.1 z.2.1 z.2.2.1 (inP (A.take j)),fun z=>A.length-z.2.2.2.toNat,⟨(0,0,[],0),by and_intros<;>first|rfl|trivial,0,rfl,Nat.zero_le _,GR.nil⟩,?_⟩
   rintro ⟨w1,w2,ws,w⟩ V4 l4 ⟨j,ej,jle,ga⟩
   dsimp only at ej ga ⊢
   subst ej
   refine ⟨by trivial,fun hlt=>?_,fun hlt V9 l9 b1 k1=>⟨(fun k=>by cases k),fun t' ht=>⟨fun k=>by cases ht;omega,fun _=>?_⟩⟩⟩
   ·have hlt:(j:Int)<A.length:=of_decide_eq_true hlt
    have hj:j<A.length:=by omega
    have wr:i64.wrap ((j:Int)+1)=((j+1:Nat):Int):=by rw [i64w (by omega)];rfl
    rw [wr,Int.toNat_natCast]
    obtain ⟨ps,pq,pm,pe,pb,ad,ha,k0,k1,gl,gle,grt⟩:=lst_prt (hL.le l4 fun _ _ g=>RPrt.le g l4) hj
    have plen:=hpl _ (List.getElem_mem hj)
    have et:=inP_succ hj
    have la:=ga.len
    have lb:=inP_len A j
    generalize A[j]=P at *
    obtain ⟨bb,c0,c1,c2,c3,c4,c5,c6,c7,c8,rr,rfl,hbb⟩:=grt
    simp only [List.length_nil,Nat.zero_add] at plen
    have o1:∀{q:OA} {m e:Nat},∀v∈([.slice q m e]:List Value),v.oneCell'=true:=fun v hv=>by rw [List.mem_singleton.1 hv];rfl
    refine ⟨ps,⟨by omega,by omega⟩,pq,pm,pe,_,ad,ha,k0,k1,rfl,rfl,P.2,rdc hbb 11 rfl,fun hP V5 l5=>(c_Cell_API (gl.le l5 fun _ _ g=>RSd.le g l5) (by omega)).mono ?_,fun hP=>⟨(w1,w2,ws,((j+1:Nat):Int)),by dsimp only;omega,by and_intros<;>first|rfl|trivial,j+1,rfl,hj,?_⟩⟩
    ·rintro r V6 l6 ⟨q,m,e,rfl,hq,-⟩
     have l46:=l5.trans l6
     refine ⟨q,m,e,rfl,by omega,ga.le,ga.cap,rfl,o1,fun sp1 c1 a1 a2=>⟨(w1+1,c1,_,((j+1:Nat):Int)),by dsimp only;omega,by and_intros<;>first|rfl|trivial,j+1,rfl,hj,?_⟩⟩
     dsimp only
     rw [et,if_pos hP]
     exact (ga.mono (V':=V6) fun _ _ g=>RCl1.le g l46).snoc (a:=P.1.map Prod.fst) rfl ⟨_,_,_,rfl,hq⟩ (by decide) a1 a2
    ·dsimp only
     rw [et,if_neg (by rw [hP];exact Bool.false_ne_true),List.append_nil]
     exact ga
   ·have hlt:¬(j:Int)<A.length:=of_decide_eq_false hlt
    obtain rfl:j=A.length:=by omega
    rw [List.take_length] at ga
    cases ht
    rw [eA]
    have e1:=ga.len
    have f1:=ga.le
    subst e1
    exact ⟨_,_,_,rfl,Lst.of_mrow k1 (ga.row.le fun _ _ g=>RCl1.le g l9) (by decide) f1⟩
theorem vq {V:View}{y z:Value}(hy:Sent V 0 y)(hz:Sent V 1 z)(sy:SErr y)(sz:SErr z):Acts prog 19 #[] V fun r V'=>r=.bool true:=by
 refine uK V _ fun V1 l1=>?_
 have h:AT V1 (.agg #[.int .i64 (-2),.slice none 0 0]) (-2) []:=⟨none,0,0,rfl,rfl,Nat.le_refl _,⟨[],(fun i v h=>by simp at h),fun i d h=>by simp at h⟩,fun _=>rfl⟩
 refine (c_cells_All (l:=[]) (fun x hx=>by cases hx) h (hy.le l1) (hz.le l1) sy sz).mono ?_
 rintro r V2 l2 ⟨-,h2⟩
 have e:ofT [] (-2)=some (.leaf true):=by decide
 obtain ⟨p,n,c,q,m,k,rfl,hp,hq⟩:=(h2 _ e).2 (by decide)
 have e1:partsC (.leaf true) []=[([],true)]:=rfl
 rw [e1] at hp hq
 have n1:=hp.len
 have n2:=hq.len
 obtain ⟨ad,a0,xs,x1,⟨p4,n4,c4,ex,hL⟩,x3⟩:=hp.at_ 0 (by simp)
 obtain ⟨ad',b0,ys,y1,ey,y3⟩:=hq.at_ 0 (by simp)
 have ex:=congrArg Array.toList (Value.agg.inj ex)
 have ey:=congrArg Array.toList (Value.agg.inj ey)
 dsimp only at ex ey
 subst ex ey
 have l4:=hL.len
 have n1:n=1:=n1
 have n2:m=1:=n2
 have l4:n4=0:=l4
 subst n1 n2 l4
 have a0:addrAdd p 0=some ad:=a0
 have b0:addrAdd q 0=some ad':=b0
 have sp:p.isSome=true:=by
  cases p with
  | none=>cases a0
  | some a=>rfl
 have sq:q.isSome=true:=by
  cases q with
  | none=>cases b0
  | some a=>rfl
 have z0:ad'.add 0=ad':=by
  cases q with
  | none=>cases b0
  | some a=>
   have b1:a.add 0=ad':=Option.some.inj b0
   rw [←b1,gu]
 refine ⟨_,_,_,_,_,_,_,rfl,.inl rfl,fun _=>⟨fun _=>⟨sp,⟨by decide,by decide⟩,by rw [a0];rfl,p4,0,c4,⟨ad.add 0,by rw [a0];rfl,x3 0 _ rfl⟩,fun _=>⟨fun _=>⟨sq,⟨by decide,by decide⟩,-2,⟨ad',b0,by have:=y3 0 _ rfl;rw [z0] at this;exact this⟩,fun V3 l3=>rfl⟩,fun hf=>by simp at hf⟩,fun hf=>by simp at hf⟩,fun hf=>by simp at hf⟩,fun hf=>by simp [isNilI] at hf⟩
end Go.Proofs.Tryz
