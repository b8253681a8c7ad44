import Derived.Test.YthpmdmkmfoaamaaGreatDoorS11
import Derived.Test.YthpmdmkmfoaamaaGreatDoorS5
import Derived.Test.YthpmdmkmfoaamaaGreatDoorS10
import Derived.Test.YthpmdmkmfoaamaaGreatDoorS7
import Derived.Test.YthpmdmkmfoaamaaGreatDoorS8
set_option linter.unusedVariables false
open Go.IntKind (i64 u64 u32)
namespace Go.Proofs.Tryz
open Go.br Go.dS
theorem AW {V:View}{P:Prop}{b:Nat}:(V.bh P b).Le V:=fun x o h=>⟨fun hh=>h.1 (.inl hh),h.2⟩
theorem ab.DY {f:FuncId}{args:Array Value}{V:View}{R R':Value->View->Prop}(h:ab prog f args V R)(hR:∀r V',V.Le V'->(∀b,V'.H b->V.H b)->R r V'->R' r V'):ab prog f args V R':=
 ⟨h.1,h.2.mono fun _ w' ⟨r,he,hx,hr⟩=>⟨r,he,hx,hR r _ (V.DW w' hx) (fun _ hb=>hb) hr⟩⟩
theorem yP {vs:List Value}{n b:Nat}(h:vs≠[]):vb vs n b=b:=by cases vs with|nil=>exact absurd rfl h|cons v r=>rfl
theorem NR.push {V:View}{vs sp:List Value}{l:List Nd}(h:NR V vs l)(hl:l.length*8<=vs.length){ln:L3}{x y:Int}{b1:Bool}{p1:OA}{n1 c1:Nat}{b2:Bool}{p2:OA}{n2 c2:Nat}{b3:Bool}{p3:OA}{n3 c3:Nat}
  (hL:RL V (.agg #[.bool b1,.slice p1 n1 c1,.bool b2,.slice p2 n2 c2,.bool b3,.slice p3 n3 c3]) ln.1 ln.2.1 ln.2.2) :
  NR V (vs.take (l.length*8)++[.bool b1,.slice p1 n1 c1,.bool b2,.slice p2 n2 c2,.bool b3,.slice p3 n3 c3,.int .i64 x,.int .i64 y]++sp) (l++[⟨ln,x,y⟩]):=by
 intro i d hd
 rcases Nat.lt_or_ge i l.length with hi|hi
 ·rw [List.getElem?_append_left hi] at hd
  obtain ⟨b1',Jh,n1',c1',b2',Jj,Ng,c2',b3',Jk,Nh,c3',h1,h2⟩:=h i d hd
  refine ⟨b1',Jh,n1',c1',b2',Jj,Ng,c2',b3',Jk,Nh,c3',fun j v hv=>?_,h2⟩
  have hj:j<8:=by
   rcases Nat.lt_or_ge j 8 with hj|hj
   ·exact hj
   ·rw [List.getElem?_eq_none (by simpa using hj)] at hv;cases hv
  have:=h1 j v hv
  rw [List.append_assoc,List.getElem?_append_left (by rw [List.length_take];omega),List.getElem?_take,if_pos (by omega)]
  exact this
 ·rw [List.getElem?_append_right hi] at hd
  have hi':i=l.length:=by
   rcases Nat.lt_or_ge (i-l.length) 1 with h'|h'
   ·omega
   ·rw [List.getElem?_eq_none (by simpa using h')] at hd;cases hd
  subst hi'
  simp only [Nat.sub_self,List.getElem?_cons_zero,Option.some.injEq] at hd
  subst hd
  refine ⟨b1,p1,n1,c1,b2,p2,n2,c2,b3,p3,n3,c3,fun j v hv=>?_,.inl hL⟩
  have hj:j<8:=by
   rcases Nat.lt_or_ge j 8 with hj|hj
   ·exact hj
   ·rw [List.getElem?_eq_none (by simpa using hj)] at hv;cases hv
  rw [List.append_assoc,List.getElem?_append_right (by rw [List.length_take];omega),List.length_take,Nat.min_eq_left hl,Nat.add_sub_cancel_left,List.getElem?_append_left (by simpa using hj)]
  exact hv
theorem NR.JM {V:View}{vs:List Value}{l:List Nd}(h:NR V vs l){k:Nat}{d:Nd}(hd:l[k]?=some d){x:Int}:NR V (vs.set (k*8+6) (.int .i64 x)) (l.set k ⟨d.ln,x,d.right⟩):=by
 intro i d' hd'
 rw [List.getElem?_set] at hd'
 split at hd'
 ·rename_i e
  subst e
  split at hd'
  ·cases hd'
   obtain ⟨b1,p1,n1,c1,b2,p2,n2,c2,b3,p3,n3,c3,h1,h2⟩:=h k d hd
   refine ⟨b1,p1,n1,c1,b2,p2,n2,c2,b3,p3,n3,c3,fun j v hv=>?_,h2⟩
   rw [List.getElem?_set]
   by_cases hj:j=6
   ·subst hj
    have:=h1 6 _ rfl
    have hlt:k*8+6<vs.length:=by
     rcases Nat.lt_or_ge (k*8+6) vs.length with h|h
     ·exact h
     ·rw [List.getElem?_eq_none h] at this;cases this
    rw [if_pos rfl,if_pos hlt]
    exact hv
   ·rw [if_neg (by omega)]
    refine h1 j v ?_
    match j,hj,hv with
    | 0,_,hv=>exact hv
    | 1,_,hv=>exact hv
    | 2,_,hv=>exact hv
    | 3,_,hv=>exact hv
    | 4,_,hv=>exact hv
    | 5,_,hv=>exact hv
    | 6,hj,_=>exact absurd rfl hj
    | 7,_,hv=>exact hv
    | n+8,_,hv=>exact hv
  ·cases hd'
 ·rename_i e
  obtain ⟨b1,p1,n1,c1,b2,p2,n2,c2,b3,p3,n3,c3,h1,h2⟩:=h i d' hd'
  refine ⟨b1,p1,n1,c1,b2,p2,n2,c2,b3,p3,n3,c3,fun j v hv=>?_,h2⟩
  have hj:j<8:=by
   rcases Nat.lt_or_ge j 8 with hj|hj
   ·exact hj
   ·rw [List.getElem?_eq_none (by simpa using hj)] at hv;cases hv
  rw [List.getElem?_set_ne (by omega)]
  exact h1 j v hv
theorem NR.JN {V:View}{vs:List Value}{l:List Nd}(h:NR V vs l){k:Nat}{d:Nd}(hd:l[k]?=some d){x:Int}:NR V (vs.set (k*8+7) (.int .i64 x)) (l.set k ⟨d.ln,d.left,x⟩):=by
 intro i d' hd'
 rw [List.getElem?_set] at hd'
 split at hd'
 ·rename_i e
  subst e
  split at hd'
  ·cases hd'
   obtain ⟨b1,p1,n1,c1,b2,p2,n2,c2,b3,p3,n3,c3,h1,h2⟩:=h k d hd
   refine ⟨b1,p1,n1,c1,b2,p2,n2,c2,b3,p3,n3,c3,fun j v hv=>?_,h2⟩
   rw [List.getElem?_set]
   by_cases hj:j=7
   ·subst hj
    have:=h1 7 _ rfl
    have hlt:k*8+7<vs.length:=by
     rcases Nat.lt_or_ge (k*8+7) vs.length with h|h
     ·exact h
     ·rw [List.getElem?_eq_none h] at this;cases this
    rw [if_pos rfl,if_pos hlt]
    exact hv
   ·rw [if_neg (by omega)]
    refine h1 j v ?_
    match j,hj,hv with
    | 0,_,hv=>exact hv
    | 1,_,hv=>exact hv
    | 2,_,hv=>exact hv
    | 3,_,hv=>exact hv
    | 4,_,hv=>exact hv
    | 5,_,hv=>exact hv
    | 6,_,hv=>exact hv
    | 7,hj,_=>exact absurd rfl hj
    | n+8,_,hv=>exact hv
  ·cases hd'
 ·rename_i e
  obtain ⟨b1,p1,n1,c1,b2,p2,n2,c2,b3,p3,n3,c3,h1,h2⟩:=h i d' hd'
  refine ⟨b1,p1,n1,c1,b2,p2,n2,c2,b3,p3,n3,c3,fun j v hv=>?_,h2⟩
  have hj:j<8:=by
   rcases Nat.lt_or_ge j 8 with hj|hj
   ·exact hj
   ·rw [List.getElem?_eq_none (by simpa using hj)] at hv;cases hv
  rw [List.getElem?_set_ne (by omega)]
  exact h1 j v hv
theorem NR.kids {V:View}{vs:List Value}{l r:List Nd}{ln:L3}{u v x y:Int}(h:NR V vs (l++⟨ln,u,v⟩::r)):NR V ((vs.set (l.length*8+6) (.int .i64 x)).set (l.length*8+7) (.int .i64 y)) (l++⟨ln,x,y⟩::r):=by
 have e1:(l++(⟨ln,u,v⟩:Nd)::r)[l.length]?=some ⟨ln,u,v⟩:=by simp
 have h1:=h.JM e1 (x:=x)
 have e2:(l++(⟨ln,u,v⟩:Nd)::r).set l.length ⟨ln,x,v⟩=l++⟨ln,x,v⟩::r:=by simp
 rw [e2] at h1
 have e3:(l++(⟨ln,x,v⟩:Nd)::r)[l.length]?=some ⟨ln,x,v⟩:=by simp
 have h2:=h1.JN e3 (x:=y)
 have e4:(l++(⟨ln,x,v⟩:Nd)::r).set l.length ⟨ln,x,y⟩=l++⟨ln,x,y⟩::r:=by simp
 rw [e4] at h2
 exact h2
theorem NR.take {V:View}{vs:List Value}{l:List Nd}(h:NR V vs l):NR V (vs.take (l.length*8)) l:=by
 intro i d hd
 obtain ⟨b1,p1,n1,c1,b2,p2,n2,c2,b3,p3,n3,c3,h1,h2⟩:=h i d hd
 refine ⟨b1,p1,n1,c1,b2,p2,n2,c2,b3,p3,n3,c3,fun j v hv=>?_,h2⟩
 have hj:j<8:=by
  rcases Nat.lt_or_ge j 8 with hj|hj
  ·exact hj
  ·rw [List.getElem?_eq_none (by simpa using hj)] at hv;cases hv
 have hi:i<l.length:=by
  rcases Nat.lt_or_ge i l.length with h|h
  ·exact h
  ·rw [List.getElem?_eq_none h] at hd;cases hd
 rw [List.getElem?_take,if_pos (by omega)]
 exact h1 j v hv
theorem NS.ofRow {V:View}{b c:Nat}{vm:List Value}{l:List Nd}{ty:TypeId}(hb:vm≠[]->V.bf b (.cells vm.toArray ty (0,0)))(hc:l.length<=c)(hr:NR V vm l):NS V (mA b c) l.length c l:=by
 refine ⟨rfl,hc,⟨_,?_,hr.take⟩,?_⟩
 ·intro i v hv
  rw [List.getElem?_take] at hv
  split at hv
  ·rename_i hi
   have hne:vm≠[]:=fun e=>by rw [e] at hv;simp at hv
   refine ⟨⟨b,0,none⟩,by unfold mA;rw [if_neg (by omega)],?_⟩
   rw [add_zero']
   exact bW (hb hne) hv
  ·cases hv
 ·intro e
  unfold mA at e
  split at e
  ·assumption
  ·cases e
theorem wQ:∀(t:Tr) {V:View} {p:OA} {ob nb wb:Nat} {root:Int} {n c:Nat} {vs:List Value} {l:List Nd},RT V p t->t.jB Bd->n=l.length ->
  V.w.heap[ob]?=some (.cells #[.int .i64 root,.slice (mA nb c) n c] 42 (0,0))->V.X ob ->
  V.w.heap[wb]?=some (.cells #[.func (.func 135) #[] #[.pointer (some ⟨ob,0,none⟩),.pointer (some ⟨wb,0,none⟩)]] 214 (0,0))->V.X wb ->
  (vs≠[]->V.w.heap[nb]?=some (.cells vs.toArray 76 (0,0)))->(vs≠[]->V.X nb)->ob≠wb->(vs≠[]->ob≠nb)->(vs≠[]->wb≠nb)->n<=c->c*8<=vs.length->NR V vs l->n+t.size<=1000000 ->
  ab prog 135 #[.pointer p,.pointer (some ⟨ob,0,none⟩),.pointer (some ⟨wb,0,none⟩)] V fun r V'=>∃(bm:Nat)(vm:List Value)(c':Nat),(vm≠[]->V'.w.heap[bm]?=some (.cells vm.toArray 76 (0,0)))/\(vm≠[]->V.w.heap.size<=bm\/(vs≠[]/\bm=nb)) /\
   r=.int .i64 (rt n t)/\V'.w.heap[ob]?=some (.cells #[.int .i64 root,.slice (mA bm c') (n+t.size) c'] 42 (0,0)) /\
   V'.w.heap[wb]?=some (.cells #[.func (.func 135) #[] #[.pointer (some ⟨ob,0,none⟩),.pointer (some ⟨wb,0,none⟩)]] 214 (0,0)) /\
   n+t.size<=c'/\c'*8<=vm.length/\NR (V'.bh (vm≠[]) bm) vm (l++wr n t):=by
 intro t
 induction t with
 | leaf i=>
  intro V p ob nb wb root n c vs l hp _ hn ho hxo hw hxw hv hxv h1 h2 h3 hnc hcv hnr hsz
  refine jd p ob nb wb root n c vs V _ ho hxo hw hxw hv hxv h1 h2 h3 fun V1 l1=>(bF (hp.le l1)).mono ?_
  rintro r V2 l2 rfl
  obtain ⟨b,c0,c1,c2,c3,c4,c5,c6,c7,c8,q,rfl,hb⟩:=hp
  have hb2:=(l1.trans l2) _ _ hb
  have fin:∀(V3:View)(bk:Nat)(x:Int),V2.Le (V3.bh (vs≠[]) bk)->V3.w.heap[ob]?=some (.cells #[.int .i64 root,.slice (mA bk c) n c] 42 (0,0)) ->
    V3.w.heap[wb]?=some (.cells #[.func (.func 135) #[] #[.pointer (some ⟨ob,0,none⟩),.pointer (some ⟨wb,0,none⟩)]] 214 (0,0))->(vs≠[]->V3.w.heap[bk]?=some (.cells vs.toArray 76 (0,0))) ->
    (vs≠[]->V.w.heap.size<=bk\/(vs≠[]/\bk=nb)\/False)->x=rt n (.leaf i)->∃(bm:Nat)(vm:List Value)(c':Nat),(vm≠[]->V3.w.heap[bm]?=some (.cells vm.toArray 76 (0,0)))/\(vm≠[]->V.w.heap.size<=bm\/(vs≠[]/\bm=nb)) /\
   Value.int .i64 x=.int .i64 (rt n (.leaf i))/\V3.w.heap[ob]?=some (.cells #[.int .i64 root,.slice (mA bm c') (n+(Tr.leaf i).size) c'] 42 (0,0)) /\
   V3.w.heap[wb]?=some (.cells #[.func (.func 135) #[] #[.pointer (some ⟨ob,0,none⟩),.pointer (some ⟨wb,0,none⟩)]] 214 (0,0)) /\
   n+(Tr.leaf i).size<=c'/\c'*8<=vm.length/\NR (V3.bh (vm≠[]) bm) vm (l++wr n (.leaf i)):=by
   intro V3 bk x hle e1 e2 e3 e4 hx
   refine ⟨bk,vs,c,e3,fun h=>?_,by rw [hx],e1,e2,hnc,hcv,?_⟩
   ·rcases e4 h with h|h|h
    ·exact .inl h
    ·exact .inr h
    ·exact h.elim
   ·simp only [wr,List.append_nil]
    exact hnr.le ((l1.trans l2).trans hle)
  refine ⟨_,rfl,fun _=>⟨rfl,rfl,i,um hb2 11 rfl,fun hi V3 bk a1 a2 a3 a4 a5=>fin V3 bk _ a1 a2 a3 a4 a5 (by subst hi;rfl),fun hi V3 bk a1 a2 a3 a4 a5=>fin V3 bk _ a1 a2 a3 a4 a5 (by subst hi;rfl)⟩,fun h=>by cases h⟩
 | node ln x y Ag ihy=>
  intro V p ob nb wb root n c vs l hp hall hn ho hxo hw hxw hv hxv h1 h2 h3 hnc hcv hnr hsz
  simp only [Tr.size] at hsz
  obtain ⟨hbd,hax,Iv⟩:=hall
  refine jd p ob nb wb root n c vs V _ ho hxo hw hxw hv hxv h1 h2 h3 fun V1 l1=>(bF (hp.le l1)).mono ?_
  rintro r V2 l2 rfl
  have Ai:=l1.trans l2
  obtain ⟨b,x1,x2,x3,y1,y2,y3,z1,z2,z3,pl,pr,i,rfl,hb,hl,hx,hy⟩:=hp
  refine ⟨_,rfl,(fun h=>by cases h),fun _=>⟨rfl,rfl,x1,x2,x3,y1,y2,y3,z1,z2,z3,?_⟩⟩
  have hb2:=Ai _ _ hb
  have hat:∀j v,([.int .i64 x1,.int .i64 x2,.pointer x3,.int .i64 y1,.int .i64 y2,.pointer y3,.int .i64 z1,.int .i64 z2,.pointer z3,.pointer pl,.pointer pr,.bool i]:List Value)[j]?=some v->V2.at ((⟨b,0,none⟩:Addr).add j) v:=by
   intro j v hv;rw [add_zero'];exact bW (xs:=[_,_,_,_,_,_,_,_,_,_,_,_]) hb2 hv
  obtain ⟨s1,s2,s3⟩:=hbd.sz
  refine ⟨⟨b,0,none⟩,rfl,hat 0 _ rfl,hat 1 _ rfl,hat 2 _ rfl,hat 3 _ rfl,hat 4 _ rfl,hat 5 _ rfl,hat 6 _ rfl,hat 7 _ rfl,hat 8 _ rfl,fun V5 l5=>(yX (hl.le (Ai.trans l5)) s1 s2 s3 (by omega)).mono ?_⟩
  rintro r V6 l6 FP
  have Em:=FP
  obtain ⟨q1,m1,e1,q2,m2,e2,q3,m3,e3,rfl,-⟩:=FP
  have zv:=Ai.trans (l5.trans l6)
  refine ⟨_,_,_,_,_,_,_,_,_,_,_,_,rfl,by omega,hnc,hcv,rfl,by intro v hv;simp at hv;rcases hv with rfl|rfl|rfl|rfl|rfl|rfl|rfl|rfl<;>rfl,fun sp c' g1 g2=>?_⟩
  have hb6:=zv _ _ hb
  refine ⟨rfl,rfl,pl,um hb6 9 rfl,fun V7 l7 bk1 bk2 E5 f1 f2 f3 f4 f5 f6 f7 f8 f9=>?_⟩
  have hpush:=NR.push (sp:=sp) (x:=0) (y:=0) (hnr.le zv) (by omega) (ln:=ln) Em
  rw [←hn] at hpush
  generalize hrow:vs.take (n*8)++([_,_,_,_,_,_,_,_]:List Value)++sp=row at f1 f2 f8 f9 hpush ⊢
  have hrl:row.length=n*8+8+sp.length:=by
   rw [←hrow];simp only [List.length_append,List.length_take,List.length_cons,List.length_nil];omega
  have Ez:row≠[]:=fun e=>by rw [e] at hrl;simp only [List.length_nil] at hrl;omega
  have gF:=zv.trans l7
  have i1:=Ag (V:=V7.aH [vb row V7.w.heap.size bk1,bk2,E5]) (p:=pl) (ob:=bk2) (nb:=bk1) (wb:=E5) (root:=root) (n:=n+1) (c:=c') (vs:=row) (l:=l++[⟨ln,0,0⟩]) (RT.le (V:=V) (V':=V7.aH _) (fun b o h=>gF b o h) hx) hax (by simp [hn]) f3 ⟨by simp,f4⟩ f5 ⟨by simp,f6⟩ f1 (fun h=>⟨by simp [yP h],f2 h⟩) f7 (fun h=>(f8 h).symm) (fun h=>(f9 h).symm) g1 (by omega) (NR.le (V:=V6) (V':=V7.aH _) hpush fun b o h=>l7 b o h) (by omega)
  refine i1.mono ?_
  rintro r V8 l8 ⟨bm,vm,c1,a1,a2,rfl,a3,a4,a5,a6,a7⟩
  have M7:V7.Le V8:=fun b o h=>l8 b o h
  have K_:V7.Le (V8.shut.bh (vm≠[]) bm):=kH (V':=V7) M7 (View.Le.refl V7) fun h=>(a2 h).imp id fun h'=>by rw [h'.2];exact f2 Ez
  refine ⟨bm,vm,a1,a2,_,rfl,_,_,_,a3,a4,rfl,rfl,pr,um ((gF.trans K_) _ _ hb) 10 rfl,fun V9 l9 E6 HC HD d1 d2 d3 d4 d5 d6 d7 d8 d9=>?_⟩
  have Gb:vm≠[]:=fun e=>by rw [e] at a6;simp at a6;omega
  have DL:V.Le V9:=(gF.trans K_).trans l9
  have i2:=ihy (V:=V9.aH [vb vm V9.w.heap.size E6,HC,HD]) (p:=pr) (ob:=HC) (nb:=E6) (wb:=HD) (root:=root) (n:=n+1+x.size) (c:=c1) (vs:=vm) (l:=l++[⟨ln,0,0⟩]++wr (n+1) x) (RT.le (V:=V) (V':=V9.aH _) (fun b o h=>DL b o h) hy) Iv (by simp [hn,aW];omega) d3 ⟨by simp,d4⟩ d5 ⟨by simp,d6⟩ d1 (fun h=>⟨by simp [yP h],d2 h⟩) d7 (fun h=>(d8 h).symm) (fun h=>(d9 h).symm) a5 a6 (NR.le (V:=V8.bh (vm≠[]) bm) (V':=V9.aH _) a7 fun b o h=>l9 b o h) (by omega)
  refine i2.mono ?_
  rintro r iC l10 ⟨bn,vn,c2,b1,b2,rfl,b3,b4,b5,b6,b7⟩
  have hs1:n<n+1+x.size+y.size:=by omega
  have hlen:n*8+8<=vn.length:=by omega
  simp only [Int.toNat_natCast]
  refine ⟨bn,vn,b1,b2,_,rfl,_,_,_,b3,b4,⟨by omega,by omega⟩,b5,by omega,⟨by omega,by omega⟩,b5,by rw [List.length_set];omega,fun mf Mh u1 u2 u3 u4 u5=>?_⟩
  have hfin:=NR.kids (V:=iC.bh (vn≠[]) bn) (l:=l) (r:=wr (n+1) x++wr (n+1+x.size) y) (ln:=ln) (u:=0) (v:=0) (x:=rt (n+1) x) (y:=rt (n+1+x.size) y) (by simpa using b7)
  rw [←hn] at hfin
  refine ⟨Mh,_,c2,u4,fun h=>?_,rfl,by rw [show n+(Tr.node ln x y).size=n+1+x.size+y.size from by simp only [Tr.size];omega];exact u2,u3,by simp only [Tr.size];omega,by simp only [List.length_set];omega,?_⟩
  ·rcases u5 h with h|h|h
   ·exact .inl h
   ·exact .inr h
   ·exact h.elim
  ·simp only [wr]
   exact NR.le (V:=iC.bh (vn≠[]) bn) hfin fun b o h=>u1 b o h
theorem rL {V:View}{p:OA}{t:Tr}(h:RT V p t)(ha:t.jB Bd)(hs:t.size<=1000000) :
  ab prog 90 #[.pointer p] V fun r V'=>∃q n c,r=.agg #[.int .i64 (rt 0 t),.slice q n c]/\NS V' q n c (wr 0 t):=by
 refine tS p V _ fun V1 l1 bk1 bk2 g1 g2 g3 g4 g5=>?_
 refine ab.DY (wQ t (V:=V1.aH [bk1,bk2]) (nb:=0) (vs:=[]) (l:=[]) (n:=0) (c:=0) (RT.le (V:=V) (V':=V1.aH _) (fun b o h=>l1 b o h) h) ha rfl g1 ⟨by simp,g2⟩ g3 ⟨by simp,g4⟩ (fun h=>absurd rfl h) (fun h=>absurd rfl h) g5 (fun h=>absurd rfl h) (fun h=>absurd rfl h) (Nat.le_refl _) (Nat.le_refl _) (fun i d hd=>by simp at hd) (by omega)) ?_
 rintro r V2 l2 hH ⟨bm,vm,c',a1,a2,rfl,a3,a4,a5,a6,a7⟩
 refine ⟨_,rfl,_,_,_,_,a3,a4,fun V3 l3=>⟨_,_,_,rfl,?_⟩⟩
 simp only [List.nil_append,Nat.zero_add] at a7 a5 ⊢
 have jy:V2.Le V3:=fun b o h=>l3 b o h
 have:=NS.ofRow (V:=V3) (b:=bm) (c:=c') (vm:=vm) (l:=wr 0 t) (ty:=76) (fun hne=>jy _ _ ⟨fun hh=>?_,a1 hne⟩) (by rw [aW];exact a5) ((a7.le AW).le jy)
 ·rw [aW] at this;exact this
 ·have h1:=V1.hH bm (hH bm hh)
  rcases a2 hne with h|h
  ·have h:V1.w.heap.size<=bm:=h
   omega
  ·exact h.1 rfl
end Go.Proofs.Tryz
namespace Go.Proofs.Tryz
open Go.br
def mT (V:View)(g:Nat)(y:Value):Prop:=V.at ⟨g,0,none⟩ y
theorem mT.le {V V':View}{g:Nat}{y:Value}(h:mT V g y)(l:V.Le V'):mT V' g y:=l.at h
def D9 (y:Value):Prop:=∃a:Addr,y=.iface 315 (.pointer (some a))
end Go.Proofs.Tryz
namespace Go.Proofs.Tryz
open Go.br Go.dS
theorem uH {V:View}{p:OA}{t:Tr}{kb:Nat}{k:Int}(h:RT V p t)(hw:V.w.heap[kb]?=some (.cells #[.int .i64 k] 3 (0,0)))(hx:V.X kb)(h0:0<=k)(h1:k<=1000000) :
  ab prog 210 #[.pointer p,.pointer (some ⟨kb,0,none⟩)] V fun r V'=>r=.tuple #[]/\V'.w.heap[kb]?=some (.cells #[.int .i64 (k+if t.fZ then 0 else 1)] 3 (0,0)):=by
 refine nt p kb k V _ hw hx fun V1 l1=>(bF (h.le l1)).mono ?_
 rintro r V2 l2 rfl
 refine ⟨_,rfl,fun h2 V3 l3 e=>⟨rfl,?_⟩,fun h2 V4 l4 e=>⟨rfl,?_⟩⟩
 ·have h2:t.fZ=false:=by simpa using h2
  rw [aD (by omega)] at e
  rw [h2];exact e
 ·have h2:t.fZ=true:=by simpa using h2
  rw [h2]
  simpa using e
def zR:List Tr->Nat
 | []=>0
 | t::r=>t.size+zR r
def vq:List Tr->Nat
 | []=>0
 | t::r=>2*t.size+1+vq r
theorem pQ (a b:List Tr):zR (a++b)=zR a+zR b:=by
 induction a with
 | nil=>simp [zR]
 | cons t r ih=>simp only [List.cons_append,zR,ih];omega
theorem pf (a b:List Tr):vq (a++b)=vq a+vq b:=by
 induction a with
 | nil=>simp [vq]
 | cons t r ih=>simp only [List.cons_append,vq,ih];omega
def Ea (V:View)(vs:List Value)(ts:List Tr):Prop:=∀(i:Nat)(t:Tr),ts[i]?=some t->∃p,vs[i]?=some (.pointer p)/\RT V p t
theorem Ea.le {V V':View}{vs:List Value}{ts:List Tr}(h:Ea V vs ts)(l:V.Le V'):Ea V' vs ts:=fun i t ht=>by
 obtain ⟨p,h1,h2⟩:=h i t ht
 exact ⟨p,h1,h2.le l⟩
theorem CY (ts:List Tr):ts.length<=vq ts:=by
 induction ts with
 | nil=>simp [vq]
 | cons t r ih=>simp only [vq,List.length_cons];omega
theorem Ea.C5 {V:View}{vs sp:List Value}{ts:List Tr}{x y:Tr}{p q:OA}{m:Nat}(h:Ea V vs ts)(hm:m<=ts.length)(hl:m<=vs.length)(hx:RT V p x)(hy:RT V q y) :
  Ea V (vs.take m++[.pointer p,.pointer q]++sp) (ts.take m++[x,y]):=by
 intro i t ht
 rcases Nat.lt_or_ge i m with hi|hi
 ·rw [List.getElem?_append_left (by rw [List.length_take];omega),List.getElem?_take,if_pos hi] at ht
  obtain ⟨r,h1,h2⟩:=h i t ht
  refine ⟨r,?_,h2⟩
  rw [List.append_assoc,List.getElem?_append_left (by rw [List.length_take];omega),List.getElem?_take,if_pos hi]
  exact h1
 ·rw [List.getElem?_append_right (by rw [List.length_take];omega),List.length_take,Nat.min_eq_left hm] at ht
  obtain ⟨j,rfl⟩:∃j,i=m+j:=⟨i-m,by omega⟩
  rw [Nat.add_sub_cancel_left] at ht
  have e:∀v,([.pointer p,.pointer q]:List Value)[j]?=some v->(vs.take m++[.pointer p,.pointer q]++sp)[m+j]?=some v:=by
   intro v hv
   have hj:j<2:=by
    rcases Nat.lt_or_ge j 2 with hj|hj
    ·exact hj
    ·rw [List.getElem?_eq_none (by simpa using hj)] at hv;cases hv
   rw [List.append_assoc,List.getElem?_append_right (by rw [List.length_take];omega),List.length_take,Nat.min_eq_left hl,Nat.add_sub_cancel_left,List.getElem?_append_left (by simpa using hj)]
   exact hv
  match j,ht,e with
  | 0,ht,e=>cases ht;exact ⟨p,e _ rfl,hx⟩
  | 1,ht,e=>cases ht;exact ⟨q,e _ rfl,hy⟩
  | n+2,ht,_=>cases ht
theorem mV {V:View}{p:OA}{t:Tr}{kb:Nat}(h:RT V p t)(hs:t.size<=400000)(hw:V.w.heap[kb]?=some (.cells #[.int .i64 0] 3 (0,0)))(hx:V.X kb) :
  ab prog 136 #[.pointer p,.func (.func 210) #[] #[.pointer (some ⟨kb,0,none⟩)]] V fun r V'=>r=.tuple #[]/\V'.w.heap[kb]?=some (.cells #[.int .i64 (t.size:Int)] 3 (0,0)):=by
 refine kc p kb 0 V _ hw hx ⟨fun z k V'=>∃ts:List Tr,z.1=ts.length/\z.1<=z.2.1/\z.2.1<=z.2.2.1.length/\Ea V' z.2.2.1 ts/\z.2.2.2+(zR ts:Int)=(t.size:Int)/\0<=z.2.2.2/\k=vq ts/\k<=2*t.size+1,
  ⟨(1,1,[.pointer p],0),2*t.size+1,⟨by (try dsimp only);and_intros<;>first|rfl|trivial|omega,[t],rfl,Nat.le_refl _,Nat.le_refl _,?_,by simp [zR],Int.le_refl _,by simp [vq],Nat.le_refl _⟩⟩,?_⟩
 ·intro i x hx
  match i,hx with
  | 0,hx=>cases hx;exact ⟨p,rfl,h⟩
  | n+1,hx=>cases hx
 ·rintro ⟨n,c,vs,k⟩ m V1 l1 ⟨ts,h1,h2,h3,hst,h4,h5,h6,h7⟩
  dsimp only at h1 h2 h3 hst h4 h5 ⊢
  have hnl:=CY ts
  refine ⟨by trivial,fun g1=>?_,fun g1 V6 l6 e=>?_⟩
  ·have g1:0<n:=by simpa using g1
   have w1:i64.wrap ((n:Int)-1)=((n-1:Nat):Int):=by rw [aD (by omega)];omega
   rw [w1]
   simp only [Int.toNat_natCast,Nat.mul_one]
   have hlt:n-1<ts.length:=by omega
   obtain ⟨q,hq1,hq2⟩:=hst (n-1) ts[n-1] (List.getElem?_eq_getElem hlt)
   have hts:ts=ts.take (n-1)++[ts[n-1]]:=by
    rw [List.take_append_getElem hlt,List.take_of_length_le (by omega)]
   generalize ts[n-1]=x at hq2 hts
   have e1:zR ts=zR (ts.take (n-1))+x.size:=by
    conv=>lhs;rw [hts]
    rw [pQ];simp [zR]
   have e2:vq ts=vq (ts.take (n-1))+(2*x.size+1):=by
    conv=>lhs;rw [hts]
    rw [pf];simp [vq]
   refine ⟨⟨by omega,by omega⟩,h2,q,hq1,⟨by omega,by omega⟩,fun V2 l2 bk f1 f2=>(uH (V:=V2.aH [bk]) (RT.le (V:=V1) (V':=V2.aH _) (fun b o h=>l2 b o h) hq2) f1 ⟨by simp,f2⟩ h5 (by omega)).mono ?_⟩
   rintro r V3 l3 ⟨rfl,f3⟩
   refine ⟨rfl,_,f3,fun V4 l4=>?_⟩
   have dL:V1.Le V4:=fun b o h=>l4 b o (l3 b o (l2 b o h))
   refine (bF (hq2.le dL)).mono ?_
   rintro r V5 l5 rfl
   refine ⟨_,rfl,fun g2=>?_,fun g2=>?_⟩
   ·have g2:x.fZ=false:=by simpa using g2
    cases x with
    | leaf i=>cases g2
    | node ln a b=>
     obtain ⟨bb,x1,x2,x3,y1,y2,y3,z1,z2,z3,pl,pr,i,rfl,hb,hl,ha,hbb⟩:=hq2
     have hb5:=(dL.trans l5) _ _ hb
     simp only [Tr.size] at e1 e2
     refine ⟨rfl,rfl,pr,um hb5 10 rfl,rfl,rfl,pl,um hb5 9 rfl,by omega,by omega,by omega,rfl,by intro v hv;simp at hv;rcases hv with rfl|rfl<;>rfl,fun sp c' k1 k2=>?_⟩
     refine ⟨(n-1+2,c',_,_),vq (ts.take (n-1))+(2*a.size+1)+(2*b.size+1),by omega,⟨by (try dsimp only);and_intros<;>first|rfl|trivial,ts.take (n-1)++[b,a],?_,k1,?_,(hst.le (dL.trans l5)).C5 (by omega) (by omega) (hbb.le (dL.trans l5)) (ha.le (dL.trans l5)),?_,?_,?_,by omega⟩⟩
     ·simp;omega
     ·dsimp only;simp only [List.length_append,List.length_take,List.length_cons,List.length_nil];omega
     ·rw [pQ];simp [zR,Tr.fZ];omega
     ·simp [Tr.fZ];omega
     ·rw [pf];simp [vq];omega
   ·have g2:x.fZ=true:=by simpa using g2
    cases x with
    | node ln a b=>cases g2
    | leaf i=>
     simp only [Tr.size] at e1 e2
     refine ⟨(n-1,c,vs,_),vq (ts.take (n-1)),by omega,⟨by (try dsimp only);and_intros<;>first|rfl|trivial,ts.take (n-1),?_,by dsimp only;omega,h3,fun i t hi=>?_,?_,?_,rfl,by omega⟩⟩
     ·simp;omega
     ·rw [List.getElem?_take] at hi
      split at hi
      ·exact (hst.le (dL.trans l5)) i t hi
      ·cases hi
     ·simp [Tr.fZ];omega
     ·simp [Tr.fZ];omega
  ·have g1:n=0:=by simpa using g1
   refine ⟨rfl,?_⟩
   have:ts=[]:=List.length_eq_zero_iff.1 (by omega)
   subst this
   simp only [zR] at h4
   have:k=(t.size:Int):=by omega
   rw [←this]
   exact e
theorem wS {V:View}{p:OA}{t:Tr}(h:RT V p t)(hs:t.size<=400000):ab prog 176 #[.pointer p] V fun r V'=>r=.int .i64 (t.size:Int):=by
 refine qN p V _ fun V1 l1 bk g1 g2=>(mV (V:=V1.aH [bk]) (RT.le (V:=V) (V':=V1.aH _) (fun b o h=>l1 b o h) h) hs g1 ⟨by simp,g2⟩).mono ?_
 rintro r V2 l2 ⟨rfl,e⟩
 exact ⟨rfl,_,e,fun V3 l3=>rfl⟩
def AT (V:View)(v:Value)(root:Int)(l:List Nd):Prop:=∃q n c,v=.agg #[.int .i64 root,.slice q n c]/\NS V q n c l
theorem AT.le {V V':View}{v:Value}{root:Int}{l:List Nd}(h:AT V v root l)(hl:V.Le V'):AT V' v root l:=by
 obtain ⟨q,n,c,e,h⟩:=h;exact ⟨q,n,c,e,h.le hl⟩
theorem AT.zero {V:View}:AT V (.agg #[.int .i64 0,.slice none 0 0]) 0 []:=⟨_,_,_,rfl,NS.nil⟩
theorem qt {V:View}{p:OA}{t:Tr}(h:RT V p t)(ha:t.jB Bd)(hs:t.size<=400000){y:Value}(hy:mT V 1 y) :
  ab prog 134 #[.pointer p] V fun r V'=>∃v e,r=.tuple #[v,e]/\(if 65536<t.size then v=.agg #[.int .i64 0,.slice none 0 0]/\e=y else AT V' v (rt 0 t) (wr 0 t)/\e=.nilIface):=by
 refine lW p V _ fun V1 l1=>(wS (h.le l1) hs).mono ?_
 rintro r V2 l2 rfl
 have Ai:=l1.trans l2
 refine ⟨_,rfl,fun g=>⟨y,⟨_,rfl,hy.le Ai⟩,fun V3 l3=>⟨_,_,rfl,?_⟩⟩,fun g V4 l4=>(rL (h.le (Ai.trans l4)) ha (by omega)).mono ?_⟩
 ·have g:65536<t.size:=by simp at g;omega
  rw [if_pos g];exact ⟨rfl,rfl⟩
 ·have g:¬65536<t.size:=by simp at g;omega
  rintro r V5 l5 ⟨q,n,c,rfl,hns⟩
  refine ⟨_,_,_,_,rfl,fun V6 l6=>⟨_,_,rfl,?_⟩⟩
  rw [if_neg g]
  exact ⟨⟨_,_,_,rfl,hns.le l6⟩,rfl⟩
theorem wR:∀(t u:Tr) {V:View} {p q:OA},RT V p t->RT V q u->t.jB Bd->u.jB Bd->ab prog 93 #[.pointer p,.pointer q] V fun r V'=>r=.bool (decide (t=u)):=by
 intro t
 induction t with
 | leaf i=>
  intro u V p q hp hq _ _
  refine jG p q V _ fun V1 l1=>(bF (hp.le l1)).mono ?_
  rintro r V2 l2 rfl
  refine ⟨_,rfl,fun V3 l3=>(bF (hq.le (l1.trans (l2.trans l3)))).mono ?_⟩
  rintro r V4 l4 rfl
  refine ⟨_,rfl,fun g V5 l5=>?_,fun g V6 l6=>(bF (hp.le (l1.trans (l2.trans (l3.trans (l4.trans l6)))))).mono ?_⟩
  ·cases u with
   | leaf j=>cases g
   | node ln a b=>simp
  ·cases u with
   | node ln a b=>cases g
   | leaf j=>
    rintro r V7 l7 rfl
    have gF:=l1.trans (l2.trans (l3.trans (l4.trans (l6.trans l7))))
    obtain ⟨b,c0,c1,c2,c3,c4,c5,c6,c7,c8,r,rfl,hb⟩:=hp
    obtain ⟨b',d0,d1,d2,d3,d4,d5,d6,d7,d8,r',rfl,hb'⟩:=hq
    refine ⟨_,rfl,fun _=>⟨rfl,rfl,i,um (gF _ _ hb) 11 rfl,rfl,rfl,j,um (gF _ _ hb') 11 rfl,fun V8 l8=>?_⟩,(fun h=>by cases h)⟩
    cases i<;>cases j<;>simp
 | node ln x y Ag ihy=>
  intro u V p q hp hq ha hu
  refine jG p q V _ fun V1 l1=>(bF (hp.le l1)).mono ?_
  rintro r V2 l2 rfl
  refine ⟨_,rfl,fun V3 l3=>(bF (hq.le (l1.trans (l2.trans l3)))).mono ?_⟩
  rintro r V4 l4 rfl
  refine ⟨_,rfl,fun g V5 l5=>?_,fun g V6 l6=>(bF (hp.le (l1.trans (l2.trans (l3.trans (l4.trans l6)))))).mono ?_⟩
  ·cases u with
   | node ln a b=>cases g
   | leaf j=>simp
  ·cases u with
   | leaf j=>cases g
   | node EM a b=>
    rintro r V7 l7 rfl
    have gF:=l1.trans (l2.trans (l3.trans (l4.trans (l6.trans l7))))
    obtain ⟨bb,x1,x2,x3,y1,y2,y3,z1,z2,z3,pl,pr,i,rfl,hb,hl,hx,hy⟩:=hp
    obtain ⟨bb',Lp,Lq,Lr,y1',y2',Lv,z1',z2',Lw,Lj,pr',i',rfl,hb',hl',hx',hy'⟩:=hq
    have uj:∀(U:View),V.Le U->∀j v,([.int .i64 x1,.int .i64 x2,.pointer x3,.int .i64 y1,.int .i64 y2,.pointer y3,.int .i64 z1,.int .i64 z2,.pointer z3,.pointer pl,.pointer pr,.bool i]:List Value)[j]?=some v->U.at ((⟨bb,0,none⟩:Addr).add j) v:=by
     intro U hU j v hv;rw [add_zero'];exact bW (xs:=[_,_,_,_,_,_,_,_,_,_,_,_]) (hU _ _ hb) hv
    have at2:∀(U:View),V.Le U->∀j v,([.int .i64 Lp,.int .i64 Lq,.pointer Lr,.int .i64 y1',.int .i64 y2',.pointer Lv,.int .i64 z1',.int .i64 z2',.pointer Lw,.pointer Lj,.pointer pr',.bool i']:List Value)[j]?=some v->U.at ((⟨bb',0,none⟩:Addr).add j) v:=by
     intro U hU j v hv;rw [add_zero'];exact bW (xs:=[_,_,_,_,_,_,_,_,_,_,_,_]) (hU _ _ hb') hv
    obtain ⟨s1,s2,s3⟩:=ha.1.sz
    obtain ⟨t1,t2,t3⟩:=hu.1.sz
    refine ⟨_,rfl,(fun h=>by cases h),fun _=>⟨rfl,rfl,x1,x2,x3,y1,y2,y3,z1,z2,z3,⟨bb,0,none⟩,rfl,uj V7 gF 0 _ rfl,uj V7 gF 1 _ rfl,uj V7 gF 2 _ rfl,uj V7 gF 3 _ rfl,uj V7 gF 4 _ rfl,uj V7 gF 5 _ rfl,uj V7 gF 6 _ rfl,uj V7 gF 7 _ rfl,uj V7 gF 8 _ rfl,
     rfl,rfl,Lp,Lq,Lr,y1',y2',Lv,z1',z2',Lw,⟨bb',0,none⟩,rfl,at2 V7 gF 0 _ rfl,at2 V7 gF 1 _ rfl,at2 V7 gF 2 _ rfl,at2 V7 gF 3 _ rfl,at2 V7 gF 4 _ rfl,at2 V7 gF 5 _ rfl,at2 V7 gF 6 _ rfl,at2 V7 gF 7 _ rfl,at2 V7 gF 8 _ rfl,
     fun V9 l9=>(uI (hl.le (gF.trans l9)) (hl'.le (gF.trans l9)) s1 s2 s3 t1 t2 t3 (by omega)).mono ?_⟩⟩
    rintro r iC l10 rfl
    have lM:=gF.trans (l9.trans l10)
    have hln:(((ln.1:Rat)=(EM.1:Rat))/\((ln.2.1:Rat)=(EM.2.1:Rat))/\((ln.2.2:Rat)=(EM.2.2:Rat)))↔ln=EM:=by
     rw [Rat.intCast_inj,Rat.intCast_inj,Rat.intCast_inj]
     obtain ⟨u1,u2,u3⟩:=ln
     obtain ⟨v1,v2,v3⟩:=EM
     simp
    refine ⟨_,rfl,fun g1=>⟨rfl,rfl,pl,um (lM _ _ hb) 9 rfl,rfl,rfl,Lj,um (lM _ _ hb') 9 rfl,fun mf cB=>(Ag a (hx.le (lM.trans cB)) (hx'.le (lM.trans cB)) ha.2.1 hu.2.1).mono ?_⟩,fun g1 nJ dR=>?_⟩
    ·have g1:ln=EM:=hln.1 (by simpa using g1)
     rintro r mg cX rfl
     have tu:=lM.trans (cB.trans cX)
     refine ⟨_,rfl,fun g2=>⟨rfl,rfl,pr,um (tu _ _ hb) 10 rfl,rfl,rfl,pr',um (tu _ _ hb') 10 rfl,fun nW cZ=>(ihy b (hy.le (tu.trans cZ)) (hy'.le (tu.trans cZ)) ha.2.2 hu.2.2).mono ?_⟩,fun g2 nX dM=>?_⟩
     ·have g2:x=a:=by simpa using g2
      rintro r mU dL rfl
      refine ⟨_,rfl,fun mh eC=>?_⟩
      congr 1
      rw [Bool.eq_iff_iff,decide_eq_true_eq,decide_eq_true_eq,g1,g2]
      simp
     ·have g2:¬x=a:=by simpa using g2
      rw [decide_eq_false]
      intro e
      cases e
      exact g2 rfl
    ·have g1:¬ln=EM:=fun e=>by rw [decide_eq_true (hln.2 e)] at g1;cases g1
     rw [decide_eq_false]
     intro e
     cases e
     exact g1 rfl
def RA (V:View)(v:Value)(q:Rat):Prop:=∃p n c p' n' c',v=.agg #[.bool (decide (q.num<0)),.slice p n c,.slice p' n' c']/\RD V p n c (ag q.num.natAbs)/\RD V p' n' c' (ag q.den)
theorem RA.le {V V':View}{v:Value}{q:Rat}(h:RA V v q)(l:V.Le V'):RA V' v q:=by
 obtain ⟨p,n,c,p',n',c',e,h1,h2⟩:=h
 exact ⟨p,n,c,p',n',c',e,h1.le l,h2.le l⟩
end Go.Proofs.Tryz
namespace Go.Proofs.Tryz
open Go.br
set_option maxRecDepth 100000
end Go.Proofs.Tryz
namespace Go.Proofs.Tryz
open Go.br Go.dS
def Ht (V:View)(v:Value)(x y:Rat):Prop:=∃(x1 x2:Int)(p:OA)(y1 y2:Int)(q:OA),v=.agg #[.int .i64 x1,.int .i64 x2,.pointer p,.int .i64 y1,.int .i64 y2,.pointer q] /\
 RR V (.agg #[.int .i64 x1,.int .i64 x2,.pointer p]) x/\RR V (.agg #[.int .i64 y1,.int .i64 y2,.pointer q]) y
theorem Ht.le {V V':View}{v:Value}{x y:Rat}(h:Ht V v x y)(l:V.Le V'):Ht V' v x y:=by
 obtain ⟨x1,x2,p,y1,y2,q,e,h1,h2⟩:=h
 exact ⟨x1,x2,p,y1,y2,q,e,h1.le l,h2.le l⟩
end Go.Proofs.Tryz
namespace Go.Proofs.Tryz
open Go.br
set_option maxRecDepth 100000
end Go.Proofs.Tryz
namespace Go.Proofs.Tryz
open Go.br Go.dS
theorem RQ.ofNat {V:View}{p:OA}{n c x:Nat}(h:RN V p n c x){b:Bool}(hb:b=decide ((x:Int)<0)):RQ V (.agg #[.bool b,.slice p n c,.slice none 0 0]) ((x:Int):Rat):=
 kQ (z:=(x:Int)) (d:=1) rfl rfl h RD.nil hb
theorem RQ.int {V:View}{q:Rat}{b:Bool}{p:OA}{n c:Nat}{p':OA}{n' c':Nat}(h:RQ V (.agg #[.bool b,.slice p n c,.slice p' n' c']) q):RI V (.agg #[.bool b,.slice p n c]) q.num:=by
 obtain ⟨p1,n1,c1,p2,n2,c2,e,h1,h2⟩:=h
 cases e
 exact ⟨_,_,_,rfl,h1⟩
theorem RQ.den {V:View}{q:Rat}{b:Bool}{p:OA}{n c:Nat}{p':OA}{n' c':Nat}(h:RQ V (.agg #[.bool b,.slice p n c,.slice p' n' c']) q):RD V p' n' c' (mZ q.den):=by
 obtain ⟨p1,n1,c1,p2,n2,c2,e,h1,h2⟩:=h
 cases e
 exact h2
def qm (px py qx qy:Rat):Rat×Rat×Rat:=
 let a:=-(qy-py);let b:=qx-px;let c:=-(a*px+b*py)
 let f:Rat:=(((a.den*b.den*c.den:Nat):Int):Rat)
 (a*f,b*f,c*f)
theorem E1 {n k:Nat}(h:n<2^k)(hk:0<k):Sz k (((n:Nat):Int):Rat):=by
 refine ⟨?_,?_⟩
 ·show ((n:Nat):Int).natAbs<_
  simpa using h
 ·show 1<2^k
  exact Nat.one_lt_two_pow (by omega)
theorem iu {V:View}{u w:Value}{px py qx qy:Rat}(hp:RP V u px py)(hq:RP V w qx qy){k:Nat}(s1:Sz k px)(s2:Sz k py)(s3:Sz k qx)(s4:Sz k qy)(hk1:1<=k)(hk:64*k+64<274877906944) :
  ab prog 50 #[u,w] V fun r V'=>((qm px py qx qy).1.num=0/\(qm px py qx qy).2.1.num=0->∃l,r=.tuple #[l,.bool false]/\RL V' l 0 0 0) /\
   (¬((qm px py qx qy).1.num=0/\(qm px py qx qy).2.1.num=0)->∃l,r=.tuple #[l,.bool true] /\
    RL V' l ((qm px py qx qy).1.num / (fX (qm px py qx qy).1.num (qm px py qx qy).2.1.num (qm px py qx qy).2.2.num:Int)) ((qm px py qx qy).2.1.num / (fX (qm px py qx qy).1.num (qm px py qx qy).2.1.num (qm px py qx qy).2.2.num:Int)) ((qm px py qx qy).2.2.num / (fX (qm px py qx qy).1.num (qm px py qx qy).2.1.num (qm px py qx qy).2.2.num:Int))):=by
 have hp0:=hp
 have hq0:=hq
 obtain ⟨p1,n1,c1,p2,n2,c2,p3,n3,c3,p4,n4,c4,rfl,hp1,hp2⟩:=hp
 obtain ⟨q1,m1,e1,q2,m2,e2,q3,m3,e3,q4,m4,e4,rfl,-,-⟩:=hq
 refine mb _ p1 n1 c1 p2 n2 c2 _ p3 n3 c3 p4 n4 c4 _ q1 m1 e1 q2 m2 e2 _ q3 m3 e3 q4 m4 e4 V _ fun V1 l1=>(uN (hq0.le l1) (hp0.le l1) s3 s4 s1 s2 hk1 (by omega)).mono ?_
 rintro r V2 l2 ⟨a1,a2,a3,a4,a5,a6,a7,a8,a9,NP,NQ,a12,rfl,hb,hd⟩
 have tb:Sz (k+k+1) (qx-px):=s3.sub s1
 have td:Sz (k+k+1) (qy-py):=s4.sub s2
 have Ai:=l1.trans l2
 refine ⟨_,_,_,_,_,_,_,_,_,_,_,_,_,_,rfl,fun V3 l3=>(lB (qy-py) (by obtain ⟨_,_,_,_,_,_,e,h1,h2⟩:=hd.le l3;cases e;exact h1) (RQ.den (hd.le l3))).mono ?_⟩
 rintro r V4 l4 ha
 obtain ⟨b1,b2,b3,b4,b5,b6,rfl⟩:=ha.shape
 have ta:=td.neg
 have IX:qm px py qx qy=(-(qy-py)*(((((-(qy-py)).den*(qx-px).den*(-(-(qy-py)*px+(qx-px)*py)).den:Nat):Int):Rat)),(qx-px)*(((((-(qy-py)).den*(qx-px).den*(-(-(qy-py)*px+(qx-px)*py)).den:Nat):Int):Rat)),(-(-(qy-py)*px+(qx-px)*py))*(((((-(qy-py)).den*(qx-px).den*(-(-(qy-py)*px+(qx-px)*py)).den:Nat):Int):Rat))):=rfl
 rw [IX]
 generalize -(qy-py)=A at *
 generalize qx-px=B at *
 replace hb:=hb.le (l3.trans l4)
 replace hp1:=hp1.le (Ai.trans (l3.trans l4))
 replace hp2:=hp2.le (Ai.trans (l3.trans l4))
 refine ⟨_,_,_,_,_,_,_,rfl,fun V5 l5=>(cG (ha.le l5) (hp1.le l5) ta s1 (by omega)).mono ?_⟩
 rintro r V6 l6 g6
 obtain ⟨d1,d2,d3,d4,d5,d6,rfl⟩:=g6.shape
 refine ⟨_,_,_,_,_,_,_,rfl,fun V7 l7=>(cG (hb.le (l5.trans (l6.trans l7))) (hp2.le (l5.trans (l6.trans l7))) tb s2 (by omega)).mono ?_⟩
 rintro r V8 l8 g8
 obtain ⟨f1,f2,f3,f4,f5,f6,rfl⟩:=g8.shape
 refine ⟨_,_,_,_,_,_,_,rfl,fun V9 l9=>(g_ (g6.le (l7.trans (l8.trans l9))) (g8.le l9) (ta.mul s1) (tb.mul s2) (by omega)).mono ?_⟩
 rintro r iC l10 g10
 have tc:=((ta.mul s1).add (tb.mul s2)).neg
 obtain ⟨i1,i2,i3,i4,i5,i6,rfl⟩:=g10.shape
 refine ⟨_,_,_,_,_,_,_,rfl,fun mf cB=>(lB (A*px+B*py) (by obtain ⟨_,_,_,_,_,_,e,h1,h2⟩:=g10.le cB;cases e;exact h1) (RQ.den (g10.le cB))).mono ?_⟩
 rintro r mg cX hc
 generalize -(A*px+B*py)=C at *
 obtain ⟨j1,j2,j3,j4,j5,j6,rfl⟩:=hc.shape
 have tu:=l5.trans (l6.trans (l7.trans (l8.trans (l9.trans (l10.trans (cB.trans cX))))))
 replace ha:=ha.le tu
 replace hb:=hb.le tu
 refine ⟨_,_,_,_,_,_,_,rfl,fun nW cZ=>(cN A _ (RQ.den (ha.le cZ))).mono ?_⟩
 rintro r mU dL ⟨k1,k2,k3,rfl,g14⟩
 refine ⟨_,_,_,rfl,fun mh eC=>(cN B _ (RQ.den (hb.le (cZ.trans (dL.trans eC))))).mono ?_⟩
 rintro r nX dM ⟨k4,k5,k6,rfl,g16⟩
 obtain ⟨-,da,-⟩:=bN ta
 obtain ⟨-,db,-⟩:=bN tb
 obtain ⟨-,dc,-⟩:=bN tc
 refine ⟨_,_,_,rfl,fun nJ dR=>(bX (g14.le (eC.trans (dM.trans dR))) (g16.le dR) (by omega)).mono ?_⟩
 rintro r ry fu ⟨k7,k8,k9,rfl,g18⟩
 rw [ae,ae] at g18
 refine ⟨_,_,_,rfl,fun wE gG=>(cN C _ (RQ.den (hc.le (cZ.trans (dL.trans (eC.trans (dM.trans (dR.trans (fu.trans gG))))))))).mono ?_⟩
 rintro r Al lj ⟨k10,k11,k12,rfl,g20⟩
 have NU:=eU (a:=A.den) (b:=B.den)
 refine ⟨_,_,_,rfl,fun ux iy=>(bX (g18.le (gG.trans (lj.trans iy))) (g20.le iy) (by omega)).mono ?_⟩
 rintro r yS lN ⟨k13,k14,k15,rfl,g22⟩
 rw [ae,ae] at g22
 have tf:Sz (k+k+1+(k+k+1)+(k+k+1+k+1+(k+k+1+k+1)+1)) (((A.den*B.den*C.den:Nat):Int):Rat):=E1 (bJ (bJ ta.2 tb.2) tc.2) (by omega)
 generalize A.den*B.den*C.den=M at *
 refine ⟨_,_,_,rfl,fun wJ jy=>(lC (g22.le jy)).mono ?_⟩
 rintro r Cc xq ⟨k16,k17,k18,rfl,g24⟩
 have hf:=RQ.ofNat g24 rfl
 have EI:=cZ.trans (dL.trans (eC.trans (dM.trans (dR.trans (fu.trans (gG.trans (lj.trans (iy.trans (lN.trans (jy.trans xq))))))))))
 refine ⟨_,_,_,_,rfl,fun Cd qk=>(cG (ha.le (EI.trans qk)) (hf.le qk) ta tf (by omega)).mono ?_⟩
 rintro r Fk yy KF
 obtain ⟨o1,o2,o3,o4,o5,o6,rfl⟩:=KF.shape
 refine ⟨_,_,_,_,_,_,_,rfl,fun Hy sj=>(cG (hb.le (EI.trans (qk.trans (yy.trans sj)))) (hf.le (qk.trans (yy.trans sj))) tb tf (by omega)).mono ?_⟩
 rintro r Fl CQ KG
 obtain ⟨o7,o8,o9,N5,N6,N7,rfl⟩:=KG.shape
 refine ⟨_,_,_,_,_,_,_,rfl,fun H5 DS=>(cG (hc.le (EI.trans (qk.trans (yy.trans (sj.trans (CQ.trans DS)))))) (hf.le (qk.trans (yy.trans (sj.trans (CQ.trans DS))))) tc tf (by omega)).mono ?_⟩
 rintro r Fm zw KH
 obtain ⟨t1,t2,t3,t4,t5,t6,rfl⟩:=KH.shape
 refine ⟨_,_,_,_,_,_,_,rfl,fun Ly HL=>(qA (RQ.int (KF.le (sj.trans (CQ.trans (DS.trans (zw.trans HL)))))) (RQ.int (KG.le (DS.trans (zw.trans HL)))) (RQ.int (KH.le HL)) (Nat.le_trans (bN (ta.mul tf)).1 (by omega)) (Nat.le_trans (bN (tb.mul tf)).1 (by omega)) (Nat.le_trans (bN (tc.mul tf)).1 (by omega))).mono ?_⟩
 rintro r Lz MZ ⟨z1,z2⟩
 by_cases hz:(A*((M:Int):Rat)).num=0/\(B*((M:Int):Rat)).num=0
 ·obtain ⟨l,rfl,y1,y2,y3,y4,y5,y6,y7,y8,y9,rfl,w1,w2,w3⟩:=z1 hz
  exact ⟨_,_,_,_,_,_,_,_,_,_,_,_,_,rfl,fun LA EL=>⟨fun _=>⟨_,rfl,_,_,_,_,_,_,_,_,_,rfl,w1.le EL,w2.le EL,w3.le EL⟩,fun h=>absurd hz h⟩⟩
 ·obtain ⟨l,rfl,y1,y2,y3,y4,y5,y6,y7,y8,y9,rfl,w1,w2,w3⟩:=z2 hz
  exact ⟨_,_,_,_,_,_,_,_,_,_,_,_,_,rfl,fun LA EL=>⟨fun h=>absurd h hz,fun _=>⟨_,rfl,_,_,_,_,_,_,_,_,_,rfl,w1.le EL,w2.le EL,w3.le EL⟩⟩⟩
theorem RA.shape {V:View}{v:Value}{q:Rat}(h:RA V v q):∃b p n c p' n' c',v=.agg #[.bool b,.slice p n c,.slice p' n' c']:=by
 obtain ⟨p,n,c,p',n',c',e,-⟩:=h;exact ⟨_,_,_,_,_,_,_,e⟩
def HY (V:View)(v:Value)(x y:Rat):Prop:=∃b p n c p' n' c' d q m e q' m' e',v=.agg #[.bool b,.slice p n c,.slice p' n' c',.bool d,.slice q m e,.slice q' m' e'] /\
 RA V (.agg #[.bool b,.slice p n c,.slice p' n' c']) x/\RA V (.agg #[.bool d,.slice q m e,.slice q' m' e']) y
theorem HY.le {V V':View}{v:Value}{x y:Rat}(h:HY V v x y)(l:V.Le V'):HY V' v x y:=by
 obtain ⟨b,p,n,c,p',n',c',d,q,m,e,q',m',e',rfl,h1,h2⟩:=h
 exact ⟨_,_,_,_,_,_,_,_,_,_,_,_,_,_,rfl,h1.le l,h2.le l⟩
theorem Dj (x y u w:Int):qm (x:Rat) (y:Rat) ((x:Rat)+((1:Int):Rat)*(u:Rat)) ((y:Rat)+((1:Int):Rat)*(w:Rat))=(((-w:Int):Rat),((u:Int):Rat),((w*x-u*y:Int):Rat)):=by
 have e1:(x:Rat)+((1:Int):Rat)*(u:Rat)=((x+u:Int):Rat):=by rw [←Rat.intCast_mul,←Rat.intCast_add,Int.one_mul]
 have e2:(y:Rat)+((1:Int):Rat)*(w:Rat)=((y+w:Int):Rat):=by rw [←Rat.intCast_mul,←Rat.intCast_add,Int.one_mul]
 rw [e1,e2]
 have ha:-(((y+w:Int):Rat)-(y:Rat))=((-w:Int):Rat):=by rw [←Rat.intCast_sub,←Rat.intCast_neg];congr 1;omega
 have hb:((x+u:Int):Rat)-(x:Rat)=((u:Int):Rat):=by rw [←Rat.intCast_sub];congr 1;omega
 have hc:-(((-w:Int):Rat)*(x:Rat)+((u:Int):Rat)*(y:Rat))=((w*x-u*y:Int):Rat):=by
  rw [←Rat.intCast_mul,←Rat.intCast_mul,←Rat.intCast_add,←Rat.intCast_neg];congr 1;rw [Int.neg_mul];omega
 have hf:(((((-w:Int):Rat).den*((u:Int):Rat).den*((w*x-u*y:Int):Rat).den:Nat):Int):Rat)=1:=rfl
 unfold qm
 dsimp only
 rw [ha,hb,hc,hf,Rat.mul_one,Rat.mul_one,Rat.mul_one]
def xu (a b c:Int):L3:=(a / (fX a b c:Int),b / (fX a b c:Int),c / (fX a b c:Int))
def small (z:Int)(k:Nat):Bool:=decide (z.natAbs<=k)
theorem Bc:∀i:Fin 9,∀j:Fin 9,∀k:Fin 65,(i.1=4/\j.1=4)\/(fF (xu ((i.1:Int)-4) ((j.1:Int)-4) ((k.1:Int)-32))&&small (xu ((i.1:Int)-4) ((j.1:Int)-4) ((k.1:Int)-32)).1 32&&small (xu ((i.1:Int)-4) ((j.1:Int)-4) ((k.1:Int)-32)).2.1 32&&small (xu ((i.1:Int)-4) ((j.1:Int)-4) ((k.1:Int)-32)).2.2 32)=true:=by decide +kernel
theorem Ee (k:Nat)(hk:6<=k){z:Int}(h:z.natAbs<=32):z.natAbs<2^k:=Nat.lt_of_le_of_lt h (Nat.lt_of_lt_of_le (by decide:32<2^6) (Nat.pow_le_pow_right (by decide) hk))
theorem Fv (k:Nat)(hk:6<=k){x:L3}(h1:x.1.natAbs<=32)(h2:x.2.1.natAbs<=32)(h3:x.2.2.natAbs<=32):x.1.natAbs<2^k/\x.2.1.natAbs<2^k/\x.2.2.natAbs<2^k:=⟨Ee k hk h1,Ee k hk h2,Ee k hk h3⟩
theorem CW {a b c:Int}(h1:-4<=a/\a<=4)(h2:-4<=b/\b<=4)(h3:-32<=c/\c<=32)(h:¬(a=0/\b=0)):fF (xu a b c)=true/\Bd (xu a b c):=by
 have:=Bc ⟨(a+4).toNat,by omega⟩ ⟨(b+4).toNat,by omega⟩ ⟨(c+32).toNat,by omega⟩
 dsimp only at this
 rw [show (((a+4).toNat:Nat):Int)-4=a from by omega,show (((b+4).toNat:Nat):Int)-4=b from by omega,show (((c+32).toNat:Nat):Int)-32=c from by omega] at this
 rcases this with h'|h'
 ·omega
 ·simp only [Bool.and_eq_true,small,decide_eq_true_eq] at h'
  exact ⟨h'.1.1.1,Fv 1000 (by decide) h'.1.1.2 h'.1.2 h'.2⟩
theorem Bi {x y:Int}(h1:-4<=x/\x<=4)(h2:-4<=y/\y<=4):-16<=x*y/\x*y<=16:=by
 have:(x*y).natAbs<=4*4:=by rw [Int.natAbs_mul];exact Nat.mul_le_mul (by omega) (by omega)
 omega
theorem lk {V:View}{v:Value}{a b c:Int}(h:RL V v a b c):∃(b1:Bool)(p1:OA)(n1 c1:Nat)(b2:Bool)(p2:OA)(n2 c2:Nat)(b3:Bool)(p3:OA)(n3 c3:Nat),v=.agg #[.bool b1,.slice p1 n1 c1,.bool b2,.slice p2 n2 c2,.bool b3,.slice p3 n3 c3]:=by
 obtain ⟨p,n,s,p',n',s',q,m,e,rfl,-⟩:=h
 exact ⟨_,_,_,_,_,_,_,_,_,_,_,_,rfl⟩
def Cb (V:View)(p:OA)(n:Nat):Prop:=∀i,i<n->∃(a:Addr)(x:Int),af p (i*1)=some a/\V.at a (.int .i64 x)
theorem Cb.le {V V':View}{p:OA}{n:Nat}(h:Cb V p n)(l:V.Le V'):Cb V' p n:=fun i hi=>by
 obtain ⟨a,x,e,hx⟩:=h i hi;exact ⟨a,x,e,l.at hx⟩
def qp (V:View)(tb:Nat)(p:OA)(n c:Nat)(at_:Int):Prop:=V.w.heap[tb]?=some (.cells #[.slice p n c,.int .i64 at_] 95 (0,0))
theorem om {V:View}{tb:Nat}{p:OA}{n c:Nat}{at_:Int}(k:Int)(hr:Cb V p n)(hn:n<=400)(hw:qp V tb p n c at_)(hx:V.X tb)(h0:0<=at_)(hk:0<k)(hk2:k<=1000) :
  ab prog 22 #[.pointer (some ⟨tb,0,none⟩),.int .i64 k] V fun r V'=>∃x at',r=.int .i64 x/\0<=x/\x<k/\0<=at'/\qp V' tb p n c at':=by
 refine kl tb p n c at_ k V _ hw hx ⟨fun g V1 l1 e=>⟨0,at_,rfl,by omega,hk,h0,e⟩,fun g=>?_⟩
 have g:at_<n:=by have:=of_decide_eq_false g;omega
 obtain ⟨i,rfl⟩:∃i:Nat,at_=i:=⟨at_.toNat,by omega⟩
 obtain ⟨a,x,e1,e2⟩:=hr i (by omega)
 have hs:p.isSome=true:=by
  cases p with
  | none=>simp [af] at e1
  | some a=>rfl
 have m1:(x.tmod k).natAbs<k.natAbs:=by rw [Int.natAbs_tmod];exact Nat.mod_lt _ (by omega)
 have w1:i64.wrap ((i:Int)+1)=((i+1:Nat):Int):=by rw [aD (by omega)];omega
 rw [Int.toNat_natCast,w1]
 have w2:i64.wrap (x.tmod k+k)=x.tmod k+k:=aD (by omega)
 refine ⟨hs,⟨by omega,by omega⟩,x,⟨a,e1,e2⟩,by omega,fun g2 V2 l2 e=>⟨x.tmod k+k,_,by rw [w2],?_,?_,?_,e⟩,fun g2 V3 l3 e=>⟨_,_,rfl,?_,?_,?_,e⟩⟩
 ·omega
 ·have:=of_decide_eq_true g2;omega
 ·omega
 ·have:=of_decide_eq_false g2;omega
 ·omega
 ·omega
theorem Kx {V:View}{tb:Nat}{p:OA}{n c:Nat}{at_:Int}(hr:Cb V p n)(hn:n<=400)(hw:qp V tb p n c at_)(hx:V.X tb)(h0:0<=at_) :
  ab prog 70 #[.pointer (some ⟨tb,0,none⟩)] V fun r V'=>∃(x y at':Int),RP V' r (x:Rat) (y:Rat)/\(-4<=x/\x<=4)/\(-4<=y/\y<=4)/\0<=at'/\qp V' tb p n c at':=by
 refine nF tb p n c at_ V _ hw hx fun V1 l1 bk1 e1 h1=>(om (V:=V1.aH [bk1]) 9 (hr.le fun b o h=>l1 b o h) hn e1 ⟨by simp,h1⟩ h0 (by omega) (by omega)).mono ?_
 rintro r V2 l2 ⟨x,uj,rfl,x0,x1,t1,hw1⟩
 refine ⟨_,rfl,_,_,_,_,hw1,fun V3 l3 HC e3 h3=>(om (V:=V3.aH [HC]) 9 (hr.le fun b o h=>l3 b o (l2 b o (l1 b o h))) hn e3 ⟨by simp,h3⟩ t1 (by omega) (by omega)).mono ?_⟩
 rintro r V4 l4 ⟨y,at2,rfl,y0,y1,t2,hw2⟩
 refine ⟨_,rfl,_,_,_,_,hw2,fun V5 l5=>?_⟩
 rw [aD (x:=x-4) (by omega),aD (x:=y-4) (by omega)]
 refine (hJ (x-4) (y-4) (by omega) (by omega) (by omega) (by omega)).mono ?_
 rintro r V6 l6 hp
 have hp0:=hp
 obtain ⟨p1,n1,c1,p2,n2,c2,p3,n3,c3,p4,n4,c4,rfl,-⟩:=hp
 exact ⟨_,_,_,_,_,_,_,_,_,_,_,_,_,_,rfl,fun V7 l7 e7=>⟨x-4,y-4,at2,hp0.le l7,⟨by omega,by omega⟩,⟨by omega,by omega⟩,t2,e7⟩⟩
theorem RQ.zero {V:View}:RQ V (.agg #[.bool false,.slice none 0 0,.slice none 0 0]) ((0:Int):Rat):=⟨none,0,0,none,0,0,rfl,RD.nil,RD.nil⟩
theorem RP.zero {V:View}:RP V (.agg #[.bool false,.slice none 0 0,.slice none 0 0,.bool false,.slice none 0 0,.slice none 0 0]) ((0:Int):Rat) ((0:Int):Rat):=
 ⟨none,0,0,none,0,0,none,0,0,none,0,0,rfl,RQ.zero,RQ.zero⟩
theorem zQ {z:Int}(h:-40<=z/\z<=40):Sz 10 (z:Rat):=jY (by omega) (by omega)
theorem Ml {V:View}{tb:Nat}{p:OA}{n c:Nat}{at_:Int}(hr:Cb V p n)(hn:n<=400)(hw:qp V tb p n c at_)(hx:V.X tb)(h0:0<=at_) :
  ab prog 71 #[.pointer (some ⟨tb,0,none⟩)] V fun r V'=>∃(x y at':Int),RP V' r (x:Rat) (y:Rat)/\(-4<=x/\x<=4)/\(-4<=y/\y<=4)/\¬(x=0/\y=0)/\0<=at'/\qp V' tb p n c at':=by
 refine nG tb p n c at_ V _ hw hx fun V1 l1 bk1 e1 h1=>(Kx (V:=V1.aH [bk1]) (hr.le fun b o h=>l1 b o h) hn e1 ⟨by simp,h1⟩ h0).mono ?_
 rintro r V2 l2 ⟨x,y,uj,hp,hx1,hy1,t1,hw1⟩
 have hp0:=hp
 obtain ⟨p1,n1,c1,p2,n2,c2,p3,n3,c3,p4,n4,c4,rfl,-⟩:=hp
 refine ⟨_,_,_,_,_,_,_,_,_,_,_,_,_,_,rfl,_,_,_,_,hw1,fun V3 l3=>(sW (hp0.le fun b o h=>l3 b o h) RP.zero (zQ (by omega)) (zQ (by omega)) (zQ (by omega)) (zQ (by omega)) (by omega)).mono ?_⟩
 rintro r V4 l4 rfl
 refine ⟨_,rfl,fun g V5 l5=>(hJ 1 0 (by omega) (by omega) (by omega) (by omega)).mono ?_,fun g V8 l8 e8=>⟨x,y,uj,hp0.le fun b o h=>l8 b o (l4 b o (l3 b o h)),hx1,hy1,?_,t1,e8⟩⟩
 ·rintro r V6 l6 hq
  have hq0:=hq
  obtain ⟨p1,n1,c1,p2,n2,c2,p3,n3,c3,p4,n4,c4,rfl,-⟩:=hq
  exact ⟨_,_,_,_,_,_,_,_,_,_,_,_,_,_,rfl,fun V7 l7 e7=>⟨1,0,uj,hq0.le l7,⟨by omega,by omega⟩,⟨by omega,by omega⟩,by omega,t1,e7⟩⟩
 ·rintro ⟨rfl,rfl⟩
  simp at g
theorem Mk {V:View}{tb:Nat}{p:OA}{n c:Nat}{at_:Int}(hr:Cb V p n)(hn:n<=400)(hw:qp V tb p n c at_)(hx:V.X tb)(h0:0<=at_) :
  ab prog 21 #[.pointer (some ⟨tb,0,none⟩)] V fun r V'=>∃(x:L3)(at':Int),RL V' r x.1 x.2.1 x.2.2/\fF x=true/\Bd x/\0<=at'/\qp V' tb p n c at':=by
 refine nE tb p n c at_ V _ hw hx fun V1 l1 bk1 e1 h1=>(Kx (V:=V1.aH [bk1]) (hr.le fun b o h=>l1 b o h) hn e1 ⟨by simp,h1⟩ h0).mono ?_
 rintro r V2 l2 ⟨x,y,uj,hp,hx1,hy1,t1,hw1⟩
 have hp0:=hp
 obtain ⟨p1,n1,c1,p2,n2,c2,p3,n3,c3,p4,n4,c4,rfl,-⟩:=hp
 refine ⟨_,_,_,_,_,_,_,_,_,_,_,_,_,_,rfl,_,_,_,_,hw1,fun V3 l3=>(ku 1 (by omega) (by omega)).mono ?_⟩
 rintro r V4 l4 hq
 have hq0:=hq
 obtain ⟨p5,n5,c5,p6,n6,c6,rfl⟩:=hq.shape
 refine ⟨_,_,_,_,_,_,_,rfl,fun V5 l5 Ig e5 h5=>(Ml (V:=V5.aH [Ig]) (hr.le fun b o h=>l5 b o (l4 b o (l3 b o (l2 b o (l1 b o h))))) hn e5 ⟨by simp,h5⟩ t1).mono ?_⟩
 rintro r V6 l6 ⟨u,w,at2,hv,hu1,I1,hne,t2,hw2⟩
 have hv0:=hv
 obtain ⟨q1,m1,d1,q2,m2,d2,q3,m3,d3,q4,m4,d4,rfl,-⟩:=hv
 refine ⟨_,_,_,_,_,_,_,_,_,_,_,_,_,_,rfl,_,_,_,_,hw2,fun V7 l7=>?_⟩
 have sj:V2.Le V7:=fun b o h=>l7 b o (l6 b o (l5 b o (l4 b o (l3 b o h))))
 have HM:V4.Le V7:=fun b o h=>l7 b o (l6 b o (l5 b o h))
 have M6:V6.Le V7:=fun b o h=>l7 b o h
 refine (mq (hp0.le sj) (hq0.le HM) (hv0.le M6) (k:=10) (m:=10) (zQ (by omega)) (zQ (by omega)) (zQ (by omega)) (zQ (by omega)) (zQ (by omega)) (by omega)).mono ?_
 rintro r V8 l8 hs
 have hs0:=hs
 obtain ⟨s1,i1,j1,s2,i2,j2,s3,i3,j3,s4,i4,j4,rfl,-⟩:=hs
 have f1:(x:Rat)+((1:Int):Rat)*(u:Rat)=((x+u:Int):Rat):=by rw [←Rat.intCast_mul,←Rat.intCast_add,Int.one_mul]
 have f2:(y:Rat)+((1:Int):Rat)*(w:Rat)=((y+w:Int):Rat):=by rw [←Rat.intCast_mul,←Rat.intCast_add,Int.one_mul]
 refine ⟨_,_,_,_,_,_,_,_,_,_,_,_,_,_,rfl,fun V9 l9=>(iu (hp0.le (sj.trans (l8.trans l9))) (hs0.le l9) (k:=10) (zQ (by omega)) (zQ (by omega)) (by rw [f1];exact zQ (by omega)) (by rw [f2];exact zQ (by omega)) (by omega) (by omega)).mono ?_⟩
 rintro r iC l10 ⟨-,h⟩
 rw [Dj] at h
 have n1:((-w:Int):Rat).num=-w:=rfl
 have n2:((u:Int):Rat).num=u:=rfl
 have n3:((w*x-u*y:Int):Rat).num=w*x-u*y:=rfl
 dsimp only at h
 rw [n1,n2,n3] at h
 obtain ⟨l,rfl,hl⟩:=h (by omega)
 have m1:=Bi I1 hx1
 have m2:=Bi hu1 hy1
 obtain ⟨k1,k2⟩:=CW (a:=-w) (b:=u) (c:=w*x-u*y) (by omega) (by omega) (by omega) (by omega)
 have hl0:=hl
 obtain ⟨b1,u1,v1,w1,b2,u2,v2,w2,b3,u3,v3,w3,rfl⟩:=(lk hl)
 exact ⟨_,_,_,_,_,_,_,_,_,_,_,_,_,rfl,fun mf cB e11=>⟨xu (-w) u (w*x-u*y),at2,hl0.le cB,k1,k2,t2,e11⟩⟩
end Go.Proofs.Tryz
namespace Go.Proofs.Tryz
open Go.br
set_option maxRecDepth 100000
end Go.Proofs.Tryz
namespace Go.Proofs.Tryz
open Go.br Go.dS
end Go.Proofs.Tryz
namespace Go.br
open Go.dS
theorem RR.zero (V:View):RR V (.agg #[.int .i64 0,.int .i64 0,.pointer none]) 0:=.inl ⟨rfl,by unfold Wd;decide⟩
end Go.br
namespace Go.Proofs.Tryz
open Go.br Go.dS
structure Sp where
 lo:Rat
 hi:Rat
 a:Bool
 b:Bool
def Sp.sz (k:Nat)(s:Sp):Prop:=Sz k s.lo/\Sz k s.hi
def Sp.zero:Sp:=⟨0,0,false,false⟩
def J9 (k:Nat)(l:L3):Prop:=Sz k (l.1:Rat)/\Sz k (l.2.1:Rat)/\Sz k (l.2.2:Rat)
def Hs (V:View)(v:Value)(s:Sp):Prop:=∃(x1 x2:Int)(p:OA)(y1 y2:Int)(q:OA),v=.agg #[.int .i64 x1,.int .i64 x2,.pointer p,.int .i64 y1,.int .i64 y2,.pointer q,.bool s.a,.bool s.b] /\
 RR V (.agg #[.int .i64 x1,.int .i64 x2,.pointer p]) s.lo/\RR V (.agg #[.int .i64 y1,.int .i64 y2,.pointer q]) s.hi
theorem Hs.le {V V':View}{v:Value}{s:Sp}(h:Hs V v s)(l:V.Le V'):Hs V' v s:=by
 obtain ⟨x1,x2,p,y1,y2,q,e,h1,h2⟩:=h
 exact ⟨x1,x2,p,y1,y2,q,e,h1.le l,h2.le l⟩
def Ff (V:View)(v:Value)(l:L3):Prop:=uv V v (l.1:Rat) (l.2.1:Rat) (l.2.2:Rat)
theorem Ff.le {V V':View}{v:Value}{l:L3}(h:Ff V v l)(e:V.Le V'):Ff V' v l:=uv.le h e
def E3 (V:View)(v:Value)(l:L3)(s:Sp):Prop:=∃(x1 x2:Int)(p:OA)(y1 y2:Int)(q:OA)(z1 z2:Int)(r:OA)(u1 u2:Int)(t:OA)(w1 w2:Int)(o:OA),
 v=.agg #[.int .i64 x1,.int .i64 x2,.pointer p,.int .i64 y1,.int .i64 y2,.pointer q,.int .i64 z1,.int .i64 z2,.pointer r,.int .i64 u1,.int .i64 u2,.pointer t,.int .i64 w1,.int .i64 w2,.pointer o,.bool s.a,.bool s.b] /\
 Ff V (.agg #[.int .i64 x1,.int .i64 x2,.pointer p,.int .i64 y1,.int .i64 y2,.pointer q,.int .i64 z1,.int .i64 z2,.pointer r]) l /\
 Hs V (.agg #[.int .i64 u1,.int .i64 u2,.pointer t,.int .i64 w1,.int .i64 w2,.pointer o,.bool s.a,.bool s.b]) s
theorem E3.le {V V':View}{v:Value}{l:L3}{s:Sp}(h:E3 V v l s)(e:V.Le V'):E3 V' v l s:=by
 obtain ⟨x1,x2,p,y1,y2,q,z1,z2,r,u1,u2,t,w1,w2,o,rfl,h1,h2⟩:=h
 exact ⟨x1,x2,p,y1,y2,q,z1,z2,r,u1,u2,t,w1,w2,o,rfl,h1.le e,h2.le e⟩
def Dt (V:View)(v:Value)(b:Bool)(xs ys:List Nat):Prop:=∃p n c p' n' c',v=.agg #[.bool b,.slice p n c,.slice p' n' c']/\RD V p n c xs/\RD V p' n' c' ys
theorem Dt.le {V V':View}{v:Value}{b:Bool}{xs ys:List Nat}(h:Dt V v b xs ys)(l:V.Le V'):Dt V' v b xs ys:=by
 obtain ⟨p,n,c,p',n',c',e,h1,h2⟩:=h;exact ⟨p,n,c,p',n',c',e,h1.le l,h2.le l⟩
theorem Dt.nil {V:View}:Dt V (.agg #[.bool false,.slice none 0 0,.slice none 0 0]) false [] []:=⟨_,_,_,_,_,_,rfl,RD.nil,RD.nil⟩
def RE (V:View)(v:Value)(q:Rat)(no:Bool):Prop:=(no=true->Dt V v false [] [])/\(no=false->RA V v q)
theorem RE.le {V V':View}{v:Value}{q:Rat}{no:Bool}(h:RE V v q no)(l:V.Le V'):RE V' v q no:=⟨fun e=>(h.1 e).le l,fun e=>(h.2 e).le l⟩
theorem RE.shape {V:View}{v:Value}{q:Rat}{no:Bool}(h:RE V v q no):∃b p n c p' n' c',v=.agg #[.bool b,.slice p n c,.slice p' n' c']:=by
 cases no with
 | true=>obtain ⟨_,_,_,_,_,_,e,-⟩:=h.1 rfl;exact ⟨_,_,_,_,_,_,_,e⟩
 | false=>exact (h.2 rfl).shape
def Hu (V:View)(v:Value)(s:Sp):Prop:=∃b p n c p' n' c' d q m e q' m' e',v=.agg #[.bool b,.slice p n c,.slice p' n' c',.bool d,.slice q m e,.slice q' m' e',.bool s.a,.bool s.b] /\
 RE V (.agg #[.bool b,.slice p n c,.slice p' n' c']) s.lo s.a/\RE V (.agg #[.bool d,.slice q m e,.slice q' m' e']) s.hi s.b
theorem Hu.le {V V':View}{v:Value}{s:Sp}(h:Hu V v s)(l:V.Le V'):Hu V' v s:=by
 obtain ⟨b,p,n,c,p',n',c',d,q,m,e,q',m',e',rfl,h1,h2⟩:=h
 exact ⟨_,_,_,_,_,_,_,_,_,_,_,_,_,_,rfl,h1.le l,h2.le l⟩
def Hr (V:View)(v:Value)(l:L3)(s:Sp):Prop:=∃b1 p1 n1 c1 b2 p2 n2 c2 b3 p3 n3 c3 b p n c p' n' c' d q m e q' m' e',
 v=.agg #[.bool b1,.slice p1 n1 c1,.bool b2,.slice p2 n2 c2,.bool b3,.slice p3 n3 c3,.bool b,.slice p n c,.slice p' n' c',.bool d,.slice q m e,.slice q' m' e',.bool s.a,.bool s.b] /\
 RL V (.agg #[.bool b1,.slice p1 n1 c1,.bool b2,.slice p2 n2 c2,.bool b3,.slice p3 n3 c3]) l.1 l.2.1 l.2.2/\Hu V (.agg #[.bool b,.slice p n c,.slice p' n' c',.bool d,.slice q m e,.slice q' m' e',.bool s.a,.bool s.b]) s
theorem Hr.le {V V':View}{v:Value}{l:L3}{s:Sp}(h:Hr V v l s)(e:V.Le V'):Hr V' v l s:=by
 obtain ⟨b1,p1,n1,c1,b2,p2,n2,c2,b3,p3,n3,c3,b,p,n,c,p',n',c',d,q,m,f,q',m',f',rfl,h1,h2⟩:=h
 exact ⟨_,_,_,_,_,_,_,_,_,_,_,_,_,_,_,_,_,_,_,_,_,_,_,_,_,_,rfl,h1.le e,h2.le e⟩
def Fh (V:View)(v:Value)(s:Sp):Prop:=∃b p n c p' n' c' d q m e q' m' e',v=.agg #[.bool b,.slice p n c,.slice p' n' c',.bool d,.slice q m e,.slice q' m' e',.bool s.a,.bool s.b] /\
 RQ V (.agg #[.bool b,.slice p n c,.slice p' n' c']) s.lo/\RQ V (.agg #[.bool d,.slice q m e,.slice q' m' e']) s.hi
theorem Fh.le {V V':View}{v:Value}{s:Sp}(h:Fh V v s)(l:V.Le V'):Fh V' v s:=by
 obtain ⟨b,p,n,c,p',n',c',d,q,m,e,q',m',e',rfl,h1,h2⟩:=h
 exact ⟨_,_,_,_,_,_,_,_,_,_,_,_,_,_,rfl,h1.le l,h2.le l⟩
def RF (V:View)(v:Value)(l:L3)(s:Sp):Prop:=∃b1 p1 n1 c1 b2 p2 n2 c2 b3 p3 n3 c3 b p n c p' n' c' d q m e q' m' e',
 v=.agg #[.bool b1,.slice p1 n1 c1,.bool b2,.slice p2 n2 c2,.bool b3,.slice p3 n3 c3,.bool b,.slice p n c,.slice p' n' c',.bool d,.slice q m e,.slice q' m' e',.bool s.a,.bool s.b] /\
 RL V (.agg #[.bool b1,.slice p1 n1 c1,.bool b2,.slice p2 n2 c2,.bool b3,.slice p3 n3 c3]) l.1 l.2.1 l.2.2/\Fh V (.agg #[.bool b,.slice p n c,.slice p' n' c',.bool d,.slice q m e,.slice q' m' e',.bool s.a,.bool s.b]) s
theorem RF.le {V V':View}{v:Value}{l:L3}{s:Sp}(h:RF V v l s)(e:V.Le V'):RF V' v l s:=by
 obtain ⟨b1,p1,n1,c1,b2,p2,n2,c2,b3,p3,n3,c3,b,p,n,c,p',n',c',d,q,m,f,q',m',f',rfl,h1,h2⟩:=h
 exact ⟨_,_,_,_,_,_,_,_,_,_,_,_,_,_,_,_,_,_,_,_,_,_,_,_,_,_,rfl,h1.le e,h2.le e⟩
def Sp.neg (s:Sp):Sp:=⟨if s.b then 0 else -s.hi,if s.a then 0 else -s.lo,s.b,s.a⟩
def Sp.emp (s:Sp):Bool:=!s.a&&!s.b&&decide (fW s.lo s.hi≥0)
structure H3 (V:View) (vs:List Value) (i:Int) (f a b c:Rat):Prop where
 h0:0<=i
 h3:i<=3
 row:∃(x1 x2:Int)(p:OA)(y1 y2:Int)(q:OA)(z1 z2:Int)(r:OA),vs=[.int .i64 x1,.int .i64 x2,.pointer p,.int .i64 y1,.int .i64 y2,.pointer q,.int .i64 z1,.int .i64 z2,.pointer r] /\
  RR V (.agg #[.int .i64 x1,.int .i64 x2,.pointer p]) (if 0<i then a*f else a)/\RR V (.agg #[.int .i64 y1,.int .i64 y2,.pointer q]) (if 1<i then b*f else b)/\RR V (.agg #[.int .i64 z1,.int .i64 z2,.pointer r]) (if 2<i then c*f else c)
theorem H3.le {V V':View}{vs:List Value}{i:Int}{f a b c:Rat}(h:H3 V vs i f a b c)(l:V.Le V'):H3 V' vs i f a b c:=by
 obtain ⟨h0,h3,x1,x2,p,y1,y2,q,z1,z2,r,e,g1,g2,g3⟩:=h
 exact ⟨h0,h3,x1,x2,p,y1,y2,q,z1,z2,r,e,g1.le l,g2.le l,g3.le l⟩
def JJ (b:Bool)(xs ys:List Nat):Rat:=mkRat (au b xs) (val ys)
def Jf (b:Bool)(xs ys:List Nat):Bool:=dT b xs&&decide (ag (val ys)=ys)&&!decide (ys=[])&&decide (Nat.gcd (val xs) (val ys)=1)
def J2 (b:Bool)(xs ys:List Nat):Bool:=!b&&decide (xs=[])&&decide (ys=[])
def FJ (b:Bool)(xs ys:List Nat)(no:Bool):Rat:=if no then 0 else JJ b xs ys
def DA (b:Bool)(xs ys:List Nat)(no:Bool):Bool:=if no then J2 b xs ys else Jf b xs ys
def Hv (V:View)(v:Value)(b1:Bool)(Dl Dn:List Nat)(b2:Bool)(Dm Dp:List Nat)(na nb:Bool):Prop:=∃p n c p' n' c' q m e q' m' e',v=.agg #[.bool b1,.slice p n c,.slice p' n' c',.bool b2,.slice q m e,.slice q' m' e',.bool na,.bool nb] /\
 Dt V (.agg #[.bool b1,.slice p n c,.slice p' n' c']) b1 Dl Dn/\Dt V (.agg #[.bool b2,.slice q m e,.slice q' m' e']) b2 Dm Dp
theorem Hv.le {V V':View}{v:Value}{b1:Bool}{Dl Dn:List Nat}{b2:Bool}{Dm Dp:List Nat}{na nb:Bool}(h:Hv V v b1 Dl Dn b2 Dm Dp na nb)(l:V.Le V'):Hv V' v b1 Dl Dn b2 Dm Dp na nb:=by
 obtain ⟨p,n,c,p',n',c',q,m,e,q',m',e',rfl,h1,h2⟩:=h
 exact ⟨_,_,_,_,_,_,_,_,_,_,_,_,rfl,h1.le l,h2.le l⟩
def Ll (b1:Bool)(Dl Dn:List Nat)(b2:Bool)(Dm Dp:List Nat)(na nb:Bool):Sp:=⟨FJ b1 Dl Dn na,FJ b2 Dm Dp nb,na,nb⟩
def okW (b1:Bool)(Dl Dn:List Nat)(b2:Bool)(Dm Dp:List Nat)(na nb:Bool):Bool:=DA b1 Dl Dn na&&DA b2 Dm Dp nb&&!(Ll b1 Dl Dn b2 Dm Dp na nb).emp
theorem Ff.NT {V:View}{r:Value}{l:L3}(h:RL V r ((l.1:Rat)).num ((l.2.1:Rat)).num ((l.2.2:Rat)).num):RL V r l.1 l.2.1 l.2.2:=by
 simpa [Rat.num_intCast] using h
theorem J9.ag {k:Nat}{l:L3}(h:J9 k l)(hk:k<=1099511627776):(ag l.1.natAbs).length<=1099511627776/\(ag l.2.1.natAbs).length<=1099511627776/\(ag l.2.2.natAbs).length<=1099511627776:=by
 have d1:=ao (show l.1.natAbs<2^k from h.1.1)
 have d2:=ao (show l.2.1.natAbs<2^k from h.2.1.1)
 have d3:=ao (show l.2.2.natAbs<2^k from h.2.2.1)
 exact ⟨by omega,by omega,by omega⟩
def Hq (V:View)(ad:Addr)(l:L3)(s:Sp):Prop:=∃xs:List Value,Hr V (.agg xs.toArray) l s/\∀i x,xs[i]?=some x->V.at (ad.add i) x
theorem Hq.le {V V':View}{ad:Addr}{l:L3}{s:Sp}(h:Hq V ad l s)(e:V.Le V'):Hq V' ad l s:=by
 obtain ⟨xs,h1,h2⟩:=h;exact ⟨xs,h1.le e,fun i x hx=>e.at (h2 i x hx)⟩
structure D8 (V:View) (p:OA) (n:Nat) (fs:List (L3×Sp)):Prop where
 len:n=fs.length
 at_:∀(i:Nat)(h:i<fs.length),∃ad,af p (i*14)=some ad/\Hq V ad fs[i].1 fs[i].2
theorem D8.le {V V':View}{p:OA}{n:Nat}{fs:List (L3×Sp)}(h:D8 V p n fs)(e:V.Le V'):D8 V' p n fs:=⟨h.len,fun i hi=>by obtain ⟨ad,h1,h2⟩:=h.at_ i hi;exact ⟨ad,h1,h2.le e⟩⟩
theorem vf {p:OA}{j:Nat}{ad:Addr}(h:af p j=some ad):p.isSome=true:=by
 cases p with
 | none=>cases h
 | some a=>rfl
def Hx (V:View)(ad:Addr)(s:Sp):Prop:=∃xs:List Value,Fh V (.agg xs.toArray) s/\∀i x,xs[i]?=some x->V.at (ad.add i) x
theorem Hx.le {V V':View}{ad:Addr}{s:Sp}(h:Hx V ad s)(e:V.Le V'):Hx V' ad s:=by
 obtain ⟨xs,h1,h2⟩:=h;exact ⟨xs,h1.le e,fun i x hx=>e.at (h2 i x hx)⟩
structure H2 (V:View) (p:OA) (n:Nat) (ss:List Sp):Prop where
 len:n=ss.length
 at_:∀(i:Nat)(h:i<ss.length),∃ad,af p (i*8)=some ad/\Hx V ad ss[i]
theorem H2.le {V V':View}{p:OA}{n:Nat}{ss:List Sp}(h:H2 V p n ss)(e:V.Le V'):H2 V' p n ss:=⟨h.len,fun i hi=>by obtain ⟨ad,h1,h2⟩:=h.at_ i hi;exact ⟨ad,h1,h2.le e⟩⟩
def Sp.la (s:Sp)(t:Rat):Int:=if s.a then 1 else fW t s.lo
def Sp.lb (s:Sp)(t:Rat):Int:=if s.b then -1 else fW t s.hi
theorem ze {V:View}{p:OA}{n c:Nat}{ds:List Nat}(h:RD V p n c ds)(hm:ds.length<=1099511627776) :
  ab prog 130 #[.slice p n c] V fun r V'=>∃p1 n1 c1,r=.slice p1 n1 c1/\RN V' p1 n1 c1 (val ds):=by
 have hl:=h.len
 refine ym p n c V _ ⟨aA ds,h.sl,by simp [hl],by omega,by omega,by simp,by simp [hl],?_,?_⟩
 ·intro v hv
  simp only [aA,List.mem_map] at hv
  obtain ⟨d,-,rfl⟩:=hv
  rfl
 ·intro bk J sp c' h1 h2 V1 l1 b hb
  simp only [Nat.zero_add,Nat.zero_mul,List.take_zero,List.nil_append] at hb h1 ⊢
  refine (bY (copied h.cD hl h1 hb) (by omega)).mono ?_
  rintro r V2 l2 ⟨k,rfl,g⟩
  rw [aI h.cD] at g
  exact ⟨_,_,_,rfl,fun J' V3 l3=>⟨_,_,_,rfl,g.le l3⟩⟩
theorem lD {V:View}(b:Bool){p:OA}{n c:Nat}{ds:List Nat}(h:RD V p n c ds)(hm:ds.length<=1099511627776) :
  ab prog 131 #[.agg #[.bool b,.slice p n c]] V fun r V'=>RI V' r (au b ds):=by
 refine yl b p n c V _ fun V1 l1=>(ze (h.le l1) hm).mono ?_
 rintro r V2 l2 ⟨p1,n1,c1,rfl,g⟩
 refine ⟨_,_,_,rfl,fun V3 l3=>(dk b (g.le l3)).mono ?_⟩
 rintro r V4 l4 ⟨p2,n2,c2,rfl,g2⟩
 exact ⟨_,_,_,_,rfl,fun V5 l5=>⟨_,_,_,rfl,g2.le l5⟩⟩
theorem oP {b:Bool}{ds:List Nat}(h:bD ds):(ag (au b ds).natAbs).length<=ds.length:=by
 rw [cm];exact aV h
theorem mX {V:View}{p:OA}{n c:Nat}{ds:List Nat}(h:RD V p n c ds)(hm:ds.length<=1099511627776) :
  ab prog 206 #[.slice p n c] V fun r V'=>r=.bool (decide (ag (val ds)=ds)):=by
 have hl:=h.len
 refine ma p n c V _ ⟨fun h0 V1 l1=>?_,fun h0=>?_⟩
 ·have:ds=[]:=List.length_eq_zero_iff.1 (by simp at h0;omega)
  subst this;rfl
 ·have h0:0<n:=by simp at h0;omega
  simp (disch:=omega) only [aD]
  refine h.rd (n-1) (by omega) (by omega) fun V1 l1=>?_
  congr 1
  rw [Bool.eq_iff_iff]
  simp only [bne_iff_ne,ne_eq,decide_eq_true_eq]
  subst hl
  constructor
  ·intro hz
   exact kA h.cD (mK fun _=>by simpa using hz)
  ·intro he hz
   have:mc ds:=by rw [←he];exact eF _
   exact this.last (by omega) (by simpa using hz)
theorem eI {V:View}(b:Bool){p:OA}{n c:Nat}{ds:List Nat}(h:RD V p n c ds)(hm:ds.length<=1099511627776) :
  ab prog 170 #[.agg #[.bool b,.slice p n c]] V fun r V'=>r=.bool (dT b ds):=by
 have hl:=h.len
 refine l_ b p n c V _ fun V1 l1=>(mX (h.le l1) hm).mono ?_
 rintro r V2 l2 rfl
 refine ⟨_,rfl,fun h1=>⟨fun h2 V3 l3=>?_,fun h2 V4 l4=>?_⟩,fun h1 V5 l5=>?_⟩
 ·rw [Bool.not_eq_true'] at h2
  simp [dT,h1,h2]
 ·rw [Bool.not_eq_false'] at h2
  have e:decide (((n:Nat):Int)>0)=!decide (ds=[]):=by
   rw [Bool.eq_iff_iff,decide_eq_true_eq,Bool.not_eq_true',decide_eq_false_iff_not,←List.length_eq_zero_iff];omega
  rw [e]
  simp [dT,h1,h2]
 ·simp [dT,h1]
def Fg (V:View)(v:Value)(b1:Bool)(xs:List Nat)(b2:Bool)(ys:List Nat)(b3:Bool)(zs:List Nat):Prop:=∃p n c q m e s i j,v=.agg #[.bool b1,.slice p n c,.bool b2,.slice q m e,.bool b3,.slice s i j]/\RD V p n c xs/\RD V q m e ys/\RD V s i j zs
theorem Fg.le {V V':View}{v:Value}{b1:Bool}{xs:List Nat}{b2:Bool}{ys:List Nat}{b3:Bool}{zs:List Nat}(h:Fg V v b1 xs b2 ys b3 zs)(l:V.Le V'):Fg V' v b1 xs b2 ys b3 zs:=by
 obtain ⟨p,n,c,q,m,e,s,i,j,rfl,h1,h2,h3⟩:=h
 exact ⟨_,_,_,_,_,_,_,_,_,rfl,h1.le l,h2.le l,h3.le l⟩
def HX (v:Value):Prop:=∃b1 p1 n1 c1 b2 p2 n2 c2 b3 p3 n3 c3,v=.agg #[.bool b1,.slice p1 n1 c1,.bool b2,.slice p2 n2 c2,.bool b3,.slice p3 n3 c3]
def yB (b1:Bool)(xs:List Nat)(b2:Bool)(ys:List Nat)(b3:Bool)(zs:List Nat):L3:=(au b1 xs,au b2 ys,au b3 zs)
theorem iR {b1:Bool}{xs:List Nat}{b2:Bool}{ys:List Nat}{b3:Bool}{zs:List Nat}:fH b1 xs b2 ys b3 zs=(dT b1 xs&&dT b2 ys&&dT b3 zs&&fF (yB b1 xs b2 ys b3 zs)):=by
 have e:=pv (a:=au b1 xs) (b:=au b2 ys) (c:=au b3 zs)
 have hn:∀z:Int,dT (decide (z<0)) (ag z.natAbs)=true:=by
  intro z
  unfold dT
  rw [ae]
  by_cases h:z<0
  ·have:ag z.natAbs≠[]:=fun e=>by have:=bg.1 e;omega
   simp [h,this]
  ·simp [h]
 unfold fH at e ⊢
 rw [hn,hn,hn,aM,aM,aM] at e
 simp only [Bool.true_and] at e
 unfold yB
 rw [←e]
 simp only [Bool.and_assoc]
theorem ou {V:View}{v:Value}{b1:Bool}{xs:List Nat}{b2:Bool}{ys:List Nat}{b3:Bool}{zs:List Nat}(h:Fg V v b1 xs b2 ys b3 zs)(m1:xs.length<=1000000)(m2:ys.length<=1000000)(m3:zs.length<=1000000) :
  ab prog 129 #[v] V fun r V'=>∃w,r=.tuple #[w,.bool (fH b1 xs b2 ys b3 zs)]/\HX w/\(fH b1 xs b2 ys b3 zs=true->RL V' w (au b1 xs) (au b2 ys) (au b3 zs)):=by
 obtain ⟨p,n,c,q,m,e,s,i,j,rfl,hx,hy,hz⟩:=h
 have d1:=oP (b:=b1) hx.cD
 have d2:=oP (b:=b2) hy.cD
 have d3:=oP (b:=b3) hz.cD
 have bad:∀{V':View},fH b1 xs b2 ys b3 zs=false->∃w,Value.tuple #[.agg #[.bool false,.slice none 0 0,.bool false,.slice none 0 0,.bool false,.slice none 0 0],.bool false]=.tuple #[w,.bool (fH b1 xs b2 ys b3 zs)]/\HX w/\(fH b1 xs b2 ys b3 zs=true->RL V' w (au b1 xs) (au b2 ys) (au b3 zs)):=fun h=>by
  rw [h];exact ⟨_,rfl,⟨_,_,_,_,_,_,_,_,_,_,_,_,rfl⟩,(fun h=>nomatch h)⟩
 refine wB b1 p n c b2 q m e b3 s i j V _ fun V1 l1=>(eI b1 (hx.le l1) (by omega)).mono ?_
 rintro r V2 l2 rfl
 refine ⟨_,rfl,fun h1 V3 l3=>bad (by rw [Bool.not_eq_true'] at h1;rw [iR];simp [h1]),fun h1 V4 l4=>(eI b2 (hy.le (l1.trans (l2.trans l4))) (by omega)).mono ?_⟩
 rintro r V5 l5 rfl
 refine ⟨_,rfl,fun h2 V6 l6=>bad (by rw [Bool.not_eq_true'] at h2;rw [iR];simp [h2]),fun h2 V7 l7=>?_⟩
 have L7:V.Le V7:=l1.trans (l2.trans (l4.trans (l5.trans l7)))
 refine (eI b3 (hz.le L7) (by omega)).mono ?_
 rintro r V8 l8 rfl
 refine ⟨_,rfl,fun h3 V9 l9=>bad (by rw [Bool.not_eq_true'] at h3;rw [iR];simp [h3]),fun h3 iC l10=>?_⟩
 rw [Bool.not_eq_false'] at h1 h2 h3
 have HW:V.Le iC:=L7.trans (l8.trans l10)
 refine (lD b1 (hx.le HW) (by omega)).mono ?_
 rintro r mf cB ⟨pa,na,ca,rfl,ga⟩
 refine ⟨_,_,_,_,rfl,fun mg cX=>(lD b2 (hy.le (HW.trans (cB.trans cX))) (by omega)).mono ?_⟩
 rintro r nW cZ ⟨pb,nb,cb,rfl,gb⟩
 refine ⟨_,_,_,_,rfl,fun mU dL=>(lD b3 (hz.le (HW.trans (cB.trans (cX.trans (cZ.trans dL))))) (by omega)).mono ?_⟩
 rintro r mh eC ⟨pc,nc,cc,rfl,gc⟩
 refine ⟨_,_,_,_,rfl,fun nX dM=>(dH (x:=(au b1 xs).natAbs) (y:=(au b2 ys).natAbs) (ga.le (cX.trans (cZ.trans (dL.trans (eC.trans dM))))) (gb.le (dL.trans (eC.trans dM))) (by omega) (by omega)).mono ?_⟩
 rintro r nJ dR ⟨pg,ng,cg,rfl,gg⟩
 have hg:=gg.len
 have M9:(ag (Nat.gcd (au b1 xs).natAbs (au b2 ys).natAbs)).length<=274877906944:=by
  by_cases h0:(au b1 xs).natAbs=0
  ·rw [h0,Nat.gcd_zero_left];omega
  ·have:=ax (Nat.gcd_le_left (au b2 ys).natAbs (Nat.pos_of_ne_zero h0));omega
 have ok:fH b1 xs b2 ys b3 zs=fF (yB b1 xs b2 ys b3 zs):=by rw [iR,h1,h2,h3];rfl
 have rl:∀V':View,nJ.Le V'->RL V' (.agg #[.bool (decide (au b1 xs<0)),.slice pa na ca,.bool (decide (au b2 ys<0)),.slice pb nb cb,.bool (decide (au b3 zs<0)),.slice pc nc cc]) (au b1 xs) (au b2 ys) (au b3 zs):=fun V' l'=>
  ⟨_,_,_,_,_,_,_,_,_,rfl,ga.le (cX.trans (cZ.trans (dL.trans (eC.trans (dM.trans (dR.trans l')))))),gb.le (dL.trans (eC.trans (dM.trans (dR.trans l')))),gc.le (dM.trans (dR.trans l'))⟩
 have zg:(Nat.gcd (au b1 xs).natAbs (au b2 ys).natAbs=0)↔(au b1 xs=0/\au b2 ys=0):=by rw [Nat.gcd_eq_zero_iff];omega
 have Gu:ng=0↔(au b1 xs=0/\au b2 ys=0):=by
  rw [←zg,←@bg (Nat.gcd (au b1 xs).natAbs (au b2 ys).natAbs),←List.length_eq_zero_iff];omega
 refine ⟨_,_,_,rfl,fun hp ry fu=>?_,fun hp Cd qk=>?_⟩
 ·have hp:¬ng=0:=by have:=of_decide_eq_true hp;omega
  rw [Gu] at hp
  refine (dH (x:=Nat.gcd (au b1 xs).natAbs (au b2 ys).natAbs) (y:=(au b3 zs).natAbs) (gg.le fu) (gc.le (dM.trans (dR.trans fu))) M9 (by omega)).mono ?_
  rintro r wE gG ⟨ph,nh,ch,rfl,gh⟩
  refine ⟨_,_,_,rfl,fun Al lj=>gD.mono ?_⟩
  rintro r ux iy ⟨po,no,co,rfl,go⟩
  have M8:(ag (Nat.gcd (Nat.gcd (au b1 xs).natAbs (au b2 ys).natAbs) (au b3 zs).natAbs)).length<=1099511627776:=by
   have:=ax (Nat.gcd_le_left (au b3 zs).natAbs (Nat.pos_of_ne_zero fun e=>hp (zg.1 e)));omega
  refine ⟨_,_,_,rfl,fun yS lN=>(dZ (x:=Nat.gcd (Nat.gcd (au b1 xs).natAbs (au b2 ys).natAbs) (au b3 zs).natAbs) (y:=1) (gh.le (lj.trans (iy.trans lN))) (go.le lN) M8 (by decide)).mono ?_⟩
  rintro r wJ jy rfl
  have e1:(fV (Nat.gcd (Nat.gcd (au b1 xs).natAbs (au b2 ys).natAbs) (au b3 zs).natAbs) 1==0)=fF (yB b1 xs b2 ys b3 zs):=by
   unfold fF yB fX
   dsimp only
   rw [decide_eq_true hp,Bool.true_and]
   rw [Bool.eq_iff_iff,beq_iff_eq,decide_eq_true_eq]
   exact fc
  refine ⟨_,rfl,fun Cc xq=>⟨_,by rw [ok,←e1],⟨_,_,_,_,_,_,_,_,_,_,_,_,rfl⟩,fun _=>rl Cc (fu.trans (gG.trans (lj.trans (iy.trans (lN.trans (jy.trans xq))))))⟩⟩
 ·have hp:ng=0:=by have:=of_decide_eq_false hp;omega
  rw [Gu] at hp
  have e1:fF (yB b1 xs b2 ys b3 zs)=false:=by unfold fF yB;simp [hp.1,hp.2]
  exact ⟨_,by rw [ok,e1],⟨_,_,_,_,_,_,_,_,_,_,_,_,rfl⟩,fun h=>by rw [ok,e1] at h;cases h⟩
structure FW where
 b1:Bool
 xs:List Nat
 b2:Bool
 ys:List Nat
 b3:Bool
 zs:List Nat
 c1:Bool
 us:List Nat
 vs:List Nat
 c2:Bool
 ws:List Nat
 ts:List Nat
 na:Bool
 nb:Bool
def FW.ln (f:FW):L3:=yB f.b1 f.xs f.b2 f.ys f.b3 f.zs
def FW.sp (f:FW):Sp:=Ll f.c1 f.us f.vs f.c2 f.ws f.ts f.na f.nb
def FW.ok (f:FW):Bool:=fH f.b1 f.xs f.b2 f.ys f.b3 f.zs&&okW f.c1 f.us f.vs f.c2 f.ws f.ts f.na f.nb
structure FW.short (f:FW):Prop where
 x:f.xs.length<=1000000
 y:f.ys.length<=1000000
 z:f.zs.length<=1000000
 u:f.us.length<=1000000
 v:f.vs.length<=1000000
 w:f.ws.length<=1000000
 t:f.ts.length<=1000000
def HZ (V:View)(v:Value)(f:FW):Prop:=∃p1 n1 d1 p2 n2 d2 p3 n3 d3 p n c p' n' c' q m e q' m' e',
 v=.agg #[.bool f.b1,.slice p1 n1 d1,.bool f.b2,.slice p2 n2 d2,.bool f.b3,.slice p3 n3 d3,.bool f.c1,.slice p n c,.slice p' n' c',.bool f.c2,.slice q m e,.slice q' m' e',.bool f.na,.bool f.nb] /\
 Fg V (.agg #[.bool f.b1,.slice p1 n1 d1,.bool f.b2,.slice p2 n2 d2,.bool f.b3,.slice p3 n3 d3]) f.b1 f.xs f.b2 f.ys f.b3 f.zs /\
 Hv V (.agg #[.bool f.c1,.slice p n c,.slice p' n' c',.bool f.c2,.slice q m e,.slice q' m' e',.bool f.na,.bool f.nb]) f.c1 f.us f.vs f.c2 f.ws f.ts f.na f.nb
theorem HZ.le {V V':View}{v:Value}{f:FW}(h:HZ V v f)(l:V.Le V'):HZ V' v f:=by
 obtain ⟨p1,n1,d1,p2,n2,d2,p3,n3,d3,p,n,c,p',n',c',q,m,e,q',m',e',rfl,h1,h2⟩:=h
 exact ⟨_,_,_,_,_,_,_,_,_,_,_,_,_,_,_,_,_,_,_,_,_,rfl,h1.le l,h2.le l⟩
def RW (V:View):OA->Tr->Prop
 | p,.leaf i=>∃(b:Nat)(c2 c3 c4 c5 c6 c7 c8 c9:Value),p=some ⟨b,0,none⟩/\V.bf b (.cells #[.bool true,.bool i,c2,c3,c4,c5,c6,c7,c8,c9] 64 (0,0))
 | p,.node l x y=>∃(b:Nat)(i:Bool)(b1:Bool)(p1:OA)(n1 c1:Nat)(b2:Bool)(p2:OA)(n2 c2:Nat)(b3:Bool)(p3:OA)(n3 c3:Nat)(pl pr:OA),p=some ⟨b,0,none⟩ /\
   V.bf b (.cells #[.bool false,.bool i,.bool b1,.slice p1 n1 c1,.bool b2,.slice p2 n2 c2,.bool b3,.slice p3 n3 c3,.pointer pl,.pointer pr] 64 (0,0)) /\
   RL V (.agg #[.bool b1,.slice p1 n1 c1,.bool b2,.slice p2 n2 c2,.bool b3,.slice p3 n3 c3]) l.1 l.2.1 l.2.2/\RW V pl x/\RW V pr y
theorem RW.le {V V':View}(h:V.Le V'):∀{t:Tr} {p:OA},RW V p t->RW V' p t
 | .leaf i,p,⟨b,c2,c3,c4,c5,c6,c7,c8,c9,e,hb⟩=>⟨b,c2,c3,c4,c5,c6,c7,c8,c9,e,h _ _ hb⟩
 | .node l x y,p,⟨b,i,b1,p1,n1,c1,b2,p2,n2,c2,b3,p3,n3,c3,pl,pr,e,hb,hl,hx,hy⟩=>⟨b,i,b1,p1,n1,c1,b2,p2,n2,c2,b3,p3,n3,c3,pl,pr,e,h _ _ hb,hl.le h,RW.le h hx,RW.le h hy⟩
theorem kv {V:View}(i:Bool):ab prog 42 #[.bool i] V fun r V'=>∃p,r=.pointer p/\RW V' p (.leaf i):=
 qZ i V _ fun V1 l1 b hb=>⟨_,rfl,b,_,_,_,_,_,_,_,_,rfl,hb⟩
def Ds (x:L3):Prop:=fF x=true/\Bd x
theorem Eg:∀(k:Nat) {V:View} {tb:Nat} {p:OA} {n c:Nat} {at_:Int},k<=10->Cb V p n->n<=400->qp V tb p n c at_->V.X tb->0<=at_ ->
  ab prog 11 #[.pointer (some ⟨tb,0,none⟩),.int .i64 (k:Int)] V fun r V'=>∃q t at',r=.pointer q/\RW V' q t/\t.jB Ds/\t.size<2^k/\0<=at'/\qp V' tb p n c at':=by
 intro k
 induction k with
 | zero=>
  intro V tb p n c at_ _ hr hn hw hx h0
  refine fD tb p n c at_ _ V _ hw hx ⟨fun g V1 l1 bk1 e1 h1=>(om (V:=V1.aH [bk1]) 2 (hr.le fun b o h=>l1 b o h) hn e1 ⟨by simp,h1⟩ h0 (by omega) (by omega)).mono ?_,fun g=>by simp at g⟩
  rintro r V2 l2 ⟨x,uj,rfl,-,-,t1,hw1⟩
  refine ⟨_,rfl,_,_,_,_,hw1,fun V3 l3=>(kv _).mono ?_⟩
  rintro r V4 l4 ⟨q,rfl,hq⟩
  exact ⟨_,rfl,fun V5 l5 e5=>⟨_,_,uj,rfl,hq.le l5,trivial,by simp [Tr.size],t1,e5⟩⟩
 | succ k ih=>
  intro V tb p n c at_ hk hr hn hw hx h0
  refine fD tb p n c at_ _ V _ hw hx ⟨fun g=>by rw [beq_iff_eq] at g;omega,fun _ V6 l6 HD e6 h6=>(om (V:=V6.aH [HD]) 4 (hr.le fun b o h=>l6 b o h) hn e6 ⟨by simp,h6⟩ h0 (by omega) (by omega)).mono ?_⟩
  rintro r V7 l7 ⟨x,uj,rfl,-,-,t1,hw1⟩
  have gF:V.Le V7:=fun b o h=>l7 b o (l6 b o h)
  refine ⟨_,rfl,_,_,_,_,hw1,fun g V8 l8 Ie e8 h8=>(om (V:=V8.aH [Ie]) 2 (hr.le fun b o h=>l8 b o (gF b o h)) hn e8 ⟨by simp,h8⟩ t1 (by omega) (by omega)).mono ?_,fun g nW cZ Ih e13 HF=>(Mk (V:=nW.aH [Ih]) (hr.le fun b o h=>cZ b o (gF b o h)) hn e13 ⟨by simp,HF⟩ t1).mono ?_⟩
  ·rintro r V9 l9 ⟨x,at2,rfl,-,-,t2,hw2⟩
   refine ⟨_,rfl,_,_,_,_,hw2,fun iC l10=>(kv _).mono ?_⟩
   rintro r mf cB ⟨q,rfl,hq⟩
   exact ⟨_,rfl,fun mg cX e12=>⟨_,_,at2,rfl,hq.le cX,trivial,by simpa [Tr.size] using Nat.two_pow_pos _,t2,e12⟩⟩
  ·rintro r mU dL ⟨ln,at2,hl,hok,hbd,t2,hw2⟩
   have hl0:=hl
   obtain ⟨b1,u1,v1,w1,b2,u2,v2,w2,b3,u3,v3,w3,rfl⟩:=(lk hl)
   have A3:V.Le mU:=fun b o h=>dL b o (cZ b o (gF b o h))
   have wk:i64.wrap (((k+1:Nat):Int)-1)=(k:Int):=by rw [aD (by omega)];omega
   refine ⟨_,_,_,_,_,_,_,_,_,_,_,_,rfl,_,_,_,_,hw2,fun mh eC Ii e15 HG=>?_⟩
   rw [wk]
   refine ((ih (V:=mh.aH [Ii]) (by omega) (hr.le fun b o h=>eC b o (A3 b o h)) hn e15 ⟨by simp,HG⟩ t2).mono ?_)
   rintro r nX dM ⟨qa,ta,at3,rfl,IQ,EA,hsa,t3,hw3⟩
   have EH:V.Le nX:=fun b o h=>dM b o (eC b o (A3 b o h))
   refine ⟨_,rfl,_,_,_,_,hw3,fun nJ dR Ij e17 Mm=>(ih (V:=nJ.aH [Ij]) (by omega) (hr.le fun b o h=>dR b o (EH b o h)) hn e17 ⟨by simp,Mm⟩ t3).mono ?_⟩
   rintro r ry fu ⟨qb,Nu,at4,rfl,MI,htb,hsb,t4,hw4⟩
   refine ⟨_,rfl,_,_,_,_,hw4,fun wE gG Ik e19 hb=>⟨_,.node ln ta Nu,at4,rfl,⟨Ik,_,_,_,_,_,_,_,_,_,_,_,_,_,_,_,rfl,hb,?_,?_,?_⟩,⟨⟨hok,hbd⟩,EA,htb⟩,?_,t4,e19⟩⟩
   ·exact hl0.le fun b o h=>gG b o (fu b o (dR b o (dM b o (eC b o h))))
   ·exact RW.le (V:=nX) (V':=wE) (fun b o h=>gG b o (fu b o (dR b o h))) IQ
   ·exact RW.le (V:=ry) (V':=wE) (fun b o h=>gG b o h) MI
   ·simp only [Tr.size];rw [Nat.pow_succ];omega
theorem sU {V:View}{v:Value}{x:L3}(h:Aa V v x)(hb:Bd x) :
  ab prog 129 #[v] V fun r V'=>∃w,r=.tuple #[w,.bool (fF x)]/\HX w/\(fF x=true->RL V' w x.1 x.2.1 x.2.2):=by
 rcases h with h|⟨ho,b1,p,n,c,xs,b2,q,m,e',ys,b3,s,i,j,zs,rfl,h1,h2,h3,h4,⟨m1,m2,m3⟩,s1,s2,s3⟩
 ·obtain ⟨p,n,s,p',n',s',q,m,e,rfl,h1,h2,h3⟩:=h
  obtain ⟨d1,d2,d3⟩:=hb.ag
  have hc:=ou (V:=V) (b1:=decide (x.1<0)) (b2:=decide (x.2.1<0)) (b3:=decide (x.2.2<0)) ⟨p,n,s,p',n',s',q,m,e,rfl,h1,h2,h3⟩ (by omega) (by omega) (by omega)
  rw [pv,aM,aM,aM] at hc
  exact hc
 ·refine (ou ⟨p,n,c,q,m,e',s,i,j,rfl,h1,h2,h3⟩ m1 m2 m3).mono ?_
  rintro r V2 l2 ⟨w,rfl,g1,g2⟩
  rw [h4] at g2 ⊢
  rw [ho]
  exact ⟨w,rfl,g1,fun h=>by cases h⟩
theorem sY {l:List Nd}(hb:∀x∈l,Bd x.ln)(hlen:l.length<=65536)(t0:Int){Ci:OA}{nc:Nat}:∀(f:Nat) (n:Int) (s:List Bool) {V:View} {lb:Nat},NS V Ci l.length nc l ->
  V.w.heap[lb]?=some (.cells (dt s).toArray 4 (0,0))->V.X lb->s.length=l.length->s.count false<f ->
  ab prog 83 #[.agg #[.int .i64 t0,.slice Ci l.length nc],.int .i64 n,.slice (some ⟨lb,0,none⟩) l.length l.length] V fun r V'=>∃p,r=.tuple #[.pointer p,.bool (iG l f n s).1.isSome]/\(∀t,(iG l f n s).1=some t->RW V' p t) /\
   V'.w.heap[lb]?=some (.cells (dt (iG l f n s).2).toArray 4 (0,0)):=by
 intro f
 induction f with
 | zero=>intro n s V lb _ _ _ _ h;omega
 | succ f ih=>
  intro n s V lb hns hw hx hsl hcf
  refine rf t0 Ci l.length nc n lb l.length l.length (dt s) V _ hw hx ⟨fun h0 V1 l1 bk e1 hbk=>?_,fun h0=>⟨fun h1 V2 l2 bk e1 hbk=>?_,fun h1=>⟨fun h2 V3 l3 e1=>?_,fun h2=>⟨fun h3 V4 l4 e1=>?_,fun h3=>?_⟩⟩⟩⟩
  ·have e0:n=-2:=by simpa using h0
   have e:iG l (f+1) n s=(some (.leaf true),s):=by simp [iG,e0]
   rw [h0] at hbk
   rw [e]
   exact ⟨_,rfl,fun t ht=>by cases ht;exact ⟨bk,_,_,_,_,_,_,_,_,rfl,hbk⟩,e1⟩
  ·have n0:¬n=-2:=by simpa using h0
   have e0:n=-1:=by simpa using h1
   have e:iG l (f+1) n s=(some (.leaf false),s):=by simp [iG,e0]
   rw [h0] at hbk
   rw [e]
   exact ⟨_,rfl,fun t ht=>by cases ht;exact ⟨bk,_,_,_,_,_,_,_,_,rfl,hbk⟩,e1⟩
  ·have n0:¬n=-2:=by simpa using h0
   have n1:¬n=-1:=by simpa using h1
   have n2:n<0:=by simpa using h2
   have e:iG l (f+1) n s=(none,s):=by simp [iG,n0,n1,n2]
   rw [e]
   exact ⟨_,rfl,(fun t ht=>by cases ht),e1⟩
  ·have n0:¬n=-2:=by simpa using h0
   have n1:¬n=-1:=by simpa using h1
   have n2:¬n<0:=by simpa using h2
   have n3:(l.length:Int)<=n:=by simpa using h3
   have e:iG l (f+1) n s=(none,s):=by
    simp only [iG,n0,n1,n2,if_false]
    rw [List.getElem?_eq_none (by omega)]
   rw [e]
   exact ⟨_,rfl,(fun t ht=>by cases ht),e1⟩
  ·have n0:¬n=-2:=by simpa using h0
   have n1:¬n=-1:=by simpa using h1
   have n2:¬n<0:=by simpa using h2
   have n3:n<(l.length:Int):=by simpa using h3
   clear h0 h1 h2 h3
   obtain ⟨k,rfl⟩:=Int.eq_ofNat_of_zero_le (Int.not_lt.1 n2)
   have hk:k<l.length:=by omega
   have hks:k<s.length:=by omega
   simp only [Int.toNat_natCast,Nat.mul_one,Nat.zero_add]
   have hsk:s[k]?=some s[k]:=List.getElem?_eq_getElem hks
   have hlk:l[k]?=some l[k]:=List.getElem?_eq_getElem hk
   refine ⟨⟨by omega,n3⟩,s[k],lx hsk,fun h4 V5 l5 e1=>?_,fun h4=>?_⟩
   ·have e:iG l (f+1) (k:Int) s=(none,s):=by
     simp only [iG,n0,n1,n2,if_false,Int.toNat_natCast]
     rw [hsk,h4,hlk]
    rw [e]
    exact ⟨_,rfl,(fun t ht=>by cases ht),e1⟩
   obtain ⟨b1,p1,m1,c1,b2,p2,m2,c2,b3,p3,m3,c3,a,ha,a0,a1,a2,a3,a4,a5,a6,a7,hL⟩:=hns.rd hlk
   rw [ha]
   rw [h4] at hsk
   have hset:(dt s).set k (.bool true)=dt (s.set k true):=by simp [dt,List.map_set]
   have hcount:=count_set hsk
   rw [hset]
   refine ⟨⟨by omega,n3⟩,by simp [dt];omega,hns.Ah (by omega),⟨by omega,n3⟩,rfl,b1,p1,m1,c1,b2,p2,m2,c2,b3,p3,m3,c3,a,rfl,a0,a1,a2,a3,a4,a5,fun V6 l6=>(sU (hL.le l6) (hb _ (List.getElem_mem hk))).mono ?_⟩
   rintro r V7 l7 ⟨w,rfl,⟨y1,y2,y3,y4,y5,y6,y7,y8,y9,Of,Og,Oh,rfl⟩,hw'⟩
   have gF:=l6.trans l7
   refine ⟨_,_,_,_,_,_,_,_,_,_,_,_,_,rfl,fun h5 V8 l8 e1=>?_,fun h5=>⟨hns.Ah (by omega),⟨by omega,n3⟩,rfl,l[k].left,⟨_,rfl,gF.at a6⟩,fun V9 l9 bk g1 g2=>?_⟩⟩
   ·have h5:fF l[k].ln=false:=by simpa using h5
    have e:iG l (f+1) (k:Int) s=(none,s.set k true):=by
     simp only [iG,n0,n1,n2,if_false,Int.toNat_natCast]
     rw [hsk,hlk]
     simp [h5]
    rw [e]
    exact ⟨_,rfl,(fun t ht=>by cases ht),e1⟩
   have h5:fF l[k].ln=true:=by simpa using h5
   have DL:=gF.trans l9
   have i1:=ih l[k].left (s.set k true) (V:=V9.aH [bk]) (hns.le DL) g1 ⟨by simp,g2⟩ (by simp [hsl]) (by omega)
   have q1:=nS l f l[k].left (s.set k true)
   rw [List.length_set] at q1
   have e:iG l (f+1) (k:Int) s=match iG l f l[k].left (s.set k true) with
     | (none,s1)=>(none,s1)
     | (some a,s1)=>match iG l f l[k].right s1 with
      | (none,s2)=>(none,s2)
      | (some b,s2)=>(some (.node l[k].ln a b),s2):=by
    simp only [iG,n0,n1,n2,if_false,Int.toNat_natCast]
    rw [hsk,hlk]
    simp only [h5,if_true]
    try rfl
   rw [e]
   clear e
   generalize iG l f l[k].left (s.set k true)=u at *
   obtain ⟨u1,u2⟩:=u
   dsimp only at i1 q1
   refine i1.mono ?_
   rintro r iC l10 ⟨pa,rfl,hpa,e2⟩
   refine ⟨_,_,rfl,_,e2,fun h6 mf cB e3=>?_,fun h6=>⟨hns.Ah (by omega),⟨by omega,n3⟩,rfl,l[k].right,⟨_,rfl,?_⟩,fun mg cX Mg g3 g4=>?_⟩⟩
   ·cases u1 with
    | none=>exact ⟨_,rfl,(fun t ht=>by cases ht),e3⟩
    | some t=>cases h6
   ·have CR:V9.Le iC:=fun b o h=>l10 b o h
    exact (DL.trans CR).at a7
   cases u1 with
   | none=>cases h6
   | some ta=>
    have CR:V9.Le iC:=fun b o h=>l10 b o h
    have A4:iC.Le mg:=fun b o h=>cX b o h
    have i2:=ih l[k].right u2 (V:=mg.aH [Mg]) (hns.le (DL.trans (CR.trans A4))) g3 ⟨by simp,g4⟩ (by omega) (by omega)
    dsimp only
    generalize iG l f l[k].right u2=z at *
    obtain ⟨z1,z2⟩:=z
    dsimp only at i2
    refine i2.mono ?_
    rintro r nW cZ ⟨pb,rfl,hpb,e4⟩
    have DO:mg.Le nW:=fun b o h=>cZ b o h
    refine ⟨_,_,rfl,_,e4,fun mU dL bk2 e5 hbk=>?_⟩
    have A6:nW.Le mU:=fun b o h=>dL b o h
    cases z1 with
    | none=>exact ⟨_,rfl,(fun t ht=>by cases ht),e5⟩
    | some tb=>
     refine ⟨_,rfl,fun t ht=>?_,e5⟩
     cases ht
     exact ⟨bk2,_,_,_,_,_,_,_,_,_,_,_,_,_,_,_,rfl,hbk,(hw' h5).le (l9.trans (CR.trans (A4.trans (DO.trans A6)))),RW.le (A4.trans (DO.trans A6)) (hpa _ rfl),RW.le A6 (hpb _ rfl)⟩
theorem sX {V:View}{l:List Nd}(hb:∀x∈l,Bd x.ln)(root:Int){p:OA}{n c:Nat}(h:NS V p n c l) :
  ab prog 30 #[.agg #[.int .i64 root,.slice p n c]] V fun r V'=>∃q,r=.tuple #[.pointer q,.bool (dz l root).isSome]/\∀t,dz l root=some t->RW V' q t:=by
 have hl:=h.len
 subst hl
 refine q_ root p l.length c V _ ⟨fun h0 V1 l1=>?_,fun h0=>⟨by omega,Int.le_refl _,?_,fun V2 l2 bk g1 g2=>?_⟩⟩
 ·have h0:65536<l.length:=by simp at h0;omega
  have e:dz l root=none:=by unfold dz;rw [if_pos h0]
  rw [e]
  exact ⟨_,rfl,fun t ht=>by cases ht⟩
 ·have h0:¬65536<l.length:=by simp at h0;omega
  omega
 ·have h0:¬65536<l.length:=by simp at h0;omega
  rw [Int.toNat_natCast] at g1 ⊢
  have hr:List.replicate l.length (Value.bool false)=dt (List.replicate l.length false):=by simp [dt]
  rw [hr] at g1
  have i1:=sY hb (by omega) root (l.length+1) root (List.replicate l.length false) (V:=V2.aH [bk]) (h.le l2) g1 ⟨by simp,g2⟩ (by simp) (by simp)
  have q1:=(nS l (l.length+1) root (List.replicate l.length false)).1
  rw [BO (by omega)]
  rw [List.length_replicate] at q1
  generalize iG l (l.length+1) root (List.replicate l.length false)=u at *
  obtain ⟨u1,u2⟩:=u
  dsimp only at i1 q1 ⊢
  refine i1.mono ?_
  rintro r V3 l3 ⟨pa,rfl,hpa,e2⟩
  refine ⟨_,_,rfl,_,e2,fun z _=>∃i:Nat,z.2=(i:Int)/\i<=l.length/\z.1=(u1.isSome&&(u2.take i).all id),fun z=>(l.length-z.2).toNat,⟨(_,0),by and_intros<;>first|rfl|trivial,0,rfl,Nat.zero_le _,by cases u1<;>simp⟩,?_⟩
  rintro ⟨zb,z⟩ V4 l4 ⟨i,e,hi,f1⟩
  dsimp only at e f1 ⊢
  subst e f1
  refine ⟨by trivial,fun hlt=>?_,fun hlt V5 l5=>?_⟩
  ·have hlt:i<l.length:=by have:=of_decide_eq_true hlt;omega
   have w1:i64.wrap ((i:Int)+1)=((i+1:Nat):Int):=by rw [aD (by omega)];rfl
   have hu:u2[i]?=some u2[i]:=List.getElem?_eq_getElem (by omega)
   have et:(u2.take (i+1)).all id=((u2.take i).all id&&u2[i]):=by
    rw [←List.take_append_getElem (show i<u2.length by omega),List.all_append];simp
   rw [w1,Int.toNat_natCast,Nat.mul_one,Nat.zero_add]
   refine ⟨⟨by omega,by omega⟩,u2[i],lx hu,fun k=>⟨(_,((i+1:Nat):Int)),by dsimp only;omega,by and_intros<;>first|rfl|trivial,i+1,rfl,hlt,?_⟩,fun k=>⟨(_,((i+1:Nat):Int)),by dsimp only;omega,by and_intros<;>first|rfl|trivial,i+1,rfl,hlt,?_⟩⟩
   ·rw [et,←Bool.and_assoc,k];rfl
   ·rw [et,←Bool.and_assoc,k];rfl
  ·have hlt:i=l.length:=by have:=of_decide_eq_false hlt;omega
   subst hlt
   rw [List.take_of_length_le (by omega)]
   have M0:V3.Le V5:=fun b o h=>l5 b o (l4 b o h)
   by_cases c:u2.all id=true
   ·rw [if_pos c,c,Bool.and_true]
    exact ⟨_,rfl,fun t ht=>RW.le M0 (hpa t ht)⟩
   ·rw [if_neg c]
    have c:u2.all id=false:=by simpa using c
    rw [c,Bool.and_false]
    exact ⟨_,rfl,fun t ht=>by cases ht⟩
theorem tw {b:Bool}{xs:List Nat}(h:dT b xs=true):b=decide (au b xs<0)/\xs=ag (au b xs).natAbs:=by
 unfold dT at h
 simp only [Bool.and_eq_true,decide_eq_true_eq,Bool.or_eq_true,Bool.not_eq_true'] at h
 obtain ⟨h1,h2⟩:=h
 refine ⟨?_,by rw [cm,h1]⟩
 cases b with
 | false=>simp [au]
 | true=>
  have:xs≠[]:=by simpa using h2
  have:val xs≠0:=fun e=>this (by rw [←h1,e];rfl)
  simp [au]
  omega
structure Fc (V:View) (p:OA) (n:Nat) (l:List Nat):Prop where
 len:n=l.length
 at_:∀(i:Nat)(h:i<l.length),∃ad q e,af p (i*1)=some ad/\V.at ad (.slice q l[i] e)
theorem Fc.le {V V':View}{p:OA}{n:Nat}{l:List Nat}(h:Fc V p n l)(e:V.Le V'):Fc V' p n l:=⟨h.len,fun i hi=>by obtain ⟨ad,q,c,h1,h2⟩:=h.at_ i hi;exact ⟨ad,q,c,h1,e.at h2⟩⟩
theorem Ct {V:View}{p:OA}{n c:Nat}{l:List Nat}(N:Int)(h:Fc V p n l)(hn:l.length<1000000) :
  ab prog 82 #[.int .i64 N,.slice p n c] V fun r V'=>∃b,r=.bool b/\(b=true->∀m∈l,(m:Int)<=N):=by
 obtain rfl:=h.len
 refine qh N p _ c V _ ⟨fun z _=>0<=z/\z<=l.length/\∀i (hi:i<l.length),(i:Int)<z->((l[i]:Nat):Int)<=N,fun z=>(l.length-z).toNat,⟨0,by and_intros<;>rfl,by omega,by omega,fun i hi h=>by omega⟩,?_⟩
 rintro z V1 l1 ⟨z0,z1,z2⟩
 refine ⟨rfl,fun hz=>?_,fun hz V3 l3=>⟨true,rfl,fun _ m hm=>?_⟩⟩
 ·have hz:z<l.length:=of_decide_eq_true hz
  obtain ⟨i,rfl⟩:∃i:Nat,z=i:=⟨z.toNat,by omega⟩
  have hi:i<l.length:=by omega
  rw [Int.toNat_natCast]
  have w:i64.wrap ((i:Int)+1)=(i:Int)+1:=aD (by omega)
  rw [w]
  obtain ⟨ad,q,e,ha,hx⟩:=(h.le l1).at_ i hi
  refine ⟨vf ha,⟨by omega,hz⟩,q,l[i],e,⟨ad,ha,hx⟩,fun hb V2 l2=>⟨false,rfl,(fun h=>nomatch h)⟩,fun hb=>⟨(i:Int)+1,by dsimp only;omega,by and_intros<;>rfl,by omega,by omega,fun j hj hlt=>?_⟩⟩
  have hb:¬((l[i]:Nat):Int)>N:=of_decide_eq_false hb
  by_cases e:j=i
  ·subst e;omega
  ·exact z2 j hj (by omega)
 ·have hz:¬z<l.length:=of_decide_eq_false hz
  obtain ⟨i,hi,rfl⟩:=List.mem_iff_getElem.1 hm
  exact z2 i hi (by omega)
structure D6 (V:View) (p:OA) (n:Nat) (l:List (Nat×Nat)):Prop where
 len:n=l.length
 at_:∀(i:Nat)(h:i<l.length),∃ad b q e q' e',af p (i*3)=some ad/\V.at (ad.add 0) (.bool b)/\V.at (ad.add 1) (.slice q l[i].1 e)/\V.at (ad.add 2) (.slice q' l[i].2 e')
theorem D6.le {V V':View}{p:OA}{n:Nat}{l:List (Nat×Nat)}(h:D6 V p n l)(e:V.Le V'):D6 V' p n l:=⟨h.len,fun i hi=>by obtain ⟨ad,b,q,c,q',c',h1,h2,h3,h4⟩:=h.at_ i hi;exact ⟨ad,b,q,c,q',c',h1,e.at h2,e.at h3,e.at h4⟩⟩
theorem AD {V:View}{bk c:Nat}{b1:Bool}{p1 n1 c1 b2 p2 n2 c2 b3 p3 n3 c3}{ty:TypeId}(N:Int)(h:V.bf bk (.cells #[.bool b1,.slice p1 n1 c1,.bool b2,.slice p2 n2 c2,.bool b3,.slice p3 n3 c3] ty (0,0))) :
  ab prog 29 #[.int .i64 N,.slice (some ⟨bk,0,none⟩) 1 c] V fun r V'=>∃b,r=.bool b/\(b=true->(n1:Int)<=N/\(n2:Int)<=N/\(n3:Int)<=N):=by
 have hat:∀{V1:View},V.Le V1->∀(i:Nat)(x:Value),([Value.bool b1,.slice p1 n1 c1,.bool b2,.slice p2 n2 c2,.bool b3,.slice p3 n3 c3]:List Value)[i]?=some x->V1.at ((⟨bk,0,none⟩:Addr).add i) x:=fun l i x hx=>by rw [add_zero'];exact l.at (bW (xs:=[Value.bool b1,.slice p1 n1 c1,.bool b2,.slice p2 n2 c2,.bool b3,.slice p3 n3 c3]) h hx)
 refine nD N _ 1 c V _ ⟨fun z _=>z=0\/(z=1/\((n1:Int)<=N/\(n2:Int)<=N/\(n3:Int)<=N)),fun z=>(1-z).toNat,⟨0,by and_intros<;>rfl,.inl rfl⟩,?_⟩
 rintro z V1 l1 hz
 refine ⟨rfl,fun hlt=>?_,fun hlt V5 l5=>⟨true,rfl,fun _=>?_⟩⟩
 ·have hlt:z<1:=of_decide_eq_true hlt
  obtain rfl:z=0:=by rcases hz with h|h<;>omega
  have w:i64.wrap ((0:Int)+1)=1:=aD (by omega)
  rw [w]
  refine ⟨rfl,⟨by omega,by omega⟩,_,_,_,_,_,_,_,_,_,_,_,_,(⟨bk,0,none⟩:Addr),by rfl,hat l1 0 _ rfl,hat l1 1 _ rfl,hat l1 2 _ rfl,hat l1 3 _ rfl,hat l1 4 _ rfl,hat l1 5 _ rfl,fun V2 l2 bk2 hb2=>?_⟩
  have hl:Fc V2 (some ⟨bk2,0,none⟩) 3 [n1,n2,n3]:=by
   refine ⟨rfl,fun i hi=>?_⟩
   have hv:=fun x hx=>bW (i:=i) (v:=x) (xs:=[Value.slice p1 n1 c1,.slice p2 n2 c2,.slice p3 n3 c3]) hb2 hx
   have ha:af (some ⟨bk2,0,none⟩) (i*1)=some ⟨bk2,i,none⟩:=by simp [af,add_zero']
   have hi:i=0\/i=1\/i=2:=by have:i<3:=hi;omega
   rcases hi with rfl|rfl|rfl
   ·exact ⟨_,_,_,ha,hv _ rfl⟩
   ·exact ⟨_,_,_,ha,hv _ rfl⟩
   ·exact ⟨_,_,_,ha,hv _ rfl⟩
  refine (Ct N hl (by simp)).mono ?_
  rintro r V3 l3 ⟨b,rfl,hb⟩
  refine ⟨_,rfl,fun J=>⟨fun h V4 l4=>⟨false,rfl,(fun h=>nomatch h)⟩,fun h=>⟨1,by dsimp only;omega,by and_intros<;>rfl,.inr ⟨rfl,?_⟩⟩⟩⟩
  rw [Bool.not_eq_false'] at h
  have:=hb h
  exact ⟨this n1 (by simp),this n2 (by simp),this n3 (by simp)⟩
 ·have hlt:¬z<1:=of_decide_eq_false hlt
  rcases hz with h|h
  ·omega
  ·exact h.2
end Go.Proofs.Tryz
namespace Go.br
theorem uz (a:Addr)(m n:Nat):(a.add m).add n=a.add (m+n):=by
 unfold Addr.add
 by_cases h1:m=0
 ·subst h1;simp
 ·by_cases h2:n=0
  ·subst h2;simp [h1]
  ·rw [if_neg h1,if_neg h2,if_neg (by omega)]
   simp only [Nat.add_assoc]
variable {α:Type} {sz:Nat} {R:View->Value->α->Prop} {V V':View}
structure Row (sz:Nat) (R:View->Value->α->Prop) (V:View) (vs:List Value) (al:List α):Prop where
 at_:∀(i:Nat)(h:i<al.length),∃xs:List Value,xs.length=sz/\R V (.agg xs.toArray) al[i]/\∀j x,xs[j]?=some x->vs[i*sz+j]?=some x
structure wD (sz:Nat) (R:View->Value->α->Prop) (V:View) (p:OA) (n:Nat) (al:List α):Prop where
 len:n=al.length
 at_:∀(i:Nat)(h:i<al.length),∃ad,af p (i*sz)=some ad/\∃xs:List Value,xs.length=sz/\R V (.agg xs.toArray) al[i]/\∀j x,xs[j]?=some x->V.at (ad.add j) x
theorem Row.nil {vs:List Value}:Row sz R V vs []:=⟨fun i h=>absurd h (Nat.not_lt_zero i)⟩
theorem wD.nil {p:OA}:wD sz R V p 0 []:=⟨rfl,fun i h=>absurd h (Nat.not_lt_zero i)⟩
theorem Row.le {vs:List Value}{al:List α}(h:Row sz R V vs al)(m:∀v a,R V v a->R V' v a):Row sz R V' vs al:=
 ⟨fun i hi=>by obtain ⟨xs,h1,h2,h3⟩:=h.at_ i hi;exact ⟨xs,h1,m _ _ h2,h3⟩⟩
theorem wD.le {p:OA}{n:Nat}{al:List α}(h:wD sz R V p n al)(l:V.Le V')(m:∀v a,R V v a->R V' v a):wD sz R V' p n al:=
 ⟨h.len,fun i hi=>by obtain ⟨ad,h0,xs,h1,h2,h3⟩:=h.at_ i hi;exact ⟨ad,h0,xs,h1,m _ _ h2,fun j x hx=>l.at (h3 j x hx)⟩⟩
theorem Row.oR {vs:List Value}{al:List α}(h:Row sz R V vs al)(hs:0<sz):al.length*sz<=vs.length:=by
 by_cases h0:al.length=0
 ·rw [h0];omega
 ·obtain ⟨xs,h1,-,h3⟩:=h.at_ (al.length-1) (by omega)
  have hx:sz-1<xs.length:=by omega
  have:=(List.getElem?_eq_some_iff.1 (h3 (sz-1) _ (List.getElem?_eq_getElem hx))).1
  have e:al.length*sz=(al.length-1)*sz+sz:=by
   obtain ⟨m,hm⟩:∃m,al.length=m+1:=⟨al.length-1,by omega⟩
   rw [hm,Nat.add_sub_cancel,Nat.succ_mul]
  omega
theorem Row.snoc {vs:List Value}{al:List α}(h:Row sz R V vs al){xs sp:List Value}{a:α}(hx:xs.length=sz)(ha:R V (.agg xs.toArray) a)(hs:0<sz) :
  Row sz R V (vs.take (al.length*sz)++xs++sp) (al++[a]):=by
 have hl:=h.oR hs
 have ht:(vs.take (al.length*sz)).length=al.length*sz:=by rw [List.length_take];omega
 refine ⟨fun i hi=>?_⟩
 rw [List.length_append,List.length_singleton] at hi
 by_cases e:i=al.length
 ·subst e
  refine ⟨xs,hx,by rw [List.getElem_append_right (Nat.le_refl _)];simpa using ha,fun j x hj=>?_⟩
  have hj':=(List.getElem?_eq_some_iff.1 hj).1
  rw [List.append_assoc,List.getElem?_append_right (by rw [ht];omega),ht,Nat.add_sub_cancel_left,List.getElem?_append_left hj']
  exact hj
 ·have hi':i<al.length:=by omega
  obtain ⟨ys,y1,y2,y3⟩:=h.at_ i hi'
  refine ⟨ys,y1,by rw [List.getElem_append_left hi'];exact y2,fun j x hj=>?_⟩
  have hj':=(List.getElem?_eq_some_iff.1 hj).1
  have hlt:i*sz+j<al.length*sz:=by
   have:(i+1)*sz<=al.length*sz:=Nat.mul_le_mul_right _ hi'
   rw [Nat.succ_mul] at this
   omega
  rw [List.append_assoc,List.getElem?_append_left (by rw [ht];exact hlt),List.getElem?_take,if_pos hlt]
  exact y3 j x hj
theorem wD.EP {bk:Nat}{ty:TypeId}{m:Nat×Nat}{vs:List Value}{al:List α}(hb:V.bf bk (.cells vs.toArray ty m))(h:Row sz R V vs al):wD sz R V (some ⟨bk,0,none⟩) al.length al:=by
 refine ⟨rfl,fun i hi=>?_⟩
 obtain ⟨xs,h1,h2,h3⟩:=h.at_ i hi
 refine ⟨⟨bk,i*sz,none⟩,by simp [af,add_zero'],xs,h1,h2,fun j x hj=>?_⟩
 have e:(⟨bk,i*sz,none⟩:Addr).add j=⟨bk,i*sz+j,none⟩:=by rw [←add_zero',uz,add_zero']
 rw [e]
 exact bW hb (h3 j x hj)
theorem wD.C1 {bk c:Nat}{ty:TypeId}{m:Nat×Nat}{vs:List Value}{al:List α}(hb:vs≠[]->V.bf bk (.cells vs.toArray ty m))(h:Row sz R V vs al)(hs:0<sz)(hc:al.length<=c):wD sz R V (mA bk c) al.length al:=by
 cases al with
 | nil=>exact wD.nil
 | cons a r=>
  have hne:vs≠[]:=fun e=>by
   have:=h.oR hs
   rw [e,List.length_cons,Nat.succ_mul] at this
   simp at this;omega
  have:mA bk c=some ⟨bk,0,none⟩:=by unfold mA;rw [if_neg];rw [List.length_cons] at hc;omega
  rw [this]
  exact wD.EP (hb hne) h
end Go.br
